/- What the functions compute that MatchCrossingSpec reaches, and that their calls refine it (part 3 of 5). -/
import Derived.Test.YthdhdobclejckaaGreatW19Cr2
set_option linter.unusedVariables false
set_option linter.unusedSimpArgs false
set_option maxRecDepth 100000
set_option maxHeartbeats 4000000
namespace Go.Sw
open List(map)
open Int(toNat)
open Go.IntKind(i64 u64 u8)
open Go.Proofs Tryz
def F_ls(n:Nat)(h:Int)(N:Uf)(O:Course)(P:Int)(w:List Hit)(j:Course)(k:Clocks)(l:List Int)(m:List Span)(p:List Hit)(q:List Ud)(r:Int)(s:List (Int×Ud))(t:Course)(u:Clocks)(rec154:Int->Uf->Bool->Int->(List Way)->Course->Int->(List Int)->(List Hit)->(List Bool)->Course->Clocks->(List Int)->(List Span)->(List Hit)->(List Ud)->Int->(List (Int×Int))->(List (Int×Int))->(List (Int×Ud))->Course->Clocks->Option ((List Way)×(List Int)×(List (Int×Int))×(List Bool)×(List (Int×Int))))(g:Int)(a:(List Way)×(List Int)×(List (Int×Int))×(List Bool)×(List (Int×Int))×Int):Option (Ctl ((List Way)×(List Int)×(List (Int×Int))×(List Bool)×(List (Int×Int))×Int) ((List Way)×(List Int)×(List (Int×Int))×(List Bool)×(List (Int×Int)))):=(bif decide (a.2.2.2.2.2<(w.length:Int))then((idx w a.2.2.2.2.2).bind λx=>((idx a.2.2.2.1 a.2.2.2.2.2).bind λy=>(bif y then some true else some (x.Mat != g)):Option Bool).bind λz=>(bif z then some (a.1,a.2.1,a.2.2.1,a.2.2.2.1,a.2.2.2.2.1)else(F_as n N h a.2.2.2.2.2 j k l m p q r s t u).bind λi=>((bif i.2 then(idx a.2.2.2.1 a.2.2.2.2.2).bind λQ=>(Qc9 a.2.2.2.1 a.2.2.2.2.2 true).bind λB=>(idx a.2.1 h).bind λR=>(Qc9 a.2.1 h a.2.2.2.2.2).bind λE=>(some (QB a.2.2.2.2.1 g 0)).bind λF=>(some (Q3 a.2.2.2.2.1 g (i64.wrap (F-1)))).bind λG=>(rec154 (i64.wrap (h+1)) i.1 false h a.1 O P E w B j k l m p q r a.2.2.1 G s t u).bind λd=>(some (QB d.2.2.2.2 g 0)).bind λH=>(some (Q3 d.2.2.2.2 g (i64.wrap (H+1)))).bind λJ=>(idx d.2.2.2.1 a.2.2.2.2.2).bind λT=>(Qc9 d.2.2.2.1 a.2.2.2.2.2 false).bind λL=>(idx d.2.1 h).bind λV=>(Qc9 d.2.1 h (-1)).bind λM=>some (d.1,M,d.2.2.1,L,J)else some (a.1,a.2.1,a.2.2.1,a.2.2.2.1,a.2.2.2.2.1)):Option ((List Way)×(List Int)×(List (Int×Int))×(List Bool)×(List (Int×Int)))).bind λe=>some (e.1,e.2.1,e.2.2.1,e.2.2.2.1,e.2.2.2.2)):Option ((List Way)×(List Int)×(List (Int×Int))×(List Bool)×(List (Int×Int)))).bind λf=>some (.cont (f.1,f.2.1,f.2.2.1,f.2.2.2.1,f.2.2.2.2,i64.wrap (a.2.2.2.2.2+1)))else some (.done (a.1,a.2.1,a.2.2.1,a.2.2.2.1,a.2.2.2.2.1)))
def B_bw(rec154:Int->Uf->Bool->Int->(List Way)->Course->Int->(List Int)->(List Hit)->(List Bool)->Course->Clocks->(List Int)->(List Span)->(List Hit)->(List Ud)->Int->(List (Int×Int))->(List (Int×Int))->(List (Int×Ud))->Course->Clocks->Option ((List Way)×(List Int)×(List (Int×Int))×(List Bool)×(List (Int×Int))))(n:Nat)(k:Int)(L:Uf)(R:Bool)(M:Int)(r:List Way)(H:Course)(J:Int)(E:List Int)(N:List Hit)(l:List Bool)(s:Course)(t:Clocks)(m:List Int)(u:List Span)(w:List Hit)(x:List Ud)(i:Int)(p:List (Int×Int))(j:List (Int×Int))(y:List (Int×Ud))(z:Course)(B:Clocks):Option ((List Way)×(List Int)×(List (Int×Int))×(List Bool)×(List (Int×Int))):=((bif decide (64<(r.length:Int))then some true else(F_ip n j p).bind λY=>some (decide (H.Faults.Strays<Y))):Option Bool).bind λb3=>(bif b3 then some (r,E,p,l,j)else(bif (k==J)then((bif decide (i<=M)then(F_je n E).bind λT=>(app r [{Hits:=T,Last:=M:Way}]).bind λV=>some V else some r):Option (List Way)).bind λW=>some (W,E,p,l,j)else(idx m k).bind λq=>(some (QB p q 0)).bind λX=>(some (Q3 p q (i64.wrap (X-1)))).bind λF=>((bif (!R)then(F_as n L k (-1) s t m u w x i y z B).bind λG=>((bif G.2 then(rec154 (i64.wrap (k+1)) G.1 false k r H J E N l s t m u w x i F j y z B).bind λe=>some (e.1,e.2.1,e.2.2.1,e.2.2.2.1,e.2.2.2.2)else some (r,E,F,l,j)):Option ((List Way)×(List Int)×(List (Int×Int))×(List Bool)×(List (Int×Int)))).bind λf=>(iter (F_ls n k L H J N s t m u w x i y z B rec154 q) n (f.1,f.2.1,f.2.2.1,f.2.2.2.1,f.2.2.2.2,0):Option ((List Way)×(List Int)×(List (Int×Int))×(List Bool)×(List (Int×Int)))).bind λg=>some (g.1,g.2.1,g.2.2.1,g.2.2.2.1,g.2.2.2.2)else some (r,E,F,l,j)):Option ((List Way)×(List Int)×(List (Int×Int))×(List Bool)×(List (Int×Int)))).bind λa=>((bif R then some true else some (decide (i<k))):Option Bool).bind λO=>((bif O then(rec154 (i64.wrap (k+1)) L true M a.1 H J a.2.1 N a.2.2.2.1 s t m u w x i a.2.2.1 a.2.2.2.2 y z B).bind λh=>some (h.1,h.2.1,h.2.2.1,h.2.2.2.1,h.2.2.2.2)else some (a.1,a.2.1,a.2.2.1,a.2.2.2.1,a.2.2.2.2)):Option ((List Way)×(List Int)×(List (Int×Int))×(List Bool)×(List (Int×Int)))).bind λd=>(some (QB d.2.2.1 q 0)).bind λP=>(some (Q3 d.2.2.1 q (i64.wrap (P+1)))).bind λQ=>some (d.1,d.2.1,Q,d.2.2.2.1,d.2.2.2.2)))
theorem QbK(rec154:Int->Uf->Bool->Int->(List Way)->Course->Int->(List Int)->(List Hit)->(List Bool)->Course->Clocks->(List Int)->(List Span)->(List Hit)->(List Ud)->Int->(List (Int×Int))->(List (Int×Int))->(List (Int×Ud))->Course->Clocks->Option ((List Way)×(List Int)×(List (Int×Int))×(List Bool)×(List (Int×Int))))(ai:∀(a1:Int) (a2:Uf) (a3:Bool) (a4:Int) (W:List Way) (a6:Course) (a7:Int) (X:List Int) (a9:List Hit) (q:List Bool) (u:Course) (w:Clocks) (y:List Int) (z:List Span) (B:List Hit) (E:List Ud) (F:Int) (Y:List (Int×Int)) (ad:List (Int×Int)) (G:List (Int×Ud)) (J:Course) (L:Clocks) (r:(List Way)×(List Int)×(List (Int×Int))×(List Bool)×(List (Int×Int))),rec154 a1 a2 a3 a4 W a6 a7 X a9 q u w y z B E F Y ad G J L=some r->C prog 38 [I a1,.agg (Uf.c a2),.bool a3,I a4,.ptr 0 0,.ptr 1 0,.ptr 2 0,.ptr 3 0,.ptr 4 0,.ptr 5 0,.ptr 6 0,.ptr 7 0,.ptr 8 0,.ptr 9 0,.ptr 10 0] [.cells 72 [.osl 11 0 W.length 2],.cells 123 [.fn (.func 36) [] [.ptr 10 0,.ptr 6 0]],.cells 33 (Course.c a6),.cells 3 [I a7],.cells 84 [.ptr 12 0],.cells 44 [.osl 13 0 X.length 1],.cells 122 [.map 14],.cells 126 [.fn (.func 38) [] [.ptr 0 0,.ptr 1 0,.ptr 2 0,.ptr 3 0,.ptr 4 0,.ptr 5 0,.ptr 6 0,.ptr 7 0,.ptr 8 0,.ptr 9 0,.ptr 10 0]],.cells 40 [.rsl 5 (map Hit.c a9)],.cells 125 [.osl 15 0 q.length 1],.cells 122 [.map 16],.row 46 2 (map Way.c W),.cells 121 (match_task.tc u w y z B E (.map 17) (.fn (.func 72) [] [.ptr 18 0,.ptr 19 0,.ptr 20 0]) F),.row 3 1 (map (Qe .i64) X),.map (Qj (λx=>A.int .i64 x) (λx=>A.int .i64 x) Y),.row 4 1 (map Y4 q),.map (Qj (λx=>A.int .i64 x) (λx=>A.int .i64 x) ad),.map (Qj (λx=>A.int .i64 x) (λx=>A.agg (Ud.c x)) G),.cells 84 [.ptr 12 0],.cells 33 (Course.c J),.cells 37 (Clocks.c L)] (RQ (λ_=>.tup []) (λr=>[.cells 72 [.osl 21 0 r.1.length 2],.cells 123 [.fn (.func 36) [] [.ptr 10 0,.ptr 6 0]],.cells 33 (Course.c a6),.cells 3 [I a7],.cells 84 [.ptr 12 0],.cells 44 [.osl 13 0 r.2.1.length 1],.cells 122 [.map 14],.cells 126 [.fn (.func 38) [] [.ptr 0 0,.ptr 1 0,.ptr 2 0,.ptr 3 0,.ptr 4 0,.ptr 5 0,.ptr 6 0,.ptr 7 0,.ptr 8 0,.ptr 9 0,.ptr 10 0]],.cells 40 [.rsl 5 (map Hit.c a9)],.cells 125 [.osl 15 0 r.2.2.2.1.length 1],.cells 122 [.map 16],.dead,.cells 121 (match_task.tc u w y z B E (.map 17) (.fn (.func 72) [] [.ptr 18 0,.ptr 19 0,.ptr 20 0]) F),.row 3 1 (map (Qe .i64) r.2.1),.map (Qj (λx=>A.int .i64 x) (λx=>A.int .i64 x) r.2.2.1),.row 4 1 (map Y4 r.2.2.2.1),.map (Qj (λx=>A.int .i64 x) (λx=>A.int .i64 x) r.2.2.2.2),.map (Qj (λx=>A.int .i64 x) (λx=>A.agg (Ud.c x)) G),.cells 84 [.ptr 12 0],.cells 33 (Course.c J),.cells 37 (Clocks.c L),.row 46 2 (map Way.c r.1)]) r))(n:Nat)(a1:Int)(a2:Uf)(a3:Bool)(a4:Int)(W:List Way)(a6:Course)(a7:Int)(X:List Int)(a9:List Hit)(q:List Bool)(u:Course)(w:Clocks)(y:List Int)(z:List Span)(B:List Hit)(E:List Ud)(F:Int)(Y:List (Int×Int))(ad:List (Int×Int))(G:List (Int×Ud))(J:Course)(L:Clocks)(r:(List Way)×(List Int)×(List (Int×Int))×(List Bool)×(List (Int×Int)))(h:B_bw rec154 n a1 a2 a3 a4 W a6 a7 X a9 q u w y z B E F Y ad G J L=some r):C prog 38 [I a1,.agg (Uf.c a2),.bool a3,I a4,.ptr 0 0,.ptr 1 0,.ptr 2 0,.ptr 3 0,.ptr 4 0,.ptr 5 0,.ptr 6 0,.ptr 7 0,.ptr 8 0,.ptr 9 0,.ptr 10 0] [.cells 72 [.osl 11 0 W.length 2],.cells 123 [.fn (.func 36) [] [.ptr 10 0,.ptr 6 0]],.cells 33 (Course.c a6),.cells 3 [I a7],.cells 84 [.ptr 12 0],.cells 44 [.osl 13 0 X.length 1],.cells 122 [.map 14],.cells 126 [.fn (.func 38) [] [.ptr 0 0,.ptr 1 0,.ptr 2 0,.ptr 3 0,.ptr 4 0,.ptr 5 0,.ptr 6 0,.ptr 7 0,.ptr 8 0,.ptr 9 0,.ptr 10 0]],.cells 40 [.rsl 5 (map Hit.c a9)],.cells 125 [.osl 15 0 q.length 1],.cells 122 [.map 16],.row 46 2 (map Way.c W),.cells 121 (match_task.tc u w y z B E (.map 17) (.fn (.func 72) [] [.ptr 18 0,.ptr 19 0,.ptr 20 0]) F),.row 3 1 (map (Qe .i64) X),.map (Qj (λx=>A.int .i64 x) (λx=>A.int .i64 x) Y),.row 4 1 (map Y4 q),.map (Qj (λx=>A.int .i64 x) (λx=>A.int .i64 x) ad),.map (Qj (λx=>A.int .i64 x) (λx=>A.agg (Ud.c x)) G),.cells 84 [.ptr 12 0],.cells 33 (Course.c J),.cells 37 (Clocks.c L)] (RQ (λ_=>.tup []) (λr=>[.cells 72 [.osl 21 0 r.1.length 2],.cells 123 [.fn (.func 36) [] [.ptr 10 0,.ptr 6 0]],.cells 33 (Course.c a6),.cells 3 [I a7],.cells 84 [.ptr 12 0],.cells 44 [.osl 13 0 r.2.1.length 1],.cells 122 [.map 14],.cells 126 [.fn (.func 38) [] [.ptr 0 0,.ptr 1 0,.ptr 2 0,.ptr 3 0,.ptr 4 0,.ptr 5 0,.ptr 6 0,.ptr 7 0,.ptr 8 0,.ptr 9 0,.ptr 10 0]],.cells 40 [.rsl 5 (map Hit.c a9)],.cells 125 [.osl 15 0 r.2.2.2.1.length 1],.cells 122 [.map 16],.dead,.cells 121 (match_task.tc u w y z B E (.map 17) (.fn (.func 72) [] [.ptr 18 0,.ptr 19 0,.ptr 20 0]) F),.row 3 1 (map (Qe .i64) r.2.1),.map (Qj (λx=>A.int .i64 x) (λx=>A.int .i64 x) r.2.2.1),.row 4 1 (map Y4 r.2.2.2.1),.map (Qj (λx=>A.int .i64 x) (λx=>A.int .i64 x) r.2.2.2.2),.map (Qj (λx=>A.int .i64 x) (λx=>A.agg (Ud.c x)) G),.cells 84 [.ptr 12 0],.cells 33 (Course.c J),.cells 37 (Clocks.c L),.row 46 2 (map Way.c r.1)]) r):=by
 refine Qip func38 Z Z Z Z ?_;refine TCs.seq ?_;refine G0 3 Z (sqN ?_);refine TCs.seq ?_;refine G0 1 Z (Bd h λb3 h4 h=>Ct b3 [0,1,2,3,4,5,6,7,8,9,10,11,12,13,14,15,16,17,18,19,20,21] [0,2,3,4,7,8,9,10,11,12,13,14,16] (λb3=>[(36,.bool b3)]) Ze Zf ?_ (λenv H g=>?_))
 .refine G0 0 Z (DSs 9 Z (D 4 Z (DS.is 3 h4 Z Z Z (λch h4=>?_) (λch h4=>?_))))
  .exact D 5 Z (Eh Z (Gl 3 Z h4 [0,1,2,3,4,5,6,7,8,9,10,11,12,13,14,15,16,17,18,19,20,21]))
  .refine D 1 Z ?_;obtain⟨r6,ci,h4⟩:=Yh h4;refine DS.wo (x:=I r6) ?_ ?_
   .exact Pc [10,6,16,14] Z (Qgp call36 Z Z Z Z) (QnT (QfK.cons (.kc _ _ Z) (QfK.cons (.kc _ _ Z) (QfK.cons (.mp _) (QfK.cons (.mp _) QfK.nil)))) (k_ip _ _ _ _ ci) Z) (hg:=(gT Z)) Z Wp
   exact D 3 Z (Eh Z (Gl 3 Z h4 [0,1,2,3,4,5,6,7,8,9,10,11,12,13,14,15,16,17,18,19,20,21]))
 refine Gx 1 Z (Ef g (Cn Z h (λcj h=>?_) (λcj h=>?_)))
 .refine Gc 1 Z (sqR ?_);obtain rfl:=Oi h;refine⟨[],_,_,?_,QbW.nil Z,Z,Z⟩;refine Eo (Qbi (i:=11) (j:=0) (m:=0) Z Z Z Z Z) ?_;exact Lr [0,1,2,3,4,5,6,7,8,9,10,11,12,13,14,15,16,17,18,19,20,22]
 refine Gc 1 Z (sqN ?_);refine TCs.seq ?_;refine G0 7 Z (Cn Z h (λck h=>?_) (λck h=>?_))
 .refine Gc 11 Z (Bd h λaw ah h=>Ct aw [0,1,2,3,4,5,6,7,8,9,10,11,12,13,14,15,16,17,18,19,20,0] [] Ze (λaw=>[(0,.cells 72 [.osl 21 0 aw.length 2]),(11,.dead),(21,.row 46 2 (map Way.c aw))]) Zf ?_ (λenv H g=>?_))
  .refine G0 0 Z (Cn Z ah (λbz ah=>?_) (λbz ah=>?_))
   .obtain⟨am,ca,ah⟩:=Yh ah;refine QY 6 0 [46,47,48,49,50,51] [false,false,true,false,false,false] [[],[],[],[],[2],[2]] [[],[2]] [[(0,0),(1,1)],[(0,0)],[(0,1)],[(0,0),(1,1)],[(1,1)],[(1,1)]] [.osl 11 0 W.length 2,.osl 13 0 X.length 1,.rsl 1 (map (Qe .i64) am),I a4,.agg [.rsl 1 (map (Qe .i64) am),I a4],.rsl 2 (map Way.c [{Hits:=am,Last:=a4:Way}])] [[.cells 72 [.osl 11 0 W.length 2],.cells 123 [.fn (.func 36) [] [.ptr 10 0,.ptr 6 0]],.cells 33 (Course.c a6),.cells 3 [I a7],.cells 84 [.ptr 12 0],.cells 44 [.osl 13 0 X.length 1],.cells 122 [.map 14],.cells 126 [.fn (.func 38) [] [.ptr 0 0,.ptr 1 0,.ptr 2 0,.ptr 3 0,.ptr 4 0,.ptr 5 0,.ptr 6 0,.ptr 7 0,.ptr 8 0,.ptr 9 0,.ptr 10 0]],.cells 40 [.rsl 5 (map Hit.c a9)],.cells 125 [.osl 15 0 q.length 1],.cells 122 [.map 16],.row 46 2 (map Way.c W),.cells 121 (match_task.tc u w y z B E (.map 17) (.fn (.func 72) [] [.ptr 18 0,.ptr 19 0,.ptr 20 0]) F),.row 3 1 (map (Qe .i64) X),.map (Qj (λx=>A.int .i64 x) (λx=>A.int .i64 x) Y),.row 4 1 (map Y4 q),.map (Qj (λx=>A.int .i64 x) (λx=>A.int .i64 x) ad),.map (Qj (λx=>A.int .i64 x) (λx=>A.agg (Ud.c x)) G),.cells 84 [.ptr 12 0],.cells 33 (Course.c J),.cells 37 (Clocks.c L),.cells 128 (Uf.c a2)],[.cells 72 [.osl 11 0 W.length 2],.cells 123 [.fn (.func 36) [] [.ptr 10 0,.ptr 6 0]],.cells 33 (Course.c a6),.cells 3 [I a7],.cells 84 [.ptr 12 0],.cells 44 [.osl 13 0 X.length 1],.cells 122 [.map 14],.cells 126 [.fn (.func 38) [] [.ptr 0 0,.ptr 1 0,.ptr 2 0,.ptr 3 0,.ptr 4 0,.ptr 5 0,.ptr 6 0,.ptr 7 0,.ptr 8 0,.ptr 9 0,.ptr 10 0]],.cells 40 [.rsl 5 (map Hit.c a9)],.cells 125 [.osl 15 0 q.length 1],.cells 122 [.map 16],.row 46 2 (map Way.c W),.cells 121 (match_task.tc u w y z B E (.map 17) (.fn (.func 72) [] [.ptr 18 0,.ptr 19 0,.ptr 20 0]) F),.row 3 1 (map (Qe .i64) X),.map (Qj (λx=>A.int .i64 x) (λx=>A.int .i64 x) Y),.row 4 1 (map Y4 q),.map (Qj (λx=>A.int .i64 x) (λx=>A.int .i64 x) ad),.map (Qj (λx=>A.int .i64 x) (λx=>A.agg (Ud.c x)) G),.cells 84 [.ptr 12 0],.cells 33 (Course.c J),.cells 37 (Clocks.c L),.cells 128 (Uf.c a2),.dead]] ([.cells 72 [.osl 11 0 W.length 2],.cells 123 [.fn (.func 36) [] [.ptr 10 0,.ptr 6 0]],.cells 33 (Course.c a6),.cells 3 [I a7],.cells 84 [.ptr 12 0],.cells 44 [.osl 13 0 X.length 1],.cells 122 [.map 14],.cells 126 [.fn (.func 38) [] [.ptr 0 0,.ptr 1 0,.ptr 2 0,.ptr 3 0,.ptr 4 0,.ptr 5 0,.ptr 6 0,.ptr 7 0,.ptr 8 0,.ptr 9 0,.ptr 10 0]],.cells 40 [.rsl 5 (map Hit.c a9)],.cells 125 [.osl 15 0 q.length 1],.cells 122 [.map 16],.row 46 2 (map Way.c W),.cells 121 (match_task.tc u w y z B E (.map 17) (.fn (.func 72) [] [.ptr 18 0,.ptr 19 0,.ptr 20 0]) F),.row 3 1 (map (Qe .i64) X),.map (Qj (λx=>A.int .i64 x) (λx=>A.int .i64 x) Y),.row 4 1 (map Y4 q),.map (Qj (λx=>A.int .i64 x) (λx=>A.int .i64 x) ad),.map (Qj (λx=>A.int .i64 x) (λx=>A.agg (Ud.c x)) G),.cells 84 [.ptr 12 0],.cells 33 (Course.c J),.cells 37 (Clocks.c L),.cells 128 (Uf.c a2),.dead]) draws Z Z Z Z Z Z Z ?_ Z ?_
    .refine Qgr.cons (Qb (v0 Z Z) (Qb (v0 Z Z) (Qc))) (Qgr.cons (Qb (v0 Z Z) (Qc)) (Qgr.cons ?_ (Qgr.cons (Qb (v0 Z Z) (Qb (v0 Z Z) (Qc))) (Qgr.cons (Qb (v0 Z Z) (Qc)) (Qgr.cons ?_ (Qgr.nil))))))
     .refine Qb ?_ (Qc)
      .refine Om1 Z (sD 1 sN) ?_;refine Qy [13] (OpC.fn call39 Z Z Z) (k_je _ _ _ ca) ?_;rintro _ _ ⟨rfl,rfl⟩;refine QbU (x:=(.osl 22 0 am.length 1)) (H:=[.cells 72 [.osl 11 0 W.length 2],.cells 123 [.fn (.func 36) [] [.ptr 10 0,.ptr 6 0]],.cells 33 (Course.c a6),.cells 3 [I a7],.cells 84 [.ptr 12 0],.cells 44 [.osl 13 0 X.length 1],.cells 122 [.map 14],.cells 126 [.fn (.func 38) [] [.ptr 0 0,.ptr 1 0,.ptr 2 0,.ptr 3 0,.ptr 4 0,.ptr 5 0,.ptr 6 0,.ptr 7 0,.ptr 8 0,.ptr 9 0,.ptr 10 0]],.cells 40 [.rsl 5 (map Hit.c a9)],.cells 125 [.osl 15 0 q.length 1],.cells 122 [.map 16],.row 46 2 (map Way.c W),.cells 121 (match_task.tc u w y z B E (.map 17) (.fn (.func 72) [] [.ptr 18 0,.ptr 19 0,.ptr 20 0]) F),.row 3 1 (map (Qe .i64) X),.map (Qj (λx=>A.int .i64 x) (λx=>A.int .i64 x) Y),.row 4 1 (map Y4 q),.map (Qj (λx=>A.int .i64 x) (λx=>A.int .i64 x) ad),.map (Qj (λx=>A.int .i64 x) (λx=>A.agg (Ud.c x)) G),.cells 84 [.ptr 12 0],.cells 33 (Course.c J),.cells 37 (Clocks.c L),.cells 128 (Uf.c a2),.row 3 1 (map (Qe .i64) am)]) Z (by simp only[QX,Vj,Vk,List.set_cons_succ,List.set_cons_zero,VJ,Vh];rfl) ?_;refine Eu (YF [(48,_)] Z Z (QlR.cons Z Er QlR.nil) (Ec (Ec (Ec (Ec (Ec (Ec (Ec (Ec (Ec (Ec (Ec (Ec (Ec (Ec (Ec (Ec (Ec (Ec (Ec (Ec (Ec (Ec (Ec (Q2 _))))))))))))))))))))))))) ?_;refine Eu Qij ?_;exact Wp
     .refine Qb ?_ (Qc)
      .refine Om Z (sD 4 sN) ?_;refine vH (YY (xs:=[.tmp 50]) (es:=map Way.c [{Hits:=am,Last:=a4:Way}]) QiS Z Z Z Z Z ⟨Z,trivial⟩ Z Z) ?_;exact FE Z Wp
    refine Bd ah λde cb ah=>vH (QR (e:=Way.c) cb QiS Ge Qie) ?_;exact FE Z (Gl 2 Z ah [0,1,2,3,4,5,6,7,8,9,10,11,12,13,14,15,16,17,18,19,20,23])
   refine Gc 1 Z ?_;cases ah;refine QbQ ?_;refine Eo (Qbi (i:=11) (j:=0) (m:=0) Z Z Z Z Z) ?_;exact Lr [0,1,2,3,4,5,6,7,8,9,10,11,12,13,14,15,16,17,18,19,20,22]
  refine Gx 1 Z (Ef g (Gc 1 Z (sqR ?_)));obtain rfl:=Oi h;exact Rx [0,1,2,3,4,5,6,7,8,9,10,11,12,13,14,15,16,17,18,19,20,21] [] Z (QbW.nil Z) ⟨Z,Z⟩
 refine Gc 1 Z (sqN ?_);refine TCs.seq ?_;refine G0 6 Z (Bd h λV cc h=>Iz cc Z (Go 4 Z (sqN ?_)));refine TCs.seq ?_;refine G0 3 Z (Bd h λbx cd h=>?_);refine vX (I bx) (Ye (ev:=(λx=>A.int .i64 x)) (z0:=0) (k:=V) (l:=Y) YR cd EH EN Ep) ?_;refine Go 1 Z (Bd h λcl ce h=>?_);refine vU (Q8 (ev:=(λx=>A.int .i64 x)) (k:=V) (v:=(i64.wrap (bx-1))) (l:=Y) YR ce Z EH) ?_;refine Fg 1 Z Z (sqN ?_);refine TCs.defer (caps:=[.ptr 6 0,.ptr 22 0]) (OpV.makeFunc (first:=[]) (cap:=[.tmp 10,.tmp 19]) Z Z Z) (XR Z) Z ?_;refine G0 7 Z (Bd h λN M h=>Ct N [0,1,2,3,4,5,6,7,8,9,10,11,12,13,14,15,16,17,18,19,20,21,22,0] [0,2,3,8,11,16] Ze (λN=>[(0,.cells 72 [.osl 23 0 N.1.length 2]),(5,.cells 44 [.osl 13 0 N.2.1.length 1]),(9,.cells 125 [.osl 15 0 N.2.2.2.1.length 1]),(11,.dead),(13,.row 3 1 (map (Qe .i64) N.2.1)),(14,.map (Qj (λx=>A.int .i64 x) (λx=>A.int .i64 x) N.2.2.1)),(15,.row 4 1 (map Y4 N.2.2.2.1)),(16,.map (Qj (λx=>A.int .i64 x) (λx=>A.int .i64 x) N.2.2.2.2)),(23,.row 46 2 (map Way.c N.1))]) Zf ?_ (λenv H g=>?_))
 .refine G0 0 Z (Cn Z M (λbg M=>?_) (λbg M=>?_))
  .refine Gc 6 Z (Cd [12,17,18,19,20] M (k_as _ _ _ _ _ _ _ _ _ _ _ _ _ _) Z λaj cm M=>?_);refine QbU (x:=(.tup [.agg (Uf.c aj.1),.bool aj.2])) (H:=[.cells 72 [.osl 11 0 W.length 2],.cells 123 [.fn (.func 36) [] [.ptr 10 0,.ptr 6 0]],.cells 33 (Course.c a6),.cells 3 [I a7],.cells 84 [.ptr 12 0],.cells 44 [.osl 13 0 X.length 1],.cells 122 [.map 14],.cells 126 [.fn (.func 38) [] [.ptr 0 0,.ptr 1 0,.ptr 2 0,.ptr 3 0,.ptr 4 0,.ptr 5 0,.ptr 6 0,.ptr 7 0,.ptr 8 0,.ptr 9 0,.ptr 10 0]],.cells 40 [.rsl 5 (map Hit.c a9)],.cells 125 [.osl 15 0 q.length 1],.cells 122 [.map 16],.row 46 2 (map Way.c W),.cells 121 (match_task.tc u w y z B E (.map 17) (.fn (.func 72) [] [.ptr 18 0,.ptr 19 0,.ptr 20 0]) F),.row 3 1 (map (Qe .i64) X),.map (Qj (λx=>A.int .i64 x) (λx=>A.int .i64 x) cl),.row 4 1 (map Y4 q),.map (Qj (λx=>A.int .i64 x) (λx=>A.int .i64 x) ad),.map (Qj (λx=>A.int .i64 x) (λx=>A.agg (Ud.c x)) G),.cells 84 [.ptr 12 0],.cells 33 (Course.c J),.cells 37 (Clocks.c L),.cells 128 (Uf.c a2),.cells 3 [I V],.cells 128 (Uf.c aj.1)]) Z (by simp only[QX,Vj,Vk,List.set_cons_succ,List.set_cons_zero,VJ,Vh];rfl) ?_;refine Go 13 Z (Bd M λO ae M=>Ct O [0,1,2,3,4,5,6,7,8,9,10,11,12,13,14,15,16,17,18,19,20,21,22,0] [0,2,3,8,9,11,12,13,14,16,19] Ze (λO=>[(0,.cells 72 [.osl 23 0 O.1.length 2]),(5,.cells 44 [.osl 13 0 O.2.1.length 1]),(9,.cells 125 [.osl 15 0 O.2.2.2.1.length 1]),(11,.dead),(13,.row 3 1 (map (Qe .i64) O.2.1)),(14,.map (Qj (λx=>A.int .i64 x) (λx=>A.int .i64 x) O.2.2.1)),(15,.row 4 1 (map Y4 O.2.2.2.1)),(16,.map (Qj (λx=>A.int .i64 x) (λx=>A.int .i64 x) O.2.2.2.2)),(23,.row 46 2 (map Way.c O.1))]) Zf ?_ (λenv H g=>?_))
   .refine G0 0 Z (Cn Z ae (λbh ae=>?_) (λbh ae=>?_))
    .refine Gc 6 Z (Cd [0,1,2,3,4,5,6,7,8,9,10,11,12,13,14,15,16,17,18,19,20] ae (ai _ _ _ _ _ _ _ _ _ _ _ _ _ _ _ _ _ _ _ _ _ _) Z λaa cn ae=>?_);refine QbU (x:=(.tup [])) (H:=[.cells 72 [.osl 25 0 aa.1.length 2],.cells 123 [.fn (.func 36) [] [.ptr 10 0,.ptr 6 0]],.cells 33 (Course.c a6),.cells 3 [I a7],.cells 84 [.ptr 12 0],.cells 44 [.osl 13 0 aa.2.1.length 1],.cells 122 [.map 14],.cells 126 [.fn (.func 38) [] [.ptr 0 0,.ptr 1 0,.ptr 2 0,.ptr 3 0,.ptr 4 0,.ptr 5 0,.ptr 6 0,.ptr 7 0,.ptr 8 0,.ptr 9 0,.ptr 10 0]],.cells 40 [.rsl 5 (map Hit.c a9)],.cells 125 [.osl 15 0 aa.2.2.2.1.length 1],.cells 122 [.map 16],.dead,.cells 121 (match_task.tc u w y z B E (.map 17) (.fn (.func 72) [] [.ptr 18 0,.ptr 19 0,.ptr 20 0]) F),.row 3 1 (map (Qe .i64) aa.2.1),.map (Qj (λx=>A.int .i64 x) (λx=>A.int .i64 x) aa.2.2.1),.row 4 1 (map Y4 aa.2.2.2.1),.map (Qj (λx=>A.int .i64 x) (λx=>A.int .i64 x) aa.2.2.2.2),.map (Qj (λx=>A.int .i64 x) (λx=>A.agg (Ud.c x)) G),.cells 84 [.ptr 12 0],.cells 33 (Course.c J),.cells 37 (Clocks.c L),.cells 128 (Uf.c a2),.cells 3 [I V],.cells 128 (Uf.c aj.1),.cells 128 (Uf.c aj.1),.row 46 2 (map Way.c aa.1)]) Z (by simp only[QX,Vj,Vk,List.set_cons_succ,List.set_cons_zero,VJ,Vh];rfl) ?_;exact Gl 1 Z ae [0,1,2,3,4,5,6,7,8,9,10,11,12,13,14,15,16,17,18,19,20,21,22,25]
    refine Gc 1 Z ?_;cases ae;refine QbQ ?_;refine Eo (Qbi (i:=11) (j:=0) (m:=0) Z Z Z Z Z) ?_;exact Lr [0,1,2,3,4,5,6,7,8,9,10,11,12,13,14,15,16,17,18,19,20,21,22,25]
   refine Gx 1 Z (Ef g (Gc 3 Z (Lg 3 Z Z (Bd M λP cf M=>Ct P [0,1,2,3,4,5,6,7,8,9,10,11,12,13,14,15,16,17,18,19,20,21,22,23] [0,2,3,8,11,16] Ze (λP=>[(0,.cells 72 [.osl 23 0 P.1.length 2]),(5,.cells 44 [.osl 13 0 P.2.1.length 1]),(9,.cells 125 [.osl 15 0 P.2.2.2.1.length 1]),(13,.row 3 1 (map (Qe .i64) P.2.1)),(14,.map (Qj (λx=>A.int .i64 x) (λx=>A.int .i64 x) P.2.2.1)),(15,.row 4 1 (map Y4 P.2.2.2.1)),(16,.map (Qj (λx=>A.int .i64 x) (λx=>A.int .i64 x) P.2.2.2.2)),(23,.row 46 2 (map Way.c P.1))]) Zf ?_ (λenv H g=>?_)))))
   .refine G0 1 Z (Lp [0,1,2,3,4,5,6,7,8,9,10,11,12,13,14,15,16,17,18,19,20,21,22,23] [0,2,3,8,9,11,13,14,16,19,81,82] (λd=>[(83,I d.2.2.2.2.2)]) (λd=>[(0,.cells 72 [.osl 23 0 d.1.length 2]),(5,.cells 44 [.osl 13 0 d.2.1.length 1]),(9,.cells 125 [.osl 15 0 d.2.2.2.1.length 1]),(13,.row 3 1 (map (Qe .i64) d.2.1)),(14,.map (Qj (λx=>A.int .i64 x) (λx=>A.int .i64 x) d.2.2.1)),(15,.row 4 1 (map Y4 d.2.2.2.1)),(16,.map (Qj (λx=>A.int .i64 x) (λx=>A.int .i64 x) d.2.2.2.2.1)),(23,.row 46 2 (map Way.c d.1))]) cf Zf (Lr [0,1,2,3,4,5,6,7,8,9,10,11,12,13,14,15,16,17,18,19,20,21,22,23]) λd cr ab bi=>?_);refine G0 6 Z (QV Z ab (λbj ab=>?_) (λbj ab=>?_))
    .exact Gc 2 Z (Qk ab (Gx 1 Z (cQo bi ab (Lr [0,1,2,3,4,5,6,7,8,9,10,11,12,13,14,15,16,17,18,19,20,21,22,23]))))
    refine Gc 3 Z (Bd ab λQ p ab=>Ct Q [0,1,2,3,4,5,6,7,8,9,10,11,12,13,14,15,16,17,18,19,20,21,22,23] [0,2,3,8,9,11,13,14,16,19,81,82,83] Ze (λQ=>[(0,.cells 72 [.osl 23 0 Q.1.length 2]),(5,.cells 44 [.osl 13 0 Q.2.1.length 1]),(9,.cells 125 [.osl 15 0 Q.2.2.2.1.length 1]),(13,.row 3 1 (map (Qe .i64) Q.2.1)),(14,.map (Qj (λx=>A.int .i64 x) (λx=>A.int .i64 x) Q.2.2.1)),(15,.row 4 1 (map Y4 Q.2.2.2.1)),(16,.map (Qj (λx=>A.int .i64 x) (λx=>A.int .i64 x) Q.2.2.2.2)),(23,.row 46 2 (map Way.c Q.1))]) Zf ?_ (λenv H g=>?_))
    .refine G0 4 Z (Bd p λcs bk p=>Iz bk Z (Go 8 Z (Bd p λau af p=>Ct au [0,1,2,3,4,5,6,7,8,9,10,11,12,13,14,15,16,17,18,19,20,21,22,23] [0,2,3,8,9,11,13,14,16,19,22,81,82,83] (λau=>[(97,.bool au)]) Ze Zf ?_ (λenv H g=>?_))))
     .refine G0 3 Z (Bd af λcg ax af=>?_);refine vX (.ptr 15 (toNat d.2.2.2.2.2*1)) (Y7 ax Z Gb Gp) ?_;refine vX (.bool cg) (Ez Z isAgg4 Z (YD ax)) ?_;refine Go 1 Z (Is 92 af Z (λbl af=>?_) (λbl af=>?_))
      iterate 2 exact Gl 6 Z af [0,1,2,3,4,5,6,7,8,9,10,11,12,13,14,15,16,17,18,19,20,21,22,23]
     refine Gx 1 Z (Ef g (Cn Z p (λbm p=>?_) (λbm p=>?_)))
     .exact YJ 3 Z p [0,1,2,3,4,5,6,7,8,9,10,11,12,13,14,15,16,17,18,19,20,21,22,23]
     refine Gc 8 Z (Cd [12,17,18,19,20] p (k_as _ _ _ _ _ _ _ _ _ _ _ _ _ _) Z λak co p=>?_);refine QbU (x:=(.tup [.agg (Uf.c ak.1),.bool ak.2])) (H:=[.cells 72 [.osl 23 0 d.1.length 2],.cells 123 [.fn (.func 36) [] [.ptr 10 0,.ptr 6 0]],.cells 33 (Course.c a6),.cells 3 [I a7],.cells 84 [.ptr 12 0],.cells 44 [.osl 13 0 d.2.1.length 1],.cells 122 [.map 14],.cells 126 [.fn (.func 38) [] [.ptr 0 0,.ptr 1 0,.ptr 2 0,.ptr 3 0,.ptr 4 0,.ptr 5 0,.ptr 6 0,.ptr 7 0,.ptr 8 0,.ptr 9 0,.ptr 10 0]],.cells 40 [.rsl 5 (map Hit.c a9)],.cells 125 [.osl 15 0 d.2.2.2.1.length 1],.cells 122 [.map 16],.dead,.cells 121 (match_task.tc u w y z B E (.map 17) (.fn (.func 72) [] [.ptr 18 0,.ptr 19 0,.ptr 20 0]) F),.row 3 1 (map (Qe .i64) d.2.1),.map (Qj (λx=>A.int .i64 x) (λx=>A.int .i64 x) d.2.2.1),.row 4 1 (map Y4 d.2.2.2.1),.map (Qj (λx=>A.int .i64 x) (λx=>A.int .i64 x) d.2.2.2.2.1),.map (Qj (λx=>A.int .i64 x) (λx=>A.agg (Ud.c x)) G),.cells 84 [.ptr 12 0],.cells 33 (Course.c J),.cells 37 (Clocks.c L),.cells 128 (Uf.c a2),.cells 3 [I V],.row 46 2 (map Way.c d.1),.cells 128 (Uf.c ak.1)]) Z (by simp only[QX,Vj,Vk,List.set_cons_succ,List.set_cons_zero,VJ,Vh];rfl) ?_;refine Go 13 Z (Bd p λR a p=>Ct R [0,1,2,3,4,5,6,7,8,9,10,11,12,13,14,15,16,17,18,19,20,21,22,0] [0,2,3,8,9,11,13,14,16,19,81,82,83] Ze (λR=>[(0,.cells 72 [.osl 23 0 R.1.length 2]),(5,.cells 44 [.osl 13 0 R.2.1.length 1]),(9,.cells 125 [.osl 15 0 R.2.2.2.1.length 1]),(13,.row 3 1 (map (Qe .i64) R.2.1)),(14,.map (Qj (λx=>A.int .i64 x) (λx=>A.int .i64 x) R.2.2.1)),(15,.row 4 1 (map Y4 R.2.2.2.1)),(16,.map (Qj (λx=>A.int .i64 x) (λx=>A.int .i64 x) R.2.2.2.2)),(23,.row 46 2 (map Way.c R.1))]) Zf ?_ (λenv H g=>?_))
     .refine G0 0 Z (Cn Z a (λbn a=>?_) (λbn a=>?_))
      .refine Gc 7 Z (Bd a λct ay a=>?_);refine vX (.ptr 15 (toNat d.2.2.2.2.2*1)) (Y7 ay Z Gb Gp) ?_;refine Bd a λcu an a=>?_;refine vU (Jt (e:=Y4) (k:=1) (f:=0) ay an Gp Z Z) ?_;refine FE Z ?_;refine Eu (Q1 (s:=107) Z (congrArg (λn=>A.osl 15 0 n 1) (Qaj an))) ?_;refine Eu (Qe6 (i:=9) Z (congrArg (λnz=>Blk.cells 125 [.osl 15 0 nz 1]) (Qaj an))) ?_;refine Bd a λcv az a=>?_;refine vX (.ptr 13 (toNat a1*1)) (Y7 az Z EB EC) ?_;refine Bd a λcw ao a=>?_;refine vU (Jt (e:=(Qe .i64)) (k:=1) (f:=0) az ao EC Z Z) ?_;refine FE Z ?_;refine Eu (Q1 (s:=109) Z (congrArg (λn=>A.osl 13 0 n 1) (Qaj ao))) ?_;refine Eu (Qe6 (i:=5) Z (congrArg (λnz=>Blk.cells 44 [.osl 13 0 nz 1]) (Qaj ao))) ?_;refine Go 6 Z (Bd a λbc bo a=>?_);refine vX (I bc) (Ye (ev:=(λx=>A.int .i64 x)) (z0:=0) (k:=V) (l:=d.2.2.2.2.1) YR bo EH EN Ep) ?_;refine Go 1 Z (Bd a λcx bp a=>?_);refine vU (Q8 (ev:=(λx=>A.int .i64 x)) (k:=V) (v:=(i64.wrap (bc-1))) (l:=d.2.2.2.2.1) YR bp Z EH) ?_;refine Fg 9 Z Z (Cd [0,1,2,3,4,5,6,7,8,9,10,23,12,13,14,15,16,17,18,19,20] a (ai _ _ _ _ _ _ _ _ _ _ _ _ _ _ _ _ _ _ _ _ _ _) Z λT cp a=>?_);refine QbU (x:=(.tup [])) (H:=[.cells 72 [.osl 26 0 T.1.length 2],.cells 123 [.fn (.func 36) [] [.ptr 10 0,.ptr 6 0]],.cells 33 (Course.c a6),.cells 3 [I a7],.cells 84 [.ptr 12 0],.cells 44 [.osl 13 0 T.2.1.length 1],.cells 122 [.map 14],.cells 126 [.fn (.func 38) [] [.ptr 0 0,.ptr 1 0,.ptr 2 0,.ptr 3 0,.ptr 4 0,.ptr 5 0,.ptr 6 0,.ptr 7 0,.ptr 8 0,.ptr 9 0,.ptr 10 0]],.cells 40 [.rsl 5 (map Hit.c a9)],.cells 125 [.osl 15 0 T.2.2.2.1.length 1],.cells 122 [.map 16],.dead,.cells 121 (match_task.tc u w y z B E (.map 17) (.fn (.func 72) [] [.ptr 18 0,.ptr 19 0,.ptr 20 0]) F),.row 3 1 (map (Qe .i64) T.2.1),.map (Qj (λx=>A.int .i64 x) (λx=>A.int .i64 x) T.2.2.1),.row 4 1 (map Y4 T.2.2.2.1),.map (Qj (λx=>A.int .i64 x) (λx=>A.int .i64 x) T.2.2.2.2),.map (Qj (λx=>A.int .i64 x) (λx=>A.agg (Ud.c x)) G),.cells 84 [.ptr 12 0],.cells 33 (Course.c J),.cells 37 (Clocks.c L),.cells 128 (Uf.c a2),.cells 3 [I V],.dead,.cells 128 (Uf.c ak.1),.cells 128 (Uf.c ak.1),.row 46 2 (map Way.c T.1)]) Z (by simp only[QX,Vj,Vk,List.set_cons_succ,List.set_cons_zero,VJ,Vh];rfl) ?_;refine Go 6 Z (Bd a λbd bq a=>?_);refine vX (I bd) (Ye (ev:=(λx=>A.int .i64 x)) (z0:=0) (k:=V) (l:=T.2.2.2.2) YR bq EH EN Ep) ?_;refine Go 1 Z (Bd a λcy br a=>?_);refine vU (Q8 (ev:=(λx=>A.int .i64 x)) (k:=V) (v:=(i64.wrap (bd+1))) (l:=T.2.2.2.2) YR br Z EH) ?_;refine Fg 7 Z Z (Bd a λcz ba a=>?_);refine vX (.ptr 15 (toNat d.2.2.2.2.2*1)) (Y7 ba Z Gb Gp) ?_;refine Bd a λda aq a=>?_;refine vU (Jt (e:=Y4) (k:=1) (f:=0) ba aq Gp Z Z) ?_;refine FE Z ?_;refine Eu (Q1 (s:=128) Z (congrArg (λn=>A.osl 15 0 n 1) (Qaj aq))) ?_;refine Eu (Qe6 (i:=9) Z (congrArg (λnz=>Blk.cells 125 [.osl 15 0 nz 1]) (Qaj aq))) ?_;refine Bd a λdb bb a=>?_;refine vX (.ptr 13 (toNat a1*1)) (Y7 bb Z EB EC) ?_;refine Bd a λdc ar a=>?_;refine vU (Jt (e:=(Qe .i64)) (k:=1) (f:=0) bb ar EC Z Z) ?_;refine FE Z ?_;refine Eu (Q1 (s:=130) Z (congrArg (λn=>A.osl 13 0 n 1) (Qaj ar))) ?_;refine Eu (Qe6 (i:=5) Z (congrArg (λnz=>Blk.cells 44 [.osl 13 0 nz 1]) (Qaj ar))) ?_;exact Gl 1 Z a [0,1,2,3,4,5,6,7,8,9,10,11,12,13,14,15,16,17,18,19,20,21,22,26]
      exact YJ 1 Z a [0,1,2,3,4,5,6,7,8,9,10,11,12,13,14,15,16,17,18,19,20,21,22,23]
     refine Gx 1 Z ?_;cases p;exact QbQ (Eo g (Lr [0,1,2,3,4,5,6,7,8,9,10,11,12,13,14,15,16,17,18,19,20,21,22,23]))
    exact Gx 1 Z (Ef g (Gc 4 Z (Qi ab (Lr [0,1,2,3,4,5,6,7,8,9,10,11,12,13,14,15,16,17,18,19,20,21,22,23]))))
   cases M;exact QbQ (Eo g (Lr [0,1,2,3,4,5,6,7,8,9,10,11,12,13,14,15,16,17,18,19,20,21,22,23]))
  refine Gc 1 Z ?_;cases M;refine QbQ ?_;refine Eo (Qbi (i:=11) (j:=0) (m:=0) Z Z Z Z Z) ?_;exact Lr [0,1,2,3,4,5,6,7,8,9,10,11,12,13,14,15,16,17,18,19,20,21,22,23]
 refine Gx 1 Z (Ef g (Gc 1 Z (Bd h λav al h=>Ct av [0,1,2,3,4,5,6,7,8,9,10,11,12,13,14,15,16,17,18,19,20,21,22,23] [0,3,11,16] (λav=>[(143,.bool av)]) Ze Zf ?_ (λenv H g=>?_))))
 .refine G0 3 Z (Is 136 al Z (λbs al=>?_) (λbs al=>?_))
  iterate 2 exact Gl 8 Z al [0,1,2,3,4,5,6,7,8,9,10,11,12,13,14,15,16,17,18,19,20,21,22,23]
 refine Gx 1 Z (Ef g (Bd h λt ag h=>Ct t [0,1,2,3,4,5,6,7,8,9,10,11,12,13,14,15,16,17,18,19,20,21,22,0] [] Ze (λt=>[(0,.cells 72 [.osl 23 0 t.1.length 2]),(5,.cells 44 [.osl 13 0 t.2.1.length 1]),(9,.cells 125 [.osl 15 0 t.2.2.2.1.length 1]),(13,.row 3 1 (map (Qe .i64) t.2.1)),(14,.map (Qj (λx=>A.int .i64 x) (λx=>A.int .i64 x) t.2.2.1)),(15,.row 4 1 (map Y4 t.2.2.2.1)),(16,.map (Qj (λx=>A.int .i64 x) (λx=>A.int .i64 x) t.2.2.2.2)),(23,.row 46 2 (map Way.c t.1))]) Zf ?_ (λenv H g=>?_)))
 .refine G0 0 Z (Cn Z ag (λbu ag=>?_) (λbu ag=>?_))
  .refine Gc 6 Z (Cd [0,1,2,3,4,5,6,7,8,9,10,23,12,13,14,15,16,17,18,19,20] ag (ai _ _ _ _ _ _ _ _ _ _ _ _ _ _ _ _ _ _ _ _ _ _) Z λac cq ag=>?_);refine QbU (x:=(.tup [])) (H:=[.cells 72 [.osl 24 0 ac.1.length 2],.cells 123 [.fn (.func 36) [] [.ptr 10 0,.ptr 6 0]],.cells 33 (Course.c a6),.cells 3 [I a7],.cells 84 [.ptr 12 0],.cells 44 [.osl 13 0 ac.2.1.length 1],.cells 122 [.map 14],.cells 126 [.fn (.func 38) [] [.ptr 0 0,.ptr 1 0,.ptr 2 0,.ptr 3 0,.ptr 4 0,.ptr 5 0,.ptr 6 0,.ptr 7 0,.ptr 8 0,.ptr 9 0,.ptr 10 0]],.cells 40 [.rsl 5 (map Hit.c a9)],.cells 125 [.osl 15 0 ac.2.2.2.1.length 1],.cells 122 [.map 16],.dead,.cells 121 (match_task.tc u w y z B E (.map 17) (.fn (.func 72) [] [.ptr 18 0,.ptr 19 0,.ptr 20 0]) F),.row 3 1 (map (Qe .i64) ac.2.1),.map (Qj (λx=>A.int .i64 x) (λx=>A.int .i64 x) ac.2.2.1),.row 4 1 (map Y4 ac.2.2.2.1),.map (Qj (λx=>A.int .i64 x) (λx=>A.int .i64 x) ac.2.2.2.2),.map (Qj (λx=>A.int .i64 x) (λx=>A.agg (Ud.c x)) G),.cells 84 [.ptr 12 0],.cells 33 (Course.c J),.cells 37 (Clocks.c L),.cells 128 (Uf.c a2),.cells 3 [I V],.dead,.row 46 2 (map Way.c ac.1)]) Z (by simp only[QX,Vj,Vk,List.set_cons_succ,List.set_cons_zero,VJ,Vh];rfl) ?_;exact Gl 1 Z ag [0,1,2,3,4,5,6,7,8,9,10,11,12,13,14,15,16,17,18,19,20,21,22,24]
  exact YJ 1 Z ag [0,1,2,3,4,5,6,7,8,9,10,11,12,13,14,15,16,17,18,19,20,21,22,23]
 refine RetD.mk g func40 Z call40 Z (?_:WO _ _ _ _ _ _ _ (kq _ _ _ [] _));refine Go 2 Z (Bd h λbe bv h=>?_);refine vX (I be) (Ye (ev:=(λx=>A.int .i64 x)) (z0:=0) (k:=V) (l:=t.2.2.1) YR bv EH EN Ep) ?_;refine Go 1 Z (Bd h λdd bw h=>?_);refine vU (Q8 (ev:=(λx=>A.int .i64 x)) (k:=V) (v:=(i64.wrap (be+1))) (l:=t.2.2.1) YR bw Z EH) ?_;refine Fg 1 Z Z ?_;obtain rfl:=Oi h;exact Rx [0,1,2,3,4,5,6,7,8,9,10,11,12,13,14,15,16,17,18,19,20,23] [] Z (QbW.nil Z) ⟨Z,Z⟩
def F_bw:Nat->Int->Uf->Bool->Int->(List Way)->Course->Int->(List Int)->(List Hit)->(List Bool)->Course->Clocks->(List Int)->(List Span)->(List Hit)->(List Ud)->Int->(List (Int×Int))->(List (Int×Int))->(List (Int×Ud))->Course->Clocks->Option ((List Way)×(List Int)×(List (Int×Int))×(List Bool)×(List (Int×Int)))
  |0=>λ_ _ _ _ _ _ _ _ _ _ _ _ _ _ _ _ _ _ _ _ _ _=>none
  |n+1=>B_bw (F_bw n) n
theorem k_bw(n:Nat):∀(B:Int) (E:Uf) (F:Bool) (G:Int) (t:List Way) (u:Course) (w:Int) (y:List Int) (z:List Hit) (a:List Bool) (d:Course) (e:Clocks) (f:List Int) (g:List Span) (i:List Hit) (j:List Ud) (k:Int) (q:List (Int×Int)) (s:List (Int×Int)) (l:List (Int×Ud)) (m:Course) (p:Clocks) (r:(List Way)×(List Int)×(List (Int×Int))×(List Bool)×(List (Int×Int))),F_bw n B E F G t u w y z a d e f g i j k q s l m p=some r->C prog 38 [I B,.agg (Uf.c E),.bool F,I G,.ptr 0 0,.ptr 1 0,.ptr 2 0,.ptr 3 0,.ptr 4 0,.ptr 5 0,.ptr 6 0,.ptr 7 0,.ptr 8 0,.ptr 9 0,.ptr 10 0] [.cells 72 [.osl 11 0 t.length 2],.cells 123 [.fn (.func 36) [] [.ptr 10 0,.ptr 6 0]],.cells 33 (Course.c u),.cells 3 [I w],.cells 84 [.ptr 12 0],.cells 44 [.osl 13 0 y.length 1],.cells 122 [.map 14],.cells 126 [.fn (.func 38) [] [.ptr 0 0,.ptr 1 0,.ptr 2 0,.ptr 3 0,.ptr 4 0,.ptr 5 0,.ptr 6 0,.ptr 7 0,.ptr 8 0,.ptr 9 0,.ptr 10 0]],.cells 40 [.rsl 5 (map Hit.c z)],.cells 125 [.osl 15 0 a.length 1],.cells 122 [.map 16],.row 46 2 (map Way.c t),.cells 121 (match_task.tc d e f g i j (.map 17) (.fn (.func 72) [] [.ptr 18 0,.ptr 19 0,.ptr 20 0]) k),.row 3 1 (map (Qe .i64) y),.map (Qj (λx=>A.int .i64 x) (λx=>A.int .i64 x) q),.row 4 1 (map Y4 a),.map (Qj (λx=>A.int .i64 x) (λx=>A.int .i64 x) s),.map (Qj (λx=>A.int .i64 x) (λx=>A.agg (Ud.c x)) l),.cells 84 [.ptr 12 0],.cells 33 (Course.c m),.cells 37 (Clocks.c p)] (RQ (λ_=>.tup []) (λr=>[.cells 72 [.osl 21 0 r.1.length 2],.cells 123 [.fn (.func 36) [] [.ptr 10 0,.ptr 6 0]],.cells 33 (Course.c u),.cells 3 [I w],.cells 84 [.ptr 12 0],.cells 44 [.osl 13 0 r.2.1.length 1],.cells 122 [.map 14],.cells 126 [.fn (.func 38) [] [.ptr 0 0,.ptr 1 0,.ptr 2 0,.ptr 3 0,.ptr 4 0,.ptr 5 0,.ptr 6 0,.ptr 7 0,.ptr 8 0,.ptr 9 0,.ptr 10 0]],.cells 40 [.rsl 5 (map Hit.c z)],.cells 125 [.osl 15 0 r.2.2.2.1.length 1],.cells 122 [.map 16],.dead,.cells 121 (match_task.tc d e f g i j (.map 17) (.fn (.func 72) [] [.ptr 18 0,.ptr 19 0,.ptr 20 0]) k),.row 3 1 (map (Qe .i64) r.2.1),.map (Qj (λx=>A.int .i64 x) (λx=>A.int .i64 x) r.2.2.1),.row 4 1 (map Y4 r.2.2.2.1),.map (Qj (λx=>A.int .i64 x) (λx=>A.int .i64 x) r.2.2.2.2),.map (Qj (λx=>A.int .i64 x) (λx=>A.agg (Ud.c x)) l),.cells 84 [.ptr 12 0],.cells 33 (Course.c m),.cells 37 (Clocks.c p),.row 46 2 (map Way.c r.1)]) r):=by
  induction n with
  |zero=>intro B E F G t u w y z a d e f g i j k q s l m p r h;cases h
  |succ n ih=>intro B E F G t u w y z a d e f g i j k q s l m p r h;exact QbK _ ih n B E F G t u w y z a d e f g i j k q s l m p r h
def F_mo(n:Nat)(e:List Int)(f:List Int)(a:Int):Option (Ctl Int (Ctl Unit Int)):=(bif decide (a<(e.length:Int))then(idx e a).bind λg=>(bif decide ((f.length:Int)<=a)then some (.done (.done 1))else(idx f a).bind λh=>(F_i n g h).bind λd=>(bif (d != 0)then some (.done (.done d))else some (.cont (i64.wrap (a+1)))))else some (.done (.cont ())))
def F_ib(n:Nat)(d:List Int)(e:List Int):Option Int:=(iter (F_mo n d e) n 0:Option (Ctl Unit Int)).bind λf=>match f with|.cont a=>(bif decide ((d.length:Int)<(e.length:Int))then some (-1)else some 0)|.done a=>some a
theorem k_ib(n:Nat)(m:List Int)(p:List Int):Ks (F_ib n m p) 45 [.rsl 1 (map (Qe .i64) m),.rsl 1 (map (Qe .i64) p)] [] (λr=>I r):=by
 refine Kg 9 func45 Z Z Z Z λr h=>Lg 3 Z Z (Bd h λq s h=>Jn (b:=q) [] [0,1] Ze Ze Zf ?_ (λu t=>?_))
 .refine G0 1 Z (Lp [] [0,1,9,10] (λe=>[(11,I e)]) Ze s Zf (Lr []) λe x a d=>?_);refine G0 6 Z (QV Z a (λf a=>?_) (λf a=>?_))
  .exact Gc 2 Z (Qk a (Gx 1 Z (YC d a Z (Lr []))))
  refine Gc 7 Z (Bd a λy g a=>Iz g Z (Go 10 Z (Lg 3 Z Z (Cn Z a (λi a=>?_) (λi a=>?_)))))
  .refine Gc 9 Z (Qp a ?_);obtain rfl:=Oj d a;exact Gx 1 Z (Ql (Gx 1 Z (Rt h 4 [])))
  refine Gc 6 Z (Bd a λz j a=>Iz j Z (Go 8 Z (Cz [] a (k_i _ _ _) Z λB w a=>Go 9 Z (Cn Z a (λk a=>?_) (λk a=>?_)))))
  .refine Gc 9 Z (Qp a ?_);obtain rfl:=Oj d a;exact Gx 1 Z (Ql (Gx 1 Z (Rt h 4 [])))
  exact Gc 7 Z (Qi a (Lr []))
 subst t;refine Gc 4 Z (Lg 1 Z Z (Lg 3 Z Z (Cn Z h (λl h=>?_) (λl h=>?_))))
 .exact QC 7 Z h 4 []
 exact QC 8 Z h 4 []
def F_kd(n:Nat)(a:Way)(d:Way):Option Int:=(F_ib n a.Hits d.Hits).bind λe=>(bif (e != 0)then some e else some (i64.wrap (a.Last-d.Last)))
theorem k_kd(n:Nat)(a:Way)(d:Way):Ks (F_kd n a d) 44 [.agg (Way.c a),.agg (Way.c d)] [] (λr=>I r):=by
 refine Kg 14 func44 Z Z Z Z λr h=>Cz [] h (k_ib _ _ _) Z λg f h=>Go 9 Z (Cn Z h (λe h=>?_) (λe h=>?_))
 .exact QC 8 Z h 4 []
 exact QC 13 Z h 4 []
def F_lq(n:Nat)(e:(List Int)×(List Span)×(List Ud)×(List (Int×Ud))×Int)(a:(List (Int×Int))×Int):Option (Ctl ((List (Int×Int))×Int) (List (Int×Int))):=(bif decide (a.2<(e.1.length:Int))then(idx e.1 a.2).bind λd=>(some (QB a.1 d 0)).bind λf=>(some (Q3 a.1 d (i64.wrap (f+1)))).bind λg=>some (.cont (g,i64.wrap (a.2+1)))else some (.done a.1))
def F_lv(n:Nat)(e:List Hit)(a:(List (Int×Int))×Int):Option (Ctl ((List (Int×Int))×Int) (List (Int×Int))):=(bif decide (a.2<(e.length:Int))then(idx e a.2).bind λd=>(some (QB a.1 d.Mat 0)).bind λf=>(some (Q3 a.1 d.Mat (i64.wrap (f+1)))).bind λg=>some (.cont (g,i64.wrap (a.2+1)))else some (.done a.1))
def F_at(n:Nat)(f:Course)(g:Clocks)(p:Starter)(q:Int)(d:List Hit)(r:List Hand):Option ((List Way)×Int):=(F_ad n f g p q d r).bind λs=>(match s with|.c0 h=>((bif (h != 0)then some ([],h)else none))|.c1 a=>((iter (F_lq n a) n ([],0):Option (List (Int×Int))).bind λi=>(iter (F_lv n d) n ([],0):Option (List (Int×Int))).bind λj=>(F_bs n [(-1)] (a.1.length:Int)).bind λk=>(mk (d.length:Int) false).bind λl=>(F_cm n).bind λt=>(F_bw n 0 ({z_match_state with last:=(-1):Uf}) false (-1) ([]:List Way) f (a.1.length:Int) k d l f g a.1 a.2.1 d a.2.2.1 a.2.2.2.2 i j a.2.2.2.1 f g).bind λe=>(bif decide (64<(e.1.length:Int))then some ([],2)else(bif ((e.1.length:Int)==0)then some ([],190)else(QgC (λx y=>F_kd n x y) e.1).bind λm=>some (m,0)))))
theorem k_at(n:Nat)(d:Course)(g:Clocks)(P:Starter)(a4:Int)(q:List Hit)(a6:List Hand):Kq (F_at n d g P a4 q a6) 20 [.agg (Course.c d),.agg (Clocks.c g),.agg (Starter.c P),I a4,.rsl 5 (map Hit.c q),.rsl 4 (map Hand.c a6)] [] (λr=>.tup [.osl 0 0 r.1.length 2,I r.2]) (λr=>[.row 46 2 (map Way.c r.1),.cells 72 [.osl 0 0 r.1.length 2]]):=by
 refine Kg 5 func20 Z Z Z Z λr h=>vH (OpH.box Z Z Z Z Z) ?_;refine Fg 12 Z Z (Bd h λr1 ai h=>?_);refine Qy [] (OpC.fn call29 Z Z Z) (k_ad _ _ _ _ _ _ _ _ ai) ?_;intro ra rH h2;rcases r1 with Q|f
 .obtain⟨rfl,rfl⟩:=h2;refine Fg 15 Z Z (Cn Z h (λaj h=>?_) (λaj h=>?_))
  .refine Gc 9 Z ?_;obtain rfl:=Oi h;refine⟨[(12,.ptr 1 0),(13,I (([],Q).2))],[.row 46 2 (map Way.c (([],Q).1)),.cells 72 [.osl 0 0 ((([],Q).1).length) 2]],_,?_,Qg Z Z (Qif.cons (Q4 isAgg72 Z Z) (Qif.cons QcX.tmp Qif.nil)),Z,Z⟩;refine Eo (YK (i:=4) (m:=0) (t:=46) (k:=2) Z Z Z) ?_;exact Lr [7,4]
  refine Gc 3 Z ?_;cases h
 .obtain⟨rfl,rfl⟩:=h2;refine aV (.tup [.ptr 5 0,I 0]) [.cells 33 (Course.c d),.cells 37 (Clocks.c g),.cells 39 (Starter.c P),.cells 40 [.rsl 5 (map Hit.c q)],.cells 72 [.nils],.cells 121 [.str d.Name,.rsl 2 (map Mat.c d.Mats),.rsl 4 (map Leg.c d.Legs),.rsl 5 (map Distance.c d.Distances),.rsl 2 (map Wave.c d.Waves),.rsl 4 (map Offence.c d.Offences),.rsl 3 (map Category.c d.Categories),.rsl 4 (map Prize.c d.Prizes),.rsl 8 (map Step.enc d.Ties),I d.Faults.Misses,I d.Faults.Strays,I d.Faults.Window,I d.Faults.Residual,I d.Faults.Drift,I d.Fee,I d.Deadline,.rsl 3 (map Segment.c g.Segments),.rsl 1 (map (QN 1 (Qe .i64)) g.Far),.rsl 1 (map (Qe .i64) f.1),.osl 6 0 f.2.1.length 2,.rsl 5 (map Hit.c q),.osl 7 0 f.2.2.1.length 3,.map 8,.fn (.func 72) [] [.ptr 9 0,.ptr 10 0,.ptr 11 0],I f.2.2.2.2],.row 55 2 (map Span.c f.2.1),.row 88 3 (map Ud.c f.2.2.1),.map (Qj (λx=>A.int .i64 x) (λx=>A.agg (Ud.c x)) f.2.2.2.1),.cells 84 [.ptr 5 0],.cells 33 (Course.c d),.cells 37 (Clocks.c g)] Z Z ?_;refine Go 12 Z ?_;refine vX (.bool false) (OpV.neq (m:=0) (n:=0) Z Z Z) ?_;refine Go 11 Z (Lg 6 Z Z (vH Yj ?_));refine Fg 11 Z Z (Lg 3 Z Z (Bd h λB ak h=>Ct B [0,1,2,3,4,5,6,7,8,9,10,11,12,13] [6] (λ_=>[(10,.ptr 1 0),(12,.ptr 2 0),(14,.ptr 3 0),(15,.ptr 11 0),(16,.ptr 12 0)]) (λB=>[(1,.cells 40 [.rsl 5 (map Hit.c q)]),(2,.cells 72 [.nils]),(3,.cells 84 [.ptr 4 0]),(4,.cells 121 [.str d.Name,.rsl 2 (map Mat.c d.Mats),.rsl 4 (map Leg.c d.Legs),.rsl 5 (map Distance.c d.Distances),.rsl 2 (map Wave.c d.Waves),.rsl 4 (map Offence.c d.Offences),.rsl 3 (map Category.c d.Categories),.rsl 4 (map Prize.c d.Prizes),.rsl 8 (map Step.enc d.Ties),I d.Faults.Misses,I d.Faults.Strays,I d.Faults.Window,I d.Faults.Residual,I d.Faults.Drift,I d.Fee,I d.Deadline,.rsl 3 (map Segment.c g.Segments),.rsl 1 (map (QN 1 (Qe .i64)) g.Far),.rsl 1 (map (Qe .i64) f.1),.osl 5 0 f.2.1.length 2,.rsl 5 (map Hit.c q),.osl 6 0 f.2.2.1.length 3,.map 7,.fn (.func 72) [] [.ptr 8 0,.ptr 9 0,.ptr 10 0],I f.2.2.2.2]),(5,.row 55 2 (map Span.c f.2.1)),(6,.row 88 3 (map Ud.c f.2.2.1)),(7,.map (Qj (λx=>A.int .i64 x) (λx=>A.agg (Ud.c x)) f.2.2.2.1)),(8,.cells 84 [.ptr 4 0]),(9,.cells 33 (Course.c d)),(10,.cells 37 (Clocks.c g)),(11,.cells 3 [I (f.1.length:Int)]),(12,.cells 122 [.map 13]),(13,.map (Qj (λx=>A.int .i64 x) (λx=>A.int .i64 x) B))]) Zf ?_ (λenv H al=>?_)))
  .refine G0 1 Z (Lp [0,3,4,12,5,6,7,8,9,10,11,13,15,14] [6,10,12,14,15,16,48,49] (λG=>[(50,I G.2)]) (λG=>[(3,.cells 84 [.ptr 4 0]),(4,.cells 121 [.str d.Name,.rsl 2 (map Mat.c d.Mats),.rsl 4 (map Leg.c d.Legs),.rsl 5 (map Distance.c d.Distances),.rsl 2 (map Wave.c d.Waves),.rsl 4 (map Offence.c d.Offences),.rsl 3 (map Category.c d.Categories),.rsl 4 (map Prize.c d.Prizes),.rsl 8 (map Step.enc d.Ties),I d.Faults.Misses,I d.Faults.Strays,I d.Faults.Window,I d.Faults.Residual,I d.Faults.Drift,I d.Fee,I d.Deadline,.rsl 3 (map Segment.c g.Segments),.rsl 1 (map (QN 1 (Qe .i64)) g.Far),.rsl 1 (map (Qe .i64) f.1),.osl 5 0 f.2.1.length 2,.rsl 5 (map Hit.c q),.osl 6 0 f.2.2.1.length 3,.map 7,.fn (.func 72) [] [.ptr 8 0,.ptr 9 0,.ptr 10 0],I f.2.2.2.2]),(8,.cells 84 [.ptr 4 0]),(12,.cells 122 [.map 13]),(13,.map (Qj (λx=>A.int .i64 x) (λx=>A.int .i64 x) G.1))]) ak Zf (Lr [0,3,4,12,5,6,7,8,9,10,11,13,15,14]) λG aq j R=>?_);refine G0 6 Z (QV Z j (λT j=>?_) (λT j=>?_))
   .exact Gc 2 Z (Qk j (Gx 1 Z (cQo R j (Lr [0,1,2,3,4,5,6,7,8,9,10,11,12,13]))))
   refine Gc 6 Z (Bd j λL V j=>Iz V Z (Go 7 Z (Bd j λM W j=>?_)));refine vX (I M) (Ye (ev:=(λx=>A.int .i64 x)) (z0:=0) (k:=L) (l:=G.1) YR W EH EN Ep) ?_;refine Go 1 Z (Bd j λar X j=>?_);refine vU (Q8 (ev:=(λx=>A.int .i64 x)) (k:=L) (v:=(i64.wrap (M+1))) (l:=G.1) YR X Z EH) ?_;exact Fg 7 Z Z (Qi j (Lr [0,1,2,3,4,5,6,7,8,9,10,11,12,13]))
  refine Gx 1 Z (Ef al (Gc 2 Z (vH Yj ?_)));refine Fg 8 Z Z (Lg 3 Z Z (Bd h λE am h=>Cg E [0,1,2,3,4,5,6,7,8,9,10,11,12,13,14,15] [6,10,12,14,15,16] (λ_=>[(19,.ptr 14 0)]) (λE=>[(14,.cells 122 [.map 15]),(15,.map (Qj (λx=>A.int .i64 x) (λx=>A.int .i64 x) E))]) Zf ?_ ?_))
  .refine G0 1 Z (Lp [0,1,2,3,4,5,6,7,8,9,10,11,12,13,15,14] [6,10,12,14,15,16,19,60,61] (λJ=>[(62,I J.2)]) (λJ=>[(14,.cells 122 [.map 15]),(15,.map (Qj (λx=>A.int .i64 x) (λx=>A.int .i64 x) J.1))]) am Zf (Lr [0,1,2,3,4,5,6,7,8,9,10,11,12,13,15,14]) λJ au p Y=>?_);refine G0 6 Z (QV Z p (λaa p=>?_) (λaa p=>?_))
   .exact Gc 2 Z (Qk p (Gx 1 Z (cQo Y p (Lr [0,1,2,3,4,5,6,7,8,9,10,11,12,13,14,15]))))
   refine Gc 6 Z (Bd p λN ab p=>Iz ab Z (Go 9 Z (Bd p λO ac p=>?_)));refine vX (I O) (Ye (ev:=(λx=>A.int .i64 x)) (z0:=0) (k:=N.Mat) (l:=J.1) YR ac EH EN Ep) ?_;refine Go 1 Z (Bd p λav ad p=>?_);refine vU (Q8 (ev:=(λx=>A.int .i64 x)) (k:=N.Mat) (v:=(i64.wrap (O+1))) (l:=J.1) YR ad Z EH) ?_;exact Fg 7 Z Z (Qi p (Lr [0,1,2,3,4,5,6,7,8,9,10,11,12,13,14,15]))
  refine Gc 9 Z (vH (El (xs:=[.const (.int .i64 (-1))]) (es:=map (Qe .i64) [(-1)]) QE Z Z Z Z Z ⟨Z,trivial⟩ Z Z) ?_);refine Fg 1 Z Z ?_;refine Eu (YF [(73,_)] Z Z (QlR.cons Z Er QlR.nil) (Ec (Ec (Ec (Ec (Ec (Ec (Ec (Ec (Ec (Ec (Ec (Ec (Ec (Ec (Ec (Ec (Ec (Ec (Q2 _)))))))))))))))))))) ?_;refine Cd [] h (k_bs _ _ _) Z λu an h=>Fg 7 Z Z (Lm Z (Bd h λw ae h=>vH (Qi1 (e:=Y4) (zv:=false) (a:=(.bool false)) ae QnG ES ZR.bool Z Z Z Z) ?_));refine Fg 16 Z Z ?_;obtain⟨aw,af,h⟩:=Yh h;refine QY 2 0 [80,81] [false,true] [[],[]] [[],[1]] [[(0,0),(1,1)],[(0,1)]] [.fn (.func 38) [] [.ptr 2 0,.ptr 16 0,.ptr 0 0,.ptr 11 0,.ptr 3 0,.ptr 19 0,.ptr 12 0,.ptr 22 0,.ptr 1 0,.ptr 21 0,.ptr 14 0],.agg [I (-1),I 0,I 0,I 0,I 0]] [[.cells 33 (Course.c d),.cells 40 [.rsl 5 (map Hit.c q)],.cells 72 [.nils],.cells 84 [.ptr 4 0],.cells 121 [.str d.Name,.rsl 2 (map Mat.c d.Mats),.rsl 4 (map Leg.c d.Legs),.rsl 5 (map Distance.c d.Distances),.rsl 2 (map Wave.c d.Waves),.rsl 4 (map Offence.c d.Offences),.rsl 3 (map Category.c d.Categories),.rsl 4 (map Prize.c d.Prizes),.rsl 8 (map Step.enc d.Ties),I d.Faults.Misses,I d.Faults.Strays,I d.Faults.Window,I d.Faults.Residual,I d.Faults.Drift,I d.Fee,I d.Deadline,.rsl 3 (map Segment.c g.Segments),.rsl 1 (map (QN 1 (Qe .i64)) g.Far),.rsl 1 (map (Qe .i64) f.1),.osl 5 0 f.2.1.length 2,.rsl 5 (map Hit.c q),.osl 6 0 f.2.2.1.length 3,.map 7,.fn (.func 72) [] [.ptr 8 0,.ptr 9 0,.ptr 10 0],I f.2.2.2.2],.row 55 2 (map Span.c f.2.1),.row 88 3 (map Ud.c f.2.2.1),.map (Qj (λx=>A.int .i64 x) (λx=>A.agg (Ud.c x)) f.2.2.2.1),.cells 84 [.ptr 4 0],.cells 33 (Course.c d),.cells 37 (Clocks.c g),.cells 3 [I (f.1.length:Int)],.cells 122 [.map 13],.map (Qj (λx=>A.int .i64 x) (λx=>A.int .i64 x) B),.cells 122 [.map 15],.map (Qj (λx=>A.int .i64 x) (λx=>A.int .i64 x) E),.cells 123 [.fn (.func 36) [] [.ptr 14 0,.ptr 12 0]],.dead,.row 3 1 (map (Qe .i64) u),.cells 44 [.osl 18 0 u.length 1],.row 4 1 (map Y4 w),.cells 125 [.osl 20 0 w.length 1],.cells 126 [.fn (.func 38) [] [.ptr 2 0,.ptr 16 0,.ptr 0 0,.ptr 11 0,.ptr 3 0,.ptr 19 0,.ptr 12 0,.ptr 22 0,.ptr 1 0,.ptr 21 0,.ptr 14 0]]],[.cells 33 (Course.c d),.cells 40 [.rsl 5 (map Hit.c q)],.cells 72 [.nils],.cells 84 [.ptr 4 0],.cells 121 [.str d.Name,.rsl 2 (map Mat.c d.Mats),.rsl 4 (map Leg.c d.Legs),.rsl 5 (map Distance.c d.Distances),.rsl 2 (map Wave.c d.Waves),.rsl 4 (map Offence.c d.Offences),.rsl 3 (map Category.c d.Categories),.rsl 4 (map Prize.c d.Prizes),.rsl 8 (map Step.enc d.Ties),I d.Faults.Misses,I d.Faults.Strays,I d.Faults.Window,I d.Faults.Residual,I d.Faults.Drift,I d.Fee,I d.Deadline,.rsl 3 (map Segment.c g.Segments),.rsl 1 (map (QN 1 (Qe .i64)) g.Far),.rsl 1 (map (Qe .i64) f.1),.osl 5 0 f.2.1.length 2,.rsl 5 (map Hit.c q),.osl 6 0 f.2.2.1.length 3,.map 7,.fn (.func 72) [] [.ptr 8 0,.ptr 9 0,.ptr 10 0],I f.2.2.2.2],.row 55 2 (map Span.c f.2.1),.row 88 3 (map Ud.c f.2.2.1),.map (Qj (λx=>A.int .i64 x) (λx=>A.agg (Ud.c x)) f.2.2.2.1),.cells 84 [.ptr 4 0],.cells 33 (Course.c d),.cells 37 (Clocks.c g),.cells 3 [I (f.1.length:Int)],.cells 122 [.map 13],.map (Qj (λx=>A.int .i64 x) (λx=>A.int .i64 x) B),.cells 122 [.map 15],.map (Qj (λx=>A.int .i64 x) (λx=>A.int .i64 x) E),.cells 123 [.fn (.func 36) [] [.ptr 14 0,.ptr 12 0]],.dead,.row 3 1 (map (Qe .i64) u),.cells 44 [.osl 18 0 u.length 1],.row 4 1 (map Y4 w),.cells 125 [.osl 20 0 w.length 1],.cells 126 [.fn (.func 38) [] [.ptr 2 0,.ptr 16 0,.ptr 0 0,.ptr 11 0,.ptr 3 0,.ptr 19 0,.ptr 12 0,.ptr 22 0,.ptr 1 0,.ptr 21 0,.ptr 14 0]],.cells 128 [I (-1),I 0,I 0,I 0,I 0]]] ([.cells 33 (Course.c d),.cells 40 [.rsl 5 (map Hit.c q)],.cells 72 [.nils],.cells 84 [.ptr 4 0],.cells 121 [.str d.Name,.rsl 2 (map Mat.c d.Mats),.rsl 4 (map Leg.c d.Legs),.rsl 5 (map Distance.c d.Distances),.rsl 2 (map Wave.c d.Waves),.rsl 4 (map Offence.c d.Offences),.rsl 3 (map Category.c d.Categories),.rsl 4 (map Prize.c d.Prizes),.rsl 8 (map Step.enc d.Ties),I d.Faults.Misses,I d.Faults.Strays,I d.Faults.Window,I d.Faults.Residual,I d.Faults.Drift,I d.Fee,I d.Deadline,.rsl 3 (map Segment.c g.Segments),.rsl 1 (map (QN 1 (Qe .i64)) g.Far),.rsl 1 (map (Qe .i64) f.1),.osl 5 0 f.2.1.length 2,.rsl 5 (map Hit.c q),.osl 6 0 f.2.2.1.length 3,.map 7,.fn (.func 72) [] [.ptr 8 0,.ptr 9 0,.ptr 10 0],I f.2.2.2.2],.row 55 2 (map Span.c f.2.1),.row 88 3 (map Ud.c f.2.2.1),.map (Qj (λx=>A.int .i64 x) (λx=>A.agg (Ud.c x)) f.2.2.2.1),.cells 84 [.ptr 4 0],.cells 33 (Course.c d),.cells 37 (Clocks.c g),.cells 3 [I (f.1.length:Int)],.cells 122 [.map 13],.map (Qj (λx=>A.int .i64 x) (λx=>A.int .i64 x) B),.cells 122 [.map 15],.map (Qj (λx=>A.int .i64 x) (λx=>A.int .i64 x) E),.cells 123 [.fn (.func 36) [] [.ptr 14 0,.ptr 12 0]],.dead,.row 3 1 (map (Qe .i64) u),.cells 44 [.osl 18 0 u.length 1],.row 4 1 (map Y4 w),.cells 125 [.osl 20 0 w.length 1],.cells 126 [.fn (.func 38) [] [.ptr 2 0,.ptr 16 0,.ptr 0 0,.ptr 11 0,.ptr 3 0,.ptr 19 0,.ptr 12 0,.ptr 22 0,.ptr 1 0,.ptr 21 0,.ptr 14 0]],.cells 128 [I (-1),I 0,I 0,I 0,I 0]]) draws Z Z Z Z Z Z Z ?_ Z ?_
  .refine Qgr.cons (Qb (v0 Z Z) (Qb (v0 Z Z) (Qc))) (Qgr.cons ?_ (Qgr.nil))
   .refine Qb ?_ (Qc)
    .refine Om1 Z sN ?_;refine Qy [] (OpC.fn call42 Z Z Z) (k_cm _ _ af) ?_;rintro _ _ ⟨rfl,rfl⟩;exact FE Z Wp
  refine Eu (YK (i:=2) (m:=0) (t:=46) (k:=2) Z Z Z) ?_;refine QlC (H:=[.cells 33 (Course.c d),.cells 40 [.rsl 5 (map Hit.c q)],.cells 72 [.osl 24 0 (([]:List Way).length) 2],.cells 84 [.ptr 4 0],.cells 121 [.str d.Name,.rsl 2 (map Mat.c d.Mats),.rsl 4 (map Leg.c d.Legs),.rsl 5 (map Distance.c d.Distances),.rsl 2 (map Wave.c d.Waves),.rsl 4 (map Offence.c d.Offences),.rsl 3 (map Category.c d.Categories),.rsl 4 (map Prize.c d.Prizes),.rsl 8 (map Step.enc d.Ties),I d.Faults.Misses,I d.Faults.Strays,I d.Faults.Window,I d.Faults.Residual,I d.Faults.Drift,I d.Fee,I d.Deadline,.rsl 3 (map Segment.c g.Segments),.rsl 1 (map (QN 1 (Qe .i64)) g.Far),.rsl 1 (map (Qe .i64) f.1),.osl 5 0 f.2.1.length 2,.rsl 5 (map Hit.c q),.osl 6 0 f.2.2.1.length 3,.map 7,.fn (.func 72) [] [.ptr 8 0,.ptr 9 0,.ptr 10 0],I f.2.2.2.2],.row 55 2 (map Span.c f.2.1),.row 88 3 (map Ud.c f.2.2.1),.map (Qj (λx=>A.int .i64 x) (λx=>A.agg (Ud.c x)) f.2.2.2.1),.cells 84 [.ptr 4 0],.cells 33 (Course.c d),.cells 37 (Clocks.c g),.cells 3 [I (f.1.length:Int)],.cells 122 [.map 13],.map (Qj (λx=>A.int .i64 x) (λx=>A.int .i64 x) B),.cells 122 [.map 15],.map (Qj (λx=>A.int .i64 x) (λx=>A.int .i64 x) E),.cells 123 [.fn (.func 36) [] [.ptr 14 0,.ptr 12 0]],.dead,.row 3 1 (map (Qe .i64) u),.cells 44 [.osl 18 0 u.length 1],.row 4 1 (map Y4 w),.cells 125 [.osl 20 0 w.length 1],.cells 126 [.fn (.func 38) [] [.ptr 2 0,.ptr 16 0,.ptr 0 0,.ptr 11 0,.ptr 3 0,.ptr 19 0,.ptr 12 0,.ptr 22 0,.ptr 1 0,.ptr 21 0,.ptr 14 0]],.cells 128 [I (-1),I 0,I 0,I 0,I 0],.row 46 2 (map Way.c ([]:List Way))]) Z ?_;refine Eu (YF (i:=5) [] Z Z QlR.nil (Ec (Ec (Ec (Ec (FzH.cells (Ed (Ee _) (Ed (Ee _) (Ed (Ee _) (Ed (Ee _) (Ed (Ee _) (Ed (Ee _) (Ed (Ee _) (Ed (Ee _) (Ed (Ee _) (Ed (Ee _) (Ed (Ee _) (Ed (Ee _) (Ed (Ee _) (Ed (Ee _) (Ed (Ee _) (Ed (Ee _) (Ed (Ee _) (Ed (Ee _) (Ed (Ee _) (Ed Er (Ek _))))))))))))))))))))) (Ec (Q2 _)))))))) ?_;refine Eu (YF (i:=6) [] Z Z QlR.nil (Ec (Ec (Ec (Ec (FzH.cells (Ed (Ee _) (Ed (Ee _) (Ed (Ee _) (Ed (Ee _) (Ed (Ee _) (Ed (Ee _) (Ed (Ee _) (Ed (Ee _) (Ed (Ee _) (Ed (Ee _) (Ed (Ee _) (Ed (Ee _) (Ed (Ee _) (Ed (Ee _) (Ed (Ee _) (Ed (Ee _) (Ed (Ee _) (Ed (Ee _) (Ed (Ee _) (Ed (Ee _) (Ed (Ee _) (Ed Er (Ek _))))))))))))))))))))))) (Ec (Ec (Q2 _))))))))) ?_;refine Cd [2,16,0,11,3,19,12,22,1,21,14,24,4,18,13,20,15,7,8,9,10] h (k_bw _ _ _ _ _ _ _ _ _ _ _ _ _ _ _ _ _ _ _ _ _ _ _) Z λz ao h=>?_;refine QbU (x:=(.tup [])) (H:=[.cells 33 (Course.c d),.cells 40 [.rsl 5 (map Hit.c q)],.cells 72 [.osl 25 0 z.1.length 2],.cells 84 [.ptr 4 0],.cells 121 (match_task.tc d g f.1 f.2.1 q f.2.2.1 (.map 7) (.fn (.func 72) [] [.ptr 8 0,.ptr 9 0,.ptr 10 0]) f.2.2.2.2),.dead,.dead,.map (Qj (λx=>A.int .i64 x) (λx=>A.agg (Ud.c x)) f.2.2.2.1),.cells 84 [.ptr 4 0],.cells 33 (Course.c d),.cells 37 (Clocks.c g),.cells 3 [I (f.1.length:Int)],.cells 122 [.map 13],.map (Qj (λx=>A.int .i64 x) (λx=>A.int .i64 x) z.2.2.1),.cells 122 [.map 15],.map (Qj (λx=>A.int .i64 x) (λx=>A.int .i64 x) z.2.2.2.2),.cells 123 [.fn (.func 36) [] [.ptr 14 0,.ptr 12 0]],.dead,.row 3 1 (map (Qe .i64) z.2.1),.cells 44 [.osl 18 0 z.2.1.length 1],.row 4 1 (map Y4 z.2.2.2.1),.cells 125 [.osl 20 0 z.2.2.2.1.length 1],.cells 126 [.fn (.func 38) [] [.ptr 2 0,.ptr 16 0,.ptr 0 0,.ptr 11 0,.ptr 3 0,.ptr 19 0,.ptr 12 0,.ptr 22 0,.ptr 1 0,.ptr 21 0,.ptr 14 0]],.cells 128 [I (-1),I 0,I 0,I 0,I 0],.dead,.row 46 2 (map Way.c z.1)]) Z (by simp only[QX,Vj,Vk,List.set_cons_succ,List.set_cons_zero,VJ,Vh];rfl) ?_;refine Go 10 Z (Cn Z h (λag h=>?_) (λag h=>?_))
  .refine Gc 8 Z ?_;obtain rfl:=Oi h;refine⟨[(12,.ptr 1 0),(13,I (([],2).2))],[.row 46 2 (map Way.c (([],2).1)),.cells 72 [.osl 0 0 ((([],2).1).length) 2]],_,?_,Qg Z Z (Qif.cons (Q4 isAgg72 Z Z) (Qif.cons QcX.tmp Qif.nil)),Z,Z⟩;refine Eo (YK (i:=2) (m:=0) (t:=46) (k:=2) Z Z Z) ?_;exact Lr [26,2]
  refine Gc 10 Z (Cn Z h (λah h=>?_) (λah h=>?_))
  .refine Gc 8 Z ?_;obtain rfl:=Oi h;refine⟨[(12,.ptr 1 0),(13,I (([],190).2))],[.row 46 2 (map Way.c (([],190).1)),.cells 72 [.osl 0 0 ((([],190).1).length) 2]],_,?_,Qg Z Z (Qif.cons (Q4 isAgg72 Z Z) (Qif.cons QcX.tmp Qif.nil)),Z,Z⟩;refine Eo (YK (i:=2) (m:=0) (t:=46) (k:=2) Z Z Z) ?_;exact Lr [26,2]
  refine Gc 5 Z (Bd h λax F h=>?_);refine Qy [25] (OpC.fn call43 Z Z Z) (QmW (enc:=Way.c) Qf2 F (λx y c h=>k_kd n x y c h) isAgg46 Gh call44 Zf Z) ?_;rintro _ _ ⟨rfl,rfl⟩;refine FE Z ?_;refine Eu (Q1 (s:=83) Z (congrArg (λn=>A.osl 25 0 n 2) (QbZ F))) ?_;refine Eu (Q1 (s:=86) Z (congrArg (λn=>A.osl 25 0 n 2) (QbZ F))) ?_;refine Eu (Q1 (s:=89) Z (congrArg (λn=>A.osl 25 0 n 2) (QbZ F))) ?_;refine Eu (Qe6 (i:=2) Z (congrArg (λnz=>Blk.cells 72 [.osl 25 0 nz 2]) (QbZ F))) ?_;refine Go 10 Z ?_;obtain rfl:=Oi h;exact Rx [25,2] [12,13] Z (Qg Z Z (Qif.cons (Q4 isAgg72 Z Z) (Qif.cons QcX.tmp Qif.nil))) ⟨Z,Z⟩
def F_kv(n:Nat)(d:List Int)(f:Int)(a:Int):Option (Ctl Int (Ctl Unit Int)):=(bif decide (a<(d.length:Int))then(idx d a).bind λe=>(bif (f==e)then some (.done (.done a))else some (.cont (i64.wrap (a+1))))else some (.done (.cont ())))
def F_hh(n:Nat)(d:List Int)(e:Int):Option Int:=(iter (F_kv n d e) n 0:Option (Ctl Unit Int)).bind λf=>match f with|.cont a=>(some (-1))|.done a=>some a
theorem k_hh(n:Nat)(j:List Int)(k:Int):Ks (F_hh n j k) 62 [.rsl 1 (map (Qe .i64) j),I k] [] (λr=>I r):=by
 refine Kg 9 func62 Z Z Z Z λr h=>Lg 3 Z Z (Bd h λm p h=>Jn (b:=m) [] [] Ze Ze Zf ?_ (λq l=>?_))
 .refine G0 1 Z (Lp [] [0,1,7] (λe=>[(8,I e)]) Ze p Zf (Lr []) λe s a d=>?_);refine G0 6 Z (QV Z a (λf a=>?_) (λf a=>?_))
  .exact Gc 2 Z (Qk a (Gx 1 Z (YC d a Z (Lr []))))
  refine Gc 15 Z (Bd a λt g a=>Iz g Z (Go 4 Z (Cn Z a (λi a=>?_) (λi a=>?_))))
  .refine Gc 9 Z (Qp a ?_);obtain rfl:=Oj d a;exact Gx 1 Z (Ql (Gx 1 Z (Rt h 4 [])))
  exact Gc 7 Z (Qi a (Lr []))
 subst l;exact QC 6 Z h 4 []
def F_hd(n:Nat)(a:List Int)(d:Int):Option Bool:=(F_hh n a d).bind λe=>some (decide (0<=e))
theorem k_hd(n:Nat)(a:List Int)(d:Int):Ks (F_hd n a d) 27 [.rsl 1 (map (Qe .i64) a),I d] [] (λr=>.bool r):=by
 exact Kg 9 func27 Z Z Z Z λr h=>Cz [] h (k_hh _ _ _) Z λf e h=>Gt 5 Z h 4 []
def F_jy(n:Nat)(f:List Hit)(g:Way)(a:Int×Int):Option (Ctl (Int×Int) Int):=(bif decide (a.2<(f.length:Int))then(F_hd n g.Hits a.2).bind λd=>((bif (!d)then some (i64.wrap (a.1+1))else some a.1):Option Int).bind λe=>some (.cont (e,i64.wrap (a.2+1)))else some (.done a.1))
def F_br(n:Nat)(d:List Hit)(e:Way):Option Int:=(iter (F_jy n d e) n (0,0):Option Int).bind λa=>some a
theorem k_br(n:Nat)(l:List Hit)(m:Way):Ks (F_br n l m) 13 [.rsl 5 (map Hit.c l),.agg (Way.c m)] [] (λr=>I r):=by
 refine Kg 10 func13 Z Z Z Z λr h=>Lg 3 Z Z (Bd h λe p h=>Cg e [] [] (λe=>[(4,I e)]) Ze Zf ?_ ?_)
 .refine G0 1 Z (Lp [0] [3,7] (λf=>[(4,I f.1),(8,I f.2)]) Ze p Zf (Lr [0]) λf t a i=>?_);refine G0 6 Z (QV Z a (λj a=>?_) (λj a=>?_))
  .exact Gc 2 Z (Qk a (Gx 1 Z (cQo i a (Lr []))))
  refine Gc 15 Z (Cz [] a (k_hd _ _ _) Z λu s a=>Go 3 Z (Bd a λg d a=>Ct g [0] [3,7,8] (λg=>[(4,I g)]) Ze Zf ?_ (λenv H q=>?_)))
  .refine G0 0 Z (Cn Z d (λk d=>?_) (λk d=>?_))
   .exact YJ 5 Z d [0]
   exact YJ 1 Z d [0]
  exact Gx 2 Z (Ef q (Gc 4 Z (Qi a (Lr [0]))))
 exact QC 7 Z h 4 []
def F_cp(n:Nat)(h:Way)(w:Course)(x:Clocks)(s:List Int)(y:List Span)(i:List Hit)(z:List Ud)(B:Int)(E:List (Int×Ud))(t:Course)(u:Clocks)(a:(List (Int×Bool))×Uf×Int):Option (Ctl ((List (Int×Bool))×Uf×Int) (Ctl Unit Bool)):=(bif decide (a.2.2<(h.Hits.length:Int))then((idx h.Hits a.2.2).bind λd=>((bif (d != (-1))then((bif decide (d<0)then some true else(bif decide ((i.length:Int)<=d)then some true else(idx i d).bind λj=>(idx s a.2.2).bind λk=>(bif (j.Mat != k)then some true else(some (QB a.1 d false)).bind λl=>(bif l then some true else some (decide (h.Last<a.2.2)))))):Option Bool).bind λm=>(bif m then some (.done (.done (.done (.done false))))else(some (Q3 a.1 d true)).bind λp=>some (.cont p))else some (.cont a.1)):Option (Ctl (List (Int×Bool)) (Ctl ((List (Int×Bool))×Uf) (Ctl ((List (Int×Bool))×Uf×Int) (Ctl Unit Bool))))).bind λq=>match q with|.cont e=>(bif decide (h.Last<a.2.2)then some (.cont (e,a.2.1))else(F_as n a.2.1 a.2.2 d w x s y i z B E t u).bind λg=>(bif (!g.2)then some (.done (.done (.done false)))else some (.cont (e,g.1))))|.done e=>some e:Option (Ctl ((List (Int×Bool))×Uf) (Ctl ((List (Int×Bool))×Uf×Int) (Ctl Unit Bool)))).bind λr=>match r with|.cont f=>(some (.cont (f.1,f.2,i64.wrap (a.2.2+1))))|.done f=>some f else some (.done (.cont ())))
def F_bk(n:Nat)(d:Way)(g:Course)(m:Clocks)(e:List Int)(p:List Span)(h:List Hit)(q:List Ud)(i:Int)(r:List (Int×Ud))(j:Course)(k:Clocks):Option Bool:=((bif ((d.Hits.length:Int) != (e.length:Int))then some true else(bif decide (d.Last<(-1))then some true else(bif decide ((e.length:Int)<=d.Last)then some true else(bif decide (d.Last<i)then some true else(F_br n h d).bind λl=>some (decide (g.Faults.Strays<l)))))):Option Bool).bind λs=>(bif s then some false else(F_cm n).bind λt=>(iter (F_cp n d g m e p h q i r j k) n ([],{z_match_state with last:=(-1):Uf},0):Option (Ctl Unit Bool)).bind λf=>match f with|.cont a=>(some true)|.done a=>some a)
theorem k_bk(n:Nat)(X:Way)(a2:Course)(a3:Clocks)(Y:List Int)(a5:List Span)(u:List Hit)(a7:List Ud)(a8:Int)(a9:List (Int×Ud))(V:Course)(W:Clocks):Ks (F_bk n X a2 a3 Y a5 u a7 a8 a9 V W) 30 [.ptr 0 0,.agg (Way.c X)] [.cells 121 (match_task.tc a2 a3 Y a5 u a7 (.map 1) (.fn (.func 72) [] [.ptr 2 0,.ptr 3 0,.ptr 4 0]) a8),.map (Qj (λx=>A.int .i64 x) (λx=>A.agg (Ud.c x)) a9),.cells 84 [.ptr 0 0],.cells 33 (Course.c V),.cells 37 (Clocks.c W)] (λr=>.bool r):=by
 refine Kg 6 func30 Z Z Z Z λr h=>TC.scope ?_;refine G0 6 Z (Lg 5 Z Z (Bd h λb6 i h=>Ct b6 [0,1,2,3,4,5] [0,3] (λb6=>[(55,.bool b6)]) Ze Zf ?_ (λenv H ai=>?_)))
 .refine G0 0 Z (DSs 38 Z (D 2 Z ?_));refine DS.wo (x:=I (X.Hits.length:Int)) ?_ ?_
  .exact LnM EB Z Wp
  refine D 3 Z (DS.is 5 i Z Z Z (λaj i=>?_) (λaj i=>?_))
  .exact D 32 Z (Eh Z (Gl 3 Z i [0,1,2,3,4,5]))
  .refine D 5 Z (DS.is 10 i Z Z Z (λak i=>?_) (λak i=>?_))
   .exact D 27 Z (Eh Z (Gl 3 Z i [0,1,2,3,4,5]))
   .refine D 6 Z (DS.is 16 i Z Z Z (λaa i=>?_) (λaa i=>?_))
    .exact D 21 Z (Eh Z (Gl 3 Z i [0,1,2,3,4,5]))
    .refine D 9 Z (DS.is 25 i Z Z Z (λab i=>?_) (λab i=>?_))
     .exact D 12 Z (Eh Z (Gl 3 Z i [0,1,2,3,4,5]))
     .refine D 5 Z ?_;exact Dz [] i (k_br _ _ _) Z λaw ao i=>D 6 Z (Eh Z (Gl 3 Z i [0,1,2,3,4,5]))
 refine Gx 1 Z (Ef ai (Cn Z h (λac h=>?_) (λac h=>?_)))
 .exact QC 7 Z h 4 [0,1,2,3,4]
 refine Gc 4 Z (vH Yj ?_);refine Fg 5 Z Z (Cd [] h (k_cm _) Z λax aq h=>Fg 5 Z Z (TC.label ?_));refine Gx 6 Z (Lg 3 Z Z (Bd h λad ae h=>Jn (b:=ad) [0,1,2,3,4] [] Ze Ze Zf ?_ (λam al=>?_)))
 .refine G0 1 Z (Lp [0,1,2,3,4,5,6,8] [0,3,6,7,59,60] (λj=>[(61,I j.2.2)]) (λj=>[(6,.map (Qj (λx=>A.int .i64 x) A.bool j.1)),(7,.cells 128 (Uf.c j.2.1))]) ae Zf (Lr [0,1,2,3,4,5,6,8]) λj ar g p=>?_);refine G0 6 Z (QV Z g (λz g=>?_) (λz g=>?_))
  .exact Gc 2 Z (Qk g (Gx 1 Z (YC p g Z (Lr [0,1,2,3,4]))))
  refine Gc 3 Z (Bd g λaf d g=>Jn (b:=af) [0,1,2,3,4,5,6,7] [0,3,6,7,59,60,61] Ze (λq=>[(6,.map (Qj (λx=>A.int .i64 x) A.bool q.1)),(7,.cells 128 (Uf.c q.2))]) Zf ?_ (λq hb=>?_))
  .refine G0 4 Z (Bd d λw B d=>Iz B Z (Go 12 Z (Bd d λag f d=>Jn (b:=ag) [0,1,2,3,4,5,6,7] [0,3,6,7,8,9,59,60,61] Ze (λt=>[(6,.map (Qj (λx=>A.int .i64 x) A.bool t))]) Zf ?_ (λt hb=>?_))))
   .refine G0 0 Z (Cn Z f (λE f=>?_) (λE f=>?_))
    .refine Gc 2 Z (Bd f λs a f=>Cg s [0,1,2,3,4,5,6,7] [0,3,6,7,8,9,59,60,61] (λs=>[(107,.bool s)]) Ze Zf ?_ ?_)
     .refine G0 0 Z (DSs 38 Z (D 3 Z (DS.is 2 a Z Z Z (λF a=>?_) (λF a=>?_))))
      .exact D 35 Z (Eh Z (Gl 3 Z a [0,1,2,3,4,5,6,7]))
      .refine D 5 Z ?_;refine DS.v (x:=(I (u.length:Int))) (Qe1 (e:=Hit.c) (l:=u) EJ) ?_ (hg:=(gT Z));refine D 3 Z (DS.is 11 a Z Z Z (λG a=>?_) (λG a=>?_))
       .exact D 26 Z (Eh Z (Gl 3 Z a [0,1,2,3,4,5,6,7]))
       .refine D 5 Z ?_;obtain⟨m,J,a⟩:=Yh a;refine DS.v (x:=(.rp [I m.Mat,I m.Epoch,I m.Chip,I m.First,I m.Last])) (Js (e:=Hit.c) (l:=u) (v:=m) J EJ EW) ?_ (hg:=(gT Z));refine D 7 Z ?_;obtain⟨y,L,a⟩:=Yh a;refine DS.v (x:=(.rp [I y])) (Js (e:=(Qe .i64)) (l:=Y) (v:=y) L EB EC) ?_ (hg:=(gT Z));refine D 4 Z (DS.is 29 a Z Z Z (λM a=>?_) (λM a=>?_))
        .exact D 8 Z (Eh Z (Gl 3 Z a [0,1,2,3,4,5,6,7]))
        .refine D 2 Z ?_;obtain⟨ah,N,a⟩:=Yh a;refine DS.v (x:=(.bool ah)) (Ye (ev:=A.bool) (z0:=false) (k:=w) (l:=j.1) YR N underlying61 ES ZR.bool) ?_ (hg:=(gT Z));refine D 2 Z (DS.is 34 a Z Z Z (λO a=>?_) (λO a=>?_))
         iterate 2 exact D 3 Z (Eh Z (Gl 3 Z a [0,1,2,3,4,5,6,7]))
     refine Cn Z f (λP f=>?_) (λP f=>?_)
     .refine Gc 7 Z ?_;cases f;refine Ql (Gx 2 Z ?_);cases d;refine Ql (Gx 1 Z (Qp g ?_));obtain rfl:=Oj p g;exact Gx 1 Z (Ql (Gx 1 Z (Rt h 4 [0,1,2,3,4])))
     refine Gc 5 Z (Bd f λau Q f=>?_);refine vU (Q8 (ev:=A.bool) (k:=w) (v:=true) (l:=j.1) YR Q Z underlying61) ?_;refine Fg 1 Z Z ?_;cases f;exact Yp Z (Lr [0,1,2,3,4,5,6,7])
    refine Gc 1 Z ?_;cases f;exact Yp Z (Lr [0,1,2,3,4,5,6,7])
   subst hb;refine Gc 9 Z (Cn Z d (λR d=>?_) (λR d=>?_))
   .refine Gc 3 Z ?_;cases d;exact Yp Z (Lr [0,1,2,3,4,5,6,7])
   refine Gc 13 Z (Cd [0,1,2,3,4] d (k_as _ _ _ _ _ _ _ _ _ _ _ _ _ _) Z λav an d=>Fg 13 Z Z (Cn Z d (λT d=>?_) (λT d=>?_)))
   .refine Gc 7 Z ?_;cases d;refine Ql (Gx 1 Z (Qp g ?_));obtain rfl:=Oj p g;exact Gx 1 Z (Ql (Gx 1 Z (Rt h 4 [0,1,2,3,4])))
   refine Gc 2 Z ?_;cases d;exact Yp Z (Lr [0,1,2,3,4,5,6,7])
  subst hb;exact Gc 4 Z (Qi g (Lr [0,1,2,3,4,5,6,7]))
 subst al;exact QC 6 Z h 4 [0,1,2,3,4]
def F_bj(n:Nat)(f:Course)(g:Clocks)(i:List Hit)(k:Way)(l:Int)(a:(List Int)×(List Span)×(List Ud)×(List (Int×Ud))×Int)(d:Int):Option (Ctl Int (Ctl Unit (Int×Span×Int))):=(bif decide (0<=d)then(idx k.Hits d).bind λj=>(F_ai n d j f g a.1 a.2.1 i a.2.2.1 a.2.2.2.2 a.2.2.2.1 f g).bind λe=>(bif e.2 then(F_aj n d l f g a.1 a.2.1 i a.2.2.1 a.2.2.2.2 a.2.2.2.1 f g).bind λh=>some (.done (.done (e.1.segment,{Lo:=i64.wrap (e.1.span.Lo+h.Lo),Hi:=i64.wrap (e.1.span.Hi+h.Hi):Span},0)))else some (.cont (i64.wrap (d-1))))else some (.done (.cont ())))
def F_av(n:Nat)(f:Course)(g:Clocks)(i:List Hit)(j:Way)(l:Int)(a:(List Int)×(List Span)×(List Ud)×(List (Int×Ud))×Int)(d:Int):Option (Ctl Int (Ctl Unit (Int×Span×Int))):=(bif decide (d<=j.Last)then(idx j.Hits d).bind λk=>(F_ai n d k f g a.1 a.2.1 i a.2.2.1 a.2.2.2.2 a.2.2.2.1 f g).bind λe=>(bif e.2 then(F_aj n l d f g a.1 a.2.1 i a.2.2.1 a.2.2.2.2 a.2.2.2.1 f g).bind λh=>some (.done (.done (e.1.segment,{Lo:=i64.wrap (e.1.span.Lo-h.Hi),Hi:=i64.wrap (e.1.span.Hi-h.Lo):Span},0)))else some (.cont (i64.wrap (d+1))))else some (.done (.cont ())))
def F_y(n:Nat)(e:Course)(f:Clocks)(p:Starter)(q:Int)(i:List Hit)(r:List Hand)(j:Way)(d:Int):Option (Int×Span×Int):=(F_ad n e f p q i r).bind λs=>(match s with|.c0 k=>((bif (k != 0)then some (0,{Lo:=0,Hi:=0:Span},k)else none))|.c1 a=>((F_bk n j e f a.1 a.2.1 i a.2.2.1 a.2.2.2.2 a.2.2.2.1 e f).bind λt=>(bif (!t)then some (0,{Lo:=0,Hi:=0:Span},190)else((bif decide (d<0)then some true else some (decide (j.Last<d))):Option Bool).bind λu=>(bif u then some (0,{Lo:=0,Hi:=0:Span},1)else(iter (F_bj n e f i j d a) n d:Option (Ctl Unit (Int×Span×Int))).bind λl=>match l with|.cont g=>((iter (F_av n e f i j d a) n d:Option (Ctl Unit (Int×Span×Int))).bind λm=>match m with|.cont h=>(some ((-1),{Lo:=(-1099511627776),Hi:=1099511627776:Span},0))|.done h=>some h)|.done g=>some g))))
theorem k_y(n:Nat)(e:Course)(j:Clocks)(w:Starter)(O:Int)(s:List Hit)(P:List Hand)(y:Way)(Q:Int):Kq (F_y n e j w O s P y Q) 15 [.agg (Course.c e),.agg (Clocks.c j),.agg (Starter.c w),I O,.rsl 5 (map Hit.c s),.rsl 4 (map Hand.c P),.agg (Way.c y),I Q] [] (λr=>.tup [I r.1,.agg [I r.2.1.Lo,I r.2.1.Hi],I r.2.2]) (λr=>[.cells 55 [I r.2.1.Lo,I r.2.1.Hi]]):=by
 refine Kg 19 func15 Z Z Z Z λr h=>Bd h λr1 R h=>?_;refine Qy [] (OpC.fn call29 Z Z Z) (k_ad _ _ _ _ _ _ _ _ R) ?_;intro ra rH T;rcases r1 with x3|f
 .obtain⟨rfl,rfl⟩:=T;refine Fg 14 Z Z (Cn Z h (λV h=>?_) (λV h=>?_))
  .refine Gc 1 Z ?_;refine TC.draw0 4 [40,41,16,1000003] [.agg [I 0,I 0],I x3,I 0,.any] draws Z Z Z ?_ ?_
   .refine ov (ov (ov (Oq.c ?_ (Oq.n))))
    .refine Om2 Z (sO 17 (sD 0 sN)) ?_;refine vU (Ey Z Z Z ED Z Z Z Z Z Z Z) ?_;exact FE Z Wp
   refine Go 5 Z ?_;obtain rfl:=Oi h;exact Rx [4] [16,17,18] Z (Qg Z Z (Qif.cons QcX.tmp (Qif.cons (Qf EG ED Z Z Z) (Qif.cons QcX.tmp Qif.nil)))) ⟨Z,Z⟩
  refine Gc 4 Z ?_;cases h
 .obtain⟨rfl,rfl⟩:=T;refine aV (.tup [.ptr 5 0,I 0]) [.cells 33 (Course.c e),.cells 37 (Clocks.c j),.cells 39 (Starter.c w),.cells 46 (Way.c y),.cells 55 [I 0,I 0],.cells 121 [.str e.Name,.rsl 2 (map Mat.c e.Mats),.rsl 4 (map Leg.c e.Legs),.rsl 5 (map Distance.c e.Distances),.rsl 2 (map Wave.c e.Waves),.rsl 4 (map Offence.c e.Offences),.rsl 3 (map Category.c e.Categories),.rsl 4 (map Prize.c e.Prizes),.rsl 8 (map Step.enc e.Ties),I e.Faults.Misses,I e.Faults.Strays,I e.Faults.Window,I e.Faults.Residual,I e.Faults.Drift,I e.Fee,I e.Deadline,.rsl 3 (map Segment.c j.Segments),.rsl 1 (map (QN 1 (Qe .i64)) j.Far),.rsl 1 (map (Qe .i64) f.1),.osl 6 0 f.2.1.length 2,.rsl 5 (map Hit.c s),.osl 7 0 f.2.2.1.length 3,.map 8,.fn (.func 72) [] [.ptr 9 0,.ptr 10 0,.ptr 11 0],I f.2.2.2.2],.row 55 2 (map Span.c f.2.1),.row 88 3 (map Ud.c f.2.2.1),.map (Qj (λx=>A.int .i64 x) (λx=>A.agg (Ud.c x)) f.2.2.2.1),.cells 84 [.ptr 5 0],.cells 33 (Course.c e),.cells 37 (Clocks.c j)] Z Z ?_;refine Go 11 Z ?_;refine vX (.bool false) (OpV.neq (m:=0) (n:=0) Z Z Z) ?_;refine Go 10 Z ?_;refine Eu (YF (i:=6) [] Z Z QlR.nil (Ec (Ec (Ec (Ec (Ec (FzH.cells (Ed (Ee _) (Ed (Ee _) (Ed (Ee _) (Ed (Ee _) (Ed (Ee _) (Ed (Ee _) (Ed (Ee _) (Ed (Ee _) (Ed (Ee _) (Ed (Ee _) (Ed (Ee _) (Ed (Ee _) (Ed (Ee _) (Ed (Ee _) (Ed (Ee _) (Ed (Ee _) (Ed (Ee _) (Ed (Ee _) (Ed (Ee _) (Ed Er (Ek _))))))))))))))))))))) (Ec (Q2 _))))))))) ?_;refine Eu (YF (i:=7) [] Z Z QlR.nil (Ec (Ec (Ec (Ec (Ec (FzH.cells (Ed (Ee _) (Ed (Ee _) (Ed (Ee _) (Ed (Ee _) (Ed (Ee _) (Ed (Ee _) (Ed (Ee _) (Ed (Ee _) (Ed (Ee _) (Ed (Ee _) (Ed (Ee _) (Ed (Ee _) (Ed (Ee _) (Ed (Ee _) (Ed (Ee _) (Ed (Ee _) (Ed (Ee _) (Ed (Ee _) (Ed (Ee _) (Ed (Ee _) (Ed (Ee _) (Ed Er (Ek _))))))))))))))))))))))) (Ec (Ec (Q2 _)))))))))) ?_;refine Cz [5,8,9,10,11] h (k_bk _ _ _ _ _ _ _ _ _ _ _ _) Z λr6 ai h=>Go 3 Z (Cn Z h (λW h=>?_) (λW h=>?_))
  .refine Gc 1 Z (DSs 2 Z (D 2 Z (Eh Z (Go 6 Z ?_))));obtain rfl:=Oi h;exact Rx [4] [16,17,18] Z (Qg Z Z (Qif.cons QcX.tmp (Qif.cons (Qf EG ED Z Z Z) (Qif.cons QcX.tmp Qif.nil)))) ⟨Z,Z⟩
  refine Gc 4 Z (Bd h λz g h=>Ct z [3,4,5,8,9,10,11] [7,14,17,19] (λz=>[(54,.bool z)]) (λ_=>[(2,.cells 121 (match_task.tc e j f.1 f.2.1 s f.2.2.1 (.map 3) (.fn (.func 72) [] [.ptr 4 0,.ptr 5 0,.ptr 6 0]) f.2.2.2.2)),(4,.cells 84 [.ptr 2 0])]) Zf ?_ (λenv H k=>?_))
  .refine G0 4 Z (Is 49 g Z (λB g=>?_) (λB g=>?_))
   iterate 2 exact Gl 6 Z g [3,4,5,8,9,10,11]
  refine Gx 1 Z (Ef k (Cn Z h (λE h=>?_) (λE h=>?_)))
  .refine Gc 1 Z (DSs 2 Z (D 2 Z (Eh Z (Go 6 Z ?_))));obtain rfl:=Oi h;exact Rx [1] [16,17,18] Z (Qg Z Z (Qif.cons QcX.tmp (Qif.cons (Qf EG ED Z Z Z) (Qif.cons QcX.tmp Qif.nil)))) ⟨Z,Z⟩
  refine Gc 9 Z (Bd h λX Y h=>CtE (b:=X) [0,1,2,3,4,5,6] [7,14,17,19] Ze Ze Zf ?_ (λac env H l k=>?_))
  .refine G0 1 Z (Lp [0,1,2,3,4,5,6] [7,14,17,19] (λt=>[(20,I t)]) Ze Y Zf (Lr [0,1,2,3,4,5,6]) λt aj a p=>?_);refine G0 7 Z (QV Z a (λF a=>?_) (λF a=>?_))
   .exact Gc 2 Z (Qk a (Gx 1 Z (YC p a Z (Lr [0,1,2,3,4,5,6]))))
   refine Gc 11 Z (Bd a λak G a=>Iz G Z (Go 1 Z (Cd [2,3,4,5,6] a (k_ai _ _ _ _ _ _ _ _ _ _ _ _ _) Z λal ad a=>Fg 13 Z Z (Cn Z a (λJ a=>?_) (λJ a=>?_)))))
   .refine Gc 5 Z (Cd [2,3,4,5,6] a (k_aj _ _ _ _ _ _ _ _ _ _ _ _ _) Z λam ae a=>Fg 5 Z Z (DSs 16 Z (D 16 Z (Eh Z (Go 7 Z (Qp a ?_))))));obtain rfl:=Oj p a;refine Gx 1 Z (Ql (Gx 1 Z ?_));obtain rfl:=Oi h;exact Rx [1] [16,17,18] Z (Qg Z Z (Qif.cons QcX.tmp (Qif.cons (Qf EG ED Z Z Z) (Qif.cons QcX.tmp Qif.nil)))) ⟨Z,Z⟩
   exact Gc 8 Z (Qi a (Lr [0,1,2,3,4,5,6]))
  subst l;refine Gx 1 Z (Ef k (Gc 7 Z (Bd h λaa ab h=>Jn (b:=aa) [1] [17] Ze Ze Zf ?_ (λaf l=>?_))))
  .refine G0 1 Z (Lp [0,1,2,3,4,5,6] [7,14,17,19] (λu=>[(24,I u)]) Ze ab Zf (Lr [0,1,2,3,4,5,6]) λu an d q=>?_);refine G0 9 Z (QV Z d (λL d=>?_) (λL d=>?_))
   .exact Gc 2 Z (Qk d (Gx 1 Z (YC q d Z (Lr [1]))))
   refine Gc 11 Z (Bd d λao M d=>Iz M Z (Go 1 Z (Cd [2,3,4,5,6] d (k_ai _ _ _ _ _ _ _ _ _ _ _ _ _) Z λaq ag d=>Fg 13 Z Z (Cn Z d (λN d=>?_) (λN d=>?_)))))
   .refine Gc 5 Z (Cd [2,3,4,5,6] d (k_aj _ _ _ _ _ _ _ _ _ _ _ _ _) Z λar ah d=>Fg 5 Z Z (DSs 16 Z (D 16 Z (Eh Z (Go 7 Z (Qp d ?_))))));obtain rfl:=Oj q d;refine Gx 1 Z (Ql (Gx 1 Z ?_));obtain rfl:=Oi h;exact Rx [1] [16,17,18] Z (Qg Z Z (Qif.cons QcX.tmp (Qif.cons (Qf EG ED Z Z Z) (Qif.cons QcX.tmp Qif.nil)))) ⟨Z,Z⟩
   exact Gc 8 Z (Qi d (Lr [0,1,2,3,4,5,6]))
  subst l;refine Gc 9 Z ?_;obtain rfl:=Oi h;exact Rx [0] [16,17,18] Z (Qg Z Z (Qif.cons QcX.tmp (Qif.cons (Qf EG ED Z Z Z) (Qif.cons QcX.tmp Qif.nil)))) ⟨Z,Z⟩
def F_mi(n:Nat)(d:List Int)(g:List Int)(a:Int):Option (Ctl Int (Ctl Unit Bool)):=(bif decide (a<(d.length:Int))then(idx d a).bind λe=>(idx g a).bind λf=>(bif (e != f)then some (.done (.done false))else some (.cont (i64.wrap (a+1))))else some (.done (.cont ())))
def F_ie(n:Nat)(d:List Int)(e:List Int):Option Bool:=(bif ((d.length:Int) != (e.length:Int))then some false else(iter (F_mi n d e) n 0:Option (Ctl Unit Bool)).bind λf=>match f with|.cont a=>(some true)|.done a=>some a)
theorem k_ie(n:Nat)(k:List Int)(l:List Int):Ks (F_ie n k l) 86 [.rsl 1 (map (Qe .i64) k),.rsl 1 (map (Qe .i64) l)] [] (λr=>.bool r):=by
 refine Kg 9 func86 Z Z Z Z λr h=>Lg 1 Z Z (Lg 3 Z Z (Cn Z h (λm h=>?_) (λm h=>?_)))
 .exact QC 7 Z h 4 []
 refine Gc 8 Z (Bd h λp q h=>Jn (b:=p) [] [] Ze Ze Zf ?_ (λw s=>?_))
 .refine G0 1 Z (Lp [] [0,1] (λe=>[(5,I e)]) Ze q Zf (Lr []) λe y a d=>?_);refine G0 5 Z (Lg 3 Z Z (QV Z a (λf a=>?_) (λf a=>?_)))
  .exact Gc 2 Z (Qk a (Gx 1 Z (YC d a Z (Lr []))))
  refine Gc 5 Z (DSs 8 Z (D 2 Z ?_));obtain⟨t,g,a⟩:=Yh a;refine DS.wo (x:=.rp [I t]) ?_ ?_
  .exact Ix g EB EC Z Wp
  refine D 3 Z ?_;obtain⟨u,i,a⟩:=Yh a;refine DS.wo (x:=.rp [I u]) ?_ ?_
  .exact Ix i EB EC Z Wp
  refine D 1 Z (Eh Z (Go 3 Z (Cn Z a (λj a=>?_) (λj a=>?_))))
  .refine Gc 8 Z (Qp a ?_);obtain rfl:=Oj d a;exact Gx 1 Z (Ql (Gx 1 Z (Rt h 4 [])))
  exact Gc 8 Z (Qi a (Lr []))
 subst s;exact QC 6 Z h 4 []
def F_jj(n:Nat)(a:Way)(d:Way):Option Bool:=((bif (a.Last==d.Last)then(F_ie n a.Hits d.Hits).bind λe=>some e else some false):Option Bool).bind λf=>some f
theorem k_jj(n:Nat)(e:Way)(f:Way):Ks (F_jj n e f) 46 [.agg (Way.c e),.agg (Way.c f)] [] (λr=>.bool r):=by
 refine Kg 8 func46 Z Z Z Z λr h=>Bd h λd a h=>Cg d [] [] (λd=>[(4,.bool d)]) Ze Zf ?_ ?_
 .refine G0 7 Z (Is 10 a Z (λg a=>?_) (λg a=>?_))
  .exact Go 4 Z (Cz [] a (k_ie _ _ _) Z λj i a=>Gl 3 Z a [])
  .exact Gl 8 Z a []
 exact QC 1 Z h 4 []
def F_lu(n:Nat)(d:List Way)(h:List Way)(a:Int):Option (Ctl Int (Ctl Unit Bool)):=(bif decide (a<(d.length:Int))then(idx d a).bind λe=>(idx h a).bind λf=>(F_jj n e f).bind λg=>(bif (!g)then some (.done (.done false))else some (.cont (i64.wrap (a+1))))else some (.done (.cont ())))
def F_dj(n:Nat)(d:List Way)(e:List Way):Option Bool:=(bif ((d.length:Int) != (e.length:Int))then some false else(iter (F_lu n d e) n 0:Option (Ctl Unit Bool)).bind λf=>match f with|.cont a=>(some true)|.done a=>some a)
theorem k_dj(n:Nat)(m:List Way)(p:List Way):Ks (F_dj n m p) 21 [.rsl 2 (map Way.c m),.rsl 2 (map Way.c p)] [] (λr=>.bool r):=by
 refine Kg 9 func21 Z Z Z Z λr h=>Lg 1 Z Z (Lg 3 Z Z (Cn Z h (λq h=>?_) (λq h=>?_)))
 .exact QC 7 Z h 4 []
 refine Gc 8 Z (Bd h λs t h=>Jn (b:=s) [] [] Ze Ze Zf ?_ (λw u=>?_))
 .refine G0 1 Z (Lp [] [0,1] (λe=>[(5,I e)]) Ze t Zf (Lr []) λe z a d=>?_);refine G0 5 Z (Lg 3 Z Z (QV Z a (λi a=>?_) (λi a=>?_)))
  .exact Gc 2 Z (Qk a (Gx 1 Z (YC d a Z (Lr []))))
  refine Gc 5 Z (DSs 8 Z (D 2 Z ?_));obtain⟨f,j,a⟩:=Yh a;refine DS.wo (x:=.rp [.rsl 1 (map (Qe .i64) f.Hits),I f.Last]) ?_ ?_
  .exact Ix j Ge Gh Z Wp
  refine D 3 Z ?_;obtain⟨g,k,a⟩:=Yh a;refine DS.wo (x:=.rp [.rsl 1 (map (Qe .i64) g.Hits),I g.Last]) ?_ ?_
  .exact Ix k Ge Gh Z Wp
  refine D 1 Z (Eh Z (Cz [] a (k_jj _ _ _) Z λB y a=>Go 3 Z (Cn Z a (λl a=>?_) (λl a=>?_))))
  .refine Gc 8 Z (Qp a ?_);obtain rfl:=Oj d a;exact Gx 1 Z (Ql (Gx 1 Z (Rt h 4 [])))
  exact Gc 8 Z (Qi a (Lr []))
 subst u;exact QC 6 Z h 4 []
def F_ke(n:Nat)(d:Course)(e:Clocks)(h:Starter)(i:Int)(f:List Hit)(j:List Hand)(k:Way):Option Int:=(F_ad n d e h i f j).bind λl=>(match l with|.c0 g=>((bif (g != 0)then some g else none))|.c1 a=>((F_bk n k d e a.1 a.2.1 f a.2.2.1 a.2.2.2.2 a.2.2.2.1 d e).bind λm=>(bif (!m)then some 190 else some 0)))
theorem k_ke(n:Nat)(a:Course)(e:Clocks)(f:Starter)(k:Int)(g:List Hit)(l:List Hand)(j:Way):Ks (F_ke n a e f k g l j) 22 [.agg (Course.c a),.agg (Clocks.c e),.agg (Starter.c f),I k,.rsl 5 (map Hit.c g),.rsl 4 (map Hand.c l),.agg (Way.c j)] [] (λr=>I r):=by
 refine Kg 17 func22 Z Z Z Z λr h=>Bd h λu p h=>?_;refine Qy [] (OpC.fn call29 Z Z Z) (k_ad _ _ _ _ _ _ _ _ p) ?_;intro ra rH q;rcases u with y|d
 .obtain⟨rfl,rfl⟩:=q;refine Fg 14 Z Z (Cn Z h (λs h=>?_) (λs h=>?_))
  .exact QC 8 Z h 14 []
  refine Gc 4 Z ?_;cases h
 .obtain⟨rfl,rfl⟩:=q;refine aV (.tup [.ptr 4 0,I 0]) [.cells 33 (Course.c a),.cells 37 (Clocks.c e),.cells 39 (Starter.c f),.cells 46 (Way.c j),.cells 121 [.str a.Name,.rsl 2 (map Mat.c a.Mats),.rsl 4 (map Leg.c a.Legs),.rsl 5 (map Distance.c a.Distances),.rsl 2 (map Wave.c a.Waves),.rsl 4 (map Offence.c a.Offences),.rsl 3 (map Category.c a.Categories),.rsl 4 (map Prize.c a.Prizes),.rsl 8 (map Step.enc a.Ties),I a.Faults.Misses,I a.Faults.Strays,I a.Faults.Window,I a.Faults.Residual,I a.Faults.Drift,I a.Fee,I a.Deadline,.rsl 3 (map Segment.c e.Segments),.rsl 1 (map (QN 1 (Qe .i64)) e.Far),.rsl 1 (map (Qe .i64) d.1),.osl 5 0 d.2.1.length 2,.rsl 5 (map Hit.c g),.osl 6 0 d.2.2.1.length 3,.map 7,.fn (.func 72) [] [.ptr 8 0,.ptr 9 0,.ptr 10 0],I d.2.2.2.2],.row 55 2 (map Span.c d.2.1),.row 88 3 (map Ud.c d.2.2.1),.map (Qj (λx=>A.int .i64 x) (λx=>A.agg (Ud.c x)) d.2.2.2.1),.cells 84 [.ptr 4 0],.cells 33 (Course.c a),.cells 37 (Clocks.c e)] Z Z ?_;refine Go 11 Z ?_;refine vX (.bool false) (OpV.neq (m:=0) (n:=0) Z Z Z) ?_;refine Go 10 Z ?_;refine Eu (YF (i:=5) [] Z Z QlR.nil (Ec (Ec (Ec (Ec (FzH.cells (Ed (Ee _) (Ed (Ee _) (Ed (Ee _) (Ed (Ee _) (Ed (Ee _) (Ed (Ee _) (Ed (Ee _) (Ed (Ee _) (Ed (Ee _) (Ed (Ee _) (Ed (Ee _) (Ed (Ee _) (Ed (Ee _) (Ed (Ee _) (Ed (Ee _) (Ed (Ee _) (Ed (Ee _) (Ed (Ee _) (Ed (Ee _) (Ed Er (Ek _))))))))))))))))))))) (Ec (Q2 _)))))))) ?_;refine Eu (YF (i:=6) [] Z Z QlR.nil (Ec (Ec (Ec (Ec (FzH.cells (Ed (Ee _) (Ed (Ee _) (Ed (Ee _) (Ed (Ee _) (Ed (Ee _) (Ed (Ee _) (Ed (Ee _) (Ed (Ee _) (Ed (Ee _) (Ed (Ee _) (Ed (Ee _) (Ed (Ee _) (Ed (Ee _) (Ed (Ee _) (Ed (Ee _) (Ed (Ee _) (Ed (Ee _) (Ed (Ee _) (Ed (Ee _) (Ed (Ee _) (Ed (Ee _) (Ed Er (Ek _))))))))))))))))))))))) (Ec (Ec (Q2 _))))))))) ?_;refine Cz [4,7,8,9,10] h (k_bk _ _ _ _ _ _ _ _ _ _ _ _) Z λz w h=>Go 3 Z (Cn Z h (λt h=>?_) (λt h=>?_))
  .exact QC 7 Z h 14 []
  exact QC 8 Z h 14 []
abbrev lit_2:List Distance:=[{Name:=[100],Route:=[Ut,{Ut with Mat:=1:Part},{Ut with Mat:=2:Part}],Timing:=1,Cutoffs:=[],Extra:=(-1):Distance}]
abbrev lit_3:List Mat:=[{Name:=[108,105,110,101],Kind:=1:Mat},{Name:=[116,117,114,110],Kind:=2:Mat},{Name:=[103,111,97,108],Kind:=3:Mat}]
abbrev lit_4:List Leg:=[{From:=0,To:=1,Min:=30,Max:=40:Leg},{From:=1,To:=2,Min:=5,Max:=50:Leg}]
abbrev lit_0:List A:=[.str [97],.rsl 2 (map Mat.c lit_3),.rsl 4 (map Leg.c lit_4),.rsl 5 (map Distance.c lit_2),.rsl 2 (map Wave.c [{Name:=[119],Gun:=0:Wave}]),.rsl 4 (map Offence.c []),.rsl 3 (map Category.c []),.rsl 4 (map Prize.c []),.rsl 8 (map Step.enc [{Uv with Kind:=1,By:=5:Step}]),I 1,I 0,I 0,I 0,I 0,I 0,I 0]
abbrev lit_1:Course:={Name:=[97],Mats:=lit_3,Legs:=lit_4,Distances:=lit_2,Waves:=[{Name:=[119],Gun:=0:Wave}],Offences:=[],Categories:=[],Prizes:=[],Ties:=[{Uv with Kind:=1,By:=5:Step}],Faults:={Up with Misses:=1:Faults},Fee:=0,Deadline:=0:Course}
abbrev lit_5:List Way:=[{Hits:=[(-1),(-1),(-1)],Last:=(-1):Way},{Hits:=[(-1),(-1),(-1)],Last:=0:Way}]
abbrev lit_6:List Way:=[{Hits:=[0,(-1),(-1)],Last:=0:Way},{Hits:=[0,(-1),(-1)],Last:=1:Way}]
abbrev lit_7:List Hit:=[{Mat:=0,Epoch:=0,Chip:=7,First:=100,Last:=100:Hit}]
abbrev lit_8:Clocks:={Segments:=[],Far:=[[0]]:Clocks}
def F_hf(n:Nat):Option Bool:=(F_jr n).bind λq=>(F_at n (lit_1) (lit_8) Uu 0 [] []).bind λd=>(F_at n (lit_1) (lit_8) Uu 0 lit_7 []).bind λe=>(F_at n Un (lit_8) Uu 0 [] []).bind λm=>(F_at n (lit_1) (lit_8) Uu 0 [] [{Uq with Position:=3:Hand}]).bind λp=>(F_y n (lit_1) (lit_8) Uu 0 lit_7 [] ({Hits:=[0,(-1),(-1)],Last:=1:Way}) 1).bind λa=>((bif (d.2 != 0)then some true else(bif (e.2 != 0)then some true else(bif (m.2 != 70)then some true else(bif (p.2 != 190)then some true else(bif (a.2.2 != 0)then some true else(bif (a.1 != (-1))then some true else some (({Lo:=a.2.1.Lo,Hi:=a.2.1.Hi:Span}) != ({Lo:=130,Hi:=140:Span})))))))):Option Bool).bind λf=>(bif f then some false else((F_dj n d.1 lit_5).bind λg=>(bif g then(F_dj n e.1 lit_6).bind λh=>(bif h then(slc [(-1),(-1),(-1)] 0 2).bind λi=>(F_ke n (lit_1) (lit_8) Uu 0 [] [] ({Hits:=i,Last:=0:Way})).bind λj=>(bif (j==190)then(F_br n [Ur,Ur] ({Hits:=[],Last:=0:Way})).bind λk=>some (k==2)else some false)else some false)else some false):Option Bool).bind λl=>some l)
theorem k_hf(n:Nat):Ks (F_hf n) 9 [] [] (λr=>.bool r):=by
 refine Kg 7 func9 Z Z Z Z λr h=>Cd [] h (k_jr _) Z λr1 ab h=>?_;refine aV (.agg [.str [97],.osl 0 0 (lit_3.length) 2,.osl 1 0 (lit_4.length) 4,.osl 2 0 (lit_2.length) 5,.osl 3 0 ([{Name:=[119],Gun:=0:Wave}].length) 2,.rsl 4 (map Offence.c []),.rsl 3 (map Category.c []),.rsl 4 (map Prize.c []),.osl 4 0 ([{Uv with Kind:=1,By:=5:Step}].length) 8,I 1,I 0,I 0,I 0,I 0,I 0,I 0]) [.row 108 2 (map Mat.c lit_3),.row 110 4 (map Leg.c lit_4),.row 116 5 (map Distance.c lit_2),.row 106 2 (map Wave.c [{Name:=[119],Gun:=0:Wave}]),.row 104 8 (map Step.enc [{Uv with Kind:=1,By:=5:Step}]),.cells 33 [.str [97],.osl 0 0 (lit_3.length) 2,.osl 1 0 (lit_4.length) 4,.osl 2 0 (lit_2.length) 5,.osl 3 0 ([{Name:=[119],Gun:=0:Wave}].length) 2,.rsl 4 (map Offence.c []),.rsl 3 (map Category.c []),.rsl 4 (map Prize.c []),.osl 4 0 ([{Uv with Kind:=1,By:=5:Step}].length) 8,I 1,I 0,I 0,I 0,I 0,I 0,I 0]] Z Z ?_;refine vH (El (xs:=[.const (.int .i64 0)]) (es:=map (Qe .i64) [0]) QE Z Z Z Z Z ⟨Z,trivial⟩ Z Z) ?_;refine aV (.osl 6 0 ([0].length) 1) [_,_,_,_,_,_,.row 3 1 (map (Qe .i64) [0])] Z Z ?_;refine Eu (YF [(17,_)] Z Z (QlR.cons Z Er QlR.nil) (Ec (Ec (Ec (Ec (Ec (Ec (Ec (Q2 _))))))))) ?_;refine vH (El (xs:=[.tmp 17]) (es:=map (QN 1 (Qe .i64)) [[0]]) el_35 Z Z Z Z Z ⟨Z,trivial⟩ Z Z) ?_;refine aV (.osl 7 0 ([[0]].length) 1) [_,_,_,_,_,_,.dead,.row 44 1 (map (QN 1 (Qe .i64)) [[0]])] Z Z ?_;refine Go 10 Z (vH (El (xs:=[.tmp 20]) (es:=map Hit.c lit_7) Qm1 Z Z Z Z Z ⟨Z,trivial⟩ Z Z) ?_);refine aV (.osl 10 0 (lit_7.length) 5) [_,_,_,_,_,_,_,_,_,_,.row 65 5 (map Hit.c lit_7)] Z Z ?_;refine Go 8 Z ?_;refine Eu (YF [(16,_),(23,_)] Z Z (QlR.cons Z (FzA.agg (Ed (Ee _) (Ed Er (Ek _)))) (QlR.cons Z (FzA.agg (Ed (Ee _) (Ed Er (Ek _)))) QlR.nil)) (Ec (Ec (Ec (Ec (Ec (FzH.cells (Ed (Ee _) (Ed Er (Ek _))) (Ec (Ec (FzH.cells (Ed (Ee _) (Ed Er (Ek _))) (Q2 _))))))))))) ?_;refine Eu (YF [(16,_),(23,_)] Z Z (QlR.cons Z (FzA.agg (Ed (Ee _) (Ed (Ee _) (Ed Er (Ek _))))) (QlR.cons Z (FzA.agg (Ed (Ee _) (Ed (Ee _) (Ed Er (Ek _))))) QlR.nil)) (Ec (Ec (Ec (Ec (Ec (FzH.cells (Ed (Ee _) (Ed (Ee _) (Ed Er (Ek _)))) (Ec (Ec (FzH.cells (Ed (Ee _) (Ed (Ee _) (Ed Er (Ek _)))) (Q2 _))))))))))) ?_;refine Eu (YF [(16,_),(23,_)] Z Z (QlR.cons Z (FzA.agg (Ed (Ee _) (Ed (Ee _) (Ed (Ee _) (Ed Er (Ek _)))))) (QlR.cons Z (FzA.agg (Ed (Ee _) (Ed (Ee _) (Ed (Ee _) (Ed Er (Ek _)))))) QlR.nil)) (Ec (Ec (Ec (Ec (Ec (FzH.cells (Ed (Ee _) (Ed (Ee _) (Ed (Ee _) (Ed Er (Ek _))))) (Ec (Ec (FzH.cells (Ed (Ee _) (Ed (Ee _) (Ed (Ee _) (Ed Er (Ek _))))) (Q2 _))))))))))) ?_;refine Eu (YF [(16,_),(23,_)] Z Z (QlR.cons Z (FzA.agg (Ed (Ee _) (Ed (Ee _) (Ed (Ee _) (Ed (Ee _) (Ed Er (Ek _))))))) (QlR.cons Z (FzA.agg (Ed (Ee _) (Ed (Ee _) (Ed (Ee _) (Ed (Ee _) (Ed Er (Ek _))))))) QlR.nil)) (Ec (Ec (Ec (Ec (Ec (FzH.cells (Ed (Ee _) (Ed (Ee _) (Ed (Ee _) (Ed (Ee _) (Ed Er (Ek _)))))) (Ec (Ec (FzH.cells (Ed (Ee _) (Ed (Ee _) (Ed (Ee _) (Ed (Ee _) (Ed Er (Ek _)))))) (Q2 _))))))))))) ?_;refine Eu (YF [(16,_),(23,_)] Z Z (QlR.cons Z (FzA.agg (Ed (Ee _) (Ed (Ee _) (Ed (Ee _) (Ed (Ee _) (Ed (Ee _) (Ed (Ee _) (Ed (Ee _) (Ed (Ee _) (Ed Er (Ek _))))))))))) (QlR.cons Z (FzA.agg (Ed (Ee _) (Ed (Ee _) (Ed (Ee _) (Ed (Ee _) (Ed (Ee _) (Ed (Ee _) (Ed (Ee _) (Ed (Ee _) (Ed Er (Ek _))))))))))) QlR.nil)) (Ec (Ec (Ec (Ec (Ec (FzH.cells (Ed (Ee _) (Ed (Ee _) (Ed (Ee _) (Ed (Ee _) (Ed (Ee _) (Ed (Ee _) (Ed (Ee _) (Ed (Ee _) (Ed Er (Ek _)))))))))) (Ec (Ec (FzH.cells (Ed (Ee _) (Ed (Ee _) (Ed (Ee _) (Ed (Ee _) (Ed (Ee _) (Ed (Ee _) (Ed (Ee _) (Ed (Ee _) (Ed Er (Ek _)))))))))) (Q2 _))))))))))) ?_;refine Eu (YF [(18,_),(19,_),(24,_)] Z Z (QlR.cons Z Er (QlR.cons Z (FzA.agg (Ed (Ee _) (Ed Er (Ek _)))) (QlR.cons Z (FzA.agg (Ed (Ee _) (Ed Er (Ek _)))) QlR.nil))) (Ec (Ec (Ec (Ec (Ec (Ec (Ec (Ec (Ec (FzH.cells (Ed (Ee _) (Ed Er (Ek _))) (Q2 _)))))))))))) ?_;refine Bd h λi Q h=>?_;refine Qy [] (OpC.fn call20 Z Z Z) (C.nils (Qii.eq (Qii.eq (Qii.eq (Qii.eq (Qii.nl (Qii.nl Qii.nil)))))) (k_at _ _ _ _ _ _ _ _ Q)) ?_;rintro _ _ ⟨rfl,rfl⟩;refine aV (.tup [.osl 11 0 i.1.length 2,I i.2]) [.dead,.dead,.dead,.dead,.dead,.cells 33 lit_0,_,.dead,.cells 33 lit_0,.cells 37 [.rsl 3 (map Segment.c []),.rsl 1 (map (QN 1 (Qe .i64)) [[0]])],_,.row 46 2 (map Way.c i.1),.cells 72 [.osl 11 0 i.1.length 2]] Z Z ?_;refine Go 13 Z ?_;refine Eu (YF [(3,_),(21,_),(33,_)] Z Z (QlR.cons Z Er (QlR.cons Z Er (QlR.cons Z Er QlR.nil))) (Ec (Ec (Ec (Ec (Ec (Ec (Ec (Ec (Ec (Ec (Ec (Q2 _))))))))))))) ?_;refine Bd h λj R h=>?_;refine Qy [] (OpC.fn call20 Z Z Z) (C.nils (Qii.eq (Qii.eq (Qii.eq (Qii.eq (Qii.eq (Qii.nl Qii.nil)))))) (k_at _ _ _ _ _ _ _ _ R)) ?_;rintro _ _ ⟨rfl,rfl⟩;refine aV (.tup [.osl 13 0 j.1.length 2,I j.2]) [_,_,_,_,_,_,_,_,_,_,.dead,_,_,.row 46 2 (map Way.c j.1),.cells 72 [.osl 13 0 j.1.length 2]] Z Z ?_;refine Go 12 Z (Bd h λk T h=>?_);refine Qy [] (OpC.fn call20 Z Z Z) (C.nils (Qii.eq (Qii.eq (Qii.eq (Qii.eq (Qii.nl (Qii.nl Qii.nil)))))) (k_at _ _ _ _ _ _ _ _ T)) ?_;rintro _ _ ⟨rfl,rfl⟩;refine aV (.tup [.osl 15 0 k.1.length 2,I k.2]) [_,_,_,_,_,_,_,_,_,_,_,_,_,_,_,.row 46 2 (map Way.c k.1),.cells 72 [.osl 15 0 k.1.length 2]] Z Z ?_;refine Go 13 Z (vH (El (xs:=[.tmp 48]) (es:=map Hand.c [{Uq with Position:=3:Hand}]) el_41 Z Z Z Z Z ⟨Z,trivial⟩ Z Z) ?_);refine aV (.osl 17 0 ([{Uq with Position:=3:Hand}].length) 4) [_,_,_,_,_,_,_,_,_,_,_,_,_,_,_,_,_,.row 63 4 (map Hand.c [{Uq with Position:=3:Hand}])] Z Z ?_;refine Eu (YF [(49,_)] Z Z (QlR.cons Z Er QlR.nil) (Ec (Ec (Ec (Ec (Ec (Ec (Ec (Ec (Ec (Ec (Ec (Ec (Ec (Ec (Ec (Ec (Ec (Ec (Q2 _)))))))))))))))))))) ?_;refine Bd h λl V h=>?_;refine Qy [] (OpC.fn call20 Z Z Z) (C.nils (Qii.eq (Qii.eq (Qii.eq (Qii.eq (Qii.nl (Qii.eq Qii.nil)))))) (k_at _ _ _ _ _ _ _ _ V)) ?_;rintro _ _ ⟨rfl,rfl⟩;refine aV (.tup [.osl 18 0 l.1.length 2,I l.2]) [_,_,_,_,_,_,_,_,_,_,_,_,_,_,_,_,_,.dead,.row 46 2 (map Way.c l.1),.cells 72 [.osl 18 0 l.1.length 2]] Z Z ?_;refine Go 13 Z (vH (El (xs:=[.const (.int .i64 0),.const (.int .i64 (-1)),.const (.int .i64 (-1))]) (es:=map (Qe .i64) [0,(-1),(-1)]) QE Z Z Z Z Z ⟨Z,Z,Z,trivial⟩ Z Z) ?_);refine aV (.osl 20 0 ([0,(-1),(-1)].length) 1) [_,_,_,_,_,_,_,_,_,_,_,_,_,_,_,_,_,_,_,_,.row 3 1 (map (Qe .i64) [0,(-1),(-1)])] Z Z ?_;refine Go 1 Z ?_;refine Eu (YF [(58,_),(59,_)] Z Z (QlR.cons Z Er (QlR.cons Z (FzA.agg (Ed Er (Ek _))) QlR.nil)) (Ec (Ec (Ec (Ec (Ec (Ec (Ec (Ec (Ec (Ec (Ec (Ec (Ec (Ec (Ec (Ec (Ec (Ec (Ec (Ec (Ec (Q2 _))))))))))))))))))))))) ?_;refine Bd h λe W h=>?_;refine Qy [] (OpC.fn call15 Z Z Z) (C.nils (Qii.eq (Qii.eq (Qii.eq (Qii.eq (Qii.eq (Qii.nl (Qii.eq (Qii.eq Qii.nil)))))))) (k_y _ _ _ _ _ _ _ _ _ _ W)) ?_;rintro _ _ ⟨rfl,rfl⟩;refine aV (.tup [I e.1,.agg [I e.2.1.Lo,I e.2.1.Hi],I e.2.2]) [_,_,_,_,_,_,_,_,_,_,_,_,_,_,_,_,_,_,_,_,.dead,.cells 55 [I e.2.1.Lo,I e.2.1.Hi]] Z Z ?_;refine Go 12 Z (Bd h λf a h=>Ct f [8,9,11,13] [1,2,4,6] (λf=>[(90,.bool f)]) Ze Zf ?_ (λenv H X=>?_))
 .refine G0 4 Z (Is 66 a Z (λu a=>?_) (λu a=>?_))
  .exact Gl 25 Z a [8,9,11,13]
  .refine Go 4 Z (Is 70 a Z (λw a=>?_) (λw a=>?_))
   .exact Gl 21 Z a [8,9,11,13]
   .refine Go 4 Z (Is 74 a Z (λy a=>?_) (λy a=>?_))
    .exact Gl 17 Z a [8,9,11,13]
    .refine Go 4 Z (Is 78 a Z (λz a=>?_) (λz a=>?_))
     .exact Gl 13 Z a [8,9,11,13]
     .refine Go 4 Z (Is 82 a Z (λB a=>?_) (λB a=>?_))
      .exact Gl 9 Z a [8,9,11,13]
      .refine Go 4 Z (Is 86 a Z (λE a=>?_) (λE a=>?_))
       .exact Gl 5 Z a [8,9,11,13]
       .refine Go 2 Z ?_;refine vX (.bool (({Lo:=e.2.1.Lo,Hi:=e.2.1.Hi:Span}) != ({Lo:=130,Hi:=140:Span}))) (Qj4 (p:={Lo:=e.2.1.Lo,Hi:=e.2.1.Hi:Span}) (q:={Lo:=130,Hi:=140:Span}) Qlo Z Z) ?_ (gT Z);exact Gl 2 Z a [8,9,11,13]
 refine Gx 1 Z (Ef X (Cn Z h (λF h=>?_) (λF h=>?_)))
 .exact QC 7 Z h 0 []
 refine Gc 4 Z (vH (El (xs:=[.const (.int .i64 (-1)),.const (.int .i64 (-1)),.const (.int .i64 (-1))]) (es:=map (Qe .i64) [(-1),(-1),(-1)]) QE Z Z Z Z Z ⟨Z,Z,Z,trivial⟩ Z Z) ?_);refine aV (.osl 4 0 ([(-1),(-1),(-1)].length) 1) [_,_,_,_,.row 3 1 (map (Qe .i64) [(-1),(-1),(-1)])] Z Z ?_;refine Go 4 Z (Bd h λg d h=>Cg g [] [] (λg=>[(0,.bool g)]) Ze Zf ?_ ?_)
 .refine G0 0 Z ?_;refine Ef (YF [(15,_),(91,_)] Z Z (QlR.cons Z Er (QlR.cons Z Er QlR.nil)) (Ec (Ec (Ec (Ec (Ec (Q2 _))))))) ?_;refine DSs 31 Z (D 5 Z ?_);refine DS.wo (x:=.rsl 2 (map Way.c lit_5)) ?_ ?_
  .refine vH (YY (xs:=[.tmp 94,.tmp 96]) (es:=map Way.c lit_5) QiS Z Z Z Z Z ⟨Z,Z,trivial⟩ Z Z) ?_;refine aV (.rsl 2 (map Way.c lit_5)) [_,_,_,_,_] Z Z ?_;exact Wp
  obtain⟨m,G,d⟩:=Yh d;refine DS.wo (x:=.bool m) ?_ ?_
  .refine QcT (OpC.fn call21 rfl rfl rfl) (Qbh.cons rfl (.inr ⟨_,_,_,_,_,rfl,rfl,X2 ..,rfl⟩) (Qbh.cons rfl (.inl ⟨rfl,rfl⟩) Qbh.nil)) (k_dj _ _ _ _ G) (by rintro _ _ ⟨rfl,rfl⟩;rfl) ?_;rintro _ _ ⟨rfl,rfl⟩;refine aV (.bool m) [_,_,_,_,_] Z Z ?_;exact Wp
  refine D 1 Z (DS.is 7 d Z Z Z (λJ d=>?_) (λJ d=>?_))
  .refine D 1 Z ?_;refine DS.wo (x:=.rsl 1 (map (Qe .i64) [0,(-1),(-1)])) ?_ ?_
   .refine vH (YY (xs:=[.const (.int .i64 0),.const (.int .i64 (-1)),.const (.int .i64 (-1))]) (es:=map (Qe .i64) [0,(-1),(-1)]) QE Z Z Z Z Z ⟨Z,Z,Z,trivial⟩ Z Z) ?_ (gT Z);refine aV (.rsl 1 (map (Qe .i64) [0,(-1),(-1)])) [_,_,_,_,_] Z Z ?_;exact Wp
   refine D 1 Z ?_;refine DS.wo (x:=.rsl 1 (map (Qe .i64) [0,(-1),(-1)])) ?_ ?_
   .refine vH (YY (xs:=[.const (.int .i64 0),.const (.int .i64 (-1)),.const (.int .i64 (-1))]) (es:=map (Qe .i64) [0,(-1),(-1)]) QE Z Z Z Z Z ⟨Z,Z,Z,trivial⟩ Z Z) ?_ (gT Z);refine aV (.rsl 1 (map (Qe .i64) [0,(-1),(-1)])) [_,_,_,_,_] Z Z ?_;exact Wp
   refine D 1 Z ?_;refine DS.wo (x:=.rsl 2 (map Way.c lit_6)) ?_ ?_
   .refine vH (YY (xs:=[.tmp 102,.tmp 104]) (es:=map Way.c lit_6) QiS Z Z Z Z Z ⟨Z,Z,trivial⟩ Z Z) ?_ (gT Z);refine aV (.rsl 2 (map Way.c lit_6)) [_,_,_,_,_] Z Z ?_;exact Wp
   obtain⟨s,L,d⟩:=Yh d;refine DS.wo (x:=.bool s) ?_ ?_
   .refine QcT (OpC.fn call21 rfl rfl rfl) (Qbh.cons rfl (.inr ⟨_,_,_,_,_,rfl,rfl,X2 ..,rfl⟩) (Qbh.cons rfl (.inl ⟨rfl,rfl⟩) Qbh.nil)) (k_dj _ _ _ _ L) (by rintro _ _ ⟨rfl,rfl⟩;rfl) ?_ (gT rfl);rintro _ _ ⟨rfl,rfl⟩;refine aV (.bool s) [_,_,_,_,_] Z Z ?_;exact Wp
   refine D 2 Z (DS.is 16 d Z Z Z (λM d=>?_) (λM d=>?_))
   .refine D 4 Z ?_;obtain⟨Y,N,d⟩:=Yh d;refine DS.v (x:=(.rsl 1 (map (Qe .i64) Y))) (QlO N EB EC (.inl ⟨Z,Z⟩) (.inr ⟨_,Z,Z⟩)) ?_ (hg:=(gT Z));refine D 1 Z ?_;obtain⟨t,O,d⟩:=Yh d;refine DS.wo (x:=I t) ?_ ?_
    .refine Qy [] (OpC.fn call22 Z Z Z) (C.nils (Qii.eq (Qii.eq (Qii.eq (Qii.eq (Qii.nl (Qii.nl (Qii.eq Qii.nil))))))) (k_ke _ _ _ _ _ _ _ _ _ O)) ?_ (hg:=(gT Z));rintro _ _ ⟨rfl,rfl⟩;refine aV (I t) [_,_,_,_,_] Z Z ?_;exact Wp
    refine D 3 Z (DS.is 26 d Z Z Z (λP d=>?_) (λP d=>?_))
    .refine D 2 Z ?_;refine DS.wo (x:=.rsl 5 (map Hit.c [Ur,Ur])) ?_ ?_
     .refine vH (YY (xs:=[.tmp 119,.tmp 120]) (es:=map Hit.c [Ur,Ur]) Qm1 Z Z Z Z Z ⟨Z,Z,trivial⟩ Z Z) ?_ (gT Z);refine aV (.rsl 5 (map Hit.c [Ur,Ur])) [_,_,_,_,_] Z Z ?_;exact Wp
     exact D 1 Z (Eh Z (Cz [] d (k_br _ _ _) Z λac aa d=>Gl 4 Z d []))
    .exact D 4 Z (Eh Z (Gl 5 Z d []))
   .exact D 14 Z (Eh Z (Gl 5 Z d []))
  .exact D 23 Z (Eh Z (Gl 5 Z d []))
 exact QC 1 Z h 0 []
def F_ez(n:Nat)(d:List Part)(rec182:(List Part)->Option Int)(a:Int×Int):Option (Ctl (Int×Int) Int):=((bif decide (a.2<(d.length:Int))then some (decide (a.1<=256))else some false):Option Bool).bind λe=>(bif e then(idx d a.2).bind λf=>(rec182 f.Parts).bind λg=>some (.cont (i64.wrap (a.1+g),i64.wrap (a.2+1)))else some (.done a.1))
def B_s(rec182:(List Part)->Option Int)(n:Nat)(d:List Part):Option Int:=(iter (F_ez n d rec182) n ((d.length:Int),0):Option Int).bind λa=>some (if 257<a then 257 else a)
theorem QaZ(rec182:(List Part)->Option Int)(f:∀(g:List Part) (r:Int),rec182 g=some r->Csm prog 87 [.rsl 3 (map Part.enc g)] [] (λr=>I r) r)(n:Nat)(g:List Part)(r:Int)(h:B_s rec182 n g=some r):Csm prog 87 [.rsl 3 (map Part.enc g)] [] (λr=>I r) r:=by
 refine QW func87 Z Z Z ?_;refine G0 8 Z (Lg 9 Z Z (Bd h λd q h=>Cg d [] [] (λd=>[(3,I d)]) Ze Zf ?_ ?_))
 .refine G0 1 Z (Lp [] [0] (λi=>[(3,I i.1),(4,I i.2)]) Ze q Zf (Lr []) λi u a k=>?_);refine G0 2 Z (Bd a λj e a=>Cg j [] [0,3,4] (λj=>[(14,.bool j)]) Ze Zf ?_ ?_)
  .refine G0 3 Z (Lg 2 Z Z (Is 11 e Z (λl e=>?_) (λl e=>?_)))
   iterate 2 exact Gl 4 Z e []
  refine QV Z a (λm a=>?_) (λm a=>?_)
  .exact Gc 2 Z (Qk a (Gx 1 Z (cQo k a (Lr []))))
  exact Gc 8 Z (Bd a λs p a=>IzE p (QF s) Z (Go 2 Z (Cz [] a (f _) Z λw t a=>Go 10 Z (Qi a (Lr [])))))
 refine Gc 3 Z ?_;refine vX (I (if 257<d then 257 else d)) (OpV.min Z Z Z Z) ?_;exact Gt 4 Z h 2 []
def F_s:Nat->(List Part)->Option Int
  |0=>λ_=>none
  |n+1=>B_s (F_s n) n
theorem k_s(n:Nat):∀(a:List Part) (r:Int),F_s n a=some r->Csm prog 87 [.rsl 3 (map Part.enc a)] [] (λr=>I r) r:=by
  induction n with
  |zero=>intro a r h;cases h
  |succ n ih=>intro a r h;exact QaZ _ ih n a r h
def F_er(n:Nat)(e:List Part)(f:Int)(rec183:(List Part)->Int->Option Int)(a:Int×Int):Option (Ctl (Int×Int) Int):=((bif decide (a.2<(e.length:Int))then some (decide (0<f))else some false):Option Bool).bind λg=>(bif g then(idx e a.2).bind λh=>((bif ((h.Parts.length:Int) != 0)then(idx e a.2).bind λi=>(rec183 i.Parts (i64.wrap (f-1))).bind λd=>some (if a.1<i64.wrap (1+d)then i64.wrap (1+d)else a.1)else some a.1):Option Int).bind λj=>some (.cont (j,i64.wrap (a.2+1)))else some (.done a.1))
def B_l(rec183:(List Part)->Int->Option Int)(n:Nat)(d:List Part)(e:Int):Option Int:=(iter (F_er n d e rec183) n (0,0):Option Int).bind λa=>some a
theorem QaY(rec183:(List Part)->Int->Option Int)(g:∀(i:List Part) (j:Int) (r:Int),rec183 i j=some r->Csm prog 88 [.rsl 3 (map Part.enc i),I j] [] (λr=>I r) r)(n:Nat)(i:List Part)(j:Int)(r:Int)(h:B_l rec183 n i j=some r):Csm prog 88 [.rsl 3 (map Part.enc i),I j] [] (λr=>I r) r:=by
 refine QW func88 Z Z Z ?_;refine G0 16 Z (Bd h λk z h=>Cg k [] [] (λk=>[(5,I k)]) Ze Zf ?_ ?_)
 .refine G0 1 Z (Lp [] [0,1] (λe=>[(5,I e.1),(6,I e.2)]) Ze z Zf (Lr []) λe G a s=>?_);refine G0 2 Z (Bd a λl f a=>Ct l [] [0,1,5,6] (λl=>[(14,.bool l)]) Ze Zf ?_ (λenv H m=>?_))
  .refine G0 3 Z (Lg 2 Z Z (Is 11 f Z (λt f=>?_) (λt f=>?_)))
   iterate 2 exact Gl 4 Z f []
  refine Gx 1 Z (Ef m (QV Z a (λu a=>?_) (λu a=>?_)))
  .exact Gc 2 Z (Qk a (Gx 1 Z (cQo s a (Lr []))))
  refine Gc 8 Z (Bd a λB w a=>IzE w (QF B) Z (Go 2 Z (Lg 3 Z Z (Bd a λp d a=>Ct p [] [0,1,6] (λp=>[(5,I p)]) Ze Zf ?_ (λenv H m=>?_)))))
  .refine G0 0 Z (Cn Z d (λx d=>?_) (λx d=>?_))
   .refine Gc 4 Z (Bd d λE y d=>IzE y (QF E) Z (Go 4 Z (Cz [] d (g _ _) Z λq F d=>Go 1 Z ?_)));refine vX (I (if e.1<i64.wrap (1+q)then i64.wrap (1+q)else e.1)) (OpV.max Z Z Z Z) ?_;exact Gl 2 Z d []
   exact YJ 1 Z d []
  exact Gx 2 Z (Ef m (Gc 5 Z (Qi a (Lr []))))
 exact QC 7 Z h 4 []
def F_l:Nat->(List Part)->Int->Option Int
  |0=>λ_ _=>none
  |n+1=>B_l (F_l n) n
theorem k_l(n:Nat):∀(a:List Part) (d:Int) (r:Int),F_l n a d=some r->Csm prog 88 [.rsl 3 (map Part.enc a),I d] [] (λr=>I r) r:=by
  induction n with
  |zero=>intro a d r h;cases h
  |succ n ih=>intro a d r h;exact QaY _ ih n a d r h
def F_bz(n:Nat)(a:Cond):Option Bool:=((bif (a.Kind==0)then(bif (a.Var==0)then(bif (a.N==0)then some ((a.Parts.length:Int)==0)else some false)else some false)else some false):Option Bool).bind λd=>some d
theorem k_bz(n:Nat)(e:Cond):Ks (F_bz n e) 203 [.agg (Cond.c e)] [] (λr=>.bool r):=by
 refine Kg 7 func203 Z Z Z Z λr h=>Bd h λd a h=>Cg d [] [] (λd=>[(2,.bool d)]) Ze Zf ?_ ?_
 .refine G0 5 Z (Is 6 a Z (λf a=>?_) (λf a=>?_))
  .refine Go 5 Z (Is 11 a Z (λg a=>?_) (λg a=>?_))
   .refine Go 5 Z (Is 16 a Z (λi a=>?_) (λi a=>?_))
    .exact Go 2 Z (Lm Z (Gl 4 Z a []))
    .exact Gl 7 Z a []
   .exact Gl 12 Z a []
  .exact Gl 17 Z a []
 exact QC 1 Z h 2 []
def F_gn(n:Nat)(d:Cond)(h:Int)(rec187:Cond->Int->Option Int)(a:Int×Int):Option (Ctl (Int×Int) Int):=((bif decide (a.2<(d.Parts.length:Int))then some (decide (a.1<=256))else some false):Option Bool).bind λe=>(bif e then(idx d.Parts a.2).bind λf=>(rec187 f (i64.wrap (h+1))).bind λg=>some (.cont (i64.wrap (a.1+g),i64.wrap (a.2+1)))else some (.done a.1))
def B_j(rec187:Cond->Int->Option Int)(n:Nat)(e:Cond)(a:Int):Option Int:=(bif decide (16<a)then some 1000 else(iter (F_gn n e a rec187) n (1,0):Option Int).bind λd=>some d)
theorem Qam(rec187:Cond->Int->Option Int)(e:∀(f:Cond) (g:Int) (r:Int),rec187 f g=some r->Csm prog 204 [.agg (Cond.c f),I g] [] (λr=>I r) r)(n:Nat)(f:Cond)(g:Int)(r:Int)(h:B_j rec187 n f g=some r):Csm prog 204 [.agg (Cond.c f),I g] [] (λr=>I r) r:=by
 refine QW func204 Z Z Z ?_;refine G0 13 Z (Cn Z h (λs h=>?_) (λs h=>?_))
 .exact QC 7 Z h 4 []
 refine Gc 13 Z (Bd h λi t h=>Cg i [] [] (λi=>[(5,I i)]) Ze Zf ?_ ?_)
 .refine G0 1 Z (Lp [0] [1,2] (λj=>[(5,I j.1),(6,I j.2)]) Ze t Zf (Lr [0]) λj x a l=>?_);refine G0 2 Z (Bd a λk d a=>Cg k [0] [1,2,5,6] (λk=>[(17,.bool k)]) Ze Zf ?_ ?_)
  .refine G0 4 Z (Lg 2 Z Z (Is 14 d Z (λm d=>?_) (λm d=>?_)))
   iterate 2 exact Gl 4 Z d [0]
  refine QV Z a (λp a=>?_) (λp a=>?_)
  .exact Gc 2 Z (Qk a (Gx 1 Z (cQo l a (Lr []))))
  exact Gc 9 Z (Bd a λu q a=>IzE q (Qar u) Z (Go 3 Z (Cz [] a (e _ _) Z λy w a=>Go 10 Z (Qi a (Lr [0])))))
 exact QC 7 Z h 4 []
def F_j:Nat->Cond->Int->Option Int
  |0=>λ_ _=>none
  |n+1=>B_j (F_j n) n
theorem k_j(n:Nat):∀(a:Cond) (d:Int) (r:Int),F_j n a d=some r->Csm prog 204 [.agg (Cond.c a),I d] [] (λr=>I r) r:=by
  induction n with
  |zero=>intro a d r h;cases h
  |succ n ih=>intro a d r h;exact Qam _ ih n a d r h
def F_gi(n:Nat)(d:List Step)(g:Int)(rec185:(List Step)->Int->Option (Int×Int))(a:Int×Int×Int):Option (Ctl (Int×Int×Int) (Int×Int)):=((bif decide (a.2.2<(d.length:Int))then(bif decide (a.1<=64)then some (decide (a.2.1<=256))else some false)else some false):Option Bool).bind λh=>(bif h then(idx d a.2.2).bind λi=>(rec185 i.Then (i64.wrap (g+1))).bind λe=>(idx d a.2.2).bind λj=>(rec185 j.Else (i64.wrap (g+1))).bind λf=>(idx d a.2.2).bind λk=>(F_bz n k.Cond).bind λl=>((bif (!l)then(idx d a.2.2).bind λm=>(F_j n m.Cond 0).bind λp=>some (i64.wrap ((i64.wrap ((i64.wrap (a.2.1+e.2))+f.2))+p))else some (i64.wrap ((i64.wrap (a.2.1+e.2))+f.2))):Option Int).bind λq=>some (.cont (i64.wrap ((i64.wrap ((i64.wrap (a.1+1))+e.1))+f.1),q,i64.wrap (a.2.2+1)))else some (.done (a.1,a.2.1)))
def B_m(rec185:(List Step)->Int->Option (Int×Int))(n:Nat)(d:List Step)(e:Int):Option (Int×Int):=((bif decide (0<(d.length:Int))then some (decide (16<e))else some false):Option Bool).bind λf=>(bif f then some (1000,1000)else(iter (F_gi n d e rec185) n (0,0,0):Option (Int×Int)).bind λa=>some (a.1,a.2))
theorem Qa5(rec185:(List Step)->Int->Option (Int×Int))(f:∀(k:List Step) (l:Int) (r:Int×Int),rec185 k l=some r->Csm prog 140 [.rsl 8 (map Step.enc k),I l] [] (λr=>.tup [I r.1,I r.2]) r)(n:Nat)(k:List Step)(l:Int)(r:Int×Int)(h:B_m rec185 n k l=some r):Csm prog 140 [.rsl 8 (map Step.enc k),I l] [] (λr=>.tup [I r.1,I r.2]) r:=by
 refine QW func140 Z Z Z ?_;refine G0 8 Z (Bd h λs m h=>Ct s [] [0,1] (λs=>[(19,.bool s)]) Ze Zf ?_ (λenv H g=>?_))
 .refine G0 2 Z (Lg 2 Z Z (Is 16 m Z (λG m=>?_) (λG m=>?_)))
  iterate 2 exact Gl 4 Z m []
 refine Gx 1 Z (Ef g (Cn Z h (λJ h=>?_) (λJ h=>?_)))
 .refine Gc 8 Z ?_;obtain rfl:=Oi h;exact R2 4 5 Z Z (Lr [])
 refine Gc 18 Z (Bd h λi L h=>Cg i [] [] (λi=>[(6,I i.1),(7,I i.2)]) Ze Zf ?_ ?_)
 .refine G0 1 Z (Lp [] [0,1] (λj=>[(6,I j.1),(7,I j.2.1),(8,I j.2.2)]) Ze L Zf (Lr []) λj W a t=>?_);refine G0 2 Z (Bd a λp d a=>Ct p [] [0,1,6,7,8] (λp=>[(31,.bool p)]) Ze Zf ?_ (λenv H g=>?_))
  .refine G0 3 Z (Lg 2 Z Z (Is 24 d Z (λu d=>?_) (λu d=>?_)))
   .refine Go 4 Z (Is 28 d Z (λw d=>?_) (λw d=>?_))
    iterate 2 exact Gl 4 Z d []
   .exact Gl 8 Z d []
  refine Gx 1 Z (Ef g (QV Z a (λx a=>?_) (λx a=>?_)))
  .exact Gc 2 Z (Qk a (Gx 1 Z (cQo t a (Lr []))))
  refine Gc 8 Z (Bd a λM y a=>IzE y (Yx M) Z (Go 4 Z (Cd [] a (f _ _) Z λX Q a=>Fg 11 Z Z (Bd a λN z a=>IzE z (Yx N) Z (Go 4 Z (Cd [] a (f _ _) Z λY R a=>Fg 32 Z Z (Bd a λO B a=>IzE B (Yx O) Z (Go 2 Z (Cz [] a (k_bz _ _) Z λaa T a=>Go 3 Z (Bd a λq e a=>Ct q [] [0,1,6,8] (λq=>[(7,I q)]) Ze Zf ?_ (λenv H g=>?_)))))))))))
  .refine G0 0 Z (Cn Z e (λE e=>?_) (λE e=>?_))
   .exact Gc 4 Z (Bd e λP F e=>IzE F (Yx P) Z (Go 2 Z (Cz [] e (k_j _ _ _) Z λab V e=>Gl 3 Z e [])))
   exact YJ 1 Z e []
  exact Gx 2 Z (Ef g (Gc 5 Z (Qi a (Lr []))))
 refine Gc 9 Z ?_;obtain rfl:=Oi h;exact R2 4 5 Z Z (Lr [])
def F_m:Nat->(List Step)->Int->Option (Int×Int)
  |0=>λ_ _=>none
  |n+1=>B_m (F_m n) n
theorem k_m(n:Nat):∀(a:List Step) (d:Int) (r:Int×Int),F_m n a d=some r->Csm prog 140 [.rsl 8 (map Step.enc a),I d] [] (λr=>.tup [I r.1,I r.2]) r:=by
  induction n with
  |zero=>intro a d r h;cases h
  |succ n ih=>intro a d r h;exact Qa5 _ ih n a d r h
def F_dx(n:Nat)(a:List Step):Option Bool:=(F_m n a 0).bind λd=>((bif decide ((a.length:Int)<=20)then(bif decide (d.1<=80)then some (decide (d.2<=300))else some false)else some false):Option Bool).bind λe=>some e
theorem k_dx(n:Nat)(e:List Step):Ks (F_dx n e) 89 [.rsl 8 (map Step.enc e)] [] (λr=>.bool r):=by
 refine Kg 8 func89 Z Z Z Z λr h=>Cd [] h (k_m _ _ _) Z λj i h=>Fg 8 Z Z (Bd h λd a h=>Cg d [] [] (λd=>[(2,.bool d)]) Ze Zf ?_ ?_)
 .refine G0 2 Z (Lg 2 Z Z (Is 13 a Z (λf a=>?_) (λf a=>?_)))
  .refine Go 4 Z (Is 17 a Z (λg a=>?_) (λg a=>?_))
   iterate 2 exact Gl 5 Z a []
  .exact Gl 9 Z a []
 exact QC 1 Z h 2 []
def F_ed(n:Nat)(d:Course)(a:Int×Int):Option (Ctl (Int×Int) (Ctl Int Bool)):=((bif decide (a.2<(d.Distances.length:Int))then some (decide (a.1<=200))else some false):Option Bool).bind λe=>(bif e then(idx d.Distances a.2).bind λf=>(idx d.Distances a.2).bind λg=>(F_s n g.Route).bind λh=>(idx d.Distances a.2).bind λi=>(F_l n i.Route 17).bind λj=>(bif decide (16<j)then some (.done (.done false))else some (.cont (i64.wrap ((i64.wrap (a.1+(f.Cutoffs.length:Int)))+h),i64.wrap (a.2+1))))else some (.done (.cont a.1)))
def F_cr(n:Nat)(a:Course):Option Bool:=(iter (F_ed n a) n (i64.wrap ((i64.wrap ((i64.wrap ((i64.wrap ((i64.wrap ((i64.wrap ((a.Mats.length:Int)+(a.Legs.length:Int)))+(a.Distances.length:Int)))+(a.Waves.length:Int)))+(a.Offences.length:Int)))+(a.Categories.length:Int)))+(a.Prizes.length:Int)),0):Option (Ctl Int Bool)).bind λe=>match e with|.cont d=>(((bif decide (d<=200)then(bif decide ((a.Name.length:Int)<=100)then(F_dx n a.Ties).bind λf=>some f else some false)else some false):Option Bool).bind λg=>some g)|.done d=>some d
theorem k_cr(n:Nat)(q:Course):Ks (F_cr n q) 47 [.agg (Course.c q)] [] (λr=>.bool r):=by
 refine Kg 10 func47 Z Z Z Z λr h=>Lg 2 Z Z (Lg 3 Z Z (Lg 3 Z Z (Lg 3 Z Z (Lg 3 Z Z (Lg 3 Z Z (Lg 10 Z Z (Bd h λF G h=>CtE (b:=F) [0] [1] (λi=>[(3,I i)]) Ze Zf ?_ (λi env H J j=>?_))))))))
 .refine G0 1 Z (Lp [0] [1] (λk=>[(3,I k.1),(4,I k.2)]) Ze G Zf (Lr [0]) λk O a l=>?_);refine G0 2 Z (Bd a λm f a=>Ct m [0] [1,3,4] (λm=>[(40,.bool m)]) Ze Zf ?_ (λenv H j=>?_))
  .refine G0 4 Z (Lg 2 Z Z (Is 37 f Z (λs f=>?_) (λs f=>?_)))
   iterate 2 exact Gl 4 Z f [0]
  refine Gx 1 Z (Ef j (QV Z a (λt a=>?_) (λt a=>?_)))
  .exact Gc 2 Z (Qk a (Gx 1 Z (YC l a Z (Lr [0]))))
  refine Gc 5 Z (DSs 16 Z (D 4 Z ?_));obtain⟨e,u,a⟩:=Yh a;refine DS.wo (x:=.rp [.str e.Name,.rsl 3 (map Part.enc e.Route),I e.Timing,.rsl 3 (map Cutoff.c e.Cutoffs),I e.Extra]) ?_ ?_
  .exact Ix u E0 E4 Z Wp
  refine D 2 Z ?_;refine DS.wo (x:=I (e.Cutoffs.length:Int)) ?_ ?_
  .exact LnM Gj Z Wp
  refine D 4 Z ?_;obtain⟨g,w,a⟩:=Yh a;refine DS.wo (x:=.rp [.str g.Name,.rsl 3 (map Part.enc g.Route),I g.Timing,.rsl 3 (map Cutoff.c g.Cutoffs),I g.Extra]) ?_ ?_
  .exact Ix w E0 E4 Z Wp
  refine D 2 Z ?_;refine Dz [] a (k_s _ _) Z λP L a=>Eh Z (Go 9 Z (Bd a λQ y a=>Iz y Z (Go 2 Z (Cz [] a (k_l _ _ _) Z λR M a=>Go 3 Z (Cn Z a (λz a=>?_) (λz a=>?_))))))
  .refine Gc 8 Z (Qp a ?_);obtain rfl:=Oj l a;exact Gx 1 Z (Ql (Gx 1 Z (Rt h 2 [])))
  exact Gc 8 Z (Qi a (Lr [0]))
 subst J;refine Gx 1 Z (Ef j (Gc 1 Z (Bd h λp d h=>Cg p [] [] (λp=>[(2,.bool p)]) Ze Zf ?_ ?_)))
 .refine G0 4 Z (Is 70 d Z (λB d=>?_) (λB d=>?_))
  .refine Go 2 Z ?_;refine vX (I (q.Name.length:Int)) (YX Z Z EE Z) ?_ (gT Z);refine Go 3 Z (Is 76 d Z (λE d=>?_) (λE d=>?_))
   .exact Go 2 Z (Cz [] d (k_dx _ _) Z λT N d=>Gl 3 Z d [])
   .exact Gl 6 Z d []
  .exact Gl 12 Z d []
 exact QC 1 Z h 2 []
def F_lc(n:Nat)(d:Clocks)(a:Int):Option (Ctl Int (Ctl Unit Bool)):=(bif decide (a<(d.Far.length:Int))then(idx d.Far a).bind λe=>(bif decide (12<(e.length:Int))then some (.done (.done false))else some (.cont (i64.wrap (a+1))))else some (.done (.cont ())))
def F_ej(n:Nat)(d:Clocks):Option Bool:=((bif decide (8<(d.Segments.length:Int))then some true else some (decide (10<(d.Far.length:Int)))):Option Bool).bind λf=>(bif f then some false else(iter (F_lc n d) n 0:Option (Ctl Unit Bool)).bind λe=>match e with|.cont a=>(some true)|.done a=>some a)
theorem k_ej(n:Nat)(l:Clocks):Ks (F_ej n l) 48 [.agg (Clocks.c l)] [] (λr=>.bool r):=by
 refine Kg 8 func48 Z Z Z Z λr h=>Bd h λg d h=>Ct g [0] [1] (λg=>[(13,.bool g)]) Ze Zf ?_ (λenv H m=>?_)
 .refine G0 3 Z (Lg 2 Z Z (Is 8 d Z (λp d=>?_) (λp d=>?_)))
  .exact Gl 6 Z d [0]
  .exact Go 2 Z (Lm Z (Gl 3 Z d [0]))
 refine Gx 1 Z (Ef m (Cn Z h (λq h=>?_) (λq h=>?_)))
 .exact QC 7 Z h 2 []
 refine Gc 8 Z (Bd h λs t h=>Jn (b:=s) [] [] Ze Ze Zf ?_ (λw u=>?_))
 .refine G0 1 Z (Lp [0] [1] (λf=>[(3,I f)]) Ze t Zf (Lr [0]) λf x a e=>?_);refine G0 6 Z (Lg 3 Z Z (QV Z a (λi a=>?_) (λi a=>?_)))
  .exact Gc 2 Z (Qk a (Gx 1 Z (YC e a Z (Lr []))))
  refine Gc 9 Z (Bd a λy j a=>Iz j Z (Go 1 Z (Lg 3 Z Z (Cn Z a (λk a=>?_) (λk a=>?_)))))
  .refine Gc 8 Z (Qp a ?_);obtain rfl:=Oj e a;exact Gx 1 Z (Ql (Gx 1 Z (Rt h 2 [])))
  exact Gc 8 Z (Qi a (Lr [0]))
 subst u;exact QC 6 Z h 2 []
def F_kt(n:Nat)(e:Course)(a:Int):Option (Ctl Int (Ctl Unit Bool)):=(bif decide (a<(e.Distances.length:Int))then(idx e.Distances a).bind λd=>((bif decide (64<(d.Cutoffs.length:Int))then some true else(F_l n d.Route 17).bind λf=>(bif decide (16<f)then some true else(F_s n d.Route).bind λg=>some (decide (256<g)))):Option Bool).bind λh=>(bif h then some (.done (.done false))else some (.cont (i64.wrap (a+1))))else some (.done (.cont ())))
def F_ex(n:Nat)(a:Course):Option Bool:=((bif decide (40<(a.Mats.length:Int))then some true else(bif decide (512<(a.Legs.length:Int))then some true else(bif decide (8<(a.Distances.length:Int))then some true else(bif decide (32<(a.Waves.length:Int))then some true else(bif decide (32<(a.Offences.length:Int))then some true else(bif decide (32<(a.Categories.length:Int))then some true else some (decide (32<(a.Prizes.length:Int))))))))):Option Bool).bind λf=>(bif f then some false else(iter (F_kt n a) n 0:Option (Ctl Unit Bool)).bind λe=>match e with|.cont d=>(some true)|.done d=>some d)
theorem k_ex(n:Nat)(z:Course):Ks (F_ex n z) 93 [.agg (Course.c z)] [] (λr=>.bool r):=by
 refine Kg 8 func93 Z Z Z Z λr h=>Bd h λj a h=>Ct j [0] [1] (λj=>[(44,.bool j)]) Ze Zf ?_ (λenv H B=>?_)
 .refine G0 3 Z (Lg 2 Z Z (Is 9 a Z (λE a=>?_) (λE a=>?_)))
  .exact Gl 36 Z a [0]
  .refine Go 2 Z (Lg 3 Z Z (Is 15 a Z (λk a=>?_) (λk a=>?_)))
   .exact Gl 30 Z a [0]
   .refine Go 2 Z (Lg 3 Z Z (Is 21 a Z (λl a=>?_) (λl a=>?_)))
    .exact Gl 24 Z a [0]
    .refine Go 2 Z (Lg 3 Z Z (Is 27 a Z (λm a=>?_) (λm a=>?_)))
     .exact Gl 18 Z a [0]
     .refine Go 2 Z (Lg 3 Z Z (Is 33 a Z (λp a=>?_) (λp a=>?_)))
      .exact Gl 12 Z a [0]
      .refine Go 2 Z (Lg 3 Z Z (Is 39 a Z (λq a=>?_) (λq a=>?_)))
       .exact Gl 6 Z a [0]
       .exact Go 2 Z (Lm Z (Gl 3 Z a [0]))
 refine Gx 1 Z (Ef B (Cn Z h (λs h=>?_) (λs h=>?_)))
 .exact QC 7 Z h 2 []
 refine Gc 8 Z (Bd h λF G h=>Jn (b:=F) [] [] Ze Ze Zf ?_ (λL J=>?_))
 .refine G0 1 Z (Lp [0] [1] (λi=>[(3,I i)]) Ze G Zf (Lr [0]) λi O d f=>?_);refine G0 6 Z (Lg 3 Z Z (QV Z d (λt d=>?_) (λt d=>?_)))
  .exact Gc 2 Z (Qk d (Gx 1 Z (YC f d Z (Lr []))))
  refine Gc 9 Z (Bd d λP u d=>Iz u Z (Go 6 Z (Bd d λg e d=>Cg g [0] [1,3] (λg=>[(72,.bool g)]) Ze Zf ?_ ?_)))
  .refine G0 3 Z (Lg 2 Z Z (Is 61 e Z (λw e=>?_) (λw e=>?_)))
   .exact Gl 12 Z e [0]
   .refine Go 2 Z (Cz [] e (k_l _ _ _) Z λQ M e=>Go 3 Z (Is 67 e Z (λx e=>?_) (λx e=>?_)))
    .exact Gl 6 Z e [0]
    .exact Go 2 Z (Cz [] e (k_s _ _) Z λR N e=>Gl 3 Z e [0])
  refine Cn Z d (λy d=>?_) (λy d=>?_)
  .refine Gc 8 Z (Qp d ?_);obtain rfl:=Oj f d;exact Gx 1 Z (Ql (Gx 1 Z (Rt h 2 [])))
  exact Gc 8 Z (Qi d (Lr [0]))
 subst J;exact QC 6 Z h 2 []
def F_dz(n:Nat)(a:List UInt8):Option Bool:=((bif (a==[99,111,117,114,115,101])then some (a==[99,111,117,114,115,101])else(bif (a==[109,97,116,115])then some (a==[109,97,116,115])else(bif (a==[115,116,97,114,116])then some (a==[115,116,97,114,116])else(bif (a==[112,97,115,115])then some (a==[112,97,115,115])else(bif (a==[101,110,100])then some (a==[101,110,100])else(bif (a==[108,101,103])then some (a==[108,101,103])else(bif (a==[116,111])then some (a==[116,111])else(bif (a==[100,105,115,116,97,110,99,101])then some (a==[100,105,115,116,97,110,99,101])else(bif (a==[103,117,110])then some (a==[103,117,110])else(bif (a==[99,104,105,112])then some (a==[99,104,105,112])else(bif (a==[115,108,111,116])then some (a==[115,108,111,116])else(bif (a==[108,97,112,115])then some (a==[108,97,112,115])else(bif (a==[108,97,112])then some (a==[108,97,112])else(bif (a==[99,117,116,111,102,102])then some (a==[99,117,116,111,102,102])else(bif (a==[101,120,116,114,97])then some (a==[101,120,116,114,97])else(bif (a==[119,97,118,101])then some (a==[119,97,118,101])else(bif (a==[111,102,102,101,110,99,101])then some (a==[111,102,102,101,110,99,101])else(bif (a==[111,117,116])then some (a==[111,117,116])else(bif (a==[99,97,116,101,103,111,114,121])then some (a==[99,97,116,101,103,111,114,121])else(bif (a==[112,114,105,122,101])then some (a==[112,114,105,122,101])else(bif (a==[97,108,108])then some (a==[97,108,108])else some (a==[116,105,101,115])))))))))))))))))))))):Option Bool).bind λd=>(bif d then some true else((bif (a==[105,102])then some (a==[105,102])else(bif (a==[101,108,115,101])then some (a==[101,108,115,101])else(bif (a==[97,110,100])then some (a==[97,110,100])else(bif (a==[111,114])then some (a==[111,114])else(bif (a==[110,111,116])then some (a==[110,111,116])else(bif (a==[111,108,100,101,114])then some (a==[111,108,100,101,114])else(bif (a==[121,111,117,110,103,101,114])then some (a==[121,111,117,110,103,101,114])else(bif (a==[98,105,98])then some (a==[98,105,98])else(bif (a==[100,114,97,119])then some (a==[100,114,97,119])else(bif (a==[102,105,101,108,100])then some (a==[102,105,101,108,100])else(bif (a==[115,104,111,114,116])then some (a==[115,104,111,114,116])else(bif (a==[102,97,117,108,116,115])then some (a==[102,97,117,108,116,115])else(bif (a==[109,105,115,115,101,115])then some (a==[109,105,115,115,101,115])else(bif (a==[115,116,114,97,121,115])then some (a==[115,116,114,97,121,115])else(bif (a==[119,105,110,100,111,119])then some (a==[119,105,110,100,111,119])else(bif (a==[114,101,115,105,100,117,97,108])then some (a==[114,101,115,105,100,117,97,108])else(bif (a==[100,114,105,102,116])then some (a==[100,114,105,102,116])else(bif (a==[112,114,111,116,101,115,116])then some (a==[112,114,111,116,101,115,116])else(bif (a==[102,101,101])then some (a==[102,101,101])else some (a==[100,101,97,100,108,105,110,101])))))))))))))))))))):Option Bool).bind λe=>(bif e then some true else some false))
theorem k_dz(n:Nat)(a1:List UInt8):Ks (F_dz n a1) 205 [.str a1] [] (λr=>.bool r):=by
 refine Kg 19 func205 Z Z Z Z λr h=>Bd h λe a h=>Ct e [] [3] (λe=>[(4,.bool e)]) Ze Zf ?_ (λenv H ak=>?_)
 .refine G0 0 Z (Cn Z a (λg a=>?_) (λg a=>?_))
  .exact YJ 1 Z a []
  refine Gc 6 Z (Cn Z a (λi a=>?_) (λi a=>?_))
  .exact YJ 1 Z a []
  refine Gc 6 Z (Cn Z a (λj a=>?_) (λj a=>?_))
  .exact YJ 1 Z a []
  refine Gc 6 Z (Cn Z a (λk a=>?_) (λk a=>?_))
  .exact YJ 1 Z a []
  refine Gc 6 Z (Cn Z a (λl a=>?_) (λl a=>?_))
  .exact YJ 1 Z a []
  refine Gc 6 Z (Cn Z a (λm a=>?_) (λm a=>?_))
  .exact YJ 1 Z a []
  refine Gc 6 Z (Cn Z a (λp a=>?_) (λp a=>?_))
  .exact YJ 1 Z a []
  refine Gc 6 Z (Cn Z a (λq a=>?_) (λq a=>?_))
  .exact YJ 1 Z a []
  refine Gc 6 Z (Cn Z a (λs a=>?_) (λs a=>?_))
  .exact YJ 1 Z a []
  refine Gc 6 Z (Cn Z a (λt a=>?_) (λt a=>?_))
  .exact YJ 1 Z a []
  refine Gc 6 Z (Cn Z a (λu a=>?_) (λu a=>?_))
  .exact YJ 1 Z a []
  refine Gc 6 Z (Cn Z a (λw a=>?_) (λw a=>?_))
  .exact YJ 1 Z a []
  refine Gc 6 Z (Cn Z a (λx a=>?_) (λx a=>?_))
  .exact YJ 1 Z a []
  refine Gc 6 Z (Cn Z a (λy a=>?_) (λy a=>?_))
  .exact YJ 1 Z a []
  refine Gc 6 Z (Cn Z a (λz a=>?_) (λz a=>?_))
  .exact YJ 1 Z a []
  refine Gc 6 Z (Cn Z a (λB a=>?_) (λB a=>?_))
  .exact YJ 1 Z a []
  refine Gc 6 Z (Cn Z a (λE a=>?_) (λE a=>?_))
  .exact YJ 1 Z a []
  refine Gc 6 Z (Cn Z a (λF a=>?_) (λF a=>?_))
  .exact YJ 1 Z a []
  refine Gc 6 Z (Cn Z a (λG a=>?_) (λG a=>?_))
  .exact YJ 1 Z a []
  refine Gc 6 Z (Cn Z a (λJ a=>?_) (λJ a=>?_))
  .exact YJ 1 Z a []
  refine Gc 6 Z (Cn Z a (λL a=>?_) (λL a=>?_))
  .exact YJ 1 Z a []
  exact YJ 4 Z a []
 refine Gx 1 Z (Ef ak (Cn Z h (λM h=>?_) (λM h=>?_)))
 .exact QC 8 Z h 2 []
 refine Gc 7 Z (Bd h λf d h=>Cg f [] [] (λf=>[(27,.bool f)]) Ze Zf ?_ ?_)
 .refine G0 0 Z (Cn Z d (λN d=>?_) (λN d=>?_))
  .exact YJ 1 Z d []
  refine Gc 6 Z (Cn Z d (λO d=>?_) (λO d=>?_))
  .exact YJ 1 Z d []
  refine Gc 6 Z (Cn Z d (λP d=>?_) (λP d=>?_))
  .exact YJ 1 Z d []
  refine Gc 6 Z (Cn Z d (λQ d=>?_) (λQ d=>?_))
  .exact YJ 1 Z d []
  refine Gc 6 Z (Cn Z d (λR d=>?_) (λR d=>?_))
  .exact YJ 1 Z d []
  refine Gc 6 Z (Cn Z d (λT d=>?_) (λT d=>?_))
  .exact YJ 1 Z d []
  refine Gc 6 Z (Cn Z d (λV d=>?_) (λV d=>?_))
  .exact YJ 1 Z d []
  refine Gc 6 Z (Cn Z d (λW d=>?_) (λW d=>?_))
  .exact YJ 1 Z d []
  refine Gc 6 Z (Cn Z d (λX d=>?_) (λX d=>?_))
  .exact YJ 1 Z d []
  refine Gc 6 Z (Cn Z d (λY d=>?_) (λY d=>?_))
  .exact YJ 1 Z d []
  refine Gc 6 Z (Cn Z d (λaa d=>?_) (λaa d=>?_))
  .exact YJ 1 Z d []
  refine Gc 6 Z (Cn Z d (λab d=>?_) (λab d=>?_))
  .exact YJ 1 Z d []
  refine Gc 6 Z (Cn Z d (λac d=>?_) (λac d=>?_))
  .exact YJ 1 Z d []
  refine Gc 6 Z (Cn Z d (λad d=>?_) (λad d=>?_))
  .exact YJ 1 Z d []
  refine Gc 6 Z (Cn Z d (λae d=>?_) (λae d=>?_))
  .exact YJ 1 Z d []
  refine Gc 6 Z (Cn Z d (λaf d=>?_) (λaf d=>?_))
  .exact YJ 1 Z d []
  refine Gc 6 Z (Cn Z d (λag d=>?_) (λag d=>?_))
  .exact YJ 1 Z d []
  refine Gc 6 Z (Cn Z d (λah d=>?_) (λah d=>?_))
  .exact YJ 1 Z d []
  refine Gc 6 Z (Cn Z d (λai d=>?_) (λai d=>?_))
  .exact YJ 1 Z d []
  exact YJ 4 Z d []
 refine Cn Z h (λaj h=>?_) (λaj h=>?_)
 .exact QC 8 Z h 2 []
 exact QC 9 Z h 2 []
def F_kh(n:Nat)(d:List UInt8)(a:Int):Option (Ctl Int (Ctl Unit Bool)):=(bif decide (a<(d.length:Int))then((idx d a).bind λe=>(bif decide ((e.toNat:Int)<97)then(idx d a).bind λf=>(bif decide ((f.toNat:Int)<48)then(idx d a).bind λg=>some ((g.toNat:Int) != 95)else(idx d a).bind λh=>(bif decide (57<(h.toNat:Int))then(idx d a).bind λi=>some ((i.toNat:Int) != 95)else some false))else(idx d a).bind λj=>(bif decide (122<(j.toNat:Int))then(idx d a).bind λk=>(bif decide ((k.toNat:Int)<48)then(idx d a).bind λl=>some ((l.toNat:Int) != 95)else(idx d a).bind λm=>(bif decide (57<(m.toNat:Int))then(idx d a).bind λp=>some ((p.toNat:Int) != 95)else some false))else some false)):Option Bool).bind λq=>(bif q then some (.done (.done false))else some (.cont (i64.wrap (a+1))))else some (.done (.cont ())))
def F_cf(n:Nat)(a:List UInt8):Option Bool:=((bif decide ((a.length:Int)<1)then some true else(bif decide (24<(a.length:Int))then some true else(idx a 0).bind λf=>(bif decide ((f.toNat:Int)<97)then some true else(idx a 0).bind λg=>some (decide (122<(g.toNat:Int)))))):Option Bool).bind λi=>(bif i then some false else(iter (F_kh n a) n 1:Option (Ctl Unit Bool)).bind λh=>match h with|.cont d=>((F_dz n a).bind λe=>some (!e))|.done d=>some d)
theorem k_cf(n:Nat)(g:List UInt8):Ks (F_cf n g) 141 [.str g] [] (λr=>.bool r):=by
 refine Kg 7 func141 Z Z Z Z λr h=>Bd h λL e h=>Ct L [] [0] (λL=>[(21,.bool L)]) Ze Zf ?_ (λenv H ae=>?_)
 .refine G0 2 Z ?_;refine vX (I (g.length:Int)) (YX Z Z EE Z) ?_;refine Go 2 Z (Is 7 e Z (λaf e=>?_) (λaf e=>?_))
  .exact Gl 15 Z e []
  .refine Go 1 Z ?_;refine vX (I (g.length:Int)) (YX Z Z EE Z) ?_ (gT Z);refine Go 3 Z (Is 12 e Z (λag e=>?_) (λag e=>?_))
   .exact Gl 10 Z e []
   .refine Go 1 Z (Bd e λah M e=>?_);refine vX (.int .u8 (ah.toNat:Int)) (QQ M EE) ?_ (gT Z);refine Go 3 Z (Is 17 e Z (λN e=>?_) (λN e=>?_))
    .exact Gl 5 Z e []
    .refine Go 1 Z (Bd e λai O e=>?_);refine vX (.int .u8 (ai.toNat:Int)) (QQ O EE) ?_ (gT Z);exact Gl 3 Z e []
 refine Gx 1 Z (Ef ae (Cn Z h (λP h=>?_) (λP h=>?_)))
 .exact QC 7 Z h 2 []
 refine Gc 8 Z (Bd h λaj ak h=>Jn (b:=aj) [] [0] Ze Ze Zf ?_ (λan al=>?_))
 .refine G0 1 Z (Lp [] [0] (λJ=>[(3,I J)]) Ze ak Zf (Lr []) λJ aq d i=>?_);refine G0 5 Z ?_;refine vX (I (g.length:Int)) (YX Z Z EE Z) ?_;refine Go 3 Z (QV Z d (λQ d=>?_) (λQ d=>?_))
  .exact Gc 2 Z (Qk d (Gx 1 Z (YC i d Z (Lr []))))
  refine Gc 5 Z (Bd d λf a d=>Cg f [] [0,3] (λf=>[(55,.bool f)]) Ze Zf ?_ ?_)
  .refine G0 3 Z (Bd a λR j a=>?_);refine vX (.int .u8 (R.toNat:Int)) (QQ j EE) ?_;refine Go 2 Z (Is 32 a Z (λk a=>?_) (λk a=>?_))
   .refine Go 8 Z (Bd a λT l a=>?_);refine vX (.int .u8 (T.toNat:Int)) (QQ l EE) ?_ (gT Z);refine Go 2 Z (Is 43 a Z (λm a=>?_) (λm a=>?_))
    .refine Go 9 Z (Bd a λV p a=>?_);refine vX (.int .u8 (V.toNat:Int)) (QQ p EE) ?_ (gT Z);exact Gl 3 Z a []
    .refine Go 2 Z (Bd a λW q a=>?_);refine vX (.int .u8 (W.toNat:Int)) (QQ q EE) ?_ (gT Z);refine Go 4 Z (Is 50 a Z (λs a=>?_) (λs a=>?_))
     .refine Go 2 Z (Bd a λX t a=>?_);refine vX (.int .u8 (X.toNat:Int)) (QQ t EE) ?_ (gT Z);exact Gl 3 Z a []
     .exact Gl 6 Z a []
   .refine Go 2 Z (Bd a λY u a=>?_);refine vX (.int .u8 (Y.toNat:Int)) (QQ u EE) ?_ (gT Z);refine Go 3 Z (Is 38 a Z (λw a=>?_) (λw a=>?_))
    .refine Go 2 Z (Bd a λaa x a=>?_);refine vX (.int .u8 (aa.toNat:Int)) (QQ x EE) ?_ (gT Z);refine Go 2 Z (Is 43 a Z (λy a=>?_) (λy a=>?_))
     .refine Go 9 Z (Bd a λab z a=>?_);refine vX (.int .u8 (ab.toNat:Int)) (QQ z EE) ?_ (gT Z);exact Gl 3 Z a []
     .refine Go 2 Z (Bd a λac B a=>?_);refine vX (.int .u8 (ac.toNat:Int)) (QQ B EE) ?_ (gT Z);refine Go 4 Z (Is 50 a Z (λE a=>?_) (λE a=>?_))
      .refine Go 2 Z (Bd a λad F a=>?_);refine vX (.int .u8 (ad.toNat:Int)) (QQ F EE) ?_ (gT Z);exact Gl 3 Z a []
      .exact Gl 6 Z a []
    .exact Gl 18 Z a []
  refine Cn Z d (λG d=>?_) (λG d=>?_)
  .refine Gc 8 Z (Qp d ?_);obtain rfl:=Oj i d;exact Gx 1 Z (Ql (Gx 1 Z (Rt h 2 [])))
  exact Gc 8 Z (Qi d (Lr []))
 subst al;exact Gc 3 Z (Cz [] h (k_dz _ _) Z λao am h=>Gt 5 Z h 2 [])
def F_hg(n:Nat)(e:List (List UInt8))(d:Int)(a:Int):Option (Ctl Int (Ctl Unit (Ctl Int (Ctl Unit Bool)))):=(bif decide (a<d)then(idx e a).bind λf=>(idx e d).bind λg=>(bif (f==g)then some (.done (.done (.done (.done false))))else some (.cont (i64.wrap (a+1))))else some (.done (.cont ())))
def F_ku(n:Nat)(e:List (List UInt8))(a:Int):Option (Ctl Int (Ctl Unit Bool)):=(bif decide (a<(e.length:Int))then(idx e a).bind λf=>(F_cf n f).bind λg=>(bif (!g)then some (.done (.done false))else(iter (F_hg n e a) n 0:Option (Ctl Unit (Ctl Int (Ctl Unit Bool)))).bind λh=>match h with|.cont d=>(some (.cont (i64.wrap (a+1))))|.done d=>some d)else some (.done (.cont ())))
def F_q(n:Nat)(e:List (List UInt8)):Option Bool:=(iter (F_ku n e) n 0:Option (Ctl Unit Bool)).bind λd=>match d with|.cont a=>(some true)|.done a=>some a
theorem k_q(n:Nat)(u:List (List UInt8)):Ks (F_q n u) 142 [.rsl 1 (map Jl u)] [] (λr=>.bool r):=by
 refine Kg 11 func142 Z Z Z Z λr h=>Bd h λw y h=>Jn (b:=w) [] [] Ze Ze Zf ?_ (λJ f=>?_)
 .refine G0 1 Z (Lp [] [0] (λi=>[(3,I i)]) Ze y Zf (Lr []) λi N a e=>?_);refine G0 5 Z (Lg 3 Z Z (QV Z a (λk a=>?_) (λk a=>?_)))
  .exact Gc 2 Z (Qk a (Gx 1 Z (YC e a Z (Lr []))))
  refine Gc 9 Z (Bd a λO l a=>Iz l Z (Go 1 Z (Cz [] a (k_cf _ _) Z λP L a=>Go 3 Z (Cn Z a (λm a=>?_) (λm a=>?_)))))
  .refine Gc 9 Z (Qp a ?_);obtain rfl:=Oj e a;exact Gx 1 Z (Ql (Gx 1 Z (Rt h 2 [])))
  refine Gc 7 Z (Bd a λz B a=>CtE (b:=z) [] [0,3] Ze Ze Zf ?_ (λM env H f E=>?_))
  .refine G0 1 Z (Lp [] [0,3] (λj=>[(4,I j)]) Ze B Zf (Lr []) λj Q d g=>?_);refine G0 8 Z (QV Z d (λp d=>?_) (λp d=>?_))
   .exact Gc 2 Z (Qk d (Gx 1 Z (YC g d Z (Lr []))))
   refine Gc 5 Z (DSs 8 Z (D 2 Z ?_));obtain⟨F,q,d⟩:=Yh d;refine DS.wo (x:=.rp [.str F]) ?_ ?_
   .exact Ix q EM sizeOf9 Z Wp
   refine D 3 Z ?_;obtain⟨G,s,d⟩:=Yh d;refine DS.wo (x:=.rp [.str G]) ?_ ?_
   .exact Ix s EM sizeOf9 Z Wp
   refine D 1 Z (Eh Z (Go 3 Z (Cn Z d (λt d=>?_) (λt d=>?_))))
   .refine Gc 8 Z (Qp d ?_);obtain rfl:=Oj g d;refine Gx 1 Z (Ql (Gx 2 Z (Qp a ?_)));obtain rfl:=Oj e a;exact Gx 1 Z (Ql (Gx 1 Z (Rt h 2 [])))
   exact Gc 8 Z (Qi d (Lr []))
  subst f;exact Gx 2 Z (Ef E (Gc 5 Z (Qi a (Lr []))))
 subst f;exact QC 6 Z h 2 []
def F_lh(n:Nat)(d:Course)(a:(List (List UInt8))×Int):Option (Ctl ((List (List UInt8))×Int) (List (List UInt8))):=(bif decide (a.2<(d.Mats.length:Int))then(idx d.Mats a.2).bind λe=>(app a.1 [e.Name]).bind λf=>some (.cont (f,i64.wrap (a.2+1)))else some (.done a.1))
def F_lg(n:Nat)(d:Course)(a:(List (List UInt8))×Int):Option (Ctl ((List (List UInt8))×Int) (List (List UInt8))):=(bif decide (a.2<(d.Distances.length:Int))then(idx d.Distances a.2).bind λe=>(app a.1 [e.Name]).bind λf=>some (.cont (f,i64.wrap (a.2+1)))else some (.done a.1))
def F_mf(n:Nat)(d:Course)(a:(List (List UInt8))×Int):Option (Ctl ((List (List UInt8))×Int) (List (List UInt8))):=(bif decide (a.2<(d.Waves.length:Int))then(idx d.Waves a.2).bind λe=>(app a.1 [e.Name]).bind λf=>some (.cont (f,i64.wrap (a.2+1)))else some (.done a.1))
def F_lx(n:Nat)(d:Course)(a:(List (List UInt8))×Int):Option (Ctl ((List (List UInt8))×Int) (List (List UInt8))):=(bif decide (a.2<(d.Offences.length:Int))then(idx d.Offences a.2).bind λe=>(app a.1 [e.Name]).bind λf=>some (.cont (f,i64.wrap (a.2+1)))else some (.done a.1))
def F_mc(n:Nat)(d:Course)(a:(List (List UInt8))×Int):Option (Ctl ((List (List UInt8))×Int) (List (List UInt8))):=(bif decide (a.2<(d.Categories.length:Int))then(idx d.Categories a.2).bind λe=>(app a.1 [e.Name]).bind λf=>some (.cont (f,i64.wrap (a.2+1)))else some (.done a.1))
def F_hm(n:Nat)(a:Course):Option Bool:=(iter (F_lh n a) n (([]:List (List UInt8)),0):Option (List (List UInt8))).bind λq=>(iter (F_lg n a) n (([]:List (List UInt8)),0):Option (List (List UInt8))).bind λg=>(iter (F_mf n a) n (([]:List (List UInt8)),0):Option (List (List UInt8))).bind λh=>(iter (F_lx n a) n (([]:List (List UInt8)),0):Option (List (List UInt8))).bind λi=>(iter (F_mc n a) n (([]:List (List UInt8)),0):Option (List (List UInt8))).bind λj=>((F_cf n a.Name).bind λk=>(bif k then(F_q n q).bind λl=>(bif l then(F_q n g).bind λm=>(bif m then(F_q n h).bind λd=>(bif d then(F_q n i).bind λe=>(bif e then(F_q n j).bind λf=>some f else some false)else some false)else some false)else some false)else some false):Option Bool).bind λp=>some p
theorem k_hm(n:Nat)(a1:Course):Ks (F_hm n a1) 94 [.agg (Course.c a1)] [] (λr=>.bool r):=by
 refine Kg 8 func94 Z Z Z Z λr h=>vH (El (xs:=[]) (es:=map Jl []) Jj Z Z Z Z Z trivial Z Z) ?_;refine Fg 9 Z Z (Bd h λz h9 h=>Ct z [0,1] [1] (λz=>[(3,.osl 1 0 z.length 1)]) (λz=>[(1,.row 9 1 (map Jl z))]) Zf ?_ (λenv H l=>?_))
 .refine G0 1 Z (Lp [0,1] [1] (λm=>[(3,.osl 1 0 m.1.length 1),(4,I m.2)]) (λm=>[(1,.row 9 1 (map Jl m.1))]) h9 Zf (Lr [0,1]) λm be d G=>?_);refine G0 6 Z (Lg 3 Z Z (QV Z d (λJ d=>?_) (λJ d=>?_)))
  .exact Gc 2 Z (Qk d (Gx 1 Z (cQo G d (Lr [0,1]))))
  refine Gc 9 Z (Bd d λaj L d=>Iz L Z (Go 2 Z (vH (El (xs:=[.tmp 27]) (es:=map Jl [aj.Name]) Jj Z Z Z Z Z ⟨Z,trivial⟩ Z Z) ?_)));refine FE Z (Bd d λbg M d=>vH (QR (e:=Jl) M Jj EM (YP (i:=2))) ?_);exact Fg 9 Z Z (Qi d (Lr [0,3]))
 refine Gx 1 Z (Ef l (Gc 2 Z (vH (El (xs:=[]) (es:=map Jl []) Jj Z Z Z Z Z trivial Z Z) ?_)));refine Fg 9 Z Z (Bd h λp ak h=>Ct p [0,1,2] [1,3] (λp=>[(5,.osl 2 0 p.length 1)]) (λp=>[(2,.row 9 1 (map Jl p))]) Zf ?_ (λenv H l=>?_))
 .refine G0 1 Z (Lp [0,1,2] [1,3] (λq=>[(5,.osl 2 0 q.1.length 1),(6,I q.2)]) (λq=>[(2,.row 9 1 (map Jl q.1))]) ak Zf (Lr [0,1,2]) λq bh f N=>?_);refine G0 6 Z (Lg 3 Z Z (QV Z f (λO f=>?_) (λO f=>?_)))
  .exact Gc 2 Z (Qk f (Gx 1 Z (cQo N f (Lr [0,1,2]))))
  refine Gc 9 Z (Bd f λal P f=>Iz P Z (Go 2 Z (vH (El (xs:=[.tmp 44]) (es:=map Jl [al.Name]) Jj Z Z Z Z Z ⟨Z,trivial⟩ Z Z) ?_)));refine FE Z (Bd f λbi Q f=>vH (QR (e:=Jl) Q Jj EM (YP (i:=3))) ?_);exact Fg 9 Z Z (Qi f (Lr [0,1,4]))
 refine Gx 1 Z (Ef l (Gc 2 Z (vH (El (xs:=[]) (es:=map Jl []) Jj Z Z Z Z Z trivial Z Z) ?_)));refine Fg 9 Z Z (Bd h λs am h=>Ct s [0,1,2,3] [1,3,5] (λs=>[(7,.osl 3 0 s.length 1)]) (λs=>[(3,.row 9 1 (map Jl s))]) Zf ?_ (λenv H l=>?_))
 .refine G0 1 Z (Lp [0,1,2,3] [1,3,5] (λt=>[(7,.osl 3 0 t.1.length 1),(8,I t.2)]) (λt=>[(3,.row 9 1 (map Jl t.1))]) am Zf (Lr [0,1,2,3]) λt bj g R=>?_);refine G0 6 Z (Lg 3 Z Z (QV Z g (λT g=>?_) (λT g=>?_)))
  .exact Gc 2 Z (Qk g (Gx 1 Z (cQo R g (Lr [0,1,2,3]))))
  refine Gc 9 Z (Bd g λan V g=>Iz V Z (Go 2 Z (vH (El (xs:=[.tmp 61]) (es:=map Jl [an.Name]) Jj Z Z Z Z Z ⟨Z,trivial⟩ Z Z) ?_)));refine FE Z (Bd g λbk W g=>vH (QR (e:=Jl) W Jj EM (YP (i:=4))) ?_);exact Fg 9 Z Z (Qi g (Lr [0,1,2,5]))
 refine Gx 1 Z (Ef l (Gc 2 Z (vH (El (xs:=[]) (es:=map Jl []) Jj Z Z Z Z Z trivial Z Z) ?_)));refine Fg 9 Z Z (Bd h λu ao h=>Ct u [0,1,2,3,4] [1,3,5,7] (λu=>[(9,.osl 4 0 u.length 1)]) (λu=>[(4,.row 9 1 (map Jl u))]) Zf ?_ (λenv H l=>?_))
 .refine G0 1 Z (Lp [0,1,2,3,4] [1,3,5,7] (λw=>[(9,.osl 4 0 w.1.length 1),(10,I w.2)]) (λw=>[(4,.row 9 1 (map Jl w.1))]) ao Zf (Lr [0,1,2,3,4]) λw bl j X=>?_);refine G0 6 Z (Lg 3 Z Z (QV Z j (λY j=>?_) (λY j=>?_)))
  .exact Gc 2 Z (Qk j (Gx 1 Z (cQo X j (Lr [0,1,2,3,4]))))
  refine Gc 9 Z (Bd j λaq aa j=>Iz aa Z (Go 2 Z (vH (El (xs:=[.tmp 78]) (es:=map Jl [aq.Name]) Jj Z Z Z Z Z ⟨Z,trivial⟩ Z Z) ?_)));refine FE Z (Bd j λbm ab j=>vH (QR (e:=Jl) ab Jj EM (YP (i:=5))) ?_);exact Fg 9 Z Z (Qi j (Lr [0,1,2,3,6]))
 refine Gx 1 Z (Ef l (Gc 2 Z (vH (El (xs:=[]) (es:=map Jl []) Jj Z Z Z Z Z trivial Z Z) ?_)));refine Fg 9 Z Z (Bd h λx ar h=>Ct x [0,1,2,3,4,5] [1,3,5,7,9] (λx=>[(11,.osl 5 0 x.length 1)]) (λx=>[(5,.row 9 1 (map Jl x))]) Zf ?_ (λenv H l=>?_))
 .refine G0 1 Z (Lp [0,1,2,3,4,5] [1,3,5,7,9] (λy=>[(11,.osl 5 0 y.1.length 1),(12,I y.2)]) (λy=>[(5,.row 9 1 (map Jl y.1))]) ar Zf (Lr [0,1,2,3,4,5]) λy bn k ac=>?_);refine G0 6 Z (Lg 3 Z Z (QV Z k (λad k=>?_) (λad k=>?_)))
  .exact Gc 2 Z (Qk k (Gx 1 Z (cQo ac k (Lr [0,1,2,3,4,5]))))
  refine Gc 9 Z (Bd k λau ae k=>Iz ae Z (Go 2 Z (vH (El (xs:=[.tmp 95]) (es:=map Jl [au.Name]) Jj Z Z Z Z Z ⟨Z,trivial⟩ Z Z) ?_)));refine FE Z (Bd k λbo af k=>vH (QR (e:=Jl) af Jj EM (YP (i:=6))) ?_);exact Fg 9 Z Z (Qi k (Lr [0,1,2,3,4,7]))
 refine Gx 1 Z (Ef l (Gc 1 Z (Bd h λB a h=>Cg B [] [] (λB=>[(2,.bool B)]) Ze Zf ?_ ?_)))
 .refine G0 3 Z (Cz [] a (k_cf _ _) Z λbp ay a=>Go 1 Z (Is 101 a Z (λag a=>?_) (λag a=>?_)))
  .refine Go 1 Z (Cb a (k_q _ _) Z (lo ln) λbq az a=>Go 2 Z (Is 105 a Z (λah a=>?_) (λah a=>?_)))
   .refine Go 1 Z (Cb a (k_q _ _) Z (lo ln) λbr ba a=>Go 2 Z (Is 109 a Z (λai a=>?_) (λai a=>?_)))
    .refine Go 1 Z (Cb a (k_q _ _) Z (lo ln) λbb av a=>Go 2 Z (Is 113 a Z (λE a=>?_) (λE a=>?_)))
     .refine Go 1 Z (Cb a (k_q _ _) Z (lo ln) λbc aw a=>Go 2 Z (Is 117 a Z (λF a=>?_) (λF a=>?_)))
      .exact Go 1 Z (Cb a (k_q _ _) Z (lo ln) λbd ax a=>Gl 3 Z a [])
      .exact Gl 5 Z a []
     .exact Gl 9 Z a []
    .exact Gl 13 Z a []
   .exact Gl 17 Z a []
  .exact Gl 21 Z a []
 exact QC 1 Z h 2 []
def F_b(n:Nat)(a:Int)(d:Int)(e:Int):Option Bool:=((bif decide (d<=a)then some (decide (a<=e))else some false):Option Bool).bind λf=>some f
theorem k_b(n:Nat)(e:Int)(f:Int)(g:Int):Ks (F_b n e f g) 143 [I e,I f,I g] [] (λr=>.bool r):=by
 refine Kg 6 func143 Z Z Z Z λr h=>Bd h λd a h=>Cg d [] [] (λd=>[(6,.bool d)]) Ze Zf ?_ ?_
 .refine G0 5 Z (Is 10 a Z (λi a=>?_) (λi a=>?_))
  iterate 2 exact Gl 6 Z a []
 exact QC 1 Z h 6 []
def F_h(n:Nat)(a:Course)(d:Int):Option Bool:=(F_b n d 0 (i64.wrap ((a.Mats.length:Int)-1))).bind λe=>some e
theorem k_h(n:Nat)(a:Course)(d:Int):Ks (F_h n a d) 144 [.agg (Course.c a),I d] [] (λr=>.bool r):=by
 exact Kg 11 func144 Z Z Z Z λr h=>Lg 1 Z Z (Cz [] h (k_b _ _ _ _) Z λf e h=>Gt 4 Z h 4 [])
def F_iq(n:Nat)(e:Course)(f:List Part)(rec201:Course->(List Part)->Option Bool)(d:Int):Option (Ctl Int (Ctl Unit Bool)):=(bif decide (d<(f.length:Int))then(idx f d).bind λa=>((bif (a.Laps==0)then(F_h n e a.Mat).bind λg=>(bif g then some ((a.Parts.length:Int)==0)else some false)else some false):Option Bool).bind λh=>((F_b n a.Laps 1 64).bind λi=>(bif i then(bif (a.Mat==0)then(bif decide (0<(a.Parts.length:Int))then(rec201 e a.Parts).bind λj=>some j else some false)else some false)else some false):Option Bool).bind λk=>((bif (!h)then some (!k)else some false):Option Bool).bind λl=>(bif l then some (.done (.done false))else some (.cont (i64.wrap (d+1))))else some (.done (.cont ())))
def B_u(rec201:Course->(List Part)->Option Bool)(n:Nat)(e:Course)(f:List Part):Option Bool:=(iter (F_iq n e f rec201) n 0:Option (Ctl Unit Bool)).bind λd=>match d with|.cont a=>(some true)|.done a=>some a
theorem QaQ(rec201:Course->(List Part)->Option Bool)(g:∀(i:Course) (j:List Part) (r:Bool),rec201 i j=some r->Csm prog 206 [.agg (Course.c i),.rsl 3 (map Part.enc j)] [] (λr=>.bool r) r)(n:Nat)(i:Course)(j:List Part)(r:Bool)(h:B_u rec201 n i j=some r):Csm prog 206 [.agg (Course.c i),.rsl 3 (map Part.enc j)] [] (λr=>.bool r) r:=by
 refine QW func206 Z Z Z ?_;refine G0 12 Z (Bd h λG J h=>Jn (b:=G) [] [] Ze Ze Zf ?_ (λN L=>?_))
 .refine G0 1 Z (Lp [0] [1,2] (λs=>[(5,I s)]) Ze J Zf (Lr [0]) λs R a k=>?_);refine G0 5 Z (Lg 3 Z Z (QV Z a (λt a=>?_) (λt a=>?_)))
  .exact Gc 2 Z (Qk a (Gx 1 Z (YC k a Z (Lr []))))
  refine Gc 8 Z (Bd a λM u a=>IzE u (QF M) Z (Go 6 Z (Bd a λl e a=>Ct l [0,1] [1,2,5,6] (λl=>[(7,.bool l)]) Ze Zf ?_ (λenv H m=>?_))))
  .refine G0 5 Z (Is 22 e Z (λw e=>?_) (λw e=>?_))
   .refine Go 3 Z (Cz [] e (k_h _ _ _) Z λT O e=>Go 2 Z (Is 28 e Z (λx e=>?_) (λx e=>?_)))
    .exact Go 2 Z (Lm Z (Gl 4 Z e [0,1]))
    .exact Gl 7 Z e [0,1]
   .exact Gl 13 Z e [0,1]
  refine Gx 1 Z (Ef m (Gc 1 Z (Bd a λp d a=>Ct p [0] [1,2,5,7] (λp=>[(8,.bool p)]) Ze Zf ?_ (λenv H m=>?_))))
  .refine G0 3 Z (Cz [] d (k_b _ _ _ _) Z λV P d=>Go 1 Z (Is 37 d Z (λy d=>?_) (λy d=>?_)))
   .refine Go 5 Z (Is 42 d Z (λz d=>?_) (λz d=>?_))
    .refine Go 2 Z (Lg 3 Z Z (Is 48 d Z (λB d=>?_) (λB d=>?_)))
     .exact Go 3 Z (Cz [] d (g _ _) Z λW Q d=>Gl 3 Z d [0])
     .exact Gl 7 Z d [0]
    .exact Gl 13 Z d [0]
   .exact Gl 18 Z d [0]
  refine Gx 1 Z (Ef m (Gc 1 Z (Bd a λq f a=>Cg q [0] [1,2,5] (λq=>[(59,.bool q)]) Ze Zf ?_ ?_)))
  .refine G0 4 Z (Is 56 f Z (λE f=>?_) (λE f=>?_))
   iterate 2 exact Gl 4 Z f [0]
  refine Cn Z a (λF a=>?_) (λF a=>?_)
  .refine Gc 8 Z (Qp a ?_);obtain rfl:=Oj k a;exact Gx 1 Z (Ql (Gx 1 Z (Rt h 4 [])))
  exact Gc 8 Z (Qi a (Lr [0]))
 subst L;exact QC 6 Z h 4 []
def F_u:Nat->Course->(List Part)->Option Bool
  |0=>λ_ _=>none
  |n+1=>B_u (F_u n) n
theorem k_u(n:Nat):∀(a:Course) (d:List Part) (r:Bool),F_u n a d=some r->Csm prog 206 [.agg (Course.c a),.rsl 3 (map Part.enc d)] [] (λr=>.bool r) r:=by
  induction n with
  |zero=>intro a d r h;cases h
  |succ n ih=>intro a d r h;exact QaQ _ ih n a d r h
end Go.Sw
