/- What the functions compute that OutcomeOf reaches, and that their calls refine it (part 3 of 7). -/
import Derived.Test.YtmaeahbcmjpfpaaGreatW23Of2
set_option linter.unusedVariables false
set_option linter.unusedSimpArgs false
set_option maxRecDepth 100000
set_option maxHeartbeats 4000000
namespace Go.Sw
open Option renaming some→AC,none→AF,bind→AH
open Bool renaming false→AD,true→AE
open Decidable renaming decide→AG
open List renaming length→AI
variable (n:Nat)
open List(map)
open Int(toNat)
open Go.IntKind(i64 u64 u8)
open Go.Proofs Tryz
def Wa(m:Int)(a2:Uf)(a6:CE)(a7:Int)(M:AA CQ)(t:CE)(x:CG)(y:AA Int)(B:AA CK)(E:AA CQ)(F:AA Ud)(G:Int)(H:AA (Int×Ud))(J:CE)(L:CG)(rec158:Int->Uf->Bool->Int->(AA CW)->CE->Int->(AA Int)->(AA CQ)->(AA Bool)->CE->CG->(AA Int)->(AA CK)->(AA CQ)->(AA Ud)->Int->(AA (Int×Int))->(AA (Int×Int))->(AA (Int×Ud))->CE->CG->AB ((AA CW)×(AA Int)×(AA (Int×Int))×(AA Bool)×(AA (Int×Int))))(j:Int)(d:(AA CW)×(AA Int)×(AA (Int×Int))×(AA Bool)×(AA (Int×Int))×Int):AB (CJ ((AA CW)×(AA Int)×(AA (Int×Int))×(AA Bool)×(AA (Int×Int))×Int) ((AA CW)×(AA Int)×(AA (Int×Int))×(AA Bool)×(AA (Int×Int)))):=(bif d.2.2.2.2.2<(AI M:Int) then AH (AH (CN M d.2.2.2.2.2) λN=>AH (AH (CN d.2.2.2.1 d.2.2.2.2.2) λO=>(bif O then AC AE else AC (N.Af != j)):AB Bool) λP=>(bif P then AC (d.1,d.2.1,d.2.2.1,d.2.2.2.1,d.2.2.2.2.1)else AH (LE n a2 m d.2.2.2.2.2 t x y B E F G H J L) λq=>AH ((bif q.2 then AH (CN d.2.2.2.1 d.2.2.2.2.2) λab=>AH (JF d.2.2.2.1 d.2.2.2.2.2 AE) λQ=>AH (CN d.2.1 m) λac=>AH (JF d.2.1 m d.2.2.2.2.2) λR=>AH (AC (Qd d.2.2.2.2.1 j 0)) λT=>AH (AC (QE d.2.2.2.2.1 j (i64.wrap (T-1)))) λV=>AH (rec158 (i64.wrap (m+1)) q.1 AD m d.1 a6 a7 R M Q t x y B E F G d.2.2.1 V H J L) λf=>AH (AC (Qd f.2.2.2.2 j 0)) λW=>AH (AC (QE f.2.2.2.2 j (i64.wrap (W+1)))) λX=>AH (CN f.2.2.2.1 d.2.2.2.2.2) λad=>AH (JF f.2.2.2.1 d.2.2.2.2.2 AD) λY=>AH (CN f.2.1 m) λae=>AH (JF f.2.1 m (-1)) λaa=>AC (f.1,aa,f.2.2.1,Y,X)else AC (d.1,d.2.1,d.2.2.1,d.2.2.2.1,d.2.2.2.2.1)):AB ((AA CW)×(AA Int)×(AA (Int×Int))×(AA Bool)×(AA (Int×Int)))) λg=>AC (g.1,g.2.1,g.2.2.1,g.2.2.2.1,g.2.2.2.2)):AB ((AA CW)×(AA Int)×(AA (Int×Int))×(AA Bool)×(AA (Int×Int)))) λh=>AC (.k (h.1,h.2.1,h.2.2.1,h.2.2.2.1,h.2.2.2.2,i64.wrap (d.2.2.2.2.2+1)))else AC (.d (d.1,d.2.1,d.2.2.1,d.2.2.2.1,d.2.2.2.2.1)))
def a_(rec158:Int->Uf->Bool->Int->(AA CW)->CE->Int->(AA Int)->(AA CQ)->(AA Bool)->CE->CG->(AA Int)->(AA CK)->(AA CQ)->(AA Ud)->Int->(AA (Int×Int))->(AA (Int×Int))->(AA (Int×Ud))->CE->CG->AB ((AA CW)×(AA Int)×(AA (Int×Int))×(AA Bool)×(AA (Int×Int))))(n:Nat)(x:Int)(Y:Uf)(a3:Bool)(a4:Int)(G:AA CW)(W:CE)(X:Int)(R:AA Int)(a9:AA CQ)(y:AA Bool)(H:CE)(J:CG)(B:AA Int)(L:AA CK)(M:AA CQ)(N:AA Ud)(q:Int)(E:AA (Int×Int))(t:AA (Int×Int))(O:AA (Int×Ud))(P:CE)(Q:CG):AB ((AA CW)×(AA Int)×(AA (Int×Int))×(AA Bool)×(AA (Int×Int))):=AH ((bif 64<(AI G:Int) then AC AE else AH (Rn n t E) λr6=>AC (AG (W.AT.BF<r6))):AB Bool) λb3=>(bif b3 then AC (G,R,E,y,t)else(bif (x==X)then AH ((bif q<=a4 then AH (Zh n R) λad=>AH (app G [{Ak:=ad,Ai:=a4:CW}]) λae=>AC ae else AC G):AB (AA CW)) λaf=>AC (af,R,E,y,t)else AH (CN B x) λF=>AH (AC (Qd E F 0)) λag=>AH (AC (QE E F (i64.wrap (ag-1)))) λT=>AH ((bif (!a3)then AH (LE n Y x (-1) H J B L M N q O P Q) λV=>AH ((bif V.2 then AH (rec158 (i64.wrap (x+1)) V.1 AD x G W X R a9 y H J B L M N q T t O P Q) λg=>AC (g.1,g.2.1,g.2.2.1,g.2.2.2.1,g.2.2.2.2)else AC (G,R,T,y,t)):AB ((AA CW)×(AA Int)×(AA (Int×Int))×(AA Bool)×(AA (Int×Int)))) λh=>AH (iter (Wa n x Y W X a9 H J B L M N q O P Q rec158 F) n (h.1,h.2.1,h.2.2.1,h.2.2.2.1,h.2.2.2.2,0):AB ((AA CW)×(AA Int)×(AA (Int×Int))×(AA Bool)×(AA (Int×Int)))) λj=>AC (j.1,j.2.1,j.2.2.1,j.2.2.2.1,j.2.2.2.2)else AC (G,R,T,y,t)):AB ((AA CW)×(AA Int)×(AA (Int×Int))×(AA Bool)×(AA (Int×Int)))) λd=>AH ((bif a3 then AC AE else AC (AG (q<x))):AB Bool) λaa=>AH ((bif aa then AH (rec158 (i64.wrap (x+1)) Y AE a4 d.1 W X d.2.1 a9 d.2.2.2.1 H J B L M N q d.2.2.1 d.2.2.2.2 O P Q) λm=>AC (m.1,m.2.1,m.2.2.1,m.2.2.2.1,m.2.2.2.2)else AC (d.1,d.2.1,d.2.2.1,d.2.2.2.1,d.2.2.2.2)):AB ((AA CW)×(AA Int)×(AA (Int×Int))×(AA Bool)×(AA (Int×Int)))) λf=>AH (AC (Qd f.2.2.1 F 0)) λab=>AH (AC (QE f.2.2.1 F (i64.wrap (ab+1)))) λac=>AC (f.1,f.2.1,ac,f.2.2.2.1,f.2.2.2.2)))
theorem Qcf(rec158:Int->Uf->Bool->Int->(AA CW)->CE->Int->(AA Int)->(AA CQ)->(AA Bool)->CE->CG->(AA Int)->(AA CK)->(AA CQ)->(AA Ud)->Int->(AA (Int×Int))->(AA (Int×Int))->(AA (Int×Ud))->CE->CG->AB ((AA CW)×(AA Int)×(AA (Int×Int))×(AA Bool)×(AA (Int×Int))))(cl:∀(a1:Int) (a2:Uf) (a3:Bool) (a4:Int) (a5:AA CW) (a6:CE) (a7:Int) (a8:AA Int) (a9:AA CQ) (aa:AA Bool) (E:CE) (F:CG) (G:AA Int) (J:AA CK) (L:AA CQ) (M:AA Ud) (N:Int) (ah:AA (Int×Int)) (aj:AA (Int×Int)) (O:AA (Int×Ud)) (P:CE) (Q:CG),Kq (rec158 a1 a2 a3 a4 a5 a6 a7 a8 a9 aa E F G J L M N ah aj O P Q) 29 [I a1,.a (Uf.c a2),.b a3,I a4,.p 0 0,.p 1 0,.p 2 0,.p 3 0,.p 4 0,.p 5 0,.p 6 0,.p 7 0,.p 8 0,.p 9 0,.p 10 0] [.c 49 [.o 11 (AI a5) 2],.c 123 [.fn (.func 27) [] [.p 10 0,.p 6 0]],.c 33 (CE.c a6),.c 3 [I a7],.c 111 [.p 12 0],.c 54 [.o 13 (AI a8) 1],.c 120 [.map 14],.c 126 [.fn (.func 29) [] [.p 0 0,.p 1 0,.p 2 0,.p 3 0,.p 4 0,.p 5 0,.p 6 0,.p 7 0,.p 8 0,.p 9 0,.p 10 0]],.c 42 [.q 5 (map CQ.c a9)],.c 125 [.o 15 (AI aa) 1],.c 120 [.map 16],.r 56 2 (map CW.c a5),.c 119 (match_task.tc E F G J L M (.map 17) (.fn (.func 93) [] [.p 18 0,.p 19 0,.p 20 0]) N),.r 3 1 (map eI a8),.map (Qi I I ah),.r 4 1 (map JG aa),.map (Qi I I aj),.map (Qi I (λx=>A.a (Ud.c x)) O),.c 111 [.p 12 0],.c 33 (CE.c P),.c 39 (CG.c Q)] (λ_=>.t []) (λr=>[.c 49 [.o 21 (AI r.1) 2],.c 123 [.fn (.func 27) [] [.p 10 0,.p 6 0]],.c 33 (CE.c a6),.c 3 [I a7],.c 111 [.p 12 0],.c 54 [.o 13 (AI r.2.1) 1],.c 120 [.map 14],.c 126 [.fn (.func 29) [] [.p 0 0,.p 1 0,.p 2 0,.p 3 0,.p 4 0,.p 5 0,.p 6 0,.p 7 0,.p 8 0,.p 9 0,.p 10 0]],.c 42 [.q 5 (map CQ.c a9)],.c 125 [.o 15 (AI r.2.2.2.1) 1],.c 120 [.map 16],.dead,.c 119 (match_task.tc E F G J L M (.map 17) (.fn (.func 93) [] [.p 18 0,.p 19 0,.p 20 0]) N),.r 3 1 (map eI r.2.1),.map (Qi I I r.2.2.1),.r 4 1 (map JG r.2.2.2.1),.map (Qi I I r.2.2.2.2),.map (Qi I (λx=>A.a (Ud.c x)) O),.c 111 [.p 12 0],.c 33 (CE.c P),.c 39 (CG.c Q),.r 56 2 (map CW.c r.1)]))(n:Nat)(a1:Int)(a2:Uf)(a3:Bool)(a4:Int)(a5:AA CW)(a6:CE)(a7:Int)(a8:AA Int)(a9:AA CQ)(aa:AA Bool)(E:CE)(F:CG)(G:AA Int)(J:AA CK)(L:AA CQ)(M:AA Ud)(N:Int)(ah:AA (Int×Int))(aj:AA (Int×Int))(O:AA (Int×Ud))(P:CE)(Q:CG):Kq (a_ rec158 n a1 a2 a3 a4 a5 a6 a7 a8 a9 aa E F G J L M N ah aj O P Q) 29 [I a1,.a (Uf.c a2),.b a3,I a4,.p 0 0,.p 1 0,.p 2 0,.p 3 0,.p 4 0,.p 5 0,.p 6 0,.p 7 0,.p 8 0,.p 9 0,.p 10 0] [.c 49 [.o 11 (AI a5) 2],.c 123 [.fn (.func 27) [] [.p 10 0,.p 6 0]],.c 33 (CE.c a6),.c 3 [I a7],.c 111 [.p 12 0],.c 54 [.o 13 (AI a8) 1],.c 120 [.map 14],.c 126 [.fn (.func 29) [] [.p 0 0,.p 1 0,.p 2 0,.p 3 0,.p 4 0,.p 5 0,.p 6 0,.p 7 0,.p 8 0,.p 9 0,.p 10 0]],.c 42 [.q 5 (map CQ.c a9)],.c 125 [.o 15 (AI aa) 1],.c 120 [.map 16],.r 56 2 (map CW.c a5),.c 119 (match_task.tc E F G J L M (.map 17) (.fn (.func 93) [] [.p 18 0,.p 19 0,.p 20 0]) N),.r 3 1 (map eI a8),.map (Qi I I ah),.r 4 1 (map JG aa),.map (Qi I I aj),.map (Qi I (λx=>A.a (Ud.c x)) O),.c 111 [.p 12 0],.c 33 (CE.c P),.c 39 (CG.c Q)] (λ_=>.t []) (λr=>[.c 49 [.o 21 (AI r.1) 2],.c 123 [.fn (.func 27) [] [.p 10 0,.p 6 0]],.c 33 (CE.c a6),.c 3 [I a7],.c 111 [.p 12 0],.c 54 [.o 13 (AI r.2.1) 1],.c 120 [.map 14],.c 126 [.fn (.func 29) [] [.p 0 0,.p 1 0,.p 2 0,.p 3 0,.p 4 0,.p 5 0,.p 6 0,.p 7 0,.p 8 0,.p 9 0,.p 10 0]],.c 42 [.q 5 (map CQ.c a9)],.c 125 [.o 15 (AI r.2.2.2.1) 1],.c 120 [.map 16],.dead,.c 119 (match_task.tc E F G J L M (.map 17) (.fn (.func 93) [] [.p 18 0,.p 19 0,.p 20 0]) N),.r 3 1 (map eI r.2.1),.map (Qi I I r.2.2.1),.r 4 1 (map JG r.2.2.2.1),.map (Qi I I r.2.2.2.2),.map (Qi I (λx=>A.a (Ud.c x)) O),.c 111 [.p 12 0],.c 33 (CE.c P),.c 39 (CG.c Q),.r 56 2 (map CW.c r.1)]):=by
 refine⟨λr h=>?_⟩;refine Qkx func29 Z Z Z Z ?_;refine Iw.seq ?_;refine G0 3 Z (bK ?_);refine Iw.seq ?_;refine G0 1 Z (Bd h λb3 h4 h=>Ct b3 [0,1,2,3,4,5,6,7,8,9,10,11,12,13,14,15,16,17,18,19,20,21] [0,2,3,4,7,8,9,10,11,12,13,14,16] (λb3=>[(36,.b b3)]) Ze Zf ?_ (λenv H q=>?_))
 .refine G0 0 Z (GX 9 Z (D 4 Z (DS.is 3 h4 Z Z Z (λ_ h4=>?_) (λ_ h4=>?_))))
  .exact bu h4
  .refine D 1 Z ?_;obtain⟨r6,cn,h4⟩:=Yf h4;refine DS.wo (x:=I r6) ?_ ?_
   .exact Pc [10,6,16,14] Z (aH call27 Z Z Z Z) (Qsz (Ko.cons (.kc _ _ Z) (Ko.cons (.kc _ _ Z) (Ko.cons (.mp _) (Ko.cons (.mp _) Ko.nil)))) ((kp _ _ _).c _ cn) Z) (hg:=(gT Z)) Z Wp
   exact bu h4
 refine Gx 1 Z (Ee q (Cn Z h (λ_ h=>?_) (λ_ h=>?_)))
 .refine Gc 1 Z (qo ?_);obtain rfl:=Oi h;refine⟨[],_,_,?_,IA.nil Z,Z,Z⟩;refine En (aQ (i:=11) (j:=0) (m:=0) Z Z Z Z Z) ?_;exact Lr [0,1,2,3,4,5,6,7,8,9,10,11,12,13,14,15,16,17,18,19,20,22]
 refine Gc 1 Z (bK ?_);refine Iw.seq ?_;refine G0 7 Z (Cn Z h (λ_ h=>?_) (λ_ h=>?_))
 .refine Gc 11 Z (Bd h λaz ai h=>Ct az [0,1,2,3,4,5,6,7,8,9,10,11,12,13,14,15,16,17,18,19,20,0] [] Ze (λaz=>[(0,.c 49 [.o 21 (AI az) 2]),(11,.dead),(21,.r 56 2 (map CW.c az))]) Zf ?_ (λenv H q=>?_))
  .refine G0 0 Z (Cn Z ai (λ_ ai=>?_) (λ_ ai=>?_))
   .refine Iu 6 [2] [(0,0,1),(0,0,0),(1,0,0),(0,0,1),(0,1,1),(0,1,1)] (by kernel_rfl) ?_;refine Ll (lo:=0) (x:=.o 11 (AI a5) 2) ⟨Z,trivial⟩ ?_;refine Dk 1 Z ?_;obtain⟨av,cc,ai⟩:=Yf ai;refine Ew (x:=.q 1 (map eI av)) (X1:=[.c 49 [.o 11 (AI a5) 2],.c 123 [.fn (.func 27) [] [.p 10 0,.p 6 0]],.c 33 (CE.c a6),.c 3 [I a7],.c 111 [.p 12 0],.c 54 [.o 13 (AI a8) 1],.c 120 [.map 14],.c 126 [.fn (.func 29) [] [.p 0 0,.p 1 0,.p 2 0,.p 3 0,.p 4 0,.p 5 0,.p 6 0,.p 7 0,.p 8 0,.p 9 0,.p 10 0]],.c 42 [.q 5 (map CQ.c a9)],.c 125 [.o 15 (AI aa) 1],.c 120 [.map 16],.r 56 2 (map CW.c a5),.c 119 (match_task.tc E F G J L M (.map 17) (.fn (.func 93) [] [.p 18 0,.p 19 0,.p 20 0]) N),.r 3 1 (map eI a8),.map (Qi I I ah),.r 4 1 (map JG aa),.map (Qi I I aj),.map (Qi I (λx=>A.a (Ud.c x)) O),.c 111 [.p 12 0],.c 33 (CE.c P),.c 39 (CG.c Q),.c 130 (Uf.c a2),.dead]) ?_ ?_
    .refine Qt [13] (Dc.fn call30 Z Z Z) ((kg _ _).c _ cc) ?_;rintro _ _ ⟨rfl,rfl⟩;refine OS (x:=(.o 22 (AI av) 1)) (H:=[.c 49 [.o 11 (AI a5) 2],.c 123 [.fn (.func 27) [] [.p 10 0,.p 6 0]],.c 33 (CE.c a6),.c 3 [I a7],.c 111 [.p 12 0],.c 54 [.o 13 (AI a8) 1],.c 120 [.map 14],.c 126 [.fn (.func 29) [] [.p 0 0,.p 1 0,.p 2 0,.p 3 0,.p 4 0,.p 5 0,.p 6 0,.p 7 0,.p 8 0,.p 9 0,.p 10 0]],.c 42 [.q 5 (map CQ.c a9)],.c 125 [.o 15 (AI aa) 1],.c 120 [.map 16],.r 56 2 (map CW.c a5),.c 119 (match_task.tc E F G J L M (.map 17) (.fn (.func 93) [] [.p 18 0,.p 19 0,.p 20 0]) N),.r 3 1 (map eI a8),.map (Qi I I ah),.r 4 1 (map JG aa),.map (Qi I I aj),.map (Qi I (λx=>A.a (Ud.c x)) O),.c 111 [.p 12 0],.c 33 (CE.c P),.c 39 (CG.c Q),.c 130 (Uf.c a2),.r 3 1 (map eI av)]) Z (by simp only[QQ,Vm,Vn,List.set_cons_succ,List.set_cons_zero,VN,Vk];rfl) ?_;refine Er (Yz 22 [(48,_)]) ?_;refine Er OR ?_;exact Wp
    refine Dk 2 Z ?_;refine DK.wo (x:=.q 2 (map CW.c [{Ak:=av,Ai:=a4:CW}])) ?_ ?_
    .refine vH (YZ (xs:=[.tmp 50]) (es:=map CW.c [{Ak:=av,Ai:=a4:CW}]) rm Z Z Z Z Z ⟨Z,trivial⟩ Z Z) ?_;exact FE Z Wp
    refine DK.done Z Z (Bd ai λdj cd ai=>?_);refine vH (YP (e:=CW.c) cd rm Ge Sd) ?_;exact bu ai
   refine Gc 1 Z ?_;cases ai;refine OM ?_;refine En (aQ (i:=11) (j:=0) (m:=0) Z Z Z Z Z) ?_;exact Lr [0,1,2,3,4,5,6,7,8,9,10,11,12,13,14,15,16,17,18,19,20,22]
  refine Gx 1 Z (Ee q (Gc 1 Z (qo ?_)));exact bu h
 refine Gc 1 Z (bK ?_);refine Iw.seq ?_;refine G0 6 Z (Bd h λab ce h=>Iz ce Z (Go 4 Z (bK ?_)));refine Iw.seq ?_;refine G0 3 Z (Bd h λca cf h=>?_);refine vX (I ca) (YO (ev:=I) (z0:=0) (k:=ab) (l:=ah) YY cf EC EH Eo) ?_;refine Go 1 Z (Bd h λcq cg h=>?_);refine vU (Jj (ev:=I) (k:=ab) (v:=(i64.wrap (ca-1))) (l:=ah) YY cg Z EC) ?_;refine Fg 1 Z Z (bK ?_);refine Iw.defer (caps:=[.p 6 0,.p 22 0]) (CY.makeFunc (first:=[]) (cap:=[.tmp 10,.tmp 19]) Z Z Z) (XS Z) Z ?_;refine G0 7 Z (Bd h λR B h=>Ct R [0,1,2,3,4,5,6,7,8,9,10,11,12,13,14,15,16,17,18,19,20,21,22,0] [0,2,3,8,11,16] Ze (λR=>[(0,.c 49 [.o 23 (AI R.1) 2]),(5,.c 54 [.o 13 (AI R.2.1) 1]),(9,.c 125 [.o 15 (AI R.2.2.2.1) 1]),(11,.dead),(13,.r 3 1 (map eI R.2.1)),(14,.map (Qi I I R.2.2.1)),(15,.r 4 1 (map JG R.2.2.2.1)),(16,.map (Qi I I R.2.2.2.2)),(23,.r 56 2 (map CW.c R.1))]) Zf ?_ (λenv H q=>?_))
 .refine G0 0 Z (Cn Z B (λ_ B=>?_) (λ_ B=>?_))
  .refine Gc 6 Z (Cd [12,17,18,19,20] B Kc Z λak cr B=>?_);refine OS (x:=(.t [.a (Uf.c ak.1),.b ak.2])) (H:=[.c 49 [.o 11 (AI a5) 2],.c 123 [.fn (.func 27) [] [.p 10 0,.p 6 0]],.c 33 (CE.c a6),.c 3 [I a7],.c 111 [.p 12 0],.c 54 [.o 13 (AI a8) 1],.c 120 [.map 14],.c 126 [.fn (.func 29) [] [.p 0 0,.p 1 0,.p 2 0,.p 3 0,.p 4 0,.p 5 0,.p 6 0,.p 7 0,.p 8 0,.p 9 0,.p 10 0]],.c 42 [.q 5 (map CQ.c a9)],.c 125 [.o 15 (AI aa) 1],.c 120 [.map 16],.r 56 2 (map CW.c a5),.c 119 (match_task.tc E F G J L M (.map 17) (.fn (.func 93) [] [.p 18 0,.p 19 0,.p 20 0]) N),.r 3 1 (map eI a8),.map (Qi I I cq),.r 4 1 (map JG aa),.map (Qi I I aj),.map (Qi I (λx=>A.a (Ud.c x)) O),.c 111 [.p 12 0],.c 33 (CE.c P),.c 39 (CG.c Q),.c 130 (Uf.c a2),.c 3 [I ab],.c 130 (Uf.c ak.1)]) Z (by simp only[QQ,Vm,Vn,List.set_cons_succ,List.set_cons_zero,VN,Vk];rfl) ?_;refine Go 13 Z (Bd B λT af B=>Ct T [0,1,2,3,4,5,6,7,8,9,10,11,12,13,14,15,16,17,18,19,20,21,22,0] [0,2,3,8,9,11,12,13,14,16,19] Ze (λT=>[(0,.c 49 [.o 23 (AI T.1) 2]),(5,.c 54 [.o 13 (AI T.2.1) 1]),(9,.c 125 [.o 15 (AI T.2.2.2.1) 1]),(11,.dead),(13,.r 3 1 (map eI T.2.1)),(14,.map (Qi I I T.2.2.1)),(15,.r 4 1 (map JG T.2.2.2.1)),(16,.map (Qi I I T.2.2.2.2)),(23,.r 56 2 (map CW.c T.1))]) Zf ?_ (λenv H q=>?_))
   .refine G0 0 Z (Cn Z af (λ_ af=>?_) (λ_ af=>?_))
    .refine Gc 6 Z (Cd [0,1,2,3,4,5,6,7,8,9,10,11,12,13,14,15,16,17,18,19,20] af Kc Z λac cs af=>?_);refine OS (x:=(.t [])) (H:=[.c 49 [.o 25 (AI ac.1) 2],.c 123 [.fn (.func 27) [] [.p 10 0,.p 6 0]],.c 33 (CE.c a6),.c 3 [I a7],.c 111 [.p 12 0],.c 54 [.o 13 (AI ac.2.1) 1],.c 120 [.map 14],.c 126 [.fn (.func 29) [] [.p 0 0,.p 1 0,.p 2 0,.p 3 0,.p 4 0,.p 5 0,.p 6 0,.p 7 0,.p 8 0,.p 9 0,.p 10 0]],.c 42 [.q 5 (map CQ.c a9)],.c 125 [.o 15 (AI ac.2.2.2.1) 1],.c 120 [.map 16],.dead,.c 119 (match_task.tc E F G J L M (.map 17) (.fn (.func 93) [] [.p 18 0,.p 19 0,.p 20 0]) N),.r 3 1 (map eI ac.2.1),.map (Qi I I ac.2.2.1),.r 4 1 (map JG ac.2.2.2.1),.map (Qi I I ac.2.2.2.2),.map (Qi I (λx=>A.a (Ud.c x)) O),.c 111 [.p 12 0],.c 33 (CE.c P),.c 39 (CG.c Q),.c 130 (Uf.c a2),.c 3 [I ab],.c 130 (Uf.c ak.1),.c 130 (Uf.c ak.1),.r 56 2 (map CW.c ac.1)]) Z (by simp only[QQ,Vm,Vn,List.set_cons_succ,List.set_cons_zero,VN,Vk];rfl) ?_;exact bu af
    refine Gc 1 Z ?_;cases af;refine OM ?_;refine En (aQ (i:=11) (j:=0) (m:=0) Z Z Z Z Z) ?_;exact Lr [0,1,2,3,4,5,6,7,8,9,10,11,12,13,14,15,16,17,18,19,20,21,22,25]
   refine Gx 1 Z (Ee q (Gc 3 Z (Lg 3 Z Z (Bd B λV ch B=>Ct V [0,1,2,3,4,5,6,7,8,9,10,11,12,13,14,15,16,17,18,19,20,21,22,23] [0,2,3,8,11,16] Ze (λV=>[(0,.c 49 [.o 23 (AI V.1) 2]),(5,.c 54 [.o 13 (AI V.2.1) 1]),(9,.c 125 [.o 15 (AI V.2.2.2.1) 1]),(13,.r 3 1 (map eI V.2.1)),(14,.map (Qi I I V.2.2.1)),(15,.r 4 1 (map JG V.2.2.2.1)),(16,.map (Qi I I V.2.2.2.2)),(23,.r 56 2 (map CW.c V.1))]) Zf ?_ (λenv H q=>?_)))))
   .refine G0 1 Z (Lp [0,1,2,3,4,5,6,7,8,9,10,11,12,13,14,15,16,17,18,19,20,21,22,23] [0,2,3,8,9,11,13,14,16,19,81,82] (λg=>[(83,I g.2.2.2.2.2)]) (λg=>[(0,.c 49 [.o 23 (AI g.1) 2]),(5,.c 54 [.o 13 (AI g.2.1) 1]),(9,.c 125 [.o 15 (AI g.2.2.2.1) 1]),(13,.r 3 1 (map eI g.2.1)),(14,.map (Qi I I g.2.2.1)),(15,.r 4 1 (map JG g.2.2.2.1)),(16,.map (Qi I I g.2.2.2.2.1)),(23,.r 56 2 (map CW.c g.1))]) ch Zf (Lr [0,1,2,3,4,5,6,7,8,9,10,11,12,13,14,15,16,17,18,19,20,21,22,23]) λg cw ad bl=>?_);refine G0 6 Z (Dm Z ad (λ_ ad=>?_) (λ_ ad=>?_))
    .exact Gc 2 Z (Jf ad (Gx 1 Z (NT bl ad (Lr [0,1,2,3,4,5,6,7,8,9,10,11,12,13,14,15,16,17,18,19,20,21,22,23]))))
    refine Gc 3 Z (Bd ad λW t ad=>Ct W [0,1,2,3,4,5,6,7,8,9,10,11,12,13,14,15,16,17,18,19,20,21,22,23] [0,2,3,8,9,11,13,14,16,19,81,82,83] Ze (λW=>[(0,.c 49 [.o 23 (AI W.1) 2]),(5,.c 54 [.o 13 (AI W.2.1) 1]),(9,.c 125 [.o 15 (AI W.2.2.2.1) 1]),(13,.r 3 1 (map eI W.2.1)),(14,.map (Qi I I W.2.2.1)),(15,.r 4 1 (map JG W.2.2.2.1)),(16,.map (Qi I I W.2.2.2.2)),(23,.r 56 2 (map CW.c W.1))]) Zf ?_ (λenv H q=>?_))
    .refine G0 4 Z (Bd t λcx bn t=>Iz bn Z (Go 8 Z (Bd t λaw ax t=>Ct aw [0,1,2,3,4,5,6,7,8,9,10,11,12,13,14,15,16,17,18,19,20,21,22,23] [0,2,3,8,9,11,13,14,16,19,22,81,82,83] (λaw=>[(97,.b aw)]) Ze Zf ?_ (λenv H q=>?_))))
     .refine G0 3 Z (Bd ax λci ba ax=>?_);refine vX (.p 15 (toNat g.2.2.2.2.2*1)) (Qw ba Z E4 E7) ?_;refine vX (.b ci) (Ey Z isAgg4 Z (Qy ba)) ?_;exact bu ax
     refine Gx 1 Z (Ee q (Cn Z t (λ_ t=>?_) (λ_ t=>?_)))
     .exact bu t
     refine Gc 8 Z (Cd [12,17,18,19,20] t Kc Z λam ct t=>?_);refine OS (x:=(.t [.a (Uf.c am.1),.b am.2])) (H:=[.c 49 [.o 23 (AI g.1) 2],.c 123 [.fn (.func 27) [] [.p 10 0,.p 6 0]],.c 33 (CE.c a6),.c 3 [I a7],.c 111 [.p 12 0],.c 54 [.o 13 (AI g.2.1) 1],.c 120 [.map 14],.c 126 [.fn (.func 29) [] [.p 0 0,.p 1 0,.p 2 0,.p 3 0,.p 4 0,.p 5 0,.p 6 0,.p 7 0,.p 8 0,.p 9 0,.p 10 0]],.c 42 [.q 5 (map CQ.c a9)],.c 125 [.o 15 (AI g.2.2.2.1) 1],.c 120 [.map 16],.dead,.c 119 (match_task.tc E F G J L M (.map 17) (.fn (.func 93) [] [.p 18 0,.p 19 0,.p 20 0]) N),.r 3 1 (map eI g.2.1),.map (Qi I I g.2.2.1),.r 4 1 (map JG g.2.2.2.1),.map (Qi I I g.2.2.2.2.1),.map (Qi I (λx=>A.a (Ud.c x)) O),.c 111 [.p 12 0],.c 33 (CE.c P),.c 39 (CG.c Q),.c 130 (Uf.c a2),.c 3 [I ab],.r 56 2 (map CW.c g.1),.c 130 (Uf.c am.1)]) Z (by simp only[QQ,Vm,Vn,List.set_cons_succ,List.set_cons_zero,VN,Vk];rfl) ?_;refine Go 13 Z (Bd t λX d t=>Ct X [0,1,2,3,4,5,6,7,8,9,10,11,12,13,14,15,16,17,18,19,20,21,22,0] [0,2,3,8,9,11,13,14,16,19,81,82,83] Ze (λX=>[(0,.c 49 [.o 23 (AI X.1) 2]),(5,.c 54 [.o 13 (AI X.2.1) 1]),(9,.c 125 [.o 15 (AI X.2.2.2.1) 1]),(13,.r 3 1 (map eI X.2.1)),(14,.map (Qi I I X.2.2.1)),(15,.r 4 1 (map JG X.2.2.2.1)),(16,.map (Qi I I X.2.2.2.2)),(23,.r 56 2 (map CW.c X.1))]) Zf ?_ (λenv H q=>?_))
     .refine G0 0 Z (Cn Z d (λ_ d=>?_) (λ_ d=>?_))
      .refine Gc 7 Z (Bd d λcy bb d=>?_);refine vX (.p 15 (toNat g.2.2.2.2.2*1)) (Qw bb Z E4 E7) ?_;refine Bd d λcz an d=>?_;refine vU (Ys (e:=JG) (k:=1) (f:=0) bb an E7 Z Z) ?_;refine FE Z ?_;refine Er (Q3 (s:=107) Z (congrArg (λn=>A.s 15 0 n 1) (Yh an))) ?_;refine Er (aC (i:=9) Z (congrArg (λnz=>Ci.cells 125 [.o 15 nz 1]) (Yh an))) ?_;refine Bd d λda bc d=>?_;refine vX (.p 13 (toNat a1*1)) (Qw bc Z EA EB) ?_;refine Bd d λdb ao d=>?_;refine vU (Ys (e:=eI) (k:=1) (f:=0) bc ao EB Z Z) ?_;refine FE Z ?_;refine Er (Q3 (s:=109) Z (congrArg (λn=>A.s 13 0 n 1) (Yh ao))) ?_;refine Er (aC (i:=5) Z (congrArg (λnz=>Ci.cells 54 [.o 13 nz 1]) (Yh ao))) ?_;refine Go 6 Z (Bd d λbg bq d=>?_);refine vX (I bg) (YO (ev:=I) (z0:=0) (k:=ab) (l:=g.2.2.2.2.1) YY bq EC EH Eo) ?_;refine Go 1 Z (Bd d λdc br d=>?_);refine vU (Jj (ev:=I) (k:=ab) (v:=(i64.wrap (bg-1))) (l:=g.2.2.2.2.1) YY br Z EC) ?_;refine Fg 9 Z Z (Cd [0,1,2,3,4,5,6,7,8,9,10,23,12,13,14,15,16,17,18,19,20] d Kc Z λY cu d=>?_);refine OS (x:=(.t [])) (H:=[.c 49 [.o 26 (AI Y.1) 2],.c 123 [.fn (.func 27) [] [.p 10 0,.p 6 0]],.c 33 (CE.c a6),.c 3 [I a7],.c 111 [.p 12 0],.c 54 [.o 13 (AI Y.2.1) 1],.c 120 [.map 14],.c 126 [.fn (.func 29) [] [.p 0 0,.p 1 0,.p 2 0,.p 3 0,.p 4 0,.p 5 0,.p 6 0,.p 7 0,.p 8 0,.p 9 0,.p 10 0]],.c 42 [.q 5 (map CQ.c a9)],.c 125 [.o 15 (AI Y.2.2.2.1) 1],.c 120 [.map 16],.dead,.c 119 (match_task.tc E F G J L M (.map 17) (.fn (.func 93) [] [.p 18 0,.p 19 0,.p 20 0]) N),.r 3 1 (map eI Y.2.1),.map (Qi I I Y.2.2.1),.r 4 1 (map JG Y.2.2.2.1),.map (Qi I I Y.2.2.2.2),.map (Qi I (λx=>A.a (Ud.c x)) O),.c 111 [.p 12 0],.c 33 (CE.c P),.c 39 (CG.c Q),.c 130 (Uf.c a2),.c 3 [I ab],.dead,.c 130 (Uf.c am.1),.c 130 (Uf.c am.1),.r 56 2 (map CW.c Y.1)]) Z (by simp only[QQ,Vm,Vn,List.set_cons_succ,List.set_cons_zero,VN,Vk];rfl) ?_;refine Go 6 Z (Bd d λbh bs d=>?_);refine vX (I bh) (YO (ev:=I) (z0:=0) (k:=ab) (l:=Y.2.2.2.2) YY bs EC EH Eo) ?_;refine Go 1 Z (Bd d λdd bv d=>?_);refine vU (Jj (ev:=I) (k:=ab) (v:=(i64.wrap (bh+1))) (l:=Y.2.2.2.2) YY bv Z EC) ?_;refine Fg 7 Z Z (Bd d λde bd d=>?_);refine vX (.p 15 (toNat g.2.2.2.2.2*1)) (Qw bd Z E4 E7) ?_;refine Bd d λdf aq d=>?_;refine vU (Ys (e:=JG) (k:=1) (f:=0) bd aq E7 Z Z) ?_;refine FE Z ?_;refine Er (Q3 (s:=128) Z (congrArg (λn=>A.s 15 0 n 1) (Yh aq))) ?_;refine Er (aC (i:=9) Z (congrArg (λnz=>Ci.cells 125 [.o 15 nz 1]) (Yh aq))) ?_;refine Bd d λdg be d=>?_;refine vX (.p 13 (toNat a1*1)) (Qw be Z EA EB) ?_;refine Bd d λdh ar d=>?_;refine vU (Ys (e:=eI) (k:=1) (f:=0) be ar EB Z Z) ?_;refine FE Z ?_;refine Er (Q3 (s:=130) Z (congrArg (λn=>A.s 13 0 n 1) (Yh ar))) ?_;refine Er (aC (i:=5) Z (congrArg (λnz=>Ci.cells 54 [.o 13 nz 1]) (Yh ar))) ?_;exact bu d
      exact bu d
     refine Gx 1 Z ?_;cases t;exact OM (En q (Lr [0,1,2,3,4,5,6,7,8,9,10,11,12,13,14,15,16,17,18,19,20,21,22,23]))
    exact Gx 1 Z (Ee q (Gc 4 Z (JJ ad (Lr [0,1,2,3,4,5,6,7,8,9,10,11,12,13,14,15,16,17,18,19,20,21,22,23]))))
   cases B;exact OM (En q (Lr [0,1,2,3,4,5,6,7,8,9,10,11,12,13,14,15,16,17,18,19,20,21,22,23]))
  refine Gc 1 Z ?_;cases B;refine OM ?_;refine En (aQ (i:=11) (j:=0) (m:=0) Z Z Z Z Z) ?_;exact Lr [0,1,2,3,4,5,6,7,8,9,10,11,12,13,14,15,16,17,18,19,20,21,22,23]
 refine Gx 1 Z (Ee q (Gc 1 Z (Bd h λay cj h=>Ct ay [0,1,2,3,4,5,6,7,8,9,10,11,12,13,14,15,16,17,18,19,20,21,22,23] [0,3,11,16] (λay=>[(143,.b ay)]) Ze Zf ?_ (λenv H q=>?_))))
 .exact bu cj
 refine Gx 1 Z (Ee q (Bd h λy ag h=>Ct y [0,1,2,3,4,5,6,7,8,9,10,11,12,13,14,15,16,17,18,19,20,21,22,0] [] Ze (λy=>[(0,.c 49 [.o 23 (AI y.1) 2]),(5,.c 54 [.o 13 (AI y.2.1) 1]),(9,.c 125 [.o 15 (AI y.2.2.2.1) 1]),(13,.r 3 1 (map eI y.2.1)),(14,.map (Qi I I y.2.2.1)),(15,.r 4 1 (map JG y.2.2.2.1)),(16,.map (Qi I I y.2.2.2.2)),(23,.r 56 2 (map CW.c y.1))]) Zf ?_ (λenv H q=>?_)))
 .refine G0 0 Z (Cn Z ag (λ_ ag=>?_) (λ_ ag=>?_))
  .refine Gc 6 Z (Cd [0,1,2,3,4,5,6,7,8,9,10,23,12,13,14,15,16,17,18,19,20] ag Kc Z λae cv ag=>?_);refine OS (x:=(.t [])) (H:=[.c 49 [.o 24 (AI ae.1) 2],.c 123 [.fn (.func 27) [] [.p 10 0,.p 6 0]],.c 33 (CE.c a6),.c 3 [I a7],.c 111 [.p 12 0],.c 54 [.o 13 (AI ae.2.1) 1],.c 120 [.map 14],.c 126 [.fn (.func 29) [] [.p 0 0,.p 1 0,.p 2 0,.p 3 0,.p 4 0,.p 5 0,.p 6 0,.p 7 0,.p 8 0,.p 9 0,.p 10 0]],.c 42 [.q 5 (map CQ.c a9)],.c 125 [.o 15 (AI ae.2.2.2.1) 1],.c 120 [.map 16],.dead,.c 119 (match_task.tc E F G J L M (.map 17) (.fn (.func 93) [] [.p 18 0,.p 19 0,.p 20 0]) N),.r 3 1 (map eI ae.2.1),.map (Qi I I ae.2.2.1),.r 4 1 (map JG ae.2.2.2.1),.map (Qi I I ae.2.2.2.2),.map (Qi I (λx=>A.a (Ud.c x)) O),.c 111 [.p 12 0],.c 33 (CE.c P),.c 39 (CG.c Q),.c 130 (Uf.c a2),.c 3 [I ab],.dead,.r 56 2 (map CW.c ae.1)]) Z (by simp only[QQ,Vm,Vn,List.set_cons_succ,List.set_cons_zero,VN,Vk];rfl) ?_;exact bu ag
  exact bu ag
 refine OG.mk q func31 Z call31 Z (?_:WO _ _ _ _ _ _ _ (kq _ _ _ [] _));refine Go 2 Z (Bd h λbi bx h=>?_);refine vX (I bi) (YO (ev:=I) (z0:=0) (k:=ab) (l:=y.2.2.1) YY bx EC EH Eo) ?_;refine Go 1 Z (Bd h λdi bz h=>?_);refine vU (Jj (ev:=I) (k:=ab) (v:=(i64.wrap (bi+1))) (l:=y.2.2.1) YY bz Z EC) ?_;refine Fg 1 Z Z ?_;obtain rfl:=Oi h;exact Rx [0,1,2,3,4,5,6,7,8,9,10,11,12,13,14,15,16,17,18,19,20,23] [] Z (IA.nil Z) ⟨Z,Z⟩
def V0:Nat->Int->Uf->Bool->Int->(AA CW)->CE->Int->(AA Int)->(AA CQ)->(AA Bool)->CE->CG->(AA Int)->(AA CK)->(AA CQ)->(AA Ud)->Int->(AA (Int×Int))->(AA (Int×Int))->(AA (Int×Ud))->CE->CG->AB ((AA CW)×(AA Int)×(AA (Int×Int))×(AA Bool)×(AA (Int×Int)))
  |0=>λ_ _ _ _ _ _ _ _ _ _ _ _ _ _ _ _ _ _ _ _ _ _=>AF
  |n+1=>a_ (V0 n) n
instance k_q:∀(O:Int) (P:Uf) (Q:Bool) (R:Int) (H:AA CW) (J:CE) (L:Int) (M:AA Int) (N:AA CQ) (d:AA Bool) (f:CE) (g:CG) (h:AA Int) (j:AA CK) (m:AA CQ) (q:AA Ud) (t:Int) (F:AA (Int×Int)) (G:AA (Int×Int)) (y:AA (Int×Ud)) (B:CE) (E:CG),Kq (V0 n O P Q R H J L M N d f g h j m q t F G y B E) 29 [I O,.a (Uf.c P),.b Q,I R,.p 0 0,.p 1 0,.p 2 0,.p 3 0,.p 4 0,.p 5 0,.p 6 0,.p 7 0,.p 8 0,.p 9 0,.p 10 0] [.c 49 [.o 11 (AI H) 2],.c 123 [.fn (.func 27) [] [.p 10 0,.p 6 0]],.c 33 (CE.c J),.c 3 [I L],.c 111 [.p 12 0],.c 54 [.o 13 (AI M) 1],.c 120 [.map 14],.c 126 [.fn (.func 29) [] [.p 0 0,.p 1 0,.p 2 0,.p 3 0,.p 4 0,.p 5 0,.p 6 0,.p 7 0,.p 8 0,.p 9 0,.p 10 0]],.c 42 [.q 5 (map CQ.c N)],.c 125 [.o 15 (AI d) 1],.c 120 [.map 16],.r 56 2 (map CW.c H),.c 119 (match_task.tc f g h j m q (.map 17) (.fn (.func 93) [] [.p 18 0,.p 19 0,.p 20 0]) t),.r 3 1 (map eI M),.map (Qi I I F),.r 4 1 (map JG d),.map (Qi I I G),.map (Qi I (λx=>A.a (Ud.c x)) y),.c 111 [.p 12 0],.c 33 (CE.c B),.c 39 (CG.c E)] (λ_=>.t []) (λr=>[.c 49 [.o 21 (AI r.1) 2],.c 123 [.fn (.func 27) [] [.p 10 0,.p 6 0]],.c 33 (CE.c J),.c 3 [I L],.c 111 [.p 12 0],.c 54 [.o 13 (AI r.2.1) 1],.c 120 [.map 14],.c 126 [.fn (.func 29) [] [.p 0 0,.p 1 0,.p 2 0,.p 3 0,.p 4 0,.p 5 0,.p 6 0,.p 7 0,.p 8 0,.p 9 0,.p 10 0]],.c 42 [.q 5 (map CQ.c N)],.c 125 [.o 15 (AI r.2.2.2.1) 1],.c 120 [.map 16],.dead,.c 119 (match_task.tc f g h j m q (.map 17) (.fn (.func 93) [] [.p 18 0,.p 19 0,.p 20 0]) t),.r 3 1 (map eI r.2.1),.map (Qi I I r.2.2.1),.r 4 1 (map JG r.2.2.2.1),.map (Qi I I r.2.2.2.2),.map (Qi I (λx=>A.a (Ud.c x)) y),.c 111 [.p 12 0],.c 33 (CE.c B),.c 39 (CG.c E),.r 56 2 (map CW.c r.1)]):=by
  induction n with
  |zero=>exact λ_ _ _ _ _ _ _ _ _ _ _ _ _ _ _ _ _ _ _ _ _ _=>⟨nofun⟩
  |succ n ih=>exact Qcf _ ih n
def LD(g:AA Int)(h:AA Int)(d:Int):AB (CJ Int (CJ Unit Int)):=(bif d<(AI g:Int) then AH (CN g d) λj=>(bif (AI h:Int)<=d then AC (.d (.d 1))else AH (CN h d) λm=>AH (Ky n j m) λf=>(bif (f != 0)then AC (.d (.d f))else AC (.k (i64.wrap (d+1)))))else AC (.d (.k ())))
def RC(f:AA Int)(g:AA Int):AB Int:=AH (iter (LD n f g) n 0:AB (CJ Unit Int)) λh=>match h with|.k d=>(bif (AI f:Int)<(AI g:Int) then AC (-1)else AC 0)|.d d=>AC d
instance _o(d:AA Int)(f:AA Int):Ki (RC n d f) 36 [.q 1 (map eI d),.q 1 (map eI f)]:=KB func36
def NF(d:CW)(f:CW):AB Int:=AH (RC n d.Ak f.Ak) λg=>(bif (g != 0)then AC g else AC (i64.wrap (d.Ai-f.Ai)))
instance lP(d:CW)(f:CW):Ki (NF n d f) 35 [.a (CW.c d),.a (CW.c f)]:=KB func35
def PK(n:Nat)(g:(AA Int)×(AA CK)×(AA Ud)×(AA (Int×Ud))×Int)(d:(AA (Int×Int))×Int):AB (CJ ((AA (Int×Int))×Int) (AA (Int×Int))):=(bif d.2<(AI g.1:Int) then AH (CN g.1 d.2) λf=>AH (AC (Qd d.1 f 0)) λh=>AH (AC (QE d.1 f (i64.wrap (h+1)))) λj=>AC (.k (j,i64.wrap (d.2+1)))else AC (.d d.1))
def Ol(n:Nat)(g:AA CQ)(d:(AA (Int×Int))×Int):AB (CJ ((AA (Int×Int))×Int) (AA (Int×Int))):=(bif d.2<(AI g:Int) then AH (CN g d.2) λf=>AH (AC (Qd d.1 f.Af 0)) λh=>AH (AC (QE d.1 f.Af (i64.wrap (h+1)))) λj=>AC (.k (j,i64.wrap (d.2+1)))else AC (.d d.1))
def ND(h:CE)(j:CG)(G:AP)(H:Int)(f:AA CQ)(J:AA AY):AB ((AA CW)×Int):=AH (OX n h j G H f J) λL=>(match L with|.c0 m=>((bif (m != 0)then AC ([],m)else AF))|.c1 d=>(AH (iter (PK n d) n ([],0):AB (AA (Int×Int))) λq=>AH (iter (Ol n f) n ([],0):AB (AA (Int×Int))) λt=>AH (LT n [(-1)] (AI d.1:Int)) λB=>AH (mk (AI f:Int) AD) λE=>AH (NK n) λM=>AH (V0 n 0 ({Di with Bb:=(-1):Uf}) AD (-1) ([]:AA CW) h (AI d.1:Int) B f E h j d.1 d.2.1 f d.2.2.1 d.2.2.2.2 q t d.2.2.2.1 h j) λg=>(bif 64<(AI g.1:Int) then AC ([],2)else(bif ((AI g.1:Int)==0)then AC ([],190)else AH (MB (λx y=>NF n x y) g.1) λF=>AC (F,0)))))
instance lN(j:CE)(q:CG)(V:AP)(a4:Int)(B:AA CQ)(a6:AA AY):Kq (ND n j q V a4 B a6) 6 [.a (CE.c j),.a (CG.c q),.a (AP.c V),I a4,.q 5 (map CQ.c B),.q 4 (map AY.c a6)] [] (λr=>.t [.o 0 (AI r.1) 2,I r.2]) (λr=>[.r 56 2 (map CW.c r.1),.c 49 [.o 0 (AI r.1) 2]]):=by
 refine Kg 5 func6 Z Z Z Z λr h=>vH (Fb.box Z Z Z Z Z) ?_;refine Fg 12 Z Z (Bd h λr1 an h=>?_);refine Qt [] (Dc.fn call26 Z Z Z) (kV _ _ _ _ _ _ _ _ an) ?_;intro ra rH h2;rcases r1 with W|d
 .obtain⟨rfl,rfl⟩:=h2;refine Fg 15 Z Z (Cn Z h (λ_ h=>?_) (λ_ h=>?_))
  .refine Gc 9 Z ?_;obtain rfl:=Oi h;refine⟨[(12,.p 1 0),(13,I (([],W).2))],[.r 56 2 (map CW.c (([],W).1)),.c 49 [.o 0 (AI (([],W).1)) 2]],_,?_,QF Z Z (C'.cons (Yj isAgg49 Z Z) (C'.cons FM.tmp C'.nil)),Z,Z⟩;refine En (QS (i:=4) (m:=0) (t:=56) (k:=2) Z Z Z) ?_;exact Lr [7,4]
  refine Gc 3 Z ?_;cases h
 .obtain⟨rfl,rfl⟩:=h2;refine aV (.t [.p 5 0,I 0]) [.c 33 (CE.c j),.c 39 (CG.c q),.c 41 (AP.c V),.c 42 [.q 5 (map CQ.c B)],.c 49 [.n],.c 119 (CE.c j++(CG.c q++[.q 1 (map eI d.1),.o 6 (AI d.2.1) 2,.q 5 (map CQ.c B),.o 7 (AI d.2.2.1) 3,.map 8,.fn (.func 93) [] [.p 9 0,.p 10 0,.p 11 0],I d.2.2.2.2])),.r 69 2 (map CK.c d.2.1),.r 128 3 (map Ud.c d.2.2.1),.map (Qi I (λx=>A.a (Ud.c x)) d.2.2.2.1),.c 111 [.p 5 0],.c 33 (CE.c j),.c 39 (CG.c q)] Z Z ?_;refine Go 12 Z ?_;refine vX (.b AD) (CY.neq (m:=0) (n:=0) Z Z Z) ?_;refine Go 11 Z (Lg 6 Z Z (vH JB ?_));refine Fg 11 Z Z (Lg 3 Z Z (Bd h λL aq h=>Ct L [0,1,2,3,4,5,6,7,8,9,10,11,12,13] [6] (λ_=>[(10,.p 1 0),(12,.p 2 0),(14,.p 3 0),(15,.p 11 0),(16,.p 12 0)]) (λL=>[(1,.c 42 [.q 5 (map CQ.c B)]),(2,.c 49 [.n]),(3,.c 111 [.p 4 0]),(4,.c 119 (CE.c j++(CG.c q++[.q 1 (map eI d.1),.o 5 (AI d.2.1) 2,.q 5 (map CQ.c B),.o 6 (AI d.2.2.1) 3,.map 7,.fn (.func 93) [] [.p 8 0,.p 9 0,.p 10 0],I d.2.2.2.2]))),(5,.r 69 2 (map CK.c d.2.1)),(6,.r 128 3 (map Ud.c d.2.2.1)),(7,.map (Qi I (λx=>A.a (Ud.c x)) d.2.2.2.1)),(8,.c 111 [.p 4 0]),(9,.c 33 (CE.c j)),(10,.c 39 (CG.c q)),(11,.c 3 [I (AI d.1:Int)]),(12,.c 120 [.map 13]),(13,.map (Qi I I L))]) Zf ?_ (λenv H ar=>?_)))
  .refine G0 1 Z (Lp [0,3,4,12,5,6,7,8,9,10,11,13,15,14] [6,10,12,14,15,16,48,49] (λG=>[(50,I G.2)]) (λG=>[(3,.c 111 [.p 4 0]),(4,.c 119 (CE.c j++(CG.c q++[.q 1 (map eI d.1),.o 5 (AI d.2.1) 2,.q 5 (map CQ.c B),.o 6 (AI d.2.2.1) 3,.map 7,.fn (.func 93) [] [.p 8 0,.p 9 0,.p 10 0],I d.2.2.2.2]))),(8,.c 111 [.p 4 0]),(12,.c 120 [.map 13]),(13,.map (Qi I I G.1))]) aq Zf (Lr [0,3,4,12,5,6,7,8,9,10,11,13,15,14]) λG ay f X=>?_);refine G0 6 Z (Dm Z f (λ_ f=>?_) (λ_ f=>?_))
   .exact Gc 2 Z (Jf f (Gx 1 Z (NT X f (Lr [0,1,2,3,4,5,6,7,8,9,10,11,12,13]))))
   refine Gc 6 Z (Bd f λP aa f=>Iz aa Z (Go 7 Z (Bd f λQ ab f=>?_)));refine vX (I Q) (YO (ev:=I) (z0:=0) (k:=P) (l:=G.1) YY ab EC EH Eo) ?_;refine Go 1 Z (Bd f λaz ac f=>?_);refine vU (Jj (ev:=I) (k:=P) (v:=(i64.wrap (Q+1))) (l:=G.1) YY ac Z EC) ?_;exact bu f
  refine Gx 1 Z (Ee ar (Gc 2 Z (vH JB ?_)));refine Fg 8 Z Z (Lg 3 Z Z (Bd h λM av h=>Cg M [0,1,2,3,4,5,6,7,8,9,10,11,12,13,14,15] [6,10,12,14,15,16] (λ_=>[(19,.p 14 0)]) (λM=>[(14,.c 120 [.map 15]),(15,.map (Qi I I M))]) Zf ?_ ?_))
  .refine G0 1 Z (Lp [0,1,2,3,4,5,6,7,8,9,10,11,12,13,15,14] [6,10,12,14,15,16,19,60,61] (λJ=>[(62,I J.2)]) (λJ=>[(14,.c 120 [.map 15]),(15,.map (Qi I I J.1))]) av Zf (Lr [0,1,2,3,4,5,6,7,8,9,10,11,12,13,15,14]) λJ ba g ad=>?_);refine G0 6 Z (Dm Z g (λ_ g=>?_) (λ_ g=>?_))
   .exact Gc 2 Z (Jf g (Gx 1 Z (NT ad g (Lr [0,1,2,3,4,5,6,7,8,9,10,11,12,13,14,15]))))
   refine Gc 6 Z (Bd g λR af g=>Iz af Z (Go 9 Z (Bd g λT ag g=>?_)));refine vX (I T) (YO (ev:=I) (z0:=0) (k:=R.Af) (l:=J.1) YY ag EC EH Eo) ?_;refine Go 1 Z (Bd g λbb ah g=>?_);refine vU (Jj (ev:=I) (k:=R.Af) (v:=(i64.wrap (T+1))) (l:=J.1) YY ah Z EC) ?_;exact bu g
  refine Gc 9 Z (vH (Ek (xs:=[.const (.int .i64 (-1))]) (es:=map eI [(-1)]) J0 Z Z Z Z Z ⟨Z,trivial⟩ Z Z) ?_);refine Fg 1 Z Z ?_;refine Er (Yz 17 [(73,_)]) ?_;refine Cd [] h Kc Z λN aw h=>Fg 7 Z Z (Lm Z (Bd h λO ai h=>vH (nh (e:=JG) (zv:=AD) (a:=(.b AD)) ai Qsl Gi ZR.bool Z Z Z Z) ?_));refine Fg 16 Z Z (Iu 2 [1] [(0,0,1),(1,0,0)] (by kernel_rfl) ?_);refine Ll (lo:=0) (x:=.fn (.func 29) [] [.p 2 0,.p 16 0,.p 0 0,.p 11 0,.p 3 0,.p 19 0,.p 12 0,.p 22 0,.p 1 0,.p 21 0,.p 14 0]) ⟨Z,trivial⟩ ?_;obtain⟨bc,aj,h⟩:=Yf h;refine Ew (x:=.a [I (-1),I 0,I 0,I 0,I 0]) (X1:=[.c 33 (CE.c j),.c 42 [.q 5 (map CQ.c B)],.c 49 [.n],.c 111 [.p 4 0],.c 119 (CE.c j++(CG.c q++[.q 1 (map eI d.1),.o 5 (AI d.2.1) 2,.q 5 (map CQ.c B),.o 6 (AI d.2.2.1) 3,.map 7,.fn (.func 93) [] [.p 8 0,.p 9 0,.p 10 0],I d.2.2.2.2])),.r 69 2 (map CK.c d.2.1),.r 128 3 (map Ud.c d.2.2.1),.map (Qi I (λx=>A.a (Ud.c x)) d.2.2.2.1),.c 111 [.p 4 0],.c 33 (CE.c j),.c 39 (CG.c q),.c 3 [I (AI d.1:Int)],.c 120 [.map 13],.map (Qi I I L),.c 120 [.map 15],.map (Qi I I M),.c 123 [.fn (.func 27) [] [.p 14 0,.p 12 0]],.dead,.r 3 1 (map eI N),.c 54 [.o 18 (AI N) 1],.r 4 1 (map JG O),.c 125 [.o 20 (AI O) 1],.c 126 [.fn (.func 29) [] [.p 2 0,.p 16 0,.p 0 0,.p 11 0,.p 3 0,.p 19 0,.p 12 0,.p 22 0,.p 1 0,.p 21 0,.p 14 0]],.c 130 [I (-1),I 0,I 0,I 0,I 0]]) ?_ ?_
  .refine Qt [] (Dc.fn call33 Z Z Z) ((lU _).c _ aj) ?_;rintro _ _ ⟨rfl,rfl⟩;exact FE Z Wp
  refine DK.done Z Z ?_;refine Er (QS (i:=2) (m:=0) (t:=56) (k:=2) Z Z Z) ?_;refine ei (H:=[.c 33 (CE.c j),.c 42 [.q 5 (map CQ.c B)],.c 49 [.o 24 (AI ([]:AA CW)) 2],.c 111 [.p 4 0],.c 119 (CE.c j++(CG.c q++[.q 1 (map eI d.1),.o 5 (AI d.2.1) 2,.q 5 (map CQ.c B),.o 6 (AI d.2.2.1) 3,.map 7,.fn (.func 93) [] [.p 8 0,.p 9 0,.p 10 0],I d.2.2.2.2])),.r 69 2 (map CK.c d.2.1),.r 128 3 (map Ud.c d.2.2.1),.map (Qi I (λx=>A.a (Ud.c x)) d.2.2.2.1),.c 111 [.p 4 0],.c 33 (CE.c j),.c 39 (CG.c q),.c 3 [I (AI d.1:Int)],.c 120 [.map 13],.map (Qi I I L),.c 120 [.map 15],.map (Qi I I M),.c 123 [.fn (.func 27) [] [.p 14 0,.p 12 0]],.dead,.r 3 1 (map eI N),.c 54 [.o 18 (AI N) 1],.r 4 1 (map JG O),.c 125 [.o 20 (AI O) 1],.c 126 [.fn (.func 29) [] [.p 2 0,.p 16 0,.p 0 0,.p 11 0,.p 3 0,.p 19 0,.p 12 0,.p 22 0,.p 1 0,.p 21 0,.p 14 0]],.c 130 [I (-1),I 0,I 0,I 0,I 0],.r 56 2 (map CW.c ([]:AA CW))]) Z ?_;refine Er (Tu 5 []) ?_;refine Er (Tu 6 []) ?_;refine Cd [2,16,0,11,3,19,12,22,1,21,14,24,4,18,13,20,15,7,8,9,10] h Kc Z λE ax h=>?_;refine OS (x:=(.t [])) (H:=[.c 33 (CE.c j),.c 42 [.q 5 (map CQ.c B)],.c 49 [.o 25 (AI E.1) 2],.c 111 [.p 4 0],.c 119 (match_task.tc j q d.1 d.2.1 B d.2.2.1 (.map 7) (.fn (.func 93) [] [.p 8 0,.p 9 0,.p 10 0]) d.2.2.2.2),.dead,.dead,.map (Qi I (λx=>A.a (Ud.c x)) d.2.2.2.1),.c 111 [.p 4 0],.c 33 (CE.c j),.c 39 (CG.c q),.c 3 [I (AI d.1:Int)],.c 120 [.map 13],.map (Qi I I E.2.2.1),.c 120 [.map 15],.map (Qi I I E.2.2.2.2),.c 123 [.fn (.func 27) [] [.p 14 0,.p 12 0]],.dead,.r 3 1 (map eI E.2.1),.c 54 [.o 18 (AI E.2.1) 1],.r 4 1 (map JG E.2.2.2.1),.c 125 [.o 20 (AI E.2.2.2.1) 1],.c 126 [.fn (.func 29) [] [.p 2 0,.p 16 0,.p 0 0,.p 11 0,.p 3 0,.p 19 0,.p 12 0,.p 22 0,.p 1 0,.p 21 0,.p 14 0]],.c 130 [I (-1),I 0,I 0,I 0,I 0],.dead,.r 56 2 (map CW.c E.1)]) Z (by simp only[QQ,Vm,Vn,List.set_cons_succ,List.set_cons_zero,VN,Vk];rfl) ?_;refine Go 10 Z (Cn Z h (λ_ h=>?_) (λ_ h=>?_))
  .refine Gc 8 Z ?_;obtain rfl:=Oi h;refine⟨[(12,.p 1 0),(13,I (([],2).2))],[.r 56 2 (map CW.c (([],2).1)),.c 49 [.o 0 (AI (([],2).1)) 2]],_,?_,QF Z Z (C'.cons (Yj isAgg49 Z Z) (C'.cons FM.tmp C'.nil)),Z,Z⟩;refine En (QS (i:=2) (m:=0) (t:=56) (k:=2) Z Z Z) ?_;exact Lr [26,2]
  refine Gc 10 Z (Cn Z h (λ_ h=>?_) (λ_ h=>?_))
  .refine Gc 8 Z ?_;obtain rfl:=Oi h;refine⟨[(12,.p 1 0),(13,I (([],190).2))],[.r 56 2 (map CW.c (([],190).1)),.c 49 [.o 0 (AI (([],190).1)) 2]],_,?_,QF Z Z (C'.cons (Yj isAgg49 Z Z) (C'.cons FM.tmp C'.nil)),Z,Z⟩;refine En (QS (i:=2) (m:=0) (t:=56) (k:=2) Z Z Z) ?_;exact Lr [26,2]
  refine Gc 5 Z (Bd h λbd F h=>?_);refine Qt [25] (Dc.fn call34 Z Z Z) (sy (enc:=CW.c) Qhy F (λx y c h=>(lP n x y).c c h) isAgg56 Gj call35 Zf Z) ?_;rintro _ _ ⟨rfl,rfl⟩;refine FE Z ?_;refine Er (Q3 (s:=83) Z (congrArg (λn=>A.s 25 0 n 2) (fN F))) ?_;refine Er (Q3 (s:=86) Z (congrArg (λn=>A.s 25 0 n 2) (fN F))) ?_;refine Er (Q3 (s:=89) Z (congrArg (λn=>A.s 25 0 n 2) (fN F))) ?_;refine Er (aC (i:=2) Z (congrArg (λnz=>Ci.cells 49 [.o 25 nz 2]) (fN F))) ?_;exact bu h
def M6(d:Uh):AB (Uh×Int):=AH (KI n d.Au d.Al.AN d.BJ) λf=>AH ((bif (f.2 != 0)then AC AE else(bif d.Az<(-1) then AC AE else AC (AG ((AI f.1:Int)<=d.Az)))):AB Bool) λh=>(bif h then AC (d,90)else AH ((bif (d.Az==(-1))then AC ({d with Az:=i64.wrap ((AI f.1:Int)-1):Uh})else AC d):AB Uh) λg=>AC (g,0))
instance lG(d:Uh):Kq (M6 n d) 39 [.p 0 0] [.c 139 (Uh.c d)] (λr=>I r.2) (λr=>[.c 139 (Uh.c r.1)]):=by
 exact Kg 0 func39 Z Z Z Z λr h=>by
  have:=hn 20100 [0] [0,3] (λ(g:Bool)=>[(39,.b g)]) Ze;have:=hn 50101 [0] [] (λ(_:Uh)=>[]) (λf=>[(0,.w (.c 139 (Uh.c f)))]);exact bu h
def V'(n:Nat)(h:AA CL)(j:Int)(d:Int×Int×Bool×Int):AB (CJ (Int×Int×Bool×Int) (Int×Int×Bool)):=(bif d.2.2.2<(AI h:Int) then AH (CN h d.2.2.2) λf=>AH ((bif f.AS<=j then(bif d.2.2.1 then AC (i64.wrap (d.1+f.BV),i64.wrap (d.2.1+f.Aj),AE)else AC (i64.wrap (d.1+f.BV),i64.wrap (d.2.1+f.Aj),f.BP))else AC (d.1,d.2.1,d.2.2.1)):AB (Int×Int×Bool)) λg=>AC (.k (g.1,g.2.1,g.2.2,i64.wrap (d.2.2.2+1)))else AC (.d (d.1,d.2.1,d.2.2.1)))
def Mt(f:AA CL)(g:Int):AB (Int×Int×Bool):=AH (iter (V' n f g) n (0,0,AD,0):AB (Int×Int×Bool)) λd=>AC (d.1,d.2.1,d.2.2)
instance c?(F:AA CL)(G:Int):Ks (Mt n F G) 104 [.q 4 (map CL.c F),I G] [] (λr=>.t [I r.1,I r.2.1,.b r.2.2]):=by
 refine Kg 11 func104 Z Z Z Z λr h=>Lg 3 Z Z (Bd h λq J h=>Cg q [] [] (λq=>[(4,I q.1),(5,I q.2.1),(6,.b q.2.2)]) Ze Zf ?_ ?_)
 .refine G0 1 Z (Lp [] [1,9,10] (λd=>[(4,I d.1),(5,I d.2.1),(6,.b d.2.2.1),(11,I d.2.2.2)]) Ze J Zf (Lr []) λd M g x=>?_);refine G0 6 Z (Dm Z g (λ_ g=>?_) (λ_ g=>?_))
  .exact Gc 2 Z (Jf g (Gx 1 Z (NT x g (Lr []))))
  refine Gc 6 Z (Bd g λf B g=>Iz B Z (Go 13 Z (Bd g λt m g=>Ct t [] [1,9,10,11] (λt=>[(4,I t.1),(5,I t.2.1),(6,.b t.2.2)]) Ze Zf ?_ (λenv H L=>?_))))
  .refine G0 0 Z (Cn Z m (λ_ m=>?_) (λ_ m=>?_))
   .refine If m (λj m=>?_) (λj m=>?_)
    .refine TC.draw0 15 [19,20,21,22,23,24,25,26,27,28,29,30,31,4,5] [I d.1,.p 0 1,I f.BV,I (i64.wrap (d.1+f.BV)),I d.2.1,.p 0 2,I f.Aj,I (i64.wrap (d.2.1+f.Aj)),.b d.2.2.1,.b d.2.2.1,.t [],.t [],.b AE,I (i64.wrap (d.1+f.BV)),I (i64.wrap (d.2.1+f.Aj))] FY Z Z Z ?_ ?_
     .refine Oq.c ?_ (ov (ov (Oq.c ?_ (Oq.c ?_ (ov (ov (Oq.c ?_ (ov (ov (Oq.c ?_ (Oq.c ?_ (Oq.c ?_ (ov (ov (Oq.n)))))))))))))))
      .refine Om Z (sP 13 sN) ?_;exact S Z Wp
      .refine Om Z (sD 0 (sD 2 sN)) ?_;exact S Z Wp
      .refine Om Z (sP 14 sN) ?_;exact S Z Wp
      .refine Om Z (sD 4 (sD 6 sN)) ?_;exact S Z Wp
      .refine Om Z (sO 8 (sD 9 sN)) ?_;exact K (gF j) Z Wp
      .refine Om Z (sD 9 (sD 10 sN)) ?_;exact K (gF j) Z Wp
      .refine Om Z (sD 9 (sD 11 sN)) ?_;exact Pk j Z Wp
     exact Gl 2 Z m []
    .refine TC.draw0 15 [19,20,21,22,23,24,25,26,27,28,29,30,31,4,5] [I d.1,.p 0 1,I f.BV,I (i64.wrap (d.1+f.BV)),I d.2.1,.p 0 2,I f.Aj,I (i64.wrap (d.2.1+f.Aj)),.b d.2.2.1,.b d.2.2.1,.p 0 3,.b f.BP,.b f.BP,I (i64.wrap (d.1+f.BV)),I (i64.wrap (d.2.1+f.Aj))] FY Z Z Z ?_ ?_
     .refine Oq.c ?_ (ov (ov (Oq.c ?_ (Oq.c ?_ (ov (ov (Oq.c ?_ (ov (ov (Oq.c ?_ (Oq.c ?_ (Oq.c ?_ (ov (ov (Oq.n)))))))))))))))
      .refine Om Z (sP 13 sN) ?_;exact S Z Wp
      .refine Om Z (sD 0 (sD 2 sN)) ?_;exact S Z Wp
      .refine Om Z (sP 14 sN) ?_;exact S Z Wp
      .refine Om Z (sD 4 (sD 6 sN)) ?_;exact S Z Wp
      .refine Om Z (sO 8 (sD 9 sN)) ?_;exact aY (gT j) Qp7 Z Wp
      .refine Om Z (sD 9 (sD 10 sN)) ?_;exact Ldg (gT j) isAgg4 Z Wp
      .refine Om Z (sD 9 (sD 11 sN)) ?_;exact Pk j Z Wp
     exact Gl 2 Z m []
   exact bu m
  exact Gx 2 Z (Ee L (Gc 4 Z (JJ g (Lr []))))
 exact bu h
def K3(n:Nat):AB Unit:=AC ()
instance kh:Kq (K3 n) 52 [] [] (λ_=>.a [.b AE,I (-1),I 0,I 0]) (λ_=>[.c 63 [.b AE,I (-1),I 0,I 0]]):=KB func52
def ga(f:Uh):AB (AA CH):=AH (Mt n f.Bo f.Az) λd=>(bif d.2.2 then AH (K3 n) λg=>AC [{BP:=AE,Bg:=(-1),Lo:=0,Hi:=0:CH}]else AH (K3 n) λh=>AC [{BP:=AE,Bg:=(-1),Lo:=0,Hi:=0:CH},{BP:=AD,Bg:=(-1),Lo:=i64.wrap (d.1-2199023255552),Hi:=i64.wrap (d.1+2199023255552):CH}])
instance yS(d:Uh):Kr (ga n d) 115 [.a (Uh.c d)] 63 4 CH.c:=KB func115
def gg(n:Nat)(d:AA Int):AB Unit:=AC ()
instance yV(d:AA Int):Kq (gg n d) 290 [.a [.q 1 (map eI d),.nilm]] [] (λ_=>.fn (.func 332) [] [.p 0 0]) (λ_=>[.c 303 [.q 1 (map eI d),.nilm]]):=KB func290
def qJ(n:Nat)(h:AA Int)(d:(AA (Int×Int))×Int):AB ((AA (Int×Int))×CJ ((AA (Int×Int))×Int) Unit):=(bif d.2<(AI h:Int) then AH (CN h d.2) λf=>AH (AC (Qd d.1 f 0)) λj=>AH (AC (QE d.1 f (i64.wrap (j+1)))) λg=>AH (AC (Qd g f 0)) λm=>yl (d.2,m) (AC ([],.k (g,i64.wrap (d.2+1))))else AC ([],.d ()))
def gx(d:AA Int):AB ((AA (Int×Int))×Unit):=ap (OO (qJ n d) n ([],0)) λf=>AC ([],())
theorem kX(B:AA Int)(p:(AA (Int×Int))×Unit)(h:gx n B=AC p):SM prog 332 [.p 0 0] [.c 303 [.q 1 (map eI B),.nilm]] (λx=>[I x.1,I x.2]) S6 p.1:=by
 obtain⟨xs,u⟩:=p;refine wb func332 Z Z Z Z ?_;intro X hE hN;refine aX 1 Z (C5.lf (G0 1 Z (vH JB ?_)));refine Fg 2 Z Z ?_;refine Hv 2 Z (C5.lf (G0 3 Z (Lg 2 Z Z ?_)));obtain⟨M,E,F,G,J,rfl⟩:=rb h;rw[Vl];refine t8 E (F++[]) [0] [0] Ze Ze Zf ?_ (λenv H N=>?_)
 .refine aX 1 Z (r7 [0,1] [0,3,8,9] (λf=>[(10,I f.2)]) (λf=>[(1,.map (Qi I I f.1))]) G Zf (Lr [0,1]) λf O P Q d g=>?_);refine aX 1 Z (C5.lf (G0 3 Z ?_));refine Hv 2 Z (C5.lf (G0 0 Z (Dm Z d (λ_ d=>?_) (λ_ d=>?_))))
  .refine Gc 1 Z (Hv 1 Z ?_);obtain⟨rfl,rfl,rfl⟩:=Oy g d;exact sV (Hv 1 Z (rg (Lr [0])))
  refine Gc 1 Z (Hv 4 Z (C5.lf ?_));refine G0 2 Z (Bd d λR m d=>Iz m Z (Go 4 Z (Hv 2 Z (C5.lf ?_))));refine G0 3 Z (Bd d λT q d=>(vV (YO YY q EC EH Eo) ?_));refine Go 1 Z (Bd d λV t d=>(vU (Jj YY t Z EC) ?_));refine Fg 1 Z Z (Hv 7 Z ?_);refine Fw.step (Bd d λW y d=>?_);refine vV (YO YY y EC EH Eo) (WO.nil ⟨Z,?_⟩);obtain⟨Y,L,rfl⟩:=rW d;refine r8 hE hN Z Z Z Z Z Z ?_ ?_
  .refine jw 3 Z (C5.lf ?_);refine G0 2 Z (Hv 2 Z (C5.lf ?_));exact G0 4 Z (Hv 0 Z (sT L (Lr [0,1])))
  .exact jw 7 Z (sU (Hv 1 Z (rh (⟨.inr Z,.inr ⟨_,Z⟩⟩))))
 cases J;exact⟨.inl Z,.inl Z⟩
def ZF(n:Nat)(d:AA Int)(f:AA (Ub×C2)):AB Unit:=AC ()
instance zS(d:AA Int)(f:AA (Ub×C2)):Kq (ZF n d f) 290 [.a [.q 1 (map eI d),.map 0]] [.map (Qi (λx=>A.a (Ub.c x)) (λx=>A.a (C2.c x)) f)] (λ_=>.fn (.func 332) [] [.p 1 0]) (λ_=>[.map (Qi (λx=>A.a (Ub.c x)) (λx=>A.a (C2.c x)) f),.c 303 [.q 1 (map eI d),.map 0]]):=KB func290
def Mc(n:Nat)(h:AA Int)(d:(AA (Int×Int))×Int):AB ((AA (Int×Int))×CJ ((AA (Int×Int))×Int) Unit):=(bif d.2<(AI h:Int) then AH (CN h d.2) λf=>AH (AC (Qd d.1 f 0)) λj=>AH (AC (QE d.1 f (i64.wrap (j+1)))) λg=>AH (AC (Qd g f 0)) λm=>yl (d.2,m) (AC ([],.k (g,i64.wrap (d.2+1))))else AC ([],.d ()))
def M_(d:AA Int)(g:AA (Ub×C2)):AB ((AA (Int×Int))×Unit):=ap (OO (Mc n d) n ([],0)) λf=>AC ([],())
theorem lK(B:AA Int)(E:AA (Ub×C2))(p:(AA (Int×Int))×Unit)(h:M_ n B E=AC p):SM prog 332 [.p 0 0] [.c 303 [.q 1 (map eI B),.map 1],.map (Qi (λx=>A.a (Ub.c x)) (λx=>A.a (C2.c x)) E)] (λx=>[I x.1,I x.2]) S6 p.1:=by
 obtain⟨xs,u⟩:=p;refine wb func332 Z Z Z Z ?_;intro X hE hN;refine aX 1 Z (C5.lf (G0 1 Z (vH JB ?_)));refine Fg 2 Z Z (Hv 2 Z (C5.lf ?_));refine G0 3 Z (Lg 2 Z Z ?_);obtain⟨N,F,G,J,L,rfl⟩:=rb h;rw[Vl];refine t8 F (G++[]) [0,1] [0] Ze Ze Zf ?_ (λenv H O=>?_)
 .refine aX 1 Z ?_;refine r7 [0,1,2] [0,3,8,9] (λf=>[(10,I f.2)]) (λf=>[(2,.map (Qi I I f.1))]) J Zf (Lr [0,1,2]) λf P Q R d g=>(aX 1 Z (C5.lf ?_));refine G0 3 Z (Hv 2 Z (C5.lf ?_));refine G0 0 Z (Dm Z d (λ_ d=>?_) (λ_ d=>?_))
  .refine Gc 1 Z (Hv 1 Z ?_);obtain⟨rfl,rfl,rfl⟩:=Oy g d;exact sV (Hv 1 Z (rg (Lr [0,1])))
  refine Gc 1 Z (Hv 4 Z (C5.lf ?_));refine G0 2 Z (Bd d λT m d=>Iz m Z (Go 4 Z ?_));refine Hv 2 Z (C5.lf (G0 3 Z (Bd d λV q d=>?_)));refine vV (YO YY q EC EH Eo) (Go 1 Z (Bd d λW t d=>?_));refine vU (Jj YY t Z EC) (Fg 1 Z Z ?_);refine Hv 7 Z (Fw.step ?_);refine Bd d λY y d=>(vV (YO YY y EC EH Eo) ?_);refine WO.nil ⟨Z,?_⟩;obtain⟨aa,M,rfl⟩:=rW d;refine r8 hE hN Z Z Z Z Z Z ?_ ?_
  .refine jw 3 Z (C5.lf ?_);refine G0 2 Z (Hv 2 Z (C5.lf ?_));exact G0 4 Z (Hv 0 Z (sT M (Lr [0,1,2])))
  .exact jw 7 Z (sU (Hv 1 Z (rh (⟨.inr Z,.inr ⟨_,Z⟩⟩))))
 cases L;exact⟨.inl Z,.inl Z⟩
def px(n:Nat)(h:Int)(j:Int)(m:Unit)(d:Int×Int):AB (CJ Unit (Int×Int)):=AH (AH (CN [] d.1) λf=>(bif (f==h)then AC (d.2==j)else AC AD):AB Bool) λg=>(bif g then AC (.d (d.1,0))else AC (.k ()))
def J4(n:Nat)(h:Int)(j:Int)(m:(AA Int)×(AA (Ub×C2)))(q:Unit)(d:Int×Int):AB (CJ Unit (Int×Int)):=AH (AH (CN m.1 d.1) λf=>(bif (f==h)then AC (d.2==j)else AC AD):AB Bool) λg=>(bif g then AC (.d (d.1,0))else AC (.k ()))
def RU(x:CE)(y:Int)(B:Int)(h:Int)(j:Int):AB (Int×Int):=AH (It n x y B) λE=>(match E with|.c0 m=>((bif (m != 0)then AC (0,m)else AH (gg n []) λG=>AH (gx n ([]:AA Int)) λy9=>AH (SS (px n h j) y9.1 ():AB (CJ Unit (Int×Int))) λq=>match q with|.k f=>(AC (0,90))|.d f=>AC f))|.c1 H=>(AC (0,90))|.c2 J=>(AC (0,2))|.c3 d=>(AH (ZF n d.1 d.2) λF=>AH (M_ n d.1 d.2) λy34=>AH (SS (J4 n h j d) y34.1 ():AB (CJ Unit (Int×Int))) λt=>match t with|.k g=>(AC (0,90))|.d g=>AC g))
instance B?(g:CE)(R:Int)(T:Int)(j:Int)(q:Int):Kq (RU n g R T j q) 182 [.a (CE.c g),I R,I T,I j,I q] [] (λr=>.t [I r.1,I r.2]) (λr=>[.c 3 [I r.1],.c 50 [I r.2]]):=by
 refine Kg 14 func182 Z Z Z Z λr h=>Bd h λr1 V h=>?_;refine Qt [] (Dc.fn call163 Z Z Z) (c5 _ _ _ _ _ V) ?_;intro ra rH F;rcases r1 with G|x4|J|W
 .obtain⟨rfl,rfl⟩:=F;refine Fg 15 Z Z (Cn Z h (λ_ h=>?_) (λ_ h=>?_))
  .refine Gc 1 Z (Iu 2 [1] [(0,0,1),(1,0,0)] (by kernel_rfl) ?_);refine Ll (lo:=0) (x:=I G) ⟨Z,trivial⟩ ?_;refine DK.un (X1:=[.c 33 (CE.c g),.c 3 [I j],.c 3 [I q],.c 3 [I 0],.c 50 [I G],.c 303 [.q 1 (map eI []),.nilm],.c 303 [.q 1 (map eI []),.nilm]]) ?_ ?_
   .refine vU (Ex Z Z Z EB Z Z Z Z Z Z Z) ?_;exact FE Z Wp
   refine DK.done Z Z (Go 5 Z ?_);exact bu h
  refine Gc 6 Z (Cd [] h Kc Z λr8 af h=>Fg 3 Z Z (Bd h λy9 hy9 h=>Bd h λag Y h=>?_));refine vx [7] (λ_=>[.c 33 (CE.c g),.c 3 [I j],.c 3 [I q],.c 3 [I 0],.c 50 [I G],.c 303 [.q 1 (map eI []),.nilm],.c 303 [.q 1 (map eI []),.nilm],.dead]) Y (kX _ _ _ hy9) Zf call332 Z Z Z Z (by decide) Z (Jn Z) ?_ ?_
  .intro ah ai aj d L;refine G0 8 Z (And.intro Z ?_);refine G0 2 Z (Bd d λt y d=>Ct t [0,1,2,3,4,5,6,7] [10,11,13] (λt=>[(40,.b t)]) Ze Zf ?_ (λenv H aa=>?_))
   .refine G0 0 Z (GX 10 Z (D 3 Z ?_));obtain⟨ab,M,y⟩:=Yf y;refine DS.wo (x:=.rp [I ab]) ?_ ?_
    .exact Ix M EA EB Z Wp
    exact bu y
   refine Gx 1 Z (Ee aa (Cn Z d (λ_ d=>?_) (λ_ d=>?_)))
   .refine Gc 9 Z (tV d (Lw trivial) ?_);obtain rfl:=xT L d;exact bu h
   exact Gc 2 Z (tU d (Lr [0,1,2,3,4,5,6,7]))
  rintro ak rfl;exact bu h
 .obtain⟨rfl,rfl⟩:=F;refine Fg 12 Z Z ?_;refine vX (.b AE) (CY.neq (m:=90) (n:=0) Z Z Z) ?_;refine Go 4 Z (Iu 2 [1] [(0,0,1),(1,0,0)] (by kernel_rfl) ?_);refine Ll (lo:=0) (x:=I 90) ⟨Z,trivial⟩ ?_;refine DK.un (X1:=[.c 33 (CE.c g),.c 3 [I j],.c 3 [I q],.c 3 [I 0],.c 50 [I 90],.c 303 [.q 1 (map eI []),.nilm],.c 303 [.q 1 (map eI []),.nilm]]) ?_ ?_
  .refine vU (Ex Z Z Z EB Z Z Z Z Z Z Z) ?_;exact FE Z Wp
  refine DK.done Z Z (Go 5 Z ?_);exact bu h
 .obtain⟨rfl,rfl⟩:=F;refine Fg 12 Z Z ?_;refine vX (.b AE) (CY.neq (m:=2) (n:=0) Z Z Z) ?_;refine Go 4 Z (Iu 2 [1] [(0,0,1),(1,0,0)] (by kernel_rfl) ?_);refine Ll (lo:=0) (x:=I 2) ⟨Z,trivial⟩ ?_;refine DK.un (X1:=[.c 33 (CE.c g),.c 3 [I j],.c 3 [I q],.c 3 [I 0],.c 50 [I 2],.r 3 1 (map eI J),.c 303 [.o 5 (AI J) 1,.nilm],.c 303 [.o 5 (AI J) 1,.nilm]]) ?_ ?_
  .refine vU (Ex Z Z Z EB Z Z Z Z Z Z Z) ?_;exact FE Z Wp
  refine DK.done Z Z (Go 5 Z ?_);exact bu h
 .obtain⟨rfl,rfl⟩:=F;refine Go 12 Z ?_;refine vX (.b AD) (CY.neq (m:=0) (n:=0) Z Z Z) ?_;refine Go 9 Z ?_;refine Er (Tu 5 [(15,_),(19,_),(20,_),(25,_)]) ?_;refine Cd [6] h Kc Z λam ae h=>Fg 3 Z Z (Bd h λy34 hy34 h=>Bd h λan ac h=>?_);refine vx [9,6] (λ_=>[.c 33 (CE.c g),.c 3 [I j],.c 3 [I q],.c 3 [I 0],.c 50 [I 0],.dead,.dead,.c 303 [.q 1 (map eI W.1),.map 6],.c 303 [.q 1 (map eI W.1),.map 6],.dead]) ac (lK _ _ _ _ hy34) Zf call332 Z Z Z Z (by decide) Z (Jn Z) ?_ ?_
  .intro ao aq ar f O;refine G0 8 Z (And.intro Z ?_);refine G0 2 Z (Bd f λB E f=>Cg B [0,1,2,3,4,5,6,7,8,9] [10,11,13] (λB=>[(40,.b B)]) Ze Zf ?_ ?_)
   .refine G0 0 Z (GX 10 Z (D 3 Z ?_));obtain⟨ad,P,E⟩:=Yf E;refine DS.wo (x:=.rp [I ad]) ?_ ?_
    .exact Ix P EA EB Z Wp
    exact bu E
   refine Cn Z f (λ_ f=>?_) (λ_ f=>?_)
   .refine Gc 9 Z (tV f (Lw trivial) ?_);obtain rfl:=xT O f;exact bu h
   exact Gc 2 Z (tU f (Lr [0,1,2,3,4,5,6,7,8,9]))
  rintro av rfl;exact bu h
def U3(n:Nat)(f:AA Int)(h:Int)(d:Int):AB (CJ Int (CJ Unit Int)):=(bif d<(AI f:Int) then AH (CN f d) λg=>(bif (h==g)then AC (.d (.d d))else AC (.k (i64.wrap (d+1))))else AC (.d (.k ())))
def Wx(f:AA Int)(g:Int):AB Int:=AH (iter (U3 n f g) n 0:AB (CJ Unit Int)) λh=>match h with|.k d=>(AC (-1))|.d d=>AC d
instance y6(d:AA Int)(f:Int):Ki (Wx n d f) 331 [.q 1 (map eI d),I f]:=KB func331
def Ws(d:AA Int)(f:Int):AB Bool:=AH (Wx n d f) λg=>AC (AG (0<=g))
instance yv(d:AA Int)(f:Int):Kb (Ws n d f) 289 [.q 1 (map eI d),I f]:=KB func289
def O2(h:AA CQ)(j:CW)(d:Int×Int):AB (CJ (Int×Int) Int):=(bif d.2<(AI h:Int) then AH (Ws n j.Ak d.2) λf=>AH ((bif (!f)then AC (i64.wrap (d.1+1))else AC d.1):AB Int) λg=>AC (.k (g,i64.wrap (d.2+1)))else AC (.d d.1))
def P'(f:AA CQ)(g:CW):AB Int:=AH (iter (O2 n f g) n (0,0):AB Int) λd=>AC d
instance _l(f:AA CQ)(g:CW):Ki (P' n f g) 181 [.q 5 (map CQ.c f),.a (CW.c g)]:=by
 exact Kg 0 func181 Z Z Z Z λr h=>by
  have:=hn 20502 [] [] (λ(j:Int)=>[(4,I j)]) Ze;have:=hl 20502 [0] [3,7] (λ(d:Int×Int)=>[(4,I d.1),(8,I d.2)]) Ze;have:=hn 50101 [0] [3,7,8] (λ(m:Int)=>[(4,I m)]) Ze;exact bu h
def J8(m:CW)(M:CE)(N:CG)(H:AA Int)(O:AA CK)(q:AA CQ)(P:AA Ud)(Q:Int)(R:AA (Int×Ud))(J:CE)(L:CG)(d:(AA (Int×Bool))×Uf×Int):AB (CJ ((AA (Int×Bool))×Uf×Int) (CJ Unit Bool)):=(bif d.2.2<(AI m.Ak:Int) then AH (AH (CN m.Ak d.2.2) λf=>AH ((bif (f != (-1))then AH ((bif f<0 then AC AE else(bif (AI q:Int)<=f then AC AE else AH (CN q f) λt=>AH (CN H d.2.2) λx=>(bif (t.Af != x)then AC AE else AH (AC (Qd d.1 f AD)) λy=>(bif y then AC AE else AC (AG (m.Ai<d.2.2)))))):AB Bool) λB=>(bif B then AC (.d (.d (.d (.d AD))))else AH (AC (QE d.1 f AE)) λE=>AC (.k E))else AC (.k d.1)):AB (CJ (AA (Int×Bool)) (CJ ((AA (Int×Bool))×Uf) (CJ ((AA (Int×Bool))×Uf×Int) (CJ Unit Bool))))) λF=>match F with|.k g=>(bif m.Ai<d.2.2 then AC (.k (g,d.2.1))else AH (LE n d.2.1 d.2.2 f M N H O q P Q R J L) λj=>(bif (!j.2)then AC (.d (.d (.d AD)))else AC (.k (g,j.1))))|.d g=>AC g:AB (CJ ((AA (Int×Bool))×Uf) (CJ ((AA (Int×Bool))×Uf×Int) (CJ Unit Bool)))) λG=>match G with|.k h=>(AC (.k (h.1,h.2,i64.wrap (d.2.2+1))))|.d h=>AC h else AC (.d (.k ())))
def KK(f:CW)(j:CE)(B:CG)(g:AA Int)(E:AA CK)(m:AA CQ)(F:AA Ud)(q:Int)(G:AA (Int×Ud))(t:CE)(x:CG):AB Bool:=AH ((bif ((AI f.Ak:Int) != (AI g:Int))then AC AE else(bif f.Ai<(-1) then AC AE else(bif (AI g:Int)<=f.Ai then AC AE else(bif f.Ai<q then AC AE else AH (P' n m f) λy=>AC (AG (j.AT.BF<y)))))):AB Bool) λH=>(bif H then AC AD else AH (NK n) λJ=>AH (iter (J8 n f j B g E m F q G t x) n ([],{Di with Bb:=(-1):Uf},0):AB (CJ Unit Bool)) λh=>match h with|.k d=>(AC AE)|.d d=>AC d)
instance lg(a1:CW)(a2:CE)(a3:CG)(a4:AA Int)(a5:AA CK)(E:AA CQ)(a7:AA Ud)(a8:Int)(a9:AA (Int×Ud))(ab:CE)(ac:CG):Ks (KK n a1 a2 a3 a4 a5 E a7 a8 a9 ab ac) 103 [.p 0 0,.a (CW.c a1)] [.c 119 (match_task.tc a2 a3 a4 a5 E a7 (.map 1) (.fn (.func 93) [] [.p 2 0,.p 3 0,.p 4 0]) a8),.map (Qi I (λx=>A.a (Ud.c x)) a9),.c 111 [.p 0 0],.c 33 (CE.c ab),.c 39 (CG.c ac)] (λr=>.b r):=by
 refine Kg 6 func103 Z Z Z Z λr h=>TC.scope ?_;refine G0 6 Z (Lg 5 Z Z (Bd h λb6 h7 h=>Ct b6 [0,1,2,3,4,5] [0,3] (λb6=>[(55,.b b6)]) Ze Zf ?_ (λenv H aj=>?_)))
 .refine G0 0 Z (GX 38 Z (D 2 Z ?_));refine DS.wo (x:=I (AI a1.Ak:Int)) ?_ ?_
  .exact xV EA Z Wp
  exact bu h7
 refine Gx 1 Z (Ee aj (Cn Z h (λ_ h=>?_) (λ_ h=>?_)))
 .exact bu h
 refine Gc 4 Z (vH JB ?_);refine Fg 5 Z Z (Cd [] h Kc Z λaw ao h=>Fg 5 Z Z (TC.label ?_));refine Gx 6 Z (Lg 3 Z Z (Bd h λae af h=>Hz (b:=ae) [0,1,2,3,4] [] Ze Ze Zf ?_ (λ_ ak=>?_)))
 .refine G0 1 Z (Lp [0,1,2,3,4,5,6,8] [0,3,6,7,59,60] (λm=>[(61,I m.2.2)]) (λm=>[(6,.map (Qi I A.b m.1)),(7,.c 130 (Uf.c m.2.1))]) af Zf (Lr [0,1,2,3,4,5,6,8]) λm aq j q=>?_);refine G0 6 Z (Dm Z j (λ_ j=>?_) (λ_ j=>?_))
  .exact FS q j
  refine Gc 3 Z (Bd j λag f j=>Hz (b:=ag) [0,1,2,3,4,5,6,7] [0,3,6,7,59,60,61] Ze (λt=>[(6,.map (Qi I A.b t.1)),(7,.c 130 (Uf.c t.2))]) Zf ?_ (λt hb=>?_))
  .refine G0 4 Z (Bd f λF M f=>Iz M Z (Go 12 Z (Bd f λah g f=>Hz (b:=ah) [0,1,2,3,4,5,6,7] [0,3,6,7,8,9,59,60,61] Ze (λB=>[(6,.map (Qi I A.b B))]) Zf ?_ (λB hb=>?_))))
   .refine G0 0 Z (Cn Z g (λ_ g=>?_) (λ_ g=>?_))
    .refine Gc 2 Z (Bd g λy d g=>Cg y [0,1,2,3,4,5,6,7] [0,3,6,7,8,9,59,60,61] (λy=>[(107,.b y)]) Ze Zf ?_ ?_)
     .refine G0 0 Z (GX 38 Z (D 3 Z (DS.is 2 d Z Z Z (λ_ d=>?_) (λ_ d=>?_))))
      .exact bu d
      .refine D 5 Z ?_;refine DS.v (x:=(I (AI E:Int))) (nu (e:=CQ.c) (l:=E) EZ) ?_ (hg:=(gT Z));refine D 3 Z (DS.is 11 d Z Z Z (λ_ d=>?_) (λ_ d=>?_))
       .exact bu d
       .refine D 5 Z ?_;obtain⟨G,Q,d⟩:=Yf d;refine DS.v (x:=(.rp (CQ.c G))) (T5 (e:=CQ.c) (l:=E) (v:=G) Q EZ sizeOf122) ?_ (hg:=(gT Z));refine D 7 Z ?_;obtain⟨J,R,d⟩:=Yf d;refine DS.v (x:=(.rp [I J])) (T5 (e:=eI) (l:=a4) (v:=J) R EA EB) ?_ (hg:=(gT Z));refine D 4 Z (DS.is 29 d Z Z Z (λ_ d=>?_) (λ_ d=>?_))
        .exact bu d
        .refine D 2 Z ?_;obtain⟨ai,V,d⟩:=Yf d;refine DS.v (x:=(.b ai)) (YO (ev:=A.b) (z0:=AD) (k:=F) (l:=m.1) YY V underlying326 Gi ZR.bool) ?_ (hg:=(gT Z));exact bu d
     refine Cn Z g (λ_ g=>?_) (λ_ g=>?_)
     .refine Gc 7 Z ?_;cases g;refine JA (Gx 2 Z ?_);cases f;exact H9 q j h
     refine Gc 5 Z (Bd g λar X g=>?_);refine vU (Jj (ev:=A.b) (k:=F) (v:=AE) (l:=m.1) YY X Z underlying326) ?_;refine Fg 1 Z Z ?_;cases g;exact JZ Z (Lr [0,1,2,3,4,5,6,7])
    refine Gc 1 Z ?_;cases g;exact JZ Z (Lr [0,1,2,3,4,5,6,7])
   subst hb;refine Gc 9 Z (Cn Z f (λ_ f=>?_) (λ_ f=>?_))
   .refine Gc 3 Z ?_;cases f;exact JZ Z (Lr [0,1,2,3,4,5,6,7])
   refine Gc 13 Z (Cd [0,1,2,3,4] f Kc Z λav an f=>Fg 13 Z Z (Cn Z f (λ_ f=>?_) (λ_ f=>?_)))
   .refine Gc 7 Z ?_;cases f;exact H9 q j h
   refine Gc 2 Z ?_;cases f;exact JZ Z (Lr [0,1,2,3,4,5,6,7])
  subst hb;exact bu j
 subst ak;exact bu h
def IC(h:CE)(j:CG)(q:AA CQ)(x:CW)(y:Int)(d:(AA Int)×(AA CK)×(AA Ud)×(AA (Int×Ud))×Int)(f:Int):AB (CJ Int (CJ Unit (Int×CK×Int))):=(bif 0<=f then AH (CN x.Ak f) λt=>AH (Ik n f t h j d.1 d.2.1 q d.2.2.1 d.2.2.2.2 d.2.2.2.1 h j) λg=>(bif g.2 then AH (KA n f y h j d.1 d.2.1 q d.2.2.1 d.2.2.2.2 d.2.2.2.1 h j) λm=>AC (.d (.d (g.1.AW,{Lo:=i64.wrap (g.1.Ay.Lo+m.Lo),Hi:=i64.wrap (g.1.Ay.Hi+m.Hi):CK},0)))else AC (.k (i64.wrap (f-1))))else AC (.d (.k ())))
def HY(h:CE)(j:CG)(q:AA CQ)(t:CW)(y:Int)(d:(AA Int)×(AA CK)×(AA Ud)×(AA (Int×Ud))×Int)(f:Int):AB (CJ Int (CJ Unit (Int×CK×Int))):=(bif f<=t.Ai then AH (CN t.Ak f) λx=>AH (Ik n f x h j d.1 d.2.1 q d.2.2.1 d.2.2.2.2 d.2.2.2.1 h j) λg=>(bif g.2 then AH (KA n y f h j d.1 d.2.1 q d.2.2.1 d.2.2.2.2 d.2.2.2.1 h j) λm=>AC (.d (.d (g.1.AW,{Lo:=i64.wrap (g.1.Ay.Lo-m.Hi),Hi:=i64.wrap (g.1.Ay.Hi-m.Lo):CK},0)))else AC (.k (i64.wrap (f+1))))else AC (.d (.k ())))
def HH(g:CE)(h:CG)(E:AP)(F:Int)(q:AA CQ)(G:AA AY)(t:CW)(f:Int):AB (Int×CK×Int):=AH (OX n g h E F q G) λH=>(match H with|.c0 x=>((bif (x != 0)then AC (0,{Lo:=0,Hi:=0:CK},x)else AF))|.c1 d=>(AH (KK n t g h d.1 d.2.1 q d.2.2.1 d.2.2.2.2 d.2.2.2.1 g h) λJ=>(bif (!J)then AC (0,{Lo:=0,Hi:=0:CK},190)else AH ((bif f<0 then AC AE else AC (AG (t.Ai<f))):AB Bool) λL=>(bif L then AC (0,{Lo:=0,Hi:=0:CK},1)else AH (iter (IC n g h q t f d) n f:AB (CJ Unit (Int×CK×Int))) λy=>match y with|.k j=>(AH (iter (HY n g h q t f d) n f:AB (CJ Unit (Int×CK×Int))) λB=>match B with|.k m=>(AC ((-1),{Lo:=(-1099511627776),Hi:=1099511627776:CK},0))|.d m=>AC m)|.d j=>AC j))))
instance AAd(j:CE)(q:CG)(F:AP)(X:Int)(G:AA CQ)(Y:AA AY)(J:CW)(a8:Int):Kq (HH n j q F X G Y J a8) 184 [.a (CE.c j),.a (CG.c q),.a (AP.c F),I X,.q 5 (map CQ.c G),.q 4 (map AY.c Y),.a (CW.c J),I a8] [] (λr=>.t [I r.1,.a [I r.2.1.Lo,I r.2.1.Hi],I r.2.2]) (λr=>[.c 69 [I r.2.1.Lo,I r.2.1.Hi]]):=by
 refine Kg 19 func184 Z Z Z Z λr h=>Bd h λr1 aa h=>?_;refine Qt [] (Dc.fn call26 Z Z Z) (kV _ _ _ _ _ _ _ _ aa) ?_;intro ra rH h2;rcases r1 with x3|g
 .obtain⟨rfl,rfl⟩:=h2;refine Fg 14 Z Z (Cn Z h (λ_ h=>?_) (λ_ h=>?_))
  .refine Gc 1 Z (Iu 4 [3] [(0,0,0),(0,0,1),(0,0,0),(1,0,0)] (by kernel_rfl) (Dk 3 Z ?_));refine DK.un (X1:=[.c 33 (CE.c j),.c 39 (CG.c q),.c 41 (AP.c F),.c 56 (CW.c J),.c 69 [I 0,I 0],.c 111 [.nilp]]) ?_ ?_
   .refine vU (Ex Z Z Z EN Z Z Z Z Z Z Z) ?_;refine ei (H:=[_,_,_,_,_,_]) Z ?_;exact Wp
   refine DK.done Z Z (Go 5 Z ?_);exact bu h
  refine Gc 4 Z ?_;cases h
 .obtain⟨rfl,rfl⟩:=h2;refine aV (.t [.p 5 0,I 0]) [.c 33 (CE.c j),.c 39 (CG.c q),.c 41 (AP.c F),.c 56 (CW.c J),.c 69 [I 0,I 0],.c 119 (CE.c j++(CG.c q++[.q 1 (map eI g.1),.o 6 (AI g.2.1) 2,.q 5 (map CQ.c G),.o 7 (AI g.2.2.1) 3,.map 8,.fn (.func 93) [] [.p 9 0,.p 10 0,.p 11 0],I g.2.2.2.2])),.r 69 2 (map CK.c g.2.1),.r 128 3 (map Ud.c g.2.2.1),.map (Qi I (λx=>A.a (Ud.c x)) g.2.2.2.1),.c 111 [.p 5 0],.c 33 (CE.c j),.c 39 (CG.c q)] Z Z ?_;refine Go 11 Z ?_;refine vX (.b AD) (CY.neq (m:=0) (n:=0) Z Z Z) ?_;refine Go 10 Z ?_;refine Er (Tu 6 []) ?_;refine Er (Tu 7 []) ?_;refine Cz [5,8,9,10,11] h Kc Z λr6 aq h=>Go 3 Z (Cn Z h (λ_ h=>?_) (λ_ h=>?_))
  .exact bu h
  refine Gc 4 Z (Bd h λN ad h=>Ct N [3,4,5,8,9,10,11] [7,14,17,19] (λN=>[(54,.b N)]) (λ_=>[(2,.c 119 (match_task.tc j q g.1 g.2.1 G g.2.2.1 (.map 3) (.fn (.func 93) [] [.p 4 0,.p 5 0,.p 6 0]) g.2.2.2.2)),(4,.c 111 [.p 2 0])]) Zf ?_ (λenv H t=>?_))
  .exact bu ad
  refine Gx 1 Z (Ee t (Cn Z h (λ_ h=>?_) (λ_ h=>?_)))
  .exact bu h
  refine Gc 9 Z (Bd h λae af h=>KR (b:=ae) [0,1,2,3,4,5,6] [7,14,17,19] Ze Ze Zf ?_ (λai env H y t=>?_))
  .refine G0 1 Z (Lp [0,1,2,3,4,5,6] [7,14,17,19] (λL=>[(20,I L)]) Ze af Zf (Lr [0,1,2,3,4,5,6]) λL ar f B=>?_);refine G0 7 Z (Dm Z f (λ_ f=>?_) (λ_ f=>?_))
   .exact FS B f
   refine Gc 11 Z (Bd f λav Q f=>Iz Q Z (Go 1 Z (Cd [2,3,4,5,6] f Kc Z λaw aj f=>Fg 13 Z Z (Cn Z f (λ_ f=>?_) (λ_ f=>?_)))))
   .refine Gc 5 Z (Cd [2,3,4,5,6] f Kc Z λax ak f=>Fg 5 Z Z (GX 16 Z (D 16 Z (Eg Z (Go 7 Z (Kt f ?_))))));obtain rfl:=Oj B f;refine Gx 1 Z (JA (Gx 1 Z ?_));exact bu h
   exact bu f
  subst y;refine Gx 1 Z (Ee t (Gc 7 Z (Bd h λag ah h=>Hz (b:=ag) [1] [17] Ze Ze Zf ?_ (λ_ y=>?_))))
  .refine G0 1 Z (Lp [0,1,2,3,4,5,6] [7,14,17,19] (λM=>[(24,I M)]) Ze ah Zf (Lr [0,1,2,3,4,5,6]) λM ay d E=>?_);refine G0 9 Z (Dm Z d (λ_ d=>?_) (λ_ d=>?_))
   .exact Gc 2 Z (Jf d (Gx 1 Z (Zt E d Z (Lr [1]))))
   refine Gc 11 Z (Bd d λaz V d=>Iz V Z (Go 1 Z (Cd [2,3,4,5,6] d Kc Z λba an d=>Fg 13 Z Z (Cn Z d (λ_ d=>?_) (λ_ d=>?_)))))
   .refine Gc 5 Z (Cd [2,3,4,5,6] d Kc Z λbb ao d=>Fg 5 Z Z (GX 16 Z (D 16 Z (Eg Z (Go 7 Z (Kt d ?_))))));obtain rfl:=Oj E d;refine Gx 1 Z (JA (Gx 1 Z ?_));obtain rfl:=Oi h;exact Rx [1] [16,17,18] Z (QF Z Z (C'.cons FM.tmp (C'.cons (QP isAgg69 EN Z Z Z) (C'.cons FM.tmp C'.nil)))) ⟨Z,Z⟩
   exact Gc 8 Z (JJ d (Lr [0,1,2,3,4,5,6]))
  subst y;exact bu h
def II(d:Uh)(g:CW)(h:Int):AB (Int×CK):=AH (HH n d.Au d.BO d.Al d.BJ d.BM d.A6 g h) λf=>AC (f.1,{Lo:=f.2.1.Lo,Hi:=f.2.1.Hi:CK})
instance AAR(f:Uh)(g:CW)(j:Int):Kq (II n f g j) 106 [.a (Uh.c f),.a (CW.c g),I j] [] (λr=>.t [I r.1,.a [I r.2.Lo,I r.2.Hi]]) (λr=>[.c 69 [I r.2.Lo,I r.2.Hi]]):=by
 refine Kg 24 func106 Z Z Z Z λr h=>Cd [] h Kc Z λd m h=>Fg 9 Z Z (TC.draw0 3 [27,28,6] [I d.1,.a (CK.c d.2.1),I d.1] FY Z Z Z ?_ ?_)
 .refine Oq.c ?_ (ov (ov (Oq.n)))
  .exact Om Z (sP 2 sN) (S Z Wp)
 exact bu h
def LG(n:Nat)(g:CG)(f:Int)(d:CK):AB CK:=(bif (f==(-1))then AC ({Lo:=d.Lo,Hi:=d.Hi:CK})else AH (CN g.BE (i64.wrap (f+1))) λh=>AH (CN h 0) λj=>AH (CN g.BE 0) λm=>AH (CN m (i64.wrap (f+1))) λq=>AC ({Lo:=i64.wrap (d.Lo-j),Hi:=i64.wrap (d.Hi+q):CK}))
instance p?(f:CG)(g:Int)(d:CK):Kq (LG n f g d) 50 [.a (CG.c f),I g,.a [I d.Lo,I d.Hi]] [] (λr=>.a [I r.Lo,I r.Hi]) (λr=>[.c 69 [I r.Lo,I r.Hi]]):=by
 refine Kg 14 func50 Z Z Z Z λr h=>Cn Z h (λ_ h=>?_) (λ_ h=>?_)
 .exact bu h
 refine Gc 10 Z (GX 20 Z (D 5 Z ?_));obtain⟨B,m,h⟩:=Yf h;refine DS.wo (x:=.rp [.q 1 (map eI B)]) ?_ ?_
 .exact Ix m ED EG Z Wp
 refine D 1 Z ?_;obtain⟨E,q,h⟩:=Yf h;refine DS.wo (x:=.rp [I E]) ?_ ?_
 .exact Ix q EA EB Z Wp
 refine D 6 Z ?_;obtain⟨F,t,h⟩:=Yf h;refine DS.wo (x:=.rp [.q 1 (map eI F)]) ?_ ?_
 .exact Ix t ED EG Z Wp
 refine D 2 Z ?_;obtain⟨G,y,h⟩:=Yf h;refine DS.wo (x:=.rp [I G]) ?_ ?_
 .exact Ix y EA EB Z Wp
 exact bu h
def Il(n:Nat)(d:Uh):AB Int:=AH (CN d.Au.Ax d.Al.Aw) λf=>AC f.B0
instance AAK(d:Uh):Ki (Il n d) 183 [.a (Uh.c d)]:=KB func183
def UY(g:Uh)(G:CW)(F:AN)(d:Bool×Bool×Int):AB (CJ (Bool×Bool×Int) (Bool×Bool)):=(bif d.2.2<(AI F.Am:Int) then AH (AH (CN F.Am d.2.2) λf=>AH (RU n g.Au g.Al.AN g.BJ f.Af f.B9) λh=>AH ((bif (h.2 != 0)then AC AE else AC (AG (g.Az<h.1))):AB Bool) λt=>(bif t then AC (d.1,d.2.1)else AH (II n g G h.1) λj=>AH (LG n g.BO j.1 ({Lo:=j.2.Lo,Hi:=j.2.Hi:CK})) λm=>AH ((bif d.1 then AC AE else AH (Il n g) λx=>AC (AG (f.Bu<(i64.wrap (m.Lo-x))))):AB Bool) λy=>AH ((bif d.2.1 then AC AE else AH (Il n g) λB=>AC (AG (f.Bu<(i64.wrap (m.Hi-B))))):AB Bool) λE=>AC (y,E)):AB (Bool×Bool)) λq=>AC (.k (q.1,q.2,i64.wrap (d.2.2+1)))else AC (.d (d.1,d.2.1)))
def RE(f:Uh)(g:CW):AB (Bool×Bool):=AH (CN f.Au.AO f.Al.AN) λh=>AH (iter (UY n f g h) n (AD,AD,0):AB (Bool×Bool)) λd=>AC (d.1,d.2)
instance _q(N:Uh)(O:CW):Ks (RE n N O) 105 [.a (Uh.c N),.a (CW.c O)] [] (λr=>.t [.b r.1,.b r.2]):=by
 refine Kg 16 func105 Z Z Z Z λr h=>Bd h λx1 P h=>Iz P Z (Go 10 Z (Lg 3 Z Z (Bd h λx Q h=>Cg x [] [] (λx=>[(4,.b x.1),(5,.b x.2)]) Ze Zf ?_ ?_)))
 .refine G0 1 Z (Lp [0,1] [2,3,23,24] (λy=>[(4,.b y.1),(5,.b y.2.1),(25,I y.2.2)]) Ze Q Zf (Lr [0,1]) λy ab f F=>?_);refine G0 6 Z (Dm Z f (λ_ f=>?_) (λ_ f=>?_))
  .exact Gc 2 Z (Jf f (Gx 1 Z (NT F f (Lr []))))
  refine Gc 3 Z (Bd f λg d f=>Cg g [0,1] [2,3,23,24,25] (λg=>[(4,.b g.1),(5,.b g.2)]) Ze Zf ?_ ?_)
  .refine G0 3 Z (Bd d λW B d=>Iz B Z (Go 18 Z (Cd [] d Kc Z λX R d=>Fg 9 Z Z (Bd d λm J d=>Ct m [0,1,2] [2,3,4,5,8,9,23,24,25] (λm=>[(51,.b m)]) Ze Zf ?_ (λenv H j=>?_)))))
   .exact bu J
   refine Gx 1 Z (Ee j (Cn Z d (λ_ d=>?_) (λ_ d=>?_)))
   .exact bu d
   refine Gc 7 Z (Cd [] d Kc Z λY T d=>Fg 14 Z Z (Cd [] d Kc Z λaa V d=>Fg 5 Z Z (Bd d λq L d=>Ct q [0,1,2,6] [2,3,5,8,13,23,24,25] (λq=>[(4,.b q)]) Ze Zf ?_ (λenv H j=>?_))))
   .exact bu L
   refine Gx 1 Z (Ee j (Bd d λt M d=>Ct t [0,1] [2,3,4,23,24,25] (λt=>[(5,.b t)]) Ze Zf ?_ (λenv H j=>?_)))
   .exact bu M
   refine Gx 1 Z ?_;cases d;exact OM (En j (Lr [0,1]))
  exact bu f
 exact bu h
def gz(n:Nat):AB Unit:=AC ()
instance kZ:Kq (gz n) 107 [] [] (λ_=>.a [.f 185,.f 185,.fn (.func 187) [] [.p 0 0],.f 189]) (λ_=>[.c 227 [.f 185],.c 228 [.f 185,.f 185,.fn (.func 187) [] [.p 0 0],.f 189]]):=by
 refine Kg 2 func107 Z Z Z Z λr h=>vH (fX (v:=(.a [.nilf,.nilf,.nilf,.nilf])) zeroValue228 (IN Z)) ?_;refine Fg 13 Z Z (vV (Qh4 zeroValue228 (ZR.agg (zc ZR.nilf (zc ZR.nilf (zc ZR.nilf (zc ZR.nilf ZL.nil))))) EV Gg Z) ?_);refine vU (Ex Z Z Z sizeOf228 Z Z Z Z Z Z Z) (Fg 3 Z Z ?_);exact Rx [1,0] [0] Z (YC Z (QP isAgg228 sizeOf228 Z Z Z)) ⟨Z,Z⟩
def Wi(n:Nat)(d:Int):AB Unit:=AC ()
instance ym(d:Int):Kq (Wi n d) 186 [I d] [] (λ_=>.a [I d,I d]) (λ_=>[.c 69 [I d,I d]]):=KB func186
def KJ(f:Uh)(g:CW):AB CK:=AH (Il n f) λd=>AH (Wi n d) λh=>AC ({Lo:=d,Hi:=d:CK})
instance lZ(d:Uh)(f:CW):Kq (KJ n d f) 185 [.a (Uh.c d),.a (CW.c f)] [] (λr=>.a [I r.Lo,I r.Hi]) (λr=>[.c 69 [I r.Lo,I r.Hi]]):=KB func185
def ZO(n:Nat)(d:AY):AB Unit:=AC ()
instance zb(d:AY):Ks (ZO n d) 188 [.a (AY.c d)] [] (λ_=>.b (d.AS==0)):=KB func188
def ML(g:AA AY)(d:Int):AB (CJ Int (CJ Unit Int)):=(bif d<(AI g:Int) then AH (CN g d) λf=>AH (ZO n f) λh=>(bif (f.AS==0)then AC (.d (.d d))else AC (.k (i64.wrap (d+1))))else AC (.d (.k ())))
def ZK(g:AA AY):AB Int:=AH (iter (ML n g) n 0:AB (CJ Unit Int)) λf=>match f with|.k d=>(AC (-1))|.d d=>AC d
instance zY(d:AA AY):Ki (ZK n d) 162 [.q 4 (map AY.c d),.f 188]:=KB func162
def RG(d:AA AY):AB Bool:=AH (ZK n d) λf=>AC (AG (0<=f))
instance _r(d:AA AY):Kb (RG n d) 87 [.q 4 (map AY.c d),.f 188]:=KB func87
def NH(f:Uh)(g:CW):AB CK:=AH (RG n f.A6) λj=>AH (AH (CN g.Ak 0) λm=>(bif m<0 then AC (!j)else AC AD):AB Bool) λq=>(bif q then AH (KJ n f g) λh=>AC ({Lo:=h.Lo,Hi:=h.Hi:CK})else AH (II n f g 0) λd=>AC ({Lo:=d.2.Lo,Hi:=d.2.Hi:CK}))
instance lR(d:Uh)(f:CW):Kq (NH n d f) 187 [.a (Uh.c d),.a (CW.c f),.p 0 0] [.c 227 [.f 185]] (λr=>.a [I r.Lo,I r.Hi]) (λr=>[.c 227 [.f 185],.c 69 [I r.Lo,I r.Hi]]):=KB func187
def Zg(d:Uh)(f:CW):AB Unit:=AH (Wi n d.Al.Bc) λg=>AC ()
instance kf(d:Uh)(f:CW):Kq (Zg n d f) 189 [.a (Uh.c d),.a (CW.c f)] [] (λ_=>.a [I d.Al.Bc,I d.Al.Bc]) (λ_=>[.c 69 [I d.Al.Bc,I d.Al.Bc]]):=KB func189
def LU(g:Uh)(h:CW):AB (AA CH):=AH (Mt n g.Bo g.Az) λf=>AH ((bif h.Ai<g.Az then AC AE else AC f.2.2):AB Bool) λy=>(bif y then AH (K3 n) λM=>AC [{BP:=AE,Bg:=(-1),Lo:=0,Hi:=0:CH}]else AH (RE n g h) λx=>(bif x.1 then AH (K3 n) λB=>AC [{BP:=AE,Bg:=(-1),Lo:=0,Hi:=0:CH}]else AH (II n g h g.Az) λd=>AH (gz n) λE=>AH (CN g.Au.AO g.Al.AN) λj=>(bif (j.BI==0)then AH (KJ n g h) λm=>(bif x.2 then AH (K3 n) λF=>AC [{BP:=AE,Bg:=(-1),Lo:=0,Hi:=0:CH},{BP:=AD,Bg:=d.1,Lo:=i64.wrap ((i64.wrap (d.2.Lo-m.Hi))+f.1),Hi:=i64.wrap ((i64.wrap (d.2.Hi-m.Lo))+f.1):CH}]else AC [{BP:=AD,Bg:=d.1,Lo:=i64.wrap ((i64.wrap (d.2.Lo-m.Hi))+f.1),Hi:=i64.wrap ((i64.wrap (d.2.Hi-m.Lo))+f.1):CH}])else(bif (j.BI==1)then AH (KJ n g h) λq=>(bif x.2 then AH (K3 n) λG=>AC [{BP:=AE,Bg:=(-1),Lo:=0,Hi:=0:CH},{BP:=AD,Bg:=d.1,Lo:=i64.wrap ((i64.wrap (d.2.Lo-q.Hi))+f.1),Hi:=i64.wrap ((i64.wrap (d.2.Hi-q.Lo))+f.1):CH}]else AC [{BP:=AD,Bg:=d.1,Lo:=i64.wrap ((i64.wrap (d.2.Lo-q.Hi))+f.1),Hi:=i64.wrap ((i64.wrap (d.2.Hi-q.Lo))+f.1):CH}])else(bif (j.BI==2)then AH (NH n g h) λt=>(bif x.2 then AH (K3 n) λH=>AC [{BP:=AE,Bg:=(-1),Lo:=0,Hi:=0:CH},{BP:=AD,Bg:=d.1,Lo:=i64.wrap ((i64.wrap (d.2.Lo-t.Hi))+f.1),Hi:=i64.wrap ((i64.wrap (d.2.Hi-t.Lo))+f.1):CH}]else AC [{BP:=AD,Bg:=d.1,Lo:=i64.wrap ((i64.wrap (d.2.Lo-t.Hi))+f.1),Hi:=i64.wrap ((i64.wrap (d.2.Hi-t.Lo))+f.1):CH}])else(bif (j.BI==3)then AH (Zg n g h) λJ=>(bif x.2 then AH (K3 n) λL=>AC [{BP:=AE,Bg:=(-1),Lo:=0,Hi:=0:CH},{BP:=AD,Bg:=d.1,Lo:=i64.wrap ((i64.wrap (d.2.Lo-g.Al.Bc))+f.1),Hi:=i64.wrap ((i64.wrap (d.2.Hi-g.Al.Bc))+f.1):CH}]else AC [{BP:=AD,Bg:=d.1,Lo:=i64.wrap ((i64.wrap (d.2.Lo-g.Al.Bc))+f.1),Hi:=i64.wrap ((i64.wrap (d.2.Hi-g.Al.Bc))+f.1):CH}])else AF))))))
instance lX(g:Uh)(m:CW):Kr (LU n g m) 40 [.a (Uh.c g),.a (CW.c m)] 63 4 CH.c:=by
 refine Kg 13 func40 Z Z Z Z λr h=>Cd [] h Kc Z λq N h=>Fg 11 Z Z (Bd h λy L h=>Cg y [0,1] [2,3,5] (λy=>[(30,.b y)]) Ze Zf ?_ ?_)
 .exact bu L
 refine Cn Z h (λ_ h=>?_) (λ_ h=>?_)
 .exact bu h
 refine Gc 6 Z (Cd [] h Kc Z λR O h=>Fg 13 Z Z (Cn Z h (λ_ h=>?_) (λ_ h=>?_)))
 .exact bu h
 refine Gc 8 Z (Cd [] h Kc Z λd M h=>Fg 9 Z Z ?_);obtain⟨P,B,h⟩:=Yf h;obtain⟨t,E,h⟩:=Yf h;obtain⟨xf,f,hf,h⟩:=mB (.f 185) (.f 185) (.fn (.func 187) [] [.p 5 0]) (.f 189) {Lo:=g.Al.Bc,Hi:=g.Al.Bc} h;refine UI 15 1 [50,51,52,53,54,55,56,57,58,59,60,61,62,63,12] [AE,AD,AD,AD,AD,AD,AD,AD,AD,AD,AD,AD,AD,AE,AE] [[],[],[],[],[],[],[],[],[],[],[0],[],[],[0],[]] [[],[0],[14],[0,13],[0,14],[0,13,14]] [[(0,1),(2,4)],[(0,0),(1,1),(2,2),(4,4)],[(0,0),(1,1),(2,2),(4,4)],[(0,0),(1,1),(2,2),(4,4)],[(0,0),(1,1),(2,2),(4,4)],[(0,0),(1,1),(2,2),(4,4)],[(0,0),(1,1),(2,2),(4,4)],[(0,0),(1,1),(2,2),(4,4)],[(0,0),(1,1),(2,2),(4,4)],[(0,0),(1,1),(2,2),(4,4)],[(1,1),(4,4)],[(0,0),(1,1),(2,2),(4,4)],[(0,0),(1,1),(2,2),(4,4)],[(1,3),(4,5)],[(0,2),(1,4),(3,5)]] [.a [.f 185,.f 185,.fn (.func 187) [] [.p 5 0],.f 189],.p 0 0,.p 0 3,.q 5 (map AN.c g.Au.AO),.p 0 18,.p 0 19,I g.Al.AN,.rp (AN.c t),.rp [I t.BI,.q 3 (map CX.c t.Am),I t.Ae],I t.BI,xf,.a (Uh.c g),.a (CW.c m),.a (CK.c f),.p 4 0] [[.c 139 (Uh.c g),.c 56 (CW.c m),.c 69 (CK.c d.2),.c 69 (CK.c d.2),.dead],[.c 139 (Uh.c g),.c 56 (CW.c m),.c 69 (CK.c d.2),.c 69 (CK.c d.2),.dead,.c 227 [.f 185],.c 228 [.f 185,.f 185,.fn (.func 187) [] [.p 5 0],.f 189]],[.c 139 (Uh.c g),.c 56 (CW.c m),.c 69 (CK.c d.2),.c 69 (CK.c d.2),.c 69 [I 0,I 0]],[.c 139 (Uh.c g),.c 56 (CW.c m),.c 69 (CK.c d.2),.c 69 (CK.c d.2),.dead,.c 227 [.f 185],.c 228 [.f 185,.f 185,.fn (.func 187) [] [.p 5 0],.f 189],.c 69 (CK.c f)],[.c 139 (Uh.c g),.c 56 (CW.c m),.c 69 (CK.c d.2),.c 69 (CK.c d.2),.c 69 [I 0,I 0],.c 227 [.f 185],.c 228 [.f 185,.f 185,.fn (.func 187) [] [.p 5 0],.f 189]],[.c 139 (Uh.c g),.c 56 (CW.c m),.c 69 (CK.c d.2),.c 69 (CK.c d.2),.c 69 [I 0,I 0],.c 227 [.f 185],.c 228 [.f 185,.f 185,.fn (.func 187) [] [.p 5 0],.f 189],.c 69 (CK.c f)]] ([.c 139 (Uh.c g),.c 56 (CW.c m),.c 69 (CK.c d.2),.c 69 (CK.c d.2),.c 69 [I 0,I 0],.c 227 [.f 185],.c 228 [.f 185,.f 185,.fn (.func 187) [] [.p 5 0],.f 189],.c 69 (CK.c f)]) FY Z Z Z Z Z Z Z ?_ Z ?_
 .refine FP.cons ?_ (M1 (M1 (M1 (M1 (M1 (M1 (FP.cons ?_ (M1 (M1 (FP.cons ?_ (M1 (M1 (FP.cons ?_ (FP.cons ?_ (FP.nil)))))))))))))))
  .refine Ql ?_ (Ql ?_ (QV))
   all_goals refine So Z sN ?_
   all_goals refine Qt [] (Dc.fn call107 Z Z Z) ((kZ _).c _ B) ?_
   all_goals rintro _ _ ⟨rfl,rfl⟩
   all_goals exact FE Z Wp
  .refine Ql ?_ (Ql ?_ (Ql ?_ (Ql ?_ (QV))))
   all_goals refine Om Z (sD 3 (sD 6 sN)) ?_
   all_goals exact Ix E runUnderlying24 sizeOf169 Z Wp
  .refine Ql ?_ (Ql ?_ (QV))
   all_goals refine Om Z (sD 0 (sD 9 sN)) ?_
   all_goals rcases hf with⟨hg,rfl,hr⟩|⟨hg,rfl,hr⟩|⟨hg,rfl,hr⟩|⟨hg,rfl,hr,rfl⟩
   all_goals first|exact vV (i8 (n:=4) (j:=0) hg Z Z EV isAgg227 Gg) Wp|exact vV (i8 (n:=4) (j:=1) hg Z Z EV isAgg227 Gg) Wp|exact vV (i8 (n:=4) (j:=2) hg Z Z EV isAgg227 Gg) Wp|exact vV (i8 (n:=4) (j:=3) hg Z Z EV isAgg227 Gg) Wp
  .refine Ql ?_ (Ql ?_ (QV))
   all_goals refine So Z (sD 10 (sD 11 (sD 12 sN))) ?_
   all_goals rcases hf with⟨hg,rfl,hr⟩|⟨hg,rfl,hr⟩|⟨hg,rfl,hr⟩|⟨hg,rfl,hr,rfl⟩
   all_goals first|refine Qt [] (aH call185 Z Z Z Z) ((lZ _ _ _).c _ hr) ?_|refine Qt [5] (aH call187 Z Z Z Z) ((lR _ _ _).c _ hr) ?_|refine Qt [] (aH call189 Z Z Z Z) ((kf _ _ _).c _ hr) ?_
   all_goals rintro _ _ ⟨rfl,rfl⟩
   all_goals exact FE Z Wp
  .refine Ql ?_ (Ql ?_ (Ql ?_ (QV)))
   all_goals exact Y0.alloc _ 12 69 4 _ Z Z Z Z Z Z Z (OV.alloc (v:=(.a [I 0,I 0])) Gh (IN Z)) Z
 refine Go 31 Z (Cn Z h (λ_ h=>?_) (λ_ h=>?_))
 .refine Gc 1 Z (qe 2 0 [1,3] (by kernel_rfl) ?_);obtain⟨Q,G,h⟩:=Yf h;refine DA.op (x:=.a [.b AE,I (-1),I 0,I 0]) (H1:=[.c 139 (Uh.c g),.c 56 (CW.c m),.c 69 (CK.c d.2),.c 69 (CK.c d.2),.c 69 (CK.c f),.c 227 [.f 185],.c 228 [.f 185,.f 185,.fn (.func 187) [] [.p 5 0],.f 189],.c 69 (CK.c f),.c 63 [.b AD,I d.1,I (i64.wrap ((i64.wrap (d.2.Lo-f.Hi))+q.1)),I (i64.wrap ((i64.wrap (d.2.Hi-f.Lo))+q.1))],.c 63 [.b AE,I (-1),I 0,I 0]]) ?_ ?_
  .refine Qt [] (Dc.fn call52 Z Z Z) ((kh _).c _ G) ?_;rintro _ _ ⟨rfl,rfl⟩;exact FE Z Wp
  refine DB.wo2 (x:=.a [.b AD,I d.1,I (i64.wrap ((i64.wrap (d.2.Lo-f.Hi))+q.1)),I (i64.wrap ((i64.wrap (d.2.Hi-f.Lo))+q.1))]) ?_ ?_ ?_
  iterate 2 (refine vV (x:=(.a [.b AD,I d.1,I (i64.wrap ((i64.wrap (d.2.Lo-f.Hi))+q.1)),I (i64.wrap ((i64.wrap (d.2.Hi-f.Lo))+q.1))])) (Yd Z Gu EI Z (Dn.cells Z Z) Z Z) ?_;exact Wp)
  refine DB.done Z (vH (Ek (xs:=[.tmp 81,.tmp 82]) (es:=map CH.c [{BP:=AE,Bg:=(-1),Lo:=0,Hi:=0:CH},{BP:=AD,Bg:=d.1,Lo:=i64.wrap ((i64.wrap (d.2.Lo-f.Hi))+q.1),Hi:=i64.wrap ((i64.wrap (d.2.Hi-f.Lo))+q.1):CH}]) NZ Z Z Z Z Z ⟨Z,Z,trivial⟩ Z Z) ?_);exact bu h
 exact bu h
def gv(n:Nat)(d:CH):AB Unit:=AC ()
instance yg(d:CH):Ks (gv n d) 54 [.a (CH.c d)] [] (λ_=>.b d.BP):=KB func54
def pj(g:AA CH)(d:Int):AB (CJ Int (CJ Unit Int)):=(bif d<(AI g:Int) then AH (CN g d) λf=>AH (gv n f) λh=>(bif f.BP then AC (.d (.d d))else AC (.k (i64.wrap (d+1))))else AC (.d (.k ())))
def gS(g:AA CH):AB Int:=AH (iter (pj n g) n 0:AB (CJ Unit Int)) λf=>match f with|.k d=>(AC (-1))|.d d=>AC d
instance yL(d:AA CH):Ki (gS n d) 120 [.q 4 (map CH.c d),.f 54]:=KB func120
def gZ(d:AA CH):AB Bool:=AH (gS n d) λf=>AC (AG (0<=f))
instance yR(d:AA CH):Kb (gZ n d) 53 [.q 4 (map CH.c d),.f 54]:=KB func53
def gB(n:Nat)(d:AA CH):AB (AA CH):=isNil d (AC []) (AH (app ([]:AA CH) d) λf=>AC f)
instance xy(d:AA CH):Kr (gB n d) 56 [.q 4 (map CH.c d)] 63 4 CH.c:=by
 refine Kg 9 func56 Z Z Z Z λr h=>(QoS underlying57 Z (λf g=>?_));have hkb1:=ui h f g;cases f
 .have h:=hkb1.2 Z;refine Go 7 Z (vH (Ek (xs:=[]) NZ Z Z Z Z Z trivial Z Z) ?_);refine Fg 1 Z Z (Bd h λm j h=>vH (YP j NZ EE Sd) ?_);exact bu h
 .have h:=hkb1.1 Z;refine Go 10 Z ?_;obtain rfl:=Oi h;refine R1 2 Z (En (Ep (s:=2) (k:=4) (t:=63) (XS Z) Z) ?_);exact Lr [0]
def W4(n:Nat)(d:CH):AB Bool:=AH ((bif d.BP then AC AE else AC (AG (d.Hi<d.Lo))):AB Bool) λf=>AC f
instance zD(d:CH):Kb (W4 n d) 57 [.a (CH.c d)]:=KB func57
def pv(f:AA CH)(d:Int):AB (CJ Int (CJ Unit Int)):=(bif d<(AI f:Int) then AH (CN f d) λg=>AH (W4 n g) λh=>(bif h then AC (.d (.d d))else AC (.k (i64.wrap (d+1))))else AC (.d (.k ())))
def gl(g:AA CH):AB Int:=AH (iter (pv n g) n 0:AB (CJ Unit Int)) λf=>match f with|.k d=>(AC (-1))|.d d=>AC d
instance yb(d:AA CH):Ki (gl n d) 120 [.q 4 (map CH.c d),.f 57]:=KB func120
def pi(d:(AA CH)×Int×Int):AB (CJ ((AA CH)×Int×Int) ((AA CH)×Int)):=(bif d.2.2<(AI d.1:Int) then AH (CN d.1 d.2.2) λf=>AH (W4 n f) λh=>AH ((bif (!h)then AH (CN d.1 d.2.1) λm=>AH (JF d.1 d.2.1 f) λj=>AC (j,i64.wrap (d.2.1+1))else AC (d.1,d.2.1)):AB ((AA CH)×Int)) λg=>AC (.k (g.1,g.2,i64.wrap (d.2.2+1)))else AC (.d (d.1,d.2.1)))
def gn(f:AA CH):AB (AA CH):=AH (gl n f) λg=>(bif (g==(-1))then AC f else AH (iter (pi n) n (f,g,i64.wrap (g+1)):AB ((AA CH)×Int)) λd=>AH (Do d.1 0 d.2) λh=>AC h)
instance yc(E:AA CH):Kq (gn n E) 55 [.o 0 (AI E) 4,.f 57] [.r 63 4 (map CH.c E)] (λr=>.o 0 (AI r) 4) (λr=>[.r 63 4 (map CH.c r)]):=by
 refine Kg 9 func55 Z Z Z Z λr h=>Cb h Kc Z (lo (ls ln)) λY P h=>Go 10 Z (Cn Z h (λ_ h=>?_) (λ_ h=>?_))
 .exact bu h
 refine Gc 10 Z (Bd h λj M h=>Cg j [0] [] (λj=>[(0,.o 0 (AI j.1) 4),(5,I j.2)]) (λj=>[(0,.r 63 4 (map CH.c j.1))]) Zf ?_ ?_)
 .refine G0 1 Z (Lp [0] [1] (λm=>[(0,.o 0 (AI m.1) 4),(5,I m.2.1),(6,I m.2.2)]) (λm=>[(0,.r 63 4 (map CH.c m.1))]) M Zf (Lr [0]) λm Q d F=>?_);refine G0 9 Z (Dm Z d (λ_ d=>?_) (λ_ d=>?_))
  .exact Gc 2 Z (Jf d (Gx 1 Z (NT F d (Lr [0]))))
  refine Gc 8 Z (Bd d λR x d=>(vV (Qw x Z EE EI) ?_));refine vV (Yd Z Gu EI Z (Qy x) Z Z) ?_;refine Go 8 Z (Cz [] d Kc Z λT O d=>Go 3 Z (Bd d λq g d=>Ct q [0] [1,6] (λq=>[(0,.o 0 (AI q.1) 4),(5,I q.2)]) (λq=>[(0,.r 63 4 (map CH.c q.1))]) Zf ?_ (λenv H N=>?_)))
  .refine G0 0 Z (Cn Z g (λ_ g=>?_) (λ_ g=>?_))
   .refine Gc 5 Z (Bd g λV y g=>(vV (Qw y Z EE EI) ?_));refine Bd g λW B g=>(vU (Ys (k:=4) (f:=0) y B EI Z Z) ?_);refine Er (Q3 (s:=0) Z (congrArg (λn=>A.s 0 0 n 4) (Yh B))) ?_;exact bu g
   exact bu g
  exact Gx 2 Z (Ee N (Gc 5 Z (JJ d (Lr [0]))))
 refine Gc 4 Z (Bd h λX t h=>(vV (Qko t EE EI) ?_));refine vN (Qkr t underlying57 zeroValue63 Z (by simp[QA,Go.Value.cells])) ?_;refine Go 6 Z (vV (Qkp t EE EI) ?_);exact bu h
def gy(d:CH)(f:CH):AB Int:=AH (Ky n d.Bg f.Bg) λg=>AH (Ky n d.Lo f.Lo) λh=>AH (Ky n d.Hi f.Hi) λj=>AH (KG n [g,h,j]) λm=>AC m
instance kY(d:CH)(f:CH):Ki (gy n d f) 59 [.a (CH.c d),.a (CH.c f)]:=KB func59
def gQ(n:Nat)(g:CH)(d:Int)(f:AA CH):AB (Int×(AA CH)):=AH ((bif 0<=d then AH (CN f d) λm=>(bif (m.Bg==g.Bg)then AH (CN f d) λq=>(bif g.Lo<=q.Hi then AC AE else AH (CN f d) λt=>AC ((i64.wrap (g.Lo-1))==t.Hi))else AC AD)else AC AD):AB Bool) λB=>(bif B then AH (CN f d) λh=>AH (CN f d) λx=>AH (JF f d ({x with Hi:=(if h.Hi<g.Hi then g.Hi else h.Hi):CH})) λy=>AC (d,y)else AH (app f [g]) λj=>AC (i64.wrap ((AI j:Int)-1),j))
instance yJ(t:CH)(g:Int)(J:AA CH):Kq (gQ n t g J) 62 [.a (CH.c t),.p 0 0,.p 1 0] [.c 3 [I g],.c 57 [.o 2 (AI J) 4],.r 63 4 (map CH.c J)] (λ_=>.t []) (λr=>[.c 3 [I r.1],.c 57 [.o 3 (AI r.2) 4],.dead,.r 63 4 (map CH.c r.2)]):=by
 refine Kg 7 func62 Z Z Z Z λr h=>Bd h λL d h=>Cg L [0,1,2,3] [1,2,3] (λL=>[(36,.b L)]) Ze Zf ?_ ?_
 .refine G0 0 Z (GX 30 Z (D 3 Z (DS.is 2 d Z Z Z (λ_ d=>?_) (λ_ d=>?_))))
  .refine D 2 Z ?_;obtain⟨R,y,d⟩:=Yf d;refine DS.v (x:=(.p 2 (toNat g*4))) (Qw y Z EE EI) ?_ (hg:=(gT Z));refine DS.wo (x:=.p 2 (toNat g*4+1)) ?_ ?_
   .exact aY (gT Z) Qp8 Z Wp
   refine DS.v (x:=(I R.Bg)) (Ey Z EK Z (Qu (f:=1) y)) ?_ (hg:=(gT Z));refine D 5 Z (DS.is 12 d Z Z Z (λ_ d=>?_) (λ_ d=>?_))
   .refine D 4 Z ?_;obtain⟨T,B,d⟩:=Yf d;refine DS.v (x:=(.p 2 (toNat g*4))) (Qw B Z EE EI) ?_ (hg:=(gT Z));refine DS.wo (x:=.p 2 (toNat g*4+3)) ?_ ?_
    .exact aY (gT Z) jE Z Wp
    refine DS.v (x:=(I T.Hi)) (Ey Z EK Z (Qu (f:=3) B)) ?_ (hg:=(gT Z));refine D 2 Z (DS.is 21 d Z Z Z (λ_ d=>?_) (λ_ d=>?_))
    .exact bu d
    .refine D 5 Z ?_;obtain⟨V,E,d⟩:=Yf d;refine DS.v (x:=(.p 2 (toNat g*4))) (Qw E Z EE EI) ?_ (hg:=(gT Z));refine DS.wo (x:=.p 2 (toNat g*4+3)) ?_ ?_
     .exact aY (gT Z) jE Z Wp
     refine DS.v (x:=(I V.Hi)) (Ey Z EK Z (Qu (f:=3) E)) ?_ (hg:=(gT Z));exact bu d
   exact bu d
  exact bu d
 refine Cn Z h (λ_ h=>?_) (λ_ h=>?_)
 .refine Gc 1 Z (GX 10 Z (D 4 Z ?_));obtain⟨F,G,h⟩:=Yf h;refine DS.v (x:=(.p 2 (toNat g*4))) (Qw G Z EE EI) ?_;refine DS.wo (x:=.p 2 (toNat g*4+3)) ?_ ?_
  .exact Fp jE Z Wp
  refine DS.v (x:=(I F.Hi)) (Ey Z EK Z (Qu (f:=3) G)) ?_;refine D 2 Z ?_;refine DS.v (x:=(I (if F.Hi<t.Hi then t.Hi else F.Hi))) (CY.max Z Z Z Z) ?_;refine Eg Z (Bd h λW H h=>?_);refine vX (.p 2 (toNat g*4)) (Qw H Z EE EI) ?_;refine Fp jE Z (Bd h λX q h=>?_);refine vU (Ys (e:=CH.c) (k:=4) (f:=3) H q EB Z Z) ?_;refine FE Z ?_;refine Er (Q3 (s:=37) Z (congrArg (λn=>A.s 2 0 n 4) (Yh q))) ?_;refine Er (Q3 (s:=39) Z (congrArg (λn=>A.s 2 0 n 4) (Yh q))) ?_;refine Er (aC (i:=1) Z (congrArg (λnz=>Ci.cells 57 [.o 2 nz 4]) (Yh q))) ?_;refine Go 4 Z ?_;obtain rfl:=Oi h;refine⟨[],_,_,?_,IA.nil Z,Z,Z⟩;refine En (aQ (i:=2) (j:=1) (m:=0) Z Z Z Z Z) ?_;exact Lr [0,1,2,4]
 refine Gc 6 Z (vH (Ek (xs:=[.tmp 50]) (es:=map CH.c [t]) NZ Z Z Z Z Z ⟨Z,trivial⟩ Z Z) ?_);refine FE Z (Bd h λY P h=>vH (YP (e:=CH.c) P NZ EE (Lj (i:=4))) ?_);exact bu h
end Go.Sw
