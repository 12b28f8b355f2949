/- What the functions compute that MatchCrossingSpec reaches, and that their calls refine it (part 2 of 5). -/
import Derived.Test.YthdhdobclejckaaGreatW19Cr1
set_option linter.unusedVariables false
set_option linter.unusedSimpArgs false
set_option maxRecDepth 100000
set_option maxHeartbeats 4000000
namespace Go.Sw
open List(map)
open Int(toNat)
open Go.IntKind(i64 u64 u8)
open Go.Proofs Tryz
def F_iw(n:Nat)(e:Clocks)(d:Int):Option (Ctl Int (Ctl Unit Int)):=(bif decide (d<(e.Segments.length:Int))then(idx e.Segments d).bind λa=>((bif decide (a.Mat<0)then some true else(bif decide (40<=a.Mat)then some true else(bif decide (a.Epoch<0)then some true else(bif decide (255<a.Epoch)then some true else(F_o n a.Anchor).bind λf=>(bif (!f)then some true else(bif decide (0<d)then(idx e.Segments (i64.wrap (d-1))).bind λg=>(F_cj n g a).bind λh=>some (decide (0<=h))else some false)))))):Option Bool).bind λi=>(bif i then some (.done (.done 160))else some (.cont (i64.wrap (d+1))))else some (.done (.cont ())))
def F_jv(n:Nat)(e:Clocks)(a:Int):Option (Ctl Int (Ctl Unit Int)):=(bif decide (a<(e.Far.length:Int))then(idx e.Far a).bind λd=>((bif ((d.length:Int) != (i64.wrap ((e.Segments.length:Int)+1)))then some true else(idx d a).bind λf=>(bif (f != 0)then some true else(F_cq n d).bind λg=>some g)):Option Bool).bind λh=>(bif h then some (.done (.done 160))else some (.cont (i64.wrap (a+1))))else some (.done (.cont ())))
def F_ks(n:Nat)(j:Clocks)(e:Int)(f:Int)(d:List Int)(a:Int):Option (Ctl Int (Ctl Unit (Ctl Int (Ctl Unit (Ctl Int (Ctl Unit Int)))))):=(bif decide (a<(d.length:Int))then(idx d a).bind λg=>(idx j.Far e).bind λh=>(idx h a).bind λi=>(bif decide ((i64.wrap (f+g))<i)then some (.done (.done (.done (.done (.done (.done 160))))))else some (.cont (i64.wrap (a+1))))else some (.done (.cont ())))
def F_la(n:Nat)(j:Clocks)(f:Int)(e:List Int)(a:Int):Option (Ctl Int (Ctl Unit (Ctl Int (Ctl Unit Int)))):=(bif decide (a<(e.length:Int))then(idx e a).bind λg=>(idx j.Far a).bind λh=>(iter (F_ks n j f g h) n 0:Option (Ctl Unit (Ctl Int (Ctl Unit (Ctl Int (Ctl Unit Int)))))).bind λi=>match i with|.cont d=>(some (.cont (i64.wrap (a+1))))|.done d=>some d else some (.done (.cont ())))
def F_ka(n:Nat)(e:Clocks)(a:Int):Option (Ctl Int (Ctl Unit Int)):=(bif decide (a<(i64.wrap ((e.Segments.length:Int)+1)))then(idx e.Far a).bind λf=>(iter (F_la n e a f) n 0:Option (Ctl Unit (Ctl Int (Ctl Unit Int)))).bind λg=>match g with|.cont d=>(some (.cont (i64.wrap (a+1))))|.done d=>some d else some (.done (.cont ())))
def F_ax(n:Nat)(e:Clocks):Option Int:=((bif decide (511<(e.Segments.length:Int))then some true else some ((e.Far.length:Int) != (i64.wrap ((e.Segments.length:Int)+1)))):Option Bool).bind λj=>(bif j then some 160 else(iter (F_iw n e) n 0:Option (Ctl Unit Int)).bind λi=>match i with|.cont f=>((iter (F_jv n e) n 0:Option (Ctl Unit Int)).bind λg=>match g with|.cont a=>((iter (F_ka n e) n 0:Option (Ctl Unit Int)).bind λh=>match h with|.cont d=>(some 0)|.done d=>some d)|.done a=>some a)|.done f=>some f)
theorem k_ax(n:Nat)(a1:Clocks):Ks (F_ax n a1) 64 [.agg (Clocks.c a1)] [] (λr=>I r):=by
 refine Kg 10 func64 Z Z Z Z λr h=>Lg 5 Z Z (Bd h λb2 z h=>Ct b2 [0] [1,3] (λb2=>[(25,.bool b2)]) Ze Zf ?_ (λenv H m=>?_))
 .refine G0 4 Z (Is 18 z Z (λbb z=>?_) (λbb z=>?_))
  .exact Gl 8 Z z [0]
  .exact Go 2 Z (Lm Z (Gl 5 Z z [0]))
 refine Gx 1 Z (Ef m (Cn Z h (λbc h=>?_) (λbc h=>?_)))
 .exact QC 7 Z h 2 []
 refine Gc 7 Z (Lg 3 Z Z (Bd h λbd be h=>CtE (b:=bd) [0] [1,3] Ze Ze Zf ?_ (λbl env H p m=>?_)))
 .refine G0 1 Z (Lp [0] [1,3,27,28] (λaf=>[(29,I af)]) Ze be Zf (Lr [0]) λaf cd k B=>?_);refine G0 6 Z (QV Z k (λag k=>?_) (λag k=>?_))
  .exact Gc 2 Z (Qk k (Gx 1 Z (YC B k Z (Lr [0]))))
  refine Gc 7 Z (Bd k λce ah k=>Iz ah Z (Go 7 Z (Bd k λE a k=>Ct E [0] [1,3,27,28,29] (λE=>[(72,.bool E)]) Ze Zf ?_ (λenv H m=>?_))))
  .refine G0 0 Z (DSs 35 Z (D 4 Z (DS.is 3 a Z Z Z (λai a=>?_) (λai a=>?_))))
   .exact D 31 Z (Eh Z (Gl 5 Z a [0]))
   .refine D 5 Z (DS.is 8 a Z Z Z (λaj a=>?_) (λaj a=>?_))
    .exact D 26 Z (Eh Z (Gl 5 Z a [0]))
    .refine D 5 Z (DS.is 13 a Z Z Z (λak a=>?_) (λak a=>?_))
     .exact D 21 Z (Eh Z (Gl 5 Z a [0]))
     .refine D 5 Z (DS.is 18 a Z Z Z (λal a=>?_) (λal a=>?_))
      .exact D 16 Z (Eh Z (Gl 5 Z a [0]))
      .refine D 2 Z ?_;refine Dz [] a (k_o _ _) Z λcf bm a=>D 3 Z (DS.is 24 a Z Z Z (λam a=>?_) (λam a=>?_))
       .exact D 10 Z (Eh Z (Gl 5 Z a [0]))
       .refine D 3 Z (DS.is 27 a Z Z Z (λan a=>?_) (λan a=>?_))
        .refine D 4 Z ?_;obtain⟨s,ao,a⟩:=Yh a;refine DS.v (x:=(.rp [I s.Mat,I s.Epoch,I s.Anchor])) (Js (e:=Segment.c) (l:=a1.Segments) (v:=s) ao runUnderlying34 sizeOf155) ?_ (hg:=(gT Z));exact D 2 Z (Eh Z (Cz [] a (k_cj _ _ _) Z λcg bn a=>Gl 4 Z a [0]))
        .exact D 7 Z (Eh Z (Gl 5 Z a [0]))
  refine Gx 1 Z (Ef m (Cn Z k (λaq k=>?_) (λaq k=>?_)))
  .refine Gc 8 Z (Qp k ?_);obtain rfl:=Oj B k;exact Gx 1 Z (Ql (Gx 1 Z (Rt h 2 [])))
  exact Gc 7 Z (Qi k (Lr [0]))
 subst p;refine Gx 1 Z (Ef m (Gc 5 Z (Lg 3 Z Z (Bd h λar au h=>CtE (b:=ar) [0] [1,3] Ze Ze Zf ?_ (λbg env H p m=>?_)))))
 .refine G0 1 Z (Lp [0] [1,3,75,76] (λF=>[(77,I F)]) Ze au Zf (Lr [0]) λF bo f t=>?_);refine G0 6 Z (QV Z f (λM f=>?_) (λM f=>?_))
  .exact Gc 2 Z (Qk f (Gx 1 Z (YC t f Z (Lr [0]))))
  refine Gc 7 Z (Bd f λbp N f=>Iz N Z (Go 6 Z (Bd f λq i f=>Ct q [0] [1,3,75,76,77] (λq=>[(97,.bool q)]) Ze Zf ?_ (λenv H m=>?_))))
  .refine G0 2 Z (Lg 4 Z Z (Is 87 i Z (λO i=>?_) (λO i=>?_)))
   .exact Gl 11 Z i [0]
   .refine Go 2 Z (Bd i λbq P i=>Iz P Z (Go 4 Z (Is 94 i Z (λQ i=>?_) (λQ i=>?_))))
    .exact Gl 4 Z i [0]
    .exact Go 1 Z (Cz [] i (k_cq _ _) Z λbr bh i=>Gl 2 Z i [0])
  refine Gx 1 Z (Ef m (Cn Z f (λR f=>?_) (λR f=>?_)))
  .refine Gc 8 Z (Qp f ?_);obtain rfl:=Oj t f;exact Gx 1 Z (Ql (Gx 1 Z (Rt h 2 [])))
  exact Gc 7 Z (Qi f (Lr [0]))
 subst p;refine Gx 1 Z (Ef m (Gc 8 Z (Bd h λav aw h=>Jn (b:=av) [] [] Ze Ze Zf ?_ (λbi p=>?_))))
 .refine G0 1 Z (Lp [0] [1,100] (λG=>[(101,I G)]) Ze aw Zf (Lr [0]) λG bs j u=>?_);refine G0 6 Z (QV Z j (λT j=>?_) (λT j=>?_))
  .exact Gc 2 Z (Qk j (Gx 1 Z (YC u j Z (Lr []))))
  refine Gc 15 Z (Bd j λbu V j=>Iz V Z (Go 1 Z (Lg 3 Z Z (Bd j λax ay j=>CtE (b:=ax) [0] [1,100,101] Ze Ze Zf ?_ (λbj env H p m=>?_)))))
  .refine G0 1 Z (Lp [0] [1,8,100,101,108,109] (λJ=>[(110,I J)]) Ze ay Zf (Lr [0]) λJ bv g w=>?_);refine G0 6 Z (QV Z g (λW g=>?_) (λW g=>?_))
   .exact Gc 2 Z (Qk g (Gx 1 Z (YC w g Z (Lr [0]))))
   refine Gc 7 Z (Bd g λbw X g=>Iz X Z (Go 10 Z (Bd g λbx Y g=>Iz Y Z (Go 1 Z (Lg 3 Z Z (Bd g λaz ba g=>CtE (b:=az) [0] [1,8,100,101,108,109,110] Ze Ze Zf ?_ (λbk env H p m=>?_)))))))
   .refine G0 1 Z (Lp [0] [1,8,10,100,101,108,109,110,119,120] (λL=>[(121,I L)]) Ze ba Zf (Lr [0]) λL bz d y=>?_);refine G0 6 Z (QV Z d (λaa d=>?_) (λaa d=>?_))
    .exact Gc 2 Z (Qk d (Gx 1 Z (YC y d Z (Lr [0]))))
    refine Gc 7 Z (Bd d λca ab d=>Iz ab Z (Go 10 Z (Bd d λcb ac d=>Iz ac Z (Go 2 Z (Bd d λcc ad d=>Iz ad Z (Go 7 Z (Cn Z d (λae d=>?_) (λae d=>?_))))))))
    .refine Gc 8 Z (Qp d ?_);obtain rfl:=Oj y d;refine Gx 1 Z (Ql (Gx 2 Z (Qp g ?_)));obtain rfl:=Oj w g;refine Gx 1 Z (Ql (Gx 2 Z (Qp j ?_)));obtain rfl:=Oj u j;exact Gx 1 Z (Ql (Gx 1 Z (Rt h 2 [])))
    exact Gc 7 Z (Qi d (Lr [0]))
   subst p;exact Gx 2 Z (Ef m (Gc 4 Z (Qi g (Lr [0]))))
  subst p;exact Gx 2 Z (Ef m (Gc 4 Z (Qi j (Lr [0]))))
 subst p;exact QC 6 Z h 2 []
def F_bp(n:Nat)(a:Int):Option Bool:=((bif decide ((-1099511627776)<=a)then some (decide (a<=1099511627776))else some false):Option Bool).bind λd=>some d
theorem k_bp(n:Nat)(e:Int):Ks (F_bp n e) 66 [I e] [] (λr=>.bool r):=by
 refine Kg 6 func66 Z Z Z Z λr h=>Bd h λd a h=>Cg d [] [] (λd=>[(2,.bool d)]) Ze Zf ?_ ?_
 .refine G0 4 Z (Is 5 a Z (λf a=>?_) (λf a=>?_))
  iterate 2 exact Gl 5 Z a []
 exact QC 1 Z h 2 []
def F_cc(n:Nat)(a:Hand):Option Bool:=((bif decide (a.Hi<a.Lo)then some true else(F_bp n a.Lo).bind λe=>(bif (!e)then some true else(F_bp n a.Hi).bind λd=>(bif (!d)then some true else some (decide (a.Position<0))))):Option Bool).bind λf=>some f
theorem k_cc(n:Nat)(g:Hand):Ks (F_cc n g) 65 [.agg (Hand.c g)] [] (λr=>.bool r):=by
 refine Kg 7 func65 Z Z Z Z λr h=>Bd h λd a h=>Cg d [] [] (λd=>[(2,.bool d)]) Ze Zf ?_ ?_
 .refine G0 7 Z (Is 8 a Z (λi a=>?_) (λi a=>?_))
  .exact Gl 18 Z a []
  .refine Go 2 Z (Cz [] a (k_bp _ _) Z λm k a=>Go 3 Z (Is 14 a Z (λe a=>?_) (λe a=>?_)))
   .exact Gl 12 Z a []
   .refine Go 2 Z (Cz [] a (k_bp _ _) Z λl j a=>Go 3 Z (Is 20 a Z (λf a=>?_) (λf a=>?_)))
    iterate 2 exact Gl 6 Z a []
 exact QC 1 Z h 2 []
def F_lr(n:Nat)(d:List Hand)(a:Int):Option (Ctl Int (Ctl Unit Int)):=(bif decide (a<(d.length:Int))then(idx d a).bind λe=>(F_cc n e).bind λf=>(bif f then some (.done (.done a))else some (.cont (i64.wrap (a+1))))else some (.done (.cont ())))
def F_im(n:Nat)(e:List Hand):Option Int:=(iter (F_lr n e) n 0:Option (Ctl Unit Int)).bind λd=>match d with|.cont a=>(some (-1))|.done a=>some a
theorem k_im(n:Nat)(j:List Hand):Ks (F_im n j) 118 [.rsl 4 (map Hand.c j),.fn (.func 65) [] []] [] (λr=>I r):=by
 refine Kg 9 func118 Z Z Z Z λr h=>Lg 3 Z Z (Bd h λk l h=>Jn (b:=k) [] [] Ze Ze Zf ?_ (λp m=>?_))
 .refine G0 1 Z (Lp [] [0,1,7] (λe=>[(8,I e)]) Ze l Zf (Lr []) λe s a d=>?_);refine G0 6 Z (QV Z a (λf a=>?_) (λf a=>?_))
  .exact Gc 2 Z (Qk a (Gx 1 Z (YC d a Z (Lr []))))
  refine Gc 15 Z (Bd a λt g a=>Iz g Z (Go 1 Z (Cz [] a (k_cc _ _) Z λu q a=>Go 2 Z (Cn Z a (λi a=>?_) (λi a=>?_)))))
  .refine Gc 9 Z (Qp a ?_);obtain rfl:=Oj d a;exact Gx 1 Z (Ql (Gx 1 Z (Rt h 4 [])))
  exact Gc 7 Z (Qi a (Lr []))
 subst m;exact QC 6 Z h 4 []
def F_kf(n:Nat)(a:List Hand):Option Bool:=(F_im n a).bind λd=>some (decide (0<=d))
theorem k_kf(n:Nat)(a:List Hand):Ks (F_kf n a) 67 [.rsl 4 (map Hand.c a),.fn (.func 65) [] []] [] (λr=>.bool r):=by
 exact Kg 9 func67 Z Z Z Z λr h=>Cz [] h (k_im _ _) Z λe d h=>Gt 5 Z h 4 []
def F_bu(n:Nat)(a:Course)(d:Int):Option (Distance×Int):=(F_d n a).bind λe=>(bif (e != 0)then some (Uo,e)else((bif decide (d<0)then some true else some (decide ((a.Distances.length:Int)<=d))):Option Bool).bind λf=>(bif f then some (Uo,90)else(idx a.Distances d).bind λg=>some (g,0)))
theorem k_bu(n:Nat)(e:Course)(f:Int):Kq (F_bu n e f) 78 [.agg (Course.c e),I f] [] (λr=>.tup [.agg (Distance.c r.1),I r.2]) (λr=>[.cells 116 (Distance.c r.1)]):=by
 refine Kg 11 func78 Z Z Z Z λr h=>Cz [] h (k_d _ _) Z λm l h=>Go 9 Z (Cn Z h (λg h=>?_) (λg h=>?_))
 .refine Gc 10 Z ?_;obtain rfl:=Oi h;exact Rx [1] [4,5] Z (Qg Z Z (Qif.cons (Qf isAgg116 E4 Z Z Z) (Qif.cons QcX.tmp Qif.nil))) ⟨Z,Z⟩
 refine Gc 4 Z (Bd h λd a h=>Cg d [0,1] [1,2,4] (λd=>[(21,.bool d)]) Ze Zf ?_ ?_)
 .refine G0 4 Z (Is 15 a Z (λi a=>?_) (λi a=>?_))
  .exact Gl 7 Z a [0,1]
  .exact Go 3 Z (Lm Z (Gl 3 Z a [0,1]))
 refine Cn Z h (λj h=>?_) (λj h=>?_)
 .refine Gc 9 Z ?_;obtain rfl:=Oi h;exact Rx [1] [4,5] Z (Qg Z Z (Qif.cons (Qf isAgg116 E4 Z Z Z) (Qif.cons QcX.tmp Qif.nil))) ⟨Z,Z⟩
 refine Gc 7 Z (Bd h λp k h=>Iz k Z (Go 6 Z ?_));obtain rfl:=Oi h;exact Rx [1] [4,5] Z (Qg Z Z (Qif.cons (Qf isAgg116 E4 Z Z Z) (Qif.cons QcX.tmp Qif.nil))) ⟨Z,Z⟩
def F_fp(n:Nat)(rec138:(List Part)->(List Int)->Option (List Int))(d:Part)(a:(List Int)×Int):Option (Ctl ((List Int)×Int) (List Int)):=(bif decide (a.2<d.Laps)then(rec138 d.Parts a.1).bind λe=>some (.cont (e,i64.wrap (a.2+1)))else some (.done a.1))
def F_jt(n:Nat)(e:List Part)(rec138:(List Part)->(List Int)->Option (List Int))(a:(List Int)×Int):Option (Ctl ((List Int)×Int) (List Int)):=(bif decide (a.2<(e.length:Int))then(idx e a.2).bind λd=>((bif (d.Laps==0)then(app a.1 [d.Mat]).bind λf=>some f else some a.1):Option (List Int)).bind λg=>(iter (F_fp n rec138 d) n (g,0):Option (List Int)).bind λh=>some (.cont (h,i64.wrap (a.2+1)))else some (.done a.1))
def B_n(rec138:(List Part)->(List Int)->Option (List Int))(n:Nat)(d:List Part)(e:List Int):Option (List Int):=(iter (F_jt n d rec138) n (e,0):Option (List Int)).bind λa=>some a
theorem Qa6(rec138:(List Part)->(List Int)->Option (List Int))(u:∀(w:List Part) (p:List Int) (r:List Int),rec138 w p=some r->C prog 124 [.rsl 3 (map Part.enc w),.ptr 0 0,.ptr 1 0] [.cells 44 [.osl 2 0 p.length 1],.cells 198 [.fn (.func 124) [] [.ptr 0 0,.ptr 1 0]],.row 3 1 (map (Qe .i64) p)] (RQ (λ_=>.tup []) (λr=>[.cells 44 [.osl 3 0 r.length 1],.cells 198 [.fn (.func 124) [] [.ptr 0 0,.ptr 1 0]],.dead,.row 3 1 (map (Qe .i64) r)]) r))(n:Nat)(w:List Part)(p:List Int)(r:List Int)(h:B_n rec138 n w p=some r):C prog 124 [.rsl 3 (map Part.enc w),.ptr 0 0,.ptr 1 0] [.cells 44 [.osl 2 0 p.length 1],.cells 198 [.fn (.func 124) [] [.ptr 0 0,.ptr 1 0]],.row 3 1 (map (Qe .i64) p)] (RQ (λ_=>.tup []) (λr=>[.cells 44 [.osl 3 0 r.length 1],.cells 198 [.fn (.func 124) [] [.ptr 0 0,.ptr 1 0]],.dead,.row 3 1 (map (Qe .i64) r)]) r):=by
 refine QW func124 Z Z Z ?_;refine G0 3 Z (Lg 3 Z Z (Bd h λq L h=>Ct q [0,1,2,0] [] Ze (λq=>[(0,.cells 44 [.osl 3 0 q.length 1]),(2,.dead),(3,.row 3 1 (map (Qe .i64) q))]) Zf ?_ (λenv H f=>?_)))
 .refine G0 1 Z (Lp [0,1,2,2] [1,2,6,7] (λk=>[(8,I k.2)]) (λk=>[(0,.cells 44 [.osl 3 0 k.1.length 1]),(2,.dead),(3,.row 3 1 (map (Qe .i64) k.1))]) L Zf ?_ ?_)
  .refine Eo (Qbi (i:=2) (j:=0) (m:=0) Z Z Z Z Z) ?_;exact Lr [0,1,2,3]
  intro k O a y;refine G0 6 Z (QV Z a (λz a=>?_) (λz a=>?_))
  .exact Gc 2 Z (Qk a (Gx 1 Z (cQo y a (Lr [0,1,2,3]))))
  refine Gc 6 Z (Bd a λx B a=>IzE B (QF x) Z (Go 13 Z (Bd a λs g a=>Ct s [0,1,2,0,4] [1,2,5,6,7,8] Ze (λs=>[(0,.cells 44 [.osl 3 0 s.length 1]),(3,.row 3 1 (map (Qe .i64) s))]) Zf ?_ (λenv H f=>?_))))
  .refine G0 0 Z (Cn Z g (λE g=>?_) (λE g=>?_))
   .refine Gc 4 Z (vH (El (xs:=[.tmp 17]) (es:=map (Qe .i64) [x.Mat]) QE Z Z Z Z Z ⟨Z,trivial⟩ Z Z) ?_);refine FE Z (Bd g λP F g=>vH (QR (e:=(Qe .i64)) F QE EB (YP (i:=5))) ?_);exact FE Z (Gl 2 Z g [0,1,2,6,4])
   exact YJ 1 Z g [0,1,2,3,4]
  refine Gx 1 Z (Ef f (Gc 7 Z (Bd a λt M a=>Ct t [0,1,2,3] [1,2,6,7,8] Ze (λt=>[(0,.cells 44 [.osl 3 0 t.length 1]),(3,.row 3 1 (map (Qe .i64) t))]) Zf ?_ (λenv H f=>?_))))
  .refine G0 1 Z (Lp [0,1,2,3,4] [1,2,5,6,7,8,21] (λl=>[(22,I l.2)]) (λl=>[(0,.cells 44 [.osl 3 0 l.1.length 1]),(3,.row 3 1 (map (Qe .i64) l.1))]) M Zf (Lr [0,1,2,3,4]) λl Q d G=>?_);refine G0 6 Z (QV Z d (λJ d=>?_) (λJ d=>?_))
   .exact Gc 2 Z (Qk d (Gx 1 Z (cQo G d (Lr [0,1,2,3]))))
   exact Gc 8 Z (Cd [0,1,3] d (u _ _) Z λR N d=>Fg 7 Z Z (Qi d (Lr [0,1,2,5,4])))
  exact Gx 2 Z (Ef f (Gc 4 Z (Qi a (Lr [0,1,2,3]))))
 obtain rfl:=Oi h;have f:=f;refine⟨[],_,_,?_,QbW.nil Z,Z,Z⟩;refine Eo f ?_;exact Lr [0,1,2,3]
def F_n:Nat->(List Part)->(List Int)->Option (List Int)
  |0=>λ_ _=>none
  |n+1=>B_n (F_n n) n
theorem k_n(n:Nat):∀(d:List Part) (a:List Int) (r:List Int),F_n n d a=some r->C prog 124 [.rsl 3 (map Part.enc d),.ptr 0 0,.ptr 1 0] [.cells 44 [.osl 2 0 a.length 1],.cells 198 [.fn (.func 124) [] [.ptr 0 0,.ptr 1 0]],.row 3 1 (map (Qe .i64) a)] (RQ (λ_=>.tup []) (λr=>[.cells 44 [.osl 3 0 r.length 1],.cells 198 [.fn (.func 124) [] [.ptr 0 0,.ptr 1 0]],.dead,.row 3 1 (map (Qe .i64) r)]) r):=by
  induction n with
  |zero=>intro d a r h;cases h
  |succ n ih=>intro d a r h;exact Qa6 _ ih n d a r h
def F_ev(n:Nat)(a:List Part):Option (List Int):=(F_n n a ([]:List Int)).bind λd=>some d
theorem k_ev(n:Nat)(a:List Part):Kq (F_ev n a) 79 [.rsl 3 (map Part.enc a)] [] (λr=>.osl 0 0 r.length 1) (λr=>[.row 3 1 (map (Qe .i64) r),.cells 44 [.osl 0 0 r.length 1]]):=by
 refine Kg 20 func79 Z Z Z Z λr h=>?_;refine Eu (YK (i:=0) (m:=0) (t:=3) (k:=1) Z Z Z) ?_;refine QlC (H:=[.cells 44 [.osl 2 0 (([]:List Int).length) 1],.cells 198 [.fn (.func 124) [] [.ptr 0 0,.ptr 1 0]],.row 3 1 (map (Qe .i64) ([]:List Int))]) Z ?_;refine Cd [0,1,2] h (k_n _ _ _) Z λe d h=>Fg 9 Z Z ?_;obtain rfl:=Oi h;exact Rx [3,0] [2] Z (QL Z (Q4 isAgg44 Z Z)) ⟨Z,Z⟩
def F_is(n:Nat)(a:Int)(d:Int):Option Unit:=some ()
theorem k_is(n:Nat)(a:Int)(d:Int):Ks (F_is n a d) 128 [.int .u64 a,.int .u64 d] [] (λ_=>.tup [.int .u64 (u64.wrap ((u64.wrap ((u64.wrap ((Yl .u64 a 32)*(Yl .u64 d 32)))+(Yl .u64 (u64.wrap ((u64.wrap ((Yl .u64 a 32)*(Ym .u64 d 4294967295)))+(Yl .u64 (u64.wrap ((Ym .u64 a 4294967295)*(Ym .u64 d 4294967295))) 32))) 32)))+(Yl .u64 (u64.wrap ((Ym .u64 (u64.wrap ((u64.wrap ((Yl .u64 a 32)*(Ym .u64 d 4294967295)))+(Yl .u64 (u64.wrap ((Ym .u64 a 4294967295)*(Ym .u64 d 4294967295))) 32))) 4294967295)+(u64.wrap ((Ym .u64 a 4294967295)*(Yl .u64 d 32))))) 32))),.int .u64 (u64.wrap (a*d))]):=by
 refine Kg 9 func128 Z Z Z Z λr h=>?_;refine vX (.int .u64 (Ym .u64 a 4294967295)) (OpV.and Z Z Z) ?_;refine Go 6 Z ?_;refine vX (.int .u64 (Yl .u64 a 32)) (OpV.shr Z Z Z (by decide)) ?_;refine Go 6 Z ?_;refine vX (.int .u64 (Ym .u64 d 4294967295)) (OpV.and Z Z Z) ?_;refine Go 6 Z ?_;refine vX (.int .u64 (Yl .u64 d 32)) (OpV.shr Z Z Z (by decide)) ?_;refine Go 17 Z ?_;refine vV (x:=(.int .u64 (Yl .u64 (u64.wrap ((Ym .u64 a 4294967295)*(Ym .u64 d 4294967295))) 32))) (OpV.shr Z Z Z (by decide)) ?_;refine Go 7 Z ?_;refine vV (x:=(.int .u64 (Ym .u64 (u64.wrap ((u64.wrap ((Yl .u64 a 32)*(Ym .u64 d 4294967295)))+(Yl .u64 (u64.wrap ((Ym .u64 a 4294967295)*(Ym .u64 d 4294967295))) 32))) 4294967295))) (OpV.and Z Z Z) ?_;refine Go 6 Z ?_;refine vV (x:=(.int .u64 (Yl .u64 (u64.wrap ((u64.wrap ((Yl .u64 a 32)*(Ym .u64 d 4294967295)))+(Yl .u64 (u64.wrap ((Ym .u64 a 4294967295)*(Ym .u64 d 4294967295))) 32))) 32))) (OpV.shr Z Z Z (by decide)) ?_;refine Go 21 Z ?_;refine vV (x:=(.int .u64 (Yl .u64 (u64.wrap ((Ym .u64 (u64.wrap ((u64.wrap ((Yl .u64 a 32)*(Ym .u64 d 4294967295)))+(Yl .u64 (u64.wrap ((Ym .u64 a 4294967295)*(Ym .u64 d 4294967295))) 32))) 4294967295)+(u64.wrap ((Ym .u64 a 4294967295)*(Yl .u64 d 32))))) 32))) (OpV.shr Z Z Z (by decide)) ?_;refine Go 13 Z ?_;obtain rfl:=Oi h;exact R2 4 5 Z Z (Lr [])
def F_il(n:Nat)(a:Int)(d:Int):Option Unit:=(F_is n a d).bind λe=>some ()
theorem k_il(n:Nat)(a:Int)(d:Int):Ks (F_il n a d) 81 [.int .u64 a,.int .u64 d] [] (λ_=>.tup [.int .u64 (u64.wrap ((u64.wrap ((u64.wrap ((Yl .u64 a 32)*(Yl .u64 d 32)))+(Yl .u64 (u64.wrap ((u64.wrap ((Yl .u64 a 32)*(Ym .u64 d 4294967295)))+(Yl .u64 (u64.wrap ((Ym .u64 a 4294967295)*(Ym .u64 d 4294967295))) 32))) 32)))+(Yl .u64 (u64.wrap ((Ym .u64 (u64.wrap ((u64.wrap ((Yl .u64 a 32)*(Ym .u64 d 4294967295)))+(Yl .u64 (u64.wrap ((Ym .u64 a 4294967295)*(Ym .u64 d 4294967295))) 32))) 4294967295)+(u64.wrap ((Ym .u64 a 4294967295)*(Yl .u64 d 32))))) 32))),.int .u64 (u64.wrap (a*d))]):=by
 refine Kg 14 func81 Z Z Z Z λr h=>Cd [] h (k_is _ _ _) Z λf e h=>Fg 16 Z Z ?_;obtain rfl:=Oi h;exact R2 4 5 Z Z (Lr [])
def F_gd(n:Nat)(a:(List Int)×Int):Option (Ctl ((List Int)×Int) (List Int)):=(bif decide (a.2<(a.1.length:Int))then(slc a.1 a.2 (a.1.length:Int)).bind λf=>(slc a.1 0 a.2).bind λd=>(cpy a.1 a.2 (a.1.length:Int) d).bind λe=>some (.cont (e,i64.wrap (a.2+((min d.length ((a.1.length:Int).toNat-a.2.toNat):Nat):Int))))else some (.done a.1))
def F_bs(n:Nat)(a:List Int)(d:Int):Option (List Int):=((bif decide (d<0)then none else some ()):Option Unit).bind λj=>(F_il n (u64.wrap (a.length:Int)) (u64.wrap d)).bind λk=>((bif decide (0<(u64.wrap ((u64.wrap ((u64.wrap ((Yl .u64 (u64.wrap (a.length:Int)) 32)*(Yl .u64 (u64.wrap d) 32)))+(Yl .u64 (u64.wrap ((u64.wrap ((Yl .u64 (u64.wrap (a.length:Int)) 32)*(Ym .u64 (u64.wrap d) 4294967295)))+(Yl .u64 (u64.wrap ((Ym .u64 (u64.wrap (a.length:Int)) 4294967295)*(Ym .u64 (u64.wrap d) 4294967295))) 32))) 32)))+(Yl .u64 (u64.wrap ((Ym .u64 (u64.wrap ((u64.wrap ((Yl .u64 (u64.wrap (a.length:Int)) 32)*(Ym .u64 (u64.wrap d) 4294967295)))+(Yl .u64 (u64.wrap ((Ym .u64 (u64.wrap (a.length:Int)) 4294967295)*(Ym .u64 (u64.wrap d) 4294967295))) 32))) 4294967295)+(u64.wrap ((Ym .u64 (u64.wrap (a.length:Int)) 4294967295)*(Yl .u64 (u64.wrap d) 32))))) 32))))then some true else some (decide (9223372036854775807<(u64.wrap ((u64.wrap (a.length:Int))*(u64.wrap d)))))):Option Bool).bind λh=>((bif h then none else some ()):Option Unit).bind λi=>(mk (i64.wrap (u64.wrap ((u64.wrap (a.length:Int))*(u64.wrap d)))) 0).bind λe=>(cpy e 0 (e.length:Int) a).bind λf=>(iter (F_gd n) n (f,((min a.length e.length:Nat):Int)):Option (List Int)).bind λg=>some g
theorem k_bs(n:Nat)(w:List Int)(y:Int):Kq (F_bs n w y) 37 [.rsl 1 (map (Qe .i64) w),I y] [] (λr=>.osl 0 0 r.length 1) (λr=>[.row 3 1 (map (Qe .i64) r)]):=by
 refine Kg 12 func37 Z Z Z Z λr h=>Bd h λQ q h=>Ct Q [] [0,1] Ze Ze Zf ?_ (λenv H k=>?_)
 .refine G0 0 Z (Cn Z q (λJ q=>?_) (λJ q=>?_))
  .cases q
  exact YJ 1 Z q []
 refine Gx 1 Z (Ef k (Gc 3 Z (Lm Z ?_)));refine vX (.int .u64 (u64.wrap (w.length:Int))) (Qe4 Z EX Gm Z) ?_;refine Go 1 Z ?_;refine vX (.int .u64 (u64.wrap y)) (Qe4 Z EX Gm Z) ?_;refine Cd [] h (k_il _ _ _) Z λY R h=>Fg 9 Z Z (Bd h λz t h=>Ct z [] [0,6] (λz=>[(26,.bool z)]) Ze Zf ?_ (λenv H k=>?_))
 .refine G0 4 Z (Is 23 t Z (λL t=>?_) (λL t=>?_))
  iterate 2 exact Gl 4 Z t []
 refine Gx 1 Z (Ef k (Bd h λM m h=>Ct M [] [0,6] Ze Ze Zf ?_ (λenv H k=>?_)))
 .refine G0 0 Z (Cn Z m (λB m=>?_) (λB m=>?_))
  .cases m
  exact YJ 1 Z m []
 refine Gx 1 Z (Ef k (Gc 3 Z ?_));refine vV (x:=(I (i64.wrap (u64.wrap ((u64.wrap (w.length:Int))*(u64.wrap y)))))) (Qe4 Z Gm EX Z) ?_;refine Bd h λT E h=>vH (Qi1 (e:=(Qe .i64)) (zv:=0) (a:=(I 0)) E QE EN Ep Z Z Z Z) ?_;refine Fg 7 Z Z (Bd h λV j h=>vH (Qj5 (e:=(Qe .i64)) j EB EC QmQ) ?_);refine FE Z ?_;refine Eu (Q1 (s:=7) Z (congrArg (λn=>A.osl 0 0 n 1) (QeT j))) ?_;refine Eu (Q1 (s:=30) Z (congrArg (λn=>A.osl 0 0 n 1) (QeT j))) ?_;refine Eu (Q1 (s:=31) Z (congrArg (λn=>A.osl 0 0 n 1) (QeT j))) ?_;refine Go 4 Z (Bd h λp N h=>Cg p [0] [] (λp=>[(7,.osl 0 0 p.length 1)]) (λp=>[(0,.row 3 1 (map (Qe .i64) p))]) Zf ?_ ?_)
 .refine G0 1 Z (Lp [0] [] (λd=>[(7,.osl 0 0 d.1.length 1),(8,I d.2)]) (λd=>[(0,.row 3 1 (map (Qe .i64) d.1))]) N Zf (Lr [0]) λd W f F=>?_);refine G0 9 Z (QV Z f (λG f=>?_) (λG f=>?_))
  .exact Gc 2 Z (Qk f (Gx 1 Z (cQo F f (Lr [0]))))
  refine Gc 3 Z (DKs 8 [7] [(0,0,1),(0,0,0),(0,0,0),(0,0,0),(0,0,0),(0,0,0),(0,0,0),(1,0,0)] (by kernel_rfl) (Dk 3 Z ?_));obtain⟨X,g,f⟩:=Yh f;refine DK.wo (x:=.osl 0 (0+toNat d.2) (toNat (d.1.length:Int)-toNat d.2) 1) ?_ ?_
  .refine vX (.osl 0 (0+toNat d.2) (toNat (d.1.length:Int)-toNat d.2) 1) (Qb7 (l:=d.1) g EB EC (.inr ⟨_,Z,Z⟩) (.inl ⟨Z,Z⟩)) ?_;exact Wp
  refine Dk 2 Z ?_;obtain⟨O,u,f⟩:=Yh f;refine DK.wo (x:=.osl 0 (0+toNat 0) (toNat d.2-toNat 0) 1) ?_ ?_
  .refine vX (.osl 0 (0+toNat 0) (toNat d.2-toNat 0) 1) (Qb7 (l:=d.1) u EB EC (.inl ⟨Z,Z⟩) (.inr ⟨_,Z,Z⟩)) ?_;exact Wp
  obtain⟨P,i,f⟩:=Yh f;refine DK.op (x:=I ((min O.length ((d.1.length:Int).toNat-d.2.toNat):Nat):Int)) (X1:=[.row 3 1 (map (Qe .i64) P)]) ?_ ?_
  .refine vH (Qj6 (e:=(Qe .i64)) g i EB EC (QmR (b:=0) u)) ?_;exact FE Z Wp
  refine DK.done Z Z ?_;refine Eu (Q1 (s:=7) Z (congrArg (λn=>A.osl 0 0 n 1) (Qd0 g i))) ?_;refine Eu (Q1 (s:=35) Z (congrArg (λn=>A.osl 0 0 n 1) (Qd0 g i))) ?_;refine Eu (Q1 (s:=39) Z (congrArg (λn=>A.osl 0 0 n 1) (Qd0 g i))) ?_;refine Eu (Q1 (s:=42) Z (congrArg (λn=>A.osl 0 0 n 1) (Qd0 g i))) ?_;exact Go 4 Z (Qi f (Lr [0]))
 exact QC 7 Z h 4 [0]
def Q_course_build(d:Course)(e:Int)(f:Int):U_course_build->Go.Sw.A->Qd->Prop
  |.c0 x,a,H=>a=.tup [.agg [.rsl 1 (map (Qe .i64) []),.nilm],I x]/\H=[.cells 97 [.rsl 1 (map (Qe .i64) []),.nilm]]
  |.c1 x,a,H=>a=.tup [.agg [.rsl 1 (map (Qe .i64) []),.nilm],I 90]/\H=[.cells 97 [.rsl 1 (map (Qe .i64) []),.nilm]]
  |.c2 x,a,H=>a=.tup [.agg [.osl 0 0 x.length 1,.nilm],I 2]/\H=[.row 3 1 (map (Qe .i64) x),.cells 97 [.osl 0 0 x.length 1,.nilm]]
  |.c3 x,a,H=>a=.tup [.agg [.osl 0 0 x.1.length 1,.map 1],I 0]/\H=[.row 3 1 (map (Qe .i64) x.1),.map (Qj (λx=>A.agg (Ub.c x)) (λx=>A.agg (Leg.c x)) x.2),.cells 97 [.osl 0 0 x.1.length 1,.map 1]]
def F_fk(n:Nat)(g:Distance×Int)(d:List Int)(a:Int):Option (Ctl Int Int):=((bif decide (0<a)then(idx d a).bind λe=>some (e != g.1.Extra)else some false):Option Bool).bind λf=>(bif f then some (.cont (i64.wrap (a-1)))else some (.done a))
def F_jo(n:Nat)(e:Course)(a:(List (Ub×Leg))×Int):Option (Ctl ((List (Ub×Leg))×Int) (List (Ub×Leg))):=(bif decide (a.2<(e.Legs.length:Int))then(idx e.Legs a.2).bind λd=>(some (Q3 a.1 ({from_:=d.From,to_:=d.To:Ub}) d)).bind λf=>some (.cont (f,i64.wrap (a.2+1)))else some (.done a.1))
def F_ch(n:Nat)(f:Course)(l:Int)(e:Int):Option U_course_build:=(F_bu n f l).bind λd=>(bif (d.2 != 0)then some (U_course_build.c0 d.2)else((bif decide (e<0)then some true else(bif decide (0<e)then some (decide (d.1.Extra<0))else some false)):Option Bool).bind λm=>(bif m then some (U_course_build.c1 ())else(F_ev n d.1.Route).bind λa=>(bif decide ((i64.wrap (256-(a.length:Int)))<e)then some (U_course_build.c2 a)else((bif decide (0<e)then(iter (F_fk n d a) n (i64.wrap ((a.length:Int)-1)):Option Int).bind λg=>(F_bs n [d.1.Extra] e).bind λh=>(QkK a (i64.wrap (g+1)) h).bind λi=>some i else some a):Option (List Int)).bind λj=>(iter (F_jo n f) n ([],0):Option (List (Ub×Leg))).bind λk=>some (U_course_build.c3 (j,k)))))
theorem k_ch(n:Nat)(w:Course)(J:Int)(G:Int)(r:U_course_build)(h:F_ch n w J G=some r):C prog 34 [.agg (Course.c w),I J,I G] [] (Q_course_build w J G r):=by
 refine QW func34 Z Z Z ?_;refine G0 11 Z (Cd [] h (k_bu _ _ _) Z λt ai h=>Fg 15 Z Z (Cn Z h (λaa h=>?_) (λaa h=>?_)))
 .refine Gc 10 Z ?_;obtain rfl:=Oi h;exact Rx [1] [6,7] Z (Qg Z Z (Qif.cons (Qf isAgg97 sizeOf97 Z Z Z) (Qif.cons QcX.tmp Qif.nil))) ⟨Z,Z⟩
 refine Gc 4 Z (Bd h λL p h=>Ct L [0,1,3] [2,3,6,8] (λL=>[(32,.bool L)]) Ze Zf ?_ (λenv H g=>?_))
 .refine G0 4 Z (Is 24 p Z (λab p=>?_) (λab p=>?_))
  .exact Gl 9 Z p [0,1,3]
  .refine Go 3 Z (Is 27 p Z (λac p=>?_) (λac p=>?_))
   iterate 2 exact Gl 6 Z p [0,1,3]
 refine Gx 1 Z (Ef g (Cn Z h (λad h=>?_) (λad h=>?_)))
 .refine Gc 9 Z ?_;obtain rfl:=Oi h;exact Rx [1] [6,7] Z (Qg Z Z (Qif.cons (Qf isAgg97 sizeOf97 Z Z Z) (Qif.cons QcX.tmp Qif.nil))) ⟨Z,Z⟩
 refine Gc 6 Z (Cd [] h (k_ev _ _) Z λd ah h=>Fg 15 Z Z (Cn Z h (λM h=>?_) (λM h=>?_)))
 .refine Gc 9 Z ?_;obtain rfl:=Oi h;exact Rx [3,1] [6,7] Z (Qg Z Z (Qif.cons (Qf isAgg97 sizeOf97 Z Z Z) (Qif.cons QcX.tmp Qif.nil))) ⟨Z,Z⟩
 refine Gc 9 Z (Bd h λi a h=>Ct i [0,1,0] [3,6] Ze (λi=>[(1,.cells 97 [.osl 2 0 i.length 1,.nilm]),(2,.row 3 1 (map (Qe .i64) i))]) Zf ?_ (λenv H g=>?_))
 .refine G0 0 Z (Cn Z a (λN a=>?_) (λN a=>?_))
  .refine Gc 10 Z (Bd a λq ae a=>Ct q [0,1,2,3] [2,3,6] (λq=>[(8,.ptr 3 0),(9,I q)]) (λ_=>[(1,.cells 97 [.osl 2 0 d.length 1,.nilm]),(2,.row 3 1 (map (Qe .i64) d)),(3,.cells 116 (Distance.c t.1))]) Zf ?_ (λenv H g=>?_))
   .refine G0 1 Z (Lp [0,1,3,2] [2,3,6,8] (λy=>[(9,I y)]) (λ_=>[(1,.cells 97 [.osl 2 0 d.length 1,.nilm])]) ae Zf (Lr [0,1,3,2]) λy aj f O=>?_);refine G0 2 Z (Bd f λz j f=>Ct z [0,1,2,3] [2,3,6,8,9] (λz=>[(62,.bool z)]) Ze Zf ?_ (λenv H g=>?_))
    .refine G0 0 Z (DSs 10 Z (D 3 Z (DS.is 2 j Z Z Z (λP j=>?_) (λP j=>?_))))
     .refine D 3 Z ?_;obtain⟨af,B,j⟩:=Yh j;refine DS.v (x:=(.ptr 2 (toNat y*1))) (Y7 B Z EB EC) ?_ (hg:=(gT Z));refine DS.v (x:=(I af)) (Ez Z EQ Z (YD B)) ?_ (hg:=(gT Z));exact D 2 Z (Eh Z (Gl 3 Z j [0,1,2,3]))
     .exact D 7 Z (Eh Z (Gl 3 Z j [0,1,2,3]))
    refine Gx 1 Z (Ef g (QV Z f (λQ f=>?_) (λQ f=>?_)))
    .exact Gc 2 Z (Qk f (Gx 1 Z (cQo O f (Lr [0,1,2,3]))))
    exact Gc 9 Z (Qi f (Lr [0,1,2,3]))
   refine Gx 1 Z (Ef g ?_);obtain⟨u,R,a⟩:=Yh a;refine QY 9 0 [65,66,67,68,69,70,71,72,73] [false,false,false,false,false,false,false,false,true] [[],[],[],[],[],[],[],[],[]] [[],[8]] [[(0,0),(1,1)],[(0,0),(1,1)],[(0,0),(1,1)],[(0,0),(1,1)],[(0,0)],[(0,0)],[(0,0)],[(0,0)],[(0,1)]] [.ptr 1 0,.osl 2 0 d.length 1,I q,I (i64.wrap (q+1)),.ptr 3 4,I t.1.Extra,.rsl 1 (map (Qe .i64) [t.1.Extra]),I G,.osl 4 0 u.length 1] [[.cells 33 (Course.c w),.cells 97 [.osl 2 0 d.length 1,.nilm],.row 3 1 (map (Qe .i64) d),.cells 116 (Distance.c t.1)],[.cells 33 (Course.c w),.cells 97 [.osl 2 0 d.length 1,.nilm],.row 3 1 (map (Qe .i64) d),.cells 116 (Distance.c t.1),.row 3 1 (map (Qe .i64) u)]] ([.cells 33 (Course.c w),.cells 97 [.osl 2 0 d.length 1,.nilm],.row 3 1 (map (Qe .i64) d),.cells 116 (Distance.c t.1),.row 3 1 (map (Qe .i64) u)]) draws Z Z Z Z Z Z Z ?_ Z ?_
   .refine Qgr.cons (Qb (v0 Z Z) (Qb (v0 Z Z) (Qc))) (Qgr.cons (Qb (v0 Z Z) (Qb (v0 Z Z) (Qc))) (Qgr.cons (Qb (v0 Z Z) (Qb (v0 Z Z) (Qc))) (Qgr.cons ?_ (Qgr.cons (Qb (v0 Z Z) (Qc)) (Qgr.cons (Qb (v0 Z Z) (Qc)) (Qgr.cons ?_ (Qgr.cons (Qb (v0 Z Z) (Qc)) (Qgr.cons ?_ (Qgr.nil)))))))))
    .refine Qb ?_ (Qb ?_ (Qc))
     iterate 2 refine Om Z (sD 2 sN) ?_;exact S Z Wp
    .refine Qb ?_ (Qc)
     .refine Om Z (sD 5 sN) ?_;refine vH (YY (xs:=[.tmp 70]) (es:=map (Qe .i64) [t.1.Extra]) QE Z Z Z Z Z ⟨Z,trivial⟩ Z Z) ?_;exact FE Z Wp
    .refine Qb ?_ (Qc)
     .refine Om1 Z (sD 6 (sD 7 sN)) ?_;refine Qy [] (OpC.fn call37 Z Z Z) (k_bs _ _ _ _ R) ?_;rintro _ _ ⟨rfl,rfl⟩;exact FE Z Wp
   refine Bd a λak T a=>?_;refine Qy [2,4] (OpC.fn call80 Z Z Z) (Qkc Qep (m:=u) T) ?_;rintro _ _ ⟨rfl,rfl⟩;exact FE Z (Gl 3 Z a [0,1,5])
  exact YJ 1 Z a [0,1,3]
 refine Gx 1 Z (Ef g (Gc 2 Z (vH Yj ?_)));refine Fg 9 Z Z (Lg 3 Z Z (Bd h λE ag h=>Cg E [0,1,2] [] (λ_=>[(6,.ptr 0 0)]) (λE=>[(0,.cells 97 [.osl 1 0 i.length 1,.map 2]),(1,.row 3 1 (map (Qe .i64) i)),(2,.map (Qj (λx=>A.agg (Ub.c x)) (λx=>A.agg (Leg.c x)) E))]) Zf ?_ ?_))
 .refine G0 1 Z (Lp [1,2,3] [6,79,80] (λs=>[(81,I s.2)]) (λs=>[(0,.cells 97 [.osl 1 0 i.length 1,.map 2]),(2,.map (Qj (λx=>A.agg (Ub.c x)) (λx=>A.agg (Leg.c x)) s.1))]) ag Zf (Lr [1,2,3]) λs al e V=>?_);refine G0 6 Z (QV Z e (λW e=>?_) (λW e=>?_))
  .exact Gc 2 Z (Qk e (Gx 1 Z (cQo V e (Lr [0,1,2]))))
  refine Gc 6 Z (Bd e λF X e=>Iz X Z (Go 14 Z (Bd e λam Y e=>?_)));refine vU (Q8 (ev:=(λx=>A.agg (Leg.c x))) (k:=({from_:=F.From,to_:=F.To:Ub})) (v:=F) (l:=s.1) Qmi Y Z underlying95) ?_;exact Fg 7 Z Z (Qi e (Lr [0,1,2]))
 refine Gc 8 Z ?_;obtain rfl:=Oi h;exact Rx [1,2,0] [6,7] Z (Qg Z Z (Qif.cons (Qf isAgg97 sizeOf97 Z Z Z) (Qif.cons QcX.tmp Qif.nil))) ⟨Z,Z⟩
def F_bm(n:Nat)(g:Course)(h:Int)(i:Int):Option ((List Int)×Int):=((F_ch n g h i).bind λj=>(match j with|.c0 d=>(some (d,[]))|.c1 k=>(some (90,[]))|.c2 e=>(some (2,e))|.c3 f=>(some (0,f.1))):Option (Int×(List Int))).bind λa=>(bif (a.1 != 0)then some ([],a.1)else some (a.2,0))
theorem k_bm(n:Nat)(g:Course)(l:Int)(p:Int):Ks (F_bm n g l p) 17 [.agg (Course.c g),I l,I p] [] (λr=>.tup [.rsl 1 (map (Qe .i64) r.1),I r.2]):=by
 refine Kg 8 func17 Z Z Z Z λr h=>Bd h λf e h=>Cg f [0] [] (λf=>[(7,I f.1),(8,.ptr 0 0)]) (λf=>[(0,.cells 97 [.rsl 1 (map (Qe .i64) f.2),.any])]) Zf ?_ ?_
 .refine G0 4 Z (Bd e λt q e=>?_);refine Qy [] (OpC.fn call34 Z Z Z) (k_ch _ _ _ _ _ q) ?_;intro ra rH a;rcases t with u|w|y|d
  iterate 2 obtain⟨rfl,rfl⟩:=a;refine Fg 7 Z Z ?_;cases e;refine QbQ ?_;refine Eo (Qd4 (i:=2) (m:=1) Z) ?_;exact Lr [2]
  .obtain⟨rfl,rfl⟩:=a;refine Fg 7 Z Z ?_;cases e;refine QbQ ?_;refine Eo (YF [(9,_),(13,_),(14,_)] Z Z (QlR.cons Z (FzA.tup (Ed (FzA.agg (Ed Er (Ek _))) (Ek _))) (QlR.cons Z (FzA.tup (Ed (FzA.agg (Ed Er (Ek _))) (Ek _))) (QlR.cons Z (FzA.agg (Ed Er (Ek _))) QlR.nil))) (Ec (Ec (FzH.cells (Ed Er (Ek _)) (FzH.cells (Ed Er (Ek _)) (Q2 _)))))) ?_;refine Eo (Qd4 (i:=3) (m:=1) Z) ?_;exact Lr [3]
  .obtain⟨rfl,rfl⟩:=a;refine aV (.tup [.agg [.osl 1 0 d.1.length 1,.map 2],I 0]) [.cells 33 (Course.c g),.row 3 1 (map (Qe .i64) d.1),.map (Qj (λx=>A.agg (Ub.c x)) (λx=>A.agg (Leg.c x)) d.2),.cells 97 [.osl 1 0 d.1.length 1,.map 2]] Z Z ?_;refine Go 7 Z ?_;cases e;refine QbQ ?_;refine Eo (YF [(9,_),(13,_),(14,_)] Z Z (QlR.cons Z (FzA.tup (Ed (FzA.agg (Ed Er (Ek _))) (Ek _))) (QlR.cons Z (FzA.tup (Ed (FzA.agg (Ed Er (Ek _))) (Ek _))) (QlR.cons Z (FzA.agg (Ed Er (Ek _))) QlR.nil))) (Ec (Ec (Ec (FzH.cells (Ed Er (Ek _)) (FzH.cells (Ed Er (Ek _)) (Q2 _))))))) ?_;refine Eo (Qd4 (i:=4) (m:=1) Z) ?_;exact Lr [4]
 refine Gc 7 Z (Cn Z h (λj h=>?_) (λj h=>?_))
 .refine Gc 9 Z ?_;obtain rfl:=Oi h;refine R2 6 7 Z Z ?_;refine Eo (QmT (s:=6) (k:=1) Z) ?_;exact Lr []
 refine Gc 11 Z ?_;obtain rfl:=Oi h;exact R2 6 7 Z Z (Lr [])
def F_ao(n:Nat)(a:Int):Option Bool:=((bif decide ((-1099511627776)<=a)then some (decide (a<=1099511627776))else some false):Option Bool).bind λd=>some d
theorem k_ao(n:Nat)(e:Int):Ks (F_ao n e) 119 [I e] [] (λr=>.bool r):=by
 refine Kg 6 func119 Z Z Z Z λr h=>Bd h λd a h=>Cg d [] [] (λd=>[(2,.bool d)]) Ze Zf ?_ ?_
 .refine G0 4 Z (Is 5 a Z (λf a=>?_) (λf a=>?_))
  iterate 2 exact Gl 5 Z a []
 exact QC 1 Z h 2 []
def F_cg(n:Nat)(a:Uc)(d:Uc):Option Int:=(F_i n a.chip d.chip).bind λe=>(F_i n a.mat d.mat).bind λf=>(F_i n a.epoch d.epoch).bind λg=>(F_ba n [e,f,g]).bind λh=>some h
theorem k_cg(n:Nat)(a:Uc)(d:Uc):Ks (F_cg n a d) 120 [.agg (Uc.c a),.agg (Uc.c d)] [] (λr=>I r):=by
 refine Kg 8 func120 Z Z Z Z λr h=>DSs 14 Z (D 4 Z ?_);refine Dz [] h (k_i _ _ _) Z λe i h=>D 4 Z ?_;refine Dz [] h (k_i _ _ _) Z λf j h=>D 4 Z (Eh Z (Cz [] h (k_i _ _ _) Z λg k h=>?_));refine vH (YY (xs:=[.tmp 9,.tmp 14,.tmp 19]) (es:=map (Qe .i64) [e,f,g]) QE Z Z Z Z Z ⟨Z,Z,Z,trivial⟩ Z Z) ?_;exact FE Z (Cz [] h (k_ba _ _) Z λm l h=>Gt 4 Z h 4 [])
def F_if(n:Nat)(p:Course)(h:List Hit)(d:Int):Option (Ctl Int (Ctl Unit Int)):=(bif decide (d<(h.length:Int))then((idx h d).bind λa=>((bif decide (a.Mat<0)then some true else(bif decide ((p.Mats.length:Int)<=a.Mat)then some true else(bif decide (a.Epoch<0)then some true else(bif decide (255<a.Epoch)then some true else(bif decide (a.Chip<0)then some true else(bif decide (1048576<a.Chip)then some true else(F_ao n a.First).bind λi=>(bif (!i)then some true else(F_ao n a.Last).bind λj=>(bif (!j)then some true else some (decide (a.Last<a.First)))))))))):Option Bool).bind λk=>(bif k then some (.done (.done (.done 170)))else(bif (d==0)then some (.cont ())else(idx h (i64.wrap (d-1))).bind λe=>(F_cg n ({chip:=e.Chip,mat:=e.Mat,epoch:=e.Epoch:Uc}) ({chip:=a.Chip,mat:=a.Mat,epoch:=a.Epoch:Uc})).bind λf=>((bif decide (0<f)then some (decide (0<f))else(bif (f==0)then some (decide ((i64.wrap (a.First-e.Last))<=p.Faults.Window))else some false)):Option Bool).bind λl=>(bif l then some (.done (.done (.done 170)))else some (.cont ())))):Option (Ctl Unit (Ctl Int (Ctl Unit Int)))).bind λm=>match m with|.cont g=>(some (.cont (i64.wrap (d+1))))|.done g=>some g else some (.done (.cont ())))
def F_do(n:Nat)(e:Course)(g:List Hit):Option Int:=(F_d n e).bind λf=>(bif (f != 0)then some f else(iter (F_if n e g) n 0:Option (Ctl Unit Int)).bind λd=>match d with|.cont a=>(some 0)|.done a=>some a)
theorem k_do(n:Nat)(O:Course)(P:List Hit):Ks (F_do n O P) 68 [.agg (Course.c O),.rsl 5 (map Hit.c P)] [] (λr=>I r):=by
 refine Kg 10 func68 Z Z Z Z λr h=>Cz [] h (k_d _ _) Z λr1 ah h=>Go 9 Z (Cn Z h (λQ h=>?_) (λQ h=>?_))
 .exact QC 8 Z h 4 []
 refine Gc 11 Z (Lg 3 Z Z (Bd h λL M h=>Jn (b:=L) [] [] Ze Ze Zf ?_ (λV R=>?_)))
 .refine G0 1 Z (Lp [0] [1,2,6,16,17] (λk=>[(18,I k)]) Ze M Zf (Lr [0]) λk ab e g=>?_);refine G0 6 Z (QV Z e (λl e=>?_) (λl e=>?_))
  .exact Gc 2 Z (Qk e (Gx 1 Z (YC g e Z (Lr []))))
  refine Gc 3 Z (Bd e λN d e=>Jn (b:=N) [0] [1,2,6,16,17,18] Ze Ze Zf ?_ (λW hb=>?_))
  .refine G0 4 Z (Bd d λac m d=>Iz m Z (Go 8 Z (Bd d λi a d=>Ct i [0,1] [1,2,6,7,8,16,17,18] (λi=>[(74,.bool i)]) Ze Zf ?_ (λenv H T=>?_))))
   .refine G0 5 Z (Is 26 a Z (λp a=>?_) (λp a=>?_))
    .exact Gl 49 Z a [0,1]
    .refine Go 4 Z (Lg 3 Z Z (Is 34 a Z (λq a=>?_) (λq a=>?_)))
     .exact Gl 41 Z a [0,1]
     .refine Go 5 Z (Is 39 a Z (λs a=>?_) (λs a=>?_))
      .exact Gl 36 Z a [0,1]
      .refine Go 5 Z (Is 44 a Z (λt a=>?_) (λt a=>?_))
       .exact Gl 31 Z a [0,1]
       .refine Go 5 Z (Is 49 a Z (λu a=>?_) (λu a=>?_))
        .exact Gl 26 Z a [0,1]
        .refine Go 5 Z (Is 54 a Z (λw a=>?_) (λw a=>?_))
         .exact Gl 21 Z a [0,1]
         .refine Go 3 Z (Cz [] a (k_ao _ _) Z λad X a=>Go 3 Z (Is 61 a Z (λx a=>?_) (λx a=>?_)))
          .exact Gl 14 Z a [0,1]
          .refine Go 3 Z (Cz [] a (k_ao _ _) Z λae Y a=>Go 3 Z (Is 68 a Z (λy a=>?_) (λy a=>?_)))
           iterate 2 exact Gl 7 Z a [0,1]
   refine Gx 1 Z (Ef T (Cn Z d (λz d=>?_) (λz d=>?_)))
   .refine Gc 8 Z ?_;cases d;refine Ql (Gx 1 Z (Qp e ?_));obtain rfl:=Oj g e;exact Gx 1 Z (Ql (Gx 1 Z (Rt h 4 [])))
   refine Gc 9 Z (Cn Z d (λB d=>?_) (λB d=>?_))
   .refine Gc 3 Z ?_;cases d;exact Yp Z (Lr [0])
   refine Gc 7 Z (Bd d λaf E d=>Iz E Z (Go 21 Z (Cz [] d (k_cg _ _ _) Z λag aa d=>Go 12 Z (Bd d λj f d=>Cg j [0] [1,2,6,16,17,18] (λj=>[(97,.bool j)]) Ze Zf ?_ ?_))))
   .refine G0 0 Z (Cn Z f (λF f=>?_) (λF f=>?_))
    .exact YJ 1 Z f [0]
    refine Gc 4 Z (Is 102 f Z (λG f=>?_) (λG f=>?_))
    iterate 2 exact Gl 12 Z f [0]
   refine Cn Z d (λJ d=>?_) (λJ d=>?_)
   .refine Gc 8 Z ?_;cases d;refine Ql (Gx 1 Z (Qp e ?_));obtain rfl:=Oj g e;exact Gx 1 Z (Ql (Gx 1 Z (Rt h 4 [])))
   refine Gc 3 Z ?_;cases d;exact Yp Z (Lr [0])
  subst hb;exact Gc 4 Z (Qi e (Lr [0]))
 subst R;exact QC 6 Z h 4 []
def F_gc(n:Nat)(a:Segment)(d:Hit):Option Unit:=some ()
theorem k_gc(n:Nat)(a:Segment)(d:Hit):Ks (F_gc n a d) 70 [.agg (Segment.c a),.ptr 0 0] [.cells 65 (Hit.c d)] (λ_=>.bool (({mat:=a.Mat,epoch:=a.Epoch:Ue})==({mat:=d.Mat,epoch:=d.Epoch:Ue}))):=by
 refine Kg 18 func70 Z Z Z Z λr h=>?_;refine vX (.bool (({mat:=a.Mat,epoch:=a.Epoch:Ue})==({mat:=d.Mat,epoch:=d.Epoch:Ue}))) (QfN (p:={mat:=a.Mat,epoch:=a.Epoch:Ue}) (q:={mat:=d.Mat,epoch:=d.Epoch:Ue}) QmE Z Z) ?_;exact Gt 4 Z h 3 [0]
def F_kq(n:Nat)(f:List Segment)(e:Hit)(a:Int):Option (Ctl Int (Ctl Unit Int)):=(bif decide (a<(f.length:Int))then(idx f a).bind λd=>(F_gc n d e).bind λg=>(bif (({mat:=d.Mat,epoch:=d.Epoch:Ue})==({mat:=e.Mat,epoch:=e.Epoch:Ue}))then some (.done (.done a))else some (.cont (i64.wrap (a+1))))else some (.done (.cont ())))
def F_du(n:Nat)(e:List Segment)(f:Hit):Option Int:=(iter (F_kq n e f) n 0:Option (Ctl Unit Int)).bind λd=>match d with|.cont a=>(some (-1))|.done a=>some a
theorem k_du(n:Nat)(j:List Segment)(k:Hit):Ks (F_du n j k) 69 [.rsl 3 (map Segment.c j),.fn (.func 70) [] [.ptr 0 0]] [.cells 65 (Hit.c k)] (λr=>I r):=by
 refine Kg 9 func69 Z Z Z Z λr h=>Lg 3 Z Z (Bd h λl m h=>Jn (b:=l) [0] [] Ze Ze Zf ?_ (λq p=>?_))
 .refine G0 1 Z (Lp [0] [0,1,7] (λe=>[(8,I e)]) Ze m Zf (Lr [0]) λe t a d=>?_);refine G0 6 Z (QV Z a (λf a=>?_) (λf a=>?_))
  .exact Gc 2 Z (Qk a (Gx 1 Z (YC d a Z (Lr [0]))))
  refine Gc 15 Z (Bd a λu g a=>Iz g Z (Go 1 Z (Cz [0] a (k_gc _ _ _) Z λw s a=>Go 2 Z (Cn Z a (λi a=>?_) (λi a=>?_)))))
  .refine Gc 9 Z (Qp a ?_);obtain rfl:=Oj d a;exact Gx 1 Z (Ql (Gx 1 Z (Rt h 4 [0])))
  exact Gc 7 Z (Qi a (Lr [0]))
 subst p;exact QC 6 Z h 4 [0]
def F_az(n:Nat)(d:Course)(a:Int):Option Bool:=((bif decide (0<=a)then some (decide (a<(d.Mats.length:Int)))else some false):Option Bool).bind λe=>some e
theorem k_az(n:Nat)(e:Course)(f:Int):Ks (F_az n e f) 121 [.agg (Course.c e),I f] [] (λr=>.bool r):=by
 refine Kg 7 func121 Z Z Z Z λr h=>Bd h λd a h=>Cg d [] [] (λd=>[(4,.bool d)]) Ze Zf ?_ ?_
 .refine G0 4 Z (Is 7 a Z (λg a=>?_) (λg a=>?_))
  .exact Go 3 Z (Lm Z (Gl 4 Z a []))
  .exact Gl 8 Z a []
 exact QC 1 Z h 4 []
def F_dy(n:Nat)(a:Int)(d:Int):Option (Int×Int):=((bif decide (a<(-2199023255552))then some true else(bif decide (2199023255552<a)then some true else(bif decide (d<0)then some true else some (decide (100000<d))))):Option Bool).bind λe=>(bif e then some (0,1)else some (i64.wrap (Int.tdiv (i64.wrap ((i64.wrap ((i64.wrap ((if a<i64.wrap (0-a)then i64.wrap (0-a)else a)*d))+1000000))-1)) 1000000),0))
theorem k_dy(n:Nat)(d:Int)(e:Int):Ks (F_dy n d e) 196 [I d,I e] [] (λr=>.tup [I r.1,I r.2]):=by
 refine Kg 8 func196 Z Z Z Z λr h=>Bd h λf a h=>Cg f [] [0,1] (λf=>[(19,.bool f)]) Ze Zf ?_ ?_
 .refine G0 4 Z (Is 8 a Z (λg a=>?_) (λg a=>?_))
  .exact Gl 12 Z a []
  .refine Go 4 Z (Is 12 a Z (λi a=>?_) (λi a=>?_))
   .exact Gl 8 Z a []
   .refine Go 4 Z (Is 16 a Z (λj a=>?_) (λj a=>?_))
    iterate 2 exact Gl 4 Z a []
 refine Cn Z h (λk h=>?_) (λk h=>?_)
 .refine Gc 8 Z ?_;obtain rfl:=Oi h;exact R2 4 5 Z Z (Lr [])
 refine Gc 7 Z ?_;refine vX (I (if d<i64.wrap (0-d)then i64.wrap (0-d)else d)) (OpV.max Z Z Z Z) ?_;refine Go 4 Z ?_;refine vV (x:=(I (i64.wrap (Int.tdiv (i64.wrap ((i64.wrap ((i64.wrap ((if d<i64.wrap (0-d)then i64.wrap (0-d)else d)*e))+1000000))-1)) 1000000)))) (OpV.quo Z Z Z (by decide)) ?_;refine Go 5 Z ?_;obtain rfl:=Oi h;exact R2 4 5 Z Z (Lr [])
def F_ae(n:Nat)(a:Course)(d:Segment)(g:Int):Option Span:=(idx a.Mats d.Mat).bind λh=>((bif (h.Kind != 1)then(F_dy n (i64.wrap (g-d.Anchor)) a.Faults.Drift).bind λe=>some ({Lo:=i64.wrap (0-e.1),Hi:=i64.wrap (a.Faults.Residual+e.1):Span})else some ({Lo:=0,Hi:=a.Faults.Residual:Span})):Option Span).bind λf=>some ({Lo:=f.Lo,Hi:=f.Hi:Span})
theorem k_ae(n:Nat)(e:Course)(f:Segment)(g:Int):Kq (F_ae n e f g) 122 [.agg (Course.c e),.agg (Segment.c f),I g] [] (λr=>.agg [I r.Lo,I r.Hi]) (λr=>[.cells 55 [I r.Lo,I r.Hi]]):=by
 refine Kg 24 func122 Z Z Z Z λr h=>Bd h λl i h=>Iz i Z (Go 5 Z (Bd h λd a h=>Cg d [2,3] [6,7] Ze (λd=>[(1,.cells 55 [I d.Lo,I d.Hi])]) Zf ?_ ?_))
 .refine G0 0 Z (Cn Z a (λj a=>?_) (λj a=>?_))
  .exact Gc 9 Z (Cd [] a (k_dy _ _ _) Z λm k a=>FE Z (Gl 21 Z a [2,3]))
  exact YJ 1 Z a [2,3]
 refine Gc 7 Z ?_;obtain rfl:=Oi h;exact Rx [0] [6] Z (QL Z (Qf EG ED Z Z Z)) ⟨Z,Z⟩
def F_am(n:Nat)(d:Course)(e:Segment)(f:Int):Option (Span×Int):=(F_d n d).bind λg=>(bif (g != 0)then some ({Lo:=0,Hi:=0:Span},g)else((F_az n d e.Mat).bind λh=>(bif (!h)then some true else(F_o n f).bind λi=>(bif (!i)then some true else(F_o n e.Anchor).bind λj=>some (!j))):Option Bool).bind λk=>(bif k then some ({Lo:=0,Hi:=0:Span},1)else(F_ae n d e f).bind λa=>some ({Lo:=a.Lo,Hi:=a.Hi:Span},0)))
theorem k_am(n:Nat)(i:Course)(j:Segment)(k:Int):Kq (F_am n i j k) 71 [.agg (Course.c i),.agg (Segment.c j),I k] [] (λr=>.tup [.agg [I r.1.Lo,I r.1.Hi],I r.2]) (λr=>[.cells 55 [I r.1.Lo,I r.1.Hi]]):=by
 refine Kg 12 func71 Z Z Z Z λr h=>Cz [] h (k_d _ _) Z λz t h=>Go 9 Z (Cn Z h (λl h=>?_) (λl h=>?_))
 .refine Gc 10 Z ?_;obtain rfl:=Oi h;exact Rx [2] [6,7] Z (Qg Z Z (Qif.cons (Qf EG ED Z Z Z) (Qif.cons QcX.tmp Qif.nil))) ⟨Z,Z⟩
 refine Gc 4 Z (Bd h λd a h=>Cg d [0,1,2] [2,3,4,6] (λd=>[(29,.bool d)]) Ze Zf ?_ ?_)
 .refine G0 4 Z (Cz [] a (k_az _ _ _) Z λu m a=>Go 2 Z (Is 19 a Z (λe a=>?_) (λe a=>?_)))
  .exact Gl 11 Z a [0,1,2]
  .refine Go 1 Z (Cz [] a (k_o _ _) Z λw p a=>Go 3 Z (Is 24 a Z (λf a=>?_) (λf a=>?_)))
   .exact Gl 6 Z a [0,1,2]
   .exact Go 2 Z (Cz [] a (k_o _ _) Z λx q a=>Gl 3 Z a [0,1,2])
 refine Cn Z h (λg h=>?_) (λg h=>?_)
 .refine Gc 9 Z ?_;obtain rfl:=Oi h;exact Rx [2] [6,7] Z (Qg Z Z (Qif.cons (Qf EG ED Z Z Z) (Qif.cons QcX.tmp Qif.nil))) ⟨Z,Z⟩
 refine Gc 7 Z (Cd [] h (k_ae _ _ _ _) Z λy s h=>Fg 5 Z Z ?_);obtain rfl:=Oi h;exact Rx [2] [6,7] Z (Qg Z Z (Qif.cons (Qf EG ED Z Z Z) (Qif.cons QcX.tmp Qif.nil))) ⟨Z,Z⟩
def F_fs(n:Nat)(a:Leg)(d:Int)(e:Int)(m:Course)(p:Clocks)(f:List Int)(q:List Span)(r:List Hit)(s:List Ud)(i:Int)(j:List (Int×Ud))(k:Course)(l:Clocks):Option Bool:=((idx f (i64.wrap (d-1))).bind λg=>(bif (a.From==g)then some (a.To==e)else some false):Option Bool).bind λh=>some h
theorem k_fs(n:Nat)(p:Leg)(q:Int)(s:Int)(a:Course)(j:Clocks)(t:List Int)(k:List Span)(u:List Hit)(l:List Ud)(e:Int)(f:List (Int×Ud))(g:Course)(i:Clocks):Ks (F_fs n p q s a j t k u l e f g i) 76 [.agg (Leg.c p),.ptr 0 0,.ptr 1 0,.ptr 2 0] [.cells 84 [.ptr 3 0],.cells 3 [I q],.cells 3 [I s],.cells 121 [.str a.Name,.rsl 2 (map Mat.c a.Mats),.rsl 4 (map Leg.c a.Legs),.rsl 5 (map Distance.c a.Distances),.rsl 2 (map Wave.c a.Waves),.rsl 4 (map Offence.c a.Offences),.rsl 3 (map Category.c a.Categories),.rsl 4 (map Prize.c a.Prizes),.rsl 8 (map Step.enc a.Ties),I a.Faults.Misses,I a.Faults.Strays,I a.Faults.Window,I a.Faults.Residual,I a.Faults.Drift,I a.Fee,I a.Deadline,.rsl 3 (map Segment.c j.Segments),.rsl 1 (map (QN 1 (Qe .i64)) j.Far),.rsl 1 (map (Qe .i64) t),.osl 4 0 k.length 2,.rsl 5 (map Hit.c u),.osl 5 0 l.length 3,.map 6,.fn (.func 72) [] [.ptr 0 0,.ptr 7 0,.ptr 8 0],I e],.row 55 2 (map Span.c k),.row 88 3 (map Ud.c l),.map (Qj (λx=>A.int .i64 x) (λx=>A.agg (Ud.c x)) f),.cells 33 (Course.c g),.cells 37 (Clocks.c i)] (λr=>.bool r):=by
 refine Kg 7 func76 Z Z Z Z λr h=>Bd h λm d h=>Cg m [0,1,2,3,4,5,6,7,8] [] (λm=>[(5,.bool m)]) Ze Zf ?_ ?_
 .refine G0 0 Z (DSs 15 Z (D 8 Z ?_));obtain⟨z,w,d⟩:=Yh d;refine DS.wo (x:=.rp [I z]) ?_ ?_
  .exact Ix w EB EC Z Wp
  refine D 3 Z (DS.is 11 d Z Z Z (λy d=>?_) (λy d=>?_))
  iterate 2 exact D 3 Z (Eh Z (Gl 4 Z d [0,1,2,3,4,5,6,7,8]))
 exact QC 1 Z h 5 [0,1,2,3,4,5,6,7,8]
def F_fu(n:Nat)(d:List Leg)(k:Int)(l:Int)(m:Course)(p:Clocks)(q:List Int)(r:List Span)(s:List Hit)(t:List Ud)(e:Int)(f:List (Int×Ud))(g:Course)(h:Clocks)(a:Int):Option (Ctl Int (Ctl Unit Int)):=(bif decide (a<(d.length:Int))then(idx d a).bind λi=>(F_fs n i k l m p q r s t e f g h).bind λj=>(bif j then some (.done (.done a))else some (.cont (i64.wrap (a+1))))else some (.done (.cont ())))
def F_em(n:Nat)(i:List Leg)(j:Int)(k:Int)(l:Course)(m:Clocks)(p:List Int)(q:List Span)(r:List Hit)(s:List Ud)(d:Int)(e:List (Int×Ud))(f:Course)(g:Clocks):Option Int:=(iter (F_fu n i j k l m p q r s d e f g) n 0:Option (Ctl Unit Int)).bind λh=>match h with|.cont a=>(some (-1))|.done a=>some a
theorem k_em(n:Nat)(u:List Leg)(w:Int)(y:Int)(d:Course)(l:Clocks)(z:List Int)(m:List Span)(B:List Hit)(p:List Ud)(f:Int)(g:List (Int×Ud))(i:Course)(j:Clocks):Ks (F_em n u w y d l z m B p f g i j) 75 [.rsl 4 (map Leg.c u),.fn (.func 76) [] [.ptr 0 0,.ptr 1 0,.ptr 2 0]] [.cells 84 [.ptr 3 0],.cells 3 [I w],.cells 3 [I y],.cells 121 [.str d.Name,.rsl 2 (map Mat.c d.Mats),.rsl 4 (map Leg.c d.Legs),.rsl 5 (map Distance.c d.Distances),.rsl 2 (map Wave.c d.Waves),.rsl 4 (map Offence.c d.Offences),.rsl 3 (map Category.c d.Categories),.rsl 4 (map Prize.c d.Prizes),.rsl 8 (map Step.enc d.Ties),I d.Faults.Misses,I d.Faults.Strays,I d.Faults.Window,I d.Faults.Residual,I d.Faults.Drift,I d.Fee,I d.Deadline,.rsl 3 (map Segment.c l.Segments),.rsl 1 (map (QN 1 (Qe .i64)) l.Far),.rsl 1 (map (Qe .i64) z),.osl 4 0 m.length 2,.rsl 5 (map Hit.c B),.osl 5 0 p.length 3,.map 6,.fn (.func 72) [] [.ptr 0 0,.ptr 7 0,.ptr 8 0],I f],.row 55 2 (map Span.c m),.row 88 3 (map Ud.c p),.map (Qj (λx=>A.int .i64 x) (λx=>A.agg (Ud.c x)) g),.cells 33 (Course.c i),.cells 37 (Clocks.c j)] (λr=>I r):=by
 refine Kg 9 func75 Z Z Z Z λr h=>Lg 3 Z Z (Bd h λE F h=>Jn (b:=E) [0,1,2,3,4,5,6,7,8] [] Ze Ze Zf ?_ (λH G=>?_))
 .refine G0 1 Z (Lp [0,1,2,3,4,5,6,7,8] [0,1,7] (λk=>[(8,I k)]) Ze F Zf (Lr [0,1,2,3,4,5,6,7,8]) λk L a e=>?_);refine G0 6 Z (QV Z a (λq a=>?_) (λq a=>?_))
  .exact Gc 2 Z (Qk a (Gx 1 Z (YC e a Z (Lr [0,1,2,3,4,5,6,7,8]))))
  refine Gc 15 Z (Bd a λM s a=>Iz s Z (Go 1 Z (Cz [0,1,2,3,4,5,6,7,8] a (k_fs _ _ _ _ _ _ _ _ _ _ _ _ _ _) Z λN J a=>Go 2 Z (Cn Z a (λt a=>?_) (λt a=>?_)))))
  .refine Gc 9 Z (Qp a ?_);obtain rfl:=Oj e a;exact Gx 1 Z (Ql (Gx 1 Z (Rt h 4 [0,1,2,3,4,5,6,7,8])))
  exact Gc 7 Z (Qi a (Lr [0,1,2,3,4,5,6,7,8]))
 subst G;exact QC 6 Z h 4 [0,1,2,3,4,5,6,7,8]
def Q_match_prepare(d:Course)(e:Clocks)(g:Starter)(h:Int)(f:List Hit)(i:List Hand):U_match_prepare->Go.Sw.A->Qd->Prop
  |.c0 x,a,H=>a=.tup [.nilp,I x]/\H=[.cells 84 [.nilp]]
  |.c1 x,a,H=>a=.tup [.ptr 0 0,I 0]/\H=[.cells 121 [.str d.Name,.rsl 2 (map Mat.c d.Mats),.rsl 4 (map Leg.c d.Legs),.rsl 5 (map Distance.c d.Distances),.rsl 2 (map Wave.c d.Waves),.rsl 4 (map Offence.c d.Offences),.rsl 3 (map Category.c d.Categories),.rsl 4 (map Prize.c d.Prizes),.rsl 8 (map Step.enc d.Ties),I d.Faults.Misses,I d.Faults.Strays,I d.Faults.Window,I d.Faults.Residual,I d.Faults.Drift,I d.Fee,I d.Deadline,.rsl 3 (map Segment.c e.Segments),.rsl 1 (map (QN 1 (Qe .i64)) e.Far),.rsl 1 (map (Qe .i64) x.1),.osl 1 0 x.2.1.length 2,.rsl 5 (map Hit.c f),.osl 2 0 x.2.2.1.length 3,.map 3,.fn (.func 72) [] [.ptr 4 0,.ptr 5 0,.ptr 6 0],I x.2.2.2.2],.row 55 2 (map Span.c x.2.1),.row 88 3 (map Ud.c x.2.2.1),.map (Qj (λx=>A.int .i64 x) (λx=>A.agg (Ud.c x)) x.2.2.2.1),.cells 84 [.ptr 0 0],.cells 33 (Course.c d),.cells 37 (Clocks.c e)]
def F_au(n:Nat)(g:Course)(h:Clocks)(i:List Hit)(e:(List Ud)×Int):Option (Ctl ((List Ud)×Int) (Ctl (List Ud) U_match_prepare)):=(bif decide (e.2<(i.length:Int))then(idx i e.2).bind λa=>(F_du n h.Segments a).bind λf=>(idx g.Mats a.Mat).bind λj=>((bif (j.Kind==1)then some (.cont ((-1),{Mat:=a.Mat,Epoch:=a.Epoch,Anchor:=0:Segment}))else(bif decide (f<0)then some (.done (.done (.done (U_match_prepare.c0 170))))else(idx h.Segments f).bind λk=>some (.cont (f,k)))):Option (Ctl (Int×Segment) (Ctl ((List Ud)×Int) (Ctl (List Ud) U_match_prepare)))).bind λl=>match l with|.cont d=>((F_am n g d.2 a.First).bind λm=>(F_am n g d.2 a.Last).bind λp=>(app e.1 [{segment:=d.1,span:={Lo:=i64.wrap (a.First+m.1.Lo),Hi:=i64.wrap (a.Last+p.1.Hi):Span}:Ud}]).bind λq=>some (.cont (q,i64.wrap (e.2+1))))|.done d=>some d else some (.done (.cont e.1)))
def F_kl(n:Nat)(g:List Hand)(a:(List (Int×Ud))×Int×Int):Option (Ctl ((List (Int×Ud))×Int×Int) ((List (Int×Ud))×Int)):=(bif decide (a.2.2<(g.length:Int))then(idx g a.2.2).bind λd=>(some (QB a.1 d.Position ({segment:=0,span:={Lo:=0,Hi:=0:Span}:Ud}))).bind λh=>((bif (!(Y2 a.1 d.Position))then(some (Q3 a.1 d.Position ({segment:=(-1),span:={Lo:=d.Lo,Hi:=d.Hi:Span}:Ud}))).bind λf=>some (f,(if a.2.1<d.Position then d.Position else a.2.1))else some (a.1,a.2.1)):Option ((List (Int×Ud))×Int)).bind λe=>some (.cont (e.1,e.2,i64.wrap (a.2.2+1)))else some (.done (a.1,a.2.1)))
def F_cd(n:Nat)(e:Course)(p:Clocks)(q:List Hit)(f:(List Int)×Int)(i:List Ud)(h:(List (Int×Ud))×Int)(a:(List Span)×Span×Int):Option (Ctl ((List Span)×Span×Int) (List Span)):=(bif decide (a.2.2<(f.1.length:Int))then(idx f.1 a.2.2).bind λj=>((bif decide (0<a.2.2)then(F_em n e.Legs a.2.2 j e p f.1 a.1 q i h.2 h.1 e p).bind λg=>(idx e.Legs g).bind λk=>(idx e.Legs g).bind λl=>some ({Lo:=i64.wrap (a.2.1.Lo+k.Min),Hi:=i64.wrap (a.2.1.Hi+l.Max):Span})else some ({Lo:=a.2.1.Lo,Hi:=a.2.1.Hi:Span})):Option Span).bind λd=>(app a.1 [{Lo:=d.Lo,Hi:=d.Hi:Span}]).bind λm=>some (.cont (m,{Lo:=d.Lo,Hi:=d.Hi:Span},i64.wrap (a.2.2+1)))else some (.done a.1))
def F_ad(n:Nat)(d:Course)(i:Clocks)(f:Starter)(t:Int)(j:List Hit)(l:List Hand):Option U_match_prepare:=(F_d n d).bind λm=>(bif (m != 0)then some (U_match_prepare.c0 m)else(F_ax n i).bind λp=>(bif (p != 0)then some (U_match_prepare.c0 p)else((bif decide (f.Distance<0)then some true else(bif decide ((d.Distances.length:Int)<=f.Distance)then some true else(bif decide (f.Wave<0)then some true else(bif decide ((d.Waves.length:Int)<=f.Wave)then some true else(F_kf n l).bind λq=>some q)))):Option Bool).bind λr=>(bif r then some (U_match_prepare.c0 1)else(F_bm n d f.Distance t).bind λe=>(bif (e.2 != 0)then some (U_match_prepare.c0 e.2)else(F_do n d j).bind λh=>(bif (h != 0)then some (U_match_prepare.c0 h)else(iter (F_au n d i j) n ([],0):Option (Ctl (List Ud) U_match_prepare)).bind λs=>match s with|.cont a=>((iter (F_kl n l) n ([],(-1),0):Option ((List (Int×Ud))×Int)).bind λg=>(iter (F_cd n d i j e a g) n ([],{Lo:=0,Hi:=0:Span},0):Option (List Span)).bind λk=>some (U_match_prepare.c1 (e.1,k,a,g.1,g.2)))|.done a=>some a)))))
theorem k_ad(n:Nat)(a:Course)(d:Clocks)(Y:Starter)(a4:Int)(E:List Hit)(a6:List Hand)(r:U_match_prepare)(h:F_ad n a d Y a4 E a6=some r):C prog 29 [.agg (Course.c a),.agg (Clocks.c d),.agg (Starter.c Y),I a4,.rsl 5 (map Hit.c E),.rsl 4 (map Hand.c a6)] [] (Q_match_prepare a d Y a4 E a6 r):=by
 refine QW func29 Z Z Z ?_;refine G0 13 Z (Cz [] h (k_d _ _) Z λr1 ce h=>Go 9 Z (Cn Z h (λbn h=>?_) (λbn h=>?_)))
 .refine Gc 3 Z ?_;refine vU (Ey Z Z Z Gi Z Z Z Z Z Z Z) ?_;refine Fg 5 Z Z ?_;obtain rfl:=Oi h;exact Rx [3] [12,13] Z (Qg Z Z (Qif.cons (Q4 Gf Z Z) (Qif.cons QcX.tmp Qif.nil))) ⟨Z,Z⟩
 refine Gc 6 Z (Cz [] h (k_ax _ _) Z λr3 cf h=>Go 9 Z (Cn Z h (λbo h=>?_) (λbo h=>?_)))
 .refine Gc 3 Z ?_;refine vU (Ey Z Z Z Gi Z Z Z Z Z Z Z) ?_;refine Fg 5 Z Z ?_;obtain rfl:=Oi h;exact Rx [3] [12,13] Z (Qg Z Z (Qif.cons (Q4 Gf Z Z) (Qif.cons QcX.tmp Qif.nil))) ⟨Z,Z⟩
 refine Gc 9 Z (Bd h λae w h=>Ct ae [0,1,2,3] [3,4,5,6,7,8,12] (λae=>[(69,.bool ae)]) Ze Zf ?_ (λenv H V=>?_))
 .refine G0 5 Z (Is 44 w Z (λau w=>?_) (λau w=>?_))
  .exact Gl 26 Z w [0,1,2,3]
  .refine Go 4 Z (Lg 3 Z Z (Is 52 w Z (λav w=>?_) (λav w=>?_)))
   .exact Gl 18 Z w [0,1,2,3]
   .refine Go 5 Z (Is 57 w Z (λaw w=>?_) (λaw w=>?_))
    .exact Gl 13 Z w [0,1,2,3]
    .refine Go 4 Z (Lg 3 Z Z (Is 65 w Z (λax w=>?_) (λax w=>?_)))
     .exact Gl 5 Z w [0,1,2,3]
     .exact Go 2 Z (Cz [] w (k_kf _ _) Z λcg bw w=>Gl 2 Z w [0,1,2,3])
 refine Gx 1 Z (Ef V (Cn Z h (λay h=>?_) (λay h=>?_)))
 .refine Gc 2 Z ?_;refine vU (Ey Z Z Z Gi Z Z Z Z Z Z Z) ?_;refine Fg 5 Z Z ?_;obtain rfl:=Oi h;exact Rx [3] [12,13] Z (Qg Z Z (Qif.cons (Q4 Gf Z Z) (Qif.cons QcX.tmp Qif.nil))) ⟨Z,Z⟩
 refine Gc 7 Z (vH Yj ?_);refine FE Z ?_;refine vX (.agg [.str a.Name,.rsl 2 (map Mat.c a.Mats),.rsl 4 (map Leg.c a.Legs),.rsl 5 (map Distance.c a.Distances),.rsl 2 (map Wave.c a.Waves),.rsl 4 (map Offence.c a.Offences),.rsl 3 (map Category.c a.Categories),.rsl 4 (map Prize.c a.Prizes),.rsl 8 (map Step.enc a.Ties),I a.Faults.Misses,I a.Faults.Strays,I a.Faults.Window,I a.Faults.Residual,I a.Faults.Drift,I a.Fee,I a.Deadline,.rsl 3 (map Segment.c d.Segments),.rsl 1 (map (QN 1 (Qe .i64)) d.Far),.rsl 1 (map (Qe .i64) []),.nils,.rsl 5 (map Hit.c E),.nils,.map 4,.nilf,I (-1)]) (OpV.build (zs:=[.str [],.rsl 2 (map Mat.c []),.rsl 4 (map Leg.c []),.rsl 5 (map Distance.c []),.rsl 2 (map Wave.c []),.rsl 4 (map Offence.c []),.rsl 3 (map Category.c []),.rsl 4 (map Prize.c []),.rsl 8 (map Step.enc []),I 0,I 0,I 0,I 0,I 0,I 0,I 0,.rsl 3 (map Segment.c []),.rsl 1 (map (QN 1 (Qe .i64)) []),.rsl 1 (map (Qe .i64) []),.nils,.rsl 5 (map Hit.c []),.nils,.nilm,.nilf,I 0]) zeroValue121 (zrC Z) Qnn) ?_;refine Go 6 Z ?_;obtain⟨j,az,h⟩:=Yh h;refine QY 12 0 [77,78,79,80,81,82,76,83,84,85,86,1000011] [false,false,false,false,false,false,false,false,false,false,false,true] [[],[],[],[],[],[],[],[],[],[],[],[]] [[],[11]] [[(0,0)],[(0,0)],[(0,0)],[(0,0)],[(0,0)],[(0,0)],[(0,0)],[(0,0)],[(0,0),(1,1)],[(0,0)],[(0,0)],[(0,1)]] [.ptr 5 0,.agg (Course.c a),.ptr 2 1,I Y.Distance,I a4,.tup [.rsl 1 (map (Qe .i64) j.1),I j.2],.tup [.rsl 1 (map (Qe .i64) j.1),I j.2],.rsl 1 (map (Qe .i64) j.1),I j.2,.ptr 5 0,.ptr 5 18,.any] [[.cells 33 (Course.c a),.cells 37 (Clocks.c d),.cells 39 (Starter.c Y),.cells 84 [.ptr 5 0],.map (Qj (λx=>A.int .i64 x) (λx=>A.agg (Ud.c x)) []),.cells 121 [.str a.Name,.rsl 2 (map Mat.c a.Mats),.rsl 4 (map Leg.c a.Legs),.rsl 5 (map Distance.c a.Distances),.rsl 2 (map Wave.c a.Waves),.rsl 4 (map Offence.c a.Offences),.rsl 3 (map Category.c a.Categories),.rsl 4 (map Prize.c a.Prizes),.rsl 8 (map Step.enc a.Ties),I a.Faults.Misses,I a.Faults.Strays,I a.Faults.Window,I a.Faults.Residual,I a.Faults.Drift,I a.Fee,I a.Deadline,.rsl 3 (map Segment.c d.Segments),.rsl 1 (map (QN 1 (Qe .i64)) d.Far),.rsl 1 (map (Qe .i64) []),.nils,.rsl 5 (map Hit.c E),.nils,.map 4,.nilf,I (-1)]],[.cells 33 (Course.c a),.cells 37 (Clocks.c d),.cells 39 (Starter.c Y),.cells 84 [.ptr 5 0],.map (Qj (λx=>A.int .i64 x) (λx=>A.agg (Ud.c x)) []),.cells 121 [.str a.Name,.rsl 2 (map Mat.c a.Mats),.rsl 4 (map Leg.c a.Legs),.rsl 5 (map Distance.c a.Distances),.rsl 2 (map Wave.c a.Waves),.rsl 4 (map Offence.c a.Offences),.rsl 3 (map Category.c a.Categories),.rsl 4 (map Prize.c a.Prizes),.rsl 8 (map Step.enc a.Ties),I a.Faults.Misses,I a.Faults.Strays,I a.Faults.Window,I a.Faults.Residual,I a.Faults.Drift,I a.Fee,I a.Deadline,.rsl 3 (map Segment.c d.Segments),.rsl 1 (map (QN 1 (Qe .i64)) d.Far),.rsl 1 (map (Qe .i64) j.1),.nils,.rsl 5 (map Hit.c E),.nils,.map 4,.nilf,I (-1)]]] ([.cells 33 (Course.c a),.cells 37 (Clocks.c d),.cells 39 (Starter.c Y),.cells 84 [.ptr 5 0],.map (Qj (λx=>A.int .i64 x) (λx=>A.agg (Ud.c x)) []),.cells 121 [.str a.Name,.rsl 2 (map Mat.c a.Mats),.rsl 4 (map Leg.c a.Legs),.rsl 5 (map Distance.c a.Distances),.rsl 2 (map Wave.c a.Waves),.rsl 4 (map Offence.c a.Offences),.rsl 3 (map Category.c a.Categories),.rsl 4 (map Prize.c a.Prizes),.rsl 8 (map Step.enc a.Ties),I a.Faults.Misses,I a.Faults.Strays,I a.Faults.Window,I a.Faults.Residual,I a.Faults.Drift,I a.Fee,I a.Deadline,.rsl 3 (map Segment.c d.Segments),.rsl 1 (map (QN 1 (Qe .i64)) d.Far),.rsl 1 (map (Qe .i64) j.1),.nils,.rsl 5 (map Hit.c E),.nils,.map 4,.nilf,I (-1)]]) draws Z Z Z Z Z Z Z ?_ Z ?_
 .refine Qgr.cons (Qb (v0 Z Z) (Qc)) (Qgr.cons (Qb (v0 Z Z) (Qc)) (Qgr.cons (Qb (v0 Z Z) (Qc)) (Qgr.cons (Qb (v0 Z Z) (Qc)) (Qgr.cons (Qb (v0 Z Z) (Qc)) (Qgr.cons ?_ (Qgr.cons (Qb (v0 Z Z) (Qc)) (Qgr.cons (Qb (v0 Z Z) (Qc)) (Qgr.cons (Qb (v0 Z Z) (Qb (v0 Z Z) (Qc))) (Qgr.cons ?_ (Qgr.cons (Qb (v0 Z Z) (Qc)) (Qgr.cons ?_ (Qgr.nil))))))))))))
  .refine Qb ?_ (Qc)
   .refine Om Z (sD 1 (sD 3 (sD 4 sN))) ?_;refine Qy [] (OpC.fn call17 Z Z Z) (k_bm _ _ _ _ _ az) ?_;rintro _ _ ⟨rfl,rfl⟩;exact FE Z Wp
  .refine Qb ?_ (Qc)
   .refine Om Z (sD 0 sN) ?_;exact S Z Wp
  .refine Qb ?_ (Qc)
   .refine Om2 Z (sD 7 (sD 10 sN)) ?_;refine vU (Ey Z Z Z EI Z Z Z Z Z Z Z) ?_;exact FE Z Wp
 refine Go 9 Z (Cn Z h (λba h=>?_) (λba h=>?_))
 .refine Gc 3 Z ?_;refine vU (Ey Z Z Z Gi Z Z Z Z Z Z Z) ?_;refine Fg 5 Z Z ?_;obtain rfl:=Oi h;exact Rx [3] [12,13] Z (Qg Z Z (Qif.cons (Q4 Gf Z Z) (Qif.cons QcX.tmp Qif.nil))) ⟨Z,Z⟩
 refine Gc 7 Z (Cz [] h (k_do _ _ _) Z λch bx h=>Go 9 Z (Cn Z h (λbb h=>?_) (λbb h=>?_)))
 .refine Gc 3 Z ?_;refine vU (Ey Z Z Z Gi Z Z Z Z Z Z Z) ?_;refine Fg 5 Z Z ?_;obtain rfl:=Oi h;exact Rx [3] [12,13] Z (Qg Z Z (Qif.cons (Q4 Gf Z Z) (Qif.cons QcX.tmp Qif.nil))) ⟨Z,Z⟩
 refine Gc 6 Z (Lg 3 Z Z (Bd h λbp bq h=>CtE (b:=bp) [0,1,2,3,4,5] [5,6,7] (λ_=>[(12,.ptr 2 0)]) (λg=>[(2,.cells 84 [.ptr 3 0]),(3,.cells 121 [.str a.Name,.rsl 2 (map Mat.c a.Mats),.rsl 4 (map Leg.c a.Legs),.rsl 5 (map Distance.c a.Distances),.rsl 2 (map Wave.c a.Waves),.rsl 4 (map Offence.c a.Offences),.rsl 3 (map Category.c a.Categories),.rsl 4 (map Prize.c a.Prizes),.rsl 8 (map Step.enc a.Ties),I a.Faults.Misses,I a.Faults.Strays,I a.Faults.Window,I a.Faults.Residual,I a.Faults.Drift,I a.Fee,I a.Deadline,.rsl 3 (map Segment.c d.Segments),.rsl 1 (map (QN 1 (Qe .i64)) d.Far),.rsl 1 (map (Qe .i64) j.1),.nils,.rsl 5 (map Hit.c E),.osl 4 0 g.length 3,.map 5,.nilf,I (-1)]),(4,.row 88 3 (map Ud.c g)),(5,.map (Qj (λx=>A.int .i64 x) (λx=>A.agg (Ud.c x)) []))]) Zf ?_ (λg env H br V=>?_)))
 .refine G0 1 Z (Lp [0,1,3,5,0,4] [5,6,7,12,96,97] (λP=>[(98,I P.2)]) (λP=>[(2,.cells 84 [.ptr 3 0]),(3,.cells 121 [.str a.Name,.rsl 2 (map Mat.c a.Mats),.rsl 4 (map Leg.c a.Legs),.rsl 5 (map Distance.c a.Distances),.rsl 2 (map Wave.c a.Waves),.rsl 4 (map Offence.c a.Offences),.rsl 3 (map Category.c a.Categories),.rsl 4 (map Prize.c a.Prizes),.rsl 8 (map Step.enc a.Ties),I a.Faults.Misses,I a.Faults.Strays,I a.Faults.Window,I a.Faults.Residual,I a.Faults.Drift,I a.Fee,I a.Deadline,.rsl 3 (map Segment.c d.Segments),.rsl 1 (map (QN 1 (Qe .i64)) d.Far),.rsl 1 (map (Qe .i64) j.1),.nils,.rsl 5 (map Hit.c E),.osl 4 0 P.1.length 3,.map 5,.nilf,I (-1)]),(4,.row 88 3 (map Ud.c P.1))]) bq Zf ?_ ?_)
  .refine Eo (YK (i:=5) (m:=21) (t:=88) (k:=3) Z Z Z) ?_;exact Lr [0,1,3,5,6,4]
  intro P ci s af;refine G0 6 Z (QV Z s (λbc s=>?_) (λbc s=>?_))
  .exact Gc 2 Z (Qk s (Gx 1 Z (YC af s Z (Lr [0,1,2,3,4,5]))))
  refine Gc 6 Z (Bd s λG bd s=>Iz bd Z (Go 10 Z (Cz [6] s (k_du _ _ _) Z λcj bz s=>Go 22 Z (Bd s λck be s=>Iz be Z (Go 6 Z (Bd s λbs O s=>CtE (b:=bs) [0,1,2,3,4,5,6,7] [5,6,7,12,16,18,96,97,98] (λJ=>[(17,I J.1)]) (λJ=>[(7,.cells 155 (Segment.c J.2))]) Zf ?_ (λJ env H hb V=>?_)))))))
  .refine G0 0 Z (Cn Z O (λbg O=>?_) (λbg O=>?_))
   .refine Gc 3 Z ?_;cases O;exact Yp Z (Lr [0,1,2,3,4,5,6,7])
   refine Gc 7 Z (Cn Z O (λbh O=>?_) (λbh O=>?_))
   .refine Gc 2 Z ?_;refine vU (Ey Z Z Z Gi Z Z Z Z Z Z Z) ?_;refine Fg 4 Z Z ?_;cases O;refine Ql (Gx 4 Z (Qp s ?_));obtain rfl:=Oj af s;refine Gx 1 Z (Ql (Gx 1 Z ?_));obtain rfl:=Oi h;exact Rx [2] [12,13] Z (Qg Z Z (Qif.cons (Q4 Gf Z Z) (Qif.cons QcX.tmp Qif.nil))) ⟨Z,Z⟩
   refine Gc 4 Z (Bd O λcl bi O=>Iz bi Z (Go 3 Z ?_));cases O;exact Yp Z (Lr [0,1,2,3,4,5,6,7])
  subst hb;refine Gx 2 Z (Ef V (Gc 6 Z (Cd [] s (k_am _ _ _ _) Z λy ca s=>Fg 14 Z Z (Cd [] s (k_am _ _ _ _) Z λz cb s=>Fg 8 Z Z ?_))));obtain⟨ag,bj,s⟩:=Yh s;refine QY 20 0 [144,145,146,147,148,149,150,151,152,153,154,155,156,157,158,159,160,161,162,163] [false,false,false,false,false,false,false,false,false,false,false,false,false,false,false,false,false,false,false,true] [[],[],[],[],[],[],[],[],[],[],[],[],[],[],[],[],[],[],[],[]] [[],[19]] [[(0,0),(1,1)],[(0,0)],[(0,0)],[(0,0)],[(0,0)],[(0,0)],[(0,0)],[(0,0)],[(0,0)],[(0,0)],[(0,0)],[(0,0)],[(0,0)],[(0,0)],[(0,0)],[(0,0)],[(0,0)],[(0,0)],[(0,0)],[(0,1)]] [.ptr 3 0,.ptr 3 0,.ptr 3 0,.ptr 3 21,.osl 4 0 P.1.length 3,I J.1,.ptr 6 3,I G.First,.ptr 9 0,I y.1.Lo,I (i64.wrap (G.First+y.1.Lo)),.ptr 6 4,I G.Last,.ptr 11 1,I z.1.Hi,I (i64.wrap (G.Last+z.1.Hi)),.agg [I (i64.wrap (G.First+y.1.Lo)),I (i64.wrap (G.Last+z.1.Hi))],.agg [I J.1,I (i64.wrap (G.First+y.1.Lo)),I (i64.wrap (G.Last+z.1.Hi))],.rsl 3 (map Ud.c [{segment:=J.1,span:={Lo:=i64.wrap (G.First+y.1.Lo),Hi:=i64.wrap (G.Last+z.1.Hi):Span}:Ud}]),.osl 12 0 ag.length 3] [[.cells 33 (Course.c a),.cells 37 (Clocks.c d),.cells 84 [.ptr 3 0],.cells 121 [.str a.Name,.rsl 2 (map Mat.c a.Mats),.rsl 4 (map Leg.c a.Legs),.rsl 5 (map Distance.c a.Distances),.rsl 2 (map Wave.c a.Waves),.rsl 4 (map Offence.c a.Offences),.rsl 3 (map Category.c a.Categories),.rsl 4 (map Prize.c a.Prizes),.rsl 8 (map Step.enc a.Ties),I a.Faults.Misses,I a.Faults.Strays,I a.Faults.Window,I a.Faults.Residual,I a.Faults.Drift,I a.Fee,I a.Deadline,.rsl 3 (map Segment.c d.Segments),.rsl 1 (map (QN 1 (Qe .i64)) d.Far),.rsl 1 (map (Qe .i64) j.1),.nils,.rsl 5 (map Hit.c E),.osl 4 0 P.1.length 3,.map 5,.nilf,I (-1)],.row 88 3 (map Ud.c P.1),.map (Qj (λx=>A.int .i64 x) (λx=>A.agg (Ud.c x)) []),.cells 65 (Hit.c G),.cells 155 (Segment.c J.2),.cells 55 [I y.1.Lo,I y.1.Hi],.cells 55 [I y.1.Lo,I y.1.Hi],.cells 55 [I z.1.Lo,I z.1.Hi],.cells 55 [I z.1.Lo,I z.1.Hi]],[.cells 33 (Course.c a),.cells 37 (Clocks.c d),.cells 84 [.ptr 3 0],.cells 121 [.str a.Name,.rsl 2 (map Mat.c a.Mats),.rsl 4 (map Leg.c a.Legs),.rsl 5 (map Distance.c a.Distances),.rsl 2 (map Wave.c a.Waves),.rsl 4 (map Offence.c a.Offences),.rsl 3 (map Category.c a.Categories),.rsl 4 (map Prize.c a.Prizes),.rsl 8 (map Step.enc a.Ties),I a.Faults.Misses,I a.Faults.Strays,I a.Faults.Window,I a.Faults.Residual,I a.Faults.Drift,I a.Fee,I a.Deadline,.rsl 3 (map Segment.c d.Segments),.rsl 1 (map (QN 1 (Qe .i64)) d.Far),.rsl 1 (map (Qe .i64) j.1),.nils,.rsl 5 (map Hit.c E),.osl 4 0 P.1.length 3,.map 5,.nilf,I (-1)],.dead,.map (Qj (λx=>A.int .i64 x) (λx=>A.agg (Ud.c x)) []),.cells 65 (Hit.c G),.cells 155 (Segment.c J.2),.cells 55 [I y.1.Lo,I y.1.Hi],.cells 55 [I y.1.Lo,I y.1.Hi],.cells 55 [I z.1.Lo,I z.1.Hi],.cells 55 [I z.1.Lo,I z.1.Hi],.row 88 3 (map Ud.c ag)]] ([.cells 33 (Course.c a),.cells 37 (Clocks.c d),.cells 84 [.ptr 3 0],.cells 121 [.str a.Name,.rsl 2 (map Mat.c a.Mats),.rsl 4 (map Leg.c a.Legs),.rsl 5 (map Distance.c a.Distances),.rsl 2 (map Wave.c a.Waves),.rsl 4 (map Offence.c a.Offences),.rsl 3 (map Category.c a.Categories),.rsl 4 (map Prize.c a.Prizes),.rsl 8 (map Step.enc a.Ties),I a.Faults.Misses,I a.Faults.Strays,I a.Faults.Window,I a.Faults.Residual,I a.Faults.Drift,I a.Fee,I a.Deadline,.rsl 3 (map Segment.c d.Segments),.rsl 1 (map (QN 1 (Qe .i64)) d.Far),.rsl 1 (map (Qe .i64) j.1),.nils,.rsl 5 (map Hit.c E),.osl 4 0 P.1.length 3,.map 5,.nilf,I (-1)],.dead,.map (Qj (λx=>A.int .i64 x) (λx=>A.agg (Ud.c x)) []),.cells 65 (Hit.c G),.cells 155 (Segment.c J.2),.cells 55 [I y.1.Lo,I y.1.Hi],.cells 55 [I y.1.Lo,I y.1.Hi],.cells 55 [I z.1.Lo,I z.1.Hi],.cells 55 [I z.1.Lo,I z.1.Hi],.row 88 3 (map Ud.c ag)]) draws Z Z Z Z Z Z Z ?_ Z ?_
  .refine Qgr.cons (Qb (v0 Z Z) (Qb (v0 Z Z) (Qc))) (Qgr.cons (Qb (v0 Z Z) (Qc)) (Qgr.cons ?_ (Qgr.cons (Qb (v0 Z Z) (Qc)) (Qgr.cons (Qb (v0 Z Z) (Qc)) (Qgr.cons (Qb (v0 Z Z) (Qc)) (Qgr.cons (Qb (v0 Z Z) (Qc)) (Qgr.cons (Qb (v0 Z Z) (Qc)) (Qgr.cons (Qb (v0 Z Z) (Qc)) (Qgr.cons (Qb (v0 Z Z) (Qc)) (Qgr.cons ?_ (Qgr.cons (Qb (v0 Z Z) (Qc)) (Qgr.cons (Qb (v0 Z Z) (Qc)) (Qgr.cons (Qb (v0 Z Z) (Qc)) (Qgr.cons (Qb (v0 Z Z) (Qc)) (Qgr.cons ?_ (Qgr.cons (Qb (v0 Z Z) (Qc)) (Qgr.cons (Qb (v0 Z Z) (Qc)) (Qgr.cons ?_ (Qgr.cons ?_ (Qgr.nil))))))))))))))))))))
   .refine Qb ?_ (Qc)
    .refine Om Z (sD 1 sN) ?_;exact S Z Wp
   .refine Qb ?_ (Qc)
    .refine Om Z (sD 7 (sD 9 sN)) ?_;exact S Z Wp
   .refine Qb ?_ (Qc)
    .refine Om Z (sD 12 (sD 14 sN)) ?_;exact S Z Wp
   .refine Qb ?_ (Qc)
    .refine Om Z (sD 17 sN) ?_;refine vH (YY (xs:=[.tmp 161]) (es:=map Ud.c [{segment:=J.1,span:={Lo:=i64.wrap (G.First+y.1.Lo),Hi:=i64.wrap (G.Last+z.1.Hi):Span}:Ud}]) Qlq Z Z Z Z Z ⟨Z,trivial⟩ Z Z) ?_;exact FE Z Wp
   .refine Qb ?_ (Qc)
    .refine Om1 Z (sD 4 (sD 18 sN)) ?_;refine vH (QR (e:=Ud.c) bj Qlq Ga Qie) ?_;exact FE Z Wp
  exact Go 10 Z (Qi s (Lr [0,1,2,3,12,5]))
 subst br;refine Gx 1 Z (Ef V (Gc 4 Z (Lg 3 Z Z (Bd h λB bu h=>Ct B [0,1,2,3,4,5] [6,7,12] Ze (λB=>[(3,.cells 121 [.str a.Name,.rsl 2 (map Mat.c a.Mats),.rsl 4 (map Leg.c a.Legs),.rsl 5 (map Distance.c a.Distances),.rsl 2 (map Wave.c a.Waves),.rsl 4 (map Offence.c a.Offences),.rsl 3 (map Category.c a.Categories),.rsl 4 (map Prize.c a.Prizes),.rsl 8 (map Step.enc a.Ties),I a.Faults.Misses,I a.Faults.Strays,I a.Faults.Window,I a.Faults.Residual,I a.Faults.Drift,I a.Fee,I a.Deadline,.rsl 3 (map Segment.c d.Segments),.rsl 1 (map (QN 1 (Qe .i64)) d.Far),.rsl 1 (map (Qe .i64) j.1),.nils,.rsl 5 (map Hit.c E),.osl 4 0 g.length 3,.map 5,.nilf,I B.2]),(5,.map (Qj (λx=>A.int .i64 x) (λx=>A.agg (Ud.c x)) B.1))]) Zf ?_ (λenv H V=>?_)))))
 .refine G0 1 Z (Lp [0,1,2,3,4,5] [6,7,12,167,168] (λp=>[(169,I p.2.2)]) (λp=>[(3,.cells 121 [.str a.Name,.rsl 2 (map Mat.c a.Mats),.rsl 4 (map Leg.c a.Legs),.rsl 5 (map Distance.c a.Distances),.rsl 2 (map Wave.c a.Waves),.rsl 4 (map Offence.c a.Offences),.rsl 3 (map Category.c a.Categories),.rsl 4 (map Prize.c a.Prizes),.rsl 8 (map Step.enc a.Ties),I a.Faults.Misses,I a.Faults.Strays,I a.Faults.Window,I a.Faults.Residual,I a.Faults.Drift,I a.Fee,I a.Deadline,.rsl 3 (map Segment.c d.Segments),.rsl 1 (map (QN 1 (Qe .i64)) d.Far),.rsl 1 (map (Qe .i64) j.1),.nils,.rsl 5 (map Hit.c E),.osl 4 0 g.length 3,.map 5,.nilf,I p.2.1]),(5,.map (Qj (λx=>A.int .i64 x) (λx=>A.agg (Ud.c x)) p.1))]) bu Zf (Lr [0,1,2,3,4,5]) λp cm N bk=>?_);refine G0 6 Z (QV Z N (λbl N=>?_) (λbl N=>?_))
  .exact Gc 2 Z (Qk N (Gx 1 Z (cQo bk N (Lr [0,1,2,3,4,5]))))
  refine Gc 6 Z (Bd N λq ai N=>Iz ai Z (Go 6 Z ?_));obtain⟨Q,ac,N⟩:=Yh N;refine QY 12 0 [174,175,176,177,178,179,180,173,181,182,25,1000011] [false,false,false,false,false,false,false,false,false,false,true,true] [[],[],[],[],[],[],[],[],[],[],[],[10]] [[],[10],[10,11]] [[(0,0),(1,1)],[(0,0),(1,1)],[(0,0),(1,1)],[(0,0),(1,1)],[(0,0),(1,1)],[(0,0),(1,1)],[(0,0),(1,1)],[(0,0),(1,1)],[(0,0),(1,1)],[(0,0),(1,1),(2,2)],[(0,1)],[(1,2)]] [.ptr 3 0,.ptr 3 0,.ptr 3 22,.map 5,.ptr 6 1,I q.Position,.tup [.agg (Ud.c Q),.bool (Y2 p.1 q.Position)],.tup [.agg (Ud.c Q),.bool (Y2 p.1 q.Position)],.agg (Ud.c Q),.bool (Y2 p.1 q.Position),.ptr 7 0,.any] [[.cells 33 (Course.c a),.cells 37 (Clocks.c d),.cells 84 [.ptr 3 0],.cells 121 [.str a.Name,.rsl 2 (map Mat.c a.Mats),.rsl 4 (map Leg.c a.Legs),.rsl 5 (map Distance.c a.Distances),.rsl 2 (map Wave.c a.Waves),.rsl 4 (map Offence.c a.Offences),.rsl 3 (map Category.c a.Categories),.rsl 4 (map Prize.c a.Prizes),.rsl 8 (map Step.enc a.Ties),I a.Faults.Misses,I a.Faults.Strays,I a.Faults.Window,I a.Faults.Residual,I a.Faults.Drift,I a.Fee,I a.Deadline,.rsl 3 (map Segment.c d.Segments),.rsl 1 (map (QN 1 (Qe .i64)) d.Far),.rsl 1 (map (Qe .i64) j.1),.nils,.rsl 5 (map Hit.c E),.osl 4 0 g.length 3,.map 5,.nilf,I p.2.1],.row 88 3 (map Ud.c g),.map (Qj (λx=>A.int .i64 x) (λx=>A.agg (Ud.c x)) p.1),.cells 63 (Hand.c q)],[.cells 33 (Course.c a),.cells 37 (Clocks.c d),.cells 84 [.ptr 3 0],.cells 121 [.str a.Name,.rsl 2 (map Mat.c a.Mats),.rsl 4 (map Leg.c a.Legs),.rsl 5 (map Distance.c a.Distances),.rsl 2 (map Wave.c a.Waves),.rsl 4 (map Offence.c a.Offences),.rsl 3 (map Category.c a.Categories),.rsl 4 (map Prize.c a.Prizes),.rsl 8 (map Step.enc a.Ties),I a.Faults.Misses,I a.Faults.Strays,I a.Faults.Window,I a.Faults.Residual,I a.Faults.Drift,I a.Fee,I a.Deadline,.rsl 3 (map Segment.c d.Segments),.rsl 1 (map (QN 1 (Qe .i64)) d.Far),.rsl 1 (map (Qe .i64) j.1),.nils,.rsl 5 (map Hit.c E),.osl 4 0 g.length 3,.map 5,.nilf,I p.2.1],.row 88 3 (map Ud.c g),.map (Qj (λx=>A.int .i64 x) (λx=>A.agg (Ud.c x)) p.1),.cells 63 (Hand.c q),.cells 88 [I 0,I 0,I 0]],[.cells 33 (Course.c a),.cells 37 (Clocks.c d),.cells 84 [.ptr 3 0],.cells 121 [.str a.Name,.rsl 2 (map Mat.c a.Mats),.rsl 4 (map Leg.c a.Legs),.rsl 5 (map Distance.c a.Distances),.rsl 2 (map Wave.c a.Waves),.rsl 4 (map Offence.c a.Offences),.rsl 3 (map Category.c a.Categories),.rsl 4 (map Prize.c a.Prizes),.rsl 8 (map Step.enc a.Ties),I a.Faults.Misses,I a.Faults.Strays,I a.Faults.Window,I a.Faults.Residual,I a.Faults.Drift,I a.Fee,I a.Deadline,.rsl 3 (map Segment.c d.Segments),.rsl 1 (map (QN 1 (Qe .i64)) d.Far),.rsl 1 (map (Qe .i64) j.1),.nils,.rsl 5 (map Hit.c E),.osl 4 0 g.length 3,.map 5,.nilf,I p.2.1],.row 88 3 (map Ud.c g),.map (Qj (λx=>A.int .i64 x) (λx=>A.agg (Ud.c x)) p.1),.cells 63 (Hand.c q),.cells 88 (Ud.c Q)]] ([.cells 33 (Course.c a),.cells 37 (Clocks.c d),.cells 84 [.ptr 3 0],.cells 121 [.str a.Name,.rsl 2 (map Mat.c a.Mats),.rsl 4 (map Leg.c a.Legs),.rsl 5 (map Distance.c a.Distances),.rsl 2 (map Wave.c a.Waves),.rsl 4 (map Offence.c a.Offences),.rsl 3 (map Category.c a.Categories),.rsl 4 (map Prize.c a.Prizes),.rsl 8 (map Step.enc a.Ties),I a.Faults.Misses,I a.Faults.Strays,I a.Faults.Window,I a.Faults.Residual,I a.Faults.Drift,I a.Fee,I a.Deadline,.rsl 3 (map Segment.c d.Segments),.rsl 1 (map (QN 1 (Qe .i64)) d.Far),.rsl 1 (map (Qe .i64) j.1),.nils,.rsl 5 (map Hit.c E),.osl 4 0 g.length 3,.map 5,.nilf,I p.2.1],.row 88 3 (map Ud.c g),.map (Qj (λx=>A.int .i64 x) (λx=>A.agg (Ud.c x)) p.1),.cells 63 (Hand.c q),.cells 88 (Ud.c Q)]) draws Z Z Z Z Z Z Z ?_ Z ?_
  .refine Qgr.cons (Qb (v0 Z Z) (Qb (v0 Z Z) (Qc))) (Qgr.cons ?_ (Qgr.cons (Qb (v0 Z Z) (Qb (v0 Z Z) (Qc))) (Qgr.cons (Qb (v0 Z Z) (Qb (v0 Z Z) (Qc))) (Qgr.cons (Qb (v0 Z Z) (Qb (v0 Z Z) (Qc))) (Qgr.cons (Qb (v0 Z Z) (Qb (v0 Z Z) (Qc))) (Qgr.cons ?_ (Qgr.cons (Qb (v0 Z Z) (Qb (v0 Z Z) (Qc))) (Qgr.cons (Qb (v0 Z Z) (Qb (v0 Z Z) (Qc))) (Qgr.cons (Qb (v0 Z Z) (Qb (v0 Z Z) (Qb (v0 Z Z) (Qc)))) (Qgr.cons ?_ (Qgr.cons ?_ (Qgr.nil))))))))))))
   .refine Qb ?_ (Qb ?_ (Qc))
    iterate 2 refine Om Z (sD 0 sN) ?_;exact S Z Wp
   .refine Qb ?_ (Qb ?_ (Qc))
    iterate 2 refine Om Z (sD 3 (sD 5 sN)) ?_;refine vX (.tup [.agg (Ud.c Q),.bool (Y2 p.1 q.Position)]) (Qbt (ev:=(λx=>A.agg (Ud.c x))) (z0:=({segment:=0,span:={Lo:=0,Hi:=0:Span}:Ud})) (k:=q.Position) (l:=p.1) YR ac E9 E6 (zrC Z)) ?_;exact Wp
   .refine Qb ?_ (Qc)
    .refine Om1 Z sN ?_;refine vH (Qag (v:=(.agg [I 0,I 0,I 0])) E6 (zrC Z)) ?_;exact FE Z Wp
   .refine Qb ?_ (Qc)
    .refine Om2 Z (sD 10 (sD 8 sN)) ?_;refine vU (Ey Z Z Z Gg Z Z Z Z Z Z Z) ?_;exact FE Z Wp
  refine Go 9 Z (Bd N λW R N=>Ct W [0,1,2,3,4,5] [6,7,12,167,168,169] Ze (λW=>[(3,.cells 121 [.str a.Name,.rsl 2 (map Mat.c a.Mats),.rsl 4 (map Leg.c a.Legs),.rsl 5 (map Distance.c a.Distances),.rsl 2 (map Wave.c a.Waves),.rsl 4 (map Offence.c a.Offences),.rsl 3 (map Category.c a.Categories),.rsl 4 (map Prize.c a.Prizes),.rsl 8 (map Step.enc a.Ties),I a.Faults.Misses,I a.Faults.Strays,I a.Faults.Window,I a.Faults.Residual,I a.Faults.Drift,I a.Fee,I a.Deadline,.rsl 3 (map Segment.c d.Segments),.rsl 1 (map (QN 1 (Qe .i64)) d.Far),.rsl 1 (map (Qe .i64) j.1),.nils,.rsl 5 (map Hit.c E),.osl 4 0 g.length 3,.map 5,.nilf,I W.2]),(5,.map (Qj (λx=>A.int .i64 x) (λx=>A.agg (Ud.c x)) W.1))]) Zf ?_ (λenv H V=>?_))
  .refine G0 0 Z (Cn Z R (λaj R=>?_) (λaj R=>?_))
   .refine Gc 1 Z (DSs 12 Z (D 12 Z (Eh Z (Bd R λcc ak R=>?_))));refine vU (Q8 (ev:=(λx=>A.agg (Ud.c x))) (k:=q.Position) (v:=({segment:=(-1),span:={Lo:=q.Lo,Hi:=q.Hi:Span}:Ud})) (l:=p.1) YR ak Z E9) ?_;refine Fg 2 Z Z (DSs 8 Z (D 7 Z ?_));refine DS.v (x:=(I (if p.2.1<q.Position then q.Position else p.2.1))) (OpV.max Z Z Z Z) ?_;exact Eh Z (Gl 4 Z R [0,1,2,3,4,5])
   exact YJ 1 Z R [0,1,2,3,4,5]
  exact Gx 2 Z (Ef V (Gc 4 Z (Qi N (Lr [0,1,2,3,4,5]))))
 refine Gx 1 Z (Ef V (Gc 21 Z (Lg 3 Z Z (Bd h λX bm h=>Cg X [1,2,3,4,5,0,6] [] (λ_=>[(12,.ptr 0 0)]) (λX=>[(0,.cells 84 [.ptr 1 0]),(1,.cells 121 [.str a.Name,.rsl 2 (map Mat.c a.Mats),.rsl 4 (map Leg.c a.Legs),.rsl 5 (map Distance.c a.Distances),.rsl 2 (map Wave.c a.Waves),.rsl 4 (map Offence.c a.Offences),.rsl 3 (map Category.c a.Categories),.rsl 4 (map Prize.c a.Prizes),.rsl 8 (map Step.enc a.Ties),I a.Faults.Misses,I a.Faults.Strays,I a.Faults.Window,I a.Faults.Residual,I a.Faults.Drift,I a.Fee,I a.Deadline,.rsl 3 (map Segment.c d.Segments),.rsl 1 (map (QN 1 (Qe .i64)) d.Far),.rsl 1 (map (Qe .i64) j.1),.osl 2 0 X.length 2,.rsl 5 (map Hit.c E),.osl 3 0 g.length 3,.map 4,.fn (.func 72) [] [.ptr 0 0,.ptr 5 0,.ptr 6 0],I B.2]),(2,.row 55 2 (map Span.c X)),(6,.cells 37 (Clocks.c d))]) Zf ?_ ?_))))
 .refine G0 1 Z (Lp [0,2,3,0,4,5,1,6] [6,12,27,215,216] (λf=>[(217,I f.2.2)]) (λf=>[(1,.cells 84 [.ptr 2 0]),(2,.cells 121 [.str a.Name,.rsl 2 (map Mat.c a.Mats),.rsl 4 (map Leg.c a.Legs),.rsl 5 (map Distance.c a.Distances),.rsl 2 (map Wave.c a.Waves),.rsl 4 (map Offence.c a.Offences),.rsl 3 (map Category.c a.Categories),.rsl 4 (map Prize.c a.Prizes),.rsl 8 (map Step.enc a.Ties),I a.Faults.Misses,I a.Faults.Strays,I a.Faults.Window,I a.Faults.Residual,I a.Faults.Drift,I a.Fee,I a.Deadline,.rsl 3 (map Segment.c d.Segments),.rsl 1 (map (QN 1 (Qe .i64)) d.Far),.rsl 1 (map (Qe .i64) j.1),.osl 3 0 f.1.length 2,.rsl 5 (map Hit.c E),.osl 4 0 g.length 3,.map 5,.fn (.func 72) [] [.ptr 1 0,.ptr 0 0,.ptr 6 0],I B.2]),(3,.row 55 2 (map Span.c f.1)),(7,.cells 55 [I f.2.1.Lo,I f.2.1.Hi])]) bm Zf ?_ ?_)
  .refine Eo (YK (i:=3) (m:=19) (t:=55) (k:=2) Z Z Z) ?_;exact Lr [0,2,3,7,4,5,1,6]
  intro f cd F al;refine G0 6 Z (QV Z F (λam F=>?_) (λam F=>?_))
  .exact Gc 2 Z (Qk F (Gx 1 Z (cQo al F (Lr [1,2,3,4,5,0,6]))))
  refine Gc 7 Z (Bd F λaa an F=>Iz an Z (Go 14 Z (Bd F λu L F=>Cg u [0,1,2,3,4,5,6,7] [6,12,27,215,216,217] Ze (λu=>[(7,.cells 55 [I u.Lo,I u.Hi])]) Zf ?_ ?_)))
  .refine G0 0 Z (Cn Z L (λao L=>?_) (λao L=>?_))
   .refine Gc 5 Z (Cz [1,8,9,2,3,4,5,0,6] L (k_em _ _ _ _ _ _ _ _ _ _ _ _ _ _) Z λah bv L=>Go 3 Z ?_);obtain⟨M,aq,L⟩:=Yh L;obtain⟨T,ad,L⟩:=Yh L;refine QY 20 0 [228,229,230,231,232,233,234,235,236,237,238,239,240,241,242,243,244,245,246,1000019] [false,false,false,false,false,false,false,false,false,false,false,false,false,false,false,false,false,false,false,true] [[],[],[],[],[],[],[],[],[],[],[],[],[],[],[],[],[],[],[],[]] [[],[19]] [[(0,0)],[(0,0)],[(0,0)],[(0,0)],[(0,0)],[(0,0)],[(0,0)],[(0,0)],[(0,0)],[(0,0)],[(0,0)],[(0,0),(1,1)],[(0,0),(1,1)],[(0,0),(1,1)],[(0,0),(1,1)],[(0,0),(1,1)],[(0,0),(1,1)],[(0,0),(1,1)],[(0,0)],[(0,1)]] [.ptr 7 0,I f.2.1.Lo,.ptr 0 2,.rsl 4 (map Leg.c a.Legs),I ah,.rp [I M.From,I M.To,I M.Min,I M.Max],.rp [I M.Min,I M.Max],I M.Min,I (i64.wrap (f.2.1.Lo+M.Min)),.ptr 7 1,I f.2.1.Hi,.ptr 0 2,.rsl 4 (map Leg.c a.Legs),I ah,.rp [I T.From,I T.To,I T.Min,I T.Max],.rp [I T.Max],I T.Max,I (i64.wrap (f.2.1.Hi+T.Max)),.ptr 7 0,.any] [[.cells 33 (Course.c a),.cells 84 [.ptr 2 0],.cells 121 [.str a.Name,.rsl 2 (map Mat.c a.Mats),.rsl 4 (map Leg.c a.Legs),.rsl 5 (map Distance.c a.Distances),.rsl 2 (map Wave.c a.Waves),.rsl 4 (map Offence.c a.Offences),.rsl 3 (map Category.c a.Categories),.rsl 4 (map Prize.c a.Prizes),.rsl 8 (map Step.enc a.Ties),I a.Faults.Misses,I a.Faults.Strays,I a.Faults.Window,I a.Faults.Residual,I a.Faults.Drift,I a.Fee,I a.Deadline,.rsl 3 (map Segment.c d.Segments),.rsl 1 (map (QN 1 (Qe .i64)) d.Far),.rsl 1 (map (Qe .i64) j.1),.osl 3 0 f.1.length 2,.rsl 5 (map Hit.c E),.osl 4 0 g.length 3,.map 5,.fn (.func 72) [] [.ptr 1 0,.ptr 0 0,.ptr 6 0],I B.2],.row 55 2 (map Span.c f.1),.row 88 3 (map Ud.c g),.map (Qj (λx=>A.int .i64 x) (λx=>A.agg (Ud.c x)) B.1),.cells 37 (Clocks.c d),.cells 55 [I f.2.1.Lo,I f.2.1.Hi],.cells 3 [I f.2.2],.cells 3 [I aa]],[.cells 33 (Course.c a),.cells 84 [.ptr 2 0],.cells 121 [.str a.Name,.rsl 2 (map Mat.c a.Mats),.rsl 4 (map Leg.c a.Legs),.rsl 5 (map Distance.c a.Distances),.rsl 2 (map Wave.c a.Waves),.rsl 4 (map Offence.c a.Offences),.rsl 3 (map Category.c a.Categories),.rsl 4 (map Prize.c a.Prizes),.rsl 8 (map Step.enc a.Ties),I a.Faults.Misses,I a.Faults.Strays,I a.Faults.Window,I a.Faults.Residual,I a.Faults.Drift,I a.Fee,I a.Deadline,.rsl 3 (map Segment.c d.Segments),.rsl 1 (map (QN 1 (Qe .i64)) d.Far),.rsl 1 (map (Qe .i64) j.1),.osl 3 0 f.1.length 2,.rsl 5 (map Hit.c E),.osl 4 0 g.length 3,.map 5,.fn (.func 72) [] [.ptr 1 0,.ptr 0 0,.ptr 6 0],I B.2],.row 55 2 (map Span.c f.1),.row 88 3 (map Ud.c g),.map (Qj (λx=>A.int .i64 x) (λx=>A.agg (Ud.c x)) B.1),.cells 37 (Clocks.c d),.cells 55 [I (i64.wrap (f.2.1.Lo+M.Min)),I f.2.1.Hi],.cells 3 [I f.2.2],.cells 3 [I aa]]] ([.cells 33 (Course.c a),.cells 84 [.ptr 2 0],.cells 121 [.str a.Name,.rsl 2 (map Mat.c a.Mats),.rsl 4 (map Leg.c a.Legs),.rsl 5 (map Distance.c a.Distances),.rsl 2 (map Wave.c a.Waves),.rsl 4 (map Offence.c a.Offences),.rsl 3 (map Category.c a.Categories),.rsl 4 (map Prize.c a.Prizes),.rsl 8 (map Step.enc a.Ties),I a.Faults.Misses,I a.Faults.Strays,I a.Faults.Window,I a.Faults.Residual,I a.Faults.Drift,I a.Fee,I a.Deadline,.rsl 3 (map Segment.c d.Segments),.rsl 1 (map (QN 1 (Qe .i64)) d.Far),.rsl 1 (map (Qe .i64) j.1),.osl 3 0 f.1.length 2,.rsl 5 (map Hit.c E),.osl 4 0 g.length 3,.map 5,.fn (.func 72) [] [.ptr 1 0,.ptr 0 0,.ptr 6 0],I B.2],.row 55 2 (map Span.c f.1),.row 88 3 (map Ud.c g),.map (Qj (λx=>A.int .i64 x) (λx=>A.agg (Ud.c x)) B.1),.cells 37 (Clocks.c d),.cells 55 [I (i64.wrap (f.2.1.Lo+M.Min)),I f.2.1.Hi],.cells 3 [I f.2.2],.cells 3 [I aa]]) draws Z Z Z Z Z Z Z ?_ Z ?_
    .refine Qgr.cons (Qb (v0 Z Z) (Qc)) (Qgr.cons (Qb (v0 Z Z) (Qc)) (Qgr.cons (Qb (v0 Z Z) (Qc)) (Qgr.cons (Qb (v0 Z Z) (Qc)) (Qgr.cons (Qb (v0 Z Z) (Qc)) (Qgr.cons ?_ (Qgr.cons (Qb (v0 Z Z) (Qc)) (Qgr.cons (Qb (v0 Z Z) (Qc)) (Qgr.cons ?_ (Qgr.cons (Qb (v0 Z Z) (Qc)) (Qgr.cons (Qb (v0 Z Z) (Qc)) (Qgr.cons (Qb (v0 Z Z) (Qb (v0 Z Z) (Qc))) (Qgr.cons (Qb (v0 Z Z) (Qb (v0 Z Z) (Qc))) (Qgr.cons (Qb (v0 Z Z) (Qb (v0 Z Z) (Qc))) (Qgr.cons ?_ (Qgr.cons (Qb (v0 Z Z) (Qb (v0 Z Z) (Qc))) (Qgr.cons (Qb (v0 Z Z) (Qb (v0 Z Z) (Qc))) (Qgr.cons ?_ (Qgr.cons (Qb (v0 Z Z) (Qc)) (Qgr.cons ?_ (Qgr.nil))))))))))))))))))))
     .refine Qb ?_ (Qc)
      .refine Om Z (sD 3 (sD 4 sN)) ?_;exact Ix aq EV E3 Z Wp
     .refine Qb ?_ (Qc)
      .refine Om Z (sD 1 (sD 7 sN)) ?_;exact S Z Wp
     .refine Qb ?_ (Qb ?_ (Qc))
      iterate 2 refine Om Z (sD 12 (sD 13 sN)) ?_;exact Ix ad EV E3 Z Wp
     .refine Qb ?_ (Qb ?_ (Qc))
      iterate 2 refine Om Z (sD 10 (sD 16 sN)) ?_;exact S Z Wp
     .refine Qb ?_ (Qc)
      .refine Om2 Z (sD 8 (sD 18 sN)) ?_;refine vU (Ey Z Z Z EC Z Z Z Z Z Z Z) ?_;exact FE Z Wp
    exact Gl 3 Z L [0,1,2,3,4,5,6,7]
   exact YJ 1 Z L [0,1,2,3,4,5,6,7]
  obtain⟨ab,ar,F⟩:=Yh F;refine QY 8 0 [248,249,250,251,252,253,254,255] [false,false,false,false,false,false,false,true] [[],[],[],[],[],[],[],[]] [[],[7]] [[(0,0),(1,1)],[(0,0)],[(0,0)],[(0,0)],[(0,0)],[(0,0)],[(0,0)],[(0,1)]] [.ptr 2 0,.ptr 2 0,.ptr 2 0,.ptr 2 19,.osl 3 0 f.1.length 2,.agg [I u.Lo,I u.Hi],.rsl 2 (map Span.c [{Lo:=u.Lo,Hi:=u.Hi:Span}]),.osl 8 0 ab.length 2] [[.cells 33 (Course.c a),.cells 84 [.ptr 2 0],.cells 121 [.str a.Name,.rsl 2 (map Mat.c a.Mats),.rsl 4 (map Leg.c a.Legs),.rsl 5 (map Distance.c a.Distances),.rsl 2 (map Wave.c a.Waves),.rsl 4 (map Offence.c a.Offences),.rsl 3 (map Category.c a.Categories),.rsl 4 (map Prize.c a.Prizes),.rsl 8 (map Step.enc a.Ties),I a.Faults.Misses,I a.Faults.Strays,I a.Faults.Window,I a.Faults.Residual,I a.Faults.Drift,I a.Fee,I a.Deadline,.rsl 3 (map Segment.c d.Segments),.rsl 1 (map (QN 1 (Qe .i64)) d.Far),.rsl 1 (map (Qe .i64) j.1),.osl 3 0 f.1.length 2,.rsl 5 (map Hit.c E),.osl 4 0 g.length 3,.map 5,.fn (.func 72) [] [.ptr 1 0,.ptr 0 0,.ptr 6 0],I B.2],.row 55 2 (map Span.c f.1),.row 88 3 (map Ud.c g),.map (Qj (λx=>A.int .i64 x) (λx=>A.agg (Ud.c x)) B.1),.cells 37 (Clocks.c d),.cells 55 [I u.Lo,I u.Hi]],[.cells 33 (Course.c a),.cells 84 [.ptr 2 0],.cells 121 [.str a.Name,.rsl 2 (map Mat.c a.Mats),.rsl 4 (map Leg.c a.Legs),.rsl 5 (map Distance.c a.Distances),.rsl 2 (map Wave.c a.Waves),.rsl 4 (map Offence.c a.Offences),.rsl 3 (map Category.c a.Categories),.rsl 4 (map Prize.c a.Prizes),.rsl 8 (map Step.enc a.Ties),I a.Faults.Misses,I a.Faults.Strays,I a.Faults.Window,I a.Faults.Residual,I a.Faults.Drift,I a.Fee,I a.Deadline,.rsl 3 (map Segment.c d.Segments),.rsl 1 (map (QN 1 (Qe .i64)) d.Far),.rsl 1 (map (Qe .i64) j.1),.osl 3 0 f.1.length 2,.rsl 5 (map Hit.c E),.osl 4 0 g.length 3,.map 5,.fn (.func 72) [] [.ptr 1 0,.ptr 0 0,.ptr 6 0],I B.2],.dead,.row 88 3 (map Ud.c g),.map (Qj (λx=>A.int .i64 x) (λx=>A.agg (Ud.c x)) B.1),.cells 37 (Clocks.c d),.cells 55 [I u.Lo,I u.Hi],.row 55 2 (map Span.c ab)]] ([.cells 33 (Course.c a),.cells 84 [.ptr 2 0],.cells 121 [.str a.Name,.rsl 2 (map Mat.c a.Mats),.rsl 4 (map Leg.c a.Legs),.rsl 5 (map Distance.c a.Distances),.rsl 2 (map Wave.c a.Waves),.rsl 4 (map Offence.c a.Offences),.rsl 3 (map Category.c a.Categories),.rsl 4 (map Prize.c a.Prizes),.rsl 8 (map Step.enc a.Ties),I a.Faults.Misses,I a.Faults.Strays,I a.Faults.Window,I a.Faults.Residual,I a.Faults.Drift,I a.Fee,I a.Deadline,.rsl 3 (map Segment.c d.Segments),.rsl 1 (map (QN 1 (Qe .i64)) d.Far),.rsl 1 (map (Qe .i64) j.1),.osl 3 0 f.1.length 2,.rsl 5 (map Hit.c E),.osl 4 0 g.length 3,.map 5,.fn (.func 72) [] [.ptr 1 0,.ptr 0 0,.ptr 6 0],I B.2],.dead,.row 88 3 (map Ud.c g),.map (Qj (λx=>A.int .i64 x) (λx=>A.agg (Ud.c x)) B.1),.cells 37 (Clocks.c d),.cells 55 [I u.Lo,I u.Hi],.row 55 2 (map Span.c ab)]) draws Z Z Z Z Z Z Z ?_ Z ?_
  .refine Qgr.cons (Qb (v0 Z Z) (Qb (v0 Z Z) (Qc))) (Qgr.cons (Qb (v0 Z Z) (Qc)) (Qgr.cons ?_ (Qgr.cons (Qb (v0 Z Z) (Qc)) (Qgr.cons (Qb (v0 Z Z) (Qc)) (Qgr.cons (Qb (v0 Z Z) (Qc)) (Qgr.cons ?_ (Qgr.cons ?_ (Qgr.nil))))))))
   .refine Qb ?_ (Qc)
    .refine Om Z (sD 1 sN) ?_;exact S Z Wp
   .refine Qb ?_ (Qc)
    .refine Om Z (sD 5 sN) ?_;refine vH (YY (xs:=[.tmp 253]) (es:=map Span.c [{Lo:=u.Lo,Hi:=u.Hi:Span}]) Qhm Z Z Z Z Z ⟨Z,trivial⟩ Z Z) ?_;exact FE Z Wp
   .refine Qb ?_ (Qc)
    .refine Om1 Z (sD 4 (sD 6 sN)) ?_;refine vH (QR (e:=Span.c) ar Qhm EP Qie) ?_;exact FE Z Wp
  exact Go 10 Z (Qi F (Lr [0,1,2,8,4,5,6,7]))
 refine Gc 8 Z ?_;obtain rfl:=Oi h;exact Rx [1,2,3,4,0,5,6] [12,13] Z (Qg Z Z (Qif.cons (Q4 Gf Z Z) (Qif.cons QcX.tmp Qif.nil))) ⟨Z,Z⟩
def F_cm(n:Nat):Option Unit:=some ()
theorem k_cm(n:Nat):Kq (F_cm n) 42 [] [] (λ_=>.agg [I (-1),I 0,I 0,I 0,I 0]) (λ_=>[.cells 128 [I (-1),I 0,I 0,I 0,I 0]]):=by
 refine Kg 12 func42 Z Z Z Z λr h=>?_;obtain rfl:=Oi h;exact Rx [0] [0] Z (QL Z (Qf isAgg128 Gn Z Z Z)) ⟨Z,Z⟩
def F_lp(n:Nat)(f:List (Int×Int))(e:Int)(a:Int×Int):Option (Ctl Int Int):=(some (QB f a.1 0)).bind λd=>some (.cont (i64.wrap (e+(if 0<i64.wrap (a.2-d)then i64.wrap (a.2-d)else 0))))
def F_lj(n:Nat)(a:Int):Option Int:=some a
def F_ip(n:Nat)(d:List (Int×Int))(e:List (Int×Int)):Option Int:=anyP (λp39=>(QhJ (F_lp n e) (F_lj n) 0 p39).bind λa=>some a) d
theorem k_ip(n:Nat)(f:List (Int×Int))(d:List (Int×Int)):Ks (F_ip n f d) 36 [.ptr 0 0,.ptr 1 0] [.cells 122 [.map 2],.cells 122 [.map 3],.fmap (Qj (λx=>A.int .i64 x) (λx=>A.int .i64 x) f),.fmap (Qj (λx=>A.int .i64 x) (λx=>A.int .i64 x) d)] (λr=>I r):=by
 refine Kg 9 func36 Z Z Z Z λr h=>vH (Qig EH) ?_;refine Fg 2 Z Z ?_;have y:=QmL h;have s:QhD _ _ _ _ _:=λp hp=>Yh (y p hp);refine QmO s (λg=>[(2,I g)]) (λg=>[.cells 122 [.map 2],.cells 122 [.map 3],.fmap (Qj (λx=>A.int .i64 x) (λx=>A.int .i64 x) f),.fmap (Qj (λx=>A.int .i64 x) (λx=>A.int .i64 x) d)]) ?_ (λg env H z B=>?_)
 .refine G0 1 Z ?_;refine QlE (enc:=(λp=>((λx=>A.int .i64 x) p.1,(λx=>A.int .i64 x) p.2))) (λj=>[(1,.ptr 1 0),(2,I j),(6,.ptr 4 0)]) (λj t=>[.cells 122 [.map 2],.cells 122 [.map 3],.fmap (Qj (λx=>A.int .i64 x) (λx=>A.int .i64 x) f),.fmap (Qj (λx=>A.int .i64 x) (λx=>A.int .i64 x) d),.iter none t]) s ?_ ?_
  .exact Lr [0,1,2,3,4]
  intro j t E;refine G0 2 Z ?_;refine QlB (enc:=(λp=>((λx=>A.int .i64 x) p.1,(λx=>A.int .i64 x) p.2))) E (λL F G=>?_) (λa u M m N J=>?_)
  .refine Go 7 Z (Qns ?_);cases F;exact Gx 1 Z (cutGN G (Lr [0,1,2,3]))
  refine aV (.tup [.bool true,I a.1,I a.2]) [.cells 122 [.map 2],.cells 122 [.map 3],.fmap (Qj (λx=>A.int .i64 x) (λx=>A.int .i64 x) f),.fmap (Qj (λx=>A.int .i64 x) (λx=>A.int .i64 x) d),.iter (some (I a.1,I a.2)) (map (λp=>((λx=>A.int .i64 x) p.1,(λx=>A.int .i64 x) p.2)) u)] Z Z ?_;refine Go 10 Z ?_;refine vX (.tup [I a.1,I a.2]) (OpV.entry (e:=(I a.1,I a.2))) ?_;refine Go 11 Z (Bd m λq w m=>?_);refine vX (I q) (Qj2 (ev:=(λx=>A.int .i64 x)) (z0:=0) (k:=a.1) (l:=d) YR w EH EN Ep) ?_;refine Go 1 Z ?_;refine vX (I (if 0<i64.wrap (a.2-q)then i64.wrap (a.2-q)else 0)) (OpV.max Z Z Z Z) ?_;refine Go 4 Z (Qnt _ _ m J ?_);refine Eo (Qj9 (i:=4) (H':=[.cells 122 [.map 2],.cells 122 [.map 3],.fmap (Qj (λx=>A.int .i64 x) (λx=>A.int .i64 x) f),.fmap (Qj (λx=>A.int .i64 x) (λx=>A.int .i64 x) d),.iter none (map (λp=>((λx=>A.int .i64 x) p.1,(λx=>A.int .i64 x) p.2)) u)]) Z Z) ?_;exact Lr [0,1,2,3,4]
 exact Gx 1 Z (Ef B (QC 7 Z z 2 [0,1,2,3]))
def F_je(n:Nat)(a:List Int):Option (List Int):=QkI a (some []) ((app ([]:List Int) a).bind λd=>some d)
theorem k_je(n:Nat)(a:List Int):Kq (F_je n a) 39 [.osl 0 0 a.length 1] [.row 3 1 (map (Qe .i64) a)] (λr=>.osl 1 0 r.length 1) (λr=>[.row 3 1 (map (Qe .i64) a),.row 3 1 (map (Qe .i64) r)]):=by
 refine Kg 9 func39 Z Z Z Z λr h=>?_;refine QjP (l:=a) Gs Z (λd f=>?_);have hkb1:=QkH h d f;cases d
 .have h:=hkb1.2 Z;refine Go 7 Z (vH (El (xs:=[]) (es:=map (Qe .i64) []) QE Z Z Z Z Z trivial Z Z) ?_);refine Fg 1 Z Z (Bd h λj g h=>vH (QR (e:=(Qe .i64)) g QE EB (YP (i:=0))) ?_);exact FE Z (Gt 4 Z h 2 [0,2])
 .have h:=hkb1.1 Z;refine Go 10 Z ?_;obtain rfl:=Oi h;refine R1 2 Z ?_;refine Eo (Et (s:=2) (k:=1) (t:=3) (XR Z) Z) ?_;exact Lr [0,1]
def F_ai(n:Nat)(d:Int)(e:Int)(l:Course)(m:Clocks)(p:List Int)(q:List Span)(r:List Hit)(f:List Ud)(s:Int)(a:List (Int×Ud))(j:Course)(k:Clocks):Option (Ud×Bool):=(some (QB a d ({segment:=0,span:={Lo:=0,Hi:=0:Span}:Ud}))).bind λg=>((bif Y2 a d then some true else some (decide (e<0))):Option Bool).bind λh=>(bif h then some (g,Y2 a d)else(idx f e).bind λi=>some (i,true))
theorem k_ai(n:Nat)(g:Int)(w:Int)(i:Course)(j:Clocks)(m:List Int)(p:List Span)(q:List Hit)(s:List Ud)(t:Int)(a:List (Int×Ud))(d:Course)(e:Clocks):Kq (F_ai n g w i j m p q s t a d e) 31 [.ptr 0 0,I g,I w] [.cells 121 (match_task.tc i j m p q s (.map 1) (.fn (.func 72) [] [.ptr 2 0,.ptr 3 0,.ptr 4 0]) t),.map (Qj (λx=>A.int .i64 x) (λx=>A.agg (Ud.c x)) a),.cells 84 [.ptr 0 0],.cells 33 (Course.c d),.cells 37 (Clocks.c e)] (λr=>.tup [.agg (Ud.c r.1),.bool r.2]) (λr=>[.cells 121 (match_task.tc i j m p q s (.map 1) (.fn (.func 72) [] [.ptr 2 0,.ptr 3 0,.ptr 4 0]) t),.map (Qj (λx=>A.int .i64 x) (λx=>A.agg (Ud.c x)) a),.cells 84 [.ptr 0 0],.cells 33 (Course.c d),.cells 37 (Clocks.c e),.cells 88 (Ud.c r.1)]):=by
 refine Kg 14 func31 Z Z Z Z λr h=>Bd h λF y h=>?_;refine vX (.tup [.agg (Ud.c F),.bool (Y2 a g)]) (Qbt (ev:=(λx=>A.agg (Ud.c x))) (z0:=({segment:=0,span:={Lo:=0,Hi:=0:Span}:Ud})) (k:=g) (l:=a) YR y E9 E6 (zrC Z)) ?_;refine Go 8 Z (Bd h λu f h=>Cg u [0,1,2,3,4,5] [0,2,6,7] (λu=>[(21,.bool u)]) Ze Zf ?_ ?_)
 .refine G0 3 Z (Is 18 f Z (λz f=>?_) (λz f=>?_))
  iterate 2 exact Gl 4 Z f [0,1,2,3,4,5]
 refine Cn Z h (λB h=>?_) (λB h=>?_)
 .refine Gc 10 Z ?_;obtain rfl:=Oi h;exact Rx [0,1,2,3,4,5] [6,7] Z (Qg Z Z (Qif.cons (Qf isAgg88 Gg Z Z Z) (Qif.cons QcX.tmp Qif.nil))) ⟨Z,Z⟩
 refine Gc 9 Z (Bd h λG E h=>Iz E Z (Go 6 Z ?_));obtain rfl:=Oi h;exact Rx [0,1,2,3,4,5] [6,7] Z (Qg Z Z (Qif.cons (Qf isAgg88 Gg Z Z Z) (Qif.cons QcX.tmp Qif.nil))) ⟨Z,Z⟩
def F_bl(n:Nat)(e:Course)(f:Clocks)(d:Int)(a:Span):Option (Span×Int):=(F_d n e).bind λh=>(bif (h != 0)then some ({Lo:=0,Hi:=0:Span},h)else(F_ax n f).bind λi=>(bif (i != 0)then some ({Lo:=0,Hi:=0:Span},i)else((bif decide (d<(-1))then some true else(bif decide ((f.Segments.length:Int)<=d)then some true else(F_o n a.Lo).bind λj=>(bif (!j)then some true else(F_o n a.Hi).bind λk=>(bif (!k)then some true else some (decide (a.Hi<a.Lo)))))):Option Bool).bind λl=>(bif l then some ({Lo:=0,Hi:=0:Span},1)else(bif decide (d<0)then some ({Lo:=a.Lo,Hi:=i64.wrap (a.Hi+e.Faults.Residual):Span},0)else(idx f.Segments d).bind λg=>(F_az n e g.Mat).bind λm=>(bif (!m)then some ({Lo:=0,Hi:=0:Span},1)else(F_ae n e g a.Lo).bind λp=>(idx f.Far (i64.wrap (d+1))).bind λq=>(idx q 0).bind λr=>(F_ae n e g a.Hi).bind λs=>(idx f.Far 0).bind λt=>(idx t (i64.wrap (d+1))).bind λu=>some ({Lo:=i64.wrap ((i64.wrap (a.Lo+p.Lo))-r),Hi:=i64.wrap ((i64.wrap (a.Hi+s.Hi))+u):Span},0))))))
theorem k_bl(n:Nat)(i:Course)(j:Clocks)(u:Int)(e:Span):Kq (F_bl n i j u e) 73 [.agg (Course.c i),.agg (Clocks.c j),I u,.agg [I e.Lo,I e.Hi]] [] (λr=>.tup [.agg [I r.1.Lo,I r.1.Hi],I r.2]) (λr=>[.cells 55 [I r.1.Lo,I r.1.Hi]]):=by
 refine Kg 13 func73 Z Z Z Z λr h=>Cz [] h (k_d _ _) Z λr1 T h=>Go 9 Z (Cn Z h (λN h=>?_) (λN h=>?_))
 .refine Gc 10 Z ?_;obtain rfl:=Oi h;exact Rx [3] [8,9] Z (Qg Z Z (Qif.cons (Qf EG ED Z Z Z) (Qif.cons QcX.tmp Qif.nil))) ⟨Z,Z⟩
 refine Gc 6 Z (Cz [] h (k_ax _ _) Z λr3 V h=>Go 9 Z (Cn Z h (λO h=>?_) (λO h=>?_)))
 .refine Gc 10 Z ?_;obtain rfl:=Oi h;exact Rx [3] [8,9] Z (Qg Z Z (Qif.cons (Qf EG ED Z Z Z) (Qif.cons QcX.tmp Qif.nil))) ⟨Z,Z⟩
 refine Gc 5 Z (Bd h λq a h=>Cg q [0,1,2,3] [2,4,5,7,8] (λq=>[(24,.bool q)]) Ze Zf ?_ ?_)
 .refine G0 4 Z (Is 27 a Z (λy a=>?_) (λy a=>?_))
  .exact Gl 27 Z a [0,1,2,3]
  .refine Go 3 Z (Lg 3 Z Z (Is 34 a Z (λz a=>?_) (λz a=>?_)))
   .exact Gl 20 Z a [0,1,2,3]
   .refine Go 2 Z (Cz [] a (k_o _ _) Z λW P a=>Go 3 Z (Is 40 a Z (λB a=>?_) (λB a=>?_)))
    .exact Gl 14 Z a [0,1,2,3]
    .refine Go 2 Z (Cz [] a (k_o _ _) Z λX Q a=>Go 3 Z (Is 46 a Z (λE a=>?_) (λE a=>?_)))
     iterate 2 exact Gl 8 Z a [0,1,2,3]
 refine Cn Z h (λF h=>?_) (λF h=>?_)
 .refine Gc 10 Z ?_;obtain rfl:=Oi h;exact Rx [3] [8,9] Z (Qg Z Z (Qif.cons (Qf EG ED Z Z Z) (Qif.cons QcX.tmp Qif.nil))) ⟨Z,Z⟩
 refine Gc 7 Z (Cn Z h (λG h=>?_) (λG h=>?_))
 .refine Gc 18 Z ?_;obtain rfl:=Oi h;exact Rx [3] [8,9] Z (Qg Z Z (Qif.cons (Qf EG ED Z Z Z) (Qif.cons QcX.tmp Qif.nil))) ⟨Z,Z⟩
 refine Gc 8 Z (Bd h λg H h=>Iz H Z (Go 11 Z (Cz [] h (k_az _ _ _) Z λY R h=>Go 3 Z (Cn Z h (λJ h=>?_) (λJ h=>?_)))))
 .refine Gc 9 Z ?_;obtain rfl:=Oi h;exact Rx [3] [8,9] Z (Qg Z Z (Qif.cons (Qf EG ED Z Z Z) (Qif.cons QcX.tmp Qif.nil))) ⟨Z,Z⟩
 refine Gc 10 Z ?_;obtain⟨d,L,h⟩:=Yh h;obtain⟨w,k,h⟩:=Yh h;obtain⟨s,l,h⟩:=Yh h;obtain⟨f,M,h⟩:=Yh h;obtain⟨x,m,h⟩:=Yh h;obtain⟨t,p,h⟩:=Yh h;refine QY 34 0 [79,80,81,82,83,84,85,86,87,88,89,90,91,92,93,94,95,96,97,98,99,100,101,102,103,104,105,106,107,108,109,110,111,112] [false,false,false,false,false,false,true,false,false,false,false,false,false,false,false,false,false,false,false,false,false,false,false,true,false,false,false,false,false,false,false,false,false,false] [[],[],[],[],[],[],[],[6],[6],[],[],[],[],[],[],[],[6],[],[],[],[],[],[],[6],[6,23],[6,23],[],[],[],[],[],[],[],[6,23]] [[],[6],[6,23]] [[(0,0),(1,1),(2,2)],[(0,0),(1,1),(2,2)],[(0,0)],[(0,0)],[(0,0)],[(0,0)],[(0,1)],[(1,1),(2,2)],[(1,1),(2,2)],[(0,0),(1,1),(2,2)],[(0,0),(1,1),(2,2)],[(0,0),(1,1),(2,2)],[(0,0),(1,1),(2,2)],[(0,0),(1,1),(2,2)],[(0,0),(1,1),(2,2)],[(0,0),(1,1),(2,2)],[(1,1),(2,2)],[(0,0),(1,1),(2,2)],[(0,0),(1,1),(2,2)],[(0,0),(1,1)],[(0,0),(1,1)],[(0,0),(1,1)],[(0,0),(1,1)],[(1,2)],[(2,2)],[(2,2)],[(0,0),(1,1),(2,2)],[(0,0),(1,1),(2,2)],[(0,0),(1,1),(2,2)],[(0,0),(1,1),(2,2)],[(0,0),(1,1),(2,2)],[(0,0),(1,1),(2,2)],[(0,0),(1,1),(2,2)],[(2,2)]] [.ptr 2 0,I e.Lo,.agg (Course.c i),.agg (Segment.c g),.ptr 2 0,I e.Lo,.agg [I d.Lo,I d.Hi],I d.Lo,I (i64.wrap (e.Lo+d.Lo)),.ptr 1 1,.rsl 1 (map (QN 1 (Qe .i64)) j.Far),I (i64.wrap (u+1)),.rp [.rsl 1 (map (Qe .i64) w)],.rsl 1 (map (Qe .i64) w),.rp [I s],I s,I (i64.wrap ((i64.wrap (e.Lo+d.Lo))-s)),.ptr 2 1,I e.Hi,.agg (Course.c i),.agg (Segment.c g),.ptr 2 1,I e.Hi,.agg [I f.Lo,I f.Hi],I f.Hi,I (i64.wrap (e.Hi+f.Hi)),.ptr 1 1,.rsl 1 (map (QN 1 (Qe .i64)) j.Far),.rp [.rsl 1 (map (Qe .i64) x)],.rsl 1 (map (Qe .i64) x),I (i64.wrap (u+1)),.rp [I t],I t,I (i64.wrap ((i64.wrap (e.Hi+f.Hi))+t))] [[.cells 33 (Course.c i),.cells 37 (Clocks.c j),.cells 55 [I e.Lo,I e.Hi],.cells 55 [I 0,I 0],.cells 155 (Segment.c g)],[.cells 33 (Course.c i),.cells 37 (Clocks.c j),.cells 55 [I e.Lo,I e.Hi],.cells 55 [I 0,I 0],.cells 155 (Segment.c g),.cells 55 [I d.Lo,I d.Hi]],[.cells 33 (Course.c i),.cells 37 (Clocks.c j),.cells 55 [I e.Lo,I e.Hi],.cells 55 [I 0,I 0],.cells 155 (Segment.c g),.cells 55 [I d.Lo,I d.Hi],.cells 55 [I f.Lo,I f.Hi]]] ([.cells 33 (Course.c i),.cells 37 (Clocks.c j),.cells 55 [I e.Lo,I e.Hi],.cells 55 [I 0,I 0],.cells 155 (Segment.c g),.cells 55 [I d.Lo,I d.Hi],.cells 55 [I f.Lo,I f.Hi]]) draws Z Z Z Z Z Z Z ?_ Z ?_
 .refine Qgr.cons (Qb (v0 Z Z) (Qb (v0 Z Z) (Qb (v0 Z Z) (Qc)))) (Qgr.cons (Qb (v0 Z Z) (Qb (v0 Z Z) (Qb (v0 Z Z) (Qc)))) (Qgr.cons (Qb (v0 Z Z) (Qc)) (Qgr.cons (Qb (v0 Z Z) (Qc)) (Qgr.cons (Qb (v0 Z Z) (Qc)) (Qgr.cons (Qb (v0 Z Z) (Qc)) (Qgr.cons ?_ (Qgr.cons ?_ (Qgr.cons ?_ (Qgr.cons (Qb (v0 Z Z) (Qb (v0 Z Z) (Qb (v0 Z Z) (Qc)))) (Qgr.cons (Qb (v0 Z Z) (Qb (v0 Z Z) (Qb (v0 Z Z) (Qc)))) (Qgr.cons (Qb (v0 Z Z) (Qb (v0 Z Z) (Qb (v0 Z Z) (Qc)))) (Qgr.cons ?_ (Qgr.cons (Qb (v0 Z Z) (Qb (v0 Z Z) (Qb (v0 Z Z) (Qc)))) (Qgr.cons ?_ (Qgr.cons (Qb (v0 Z Z) (Qb (v0 Z Z) (Qb (v0 Z Z) (Qc)))) (Qgr.cons ?_ (Qgr.cons (Qb (v0 Z Z) (Qb (v0 Z Z) (Qb (v0 Z Z) (Qc)))) (Qgr.cons (Qb (v0 Z Z) (Qb (v0 Z Z) (Qb (v0 Z Z) (Qc)))) (Qgr.cons (Qb (v0 Z Z) (Qb (v0 Z Z) (Qc))) (Qgr.cons (Qb (v0 Z Z) (Qb (v0 Z Z) (Qc))) (Qgr.cons (Qb (v0 Z Z) (Qb (v0 Z Z) (Qc))) (Qgr.cons (Qb (v0 Z Z) (Qb (v0 Z Z) (Qc))) (Qgr.cons ?_ (Qgr.cons ?_ (Qgr.cons ?_ (Qgr.cons (Qb (v0 Z Z) (Qb (v0 Z Z) (Qb (v0 Z Z) (Qc)))) (Qgr.cons (Qb (v0 Z Z) (Qb (v0 Z Z) (Qb (v0 Z Z) (Qc)))) (Qgr.cons ?_ (Qgr.cons (Qb (v0 Z Z) (Qb (v0 Z Z) (Qb (v0 Z Z) (Qc)))) (Qgr.cons (Qb (v0 Z Z) (Qb (v0 Z Z) (Qb (v0 Z Z) (Qc)))) (Qgr.cons ?_ (Qgr.cons (Qb (v0 Z Z) (Qb (v0 Z Z) (Qb (v0 Z Z) (Qc)))) (Qgr.cons ?_ (Qgr.nil))))))))))))))))))))))))))))))))))
  .refine Qb ?_ (Qc)
   .refine Om1 Z (sD 2 (sD 3 (sD 5 sN))) ?_;refine Qy [] (OpC.fn call122 Z Z Z) (k_ae _ _ _ _ _ L) ?_;rintro _ _ ⟨rfl,rfl⟩;exact FE Z Wp
  .refine Qb ?_ (Qb ?_ (Qc))
   iterate 2 refine Om Z (sD 6 sN) ?_;refine vX (I d.Lo) (Qaf QdZ EO Z EQ) ?_;exact Wp
  .refine Qb ?_ (Qb ?_ (Qc))
   iterate 2 refine Om Z (sD 1 (sD 7 sN)) ?_;exact S Z Wp
  .refine Qb ?_ (Qb ?_ (Qb ?_ (Qc)))
   iterate 3 refine Om Z (sD 10 (sD 11 sN)) ?_;exact Ix k EF EI Z Wp
  .refine Qb ?_ (Qb ?_ (Qb ?_ (Qc)))
   iterate 3 refine Om Z (sD 13 sN) ?_;exact Ix l EB EC Z Wp
  .refine Qb ?_ (Qb ?_ (Qc))
   iterate 2 refine Om Z (sD 8 (sD 15 sN)) ?_;exact S Z Wp
  .refine Qb ?_ (Qc)
   .refine Om1 Z (sD 19 (sD 20 (sD 22 sN))) ?_;refine Qy [] (OpC.fn call122 Z Z Z) (k_ae _ _ _ _ _ M) ?_;rintro _ _ ⟨rfl,rfl⟩;exact FE Z Wp
  .refine Qb ?_ (Qc)
   .refine Om Z (sD 23 sN) ?_;refine vX (I f.Hi) (Qaf QiI EO Z EQ) ?_;exact Wp
  .refine Qb ?_ (Qc)
   .refine Om Z (sD 18 (sD 24 sN)) ?_;exact S Z Wp
  .refine Qb ?_ (Qb ?_ (Qb ?_ (Qc)))
   iterate 3 refine Om Z (sD 27 sN) ?_;exact Ix m EF EI Z Wp
  .refine Qb ?_ (Qb ?_ (Qb ?_ (Qc)))
   iterate 3 refine Om Z (sD 29 (sD 30 sN)) ?_;exact Ix p EB EC Z Wp
  .refine Qb ?_ (Qc)
   .refine Om Z (sD 25 (sD 32 sN)) ?_;exact S Z Wp
 refine Go 6 Z ?_;obtain rfl:=Oi h;exact Rx [3] [8,9] Z (Qg Z Z (Qif.cons (Qf EG ED Z Z Z) (Qif.cons QcX.tmp Qif.nil))) ⟨Z,Z⟩
def F_bt(n:Nat)(a:Span)(d:Span):Option Unit:=some ()
theorem k_bt(n:Nat)(a:Span)(d:Span):Ks (F_bt n a d) 74 [.agg [I a.Lo,I a.Hi],.agg [I d.Lo,I d.Hi]] [] (λ_=>.bool (decide ((if a.Lo<d.Lo then d.Lo else a.Lo)<=(if d.Hi<a.Hi then d.Hi else a.Hi)))):=by
 refine Kg 13 func74 Z Z Z Z λr h=>?_;refine vX (I (if a.Lo<d.Lo then d.Lo else a.Lo)) (OpV.max Z Z Z Z) ?_;refine Go 4 Z ?_;refine vX (I (if d.Hi<a.Hi then d.Hi else a.Hi)) (OpV.min Z Z Z Z) ?_;exact Gt 5 Z h 4 []
def F_cu(n:Nat)(f:Int)(g:Int)(j:Course)(k:Clocks)(q:Course)(r:Clocks)(s:List Int)(t:List Span)(l:List Hit)(h:List Ud)(p:Int)(e:List (Int×Ud)):Option Bool:=(some (QB e g ({segment:=0,span:={Lo:=0,Hi:=0:Span}:Ud}))).bind λd=>(bif (!(Y2 e g))then some true else(idx l f).bind λi=>(idx h f).bind λm=>(F_bl n j k m.segment ({Lo:=i.First,Hi:=i.Last:Span})).bind λa=>(F_bt n ({Lo:=a.1.Lo,Hi:=a.1.Hi:Span}) d.span).bind λu=>some (decide ((if a.1.Lo<d.span.Lo then d.span.Lo else a.1.Lo)<=(if d.span.Hi<a.1.Hi then d.span.Hi else a.1.Hi))))
theorem k_cu(n:Nat)(E:Int)(y:Int)(i:Course)(j:Clocks)(m:Course)(p:Clocks)(q:List Int)(s:List Span)(t:List Hit)(e:List Ud)(f:Int)(d:List (Int×Ud)):Ks (F_cu n E y i j m p q s t e f d) 72 [I E,I y,.ptr 0 0,.ptr 1 0,.ptr 2 0] [.cells 84 [.ptr 3 0],.cells 33 (Course.c i),.cells 37 (Clocks.c j),.cells 121 (match_task.tc m p q s t e (.map 4) (.fn (.func 72) [] [.ptr 0 0,.ptr 1 0,.ptr 2 0]) f),.map (Qj (λx=>A.int .i64 x) (λx=>A.agg (Ud.c x)) d)] (λr=>.bool r):=by
 refine Kg 12 func72 Z Z Z Z λr h=>Bd h λu F h=>?_;refine vX (.tup [.agg (Ud.c u),.bool (Y2 d y)]) (Qbt (ev:=(λx=>A.agg (Ud.c x))) (z0:=({segment:=0,span:={Lo:=0,Hi:=0:Span}:Ud})) (k:=y) (l:=d) YR F E9 E6 (zrC Z)) ?_;refine Go 15 Z (Cn Z h (λG h=>?_) (λG h=>?_))
 .exact QC 7 Z h 7 [0,1,2,3,4]
 refine Gc 9 Z (Bd h λg H h=>Iz H Z (Go 6 Z ?_));obtain⟨w,z,h⟩:=Yh h;obtain⟨a,B,h⟩:=Yh h;refine QY 21 1 [32,33,34,35,36,37,38,39,40,41,42,43,44,45,46,47,31,48,49,11,1000020] [false,false,false,false,false,false,false,false,false,false,false,false,false,false,false,true,false,false,false,true,true] [[],[],[],[],[],[],[],[],[],[],[],[],[],[],[],[],[15],[15],[15],[],[15,19]] [[],[15],[19],[15,19],[15,19,20]] [[(0,0),(2,2)],[(0,0),(2,2)],[(0,0),(2,2)],[(0,0),(2,2)],[(0,0),(2,2)],[(0,0),(2,2)],[(0,0),(2,2)],[(0,0),(2,2)],[(0,0),(2,2)],[(0,0),(2,2)],[(0,0),(2,2)],[(0,0),(2,2)],[(0,0),(2,2)],[(0,0),(2,2)],[(0,0),(2,2)],[(0,1),(2,3)],[(1,1),(3,3)],[(1,1),(3,3)],[(1,1),(3,3),(4,4)],[(0,2),(1,3)],[(3,4)]] [.agg (Course.c i),.agg (Clocks.c j),.ptr 3 0,.ptr 3 0,.ptr 3 21,.rsl 3 (map Ud.c e),I E,.rp [I w.segment,I w.span.Lo,I w.span.Hi],.rp [I w.segment,I w.span.Lo,I w.span.Hi],I w.segment,.ptr 6 3,I g.First,.ptr 6 4,I g.Last,.agg [I g.First,I g.Last],.tup [.agg [I a.1.Lo,I a.1.Hi],I a.2],.tup [.agg [I a.1.Lo,I a.1.Hi],I a.2],.agg [I a.1.Lo,I a.1.Hi],I a.2,.ptr 7 0,.any] [[.cells 84 [.ptr 3 0],.cells 33 (Course.c i),.cells 37 (Clocks.c j),.cells 121 (match_task.tc m p q s t e (.map 4) (.fn (.func 72) [] [.ptr 0 0,.ptr 1 0,.ptr 2 0]) f),.map (Qj (λx=>A.int .i64 x) (λx=>A.agg (Ud.c x)) d),.cells 88 (Ud.c u),.cells 65 (Hit.c g),.dead],[.cells 84 [.ptr 3 0],.cells 33 (Course.c i),.cells 37 (Clocks.c j),.cells 121 (match_task.tc m p q s t e (.map 4) (.fn (.func 72) [] [.ptr 0 0,.ptr 1 0,.ptr 2 0]) f),.map (Qj (λx=>A.int .i64 x) (λx=>A.agg (Ud.c x)) d),.cells 88 (Ud.c u),.cells 65 (Hit.c g),.dead,.cells 55 [I a.1.Lo,I a.1.Hi]],[.cells 84 [.ptr 3 0],.cells 33 (Course.c i),.cells 37 (Clocks.c j),.cells 121 (match_task.tc m p q s t e (.map 4) (.fn (.func 72) [] [.ptr 0 0,.ptr 1 0,.ptr 2 0]) f),.map (Qj (λx=>A.int .i64 x) (λx=>A.agg (Ud.c x)) d),.cells 88 (Ud.c u),.cells 65 (Hit.c g),.cells 55 [I 0,I 0]],[.cells 84 [.ptr 3 0],.cells 33 (Course.c i),.cells 37 (Clocks.c j),.cells 121 (match_task.tc m p q s t e (.map 4) (.fn (.func 72) [] [.ptr 0 0,.ptr 1 0,.ptr 2 0]) f),.map (Qj (λx=>A.int .i64 x) (λx=>A.agg (Ud.c x)) d),.cells 88 (Ud.c u),.cells 65 (Hit.c g),.cells 55 [I 0,I 0],.cells 55 [I a.1.Lo,I a.1.Hi]],[.cells 84 [.ptr 3 0],.cells 33 (Course.c i),.cells 37 (Clocks.c j),.cells 121 (match_task.tc m p q s t e (.map 4) (.fn (.func 72) [] [.ptr 0 0,.ptr 1 0,.ptr 2 0]) f),.map (Qj (λx=>A.int .i64 x) (λx=>A.agg (Ud.c x)) d),.cells 88 (Ud.c u),.cells 65 (Hit.c g),.cells 55 [I a.1.Lo,I a.1.Hi],.cells 55 [I a.1.Lo,I a.1.Hi]]] ([.cells 84 [.ptr 3 0],.cells 33 (Course.c i),.cells 37 (Clocks.c j),.cells 121 (match_task.tc m p q s t e (.map 4) (.fn (.func 72) [] [.ptr 0 0,.ptr 1 0,.ptr 2 0]) f),.map (Qj (λx=>A.int .i64 x) (λx=>A.agg (Ud.c x)) d),.cells 88 (Ud.c u),.cells 65 (Hit.c g),.cells 55 [I a.1.Lo,I a.1.Hi],.cells 55 [I a.1.Lo,I a.1.Hi]]) draws Z Z Z Z Z Z Z ?_ Z ?_
 .refine Qgr.cons (Qb (v0 Z Z) (Qb (v0 Z Z) (Qc))) (Qgr.cons (Qb (v0 Z Z) (Qb (v0 Z Z) (Qc))) (Qgr.cons (Qb (v0 Z Z) (Qb (v0 Z Z) (Qc))) (Qgr.cons ?_ (Qgr.cons (Qb (v0 Z Z) (Qb (v0 Z Z) (Qc))) (Qgr.cons (Qb (v0 Z Z) (Qb (v0 Z Z) (Qc))) (Qgr.cons (Qb (v0 Z Z) (Qb (v0 Z Z) (Qc))) (Qgr.cons ?_ (Qgr.cons (Qb (v0 Z Z) (Qb (v0 Z Z) (Qc))) (Qgr.cons (Qb (v0 Z Z) (Qb (v0 Z Z) (Qc))) (Qgr.cons (Qb (v0 Z Z) (Qb (v0 Z Z) (Qc))) (Qgr.cons (Qb (v0 Z Z) (Qb (v0 Z Z) (Qc))) (Qgr.cons (Qb (v0 Z Z) (Qb (v0 Z Z) (Qc))) (Qgr.cons (Qb (v0 Z Z) (Qb (v0 Z Z) (Qc))) (Qgr.cons (Qb (v0 Z Z) (Qb (v0 Z Z) (Qc))) (Qgr.cons ?_ (Qgr.cons (Qb (v0 Z Z) (Qb (v0 Z Z) (Qc))) (Qgr.cons (Qb (v0 Z Z) (Qb (v0 Z Z) (Qc))) (Qgr.cons (Qb (v0 Z Z) (Qb (v0 Z Z) (Qb (v0 Z Z) (Qc)))) (Qgr.cons ?_ (Qgr.cons ?_ (Qgr.nil)))))))))))))))))))))
  .refine Qb ?_ (Qb ?_ (Qc))
   iterate 2 refine Om Z (sD 2 sN) ?_;exact S Z Wp
  .refine Qb ?_ (Qb ?_ (Qc))
   iterate 2 refine Om Z (sD 5 (sD 6 sN)) ?_;exact Ix z Ga Gg Z Wp
  .refine Qb ?_ (Qb ?_ (Qc))
   iterate 2 refine Om1 Z (sD 0 (sD 1 (sD 9 (sD 14 sN)))) ?_;refine Qy [] (OpC.fn call73 Z Z Z) (k_bl _ _ _ _ _ _ B) ?_;rintro _ _ ⟨rfl,rfl⟩;exact FE Z Wp
  .refine Qb ?_ (Qb ?_ (Qc))
   iterate 2 exact Jm.alloc _ 11 55 7 _ Z Z Z Z Z Z Z (OpZ.alloc (v:=(.agg [I 0,I 0])) E7 (zrC Z)) Z
  .refine Qb ?_ (Qc)
   .refine Om2 Z (sD 19 (sD 17 sN)) ?_;refine vU (Ey Z Z Z ED Z Z Z Z Z Z Z) ?_;exact FE Z Wp
 exact Go 8 Z (Cz [] h (k_bt _ _ _) Z λL J h=>Gt 4 Z h 7 [0,1,2,3,4])
def F_aj(n:Nat)(d:Int)(e:Int)(m:Course)(p:Clocks)(q:List Int)(a:List Span)(r:List Hit)(s:List Ud)(t:Int)(j:List (Int×Ud))(k:Course)(l:Clocks):Option Span:=(idx a e).bind λf=>(idx a d).bind λg=>(idx a e).bind λh=>(idx a d).bind λi=>some ({Lo:=(if i64.wrap (f.Lo-g.Lo)<2199023255552 then i64.wrap (f.Lo-g.Lo)else 2199023255552),Hi:=(if i64.wrap (h.Hi-i.Hi)<2199023255552 then i64.wrap (h.Hi-i.Hi)else 2199023255552):Span})
theorem k_aj(n:Nat)(u:Int)(w:Int)(k:Course)(l:Clocks)(m:List Int)(p:List Span)(q:List Hit)(s:List Ud)(t:Int)(a:List (Int×Ud))(d:Course)(e:Clocks):Kq (F_aj n u w k l m p q s t a d e) 32 [.ptr 0 0,I u,I w] [.cells 121 (match_task.tc k l m p q s (.map 1) (.fn (.func 72) [] [.ptr 2 0,.ptr 3 0,.ptr 4 0]) t),.map (Qj (λx=>A.int .i64 x) (λx=>A.agg (Ud.c x)) a),.cells 84 [.ptr 0 0],.cells 33 (Course.c d),.cells 37 (Clocks.c e)] (λr=>.agg [I r.Lo,I r.Hi]) (λr=>[.cells 121 (match_task.tc k l m p q s (.map 1) (.fn (.func 72) [] [.ptr 2 0,.ptr 3 0,.ptr 4 0]) t),.map (Qj (λx=>A.int .i64 x) (λx=>A.agg (Ud.c x)) a),.cells 84 [.ptr 0 0],.cells 33 (Course.c d),.cells 37 (Clocks.c e),.cells 55 [I r.Lo,I r.Hi]]):=by
 refine Kg 6 func32 Z Z Z Z λr h=>DSs 36 Z (D 5 Z ?_);obtain⟨f,y,h⟩:=Yh h;refine DS.wo (x:=.rp [I f.Lo,I f.Hi]) ?_ ?_
 .exact Ix y EP ED Z Wp
 refine D 7 Z ?_;obtain⟨g,z,h⟩:=Yh h;refine DS.wo (x:=.rp [I g.Lo,I g.Hi]) ?_ ?_
 .exact Ix z EP ED Z Wp
 refine D 3 Z ?_;refine DS.v (x:=(I (if i64.wrap (f.Lo-g.Lo)<2199023255552 then i64.wrap (f.Lo-g.Lo)else 2199023255552))) (OpV.min Z Z Z Z) ?_;refine D 5 Z ?_;obtain⟨i,B,h⟩:=Yh h;refine DS.wo (x:=.rp [I i.Lo,I i.Hi]) ?_ ?_
 .exact Ix B EP ED Z Wp
 refine D 7 Z ?_;obtain⟨j,E,h⟩:=Yh h;refine DS.wo (x:=.rp [I j.Lo,I j.Hi]) ?_ ?_
 .exact Ix E EP ED Z Wp
 refine D 3 Z ?_;refine DS.v (x:=(I (if i64.wrap (i.Hi-j.Hi)<2199023255552 then i64.wrap (i.Hi-j.Hi)else 2199023255552))) (OpV.min Z Z Z Z) ?_;refine Eh Z (Go 5 Z ?_);obtain rfl:=Oi h;exact Rx [0,1,2,3,4,5] [6] Z (QL Z (Qf EG ED Z Z Z)) ⟨Z,Z⟩
def F_bd(n:Nat)(d:Ud)(r:Int)(e:Ud)(s:Int)(t:Course)(g:Clocks)(u:List Int)(w:List Span)(x:List Hit)(h:List Ud)(i:Int)(j:List (Int×Ud))(k:Course)(l:Clocks):Option Bool:=((bif ((i64.wrap (d.segment+1)) != (i64.wrap (e.segment+1)))then(idx g.Far (i64.wrap (e.segment+1))).bind λy=>(idx y (i64.wrap (d.segment+1))).bind λm=>(idx g.Far (i64.wrap (d.segment+1))).bind λp=>(idx p (i64.wrap (e.segment+1))).bind λq=>some ({Lo:=i64.wrap ((i64.wrap (e.span.Lo-d.span.Hi))-m),Hi:=i64.wrap ((i64.wrap (e.span.Hi-d.span.Lo))+q):Span})else some ({Lo:=i64.wrap (e.span.Lo-d.span.Hi),Hi:=i64.wrap (e.span.Hi-d.span.Lo):Span})):Option Span).bind λf=>(F_aj n r s t g u w x h i j k l).bind λa=>(F_bt n ({Lo:=f.Lo,Hi:=f.Hi:Span}) ({Lo:=a.Lo,Hi:=a.Hi:Span})).bind λz=>some (decide ((if f.Lo<a.Lo then a.Lo else f.Lo)<=(if a.Hi<f.Hi then a.Hi else f.Hi)))
theorem k_bd(n:Nat)(a:Ud)(F:Int)(d:Ud)(G:Int)(q:Course)(m:Clocks)(s:List Int)(t:List Span)(u:List Hit)(f:List Ud)(g:Int)(i:List (Int×Ud))(j:Course)(k:Clocks):Ks (F_bd n a F d G q m s t u f g i j k) 82 [.ptr 0 0,.agg (Ud.c a),I F,.agg (Ud.c d),I G] [.cells 121 (match_task.tc q m s t u f (.map 1) (.fn (.func 72) [] [.ptr 2 0,.ptr 3 0,.ptr 4 0]) g),.map (Qj (λx=>A.int .i64 x) (λx=>A.agg (Ud.c x)) i),.cells 84 [.ptr 0 0],.cells 33 (Course.c j),.cells 37 (Clocks.c k)] (λr=>.bool r):=by
 refine Kg 30 func82 Z Z Z Z λr h=>DSs 7 Z (D 7 Z (Eh Z (Go 10 Z (Bd h λl e h=>?_))));refine Cg l [0,1,2,3,4,7] [0,2,4,11] Ze (λl=>[(5,.cells 55 [I l.Lo,I l.Hi])]) Zf ?_ ?_
 .refine G0 0 Z (Cn Z e (λL e=>?_) (λL e=>?_))
  .obtain⟨M,N,e⟩:=Yh e;obtain⟨w,H,e⟩:=Yh e;obtain⟨E,y,e⟩:=Yh e;obtain⟨z,B,e⟩:=Yh e;refine QY 30 0 [38,39,40,41,42,43,44,45,46,47,48,49,50,51,52,53,54,55,56,57,58,59,60,61,62,63,64,65,66,1000029] [false,false,false,false,false,false,false,false,false,false,false,false,false,false,false,false,false,false,false,false,false,false,false,false,false,false,false,false,false,true] [[],[],[],[],[],[],[],[],[],[],[],[],[],[],[],[],[],[],[],[],[],[],[],[],[],[],[],[],[],[]] [[],[29]] [[(0,0)],[(0,0)],[(0,0)],[(0,0)],[(0,0)],[(0,0)],[(0,0)],[(0,0)],[(0,0)],[(0,0)],[(0,0)],[(0,0)],[(0,0)],[(0,0)],[(0,0)],[(0,0)],[(0,0),(1,1)],[(0,0),(1,1)],[(0,0),(1,1)],[(0,0),(1,1)],[(0,0),(1,1)],[(0,0),(1,1)],[(0,0),(1,1)],[(0,0),(1,1)],[(0,0),(1,1)],[(0,0),(1,1)],[(0,0),(1,1)],[(0,0),(1,1)],[(0,0)],[(0,1)]] [.ptr 7 0,I (i64.wrap (d.span.Lo-a.span.Hi)),.ptr 0 0,.ptr 0 0,.ptr 0 16,.ptr 0 17,.rsl 1 (map (QN 1 (Qe .i64)) m.Far),I (i64.wrap (d.segment+1)),.rp [.rsl 1 (map (Qe .i64) M)],.rsl 1 (map (Qe .i64) M),I (i64.wrap (a.segment+1)),.rp [I w],I w,I (i64.wrap ((i64.wrap (d.span.Lo-a.span.Hi))-w)),.ptr 7 1,I (i64.wrap (d.span.Hi-a.span.Lo)),.ptr 0 0,.ptr 0 0,.ptr 0 16,.ptr 0 17,.rsl 1 (map (QN 1 (Qe .i64)) m.Far),I (i64.wrap (a.segment+1)),.rp [.rsl 1 (map (Qe .i64) E)],.rsl 1 (map (Qe .i64) E),I (i64.wrap (d.segment+1)),.rp [I z],I z,I (i64.wrap ((i64.wrap (d.span.Hi-a.span.Lo))+z)),.ptr 7 0,.any] [[.cells 121 (match_task.tc q m s t u f (.map 1) (.fn (.func 72) [] [.ptr 2 0,.ptr 3 0,.ptr 4 0]) g),.map (Qj (λx=>A.int .i64 x) (λx=>A.agg (Ud.c x)) i),.cells 84 [.ptr 0 0],.cells 33 (Course.c j),.cells 37 (Clocks.c k),.cells 88 (Ud.c a),.cells 88 (Ud.c d),.cells 55 [I (i64.wrap (d.span.Lo-a.span.Hi)),I (i64.wrap (d.span.Hi-a.span.Lo))]],[.cells 121 (match_task.tc q m s t u f (.map 1) (.fn (.func 72) [] [.ptr 2 0,.ptr 3 0,.ptr 4 0]) g),.map (Qj (λx=>A.int .i64 x) (λx=>A.agg (Ud.c x)) i),.cells 84 [.ptr 0 0],.cells 33 (Course.c j),.cells 37 (Clocks.c k),.cells 88 (Ud.c a),.cells 88 (Ud.c d),.cells 55 [I (i64.wrap ((i64.wrap (d.span.Lo-a.span.Hi))-w)),I (i64.wrap (d.span.Hi-a.span.Lo))]]] ([.cells 121 (match_task.tc q m s t u f (.map 1) (.fn (.func 72) [] [.ptr 2 0,.ptr 3 0,.ptr 4 0]) g),.map (Qj (λx=>A.int .i64 x) (λx=>A.agg (Ud.c x)) i),.cells 84 [.ptr 0 0],.cells 33 (Course.c j),.cells 37 (Clocks.c k),.cells 88 (Ud.c a),.cells 88 (Ud.c d),.cells 55 [I (i64.wrap ((i64.wrap (d.span.Lo-a.span.Hi))-w)),I (i64.wrap (d.span.Hi-a.span.Lo))]]) draws Z Z Z Z Z Z Z ?_ Z ?_
   .refine Qgr.cons (Qb (v0 Z Z) (Qc)) (Qgr.cons (Qb (v0 Z Z) (Qc)) (Qgr.cons (Qb (v0 Z Z) (Qc)) (Qgr.cons ?_ (Qgr.cons (Qb (v0 Z Z) (Qc)) (Qgr.cons (Qb (v0 Z Z) (Qc)) (Qgr.cons (Qb (v0 Z Z) (Qc)) (Qgr.cons (Qb (v0 Z Z) (Qc)) (Qgr.cons ?_ (Qgr.cons (Qb (v0 Z Z) (Qc)) (Qgr.cons (Qb (v0 Z Z) (Qc)) (Qgr.cons ?_ (Qgr.cons (Qb (v0 Z Z) (Qc)) (Qgr.cons ?_ (Qgr.cons (Qb (v0 Z Z) (Qc)) (Qgr.cons (Qb (v0 Z Z) (Qc)) (Qgr.cons (Qb (v0 Z Z) (Qb (v0 Z Z) (Qc))) (Qgr.cons ?_ (Qgr.cons (Qb (v0 Z Z) (Qb (v0 Z Z) (Qc))) (Qgr.cons (Qb (v0 Z Z) (Qb (v0 Z Z) (Qc))) (Qgr.cons (Qb (v0 Z Z) (Qb (v0 Z Z) (Qc))) (Qgr.cons (Qb (v0 Z Z) (Qb (v0 Z Z) (Qc))) (Qgr.cons ?_ (Qgr.cons (Qb (v0 Z Z) (Qb (v0 Z Z) (Qc))) (Qgr.cons (Qb (v0 Z Z) (Qb (v0 Z Z) (Qc))) (Qgr.cons ?_ (Qgr.cons (Qb (v0 Z Z) (Qb (v0 Z Z) (Qc))) (Qgr.cons ?_ (Qgr.cons (Qb (v0 Z Z) (Qc)) (Qgr.cons ?_ (Qgr.nil))))))))))))))))))))))))))))))
    .refine Qb ?_ (Qc)
     .refine Om Z (sD 2 sN) ?_;exact S Z Wp
    .refine Qb ?_ (Qc)
     .refine Om Z (sD 6 (sD 7 sN)) ?_;exact Ix N EF EI Z Wp
    .refine Qb ?_ (Qc)
     .refine Om Z (sD 9 (sD 10 sN)) ?_;exact Ix H EB EC Z Wp
    .refine Qb ?_ (Qc)
     .refine Om Z (sD 1 (sD 12 sN)) ?_;exact S Z Wp
    .refine Qb ?_ (Qb ?_ (Qc))
     iterate 2 refine Om Z (sD 16 sN) ?_;exact S Z Wp
    .refine Qb ?_ (Qb ?_ (Qc))
     iterate 2 refine Om Z (sD 20 (sD 21 sN)) ?_;exact Ix y EF EI Z Wp
    .refine Qb ?_ (Qb ?_ (Qc))
     iterate 2 refine Om Z (sD 23 (sD 24 sN)) ?_;exact Ix B EB EC Z Wp
    .refine Qb ?_ (Qb ?_ (Qc))
     iterate 2 refine Om Z (sD 15 (sD 26 sN)) ?_;exact S Z Wp
    .refine Qb ?_ (Qc)
     .refine Om2 Z (sD 13 (sD 28 sN)) ?_;refine vU (Ey Z Z Z EC Z Z Z Z Z Z Z) ?_;exact FE Z Wp
   exact Gl 3 Z e [0,1,2,3,4,7]
  exact YJ 1 Z e [0,1,2,3,4,7]
 refine Gc 1 Z ?_;obtain⟨p,J,h⟩:=Yh h;refine QY 5 0 [68,69,70,71,72] [false,false,false,false,true] [[],[],[],[],[]] [[],[4]] [[(0,0),(1,1)],[(0,0)],[(0,0)],[(0,0)],[(0,1)]] [.agg [I l.Lo,I l.Hi],.ptr 0 0,I F,I G,.agg [I p.Lo,I p.Hi]] [[.cells 121 (match_task.tc q m s t u f (.map 1) (.fn (.func 72) [] [.ptr 2 0,.ptr 3 0,.ptr 4 0]) g),.map (Qj (λx=>A.int .i64 x) (λx=>A.agg (Ud.c x)) i),.cells 84 [.ptr 0 0],.cells 33 (Course.c j),.cells 37 (Clocks.c k),.cells 55 [I l.Lo,I l.Hi]],[.cells 121 (match_task.tc q m s t u f (.map 1) (.fn (.func 72) [] [.ptr 2 0,.ptr 3 0,.ptr 4 0]) g),.map (Qj (λx=>A.int .i64 x) (λx=>A.agg (Ud.c x)) i),.cells 84 [.ptr 0 0],.cells 33 (Course.c j),.cells 37 (Clocks.c k),.cells 55 [I l.Lo,I l.Hi],.cells 55 [I p.Lo,I p.Hi]]] ([.cells 121 (match_task.tc q m s t u f (.map 1) (.fn (.func 72) [] [.ptr 2 0,.ptr 3 0,.ptr 4 0]) g),.map (Qj (λx=>A.int .i64 x) (λx=>A.agg (Ud.c x)) i),.cells 84 [.ptr 0 0],.cells 33 (Course.c j),.cells 37 (Clocks.c k),.cells 55 [I l.Lo,I l.Hi],.cells 55 [I p.Lo,I p.Hi]]) draws Z Z Z Z Z Z Z ?_ Z ?_
 .refine Qgr.cons (Qb (v0 Z Z) (Qb (v0 Z Z) (Qc))) (Qgr.cons (Qb (v0 Z Z) (Qc)) (Qgr.cons (Qb (v0 Z Z) (Qc)) (Qgr.cons (Qb (v0 Z Z) (Qc)) (Qgr.cons ?_ (Qgr.nil)))))
  .refine Qb ?_ (Qc)
   .refine Om1 Z (sD 1 (sD 2 (sD 3 sN))) ?_;refine Qy [0,1,2,3,4] (OpC.fn call32 Z Z Z) (k_aj _ _ _ _ _ _ _ _ _ _ _ _ _ _ J) ?_;rintro _ _ ⟨rfl,rfl⟩;exact FE Z Wp
 exact Cz [] h (k_bt _ _ _) Z λP O h=>Gt 4 Z h 10 [0,1,2,3,4]
def F_as(n:Nat)(a:Uf)(h:Int)(r:Int)(i:Course)(j:Clocks)(k:List Int)(l:List Span)(m:List Hit)(p:List Ud)(d:Int)(e:List (Int×Ud))(f:Course)(g:Clocks):Option (Uf×Bool):=(F_ai n h r i j k l m p d e f g).bind λq=>(bif (!q.2)then some ({a with row:=i64.wrap (a.row+1):Uf},decide ((i64.wrap (a.row+1))<=i.Faults.Misses))else((bif decide (0<=r)then(F_cu n r h f g i j k l m p d e).bind λs=>(bif (!s)then some true else(bif decide (0<=a.last)then(F_bd n a.when a.last q.1 h i j k l m p d e f g).bind λt=>some (!t)else some false))else(bif decide (0<=a.last)then(F_bd n a.when a.last q.1 h i j k l m p d e f g).bind λu=>some (!u)else some false)):Option Bool).bind λw=>(bif w then some (a,false)else some ({last:=h,when:=q.1,row:=0:Uf},true)))
theorem k_as(n:Nat)(d:Uf)(E:Int)(F:Int)(j:Course)(k:Clocks)(l:List Int)(m:List Span)(p:List Hit)(q:List Ud)(e:Int)(f:List (Int×Ud))(g:Course)(i:Clocks):Kq (F_as n d E F j k l m p q e f g i) 41 [.ptr 0 0,.agg (Uf.c d),I E,I F] [.cells 121 (match_task.tc j k l m p q (.map 1) (.fn (.func 72) [] [.ptr 2 0,.ptr 3 0,.ptr 4 0]) e),.map (Qj (λx=>A.int .i64 x) (λx=>A.agg (Ud.c x)) f),.cells 84 [.ptr 0 0],.cells 33 (Course.c g),.cells 37 (Clocks.c i)] (λr=>.tup [.agg (Uf.c r.1),.bool r.2]) (λr=>[.cells 121 (match_task.tc j k l m p q (.map 1) (.fn (.func 72) [] [.ptr 2 0,.ptr 3 0,.ptr 4 0]) e),.map (Qj (λx=>A.int .i64 x) (λx=>A.agg (Ud.c x)) f),.cells 84 [.ptr 0 0],.cells 33 (Course.c g),.cells 37 (Clocks.c i),.cells 128 (Uf.c r.1)]):=by
 refine Kg 12 func41 Z Z Z Z λr h=>Cd [0,1,2,3,4] h (k_ai _ _ _ _ _ _ _ _ _ _ _ _ _) Z λs M h=>Fg 15 Z Z (Cn Z h (λG h=>?_) (λG h=>?_))
 .refine Gc 10 Z ?_;refine QY 11 0 [25,26,27,28,29,30,31,32,33,34,1000010] [false,false,false,false,false,false,false,false,false,false,true] [[],[],[],[],[],[],[],[],[],[],[]] [[],[10]] [[(0,0)],[(0,0),(1,1)],[(0,0),(1,1)],[(0,0),(1,1)],[(0,0),(1,1)],[(0,0),(1,1)],[(0,0),(1,1)],[(0,0),(1,1)],[(0,0),(1,1)],[(0,0),(1,1)],[(0,1)]] [.agg (Uf.c ({d with row:=i64.wrap (d.row+1):Uf})),.ptr 5 4,I (i64.wrap (d.row+1)),.ptr 0 0,.ptr 0 0,.ptr 0 0,.ptr 0 9,.ptr 0 9,I j.Faults.Misses,.bool (decide ((i64.wrap (d.row+1))<=j.Faults.Misses)),.any] [[.cells 121 (match_task.tc j k l m p q (.map 1) (.fn (.func 72) [] [.ptr 2 0,.ptr 3 0,.ptr 4 0]) e),.map (Qj (λx=>A.int .i64 x) (λx=>A.agg (Ud.c x)) f),.cells 84 [.ptr 0 0],.cells 33 (Course.c g),.cells 37 (Clocks.c i),.cells 128 (Uf.c ({d with row:=i64.wrap (d.row+1):Uf})),.cells 128 (Uf.c z_match_state),.cells 88 (Ud.c s.1),.cells 88 (Ud.c s.1)],[.cells 121 (match_task.tc j k l m p q (.map 1) (.fn (.func 72) [] [.ptr 2 0,.ptr 3 0,.ptr 4 0]) e),.map (Qj (λx=>A.int .i64 x) (λx=>A.agg (Ud.c x)) f),.cells 84 [.ptr 0 0],.cells 33 (Course.c g),.cells 37 (Clocks.c i),.cells 128 (Uf.c ({d with row:=i64.wrap (d.row+1):Uf})),.cells 128 (Uf.c ({d with row:=i64.wrap (d.row+1):Uf})),.cells 88 (Ud.c s.1),.cells 88 (Ud.c s.1)]] ([.cells 121 (match_task.tc j k l m p q (.map 1) (.fn (.func 72) [] [.ptr 2 0,.ptr 3 0,.ptr 4 0]) e),.map (Qj (λx=>A.int .i64 x) (λx=>A.agg (Ud.c x)) f),.cells 84 [.ptr 0 0],.cells 33 (Course.c g),.cells 37 (Clocks.c i),.cells 128 (Uf.c ({d with row:=i64.wrap (d.row+1):Uf})),.cells 128 (Uf.c ({d with row:=i64.wrap (d.row+1):Uf})),.cells 88 (Ud.c s.1),.cells 88 (Ud.c s.1)]) draws Z Z Z Z Z Z Z ?_ Z ?_
  .refine Qgr.cons (Qb (v0 Z Z) (Qc)) (Qgr.cons (Qb (v0 Z Z) (Qb (v0 Z Z) (Qc))) (Qgr.cons (Qb (v0 Z Z) (Qb (v0 Z Z) (Qc))) (Qgr.cons (Qb (v0 Z Z) (Qb (v0 Z Z) (Qc))) (Qgr.cons ?_ (Qgr.cons (Qb (v0 Z Z) (Qb (v0 Z Z) (Qc))) (Qgr.cons (Qb (v0 Z Z) (Qb (v0 Z Z) (Qc))) (Qgr.cons (Qb (v0 Z Z) (Qb (v0 Z Z) (Qc))) (Qgr.cons (Qb (v0 Z Z) (Qb (v0 Z Z) (Qc))) (Qgr.cons ?_ (Qgr.cons ?_ (Qgr.nil)))))))))))
   .refine Qb ?_ (Qb ?_ (Qc))
    iterate 2 refine Om Z (sD 3 sN) ?_;exact S Z Wp
   .refine Qb ?_ (Qb ?_ (Qc))
    iterate 2 refine Om Z (sD 2 (sD 8 sN)) ?_;exact S Z Wp
   .refine Qb ?_ (Qc)
    .refine Om2 Z (sO 8 (sD 0 sN)) ?_;refine vU (Ey Z Z Z Gn Z Z Z Z Z Z Z) ?_;exact FE Z Wp
  refine Go 5 Z ?_;obtain rfl:=Oi h;exact Rx [0,1,2,3,4,6] [8,9] Z (Qg Z Z (Qif.cons (Qf isAgg128 Gn Z Z Z) (Qif.cons QcX.tmp Qif.nil))) ⟨Z,Z⟩
 refine Gc 4 Z (Bd h λt a h=>Cg t [0,1,2,3,4,5,6,8] [2,5,8,10] (λt=>[(62,.bool t)]) Ze Zf ?_ ?_)
 .refine G0 4 Z (Is 37 a Z (λu a=>?_) (λu a=>?_))
  .refine Go 6 Z (Cz [2,3,4,0,1] a (k_cu _ _ _ _ _ _ _ _ _ _ _ _ _) Z λN H a=>Go 3 Z (Is 47 a Z (λw a=>?_) (λw a=>?_)))
   .exact Gl 16 Z a [0,1,2,3,4,5,6,8]
   .refine Go 4 Z (Is 51 a Z (λy a=>?_) (λy a=>?_))
    .exact Go 7 Z (Cz [0,1,2,3,4] a (k_bd _ _ _ _ _ _ _ _ _ _ _ _ _ _ _) Z λO J a=>Gl 4 Z a [0,1,2,3,4,5,6,8])
    .exact Gl 12 Z a [0,1,2,3,4,5,6,8]
  .refine Go 14 Z (Is 51 a Z (λz a=>?_) (λz a=>?_))
   .exact Go 7 Z (Cz [0,1,2,3,4] a (k_bd _ _ _ _ _ _ _ _ _ _ _ _ _ _ _) Z λP L a=>Gl 4 Z a [0,1,2,3,4,5,6,8])
   .exact Gl 12 Z a [0,1,2,3,4,5,6,8]
 refine Cn Z h (λB h=>?_) (λB h=>?_)
 .refine Gc 9 Z ?_;obtain rfl:=Oi h;exact Rx [0,1,2,3,4,6] [8,9] Z (Qg Z Z (Qif.cons (Qf isAgg128 Gn Z Z Z) (Qif.cons QcX.tmp Qif.nil))) ⟨Z,Z⟩
 refine Gc 12 Z ?_;obtain rfl:=Oi h;exact Rx [0,1,2,3,4,6] [8,9] Z (Qg Z Z (Qif.cons (Qf isAgg128 Gn Z Z Z) (Qif.cons QcX.tmp Qif.nil))) ⟨Z,Z⟩
end Go.Sw
