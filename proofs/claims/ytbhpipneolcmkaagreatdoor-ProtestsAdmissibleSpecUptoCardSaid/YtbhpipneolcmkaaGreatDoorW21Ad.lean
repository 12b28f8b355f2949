/- What the functions compute that ProtestsAdmissibleSpec reaches, and that their calls refine it (part 5 of 5). -/
import Derived.Test.YtbhpipneolcmkaaGreatDoorW21Ad4
set_option linter.unusedVariables false
set_option linter.unusedSimpArgs false
set_option maxRecDepth 100000
set_option maxHeartbeats 4000000
namespace Go.Sw
open List(map)
open Int(toNat)
open Go.IntKind(i64 u64 u8)
open Go.Proofs Tryz
def F_co(n:Nat)(h:List Fact)(d:(List Int)×Int)(a:Int):Option (Ctl Int Int):=((bif decide (a<(d.1.length:Int))then(idx d.1 a).bind λe=>(idx h d.2).bind λf=>some (decide (e<f.Protest.Case))else some false):Option Bool).bind λg=>(bif g then some (.cont (i64.wrap (a+1)))else some (.done a))
def F_lw(n:Nat)(u:Course)(d:List Fact)(a:(List Int)×Int):Option (Ctl ((List Int)×Int) (List Int)):=(bif decide (a.2<(d.length:Int))then(((idx d a.2).bind λf=>(bif (f.Kind != 9)then some true else(idx d a.2).bind λg=>(F_cr n u d g).bind λh=>(bif (!h)then some true else(idx d a.2).bind λi=>(F_bd n a.1 i.Protest.Case).bind λj=>some j)):Option Bool).bind λk=>(bif k then some a.1 else(iter (F_co n d a) n 0:Option Int).bind λe=>(slc a.1 0 e).bind λl=>(app ([]:List Int) l).bind λm=>(idx d a.2).bind λp=>(app m [p.Protest.Case]).bind λq=>(slc a.1 e (a.1.length:Int)).bind λr=>(app q r).bind λs=>some s):Option (List Int)).bind λt=>some (.cont (t,i64.wrap (a.2+1)))else some (.done a.1))
def F_gd(n:Nat)(d:Course)(e:List Fact):Option (List Int):=(F_ad n e).bind λf=>(iter (F_lw n d f) n (([]:List Int),0):Option (List Int)).bind λa=>some a
theorem k_gd(n:Nat)(M:Course)(a2:List Fact):Kq (F_gd n M a2) 16 [.agg (Course.c M),.rsl 57 (map Fact.c a2)] [] (λr=>.osl 0 0 r.length 1) (λr=>[.row 3 1 (map (Qe .i64) r)]):=by
 refine Kg 8 func16 Z Z Z Z λr h=>vH (Ej (xs:=[]) (es:=map (Qe .i64) []) Qv Z Z Z Z Z trivial Z Z) ?_;refine Fg 6 Z Z (Cd [] h (QoE _ _) Z λr1 ay h=>Fg 9 Z Z (Bd h λt af h=>Cg t [2] [] (λt=>[(5,.osl 0 0 t.length 1)]) (λt=>[(0,.row 3 1 (map (Qe .i64) t))]) Zf ?_ ?_))
 .refine G0 1 Z (Lp [2,0,1] [1,2] (λa=>[(5,.osl 2 0 a.1.length 1),(6,I a.2)]) (λa=>[(2,.row 3 1 (map (Qe .i64) a.1))]) af Zf (Lr [2,0,1]) λa aq k P=>?_);refine G0 9 Z (Yd Z k (λQ k=>?_) (λQ k=>?_))
  .exact Gc 2 Z (Qh k (Gx 1 Z (cQo P k (Lr [2]))))
  refine Gc 3 Z (Bd k λu d k=>Cg u [0,1,2] [1,2,6] (λu=>[(5,.osl 2 0 u.length 1)]) (λu=>[(2,.row 3 1 (map (Qe .i64) u))]) Zf ?_ ?_)
  .refine G0 3 Z (Bd d λy g d=>Ct y [0,1,2] [1,2,5,6] (λy=>[(42,.bool y)]) Ze Zf ?_ (λenv H an=>?_))
   .refine G0 0 Z (DSs 24 Z (D 2 Z ?_));obtain⟨ag,E,g⟩:=YB g;refine DS.v (x:=(.ptr 0 (toNat a.2*57))) (Qp E Z EA EB) ?_;refine DS.wo (x:=.ptr 0 (toNat a.2*57+3)) ?_ ?_
    .exact Fp QdO Z Wp
    refine DS.v (x:=(I ag.Kind)) (Ey Z ED Z (QR (f:=3) E)) ?_;refine D 2 Z (QbE 6 g Z Z Z (λR g=>?_) (λR g=>?_))
    .exact D 17 Z (Eg Z (Gl 3 Z g [0,1,2]))
    .refine D 4 Z ?_;obtain⟨ah,F,g⟩:=YB g;refine DS.v (x:=(.ptr 0 (toNat a.2*57))) (Qp F Z EA EB) ?_ (hg:=(gT Z));refine DS.v (x:=(.agg (Fact.c ah))) (Qn Z EJ EB Z (Qo F) Z Z) ?_ (hg:=(gT Z));obtain⟨ai,T,g⟩:=YB g;refine DS.wo (x:=.bool ai) ?_ ?_
     .refine QbA (OpC.fn call47 rfl rfl rfl) (QbC.cons rfl (.inl ⟨rfl,rfl⟩) (QbC.cons rfl (.inr ⟨_,_,_,_,_,rfl,rfl,XX ..,rfl⟩) (QbC.cons rfl (.inl ⟨rfl,rfl⟩) QbC.nil))) (k_cr _ _ _ _ _ T) (by rintro _ _ ⟨rfl,rfl⟩;rfl) ?_ (gT rfl);rintro _ _ ⟨rfl,rfl⟩;exact FE Z Wp
     refine D 3 Z (QbE 16 g Z Z Z (λV g=>?_) (λV g=>?_))
     .exact D 7 Z (Eg Z (Gl 3 Z g [0,1,2]))
     .refine D 3 Z ?_;obtain⟨aj,G,g⟩:=YB g;refine DS.v (x:=(.ptr 0 (toNat a.2*57))) (Qp G Z EA EB) ?_ (hg:=(gT Z));refine DS.wo (x:=.ptr 0 (toNat a.2*57+43)) ?_ ?_
      .exact Fpg (gT Z) Qcj Z Wp
      refine DS.wo (x:=.ptr 0 (toNat a.2*57+43)) ?_ ?_
      .exact Fpg (gT Z) QdR Z Wp
      refine DS.v (x:=(I aj.Protest.Case)) (Ey Z ED Z (QR (f:=43) G)) ?_ (hg:=(gT Z));exact Eg Z (Cb g (k_bd _ _ _) Z (lo (ls ln)) λar ao g=>Gl 2 Z g [0,1,2])
   refine Gx 1 Z (Qd an (Cn Z d (λW d=>?_) (λW d=>?_)))
   .exact YC 3 Z d [0,1,2]
   refine Gc 8 Z (Bd d λi ak d=>Cg i [0,1,2] [1,2,5,6] (λi=>[(7,I i)]) Ze Zf ?_ ?_)
   .refine G0 1 Z (Lp [0,1,2] [1,2,5,6] (λz=>[(7,I z)]) Ze ak Zf (Lr [0,1,2]) λz au m X=>?_);refine G0 2 Z (Bd m λB j m=>Cg B [0,1,2] [1,2,5,6,7] (λB=>[(59,.bool B)]) Ze Zf ?_ ?_)
    .refine G0 0 Z (DSs 15 Z (D 5 Z (QbE 4 j Z Z Z (λY j=>?_) (λY j=>?_))))
     .refine D 2 Z ?_;obtain⟨al,J,j⟩:=YB j;refine DS.v (x:=(.ptr 2 (toNat z*1))) (Qp J Z EC EF) ?_ (hg:=(gT Z));refine DS.v (x:=(I al)) (Ey Z ED Z (Qo J)) ?_ (hg:=(gT Z));refine D 2 Z ?_;obtain⟨am,L,j⟩:=YB j;refine DS.v (x:=(.ptr 0 (toNat a.2*57))) (Qp L Z EA EB) ?_ (hg:=(gT Z));refine DS.wo (x:=.ptr 0 (toNat a.2*57+43)) ?_ ?_
      .exact Fpg (gT Z) Qcj Z Wp
      refine DS.wo (x:=.ptr 0 (toNat a.2*57+43)) ?_ ?_
      .exact Fpg (gT Z) QdR Z Wp
      refine DS.v (x:=(I am.Protest.Case)) (Ey Z ED Z (QR (f:=43) L)) ?_ (hg:=(gT Z));exact Eg Z (Gl 3 Z j [0,1,2])
     .exact D 10 Z (Eg Z (Gl 3 Z j [0,1,2]))
    refine Yd Z m (λaa m=>?_) (λaa m=>?_)
    .exact Gc 2 Z (Qh m (Gx 1 Z (cQo X m (Lr [0,1,2]))))
    exact Gc 9 Z (Qf m (Lr [0,1,2]))
   refine DKs 16 [0,4,12] [(1,0,0),(0,0,1),(0,0,1),(0,0,1),(1,1,0),(0,0,2),(0,0,2),(0,0,2),(0,0,2),(0,0,2),(0,0,2),(0,0,2),(1,2,0),(0,0,3),(0,0,3),(0,0,3)] (by kernel_rfl) ?_;refine Ew (x:=.osl 3 0 (([]:List Int).length) 1) (X1:=[.row 68 57 (map Fact.c r1),.cells 33 (Course.c M),.row 3 1 (map (Qe .i64) a.1),.row 3 1 (map (Qe .i64) ([]:List Int))]) ?_ ?_
   .refine vH (Ej (xs:=[]) (es:=map (Qe .i64) []) Qv Z Z Z Z Z trivial Z Z) ?_;exact FE Z Wp
   refine Dk 2 Z ?_;obtain⟨av,w,d⟩:=YB d;refine QaZ (lo:=0) (hi:=1) (x:=.osl 2 (0+toNat 0) (toNat i-toNat 0) 1) ⟨?_,?_,trivial⟩ ?_
   iterate 2 refine vX (.osl 2 (0+toNat 0) (toNat i-toNat 0) 1) (Q6 (l:=a.1) w EC EF (.inl ⟨Z,Z⟩) (.inr ⟨_,Z,Z⟩)) ?_;exact Wp
   obtain⟨N,ab,d⟩:=YB d;refine Ew (x:=.osl 4 0 N.length 1) (X1:=[.row 68 57 (map Fact.c r1),.cells 33 (Course.c M),.row 3 1 (map (Qe .i64) a.1),.dead,.row 3 1 (map (Qe .i64) N)]) ?_ ?_
   .refine vH (Qg (e:=(Qe .i64)) ab Qv EC (QeE (b:=2) w)) ?_;exact FE Z Wp
   refine Dk 2 Z ?_;obtain⟨p,q,d⟩:=YB d;refine QaZ (lo:=0) (hi:=2) (x:=.ptr 0 (toNat a.2*57)) ⟨?_,?_,?_,trivial⟩ ?_
   iterate 3 refine vX (.ptr 0 (toNat a.2*57)) (Qp q Z EA EB) ?_;exact Wp
   refine QaZ (lo:=0) (hi:=2) (x:=.ptr 0 (toNat a.2*57+43)) ⟨?_,?_,?_,trivial⟩ ?_
   iterate 3 exact Fp Qcj Z Wp
   refine QaZ (lo:=0) (hi:=2) (x:=.ptr 0 (toNat a.2*57+43)) ⟨?_,?_,?_,trivial⟩ ?_
   iterate 3 exact Fp QdR Z Wp
   refine QaZ (lo:=0) (hi:=2) (x:=I p.Protest.Case) ⟨?_,?_,?_,trivial⟩ ?_
   iterate 3 refine vX (I p.Protest.Case) (Ey Z ED Z (QR (f:=43) q)) ?_;exact Wp
   refine QaZ (lo:=0) (hi:=2) (x:=.rsl 1 (map (Qe .i64) [p.Protest.Case])) ⟨?_,?_,?_,trivial⟩ ?_
   iterate 3 refine vH (Q5 (xs:=[.tmp 72]) (es:=map (Qe .i64) [p.Protest.Case]) Qv Z Z Z Z Z ⟨Z,trivial⟩ Z Z) ?_;exact FE Z Wp
   obtain⟨O,ac,d⟩:=YB d;refine Ew (x:=.osl 5 0 O.length 1) (X1:=[.row 68 57 (map Fact.c r1),.cells 33 (Course.c M),.row 3 1 (map (Qe .i64) a.1),.dead,.dead,.row 3 1 (map (Qe .i64) O)]) ?_ ?_
   .refine vH (Qg (e:=(Qe .i64)) ac Qv EC Jd) ?_;exact FE Z Wp
   refine Dk 2 Z ?_;obtain⟨aw,s,d⟩:=YB d;refine QaZ (lo:=0) (hi:=3) (x:=.osl 2 (0+toNat i) (toNat (a.1.length:Int)-toNat i) 1) ⟨?_,?_,?_,?_,trivial⟩ ?_
   iterate 4 refine vX (.osl 2 (0+toNat i) (toNat (a.1.length:Int)-toNat i) 1) (Q6 (l:=a.1) s EC EF (.inr ⟨_,Z,Z⟩) (.inl ⟨Z,Z⟩)) ?_;exact Wp
   refine DK.done Z Z (Bd d λax ae d=>?_);refine vH (Qg (e:=(Qe .i64)) ae Qv EC (QeE (b:=2) s)) ?_;exact FE Z (Gl 3 Z d [0,1,6])
  exact Gc 5 Z (Qf k (Lr [0,1,2]))
 exact QG 7 Z h 4 [0]
def F_gi(n:Nat)(f:Course)(g:List Fact)(d:List Fact)(a:Int):Option (Ctl Int (Ctl Unit Bool)):=(bif decide (a<(d.length:Int))then(idx d a).bind λe=>(bif decide (5<a)then some (.done (.cont ()))else(F_t n f g e).bind λh=>(F_bl n f g e).bind λi=>(bif (h != i)then some (.done (.done false))else some (.cont (i64.wrap (a+1)))))else some (.done (.cont ())))
def F_gx(n:Nat)(e:Course)(a:List Fact)(k:Fact):Option Bool:=(F_eq 300).bind λl=>(bif (!l)then some false else((F_be n e).bind λm=>(bif (!m)then some true else(F_js n a 12).bind λq=>some (!(decide ((a.length:Int)<=12)))):Option Bool).bind λp=>(bif p then some true else(app [k] a).bind λf=>(iter (F_gi n e a f) n 0:Option (Ctl Unit Bool)).bind λg=>match g with|.cont d=>((F_ba n e a).bind λh=>(F_gd n e a).bind λi=>(F_by n h i).bind λj=>some j)|.done d=>some d))
theorem k_gx(n:Nat)(g:Course)(y:List Fact)(l:Fact):Ks (F_gx n g y l) 4 [.agg (Course.c g),.rsl 57 (map Fact.c y),.agg (Fact.c l)] [] (λr=>.bool r):=by
 refine Kg 10 func4 Z Z Z Z λr h=>Cz [] h (k_eq _) Z λr1 W h=>Go 3 Z (Cn Z h (λz h=>?_) (λz h=>?_))
 .exact QG 7 Z h 6 []
 refine Gc 4 Z (Bd h λm d h=>Ct m [0,1] [1,3,5] (λm=>[(18,.bool m)]) Ze Zf ?_ (λenv H B=>?_))
 .refine G0 2 Z (Cz [] d (k_be _ _) Z λr8 X d=>Go 2 Z (Is 14 d Z (λE d=>?_) (λE d=>?_)))
  .exact Gl 5 Z d [0,1]
  .exact Go 1 Z (Cz [] d (k_js _ _ _) Z λY O d=>Gl 3 Z d [0,1])
 refine Gx 1 Z (Qd B (Cn Z h (λp h=>?_) (λp h=>?_)))
 .exact QG 7 Z h 6 []
 refine Gc 6 Z (vH (Ej (xs:=[.tmp 19]) (es:=map Fact.c [l]) YF Z Z Z Z Z ⟨Z,trivial⟩ Z Z) ?_);refine Fg 1 Z Z (Bd h λaa q h=>vH (Qg (e:=Fact.c) q YF EA Jd) ?_);refine Fg 4 Z Z (Bd h λF G h=>CgE (b:=F) [0] [1,3] Ze Ze Zf ?_ (λP J=>?_))
 .refine G0 1 Z (Lp [0,3] [1,3,22,23] (λi=>[(24,I i)]) Ze G Zf (Lr [0,3]) λi ab a f=>?_);refine G0 6 Z (Yd Z a (λs a=>?_) (λs a=>?_))
  .exact Gc 2 Z (Qh a (Gx 1 Z (JB f a Z (Lr [0]))))
  refine Gc 7 Z (Bd a λL j a=>?_);refine vX (.ptr 1 (toNat i*57)) (Qp j Z EA EB) ?_;refine vX (.agg (Fact.c L)) (Qn Z EJ EB Z (Qo j) Z Z) ?_;refine Go 12 Z (Cn Z a (λt a=>?_) (λt a=>?_))
  .exact Gc 4 Z (Qh a (Gx 1 Z (JB f a Z (Lr [0]))))
  refine Gc 3 Z (DSs 7 Z (D 3 Z ?_));refine Dz [] a (k_t _ _ _ _) Z λM Q a=>D 3 Z (Eg Z (Cz [] a (k_bl _ _ _ _) Z λN R a=>?_));refine vX (.bool (M != N)) (Qdn GE) ?_;refine Go 2 Z (Cn Z a (λu a=>?_) (λu a=>?_))
  .refine Gc 8 Z (Qw a ?_);obtain rfl:=Oj f a;exact Gx 1 Z (Qq (Gx 1 Z (Rt h 6 [])))
  exact Gc 7 Z (Qf a (Lr [0,1]))
 subst J;refine Gc 1 Z (DAs 5 2 [0,0,1,3,3] (by kernel_rfl) (Da 2 Z ?_));obtain⟨k,w,h⟩:=YB h;refine DA.op (x:=.osl 1 0 k.length 1) (H1:=[.cells 33 (Course.c g),.row 3 1 (map (Qe .i64) k)]) ?_ ?_
 .refine QX [] (OpC.fn call15 Z Z Z) (k_ba _ _ _ _ w) ?_;rintro _ _ ⟨rfl,rfl⟩;exact FE Z Wp
 refine DB.wo2 (x:=.agg (Course.c g)) ?_ ?_ ?_
 iterate 2 refine vX (.agg (Course.c g)) (Qn Z isAgg33 sizeOf33 Z (Pts.cells Z Z) Z Z) ?_;exact Wp
 exact Db 1 Z (DB.done Z (Cd [] h (k_gd _ _ _) Z λac T h=>FE Z (Cb h (k_by _ _ _) Z (lo (lo ln)) λae V h=>Gt 4 Z h 6 [])))
end Go.Sw
