/- What the functions compute that PenaltiesPoint reaches, and that their calls refine it (part 4 of 4). -/
import Derived.Test.YtckiejaapddafaaGreatDoorW22Po3
set_option linter.unusedVariables false
set_option linter.unusedSimpArgs false
set_option maxRecDepth 100000
set_option maxHeartbeats 4000000
namespace Go.Sw
open Go.Proofs Tryz
def F_hk(n:Nat)(f:Fact)(g:Int)(b:(List Int)×(List Penalty))(a:Int):Option (Ctl Int (Ctl Unit Bool)):=
  (bif decide (a<(b.2.length:Int))then((idx b.1 a).bind λc=>(bif (c==f.Ruling.Case)then(idx b.2 a).bind λd=>some (decide (d.Position<=g))else some false):Option Bool).bind λe=>(bif e then some (.done (.done true))else some (.cont (IntKind.i64.wrap (a+1))))else some (.done (.cont ())))
def F_fr(n:Nat)(i:Course)(j:List Fact)(k:Int)(a:Fact)(f:Int):Option Bool:=
  (F_et 300).bind λw=>(bif (!w)then some false else((F_cw n i j).bind λl=>(bif (!l)then some true else(bif (a.Kind != 10)then some true else(F_w n a).bind λm=>(bif (m != 0)then some true else some (a.Ruling.Kind==1)))):Option Bool).bind λx=>(bif x then some true else(F_g n i j k).bind λb=>(bif ((b.1.length:Int) != (b.2.length:Int))then some false else(iter (F_hk n a f b) n 0:Option (Ctl Unit Bool)).bind λp=>match p with|.cont c=>(((bif (a.Ruling.Kind != 2)then(bif (a.Ruling.Bib==k)then some (decide (a.Ruling.Position<=f))else some false)else some false):Option Bool).bind λq=>(bif q then some true else(app ([]:List Fact) j).bind λr=>(app r [a]).bind λg=>(F_br n g a.Ruling.Case).bind λh=>((bif (!h.2)then some true else some (h.1 != a.Ruling)):Option Bool).bind λs=>(bif s then some true else(F_g n i g k).bind λt=>(F_x n b.2 f).bind λd=>(F_x n t.2 f).bind λe=>((bif (d.1==e.1)then(bif (d.2.1==e.2.1)then some (d.2.2==e.2.2)else some false)else some false):Option Bool).bind λu=>some u)))|.done c=>some c)))
theorem k_fr(n:Nat)(E:Course)(a2:List Fact)(a3:Int)(k:Fact)(a5:Int)(r:Bool)(h:F_fr n E a2 a3 k a5=some r):
    Csm prog 10 [.agg (Course.c E),.rsl 57 (List.map Fact.c a2),I a3,.agg (Fact.c k),I a5] [] (λr=>.bool r) r:=by
 refine Qb func10 Z Z Z ?_;refine G0 10 Z (Cz [] h (k_et _) Z λr1 ba h=>Go 3 Z (Cn Z h (λaj h=>?_) (λaj h=>?_)))
 .exact Gc 7 Z (Rt h 10 [])
 refine Gc 4 Z (Bd h λL d h=>?_);refine Ct L [0,1] [1,2,4,5,8] (λL=>[(46,.bool L)]) Ze Zf ?_ (λenv H f=>?_)
 .refine G0 3 Z (Cz [] d (k_cw _ _ _) Z λbb au d=>Go 2 Z (Is 31 d Z (λM d=>?_) (λM d=>?_)))
  .exact Go 16 Z (Cl d [0,1])
  .refine Go 5 Z (Is 36 d Z (λN d=>?_) (λN d=>?_))
   .exact Go 11 Z (Cl d [0,1])
   .refine Go 1 Z (Cz [] d (k_w _ _) Z λbc av d=>Go 3 Z (Is 41 d Z (λO d=>?_) (λO d=>?_)))
    .exact Go 6 Z (Cl d [0,1])
    .exact Go 6 Z (Cl d [0,1])
 refine Gx 1 Z (Ef f (Cn Z h (λP h=>?_) (λP h=>?_)))
 .exact Gc 7 Z (Rt h 10 [])
 refine Gc 7 Z (Cd [] h (k_g _ _ _ _) Z λF aw h=>FE Z (Go 17 Z (Cn Z h (λQ h=>?_) (λQ h=>?_))))
 .exact Gc 7 Z (Rt h 10 [])
 refine Gc 8 Z (Bd h λak al h=>?_);refine CtE (b:=ak) [0,1,3] [1,2,4,5,8,12] Ze Ze Zf ?_ (λax env H am f=>?_)
 .refine G0 1 Z ?_;refine Lp [0,1,2,3] [1,2,4,5,8,11,12] (λl=>[(13,I l)]) Ze al Zf (Lr [0,1,2,3]) λl bd a s=>?_;refine G0 9 Z (Y9 Z a (λR a=>?_) (λR a=>?_))
  .refine Gc 2 Z (Qx a ?_);obtain rfl:=Oj s a;exact Gx 1 Z (QL Z (Lr [0,1,3]))
  refine Gc 5 Z (Bd a λt g a=>?_);refine Ct t [0,1,2,3] [1,2,4,5,8,11,12,13] (λt=>[(81,.bool t)]) Ze Zf ?_ (λenv H f=>?_)
  .refine G0 0 Z (DSs 15 Z (D 2 Z ?_));obtain⟨an,u,g⟩:=Ju g;refine DS.v (x:=(.ptr 2 (Int.toNat l*1))) (QR u Z runUnderlying37 sizeOf3) ?_;refine DS.v (x:=(I an)) (Ey Z isAgg3 Z (Qt u)) ?_;refine D 5 Z (QkY 8 g Z Z Z (λT g=>?_) (λT g=>?_))
   .refine D 2 Z ?_;obtain⟨ao,w,g⟩:=Ju g;refine DS.v (x:=(.ptr 3 (Int.toNat l*4))) (QR w Z runUnderlying38 sizeOf50) ?_ (hg:=(gT Z));refine DS.wo (x:=.ptr 3 (Int.toNat l*4)) ?_ ?_
    .exact Fpg (gT Z) Qoz Z Wp
    refine DS.v (x:=(I ao.Position)) (Ey Z isAgg3 Z (Qt w)) ?_ (hg:=(gT Z));exact D 1 Z (Eh Z (Go 3 Z (Cl g [0,1,2,3])))
   .exact D 6 Z (Eh Z (Go 3 Z (Cl g [0,1,2,3])))
  refine Gx 1 Z (Ef f (Cn Z a (λV a=>?_) (λV a=>?_)))
  .refine Gc 8 Z (Yq a ?_);obtain rfl:=Oj s a;exact Gx 1 Z (Q3 (Gx 1 Z (Rt h 10 [])))
  exact Gc 8 Z (Qu a (Lr [0,1,2,3]))
 subst am;refine Gx 1 Z (Ef f (Gc 2 Z (Bd h λy i h=>?_)));refine Ct y [0,1,2] [1,2,4,5,8,12] (λy=>[(99,.bool y)]) Ze Zf ?_ (λenv H f=>?_)
 .refine G0 6 Z (Is 86 i Z (λW i=>?_) (λW i=>?_))
  .refine Go 7 Z (Is 93 i Z (λX i=>?_) (λX i=>?_))
   .exact Go 7 Z (Cl i [0,1,2])
   .exact Go 7 Z (Cl i [0,1,2])
  .exact Go 14 Z (Cl i [0,1,2])
 refine Gx 1 Z (Ef f (Cn Z h (λY h=>?_) (λY h=>?_)))
 .exact Gc 7 Z (Rt h 10 [])
 refine Gc 3 Z (DKs 5 [0,2] [(1,0,0),(0,0,1),(1,1,0),(0,0,2),(0,0,2)] (by kernel_rfl) ?_);refine DK.op (x:=.osl 3 0 (([]:List Fact).length) 57) (X1:=[.cells 33 (Course.c E),.cells 83 (Fact.c k),.row 50 4 (List.map Penalty.c F.2),.row 83 57 (List.map Fact.c ([]:List Fact))]) ?_ ?_
 .refine vH (El (xs:=[]) (es:=List.map Fact.c []) Y3 Z Z Z Z Z trivial Z Z) ?_;exact FE Z Wp
 refine Dk 1 Z ?_;obtain⟨G,aa,h⟩:=Ju h;refine DK.op (x:=.osl 4 0 G.length 57) (X1:=[.cells 33 (Course.c E),.cells 83 (Fact.c k),.row 50 4 (List.map Penalty.c F.2),.dead,.row 83 57 (List.map Fact.c G)]) ?_ ?_
 .refine vH (QC (e:=Fact.c) aa Y3 runUnderlying34 Jq) ?_;exact FE Z Wp
 refine Dks (lo:=0) (hi:=2) (x:=.agg (Fact.c k)) ⟨Z,Z,Z,trivial⟩ ?_;refine Qpg (lo:=0) (hi:=2) (x:=.rsl 57 (List.map Fact.c [k])) ⟨?_,?_,?_,trivial⟩ ?_
 .refine vH (Yr (xs:=[.tmp 103]) (es:=List.map Fact.c [k]) Y3 Z Z Z Z Z ⟨Z,trivial⟩ Z Z) ?_;exact FE Z Wp
 .refine vH (Yr (xs:=[.tmp 103]) (es:=List.map Fact.c [k]) Y3 Z Z Z Z Z ⟨Z,trivial⟩ Z Z) ?_;exact FE Z Wp
 .refine vH (Yr (xs:=[.tmp 103]) (es:=List.map Fact.c [k]) Y3 Z Z Z Z Z ⟨Z,trivial⟩ Z Z) ?_;exact FE Z Wp
 refine DK.done Z Z (Bd h λbe ab h=>?_);refine vH (QC (e:=Fact.c) ab Y3 runUnderlying34 Jq) ?_;refine FE Z (Go 9 Z ?_);refine Et (Jh [(14,_),(105,_),(107,_)] Z Z (QnW.cons Z Ep (QnW.cons Z Ep (QnW.cons Z Ep QnW.nil))) (Ec (Ec (Ec (Ec (Ec (Ec (YC _)))))))) ?_;refine Cd [] h (k_br _ _ _) Z λJ ay h=>FE Z (Go 10 Z (Bd h λz m h=>?_));refine Ct z [0,2] [2,4,5,12,14] (λz=>[(121,.bool z)]) Ze Zf ?_ (λenv H f=>?_)
 .refine G0 4 Z (Is 116 m Z (λac m=>?_) (λac m=>?_))
  .exact Go 6 Z (Cl m [0,2])
  .refine Go 3 Z ?_;refine vX (.bool (J.1 != k.Ruling)) (QgM (p:=J.1) (q:=k.Ruling) Qp5 Z Z) ?_ (gT Z);exact Go 2 Z (Cl m [0,2])
 refine Gx 1 Z (Ef f (Cn Z h (λae h=>?_) (λae h=>?_)))
 .exact Gc 7 Z (Rt h 10 [])
 refine Gc 7 Z (Cd [] h (k_g _ _ _ _) Z λbf az h=>FE Z (Go 11 Z (Bd h λaq af h=>?_)));refine Qc9 (OpC.fn call21 rfl rfl rfl) (Qbo.cons rfl (.inr ⟨_,_,_,_,_,rfl,rfl,X6 ..,rfl⟩) (Qbo.cons rfl (.inl ⟨rfl,rfl⟩) Qbo.nil)) (k_x _ _ _ _ af) (by rintro _ _ ⟨rfl,rfl⟩;rfl) ?_;rintro _ _ ⟨rfl,rfl⟩;refine FE Z (Go 13 Z (Bd h λar ag h=>?_));refine Qc9 (OpC.fn call21 rfl rfl rfl) (Qbo.cons rfl (.inr ⟨_,_,_,_,_,rfl,rfl,X6 ..,rfl⟩) (Qbo.cons rfl (.inl ⟨rfl,rfl⟩) Qbo.nil)) (k_x _ _ _ _ ag) (by rintro _ _ ⟨rfl,rfl⟩;rfl) ?_;rintro _ _ ⟨rfl,rfl⟩;refine FE Z (Go 10 Z (Bd h λB j h=>?_));refine Ct B [] [] (λB=>[(10,.bool B)]) Ze Zf ?_ (λenv H f=>?_)
 .refine G0 5 Z (Is 146 j Z (λah j=>?_) (λah j=>?_))
  .refine Go 5 Z (Is 151 j Z (λai j=>?_) (λai j=>?_))
   .refine Go 2 Z ?_;refine vX (.bool (aq.2.2==ar.2.2)) (Qj3 runUnderlying4) ?_ (gT Z);exact Go 3 Z (Cl j [])
   .exact Go 6 Z (Cl j [])
  .exact Go 11 Z (Cl j [])
 exact Gx 1 Z (Ef f (Gc 1 Z (Rt h 10 [])))
end Go.Sw
