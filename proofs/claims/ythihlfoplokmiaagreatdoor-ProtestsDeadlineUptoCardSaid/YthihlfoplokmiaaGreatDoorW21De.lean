/- What the functions compute that ProtestsDeadline reaches, and that their calls refine it (part 4 of 4). -/
import Derived.Test.YthihlfoplokmiaaGreatDoorW21De3
set_option linter.unusedVariables false
set_option linter.unusedSimpArgs false
set_option maxRecDepth 100000
set_option maxHeartbeats 4000000
namespace Go.Sw
open Go.Proofs Tryz
def F_el(n:Nat)(b:Cond)(rec224:Cond->Option Bool)(a:Int):Option (Ctl Int (Ctl Unit Bool)):=
  (bif decide (a<(b.Parts.length:Int))then(idx b.Parts a).bind λc=>(rec224 c).bind λd=>(bif (!d)then some (.done (.done false))else some (.cont (IntKind.i64.wrap (a+1))))else some (.done (.cont ())))
def B_u(rec224:Cond->Option Bool)(n:Nat)(a:Cond):Option Bool:=
  (bif (a.Kind==1)then((bif decide (1<=a.Var)then(bif decide (a.Var<=3)then(bif decide (0<=a.N)then(bif decide (a.N<=10000)then some ((a.Parts.length:Int)==0)else some false)else some false)else some false)else some false):Option Bool).bind λi=>some i else((bif (a.Kind==2)then some (a.Kind==2)else some (a.Kind==3)):Option Bool).bind λd=>((bif d then((bif decide ((a.Parts.length:Int)<1)then some true else some (decide (16<(a.Parts.length:Int)))):Option Bool).bind λe=>(bif e then some (.done false)else some (.cont ()))else(bif (a.Kind==4)then(bif ((a.Parts.length:Int) != 1)then some (.done false)else some (.cont ()))else some (.done false))):Option (Ctl Unit Bool)).bind λf=>match f with|.cont b=>(((bif (a.Var != 0)then some true else some (a.N != 0)):Option Bool).bind λg=>(bif g then some false else(iter (F_el n a rec224) n 0:Option (Ctl Unit Bool)).bind λh=>match h with|.cont c=>(some true)|.done c=>some c))|.done b=>some b)
theorem Qa6(rec224:Cond->Option Bool)(k:∀(l:Cond) (r:Bool),rec224 l=some r->Csm prog 234 [.agg (Cond.c l)] [] (λr=>.bool r) r)(n:Nat)(l:Cond)(r:Bool)(h:B_u rec224 n l=some r):
    Csm prog 234 [.agg (Cond.c l)] [] (λr=>.bool r) r:=by
 refine Qb func234 Z Z Z ?_;refine G0 20 Z (Cn Z h (λP h=>?_) (λP h=>?_))
 .refine Gc 1 Z (Bd h λu e h=>?_);refine Ct u [] [] (λu=>[(2,.bool u)]) Ze Zf ?_ (λenv H f=>?_)
  .refine G0 5 Z (Is 11 e Z (λQ e=>?_) (λQ e=>?_))
   .refine Go 5 Z (Is 16 e Z (λR e=>?_) (λR e=>?_))
    .refine Go 5 Z (Is 21 e Z (λw e=>?_) (λw e=>?_))
     .refine Go 5 Z (Is 26 e Z (λx e=>?_) (λx e=>?_))
      .exact Go 2 Z (Lm Z (Go 4 Z (Cl e [])))
      .exact Go 7 Z (Cl e [])
     .exact Go 12 Z (Cl e [])
    .exact Go 17 Z (Cl e [])
   .exact Go 22 Z (Cl e [])
  exact Gx 1 Z (Ef f (Gc 3 Z (Rt h 2 [])))
 refine Gc 7 Z (Bd h λm g h=>?_);refine Ct m [0] [1,5] (λm=>[(32,.bool m)]) Ze Zf ?_ (λenv H f=>?_)
 .refine G0 0 Z (Cn Z g (λy g=>?_) (λy g=>?_))
  .exact Gc 1 Z (Cl g [0])
  exact Gc 4 Z (Cl g [0])
 refine Gx 1 Z (Ef f (Bd h λT a h=>?_));refine CtE (b:=T) [0] [1] Ze Ze Zf ?_ (λaa env H hb f=>?_)
 .refine G0 0 Z (Cn Z a (λz a=>?_) (λz a=>?_))
  .refine Gc 1 Z (Bd a λp i a=>?_);refine Ct p [0] [1] (λp=>[(44,.bool p)]) Ze Zf ?_ (λenv H f=>?_)
   .refine G0 3 Z (Lm Z (Go 2 Z (Is 39 i Z (λB i=>?_) (λB i=>?_))))
    .exact Go 6 Z (Cl i [0])
    .exact Go 2 Z (Lm Z (Go 3 Z (Cl i [0])))
   refine Gx 1 Z (Ef f (Cn Z a (λE a=>?_) (λE a=>?_)))
   .refine Gc 6 Z ?_;cases a;exact Qs (Gx 2 Z (Rt h 2 []))
   refine Gc 1 Z ?_;cases a;exact Qo Z (Lr [0])
  refine Gc 6 Z (YH Z a (λF a=>?_) (λF a=>?_))
  .refine Gc 6 Z ?_;cases a;exact Qs (Gx 2 Z (Rt h 2 []))
  refine Gc 4 Z (Lm Z (Go 3 Z (Cn Z a (λG a=>?_) (λG a=>?_))))
  .refine Gc 6 Z ?_;cases a;exact Qs (Gx 2 Z (Rt h 2 []))
  refine Gc 1 Z ?_;cases a;exact Qo Z (Lr [0])
 subst hb;refine Gx 2 Z (Ef f (Gc 2 Z (Bd h λq j h=>?_)));refine Ct q [0] [1] (λq=>[(58,.bool q)]) Ze Zf ?_ (λenv H f=>?_)
 .refine G0 5 Z (Is 54 j Z (λJ j=>?_) (λJ j=>?_))
  .exact Go 5 Z (Cl j [0])
  .exact Go 5 Z (Cl j [0])
 refine Gx 1 Z (Ef f (Cn Z h (λL h=>?_) (λL h=>?_)))
 .exact Gc 7 Z (Rt h 2 [])
 refine Gc 8 Z (Bd h λV W h=>?_);refine CtE (b:=V) [] [] Ze Ze Zf ?_ (λab env H X f=>?_)
 .refine G0 1 Z ?_;refine Lp [0] [1] (λt=>[(3,I t)]) Ze W Zf (Lr [0]) λt ae d s=>?_;refine G0 6 Z (Lm Z (Go 3 Z (YH Z d (λM d=>?_) (λM d=>?_))))
  .refine Gc 2 Z (Ql d ?_);obtain rfl:=Oj s d;exact Gx 1 Z (Qo Z (Lr []))
  refine Gc 9 Z (Bd d λY N d=>IzE N (Jd Y) Z (Go 1 Z (Cz [] d (k _) Z λaf ac d=>Go 3 Z (Cn Z d (λO d=>?_) (λO d=>?_)))))
  .refine Gc 8 Z (QD d ?_);obtain rfl:=Oj s d;exact Gx 1 Z (Qs (Gx 1 Z (Rt h 2 [])))
  exact Gc 8 Z (Qj d (Lr [0]))
 subst X;exact Gx 1 Z (Ef f (Gc 6 Z (Rt h 2 [])))
def F_u:Nat->Cond->Option Bool
  |0=>λ_=>none
  |n+1=>B_u (F_u n) n
theorem k_u(n:Nat):∀(a:Cond) (r:Bool),F_u n a=some r->Csm prog 234 [.agg (Cond.c a)] [] (λr=>.bool r) r:=by
  induction n with
  |zero=>intro a r h;cases h
  |succ n ih=>intro a r h;exact Qa6 _ ih n a r h
def F_bj(n:Nat)(a:Cond):Option Int:=
  (F_l n a 0).bind λb=>(bif decide (256<b)then some 2 else(F_u n a).bind λc=>(bif (!c)then some 71 else some 0))
theorem k_bj(n:Nat)(a:Cond)(r:Int)(h:F_bj n a=some r):
    Csm prog 184 [.agg (Cond.c a)] [] (λr=>I r) r:=by
 refine Qb func184 Z Z Z ?_;refine G0 10 Z (Cz [] h (k_l _ _ _) Z λg e h=>Go 3 Z (Cn Z h (λb h=>?_) (λb h=>?_)))
 .exact Gc 7 Z (Rt h 2 [])
 refine Gc 6 Z (Cz [] h (k_u _ _) Z λi f h=>Go 3 Z (Cn Z h (λd h=>?_) (λd h=>?_)))
 .exact Gc 7 Z (Rt h 2 [])
 exact Gc 8 Z (Rt h 2 [])
def F_hx(n:Nat)(k:List Step)(rec222:(List Step)->Option Bool)(b:Int):Option (Ctl Int (Ctl Unit Bool)):=
  (bif decide (b<(k.length:Int))then(idx k b).bind λa=>((bif (a.Kind==1)then((bif decide (a.By<1)then some true else(bif decide (5<a.By)then some true else(F_aw n a.Cond).bind λd=>(bif (!d)then some true else(bif ((a.Then.length:Int) != 0)then some true else some ((a.Else.length:Int) != 0))))):Option Bool).bind λe=>(bif e then some (.done (.done (.done false)))else some (.cont ()))else(bif (a.Kind==2)then((bif (a.By != 0)then some true else(F_bj n a.Cond).bind λf=>(bif (f != 0)then some true else(bif ((a.Then.length:Int)==0)then some true else(rec222 a.Then).bind λg=>(bif (!g)then some true else(rec222 a.Else).bind λh=>some (!h))))):Option Bool).bind λi=>(bif i then some (.done (.done (.done false)))else some (.cont ()))else some (.done (.done (.done false))))):Option (Ctl Unit (Ctl Int (Ctl Unit Bool)))).bind λj=>match j with|.cont c=>(some (.cont (IntKind.i64.wrap (b+1))))|.done c=>some c else some (.done (.cont ())))
def B_h(rec222:(List Step)->Option Bool)(n:Nat)(c:List Step):Option Bool:=
  (iter (F_hx n c rec222) n 0:Option (Ctl Unit Bool)).bind λb=>match b with|.cont a=>(some true)|.done a=>some a
theorem Qa5(rec222:(List Step)->Option Bool)(i:∀(l:List Step) (r:Bool),rec222 l=some r->Csm prog 107 [.rsl 8 (List.map Step.enc l)] [] (λr=>.bool r) r)(n:Nat)(l:List Step)(r:Bool)(h:B_h rec222 n l=some r):
    Csm prog 107 [.rsl 8 (List.map Step.enc l)] [] (λr=>.bool r) r:=by
 refine Qb func107 Z Z Z ?_;refine G0 11 Z (Bd h λL M h=>?_);refine CtE (b:=L) [] [] Ze Ze Zf ?_ (λQ env H P g=>?_)
 .refine G0 1 Z ?_;refine Lp [] [0] (λm=>[(3,I m)]) Ze M Zf (Lr []) λm Y e f=>?_;refine G0 5 Z (Lm Z (Go 3 Z (YH Z e (λp e=>?_) (λp e=>?_))))
  .refine Gc 2 Z (Ql e ?_);obtain rfl:=Oj f e;exact Gx 1 Z (Qo Z (Lr []))
  refine Gc 8 Z (Bd e λN q e=>IzE q (Yg N) Z (Go 18 Z (Bd e λO c e=>?_)));refine CtE (b:=O) [] [0,3] Ze Ze Zf ?_ (λR env H hb g=>?_)
  .refine G0 0 Z (Cn Z c (λs c=>?_) (λs c=>?_))
   .refine Gc 1 Z (Bd c λj d c=>?_);refine Ct j [] [0,3] (λj=>[(44,.bool j)]) Ze Zf ?_ (λenv H g=>?_)
    .refine G0 5 Z (Is 22 d Z (λt d=>?_) (λt d=>?_))
     .exact Go 23 Z (Cl d [])
     .refine Go 5 Z (Is 27 d Z (λu d=>?_) (λu d=>?_))
      .exact Go 18 Z (Cl d [])
      .refine Go 2 Z (Cz [] d (k_aw _ _) Z λaa T d=>Go 3 Z (Is 33 d Z (λw d=>?_) (λw d=>?_)))
       .exact Go 12 Z (Cl d [])
       .refine Go 2 Z (Lm Z (Go 3 Z (Is 39 d Z (λx d=>?_) (λx d=>?_))))
        .exact Go 6 Z (Cl d [])
        .exact Go 2 Z (Lm Z (Go 3 Z (Cl d [])))
    refine Gx 1 Z (Ef g (Cn Z c (λy c=>?_) (λy c=>?_)))
    .refine Gc 6 Z ?_;cases c;refine Qs (Gx 3 Z (QD e ?_));obtain rfl:=Oj f e;exact Gx 1 Z (Qs (Gx 1 Z (Rt h 2 [])))
    refine Gc 1 Z ?_;cases c;exact Qo Z (Lr [])
   refine Gc 6 Z (YH Z c (λz c=>?_) (λz c=>?_))
   .refine Gc 6 Z ?_;cases c;refine Qs (Gx 3 Z (QD e ?_));obtain rfl:=Oj f e;exact Gx 1 Z (Qs (Gx 1 Z (Rt h 2 [])))
   refine Gc 1 Z (Bd c λk a c=>?_);refine Ct k [] [0,3] (λk=>[(73,.bool k)]) Ze Zf ?_ (λenv H g=>?_)
   .refine G0 5 Z (Is 50 a Z (λB a=>?_) (λB a=>?_))
    .exact Go 24 Z (Cl a [])
    .refine Go 2 Z (Cz [] a (k_bj _ _) Z λab V a=>Go 3 Z (Is 56 a Z (λE a=>?_) (λE a=>?_)))
     .exact Go 18 Z (Cl a [])
     .refine Go 2 Z (Lm Z (Go 3 Z (Is 62 a Z (λF a=>?_) (λF a=>?_))))
      .exact Go 12 Z (Cl a [])
      .refine Go 2 Z (Cz [] a (i _) Z λac W a=>Go 3 Z (Is 68 a Z (λG a=>?_) (λG a=>?_)))
       .exact Go 6 Z (Cl a [])
       .exact Go 2 Z (Cz [] a (i _) Z λae X a=>Go 3 Z (Cl a []))
   refine Gx 1 Z (Ef g (Cn Z c (λJ c=>?_) (λJ c=>?_)))
   .refine Gc 6 Z ?_;cases c;refine Qs (Gx 3 Z (QD e ?_));obtain rfl:=Oj f e;exact Gx 1 Z (Qs (Gx 1 Z (Rt h 2 [])))
   refine Gc 1 Z ?_;cases c;exact Qo Z (Lr [])
  subst hb;exact Gx 3 Z (Ef g (Gc 5 Z (Qj e (Lr []))))
 subst P;exact Gx 1 Z (Ef g (Gc 6 Z (Rt h 2 [])))
def F_h:Nat->(List Step)->Option Bool
  |0=>λ_=>none
  |n+1=>B_h (F_h n) n
theorem k_h(n:Nat):∀(a:List Step) (r:Bool),F_h n a=some r->Csm prog 107 [.rsl 8 (List.map Step.enc a)] [] (λr=>.bool r) r:=by
  induction n with
  |zero=>intro a r h;cases h
  |succ n ih=>intro a r h;exact Qa5 _ ih n a r h
def F_cy(n:Nat)(a:List Step):Option Int:=
  (F_v n a 0).bind λb=>((bif decide (64<b.1)then some true else some (decide (256<b.2))):Option Bool).bind λd=>(bif d then some 2 else((bif ((a.length:Int)==0)then some true else(F_h n a).bind λc=>some (!c)):Option Bool).bind λe=>(bif e then some 71 else some 0))
theorem k_cy(n:Nat)(i:List Step)(r:Int)(h:F_cy n i=some r):
    Csm prog 61 [.rsl 8 (List.map Step.enc i)] [] (λr=>I r) r:=by
 refine Qb func61 Z Z Z ?_;refine G0 8 Z (Cd [] h (k_v _ _ _) Z λq m h=>FE Z (Go 9 Z (Bd h λd b h=>?_)));refine Ct d [] [0] (λd=>[(15,.bool d)]) Ze Zf ?_ (λenv H c=>?_)
 .refine G0 4 Z (Is 12 b Z (λj b=>?_) (λj b=>?_))
  .exact Go 4 Z (Cl b [])
  .exact Go 4 Z (Cl b [])
 refine Gx 1 Z (Ef c (Cn Z h (λk h=>?_) (λk h=>?_)))
 .exact Gc 7 Z (Rt h 2 [])
 refine Gc 4 Z (Bd h λe a h=>?_);refine Ct e [] [] (λe=>[(23,.bool e)]) Ze Zf ?_ (λenv H c=>?_)
 .refine G0 2 Z (Lm Z (Go 2 Z (Is 19 a Z (λf a=>?_) (λf a=>?_))))
  .exact Go 5 Z (Cl a [])
  .exact Go 1 Z (Cz [] a (k_h _ _) Z λp l a=>Go 3 Z (Cl a []))
 refine Gx 1 Z (Ef c (Cn Z h (λg h=>?_) (λg h=>?_)))
 .exact Gc 7 Z (Rt h 2 [])
 exact Gc 8 Z (Rt h 2 [])
def F_he(n:Nat)(g:List Part)(b:(List Int)×Int)(c:List Int)(a:(List Int)×Int):Option (Ctl ((List Int)×Int) (List Int)):=
  ((idx g b.2).bind λd=>(bif decide (a.2<d.Laps)then some (decide ((a.1.length:Int)<=256))else some false):Option Bool).bind λe=>(bif e then(app a.1 c).bind λf=>some (.cont (f,IntKind.i64.wrap (a.2+1)))else some (.done a.1))
def F_gf(n:Nat)(b:List Part)(rec226:(List Part)->Option (List Int))(a:(List Int)×Int):Option (Ctl ((List Int)×Int) (List Int)):=
  ((bif decide (a.2<(b.length:Int))then some (decide ((a.1.length:Int)<=256))else some false):Option Bool).bind λc=>(bif c then((idx b a.2).bind λd=>(bif (d.Laps==0)then(idx b a.2).bind λe=>(app a.1 [e.Mat]).bind λf=>some f else(idx b a.2).bind λg=>(rec226 g.Parts).bind λh=>(iter (F_he n b a h) n (a.1,0):Option (List Int)).bind λi=>some i):Option (List Int)).bind λj=>some (.cont (j,IntKind.i64.wrap (a.2+1)))else some (.done a.1))
def B_z(rec226:(List Part)->Option (List Int))(n:Nat)(b:List Part):Option (List Int):=
  (iter (F_gf n b rec226) n (([]:List Int),0):Option (List Int)).bind λa=>some a
theorem QaX(rec226:(List Part)->Option (List Int))(t:∀(u:List Part) (r:List Int),rec226 u=some r->C prog 108 [.rsl 3 (List.map Part.enc u)] [] (RQ (λr=>.osl 0 0 r.length 1) (λr=>[.row 3 1 (List.map (Qh .i64) r)]) r))(n:Nat)(u:List Part)(r:List Int)(h:B_z rec226 n u=some r):
    C prog 108 [.rsl 3 (List.map Part.enc u)] [] (RQ (λr=>.osl 0 0 r.length 1) (λr=>[.row 3 1 (List.map (Qh .i64) r)]) r):=by
 refine Qb func108 Z Z Z ?_;refine G0 7 Z ?_;refine vH (El (xs:=[]) (es:=List.map (Qh .i64) []) Yc Z Z Z Z Z trivial Z Z) ?_;refine FE Z (Go 9 Z (Bd h λg Q h=>?_));refine Ct g [0] [] (λg=>[(3,.osl 0 0 g.length 1)]) (λg=>[(0,.row 3 1 (List.map (Qh .i64) g))]) Zf ?_ (λenv H f=>?_)
 .refine G0 1 Z ?_;refine Lp [0] [0] (λj=>[(3,.osl 0 0 j.1.length 1),(4,I j.2)]) (λj=>[(0,.row 3 1 (List.map (Qh .i64) j.1))]) Q Zf (Lr [0]) λj Y b x=>?_;refine G0 2 Z (Bd b λq k b=>?_);refine Ct q [0] [0,3,4] (λq=>[(16,.bool q)]) Ze Zf ?_ (λenv H f=>?_)
  .refine G0 3 Z (Lm Z (Go 2 Z (Is 12 k Z (λy k=>?_) (λy k=>?_))))
   .exact Go 5 Z (Cl k [0])
   .exact Go 5 Z (Cl k [0])
  refine Gx 1 Z (Ef f (YH Z b (λz b=>?_) (λz b=>?_)))
  .refine Gc 2 Z (Ql b ?_);obtain rfl:=Oj x b;exact Gx 1 Z (QC (Lr [0]))
  refine Gc 3 Z (Bd b λl a b=>?_);refine Ct l [0] [0,4] (λl=>[(3,.osl 0 0 l.length 1)]) (λl=>[(0,.row 3 1 (List.map (Qh .i64) l))]) Zf ?_ (λenv H f=>?_)
  .refine G0 6 Z (Bd a λR B a=>IzE B (Q0 R) Z (Go 5 Z (Cn Z a (λE a=>?_) (λE a=>?_))))
   .refine Gc 5 Z (Bd a λw F a=>IzE F (Q0 w) Z (Go 2 Z ?_));refine vH (El (xs:=[.tmp 30]) (es:=List.map (Qh .i64) [w.Mat]) Yc Z Z Z Z Z ⟨Z,trivial⟩ Z Z) ?_;refine FE Z (Bd a λaa G a=>?_);refine vH (QB (e:=(Qh .i64)) G Yc runUnderlying40 (YP (i:=1))) ?_;exact FE Z (Go 6 Z (Cl a [2]))
   refine Gc 6 Z (Bd a λT J a=>IzE J (Q0 T) Z (Go 2 Z (Cd [] a (t _) Z λab X a=>FE Z (Go 8 Z (Bd a λm V a=>?_)))));refine Ct m [0] [0,4] (λm=>[(3,.osl 0 0 m.length 1)]) (λm=>[(0,.row 3 1 (List.map (Qh .i64) m))]) Zf ?_ (λenv H f=>?_)
   .refine G0 1 Z ?_;refine Lp [0,1] [0,4,5] (λp=>[(3,.osl 0 0 p.1.length 1),(6,I p.2)]) (λp=>[(0,.row 3 1 (List.map (Qh .i64) p.1))]) V Zf (Lr [0,1]) λp ac c L=>?_;refine G0 2 Z (Bd c λs d c=>?_);refine Ct s [0,1] [0,3,4,5,6] (λs=>[(50,.bool s)]) Ze Zf ?_ (λenv H f=>?_)
    .refine G0 4 Z (Bd d λW M d=>IzE M (Q0 W) Z (Go 4 Z (Is 46 d Z (λN d=>?_) (λN d=>?_))))
     .exact Go 5 Z (Cl d [0,1])
     .exact Go 5 Z (Cl d [0,1])
    refine Gx 1 Z (Ef f (YH Z c (λO c=>?_) (λO c=>?_)))
    .refine Gc 2 Z (Ql c ?_);obtain rfl:=Oj L c;exact Gx 1 Z (QC (Lr [0]))
    refine Gc 7 Z (Bd c λae P c=>?_);refine vH (QB (e:=(Qh .i64)) P Yc runUnderlying40 (YP (i:=1))) ?_;exact FE Z (Go 9 Z (Qj c (Lr [2,1])))
   refine Gx 1 Z ?_;cases a;exact QC (En f (Lr [0]))
  exact Gx 1 Z (Ef f (Gc 5 Z (Qj b (Lr [0]))))
 exact Gx 1 Z (Ef f (Gc 7 Z (Rt h 2 [0])))
def F_z:Nat->(List Part)->Option (List Int)
  |0=>λ_=>none
  |n+1=>B_z (F_z n) n
theorem k_z(n:Nat):∀(a:List Part) (r:List Int),F_z n a=some r->C prog 108 [.rsl 3 (List.map Part.enc a)] [] (RQ (λr=>.osl 0 0 r.length 1) (λr=>[.row 3 1 (List.map (Qh .i64) r)]) r):=by
  induction n with
  |zero=>intro a r h;cases h
  |succ n ih=>intro a r h;exact QaX _ ih n a r h
def F_fb(n:Nat)(b:Course)(f:Int)(g:Int)(a:Int):Option (Ctl Int (Ctl Unit Int)):=
  (bif decide (a<(b.Legs.length:Int))then((idx b.Legs a).bind λc=>(bif (c.From==f)then(idx b.Legs a).bind λd=>some (d.To==g)else some false):Option Bool).bind λe=>(bif e then some (.done (.done a))else some (.cont (IntKind.i64.wrap (a+1))))else some (.done (.cont ())))
def F_am(n:Nat)(c:Course)(d:Int)(e:Int):Option Int:=
  (iter (F_fb n c d e) n 0:Option (Ctl Unit Int)).bind λb=>match b with|.cont a=>(some (-1))|.done a=>some a
theorem k_am(n:Nat)(q:Course)(s:Int)(t:Int)(r:Int)(h:F_am n q s t=some r):
    Csm prog 109 [.agg (Course.c q),I s,I t] [] (λr=>I r) r:=by
 refine Qb func109 Z Z Z ?_;refine G0 12 Z (Bd h λu w h=>?_);refine CtE (b:=u) [] [] Ze Ze Zf ?_ (λy env H x e=>?_)
 .refine G0 1 Z ?_;refine Lp [0] [1,2,3] (λi=>[(7,I i)]) Ze w Zf (Lr [0]) λi z a f=>?_;refine G0 6 Z (Lm Z (Go 3 Z (YH Z a (λj a=>?_) (λj a=>?_))))
  .refine Gc 2 Z (Ql a ?_);obtain rfl:=Oj f a;exact Gx 1 Z (Qo Z (Lr []))
  refine Gc 5 Z (Bd a λg d a=>?_);refine Ct g [0] [1,2,3,7] (λg=>[(32,.bool g)]) Ze Zf ?_ (λenv H e=>?_)
  .refine G0 4 Z (Bd d λB k d=>Iz k Z (Go 5 Z (Is 23 d Z (λl d=>?_) (λl d=>?_))))
   .exact Go 3 Z (Bd d λE m d=>Iz m Z (Go 6 Z (Cl d [0])))
   .exact Go 10 Z (Cl d [0])
  refine Gx 1 Z (Ef e (Cn Z a (λp a=>?_) (λp a=>?_)))
  .refine Gc 9 Z (QD a ?_);obtain rfl:=Oj f a;exact Gx 1 Z (Qs (Gx 1 Z (Rt h 6 [])))
  exact Gc 8 Z (Qj a (Lr [0]))
 subst x;exact Gx 1 Z (Ef e (Gc 6 Z (Rt h 6 [])))
def F_gg(n:Nat)(b:List Int)(e:Int)(a:Int×Int):Option (Ctl (Int×Int) Int):=
  (bif decide (a.2<(b.length:Int))then(idx b a.2).bind λc=>((bif (c==e)then some (IntKind.i64.wrap (a.1+1))else some a.1):Option Int).bind λd=>some (.cont (d,IntKind.i64.wrap (a.2+1)))else some (.done a.1))
def F_ao(n:Nat)(b:List Int)(c:Int):Option Int:=
  (iter (F_gg n b c) n (0,0):Option Int).bind λa=>some a
theorem k_ao(n:Nat)(l:List Int)(m:Int)(r:Int)(h:F_ao n l m=some r):
    Csm prog 110 [.rsl 1 (List.map (Qh .i64) l),I m] [] (λr=>I r) r:=by
 refine Qb func110 Z Z Z ?_;refine G0 16 Z (Bd h λc p h=>?_);refine Ct c [] [] (λc=>[(5,I c)]) Ze Zf ?_ (λenv H d=>?_)
 .refine G0 1 Z ?_;refine Lp [] [0,1] (λe=>[(5,I e.1),(6,I e.2)]) Ze p Zf (Lr []) λe q a g=>?_;refine G0 5 Z (Lm Z (Go 3 Z (YH Z a (λi a=>?_) (λi a=>?_))))
  .refine Gc 2 Z (Ql a ?_);obtain rfl:=Oj g a;exact Gx 1 Z (QC (Lr []))
  refine Gc 8 Z (Bd a λs j a=>Iz j Z (Go 5 Z (Bd a λf b a=>?_)));refine Ct f [] [0,1,6] (λf=>[(5,I f)]) Ze Zf ?_ (λenv H d=>?_)
  .refine G0 0 Z (Cn Z b (λk b=>?_) (λk b=>?_))
   .exact Gc 5 Z (Cl b [])
   exact Gc 1 Z (Cl b [])
  exact Gx 2 Z (Ef d (Gc 5 Z (Qj a (Lr []))))
 exact Gx 1 Z (Ef d (Gc 7 Z (Rt h 4 [])))
def F_by(n:Nat)(c:Course)(b:List Int)(a:Int):Option (Ctl Int (Ctl Unit Bool)):=
  (bif decide (a<(b.length:Int))then((bif (a==0)then some 1 else(bif (a==(IntKind.i64.wrap ((b.length:Int)-1)))then some 3 else some 2)):Option Int).bind λd=>((idx b a).bind λe=>(idx c.Mats e).bind λf=>(bif (f.Kind != d)then some true else(bif decide (0<a)then(idx b (IntKind.i64.wrap (a-1))).bind λg=>(idx b a).bind λh=>(F_am n c g h).bind λi=>some (decide (i<0))else some false)):Option Bool).bind λj=>(bif j then some (.done (.done false))else some (.cont (IntKind.i64.wrap (a+1))))else some (.done (.cont ())))
def F_iu(n:Nat)(b:Distance)(f:List Int)(a:Int):Option (Ctl Int (Ctl Unit Bool)):=
  (bif decide (a<(b.Cutoffs.length:Int))then(idx b.Cutoffs a).bind λc=>(F_ao n f c.Mat).bind λd=>(idx b.Cutoffs a).bind λe=>(bif decide (d<e.Lap)then some (.done (.done false))else some (.cont (IntKind.i64.wrap (a+1))))else some (.done (.cont ())))
def F_ca(n:Nat)(e:Course)(a:Distance):Option Bool:=
  (F_z n a.Route).bind λb=>((bif decide ((b.length:Int)<2)then some true else some (decide (256<(b.length:Int)))):Option Bool).bind λl=>(bif l then some false else(iter (F_by n e b) n 0:Option (Ctl Unit Bool)).bind λf=>match f with|.cont c=>(((bif (a.Extra != (-1))then(idx e.Mats a.Extra).bind λg=>(bif (g.Kind != 2)then some true else(F_ao n b a.Extra).bind λh=>(bif (h==0)then some true else(F_am n e a.Extra a.Extra).bind λi=>some (decide (i<0))))else some false):Option Bool).bind λj=>(bif j then some false else(iter (F_iu n a b) n 0:Option (Ctl Unit Bool)).bind λk=>match k with|.cont d=>(some true)|.done d=>some d))|.done c=>some c)
theorem k_ca(n:Nat)(a1:Course)(a2:Distance)(r:Bool)(h:F_ca n a1 a2=some r):
    Csm prog 62 [.agg (Course.c a1),.agg (Distance.c a2)] [] (λr=>.bool r) r:=by
 refine Qb func62 Z Z Z ?_;refine G0 11 Z (Cd [] h (k_z _ _) Z λr1 ay h=>FE Z (Go 12 Z (Bd h λO p h=>?_)));refine Ct O [0,1,2] [2,3,5,6] (λO=>[(20,.bool O)]) Ze Zf ?_ (λenv H g=>?_)
 .refine G0 4 Z (Is 17 p Z (λag p=>?_) (λag p=>?_))
  .exact Go 4 Z (Cl p [0,1,2])
  .exact Go 4 Z (Cl p [0,1,2])
 refine Gx 1 Z (Ef g (Cn Z h (λah h=>?_) (λah h=>?_)))
 .exact Gc 7 Z (Rt h 4 [])
 refine Gc 8 Z (Bd h λai aj h=>?_);refine CtE (b:=ai) [0,1,2] [2,3,5] Ze Ze Zf ?_ (λaq env H q g=>?_)
 .refine G0 1 Z ?_;refine Lp [0,1,2] [2,3,5,6] (λj=>[(7,I j)]) Ze aj Zf (Lr [0,1,2]) λj az f s=>?_;refine G0 8 Z (YH Z f (λP f=>?_) (λP f=>?_))
  .refine Gc 2 Z (Ql f ?_);obtain rfl:=Oj s f;exact Gx 1 Z (Qo Z (Lr [0,1,2]))
  refine Gc 22 Z (Bd f λt i f=>?_);refine Ct t [0,1,2] [2,3,5,6,7] (λt=>[(8,I t)]) Ze Zf ?_ (λenv H g=>?_)
  .refine G0 0 Z (Cn Z i (λQ i=>?_) (λQ i=>?_))
   .exact Gc 3 Z (Cl i [0,1,2])
   refine Gc 8 Z (Cn Z i (λR i=>?_) (λR i=>?_))
   .exact Gc 3 Z (Cl i [0,1,2])
   exact Gc 1 Z (Cl i [0,1,2])
  refine Gx 2 Z (Ef g (Gc 1 Z (Bd f λu d f=>?_)));refine Ct u [0,1,2] [2,3,5,6,7] (λu=>[(61,.bool u)]) Ze Zf ?_ (λenv H g=>?_)
  .refine G0 0 Z (DSs 25 Z (D 4 Z ?_));obtain⟨ak,w,d⟩:=bnd d;refine DS.v (x:=(.ptr 2 (Int.toNat j*1))) (Yf w Z runUnderlying40 sizeOf3) ?_;refine DS.v (x:=(I ak)) (Ez Z isAgg3 Z (Qw w)) ?_;obtain⟨N,T,d⟩:=bnd d;refine DS.wo (x:=.rp [.str N.Name,I N.Kind]) ?_ ?_
   .exact Ix T runUnderlying22 sizeOf88 Z Wp
   refine D 5 Z (Qla 11 d Z Z Z (λV d=>?_) (λV d=>?_))
   .exact D 13 Z (Eh Z (Go 5 Z (Cl d [0,1,2])))
   .refine D 3 Z (Qla 14 d Z Z Z (λW d=>?_) (λW d=>?_))
    .refine D 4 Z ?_;obtain⟨al,y,d⟩:=bnd d;refine DS.v (x:=(.ptr 2 (Int.toNat (IntKind.i64.wrap (j-1))*1))) (Yf y Z runUnderlying40 sizeOf3) ?_ (hg:=(gT Z));refine DS.v (x:=(I al)) (Ez Z isAgg3 Z (Qw y)) ?_ (hg:=(gT Z));refine D 2 Z ?_;obtain⟨am,z,d⟩:=bnd d;refine DS.v (x:=(.ptr 2 (Int.toNat j*1))) (Yf z Z runUnderlying40 sizeOf3) ?_ (hg:=(gT Z));refine DS.v (x:=(I am)) (Ez Z isAgg3 Z (Qw z)) ?_ (hg:=(gT Z));exact Eh Z (Cz [] d (k_am _ _ _ _) Z λba ar d=>Go 4 Z (Cl d [0,1,2]))
    .exact D 10 Z (Eh Z (Go 5 Z (Cl d [0,1,2])))
  refine Gx 1 Z (Ef g (Cn Z f (λX f=>?_) (λX f=>?_)))
  .refine Gc 8 Z (QD f ?_);obtain rfl:=Oj s f;exact Gx 1 Z (Qs (Gx 1 Z (Rt h 4 [])))
  exact Gc 8 Z (Qj f (Lr [0,1,2]))
 subst q;refine Gx 1 Z (Ef g (Gc 2 Z (Bd h λB e h=>?_)));refine Ct B [1,2] [3,5] (λB=>[(90,.bool B)]) Ze Zf ?_ (λenv H g=>?_)
 .refine G0 5 Z (Is 65 e Z (λY e=>?_) (λY e=>?_))
  .refine Go 4 Z (Bd e λbb aa e=>Iz aa Z (Go 4 Z (Is 74 e Z (λab e=>?_) (λab e=>?_))))
   .exact Go 17 Z (Cl e [1,2])
   .refine Go 3 Z (Cb e (k_ao _ _ _) Z (lo (ls ln)) λbc au e=>Go 3 Z (Is 81 e Z (λac e=>?_) (λac e=>?_)))
    .exact Go 10 Z (Cl e [1,2])
    .exact Go 5 Z (Cz [] e (k_am _ _ _ _) Z λbd av e=>Go 4 Z (Cl e [1,2]))
  .exact Go 26 Z (Cl e [1,2])
 refine Gx 1 Z (Ef g (Cn Z h (λae h=>?_) (λae h=>?_)))
 .exact Gc 7 Z (Rt h 4 [])
 refine Gc 8 Z (Bd h λan ao h=>?_);refine CtE (b:=an) [] [] Ze Ze Zf ?_ (λaw env H q g=>?_)
 .refine G0 1 Z ?_;refine Lp [0,1] [3,5] (λE=>[(9,I E)]) Ze ao Zf (Lr [0,1]) λE ax a m=>?_;refine G0 6 Z (Lm Z (Go 3 Z (YH Z a (λF a=>?_) (λF a=>?_))))
  .refine Gc 2 Z (Ql a ?_);obtain rfl:=Oj m a;exact Gx 1 Z (Qo Z (Lr []))
  refine Gc 5 Z (DSs 14 Z (D 4 Z ?_));obtain⟨k,G,a⟩:=bnd a;refine DS.wo (x:=.rp [I k.Mat,I k.Lap,I k.Limit]) ?_ ?_
  .exact Ix G runUnderlying84 sizeOf200 Z Wp
  refine D 2 Z ?_;obtain⟨af,J,a⟩:=bnd a;refine DS.wo (x:=I af) ?_ ?_
  .refine Qi7 (OpC.fn call110 rfl rfl rfl) (Qbn.cons rfl (.inr ⟨_,_,_,_,_,rfl,rfl,X4 ..,rfl⟩) (Qbn.cons rfl (.inl ⟨rfl,rfl⟩) Qbn.nil)) (k_ao _ _ _ _ J) (by rintro _ _ ⟨rfl,rfl⟩;rfl) ?_;rintro _ _ ⟨rfl,rfl⟩;exact FE Z Wp
  refine D 3 Z ?_;obtain⟨l,L,a⟩:=bnd a;refine DS.wo (x:=.rp [I l.Mat,I l.Lap,I l.Limit]) ?_ ?_
  .exact Ix L runUnderlying84 sizeOf200 Z Wp
  refine D 2 Z (Eh Z (Go 3 Z (Cn Z a (λM a=>?_) (λM a=>?_))))
  .refine Gc 8 Z (QD a ?_);obtain rfl:=Oj m a;exact Gx 1 Z (Qs (Gx 1 Z (Rt h 4 [])))
  exact Gc 8 Z (Qj a (Lr [0,1]))
 subst q;exact Gx 1 Z (Ef g (Gc 6 Z (Rt h 4 [])))
def F_iz(n:Nat)(b:Course)(a:Int):Option (Ctl Int (Ctl Unit Int)):=
  (bif decide (a<(b.Distances.length:Int))then(idx b.Distances a).bind λc=>(F_ca n b c).bind λd=>(bif (!d)then some (.done (.done 72))else some (.cont (IntKind.i64.wrap (a+1))))else some (.done (.cont ())))
def F_ak(n:Nat)(a:Course):Option Int:=
  (F_be n a).bind λe=>(bif (!e)then some 2 else(F_dk n a).bind λf=>(bif (!f)then some 70 else(F_cn n a).bind λg=>(bif (!g)then some 71 else(F_cy n a.Ties).bind λc=>(bif (c != 0)then some c else(iter (F_iz n a) n 0:Option (Ctl Unit Int)).bind λd=>match d with|.cont b=>(some 0)|.done b=>some b))))
theorem k_ak(n:Nat)(k:Course)(r:Int)(h:F_ak n k=some r):
    Csm prog 24 [.agg (Course.c k)] [] (λr=>I r) r:=by
 refine Qb func24 Z Z Z ?_;refine G0 10 Z (Cz [] h (k_be _ _) Z λM B h=>Go 3 Z (Cn Z h (λl h=>?_) (λl h=>?_)))
 .exact Gc 7 Z (Rt h 2 [])
 refine Gc 6 Z (Cz [] h (k_dk _ _) Z λN E h=>Go 3 Z (Cn Z h (λm h=>?_) (λm h=>?_)))
 .exact Gc 7 Z (Rt h 2 [])
 refine Gc 6 Z (Cz [] h (k_cn _ _) Z λO F h=>Go 3 Z (Cn Z h (λp h=>?_) (λp h=>?_)))
 .exact Gc 7 Z (Rt h 2 [])
 refine Gc 6 Z (Cz [] h (k_cy _ _) Z λP G h=>Go 10 Z (Cn Z h (λq h=>?_) (λq h=>?_)))
 .exact Gc 8 Z (Rt h 2 [])
 refine Gc 8 Z (Bd h λs t h=>?_);refine CtE (b:=s) [] [] Ze Ze Zf ?_ (λy env H u w=>?_)
 .refine G0 1 Z ?_;refine Lp [0] [1] (λf=>[(4,I f)]) Ze t Zf (Lr [0]) λf J a e=>?_;refine G0 6 Z (Lm Z (Go 3 Z (YH Z a (λg a=>?_) (λg a=>?_))))
  .refine Gc 2 Z (Ql a ?_);obtain rfl:=Oj e a;exact Gx 1 Z (Qo Z (Lr []))
  refine Gc 5 Z (DSs 6 Z (D 4 Z ?_));obtain⟨d,i,a⟩:=bnd a;refine DS.wo (x:=.rp [.str d.Name,.rsl 3 (List.map Part.enc d.Route),I d.Timing,.rsl 3 (List.map Cutoff.c d.Cutoffs),I d.Extra]) ?_ ?_
  .exact Ix i runUnderlying24 sizeOf86 Z Wp
  refine D 1 Z (Eh Z (Cz [] a (k_ca _ _ _) Z λL z a=>Go 3 Z (Cn Z a (λj a=>?_) (λj a=>?_))))
  .refine Gc 8 Z (QD a ?_);obtain rfl:=Oj e a;exact Gx 1 Z (Qs (Gx 1 Z (Rt h 2 [])))
  exact Gc 8 Z (Qj a (Lr [0]))
 subst u;exact Gx 1 Z (Ef w (Gc 6 Z (Rt h 2 [])))
def F_iq(n:Nat)(e:Course)(f:List Fact)(g:Fact)(h:Int)(c:Int):Option (Ctl Int (Ctl Unit Bool)):=
  (bif decide (c<(([1,2,3,g.Protest.Case].length):Int))then(idx [1,2,3,g.Protest.Case] c).bind λd=>(F_w n e f d).bind λa=>(F_w n ({e with Deadline:=IntKind.i64.wrap (e.Deadline+(Qeu .i64 h 1023)):Course}) f d).bind λb=>((bif (a.2 != b.2)then some true else(bif a.2 then(bif (b.1 != (IntKind.i64.wrap (a.1+(Qeu .i64 h 1023))))then some true else(bif (!a.2)then(bif (a.1 != 0)then some true else some (b.1 != 0))else some false))else(bif (!a.2)then(bif (a.1 != 0)then some true else some (b.1 != 0))else some false))):Option Bool).bind λi=>(bif i then some (.done (.done false))else some (.cont (IntKind.i64.wrap (c+1))))else some (.done (.cont ())))
def F_gp(n:Nat)(a:Course)(b:List Fact)(d:Fact)(e:Int):Option Bool:=
  (F_hd 300).bind λp=>(bif (!p)then some false else((F_ap n a).bind λf=>(bif (!f)then some true else(F_hr n b 12).bind λq=>(bif (!(decide ((b.length:Int)<=12)))then some true else(F_ak n a).bind λg=>(bif (g != 0)then some true else(F_ak n ({a with Deadline:=IntKind.i64.wrap (a.Deadline+(Qeu .i64 e 1023)):Course})).bind λh=>some (h != 0)))):Option Bool).bind λi=>(bif i then some true else(iter (F_iq n a b d e) n 0:Option (Ctl Unit Bool)).bind λj=>match j with|.cont c=>(((F_i n a b d).bind λk=>(bif (!k)then some true else(F_i n ({a with Deadline:=IntKind.i64.wrap (a.Deadline+(Qeu .i64 e 1023)):Course}) b d).bind λl=>some l):Option Bool).bind λm=>some m)|.done c=>some c))
theorem k_gp(n:Nat)(O:Course)(P:List Fact)(s:Fact)(q:Int)(r:Bool)(h:F_gp n O P s q=some r):
    Csm prog 9 [.agg (Course.c O),.rsl 57 (List.map Fact.c P),.agg (Fact.c s),I q] [] (λr=>.bool r) r:=by
 refine Qb func9 Z Z Z ?_;refine G0 10 Z (Cz [] h (k_hd _) Z λr1 ak h=>Go 3 Z (Cn Z h (λQ h=>?_) (λQ h=>?_)))
 .exact Gc 7 Z (Rt h 8 [])
 refine Gc 14 Z ?_;refine vX (I (Qeu .i64 q 1023)) (OpV.and Z Z Z) ?_;refine Go 7 Z (Bd h λi d h=>?_);refine Ct i [0,1,2] [1,3,4,6,9] (λi=>[(42,.bool i)]) Ze Zf ?_ (λenv H g=>?_)
 .refine G0 2 Z (Cz [] d (k_ap _ _) Z λal aa d=>Go 2 Z (Is 28 d Z (λt d=>?_) (λt d=>?_)))
  .exact Go 15 Z (Cl d [0,1,2])
  .refine Go 1 Z (Cz [] d (k_hr _ _ _) Z λam ab d=>Go 3 Z (Is 33 d Z (λu d=>?_) (λu d=>?_)))
   .exact Go 10 Z (Cl d [0,1,2])
   .refine Go 1 Z (Cz [] d (k_ak _ _) Z λan ac d=>Go 3 Z (Is 38 d Z (λw d=>?_) (λw d=>?_)))
    .exact Go 5 Z (Cl d [0,1,2])
    .exact Go 1 Z (Cz [] d (k_ak _ _) Z λao ae d=>Go 3 Z (Cl d [0,1,2]))
 refine Gx 1 Z (Ef g (Cn Z h (λx h=>?_) (λx h=>?_)))
 .exact Gc 7 Z (Rt h 8 [])
 refine Gc 8 Z ?_;refine vH (El (xs:=[.const (.int .i64 1),.const (.int .i64 2),.const (.int .i64 3),.tmp 45]) (es:=List.map (Qh .i64) [1,2,3,s.Protest.Case]) Yc Z Z Z Z Z ⟨Z,Z,Z,Z,trivial⟩ Z Z) ?_;refine FE Z (Go 4 Z (Bd h λR T h=>?_));refine CtE (b:=R) [0,1,2] [1,4,6,9] Ze Ze Zf ?_ (λaf env H V g=>?_)
 .refine G0 1 Z ?_;refine Lp [0,1,2,3] [1,3,4,6,9,46,47] (λj=>[(48,I j)]) Ze T Zf (Lr [0,1,2,3]) λj aq e k=>?_;refine G0 6 Z (YH Z e (λy e=>?_) (λy e=>?_))
  .refine Gc 2 Z (Ql e ?_);obtain rfl:=Oj k e;exact Gx 1 Z (Qo Z (Lr [0,1,2]))
  refine Gc 6 Z (Bd e λW l e=>?_);refine vX (.ptr 3 (Int.toNat j*1)) (Yf l Z runUnderlying40 sizeOf3) ?_;refine vX (I W) (Ez Z isAgg3 Z (Qw l)) ?_;refine Go 8 Z (Cd [] e (k_w _ _ _ _) Z λX ag e=>FE Z (Go 12 Z (Cd [] e (k_w _ _ _ _) Z λY ah e=>FE Z (Go 8 Z (Bd e λm a e=>?_)))));refine Ct m [0,1,2,3] [1,3,4,6,9,46,47,48] (λm=>[(91,.bool m)]) Ze Zf ?_ (λenv H g=>?_)
  .refine G0 3 Z ?_;refine vX (.bool (X.2 != Y.2)) (QcN runUnderlying4) ?_;refine Go 1 Z (Is 69 a Z (λz a=>?_) (λz a=>?_))
   .exact Go 23 Z (Cl a [0,1,2,3])
   .refine Go 2 Z (Is 71 a Z (λB a=>?_) (λB a=>?_))
    .refine Go 3 Z ?_;refine vX (I (Qeu .i64 q 1023)) (OpV.and Z Z Z) ?_ (gT Z);refine Go 5 Z (Is 80 a Z (λE a=>?_) (λE a=>?_))
     .exact Go 12 Z (Cl a [0,1,2,3])
     .refine Go 3 Z (Is 83 a Z (λF a=>?_) (λF a=>?_))
      .refine Go 3 Z (Is 86 a Z (λG a=>?_) (λG a=>?_))
       .exact Go 6 Z (Cl a [0,1,2,3])
       .exact Go 6 Z (Cl a [0,1,2,3])
      .exact Go 9 Z (Cl a [0,1,2,3])
    .refine Go 12 Z (Is 83 a Z (λJ a=>?_) (λJ a=>?_))
     .refine Go 3 Z (Is 86 a Z (λL a=>?_) (λL a=>?_))
      .exact Go 6 Z (Cl a [0,1,2,3])
      .exact Go 6 Z (Cl a [0,1,2,3])
     .exact Go 9 Z (Cl a [0,1,2,3])
  refine Gx 1 Z (Ef g (Cn Z e (λM e=>?_) (λM e=>?_)))
  .refine Gc 8 Z (QD e ?_);obtain rfl:=Oj k e;exact Gx 1 Z (Qs (Gx 1 Z (Rt h 8 [])))
  exact Gc 7 Z (Qj e (Lr [0,1,2,3]))
 subst V;refine Gx 1 Z (Ef g (Gc 1 Z (Bd h λp f h=>?_)));refine Ct p [] [] (λp=>[(8,.bool p)]) Ze Zf ?_ (λenv H g=>?_)
 .refine G0 4 Z (Cz [] f (k_i _ _ _ _) Z λar ai f=>Go 2 Z (Is 98 f Z (λN f=>?_) (λN f=>?_)))
  .exact Go 7 Z (Cl f [])
  .exact Go 3 Z (Cz [] f (k_i _ _ _ _) Z λau aj f=>Go 3 Z (Cl f []))
 exact Gx 1 Z (Ef g (Gc 1 Z (Rt h 8 [])))
end Go.Sw
