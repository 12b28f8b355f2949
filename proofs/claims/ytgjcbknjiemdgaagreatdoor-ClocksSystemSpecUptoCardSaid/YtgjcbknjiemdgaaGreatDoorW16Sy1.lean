/- What the functions compute that ClocksSystemSpec reaches, and that their calls refine it (part 1 of 4). -/
import Derived.Test.YtgjcbknjiemdgaaGreatDoorW16SyB
set_option linter.unusedVariables false
set_option linter.unusedSimpArgs false
set_option maxRecDepth 100000
set_option maxHeartbeats 4000000
namespace Go.Sw
open List(map)
open Int(toNat)
open Go.IntKind(i64 u64 u8)
open Go.Proofs Tryz
def F_hn(n:Nat):Option Unit:=some ()
theorem k_hn(n:Nat):Kq (F_hn n) 32 [] [] (λ_=>.agg [.str [97],.osl 0 0 ([{Name:=[108,105,110,101],Kind:=1:Mat},{Name:=[116,117,114,110],Kind:=2:Mat}].length) 2,.rsl 4 (map Leg.c []),.rsl 5 (map Distance.c []),.rsl 2 (map Wave.c []),.rsl 4 (map Offence.c []),.rsl 3 (map Category.c []),.rsl 4 (map Prize.c []),.osl 1 0 ([{Uu with Kind:=1,By:=5:Step}].length) 8,I 0,I 0,I 0,I 5000,I 20,I 0,I 0]) (λ_=>[.row 119 2 (map Mat.c [{Name:=[108,105,110,101],Kind:=1:Mat},{Name:=[116,117,114,110],Kind:=2:Mat}]),.row 154 8 (map Step.enc [{Uu with Kind:=1,By:=5:Step}]),.cells 33 [.str [97],.osl 0 0 ([{Name:=[108,105,110,101],Kind:=1:Mat},{Name:=[116,117,114,110],Kind:=2:Mat}].length) 2,.rsl 4 (map Leg.c []),.rsl 5 (map Distance.c []),.rsl 2 (map Wave.c []),.rsl 4 (map Offence.c []),.rsl 3 (map Category.c []),.rsl 4 (map Prize.c []),.osl 1 0 ([{Uu with Kind:=1,By:=5:Step}].length) 8,I 0,I 0,I 0,I 5000,I 20,I 0,I 0]]):=by
 refine Kg 9 func32 Z Z Z Z λr h=>?_;refine vH (Ek (xs:=[.tmp 1,.tmp 2]) (es:=map Mat.c [{Name:=[108,105,110,101],Kind:=1:Mat},{Name:=[116,117,114,110],Kind:=2:Mat}]) el_22 Z Z Z Z Z ⟨Z,Z,trivial⟩ Z Z) ?_;refine FE Z (Go 1 Z ?_);refine vH (Ek (xs:=[.tmp 4]) (es:=map Step.enc [{Uu with Kind:=1,By:=5:Step}]) el_29 Z Z Z Z Z ⟨Z,trivial⟩ Z Z) ?_;refine FE Z (Go 6 Z ?_);obtain rfl:=Oi h;exact Rx [1,2,0] [0] Z (Q3 Z (Qg isAgg33 sizeOf33 Z Z Z)) ⟨Z,Z⟩
def F_fb(n:Nat)(g:List Part)(h:Int)(rec7:(List Part)->Int->Option (Int×Int))(a:Int×Int×Int):Option (Ctl (Int×Int×Int) (Int×Int)):=(bif decide (a.2.2<(g.length:Int))then((idx g a.2.2).bind λe=>((bif ((e.Parts.length:Int)==0)then some true else(bif (h==0)then some true else some (decide (256<a.2.1)))):Option Bool).bind λi=>(bif i then some (a.1,a.2.1)else(rec7 e.Parts (i64.wrap (h-1))).bind λd=>some ((if a.1<i64.wrap (d.1+1)then i64.wrap (d.1+1)else a.1),i64.wrap (a.2.1+d.2))):Option (Int×Int)).bind λf=>some (.cont (f.1,f.2,i64.wrap (a.2.2+1)))else some (.done (a.1,a.2.1)))
def B_ac(rec7:(List Part)->Int->Option (Int×Int))(n:Nat)(d:List Part)(e:Int):Option (Int×Int):=(iter (F_fb n d e rec7) n (0,(d.length:Int),0):Option (Int×Int)).bind λa=>some (a.1,a.2)
theorem QdL(rec7:(List Part)->Int->Option (Int×Int))(p:∀(k:List Part) (l:Int) (r:Int×Int),rec7 k l=some r->Csm prog 106 [.rsl 3 (map Part.enc k),I l] [] (λr=>.tup [I r.1,I r.2]) r)(n:Nat)(k:List Part)(l:Int)(r:Int×Int)(h:B_ac rec7 n k l=some r):Csm prog 106 [.rsl 3 (map Part.enc k),I l] [] (λr=>.tup [I r.1,I r.2]) r:=by
 refine QO func106 Z Z Z ?_;refine G0 9 Z (Lm Z (Go 7 Z (Lm Z (Go 3 Z (Bd h λi z h=>?_)))));refine Ct i [] [] (λi=>[(4,I i.1),(5,I i.2)]) Ze Zf ?_ (λenv H g=>?_)
 .refine G0 1 Z ?_;refine Lp [] [1,12,13] (λf=>[(4,I f.1),(5,I f.2.1),(14,I f.2.2)]) Ze z Zf (Lr []) λf F e s=>?_;refine G0 6 Z (Yk Z e (λt e=>?_) (λt e=>?_))
  .refine Gc 2 Z (Qk e ?_);obtain rfl:=Oj s e;exact Gx 1 Z (QF (Lr []))
  refine Gc 3 Z (Bd e λj a e=>?_);refine Ct j [] [1,12,13,14] (λj=>[(4,I j.1),(5,I j.2)]) Ze Zf ?_ (λenv H g=>?_)
  .refine G0 3 Z (Bd a λB u a=>IzE u (Yb B) Z (Go 7 Z (Bd a λm d a=>?_)));refine Ct m [0] [1,4,5,7,12,13,14] (λm=>[(29,.bool m)]) Ze Zf ?_ (λenv H g=>?_)
   .refine G0 3 Z (Lm Z (Go 2 Z (Is 22 d Z (λw d=>?_) (λw d=>?_))))
    .exact Go 8 Z (Cl d [0])
    .refine Go 4 Z (Is 26 d Z (λx d=>?_) (λx d=>?_))
     iterate 2 exact Go 4 Z (Cl d [0])
   refine Gx 1 Z (Qd g (Cn Z a (λy a=>?_) (λy a=>?_)))
   .exact Gc 3 Z (Cl a [])
   refine Gc 8 Z (Cd [] a (p _ _) Z λq E a=>FE Z (Go 11 Z ?_));refine vX (I (if f.1<i64.wrap (q.1+1)then i64.wrap (q.1+1)else f.1)) (OpV.max Z Z Z Z) ?_;exact Go 7 Z (Cl a [])
  exact Gx 1 Z (Qd g (Gc 4 Z (Qj e (Lr []))))
 refine Gx 1 Z (Qd g (Gc 9 Z ?_));obtain rfl:=Oi h;exact R2 4 5 Z Z (Lr [])
def F_ac:Nat->(List Part)->Int->Option (Int×Int)
  |0=>λ_ _=>none
  |n+1=>B_ac (F_ac n) n
theorem k_ac(n:Nat):∀(a:List Part) (d:Int) (r:Int×Int),F_ac n a d=some r->Csm prog 106 [.rsl 3 (map Part.enc a),I d] [] (λr=>.tup [I r.1,I r.2]) r:=by
  induction n with
  |zero=>intro a d r h;cases h
  |succ n ih=>intro a d r h;exact QdL _ ih n a d r h
def F_kh(n:Nat)(f:Course)(a:Int):Option (Ctl Int (Ctl Unit Bool)):=(bif decide (a<(f.Distances.length:Int))then(idx f.Distances a).bind λd=>(F_ac n d.Route 17).bind λe=>((bif decide (64<(d.Cutoffs.length:Int))then some true else(bif decide (16<e.1)then some true else some (decide (256<e.2)))):Option Bool).bind λg=>(bif g then some (.done (.done false))else some (.cont (i64.wrap (a+1))))else some (.done (.cont ())))
def F_ec(n:Nat)(a:Course):Option Bool:=((bif decide (40<(a.Mats.length:Int))then some true else(bif decide (512<(a.Legs.length:Int))then some true else(bif decide (8<(a.Distances.length:Int))then some true else(bif decide (32<(a.Waves.length:Int))then some true else(bif decide (32<(a.Offences.length:Int))then some true else(bif decide (32<(a.Categories.length:Int))then some true else some (decide (32<(a.Prizes.length:Int))))))))):Option Bool).bind λf=>(bif f then some false else(iter (F_kh n a) n 0:Option (Ctl Unit Bool)).bind λe=>match e with|.cont d=>(some true)|.done d=>some d)
theorem k_ec(n:Nat)(B:Course):Ks (F_ec n B) 68 [.agg (Course.c B)] [] (λr=>.bool r):=by
 refine Kg 8 func68 Z Z Z Z λr h=>Bd h λk d h=>?_;refine Ct k [0] [1] (λk=>[(46,.bool k)]) Ze Zf ?_ (λenv H f=>?_)
 .refine G0 3 Z (Lm Z (Go 2 Z (Is 11 d Z (λE d=>?_) (λE d=>?_))))
  .exact Go 36 Z (Cl d [0])
  .refine Go 2 Z (Lm Z (Go 3 Z (Is 17 d Z (λl d=>?_) (λl d=>?_))))
   .exact Go 30 Z (Cl d [0])
   .refine Go 2 Z (Lm Z (Go 3 Z (Is 23 d Z (λm d=>?_) (λm d=>?_))))
    .exact Go 24 Z (Cl d [0])
    .refine Go 2 Z (Lm Z (Go 3 Z (Is 29 d Z (λp d=>?_) (λp d=>?_))))
     .exact Go 18 Z (Cl d [0])
     .refine Go 2 Z (Lm Z (Go 3 Z (Is 35 d Z (λq d=>?_) (λq d=>?_))))
      .exact Go 12 Z (Cl d [0])
      .refine Go 2 Z (Lm Z (Go 3 Z (Is 41 d Z (λs d=>?_) (λs d=>?_))))
       .exact Go 6 Z (Cl d [0])
       .exact Go 2 Z (Lm Z (Go 3 Z (Cl d [0])))
 refine Gx 1 Z (Qd f (Cn Z h (λt h=>?_) (λt h=>?_)))
 .exact Gc 7 Z (Rt h 2 [])
 refine Gc 7 Z (Lm Z (Go 3 Z (Bd h λF G h=>?_)));refine Jk (b:=F) [] [] Ze Ze Zf ?_ (λL env H J f=>?_)
 .refine G0 1 Z ?_;refine Lp [] [48,49] (λj=>[(50,I j)]) Ze G Zf (Lr []) λj N a g=>?_;refine G0 6 Z (Yk Z a (λu a=>?_) (λu a=>?_))
  .refine Gc 2 Z (Qk a ?_);obtain rfl:=Oj g a;exact Gx 1 Z (Qq Z (Lr []))
  refine Gc 6 Z (Bd a λO w a=>Iz w Z (Go 9 Z (Cd [] a (k_ac _ _ _) Z λP M a=>FE Z (Go 8 Z (Bd a λi e a=>?_)))));refine Ct i [] [48,49,50] (λi=>[(71,.bool i)]) Ze Zf ?_ (λenv H f=>?_)
  .refine G0 3 Z (Lm Z (Go 2 Z (Is 64 e Z (λx e=>?_) (λx e=>?_))))
   .exact Go 8 Z (Cl e [])
   .refine Go 4 Z (Is 68 e Z (λy e=>?_) (λy e=>?_))
    iterate 2 exact Go 4 Z (Cl e [])
  refine Gx 1 Z (Qd f (Cn Z a (λz a=>?_) (λz a=>?_)))
  .refine Gc 8 Z (Qy a ?_);obtain rfl:=Oj g a;exact Gx 1 Z (Qu (Gx 1 Z (Rt h 2 [])))
  exact Gc 7 Z (Qj a (Lr []))
 subst J;exact Gx 1 Z (Qd f (Gc 6 Z (Rt h 2 [])))
def F_eu(n:Nat)(a:(List Int)×Int):Option (Ctl ((List Int)×Int) (List Int)):=(bif decide (a.2<=122)then(QeD 256 a.1 a.2).bind λf=>(Qbo a.1 a.2 2).bind λd=>(QeD 256 d (u8.wrap (a.2-32))).bind λg=>(Qbo d (u8.wrap (a.2-32)) 2).bind λe=>some (.cont (e,u8.wrap (a.2+1)))else some (.done a.1))
def F_hl(n:Nat)(a:(List Int)×Int):Option (Ctl ((List Int)×Int) (List Int)):=(bif decide (a.2<=57)then(QeD 256 a.1 a.2).bind λe=>(Qbo a.1 a.2 3).bind λd=>some (.cont (d,u8.wrap (a.2+1)))else some (.done a.1))
def F_kn(n:Nat)(a:(List Int)×Int):Option (Ctl ((List Int)×Int) (List Int)):=(bif decide (a.2<([123,125,40,41,91,93,59,44,61,60,62].length:Int))then(idx [123,125,40,41,91,93,59,44,61,60,62] a.2).bind λd=>(QeD 256 a.1 d).bind λf=>(Qbo a.1 d 4).bind λe=>some (.cont (e,i64.wrap (a.2+1)))else some (.done a.1))
def F_kw(n:Nat)(a:(List Int)×Int):Option (Ctl ((List Int)×Int) (List Int)):=(bif decide (a.2<(([32,9,10,13].length):Int))then(idx [32,9,10,13] a.2).bind λd=>(QeD 256 a.1 d).bind λf=>(Qbo a.1 d 1).bind λe=>some (.cont (e,i64.wrap (a.2+1)))else some (.done a.1))
def F_dj(n:Nat):Option (List Int):=(iter (F_eu n) n (List.replicate 256 0,97):Option (List Int)).bind λd=>(iter (F_hl n) n (d,48):Option (List Int)).bind λe=>(iter (F_kn n) n (e,0):Option (List Int)).bind λf=>(iter (F_kw n) n (f,0):Option (List Int)).bind λa=>(arr 256 a).bind λg=>(arr 256 a).bind λi=>(arr 256 g).bind λh=>some h
theorem k_dj(n:Nat):Kq (F_dj n) 267 [] [] (λr=>.agg (List.flatten (map (Qf .u8) r))) (λr=>[.row 358 1 (map (Qf .u8) r)]):=by
 refine Kg 2 func267 Z Z Z Z λr h=>?_;refine vH (Jj (n:=256) (k:=1) (e:=(Qf .u8)) (z:=0) zeroValue358 (by kernel_rfl) (by kernel_rfl) (by kernel_rfl) Z) ?_;refine FE Z (Go 8 Z (Bd h λw ah h=>?_));refine Ct w [0] [0] Ze (λw=>[(0,.row 358 1 (map (Qf .u8) w))]) Zf ?_ (λenv H j=>?_)
 .refine G0 1 Z ?_;refine Lp [0] [0] (λm=>[(1,.int .u8 m.2)]) (λm=>[(0,.row 358 1 (map (Qf .u8) m.1))]) ah Zf (Lr [0]) λm aq a O=>?_;refine G0 7 Z (Yk Z a (λP a=>?_) (λP a=>?_))
  .refine Gc 2 Z (Qk a ?_);obtain rfl:=Oj O a;exact Gx 1 Z (QF (Lr [0]))
  refine Gc 8 Z (Bd a λar x a=>?_);refine vX (.ptr 0 (toNat m.2*1)) (Qaf (n:=256) (k:=1) (l:=m.1) x E4 E6 Z) ?_;refine Bd a λai Q a=>?_;refine vU (YV (e:=(Qf .u8)) (k:=1) (f:=0) (QaW x).2 Q E6 Z Z) ?_;refine FE Z (Bd a λau y a=>?_);refine vX (.ptr 0 (toNat (u8.wrap (m.2-32))*1)) (Qaf (n:=256) (k:=1) (l:=ai) y E4 E6 Z) ?_;refine Bd a λav R a=>?_;refine vU (YV (e:=(Qf .u8)) (k:=1) (f:=0) (QaW y).2 R E6 Z Z) ?_;exact FE Z (Go 8 Z (Qj a (Lr [0])))
 refine Gx 1 Z (Qd j (Gc 6 Z (Bd h λB aj h=>?_)));refine Ct B [0] [0] Ze (λB=>[(0,.row 358 1 (map (Qf .u8) B))]) Zf ?_ (λenv H j=>?_)
 .refine G0 1 Z ?_;refine Lp [0] [0] (λp=>[(2,.int .u8 p.2)]) (λp=>[(0,.row 358 1 (map (Qf .u8) p.1))]) aj Zf (Lr [0]) λp aw i T=>?_;refine G0 7 Z (Yk Z i (λV i=>?_) (λV i=>?_))
  .refine Gc 2 Z (Qk i ?_);obtain rfl:=Oj T i;exact Gx 1 Z (QF (Lr [0]))
  refine Gc 6 Z (Bd i λax E i=>?_);refine vX (.ptr 0 (toNat p.2*1)) (Qaf (n:=256) (k:=1) (l:=p.1) E E4 E6 Z) ?_;refine Bd i λay W i=>?_;refine vU (YV (e:=(Qf .u8)) (k:=1) (f:=0) (QaW E).2 W E6 Z Z) ?_;exact FE Z (Go 8 Z (Qj i (Lr [0])))
 refine Gx 1 Z (Qd j (Gc 3 Z ?_));refine vH (Ek (xs:=[.const (.int .u8 123),.const (.int .u8 125),.const (.int .u8 40),.const (.int .u8 41),.const (.int .u8 91),.const (.int .u8 93),.const (.int .u8 59),.const (.int .u8 44),.const (.int .u8 61),.const (.int .u8 60),.const (.int .u8 62)]) (es:=map (Qf .u8) [123,125,40,41,91,93,59,44,61,60,62]) YG Z Z Z Z Z ⟨Z,Z,Z,Z,Z,Z,Z,Z,Z,Z,Z,trivial⟩ Z Z) ?_;refine FE Z ?_;refine vH (Ql6 (es:=map (Qf .u8) [123,125,40,41,91,93,59,44,61,60,62]) underlying249 underlying5 (XZ ..) Z) ?_;refine FE Z (Lm Z (Go 3 Z (Bd h λF ak h=>?_)));refine Ct F [0] [0] Ze (λF=>[(0,.row 358 1 (map (Qf .u8) F))]) Zf ?_ (λenv H j=>?_)
 .refine G0 1 Z ?_;refine Lp [0] [0,23,24] (λs=>[(25,I s.2)]) (λs=>[(0,.row 358 1 (map (Qf .u8) s.1))]) ak Zf (Lr [0]) λs az d X=>?_;refine G0 6 Z (Yk Z d (λY d=>?_) (λY d=>?_))
  .refine Gc 2 Z (Qk d ?_);obtain rfl:=Oj X d;exact Gx 1 Z (QF (Lr [0]))
  refine Gc 6 Z (Bd d λal aa d=>Iz aa Z (Go 6 Z (Bd d λba G d=>?_)));refine vX (.ptr 0 (toNat al*1)) (Qaf (n:=256) (k:=1) (l:=s.1) G E4 E6 Z) ?_;refine Bd d λbb ab d=>?_;refine vU (YV (e:=(Qf .u8)) (k:=1) (f:=0) (QaW G).2 ab E6 Z Z) ?_;exact FE Z (Go 7 Z (Qj d (Lr [0])))
 refine Gx 1 Z (Qd j (Gc 3 Z ?_));refine vH (Ek (xs:=[.const (.int .u8 32),.const (.int .u8 9),.const (.int .u8 10),.const (.int .u8 13)]) (es:=map (Qf .u8) [32,9,10,13]) YG Z Z Z Z Z ⟨Z,Z,Z,Z,trivial⟩ Z Z) ?_;refine FE Z (Go 4 Z (Bd h λu am h=>?_));refine Ct u [0] [0] Ze (λu=>[(0,.row 358 1 (map (Qf .u8) u))]) Zf ?_ (λenv H j=>?_)
 .refine G0 1 Z ?_;refine Lp [0,1] [0,32,33] (λq=>[(34,I q.2)]) (λq=>[(0,.row 358 1 (map (Qf .u8) q.1))]) am Zf (Lr [0,1]) λq bc g ac=>?_;refine G0 6 Z (Yk Z g (λad g=>?_) (λad g=>?_))
  .refine Gc 2 Z (Qk g ?_);obtain rfl:=Oj ac g;exact Gx 1 Z (QF (Lr [0]))
  refine Gc 6 Z (Bd g λN J g=>?_);refine vX (.ptr 1 (toNat q.2*1)) (Qv J Z EG E6) ?_;refine vX (.int .u8 N) (Ey Z isAgg5 Z (Qm J)) ?_;refine Go 5 Z (Bd g λbd L g=>?_);refine vX (.ptr 0 (toNat N*1)) (Qaf (n:=256) (k:=1) (l:=q.1) L E4 E6 Z) ?_;refine Bd g λbe ae g=>?_;refine vU (YV (e:=(Qf .u8)) (k:=1) (f:=0) (QaW L).2 ae E6 Z Z) ?_;exact FE Z (Go 7 Z (Qj g (Lr [0,1])))
 refine Gx 1 Z (Qd j (Gc 2 Z (Bd h λan af h=>?_)));refine vX (.agg (List.flatten (map (Qf .u8) an))) (Qjd (e:=(Qf .u8)) af Zf Z isAgg358 GE) ?_;refine Bd h λbf ag h=>Bd h λao t h=>?_;obtain⟨M,rfl⟩:=Jz ag;refine vU (Ji (e:=(Qf .u8)) (l:=u) (l':=ao) M (Qbw t) Zf Z GE Zf Zf (congrArg (λl=>List.flatten (map (Qf .u8) l)) (Jz t).2.symm)) ?_;refine FE Z (Go 3 Z ?_);obtain rfl:=Oi h;exact Rx [0] [0] Z (Q3 Z (QlW (e:=(Qf .u8)) (Qbw t) Zf Z isAgg358 GE)) ⟨Z,Z⟩
def F_ki(n:Nat)(e:List UInt8)(i:List Int)(a:Int):Option (Ctl Int (Ctl Unit Bool)):=(bif decide (a<(e.length:Int))then(idx e a).bind λf=>(QeD 256 i (f.toNat:Int)).bind λd=>((bif (d != 2)then(bif (a==0)then some true else(bif (d != 3)then(idx e a).bind λg=>some ((g.toNat:Int) != 95)else some false))else some false):Option Bool).bind λh=>(bif h then some (.done (.done false))else some (.cont (i64.wrap (a+1))))else some (.done (.cont ())))
def F_cf(n:Nat)(d:List UInt8):Option Bool:=(F_dj n).bind λf=>(arr 256 (List.replicate 256 0)).bind λh=>(arr 256 f).bind λg=>(iter (F_ki n d g) n 0:Option (Ctl Unit Bool)).bind λe=>match e with|.cont a=>(some (d != []))|.done a=>some a
theorem k_cf(n:Nat)(s:List UInt8):Ks (F_cf n s) 239 [.str s] [] (λr=>.bool r):=by
 refine Kg 7 func239 Z Z Z Z λr h=>Bd h λJ L h=>?_;refine Qo [] (OpC.fn call267 Z Z Z) (k_dj _ _ L) ?_;rintro _ _ ⟨rfl,rfl⟩;refine Qnx (x:=(.agg (List.flatten (map (Qf .u8) J)))) (H:=[.row 358 1 (map (Qf .u8) J)]) (Qob (e:=(Qf .u8)) Zf _ _) Z ?_;refine vH (Jj (n:=256) (k:=1) (e:=(Qf .u8)) (z:=0) zeroValue358 (by kernel_rfl) (by kernel_rfl) (by kernel_rfl) Z) ?_;refine FE Z (Bd h λX M h=>Bd h λN m h=>?_);obtain⟨t,rfl⟩:=Jz M;refine vU (Ji (e:=(Qf .u8)) (l:=(List.replicate 256 0)) (l':=N) t (Qbw m) Zf Z GE Zf Zf (congrArg (λl=>List.flatten (map (Qf .u8) l)) (Jz m).2.symm)) ?_;refine FE Z (Go 6 Z ?_);refine vX (I (s.length:Int)) (Je Z Z EE Z) ?_;refine Go 3 Z (Bd h λO P h=>?_);refine Jk (b:=O) [] [0] Ze Ze Zf ?_ (λV env H Q f=>?_)
 .refine G0 1 Z ?_;refine Lp [1] [0,3,8] (λp=>[(9,I p)]) Ze P Zf (Lr [1]) λp W a g=>?_;refine G0 6 Z (Yk Z a (λu a=>?_) (λu a=>?_))
  .refine Gc 2 Z (Qk a ?_);obtain rfl:=Oj g a;exact Gx 1 Z (Qq Z (Lr []))
  refine Gc 14 Z (Bd a λq w a=>?_);refine vX (.int .u8 (q.toNat:Int)) (Q0 w EE) ?_;refine Bd a λR i a=>?_;refine vX (.ptr 0 (toNat (q.toNat:Int)*1)) (Qaf (n:=256) (k:=1) (l:=N) i E4 E6 Z) ?_;refine vX (.int .u8 R) (Ey Z isAgg5 Z (Qm (QaW i).2)) ?_;refine Go 4 Z (Bd a λj d a=>?_);refine Ct j [0] [0,3,8,9] (λj=>[(32,.bool j)]) Ze Zf ?_ (λenv H f=>?_)
  .refine G0 4 Z (Is 19 d Z (λy d=>?_) (λy d=>?_))
   .refine Go 3 Z (Is 22 d Z (λB d=>?_) (λB d=>?_))
    .exact Go 11 Z (Cl d [0])
    .refine Go 3 Z (Is 25 d Z (λE d=>?_) (λE d=>?_))
     .refine Go 2 Z (Bd d λT F d=>?_);refine vX (.int .u8 (T.toNat:Int)) (Q0 F EE) ?_ (gT Z);exact Go 5 Z (Cl d [0])
     .exact Go 8 Z (Cl d [0])
   .exact Go 14 Z (Cl d [0])
  refine Gx 1 Z (Qd f (Cn Z a (λG a=>?_) (λG a=>?_)))
  .refine Gc 8 Z (Qy a ?_);obtain rfl:=Oj g a;exact Gx 1 Z (Qu (Gx 1 Z (Rt h 2 [])))
  exact Gc 7 Z (Qj a (Lr [0]))
 subst Q;exact Gx 1 Z (Qd f (Gc 8 Z (Rt h 2 [])))
def F_hg(n:Nat)(a:List UInt8):Option Bool:=((F_cf n a).bind λg=>(bif g then(cat [32] a).bind λd=>(cat d [32]).bind λe=>(QfC [32,99,111,117,114,115,101,32,109,97,116,115,32,115,116,97,114,116,32,112,97,115,115,32,101,110,100,32,108,101,103,32,116,111,32,100,105,115,116,97,110,99,101,32,103,117,110,32,99,104,105,112,32,115,108,111,116,32,108,97,112,115,32,108,97,112,32,99,117,116,111,102,102,32,101,120,116,114,97,32,119,97,118,101,32,111,102,102,101,110,99,101,32,111,117,116,32,99,97,116,101,103,111,114,121,32,112,114,105,122,101,32,97,108,108,32,116,105,101,115,32,105,102,32,101,108,115,101,32,97,110,100,32,111,114,32,110,111,116,32,111,108,100,101,114,32,121,111,117,110,103,101,114,32,98,105,98,32,100,114,97,119,32,102,105,101,108,100,32,115,104,111,114,116,32,102,97,117,108,116,115,32,109,105,115,115,101,115,32,115,116,114,97,121,115,32,119,105,110,100,111,119,32,114,101,115,105,100,117,97,108,32,100,114,105,102,116,32,112,114,111,116,101,115,116,32,102,101,101,32,100,101,97,100,108,105,110,101,32] e).bind λf=>some f else some false):Option Bool).bind λh=>some h
theorem k_hg(n:Nat)(i:List UInt8):Ks (F_hg n i) 180 [.str i] [] (λr=>.bool r):=by
 refine Kg 6 func180 Z Z Z Z λr h=>Bd h λd a h=>?_;refine Ct d [] [] (λd=>[(2,.bool d)]) Ze Zf ?_ (λenv H j=>?_)
 .refine G0 2 Z (Cz [] a (k_cf _ _) Z λs p a=>Go 1 Z (Is 5 a Z (λk a=>?_) (λk a=>?_)))
  .refine Go 1 Z (Bd a λl e a=>?_);refine vX (.str l) (Qga e) ?_ (gT Z);refine Bd a λm f a=>?_;refine vX (.str m) (Qga f) ?_ (gT Z);refine Bd a λq g a=>?_;refine Qo [] (OpC.fn call240 Z Z Z) (C.contains QdR Z g) ?_ (hg:=(gT Z));rintro _ _ ⟨rfl,rfl⟩;exact FE Z (Go 3 Z (Cl a []))
  .exact Go 7 Z (Cl a [])
 exact Gx 1 Z (Qd j (Gc 1 Z (Rt h 2 [])))
def F_jf(n:Nat)(e:List UInt8)(d:Int):Option (Ctl Int (Ctl Unit Bool)):=(bif decide (d<(e.length:Int))then(idx e d).bind λa=>((bif decide ((a.toNat:Int)<97)then(bif decide ((a.toNat:Int)<48)then some ((a.toNat:Int) != 95)else(bif decide (57<(a.toNat:Int))then some ((a.toNat:Int) != 95)else some false))else(bif decide (122<(a.toNat:Int))then(bif decide ((a.toNat:Int)<48)then some ((a.toNat:Int) != 95)else(bif decide (57<(a.toNat:Int))then some ((a.toNat:Int) != 95)else some false))else some false)):Option Bool).bind λf=>(bif f then some (.done (.done false))else some (.cont (i64.wrap (d+1))))else some (.done (.cont ())))
def F_i(n:Nat)(a:List UInt8):Option Bool:=((bif decide ((a.length:Int)<1)then some true else(bif decide (24<(a.length:Int))then some true else(idx a 0).bind λe=>(bif decide ((e.toNat:Int)<97)then some true else(idx a 0).bind λf=>some (decide (122<(f.toNat:Int)))))):Option Bool).bind λi=>(bif i then some false else(iter (F_jf n a) n 0:Option (Ctl Unit Bool)).bind λg=>match g with|.cont d=>((F_hg n a).bind λh=>some (!h))|.done d=>some d)
theorem k_i(n:Nat)(g:List UInt8):Ks (F_i n g) 107 [.str g] [] (λr=>.bool r):=by
 refine Kg 7 func107 Z Z Z Z λr h=>Bd h λl e h=>?_;refine Ct l [] [0] (λl=>[(22,.bool l)]) Ze Zf ?_ (λenv H f=>?_)
 .refine G0 2 Z ?_;refine vX (I (g.length:Int)) (Je Z Z EE Z) ?_;refine Go 2 Z (Is 8 e Z (λG e=>?_) (λG e=>?_))
  .exact Go 15 Z (Cl e [])
  .refine Go 1 Z ?_;refine vX (I (g.length:Int)) (Je Z Z EE Z) ?_ (gT Z);refine Go 3 Z (Is 13 e Z (λJ e=>?_) (λJ e=>?_))
   .exact Go 10 Z (Cl e [])
   .refine Go 1 Z (Bd e λL m e=>?_);refine vX (.int .u8 (L.toNat:Int)) (Q0 m EE) ?_ (gT Z);refine Go 3 Z (Is 18 e Z (λp e=>?_) (λp e=>?_))
    .exact Go 5 Z (Cl e [])
    .refine Go 1 Z (Bd e λM q e=>?_);refine vX (.int .u8 (M.toNat:Int)) (Q0 q EE) ?_ (gT Z);exact Go 3 Z (Cl e [])
 refine Gx 1 Z (Qd f (Cn Z h (λs h=>?_) (λs h=>?_)))
 .exact Gc 7 Z (Rt h 2 [])
 refine Gc 6 Z ?_;refine vX (I (g.length:Int)) (Je Z Z EE Z) ?_;refine Go 3 Z (Bd h λN O h=>?_);refine Jk (b:=N) [] [0] Ze Ze Zf ?_ (λR env H P f=>?_)
 .refine G0 1 Z ?_;refine Lp [] [0,24] (λk=>[(25,I k)]) Ze O Zf (Lr []) λk V d i=>?_;refine G0 6 Z (Yk Z d (λt d=>?_) (λt d=>?_))
  .refine Gc 2 Z (Qk d ?_);obtain rfl:=Oj i d;exact Gx 1 Z (Qq Z (Lr []))
  refine Gc 14 Z (Bd d λQ u d=>?_);refine vX (.int .u8 (Q.toNat:Int)) (Q0 u EE) ?_;refine Go 4 Z (Bd d λj a d=>?_);refine Ct j [] [0,24,25] (λj=>[(48,.bool j)]) Ze Zf ?_ (λenv H f=>?_)
  .refine G0 4 Z (Is 33 a Z (λw a=>?_) (λw a=>?_))
   .refine Go 7 Z (Is 40 a Z (λx a=>?_) (λx a=>?_))
    .exact Go 9 Z (Cl a [])
    .refine Go 5 Z (Is 45 a Z (λy a=>?_) (λy a=>?_))
     iterate 2 exact Go 4 Z (Cl a [])
   .refine Go 4 Z (Is 37 a Z (λz a=>?_) (λz a=>?_))
    .refine Go 3 Z (Is 40 a Z (λB a=>?_) (λB a=>?_))
     .exact Go 9 Z (Cl a [])
     .refine Go 5 Z (Is 45 a Z (λE a=>?_) (λE a=>?_))
      iterate 2 exact Go 4 Z (Cl a [])
    .exact Go 12 Z (Cl a [])
  refine Gx 1 Z (Qd f (Cn Z d (λF d=>?_) (λF d=>?_)))
  .refine Gc 8 Z (Qy d ?_);obtain rfl:=Oj i d;exact Gx 1 Z (Qu (Gx 1 Z (Rt h 2 [])))
  exact Gc 7 Z (Qj d (Lr []))
 subst P;exact Gx 1 Z (Qd f (Gc 3 Z (Cz [] h (k_hg _ _) Z λW T h=>Go 5 Z (Rt h 2 []))))
def F_ep(n:Nat)(a:Mat):Option Unit:=some ()
theorem k_ep(n:Nat)(a:Mat):Ks (F_ep n a) 109 [.agg (Mat.c a)] [] (λ_=>.str a.Name):=by
 exact Kg 14 func109 Z Z Z Z λr h=>Rt h 2 []
def F_lc(n:Nat)(e:List Mat)(a:(List (List UInt8×Bool))×Int):Option (Ctl ((List (List UInt8×Bool))×Int) (Ctl Unit Bool)):=(bif decide (a.2<(e.length:Int))then(idx e a.2).bind λd=>(F_ep n d).bind λj=>((F_i n d.Name).bind λf=>(bif (!f)then some true else(some (QL a.1 d.Name false)).bind λg=>some g):Option Bool).bind λh=>(bif h then some (.done (.done false))else(some (Yp a.1 d.Name true)).bind λi=>some (.cont (i,i64.wrap (a.2+1))))else some (.done (.cont ())))
def F_eq(n:Nat)(e:List Mat):Option Bool:=(iter (F_lc n e) n ([],0):Option (Ctl Unit Bool)).bind λd=>match d with|.cont a=>(some true)|.done a=>some a
theorem k_eq(n:Nat)(w:List Mat):Ks (F_eq n w) 108 [.rsl 2 (map Mat.c w),.fn (.func 109) [] []] [] (λr=>.bool r):=by
 refine Kg 7 func108 Z Z Z Z λr h=>?_;refine vH YH ?_;refine FE Z (Go 7 Z (Lm Z (Go 3 Z (Bd h λx y h=>?_))));refine Jk (b:=x) [] [] Ze Ze Zf ?_ (λE env H z f=>?_)
 .refine G0 1 Z ?_;refine Lp [0] [1,5,10,11] (λe=>[(12,I e.2)]) (λe=>[(0,.map (Q7 A.str A.bool e.1))]) y Zf (Lr [0]) λe J a g=>?_;refine G0 6 Z (Yk Z a (λm a=>?_) (λm a=>?_))
  .refine Gc 2 Z (Qk a ?_);obtain rfl:=Oj g a;exact Gx 1 Z (Qq Z (Lr []))
  refine Gc 6 Z (Bd a λj p a=>Iz p Z (Go 9 Z (Cz [] a (k_ep _ _) Z λL F a=>Go 5 Z (Bd a λi d a=>?_))));refine Ct i [0] [1,5,8,10,11,12] (λi=>[(26,.bool i)]) Ze Zf ?_ (λenv H f=>?_)
  .refine G0 2 Z (Cz [] d (k_i _ _) Z λM G d=>Go 2 Z (Is 22 d Z (λq d=>?_) (λq d=>?_)))
   .exact Go 5 Z (Cl d [0])
   .refine Go 2 Z (Bd d λB s d=>?_);refine vX (.bool B) (Y7 (ev:=A.bool) (z0:=false) (k:=j.Name) (l:=e.1) QcD s EQ Gg ZR.bool) ?_ (gT Z);exact Go 2 Z (Cl d [0])
  refine Gx 1 Z (Qd f (Cn Z a (λt a=>?_) (λt a=>?_)))
  .refine Gc 9 Z (Qy a ?_);obtain rfl:=Oj g a;exact Gx 1 Z (Qu (Gx 1 Z (Rt h 4 [])))
  refine Gc 5 Z (Bd a λN u a=>?_);refine vU (Y8 (ev:=A.bool) (k:=j.Name) (v:=true) (l:=e.1) QcD u Z EQ) ?_;exact FE Z (Go 7 Z (Qj a (Lr [0])))
 subst z;exact Gx 1 Z (Qd f (Gc 6 Z (Rt h 4 [])))
def F_ej(n:Nat)(a:Distance):Option Unit:=some ()
theorem k_ej(n:Nat)(a:Distance):Ks (F_ej n a) 111 [.agg (Distance.c a)] [] (λ_=>.str a.Name):=by
 exact Kg 14 func111 Z Z Z Z λr h=>Rt h 2 []
def F_lf(n:Nat)(e:List Distance)(a:(List (List UInt8×Bool))×Int):Option (Ctl ((List (List UInt8×Bool))×Int) (Ctl Unit Bool)):=(bif decide (a.2<(e.length:Int))then(idx e a.2).bind λd=>(F_ej n d).bind λj=>((F_i n d.Name).bind λf=>(bif (!f)then some true else(some (QL a.1 d.Name false)).bind λg=>some g):Option Bool).bind λh=>(bif h then some (.done (.done false))else(some (Yp a.1 d.Name true)).bind λi=>some (.cont (i,i64.wrap (a.2+1))))else some (.done (.cont ())))
def F_ez(n:Nat)(e:List Distance):Option Bool:=(iter (F_lf n e) n ([],0):Option (Ctl Unit Bool)).bind λd=>match d with|.cont a=>(some true)|.done a=>some a
theorem k_ez(n:Nat)(w:List Distance):Ks (F_ez n w) 110 [.rsl 5 (map Distance.c w),.fn (.func 111) [] []] [] (λr=>.bool r):=by
 refine Kg 7 func110 Z Z Z Z λr h=>?_;refine vH YH ?_;refine FE Z (Go 7 Z (Lm Z (Go 3 Z (Bd h λx y h=>?_))));refine Jk (b:=x) [] [] Ze Ze Zf ?_ (λE env H z f=>?_)
 .refine G0 1 Z ?_;refine Lp [0] [1,5,10,11] (λe=>[(12,I e.2)]) (λe=>[(0,.map (Q7 A.str A.bool e.1))]) y Zf (Lr [0]) λe J a g=>?_;refine G0 6 Z (Yk Z a (λm a=>?_) (λm a=>?_))
  .refine Gc 2 Z (Qk a ?_);obtain rfl:=Oj g a;exact Gx 1 Z (Qq Z (Lr []))
  refine Gc 6 Z (Bd a λj p a=>Iz p Z (Go 9 Z (Cz [] a (k_ej _ _) Z λL F a=>Go 5 Z (Bd a λi d a=>?_))));refine Ct i [0] [1,5,8,10,11,12] (λi=>[(26,.bool i)]) Ze Zf ?_ (λenv H f=>?_)
  .refine G0 2 Z (Cz [] d (k_i _ _) Z λM G d=>Go 2 Z (Is 22 d Z (λq d=>?_) (λq d=>?_)))
   .exact Go 5 Z (Cl d [0])
   .refine Go 2 Z (Bd d λB s d=>?_);refine vX (.bool B) (Y7 (ev:=A.bool) (z0:=false) (k:=j.Name) (l:=e.1) QcD s EQ Gg ZR.bool) ?_ (gT Z);exact Go 2 Z (Cl d [0])
  refine Gx 1 Z (Qd f (Cn Z a (λt a=>?_) (λt a=>?_)))
  .refine Gc 9 Z (Qy a ?_);obtain rfl:=Oj g a;exact Gx 1 Z (Qu (Gx 1 Z (Rt h 4 [])))
  refine Gc 5 Z (Bd a λN u a=>?_);refine vU (Y8 (ev:=A.bool) (k:=j.Name) (v:=true) (l:=e.1) QcD u Z EQ) ?_;exact FE Z (Go 7 Z (Qj a (Lr [0])))
 subst z;exact Gx 1 Z (Qd f (Gc 6 Z (Rt h 4 [])))
def F_ft(n:Nat)(a:Wave):Option Unit:=some ()
theorem k_ft(n:Nat)(a:Wave):Ks (F_ft n a) 113 [.agg (Wave.c a)] [] (λ_=>.str a.Name):=by
 exact Kg 14 func113 Z Z Z Z λr h=>Rt h 2 []
def F_lo(n:Nat)(e:List Wave)(a:(List (List UInt8×Bool))×Int):Option (Ctl ((List (List UInt8×Bool))×Int) (Ctl Unit Bool)):=(bif decide (a.2<(e.length:Int))then(idx e a.2).bind λd=>(F_ft n d).bind λj=>((F_i n d.Name).bind λf=>(bif (!f)then some true else(some (QL a.1 d.Name false)).bind λg=>some g):Option Bool).bind λh=>(bif h then some (.done (.done false))else(some (Yp a.1 d.Name true)).bind λi=>some (.cont (i,i64.wrap (a.2+1))))else some (.done (.cont ())))
def F_ha(n:Nat)(e:List Wave):Option Bool:=(iter (F_lo n e) n ([],0):Option (Ctl Unit Bool)).bind λd=>match d with|.cont a=>(some true)|.done a=>some a
theorem k_ha(n:Nat)(w:List Wave):Ks (F_ha n w) 112 [.rsl 2 (map Wave.c w),.fn (.func 113) [] []] [] (λr=>.bool r):=by
 refine Kg 7 func112 Z Z Z Z λr h=>?_;refine vH YH ?_;refine FE Z (Go 7 Z (Lm Z (Go 3 Z (Bd h λx y h=>?_))));refine Jk (b:=x) [] [] Ze Ze Zf ?_ (λE env H z f=>?_)
 .refine G0 1 Z ?_;refine Lp [0] [1,5,10,11] (λe=>[(12,I e.2)]) (λe=>[(0,.map (Q7 A.str A.bool e.1))]) y Zf (Lr [0]) λe J a g=>?_;refine G0 6 Z (Yk Z a (λm a=>?_) (λm a=>?_))
  .refine Gc 2 Z (Qk a ?_);obtain rfl:=Oj g a;exact Gx 1 Z (Qq Z (Lr []))
  refine Gc 6 Z (Bd a λj p a=>Iz p Z (Go 9 Z (Cz [] a (k_ft _ _) Z λL F a=>Go 5 Z (Bd a λi d a=>?_))));refine Ct i [0] [1,5,8,10,11,12] (λi=>[(26,.bool i)]) Ze Zf ?_ (λenv H f=>?_)
  .refine G0 2 Z (Cz [] d (k_i _ _) Z λM G d=>Go 2 Z (Is 22 d Z (λq d=>?_) (λq d=>?_)))
   .exact Go 5 Z (Cl d [0])
   .refine Go 2 Z (Bd d λB s d=>?_);refine vX (.bool B) (Y7 (ev:=A.bool) (z0:=false) (k:=j.Name) (l:=e.1) QcD s EQ Gg ZR.bool) ?_ (gT Z);exact Go 2 Z (Cl d [0])
  refine Gx 1 Z (Qd f (Cn Z a (λt a=>?_) (λt a=>?_)))
  .refine Gc 9 Z (Qy a ?_);obtain rfl:=Oj g a;exact Gx 1 Z (Qu (Gx 1 Z (Rt h 4 [])))
  refine Gc 5 Z (Bd a λN u a=>?_);refine vU (Y8 (ev:=A.bool) (k:=j.Name) (v:=true) (l:=e.1) QcD u Z EQ) ?_;exact FE Z (Go 7 Z (Qj a (Lr [0])))
 subst z;exact Gx 1 Z (Qd f (Gc 6 Z (Rt h 4 [])))
def F_gi(n:Nat)(a:Offence):Option Unit:=some ()
theorem k_gi(n:Nat)(a:Offence):Ks (F_gi n a) 115 [.agg (Offence.c a)] [] (λ_=>.str a.Name):=by
 exact Kg 14 func115 Z Z Z Z λr h=>Rt h 2 []
def F_mi(n:Nat)(e:List Offence)(a:(List (List UInt8×Bool))×Int):Option (Ctl ((List (List UInt8×Bool))×Int) (Ctl Unit Bool)):=(bif decide (a.2<(e.length:Int))then(idx e a.2).bind λd=>(F_gi n d).bind λj=>((F_i n d.Name).bind λf=>(bif (!f)then some true else(some (QL a.1 d.Name false)).bind λg=>some g):Option Bool).bind λh=>(bif h then some (.done (.done false))else(some (Yp a.1 d.Name true)).bind λi=>some (.cont (i,i64.wrap (a.2+1))))else some (.done (.cont ())))
def F_hi(n:Nat)(e:List Offence):Option Bool:=(iter (F_mi n e) n ([],0):Option (Ctl Unit Bool)).bind λd=>match d with|.cont a=>(some true)|.done a=>some a
theorem k_hi(n:Nat)(w:List Offence):Ks (F_hi n w) 114 [.rsl 4 (map Offence.c w),.fn (.func 115) [] []] [] (λr=>.bool r):=by
 refine Kg 7 func114 Z Z Z Z λr h=>?_;refine vH YH ?_;refine FE Z (Go 7 Z (Lm Z (Go 3 Z (Bd h λx y h=>?_))));refine Jk (b:=x) [] [] Ze Ze Zf ?_ (λE env H z f=>?_)
 .refine G0 1 Z ?_;refine Lp [0] [1,5,10,11] (λe=>[(12,I e.2)]) (λe=>[(0,.map (Q7 A.str A.bool e.1))]) y Zf (Lr [0]) λe J a g=>?_;refine G0 6 Z (Yk Z a (λm a=>?_) (λm a=>?_))
  .refine Gc 2 Z (Qk a ?_);obtain rfl:=Oj g a;exact Gx 1 Z (Qq Z (Lr []))
  refine Gc 6 Z (Bd a λj p a=>Iz p Z (Go 9 Z (Cz [] a (k_gi _ _) Z λL F a=>Go 5 Z (Bd a λi d a=>?_))));refine Ct i [0] [1,5,8,10,11,12] (λi=>[(26,.bool i)]) Ze Zf ?_ (λenv H f=>?_)
  .refine G0 2 Z (Cz [] d (k_i _ _) Z λM G d=>Go 2 Z (Is 22 d Z (λq d=>?_) (λq d=>?_)))
   .exact Go 5 Z (Cl d [0])
   .refine Go 2 Z (Bd d λB s d=>?_);refine vX (.bool B) (Y7 (ev:=A.bool) (z0:=false) (k:=j.Name) (l:=e.1) QcD s EQ Gg ZR.bool) ?_ (gT Z);exact Go 2 Z (Cl d [0])
  refine Gx 1 Z (Qd f (Cn Z a (λt a=>?_) (λt a=>?_)))
  .refine Gc 9 Z (Qy a ?_);obtain rfl:=Oj g a;exact Gx 1 Z (Qu (Gx 1 Z (Rt h 4 [])))
  refine Gc 5 Z (Bd a λN u a=>?_);refine vU (Y8 (ev:=A.bool) (k:=j.Name) (v:=true) (l:=e.1) QcD u Z EQ) ?_;exact FE Z (Go 7 Z (Qj a (Lr [0])))
 subst z;exact Gx 1 Z (Qd f (Gc 6 Z (Rt h 4 [])))
def F_et(n:Nat)(a:Category):Option Unit:=some ()
theorem k_et(n:Nat)(a:Category):Ks (F_et n a) 117 [.agg (Category.c a)] [] (λ_=>.str a.Name):=by
 exact Kg 14 func117 Z Z Z Z λr h=>Rt h 2 []
def F_me(n:Nat)(e:List Category)(a:(List (List UInt8×Bool))×Int):Option (Ctl ((List (List UInt8×Bool))×Int) (Ctl Unit Bool)):=(bif decide (a.2<(e.length:Int))then(idx e a.2).bind λd=>(F_et n d).bind λj=>((F_i n d.Name).bind λf=>(bif (!f)then some true else(some (QL a.1 d.Name false)).bind λg=>some g):Option Bool).bind λh=>(bif h then some (.done (.done false))else(some (Yp a.1 d.Name true)).bind λi=>some (.cont (i,i64.wrap (a.2+1))))else some (.done (.cont ())))
def F_fe(n:Nat)(e:List Category):Option Bool:=(iter (F_me n e) n ([],0):Option (Ctl Unit Bool)).bind λd=>match d with|.cont a=>(some true)|.done a=>some a
theorem k_fe(n:Nat)(w:List Category):Ks (F_fe n w) 116 [.rsl 3 (map Category.c w),.fn (.func 117) [] []] [] (λr=>.bool r):=by
 refine Kg 7 func116 Z Z Z Z λr h=>?_;refine vH YH ?_;refine FE Z (Go 7 Z (Lm Z (Go 3 Z (Bd h λx y h=>?_))));refine Jk (b:=x) [] [] Ze Ze Zf ?_ (λE env H z f=>?_)
 .refine G0 1 Z ?_;refine Lp [0] [1,5,10,11] (λe=>[(12,I e.2)]) (λe=>[(0,.map (Q7 A.str A.bool e.1))]) y Zf (Lr [0]) λe J a g=>?_;refine G0 6 Z (Yk Z a (λm a=>?_) (λm a=>?_))
  .refine Gc 2 Z (Qk a ?_);obtain rfl:=Oj g a;exact Gx 1 Z (Qq Z (Lr []))
  refine Gc 6 Z (Bd a λj p a=>Iz p Z (Go 9 Z (Cz [] a (k_et _ _) Z λL F a=>Go 5 Z (Bd a λi d a=>?_))));refine Ct i [0] [1,5,8,10,11,12] (λi=>[(26,.bool i)]) Ze Zf ?_ (λenv H f=>?_)
  .refine G0 2 Z (Cz [] d (k_i _ _) Z λM G d=>Go 2 Z (Is 22 d Z (λq d=>?_) (λq d=>?_)))
   .exact Go 5 Z (Cl d [0])
   .refine Go 2 Z (Bd d λB s d=>?_);refine vX (.bool B) (Y7 (ev:=A.bool) (z0:=false) (k:=j.Name) (l:=e.1) QcD s EQ Gg ZR.bool) ?_ (gT Z);exact Go 2 Z (Cl d [0])
  refine Gx 1 Z (Qd f (Cn Z a (λt a=>?_) (λt a=>?_)))
  .refine Gc 9 Z (Qy a ?_);obtain rfl:=Oj g a;exact Gx 1 Z (Qu (Gx 1 Z (Rt h 4 [])))
  refine Gc 5 Z (Bd a λN u a=>?_);refine vU (Y8 (ev:=A.bool) (k:=j.Name) (v:=true) (l:=e.1) QcD u Z EQ) ?_;exact FE Z (Go 7 Z (Qj a (Lr [0])))
 subst z;exact Gx 1 Z (Qd f (Gc 6 Z (Rt h 4 [])))
def F_ek(n:Nat)(a:Course):Option Bool:=((F_i n a.Name).bind λd=>(bif d then(F_eq n a.Mats).bind λe=>(bif e then(F_ez n a.Distances).bind λf=>(bif f then(F_ha n a.Waves).bind λg=>(bif g then(F_hi n a.Offences).bind λh=>(bif h then(F_fe n a.Categories).bind λi=>some i else some false)else some false)else some false)else some false)else some false):Option Bool).bind λj=>some j
theorem k_ek(n:Nat)(k:Course):Ks (F_ek n k) 69 [.agg (Course.c k)] [] (λr=>.bool r):=by
 refine Kg 7 func69 Z Z Z Z λr h=>Bd h λd a h=>?_;refine Ct d [] [] (λd=>[(2,.bool d)]) Ze Zf ?_ (λenv H l=>?_)
 .refine G0 3 Z (Cz [] a (k_i _ _) Z λw m a=>Go 1 Z (Is 6 a Z (λe a=>?_) (λe a=>?_)))
  .refine Go 2 Z (Cz [] a (k_eq _ _) Z λx p a=>Go 2 Z (Is 11 a Z (λf a=>?_) (λf a=>?_)))
   .refine Go 2 Z (Cz [] a (k_ez _ _) Z λy q a=>Go 2 Z (Is 16 a Z (λg a=>?_) (λg a=>?_)))
    .refine Go 2 Z (Cz [] a (k_ha _ _) Z λz s a=>Go 2 Z (Is 21 a Z (λi a=>?_) (λi a=>?_)))
     .refine Go 2 Z (Cz [] a (k_hi _ _) Z λB t a=>Go 2 Z (Is 26 a Z (λj a=>?_) (λj a=>?_)))
      .exact Go 2 Z (Cz [] a (k_fe _ _) Z λE u a=>Go 3 Z (Cl a []))
      .exact Go 6 Z (Cl a [])
     .exact Go 11 Z (Cl a [])
    .exact Go 16 Z (Cl a [])
   .exact Go 21 Z (Cl a [])
  .exact Go 26 Z (Cl a [])
 exact Gx 1 Z (Qd l (Gc 1 Z (Rt h 2 [])))
def F_fx(n:Nat)(a:Int)(d:Int)(e:Int):Option Bool:=((bif decide (a<d)then some true else some (decide (e<a))):Option Bool).bind λb2=>some b2
theorem k_fx(n:Nat)(d:Int)(e:Int)(f:Int):Ks (F_fx n d e f) 181 [I d,.ptr 0 0,.ptr 1 0] [.cells 3 [I e],.cells 3 [I f]] (λr=>.bool r):=by
 refine Kg 6 func181 Z Z Z Z λr h=>Bd h λb2 a h=>?_;refine Ct b2 [0,1] [] (λb2=>[(4,.bool b2)]) Ze Zf ?_ (λenv H g=>?_)
 .refine G0 5 Z (Is 8 a Z (λi a=>?_) (λi a=>?_))
  iterate 2 exact Go 6 Z (Cl a [0,1])
 exact Gx 1 Z (Qd g (Gc 1 Z (Rt h 4 [0,1])))
def F_mf(n:Nat)(d:List Int)(g:Int)(h:Int)(a:Int):Option (Ctl Int (Ctl Unit Int)):=(bif decide (a<(d.length:Int))then(idx d a).bind λe=>(F_fx n e g h).bind λf=>(bif f then some (.done (.done a))else some (.cont (i64.wrap (a+1))))else some (.done (.cont ())))
def F_ir(n:Nat)(e:List Int)(f:Int)(g:Int):Option Int:=(iter (F_mf n e f g) n 0:Option (Ctl Unit Int)).bind λd=>match d with|.cont a=>(some (-1))|.done a=>some a
theorem k_ir(n:Nat)(j:List Int)(k:Int)(l:Int):Ks (F_ir n j k l) 99 [.rsl 1 (map (Qf .i64) j),.fn (.func 181) [] [.ptr 0 0,.ptr 1 0]] [.cells 3 [I k],.cells 3 [I l]] (λr=>I r):=by
 refine Kg 9 func99 Z Z Z Z λr h=>Lm Z (Go 3 Z (Bd h λm p h=>?_));refine Jk (b:=m) [0,1] [] Ze Ze Zf ?_ (λt env H q s=>?_)
 .refine G0 1 Z ?_;refine Lp [0,1] [0,1,7] (λe=>[(8,I e)]) Ze p Zf (Lr [0,1]) λe w a d=>?_;refine G0 6 Z (Yk Z a (λf a=>?_) (λf a=>?_))
  .refine Gc 2 Z (Qk a ?_);obtain rfl:=Oj d a;exact Gx 1 Z (Qq Z (Lr [0,1]))
  refine Gc 15 Z (Bd a λx g a=>Iz g Z (Go 1 Z (Cz [0,1] a (k_fx _ _ _ _) Z λy u a=>Go 2 Z (Cn Z a (λi a=>?_) (λi a=>?_)))))
  .refine Gc 9 Z (Qy a ?_);obtain rfl:=Oj d a;exact Gx 1 Z (Qu (Gx 1 Z (Rt h 4 [0,1])))
  exact Gc 7 Z (Qj a (Lr [0,1]))
 subst q;exact Gx 1 Z (Qd s (Gc 6 Z (Rt h 4 [0,1])))
def F_eo(n:Nat)(a:List Int)(d:Int)(e:Int):Option Bool:=(F_ir n a d e).bind λf=>some (decide (0<=f))
theorem k_eo(n:Nat)(a:List Int)(d:Int)(e:Int):Ks (F_eo n a d e) 57 [.rsl 1 (map (Qf .i64) a),.fn (.func 181) [] [.ptr 0 0,.ptr 1 0]] [.cells 3 [I d],.cells 3 [I e]] (λr=>.bool r):=by
 exact Kg 9 func57 Z Z Z Z λr h=>Cz [0,1] h (k_ir _ _ _ _) Z λg f h=>Go 5 Z (Rt h 4 [0,1])
def F_a(n:Nat)(a:Int)(d:Int)(e:List Int):Option Bool:=(F_eo n e a d).bind λf=>some (!f)
theorem k_a(n:Nat)(a:Int)(d:Int)(e:List Int):Ks (F_a n a d e) 119 [I a,I d,.rsl 1 (map (Qf .i64) e)] [] (λr=>.bool r):=by
 exact Kg 11 func119 Z Z Z Z λr h=>Cz [0,1] h (k_eo _ _ _ _) Z λg f h=>Go 5 Z (Rt h 6 [])
def F_di(n:Nat)(a:Mat):Option Bool:=(F_a n 1 3 [a.Kind]).bind λd=>some d
theorem k_di(n:Nat)(a:Mat):Ks (F_di n a) 128 [.agg (Mat.c a)] [] (λr=>.bool r):=by
 refine Kg 10 func128 Z Z Z Z λr h=>?_;refine vH (Ek (xs:=[.tmp 4]) (es:=map (Qf .i64) [a.Kind]) Qz Z Z Z Z Z ⟨Z,trivial⟩ Z Z) ?_;exact FE Z (Cb h (k_a _ _ _ _) Z (ls (ls (lo ln))) λe d h=>Go 4 Z (Rt h 2 []))
def F_jg(n:Nat)(a:Mat):Option Bool:=(F_di n a).bind λd=>some (!d)
theorem k_jg(n:Nat)(a:Mat):Ks (F_jg n a) 187 [.agg (Mat.c a),.ptr 0 0] [.cells 224 [.fn (.func 128) [] []]] (λr=>.bool r):=by
 exact Kg 10 func187 Z Z Z Z λr h=>Cz [] h (k_di _ _) Z λe d h=>Go 5 Z (Rt h 3 [0])
def F_lb(n:Nat)(d:List Mat)(a:Int):Option (Ctl Int (Ctl Unit Int)):=(bif decide (a<(d.length:Int))then(idx d a).bind λe=>(F_jg n e).bind λf=>(bif f then some (.done (.done a))else some (.cont (i64.wrap (a+1))))else some (.done (.cont ())))
def F_fg(n:Nat)(e:List Mat):Option Int:=(iter (F_lb n e) n 0:Option (Ctl Unit Int)).bind λd=>match d with|.cont a=>(some (-1))|.done a=>some a
theorem k_fg(n:Nat)(j:List Mat):Ks (F_fg n j) 243 [.rsl 2 (map Mat.c j),.fn (.func 187) [] [.ptr 0 0]] [.cells 224 [.fn (.func 128) [] []]] (λr=>I r):=by
 refine Kg 9 func243 Z Z Z Z λr h=>Lm Z (Go 3 Z (Bd h λk l h=>?_));refine Jk (b:=k) [0] [] Ze Ze Zf ?_ (λq env H m p=>?_)
 .refine G0 1 Z ?_;refine Lp [0] [0,1,7] (λe=>[(8,I e)]) Ze l Zf (Lr [0]) λe t a d=>?_;refine G0 6 Z (Yk Z a (λf a=>?_) (λf a=>?_))
  .refine Gc 2 Z (Qk a ?_);obtain rfl:=Oj d a;exact Gx 1 Z (Qq Z (Lr [0]))
  refine Gc 15 Z (Bd a λu g a=>Iz g Z (Go 1 Z (Cz [0] a (k_jg _ _) Z λw s a=>Go 2 Z (Cn Z a (λi a=>?_) (λi a=>?_)))))
  .refine Gc 9 Z (Qy a ?_);obtain rfl:=Oj d a;exact Gx 1 Z (Qu (Gx 1 Z (Rt h 4 [0])))
  exact Gc 7 Z (Qj a (Lr [0]))
 subst m;exact Gx 1 Z (Qd p (Gc 6 Z (Rt h 4 [0])))
def F_fr(n:Nat)(a:List Mat):Option Bool:=(F_fg n a).bind λd=>some (decide (0<=d))
theorem k_fr(n:Nat)(a:List Mat):Ks (F_fr n a) 186 [.rsl 2 (map Mat.c a),.fn (.func 187) [] [.ptr 0 0]] [.cells 224 [.fn (.func 128) [] []]] (λr=>.bool r):=by
 exact Kg 9 func186 Z Z Z Z λr h=>Cz [0] h (k_fg _ _) Z λe d h=>Go 5 Z (Rt h 4 [0])
def F_df(n:Nat)(a:List Mat):Option Bool:=(F_fr n a).bind λd=>some (!d)
theorem k_df(n:Nat)(a:List Mat):Ks (F_df n a) 127 [.rsl 2 (map Mat.c a),.fn (.func 128) [] []] [] (λr=>.bool r):=by
 exact Kg 10 func127 Z Z Z Z λr h=>Cz [0] h (k_fr _ _) Z λe d h=>Go 5 Z (Rt h 4 [])
def F_cv(n:Nat)(a:Leg)(d:Int):Option Bool:=((F_a n 0 d [a.From,a.To]).bind λe=>(bif e then(F_a n 0 68719476736 [a.Min,a.Max]).bind λf=>(bif f then some (decide (a.Min<=a.Max))else some false)else some false):Option Bool).bind λg=>some g
theorem k_cv(n:Nat)(d:Leg)(g:Int):Ks (F_cv n d g) 124 [.agg (Leg.c d),.ptr 0 0] [.cells 3 [I g]] (λr=>.bool r):=by
 refine Kg 7 func124 Z Z Z Z λr h=>Bd h λe a h=>?_;refine Ct e [0] [] (λe=>[(3,.bool e)]) Ze Zf ?_ (λenv H i=>?_)
 .refine G0 6 Z ?_;refine vH (Ek (xs:=[.tmp 6,.tmp 8]) (es:=map (Qf .i64) [d.From,d.To]) Qz Z Z Z Z Z ⟨Z,Z,trivial⟩ Z Z) ?_;refine FE Z (Cb a (k_a _ _ _ _) Z (ls (ls (lo ln))) λm k a=>Go 1 Z (Is 11 a Z (λj a=>?_) (λj a=>?_)))
  .refine Go 4 Z ?_;refine vH (Ek (xs:=[.tmp 13,.tmp 15]) (es:=map (Qf .i64) [d.Min,d.Max]) Qz Z Z Z Z Z ⟨Z,Z,trivial⟩ Z Z) ?_ (gT Z);refine FE Z (Cb a (k_a _ _ _ _) Z (ls (ls (lo ln))) λp l a=>Go 2 Z (Is 19 a Z (λf a=>?_) (λf a=>?_)))
   iterate 2 exact Go 8 Z (Cl a [0])
  .exact Go 16 Z (Cl a [0])
 exact Gx 1 Z (Qd i (Gc 1 Z (Rt h 3 [0])))
def F_iw(n:Nat)(a:Leg)(d:Int):Option Bool:=(F_cv n a d).bind λe=>some (!e)
theorem k_iw(n:Nat)(a:Leg)(d:Int):Ks (F_iw n a d) 189 [.agg (Leg.c a),.ptr 0 0] [.cells 218 [.fn (.func 124) [] [.ptr 1 0]],.cells 3 [I d]] (λr=>.bool r):=by
 exact Kg 10 func189 Z Z Z Z λr h=>Cz [1] h (k_cv _ _ _) Z λf e h=>Go 5 Z (Rt h 3 [0,1])
def F_lr(n:Nat)(d:List Leg)(g:Int)(a:Int):Option (Ctl Int (Ctl Unit Int)):=(bif decide (a<(d.length:Int))then(idx d a).bind λe=>(F_iw n e g).bind λf=>(bif f then some (.done (.done a))else some (.cont (i64.wrap (a+1))))else some (.done (.cont ())))
def F_ey(n:Nat)(e:List Leg)(f:Int):Option Int:=(iter (F_lr n e f) n 0:Option (Ctl Unit Int)).bind λd=>match d with|.cont a=>(some (-1))|.done a=>some a
theorem k_ey(n:Nat)(j:List Leg)(k:Int):Ks (F_ey n j k) 244 [.rsl 4 (map Leg.c j),.fn (.func 189) [] [.ptr 0 0]] [.cells 218 [.fn (.func 124) [] [.ptr 1 0]],.cells 3 [I k]] (λr=>I r):=by
 refine Kg 9 func244 Z Z Z Z λr h=>Lm Z (Go 3 Z (Bd h λl m h=>?_));refine Jk (b:=l) [0,1] [] Ze Ze Zf ?_ (λs env H p q=>?_)
 .refine G0 1 Z ?_;refine Lp [0,1] [0,1,7] (λe=>[(8,I e)]) Ze m Zf (Lr [0,1]) λe u a d=>?_;refine G0 6 Z (Yk Z a (λf a=>?_) (λf a=>?_))
  .refine Gc 2 Z (Qk a ?_);obtain rfl:=Oj d a;exact Gx 1 Z (Qq Z (Lr [0,1]))
  refine Gc 15 Z (Bd a λw g a=>Iz g Z (Go 1 Z (Cz [0,1] a (k_iw _ _ _) Z λx t a=>Go 2 Z (Cn Z a (λi a=>?_) (λi a=>?_)))))
  .refine Gc 9 Z (Qy a ?_);obtain rfl:=Oj d a;exact Gx 1 Z (Qu (Gx 1 Z (Rt h 4 [0,1])))
  exact Gc 7 Z (Qj a (Lr [0,1]))
 subst p;exact Gx 1 Z (Qd q (Gc 6 Z (Rt h 4 [0,1])))
def F_fs(n:Nat)(a:List Leg)(d:Int):Option Bool:=(F_ey n a d).bind λe=>some (decide (0<=e))
theorem k_fs(n:Nat)(a:List Leg)(d:Int):Ks (F_fs n a d) 188 [.rsl 4 (map Leg.c a),.fn (.func 189) [] [.ptr 0 0]] [.cells 218 [.fn (.func 124) [] [.ptr 1 0]],.cells 3 [I d]] (λr=>.bool r):=by
 exact Kg 9 func188 Z Z Z Z λr h=>Cz [0,1] h (k_ey _ _ _) Z λf e h=>Go 5 Z (Rt h 4 [0,1])
def F_dc(n:Nat)(a:List Leg)(d:Int):Option Bool:=(F_fs n a d).bind λe=>some (!e)
theorem k_dc(n:Nat)(a:List Leg)(d:Int):Ks (F_dc n a d) 129 [.rsl 4 (map Leg.c a),.fn (.func 124) [] [.ptr 0 0]] [.cells 3 [I d]] (λr=>.bool r):=by
 exact Kg 10 func129 Z Z Z Z λr h=>Cz [1,0] h (k_fs _ _ _) Z λf e h=>Go 5 Z (Rt h 4 [0])
def F_hh(n:Nat)(a:Leg):Option Unit:=some ()
theorem k_hh(n:Nat)(a:Leg):Kq (F_hh n a) 131 [.agg (Leg.c a)] [] (λ_=>.agg [I a.From,I a.To]) (λ_=>[.cells 164 [I a.From,I a.To]]):=by
 refine Kg 17 func131 Z Z Z Z λr h=>?_;obtain rfl:=Oi h;exact Rx [1] [2] Z (Q3 Z (Qg isAgg164 sizeOf164 Z Z Z)) ⟨Z,Z⟩
def F_kc(n:Nat)(e:List Leg)(a:(List (Ue×Bool))×Int):Option (Ctl ((List (Ue×Bool))×Int) (List (Ue×Bool))):=(bif decide (a.2<(e.length:Int))then(idx e a.2).bind λd=>(F_hh n d).bind λg=>(some (Yp a.1 ({from_:=d.From,to_:=d.To:Ue}) true)).bind λf=>some (.cont (f,i64.wrap (a.2+1)))else some (.done a.1))
def F_hb(n:Nat)(a:List Leg):Option Bool:=(iter (F_kc n a) n ([],0):Option (List (Ue×Bool))).bind λd=>some ((d.length:Int)==(a.length:Int))
theorem k_hb(n:Nat)(p:List Leg):Ks (F_hb n p) 130 [.rsl 4 (map Leg.c p),.fn (.func 131) [] []] [] (λr=>.bool r):=by
 refine Kg 7 func130 Z Z Z Z λr h=>?_;refine vH YH ?_;refine FE Z (Go 7 Z (Lm Z (Go 3 Z (Bd h λd q h=>?_))));refine Ct d [0] [0,5] Ze (λd=>[(0,.map (Q7 (λx=>A.agg (Ue.c x)) A.bool d))]) Zf ?_ (λenv H s=>?_)
 .refine G0 1 Z ?_;refine Lp [0] [0,1,5,9,10] (λe=>[(11,I e.2)]) (λe=>[(0,.map (Q7 (λx=>A.agg (Ue.c x)) A.bool e.1))]) q Zf (Lr [0]) λe u a g=>?_;refine G0 6 Z (Yk Z a (λi a=>?_) (λi a=>?_))
  .refine Gc 2 Z (Qk a ?_);obtain rfl:=Oj g a;exact Gx 1 Z (QF (Lr [0]))
  refine Gc 6 Z (Bd a λf j a=>Iz j Z (Go 9 Z (Cd [] a (k_hh _ _) Z λw t a=>FE Z (Bd a λy m a=>?_))));refine vU (Y8 (ev:=A.bool) (k:=({from_:=f.From,to_:=f.To:Ue})) (v:=true) (l:=e.1) QeS m Z Gi) ?_;exact FE Z (Go 7 Z (Qj a (Lr [0])))
 refine Gx 1 Z (Qd s (Gc 3 Z ?_));refine vX (I (d.length:Int)) (QcX (l:=d) Gi Z) ?_;exact Go 1 Z (Lm Z (Go 5 Z (Rt h 4 [])))
def F_cj(rec45:(List Part)->Int->Option Bool)(n:Nat)(a:Part)(d:Int):Option Bool:=(bif (a.Laps==0)then((F_a n 0 d [a.Mat]).bind λh=>(bif h then some ((a.Parts.length:Int)==0)else some false):Option Bool).bind λi=>some i else((F_a n 1 64 [a.Laps]).bind λe=>(bif e then(bif (a.Mat==0)then(bif decide (0<(a.Parts.length:Int))then(rec45 a.Parts d).bind λf=>some f else some false)else some false)else some false):Option Bool).bind λg=>some g)
theorem k_cj(rec45:(List Part)->Int->Option Bool)(f:∀(d:List Part) (g:Int) (r:Bool),rec45 d g=some r->Csm prog 120 [.rsl 3 (map Part.enc d),.fn (.func 118) [] [.ptr 0 0,.ptr 1 0]] [.cells 3 [I g],.cells 211 [.fn (.func 118) [] [.ptr 0 0,.ptr 1 0]]] (λr=>.bool r) r)(n:Nat)(d:Part)(g:Int):Ks (F_cj rec45 n d g) 118 [.agg (Part.c d),.ptr 0 0,.ptr 1 0] [.cells 3 [I g],.cells 211 [.fn (.func 118) [] [.ptr 0 0,.ptr 1 0]]] (λr=>.bool r):=by
 refine Kg 14 func118 Z Z Z Z λr h=>Cn Z h (λq h=>?_) (λq h=>?_)
 .refine Gc 1 Z (Bd h λk e h=>?_);refine Ct k [0,1] [] (λk=>[(4,.bool k)]) Ze Zf ?_ (λenv H i=>?_)
  .refine G0 4 Z ?_;refine vH (Ek (xs:=[.tmp 10]) (es:=map (Qf .i64) [d.Mat]) Qz Z Z Z Z Z ⟨Z,trivial⟩ Z Z) ?_;refine FE Z (Cb e (k_a _ _ _ _) Z (ls (ls (lo ln))) λz w e=>Go 1 Z (Is 13 e Z (λs e=>?_) (λs e=>?_)))
   .exact Go 2 Z (Lm Z (Go 4 Z (Cl e [0,1])))
   .exact Go 7 Z (Cl e [0,1])
  exact Gx 1 Z (Qd i (Gc 2 Z (Rt h 4 [0,1])))
 refine Gc 3 Z (Bd h λj a h=>?_);refine Ct j [0,1] [] (λj=>[(4,.bool j)]) Ze Zf ?_ (λenv H i=>?_)
 .refine G0 3 Z ?_;refine vH (Ek (xs:=[.tmp 20]) (es:=map (Qf .i64) [d.Laps]) Qz Z Z Z Z Z ⟨Z,trivial⟩ Z Z) ?_;refine FE Z (Cb a (k_a _ _ _ _) Z (ls (ls (lo ln))) λx t a=>Go 1 Z (Is 23 a Z (λl a=>?_) (λl a=>?_)))
  .refine Go 5 Z (Is 28 a Z (λm a=>?_) (λm a=>?_))
   .refine Go 2 Z (Lm Z (Go 3 Z (Is 34 a Z (λp a=>?_) (λp a=>?_))))
    .exact Go 3 Z (Cz [0,1] a (f _ _) Z λy u a=>Go 3 Z (Cl a [0,1]))
    .exact Go 7 Z (Cl a [0,1])
   .exact Go 13 Z (Cl a [0,1])
  .exact Go 18 Z (Cl a [0,1])
 exact Gx 1 Z (Qd i (Gc 1 Z (Rt h 4 [0,1])))
def F_jb(rec45:(List Part)->Int->Option Bool)(n:Nat)(a:Part)(d:Int):Option Bool:=(F_cj rec45 n a d).bind λe=>some (!e)
theorem k_jb(rec45:(List Part)->Int->Option Bool)(a:∀(d:List Part) (e:Int) (r:Bool),rec45 d e=some r->Csm prog 120 [.rsl 3 (map Part.enc d),.fn (.func 118) [] [.ptr 0 0,.ptr 1 0]] [.cells 3 [I e],.cells 211 [.fn (.func 118) [] [.ptr 0 0,.ptr 1 0]]] (λr=>.bool r) r)(n:Nat)(d:Part)(e:Int):Ks (F_jb rec45 n d e) 183 [.agg (Part.c d),.ptr 0 0] [.cells 211 [.fn (.func 118) [] [.ptr 1 0,.ptr 2 0]],.cells 3 [I e],.cells 211 [.fn (.func 118) [] [.ptr 1 0,.ptr 2 0]]] (λr=>.bool r):=by
 exact Kg 10 func183 Z Z Z Z λr h=>Cz [1,2] h (k_cj rec45 a _ _ _) Z λg f h=>Go 5 Z (Rt h 3 [0,1,2])
def F_lu(n:Nat)(d:List Part)(g:Int)(rec45:(List Part)->Int->Option Bool)(a:Int):Option (Ctl Int (Ctl Unit Int)):=(bif decide (a<(d.length:Int))then(idx d a).bind λe=>(F_jb rec45 n e g).bind λf=>(bif f then some (.done (.done a))else some (.cont (i64.wrap (a+1))))else some (.done (.cont ())))
def F_jz(rec45:(List Part)->Int->Option Bool)(n:Nat)(e:List Part)(f:Int):Option Int:=(iter (F_lu n e f rec45) n 0:Option (Ctl Unit Int)).bind λd=>match d with|.cont a=>(some (-1))|.done a=>some a
theorem k_jz(rec45:(List Part)->Int->Option Bool)(d:∀(e:List Part) (f:Int) (r:Bool),rec45 e f=some r->Csm prog 120 [.rsl 3 (map Part.enc e),.fn (.func 118) [] [.ptr 0 0,.ptr 1 0]] [.cells 3 [I f],.cells 211 [.fn (.func 118) [] [.ptr 0 0,.ptr 1 0]]] (λr=>.bool r) r)(n:Nat)(e:List Part)(f:Int):Ks (F_jz rec45 n e f) 241 [.rsl 3 (map Part.enc e),.fn (.func 183) [] [.ptr 0 0]] [.cells 211 [.fn (.func 118) [] [.ptr 1 0,.ptr 2 0]],.cells 3 [I f],.cells 211 [.fn (.func 118) [] [.ptr 1 0,.ptr 2 0]]] (λr=>I r):=by
 refine Kg 9 func241 Z Z Z Z λr h=>Lm Z (Go 3 Z (Bd h λm p h=>?_));refine Jk (b:=m) [0,1,2] [] Ze Ze Zf ?_ (λu env H q s=>?_)
 .refine G0 1 Z ?_;refine Lp [0,1,2] [0,1,7] (λi=>[(8,I i)]) Ze p Zf (Lr [0,1,2]) λi x a g=>?_;refine G0 6 Z (Yk Z a (λj a=>?_) (λj a=>?_))
  .refine Gc 2 Z (Qk a ?_);obtain rfl:=Oj g a;exact Gx 1 Z (Qq Z (Lr [0,1,2]))
  refine Gc 15 Z (Bd a λt k a=>IzE k (Yb t) Z (Go 1 Z (Cz [0,1,2] a (k_jb rec45 d _ _ _) Z λy w a=>Go 2 Z (Cn Z a (λl a=>?_) (λl a=>?_)))))
  .refine Gc 9 Z (Qy a ?_);obtain rfl:=Oj g a;exact Gx 1 Z (Qu (Gx 1 Z (Rt h 4 [0,1,2])))
  exact Gc 7 Z (Qj a (Lr [0,1,2]))
 subst q;exact Gx 1 Z (Qd s (Gc 6 Z (Rt h 4 [0,1,2])))
def F_if(rec45:(List Part)->Int->Option Bool)(n:Nat)(a:List Part)(d:Int):Option Bool:=(F_jz rec45 n a d).bind λe=>some (decide (0<=e))
theorem k_if(rec45:(List Part)->Int->Option Bool)(a:∀(d:List Part) (e:Int) (r:Bool),rec45 d e=some r->Csm prog 120 [.rsl 3 (map Part.enc d),.fn (.func 118) [] [.ptr 0 0,.ptr 1 0]] [.cells 3 [I e],.cells 211 [.fn (.func 118) [] [.ptr 0 0,.ptr 1 0]]] (λr=>.bool r) r)(n:Nat)(d:List Part)(e:Int):Ks (F_if rec45 n d e) 182 [.rsl 3 (map Part.enc d),.fn (.func 183) [] [.ptr 0 0]] [.cells 211 [.fn (.func 118) [] [.ptr 1 0,.ptr 2 0]],.cells 3 [I e],.cells 211 [.fn (.func 118) [] [.ptr 1 0,.ptr 2 0]]] (λr=>.bool r):=by
 exact Kg 9 func182 Z Z Z Z λr h=>Cz [0,1,2] h (k_jz rec45 a _ _ _) Z λg f h=>Go 5 Z (Rt h 4 [0,1,2])
def B_au(rec45:(List Part)->Int->Option Bool)(n:Nat)(a:List Part)(d:Int):Option Bool:=(F_if rec45 n a d).bind λe=>some (!e)
theorem QcP(rec45:(List Part)->Int->Option Bool)(a:∀(d:List Part) (e:Int) (r:Bool),rec45 d e=some r->Csm prog 120 [.rsl 3 (map Part.enc d),.fn (.func 118) [] [.ptr 0 0,.ptr 1 0]] [.cells 3 [I e],.cells 211 [.fn (.func 118) [] [.ptr 0 0,.ptr 1 0]]] (λr=>.bool r) r)(n:Nat)(d:List Part)(e:Int)(r:Bool)(h:B_au rec45 n d e=some r):Csm prog 120 [.rsl 3 (map Part.enc d),.fn (.func 118) [] [.ptr 0 0,.ptr 1 0]] [.cells 3 [I e],.cells 211 [.fn (.func 118) [] [.ptr 0 0,.ptr 1 0]]] (λr=>.bool r) r:=by
 refine QO func120 Z Z Z ?_;exact G0 10 Z (Cz [2,0,1] h (k_if rec45 a _ _ _) Z λg f h=>Go 5 Z (Rt h 4 [0,1]))
def F_au:Nat->(List Part)->Int->Option Bool
  |0=>λ_ _=>none
  |n+1=>B_au (F_au n) n
theorem k_au(n:Nat):∀(a:List Part) (d:Int) (r:Bool),F_au n a d=some r->Csm prog 120 [.rsl 3 (map Part.enc a),.fn (.func 118) [] [.ptr 0 0,.ptr 1 0]] [.cells 3 [I d],.cells 211 [.fn (.func 118) [] [.ptr 0 0,.ptr 1 0]]] (λr=>.bool r) r:=by
  induction n with
  |zero=>intro a d r h;cases h
  |succ n ih=>intro a d r h;exact QcP _ ih n a d r h
def F_dt(n:Nat)(a:Cutoff)(e:Int):Option Bool:=((F_a n 0 e [a.Mat]).bind λf=>(bif f then(bif decide (1<=a.Lap)then(F_a n 0 1099511627776 [a.Limit]).bind λd=>some d else some false)else some false):Option Bool).bind λg=>some g
theorem k_dt(n:Nat)(d:Cutoff)(f:Int):Ks (F_dt n d f) 121 [.agg (Cutoff.c d),.ptr 0 0] [.cells 3 [I f]] (λr=>.bool r):=by
 refine Kg 7 func121 Z Z Z Z λr h=>Bd h λe a h=>?_;refine Ct e [0] [] (λe=>[(3,.bool e)]) Ze Zf ?_ (λenv H g=>?_)
 .refine G0 4 Z ?_;refine vH (Ek (xs:=[.tmp 6]) (es:=map (Qf .i64) [d.Mat]) Qz Z Z Z Z Z ⟨Z,trivial⟩ Z Z) ?_;refine FE Z (Cb a (k_a _ _ _ _) Z (ls (ls (lo ln))) λp l a=>Go 1 Z (Is 9 a Z (λi a=>?_) (λi a=>?_)))
  .refine Go 5 Z (Is 14 a Z (λj a=>?_) (λj a=>?_))
   .refine Go 2 Z ?_;refine vH (Ek (xs:=[.tmp 16]) (es:=map (Qf .i64) [d.Limit]) Qz Z Z Z Z Z ⟨Z,trivial⟩ Z Z) ?_ (gT Z);exact FE Z (Cb a (k_a _ _ _ _) Z (ls (ls (lo ln))) λm k a=>Go 3 Z (Cl a [0]))
   .exact Go 7 Z (Cl a [0])
  .exact Go 12 Z (Cl a [0])
 exact Gx 1 Z (Qd g (Gc 1 Z (Rt h 3 [0])))
def F_jo(n:Nat)(a:Cutoff)(d:Int):Option Bool:=(F_dt n a d).bind λe=>some (!e)
theorem k_jo(n:Nat)(a:Cutoff)(d:Int):Ks (F_jo n a d) 185 [.agg (Cutoff.c a),.ptr 0 0] [.cells 216 [.fn (.func 121) [] [.ptr 1 0]],.cells 3 [I d]] (λr=>.bool r):=by
 exact Kg 10 func185 Z Z Z Z λr h=>Cz [1] h (k_dt _ _ _) Z λf e h=>Go 5 Z (Rt h 3 [0,1])
def F_la(n:Nat)(d:List Cutoff)(g:Int)(a:Int):Option (Ctl Int (Ctl Unit Int)):=(bif decide (a<(d.length:Int))then(idx d a).bind λe=>(F_jo n e g).bind λf=>(bif f then some (.done (.done a))else some (.cont (i64.wrap (a+1))))else some (.done (.cont ())))
def F_gr(n:Nat)(e:List Cutoff)(f:Int):Option Int:=(iter (F_la n e f) n 0:Option (Ctl Unit Int)).bind λd=>match d with|.cont a=>(some (-1))|.done a=>some a
theorem k_gr(n:Nat)(j:List Cutoff)(k:Int):Ks (F_gr n j k) 242 [.rsl 3 (map Cutoff.c j),.fn (.func 185) [] [.ptr 0 0]] [.cells 216 [.fn (.func 121) [] [.ptr 1 0]],.cells 3 [I k]] (λr=>I r):=by
 refine Kg 9 func242 Z Z Z Z λr h=>Lm Z (Go 3 Z (Bd h λl m h=>?_));refine Jk (b:=l) [0,1] [] Ze Ze Zf ?_ (λs env H p q=>?_)
 .refine G0 1 Z ?_;refine Lp [0,1] [0,1,7] (λe=>[(8,I e)]) Ze m Zf (Lr [0,1]) λe u a d=>?_;refine G0 6 Z (Yk Z a (λf a=>?_) (λf a=>?_))
  .refine Gc 2 Z (Qk a ?_);obtain rfl:=Oj d a;exact Gx 1 Z (Qq Z (Lr [0,1]))
  refine Gc 15 Z (Bd a λw g a=>Iz g Z (Go 1 Z (Cz [0,1] a (k_jo _ _ _) Z λx t a=>Go 2 Z (Cn Z a (λi a=>?_) (λi a=>?_)))))
  .refine Gc 9 Z (Qy a ?_);obtain rfl:=Oj d a;exact Gx 1 Z (Qu (Gx 1 Z (Rt h 4 [0,1])))
  exact Gc 7 Z (Qj a (Lr [0,1]))
 subst p;exact Gx 1 Z (Qd q (Gc 6 Z (Rt h 4 [0,1])))
def F_fw(n:Nat)(a:List Cutoff)(d:Int):Option Bool:=(F_gr n a d).bind λe=>some (decide (0<=e))
theorem k_fw(n:Nat)(a:List Cutoff)(d:Int):Ks (F_fw n a d) 184 [.rsl 3 (map Cutoff.c a),.fn (.func 185) [] [.ptr 0 0]] [.cells 216 [.fn (.func 121) [] [.ptr 1 0]],.cells 3 [I d]] (λr=>.bool r):=by
 exact Kg 9 func184 Z Z Z Z λr h=>Cz [0,1] h (k_gr _ _ _) Z λf e h=>Go 5 Z (Rt h 4 [0,1])
def F_cm(n:Nat)(a:List Cutoff)(d:Int):Option Bool:=(F_fw n a d).bind λe=>some (!e)
theorem k_cm(n:Nat)(a:List Cutoff)(d:Int):Ks (F_cm n a d) 123 [.rsl 3 (map Cutoff.c a),.fn (.func 121) [] [.ptr 0 0]] [.cells 3 [I d]] (λr=>.bool r):=by
 exact Kg 10 func123 Z Z Z Z λr h=>Cz [1,0] h (k_fw _ _ _) Z λf e h=>Go 5 Z (Rt h 4 [0])
def F_cq(n:Nat)(a:Distance)(d:Int):Option Bool:=((F_a n 1 3 [a.Timing]).bind λe=>(bif e then(F_a n (-1) d [a.Extra]).bind λf=>(bif f then(F_au n a.Route d).bind λg=>(bif g then(F_cm n a.Cutoffs d).bind λh=>some h else some false)else some false)else some false):Option Bool).bind λi=>some i
theorem k_cq(n:Nat)(d:Distance)(j:Int):Ks (F_cq n d j) 122 [.agg (Distance.c d),.ptr 0 0,.ptr 1 0,.ptr 2 0] [.cells 3 [I j],.cells 211 [.fn (.func 118) [] [.ptr 0 0,.ptr 1 0]],.cells 216 [.fn (.func 121) [] [.ptr 0 0]]] (λr=>.bool r):=by
 refine Kg 7 func122 Z Z Z Z λr h=>Bd h λe a h=>?_;refine Ct e [0,1,2] [] (λe=>[(5,.bool e)]) Ze Zf ?_ (λenv H k=>?_)
 .refine G0 3 Z ?_;refine vH (Ek (xs:=[.tmp 7]) (es:=map (Qf .i64) [d.Timing]) Qz Z Z Z Z Z ⟨Z,trivial⟩ Z Z) ?_;refine FE Z (Cb a (k_a _ _ _ _) Z (ls (ls (lo ln))) λs l a=>Go 1 Z (Is 10 a Z (λf a=>?_) (λf a=>?_)))
  .refine Go 3 Z ?_;refine vH (Ek (xs:=[.tmp 13]) (es:=map (Qf .i64) [d.Extra]) Qz Z Z Z Z Z ⟨Z,trivial⟩ Z Z) ?_ (gT Z);refine FE Z (Cb a (k_a _ _ _ _) Z (ls (ls (lo ln))) λt m a=>Go 2 Z (Is 17 a Z (λg a=>?_) (λg a=>?_)))
   .refine Go 3 Z (Cz [0,1] a (k_au _ _ _) Z λu p a=>Go 2 Z (Is 23 a Z (λi a=>?_) (λi a=>?_)))
    .exact Go 3 Z (Cz [0] a (k_cm _ _ _) Z λw q a=>Go 3 Z (Cl a [0,1,2]))
    .exact Go 7 Z (Cl a [0,1,2])
   .exact Go 13 Z (Cl a [0,1,2])
  .exact Go 20 Z (Cl a [0,1,2])
 exact Gx 1 Z (Qd k (Gc 1 Z (Rt h 5 [0,1,2])))
def F_iy(n:Nat)(a:Distance)(d:Int):Option Bool:=(F_cq n a d).bind λe=>some (!e)
theorem k_iy(n:Nat)(a:Distance)(d:Int):Ks (F_iy n a d) 143 [.agg (Distance.c a),.ptr 0 0] [.cells 167 [.fn (.func 122) [] [.ptr 1 0,.ptr 2 0,.ptr 3 0]],.cells 3 [I d],.cells 211 [.fn (.func 118) [] [.ptr 1 0,.ptr 2 0]],.cells 216 [.fn (.func 121) [] [.ptr 1 0]]] (λr=>.bool r):=by
 exact Kg 10 func143 Z Z Z Z λr h=>Cz [1,2,3] h (k_cq _ _ _) Z λf e h=>Go 5 Z (Rt h 3 [0,1,2,3])
def F_ll(n:Nat)(d:List Distance)(g:Int)(a:Int):Option (Ctl Int (Ctl Unit Int)):=(bif decide (a<(d.length:Int))then(idx d a).bind λe=>(F_iy n e g).bind λf=>(bif f then some (.done (.done a))else some (.cont (i64.wrap (a+1))))else some (.done (.cont ())))
def F_go(n:Nat)(e:List Distance)(f:Int):Option Int:=(iter (F_ll n e f) n 0:Option (Ctl Unit Int)).bind λd=>match d with|.cont a=>(some (-1))|.done a=>some a
theorem k_go(n:Nat)(j:List Distance)(k:Int):Ks (F_go n j k) 201 [.rsl 5 (map Distance.c j),.fn (.func 143) [] [.ptr 0 0]] [.cells 167 [.fn (.func 122) [] [.ptr 1 0,.ptr 2 0,.ptr 3 0]],.cells 3 [I k],.cells 211 [.fn (.func 118) [] [.ptr 1 0,.ptr 2 0]],.cells 216 [.fn (.func 121) [] [.ptr 1 0]]] (λr=>I r):=by
 refine Kg 9 func201 Z Z Z Z λr h=>Lm Z (Go 3 Z (Bd h λl m h=>?_));refine Jk (b:=l) [0,1,2,3] [] Ze Ze Zf ?_ (λs env H p q=>?_)
 .refine G0 1 Z ?_;refine Lp [0,1,2,3] [0,1,7] (λe=>[(8,I e)]) Ze m Zf (Lr [0,1,2,3]) λe u a d=>?_;refine G0 6 Z (Yk Z a (λf a=>?_) (λf a=>?_))
  .refine Gc 2 Z (Qk a ?_);obtain rfl:=Oj d a;exact Gx 1 Z (Qq Z (Lr [0,1,2,3]))
  refine Gc 15 Z (Bd a λw g a=>Iz g Z (Go 1 Z (Cz [0,1,2,3] a (k_iy _ _ _) Z λx t a=>Go 2 Z (Cn Z a (λi a=>?_) (λi a=>?_)))))
  .refine Gc 9 Z (Qy a ?_);obtain rfl:=Oj d a;exact Gx 1 Z (Qu (Gx 1 Z (Rt h 4 [0,1,2,3])))
  exact Gc 7 Z (Qj a (Lr [0,1,2,3]))
 subst p;exact Gx 1 Z (Qd q (Gc 6 Z (Rt h 4 [0,1,2,3])))
def F_gy(n:Nat)(a:List Distance)(d:Int):Option Bool:=(F_go n a d).bind λe=>some (decide (0<=e))
theorem k_gy(n:Nat)(a:List Distance)(d:Int):Ks (F_gy n a d) 142 [.rsl 5 (map Distance.c a),.fn (.func 143) [] [.ptr 0 0]] [.cells 167 [.fn (.func 122) [] [.ptr 1 0,.ptr 2 0,.ptr 3 0]],.cells 3 [I d],.cells 211 [.fn (.func 118) [] [.ptr 1 0,.ptr 2 0]],.cells 216 [.fn (.func 121) [] [.ptr 1 0]]] (λr=>.bool r):=by
 exact Kg 9 func142 Z Z Z Z λr h=>Cz [0,1,2,3] h (k_go _ _ _) Z λf e h=>Go 5 Z (Rt h 4 [0,1,2,3])
def F_do(n:Nat)(a:List Distance)(d:Int):Option Bool:=(F_gy n a d).bind λe=>some (!e)
theorem k_do(n:Nat)(a:List Distance)(d:Int):Ks (F_do n a d) 72 [.rsl 5 (map Distance.c a),.fn (.func 122) [] [.ptr 0 0,.ptr 1 0,.ptr 2 0]] [.cells 3 [I d],.cells 211 [.fn (.func 118) [] [.ptr 0 0,.ptr 1 0]],.cells 216 [.fn (.func 121) [] [.ptr 0 0]]] (λr=>.bool r):=by
 exact Kg 10 func72 Z Z Z Z λr h=>Cz [3,0,1,2] h (k_gy _ _ _) Z λf e h=>Go 5 Z (Rt h 4 [0,1,2])
def F_cx(n:Nat)(a:Wave):Option Bool:=(F_a n 0 1099511627776 [a.Gun]).bind λd=>some d
theorem k_cx(n:Nat)(a:Wave):Ks (F_cx n a) 133 [.agg (Wave.c a)] [] (λr=>.bool r):=by
 refine Kg 10 func133 Z Z Z Z λr h=>?_;refine vH (Ek (xs:=[.tmp 4]) (es:=map (Qf .i64) [a.Gun]) Qz Z Z Z Z Z ⟨Z,trivial⟩ Z Z) ?_;exact FE Z (Cb h (k_a _ _ _ _) Z (ls (ls (lo ln))) λe d h=>Go 4 Z (Rt h 2 []))
def F_ix(n:Nat)(a:Wave):Option Bool:=(F_cx n a).bind λd=>some (!d)
theorem k_ix(n:Nat)(a:Wave):Ks (F_ix n a) 191 [.agg (Wave.c a),.ptr 0 0] [.cells 229 [.fn (.func 133) [] []]] (λr=>.bool r):=by
 exact Kg 10 func191 Z Z Z Z λr h=>Cz [] h (k_cx _ _) Z λe d h=>Go 5 Z (Rt h 3 [0])
def F_kx(n:Nat)(d:List Wave)(a:Int):Option (Ctl Int (Ctl Unit Int)):=(bif decide (a<(d.length:Int))then(idx d a).bind λe=>(F_ix n e).bind λf=>(bif f then some (.done (.done a))else some (.cont (i64.wrap (a+1))))else some (.done (.cont ())))
def F_ew(n:Nat)(e:List Wave):Option Int:=(iter (F_kx n e) n 0:Option (Ctl Unit Int)).bind λd=>match d with|.cont a=>(some (-1))|.done a=>some a
theorem k_ew(n:Nat)(j:List Wave):Ks (F_ew n j) 245 [.rsl 2 (map Wave.c j),.fn (.func 191) [] [.ptr 0 0]] [.cells 229 [.fn (.func 133) [] []]] (λr=>I r):=by
 refine Kg 9 func245 Z Z Z Z λr h=>Lm Z (Go 3 Z (Bd h λk l h=>?_));refine Jk (b:=k) [0] [] Ze Ze Zf ?_ (λq env H m p=>?_)
 .refine G0 1 Z ?_;refine Lp [0] [0,1,7] (λe=>[(8,I e)]) Ze l Zf (Lr [0]) λe t a d=>?_;refine G0 6 Z (Yk Z a (λf a=>?_) (λf a=>?_))
  .refine Gc 2 Z (Qk a ?_);obtain rfl:=Oj d a;exact Gx 1 Z (Qq Z (Lr [0]))
  refine Gc 15 Z (Bd a λu g a=>Iz g Z (Go 1 Z (Cz [0] a (k_ix _ _) Z λw s a=>Go 2 Z (Cn Z a (λi a=>?_) (λi a=>?_)))))
  .refine Gc 9 Z (Qy a ?_);obtain rfl:=Oj d a;exact Gx 1 Z (Qu (Gx 1 Z (Rt h 4 [0])))
  exact Gc 7 Z (Qj a (Lr [0]))
 subst m;exact Gx 1 Z (Qd p (Gc 6 Z (Rt h 4 [0])))
def F_fn(n:Nat)(a:List Wave):Option Bool:=(F_ew n a).bind λd=>some (decide (0<=d))
theorem k_fn(n:Nat)(a:List Wave):Ks (F_fn n a) 190 [.rsl 2 (map Wave.c a),.fn (.func 191) [] [.ptr 0 0]] [.cells 229 [.fn (.func 133) [] []]] (λr=>.bool r):=by
 exact Kg 9 func190 Z Z Z Z λr h=>Cz [0] h (k_ew _ _) Z λe d h=>Go 5 Z (Rt h 4 [0])
def F_dh(n:Nat)(a:List Wave):Option Bool:=(F_fn n a).bind λd=>some (!d)
theorem k_dh(n:Nat)(a:List Wave):Ks (F_dh n a) 132 [.rsl 2 (map Wave.c a),.fn (.func 133) [] []] [] (λr=>.bool r):=by
 exact Kg 10 func132 Z Z Z Z λr h=>Cz [0] h (k_fn _ _) Z λe d h=>Go 5 Z (Rt h 4 [])
def F_ed(n:Nat)(a:Offence):Option Bool:=(bif a.Out then((bif (a.Time==0)then some (a.Laps==0)else some false):Option Bool).bind λf=>some f else(bif (a.Laps != 0)then((bif (a.Time==0)then(F_a n 1 64 [a.Laps]).bind λd=>some d else some false):Option Bool).bind λg=>some g else(F_a n 0 68719476736 [a.Time]).bind λe=>some e))
theorem k_ed(n:Nat)(f:Offence):Ks (F_ed n f) 125 [.agg (Offence.c f)] [] (λr=>.bool r):=by
 refine Kg 15 func125 Z Z Z Z λr h=>Cn Z h (λk h=>?_) (λk h=>?_)
 .refine Gc 1 Z (Bd h λg d h=>?_);refine Ct g [] [] (λg=>[(2,.bool g)]) Ze Zf ?_ (λenv H e=>?_)
  .refine G0 5 Z (Is 9 d Z (λl d=>?_) (λl d=>?_))
   iterate 2 exact Go 6 Z (Cl d [])
  exact Gx 1 Z (Qd e (Gc 3 Z (Rt h 2 [])))
 refine Gc 8 Z (Cn Z h (λm h=>?_) (λm h=>?_))
 .refine Gc 1 Z (Bd h λi a h=>?_);refine Ct i [] [] (λi=>[(2,.bool i)]) Ze Zf ?_ (λenv H e=>?_)
  .refine G0 5 Z (Is 21 a Z (λj a=>?_) (λj a=>?_))
   .refine Go 2 Z ?_;refine vH (Ek (xs:=[.tmp 23]) (es:=map (Qf .i64) [f.Laps]) Qz Z Z Z Z Z ⟨Z,trivial⟩ Z Z) ?_ (gT Z);exact FE Z (Cb a (k_a _ _ _ _) Z (ls (ls (lo ln))) λs p a=>Go 3 Z (Cl a []))
   .exact Go 7 Z (Cl a [])
  exact Gx 1 Z (Qd e (Gc 3 Z (Rt h 2 [])))
 refine Gc 7 Z ?_;refine vH (Ek (xs:=[.tmp 28]) (es:=map (Qf .i64) [f.Time]) Qz Z Z Z Z Z ⟨Z,trivial⟩ Z Z) ?_;exact FE Z (Cb h (k_a _ _ _ _) Z (ls (ls (lo ln))) λt q h=>Go 4 Z (Rt h 2 []))
def F_hk(n:Nat)(a:Offence):Option Bool:=(F_ed n a).bind λd=>some (!d)
theorem k_hk(n:Nat)(a:Offence):Ks (F_hk n a) 193 [.agg (Offence.c a),.ptr 0 0] [.cells 219 [.fn (.func 125) [] []]] (λr=>.bool r):=by
 exact Kg 10 func193 Z Z Z Z λr h=>Cz [] h (k_ed _ _) Z λe d h=>Go 5 Z (Rt h 3 [0])
def F_kz(n:Nat)(d:List Offence)(a:Int):Option (Ctl Int (Ctl Unit Int)):=(bif decide (a<(d.length:Int))then(idx d a).bind λe=>(F_hk n e).bind λf=>(bif f then some (.done (.done a))else some (.cont (i64.wrap (a+1))))else some (.done (.cont ())))
def F_ge(n:Nat)(e:List Offence):Option Int:=(iter (F_kz n e) n 0:Option (Ctl Unit Int)).bind λd=>match d with|.cont a=>(some (-1))|.done a=>some a
theorem k_ge(n:Nat)(j:List Offence):Ks (F_ge n j) 246 [.rsl 4 (map Offence.c j),.fn (.func 193) [] [.ptr 0 0]] [.cells 219 [.fn (.func 125) [] []]] (λr=>I r):=by
 refine Kg 9 func246 Z Z Z Z λr h=>Lm Z (Go 3 Z (Bd h λk l h=>?_));refine Jk (b:=k) [0] [] Ze Ze Zf ?_ (λq env H m p=>?_)
 .refine G0 1 Z ?_;refine Lp [0] [0,1,7] (λe=>[(8,I e)]) Ze l Zf (Lr [0]) λe t a d=>?_;refine G0 6 Z (Yk Z a (λf a=>?_) (λf a=>?_))
  .refine Gc 2 Z (Qk a ?_);obtain rfl:=Oj d a;exact Gx 1 Z (Qq Z (Lr [0]))
  refine Gc 15 Z (Bd a λu g a=>Iz g Z (Go 1 Z (Cz [0] a (k_hk _ _) Z λw s a=>Go 2 Z (Cn Z a (λi a=>?_) (λi a=>?_)))))
  .refine Gc 9 Z (Qy a ?_);obtain rfl:=Oj d a;exact Gx 1 Z (Qu (Gx 1 Z (Rt h 4 [0])))
  exact Gc 7 Z (Qj a (Lr [0]))
 subst m;exact Gx 1 Z (Qd p (Gc 6 Z (Rt h 4 [0])))
def F_gs(n:Nat)(a:List Offence):Option Bool:=(F_ge n a).bind λd=>some (decide (0<=d))
theorem k_gs(n:Nat)(a:List Offence):Ks (F_gs n a) 192 [.rsl 4 (map Offence.c a),.fn (.func 193) [] [.ptr 0 0]] [.cells 219 [.fn (.func 125) [] []]] (λr=>.bool r):=by
 exact Kg 9 func192 Z Z Z Z λr h=>Cz [0] h (k_ge _ _) Z λe d h=>Go 5 Z (Rt h 4 [0])
def F_da(n:Nat)(a:List Offence):Option Bool:=(F_gs n a).bind λd=>some (!d)
theorem k_da(n:Nat)(a:List Offence):Ks (F_da n a) 134 [.rsl 4 (map Offence.c a),.fn (.func 125) [] []] [] (λr=>.bool r):=by
 exact Kg 10 func134 Z Z Z Z λr h=>Cz [0] h (k_gs _ _) Z λe d h=>Go 5 Z (Rt h 4 [])
def F_eb(n:Nat)(a:Category):Option Bool:=((F_a n 0 120 [a.From,a.To]).bind λd=>(bif d then some (decide (a.From<=a.To))else some false):Option Bool).bind λe=>some e
theorem k_eb(n:Nat)(d:Category):Ks (F_eb n d) 136 [.agg (Category.c d)] [] (λr=>.bool r):=by
 refine Kg 7 func136 Z Z Z Z λr h=>Bd h λe a h=>?_;refine Ct e [] [] (λe=>[(2,.bool e)]) Ze Zf ?_ (λenv H f=>?_)
 .refine G0 5 Z ?_;refine vH (Ek (xs:=[.tmp 4,.tmp 6]) (es:=map (Qf .i64) [d.From,d.To]) Qz Z Z Z Z Z ⟨Z,Z,trivial⟩ Z Z) ?_;refine FE Z (Cb a (k_a _ _ _ _) Z (ls (ls (lo ln))) λj i a=>Go 1 Z (Is 9 a Z (λg a=>?_) (λg a=>?_)))
  iterate 2 exact Go 8 Z (Cl a [])
 exact Gx 1 Z (Qd f (Gc 1 Z (Rt h 2 [])))
def F_hv(n:Nat)(a:Category):Option Bool:=(F_eb n a).bind λd=>some (!d)
theorem k_hv(n:Nat)(a:Category):Ks (F_hv n a) 195 [.agg (Category.c a),.ptr 0 0] [.cells 232 [.fn (.func 136) [] []]] (λr=>.bool r):=by
 exact Kg 10 func195 Z Z Z Z λr h=>Cz [] h (k_eb _ _) Z λe d h=>Go 5 Z (Rt h 3 [0])
def F_lm(n:Nat)(d:List Category)(a:Int):Option (Ctl Int (Ctl Unit Int)):=(bif decide (a<(d.length:Int))then(idx d a).bind λe=>(F_hv n e).bind λf=>(bif f then some (.done (.done a))else some (.cont (i64.wrap (a+1))))else some (.done (.cont ())))
def F_ef(n:Nat)(e:List Category):Option Int:=(iter (F_lm n e) n 0:Option (Ctl Unit Int)).bind λd=>match d with|.cont a=>(some (-1))|.done a=>some a
theorem k_ef(n:Nat)(j:List Category):Ks (F_ef n j) 247 [.rsl 3 (map Category.c j),.fn (.func 195) [] [.ptr 0 0]] [.cells 232 [.fn (.func 136) [] []]] (λr=>I r):=by
 refine Kg 9 func247 Z Z Z Z λr h=>Lm Z (Go 3 Z (Bd h λk l h=>?_));refine Jk (b:=k) [0] [] Ze Ze Zf ?_ (λq env H m p=>?_)
 .refine G0 1 Z ?_;refine Lp [0] [0,1,7] (λe=>[(8,I e)]) Ze l Zf (Lr [0]) λe t a d=>?_;refine G0 6 Z (Yk Z a (λf a=>?_) (λf a=>?_))
  .refine Gc 2 Z (Qk a ?_);obtain rfl:=Oj d a;exact Gx 1 Z (Qq Z (Lr [0]))
  refine Gc 15 Z (Bd a λu g a=>Iz g Z (Go 1 Z (Cz [0] a (k_hv _ _) Z λw s a=>Go 2 Z (Cn Z a (λi a=>?_) (λi a=>?_)))))
  .refine Gc 9 Z (Qy a ?_);obtain rfl:=Oj d a;exact Gx 1 Z (Qu (Gx 1 Z (Rt h 4 [0])))
  exact Gc 7 Z (Qj a (Lr [0]))
 subst m;exact Gx 1 Z (Qd p (Gc 6 Z (Rt h 4 [0])))
def F_gg(n:Nat)(a:List Category):Option Bool:=(F_ef n a).bind λd=>some (decide (0<=d))
theorem k_gg(n:Nat)(a:List Category):Ks (F_gg n a) 194 [.rsl 3 (map Category.c a),.fn (.func 195) [] [.ptr 0 0]] [.cells 232 [.fn (.func 136) [] []]] (λr=>.bool r):=by
 exact Kg 9 func194 Z Z Z Z λr h=>Cz [0] h (k_ef _ _) Z λe d h=>Go 5 Z (Rt h 4 [0])
def F_cn(n:Nat)(a:List Category):Option Bool:=(F_gg n a).bind λd=>some (!d)
theorem k_cn(n:Nat)(a:List Category):Ks (F_cn n a) 135 [.rsl 3 (map Category.c a),.fn (.func 136) [] []] [] (λr=>.bool r):=by
 exact Kg 10 func135 Z Z Z Z λr h=>Cz [0] h (k_gg _ _) Z λe d h=>Go 5 Z (Rt h 4 [])
def F_dx(n:Nat)(a:Prize)(d:Course):Option Bool:=((F_a n 0 (i64.wrap ((d.Distances.length:Int)-1)) [a.Distance]).bind λe=>(bif e then(F_a n (-1) (i64.wrap ((d.Categories.length:Int)-1)) [a.Category]).bind λf=>(bif f then(F_a n 1 4000 [a.Rank]).bind λg=>(bif g then(F_a n 1 1125899906842624 [a.Amount]).bind λh=>some h else some false)else some false)else some false):Option Bool).bind λi=>some i
theorem k_dx(n:Nat)(d:Prize)(j:Course):Ks (F_dx n d j) 126 [.agg (Prize.c d),.ptr 0 0] [.cells 33 (Course.c j)] (λr=>.bool r):=by
 refine Kg 7 func126 Z Z Z Z λr h=>Bd h λe a h=>?_;refine Ct e [0] [] (λe=>[(3,.bool e)]) Ze Zf ?_ (λenv H k=>?_)
 .refine G0 3 Z (Lm Z (Go 3 Z ?_));refine vH (Ek (xs:=[.tmp 9]) (es:=map (Qf .i64) [d.Distance]) Qz Z Z Z Z Z ⟨Z,trivial⟩ Z Z) ?_;refine FE Z (Cb a (k_a _ _ _ _) Z (ls (ls (lo ln))) λs l a=>Go 1 Z (Is 12 a Z (λf a=>?_) (λf a=>?_)))
  .refine Go 2 Z (Lm Z (Go 3 Z ?_));refine vH (Ek (xs:=[.tmp 18]) (es:=map (Qf .i64) [d.Category]) Qz Z Z Z Z Z ⟨Z,trivial⟩ Z Z) ?_ (gT Z);refine FE Z (Cb a (k_a _ _ _ _) Z (ls (ls (lo ln))) λt m a=>Go 2 Z (Is 22 a Z (λg a=>?_) (λg a=>?_)))
   .refine Go 2 Z ?_;refine vH (Ek (xs:=[.tmp 24]) (es:=map (Qf .i64) [d.Rank]) Qz Z Z Z Z Z ⟨Z,trivial⟩ Z Z) ?_ (gT Z);refine FE Z (Cb a (k_a _ _ _ _) Z (ls (ls (lo ln))) λu p a=>Go 2 Z (Is 28 a Z (λi a=>?_) (λi a=>?_)))
    .refine Go 2 Z ?_;refine vH (Ek (xs:=[.tmp 30]) (es:=map (Qf .i64) [d.Amount]) Qz Z Z Z Z Z ⟨Z,trivial⟩ Z Z) ?_ (gT Z);exact FE Z (Cb a (k_a _ _ _ _) Z (ls (ls (lo ln))) λw q a=>Go 3 Z (Cl a [0]))
    .exact Go 7 Z (Cl a [0])
   .exact Go 13 Z (Cl a [0])
  .exact Go 23 Z (Cl a [0])
 exact Gx 1 Z (Qd k (Gc 1 Z (Rt h 3 [0])))
def F_jq(n:Nat)(a:Prize)(d:Course):Option Bool:=(F_dx n a d).bind λe=>some (!e)
theorem k_jq(n:Nat)(a:Prize)(d:Course):Ks (F_jq n a d) 197 [.agg (Prize.c a),.ptr 0 0] [.cells 222 [.fn (.func 126) [] [.ptr 1 0]],.cells 33 (Course.c d)] (λr=>.bool r):=by
 exact Kg 10 func197 Z Z Z Z λr h=>Cz [1] h (k_dx _ _ _) Z λf e h=>Go 5 Z (Rt h 3 [0,1])
def F_lj(n:Nat)(d:List Prize)(g:Course)(a:Int):Option (Ctl Int (Ctl Unit Int)):=(bif decide (a<(d.length:Int))then(idx d a).bind λe=>(F_jq n e g).bind λf=>(bif f then some (.done (.done a))else some (.cont (i64.wrap (a+1))))else some (.done (.cont ())))
def F_hf(n:Nat)(e:List Prize)(f:Course):Option Int:=(iter (F_lj n e f) n 0:Option (Ctl Unit Int)).bind λd=>match d with|.cont a=>(some (-1))|.done a=>some a
theorem k_hf(n:Nat)(j:List Prize)(k:Course):Ks (F_hf n j k) 248 [.rsl 4 (map Prize.c j),.fn (.func 197) [] [.ptr 0 0]] [.cells 222 [.fn (.func 126) [] [.ptr 1 0]],.cells 33 (Course.c k)] (λr=>I r):=by
 refine Kg 9 func248 Z Z Z Z λr h=>Lm Z (Go 3 Z (Bd h λl m h=>?_));refine Jk (b:=l) [0,1] [] Ze Ze Zf ?_ (λs env H p q=>?_)
 .refine G0 1 Z ?_;refine Lp [0,1] [0,1,7] (λe=>[(8,I e)]) Ze m Zf (Lr [0,1]) λe u a d=>?_;refine G0 6 Z (Yk Z a (λf a=>?_) (λf a=>?_))
  .refine Gc 2 Z (Qk a ?_);obtain rfl:=Oj d a;exact Gx 1 Z (Qq Z (Lr [0,1]))
  refine Gc 15 Z (Bd a λw g a=>Iz g Z (Go 1 Z (Cz [0,1] a (k_jq _ _ _) Z λx t a=>Go 2 Z (Cn Z a (λi a=>?_) (λi a=>?_)))))
  .refine Gc 9 Z (Qy a ?_);obtain rfl:=Oj d a;exact Gx 1 Z (Qu (Gx 1 Z (Rt h 4 [0,1])))
  exact Gc 7 Z (Qj a (Lr [0,1]))
 subst p;exact Gx 1 Z (Qd q (Gc 6 Z (Rt h 4 [0,1])))
def F_gk(n:Nat)(a:List Prize)(d:Course):Option Bool:=(F_hf n a d).bind λe=>some (decide (0<=e))
theorem k_gk(n:Nat)(a:List Prize)(d:Course):Ks (F_gk n a d) 196 [.rsl 4 (map Prize.c a),.fn (.func 197) [] [.ptr 0 0]] [.cells 222 [.fn (.func 126) [] [.ptr 1 0]],.cells 33 (Course.c d)] (λr=>.bool r):=by
 exact Kg 9 func196 Z Z Z Z λr h=>Cz [0,1] h (k_hf _ _ _) Z λf e h=>Go 5 Z (Rt h 4 [0,1])
def F_ck(n:Nat)(a:List Prize)(d:Course):Option Bool:=(F_gk n a d).bind λe=>some (!e)
theorem k_ck(n:Nat)(a:List Prize)(d:Course):Ks (F_ck n a d) 137 [.rsl 4 (map Prize.c a),.fn (.func 126) [] [.ptr 0 0]] [.cells 33 (Course.c d)] (λr=>.bool r):=by
 exact Kg 10 func137 Z Z Z Z λr h=>Cz [1,0] h (k_gk _ _ _) Z λf e h=>Go 5 Z (Rt h 4 [0])
def F_he(n:Nat)(a:Prize):Option Unit:=some ()
theorem k_he(n:Nat)(a:Prize):Kq (F_he n a) 139 [.agg (Prize.c a)] [] (λ_=>.agg [I a.Distance,I a.Category,I a.Rank]) (λ_=>[.cells 236 [I a.Distance,I a.Category,I a.Rank]]):=by
 refine Kg 19 func139 Z Z Z Z λr h=>?_;obtain rfl:=Oi h;exact Rx [1] [2] Z (Q3 Z (Qg isAgg236 sizeOf236 Z Z Z)) ⟨Z,Z⟩
def F_kj(n:Nat)(e:List Prize)(a:(List (Ug×Bool))×Int):Option (Ctl ((List (Ug×Bool))×Int) (List (Ug×Bool))):=(bif decide (a.2<(e.length:Int))then(idx e a.2).bind λd=>(F_he n d).bind λg=>(some (Yp a.1 ({distance:=d.Distance,category:=d.Category,rank:=d.Rank:Ug}) true)).bind λf=>some (.cont (f,i64.wrap (a.2+1)))else some (.done a.1))
def F_gp(n:Nat)(a:List Prize):Option Bool:=(iter (F_kj n a) n ([],0):Option (List (Ug×Bool))).bind λd=>some ((d.length:Int)==(a.length:Int))
theorem k_gp(n:Nat)(p:List Prize):Ks (F_gp n p) 138 [.rsl 4 (map Prize.c p),.fn (.func 139) [] []] [] (λr=>.bool r):=by
 refine Kg 7 func138 Z Z Z Z λr h=>?_;refine vH YH ?_;refine FE Z (Go 7 Z (Lm Z (Go 3 Z (Bd h λd q h=>?_))));refine Ct d [0] [0,5] Ze (λd=>[(0,.map (Q7 (λx=>A.agg (Ug.c x)) A.bool d))]) Zf ?_ (λenv H s=>?_)
 .refine G0 1 Z ?_;refine Lp [0] [0,1,5,9,10] (λe=>[(11,I e.2)]) (λe=>[(0,.map (Q7 (λx=>A.agg (Ug.c x)) A.bool e.1))]) q Zf (Lr [0]) λe u a g=>?_;refine G0 6 Z (Yk Z a (λi a=>?_) (λi a=>?_))
  .refine Gc 2 Z (Qk a ?_);obtain rfl:=Oj g a;exact Gx 1 Z (QF (Lr [0]))
  refine Gc 6 Z (Bd a λf j a=>Iz j Z (Go 9 Z (Cd [] a (k_he _ _) Z λw t a=>FE Z (Bd a λy m a=>?_))));refine vU (Y8 (ev:=A.bool) (k:=({distance:=f.Distance,category:=f.Category,rank:=f.Rank:Ug})) (v:=true) (l:=e.1) Qol m Z underlying273) ?_;exact FE Z (Go 7 Z (Qj a (Lr [0])))
 refine Gx 1 Z (Qd s (Gc 3 Z ?_));refine vX (I (d.length:Int)) (QcX (l:=d) underlying273 Z) ?_;exact Go 1 Z (Lm Z (Go 5 Z (Rt h 4 [])))
def F_cw(n:Nat)(a:Course):Option Bool:=((F_df n a.Mats).bind λd=>(bif d then(F_dc n a.Legs (i64.wrap ((a.Mats.length:Int)-1))).bind λe=>(bif e then(F_hb n a.Legs).bind λf=>(bif f then(F_do n a.Distances (i64.wrap ((a.Mats.length:Int)-1))).bind λg=>(bif g then(F_dh n a.Waves).bind λh=>(bif h then(F_da n a.Offences).bind λi=>(bif i then(F_cn n a.Categories).bind λj=>(bif j then(F_ck n a.Prizes a).bind λk=>(bif k then(F_gp n a.Prizes).bind λl=>(bif l then(F_a n 0 16 [a.Faults.Misses,a.Faults.Strays]).bind λm=>(bif m then(F_a n 0 4294967296 [a.Faults.Window,a.Faults.Residual]).bind λp=>(bif p then(F_a n 0 100000 [a.Faults.Drift]).bind λq=>(bif q then(F_a n 0 1125899906842624 [a.Fee]).bind λr=>(bif r then(F_a n 0 1099511627776 [a.Deadline]).bind λs=>some s else some false)else some false)else some false)else some false)else some false)else some false)else some false)else some false)else some false)else some false)else some false)else some false)else some false):Option Bool).bind λt=>some t
theorem k_cw(n:Nat)(d:Course):Ks (F_cw n d) 70 [.agg (Course.c d)] [] (λr=>.bool r):=by
 refine Kg 10 func70 Z Z Z Z λr h=>Lm Z (Go 55 Z (Bd h λe a h=>?_));refine Ct e [] [] (λe=>[(2,.bool e)]) Ze Zf ?_ (λenv H x=>?_)
 .refine G0 3 Z (Cz [] a (k_df _ _) Z λT y a=>Go 1 Z (Is 25 a Z (λf a=>?_) (λf a=>?_)))
  .refine Go 3 Z (Cd [1] a (k_dc _ _ _) Z λV z a=>FE Z (Go 2 Z (Is 31 a Z (λg a=>?_) (λg a=>?_))))
   .refine Go 2 Z (Cz [] a (k_hb _ _) Z λW B a=>Go 2 Z (Is 36 a Z (λi a=>?_) (λi a=>?_)))
    .refine Go 3 Z (Cz [1,2,3] a (k_do _ _ _) Z λX E a=>Go 2 Z (Is 42 a Z (λj a=>?_) (λj a=>?_)))
     .refine Go 2 Z (Cz [] a (k_dh _ _) Z λY F a=>Go 2 Z (Is 47 a Z (λk a=>?_) (λk a=>?_)))
      .refine Go 3 Z (Cz [] a (k_da _ _) Z λaa G a=>Go 2 Z (Is 53 a Z (λl a=>?_) (λl a=>?_)))
       .refine Go 2 Z (Cz [] a (k_cn _ _) Z λab J a=>Go 2 Z (Is 58 a Z (λm a=>?_) (λm a=>?_)))
        .refine Go 3 Z (Cz [0] a (k_ck _ _ _) Z λac L a=>Go 2 Z (Is 64 a Z (λp a=>?_) (λp a=>?_)))
         .refine Go 2 Z (Cz [] a (k_gp _ _) Z λad M a=>Go 2 Z (Is 69 a Z (λq a=>?_) (λq a=>?_)))
          .refine Go 4 Z ?_;refine vH (Ek (xs:=[.tmp 71,.tmp 73]) (es:=map (Qf .i64) [d.Faults.Misses,d.Faults.Strays]) Qz Z Z Z Z Z ⟨Z,Z,trivial⟩ Z Z) ?_ (gT Z);refine FE Z (Cb a (k_a _ _ _ _) Z (ls (ls (lo ln))) λae N a=>Go 2 Z (Is 77 a Z (λs a=>?_) (λs a=>?_)))
           .refine Go 4 Z ?_;refine vH (Ek (xs:=[.tmp 79,.tmp 81]) (es:=map (Qf .i64) [d.Faults.Window,d.Faults.Residual]) Qz Z Z Z Z Z ⟨Z,Z,trivial⟩ Z Z) ?_ (gT Z);refine FE Z (Cb a (k_a _ _ _ _) Z (ls (ls (lo ln))) λaf O a=>Go 2 Z (Is 85 a Z (λt a=>?_) (λt a=>?_)))
            .refine Go 2 Z ?_;refine vH (Ek (xs:=[.tmp 87]) (es:=map (Qf .i64) [d.Faults.Drift]) Qz Z Z Z Z Z ⟨Z,trivial⟩ Z Z) ?_ (gT Z);refine FE Z (Cb a (k_a _ _ _ _) Z (ls (ls (lo ln))) λag P a=>Go 2 Z (Is 91 a Z (λu a=>?_) (λu a=>?_)))
             .refine Go 2 Z ?_;refine vH (Ek (xs:=[.tmp 93]) (es:=map (Qf .i64) [d.Fee]) Qz Z Z Z Z Z ⟨Z,trivial⟩ Z Z) ?_ (gT Z);refine FE Z (Cb a (k_a _ _ _ _) Z (ls (ls (lo ln))) λah Q a=>Go 2 Z (Is 97 a Z (λw a=>?_) (λw a=>?_)))
              .refine Go 2 Z ?_;refine vH (Ek (xs:=[.tmp 99]) (es:=map (Qf .i64) [d.Deadline]) Qz Z Z Z Z Z ⟨Z,trivial⟩ Z Z) ?_ (gT Z);exact FE Z (Cb a (k_a _ _ _ _) Z (ls (ls (lo ln))) λai R a=>Go 3 Z (Cl a []))
              .exact Go 7 Z (Cl a [])
             .exact Go 13 Z (Cl a [])
            .exact Go 19 Z (Cl a [])
           .exact Go 27 Z (Cl a [])
          .exact Go 35 Z (Cl a [])
         .exact Go 40 Z (Cl a [])
        .exact Go 46 Z (Cl a [])
       .exact Go 51 Z (Cl a [])
      .exact Go 57 Z (Cl a [])
     .exact Go 62 Z (Cl a [])
    .exact Go 68 Z (Cl a [])
   .exact Go 73 Z (Cl a [])
  .exact Go 79 Z (Cl a [])
 exact Gx 1 Z (Qd x (Gc 1 Z (Rt h 2 [])))
def F_lx(n:Nat)(d:List Step)(a:(List Uf)×Int):Option (Ctl ((List Uf)×Int) (List Uf)):=(bif decide (a.2<(d.length:Int))then(idx d a.2).bind λe=>(app a.1 [Uf.ctyping_step ({Step:=e:Uh})]).bind λf=>some (.cont (f,i64.wrap (a.2+1)))else some (.done a.1))
def F_be(n:Nat)(a:List Step):Option (List Uf):=(iter (F_lx n a) n ([],0):Option (List Uf)).bind λd=>some d
theorem k_be(n:Nat)(u:List Step):Kq (F_be n u) 141 [.rsl 8 (map Step.enc u)] [] (λr=>.osl 0 0 r.length 1) (λr=>[.row 280 1 (map Uf.enc r)]):=by
 refine Kg 9 func141 Z Z Z Z λr h=>Lm Z (Go 3 Z (Bd h λf x h=>?_));refine Ct f [0] [] (λf=>[(2,.osl 0 0 f.length 1)]) (λf=>[(0,.row 280 1 (map Uf.enc f))]) Zf ?_ (λenv H w=>?_)
 .refine G0 1 Z ?_;refine Lp [0] [5,6] (λd=>[(2,.osl 0 0 d.1.length 1),(7,I d.2)]) (λd=>[(0,.row 280 1 (map Uf.enc d.1))]) x Zf ?_ ?_
  .refine En (Er (s:=2) (k:=1) (t:=280) (XQ Z) Z) ?_;exact Lr [0]
  intro d y a j;refine G0 6 Z (Yk Z a (λl a=>?_) (λl a=>?_))
  .refine Gc 2 Z (Qk a ?_);obtain rfl:=Oj j a;exact Gx 1 Z (QF (Lr [0]))
  refine Gc 6 Z (Bd a λg p a=>IzE p (YM g) Z (Go 9 Z ?_));refine vX (.iface 283 (.agg (Uh.c ({Step:=g:Uh})))) (Qak Z Gk (by intro m;nofun) Z) ?_;refine vH (Ek (xs:=[.tmp 14]) (es:=map Uf.enc [Uf.ctyping_step ({Step:=g:Uh})]) QcV Z Z Z Z Z ⟨Z,trivial⟩ Z Z) ?_;refine FE Z (Bd a λz q a=>?_);refine vH (Qp (e:=Uf.enc) q QcV E9 (QU (i:=2))) ?_;exact FE Z (Go 8 Z (Qj a (Lr [3])))
 exact Gx 1 Z (Qd w (Gc 7 Z (Rt h 2 [0])))
def F_bc(n:Nat)(a:Uc):Option Bool:=((bif (a.Cond.Kind==0)then(bif (a.Cond.Var==0)then(bif (a.Cond.N==0)then some ((a.Cond.Parts.length:Int)==0)else some false)else some false)else some false):Option Bool).bind λd=>some d
theorem k_bc(n:Nat)(e:Uc):Ks (F_bc n e) 249 [.agg (Uc.c ({Cond:=e.Cond:Uc}))] [] (λr=>.bool r):=by
 refine Kg 7 func249 Z Z Z Z λr h=>Bd h λd a h=>?_;refine Ct d [] [] (λd=>[(2,.bool d)]) Ze Zf ?_ (λenv H f=>?_)
 .refine G0 6 Z (Is 7 a Z (λg a=>?_) (λg a=>?_))
  .refine Go 6 Z (Is 13 a Z (λi a=>?_) (λi a=>?_))
   .refine Go 6 Z (Is 19 a Z (λj a=>?_) (λj a=>?_))
    .exact Go 3 Z (Lm Z (Go 4 Z (Cl a [])))
    .exact Go 8 Z (Cl a [])
   .exact Go 14 Z (Cl a [])
  .exact Go 20 Z (Cl a [])
 exact Gx 1 Z (Qd f (Gc 1 Z (Rt h 2 [])))
def F_ax(n:Nat)(a:Uh):Option (List Uf):=(F_be n a.Step.Then).bind λd=>(F_be n a.Step.Else).bind λe=>(app d e).bind λf=>some f
theorem k_ax(n:Nat)(a:Uh):Kq (F_ax n a) 270 [.agg (Uh.c a)] [] (λr=>.osl 0 0 r.length 1) (λr=>[.row 280 1 (map Uf.enc r)]):=by
 refine Kg 7 func270 Z Z Z Z λr h=>DAs 7 3 [0,0,0,1,3,3,3] (by kernel_rfl) (Da 3 Z ?_);obtain⟨d,f,h⟩:=Yl h;refine DA.op (x:=.osl 1 0 d.length 1) (H1:=[.cells 283 (Uh.c a),.row 280 1 (map Uf.enc d)]) ?_ ?_
 .refine Qo [] (OpC.fn call141 Z Z Z) (k_be _ _ _ f) ?_;rintro _ _ ⟨rfl,rfl⟩;exact FE Z Wp
 refine Db 2 Z ?_;refine DB.wo2 (x:=.rsl 8 (map Step.enc a.Step.Else)) (Ld isAgg29 Z Wp) (Ld isAgg29 Z Wp) ?_;refine DB.done Z (Cd [] h (k_be _ _) Z λk j h=>FE Z (Bd h λl g h=>?_));refine vH (Qp (e:=Uf.enc) g QcV E9 (QU (i:=2))) ?_;exact FE Z (Go 4 Z (Rt h 2 [3]))
def F_ky(n:Nat)(d:List Cond)(a:(List Uf)×Int):Option (Ctl ((List Uf)×Int) (List Uf)):=(bif decide (a.2<(d.length:Int))then(idx d a.2).bind λe=>(app a.1 [Uf.ctyping_cond ({Cond:=e:Uc})]).bind λf=>some (.cont (f,i64.wrap (a.2+1)))else some (.done a.1))
def F_ev(n:Nat)(a:List Cond):Option (List Uf):=(iter (F_ky n a) n ([],0):Option (List Uf)).bind λd=>some d
theorem k_ev(n:Nat)(u:List Cond):Kq (F_ev n u) 283 [.rsl 4 (map Cond.enc u)] [] (λr=>.osl 0 0 r.length 1) (λr=>[.row 280 1 (map Uf.enc r)]):=by
 refine Kg 9 func283 Z Z Z Z λr h=>Lm Z (Go 3 Z (Bd h λf x h=>?_));refine Ct f [0] [] (λf=>[(2,.osl 0 0 f.length 1)]) (λf=>[(0,.row 280 1 (map Uf.enc f))]) Zf ?_ (λenv H w=>?_)
 .refine G0 1 Z ?_;refine Lp [0] [5,6] (λd=>[(2,.osl 0 0 d.1.length 1),(7,I d.2)]) (λd=>[(0,.row 280 1 (map Uf.enc d.1))]) x Zf ?_ ?_
  .refine En (Er (s:=2) (k:=1) (t:=280) (XQ Z) Z) ?_;exact Lr [0]
  intro d y a j;refine G0 6 Z (Yk Z a (λl a=>?_) (λl a=>?_))
  .refine Gc 2 Z (Qk a ?_);obtain rfl:=Oj j a;exact Gx 1 Z (QF (Lr [0]))
  refine Gc 6 Z (Bd a λg p a=>IzE p (Qal g) Z (Go 9 Z ?_));refine vX (.iface 333 (.agg (Uc.c ({Cond:=g:Uc})))) (Qak Z EK (by intro m;nofun) Z) ?_;refine vH (Ek (xs:=[.tmp 14]) (es:=map Uf.enc [Uf.ctyping_cond ({Cond:=g:Uc})]) QcV Z Z Z Z Z ⟨Z,trivial⟩ Z Z) ?_;refine FE Z (Bd a λz q a=>?_);refine vH (Qp (e:=Uf.enc) q QcV E9 (QU (i:=2))) ?_;exact FE Z (Go 8 Z (Qj a (Lr [3])))
 exact Gx 1 Z (Qd w (Gc 7 Z (Rt h 2 [0])))
def F_ao(n:Nat)(a:Uc):Option (List Uf):=(F_ev n a.Cond.Parts).bind λd=>some d
theorem k_ao(n:Nat)(a:Uc):Kq (F_ao n a) 269 [.agg (Uc.c ({Cond:=a.Cond:Uc}))] [] (λr=>.osl 0 0 r.length 1) (λr=>[.row 280 1 (map Uf.enc r)]):=by
 exact Kg 11 func269 Z Z Z Z λr h=>Cd [] h (k_ev _ _) Z λe d h=>FE Z (Go 4 Z (Rt h 2 [1]))
def F_eg(n:Nat)(m:List Uf)(p:Int)(rec90:(List Uf)->Int->Ud->Option (Ud×Bool))(a:Ud×Int):Option (Ctl (Ud×Int) (Ctl Ud (Ud×Bool))):=(bif decide (a.2<(m.length:Int))then(idx m a.2).bind λq=>Uf.elim q (λg=>((F_bc n ({Cond:=g.Step.Cond:Uc})).bind λr=>(bif (!r)then(rec90 [Uf.ctyping_cond ({Cond:=g.Step.Cond:Uc})] 0 ({steps:=i64.wrap (a.1.steps+1),conds:=a.1.conds:Ud})).bind λh=>some (h.1,(!h.2))else some ({steps:=i64.wrap (a.1.steps+1),conds:=a.1.conds:Ud},false)):Option (Ud×Bool)).bind λd=>(bif d.2 then some (.done (.done (d.1,false)))else((bif decide (64<d.1.steps)then some (d.1,true)else(bif decide (256<d.1.conds)then some (d.1,true)else(F_ax n g).bind λk=>(rec90 k (i64.wrap (p+1)) d.1).bind λi=>some (i.1,(!i.2)))):Option (Ud×Bool)).bind λe=>(bif e.2 then some (.done (.done (e.1,false)))else some (.cont (e.1,i64.wrap (a.2+1)))))) (λs=>((bif decide (64<a.1.steps)then some ({steps:=a.1.steps,conds:=i64.wrap (a.1.conds+1):Ud},true)else(bif decide (256<(i64.wrap (a.1.conds+1)))then some ({steps:=a.1.steps,conds:=i64.wrap (a.1.conds+1):Ud},true)else(F_ao n ({Cond:=s.Cond:Uc})).bind λl=>(rec90 l (i64.wrap (p+1)) ({steps:=a.1.steps,conds:=i64.wrap (a.1.conds+1):Ud})).bind λj=>some (j.1,(!j.2)))):Option (Ud×Bool)).bind λf=>(bif f.2 then some (.done (.done (f.1,false)))else some (.cont (f.1,i64.wrap (a.2+1)))))else some (.done (.cont a.1)))
def B_g(rec90:(List Uf)->Int->Ud->Option (Ud×Bool))(n:Nat)(d:List Uf)(e:Int)(f:Ud):Option (Ud×Bool):=((bif decide (0<(d.length:Int))then some (decide (16<e))else some false):Option Bool).bind λb2=>(bif b2 then some (f,false)else(iter (F_eg n d e rec90) n (f,0):Option (Ctl Ud (Ud×Bool))).bind λg=>match g with|.cont a=>(some (a,true))|.done a=>some a)
theorem Qav(rec90:(List Uf)->Int->Ud->Option (Ud×Bool))(i:∀(p:List Uf) (x:Int) (y:Ud) (r:Ud×Bool),rec90 p x y=some r->C prog 198 [.ptr 0 0,.osl 1 0 p.length 1,I x] [.cells 276 (Ud.c y),.row 280 1 (map Uf.enc p)] (RQ (λr=>.bool r.2) (λr=>[.cells 276 (Ud.c r.1),.row 280 1 (map Uf.enc p)]) r))(n:Nat)(p:List Uf)(x:Int)(y:Ud)(r:Ud×Bool)(h:B_g rec90 n p x y=some r):C prog 198 [.ptr 0 0,.osl 1 0 p.length 1,I x] [.cells 276 (Ud.c y),.row 280 1 (map Uf.enc p)] (RQ (λr=>.bool r.2) (λr=>[.cells 276 (Ud.c r.1),.row 280 1 (map Uf.enc p)]) r):=by
 refine QO func198 Z Z Z ?_;refine G0 7 Z (Bd h λb2 B h=>?_);refine Ct b2 [0,1] [0,1,2] (λb2=>[(18,.bool b2)]) Ze Zf ?_ (λenv H f=>?_)
 .refine G0 5 Z (Is 15 B Z (λX B=>?_) (λX B=>?_))
  iterate 2 exact Go 4 Z (Cl B [0,1])
 refine Gx 1 Z (Qd f (Cn Z h (λY h=>?_) (λY h=>?_)))
 .exact Gc 7 Z (Rt h 6 [0,1])
 refine Gc 10 Z (Bd h λaa ab h=>?_);refine Jk (b:=aa) [0,1] [] Ze (λE=>[(0,.cells 276 (Ud.c E))]) Zf ?_ (λE env H ac f=>?_)
 .refine G0 1 Z ?_;refine Lp [0,1] [0,2,19,20] (λt=>[(21,I t.2)]) (λt=>[(0,.cells 276 (Ud.c t.1))]) ab Zf (Lr [0,1]) λt am a q=>?_;refine G0 6 Z (Yk Z a (λV a=>?_) (λV a=>?_))
  .refine Gc 2 Z (Qk a ?_);obtain rfl:=Oj q a;exact Gx 1 Z (Qq Z (Lr [0,1]))
  refine Gc 6 Z (Bd a λT F a=>?_);refine vX (.ptr 1 (toNat t.2*1)) (Qv F Z E9 sizeOf280) ?_;refine vX (Uf.val T) (Ey Z isAgg280 Z (Qm F)) ?_;refine Go 12 Z ?_;rcases JE T with⟨l,hE90⟩|⟨w,hE92⟩
  .have a:=Jt hE90 a;refine QG (QC (s:=8) (a':=.iface 283 (.agg (Uh.c l))) Z (congrArg Uf.val hE90)) ?_;refine QG (QC (s:=24) (a':=.iface 283 (.agg (Uh.c l))) Z (congrArg Uf.val hE90)) ?_;refine QG (QC (s:=25) (a':=.iface 283 (.agg (Uh.c l))) Z (congrArg Uf.val hE90)) ?_;refine vX (.tup [.agg [I 0,I 0,I 0,.rsl 4 (map Cond.enc [])],.bool false]) (Qh0 (z:=(.agg [I 0,I 0,I 0,.rsl 4 (map Cond.enc [])])) EK (by intro m;nofun) Z GF (zrC Z)) ?_;refine Go 7 Z ?_;refine vX (.tup [.agg (Uh.c l),.bool true]) (QbB Gk (by intro m;nofun)) ?_;refine Go 34 Z (Bd a λu g a=>?_);refine Ct u [0,1] [0,2,8,19,20,21] (λu=>[(60,.bool u.2)]) (λu=>[(0,.cells 276 (Ud.c u.1))]) Zf ?_ (λenv H f=>?_)
   .refine G0 2 Z (Cz [] g (k_bc _ _) Z λan ag g=>Go 2 Z (Is 53 g Z (λW g=>?_) (λW g=>?_)))
    .refine Go 2 Z ?_;refine vX (.iface 333 (.agg (Uc.c ({Cond:=l.Step.Cond:Uc})))) (Qak Z EK (by intro m;nofun) Z) ?_ (gT Z);refine vH (Ek (xs:=[.tmp 56]) (es:=map Uf.enc [Uf.ctyping_cond ({Cond:=l.Step.Cond:Uc})]) QcV Z Z Z Z Z ⟨Z,trivial⟩ Z Z) ?_ (gT Z);exact FE Z (Cd [0,4] g (i _ _ _) Z λah ad g=>FE Z (Go 3 Z (Cl g [0,1])))
    .exact Go 8 Z (Cl g [0,1])
   refine Gx 1 Z (Qd f (Cn Z a (λG a=>?_) (λG a=>?_)))
   .refine Gc 10 Z (Qy a ?_);obtain rfl:=Oj q a;exact Gx 1 Z (Qu (Gx 1 Z (Rt h 6 [0,1])))
   refine Gc 4 Z (Bd a λj d a=>?_);refine Ct j [0,1] [0,2,19,20,21] (λj=>[(81,.bool j.2)]) (λj=>[(0,.cells 276 (Ud.c j.1))]) Zf ?_ (λenv H f=>?_)
   .refine G0 7 Z (Is 66 d Z (λJ d=>?_) (λJ d=>?_))
    .exact Go 16 Z (Cl d [0,1])
    .refine Go 7 Z (Is 73 d Z (λL d=>?_) (λL d=>?_))
     .exact Go 9 Z (Cl d [0,1])
     .refine Go 2 Z (Bd d λai M d=>?_);refine Qo [] (Qe4 call270 Z Z Z Z (λ_ _=>by kernel_rfl)) (k_ax _ _ _ M) ?_ (hg:=(gT Z));rintro _ _ ⟨rfl,rfl⟩;exact FE Z (Go 2 Z (Cd [0,2] d (i _ _ _) Z λaj ae d=>FE Z (Go 3 Z (Cl d [0,1]))))
   refine Gx 1 Z (Qd f (Cn Z a (λN a=>?_) (λN a=>?_)))
   .refine Gc 8 Z (Qy a ?_);obtain rfl:=Oj q a;exact Gx 1 Z (Qu (Gx 1 Z (Rt h 6 [0,1])))
   exact Gc 7 Z (Qj a (Lr [0,1]))
  .have a:=Js hE92 a;refine QG (QC (s:=8) (a':=.iface 333 (.agg (Uc.c ({Cond:=w.Cond:Uc})))) Z (congrArg Uf.val hE92)) ?_;refine QG (QC (s:=24) (a':=.iface 333 (.agg (Uc.c ({Cond:=w.Cond:Uc})))) Z (congrArg Uf.val hE92)) ?_;refine QG (QC (s:=25) (a':=.iface 333 (.agg (Uc.c ({Cond:=w.Cond:Uc})))) Z (congrArg Uf.val hE92)) ?_;refine vX (.tup [.agg (Uc.c ({Cond:=w.Cond:Uc})),.bool true]) (QbB EK (by intro m;nofun)) ?_;refine Go 24 Z (Bd a λk e a=>?_);refine Ct k [0,1] [0,2,19,20,21] (λk=>[(81,.bool k.2)]) (λk=>[(0,.cells 276 (Ud.c k.1))]) Zf ?_ (λenv H f=>?_)
   .refine G0 7 Z (Is 66 e Z (λO e=>?_) (λO e=>?_))
    .exact Go 16 Z (Cl e [0,1])
    .refine Go 7 Z (Is 73 e Z (λP e=>?_) (λP e=>?_))
     .exact Go 9 Z (Cl e [0,1])
     .refine Go 2 Z (Bd e λak Q e=>?_);refine Qo [] (Qe4 call269 Z Z Z Z (λ_ _=>by kernel_rfl)) (k_ao _ _ _ Q) ?_ (hg:=(gT Z));rintro _ _ ⟨rfl,rfl⟩;exact FE Z (Go 2 Z (Cd [0,3] e (i _ _ _) Z λal af e=>FE Z (Go 3 Z (Cl e [0,1]))))
   refine Gx 1 Z (Qd f (Cn Z a (λR a=>?_) (λR a=>?_)))
   .refine Gc 8 Z (Qy a ?_);obtain rfl:=Oj q a;exact Gx 1 Z (Qu (Gx 1 Z (Rt h 6 [0,1])))
   exact Gc 7 Z (Qj a (Lr [0,1]))
 subst ac;exact Gx 1 Z (Qd f (Gc 6 Z (Rt h 6 [0,1])))
def F_g:Nat->(List Uf)->Int->Ud->Option (Ud×Bool)
  |0=>λ_ _ _=>none
  |n+1=>B_g (F_g n) n
theorem k_g(n:Nat):∀(a:List Uf) (d:Int) (e:Ud) (r:Ud×Bool),F_g n a d e=some r->C prog 198 [.ptr 0 0,.osl 1 0 a.length 1,I d] [.cells 276 (Ud.c e),.row 280 1 (map Uf.enc a)] (RQ (λr=>.bool r.2) (λr=>[.cells 276 (Ud.c r.1),.row 280 1 (map Uf.enc a)]) r):=by
  induction n with
  |zero=>intro a d e r h;cases h
  |succ n ih=>intro a d e r h;exact Qav _ ih n a d e r h
def F_mb(n:Nat)(m:List Uf)(p:Int)(a:Ud×Int):Option (Ctl (Ud×Int) (Ctl Ud (Ud×Bool))):=(bif decide (a.2<(m.length:Int))then(idx m a.2).bind λq=>Uf.elim q (λg=>((F_bc n ({Cond:=g.Step.Cond:Uc})).bind λr=>(bif (!r)then(F_g n [Uf.ctyping_cond ({Cond:=g.Step.Cond:Uc})] 0 ({steps:=i64.wrap (a.1.steps+1),conds:=a.1.conds:Ud})).bind λh=>some (h.1,(!h.2))else some ({steps:=i64.wrap (a.1.steps+1),conds:=a.1.conds:Ud},false)):Option (Ud×Bool)).bind λd=>(bif d.2 then some (.done (.done (d.1,false)))else((bif decide (64<d.1.steps)then some (d.1,true)else(bif decide (256<d.1.conds)then some (d.1,true)else(F_ax n g).bind λk=>(F_g n k (i64.wrap (p+1)) d.1).bind λi=>some (i.1,(!i.2)))):Option (Ud×Bool)).bind λe=>(bif e.2 then some (.done (.done (e.1,false)))else some (.cont (e.1,i64.wrap (a.2+1)))))) (λs=>((bif decide (64<a.1.steps)then some ({steps:=a.1.steps,conds:=i64.wrap (a.1.conds+1):Ud},true)else(bif decide (256<(i64.wrap (a.1.conds+1)))then some ({steps:=a.1.steps,conds:=i64.wrap (a.1.conds+1):Ud},true)else(F_ao n ({Cond:=s.Cond:Uc})).bind λl=>(F_g n l (i64.wrap (p+1)) ({steps:=a.1.steps,conds:=i64.wrap (a.1.conds+1):Ud})).bind λj=>some (j.1,(!j.2)))):Option (Ud×Bool)).bind λf=>(bif f.2 then some (.done (.done (f.1,false)))else some (.cont (f.1,i64.wrap (a.2+1)))))else some (.done (.cont a.1)))
def F_im(n:Nat)(d:List Uf)(e:Int)(f:Ud):Option (Ud×Bool):=((bif decide (0<(d.length:Int))then some (decide (16<e))else some false):Option Bool).bind λb2=>(bif b2 then some (f,false)else(iter (F_mb n d e) n (f,0):Option (Ctl Ud (Ud×Bool))).bind λg=>match g with|.cont a=>(some (a,true))|.done a=>some a)
theorem k_im(n:Nat)(Q:List Uf)(R:Int)(T:Ud):Kq (F_im n Q R T) 198 [.ptr 0 0,.rsl 1 (map Uf.enc Q),I R] [.cells 276 (Ud.c T)] (λr=>.bool r.2) (λr=>[.cells 276 (Ud.c r.1)]):=by
 refine Kg 7 func198 Z Z Z Z λr h=>Bd h λb2 u h=>?_;refine Ct b2 [0] [0,1,2] (λb2=>[(18,.bool b2)]) Ze Zf ?_ (λenv H f=>?_)
 .refine G0 2 Z (Lm Z (Go 2 Z (Is 15 u Z (λV u=>?_) (λV u=>?_))))
  iterate 2 exact Go 4 Z (Cl u [0])
 refine Gx 1 Z (Qd f (Cn Z h (λW h=>?_) (λW h=>?_)))
 .exact Gc 7 Z (Rt h 6 [0])
 refine Gc 6 Z (Lm Z (Go 3 Z (Bd h λX Y h=>?_)));refine Jk (b:=X) [0] [] Ze (λw=>[(0,.cells 276 (Ud.c w))]) Zf ?_ (λw env H aa f=>?_)
 .refine G0 1 Z ?_;refine Lp [0] [0,2,19,20] (λq=>[(21,I q.2)]) (λq=>[(0,.cells 276 (Ud.c q.1))]) Y Zf (Lr [0]) λq al a l=>?_;refine G0 6 Z (Yk Z a (λN a=>?_) (λN a=>?_))
  .refine Gc 2 Z (Qk a ?_);obtain rfl:=Oj l a;exact Gx 1 Z (Qq Z (Lr [0]))
  refine Gc 6 Z (Bd a λab O a=>Iz O Z (Go 13 Z ?_));rcases JE ab with⟨k,hE90⟩|⟨t,hE92⟩
  .have a:=Jt hE90 a;refine QG (QC (s:=8) (a':=.iface 283 (.agg (Uh.c k))) Z (congrArg Uf.val hE90)) ?_;refine QG (QC (s:=24) (a':=.iface 283 (.agg (Uh.c k))) Z (congrArg Uf.val hE90)) ?_;refine QG (QC (s:=25) (a':=.iface 283 (.agg (Uh.c k))) Z (congrArg Uf.val hE90)) ?_;refine vX (.tup [.agg [I 0,I 0,I 0,.rsl 4 (map Cond.enc [])],.bool false]) (Qh0 (z:=(.agg [I 0,I 0,I 0,.rsl 4 (map Cond.enc [])])) EK (by intro m;nofun) Z GF (zrC Z)) ?_;refine Go 7 Z ?_;refine vX (.tup [.agg (Uh.c k),.bool true]) (QbB Gk (by intro m;nofun)) ?_;refine Go 34 Z (Bd a λp g a=>?_);refine Ct p [0] [0,2,8,19,20,21] (λp=>[(60,.bool p.2)]) (λp=>[(0,.cells 276 (Ud.c p.1))]) Zf ?_ (λenv H f=>?_)
   .refine G0 2 Z (Cz [] g (k_bc _ _) Z λam af g=>Go 2 Z (Is 53 g Z (λP g=>?_) (λP g=>?_)))
    .refine Go 2 Z ?_;refine vX (.iface 333 (.agg (Uc.c ({Cond:=k.Step.Cond:Uc})))) (Qak Z EK (by intro m;nofun) Z) ?_ (gT Z);refine vH (Ek (xs:=[.tmp 56]) (es:=map Uf.enc [Uf.ctyping_cond ({Cond:=k.Step.Cond:Uc})]) QcV Z Z Z Z Z ⟨Z,trivial⟩ Z Z) ?_ (gT Z);exact FE Z (Cd [0,3] g (k_g _ _ _ _) Z λag ac g=>FE Z (Go 3 Z (Cl g [0])))
    .exact Go 8 Z (Cl g [0])
   refine Gx 1 Z (Qd f (Cn Z a (λx a=>?_) (λx a=>?_)))
   .refine Gc 10 Z (Qy a ?_);obtain rfl:=Oj l a;exact Gx 1 Z (Qu (Gx 1 Z (Rt h 6 [0])))
   refine Gc 4 Z (Bd a λi d a=>?_);refine Ct i [0] [0,2,19,20,21] (λi=>[(81,.bool i.2)]) (λi=>[(0,.cells 276 (Ud.c i.1))]) Zf ?_ (λenv H f=>?_)
   .refine G0 7 Z (Is 66 d Z (λy d=>?_) (λy d=>?_))
    .exact Go 16 Z (Cl d [0])
    .refine Go 7 Z (Is 73 d Z (λB d=>?_) (λB d=>?_))
     .exact Go 9 Z (Cl d [0])
     .refine Go 2 Z (Bd d λah E d=>?_);refine Qo [] (Qe4 call270 Z Z Z Z (λ_ _=>by kernel_rfl)) (k_ax _ _ _ E) ?_ (hg:=(gT Z));rintro _ _ ⟨rfl,rfl⟩;exact FE Z (Go 2 Z (Cd [0,1] d (k_g _ _ _ _) Z λai ad d=>FE Z (Go 3 Z (Cl d [0]))))
   refine Gx 1 Z (Qd f (Cn Z a (λF a=>?_) (λF a=>?_)))
   .refine Gc 8 Z (Qy a ?_);obtain rfl:=Oj l a;exact Gx 1 Z (Qu (Gx 1 Z (Rt h 6 [0])))
   exact Gc 7 Z (Qj a (Lr [0]))
  .have a:=Js hE92 a;refine QG (QC (s:=8) (a':=.iface 333 (.agg (Uc.c ({Cond:=t.Cond:Uc})))) Z (congrArg Uf.val hE92)) ?_;refine QG (QC (s:=24) (a':=.iface 333 (.agg (Uc.c ({Cond:=t.Cond:Uc})))) Z (congrArg Uf.val hE92)) ?_;refine QG (QC (s:=25) (a':=.iface 333 (.agg (Uc.c ({Cond:=t.Cond:Uc})))) Z (congrArg Uf.val hE92)) ?_;refine vX (.tup [.agg (Uc.c ({Cond:=t.Cond:Uc})),.bool true]) (QbB EK (by intro m;nofun)) ?_;refine Go 24 Z (Bd a λj e a=>?_);refine Ct j [0] [0,2,19,20,21] (λj=>[(81,.bool j.2)]) (λj=>[(0,.cells 276 (Ud.c j.1))]) Zf ?_ (λenv H f=>?_)
   .refine G0 7 Z (Is 66 e Z (λG e=>?_) (λG e=>?_))
    .exact Go 16 Z (Cl e [0])
    .refine Go 7 Z (Is 73 e Z (λJ e=>?_) (λJ e=>?_))
     .exact Go 9 Z (Cl e [0])
     .refine Go 2 Z (Bd e λaj L e=>?_);refine Qo [] (Qe4 call269 Z Z Z Z (λ_ _=>by kernel_rfl)) (k_ao _ _ _ L) ?_ (hg:=(gT Z));rintro _ _ ⟨rfl,rfl⟩;exact FE Z (Go 2 Z (Cd [0,2] e (k_g _ _ _ _) Z λak ae e=>FE Z (Go 3 Z (Cl e [0]))))
   refine Gx 1 Z (Qd f (Cn Z a (λM a=>?_) (λM a=>?_)))
   .refine Gc 8 Z (Qy a ?_);obtain rfl:=Oj l a;exact Gx 1 Z (Qu (Gx 1 Z (Rt h 6 [0])))
   exact Gc 7 Z (Qj a (Lr [0]))
 subst aa;exact Gx 1 Z (Qd f (Gc 6 Z (Rt h 6 [0])))
def F_gm(rec94:(List Uf)->Option Bool)(n:Nat)(a:Uc):Option Bool:=((bif (a.Cond.Var==0)then some (a.Cond.N==0)else some false):Option Bool).bind λb2=>(bif (a.Cond.Kind==1)then((F_a n 1 3 [a.Cond.Var]).bind λe=>(bif e then(F_a n 0 10000 [a.Cond.N]).bind λf=>(bif f then some ((a.Cond.Parts.length:Int)==0)else some false)else some false):Option Bool).bind λg=>some g else((bif (a.Cond.Kind==4)then(bif b2 then some (.cont ((a.Cond.Parts.length:Int)==1))else some (.cont false))else((bif (a.Cond.Kind==2)then some (a.Cond.Kind==2)else some (a.Cond.Kind==3)):Option Bool).bind λh=>(bif h then(bif b2 then(bif decide (0<(a.Cond.Parts.length:Int))then some (.cont (decide ((a.Cond.Parts.length:Int)<=16)))else some (.cont false))else some (.cont false))else some (.done false))):Option (Ctl Bool Bool)).bind λi=>match i with|.cont d=>(((bif d then(F_ao n ({Cond:=a.Cond:Uc})).bind λj=>(rec94 j).bind λk=>some (!k)else some false):Option Bool).bind λl=>some l)|.done d=>some d)
theorem k_gm(rec94:(List Uf)->Option Bool)(j:∀(g:List Uf) (r:Bool),rec94 g=some r->Csm prog 199 [.rsl 1 (map Uf.enc g),.fn (.func 200) [] []] [] (λr=>.bool r) r)(n:Nat)(g:Uc):Ks (F_gm rec94 n g) 251 [.iface 333 (.agg (Uc.c ({Cond:=g.Cond:Uc})))] [] (λr=>.bool r):=by
 refine Kg 14 func251 Z Z Z Z λr h=>?_;refine vX (.tup [.agg (Uc.c ({Cond:=g.Cond:Uc})),.bool true]) (QbB EK (by intro m;nofun)) ?_;refine Go 12 Z (Bd h λb2 k h=>?_);refine Ct b2 [0] [3] (λb2=>[(4,.bool b2)]) Ze Zf ?_ (λenv H e=>?_)
 .refine G0 6 Z (Is 15 k Z (λG k=>?_) (λG k=>?_))
  iterate 2 exact Go 7 Z (Cl k [0])
 refine Gx 1 Z (Qd e (Gc 15 Z (Cn Z h (λJ h=>?_) (λJ h=>?_))))
 .refine Gc 1 Z (Bd h λl d h=>?_);refine Ct l [] [] (λl=>[(2,.bool l)]) Ze Zf ?_ (λenv H e=>?_)
  .refine G0 4 Z ?_;refine vH (Ek (xs:=[.tmp 28]) (es:=map (Qf .i64) [g.Cond.Var]) Qz Z Z Z Z Z ⟨Z,trivial⟩ Z Z) ?_;refine FE Z (Cb d (k_a _ _ _ _) Z (ls (ls (lo ln))) λR M d=>Go 1 Z (Is 31 d Z (λt d=>?_) (λt d=>?_)))
   .refine Go 3 Z ?_;refine vH (Ek (xs:=[.tmp 34]) (es:=map (Qf .i64) [g.Cond.N]) Qz Z Z Z Z Z ⟨Z,trivial⟩ Z Z) ?_ (gT Z);refine FE Z (Cb d (k_a _ _ _ _) Z (ls (ls (lo ln))) λT O d=>Go 2 Z (Is 38 d Z (λu d=>?_) (λu d=>?_)))
    .exact Go 3 Z (Lm Z (Go 4 Z (Cl d [])))
    .exact Go 8 Z (Cl d [])
   .exact Go 15 Z (Cl d [])
  exact Gx 1 Z (Qd e (Gc 5 Z (Rt h 2 [])))
 refine Gc 6 Z (Bd h λL a h=>?_);refine Jk (b:=L) [0] [3] (λp=>[(4,.bool p)]) Ze Zf ?_ (λp env H hb e=>?_)
 .refine G0 0 Z (Cn Z a (λw a=>?_) (λw a=>?_))
  .refine Gc 3 Z (Is 48 a Z (λx a=>?_) (λx a=>?_))
   .refine Go 3 Z (Lm Z (Go 4 Z ?_));cases a;exact Qq Z (Lr [0])
   .refine Go 8 Z ?_;cases a;exact Qq Z (Lr [0])
  refine Gc 7 Z (Bd a λq i a=>?_);refine Ct q [0] [3,4] (λq=>[(55,.bool q)]) Ze Zf ?_ (λenv H e=>?_)
  .refine G0 0 Z (Cn Z i (λy i=>?_) (λy i=>?_))
   .exact Gc 1 Z (Cl i [0])
   exact Gc 4 Z (Cl i [0])
  refine Gx 1 Z (Qd e (Yk Z a (λz a=>?_) (λz a=>?_)))
  .refine Gc 6 Z ?_;cases a;exact Qu (Gx 4 Z (Rt h 2 []))
  refine Gc 3 Z (Is 59 a Z (λB a=>?_) (λB a=>?_))
  .refine Go 3 Z (Lm Z (Go 3 Z (Is 66 a Z (λE a=>?_) (λE a=>?_))))
   .refine Go 3 Z (Lm Z (Go 4 Z ?_));cases a;exact Qq Z (Lr [0])
   .refine Go 8 Z ?_;cases a;exact Qq Z (Lr [0])
  .refine Go 15 Z ?_;cases a;exact Qq Z (Lr [0])
 subst hb;refine Gx 2 Z (Qd e (Gc 1 Z (Bd h λs f h=>?_)));refine Ct s [] [] (λs=>[(2,.bool s)]) Ze Zf ?_ (λenv H e=>?_)
 .refine G0 3 Z (Is 74 f Z (λF f=>?_) (λF f=>?_))
  .exact Go 1 Z (Cd [] f (k_ao _ _) Z λV P f=>FE Z (Cb f (j _) Z (lo (ls ln)) λW Q f=>Go 4 Z (Cl f [])))
  .exact Go 7 Z (Cl f [])
 exact Gx 1 Z (Qd e (Gc 3 Z (Rt h 2 [])))
def F_jl(rec94:(List Uf)->Option Bool)(n:Nat)(z:Uf):Option Bool:=Uf.elim z (λd=>(bif (d.Step.Kind==1)then((F_a n 1 5 [d.Step.By]).bind λg=>(bif g then(F_bc n ({Cond:=d.Step.Cond:Uc})).bind λh=>(bif h then(F_ax n d).bind λi=>some ((i.length:Int)==0)else some false)else some false):Option Bool).bind λj=>some j else(bif (d.Step.Kind==2)then((bif (d.Step.By==0)then(F_gm rec94 n ({Cond:=d.Step.Cond:Uc})).bind λk=>(bif k then(bif decide (0<(d.Step.Then.length:Int))then(F_ax n d).bind λl=>(rec94 l).bind λm=>some (!m)else some false)else some false)else some false):Option Bool).bind λp=>some p else some false))) (λa=>((bif (a.Cond.Var==0)then some (a.Cond.N==0)else some false):Option Bool).bind λf=>(bif (a.Cond.Kind==1)then((F_a n 1 3 [a.Cond.Var]).bind λq=>(bif q then(F_a n 0 10000 [a.Cond.N]).bind λr=>(bif r then some ((a.Cond.Parts.length:Int)==0)else some false)else some false):Option Bool).bind λs=>some s else((bif (a.Cond.Kind==4)then(bif f then some (.cont ((a.Cond.Parts.length:Int)==1))else some (.cont false))else((bif (a.Cond.Kind==2)then some (a.Cond.Kind==2)else some (a.Cond.Kind==3)):Option Bool).bind λt=>(bif t then(bif f then(bif decide (0<(a.Cond.Parts.length:Int))then some (.cont (decide ((a.Cond.Parts.length:Int)<=16)))else some (.cont false))else some (.cont false))else some (.done false))):Option (Ctl Bool Bool)).bind λu=>match u with|.cont e=>(((bif e then(F_ao n ({Cond:=a.Cond:Uc})).bind λw=>(rec94 w).bind λx=>some (!x)else some false):Option Bool).bind λy=>some y)|.done e=>some e))
theorem k_jl(rec94:(List Uf)->Option Bool)(j:∀(p:List Uf) (r:Bool),rec94 p=some r->Csm prog 199 [.rsl 1 (map Uf.enc p),.fn (.func 200) [] []] [] (λr=>.bool r) r)(n:Nat)(p:Uf):Ks (F_jl rec94 n p) 251 [Uf.val p] [] (λr=>.bool r):=by
 refine Kg 14 func251 Z Z Z Z λr h=>?_;rcases JE p with⟨q,hE2⟩|⟨t,hE4⟩
 .have h:=Jt hE2 h;refine QG (QC (s:=0) (a':=.iface 283 (.agg (Uh.c q))) Z (congrArg Uf.val hE2)) ?_;refine QG (QC (s:=7) (a':=.iface 283 (.agg (Uh.c q))) Z (congrArg Uf.val hE2)) ?_;refine vX (.tup [.agg [I 0,I 0,I 0,.rsl 4 (map Cond.enc [])],.bool false]) (Qh0 (z:=(.agg [I 0,I 0,I 0,.rsl 4 (map Cond.enc [])])) EK (by intro m;nofun) Z GF (zrC Z)) ?_;refine Go 7 Z ?_;refine vX (.tup [.agg (Uh.c q),.bool true]) (QbB Gk (by intro m;nofun)) ?_;refine Go 35 Z (Cn Z h (λae h=>?_) (λae h=>?_))
  .refine Gc 1 Z (Bd h λu e h=>?_);refine Ct u [] [] (λu=>[(2,.bool u)]) Ze Zf ?_ (λenv H f=>?_)
   .refine G0 4 Z ?_;refine vH (Ek (xs:=[.tmp 94]) (es:=map (Qf .i64) [q.Step.By]) Qz Z Z Z Z Z ⟨Z,trivial⟩ Z Z) ?_;refine FE Z (Cb e (k_a _ _ _ _) Z (ls (ls (lo ln))) λar ag e=>Go 1 Z (Is 97 e Z (λG e=>?_) (λG e=>?_)))
    .refine Go 1 Z (Cz [] e (k_bc _ _) Z λau ah e=>Go 2 Z (Is 101 e Z (λJ e=>?_) (λJ e=>?_)))
     .exact Go 1 Z (Cd [] e (k_ax _ _) Z λav ai e=>FE Z (Go 5 Z (Cl e [])))
     .exact Go 7 Z (Cl e [])
    .exact Go 11 Z (Cl e [])
   exact Gx 1 Z (Qd f (Gc 4 Z (Rt h 2 [])))
  refine Gc 6 Z (Cn Z h (λL h=>?_) (λL h=>?_))
  .refine Gc 1 Z (Bd h λw d h=>?_);refine Ct w [] [] (λw=>[(2,.bool w)]) Ze Zf ?_ (λenv H f=>?_)
   .refine G0 6 Z (Is 113 d Z (λM d=>?_) (λM d=>?_))
    .refine Go 1 Z ?_;refine vX (.iface 333 (.agg (Uc.c ({Cond:=q.Step.Cond:Uc})))) (Qak Z EK (by intro m;nofun) Z) ?_ (gT Z);refine Cz [] d (k_gm rec94 j _ _) Z λaw aj d=>Go 2 Z (Is 118 d Z (λO d=>?_) (λO d=>?_))
     .refine Go 3 Z (Lm Z (Go 3 Z (Is 125 d Z (λP d=>?_) (λP d=>?_))))
      .exact Go 1 Z (Cd [] d (k_ax _ _) Z λax ak d=>FE Z (Cb d (j _) Z (lo (ls ln)) λay al d=>Go 4 Z (Cl d [])))
      .exact Go 7 Z (Cl d [])
     .exact Go 14 Z (Cl d [])
    .exact Go 19 Z (Cl d [])
   exact Gx 1 Z (Qd f (Gc 4 Z (Rt h 2 [])))
  exact Gc 10 Z (Rt h 2 [])
 .have h:=Js hE4 h;refine QG (QC (s:=0) (a':=.iface 333 (.agg (Uc.c ({Cond:=t.Cond:Uc})))) Z (congrArg Uf.val hE4)) ?_;refine QG (QC (s:=7) (a':=.iface 333 (.agg (Uc.c ({Cond:=t.Cond:Uc})))) Z (congrArg Uf.val hE4)) ?_;refine vX (.tup [.agg (Uc.c ({Cond:=t.Cond:Uc})),.bool true]) (QbB EK (by intro m;nofun)) ?_;refine Go 12 Z (Bd h λx k h=>?_);refine Ct x [0] [3] (λx=>[(4,.bool x)]) Ze Zf ?_ (λenv H f=>?_)
  .refine G0 6 Z (Is 15 k Z (λQ k=>?_) (λQ k=>?_))
   iterate 2 exact Go 7 Z (Cl k [0])
  refine Gx 1 Z (Qd f (Gc 15 Z (Cn Z h (λR h=>?_) (λR h=>?_))))
  .refine Gc 1 Z (Bd h λy g h=>?_);refine Ct y [] [] (λy=>[(2,.bool y)]) Ze Zf ?_ (λenv H f=>?_)
   .refine G0 4 Z ?_;refine vH (Ek (xs:=[.tmp 28]) (es:=map (Qf .i64) [t.Cond.Var]) Qz Z Z Z Z Z ⟨Z,trivial⟩ Z Z) ?_;refine FE Z (Cb g (k_a _ _ _ _) Z (ls (ls (lo ln))) λaz am g=>Go 1 Z (Is 31 g Z (λT g=>?_) (λT g=>?_)))
    .refine Go 3 Z ?_;refine vH (Ek (xs:=[.tmp 34]) (es:=map (Qf .i64) [t.Cond.N]) Qz Z Z Z Z Z ⟨Z,trivial⟩ Z Z) ?_ (gT Z);refine FE Z (Cb g (k_a _ _ _ _) Z (ls (ls (lo ln))) λba an g=>Go 2 Z (Is 38 g Z (λV g=>?_) (λV g=>?_)))
     .exact Go 3 Z (Lm Z (Go 4 Z (Cl g [])))
     .exact Go 8 Z (Cl g [])
    .exact Go 15 Z (Cl g [])
   exact Gx 1 Z (Qd f (Gc 5 Z (Rt h 2 [])))
  refine Gc 6 Z (Bd h λaf a h=>?_);refine Jk (b:=af) [0] [3] (λB=>[(4,.bool B)]) Ze Zf ?_ (λB env H hb f=>?_)
  .refine G0 0 Z (Cn Z a (λW a=>?_) (λW a=>?_))
   .refine Gc 3 Z (Is 48 a Z (λX a=>?_) (λX a=>?_))
    .refine Go 3 Z (Lm Z (Go 4 Z ?_));cases a;exact Qq Z (Lr [0])
    .refine Go 8 Z ?_;cases a;exact Qq Z (Lr [0])
   refine Gc 7 Z (Bd a λE l a=>?_);refine Ct E [0] [3,4] (λE=>[(55,.bool E)]) Ze Zf ?_ (λenv H f=>?_)
   .refine G0 0 Z (Cn Z l (λY l=>?_) (λY l=>?_))
    .exact Gc 1 Z (Cl l [0])
    exact Gc 4 Z (Cl l [0])
   refine Gx 1 Z (Qd f (Yk Z a (λaa a=>?_) (λaa a=>?_)))
   .refine Gc 6 Z ?_;cases a;exact Qu (Gx 4 Z (Rt h 2 []))
   refine Gc 3 Z (Is 59 a Z (λab a=>?_) (λab a=>?_))
   .refine Go 3 Z (Lm Z (Go 3 Z (Is 66 a Z (λac a=>?_) (λac a=>?_))))
    .refine Go 3 Z (Lm Z (Go 4 Z ?_));cases a;exact Qq Z (Lr [0])
    .refine Go 8 Z ?_;cases a;exact Qq Z (Lr [0])
   .refine Go 15 Z ?_;cases a;exact Qq Z (Lr [0])
  subst hb;refine Gx 2 Z (Qd f (Gc 1 Z (Bd h λF i h=>?_)));refine Ct F [] [] (λF=>[(2,.bool F)]) Ze Zf ?_ (λenv H f=>?_)
  .refine G0 3 Z (Is 74 i Z (λad i=>?_) (λad i=>?_))
   .exact Go 1 Z (Cd [] i (k_ao _ _) Z λbb ao i=>FE Z (Cb i (j _) Z (lo (ls ln)) λbc aq i=>Go 4 Z (Cl i [])))
   .exact Go 7 Z (Cl i [])
  exact Gx 1 Z (Qd f (Gc 3 Z (Rt h 2 [])))
def F_fa(rec94:(List Uf)->Option Bool)(n:Nat)(a:Uf):Option Bool:=(F_jl rec94 n a).bind λd=>some (!d)
theorem k_fa(rec94:(List Uf)->Option Bool)(a:∀(d:List Uf) (r:Bool),rec94 d=some r->Csm prog 199 [.rsl 1 (map Uf.enc d),.fn (.func 200) [] []] [] (λr=>.bool r) r)(n:Nat)(d:Uf):Ks (F_fa rec94 n d) 200 [Uf.val d] [] (λr=>.bool r):=by
 exact Kg 8 func200 Z Z Z Z λr h=>Bd h λf e h=>Pc [] Z (OpC.fn call251 Z Z Z) (k_jl rec94 a _ _ _ e) (hargs:=by first|exact Z|exact Eq.trans (by exact Z) (Qad _ (by simp[YK,YC,Uf.data])).symm) Z (Go 5 Z (Rt h 2 []))
def F_md(n:Nat)(d:List Uf)(rec94:(List Uf)->Option Bool)(a:Int):Option (Ctl Int (Ctl Unit Int)):=(bif decide (a<(d.length:Int))then(idx d a).bind λe=>(F_fa rec94 n e).bind λf=>(bif f then some (.done (.done a))else some (.cont (i64.wrap (a+1))))else some (.done (.cont ())))
def F_ia(rec94:(List Uf)->Option Bool)(n:Nat)(e:List Uf):Option Int:=(iter (F_md n e rec94) n 0:Option (Ctl Unit Int)).bind λd=>match d with|.cont a=>(some (-1))|.done a=>some a
theorem k_ia(rec94:(List Uf)->Option Bool)(d:∀(e:List Uf) (r:Bool),rec94 e=some r->Csm prog 199 [.rsl 1 (map Uf.enc e),.fn (.func 200) [] []] [] (λr=>.bool r) r)(n:Nat)(e:List Uf):Ks (F_ia rec94 n e) 250 [.rsl 1 (map Uf.enc e),.fn (.func 200) [] []] [] (λr=>I r):=by
 refine Kg 9 func250 Z Z Z Z λr h=>Lm Z (Go 3 Z (Bd h λm p h=>?_));refine Jk (b:=m) [] [] Ze Ze Zf ?_ (λt env H q s=>?_)
 .refine G0 1 Z ?_;refine Lp [] [0,1,7] (λg=>[(8,I g)]) Ze p Zf (Lr []) λg u a f=>?_;refine G0 6 Z (Yk Z a (λi a=>?_) (λi a=>?_))
  .refine Gc 2 Z (Qk a ?_);obtain rfl:=Oj f a;exact Gx 1 Z (Qq Z (Lr []))
  refine Gc 15 Z (Bd a λw j a=>Iz j Z (Go 1 Z (Bd a λx k a=>Pc [] Z (Qk5 call200 Z Z Z Z) (k_fa rec94 d _ _ _ k) (hargs:=by first|exact Z|exact Eq.trans (by exact Z) (Qad _ (by simp[YK,YC,Uf.data])).symm) Z (Go 2 Z (Cn Z a (λl a=>?_) (λl a=>?_))))))
  .refine Gc 9 Z (Qy a ?_);obtain rfl:=Oj f a;exact Gx 1 Z (Qu (Gx 1 Z (Rt h 4 [])))
  exact Gc 7 Z (Qj a (Lr []))
 subst q;exact Gx 1 Z (Qd s (Gc 6 Z (Rt h 4 [])))
def B_ah(rec94:(List Uf)->Option Bool)(n:Nat)(a:List Uf):Option Bool:=(F_ia rec94 n a).bind λd=>some (decide (0<=d))
theorem Qaw(rec94:(List Uf)->Option Bool)(a:∀(d:List Uf) (r:Bool),rec94 d=some r->Csm prog 199 [.rsl 1 (map Uf.enc d),.fn (.func 200) [] []] [] (λr=>.bool r) r)(n:Nat)(d:List Uf)(r:Bool)(h:B_ah rec94 n d=some r):Csm prog 199 [.rsl 1 (map Uf.enc d),.fn (.func 200) [] []] [] (λr=>.bool r) r:=by
 refine QO func199 Z Z Z ?_;exact G0 9 Z (Cz [] h (k_ia rec94 a _ _) Z λf e h=>Go 5 Z (Rt h 4 []))
def F_ah:Nat->(List Uf)->Option Bool
  |0=>λ_=>none
  |n+1=>B_ah (F_ah n) n
theorem k_ah(n:Nat):∀(a:List Uf) (r:Bool),F_ah n a=some r->Csm prog 199 [.rsl 1 (map Uf.enc a),.fn (.func 200) [] []] [] (λr=>.bool r) r:=by
  induction n with
  |zero=>intro a r h;cases h
  |succ n ih=>intro a r h;exact Qaw _ ih n a r h
def F_ig(n:Nat)(a:List Uf):Option Int:=(F_im n a 0 ({steps:=0,conds:=0:Ud})).bind λd=>(bif (!d.2)then some 2 else((bif ((a.length:Int)==0)then some true else(F_ah n a).bind λe=>some e):Option Bool).bind λf=>(bif f then some 71 else some 0))
theorem k_ig(n:Nat)(e:List Uf):Ks (F_ig n e) 140 [.rsl 1 (map Uf.enc e)] [] (λr=>I r):=by
 refine Kg 17 func140 Z Z Z Z λr h=>Cd [0] h (k_im _ _ _ _) Z λm k h=>FE Z (Go 3 Z (Cn Z h (λf h=>?_) (λf h=>?_)))
 .exact Gc 7 Z (Rt h 2 [])
 refine Gc 4 Z (Bd h λd a h=>?_);refine Ct d [] [] (λd=>[(16,.bool d)]) Ze Zf ?_ (λenv H g=>?_)
 .refine G0 2 Z (Lm Z (Go 2 Z (Is 13 a Z (λi a=>?_) (λi a=>?_))))
  .exact Go 4 Z (Cl a [])
  .exact Go 1 Z (Cz [] a (k_ah _ _) Z λp l a=>Go 2 Z (Cl a []))
 refine Gx 1 Z (Qd g (Cn Z h (λj h=>?_) (λj h=>?_)))
 .exact Gc 7 Z (Rt h 2 [])
 exact Gc 8 Z (Rt h 2 [])
def F_eh(n:Nat)(a:List Step):Option Int:=(F_be n a).bind λd=>(F_ig n d).bind λe=>some e
theorem k_eh(n:Nat)(a:List Step):Ks (F_eh n a) 71 [.rsl 8 (map Step.enc a)] [] (λr=>I r):=by
 exact Kg 8 func71 Z Z Z Z λr h=>Cd [] h (k_be _ _) Z λf d h=>FE Z (Cb h (k_ig _ _) Z (lo ln) λg e h=>Go 4 Z (Rt h 2 []))
def F_fi(n:Nat)(d:Part)(e:List Int)(a:(List Int)×Int):Option (Ctl ((List Int)×Int) (Ctl (List Int) (Ctl ((List Int)×Int) (Ctl (List Int) (List Int))))):=(bif decide (a.2<(if d.Laps<1 then 1 else d.Laps))then(bif decide (256<(a.1.length:Int))then some (.done (.done (.done (.done a.1))))else(app a.1 e).bind λf=>some (.cont (f,i64.wrap (a.2+1))))else some (.done (.cont a.1)))
def F_fj(n:Nat)(f:List Part)(rec113:(List Part)->Option (List Int))(a:(List Int)×Int):Option (Ctl ((List Int)×Int) (Ctl (List Int) (List Int))):=(bif decide (a.2<(f.length:Int))then(idx f a.2).bind λe=>((bif decide (0<e.Laps)then(rec113 e.Parts).bind λg=>some g else some [e.Mat]):Option (List Int)).bind λh=>(iter (F_fi n e h) n (a.1,0):Option (Ctl (List Int) (Ctl ((List Int)×Int) (Ctl (List Int) (List Int))))).bind λi=>match i with|.cont d=>(some (.cont (d,i64.wrap (a.2+1))))|.done d=>some d else some (.done (.cont a.1)))
def B_ae(rec113:(List Part)->Option (List Int))(n:Nat)(e:List Part):Option (List Int):=(iter (F_fj n e rec113) n ([],0):Option (Ctl (List Int) (List Int))).bind λd=>match d with|.cont a=>(some a)|.done a=>some a
theorem Qdc(rec113:(List Part)->Option (List Int))(w:∀(x:List Part) (r:List Int),rec113 x=some r->C prog 144 [.rsl 3 (map Part.enc x)] [] (RQ (λr=>.osl 0 0 r.length 1) (λr=>[.row 3 1 (map (Qf .i64) r)]) r))(n:Nat)(x:List Part)(r:List Int)(h:B_ae rec113 n x=some r):C prog 144 [.rsl 3 (map Part.enc x)] [] (RQ (λr=>.osl 0 0 r.length 1) (λr=>[.row 3 1 (map (Qf .i64) r)]) r):=by
 refine QO func144 Z Z Z ?_;refine G0 9 Z (Lm Z (Go 3 Z (Bd h λN O h=>?_)));refine Jk (b:=N) [0] [] (λg=>[(2,.osl 0 0 g.length 1)]) (λg=>[(0,.row 3 1 (map (Qf .i64) g))]) Zf ?_ (λg env H y l=>?_)
 .refine G0 1 Z ?_;refine Lp [0] [6,7] (λm=>[(2,.osl 0 0 m.1.length 1),(8,I m.2)]) (λm=>[(0,.row 3 1 (map (Qf .i64) m.1))]) O Zf ?_ ?_
  .refine En (Er (s:=2) (k:=1) (t:=3) (XQ Z) Z) ?_;exact Lr [0]
  intro m T a z;refine G0 6 Z (Yk Z a (λE a=>?_) (λE a=>?_))
  .refine Gc 2 Z (Qk a ?_);obtain rfl:=Oj z a;exact Gx 1 Z (Qq Z (Lr [0]))
  refine Gc 6 Z (Bd a λu F a=>IzE F (Yb u) Z (Go 9 Z ?_));refine vH (Ek (xs:=[.tmp 13]) (es:=map (Qf .i64) [u.Mat]) Qz Z Z Z Z Z ⟨Z,trivial⟩ Z Z) ?_;refine FE Z (Go 11 Z (Bd a λp f a=>?_));refine Ct p [0,1,0] [2,4,6,7,8] (λp=>[(5,.osl 2 0 p.length 1)]) (λp=>[(2,.row 3 1 (map (Qf .i64) p))]) Zf ?_ (λenv H l=>?_)
  .refine G0 0 Z (Cn Z f (λG f=>?_) (λG f=>?_))
   .exact Gc 3 Z (Cd [] f (w _) Z λV R f=>FE Z (Go 2 Z (Cl f [0,1,3])))
   exact Gc 1 Z (Cl f [0,1,2])
  refine Gx 1 Z (Qd l (Gc 4 Z ?_));refine vX (I (if u.Laps<1 then 1 else u.Laps)) (OpV.max Z Z Z Z) ?_;refine Go 3 Z (Bd a λP Q a=>?_);refine Jk (b:=P) [0] [6,7,8] (λj=>[(2,.osl 0 0 j.length 1)]) (λj=>[(0,.row 3 1 (map (Qf .i64) j))]) Zf ?_ (λj env H y l=>?_)
  .refine G0 1 Z ?_;refine Lp [0,2] [5,6,7,8,23] (λq=>[(2,.osl 0 0 q.1.length 1),(24,I q.2)]) (λq=>[(0,.row 3 1 (map (Qf .i64) q.1))]) Q Zf (Lr [0,2]) λq W d B=>?_;refine G0 6 Z (Yk Z d (λJ d=>?_) (λJ d=>?_))
   .refine Gc 2 Z (Qk d ?_);obtain rfl:=Oj B d;exact Gx 1 Z (Qq Z (Lr [0]))
   refine Gc 12 Z (Cn Z d (λL d=>?_) (λL d=>?_))
   .refine Gc 10 Z (Qy d ?_);obtain rfl:=Oj B d;refine Gx 1 Z (Qu (Gx 2 Z (Qy a ?_)));obtain rfl:=Oj z a;exact Gx 1 Z (Qu (Gx 1 Z (Rt h 2 [0])))
   refine Gc 5 Z (Bd d λX M d=>?_);refine vH (Qp (e:=(Qf .i64)) M Qz EA (QU (i:=1))) ?_;exact FE Z (Go 8 Z (Qj d (Lr [2,1])))
  subst y;exact Gx 2 Z (Qd l (Gc 4 Z (Qj a (Lr [0]))))
 subst y;exact Gx 1 Z (Qd l (Gc 7 Z (Rt h 2 [0])))
def F_ae:Nat->(List Part)->Option (List Int)
  |0=>λ_=>none
  |n+1=>B_ae (F_ae n) n
theorem k_ae(n:Nat):∀(a:List Part) (r:List Int),F_ae n a=some r->C prog 144 [.rsl 3 (map Part.enc a)] [] (RQ (λr=>.osl 0 0 r.length 1) (λr=>[.row 3 1 (map (Qf .i64) r)]) r):=by
  induction n with
  |zero=>intro a r h;cases h
  |succ n ih=>intro a r h;exact Qdc _ ih n a r h
def F_co(n:Nat)(a:Cutoff)(d:List (Int×Int)):Option Bool:=(some (QL d a.Mat 0)).bind λe=>some (decide (a.Lap<=e))
theorem k_co(n:Nat)(a:Cutoff)(d:List (Int×Int)):Ks (F_co n a d) 145 [.agg (Cutoff.c a),.ptr 0 0] [.cells 242 [.map 1],.map (Q7 (λx=>A.int .i64 x) (λx=>A.int .i64 x) d)] (λr=>.bool r):=by
 refine Kg 11 func145 Z Z Z Z λr h=>Bd h λf e h=>?_;refine vX (I f) (Y7 (ev:=(λx=>A.int .i64 x)) (z0:=0) (k:=a.Mat) (l:=d) QkC e Gr EP Eo) ?_;exact Go 7 Z (Rt h 3 [0,1])
def F_iu(n:Nat)(a:Cutoff)(d:List (Int×Int)):Option Bool:=(F_co n a d).bind λe=>some (!e)
theorem k_iu(n:Nat)(a:Cutoff)(d:List (Int×Int)):Ks (F_iu n a d) 185 [.agg (Cutoff.c a),.ptr 0 0] [.cells 216 [.fn (.func 145) [] [.ptr 1 0]],.cells 242 [.map 2],.map (Q7 (λx=>A.int .i64 x) (λx=>A.int .i64 x) d)] (λr=>.bool r):=by
 exact Kg 10 func185 Z Z Z Z λr h=>Cz [1,2] h (k_co _ _ _) Z λf e h=>Go 5 Z (Rt h 3 [0,1,2])
def F_ln(n:Nat)(d:List Cutoff)(g:List (Int×Int))(a:Int):Option (Ctl Int (Ctl Unit Int)):=(bif decide (a<(d.length:Int))then(idx d a).bind λe=>(F_iu n e g).bind λf=>(bif f then some (.done (.done a))else some (.cont (i64.wrap (a+1))))else some (.done (.cont ())))
def F_hq(n:Nat)(e:List Cutoff)(f:List (Int×Int)):Option Int:=(iter (F_ln n e f) n 0:Option (Ctl Unit Int)).bind λd=>match d with|.cont a=>(some (-1))|.done a=>some a
theorem k_hq(n:Nat)(j:List Cutoff)(k:List (Int×Int)):Ks (F_hq n j k) 242 [.rsl 3 (map Cutoff.c j),.fn (.func 185) [] [.ptr 0 0]] [.cells 216 [.fn (.func 145) [] [.ptr 1 0]],.cells 242 [.map 2],.map (Q7 (λx=>A.int .i64 x) (λx=>A.int .i64 x) k)] (λr=>I r):=by
 refine Kg 9 func242 Z Z Z Z λr h=>Lm Z (Go 3 Z (Bd h λl m h=>?_));refine Jk (b:=l) [0,1,2] [] Ze Ze Zf ?_ (λs env H p q=>?_)
 .refine G0 1 Z ?_;refine Lp [0,1,2] [0,1,7] (λe=>[(8,I e)]) Ze m Zf (Lr [0,1,2]) λe u a d=>?_;refine G0 6 Z (Yk Z a (λf a=>?_) (λf a=>?_))
  .refine Gc 2 Z (Qk a ?_);obtain rfl:=Oj d a;exact Gx 1 Z (Qq Z (Lr [0,1,2]))
  refine Gc 15 Z (Bd a λw g a=>Iz g Z (Go 1 Z (Cz [0,1,2] a (k_iu _ _ _) Z λy t a=>Go 2 Z (Cn Z a (λi a=>?_) (λi a=>?_)))))
  .refine Gc 9 Z (Qy a ?_);obtain rfl:=Oj d a;exact Gx 1 Z (Qu (Gx 1 Z (Rt h 4 [0,1,2])))
  exact Gc 7 Z (Qj a (Lr [0,1,2]))
 subst p;exact Gx 1 Z (Qd q (Gc 6 Z (Rt h 4 [0,1,2])))
def F_jw(n:Nat)(a:List Cutoff)(d:List (Int×Int)):Option Bool:=(F_hq n a d).bind λe=>some (decide (0<=e))
theorem k_jw(n:Nat)(a:List Cutoff)(d:List (Int×Int)):Ks (F_jw n a d) 184 [.rsl 3 (map Cutoff.c a),.fn (.func 185) [] [.ptr 0 0]] [.cells 216 [.fn (.func 145) [] [.ptr 1 0]],.cells 242 [.map 2],.map (Q7 (λx=>A.int .i64 x) (λx=>A.int .i64 x) d)] (λr=>.bool r):=by
 exact Kg 9 func184 Z Z Z Z λr h=>Cz [0,1,2] h (k_hq _ _ _) Z λf e h=>Go 5 Z (Rt h 4 [0,1,2])
def F_ii(n:Nat)(a:List Cutoff)(d:List (Int×Int)):Option Bool:=(F_jw n a d).bind λe=>some (!e)
theorem k_ii(n:Nat)(a:List Cutoff)(d:List (Int×Int)):Ks (F_ii n a d) 123 [.rsl 3 (map Cutoff.c a),.fn (.func 145) [] [.ptr 0 0]] [.cells 242 [.map 1],.map (Q7 (λx=>A.int .i64 x) (λx=>A.int .i64 x) d)] (λr=>.bool r):=by
 exact Kg 10 func123 Z Z Z Z λr h=>Cz [2,0,1] h (k_jw _ _ _) Z λf e h=>Go 5 Z (Rt h 4 [0,1])
def F_dr(n:Nat)(l:Course)(m:List (Ue×Bool))(e:List Int)(a:(List (Int×Int))×Int):Option (Ctl ((List (Int×Int))×Int) (Ctl (List (Int×Int)) Bool)):=(bif decide (a.2<(e.length:Int))then(idx e a.2).bind λd=>(idx l.Mats d).bind λf=>((bif ((f.Kind==1) != (a.2==0))then some true else(bif ((f.Kind==3) != (a.2==(i64.wrap ((e.length:Int)-1))))then some true else(bif decide (0<a.2)then(idx e (i64.wrap (a.2-1))).bind λg=>(some (QL m ({from_:=g,to_:=d:Ue}) false)).bind λh=>some (!h)else some false))):Option Bool).bind λi=>(bif i then some (.done (.done false))else(some (QL a.1 d 0)).bind λj=>(some (Yp a.1 d (i64.wrap (j+1)))).bind λk=>some (.cont (k,i64.wrap (a.2+1))))else some (.done (.cont a.1)))
def F_cz(n:Nat)(f:Course)(d:Distance)(g:List (Ue×Bool)):Option Bool:=(F_ae n d.Route).bind λe=>((bif decide ((i64.wrap ((e.length:Int)-1))<1)then some true else some (decide (256<=(i64.wrap ((e.length:Int)-1))))):Option Bool).bind λp=>(bif p then some false else(iter (F_dr n f g e) n ([],0):Option (Ctl (List (Int×Int)) Bool)).bind λh=>match h with|.cont a=>(((bif decide (0<=d.Extra)then(some (QL a d.Extra 0)).bind λi=>(bif (i==0)then some true else(idx f.Mats d.Extra).bind λj=>(bif (j.Kind != 2)then some true else(some (QL g ({from_:=d.Extra,to_:=d.Extra:Ue}) false)).bind λk=>some (!k)))else some false):Option Bool).bind λl=>(bif l then some false else(F_ii n d.Cutoffs a).bind λm=>some m))|.done a=>some a)
theorem k_cz(n:Nat)(a1:Course)(m:Distance)(y:List (Ue×Bool)):Ks (F_cz n a1 m y) 74 [.agg (Course.c a1),.agg (Distance.c m),.map 0] [.map (Q7 (λx=>A.agg (Ue.c x)) A.bool y)] (λr=>.bool r):=by
 refine Kg 11 func74 Z Z Z Z λr h=>Cd [] h (k_ae _ _) Z λr1 al h=>FE Z (Go 13 Z (Bd h λF p h=>?_));refine Ct F [0,1,2,3] [2,3,4,7,8] (λF=>[(25,.bool F)]) Ze Zf ?_ (λenv H g=>?_)
 .refine G0 4 Z (Is 22 p Z (λac p=>?_) (λac p=>?_))
  iterate 2 exact Go 4 Z (Cl p [0,1,2,3])
 refine Gx 1 Z (Qd g (Cn Z h (λad h=>?_) (λad h=>?_)))
 .exact Gc 7 Z (Rt h 6 [0])
 refine Gc 4 Z ?_;refine vH YH ?_;refine FE Z (Go 12 Z (Bd h λae af h=>?_));refine Jk (b:=ae) [0,1,2,4,5] [2,3,4] (λ_=>[(9,.ptr 3 0)]) (λi=>[(3,.cells 242 [.map 4]),(4,.map (Q7 (λx=>A.int .i64 x) (λx=>A.int .i64 x) i))]) Zf ?_ (λi env H ag g=>?_)
 .refine G0 1 Z ?_;refine Lp [0,1,2,3,5,4] [2,3,4,7,8,9,27,28] (λf=>[(29,I f.2)]) (λf=>[(4,.cells 242 [.map 5]),(5,.map (Q7 (λx=>A.int .i64 x) (λx=>A.int .i64 x) f.1))]) af Zf (Lr [0,1,2,3,5,4]) λf am a q=>?_;refine G0 6 Z (Yk Z a (λG a=>?_) (λG a=>?_))
  .refine Gc 2 Z (Qk a ?_);obtain rfl:=Oj q a;exact Gx 1 Z (Qq Z (Lr [0,1,2,4,5]))
  refine Gc 7 Z (Bd a λj s a=>?_);refine vX (.ptr 3 (toNat f.2*1)) (Qv s Z EA ED) ?_;refine vX (I j) (Ey Z EF Z (Qm s)) ?_;refine Go 9 Z (Bd a λz J a=>Iz J Z (Go 7 Z (Bd a λt e a=>?_)));refine Ct t [0,1,2,3,4,5] [2,3,4,7,8,9,11,27,28,29] (λt=>[(68,.bool t)]) Ze Zf ?_ (λenv H g=>?_)
  .refine G0 5 Z ?_;refine vX (.bool ((z.Kind==1) != (f.2==0))) (Qgg runUnderlying4) ?_;refine Go 1 Z (Is 45 e Z (λL e=>?_) (λL e=>?_))
   .exact Go 24 Z (Cl e [0,1,2,3,4,5])
   .refine Go 5 Z ?_;refine vV (x:=(.bool ((z.Kind==3) != (f.2==(i64.wrap ((r1.length:Int)-1)))))) (Qgg runUnderlying4) ?_ (gT Z);refine Go 2 Z (Is 53 e Z (λM e=>?_) (λM e=>?_))
    .exact Go 16 Z (Cl e [0,1,2,3,4,5])
    .refine Go 3 Z (Is 56 e Z (λN e=>?_) (λN e=>?_))
     .refine Go 4 Z (Bd e λB u e=>?_);refine vX (.ptr 3 (toNat (i64.wrap (f.2-1))*1)) (Qv u Z EA ED) ?_ (gT Z);refine vX (I B) (Ey Z EF Z (Qm u)) ?_ (gT Z);refine Go 2 Z (Bd e λah O e=>?_);refine vX (.bool ah) (Y7 (ev:=A.bool) (z0:=false) (k:=({from_:=B,to_:=j:Ue})) (l:=y) QeS O Gi Gg ZR.bool) ?_ (gT Z);exact Go 4 Z (Cl e [0,1,2,3,4,5])
     .exact Go 13 Z (Cl e [0,1,2,3,4,5])
  refine Gx 1 Z (Qd g (Cn Z a (λP a=>?_) (λP a=>?_)))
  .refine Gc 9 Z (Qy a ?_);obtain rfl:=Oj q a;exact Gx 1 Z (Qu (Gx 1 Z (Rt h 6 [0])))
  refine Gc 5 Z (Bd a λE Q a=>?_);refine vX (I E) (Y7 (ev:=(λx=>A.int .i64 x)) (z0:=0) (k:=j) (l:=f.1) QkC Q Gr EP Eo) ?_;refine Go 1 Z (Bd a λan R a=>?_);refine vU (Y8 (ev:=(λx=>A.int .i64 x)) (k:=j) (v:=(i64.wrap (E+1))) (l:=f.1) QkC R Z Gr) ?_;exact FE Z (Go 7 Z (Qj a (Lr [0,1,2,3,4,5])))
 subst ag;refine Gx 1 Z (Qd g (Gc 9 Z (Bd h λw d h=>?_)));refine Ct w [0,2,3,4] [4,9] (λw=>[(100,.bool w)]) (λ_=>[(2,.cells 242 [.map 3])]) Zf ?_ (λenv H g=>?_)
 .refine G0 4 Z (Is 78 d Z (λT d=>?_) (λT d=>?_))
  .refine Go 2 Z (Bd d λai V d=>?_);refine vX (I ai) (Y7 (ev:=(λx=>A.int .i64 x)) (z0:=0) (k:=m.Extra) (l:=i) QkC V Gr EP Eo) ?_ (gT Z);refine Go 2 Z (Is 83 d Z (λW d=>?_) (λW d=>?_))
   .exact Go 18 Z (Cl d [0,2,3,4])
   .refine Go 3 Z (Bd d λao X d=>Iz X Z (Go 5 Z (Is 92 d Z (λY d=>?_) (λY d=>?_))))
    .exact Go 9 Z (Cl d [0,2,3,4])
    .refine Go 4 Z (Bd d λaj aa d=>?_);refine vX (.bool aj) (Y7 (ev:=A.bool) (z0:=false) (k:=({from_:=m.Extra,to_:=m.Extra:Ue})) (l:=y) QeS aa Gi Gg ZR.bool) ?_ (gT Z);exact Go 4 Z (Cl d [0,2,3,4])
  .exact Go 23 Z (Cl d [0,2,3,4])
 refine Gx 1 Z (Qd g (Cn Z h (λab h=>?_) (λab h=>?_)))
 .exact Gc 7 Z (Rt h 6 [0])
 exact Gc 7 Z (Cz [2,3] h (k_ii _ _ _) Z λaq ak h=>Go 4 Z (Rt h 6 [0]))
def F_gh(n:Nat)(a:Distance)(d:Course)(e:List (Ue×Bool)):Option Bool:=(F_cz n d a e).bind λf=>some f
theorem k_gh(n:Nat)(a:Distance)(d:Course)(e:List (Ue×Bool)):Ks (F_gh n a d e) 73 [.agg (Distance.c a),.ptr 0 0,.ptr 1 0] [.cells 33 (Course.c d),.cells 160 [.map 2],.map (Q7 (λx=>A.agg (Ue.c x)) A.bool e)] (λr=>.bool r):=by
 exact Kg 11 func73 Z Z Z Z λr h=>Cz [2] h (k_cz _ _ _ _) Z λg f h=>Go 4 Z (Rt h 4 [0,1,2])
def F_jp(n:Nat)(a:Distance)(d:Course)(e:List (Ue×Bool)):Option Bool:=(F_gh n a d e).bind λf=>some (!f)
theorem k_jp(n:Nat)(a:Distance)(d:Course)(e:List (Ue×Bool)):Ks (F_jp n a d e) 143 [.agg (Distance.c a),.ptr 0 0] [.cells 167 [.fn (.func 73) [] [.ptr 1 0,.ptr 2 0]],.cells 33 (Course.c d),.cells 160 [.map 3],.map (Q7 (λx=>A.agg (Ue.c x)) A.bool e)] (λr=>.bool r):=by
 exact Kg 10 func143 Z Z Z Z λr h=>Cz [1,2,3] h (k_gh _ _ _ _) Z λg f h=>Go 5 Z (Rt h 3 [0,1,2,3])
def F_mj(n:Nat)(d:List Distance)(g:Course)(h:List (Ue×Bool))(a:Int):Option (Ctl Int (Ctl Unit Int)):=(bif decide (a<(d.length:Int))then(idx d a).bind λe=>(F_jp n e g h).bind λf=>(bif f then some (.done (.done a))else some (.cont (i64.wrap (a+1))))else some (.done (.cont ())))
def F_js(n:Nat)(e:List Distance)(f:Course)(g:List (Ue×Bool)):Option Int:=(iter (F_mj n e f g) n 0:Option (Ctl Unit Int)).bind λd=>match d with|.cont a=>(some (-1))|.done a=>some a
theorem k_js(n:Nat)(j:List Distance)(k:Course)(l:List (Ue×Bool)):Ks (F_js n j k l) 201 [.rsl 5 (map Distance.c j),.fn (.func 143) [] [.ptr 0 0]] [.cells 167 [.fn (.func 73) [] [.ptr 1 0,.ptr 2 0]],.cells 33 (Course.c k),.cells 160 [.map 3],.map (Q7 (λx=>A.agg (Ue.c x)) A.bool l)] (λr=>I r):=by
 refine Kg 9 func201 Z Z Z Z λr h=>Lm Z (Go 3 Z (Bd h λm p h=>?_));refine Jk (b:=m) [0,1,2,3] [] Ze Ze Zf ?_ (λt env H q s=>?_)
 .refine G0 1 Z ?_;refine Lp [0,1,2,3] [0,1,7] (λe=>[(8,I e)]) Ze p Zf (Lr [0,1,2,3]) λe w a d=>?_;refine G0 6 Z (Yk Z a (λf a=>?_) (λf a=>?_))
  .refine Gc 2 Z (Qk a ?_);obtain rfl:=Oj d a;exact Gx 1 Z (Qq Z (Lr [0,1,2,3]))
  refine Gc 15 Z (Bd a λy g a=>Iz g Z (Go 1 Z (Cz [0,1,2,3] a (k_jp _ _ _ _) Z λz u a=>Go 2 Z (Cn Z a (λi a=>?_) (λi a=>?_)))))
  .refine Gc 9 Z (Qy a ?_);obtain rfl:=Oj d a;exact Gx 1 Z (Qu (Gx 1 Z (Rt h 4 [0,1,2,3])))
  exact Gc 7 Z (Qj a (Lr [0,1,2,3]))
 subst q;exact Gx 1 Z (Qd s (Gc 6 Z (Rt h 4 [0,1,2,3])))
def F_ik(n:Nat)(a:List Distance)(d:Course)(e:List (Ue×Bool)):Option Bool:=(F_js n a d e).bind λf=>some (decide (0<=f))
theorem k_ik(n:Nat)(a:List Distance)(d:Course)(e:List (Ue×Bool)):Ks (F_ik n a d e) 142 [.rsl 5 (map Distance.c a),.fn (.func 143) [] [.ptr 0 0]] [.cells 167 [.fn (.func 73) [] [.ptr 1 0,.ptr 2 0]],.cells 33 (Course.c d),.cells 160 [.map 3],.map (Q7 (λx=>A.agg (Ue.c x)) A.bool e)] (λr=>.bool r):=by
 exact Kg 9 func142 Z Z Z Z λr h=>Cz [0,1,2,3] h (k_js _ _ _ _) Z λg f h=>Go 5 Z (Rt h 4 [0,1,2,3])
def F_ff(n:Nat)(a:List Distance)(d:Course)(e:List (Ue×Bool)):Option Bool:=(F_ik n a d e).bind λf=>some (!f)
theorem k_ff(n:Nat)(a:List Distance)(d:Course)(e:List (Ue×Bool)):Ks (F_ff n a d e) 72 [.rsl 5 (map Distance.c a),.fn (.func 73) [] [.ptr 0 0,.ptr 1 0]] [.cells 33 (Course.c d),.cells 160 [.map 2],.map (Q7 (λx=>A.agg (Ue.c x)) A.bool e)] (λr=>.bool r):=by
 exact Kg 10 func72 Z Z Z Z λr h=>Cz [3,0,1,2] h (k_ik _ _ _ _) Z λg f h=>Go 5 Z (Rt h 4 [0,1,2])
def F_it(n:Nat)(e:Course)(a:(List (Ue×Bool))×Int):Option (Ctl ((List (Ue×Bool))×Int) (List (Ue×Bool))):=(bif decide (a.2<(e.Legs.length:Int))then(idx e.Legs a.2).bind λd=>(some (Yp a.1 ({from_:=d.From,to_:=d.To:Ue}) true)).bind λf=>some (.cont (f,i64.wrap (a.2+1)))else some (.done a.1))
def F_x(n:Nat)(a:Course):Option Int:=(F_ec n a).bind λg=>(bif (!g)then some 2 else(F_ek n a).bind λh=>(bif (!h)then some 70 else(F_cw n a).bind λi=>(bif (!i)then some 71 else(F_eh n a.Ties).bind λd=>(bif (d != 0)then some d else(iter (F_it n a) n ([],0):Option (List (Ue×Bool))).bind λe=>(F_ff n a.Distances a e).bind λf=>(bif (!f)then some 72 else some 0)))))
theorem k_x(n:Nat)(q:Course):Ks (F_x n q) 37 [.agg (Course.c q)] [] (λr=>I r):=by
 refine Kg 11 func37 Z Z Z Z λr h=>Cz [] h (k_ec _ _) Z λO E h=>Go 4 Z (Cn Z h (λs h=>?_) (λs h=>?_))
 .exact Gc 8 Z (Rt h 2 [])
 refine Gc 3 Z (Cz [] h (k_ek _ _) Z λP F h=>Go 4 Z (Cn Z h (λt h=>?_) (λt h=>?_)))
 .exact Gc 8 Z (Rt h 2 [])
 refine Gc 3 Z (Cz [] h (k_cw _ _) Z λQ G h=>Go 4 Z (Cn Z h (λu h=>?_) (λu h=>?_)))
 .exact Gc 8 Z (Rt h 2 [])
 refine Gc 8 Z (Cz [] h (k_eh _ _) Z λR J h=>Go 9 Z (Cn Z h (λw h=>?_) (λw h=>?_)))
 .exact Gc 8 Z (Rt h 2 [])
 refine Gc 4 Z ?_;refine vH YH ?_;refine FE Z (Go 9 Z (Lm Z (Go 3 Z (Bd h λe y h=>?_))));refine Ct e [0,1,2] [1] (λ_=>[(3,.ptr 1 0)]) (λe=>[(1,.cells 160 [.map 2]),(2,.map (Q7 (λx=>A.agg (Ue.c x)) A.bool e))]) Zf ?_ (λenv H z=>?_)
 .refine G0 1 Z ?_;refine Lp [0,2,1] [1,3,26,27] (λd=>[(28,I d.2)]) (λd=>[(1,.cells 160 [.map 2]),(2,.map (Q7 (λx=>A.agg (Ue.c x)) A.bool d.1))]) y Zf (Lr [0,2,1]) λd L a g=>?_;refine G0 6 Z (Yk Z a (λi a=>?_) (λi a=>?_))
  .refine Gc 2 Z (Qk a ?_);obtain rfl:=Oj g a;exact Gx 1 Z (QF (Lr [0,1,2]))
  refine Gc 6 Z (Bd a λf j a=>Iz j Z (Go 12 Z (Bd a λM m a=>?_)));refine vU (Y8 (ev:=A.bool) (k:=({from_:=f.From,to_:=f.To:Ue})) (v:=true) (l:=d.1) QeS m Z Gi) ?_;exact FE Z (Go 7 Z (Qj a (Lr [0,1,2])))
 refine Gx 1 Z (Qd z (Gc 6 Z (Cz [0,1,2] h (k_ff _ _ _ _) Z λN B h=>Go 3 Z (Cn Z h (λp h=>?_) (λp h=>?_)))))
 .exact Gc 7 Z (Rt h 2 [])
 exact Gc 8 Z (Rt h 2 [])
def F_q(n:Nat)(d:Course)(a:Int):Option Bool:=((bif decide (0<=a)then some (decide (a<(d.Mats.length:Int)))else some false):Option Bool).bind λb2=>some b2
theorem k_q(n:Nat)(d:Course)(e:Int):Ks (F_q n d e) 39 [.agg (Course.c d),I e] [] (λr=>.bool r):=by
 refine Kg 7 func39 Z Z Z Z λr h=>Bd h λb2 a h=>?_;refine Ct b2 [] [] (λb2=>[(4,.bool b2)]) Ze Zf ?_ (λenv H f=>?_)
 .refine G0 4 Z (Is 7 a Z (λg a=>?_) (λg a=>?_))
  .exact Go 3 Z (Lm Z (Go 4 Z (Cl a [])))
  .exact Go 8 Z (Cl a [])
 exact Gx 1 Z (Qd f (Gc 1 Z (Rt h 4 [])))
def F_an(n:Nat)(a:Int):Option Bool:=((bif decide ((-1099511627776)<=a)then some (decide (a<=1099511627776))else some false):Option Bool).bind λb2=>some b2
theorem QmQ(n:Nat)(d:Int):Ks (F_an n d) 46 [I d] [] (λr=>.bool r):=by
 refine Kg 6 func46 Z Z Z Z λr h=>Bd h λb2 a h=>?_;refine Ct b2 [] [] (λb2=>[(2,.bool b2)]) Ze Zf ?_ (λenv H e=>?_)
 .refine G0 4 Z (Is 5 a Z (λf a=>?_) (λf a=>?_))
  iterate 2 exact Go 5 Z (Cl a [])
 exact Gx 1 Z (Qd e (Gc 1 Z (Rt h 2 [])))
def F_ch(n:Nat)(a:Int)(d:Int):Option (Int×Int):=((bif decide (a<(-2199023255552))then some true else(bif decide (2199023255552<a)then some true else(bif decide (d<0)then some true else some (decide (100000<d))))):Option Bool).bind λe=>(bif e then some (0,1)else some (i64.wrap (Int.tdiv (i64.wrap ((i64.wrap ((i64.wrap ((if a<i64.wrap (0-a)then i64.wrap (0-a)else a)*d))+1000000))-1)) 1000000),0))
theorem k_ch(n:Nat)(d:Int)(e:Int):Ks (F_ch n d e) 95 [I d,I e] [] (λr=>.tup [I r.1,I r.2]):=by
 refine Kg 8 func95 Z Z Z Z λr h=>Bd h λf a h=>?_;refine Ct f [] [0,1] (λf=>[(19,.bool f)]) Ze Zf ?_ (λenv H g=>?_)
 .refine G0 4 Z (Is 8 a Z (λi a=>?_) (λi a=>?_))
  .exact Go 12 Z (Cl a [])
  .refine Go 4 Z (Is 12 a Z (λj a=>?_) (λj a=>?_))
   .exact Go 8 Z (Cl a [])
   .refine Go 4 Z (Is 16 a Z (λk a=>?_) (λk a=>?_))
    iterate 2 exact Go 4 Z (Cl a [])
 refine Gx 1 Z (Qd g (Cn Z h (λl h=>?_) (λl h=>?_)))
 .refine Gc 8 Z ?_;obtain rfl:=Oi h;exact R2 4 5 Z Z (Lr [])
 refine Gc 7 Z ?_;refine vX (I (if d<i64.wrap (0-d)then i64.wrap (0-d)else d)) (OpV.max Z Z Z Z) ?_;refine Go 4 Z ?_;refine vV (x:=(I (i64.wrap (Int.tdiv (i64.wrap ((i64.wrap ((i64.wrap ((if d<i64.wrap (0-d)then i64.wrap (0-d)else d)*e))+1000000))-1)) 1000000)))) (OpV.quo Z Z Z (by decide)) ?_;refine Go 5 Z ?_;obtain rfl:=Oi h;exact R2 4 5 Z Z (Lr [])
def F_ap(n:Nat)(a:Course)(d:Segment)(g:Int):Option Span:=(idx a.Mats d.Mat).bind λh=>((bif (h.Kind != 1)then(F_ch n (i64.wrap (g-d.Anchor)) a.Faults.Drift).bind λe=>some ({Lo:=i64.wrap (0-e.1),Hi:=i64.wrap (a.Faults.Residual+e.1):Span})else some ({Lo:=0,Hi:=a.Faults.Residual:Span})):Option Span).bind λf=>some ({Lo:=f.Lo,Hi:=f.Hi:Span})
theorem k_ap(n:Nat)(e:Course)(f:Segment)(g:Int):Kq (F_ap n e f g) 47 [.agg (Course.c e),.agg (Segment.c f),I g] [] (λr=>.agg [I r.Lo,I r.Hi]) (λr=>[.cells 44 [I r.Lo,I r.Hi]]):=by
 refine Kg 24 func47 Z Z Z Z λr h=>Bd h λm i h=>Iz i Z (Go 5 Z (Bd h λd a h=>?_));refine Ct d [2,3] [6,7] Ze (λd=>[(1,.cells 44 [I d.Lo,I d.Hi])]) Zf ?_ (λenv H j=>?_)
 .refine G0 0 Z (Cn Z a (λk a=>?_) (λk a=>?_))
  .exact Gc 9 Z (Cd [] a (k_ch _ _ _) Z λp l a=>FE Z (Go 21 Z (Cl a [2,3])))
  exact Gc 1 Z (Cl a [2,3])
 refine Gx 1 Z (Qd j (Gc 7 Z ?_));obtain rfl:=Oi h;exact Rx [0] [6] Z (Q3 Z (Qg E3 EW Z Z Z)) ⟨Z,Z⟩
def F_jk(n:Nat)(d:Course)(e:Segment)(f:Int):Option (Span×Int):=(F_x n d).bind λg=>(bif (g != 0)then some ({Lo:=0,Hi:=0:Span},g)else((F_q n d e.Mat).bind λh=>(bif (!h)then some true else(F_an n f).bind λi=>(bif (!i)then some true else(F_an n e.Anchor).bind λj=>some (!j))):Option Bool).bind λk=>(bif k then some ({Lo:=0,Hi:=0:Span},1)else(F_ap n d e f).bind λa=>some ({Lo:=a.Lo,Hi:=a.Hi:Span},0)))
theorem k_jk(n:Nat)(i:Course)(j:Segment)(k:Int):Kq (F_jk n i j k) 15 [.agg (Course.c i),.agg (Segment.c j),I k] [] (λr=>.tup [.agg [I r.1.Lo,I r.1.Hi],I r.2]) (λr=>[.cells 44 [I r.1.Lo,I r.1.Hi]]):=by
 refine Kg 12 func15 Z Z Z Z λr h=>Cz [] h (k_x _ _) Z λB u h=>Go 9 Z (Cn Z h (λl h=>?_) (λl h=>?_))
 .refine Gc 10 Z ?_;obtain rfl:=Oi h;exact Rx [2] [6,7] Z (Qt Z Z (Qka.cons (Qg E3 EW Z Z Z) (Qka.cons Qev.tmp Qka.nil))) ⟨Z,Z⟩
 refine Gc 4 Z (Bd h λd a h=>?_);refine Ct d [0,1,2] [2,3,4,6] (λd=>[(29,.bool d)]) Ze Zf ?_ (λenv H m=>?_)
 .refine G0 4 Z (Cz [] a (k_q _ _ _) Z λw p a=>Go 2 Z (Is 19 a Z (λe a=>?_) (λe a=>?_)))
  .exact Go 11 Z (Cl a [0,1,2])
  .refine Go 1 Z (Cz [] a (QmQ _ _) Z λx q a=>Go 3 Z (Is 24 a Z (λf a=>?_) (λf a=>?_)))
   .exact Go 6 Z (Cl a [0,1,2])
   .exact Go 2 Z (Cz [] a (QmQ _ _) Z λy s a=>Go 3 Z (Cl a [0,1,2]))
 refine Gx 1 Z (Qd m (Cn Z h (λg h=>?_) (λg h=>?_)))
 .refine Gc 9 Z ?_;obtain rfl:=Oi h;exact Rx [2] [6,7] Z (Qt Z Z (Qka.cons (Qg E3 EW Z Z Z) (Qka.cons Qev.tmp Qka.nil))) ⟨Z,Z⟩
 refine Gc 7 Z (Cd [] h (k_ap _ _ _ _) Z λz t h=>FE Z (Go 5 Z ?_));obtain rfl:=Oi h;exact Rx [2] [6,7] Z (Qt Z Z (Qka.cons (Qg E3 EW Z Z Z) (Qka.cons Qev.tmp Qka.nil))) ⟨Z,Z⟩
def F_y(n:Nat)(a:List Fact)(d:Int):Option Unit:=some ()
theorem k_y(n:Nat)(a:List Fact)(d:Int):Kq (F_y n a d) 40 [.rsl 57 (map Fact.c a),I d] [] (λ_=>.fn (.func 75) [] [.ptr 0 0,.ptr 1 0]) (λ_=>[.cells 34 [.rsl 57 (map Fact.c a)],.cells 3 [I d]]):=by
 refine Kg 2 func40 Z Z Z Z λr h=>?_;refine vH (OpH.box Z Z Z Z Z) ?_;exact FE Z (Go 11 Z (Rt h 4 [0,1]))
def F_gf(n:Nat)(a:List Fact):Option (List Fact):=isNil a (some []) ((app ([]:List Fact) a).bind λd=>some d)
theorem k_gf(n:Nat)(a:List Fact):Kq (F_gf n a) 77 [.rsl 57 (map Fact.c a)] [] (λr=>.osl 0 0 r.length 57) (λr=>[.row 96 57 (map Fact.c r)]):=by
 refine Kg 9 func77 Z Z Z Z λr h=>?_;refine Qnv (e:=Fact.c) (l:=a) GG Z (λb1 d=>?_);have hkb1:=QmT h b1 d;cases b1
 .have h:=hkb1.2 Z;refine Go 7 Z ?_;refine vH (Ek (xs:=[]) (es:=map Fact.c []) QaX Z Z Z Z Z trivial Z Z) ?_;refine FE Z (Go 1 Z (Bd h λg f h=>?_));refine vH (Qp (e:=Fact.c) f QaX EB Qb8) ?_;exact FE Z (Go 4 Z (Rt h 2 [1]))
 .have h:=hkb1.1 Z;refine Go 10 Z ?_;obtain rfl:=Oi h;refine R1 2 Z ?_;refine En (Er (s:=2) (k:=57) (t:=96) (XQ Z) Z) ?_;exact Lr [0]
end Go.Sw
