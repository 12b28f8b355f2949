/- What the functions compute that PenaltiesCasesSpec reaches, and that their calls refine it (part 1 of 5). -/
import Derived.Test.YtdlojdpflfdgcaaGreatDoorW22CsB
set_option linter.unusedVariables false
set_option linter.unusedSimpArgs false
set_option maxRecDepth 100000
set_option maxHeartbeats 4000000
namespace Go.Sw
variable (n:Nat)
open List(map)
open Int(toNat)
open Go.IntKind(i64 u64 u8)
open Go.Proofs Tryz
def F_hn(n:Nat):Option Unit:=some ()
theorem k_hn:Kq (F_hn n) 15 [] [] (λ_=>.agg [.str [97],.osl 0 0 ([{Name:=[108,105,110,101],Kind:=1:Mat},{Name:=[103,111,97,108],Kind:=3:Mat}].length) 2,.osl 1 0 ([{From:=0,To:=1,Min:=0,Max:=50:Leg}].length) 4,.osl 2 0 ([{Name:=[100],Route:=[Us,{Us with Mat:=1:Part}],Timing:=1,Cutoffs:=[],Extra:=(-1):Distance}].length) 5,.osl 3 0 ([{Name:=[119],Gun:=0:Wave}].length) 2,.osl 4 0 ([{Name:=[100,114,97,102,116,105,110,103],Time:=60,Laps:=0,Out:=false:Offence},{Name:=[115,104,111,114,116,99,117,116],Time:=0,Laps:=2,Out:=false:Offence}].length) 4,.rsl 3 (map Category.c []),.rsl 4 (map Prize.c []),.osl 5 0 ([{UA with Kind:=1,By:=5:Step}].length) 8,I 0,I 0,I 0,I 0,I 0,I 0,I 0]) (λ_=>[.row 116 2 (map Mat.c [{Name:=[108,105,110,101],Kind:=1:Mat},{Name:=[103,111,97,108],Kind:=3:Mat}]),.row 118 4 (map Leg.c [{From:=0,To:=1,Min:=0,Max:=50:Leg}]),.row 100 5 (map Distance.c [{Name:=[100],Route:=[Us,{Us with Mat:=1:Part}],Timing:=1,Cutoffs:=[],Extra:=(-1):Distance}]),.row 112 2 (map Wave.c [{Name:=[119],Gun:=0:Wave}]),.row 114 4 (map Offence.c [{Name:=[100,114,97,102,116,105,110,103],Time:=60,Laps:=0,Out:=false:Offence},{Name:=[115,104,111,114,116,99,117,116],Time:=0,Laps:=2,Out:=false:Offence}]),.row 110 8 (map Step.enc [{UA with Kind:=1,By:=5:Step}]),.cells 33 [.str [97],.osl 0 0 ([{Name:=[108,105,110,101],Kind:=1:Mat},{Name:=[103,111,97,108],Kind:=3:Mat}].length) 2,.osl 1 0 ([{From:=0,To:=1,Min:=0,Max:=50:Leg}].length) 4,.osl 2 0 ([{Name:=[100],Route:=[Us,{Us with Mat:=1:Part}],Timing:=1,Cutoffs:=[],Extra:=(-1):Distance}].length) 5,.osl 3 0 ([{Name:=[119],Gun:=0:Wave}].length) 2,.osl 4 0 ([{Name:=[100,114,97,102,116,105,110,103],Time:=60,Laps:=0,Out:=false:Offence},{Name:=[115,104,111,114,116,99,117,116],Time:=0,Laps:=2,Out:=false:Offence}].length) 4,.rsl 3 (map Category.c []),.rsl 4 (map Prize.c []),.osl 5 0 ([{UA with Kind:=1,By:=5:Step}].length) 8,I 0,I 0,I 0,I 0,I 0,I 0,I 0]]):=by
 refine Kg 8 func15 Z Z Z Z λr h=>vH (Ek (xs:=[.tmp 1]) el_29 Z Z Z Z Z ⟨Z,trivial⟩ Z Z) (Fg 1 Z Z (vH (Ek (xs:=[.tmp 3]) el_25 Z Z Z Z Z ⟨Z,trivial⟩ Z Z) ?_));refine Fg 2 Z Z (vH (Ek (xs:=[.tmp 5,.tmp 6]) el_26 Z Z Z Z Z ⟨Z,Z,trivial⟩ Z Z) (Fg 2 Z Z (vH (Ek (xs:=[.tmp 8,.tmp 9]) el_22 Z Z Z Z Z ⟨Z,Z,trivial⟩ Z Z) ?_)));refine Fg 1 Z Z (vH (Ek (xs:=[.tmp 11]) el_23 Z Z Z Z Z ⟨Z,trivial⟩ Z Z) (Fg 2 Z Z (vH (Ek (xs:=[.tmp 13,.tmp 14]) el_97 Z Z Z Z Z ⟨Z,Z,trivial⟩ Z Z) ?_)));refine Fg 1 Z Z (QG (Jm [(15,_),(16,_)] Z Z (Qpf.cons Z Eo (Qpf.cons Z (FzA.agg (Ed (Ee _) (Ed Eo (Ej _)))) Qpf.nil)) (Ec (Ec (Ec (Ec (Ec (Ec (Ec (YD _))))))))) ?_);refine vH (Ek (xs:=[.tmp 16]) el_24 Z Z Z Z Z ⟨Z,trivial⟩ Z Z) (Fg 5 Z Z ?_);exact Rx [4,5,7,2,3,1,0] [0] Z (Yd Z (Qg isAgg33 sizeOf33 Z Z Z)) ⟨Z,Z⟩
def F_fx(n:Nat)(g:List Part)(h:Int)(rec7:(List Part)->Int->Option (Int×Int))(a:Int×Int×Int):Option (Ctl (Int×Int×Int) (Int×Int)):=(bif decide (a.2.2<(g.length:Int))then((idx g a.2.2).bind λe=>((bif ((e.Parts.length:Int)==0)then some true else(bif (h==0)then some true else some (decide (256<a.2.1)))):Option Bool).bind λi=>(bif i then some (a.1,a.2.1)else(rec7 e.Parts (i64.wrap (h-1))).bind λd=>some ((if a.1<i64.wrap (d.1+1)then i64.wrap (d.1+1)else a.1),i64.wrap (a.2.1+d.2))):Option (Int×Int)).bind λf=>some (.cont (f.1,f.2,i64.wrap (a.2.2+1)))else some (.done (a.1,a.2.1)))
def B_u(rec7:(List Part)->Int->Option (Int×Int))(n:Nat)(d:List Part)(e:Int):Option (Int×Int):=(iter (F_fx n d e rec7) n (0,(d.length:Int),0):Option (Int×Int)).bind λa=>some (a.1,a.2)
theorem QdR(rec7:(List Part)->Int->Option (Int×Int))(m:∀(j:List Part) (k:Int) (r:Int×Int),rec7 j k=some r->Csm prog 73 [.rsl 3 (map Part.enc j),I k] [] (λr=>.tup [I r.1,I r.2]) r)(n:Nat)(j:List Part)(k:Int)(r:Int×Int)(h:B_u rec7 n j k=some r):Csm prog 73 [.rsl 3 (map Part.enc j),I k] [] (λr=>.tup [I r.1,I r.2]) r:=by
 refine QE func73 Z Z Z (G0 9 Z (Lg 7 Z Z (Lg 3 Z Z (Bd h λf x h=>Cg f [] [] (λf=>[(4,I f.1),(5,I f.2)]) Ze Zf ?_ ?_))))
 .refine G0 1 Z (Lp [] [1,12,13] (λg=>[(4,I g.1),(5,I g.2.1),(14,I g.2.2)]) Ze x Zf (Lr []) λg B e p=>?_);refine G0 6 Z (Q8 Z e (λ_ e=>?_) (λ_ e=>?_))
  .exact Gc 2 Z (Ql e (Gx 1 Z (cQo p e (Lr []))))
  refine Gc 3 Z (Bd e λi a e=>Cg i [] [1,12,13,14] (λi=>[(4,I i.1),(5,I i.2)]) Ze Zf ?_ ?_)
  .refine G0 3 Z (Bd a λy s a=>IzE s (Q4 y) Z (Go 7 Z (Bd a λl d a=>Cg l [0] [1,4,5,7,12,13,14] (λl=>[(29,.bool l)]) Ze Zf ?_ ?_)))
   .refine G0 3 Z (Lg 2 Z Z (Is 22 d Z (λ_ d=>?_) (λ_ d=>?_)))
    .exact Gl 8 Z d [0]
    .refine Go 4 Z (Is 26 d Z (λ_ d=>?_) (λ_ d=>?_))
     iterate 2 exact Gl 4 Z d [0]
   refine Cn Z a (λ_ a=>?_) (λ_ a=>?_)
   .exact YC 3 Z a []
   refine Gc 8 Z (Cd [] a (m _ _) Z λE z a=>Fg 11 Z Z (vV (OpV.max Z Z Z Z) ?_));exact Gl 7 Z a []
  exact Gc 4 Z (Qj e (Lr []))
 refine Gc 9 Z ?_;obtain rfl:=Oi h;exact R2 4 5 Z Z (Lr [])
def F_u:Nat->(List Part)->Int->Option (Int×Int)
  |0=>λ_ _=>none
  |n+1=>B_u (F_u n) n
theorem k_u:∀(a:List Part) (d:Int) (r:Int×Int),F_u n a d=some r->Csm prog 73 [.rsl 3 (map Part.enc a),I d] [] (λr=>.tup [I r.1,I r.2]) r:=by
  induction n with
  |zero=>intro a d r h;cases h
  |succ n ih=>intro a d r h;exact QdR _ ih n a d r h
def F_lk(f:Course)(a:Int):Option (Ctl Int (Ctl Unit Bool)):=(bif decide (a<(f.Distances.length:Int))then(idx f.Distances a).bind λd=>(F_u n d.Route 17).bind λe=>((bif decide (64<(d.Cutoffs.length:Int))then some true else(bif decide (16<e.1)then some true else some (decide (256<e.2)))):Option Bool).bind λg=>(bif g then some (.done (.done false))else some (.cont (i64.wrap (a+1))))else some (.done (.cont ())))
def F_cs(a:Course):Option Bool:=((bif decide (40<(a.Mats.length:Int))then some true else(bif decide (512<(a.Legs.length:Int))then some true else(bif decide (8<(a.Distances.length:Int))then some true else(bif decide (32<(a.Waves.length:Int))then some true else(bif decide (32<(a.Offences.length:Int))then some true else(bif decide (32<(a.Categories.length:Int))then some true else some (decide (32<(a.Prizes.length:Int))))))))):Option Bool).bind λf=>(bif f then some false else(iter (F_lk n a) n 0:Option (Ctl Unit Bool)).bind λe=>match e with|.cont d=>(some true)|.done d=>some d)
theorem k_cs(z:Course):Ks (F_cs n z) 37 [.agg (Course.c z)] [] (λr=>.bool r):=by
 refine Kg 8 func37 Z Z Z Z λr h=>Bd h λj d h=>Ct j [0] [1] (λj=>[(46,.bool j)]) Ze Zf ?_ (λenv H B=>?_)
 .refine G0 3 Z (Lg 2 Z Z (Is 11 d Z (λ_ d=>?_) (λ_ d=>?_)))
  .exact Gl 36 Z d [0]
  .refine Go 2 Z (Lg 3 Z Z (Is 17 d Z (λ_ d=>?_) (λ_ d=>?_)))
   .exact Gl 30 Z d [0]
   .refine Go 2 Z (Lg 3 Z Z (Is 23 d Z (λ_ d=>?_) (λ_ d=>?_)))
    .exact Gl 24 Z d [0]
    .refine Go 2 Z (Lg 3 Z Z (Is 29 d Z (λ_ d=>?_) (λ_ d=>?_)))
     .exact Gl 18 Z d [0]
     .refine Go 2 Z (Lg 3 Z Z (Is 35 d Z (λ_ d=>?_) (λ_ d=>?_)))
      .exact Gl 12 Z d [0]
      .refine Go 2 Z (Lg 3 Z Z (Is 41 d Z (λ_ d=>?_) (λ_ d=>?_)))
       .exact Gl 6 Z d [0]
       .exact Go 2 Z (Lm Z (Gl 3 Z d [0]))
 refine Gx 1 Z (Qf B (Cn Z h (λ_ h=>?_) (λ_ h=>?_)))
 .exact QI 7 Z h 2 []
 refine Gc 7 Z (Lg 3 Z Z (Bd h λF G h=>CgE (b:=F) [] [] Ze Ze Zf ?_ (λ_ J=>?_)))
 .refine G0 1 Z (Lp [] [48,49] (λi=>[(50,I i)]) Ze G Zf (Lr []) λi N a f=>?_);refine G0 6 Z (Q8 Z a (λ_ a=>?_) (λ_ a=>?_))
  .exact Gc 2 Z (Ql a (Gx 1 Z (JN f a Z (Lr []))))
  refine Gc 6 Z (Bd a λO u a=>Iz u Z (Go 9 Z (Cd [] a (k_u _ _ _) Z λP M a=>Fg 8 Z Z (Bd a λg e a=>Cg g [] [48,49,50] (λg=>[(71,.bool g)]) Ze Zf ?_ ?_))))
  .refine G0 3 Z (Lg 2 Z Z (Is 64 e Z (λ_ e=>?_) (λ_ e=>?_)))
   .exact Gl 8 Z e []
   .refine Go 4 Z (Is 68 e Z (λ_ e=>?_) (λ_ e=>?_))
    iterate 2 exact Gl 4 Z e []
  refine Cn Z a (λ_ a=>?_) (λ_ a=>?_)
  .refine Gc 8 Z (Qx a ?_);obtain rfl:=Oj f a;exact Gx 1 Z (Qt (Gx 1 Z (Rt h 2 [])))
  exact Gc 7 Z (Qj a (Lr []))
 subst J;exact QI 6 Z h 2 []
def F_hb(n:Nat)(a:(List Int)×Int):Option (Ctl ((List Int)×Int) (List Int)):=(bif decide (a.2<=122)then(QeM 256 a.1 a.2).bind λf=>(QcM a.1 a.2 2).bind λd=>(QeM 256 d (u8.wrap (a.2-32))).bind λg=>(QcM d (u8.wrap (a.2-32)) 2).bind λe=>some (.cont (e,u8.wrap (a.2+1)))else some (.done a.1))
def F_jl(n:Nat)(a:(List Int)×Int):Option (Ctl ((List Int)×Int) (List Int)):=(bif decide (a.2<=57)then(QeM 256 a.1 a.2).bind λe=>(QcM a.1 a.2 3).bind λd=>some (.cont (d,u8.wrap (a.2+1)))else some (.done a.1))
def F_lb(n:Nat)(a:(List Int)×Int):Option (Ctl ((List Int)×Int) (List Int)):=(bif decide (a.2<([123,125,40,41,91,93,59,44,61,60,62].length:Int))then(idx [123,125,40,41,91,93,59,44,61,60,62] a.2).bind λd=>(QeM 256 a.1 d).bind λf=>(QcM a.1 d 4).bind λe=>some (.cont (e,i64.wrap (a.2+1)))else some (.done a.1))
def F_ll(n:Nat)(a:(List Int)×Int):Option (Ctl ((List Int)×Int) (List Int)):=(bif decide (a.2<(([32,9,10,13].length):Int))then(idx [32,9,10,13] a.2).bind λd=>(QeM 256 a.1 d).bind λf=>(QcM a.1 d 1).bind λe=>some (.cont (e,i64.wrap (a.2+1)))else some (.done a.1))
def F_ds:Option (List Int):=(iter (F_hb n) n (List.replicate 256 0,97):Option (List Int)).bind λd=>(iter (F_jl n) n (d,48):Option (List Int)).bind λe=>(iter (F_lb n) n (e,0):Option (List Int)).bind λf=>(iter (F_ll n) n (f,0):Option (List Int)).bind λa=>(arr 256 a).bind λg=>(arr 256 a).bind λi=>(arr 256 g).bind λh=>some h
theorem k_ds:Kq (F_ds n) 260 [] [] (λr=>.agg (List.flatten (map (Qe .u8) r))) (λr=>[.row 364 1 (map (Qe .u8) r)]):=by
 refine Kg 2 func260 Z Z Z Z λr h=>vH (Jt (n:=256) (k:=1) (e:=(Qe .u8)) (z:=0) zeroValue364 (by kernel_rfl) (by kernel_rfl) (by kernel_rfl) Z) ?_;refine Fg 8 Z Z (Bd h λw ai h=>Ct w [0] [0] Ze (λw=>[(0,.row 364 1 (map (Qe .u8) w))]) Zf ?_ (λenv H q=>?_))
 .refine G0 1 Z (Lp [0] [0] (λj=>[(1,.int .u8 j.2)]) (λj=>[(0,.row 364 1 (map (Qe .u8) j.1))]) ai Zf (Lr [0]) λj ar a O=>?_);refine G0 7 Z (Q8 Z a (λ_ a=>?_) (λ_ a=>?_))
  .exact Gc 2 Z (Ql a (Gx 1 Z (cQo O a (Lr [0]))))
  refine Gc 8 Z (Bd a λau x a=>?_);refine vX (.ptr 0 (toNat j.2*1)) (Qah (n:=256) (k:=1) (l:=j.1) x E5 E8 Z) ?_;refine Bd a λaj Q a=>?_;refine vU (J0 (e:=(Qe .u8)) (k:=1) (f:=0) (QaZ x).2 Q E8 Z Z) ?_;refine FE Z (Bd a λav y a=>?_);refine vX (.ptr 0 (toNat (u8.wrap (j.2-32))*1)) (Qah (n:=256) (k:=1) (l:=aj) y E5 E8 Z) ?_;refine Bd a λaw R a=>?_;refine vU (J0 (e:=(Qe .u8)) (k:=1) (f:=0) (QaZ y).2 R E8 Z Z) ?_;exact Fg 8 Z Z (Qj a (Lr [0]))
 refine Gx 1 Z (Qf q (Gc 6 Z (Bd h λB ak h=>Ct B [0] [0] Ze (λB=>[(0,.row 364 1 (map (Qe .u8) B))]) Zf ?_ (λenv H q=>?_))))
 .refine G0 1 Z (Lp [0] [0] (λm=>[(2,.int .u8 m.2)]) (λm=>[(0,.row 364 1 (map (Qe .u8) m.1))]) ak Zf (Lr [0]) λm ax i T=>?_);refine G0 7 Z (Q8 Z i (λ_ i=>?_) (λ_ i=>?_))
  .exact Gc 2 Z (Ql i (Gx 1 Z (cQo T i (Lr [0]))))
  refine Gc 6 Z (Bd i λay E i=>?_);refine vX (.ptr 0 (toNat m.2*1)) (Qah (n:=256) (k:=1) (l:=m.1) E E5 E8 Z) ?_;refine Bd i λaz W i=>?_;refine vU (J0 (e:=(Qe .u8)) (k:=1) (f:=0) (QaZ E).2 W E8 Z Z) ?_;exact Fg 8 Z Z (Qj i (Lr [0]))
 refine Gx 1 Z (Qf q (Gc 3 Z (vH (Ek (xs:=[.const (.int .u8 123),.const (.int .u8 125),.const (.int .u8 40),.const (.int .u8 41),.const (.int .u8 91),.const (.int .u8 93),.const (.int .u8 59),.const (.int .u8 44),.const (.int .u8 61),.const (.int .u8 60),.const (.int .u8 62)]) (es:=map (Qe .u8) [123,125,40,41,91,93,59,44,61,60,62]) YO Z Z Z Z Z ⟨Z,Z,Z,Z,Z,Z,Z,Z,Z,Z,Z,trivial⟩ Z Z) ?_)));refine FE Z (vH (Qnt (es:=map (Qe .u8) [123,125,40,41,91,93,59,44,61,60,62]) underlying239 underlying5 (XX ..) Z) ?_);refine FE Z (Lg 3 Z Z (Bd h λF al h=>Ct F [0] [0] Ze (λF=>[(0,.row 364 1 (map (Qe .u8) F))]) Zf ?_ (λenv H q=>?_)))
 .refine G0 1 Z (Lp [0] [0,23,24] (λs=>[(25,I s.2)]) (λs=>[(0,.row 364 1 (map (Qe .u8) s.1))]) al Zf (Lr [0]) λs ba d X=>?_);refine G0 6 Z (Q8 Z d (λ_ d=>?_) (λ_ d=>?_))
  .exact Gc 2 Z (Ql d (Gx 1 Z (cQo X d (Lr [0]))))
  refine Gc 6 Z (Bd d λam aa d=>Iz aa Z (Go 6 Z (Bd d λbb G d=>?_)));refine vX (.ptr 0 (toNat am*1)) (Qah (n:=256) (k:=1) (l:=s.1) G E5 E8 Z) ?_;refine Bd d λbc ab d=>?_;refine vU (J0 (e:=(Qe .u8)) (k:=1) (f:=0) (QaZ G).2 ab E8 Z Z) ?_;exact Fg 7 Z Z (Qj d (Lr [0]))
 refine Gx 1 Z (Qf q (Gc 3 Z (vH (Ek (xs:=[.const (.int .u8 32),.const (.int .u8 9),.const (.int .u8 10),.const (.int .u8 13)]) (es:=map (Qe .u8) [32,9,10,13]) YO Z Z Z Z Z ⟨Z,Z,Z,Z,trivial⟩ Z Z) ?_)));refine Fg 4 Z Z (Bd h λu an h=>Cg u [0] [0] Ze (λu=>[(0,.row 364 1 (map (Qe .u8) u))]) Zf ?_ ?_)
 .refine G0 1 Z (Lp [0,1] [0,32,33] (λp=>[(34,I p.2)]) (λp=>[(0,.row 364 1 (map (Qe .u8) p.1))]) an Zf (Lr [0,1]) λp bd g ac=>?_);refine G0 6 Z (Q8 Z g (λ_ g=>?_) (λ_ g=>?_))
  .exact Gc 2 Z (Ql g (Gx 1 Z (cQo ac g (Lr [0]))))
  refine Gc 6 Z (Bd g λN J g=>?_);refine vX (.ptr 1 (toNat p.2*1)) (Qv J Z EH E8) ?_;refine vX (.int .u8 N) (Ey Z isAgg5 Z (Qi J)) ?_;refine Go 5 Z (Bd g λbe L g=>?_);refine vX (.ptr 0 (toNat N*1)) (Qah (n:=256) (k:=1) (l:=p.1) L E5 E8 Z) ?_;refine Bd g λbf af g=>?_;refine vU (J0 (e:=(Qe .u8)) (k:=1) (f:=0) (QaZ L).2 af E8 Z Z) ?_;exact Fg 7 Z Z (Qj g (Lr [0,1]))
 refine Gc 2 Z (Bd h λao ag h=>?_);refine vX (.agg (List.flatten (map (Qe .u8) ao))) (Qj4 (e:=(Qe .u8)) ag Zf Z isAgg364 GN) ?_;refine Bd h λbg ah h=>Bd h λaq t h=>?_;obtain⟨M,rfl⟩:=JH ah;refine vU (Js (e:=(Qe .u8)) (l:=u) (l':=aq) M (Qby t) Zf Z GN Zf Zf (congrArg (λl=>List.flatten (map (Qe .u8) l)) (JH t).2.symm)) ?_;refine Fg 3 Z Z ?_;obtain rfl:=Oi h;exact Rx [0] [0] Z (Yd Z (Qni (e:=(Qe .u8)) (Qby t) Zf Z isAgg364 GN)) ⟨Z,Z⟩
def F_kk(n:Nat)(e:List UInt8)(i:List Int)(a:Int):Option (Ctl Int (Ctl Unit Bool)):=(bif decide (a<(e.length:Int))then(idx e a).bind λf=>(QeM 256 i (f.toNat:Int)).bind λd=>((bif (d != 2)then(bif (a==0)then some true else(bif (d != 3)then(idx e a).bind λg=>some ((g.toNat:Int) != 95)else some false))else some false):Option Bool).bind λh=>(bif h then some (.done (.done false))else some (.cont (i64.wrap (a+1))))else some (.done (.cont ())))
def F_do(d:List UInt8):Option Bool:=(F_ds n).bind λf=>(arr 256 (List.replicate 256 0)).bind λh=>(arr 256 f).bind λg=>(iter (F_kk n d g) n 0:Option (Ctl Unit Bool)).bind λe=>match e with|.cont a=>(some (d != []))|.done a=>some a
theorem k_do(q:List UInt8):Ks (F_do n q) 201 [.str q] [] (λr=>.bool r):=by
 refine Kg 7 func201 Z Z Z Z λr h=>Bd h λG J h=>?_;refine QD [] (OpC.fn call260 Z Z Z) (k_ds _ _ J) ?_;rintro _ _ ⟨rfl,rfl⟩;refine Qq6 (x:=(.agg (List.flatten (map (Qe .u8) G)))) (H:=[.row 364 1 (map (Qe .u8) G)]) (Qpv (e:=(Qe .u8)) Zf _ _) Z ?_;refine vH (Jt (n:=256) (k:=1) (e:=(Qe .u8)) (z:=0) zeroValue364 (by kernel_rfl) (by kernel_rfl) (by kernel_rfl) Z) ?_;refine FE Z (Bd h λW L h=>Bd h λM j h=>?_);obtain⟨s,rfl⟩:=JH L;refine vU (Js (e:=(Qe .u8)) (l:=(List.replicate 256 0)) (l':=M) s (Qby j) Zf Z GN Zf Zf (congrArg (λl=>List.flatten (map (Qe .u8) l)) (JH j).2.symm)) ?_;refine Fg 6 Z Z ?_;refine vX (I (q.length:Int)) (Jl Z Z ED Z) ?_;refine Go 3 Z (Bd h λN O h=>CgE (b:=N) [] [0] Ze Ze Zf ?_ (λ_ P=>?_))
 .refine G0 1 Z (Lp [1] [0,3,8] (λm=>[(9,I m)]) Ze O Zf (Lr [1]) λm V a f=>?_);refine G0 6 Z (Q8 Z a (λ_ a=>?_) (λ_ a=>?_))
  .exact Gc 2 Z (Ql a (Gx 1 Z (JN f a Z (Lr []))))
  refine Gc 14 Z (Bd a λp u a=>?_);refine vX (.int .u8 (p.toNat:Int)) (Q1 u ED) ?_;refine Bd a λQ g a=>?_;refine vX (.ptr 0 (toNat (p.toNat:Int)*1)) (Qah (n:=256) (k:=1) (l:=M) g E5 E8 Z) ?_;refine vX (.int .u8 Q) (Ey Z isAgg5 Z (Qi (QaZ g).2)) ?_;refine Go 4 Z (Bd a λi d a=>Cg i [0] [0,3,8,9] (λi=>[(32,.bool i)]) Ze Zf ?_ ?_)
  .refine G0 4 Z (Is 19 d Z (λ_ d=>?_) (λ_ d=>?_))
   .refine Go 3 Z (Is 22 d Z (λ_ d=>?_) (λ_ d=>?_))
    .exact Gl 11 Z d [0]
    .refine Go 3 Z (Is 25 d Z (λ_ d=>?_) (λ_ d=>?_))
     .refine Go 2 Z (Bd d λR E d=>?_);refine vX (.int .u8 (R.toNat:Int)) (Q1 E ED) ?_ (gT Z);exact Gl 5 Z d [0]
     .exact Gl 8 Z d [0]
   .exact Gl 14 Z d [0]
  refine Cn Z a (λ_ a=>?_) (λ_ a=>?_)
  .refine Gc 8 Z (Qx a ?_);obtain rfl:=Oj f a;exact Gx 1 Z (Qt (Gx 1 Z (Rt h 2 [])))
  exact Gc 7 Z (Qj a (Lr [0]))
 subst P;exact QI 8 Z h 2 []
def F_gn(a:List UInt8):Option Bool:=((F_do n a).bind λg=>(bif g then(cat [32] a).bind λd=>(cat d [32]).bind λe=>(QfI [32,99,111,117,114,115,101,32,109,97,116,115,32,115,116,97,114,116,32,112,97,115,115,32,101,110,100,32,108,101,103,32,116,111,32,100,105,115,116,97,110,99,101,32,103,117,110,32,99,104,105,112,32,115,108,111,116,32,108,97,112,115,32,108,97,112,32,99,117,116,111,102,102,32,101,120,116,114,97,32,119,97,118,101,32,111,102,102,101,110,99,101,32,111,117,116,32,99,97,116,101,103,111,114,121,32,112,114,105,122,101,32,97,108,108,32,116,105,101,115,32,105,102,32,101,108,115,101,32,97,110,100,32,111,114,32,110,111,116,32,111,108,100,101,114,32,121,111,117,110,103,101,114,32,98,105,98,32,100,114,97,119,32,102,105,101,108,100,32,115,104,111,114,116,32,102,97,117,108,116,115,32,109,105,115,115,101,115,32,115,116,114,97,121,115,32,119,105,110,100,111,119,32,114,101,115,105,100,117,97,108,32,100,114,105,102,116,32,112,114,111,116,101,115,116,32,102,101,101,32,100,101,97,100,108,105,110,101,32] e).bind λf=>some f else some false):Option Bool).bind λh=>some h
theorem k_gn(i:List UInt8):Ks (F_gn n i) 149 [.str i] [] (λr=>.bool r):=by
 refine Kg 6 func149 Z Z Z Z λr h=>Bd h λd a h=>Cg d [] [] (λd=>[(2,.bool d)]) Ze Zf ?_ ?_
 .refine G0 2 Z (Cz [] a (k_do _ _) Z λq k a=>Go 1 Z (Is 5 a Z (λ_ a=>?_) (λ_ a=>?_)))
  .refine Go 1 Z (Bd a λl e a=>?_);refine vV (Qgq e) (Bd a λm f a=>?_) (gT Z);refine vV (Qgq f) (Bd a λp g a=>?_) (gT Z);refine QD [] (OpC.fn call202 Z Z Z) (C.contains QdV Z g) ?_ (hg:=(gT Z));rintro _ _ ⟨rfl,rfl⟩;exact FE Z (Gl 3 Z a [])
  .exact Gl 7 Z a []
 exact QI 1 Z h 2 []
def F_kd(n:Nat)(e:List UInt8)(d:Int):Option (Ctl Int (Ctl Unit Bool)):=(bif decide (d<(e.length:Int))then(idx e d).bind λa=>((bif decide ((a.toNat:Int)<97)then(bif decide ((a.toNat:Int)<48)then some ((a.toNat:Int) != 95)else(bif decide (57<(a.toNat:Int))then some ((a.toNat:Int) != 95)else some false))else(bif decide (122<(a.toNat:Int))then(bif decide ((a.toNat:Int)<48)then some ((a.toNat:Int) != 95)else(bif decide (57<(a.toNat:Int))then some ((a.toNat:Int) != 95)else some false))else some false)):Option Bool).bind λf=>(bif f then some (.done (.done false))else some (.cont (i64.wrap (d+1))))else some (.done (.cont ())))
def F_j(a:List UInt8):Option Bool:=((bif decide ((a.length:Int)<1)then some true else(bif decide (24<(a.length:Int))then some true else(idx a 0).bind λe=>(bif decide ((e.toNat:Int)<97)then some true else(idx a 0).bind λf=>some (decide (122<(f.toNat:Int)))))):Option Bool).bind λi=>(bif i then some false else(iter (F_kd n a) n 0:Option (Ctl Unit Bool)).bind λg=>match g with|.cont d=>((F_gn n a).bind λh=>some (!h))|.done d=>some d)
theorem k_j(f:List UInt8):Ks (F_j n f) 74 [.str f] [] (λr=>.bool r):=by
 refine Kg 7 func74 Z Z Z Z λr h=>Bd h λk e h=>Ct k [] [0] (λk=>[(22,.bool k)]) Ze Zf ?_ (λenv H F=>?_)
 .refine G0 2 Z ?_;refine vX (I (f.length:Int)) (Jl Z Z ED Z) ?_;refine Go 2 Z (Is 8 e Z (λ_ e=>?_) (λ_ e=>?_))
  .exact Gl 15 Z e []
  .refine Go 1 Z ?_;refine vX (I (f.length:Int)) (Jl Z Z ED Z) ?_ (gT Z);refine Go 3 Z (Is 13 e Z (λ_ e=>?_) (λ_ e=>?_))
   .exact Gl 10 Z e []
   .refine Go 1 Z (Bd e λL l e=>?_);refine vX (.int .u8 (L.toNat:Int)) (Q1 l ED) ?_ (gT Z);refine Go 3 Z (Is 18 e Z (λ_ e=>?_) (λ_ e=>?_))
    .exact Gl 5 Z e []
    .refine Go 1 Z (Bd e λM p e=>?_);refine vX (.int .u8 (M.toNat:Int)) (Q1 p ED) ?_ (gT Z);exact Gl 3 Z e []
 refine Gx 1 Z (Qf F (Cn Z h (λ_ h=>?_) (λ_ h=>?_)))
 .exact QI 7 Z h 2 []
 refine Gc 6 Z ?_;refine vX (I (f.length:Int)) (Jl Z Z ED Z) ?_;refine Go 3 Z (Bd h λN O h=>CgE (b:=N) [] [0] Ze Ze Zf ?_ (λ_ P=>?_))
 .refine G0 1 Z (Lp [] [0,24] (λj=>[(25,I j)]) Ze O Zf (Lr []) λj V d g=>?_);refine G0 6 Z (Q8 Z d (λ_ d=>?_) (λ_ d=>?_))
  .exact Gc 2 Z (Ql d (Gx 1 Z (JN g d Z (Lr []))))
  refine Gc 14 Z (Bd d λQ t d=>?_);refine vX (.int .u8 (Q.toNat:Int)) (Q1 t ED) ?_;refine Go 4 Z (Bd d λi a d=>Cg i [] [0,24,25] (λi=>[(48,.bool i)]) Ze Zf ?_ ?_)
  .refine G0 4 Z (Is 33 a Z (λ_ a=>?_) (λ_ a=>?_))
   .refine Go 7 Z (Is 40 a Z (λ_ a=>?_) (λ_ a=>?_))
    .exact Gl 9 Z a []
    .refine Go 5 Z (Is 45 a Z (λ_ a=>?_) (λ_ a=>?_))
     iterate 2 exact Gl 4 Z a []
   .refine Go 4 Z (Is 37 a Z (λ_ a=>?_) (λ_ a=>?_))
    .refine Go 3 Z (Is 40 a Z (λ_ a=>?_) (λ_ a=>?_))
     .exact Gl 9 Z a []
     .refine Go 5 Z (Is 45 a Z (λ_ a=>?_) (λ_ a=>?_))
      iterate 2 exact Gl 4 Z a []
    .exact Gl 12 Z a []
  refine Cn Z d (λ_ d=>?_) (λ_ d=>?_)
  .refine Gc 8 Z (Qx d ?_);obtain rfl:=Oj g d;exact Gx 1 Z (Qt (Gx 1 Z (Rt h 2 [])))
  exact Gc 7 Z (Qj d (Lr []))
 subst P;exact Gc 3 Z (Cz [] h (k_gn _ _) Z λW T h=>Gt 5 Z h 2 [])
def F_fb(n:Nat)(a:Mat):Option Unit:=some ()
theorem k_fb(a:Mat):Ks (F_fb n a) 76 [.agg (Mat.c a)] [] (λ_=>.str a.Name):=by
 exact Kg 14 func76 Z Z Z Z λr h=>Rt h 2 []
def F_lv(e:List Mat)(a:(List (List UInt8×Bool))×Int):Option (Ctl ((List (List UInt8×Bool))×Int) (Ctl Unit Bool)):=(bif decide (a.2<(e.length:Int))then(idx e a.2).bind λd=>(F_fb n d).bind λj=>((F_j n d.Name).bind λf=>(bif (!f)then some true else(some (Q2 a.1 d.Name false)).bind λg=>some g):Option Bool).bind λh=>(bif h then some (.done (.done false))else(some (QQ a.1 d.Name true)).bind λi=>some (.cont (i,i64.wrap (a.2+1))))else some (.done (.cont ())))
def F_gk(e:List Mat):Option Bool:=(iter (F_lv n e) n ([],0):Option (Ctl Unit Bool)).bind λd=>match d with|.cont a=>(some true)|.done a=>some a
theorem k_gk(q:List Mat):Ks (F_gk n q) 75 [.rsl 2 (map Mat.c q),.fn (.func 76) [] []] [] (λr=>.bool r):=by
 refine Kg 7 func75 Z Z Z Z λr h=>vH Yf ?_;refine Fg 7 Z Z (Lg 3 Z Z (Bd h λs t h=>CgE (b:=s) [] [] Ze Ze Zf ?_ (λ_ u=>?_)))
 .refine G0 1 Z (Lp [0] [1,5,10,11] (λe=>[(12,I e.2)]) (λe=>[(0,.map (Qo A.str A.bool e.1))]) t Zf (Lr [0]) λe z a f=>?_);refine G0 6 Z (Q8 Z a (λ_ a=>?_) (λ_ a=>?_))
  .exact Gc 2 Z (Ql a (Gx 1 Z (JN f a Z (Lr []))))
  refine Gc 6 Z (Bd a λB j a=>Iz j Z (Go 9 Z (Cz [] a (k_fb _ _) Z λE x a=>Go 5 Z (Bd a λg d a=>Cg g [0] [1,5,8,10,11,12] (λg=>[(26,.bool g)]) Ze Zf ?_ ?_))))
  .refine G0 2 Z (Cz [] d (k_j _ _) Z λF y d=>Go 2 Z (Is 22 d Z (λ_ d=>?_) (λ_ d=>?_)))
   .exact Gl 5 Z d [0]
   .refine Go 2 Z (Bd d λG l d=>(vV (Jk QcB l ES Gf ZR.bool) ?_ (gT Z)));exact Gl 2 Z d [0]
  refine Cn Z a (λ_ a=>?_) (λ_ a=>?_)
  .refine Gc 9 Z (Qx a ?_);obtain rfl:=Oj f a;exact Gx 1 Z (Qt (Gx 1 Z (Rt h 4 [])))
  refine Gc 5 Z (Bd a λH p a=>(vU (Ye QcB p Z ES) ?_));exact Fg 7 Z Z (Qj a (Lr [0]))
 subst u;exact QI 6 Z h 4 []
def F_fd(n:Nat)(a:Distance):Option Unit:=some ()
theorem k_fd(a:Distance):Ks (F_fd n a) 78 [.agg (Distance.c a)] [] (λ_=>.str a.Name):=by
 exact Kg 14 func78 Z Z Z Z λr h=>Rt h 2 []
def F_mo(e:List Distance)(a:(List (List UInt8×Bool))×Int):Option (Ctl ((List (List UInt8×Bool))×Int) (Ctl Unit Bool)):=(bif decide (a.2<(e.length:Int))then(idx e a.2).bind λd=>(F_fd n d).bind λj=>((F_j n d.Name).bind λf=>(bif (!f)then some true else(some (Q2 a.1 d.Name false)).bind λg=>some g):Option Bool).bind λh=>(bif h then some (.done (.done false))else(some (QQ a.1 d.Name true)).bind λi=>some (.cont (i,i64.wrap (a.2+1))))else some (.done (.cont ())))
def F_gc(e:List Distance):Option Bool:=(iter (F_mo n e) n ([],0):Option (Ctl Unit Bool)).bind λd=>match d with|.cont a=>(some true)|.done a=>some a
theorem k_gc(q:List Distance):Ks (F_gc n q) 77 [.rsl 5 (map Distance.c q),.fn (.func 78) [] []] [] (λr=>.bool r):=by
 refine Kg 7 func77 Z Z Z Z λr h=>vH Yf ?_;refine Fg 7 Z Z (Lg 3 Z Z (Bd h λs t h=>CgE (b:=s) [] [] Ze Ze Zf ?_ (λ_ u=>?_)))
 .refine G0 1 Z (Lp [0] [1,5,10,11] (λe=>[(12,I e.2)]) (λe=>[(0,.map (Qo A.str A.bool e.1))]) t Zf (Lr [0]) λe z a f=>?_);refine G0 6 Z (Q8 Z a (λ_ a=>?_) (λ_ a=>?_))
  .exact Gc 2 Z (Ql a (Gx 1 Z (JN f a Z (Lr []))))
  refine Gc 6 Z (Bd a λB j a=>Iz j Z (Go 9 Z (Cz [] a (k_fd _ _) Z λE x a=>Go 5 Z (Bd a λg d a=>Cg g [0] [1,5,8,10,11,12] (λg=>[(26,.bool g)]) Ze Zf ?_ ?_))))
  .refine G0 2 Z (Cz [] d (k_j _ _) Z λF y d=>Go 2 Z (Is 22 d Z (λ_ d=>?_) (λ_ d=>?_)))
   .exact Gl 5 Z d [0]
   .refine Go 2 Z (Bd d λG l d=>(vV (Jk QcB l ES Gf ZR.bool) ?_ (gT Z)));exact Gl 2 Z d [0]
  refine Cn Z a (λ_ a=>?_) (λ_ a=>?_)
  .refine Gc 9 Z (Qx a ?_);obtain rfl:=Oj f a;exact Gx 1 Z (Qt (Gx 1 Z (Rt h 4 [])))
  refine Gc 5 Z (Bd a λH p a=>(vU (Ye QcB p Z ES) ?_));exact Fg 7 Z Z (Qj a (Lr [0]))
 subst u;exact QI 6 Z h 4 []
def F_fn(n:Nat)(a:Wave):Option Unit:=some ()
theorem k_fn(a:Wave):Ks (F_fn n a) 80 [.agg (Wave.c a)] [] (λ_=>.str a.Name):=by
 exact Kg 14 func80 Z Z Z Z λr h=>Rt h 2 []
def F_na(e:List Wave)(a:(List (List UInt8×Bool))×Int):Option (Ctl ((List (List UInt8×Bool))×Int) (Ctl Unit Bool)):=(bif decide (a.2<(e.length:Int))then(idx e a.2).bind λd=>(F_fn n d).bind λj=>((F_j n d.Name).bind λf=>(bif (!f)then some true else(some (Q2 a.1 d.Name false)).bind λg=>some g):Option Bool).bind λh=>(bif h then some (.done (.done false))else(some (QQ a.1 d.Name true)).bind λi=>some (.cont (i,i64.wrap (a.2+1))))else some (.done (.cont ())))
def F_ev(e:List Wave):Option Bool:=(iter (F_na n e) n ([],0):Option (Ctl Unit Bool)).bind λd=>match d with|.cont a=>(some true)|.done a=>some a
theorem k_ev(q:List Wave):Ks (F_ev n q) 79 [.rsl 2 (map Wave.c q),.fn (.func 80) [] []] [] (λr=>.bool r):=by
 refine Kg 7 func79 Z Z Z Z λr h=>vH Yf ?_;refine Fg 7 Z Z (Lg 3 Z Z (Bd h λs t h=>CgE (b:=s) [] [] Ze Ze Zf ?_ (λ_ u=>?_)))
 .refine G0 1 Z (Lp [0] [1,5,10,11] (λe=>[(12,I e.2)]) (λe=>[(0,.map (Qo A.str A.bool e.1))]) t Zf (Lr [0]) λe z a f=>?_);refine G0 6 Z (Q8 Z a (λ_ a=>?_) (λ_ a=>?_))
  .exact Gc 2 Z (Ql a (Gx 1 Z (JN f a Z (Lr []))))
  refine Gc 6 Z (Bd a λB j a=>Iz j Z (Go 9 Z (Cz [] a (k_fn _ _) Z λE x a=>Go 5 Z (Bd a λg d a=>Cg g [0] [1,5,8,10,11,12] (λg=>[(26,.bool g)]) Ze Zf ?_ ?_))))
  .refine G0 2 Z (Cz [] d (k_j _ _) Z λF y d=>Go 2 Z (Is 22 d Z (λ_ d=>?_) (λ_ d=>?_)))
   .exact Gl 5 Z d [0]
   .refine Go 2 Z (Bd d λG l d=>(vV (Jk QcB l ES Gf ZR.bool) ?_ (gT Z)));exact Gl 2 Z d [0]
  refine Cn Z a (λ_ a=>?_) (λ_ a=>?_)
  .refine Gc 9 Z (Qx a ?_);obtain rfl:=Oj f a;exact Gx 1 Z (Qt (Gx 1 Z (Rt h 4 [])))
  refine Gc 5 Z (Bd a λH p a=>(vU (Ye QcB p Z ES) ?_));exact Fg 7 Z Z (Qj a (Lr [0]))
 subst u;exact QI 6 Z h 4 []
def F_fv(n:Nat)(a:Offence):Option Unit:=some ()
theorem k_fv(a:Offence):Ks (F_fv n a) 82 [.agg (Offence.c a)] [] (λ_=>.str a.Name):=by
 exact Kg 14 func82 Z Z Z Z λr h=>Rt h 2 []
def F_nf(e:List Offence)(a:(List (List UInt8×Bool))×Int):Option (Ctl ((List (List UInt8×Bool))×Int) (Ctl Unit Bool)):=(bif decide (a.2<(e.length:Int))then(idx e a.2).bind λd=>(F_fv n d).bind λj=>((F_j n d.Name).bind λf=>(bif (!f)then some true else(some (Q2 a.1 d.Name false)).bind λg=>some g):Option Bool).bind λh=>(bif h then some (.done (.done false))else(some (QQ a.1 d.Name true)).bind λi=>some (.cont (i,i64.wrap (a.2+1))))else some (.done (.cont ())))
def F_ey(e:List Offence):Option Bool:=(iter (F_nf n e) n ([],0):Option (Ctl Unit Bool)).bind λd=>match d with|.cont a=>(some true)|.done a=>some a
theorem k_ey(q:List Offence):Ks (F_ey n q) 81 [.rsl 4 (map Offence.c q),.fn (.func 82) [] []] [] (λr=>.bool r):=by
 refine Kg 7 func81 Z Z Z Z λr h=>vH Yf ?_;refine Fg 7 Z Z (Lg 3 Z Z (Bd h λs t h=>CgE (b:=s) [] [] Ze Ze Zf ?_ (λ_ u=>?_)))
 .refine G0 1 Z (Lp [0] [1,5,10,11] (λe=>[(12,I e.2)]) (λe=>[(0,.map (Qo A.str A.bool e.1))]) t Zf (Lr [0]) λe z a f=>?_);refine G0 6 Z (Q8 Z a (λ_ a=>?_) (λ_ a=>?_))
  .exact Gc 2 Z (Ql a (Gx 1 Z (JN f a Z (Lr []))))
  refine Gc 6 Z (Bd a λB j a=>Iz j Z (Go 9 Z (Cz [] a (k_fv _ _) Z λE x a=>Go 5 Z (Bd a λg d a=>Cg g [0] [1,5,8,10,11,12] (λg=>[(26,.bool g)]) Ze Zf ?_ ?_))))
  .refine G0 2 Z (Cz [] d (k_j _ _) Z λF y d=>Go 2 Z (Is 22 d Z (λ_ d=>?_) (λ_ d=>?_)))
   .exact Gl 5 Z d [0]
   .refine Go 2 Z (Bd d λG l d=>(vV (Jk QcB l ES Gf ZR.bool) ?_ (gT Z)));exact Gl 2 Z d [0]
  refine Cn Z a (λ_ a=>?_) (λ_ a=>?_)
  .refine Gc 9 Z (Qx a ?_);obtain rfl:=Oj f a;exact Gx 1 Z (Qt (Gx 1 Z (Rt h 4 [])))
  refine Gc 5 Z (Bd a λH p a=>(vU (Ye QcB p Z ES) ?_));exact Fg 7 Z Z (Qj a (Lr [0]))
 subst u;exact QI 6 Z h 4 []
def F_gj(n:Nat)(a:Category):Option Unit:=some ()
theorem k_gj(a:Category):Ks (F_gj n a) 84 [.agg (Category.c a)] [] (λ_=>.str a.Name):=by
 exact Kg 14 func84 Z Z Z Z λr h=>Rt h 2 []
def F_mv(e:List Category)(a:(List (List UInt8×Bool))×Int):Option (Ctl ((List (List UInt8×Bool))×Int) (Ctl Unit Bool)):=(bif decide (a.2<(e.length:Int))then(idx e a.2).bind λd=>(F_gj n d).bind λj=>((F_j n d.Name).bind λf=>(bif (!f)then some true else(some (Q2 a.1 d.Name false)).bind λg=>some g):Option Bool).bind λh=>(bif h then some (.done (.done false))else(some (QQ a.1 d.Name true)).bind λi=>some (.cont (i,i64.wrap (a.2+1))))else some (.done (.cont ())))
def F_fo(e:List Category):Option Bool:=(iter (F_mv n e) n ([],0):Option (Ctl Unit Bool)).bind λd=>match d with|.cont a=>(some true)|.done a=>some a
theorem k_fo(q:List Category):Ks (F_fo n q) 83 [.rsl 3 (map Category.c q),.fn (.func 84) [] []] [] (λr=>.bool r):=by
 refine Kg 7 func83 Z Z Z Z λr h=>vH Yf ?_;refine Fg 7 Z Z (Lg 3 Z Z (Bd h λs t h=>CgE (b:=s) [] [] Ze Ze Zf ?_ (λ_ u=>?_)))
 .refine G0 1 Z (Lp [0] [1,5,10,11] (λe=>[(12,I e.2)]) (λe=>[(0,.map (Qo A.str A.bool e.1))]) t Zf (Lr [0]) λe z a f=>?_);refine G0 6 Z (Q8 Z a (λ_ a=>?_) (λ_ a=>?_))
  .exact Gc 2 Z (Ql a (Gx 1 Z (JN f a Z (Lr []))))
  refine Gc 6 Z (Bd a λB j a=>Iz j Z (Go 9 Z (Cz [] a (k_gj _ _) Z λE x a=>Go 5 Z (Bd a λg d a=>Cg g [0] [1,5,8,10,11,12] (λg=>[(26,.bool g)]) Ze Zf ?_ ?_))))
  .refine G0 2 Z (Cz [] d (k_j _ _) Z λF y d=>Go 2 Z (Is 22 d Z (λ_ d=>?_) (λ_ d=>?_)))
   .exact Gl 5 Z d [0]
   .refine Go 2 Z (Bd d λG l d=>(vV (Jk QcB l ES Gf ZR.bool) ?_ (gT Z)));exact Gl 2 Z d [0]
  refine Cn Z a (λ_ a=>?_) (λ_ a=>?_)
  .refine Gc 9 Z (Qx a ?_);obtain rfl:=Oj f a;exact Gx 1 Z (Qt (Gx 1 Z (Rt h 4 [])))
  refine Gc 5 Z (Bd a λH p a=>(vU (Ye QcB p Z ES) ?_));exact Fg 7 Z Z (Qj a (Lr [0]))
 subst u;exact QI 6 Z h 4 []
def F_ge(a:Course):Option Bool:=((F_j n a.Name).bind λd=>(bif d then(F_gk n a.Mats).bind λe=>(bif e then(F_gc n a.Distances).bind λf=>(bif f then(F_ev n a.Waves).bind λg=>(bif g then(F_ey n a.Offences).bind λh=>(bif h then(F_fo n a.Categories).bind λi=>some i else some false)else some false)else some false)else some false)else some false):Option Bool).bind λj=>some j
theorem k_ge(k:Course):Ks (F_ge n k) 38 [.agg (Course.c k)] [] (λr=>.bool r):=by
 refine Kg 7 func38 Z Z Z Z λr h=>Bd h λd a h=>Cg d [] [] (λd=>[(2,.bool d)]) Ze Zf ?_ ?_
 .refine G0 3 Z (Cz [] a (k_j _ _) Z λu l a=>Go 1 Z (Is 6 a Z (λ_ a=>?_) (λ_ a=>?_)))
  .refine Go 2 Z (Cz [] a (k_gk _ _) Z λw m a=>Go 2 Z (Is 11 a Z (λ_ a=>?_) (λ_ a=>?_)))
   .refine Go 2 Z (Cz [] a (k_gc _ _) Z λx p a=>Go 2 Z (Is 16 a Z (λ_ a=>?_) (λ_ a=>?_)))
    .refine Go 2 Z (Cz [] a (k_ev _ _) Z λy q a=>Go 2 Z (Is 21 a Z (λ_ a=>?_) (λ_ a=>?_)))
     .refine Go 2 Z (Cz [] a (k_ey _ _) Z λz s a=>Go 2 Z (Is 26 a Z (λ_ a=>?_) (λ_ a=>?_)))
      .exact Go 2 Z (Cz [] a (k_fo _ _) Z λB t a=>Gl 3 Z a [])
      .exact Gl 6 Z a []
     .exact Gl 11 Z a []
    .exact Gl 16 Z a []
   .exact Gl 21 Z a []
  .exact Gl 26 Z a []
 exact QI 1 Z h 2 []
def F_hd(n:Nat)(a:Int)(d:Int)(e:Int):Option Bool:=((bif decide (a<d)then some true else some (decide (e<a))):Option Bool).bind λb2=>some b2
theorem k_hd(d:Int)(e:Int)(f:Int):Ks (F_hd n d e f) 151 [I d,.ptr 0 0,.ptr 1 0] [.cells 3 [I e],.cells 3 [I f]] (λr=>.bool r):=by
 refine Kg 6 func151 Z Z Z Z λr h=>Bd h λb2 a h=>Cg b2 [0,1] [] (λb2=>[(4,.bool b2)]) Ze Zf ?_ ?_
 .refine G0 5 Z (Is 8 a Z (λ_ a=>?_) (λ_ a=>?_))
  iterate 2 exact Gl 6 Z a [0,1]
 exact QI 1 Z h 4 [0,1]
def F_ly(d:List Int)(g:Int)(h:Int)(a:Int):Option (Ctl Int (Ctl Unit Int)):=(bif decide (a<(d.length:Int))then(idx d a).bind λe=>(F_hd n e g h).bind λf=>(bif f then some (.done (.done a))else some (.cont (i64.wrap (a+1))))else some (.done (.cont ())))
def F_ic(e:List Int)(f:Int)(g:Int):Option Int:=(iter (F_ly n e f g) n 0:Option (Ctl Unit Int)).bind λd=>match d with|.cont a=>(some (-1))|.done a=>some a
theorem k_ic(j:List Int)(k:Int)(l:Int):Ks (F_ic n j k l) 203 [.rsl 1 (map (Qe .i64) j),.fn (.func 151) [] [.ptr 0 0,.ptr 1 0]] [.cells 3 [I k],.cells 3 [I l]] (λr=>I r):=by
 refine Kg 9 func203 Z Z Z Z λr h=>Lg 3 Z Z (Bd h λm p h=>CgE (b:=m) [0,1] [] Ze Ze Zf ?_ (λ_ q=>?_))
 .refine G0 1 Z (Lp [0,1] [0,1,7] (λe=>[(8,I e)]) Ze p Zf (Lr [0,1]) λe u a d=>(G0 6 Z (Q8 Z a (λ_ a=>?_) (λ_ a=>?_))))
  .exact Gc 2 Z (Ql a (Gx 1 Z (JN d a Z (Lr [0,1]))))
  refine Gc 15 Z (Bd a λw g a=>Iz g Z (Go 1 Z (Cz [0,1] a (k_hd _ _ _ _) Z λx t a=>Go 2 Z (Cn Z a (λ_ a=>?_) (λ_ a=>?_)))))
  .refine Gc 9 Z (Qx a ?_);obtain rfl:=Oj d a;exact Gx 1 Z (Qt (Gx 1 Z (Rt h 4 [0,1])))
  exact Gc 7 Z (Qj a (Lr [0,1]))
 subst q;exact QI 6 Z h 4 [0,1]
def F_es(a:List Int)(d:Int)(e:Int):Option Bool:=(F_ic n a d e).bind λf=>some (decide (0<=f))
theorem k_es(a:List Int)(d:Int)(e:Int):Ks (F_es n a d e) 150 [.rsl 1 (map (Qe .i64) a),.fn (.func 151) [] [.ptr 0 0,.ptr 1 0]] [.cells 3 [I d],.cells 3 [I e]] (λr=>.bool r):=by
 exact Kg 9 func150 Z Z Z Z λr h=>Cz [0,1] h (k_ic _ _ _ _) Z λg f h=>Gt 5 Z h 4 [0,1]
def F_a(a:Int)(d:Int)(e:List Int):Option Bool:=(F_es n e a d).bind λf=>some (!f)
theorem k_a(a:Int)(d:Int)(e:List Int):Ks (F_a n a d e) 86 [I a,I d,.rsl 1 (map (Qe .i64) e)] [] (λr=>.bool r):=by
 exact Kg 11 func86 Z Z Z Z λr h=>Cz [0,1] h (k_es _ _ _ _) Z λg f h=>Gt 5 Z h 6 []
def F_dg(a:Mat):Option Bool:=(F_a n 1 3 [a.Kind]).bind λd=>some d
theorem k_dg(a:Mat):Ks (F_dg n a) 95 [.agg (Mat.c a)] [] (λr=>.bool r):=by
 refine Kg 10 func95 Z Z Z Z λr h=>vH (Ek (xs:=[.tmp 4]) Qu Z Z Z Z Z ⟨Z,trivial⟩ Z Z) ?_;exact FE Z (Cb h (k_a _ _ _ _) Z (ls (ls (lo ln))) λe d h=>Gt 4 Z h 2 [])
def F_im(a:Mat):Option Bool:=(F_dg n a).bind λd=>some (!d)
theorem k_im(a:Mat):Ks (F_im n a) 157 [.agg (Mat.c a),.ptr 0 0] [.cells 202 [.fn (.func 95) [] []]] (λr=>.bool r):=by
 exact Kg 10 func157 Z Z Z Z λr h=>Cz [] h (k_dg _ _) Z λe d h=>Gt 5 Z h 3 [0]
def F_mn(d:List Mat)(a:Int):Option (Ctl Int (Ctl Unit Int)):=(bif decide (a<(d.length:Int))then(idx d a).bind λe=>(F_im n e).bind λf=>(bif f then some (.done (.done a))else some (.cont (i64.wrap (a+1))))else some (.done (.cont ())))
def F_fp(e:List Mat):Option Int:=(iter (F_mn n e) n 0:Option (Ctl Unit Int)).bind λd=>match d with|.cont a=>(some (-1))|.done a=>some a
theorem k_fp(j:List Mat):Ks (F_fp n j) 206 [.rsl 2 (map Mat.c j),.fn (.func 157) [] [.ptr 0 0]] [.cells 202 [.fn (.func 95) [] []]] (λr=>I r):=by
 refine Kg 9 func206 Z Z Z Z λr h=>Lg 3 Z Z (Bd h λk l h=>CgE (b:=k) [0] [] Ze Ze Zf ?_ (λ_ m=>?_))
 .refine G0 1 Z (Lp [0] [0,1,7] (λe=>[(8,I e)]) Ze l Zf (Lr [0]) λe s a d=>(G0 6 Z (Q8 Z a (λ_ a=>?_) (λ_ a=>?_))))
  .exact Gc 2 Z (Ql a (Gx 1 Z (JN d a Z (Lr [0]))))
  refine Gc 15 Z (Bd a λt g a=>Iz g Z (Go 1 Z (Cz [0] a (k_im _ _) Z λu q a=>Go 2 Z (Cn Z a (λ_ a=>?_) (λ_ a=>?_)))))
  .refine Gc 9 Z (Qx a ?_);obtain rfl:=Oj d a;exact Gx 1 Z (Qt (Gx 1 Z (Rt h 4 [0])))
  exact Gc 7 Z (Qj a (Lr [0]))
 subst m;exact QI 6 Z h 4 [0]
def F_fq(a:List Mat):Option Bool:=(F_fp n a).bind λd=>some (decide (0<=d))
theorem k_fq(a:List Mat):Ks (F_fq n a) 156 [.rsl 2 (map Mat.c a),.fn (.func 157) [] [.ptr 0 0]] [.cells 202 [.fn (.func 95) [] []]] (λr=>.bool r):=by
 exact Kg 9 func156 Z Z Z Z λr h=>Cz [0] h (k_fp _ _) Z λe d h=>Gt 5 Z h 4 [0]
def F_du(a:List Mat):Option Bool:=(F_fq n a).bind λd=>some (!d)
theorem k_du(a:List Mat):Ks (F_du n a) 94 [.rsl 2 (map Mat.c a),.fn (.func 95) [] []] [] (λr=>.bool r):=by
 exact Kg 10 func94 Z Z Z Z λr h=>Cz [0] h (k_fq _ _) Z λe d h=>Gt 5 Z h 4 []
def F_cx(a:Leg)(d:Int):Option Bool:=((F_a n 0 d [a.From,a.To]).bind λe=>(bif e then(F_a n 0 68719476736 [a.Min,a.Max]).bind λf=>(bif f then some (decide (a.Min<=a.Max))else some false)else some false):Option Bool).bind λg=>some g
theorem k_cx(f:Leg)(g:Int):Ks (F_cx n f g) 91 [.agg (Leg.c f),.ptr 0 0] [.cells 3 [I g]] (λr=>.bool r):=by
 refine Kg 7 func91 Z Z Z Z λr h=>Bd h λd a h=>Cg d [0] [] (λd=>[(3,.bool d)]) Ze Zf ?_ ?_
 .refine G0 6 Z (vH (Ek (xs:=[.tmp 6,.tmp 8]) Qu Z Z Z Z Z ⟨Z,Z,trivial⟩ Z Z) ?_);refine FE Z (Cb a (k_a _ _ _ _) Z (ls (ls (lo ln))) λl j a=>Go 1 Z (Is 11 a Z (λ_ a=>?_) (λ_ a=>?_)))
  .refine Go 4 Z (vH (Ek (xs:=[.tmp 13,.tmp 15]) Qu Z Z Z Z Z ⟨Z,Z,trivial⟩ Z Z) ?_ (gT Z));refine FE Z (Cb a (k_a _ _ _ _) Z (ls (ls (lo ln))) λm k a=>Go 2 Z (Is 19 a Z (λ_ a=>?_) (λ_ a=>?_)))
   iterate 2 exact Gl 8 Z a [0]
  .exact Gl 16 Z a [0]
 exact QI 1 Z h 3 [0]
def F_iq(a:Leg)(d:Int):Option Bool:=(F_cx n a d).bind λe=>some (!e)
theorem k_iq(a:Leg)(d:Int):Ks (F_iq n a d) 159 [.agg (Leg.c a),.ptr 0 0] [.cells 196 [.fn (.func 91) [] [.ptr 1 0]],.cells 3 [I d]] (λr=>.bool r):=by
 exact Kg 10 func159 Z Z Z Z λr h=>Cz [1] h (k_cx _ _ _) Z λf e h=>Gt 5 Z h 3 [0,1]
def F_mk(d:List Leg)(g:Int)(a:Int):Option (Ctl Int (Ctl Unit Int)):=(bif decide (a<(d.length:Int))then(idx d a).bind λe=>(F_iq n e g).bind λf=>(bif f then some (.done (.done a))else some (.cont (i64.wrap (a+1))))else some (.done (.cont ())))
def F_ft(e:List Leg)(f:Int):Option Int:=(iter (F_mk n e f) n 0:Option (Ctl Unit Int)).bind λd=>match d with|.cont a=>(some (-1))|.done a=>some a
theorem k_ft(j:List Leg)(k:Int):Ks (F_ft n j k) 207 [.rsl 4 (map Leg.c j),.fn (.func 159) [] [.ptr 0 0]] [.cells 196 [.fn (.func 91) [] [.ptr 1 0]],.cells 3 [I k]] (λr=>I r):=by
 refine Kg 9 func207 Z Z Z Z λr h=>Lg 3 Z Z (Bd h λl m h=>CgE (b:=l) [0,1] [] Ze Ze Zf ?_ (λ_ p=>?_))
 .refine G0 1 Z (Lp [0,1] [0,1,7] (λe=>[(8,I e)]) Ze m Zf (Lr [0,1]) λe t a d=>(G0 6 Z (Q8 Z a (λ_ a=>?_) (λ_ a=>?_))))
  .exact Gc 2 Z (Ql a (Gx 1 Z (JN d a Z (Lr [0,1]))))
  refine Gc 15 Z (Bd a λu g a=>Iz g Z (Go 1 Z (Cz [0,1] a (k_iq _ _ _) Z λw s a=>Go 2 Z (Cn Z a (λ_ a=>?_) (λ_ a=>?_)))))
  .refine Gc 9 Z (Qx a ?_);obtain rfl:=Oj d a;exact Gx 1 Z (Qt (Gx 1 Z (Rt h 4 [0,1])))
  exact Gc 7 Z (Qj a (Lr [0,1]))
 subst p;exact QI 6 Z h 4 [0,1]
def F_ga(a:List Leg)(d:Int):Option Bool:=(F_ft n a d).bind λe=>some (decide (0<=e))
theorem k_ga(a:List Leg)(d:Int):Ks (F_ga n a d) 158 [.rsl 4 (map Leg.c a),.fn (.func 159) [] [.ptr 0 0]] [.cells 196 [.fn (.func 91) [] [.ptr 1 0]],.cells 3 [I d]] (λr=>.bool r):=by
 exact Kg 9 func158 Z Z Z Z λr h=>Cz [0,1] h (k_ft _ _ _) Z λf e h=>Gt 5 Z h 4 [0,1]
def F_cl(a:List Leg)(d:Int):Option Bool:=(F_ga n a d).bind λe=>some (!e)
theorem k_cl(a:List Leg)(d:Int):Ks (F_cl n a d) 96 [.rsl 4 (map Leg.c a),.fn (.func 91) [] [.ptr 0 0]] [.cells 3 [I d]] (λr=>.bool r):=by
 exact Kg 10 func96 Z Z Z Z λr h=>Cz [1,0] h (k_ga _ _ _) Z λf e h=>Gt 5 Z h 4 [0]
def F_ee(n:Nat)(a:Leg):Option Unit:=some ()
theorem k_ee(a:Leg):Kq (F_ee n a) 98 [.agg (Leg.c a)] [] (λ_=>.agg [I a.From,I a.To]) (λ_=>[.cells 127 [I a.From,I a.To]]):=by
 refine Kg 17 func98 Z Z Z Z λr h=>?_;exact Rx [1] [2] Z (Yd Z (Qg isAgg127 sizeOf127 Z Z Z)) ⟨Z,Z⟩
def F_lf(e:List Leg)(a:(List (Uh×Bool))×Int):Option (Ctl ((List (Uh×Bool))×Int) (List (Uh×Bool))):=(bif decide (a.2<(e.length:Int))then(idx e a.2).bind λd=>(F_ee n d).bind λg=>(some (QQ a.1 ({from_:=d.From,to_:=d.To:Uh}) true)).bind λf=>some (.cont (f,i64.wrap (a.2+1)))else some (.done a.1))
def F_fe(a:List Leg):Option Bool:=(iter (F_lf n a) n ([],0):Option (List (Uh×Bool))).bind λd=>some ((d.length:Int)==(a.length:Int))
theorem k_fe(k:List Leg):Ks (F_fe n k) 97 [.rsl 4 (map Leg.c k),.fn (.func 98) [] []] [] (λr=>.bool r):=by
 refine Kg 7 func97 Z Z Z Z λr h=>vH Yf ?_;refine Fg 7 Z Z (Lg 3 Z Z (Bd h λe l h=>Cg e [0] [0,5] Ze (λe=>[(0,.map (Qo (λx=>A.agg (Uh.c x)) A.bool e))]) Zf ?_ ?_))
 .refine G0 1 Z (Lp [0] [0,1,5,9,10] (λd=>[(11,I d.2)]) (λd=>[(0,.map (Qo (λx=>A.agg (Uh.c x)) A.bool d.1))]) l Zf (Lr [0]) λd p a f=>?_);refine G0 6 Z (Q8 Z a (λ_ a=>?_) (λ_ a=>?_))
  .exact Gc 2 Z (Ql a (Gx 1 Z (cQo f a (Lr [0]))))
  refine Gc 6 Z (Bd a λq i a=>Iz i Z (Go 9 Z (Cd [] a (k_ee _ _) Z λs m a=>FE Z (Bd a λt j a=>(vU (Ye QeV j Z Gr) ?_)))));exact Fg 7 Z Z (Qj a (Lr [0]))
 refine Gc 3 Z (vV (Qc1 Gr Z) ?_);exact Go 1 Z (Lm Z (Gt 5 Z h 4 []))
def F_dn(rec45:(List Part)->Int->Option Bool)(n:Nat)(a:Part)(d:Int):Option Bool:=(bif (a.Laps==0)then((F_a n 0 d [a.Mat]).bind λh=>(bif h then some ((a.Parts.length:Int)==0)else some false):Option Bool).bind λi=>some i else((F_a n 1 64 [a.Laps]).bind λe=>(bif e then(bif (a.Mat==0)then(bif decide (0<(a.Parts.length:Int))then(rec45 a.Parts d).bind λf=>some f else some false)else some false)else some false):Option Bool).bind λg=>some g)
theorem k_dn(rec45:(List Part)->Int->Option Bool)(e:∀(f:List Part) (g:Int) (r:Bool),rec45 f g=some r->Csm prog 87 [.rsl 3 (map Part.enc f),.fn (.func 85) [] [.ptr 0 0,.ptr 1 0]] [.cells 3 [I g],.cells 189 [.fn (.func 85) [] [.ptr 0 0,.ptr 1 0]]] (λr=>.bool r) r)(n:Nat)(f:Part)(g:Int):Ks (F_dn rec45 n f g) 85 [.agg (Part.c f),.ptr 0 0,.ptr 1 0] [.cells 3 [I g],.cells 189 [.fn (.func 85) [] [.ptr 0 0,.ptr 1 0]]] (λr=>.bool r):=by
 refine Kg 14 func85 Z Z Z Z λr h=>Cn Z h (λ_ h=>?_) (λ_ h=>?_)
 .refine Gc 1 Z (Bd h λj d h=>Ct j [0,1] [] (λj=>[(4,.bool j)]) Ze Zf ?_ (λenv H q=>?_))
  .refine G0 4 Z (vH (Ek (xs:=[.tmp 10]) Qu Z Z Z Z Z ⟨Z,trivial⟩ Z Z) ?_);refine FE Z (Cb d (k_a _ _ _ _) Z (ls (ls (lo ln))) λz w d=>Go 1 Z (Is 13 d Z (λ_ d=>?_) (λ_ d=>?_)))
   .exact Go 2 Z (Lm Z (Gl 4 Z d [0,1]))
   .exact Gl 7 Z d [0,1]
  exact Gx 1 Z (Qf q (QI 2 Z h 4 [0,1]))
 refine Gc 3 Z (Bd h λi a h=>Cg i [0,1] [] (λi=>[(4,.bool i)]) Ze Zf ?_ ?_)
 .refine G0 3 Z (vH (Ek (xs:=[.tmp 20]) Qu Z Z Z Z Z ⟨Z,trivial⟩ Z Z) ?_);refine FE Z (Cb a (k_a _ _ _ _) Z (ls (ls (lo ln))) λx t a=>Go 1 Z (Is 23 a Z (λ_ a=>?_) (λ_ a=>?_)))
  .refine Go 5 Z (Is 28 a Z (λ_ a=>?_) (λ_ a=>?_))
   .refine Go 2 Z (Lg 3 Z Z (Is 34 a Z (λ_ a=>?_) (λ_ a=>?_)))
    .exact Go 3 Z (Cz [0,1] a (e _ _) Z λy u a=>Gl 3 Z a [0,1])
    .exact Gl 7 Z a [0,1]
   .exact Gl 13 Z a [0,1]
  .exact Gl 18 Z a [0,1]
 exact QI 1 Z h 4 [0,1]
def F_it(rec45:(List Part)->Int->Option Bool)(n:Nat)(a:Part)(d:Int):Option Bool:=(F_dn rec45 n a d).bind λe=>some (!e)
theorem k_it(rec45:(List Part)->Int->Option Bool)(a:∀(d:List Part) (e:Int) (r:Bool),rec45 d e=some r->Csm prog 87 [.rsl 3 (map Part.enc d),.fn (.func 85) [] [.ptr 0 0,.ptr 1 0]] [.cells 3 [I e],.cells 189 [.fn (.func 85) [] [.ptr 0 0,.ptr 1 0]]] (λr=>.bool r) r)(n:Nat)(d:Part)(e:Int):Ks (F_it rec45 n d e) 153 [.agg (Part.c d),.ptr 0 0] [.cells 189 [.fn (.func 85) [] [.ptr 1 0,.ptr 2 0]],.cells 3 [I e],.cells 189 [.fn (.func 85) [] [.ptr 1 0,.ptr 2 0]]] (λr=>.bool r):=by
 exact Kg 10 func153 Z Z Z Z λr h=>Cz [1,2] h (k_dn rec45 a _ _ _) Z λg f h=>Gt 5 Z h 3 [0,1,2]
def F_lw(d:List Part)(g:Int)(rec45:(List Part)->Int->Option Bool)(a:Int):Option (Ctl Int (Ctl Unit Int)):=(bif decide (a<(d.length:Int))then(idx d a).bind λe=>(F_it rec45 n e g).bind λf=>(bif f then some (.done (.done a))else some (.cont (i64.wrap (a+1))))else some (.done (.cont ())))
def F_ih(rec45:(List Part)->Int->Option Bool)(n:Nat)(e:List Part)(f:Int):Option Int:=(iter (F_lw n e f rec45) n 0:Option (Ctl Unit Int)).bind λd=>match d with|.cont a=>(some (-1))|.done a=>some a
theorem k_ih(rec45:(List Part)->Int->Option Bool)(d:∀(e:List Part) (f:Int) (r:Bool),rec45 e f=some r->Csm prog 87 [.rsl 3 (map Part.enc e),.fn (.func 85) [] [.ptr 0 0,.ptr 1 0]] [.cells 3 [I f],.cells 189 [.fn (.func 85) [] [.ptr 0 0,.ptr 1 0]]] (λr=>.bool r) r)(n:Nat)(e:List Part)(f:Int):Ks (F_ih rec45 n e f) 204 [.rsl 3 (map Part.enc e),.fn (.func 153) [] [.ptr 0 0]] [.cells 189 [.fn (.func 85) [] [.ptr 1 0,.ptr 2 0]],.cells 3 [I f],.cells 189 [.fn (.func 85) [] [.ptr 1 0,.ptr 2 0]]] (λr=>I r):=by
 refine Kg 9 func204 Z Z Z Z λr h=>Lg 3 Z Z (Bd h λm p h=>CgE (b:=m) [0,1,2] [] Ze Ze Zf ?_ (λ_ q=>?_))
 .refine G0 1 Z (Lp [0,1,2] [0,1,7] (λi=>[(8,I i)]) Ze p Zf (Lr [0,1,2]) λi w a g=>(G0 6 Z (Q8 Z a (λ_ a=>?_) (λ_ a=>?_))))
  .exact Gc 2 Z (Ql a (Gx 1 Z (JN g a Z (Lr [0,1,2]))))
  refine Gc 15 Z (Bd a λs k a=>IzE k (Q4 s) Z (Go 1 Z (Cz [0,1,2] a (k_it rec45 d _ _ _) Z λx u a=>Go 2 Z (Cn Z a (λ_ a=>?_) (λ_ a=>?_)))))
  .refine Gc 9 Z (Qx a ?_);obtain rfl:=Oj g a;exact Gx 1 Z (Qt (Gx 1 Z (Rt h 4 [0,1,2])))
  exact Gc 7 Z (Qj a (Lr [0,1,2]))
 subst q;exact QI 6 Z h 4 [0,1,2]
def F_iw(rec45:(List Part)->Int->Option Bool)(n:Nat)(a:List Part)(d:Int):Option Bool:=(F_ih rec45 n a d).bind λe=>some (decide (0<=e))
theorem k_iw(rec45:(List Part)->Int->Option Bool)(a:∀(d:List Part) (e:Int) (r:Bool),rec45 d e=some r->Csm prog 87 [.rsl 3 (map Part.enc d),.fn (.func 85) [] [.ptr 0 0,.ptr 1 0]] [.cells 3 [I e],.cells 189 [.fn (.func 85) [] [.ptr 0 0,.ptr 1 0]]] (λr=>.bool r) r)(n:Nat)(d:List Part)(e:Int):Ks (F_iw rec45 n d e) 152 [.rsl 3 (map Part.enc d),.fn (.func 153) [] [.ptr 0 0]] [.cells 189 [.fn (.func 85) [] [.ptr 1 0,.ptr 2 0]],.cells 3 [I e],.cells 189 [.fn (.func 85) [] [.ptr 1 0,.ptr 2 0]]] (λr=>.bool r):=by
 exact Kg 9 func152 Z Z Z Z λr h=>Cz [0,1,2] h (k_ih rec45 a _ _ _) Z λg f h=>Gt 5 Z h 4 [0,1,2]
def B_am(rec45:(List Part)->Int->Option Bool)(n:Nat)(a:List Part)(d:Int):Option Bool:=(F_iw rec45 n a d).bind λe=>some (!e)
theorem QcQ(rec45:(List Part)->Int->Option Bool)(a:∀(d:List Part) (e:Int) (r:Bool),rec45 d e=some r->Csm prog 87 [.rsl 3 (map Part.enc d),.fn (.func 85) [] [.ptr 0 0,.ptr 1 0]] [.cells 3 [I e],.cells 189 [.fn (.func 85) [] [.ptr 0 0,.ptr 1 0]]] (λr=>.bool r) r)(n:Nat)(d:List Part)(e:Int)(r:Bool)(h:B_am rec45 n d e=some r):Csm prog 87 [.rsl 3 (map Part.enc d),.fn (.func 85) [] [.ptr 0 0,.ptr 1 0]] [.cells 3 [I e],.cells 189 [.fn (.func 85) [] [.ptr 0 0,.ptr 1 0]]] (λr=>.bool r) r:=by
 exact QE func87 Z Z Z (G0 10 Z (Cz [2,0,1] h (k_iw rec45 a _ _ _) Z λg f h=>Gt 5 Z h 4 [0,1]))
def F_am:Nat->(List Part)->Int->Option Bool
  |0=>λ_ _=>none
  |n+1=>B_am (F_am n) n
theorem k_am:∀(a:List Part) (d:Int) (r:Bool),F_am n a d=some r->Csm prog 87 [.rsl 3 (map Part.enc a),.fn (.func 85) [] [.ptr 0 0,.ptr 1 0]] [.cells 3 [I d],.cells 189 [.fn (.func 85) [] [.ptr 0 0,.ptr 1 0]]] (λr=>.bool r) r:=by
  induction n with
  |zero=>intro a d r h;cases h
  |succ n ih=>intro a d r h;exact QcQ _ ih n a d r h
def F_cu(a:Cutoff)(e:Int):Option Bool:=((F_a n 0 e [a.Mat]).bind λf=>(bif f then(bif decide (1<=a.Lap)then(F_a n 0 1099511627776 [a.Limit]).bind λd=>some d else some false)else some false):Option Bool).bind λg=>some g
theorem k_cu(e:Cutoff)(f:Int):Ks (F_cu n e f) 88 [.agg (Cutoff.c e),.ptr 0 0] [.cells 3 [I f]] (λr=>.bool r):=by
 refine Kg 7 func88 Z Z Z Z λr h=>Bd h λd a h=>Cg d [0] [] (λd=>[(3,.bool d)]) Ze Zf ?_ ?_
 .refine G0 4 Z (vH (Ek (xs:=[.tmp 6]) Qu Z Z Z Z Z ⟨Z,trivial⟩ Z Z) ?_);refine FE Z (Cb a (k_a _ _ _ _) Z (ls (ls (lo ln))) λm k a=>Go 1 Z (Is 9 a Z (λ_ a=>?_) (λ_ a=>?_)))
  .refine Go 5 Z (Is 14 a Z (λ_ a=>?_) (λ_ a=>?_))
   .refine Go 2 Z (vH (Ek (xs:=[.tmp 16]) Qu Z Z Z Z Z ⟨Z,trivial⟩ Z Z) ?_ (gT Z));exact FE Z (Cb a (k_a _ _ _ _) Z (ls (ls (lo ln))) λl j a=>Gl 3 Z a [0])
   .exact Gl 7 Z a [0]
  .exact Gl 12 Z a [0]
 exact QI 1 Z h 3 [0]
def F_ig(a:Cutoff)(d:Int):Option Bool:=(F_cu n a d).bind λe=>some (!e)
theorem k_ig(a:Cutoff)(d:Int):Ks (F_ig n a d) 155 [.agg (Cutoff.c a),.ptr 0 0] [.cells 194 [.fn (.func 88) [] [.ptr 1 0]],.cells 3 [I d]] (λr=>.bool r):=by
 exact Kg 10 func155 Z Z Z Z λr h=>Cz [1] h (k_cu _ _ _) Z λf e h=>Gt 5 Z h 3 [0,1]
def F_mq(d:List Cutoff)(g:Int)(a:Int):Option (Ctl Int (Ctl Unit Int)):=(bif decide (a<(d.length:Int))then(idx d a).bind λe=>(F_ig n e g).bind λf=>(bif f then some (.done (.done a))else some (.cont (i64.wrap (a+1))))else some (.done (.cont ())))
def F_fw(e:List Cutoff)(f:Int):Option Int:=(iter (F_mq n e f) n 0:Option (Ctl Unit Int)).bind λd=>match d with|.cont a=>(some (-1))|.done a=>some a
theorem k_fw(j:List Cutoff)(k:Int):Ks (F_fw n j k) 205 [.rsl 3 (map Cutoff.c j),.fn (.func 155) [] [.ptr 0 0]] [.cells 194 [.fn (.func 88) [] [.ptr 1 0]],.cells 3 [I k]] (λr=>I r):=by
 refine Kg 9 func205 Z Z Z Z λr h=>Lg 3 Z Z (Bd h λl m h=>CgE (b:=l) [0,1] [] Ze Ze Zf ?_ (λ_ p=>?_))
 .refine G0 1 Z (Lp [0,1] [0,1,7] (λe=>[(8,I e)]) Ze m Zf (Lr [0,1]) λe t a d=>(G0 6 Z (Q8 Z a (λ_ a=>?_) (λ_ a=>?_))))
  .exact Gc 2 Z (Ql a (Gx 1 Z (JN d a Z (Lr [0,1]))))
  refine Gc 15 Z (Bd a λu g a=>Iz g Z (Go 1 Z (Cz [0,1] a (k_ig _ _ _) Z λw s a=>Go 2 Z (Cn Z a (λ_ a=>?_) (λ_ a=>?_)))))
  .refine Gc 9 Z (Qx a ?_);obtain rfl:=Oj d a;exact Gx 1 Z (Qt (Gx 1 Z (Rt h 4 [0,1])))
  exact Gc 7 Z (Qj a (Lr [0,1]))
 subst p;exact QI 6 Z h 4 [0,1]
def F_gm(a:List Cutoff)(d:Int):Option Bool:=(F_fw n a d).bind λe=>some (decide (0<=e))
theorem k_gm(a:List Cutoff)(d:Int):Ks (F_gm n a d) 154 [.rsl 3 (map Cutoff.c a),.fn (.func 155) [] [.ptr 0 0]] [.cells 194 [.fn (.func 88) [] [.ptr 1 0]],.cells 3 [I d]] (λr=>.bool r):=by
 exact Kg 9 func154 Z Z Z Z λr h=>Cz [0,1] h (k_fw _ _ _) Z λf e h=>Gt 5 Z h 4 [0,1]
def F_cn(a:List Cutoff)(d:Int):Option Bool:=(F_gm n a d).bind λe=>some (!e)
theorem k_cn(a:List Cutoff)(d:Int):Ks (F_cn n a d) 90 [.rsl 3 (map Cutoff.c a),.fn (.func 88) [] [.ptr 0 0]] [.cells 3 [I d]] (λr=>.bool r):=by
 exact Kg 10 func90 Z Z Z Z λr h=>Cz [1,0] h (k_gm _ _ _) Z λf e h=>Gt 5 Z h 4 [0]
def F_da(a:Distance)(d:Int):Option Bool:=((F_a n 1 3 [a.Timing]).bind λe=>(bif e then(F_a n (-1) d [a.Extra]).bind λf=>(bif f then(F_am n a.Route d).bind λg=>(bif g then(F_cn n a.Cutoffs d).bind λh=>some h else some false)else some false)else some false):Option Bool).bind λi=>some i
theorem k_da(i:Distance)(j:Int):Ks (F_da n i j) 89 [.agg (Distance.c i),.ptr 0 0,.ptr 1 0,.ptr 2 0] [.cells 3 [I j],.cells 189 [.fn (.func 85) [] [.ptr 0 0,.ptr 1 0]],.cells 194 [.fn (.func 88) [] [.ptr 0 0]]] (λr=>.bool r):=by
 refine Kg 7 func89 Z Z Z Z λr h=>Bd h λd a h=>Cg d [0,1,2] [] (λd=>[(5,.bool d)]) Ze Zf ?_ ?_
 .refine G0 3 Z (vH (Ek (xs:=[.tmp 7]) Qu Z Z Z Z Z ⟨Z,trivial⟩ Z Z) ?_);refine FE Z (Cb a (k_a _ _ _ _) Z (ls (ls (lo ln))) λq k a=>Go 1 Z (Is 10 a Z (λ_ a=>?_) (λ_ a=>?_)))
  .refine Go 3 Z (vH (Ek (xs:=[.tmp 13]) Qu Z Z Z Z Z ⟨Z,trivial⟩ Z Z) ?_ (gT Z));refine FE Z (Cb a (k_a _ _ _ _) Z (ls (ls (lo ln))) λs l a=>Go 2 Z (Is 17 a Z (λ_ a=>?_) (λ_ a=>?_)))
   .refine Go 3 Z (Cz [0,1] a (k_am _ _ _) Z λt m a=>Go 2 Z (Is 23 a Z (λ_ a=>?_) (λ_ a=>?_)))
    .exact Go 3 Z (Cz [0] a (k_cn _ _ _) Z λu p a=>Gl 3 Z a [0,1,2])
    .exact Gl 7 Z a [0,1,2]
   .exact Gl 13 Z a [0,1,2]
  .exact Gl 20 Z a [0,1,2]
 exact QI 1 Z h 5 [0,1,2]
def F_ir(a:Distance)(d:Int):Option Bool:=(F_da n a d).bind λe=>some (!e)
theorem k_ir(a:Distance)(d:Int):Ks (F_ir n a d) 110 [.agg (Distance.c a),.ptr 0 0] [.cells 130 [.fn (.func 89) [] [.ptr 1 0,.ptr 2 0,.ptr 3 0]],.cells 3 [I d],.cells 189 [.fn (.func 85) [] [.ptr 1 0,.ptr 2 0]],.cells 194 [.fn (.func 88) [] [.ptr 1 0]]] (λr=>.bool r):=by
 exact Kg 10 func110 Z Z Z Z λr h=>Cz [1,2,3] h (k_da _ _ _) Z λf e h=>Gt 5 Z h 3 [0,1,2,3]
def F_lo(d:List Distance)(g:Int)(a:Int):Option (Ctl Int (Ctl Unit Int)):=(bif decide (a<(d.length:Int))then(idx d a).bind λe=>(F_ir n e g).bind λf=>(bif f then some (.done (.done a))else some (.cont (i64.wrap (a+1))))else some (.done (.cont ())))
def F_ha(e:List Distance)(f:Int):Option Int:=(iter (F_lo n e f) n 0:Option (Ctl Unit Int)).bind λd=>match d with|.cont a=>(some (-1))|.done a=>some a
theorem k_ha(j:List Distance)(k:Int):Ks (F_ha n j k) 171 [.rsl 5 (map Distance.c j),.fn (.func 110) [] [.ptr 0 0]] [.cells 130 [.fn (.func 89) [] [.ptr 1 0,.ptr 2 0,.ptr 3 0]],.cells 3 [I k],.cells 189 [.fn (.func 85) [] [.ptr 1 0,.ptr 2 0]],.cells 194 [.fn (.func 88) [] [.ptr 1 0]]] (λr=>I r):=by
 refine Kg 9 func171 Z Z Z Z λr h=>Lg 3 Z Z (Bd h λl m h=>CgE (b:=l) [0,1,2,3] [] Ze Ze Zf ?_ (λ_ p=>?_))
 .refine G0 1 Z (Lp [0,1,2,3] [0,1,7] (λe=>[(8,I e)]) Ze m Zf (Lr [0,1,2,3]) λe t a d=>(G0 6 Z (Q8 Z a (λ_ a=>?_) (λ_ a=>?_))))
  .exact Gc 2 Z (Ql a (Gx 1 Z (JN d a Z (Lr [0,1,2,3]))))
  refine Gc 15 Z (Bd a λu g a=>Iz g Z (Go 1 Z (Cz [0,1,2,3] a (k_ir _ _ _) Z λw s a=>Go 2 Z (Cn Z a (λ_ a=>?_) (λ_ a=>?_)))))
  .refine Gc 9 Z (Qx a ?_);obtain rfl:=Oj d a;exact Gx 1 Z (Qt (Gx 1 Z (Rt h 4 [0,1,2,3])))
  exact Gc 7 Z (Qj a (Lr [0,1,2,3]))
 subst p;exact QI 6 Z h 4 [0,1,2,3]
def F_gl(a:List Distance)(d:Int):Option Bool:=(F_ha n a d).bind λe=>some (decide (0<=e))
theorem k_gl(a:List Distance)(d:Int):Ks (F_gl n a d) 109 [.rsl 5 (map Distance.c a),.fn (.func 110) [] [.ptr 0 0]] [.cells 130 [.fn (.func 89) [] [.ptr 1 0,.ptr 2 0,.ptr 3 0]],.cells 3 [I d],.cells 189 [.fn (.func 85) [] [.ptr 1 0,.ptr 2 0]],.cells 194 [.fn (.func 88) [] [.ptr 1 0]]] (λr=>.bool r):=by
 exact Kg 9 func109 Z Z Z Z λr h=>Cz [0,1,2,3] h (k_ha _ _ _) Z λf e h=>Gt 5 Z h 4 [0,1,2,3]
def F_co(a:List Distance)(d:Int):Option Bool:=(F_gl n a d).bind λe=>some (!e)
theorem k_co(a:List Distance)(d:Int):Ks (F_co n a d) 41 [.rsl 5 (map Distance.c a),.fn (.func 89) [] [.ptr 0 0,.ptr 1 0,.ptr 2 0]] [.cells 3 [I d],.cells 189 [.fn (.func 85) [] [.ptr 0 0,.ptr 1 0]],.cells 194 [.fn (.func 88) [] [.ptr 0 0]]] (λr=>.bool r):=by
 exact Kg 10 func41 Z Z Z Z λr h=>Cz [3,0,1,2] h (k_gl _ _ _) Z λf e h=>Gt 5 Z h 4 [0,1,2]
def F_cp(a:Wave):Option Bool:=(F_a n 0 1099511627776 [a.Gun]).bind λd=>some d
theorem k_cp(a:Wave):Ks (F_cp n a) 100 [.agg (Wave.c a)] [] (λr=>.bool r):=by
 refine Kg 10 func100 Z Z Z Z λr h=>vH (Ek (xs:=[.tmp 4]) Qu Z Z Z Z Z ⟨Z,trivial⟩ Z Z) ?_;exact FE Z (Cb h (k_a _ _ _ _) Z (ls (ls (lo ln))) λe d h=>Gt 4 Z h 2 [])
def F_kb(a:Wave):Option Bool:=(F_cp n a).bind λd=>some (!d)
theorem k_kb(a:Wave):Ks (F_kb n a) 161 [.agg (Wave.c a),.ptr 0 0] [.cells 207 [.fn (.func 100) [] []]] (λr=>.bool r):=by
 exact Kg 10 func161 Z Z Z Z λr h=>Cz [] h (k_cp _ _) Z λe d h=>Gt 5 Z h 3 [0]
def F_mj(d:List Wave)(a:Int):Option (Ctl Int (Ctl Unit Int)):=(bif decide (a<(d.length:Int))then(idx d a).bind λe=>(F_kb n e).bind λf=>(bif f then some (.done (.done a))else some (.cont (i64.wrap (a+1))))else some (.done (.cont ())))
def F_em(e:List Wave):Option Int:=(iter (F_mj n e) n 0:Option (Ctl Unit Int)).bind λd=>match d with|.cont a=>(some (-1))|.done a=>some a
theorem k_em(j:List Wave):Ks (F_em n j) 208 [.rsl 2 (map Wave.c j),.fn (.func 161) [] [.ptr 0 0]] [.cells 207 [.fn (.func 100) [] []]] (λr=>I r):=by
 refine Kg 9 func208 Z Z Z Z λr h=>Lg 3 Z Z (Bd h λk l h=>CgE (b:=k) [0] [] Ze Ze Zf ?_ (λ_ m=>?_))
 .refine G0 1 Z (Lp [0] [0,1,7] (λe=>[(8,I e)]) Ze l Zf (Lr [0]) λe s a d=>(G0 6 Z (Q8 Z a (λ_ a=>?_) (λ_ a=>?_))))
  .exact Gc 2 Z (Ql a (Gx 1 Z (JN d a Z (Lr [0]))))
  refine Gc 15 Z (Bd a λt g a=>Iz g Z (Go 1 Z (Cz [0] a (k_kb _ _) Z λu q a=>Go 2 Z (Cn Z a (λ_ a=>?_) (λ_ a=>?_)))))
  .refine Gc 9 Z (Qx a ?_);obtain rfl:=Oj d a;exact Gx 1 Z (Qt (Gx 1 Z (Rt h 4 [0])))
  exact Gc 7 Z (Qj a (Lr [0]))
 subst m;exact QI 6 Z h 4 [0]
def F_ff(a:List Wave):Option Bool:=(F_em n a).bind λd=>some (decide (0<=d))
theorem k_ff(a:List Wave):Ks (F_ff n a) 160 [.rsl 2 (map Wave.c a),.fn (.func 161) [] [.ptr 0 0]] [.cells 207 [.fn (.func 100) [] []]] (λr=>.bool r):=by
 exact Kg 9 func160 Z Z Z Z λr h=>Cz [0] h (k_em _ _) Z λe d h=>Gt 5 Z h 4 [0]
def F_dv(a:List Wave):Option Bool:=(F_ff n a).bind λd=>some (!d)
theorem k_dv(a:List Wave):Ks (F_dv n a) 99 [.rsl 2 (map Wave.c a),.fn (.func 100) [] []] [] (λr=>.bool r):=by
 exact Kg 10 func99 Z Z Z Z λr h=>Cz [0] h (k_ff _ _) Z λe d h=>Gt 5 Z h 4 []
def F_dy(a:Offence):Option Bool:=(bif a.Out then((bif (a.Time==0)then some (a.Laps==0)else some false):Option Bool).bind λf=>some f else(bif (a.Laps != 0)then((bif (a.Time==0)then(F_a n 1 64 [a.Laps]).bind λd=>some d else some false):Option Bool).bind λg=>some g else(F_a n 0 68719476736 [a.Time]).bind λe=>some e))
theorem k_dy(i:Offence):Ks (F_dy n i) 92 [.agg (Offence.c i)] [] (λr=>.bool r):=by
 refine Kg 15 func92 Z Z Z Z λr h=>Cn Z h (λ_ h=>?_) (λ_ h=>?_)
 .refine Gc 1 Z (Bd h λe d h=>Ct e [] [] (λe=>[(2,.bool e)]) Ze Zf ?_ (λenv H k=>?_))
  .refine G0 5 Z (Is 9 d Z (λ_ d=>?_) (λ_ d=>?_))
   iterate 2 exact Gl 6 Z d []
  exact Gx 1 Z (Qf k (QI 3 Z h 2 []))
 refine Gc 8 Z (Cn Z h (λ_ h=>?_) (λ_ h=>?_))
 .refine Gc 1 Z (Bd h λf a h=>Cg f [] [] (λf=>[(2,.bool f)]) Ze Zf ?_ ?_)
  .refine G0 5 Z (Is 21 a Z (λ_ a=>?_) (λ_ a=>?_))
   .refine Go 2 Z (vH (Ek (xs:=[.tmp 23]) Qu Z Z Z Z Z ⟨Z,trivial⟩ Z Z) ?_ (gT Z));exact FE Z (Cb a (k_a _ _ _ _) Z (ls (ls (lo ln))) λs p a=>Gl 3 Z a [])
   .exact Gl 7 Z a []
  exact QI 3 Z h 2 []
 refine Gc 7 Z (vH (Ek (xs:=[.tmp 28]) Qu Z Z Z Z Z ⟨Z,trivial⟩ Z Z) ?_);exact FE Z (Cb h (k_a _ _ _ _) Z (ls (ls (lo ln))) λt q h=>Gt 4 Z h 2 [])
def F_hp(a:Offence):Option Bool:=(F_dy n a).bind λd=>some (!d)
theorem k_hp(a:Offence):Ks (F_hp n a) 163 [.agg (Offence.c a),.ptr 0 0] [.cells 197 [.fn (.func 92) [] []]] (λr=>.bool r):=by
 exact Kg 10 func163 Z Z Z Z λr h=>Cz [] h (k_dy _ _) Z λe d h=>Gt 5 Z h 3 [0]
def F_me(d:List Offence)(a:Int):Option (Ctl Int (Ctl Unit Int)):=(bif decide (a<(d.length:Int))then(idx d a).bind λe=>(F_hp n e).bind λf=>(bif f then some (.done (.done a))else some (.cont (i64.wrap (a+1))))else some (.done (.cont ())))
def F_er(e:List Offence):Option Int:=(iter (F_me n e) n 0:Option (Ctl Unit Int)).bind λd=>match d with|.cont a=>(some (-1))|.done a=>some a
theorem k_er(j:List Offence):Ks (F_er n j) 209 [.rsl 4 (map Offence.c j),.fn (.func 163) [] [.ptr 0 0]] [.cells 197 [.fn (.func 92) [] []]] (λr=>I r):=by
 refine Kg 9 func209 Z Z Z Z λr h=>Lg 3 Z Z (Bd h λk l h=>CgE (b:=k) [0] [] Ze Ze Zf ?_ (λ_ m=>?_))
 .refine G0 1 Z (Lp [0] [0,1,7] (λe=>[(8,I e)]) Ze l Zf (Lr [0]) λe s a d=>(G0 6 Z (Q8 Z a (λ_ a=>?_) (λ_ a=>?_))))
  .exact Gc 2 Z (Ql a (Gx 1 Z (JN d a Z (Lr [0]))))
  refine Gc 15 Z (Bd a λt g a=>Iz g Z (Go 1 Z (Cz [0] a (k_hp _ _) Z λu q a=>Go 2 Z (Cn Z a (λ_ a=>?_) (λ_ a=>?_)))))
  .refine Gc 9 Z (Qx a ?_);obtain rfl:=Oj d a;exact Gx 1 Z (Qt (Gx 1 Z (Rt h 4 [0])))
  exact Gc 7 Z (Qj a (Lr [0]))
 subst m;exact QI 6 Z h 4 [0]
def F_ei(a:List Offence):Option Bool:=(F_er n a).bind λd=>some (decide (0<=d))
theorem k_ei(a:List Offence):Ks (F_ei n a) 162 [.rsl 4 (map Offence.c a),.fn (.func 163) [] [.ptr 0 0]] [.cells 197 [.fn (.func 92) [] []]] (λr=>.bool r):=by
 exact Kg 9 func162 Z Z Z Z λr h=>Cz [0] h (k_er _ _) Z λe d h=>Gt 5 Z h 4 [0]
def F_cr(a:List Offence):Option Bool:=(F_ei n a).bind λd=>some (!d)
theorem k_cr(a:List Offence):Ks (F_cr n a) 101 [.rsl 4 (map Offence.c a),.fn (.func 92) [] []] [] (λr=>.bool r):=by
 exact Kg 10 func101 Z Z Z Z λr h=>Cz [0] h (k_ei _ _) Z λe d h=>Gt 5 Z h 4 []
def F_ch(a:Category):Option Bool:=((F_a n 0 120 [a.From,a.To]).bind λd=>(bif d then some (decide (a.From<=a.To))else some false):Option Bool).bind λe=>some e
theorem k_ch(e:Category):Ks (F_ch n e) 103 [.agg (Category.c e)] [] (λr=>.bool r):=by
 refine Kg 7 func103 Z Z Z Z λr h=>Bd h λd a h=>Cg d [] [] (λd=>[(2,.bool d)]) Ze Zf ?_ ?_
 .refine G0 5 Z (vH (Ek (xs:=[.tmp 4,.tmp 6]) Qu Z Z Z Z Z ⟨Z,Z,trivial⟩ Z Z) ?_);refine FE Z (Cb a (k_a _ _ _ _) Z (ls (ls (lo ln))) λi g a=>Go 1 Z (Is 9 a Z (λ_ a=>?_) (λ_ a=>?_)))
  iterate 2 exact Gl 8 Z a []
 exact QI 1 Z h 2 []
def F_jx(a:Category):Option Bool:=(F_ch n a).bind λd=>some (!d)
theorem k_jx(a:Category):Ks (F_jx n a) 165 [.agg (Category.c a),.ptr 0 0] [.cells 210 [.fn (.func 103) [] []]] (λr=>.bool r):=by
 exact Kg 10 func165 Z Z Z Z λr h=>Cz [] h (k_ch _ _) Z λe d h=>Gt 5 Z h 3 [0]
def F_lr(d:List Category)(a:Int):Option (Ctl Int (Ctl Unit Int)):=(bif decide (a<(d.length:Int))then(idx d a).bind λe=>(F_jx n e).bind λf=>(bif f then some (.done (.done a))else some (.cont (i64.wrap (a+1))))else some (.done (.cont ())))
def F_hg(e:List Category):Option Int:=(iter (F_lr n e) n 0:Option (Ctl Unit Int)).bind λd=>match d with|.cont a=>(some (-1))|.done a=>some a
theorem k_hg(j:List Category):Ks (F_hg n j) 210 [.rsl 3 (map Category.c j),.fn (.func 165) [] [.ptr 0 0]] [.cells 210 [.fn (.func 103) [] []]] (λr=>I r):=by
 refine Kg 9 func210 Z Z Z Z λr h=>Lg 3 Z Z (Bd h λk l h=>CgE (b:=k) [0] [] Ze Ze Zf ?_ (λ_ m=>?_))
 .refine G0 1 Z (Lp [0] [0,1,7] (λe=>[(8,I e)]) Ze l Zf (Lr [0]) λe s a d=>(G0 6 Z (Q8 Z a (λ_ a=>?_) (λ_ a=>?_))))
  .exact Gc 2 Z (Ql a (Gx 1 Z (JN d a Z (Lr [0]))))
  refine Gc 15 Z (Bd a λt g a=>Iz g Z (Go 1 Z (Cz [0] a (k_jx _ _) Z λu q a=>Go 2 Z (Cn Z a (λ_ a=>?_) (λ_ a=>?_)))))
  .refine Gc 9 Z (Qx a ?_);obtain rfl:=Oj d a;exact Gx 1 Z (Qt (Gx 1 Z (Rt h 4 [0])))
  exact Gc 7 Z (Qj a (Lr [0]))
 subst m;exact QI 6 Z h 4 [0]
def F_ed(a:List Category):Option Bool:=(F_hg n a).bind λd=>some (decide (0<=d))
theorem k_ed(a:List Category):Ks (F_ed n a) 164 [.rsl 3 (map Category.c a),.fn (.func 165) [] [.ptr 0 0]] [.cells 210 [.fn (.func 103) [] []]] (λr=>.bool r):=by
 exact Kg 9 func164 Z Z Z Z λr h=>Cz [0] h (k_hg _ _) Z λe d h=>Gt 5 Z h 4 [0]
def F_bz(a:List Category):Option Bool:=(F_ed n a).bind λd=>some (!d)
theorem k_bz(a:List Category):Ks (F_bz n a) 102 [.rsl 3 (map Category.c a),.fn (.func 103) [] []] [] (λr=>.bool r):=by
 exact Kg 10 func102 Z Z Z Z λr h=>Cz [0] h (k_ed _ _) Z λe d h=>Gt 5 Z h 4 []
def F_ec(a:Prize)(d:Course):Option Bool:=((F_a n 0 (i64.wrap ((d.Distances.length:Int)-1)) [a.Distance]).bind λe=>(bif e then(F_a n (-1) (i64.wrap ((d.Categories.length:Int)-1)) [a.Category]).bind λf=>(bif f then(F_a n 1 4000 [a.Rank]).bind λg=>(bif g then(F_a n 1 1125899906842624 [a.Amount]).bind λh=>some h else some false)else some false)else some false):Option Bool).bind λi=>some i
theorem k_ec(i:Prize)(j:Course):Ks (F_ec n i j) 93 [.agg (Prize.c i),.ptr 0 0] [.cells 33 (Course.c j)] (λr=>.bool r):=by
 refine Kg 7 func93 Z Z Z Z λr h=>Bd h λd a h=>Cg d [0] [] (λd=>[(3,.bool d)]) Ze Zf ?_ ?_
 .refine G0 3 Z (Lg 3 Z Z (vH (Ek (xs:=[.tmp 9]) Qu Z Z Z Z Z ⟨Z,trivial⟩ Z Z) ?_));refine FE Z (Cb a (k_a _ _ _ _) Z (ls (ls (lo ln))) λq k a=>Go 1 Z (Is 12 a Z (λ_ a=>?_) (λ_ a=>?_)))
  .refine Go 2 Z (Lg 3 Z Z (vH (Ek (xs:=[.tmp 18]) Qu Z Z Z Z Z ⟨Z,trivial⟩ Z Z) ?_ (gT Z)));refine FE Z (Cb a (k_a _ _ _ _) Z (ls (ls (lo ln))) λs l a=>Go 2 Z (Is 22 a Z (λ_ a=>?_) (λ_ a=>?_)))
   .refine Go 2 Z (vH (Ek (xs:=[.tmp 24]) Qu Z Z Z Z Z ⟨Z,trivial⟩ Z Z) ?_ (gT Z));refine FE Z (Cb a (k_a _ _ _ _) Z (ls (ls (lo ln))) λt m a=>Go 2 Z (Is 28 a Z (λ_ a=>?_) (λ_ a=>?_)))
    .refine Go 2 Z (vH (Ek (xs:=[.tmp 30]) Qu Z Z Z Z Z ⟨Z,trivial⟩ Z Z) ?_ (gT Z));exact FE Z (Cb a (k_a _ _ _ _) Z (ls (ls (lo ln))) λu p a=>Gl 3 Z a [0])
    .exact Gl 7 Z a [0]
   .exact Gl 13 Z a [0]
  .exact Gl 23 Z a [0]
 exact QI 1 Z h 3 [0]
def F_hm(a:Prize)(d:Course):Option Bool:=(F_ec n a d).bind λe=>some (!e)
theorem k_hm(a:Prize)(d:Course):Ks (F_hm n a d) 167 [.agg (Prize.c a),.ptr 0 0] [.cells 200 [.fn (.func 93) [] [.ptr 1 0]],.cells 33 (Course.c d)] (λr=>.bool r):=by
 exact Kg 10 func167 Z Z Z Z λr h=>Cz [1] h (k_ec _ _ _) Z λf e h=>Gt 5 Z h 3 [0,1]
def F_mw(d:List Prize)(g:Course)(a:Int):Option (Ctl Int (Ctl Unit Int)):=(bif decide (a<(d.length:Int))then(idx d a).bind λe=>(F_hm n e g).bind λf=>(bif f then some (.done (.done a))else some (.cont (i64.wrap (a+1))))else some (.done (.cont ())))
def F_fh(e:List Prize)(f:Course):Option Int:=(iter (F_mw n e f) n 0:Option (Ctl Unit Int)).bind λd=>match d with|.cont a=>(some (-1))|.done a=>some a
theorem k_fh(j:List Prize)(k:Course):Ks (F_fh n j k) 211 [.rsl 4 (map Prize.c j),.fn (.func 167) [] [.ptr 0 0]] [.cells 200 [.fn (.func 93) [] [.ptr 1 0]],.cells 33 (Course.c k)] (λr=>I r):=by
 refine Kg 9 func211 Z Z Z Z λr h=>Lg 3 Z Z (Bd h λl m h=>CgE (b:=l) [0,1] [] Ze Ze Zf ?_ (λ_ p=>?_))
 .refine G0 1 Z (Lp [0,1] [0,1,7] (λe=>[(8,I e)]) Ze m Zf (Lr [0,1]) λe t a d=>(G0 6 Z (Q8 Z a (λ_ a=>?_) (λ_ a=>?_))))
  .exact Gc 2 Z (Ql a (Gx 1 Z (JN d a Z (Lr [0,1]))))
  refine Gc 15 Z (Bd a λu g a=>Iz g Z (Go 1 Z (Cz [0,1] a (k_hm _ _ _) Z λw s a=>Go 2 Z (Cn Z a (λ_ a=>?_) (λ_ a=>?_)))))
  .refine Gc 9 Z (Qx a ?_);obtain rfl:=Oj d a;exact Gx 1 Z (Qt (Gx 1 Z (Rt h 4 [0,1])))
  exact Gc 7 Z (Qj a (Lr [0,1]))
 subst p;exact QI 6 Z h 4 [0,1]
def F_gv(a:List Prize)(d:Course):Option Bool:=(F_fh n a d).bind λe=>some (decide (0<=e))
theorem k_gv(a:List Prize)(d:Course):Ks (F_gv n a d) 166 [.rsl 4 (map Prize.c a),.fn (.func 167) [] [.ptr 0 0]] [.cells 200 [.fn (.func 93) [] [.ptr 1 0]],.cells 33 (Course.c d)] (λr=>.bool r):=by
 exact Kg 9 func166 Z Z Z Z λr h=>Cz [0,1] h (k_fh _ _ _) Z λf e h=>Gt 5 Z h 4 [0,1]
def F_dd(a:List Prize)(d:Course):Option Bool:=(F_gv n a d).bind λe=>some (!e)
theorem k_dd(a:List Prize)(d:Course):Ks (F_dd n a d) 104 [.rsl 4 (map Prize.c a),.fn (.func 93) [] [.ptr 0 0]] [.cells 33 (Course.c d)] (λr=>.bool r):=by
 exact Kg 10 func104 Z Z Z Z λr h=>Cz [1,0] h (k_gv _ _ _) Z λf e h=>Gt 5 Z h 4 [0]
def F_eo(n:Nat)(a:Prize):Option Unit:=some ()
theorem k_eo(a:Prize):Kq (F_eo n a) 106 [.agg (Prize.c a)] [] (λ_=>.agg [I a.Distance,I a.Category,I a.Rank]) (λ_=>[.cells 214 [I a.Distance,I a.Category,I a.Rank]]):=by
 refine Kg 19 func106 Z Z Z Z λr h=>?_;exact Rx [1] [2] Z (Yd Z (Qg isAgg214 sizeOf214 Z Z Z)) ⟨Z,Z⟩
def F_ko(e:List Prize)(a:(List (Uj×Bool))×Int):Option (Ctl ((List (Uj×Bool))×Int) (List (Uj×Bool))):=(bif decide (a.2<(e.length:Int))then(idx e a.2).bind λd=>(F_eo n d).bind λg=>(some (QQ a.1 ({distance:=d.Distance,category:=d.Category,rank:=d.Rank:Uj}) true)).bind λf=>some (.cont (f,i64.wrap (a.2+1)))else some (.done a.1))
def F_gb(a:List Prize):Option Bool:=(iter (F_ko n a) n ([],0):Option (List (Uj×Bool))).bind λd=>some ((d.length:Int)==(a.length:Int))
theorem k_gb(k:List Prize):Ks (F_gb n k) 105 [.rsl 4 (map Prize.c k),.fn (.func 106) [] []] [] (λr=>.bool r):=by
 refine Kg 7 func105 Z Z Z Z λr h=>vH Yf ?_;refine Fg 7 Z Z (Lg 3 Z Z (Bd h λe l h=>Cg e [0] [0,5] Ze (λe=>[(0,.map (Qo (λx=>A.agg (Uj.c x)) A.bool e))]) Zf ?_ ?_))
 .refine G0 1 Z (Lp [0] [0,1,5,9,10] (λd=>[(11,I d.2)]) (λd=>[(0,.map (Qo (λx=>A.agg (Uj.c x)) A.bool d.1))]) l Zf (Lr [0]) λd p a f=>?_);refine G0 6 Z (Q8 Z a (λ_ a=>?_) (λ_ a=>?_))
  .exact Gc 2 Z (Ql a (Gx 1 Z (cQo f a (Lr [0]))))
  refine Gc 6 Z (Bd a λq i a=>Iz i Z (Go 9 Z (Cd [] a (k_eo _ _) Z λs m a=>FE Z (Bd a λt j a=>(vU (Ye QpE j Z underlying256) ?_)))));exact Fg 7 Z Z (Qj a (Lr [0]))
 refine Gc 3 Z (vV (Qc1 underlying256 Z) ?_);exact Go 1 Z (Lm Z (Gt 5 Z h 4 []))
def F_dw(a:Course):Option Bool:=((F_du n a.Mats).bind λd=>(bif d then(F_cl n a.Legs (i64.wrap ((a.Mats.length:Int)-1))).bind λe=>(bif e then(F_fe n a.Legs).bind λf=>(bif f then(F_co n a.Distances (i64.wrap ((a.Mats.length:Int)-1))).bind λg=>(bif g then(F_dv n a.Waves).bind λh=>(bif h then(F_cr n a.Offences).bind λi=>(bif i then(F_bz n a.Categories).bind λj=>(bif j then(F_dd n a.Prizes a).bind λk=>(bif k then(F_gb n a.Prizes).bind λl=>(bif l then(F_a n 0 16 [a.Faults.Misses,a.Faults.Strays]).bind λm=>(bif m then(F_a n 0 4294967296 [a.Faults.Window,a.Faults.Residual]).bind λp=>(bif p then(F_a n 0 100000 [a.Faults.Drift]).bind λq=>(bif q then(F_a n 0 1125899906842624 [a.Fee]).bind λr=>(bif r then(F_a n 0 1099511627776 [a.Deadline]).bind λs=>some s else some false)else some false)else some false)else some false)else some false)else some false)else some false)else some false)else some false)else some false)else some false)else some false)else some false):Option Bool).bind λt=>some t
theorem k_dw(d:Course):Ks (F_dw n d) 39 [.agg (Course.c d)] [] (λr=>.bool r):=by
 refine Kg 10 func39 Z Z Z Z λr h=>Lg 55 Z Z (Bd h λe a h=>Cg e [] [] (λe=>[(2,.bool e)]) Ze Zf ?_ ?_)
 .refine G0 3 Z (Cz [] a (k_du _ _) Z λQ x a=>Go 1 Z (Is 25 a Z (λ_ a=>?_) (λ_ a=>?_)))
  .refine Go 3 Z (Cd [1] a (k_cl _ _ _) Z λR y a=>Fg 2 Z Z (Is 31 a Z (λ_ a=>?_) (λ_ a=>?_)))
   .refine Go 2 Z (Cz [] a (k_fe _ _) Z λT z a=>Go 2 Z (Is 36 a Z (λ_ a=>?_) (λ_ a=>?_)))
    .refine Go 3 Z (Cz [1,2,3] a (k_co _ _ _) Z λV B a=>Go 2 Z (Is 42 a Z (λ_ a=>?_) (λ_ a=>?_)))
     .refine Go 2 Z (Cz [] a (k_dv _ _) Z λW E a=>Go 2 Z (Is 47 a Z (λ_ a=>?_) (λ_ a=>?_)))
      .refine Go 3 Z (Cz [] a (k_cr _ _) Z λX F a=>Go 2 Z (Is 53 a Z (λ_ a=>?_) (λ_ a=>?_)))
       .refine Go 2 Z (Cz [] a (k_bz _ _) Z λY G a=>Go 2 Z (Is 58 a Z (λ_ a=>?_) (λ_ a=>?_)))
        .refine Go 3 Z (Cz [0] a (k_dd _ _ _) Z λaa H a=>Go 2 Z (Is 64 a Z (λ_ a=>?_) (λ_ a=>?_)))
         .refine Go 2 Z (Cz [] a (k_gb _ _) Z λab J a=>Go 2 Z (Is 69 a Z (λ_ a=>?_) (λ_ a=>?_)))
          .refine Go 4 Z (vH (Ek (xs:=[.tmp 71,.tmp 73]) (es:=map (Qe .i64) [d.Faults.Misses,d.Faults.Strays]) Qu Z Z Z Z Z ⟨Z,Z,trivial⟩ Z Z) ?_ (gT Z));refine FE Z (Cb a (k_a _ _ _ _) Z (ls (ls (lo ln))) λac L a=>Go 2 Z (Is 77 a Z (λ_ a=>?_) (λ_ a=>?_)))
           .refine Go 4 Z (vH (Ek (xs:=[.tmp 79,.tmp 81]) (es:=map (Qe .i64) [d.Faults.Window,d.Faults.Residual]) Qu Z Z Z Z Z ⟨Z,Z,trivial⟩ Z Z) ?_ (gT Z));refine FE Z (Cb a (k_a _ _ _ _) Z (ls (ls (lo ln))) λae M a=>Go 2 Z (Is 85 a Z (λ_ a=>?_) (λ_ a=>?_)))
            .refine Go 2 Z (vH (Ek (xs:=[.tmp 87]) (es:=map (Qe .i64) [d.Faults.Drift]) Qu Z Z Z Z Z ⟨Z,trivial⟩ Z Z) ?_ (gT Z));refine FE Z (Cb a (k_a _ _ _ _) Z (ls (ls (lo ln))) λaf N a=>Go 2 Z (Is 91 a Z (λ_ a=>?_) (λ_ a=>?_)))
             .refine Go 2 Z (vH (Ek (xs:=[.tmp 93]) (es:=map (Qe .i64) [d.Fee]) Qu Z Z Z Z Z ⟨Z,trivial⟩ Z Z) ?_ (gT Z));refine FE Z (Cb a (k_a _ _ _ _) Z (ls (ls (lo ln))) λag O a=>Go 2 Z (Is 97 a Z (λ_ a=>?_) (λ_ a=>?_)))
              .refine Go 2 Z (vH (Ek (xs:=[.tmp 99]) (es:=map (Qe .i64) [d.Deadline]) Qu Z Z Z Z Z ⟨Z,trivial⟩ Z Z) ?_ (gT Z));exact FE Z (Cb a (k_a _ _ _ _) Z (ls (ls (lo ln))) λah P a=>Gl 3 Z a [])
              .exact Gl 7 Z a []
             .exact Gl 13 Z a []
            .exact Gl 19 Z a []
           .exact Gl 27 Z a []
          .exact Gl 35 Z a []
         .exact Gl 40 Z a []
        .exact Gl 46 Z a []
       .exact Gl 51 Z a []
      .exact Gl 57 Z a []
     .exact Gl 62 Z a []
    .exact Gl 68 Z a []
   .exact Gl 73 Z a []
  .exact Gl 79 Z a []
 exact QI 1 Z h 2 []
def F_lu(n:Nat)(d:List Step)(a:(List Ui)×Int):Option (Ctl ((List Ui)×Int) (List Ui)):=(bif decide (a.2<(d.length:Int))then(idx d a.2).bind λe=>(app a.1 [Ui.ctyping_step ({Step:=e:Uk})]).bind λf=>some (.cont (f,i64.wrap (a.2+1)))else some (.done a.1))
def F_at(a:List Step):Option (List Ui):=(iter (F_lu n a) n ([],0):Option (List Ui)).bind λd=>some d
theorem k_at(m:List Step):Kq (F_at n m) 108 [.rsl 8 (map Step.enc m)] [] (λr=>.osl 0 0 r.length 1) (λr=>[.row 263 1 (map Ui.enc r)]):=by
 refine Kg 9 func108 Z Z Z Z λr h=>Lg 3 Z Z (Bd h λf q h=>Cg f [0] [] (λf=>[(2,.osl 0 0 f.length 1)]) (λf=>[(0,.row 263 1 (map Ui.enc f))]) Zf ?_ ?_)
 .refine G0 1 Z (Lp [0] [5,6] (λd=>[(2,.osl 0 0 d.1.length 1),(7,I d.2)]) (λd=>[(0,.row 263 1 (map Ui.enc d.1))]) q Zf ?_ ?_)
  .exact En (Ep (s:=2) (XO Z) Z) (Lr [0])
  intro d t a g;refine G0 6 Z (Q8 Z a (λ_ a=>?_) (λ_ a=>?_))
  .exact Gc 2 Z (Ql a (Gx 1 Z (cQo g a (Lr [0]))))
  refine Gc 6 Z (Bd a λp k a=>IzE k (YT p) Z (Go 9 Z ?_));refine vV (Qao Z Gu (by nofun) Z) (vH (Ek (xs:=[.tmp 14]) QcW Z Z Z Z Z ⟨Z,trivial⟩ Z Z) ?_);refine FE Z (Bd a λu l a=>vH (Qk (e:=Ui.enc) l QcW Gd (QH (i:=2))) ?_);exact Fg 8 Z Z (Qj a (Lr [3]))
 exact QI 7 Z h 2 [0]
def F_aq(n:Nat)(a:Uf):Option Bool:=((bif (a.Cond.Kind==0)then(bif (a.Cond.Var==0)then(bif (a.Cond.N==0)then some ((a.Cond.Parts.length:Int)==0)else some false)else some false)else some false):Option Bool).bind λd=>some d
theorem k_aq(e:Uf):Ks (F_aq n e) 212 [.agg (Uf.c ({Cond:=e.Cond:Uf}))] [] (λr=>.bool r):=by
 refine Kg 7 func212 Z Z Z Z λr h=>Bd h λd a h=>Cg d [] [] (λd=>[(2,.bool d)]) Ze Zf ?_ ?_
 .refine G0 6 Z (Is 7 a Z (λ_ a=>?_) (λ_ a=>?_))
  .refine Go 6 Z (Is 13 a Z (λ_ a=>?_) (λ_ a=>?_))
   .refine Go 6 Z (Is 19 a Z (λ_ a=>?_) (λ_ a=>?_))
    .exact Go 3 Z (Lm Z (Gl 4 Z a []))
    .exact Gl 8 Z a []
   .exact Gl 14 Z a []
  .exact Gl 20 Z a []
 exact QI 1 Z h 2 []
def F_ak(a:Uk):Option (List Ui):=(F_at n a.Step.Then).bind λd=>(F_at n a.Step.Else).bind λe=>(app d e).bind λf=>some f
theorem k_ak(a:Uk):Kq (F_ak n a) 263 [.agg (Uk.c a)] [] (λr=>.osl 0 0 r.length 1) (λr=>[.row 263 1 (map Ui.enc r)]):=by
 refine Kg 7 func263 Z Z Z Z λr h=>DAs 7 3 [0,0,0,1,3,3,3] (by kernel_rfl) (Da 3 Z ?_);obtain⟨d,e,h⟩:=YM h;refine DA.op (x:=.osl 1 0 d.length 1) (H1:=[.cells 266 (Uk.c a),.row 263 1 (map Ui.enc d)]) ?_ ?_
 .refine QD [] (OpC.fn call108 Z Z Z) (k_at _ _ _ e) ?_;rintro _ _ ⟨rfl,rfl⟩;exact FE Z Wp
 refine Db 2 Z ?_;refine DB.wo2 (Ld isAgg29 Z Wp) (Ld isAgg29 Z Wp) (DB.done Z (Cd [] h (k_at _ _) Z λj g h=>FE Z (Bd h λk f h=>vH (Qk f QcW Gd (QH (i:=2))) ?_)));exact FE Z (Gt 4 Z h 2 [3])
def F_mp(n:Nat)(d:List Cond)(a:(List Ui)×Int):Option (Ctl ((List Ui)×Int) (List Ui)):=(bif decide (a.2<(d.length:Int))then(idx d a.2).bind λe=>(app a.1 [Ui.ctyping_cond ({Cond:=e:Uf})]).bind λf=>some (.cont (f,i64.wrap (a.2+1)))else some (.done a.1))
def F_gu(a:List Cond):Option (List Ui):=(iter (F_mp n a) n ([],0):Option (List Ui)).bind λd=>some d
theorem k_gu(m:List Cond):Kq (F_gu n m) 283 [.rsl 4 (map Cond.enc m)] [] (λr=>.osl 0 0 r.length 1) (λr=>[.row 263 1 (map Ui.enc r)]):=by
 refine Kg 9 func283 Z Z Z Z λr h=>Lg 3 Z Z (Bd h λf q h=>Cg f [0] [] (λf=>[(2,.osl 0 0 f.length 1)]) (λf=>[(0,.row 263 1 (map Ui.enc f))]) Zf ?_ ?_)
 .refine G0 1 Z (Lp [0] [5,6] (λd=>[(2,.osl 0 0 d.1.length 1),(7,I d.2)]) (λd=>[(0,.row 263 1 (map Ui.enc d.1))]) q Zf ?_ ?_)
  .exact En (Ep (s:=2) (XO Z) Z) (Lr [0])
  intro d t a g;refine G0 6 Z (Q8 Z a (λ_ a=>?_) (λ_ a=>?_))
  .exact Gc 2 Z (Ql a (Gx 1 Z (cQo g a (Lr [0]))))
  refine Gc 6 Z (Bd a λp k a=>IzE k (Qap p) Z (Go 9 Z ?_));refine vV (Qao Z EK (by nofun) Z) (vH (Ek (xs:=[.tmp 14]) QcW Z Z Z Z Z ⟨Z,trivial⟩ Z Z) ?_);refine FE Z (Bd a λu l a=>vH (Qk (e:=Ui.enc) l QcW Gd (QH (i:=2))) ?_);exact Fg 8 Z Z (Qj a (Lr [3]))
 exact QI 7 Z h 2 [0]
def F_af(a:Uf):Option (List Ui):=(F_gu n a.Cond.Parts).bind λd=>some d
theorem k_af(a:Uf):Kq (F_af n a) 262 [.agg (Uf.c ({Cond:=a.Cond:Uf}))] [] (λr=>.osl 0 0 r.length 1) (λr=>[.row 263 1 (map Ui.enc r)]):=by
 exact Kg 11 func262 Z Z Z Z λr h=>Cd [] h (k_gu _ _) Z λe d h=>FE Z (Gt 4 Z h 2 [1])
def F_ep(m:List Ui)(p:Int)(rec90:(List Ui)->Int->Ug->Option (Ug×Bool))(a:Ug×Int):Option (Ctl (Ug×Int) (Ctl Ug (Ug×Bool))):=(bif decide (a.2<(m.length:Int))then(idx m a.2).bind λq=>Ui.elim q (λg=>((F_aq n ({Cond:=g.Step.Cond:Uf})).bind λr=>(bif (!r)then(rec90 [Ui.ctyping_cond ({Cond:=g.Step.Cond:Uf})] 0 ({steps:=i64.wrap (a.1.steps+1),conds:=a.1.conds:Ug})).bind λh=>some (h.1,(!h.2))else some ({steps:=i64.wrap (a.1.steps+1),conds:=a.1.conds:Ug},false)):Option (Ug×Bool)).bind λd=>(bif d.2 then some (.done (.done (d.1,false)))else((bif decide (64<d.1.steps)then some (d.1,true)else(bif decide (256<d.1.conds)then some (d.1,true)else(F_ak n g).bind λk=>(rec90 k (i64.wrap (p+1)) d.1).bind λi=>some (i.1,(!i.2)))):Option (Ug×Bool)).bind λe=>(bif e.2 then some (.done (.done (e.1,false)))else some (.cont (e.1,i64.wrap (a.2+1)))))) (λs=>((bif decide (64<a.1.steps)then some ({steps:=a.1.steps,conds:=i64.wrap (a.1.conds+1):Ug},true)else(bif decide (256<(i64.wrap (a.1.conds+1)))then some ({steps:=a.1.steps,conds:=i64.wrap (a.1.conds+1):Ug},true)else(F_af n ({Cond:=s.Cond:Uf})).bind λl=>(rec90 l (i64.wrap (p+1)) ({steps:=a.1.steps,conds:=i64.wrap (a.1.conds+1):Ug})).bind λj=>some (j.1,(!j.2)))):Option (Ug×Bool)).bind λf=>(bif f.2 then some (.done (.done (f.1,false)))else some (.cont (f.1,i64.wrap (a.2+1)))))else some (.done (.cont a.1)))
def B_g(rec90:(List Ui)->Int->Ug->Option (Ug×Bool))(n:Nat)(d:List Ui)(e:Int)(f:Ug):Option (Ug×Bool):=((bif decide (0<(d.length:Int))then some (decide (16<e))else some false):Option Bool).bind λb2=>(bif b2 then some (f,false)else(iter (F_ep n d e rec90) n (f,0):Option (Ctl Ug (Ug×Bool))).bind λg=>match g with|.cont a=>(some (a,true))|.done a=>some a)
theorem Qaw(rec90:(List Ui)->Int->Ug->Option (Ug×Bool))(g:∀(l:List Ui) (x:Int) (y:Ug) (r:Ug×Bool),rec90 l x y=some r->C prog 168 [.ptr 0 0,.osl 1 0 l.length 1,I x] [.cells 259 (Ug.c y),.row 263 1 (map Ui.enc l)] (RQ (λr=>.bool r.2) (λr=>[.cells 259 (Ug.c r.1),.row 263 1 (map Ui.enc l)]) r))(n:Nat)(l:List Ui)(x:Int)(y:Ug)(r:Ug×Bool)(h:B_g rec90 n l x y=some r):C prog 168 [.ptr 0 0,.osl 1 0 l.length 1,I x] [.cells 259 (Ug.c y),.row 263 1 (map Ui.enc l)] (RQ (λr=>.bool r.2) (λr=>[.cells 259 (Ug.c r.1),.row 263 1 (map Ui.enc l)]) r):=by
 refine QE func168 Z Z Z ?_;refine G0 7 Z (Bd h λb2 B h=>Ct b2 [0,1] [0,1,2] (λb2=>[(18,.bool b2)]) Ze Zf ?_ (λenv H q=>?_))
 .refine G0 5 Z (Is 15 B Z (λ_ B=>?_) (λ_ B=>?_))
  iterate 2 exact Gl 4 Z B [0,1]
 refine Gx 1 Z (Qf q (Cn Z h (λ_ h=>?_) (λ_ h=>?_)))
 .exact QI 7 Z h 6 [0,1]
 refine Gc 10 Z (Bd h λaa ab h=>CgE (b:=aa) [0,1] [] Ze (λE=>[(0,.cells 259 (Ug.c E))]) Zf ?_ (λE ac=>?_))
 .refine G0 1 Z (Lp [0,1] [0,2,19,20] (λt=>[(21,I t.2)]) (λt=>[(0,.cells 259 (Ug.c t.1))]) ab Zf (Lr [0,1]) λt an a p=>?_);refine G0 6 Z (Q8 Z a (λ_ a=>?_) (λ_ a=>?_))
  .exact Gc 2 Z (Ql a (Gx 1 Z (JN p a Z (Lr [0,1]))))
  refine Gc 6 Z (Bd a λT F a=>?_);refine vX (.ptr 1 (toNat t.2*1)) (Qv F Z Gd sizeOf263) ?_;refine vX (Ui.val T) (Ey Z isAgg263 Z (Qi F)) ?_;refine Go 12 Z ?_;rcases JQ T with⟨k,hE90⟩|⟨w,hE92⟩
  .have a:=JC hE90 a;refine QG (QU (s:=8) (a':=.iface 266 (.agg (Uk.c k))) Z (congrArg Ui.val hE90)) ?_;refine QG (QU (s:=24) (a':=.iface 266 (.agg (Uk.c k))) Z (congrArg Ui.val hE90)) ?_;refine QG (QU (s:=25) (a':=.iface 266 (.agg (Uk.c k))) Z (congrArg Ui.val hE90)) ?_;refine vX (.tup [.agg [I 0,I 0,I 0,.rsl 4 (map Cond.enc [])],.bool false]) (Qiv (z:=(.agg [I 0,I 0,I 0,.rsl 4 (map Cond.enc [])])) EK (by intro m;nofun) Z GO (zrC Z)) ?_;refine Go 7 Z ?_;refine vX (.tup [.agg (Uk.c k),.bool true]) (QbA Gu (by intro m;nofun)) ?_;refine Go 34 Z (Bd a λu f a=>Ct u [0,1] [0,2,8,19,20,21] (λu=>[(60,.bool u.2)]) (λu=>[(0,.cells 259 (Ug.c u.1))]) Zf ?_ (λenv H q=>?_))
   .refine G0 2 Z (Cz [] f (k_aq _ _) Z λao ah f=>Go 2 Z (Is 53 f Z (λ_ f=>?_) (λ_ f=>?_)))
    .refine Go 2 Z ?_;refine vX (.iface 315 (.agg (Uf.c ({Cond:=k.Step.Cond:Uf})))) (Qao Z EK (by intro m;nofun) Z) ?_ (gT Z);refine vH (Ek (xs:=[.tmp 56]) (es:=map Ui.enc [Ui.ctyping_cond ({Cond:=k.Step.Cond:Uf})]) QcW Z Z Z Z Z ⟨Z,trivial⟩ Z Z) ?_ (gT Z);exact FE Z (Cd [0,4] f (g _ _ _) Z λai ae f=>FE Z (Gl 3 Z f [0,1]))
    .exact Gl 8 Z f [0,1]
   refine Gx 1 Z (Qf q (Cn Z a (λ_ a=>?_) (λ_ a=>?_)))
   .refine Gc 10 Z (Qx a ?_);obtain rfl:=Oj p a;exact Gx 1 Z (Qt (Gx 1 Z (Rt h 6 [0,1])))
   refine Gc 4 Z (Bd a λi d a=>Ct i [0,1] [0,2,19,20,21] (λi=>[(81,.bool i.2)]) (λi=>[(0,.cells 259 (Ug.c i.1))]) Zf ?_ (λenv H q=>?_))
   .refine G0 7 Z (Is 66 d Z (λ_ d=>?_) (λ_ d=>?_))
    .exact Gl 16 Z d [0,1]
    .refine Go 7 Z (Is 73 d Z (λ_ d=>?_) (λ_ d=>?_))
     .exact Gl 9 Z d [0,1]
     .refine Go 2 Z (Bd d λaj M d=>?_);refine QD [] (Qe3 call263 Z Z Z Z (λ_ _=>by kernel_rfl)) (k_ak _ _ _ M) ?_ (hg:=(gT Z));rintro _ _ ⟨rfl,rfl⟩;exact Fg 2 Z Z (Cd [0,2] d (g _ _ _) Z λak af d=>FE Z (Gl 3 Z d [0,1]))
   refine Gx 1 Z (Qf q (Cn Z a (λ_ a=>?_) (λ_ a=>?_)))
   .refine Gc 8 Z (Qx a ?_);obtain rfl:=Oj p a;exact Gx 1 Z (Qt (Gx 1 Z (Rt h 6 [0,1])))
   exact Gc 7 Z (Qj a (Lr [0,1]))
  .have a:=JB hE92 a;refine QG (QU (s:=8) (a':=.iface 315 (.agg (Uf.c ({Cond:=w.Cond:Uf})))) Z (congrArg Ui.val hE92)) ?_;refine QG (QU (s:=24) (a':=.iface 315 (.agg (Uf.c ({Cond:=w.Cond:Uf})))) Z (congrArg Ui.val hE92)) ?_;refine QG (QU (s:=25) (a':=.iface 315 (.agg (Uf.c ({Cond:=w.Cond:Uf})))) Z (congrArg Ui.val hE92)) ?_;refine vX (.tup [.agg (Uf.c ({Cond:=w.Cond:Uf})),.bool true]) (QbA EK (by intro m;nofun)) ?_;refine Go 24 Z (Bd a λj e a=>Cg j [0,1] [0,2,19,20,21] (λj=>[(81,.bool j.2)]) (λj=>[(0,.cells 259 (Ug.c j.1))]) Zf ?_ ?_)
   .refine G0 7 Z (Is 66 e Z (λ_ e=>?_) (λ_ e=>?_))
    .exact Gl 16 Z e [0,1]
    .refine Go 7 Z (Is 73 e Z (λ_ e=>?_) (λ_ e=>?_))
     .exact Gl 9 Z e [0,1]
     .refine Go 2 Z (Bd e λal Q e=>?_);refine QD [] (Qe3 call262 Z Z Z Z (λ_ _=>by kernel_rfl)) (k_af _ _ _ Q) ?_ (hg:=(gT Z));rintro _ _ ⟨rfl,rfl⟩;exact Fg 2 Z Z (Cd [0,3] e (g _ _ _) Z λam ag e=>FE Z (Gl 3 Z e [0,1]))
   refine Cn Z a (λ_ a=>?_) (λ_ a=>?_)
   .refine Gc 8 Z (Qx a ?_);obtain rfl:=Oj p a;exact Gx 1 Z (Qt (Gx 1 Z (Rt h 6 [0,1])))
   exact Gc 7 Z (Qj a (Lr [0,1]))
 subst ac;exact QI 6 Z h 6 [0,1]
def F_g:Nat->(List Ui)->Int->Ug->Option (Ug×Bool)
  |0=>λ_ _ _=>none
  |n+1=>B_g (F_g n) n
theorem k_g:∀(a:List Ui) (d:Int) (e:Ug) (r:Ug×Bool),F_g n a d e=some r->C prog 168 [.ptr 0 0,.osl 1 0 a.length 1,I d] [.cells 259 (Ug.c e),.row 263 1 (map Ui.enc a)] (RQ (λr=>.bool r.2) (λr=>[.cells 259 (Ug.c r.1),.row 263 1 (map Ui.enc a)]) r):=by
  induction n with
  |zero=>intro a d e r h;cases h
  |succ n ih=>intro a d e r h;exact Qaw _ ih n a d e r h
def F_ma(m:List Ui)(p:Int)(a:Ug×Int):Option (Ctl (Ug×Int) (Ctl Ug (Ug×Bool))):=(bif decide (a.2<(m.length:Int))then(idx m a.2).bind λq=>Ui.elim q (λg=>((F_aq n ({Cond:=g.Step.Cond:Uf})).bind λr=>(bif (!r)then(F_g n [Ui.ctyping_cond ({Cond:=g.Step.Cond:Uf})] 0 ({steps:=i64.wrap (a.1.steps+1),conds:=a.1.conds:Ug})).bind λh=>some (h.1,(!h.2))else some ({steps:=i64.wrap (a.1.steps+1),conds:=a.1.conds:Ug},false)):Option (Ug×Bool)).bind λd=>(bif d.2 then some (.done (.done (d.1,false)))else((bif decide (64<d.1.steps)then some (d.1,true)else(bif decide (256<d.1.conds)then some (d.1,true)else(F_ak n g).bind λk=>(F_g n k (i64.wrap (p+1)) d.1).bind λi=>some (i.1,(!i.2)))):Option (Ug×Bool)).bind λe=>(bif e.2 then some (.done (.done (e.1,false)))else some (.cont (e.1,i64.wrap (a.2+1)))))) (λs=>((bif decide (64<a.1.steps)then some ({steps:=a.1.steps,conds:=i64.wrap (a.1.conds+1):Ug},true)else(bif decide (256<(i64.wrap (a.1.conds+1)))then some ({steps:=a.1.steps,conds:=i64.wrap (a.1.conds+1):Ug},true)else(F_af n ({Cond:=s.Cond:Uf})).bind λl=>(F_g n l (i64.wrap (p+1)) ({steps:=a.1.steps,conds:=i64.wrap (a.1.conds+1):Ug})).bind λj=>some (j.1,(!j.2)))):Option (Ug×Bool)).bind λf=>(bif f.2 then some (.done (.done (f.1,false)))else some (.cont (f.1,i64.wrap (a.2+1)))))else some (.done (.cont a.1)))
def F_ib(d:List Ui)(e:Int)(f:Ug):Option (Ug×Bool):=((bif decide (0<(d.length:Int))then some (decide (16<e))else some false):Option Bool).bind λb2=>(bif b2 then some (f,false)else(iter (F_ma n d e) n (f,0):Option (Ctl Ug (Ug×Bool))).bind λg=>match g with|.cont a=>(some (a,true))|.done a=>some a)
theorem k_ib(Q:List Ui)(R:Int)(T:Ug):Kq (F_ib n Q R T) 168 [.ptr 0 0,.rsl 1 (map Ui.enc Q),I R] [.cells 259 (Ug.c T)] (λr=>.bool r.2) (λr=>[.cells 259 (Ug.c r.1)]):=by
 refine Kg 7 func168 Z Z Z Z λr h=>Bd h λb2 u h=>Ct b2 [0] [0,1,2] (λb2=>[(18,.bool b2)]) Ze Zf ?_ (λenv H l=>?_)
 .refine G0 2 Z (Lg 2 Z Z (Is 15 u Z (λ_ u=>?_) (λ_ u=>?_)))
  iterate 2 exact Gl 4 Z u [0]
 refine Gx 1 Z (Qf l (Cn Z h (λ_ h=>?_) (λ_ h=>?_)))
 .exact QI 7 Z h 6 [0]
 refine Gc 6 Z (Lg 3 Z Z (Bd h λX Y h=>CgE (b:=X) [0] [] Ze (λw=>[(0,.cells 259 (Ug.c w))]) Zf ?_ (λw aa=>?_)))
 .refine G0 1 Z (Lp [0] [0,2,19,20] (λq=>[(21,I q.2)]) (λq=>[(0,.cells 259 (Ug.c q.1))]) Y Zf (Lr [0]) λq am a k=>?_);refine G0 6 Z (Q8 Z a (λ_ a=>?_) (λ_ a=>?_))
  .exact Gc 2 Z (Ql a (Gx 1 Z (JN k a Z (Lr [0]))))
  refine Gc 6 Z (Bd a λab O a=>Iz O Z (Go 13 Z ?_));rcases JQ ab with⟨j,hE90⟩|⟨t,hE92⟩
  .have a:=JC hE90 a;refine QG (QU (s:=8) (a':=.iface 266 (.agg (Uk.c j))) Z (congrArg Ui.val hE90)) ?_;refine QG (QU (s:=24) (a':=.iface 266 (.agg (Uk.c j))) Z (congrArg Ui.val hE90)) ?_;refine QG (QU (s:=25) (a':=.iface 266 (.agg (Uk.c j))) Z (congrArg Ui.val hE90)) ?_;refine vX (.tup [.agg [I 0,I 0,I 0,.rsl 4 (map Cond.enc [])],.bool false]) (Qiv (z:=(.agg [I 0,I 0,I 0,.rsl 4 (map Cond.enc [])])) EK (by intro m;nofun) Z GO (zrC Z)) ?_;refine Go 7 Z ?_;refine vX (.tup [.agg (Uk.c j),.bool true]) (QbA Gu (by intro m;nofun)) ?_;refine Go 34 Z (Bd a λp f a=>Ct p [0] [0,2,8,19,20,21] (λp=>[(60,.bool p.2)]) (λp=>[(0,.cells 259 (Ug.c p.1))]) Zf ?_ (λenv H l=>?_))
   .refine G0 2 Z (Cz [] f (k_aq _ _) Z λan ag f=>Go 2 Z (Is 53 f Z (λ_ f=>?_) (λ_ f=>?_)))
    .refine Go 2 Z ?_;refine vX (.iface 315 (.agg (Uf.c ({Cond:=j.Step.Cond:Uf})))) (Qao Z EK (by intro m;nofun) Z) ?_ (gT Z);refine vH (Ek (xs:=[.tmp 56]) (es:=map Ui.enc [Ui.ctyping_cond ({Cond:=j.Step.Cond:Uf})]) QcW Z Z Z Z Z ⟨Z,trivial⟩ Z Z) ?_ (gT Z);exact FE Z (Cd [0,3] f (k_g _ _ _ _) Z λah ac f=>FE Z (Gl 3 Z f [0]))
    .exact Gl 8 Z f [0]
   refine Gx 1 Z (Qf l (Cn Z a (λ_ a=>?_) (λ_ a=>?_)))
   .refine Gc 10 Z (Qx a ?_);obtain rfl:=Oj k a;exact Gx 1 Z (Qt (Gx 1 Z (Rt h 6 [0])))
   refine Gc 4 Z (Bd a λg d a=>Ct g [0] [0,2,19,20,21] (λg=>[(81,.bool g.2)]) (λg=>[(0,.cells 259 (Ug.c g.1))]) Zf ?_ (λenv H l=>?_))
   .refine G0 7 Z (Is 66 d Z (λ_ d=>?_) (λ_ d=>?_))
    .exact Gl 16 Z d [0]
    .refine Go 7 Z (Is 73 d Z (λ_ d=>?_) (λ_ d=>?_))
     .exact Gl 9 Z d [0]
     .refine Go 2 Z (Bd d λai E d=>?_);refine QD [] (Qe3 call263 Z Z Z Z (λ_ _=>by kernel_rfl)) (k_ak _ _ _ E) ?_ (hg:=(gT Z));rintro _ _ ⟨rfl,rfl⟩;exact Fg 2 Z Z (Cd [0,1] d (k_g _ _ _ _) Z λaj ae d=>FE Z (Gl 3 Z d [0]))
   refine Gx 1 Z (Qf l (Cn Z a (λ_ a=>?_) (λ_ a=>?_)))
   .refine Gc 8 Z (Qx a ?_);obtain rfl:=Oj k a;exact Gx 1 Z (Qt (Gx 1 Z (Rt h 6 [0])))
   exact Gc 7 Z (Qj a (Lr [0]))
  .have a:=JB hE92 a;refine QG (QU (s:=8) (a':=.iface 315 (.agg (Uf.c ({Cond:=t.Cond:Uf})))) Z (congrArg Ui.val hE92)) ?_;refine QG (QU (s:=24) (a':=.iface 315 (.agg (Uf.c ({Cond:=t.Cond:Uf})))) Z (congrArg Ui.val hE92)) ?_;refine QG (QU (s:=25) (a':=.iface 315 (.agg (Uf.c ({Cond:=t.Cond:Uf})))) Z (congrArg Ui.val hE92)) ?_;refine vX (.tup [.agg (Uf.c ({Cond:=t.Cond:Uf})),.bool true]) (QbA EK (by intro m;nofun)) ?_;refine Go 24 Z (Bd a λi e a=>Cg i [0] [0,2,19,20,21] (λi=>[(81,.bool i.2)]) (λi=>[(0,.cells 259 (Ug.c i.1))]) Zf ?_ ?_)
   .refine G0 7 Z (Is 66 e Z (λ_ e=>?_) (λ_ e=>?_))
    .exact Gl 16 Z e [0]
    .refine Go 7 Z (Is 73 e Z (λ_ e=>?_) (λ_ e=>?_))
     .exact Gl 9 Z e [0]
     .refine Go 2 Z (Bd e λak L e=>?_);refine QD [] (Qe3 call262 Z Z Z Z (λ_ _=>by kernel_rfl)) (k_af _ _ _ L) ?_ (hg:=(gT Z));rintro _ _ ⟨rfl,rfl⟩;exact Fg 2 Z Z (Cd [0,2] e (k_g _ _ _ _) Z λal af e=>FE Z (Gl 3 Z e [0]))
   refine Cn Z a (λ_ a=>?_) (λ_ a=>?_)
   .refine Gc 8 Z (Qx a ?_);obtain rfl:=Oj k a;exact Gx 1 Z (Qt (Gx 1 Z (Rt h 6 [0])))
   exact Gc 7 Z (Qj a (Lr [0]))
 subst aa;exact QI 6 Z h 6 [0]
def F_gx(rec94:(List Ui)->Option Bool)(n:Nat)(a:Uf):Option Bool:=((bif (a.Cond.Var==0)then some (a.Cond.N==0)else some false):Option Bool).bind λb2=>(bif (a.Cond.Kind==1)then((F_a n 1 3 [a.Cond.Var]).bind λe=>(bif e then(F_a n 0 10000 [a.Cond.N]).bind λf=>(bif f then some ((a.Cond.Parts.length:Int)==0)else some false)else some false):Option Bool).bind λg=>some g else((bif (a.Cond.Kind==4)then(bif b2 then some (.cont ((a.Cond.Parts.length:Int)==1))else some (.cont false))else((bif (a.Cond.Kind==2)then some (a.Cond.Kind==2)else some (a.Cond.Kind==3)):Option Bool).bind λh=>(bif h then(bif b2 then(bif decide (0<(a.Cond.Parts.length:Int))then some (.cont (decide ((a.Cond.Parts.length:Int)<=16)))else some (.cont false))else some (.cont false))else some (.done false))):Option (Ctl Bool Bool)).bind λi=>match i with|.cont d=>(((bif d then(F_af n ({Cond:=a.Cond:Uf})).bind λj=>(rec94 j).bind λk=>some (!k)else some false):Option Bool).bind λl=>some l)|.done d=>some d)
theorem k_gx(rec94:(List Ui)->Option Bool)(j:∀(i:List Ui) (r:Bool),rec94 i=some r->Csm prog 169 [.rsl 1 (map Ui.enc i),.fn (.func 170) [] []] [] (λr=>.bool r) r)(n:Nat)(i:Uf):Ks (F_gx rec94 n i) 214 [.iface 315 (.agg (Uf.c ({Cond:=i.Cond:Uf})))] [] (λr=>.bool r):=by
 refine Kg 14 func214 Z Z Z Z λr h=>?_;refine vV (QbA EK (by intro m;nofun)) ?_;refine Go 12 Z (Bd h λb2 k h=>Ct b2 [0] [3] (λb2=>[(4,.bool b2)]) Ze Zf ?_ (λenv H f=>?_))
 .refine G0 6 Z (Is 15 k Z (λ_ k=>?_) (λ_ k=>?_))
  iterate 2 exact Gl 7 Z k [0]
 refine Gx 1 Z (Qf f (Gc 15 Z (Cn Z h (λ_ h=>?_) (λ_ h=>?_))))
 .refine Gc 1 Z (Bd h λl d h=>Ct l [] [] (λl=>[(2,.bool l)]) Ze Zf ?_ (λenv H f=>?_))
  .refine G0 4 Z (vH (Ek (xs:=[.tmp 28]) (es:=map (Qe .i64) [i.Cond.Var]) Qu Z Z Z Z Z ⟨Z,trivial⟩ Z Z) ?_);refine FE Z (Cb d (k_a _ _ _ _) Z (ls (ls (lo ln))) λR M d=>Go 1 Z (Is 31 d Z (λ_ d=>?_) (λ_ d=>?_)))
   .refine Go 3 Z (vH (Ek (xs:=[.tmp 34]) (es:=map (Qe .i64) [i.Cond.N]) Qu Z Z Z Z Z ⟨Z,trivial⟩ Z Z) ?_ (gT Z));refine FE Z (Cb d (k_a _ _ _ _) Z (ls (ls (lo ln))) λT O d=>Go 2 Z (Is 38 d Z (λ_ d=>?_) (λ_ d=>?_)))
    .exact Go 3 Z (Lm Z (Gl 4 Z d []))
    .exact Gl 8 Z d []
   .exact Gl 15 Z d []
  exact Gx 1 Z (Qf f (QI 5 Z h 2 []))
 refine Gc 6 Z (Bd h λL a h=>CtE (b:=L) [0] [3] (λp=>[(4,.bool p)]) Ze Zf ?_ (λp env H hb f=>?_))
 .refine G0 0 Z (Cn Z a (λ_ a=>?_) (λ_ a=>?_))
  .refine Gc 3 Z (Is 48 a Z (λ_ a=>?_) (λ_ a=>?_))
   .refine Go 3 Z (Lg 4 Z Z ?_);cases a;exact Yv Z (Lr [0])
   .refine Go 8 Z ?_;cases a;exact Yv Z (Lr [0])
  refine Gc 7 Z (Bd a λq g a=>Ct q [0] [3,4] (λq=>[(55,.bool q)]) Ze Zf ?_ (λenv H f=>?_))
  .refine G0 0 Z (Cn Z g (λ_ g=>?_) (λ_ g=>?_))
   .exact YC 1 Z g [0]
   exact YC 4 Z g [0]
  refine Gx 1 Z (Qf f (Q8 Z a (λ_ a=>?_) (λ_ a=>?_)))
  .refine Gc 6 Z ?_;cases a;exact Qt (Gx 4 Z (Rt h 2 []))
  refine Gc 3 Z (Is 59 a Z (λ_ a=>?_) (λ_ a=>?_))
  .refine Go 3 Z (Lg 3 Z Z (Is 66 a Z (λ_ a=>?_) (λ_ a=>?_)))
   .refine Go 3 Z (Lg 4 Z Z ?_);cases a;exact Yv Z (Lr [0])
   .refine Go 8 Z ?_;cases a;exact Yv Z (Lr [0])
  .refine Go 15 Z ?_;cases a;exact Yv Z (Lr [0])
 subst hb;refine Gx 2 Z (Qf f (Gc 1 Z (Bd h λs e h=>Cg s [] [] (λs=>[(2,.bool s)]) Ze Zf ?_ ?_)))
 .refine G0 3 Z (Is 74 e Z (λ_ e=>?_) (λ_ e=>?_))
  .exact Go 1 Z (Cd [] e (k_af _ _) Z λV P e=>FE Z (Cb e (j _) Z (lo (ls ln)) λW Q e=>Gl 4 Z e []))
  .exact Gl 7 Z e []
 exact QI 3 Z h 2 []
def F_ka(rec94:(List Ui)->Option Bool)(n:Nat)(z:Ui):Option Bool:=Ui.elim z (λd=>(bif (d.Step.Kind==1)then((F_a n 1 5 [d.Step.By]).bind λg=>(bif g then(F_aq n ({Cond:=d.Step.Cond:Uf})).bind λh=>(bif h then(F_ak n d).bind λi=>some ((i.length:Int)==0)else some false)else some false):Option Bool).bind λj=>some j else(bif (d.Step.Kind==2)then((bif (d.Step.By==0)then(F_gx rec94 n ({Cond:=d.Step.Cond:Uf})).bind λk=>(bif k then(bif decide (0<(d.Step.Then.length:Int))then(F_ak n d).bind λl=>(rec94 l).bind λm=>some (!m)else some false)else some false)else some false):Option Bool).bind λp=>some p else some false))) (λa=>((bif (a.Cond.Var==0)then some (a.Cond.N==0)else some false):Option Bool).bind λf=>(bif (a.Cond.Kind==1)then((F_a n 1 3 [a.Cond.Var]).bind λq=>(bif q then(F_a n 0 10000 [a.Cond.N]).bind λr=>(bif r then some ((a.Cond.Parts.length:Int)==0)else some false)else some false):Option Bool).bind λs=>some s else((bif (a.Cond.Kind==4)then(bif f then some (.cont ((a.Cond.Parts.length:Int)==1))else some (.cont false))else((bif (a.Cond.Kind==2)then some (a.Cond.Kind==2)else some (a.Cond.Kind==3)):Option Bool).bind λt=>(bif t then(bif f then(bif decide (0<(a.Cond.Parts.length:Int))then some (.cont (decide ((a.Cond.Parts.length:Int)<=16)))else some (.cont false))else some (.cont false))else some (.done false))):Option (Ctl Bool Bool)).bind λu=>match u with|.cont e=>(((bif e then(F_af n ({Cond:=a.Cond:Uf})).bind λw=>(rec94 w).bind λx=>some (!x)else some false):Option Bool).bind λy=>some y)|.done e=>some e))
theorem k_ka(rec94:(List Ui)->Option Bool)(j:∀(p:List Ui) (r:Bool),rec94 p=some r->Csm prog 169 [.rsl 1 (map Ui.enc p),.fn (.func 170) [] []] [] (λr=>.bool r) r)(n:Nat)(p:Ui):Ks (F_ka rec94 n p) 214 [Ui.val p] [] (λr=>.bool r):=by
 refine Kg 14 func214 Z Z Z Z λr h=>?_;rcases JQ p with⟨q,hE2⟩|⟨t,hE4⟩
 .have h:=JC hE2 h;refine QG (QU (s:=0) (a':=.iface 266 (.agg (Uk.c q))) Z (congrArg Ui.val hE2)) ?_;refine QG (QU (s:=7) (a':=.iface 266 (.agg (Uk.c q))) Z (congrArg Ui.val hE2)) ?_;refine vX (.tup [.agg [I 0,I 0,I 0,.rsl 4 (map Cond.enc [])],.bool false]) (Qiv (z:=(.agg [I 0,I 0,I 0,.rsl 4 (map Cond.enc [])])) EK (by intro m;nofun) Z GO (zrC Z)) ?_;refine Go 7 Z ?_;refine vX (.tup [.agg (Uk.c q),.bool true]) (QbA Gu (by intro m;nofun)) ?_;refine Go 35 Z (Cn Z h (λ_ h=>?_) (λ_ h=>?_))
  .refine Gc 1 Z (Bd h λu e h=>Ct u [] [] (λu=>[(2,.bool u)]) Ze Zf ?_ (λenv H g=>?_))
   .refine G0 4 Z (vH (Ek (xs:=[.tmp 94]) (es:=map (Qe .i64) [q.Step.By]) Qu Z Z Z Z Z ⟨Z,trivial⟩ Z Z) ?_);refine FE Z (Cb e (k_a _ _ _ _) Z (ls (ls (lo ln))) λau ah e=>Go 1 Z (Is 97 e Z (λ_ e=>?_) (λ_ e=>?_)))
    .refine Go 1 Z (Cz [] e (k_aq _ _) Z λav ai e=>Go 2 Z (Is 101 e Z (λ_ e=>?_) (λ_ e=>?_)))
     .exact Go 1 Z (Cd [] e (k_ak _ _) Z λaw aj e=>FE Z (Gl 5 Z e []))
     .exact Gl 7 Z e []
    .exact Gl 11 Z e []
   exact Gx 1 Z (Qf g (QI 4 Z h 2 []))
  refine Gc 6 Z (Cn Z h (λ_ h=>?_) (λ_ h=>?_))
  .refine Gc 1 Z (Bd h λw d h=>Ct w [] [] (λw=>[(2,.bool w)]) Ze Zf ?_ (λenv H g=>?_))
   .refine G0 6 Z (Is 113 d Z (λ_ d=>?_) (λ_ d=>?_))
    .refine Go 1 Z ?_;refine vX (.iface 315 (.agg (Uf.c ({Cond:=q.Step.Cond:Uf})))) (Qao Z EK (by intro m;nofun) Z) ?_ (gT Z);refine Cz [] d (k_gx rec94 j _ _) Z λax ak d=>Go 2 Z (Is 118 d Z (λ_ d=>?_) (λ_ d=>?_))
     .refine Go 3 Z (Lg 3 Z Z (Is 125 d Z (λ_ d=>?_) (λ_ d=>?_)))
      .exact Go 1 Z (Cd [] d (k_ak _ _) Z λay al d=>FE Z (Cb d (j _) Z (lo (ls ln)) λaz am d=>Gl 4 Z d []))
      .exact Gl 7 Z d []
     .exact Gl 14 Z d []
    .exact Gl 19 Z d []
   exact Gx 1 Z (Qf g (QI 4 Z h 2 []))
  exact QI 10 Z h 2 []
 .have h:=JB hE4 h;refine QG (QU (s:=0) (a':=.iface 315 (.agg (Uf.c ({Cond:=t.Cond:Uf})))) Z (congrArg Ui.val hE4)) ?_;refine QG (QU (s:=7) (a':=.iface 315 (.agg (Uf.c ({Cond:=t.Cond:Uf})))) Z (congrArg Ui.val hE4)) ?_;refine vX (.tup [.agg (Uf.c ({Cond:=t.Cond:Uf})),.bool true]) (QbA EK (by intro m;nofun)) ?_;refine Go 12 Z (Bd h λx k h=>Ct x [0] [3] (λx=>[(4,.bool x)]) Ze Zf ?_ (λenv H g=>?_))
  .refine G0 6 Z (Is 15 k Z (λ_ k=>?_) (λ_ k=>?_))
   iterate 2 exact Gl 7 Z k [0]
  refine Gx 1 Z (Qf g (Gc 15 Z (Cn Z h (λ_ h=>?_) (λ_ h=>?_))))
  .refine Gc 1 Z (Bd h λy f h=>Ct y [] [] (λy=>[(2,.bool y)]) Ze Zf ?_ (λenv H g=>?_))
   .refine G0 4 Z (vH (Ek (xs:=[.tmp 28]) (es:=map (Qe .i64) [t.Cond.Var]) Qu Z Z Z Z Z ⟨Z,trivial⟩ Z Z) ?_);refine FE Z (Cb f (k_a _ _ _ _) Z (ls (ls (lo ln))) λba an f=>Go 1 Z (Is 31 f Z (λ_ f=>?_) (λ_ f=>?_)))
    .refine Go 3 Z (vH (Ek (xs:=[.tmp 34]) (es:=map (Qe .i64) [t.Cond.N]) Qu Z Z Z Z Z ⟨Z,trivial⟩ Z Z) ?_ (gT Z));refine FE Z (Cb f (k_a _ _ _ _) Z (ls (ls (lo ln))) λbb ao f=>Go 2 Z (Is 38 f Z (λ_ f=>?_) (λ_ f=>?_)))
     .exact Go 3 Z (Lm Z (Gl 4 Z f []))
     .exact Gl 8 Z f []
    .exact Gl 15 Z f []
   exact Gx 1 Z (Qf g (QI 5 Z h 2 []))
  refine Gc 6 Z (Bd h λag a h=>CtE (b:=ag) [0] [3] (λB=>[(4,.bool B)]) Ze Zf ?_ (λB env H hb g=>?_))
  .refine G0 0 Z (Cn Z a (λ_ a=>?_) (λ_ a=>?_))
   .refine Gc 3 Z (Is 48 a Z (λ_ a=>?_) (λ_ a=>?_))
    .refine Go 3 Z (Lg 4 Z Z ?_);cases a;exact Yv Z (Lr [0])
    .refine Go 8 Z ?_;cases a;exact Yv Z (Lr [0])
   refine Gc 7 Z (Bd a λE l a=>Ct E [0] [3,4] (λE=>[(55,.bool E)]) Ze Zf ?_ (λenv H g=>?_))
   .refine G0 0 Z (Cn Z l (λ_ l=>?_) (λ_ l=>?_))
    .exact YC 1 Z l [0]
    exact YC 4 Z l [0]
   refine Gx 1 Z (Qf g (Q8 Z a (λ_ a=>?_) (λ_ a=>?_)))
   .refine Gc 6 Z ?_;cases a;exact Qt (Gx 4 Z (Rt h 2 []))
   refine Gc 3 Z (Is 59 a Z (λ_ a=>?_) (λ_ a=>?_))
   .refine Go 3 Z (Lg 3 Z Z (Is 66 a Z (λ_ a=>?_) (λ_ a=>?_)))
    .refine Go 3 Z (Lg 4 Z Z ?_);cases a;exact Yv Z (Lr [0])
    .refine Go 8 Z ?_;cases a;exact Yv Z (Lr [0])
   .refine Go 15 Z ?_;cases a;exact Yv Z (Lr [0])
  subst hb;refine Gx 2 Z (Qf g (Gc 1 Z (Bd h λF i h=>Cg F [] [] (λF=>[(2,.bool F)]) Ze Zf ?_ ?_)))
  .refine G0 3 Z (Is 74 i Z (λ_ i=>?_) (λ_ i=>?_))
   .exact Go 1 Z (Cd [] i (k_af _ _) Z λbc aq i=>FE Z (Cb i (j _) Z (lo (ls ln)) λbd ar i=>Gl 4 Z i []))
   .exact Gl 7 Z i []
  exact QI 3 Z h 2 []
def F_fl(rec94:(List Ui)->Option Bool)(n:Nat)(a:Ui):Option Bool:=(F_ka rec94 n a).bind λd=>some (!d)
theorem k_fl(rec94:(List Ui)->Option Bool)(a:∀(d:List Ui) (r:Bool),rec94 d=some r->Csm prog 169 [.rsl 1 (map Ui.enc d),.fn (.func 170) [] []] [] (λr=>.bool r) r)(n:Nat)(d:Ui):Ks (F_fl rec94 n d) 170 [Ui.val d] [] (λr=>.bool r):=by
 exact Kg 8 func170 Z Z Z Z λr h=>Bd h λf e h=>Pc [] Z (OpC.fn call214 Z Z Z) (k_ka rec94 a _ _ _ e) (hargs:=by first|exact Z|exact Eq.trans (by exact Z) (Qab _ (by simp[Yq,Ui.data])).symm) Z (Gt 5 Z h 2 [])
def F_mz(d:List Ui)(rec94:(List Ui)->Option Bool)(a:Int):Option (Ctl Int (Ctl Unit Int)):=(bif decide (a<(d.length:Int))then(idx d a).bind λe=>(F_fl rec94 n e).bind λf=>(bif f then some (.done (.done a))else some (.cont (i64.wrap (a+1))))else some (.done (.cont ())))
def F_ik(rec94:(List Ui)->Option Bool)(n:Nat)(e:List Ui):Option Int:=(iter (F_mz n e rec94) n 0:Option (Ctl Unit Int)).bind λd=>match d with|.cont a=>(some (-1))|.done a=>some a
theorem k_ik(rec94:(List Ui)->Option Bool)(d:∀(e:List Ui) (r:Bool),rec94 e=some r->Csm prog 169 [.rsl 1 (map Ui.enc e),.fn (.func 170) [] []] [] (λr=>.bool r) r)(n:Nat)(e:List Ui):Ks (F_ik rec94 n e) 213 [.rsl 1 (map Ui.enc e),.fn (.func 170) [] []] [] (λr=>I r):=by
 refine Kg 9 func213 Z Z Z Z λr h=>Lg 3 Z Z (Bd h λm p h=>CgE (b:=m) [] [] Ze Ze Zf ?_ (λ_ q=>?_))
 .refine G0 1 Z (Lp [] [0,1,7] (λg=>[(8,I g)]) Ze p Zf (Lr []) λg t a f=>(G0 6 Z (Q8 Z a (λ_ a=>?_) (λ_ a=>?_))))
  .exact Gc 2 Z (Ql a (Gx 1 Z (JN f a Z (Lr []))))
  refine Gc 15 Z (Bd a λu j a=>Iz j Z (Go 1 Z (Bd a λw k a=>Pc [] Z (Qa2 call170 Z Z Z Z) (k_fl rec94 d _ _ _ k) (hargs:=by first|exact Z|exact Eq.trans (by exact Z) (Qab _ (by simp[Yq,Ui.data])).symm) Z (Go 2 Z (Cn Z a (λ_ a=>?_) (λ_ a=>?_))))))
  .refine Gc 9 Z (Qx a ?_);obtain rfl:=Oj f a;exact Gx 1 Z (Qt (Gx 1 Z (Rt h 4 [])))
  exact Gc 7 Z (Qj a (Lr []))
 subst q;exact QI 6 Z h 4 []
def B_ad(rec94:(List Ui)->Option Bool)(n:Nat)(a:List Ui):Option Bool:=(F_ik rec94 n a).bind λd=>some (decide (0<=d))
theorem Qax(rec94:(List Ui)->Option Bool)(a:∀(d:List Ui) (r:Bool),rec94 d=some r->Csm prog 169 [.rsl 1 (map Ui.enc d),.fn (.func 170) [] []] [] (λr=>.bool r) r)(n:Nat)(d:List Ui)(r:Bool)(h:B_ad rec94 n d=some r):Csm prog 169 [.rsl 1 (map Ui.enc d),.fn (.func 170) [] []] [] (λr=>.bool r) r:=by
 exact QE func169 Z Z Z (G0 9 Z (Cz [] h (k_ik rec94 a _ _) Z λf e h=>Gt 5 Z h 4 []))
def F_ad:Nat->(List Ui)->Option Bool
  |0=>λ_=>none
  |n+1=>B_ad (F_ad n) n
theorem k_ad:∀(a:List Ui) (r:Bool),F_ad n a=some r->Csm prog 169 [.rsl 1 (map Ui.enc a),.fn (.func 170) [] []] [] (λr=>.bool r) r:=by
  induction n with
  |zero=>intro a r h;cases h
  |succ n ih=>intro a r h;exact Qax _ ih n a r h
def F_jw(a:List Ui):Option Int:=(F_ib n a 0 ({steps:=0,conds:=0:Ug})).bind λd=>(bif (!d.2)then some 2 else((bif ((a.length:Int)==0)then some true else(F_ad n a).bind λe=>some e):Option Bool).bind λf=>(bif f then some 71 else some 0))
theorem k_jw(e:List Ui):Ks (F_jw n e) 107 [.rsl 1 (map Ui.enc e)] [] (λr=>I r):=by
 refine Kg 17 func107 Z Z Z Z λr h=>Cd [0] h (k_ib _ _ _ _) Z λl j h=>Fg 3 Z Z (Cn Z h (λ_ h=>?_) (λ_ h=>?_))
 .exact QI 7 Z h 2 []
 refine Gc 4 Z (Bd h λd a h=>Cg d [] [] (λd=>[(16,.bool d)]) Ze Zf ?_ ?_)
 .refine G0 2 Z (Lg 2 Z Z (Is 13 a Z (λ_ a=>?_) (λ_ a=>?_)))
  .exact Gl 4 Z a []
  .exact Go 1 Z (Cz [] a (k_ad _ _) Z λm k a=>Gl 2 Z a [])
 refine Cn Z h (λ_ h=>?_) (λ_ h=>?_)
 .exact QI 7 Z h 2 []
 exact QI 8 Z h 2 []
def F_gw(a:List Step):Option Int:=(F_at n a).bind λd=>(F_jw n d).bind λe=>some e
theorem k_gw(a:List Step):Ks (F_gw n a) 40 [.rsl 8 (map Step.enc a)] [] (λr=>I r):=by
 exact Kg 8 func40 Z Z Z Z λr h=>Cd [] h (k_at _ _) Z λf d h=>FE Z (Cb h (k_jw _ _) Z (lo ln) λg e h=>Gt 4 Z h 2 [])
def F_gh(n:Nat)(d:Part)(e:List Int)(a:(List Int)×Int):Option (Ctl ((List Int)×Int) (Ctl (List Int) (Ctl ((List Int)×Int) (Ctl (List Int) (List Int))))):=(bif decide (a.2<(if d.Laps<1 then 1 else d.Laps))then(bif decide (256<(a.1.length:Int))then some (.done (.done (.done (.done a.1))))else(app a.1 e).bind λf=>some (.cont (f,i64.wrap (a.2+1))))else some (.done (.cont a.1)))
def F_ef(f:List Part)(rec113:(List Part)->Option (List Int))(a:(List Int)×Int):Option (Ctl ((List Int)×Int) (Ctl (List Int) (List Int))):=(bif decide (a.2<(f.length:Int))then(idx f a.2).bind λe=>((bif decide (0<e.Laps)then(rec113 e.Parts).bind λg=>some g else some [e.Mat]):Option (List Int)).bind λh=>(iter (F_gh n e h) n (a.1,0):Option (Ctl (List Int) (Ctl ((List Int)×Int) (Ctl (List Int) (List Int))))).bind λi=>match i with|.cont d=>(some (.cont (d,i64.wrap (a.2+1))))|.done d=>some d else some (.done (.cont a.1)))
def B_r(rec113:(List Part)->Option (List Int))(n:Nat)(e:List Part):Option (List Int):=(iter (F_ef n e rec113) n ([],0):Option (Ctl (List Int) (List Int))).bind λd=>match d with|.cont a=>(some a)|.done a=>some a
theorem Qdf(rec113:(List Part)->Option (List Int))(p:∀(q:List Part) (r:List Int),rec113 q=some r->C prog 111 [.rsl 3 (map Part.enc q)] [] (RQ (λr=>.osl 0 0 r.length 1) (λr=>[.row 3 1 (map (Qe .i64) r)]) r))(n:Nat)(q:List Part)(r:List Int)(h:B_r rec113 n q=some r):C prog 111 [.rsl 3 (map Part.enc q)] [] (RQ (λr=>.osl 0 0 r.length 1) (λr=>[.row 3 1 (map (Qe .i64) r)]) r):=by
 refine QE func111 Z Z Z ?_;refine G0 9 Z (Lg 3 Z Z (Bd h λL M h=>CgE (b:=L) [0] [] (λf=>[(2,.osl 0 0 f.length 1)]) (λf=>[(0,.row 3 1 (map (Qe .i64) f))]) Zf ?_ (λf u=>?_)))
 .refine G0 1 Z (Lp [0] [6,7] (λj=>[(2,.osl 0 0 j.1.length 1),(8,I j.2)]) (λj=>[(0,.row 3 1 (map (Qe .i64) j.1))]) M Zf ?_ ?_)
  .exact En (Ep (s:=2) (k:=1) (t:=3) (XO Z) Z) (Lr [0])
  intro j R a w;refine G0 6 Z (Q8 Z a (λ_ a=>?_) (λ_ a=>?_))
  .exact Gc 2 Z (Ql a (Gx 1 Z (JN w a Z (Lr [0]))))
  refine Gc 6 Z (Bd a λN B a=>IzE B (Q4 N) Z (Go 9 Z (vH (Ek (xs:=[.tmp 13]) Qu Z Z Z Z Z ⟨Z,trivial⟩ Z Z) ?_)));refine Fg 11 Z Z (Bd a λl e a=>Ct l [0,1,0] [2,4,6,7,8] (λl=>[(5,.osl 2 0 l.length 1)]) (λl=>[(2,.row 3 1 (map (Qe .i64) l))]) Zf ?_ (λenv H x=>?_))
  .refine G0 0 Z (Cn Z e (λ_ e=>?_) (λ_ e=>?_))
   .exact Gc 3 Z (Cd [] e (p _) Z λT Q e=>FE Z (Gl 2 Z e [0,1,3]))
   exact YC 1 Z e [0,1,2]
  refine Gx 1 Z (Qf x (Gc 4 Z ?_));refine vV (OpV.max Z Z Z Z) ?_;refine Go 3 Z (Bd a λO P a=>CtE (b:=O) [0] [6,7,8] (λg=>[(2,.osl 0 0 g.length 1)]) (λg=>[(0,.row 3 1 (map (Qe .i64) g))]) Zf ?_ (λg env H u x=>?_))
  .refine G0 1 Z (Lp [0,2] [5,6,7,8,23] (λm=>[(2,.osl 0 0 m.1.length 1),(24,I m.2)]) (λm=>[(0,.row 3 1 (map (Qe .i64) m.1))]) P Zf (Lr [0,2]) λm V d y=>?_);refine G0 6 Z (Q8 Z d (λ_ d=>?_) (λ_ d=>?_))
   .exact Gc 2 Z (Ql d (Gx 1 Z (JN y d Z (Lr [0]))))
   refine Gc 12 Z (Cn Z d (λ_ d=>?_) (λ_ d=>?_))
   .refine Gc 10 Z (Qx d ?_);obtain rfl:=Oj y d;refine Gx 1 Z (Qt (Gx 2 Z (Qx a ?_)));obtain rfl:=Oj w a;exact Gx 1 Z (Qt (Gx 1 Z (Rt h 2 [0])))
   refine Gc 5 Z (Bd d λW J d=>vH (Qk J Qu EA (QH (i:=1))) ?_);exact Fg 8 Z Z (Qj d (Lr [2,1]))
  subst u;exact Gx 2 Z (Qf x (Gc 4 Z (Qj a (Lr [0]))))
 subst u;exact QI 7 Z h 2 [0]
def F_r:Nat->(List Part)->Option (List Int)
  |0=>λ_=>none
  |n+1=>B_r (F_r n) n
theorem k_r:∀(a:List Part) (r:List Int),F_r n a=some r->C prog 111 [.rsl 3 (map Part.enc a)] [] (RQ (λr=>.osl 0 0 r.length 1) (λr=>[.row 3 1 (map (Qe .i64) r)]) r):=by
  induction n with
  |zero=>intro a r h;cases h
  |succ n ih=>intro a r h;exact Qdf _ ih n a r h
def F_dk(n:Nat)(a:Cutoff)(d:List (Int×Int)):Option Bool:=(some (Q2 d a.Mat 0)).bind λe=>some (decide (a.Lap<=e))
theorem k_dk(a:Cutoff)(d:List (Int×Int)):Ks (F_dk n a d) 112 [.agg (Cutoff.c a),.ptr 0 0] [.cells 219 [.map 1],.map (Qo (λx=>A.int .i64 x) (λx=>A.int .i64 x) d)] (λr=>.bool r):=by
 refine Kg 11 func112 Z Z Z Z λr h=>Bd h λf e h=>(vV (Jk Y2 e GB GH ZR.int) ?_);exact Gt 7 Z h 3 [0,1]
def F_ij(a:Cutoff)(d:List (Int×Int)):Option Bool:=(F_dk n a d).bind λe=>some (!e)
theorem k_ij(a:Cutoff)(d:List (Int×Int)):Ks (F_ij n a d) 155 [.agg (Cutoff.c a),.ptr 0 0] [.cells 194 [.fn (.func 112) [] [.ptr 1 0]],.cells 219 [.map 2],.map (Qo (λx=>A.int .i64 x) (λx=>A.int .i64 x) d)] (λr=>.bool r):=by
 exact Kg 10 func155 Z Z Z Z λr h=>Cz [1,2] h (k_dk _ _ _) Z λf e h=>Gt 5 Z h 3 [0,1,2]
def F_lp(d:List Cutoff)(g:List (Int×Int))(a:Int):Option (Ctl Int (Ctl Unit Int)):=(bif decide (a<(d.length:Int))then(idx d a).bind λe=>(F_ij n e g).bind λf=>(bif f then some (.done (.done a))else some (.cont (i64.wrap (a+1))))else some (.done (.cont ())))
def F_js(e:List Cutoff)(f:List (Int×Int)):Option Int:=(iter (F_lp n e f) n 0:Option (Ctl Unit Int)).bind λd=>match d with|.cont a=>(some (-1))|.done a=>some a
theorem k_js(j:List Cutoff)(k:List (Int×Int)):Ks (F_js n j k) 205 [.rsl 3 (map Cutoff.c j),.fn (.func 155) [] [.ptr 0 0]] [.cells 194 [.fn (.func 112) [] [.ptr 1 0]],.cells 219 [.map 2],.map (Qo (λx=>A.int .i64 x) (λx=>A.int .i64 x) k)] (λr=>I r):=by
 refine Kg 9 func205 Z Z Z Z λr h=>Lg 3 Z Z (Bd h λl m h=>CgE (b:=l) [0,1,2] [] Ze Ze Zf ?_ (λ_ p=>?_))
 .refine G0 1 Z (Lp [0,1,2] [0,1,7] (λe=>[(8,I e)]) Ze m Zf (Lr [0,1,2]) λe t a d=>(G0 6 Z (Q8 Z a (λ_ a=>?_) (λ_ a=>?_))))
  .exact Gc 2 Z (Ql a (Gx 1 Z (JN d a Z (Lr [0,1,2]))))
  refine Gc 15 Z (Bd a λu g a=>Iz g Z (Go 1 Z (Cz [0,1,2] a (k_ij _ _ _) Z λw s a=>Go 2 Z (Cn Z a (λ_ a=>?_) (λ_ a=>?_)))))
  .refine Gc 9 Z (Qx a ?_);obtain rfl:=Oj d a;exact Gx 1 Z (Qt (Gx 1 Z (Rt h 4 [0,1,2])))
  exact Gc 7 Z (Qj a (Lr [0,1,2]))
 subst p;exact QI 6 Z h 4 [0,1,2]
def F_ht(a:List Cutoff)(d:List (Int×Int)):Option Bool:=(F_js n a d).bind λe=>some (decide (0<=e))
theorem k_ht(a:List Cutoff)(d:List (Int×Int)):Ks (F_ht n a d) 154 [.rsl 3 (map Cutoff.c a),.fn (.func 155) [] [.ptr 0 0]] [.cells 194 [.fn (.func 112) [] [.ptr 1 0]],.cells 219 [.map 2],.map (Qo (λx=>A.int .i64 x) (λx=>A.int .i64 x) d)] (λr=>.bool r):=by
 exact Kg 9 func154 Z Z Z Z λr h=>Cz [0,1,2] h (k_js _ _ _) Z λf e h=>Gt 5 Z h 4 [0,1,2]
def F_ji(a:List Cutoff)(d:List (Int×Int)):Option Bool:=(F_ht n a d).bind λe=>some (!e)
theorem k_ji(a:List Cutoff)(d:List (Int×Int)):Ks (F_ji n a d) 90 [.rsl 3 (map Cutoff.c a),.fn (.func 112) [] [.ptr 0 0]] [.cells 219 [.map 1],.map (Qo (λx=>A.int .i64 x) (λx=>A.int .i64 x) d)] (λr=>.bool r):=by
 exact Kg 10 func90 Z Z Z Z λr h=>Cz [2,0,1] h (k_ht _ _ _) Z λf e h=>Gt 5 Z h 4 [0,1]
def F_ck(n:Nat)(l:Course)(m:List (Uh×Bool))(e:List Int)(a:(List (Int×Int))×Int):Option (Ctl ((List (Int×Int))×Int) (Ctl (List (Int×Int)) Bool)):=(bif decide (a.2<(e.length:Int))then(idx e a.2).bind λd=>(idx l.Mats d).bind λf=>((bif ((f.Kind==1) != (a.2==0))then some true else(bif ((f.Kind==3) != (a.2==(i64.wrap ((e.length:Int)-1))))then some true else(bif decide (0<a.2)then(idx e (i64.wrap (a.2-1))).bind λg=>(some (Q2 m ({from_:=g,to_:=d:Uh}) false)).bind λh=>some (!h)else some false))):Option Bool).bind λi=>(bif i then some (.done (.done false))else(some (Q2 a.1 d 0)).bind λj=>(some (QQ a.1 d (i64.wrap (j+1)))).bind λk=>some (.cont (k,i64.wrap (a.2+1))))else some (.done (.cont a.1)))
def F_dr(f:Course)(d:Distance)(g:List (Uh×Bool)):Option Bool:=(F_r n d.Route).bind λe=>((bif decide ((i64.wrap ((e.length:Int)-1))<1)then some true else some (decide (256<=(i64.wrap ((e.length:Int)-1))))):Option Bool).bind λp=>(bif p then some false else(iter (F_ck n f g e) n ([],0):Option (Ctl (List (Int×Int)) Bool)).bind λh=>match h with|.cont a=>(((bif decide (0<=d.Extra)then(some (Q2 a d.Extra 0)).bind λi=>(bif (i==0)then some true else(idx f.Mats d.Extra).bind λj=>(bif (j.Kind != 2)then some true else(some (Q2 g ({from_:=d.Extra,to_:=d.Extra:Uh}) false)).bind λk=>some (!k)))else some false):Option Bool).bind λl=>(bif l then some false else(F_ji n d.Cutoffs a).bind λm=>some m))|.done a=>some a)
theorem k_dr(a1:Course)(m:Distance)(y:List (Uh×Bool)):Ks (F_dr n a1 m y) 43 [.agg (Course.c a1),.agg (Distance.c m),.map 0] [.map (Qo (λx=>A.agg (Uh.c x)) A.bool y)] (λr=>.bool r):=by
 refine Kg 11 func43 Z Z Z Z λr h=>Cd [] h (k_r _ _) Z λr1 am h=>Fg 13 Z Z (Bd h λF p h=>Ct F [0,1,2,3] [2,3,4,7,8] (λF=>[(25,.bool F)]) Ze Zf ?_ (λenv H g=>?_))
 .refine G0 4 Z (Is 22 p Z (λ_ p=>?_) (λ_ p=>?_))
  iterate 2 exact Gl 4 Z p [0,1,2,3]
 refine Gx 1 Z (Qf g (Cn Z h (λ_ h=>?_) (λ_ h=>?_)))
 .exact QI 7 Z h 6 [0]
 refine Gc 4 Z (vH Yf ?_);refine Fg 12 Z Z (Bd h λaf ag h=>CtE (b:=af) [0,1,2,4,5] [2,3,4] (λ_=>[(9,.ptr 3 0)]) (λi=>[(3,.cells 219 [.map 4]),(4,.map (Qo (λx=>A.int .i64 x) (λx=>A.int .i64 x) i))]) Zf ?_ (λi env H ah g=>?_))
 .refine G0 1 Z (Lp [0,1,2,3,5,4] [2,3,4,7,8,9,27,28] (λf=>[(29,I f.2)]) (λf=>[(4,.cells 219 [.map 5]),(5,.map (Qo (λx=>A.int .i64 x) (λx=>A.int .i64 x) f.1))]) ag Zf (Lr [0,1,2,3,5,4]) λf an a q=>?_);refine G0 6 Z (Q8 Z a (λ_ a=>?_) (λ_ a=>?_))
  .exact Gc 2 Z (Ql a (Gx 1 Z (JN q a Z (Lr [0,1,2,4,5]))))
  refine Gc 7 Z (Bd a λj s a=>?_);refine vX (.ptr 3 (toNat f.2*1)) (Qv s Z EA EE) ?_;refine vX (I j) (Ey Z EF Z (Qi s)) ?_;refine Go 9 Z (Bd a λz J a=>Iz J Z (Go 7 Z (Bd a λt e a=>Ct t [0,1,2,3,4,5] [2,3,4,7,8,9,11,27,28,29] (λt=>[(68,.bool t)]) Ze Zf ?_ (λenv H g=>?_))))
  .refine G0 5 Z ?_;refine vX (.bool ((z.Kind==1) != (f.2==0))) (Qgt runUnderlying4) ?_;refine Go 1 Z (Is 45 e Z (λ_ e=>?_) (λ_ e=>?_))
   .exact Gl 24 Z e [0,1,2,3,4,5]
   .refine Go 5 Z ?_;refine vV (x:=(.bool ((z.Kind==3) != (f.2==(i64.wrap ((r1.length:Int)-1)))))) (Qgt runUnderlying4) ?_ (gT Z);refine Go 2 Z (Is 53 e Z (λ_ e=>?_) (λ_ e=>?_))
    .exact Gl 16 Z e [0,1,2,3,4,5]
    .refine Go 3 Z (Is 56 e Z (λ_ e=>?_) (λ_ e=>?_))
     .refine Go 4 Z (Bd e λB u e=>?_);refine vX (.ptr 3 (toNat (i64.wrap (f.2-1))*1)) (Qv u Z EA EE) ?_ (gT Z);refine vX (I B) (Ey Z EF Z (Qi u)) ?_ (gT Z);refine Go 2 Z (Bd e λai O e=>?_);refine vX (.bool ai) (Jk (ev:=A.bool) (z0:=false) (k:=({from_:=B,to_:=j:Uh})) (l:=y) QeV O Gr Gf ZR.bool) ?_ (gT Z);exact Gl 4 Z e [0,1,2,3,4,5]
     .exact Gl 13 Z e [0,1,2,3,4,5]
  refine Gx 1 Z (Qf g (Cn Z a (λ_ a=>?_) (λ_ a=>?_)))
  .refine Gc 9 Z (Qx a ?_);obtain rfl:=Oj q a;exact Gx 1 Z (Qt (Gx 1 Z (Rt h 6 [0])))
  refine Gc 5 Z (Bd a λE Q a=>?_);refine vX (I E) (Jk (ev:=(λx=>A.int .i64 x)) (z0:=0) (k:=j) (l:=f.1) Y2 Q GB GH ZR.int) ?_;refine Go 1 Z (Bd a λao R a=>?_);refine vU (Ye (ev:=(λx=>A.int .i64 x)) (k:=j) (v:=(i64.wrap (E+1))) (l:=f.1) Y2 R Z GB) ?_;exact Fg 7 Z Z (Qj a (Lr [0,1,2,3,4,5]))
 subst ah;refine Gx 1 Z (Qf g (Gc 9 Z (Bd h λw d h=>Cg w [0,2,3,4] [4,9] (λw=>[(100,.bool w)]) (λ_=>[(2,.cells 219 [.map 3])]) Zf ?_ ?_)))
 .refine G0 4 Z (Is 78 d Z (λ_ d=>?_) (λ_ d=>?_))
  .refine Go 2 Z (Bd d λaj V d=>?_);refine vX (I aj) (Jk (ev:=(λx=>A.int .i64 x)) (z0:=0) (k:=m.Extra) (l:=i) Y2 V GB GH ZR.int) ?_ (gT Z);refine Go 2 Z (Is 83 d Z (λ_ d=>?_) (λ_ d=>?_))
   .exact Gl 18 Z d [0,2,3,4]
   .refine Go 3 Z (Bd d λaq X d=>Iz X Z (Go 5 Z (Is 92 d Z (λ_ d=>?_) (λ_ d=>?_))))
    .exact Gl 9 Z d [0,2,3,4]
    .refine Go 4 Z (Bd d λak aa d=>?_);refine vX (.bool ak) (Jk (ev:=A.bool) (z0:=false) (k:=({from_:=m.Extra,to_:=m.Extra:Uh})) (l:=y) QeV aa Gr Gf ZR.bool) ?_ (gT Z);exact Gl 4 Z d [0,2,3,4]
  .exact Gl 23 Z d [0,2,3,4]
 refine Cn Z h (λ_ h=>?_) (λ_ h=>?_)
 .exact QI 7 Z h 6 [0]
 exact Gc 7 Z (Cz [2,3] h (k_ji _ _ _) Z λar al h=>Gt 4 Z h 6 [0])
def F_go(a:Distance)(d:Course)(e:List (Uh×Bool)):Option Bool:=(F_dr n d a e).bind λf=>some f
theorem k_go(a:Distance)(d:Course)(e:List (Uh×Bool)):Ks (F_go n a d e) 42 [.agg (Distance.c a),.ptr 0 0,.ptr 1 0] [.cells 33 (Course.c d),.cells 125 [.map 2],.map (Qo (λx=>A.agg (Uh.c x)) A.bool e)] (λr=>.bool r):=by
 exact Kg 11 func42 Z Z Z Z λr h=>Cz [2] h (k_dr _ _ _ _) Z λg f h=>Gt 4 Z h 4 [0,1,2]
def F_jy(a:Distance)(d:Course)(e:List (Uh×Bool)):Option Bool:=(F_go n a d e).bind λf=>some (!f)
theorem k_jy(a:Distance)(d:Course)(e:List (Uh×Bool)):Ks (F_jy n a d e) 110 [.agg (Distance.c a),.ptr 0 0] [.cells 130 [.fn (.func 42) [] [.ptr 1 0,.ptr 2 0]],.cells 33 (Course.c d),.cells 125 [.map 3],.map (Qo (λx=>A.agg (Uh.c x)) A.bool e)] (λr=>.bool r):=by
 exact Kg 10 func110 Z Z Z Z λr h=>Cz [1,2,3] h (k_go _ _ _ _) Z λg f h=>Gt 5 Z h 3 [0,1,2,3]
def F_mb(d:List Distance)(g:Course)(h:List (Uh×Bool))(a:Int):Option (Ctl Int (Ctl Unit Int)):=(bif decide (a<(d.length:Int))then(idx d a).bind λe=>(F_jy n e g h).bind λf=>(bif f then some (.done (.done a))else some (.cont (i64.wrap (a+1))))else some (.done (.cont ())))
def F_in(e:List Distance)(f:Course)(g:List (Uh×Bool)):Option Int:=(iter (F_mb n e f g) n 0:Option (Ctl Unit Int)).bind λd=>match d with|.cont a=>(some (-1))|.done a=>some a
theorem k_in(j:List Distance)(k:Course)(l:List (Uh×Bool)):Ks (F_in n j k l) 171 [.rsl 5 (map Distance.c j),.fn (.func 110) [] [.ptr 0 0]] [.cells 130 [.fn (.func 42) [] [.ptr 1 0,.ptr 2 0]],.cells 33 (Course.c k),.cells 125 [.map 3],.map (Qo (λx=>A.agg (Uh.c x)) A.bool l)] (λr=>I r):=by
 refine Kg 9 func171 Z Z Z Z λr h=>Lg 3 Z Z (Bd h λm p h=>CgE (b:=m) [0,1,2,3] [] Ze Ze Zf ?_ (λ_ q=>?_))
 .refine G0 1 Z (Lp [0,1,2,3] [0,1,7] (λe=>[(8,I e)]) Ze p Zf (Lr [0,1,2,3]) λe u a d=>(G0 6 Z (Q8 Z a (λ_ a=>?_) (λ_ a=>?_))))
  .exact Gc 2 Z (Ql a (Gx 1 Z (JN d a Z (Lr [0,1,2,3]))))
  refine Gc 15 Z (Bd a λw g a=>Iz g Z (Go 1 Z (Cz [0,1,2,3] a (k_jy _ _ _ _) Z λy t a=>Go 2 Z (Cn Z a (λ_ a=>?_) (λ_ a=>?_)))))
  .refine Gc 9 Z (Qx a ?_);obtain rfl:=Oj d a;exact Gx 1 Z (Qt (Gx 1 Z (Rt h 4 [0,1,2,3])))
  exact Gc 7 Z (Qj a (Lr [0,1,2,3]))
 subst q;exact QI 6 Z h 4 [0,1,2,3]
def F_hx(a:List Distance)(d:Course)(e:List (Uh×Bool)):Option Bool:=(F_in n a d e).bind λf=>some (decide (0<=f))
theorem k_hx(a:List Distance)(d:Course)(e:List (Uh×Bool)):Ks (F_hx n a d e) 109 [.rsl 5 (map Distance.c a),.fn (.func 110) [] [.ptr 0 0]] [.cells 130 [.fn (.func 42) [] [.ptr 1 0,.ptr 2 0]],.cells 33 (Course.c d),.cells 125 [.map 3],.map (Qo (λx=>A.agg (Uh.c x)) A.bool e)] (λr=>.bool r):=by
 exact Kg 9 func109 Z Z Z Z λr h=>Cz [0,1,2,3] h (k_in _ _ _ _) Z λg f h=>Gt 5 Z h 4 [0,1,2,3]
def F_gp(a:List Distance)(d:Course)(e:List (Uh×Bool)):Option Bool:=(F_hx n a d e).bind λf=>some (!f)
theorem k_gp(a:List Distance)(d:Course)(e:List (Uh×Bool)):Ks (F_gp n a d e) 41 [.rsl 5 (map Distance.c a),.fn (.func 42) [] [.ptr 0 0,.ptr 1 0]] [.cells 33 (Course.c d),.cells 125 [.map 2],.map (Qo (λx=>A.agg (Uh.c x)) A.bool e)] (λr=>.bool r):=by
 exact Kg 10 func41 Z Z Z Z λr h=>Cz [3,0,1,2] h (k_hx _ _ _ _) Z λg f h=>Gt 5 Z h 4 [0,1,2]
def F_ja(n:Nat)(e:Course)(a:(List (Uh×Bool))×Int):Option (Ctl ((List (Uh×Bool))×Int) (List (Uh×Bool))):=(bif decide (a.2<(e.Legs.length:Int))then(idx e.Legs a.2).bind λd=>(some (QQ a.1 ({from_:=d.From,to_:=d.To:Uh}) true)).bind λf=>some (.cont (f,i64.wrap (a.2+1)))else some (.done a.1))
def F_ag(a:Course):Option Int:=(F_cs n a).bind λg=>(bif (!g)then some 2 else(F_ge n a).bind λh=>(bif (!h)then some 70 else(F_dw n a).bind λi=>(bif (!i)then some 71 else(F_gw n a.Ties).bind λd=>(bif (d != 0)then some d else(iter (F_ja n a) n ([],0):Option (List (Uh×Bool))).bind λe=>(F_gp n a.Distances a e).bind λf=>(bif (!f)then some 72 else some 0)))))
theorem k_ag(l:Course):Ks (F_ag n l) 18 [.agg (Course.c l)] [] (λr=>I r):=by
 refine Kg 11 func18 Z Z Z Z λr h=>Cz [] h (k_cs _ _) Z λJ w h=>Go 4 Z (Cn Z h (λ_ h=>?_) (λ_ h=>?_))
 .exact QI 8 Z h 2 []
 refine Gc 3 Z (Cz [] h (k_ge _ _) Z λL y h=>Go 4 Z (Cn Z h (λ_ h=>?_) (λ_ h=>?_)))
 .exact QI 8 Z h 2 []
 refine Gc 3 Z (Cz [] h (k_dw _ _) Z λM z h=>Go 4 Z (Cn Z h (λ_ h=>?_) (λ_ h=>?_)))
 .exact QI 8 Z h 2 []
 refine Gc 8 Z (Cz [] h (k_gw _ _) Z λN B h=>Go 9 Z (Cn Z h (λ_ h=>?_) (λ_ h=>?_)))
 .exact QI 8 Z h 2 []
 refine Gc 4 Z (vH Yf ?_);refine Fg 9 Z Z (Lg 3 Z Z (Bd h λe t h=>Cg e [0,1,2] [1] (λ_=>[(3,.ptr 1 0)]) (λe=>[(1,.cells 125 [.map 2]),(2,.map (Qo (λx=>A.agg (Uh.c x)) A.bool e))]) Zf ?_ ?_))
 .refine G0 1 Z (Lp [0,2,1] [1,3,26,27] (λd=>[(28,I d.2)]) (λd=>[(1,.cells 125 [.map 2]),(2,.map (Qo (λx=>A.agg (Uh.c x)) A.bool d.1))]) t Zf (Lr [0,2,1]) λd E a f=>?_);refine G0 6 Z (Q8 Z a (λ_ a=>?_) (λ_ a=>?_))
  .exact Gc 2 Z (Ql a (Gx 1 Z (cQo f a (Lr [0,1,2]))))
  refine Gc 6 Z (Bd a λF i a=>Iz i Z (Go 12 Z (Bd a λG j a=>?_)));exact vU (Ye QeV j Z Gr) (Fg 7 Z Z (Qj a (Lr [0,1,2])))
 refine Gc 6 Z (Cz [0,1,2] h (k_gp _ _ _ _) Z λH u h=>Go 3 Z (Cn Z h (λ_ h=>?_) (λ_ h=>?_)))
 .exact QI 7 Z h 2 []
 exact QI 8 Z h 2 []
def F_eg(n:Nat)(a:Course)(d:List Fact):Option Unit:=some ()
theorem k_eg(a:Course)(d:List Fact):Kq (F_eg n a d) 19 [.agg (Course.c a),.rsl 57 (map Fact.c d)] [] (λ_=>.fn (.func 44) [] [.ptr 0 0,.ptr 1 0]) (λ_=>[.cells 34 [.rsl 57 (map Fact.c d)],.cells 33 (Course.c a)]):=by
 refine Kg 3 func19 Z Z Z Z λr h=>vH (OpH.box Z Z Z Z Z) ?_;exact FE Z (Gt 10 Z h 4 [1,0])
end Go.Sw
