/- What the functions compute that ProtestsAdmissibleSpec reaches, and that their calls refine it (part 1 of 5). -/
import Derived.Test.YtbhpipneolcmkaaGreatDoorW21AdB
set_option linter.unusedVariables false
set_option linter.unusedSimpArgs false
set_option maxRecDepth 100000
set_option maxHeartbeats 4000000
namespace Go.Sw
open List(map)
open Int(toNat)
open Go.IntKind(i64 u64 u8)
open Go.Proofs Tryz
def F_jm(n:Nat):Option Unit:=some ()
theorem k_jm(n:Nat):Kq (F_jm n) 17 [] [] (λ_=>.agg [.str [115,97,109,112,108,101],.osl 0 0 ([{Name:=[108,105,110,101],Kind:=1:Mat},{Name:=[102,105,110,105,115,104],Kind:=3:Mat}].length) 2,.osl 1 0 ([{From:=0,To:=1,Min:=10,Max:=100:Leg}].length) 4,.osl 2 0 ([{Name:=[98,114,105,101,102],Route:=[Un,{Un with Mat:=1:Part}],Timing:=1,Cutoffs:=[],Extra:=(-1):Distance},{Name:=[108,111,110,103],Route:=[Un,{Un with Mat:=1:Part}],Timing:=1,Cutoffs:=[],Extra:=(-1):Distance}].length) 5,.osl 3 0 ([{Name:=[101,108,105,116,101],Gun:=0:Wave}].length) 2,.rsl 4 (map Offence.c []),.rsl 3 (map Category.c []),.rsl 4 (map Prize.c []),.osl 4 0 ([{Uu with Kind:=1,By:=4:Step}].length) 8,I 0,I 0,I 0,I 0,I 0,I 500,I 50]) (λ_=>[.row 79 2 (map Mat.c [{Name:=[108,105,110,101],Kind:=1:Mat},{Name:=[102,105,110,105,115,104],Kind:=3:Mat}]),.row 113 4 (map Leg.c [{From:=0,To:=1,Min:=10,Max:=100:Leg}]),.row 77 5 (map Distance.c [{Name:=[98,114,105,101,102],Route:=[Un,{Un with Mat:=1:Part}],Timing:=1,Cutoffs:=[],Extra:=(-1):Distance},{Name:=[108,111,110,103],Route:=[Un,{Un with Mat:=1:Part}],Timing:=1,Cutoffs:=[],Extra:=(-1):Distance}]),.row 115 2 (map Wave.c [{Name:=[101,108,105,116,101],Gun:=0:Wave}]),.row 120 8 (map Step.enc [{Uu with Kind:=1,By:=4:Step}]),.cells 33 [.str [115,97,109,112,108,101],.osl 0 0 ([{Name:=[108,105,110,101],Kind:=1:Mat},{Name:=[102,105,110,105,115,104],Kind:=3:Mat}].length) 2,.osl 1 0 ([{From:=0,To:=1,Min:=10,Max:=100:Leg}].length) 4,.osl 2 0 ([{Name:=[98,114,105,101,102],Route:=[Un,{Un with Mat:=1:Part}],Timing:=1,Cutoffs:=[],Extra:=(-1):Distance},{Name:=[108,111,110,103],Route:=[Un,{Un with Mat:=1:Part}],Timing:=1,Cutoffs:=[],Extra:=(-1):Distance}].length) 5,.osl 3 0 ([{Name:=[101,108,105,116,101],Gun:=0:Wave}].length) 2,.rsl 4 (map Offence.c []),.rsl 3 (map Category.c []),.rsl 4 (map Prize.c []),.osl 4 0 ([{Uu with Kind:=1,By:=4:Step}].length) 8,I 0,I 0,I 0,I 0,I 0,I 500,I 50]]):=by
 refine Kg 9 func17 Z Z Z Z λr h=>vH (Ej (xs:=[.tmp 3,.tmp 4]) (es:=map Part.enc [Un,{Un with Mat:=1:Part}]) el_74 Z Z Z Z Z ⟨Z,Z,trivial⟩ Z Z) ?_;refine Fg 22 Z Z (vH (Ej (xs:=[.tmp 9,.tmp 10]) (es:=map Mat.c [{Name:=[108,105,110,101],Kind:=1:Mat},{Name:=[102,105,110,105,115,104],Kind:=3:Mat}]) el_22 Z Z Z Z Z ⟨Z,Z,trivial⟩ Z Z) ?_);refine Fg 1 Z Z (vH (Ej (xs:=[.tmp 12]) (es:=map Leg.c [{From:=0,To:=1,Min:=10,Max:=100:Leg}]) el_23 Z Z Z Z Z ⟨Z,trivial⟩ Z Z) ?_);refine Fg 2 Z Z ?_;refine QH (Qau [(5,_),(6,_),(7,_),(14,_),(15,_)] Z Z (QpL.cons Z En (QpL.cons Z (FzA.agg (Ed (Ee _) (Ed En (Ei _)))) (QpL.cons Z (FzA.agg (Ed (Ee _) (Ed En (Ei _)))) (QpL.cons Z (FzA.agg (Ed (Ee _) (Ed En (Ei _)))) (QpL.cons Z (FzA.agg (Ed (Ee _) (Ed En (Ei _)))) QpL.nil))))) (Ec (Ec (FzH.cells (Ed (Ee _) (Ed En (Ei _))) (FzH.cells (Ed (Ee _) (Ed En (Ei _))) (Jl _)))))) ?_;refine vH (Ej (xs:=[.tmp 14,.tmp 15]) (es:=map Distance.c [{Name:=[98,114,105,101,102],Route:=[Un,{Un with Mat:=1:Part}],Timing:=1,Cutoffs:=[],Extra:=(-1):Distance},{Name:=[108,111,110,103],Route:=[Un,{Un with Mat:=1:Part}],Timing:=1,Cutoffs:=[],Extra:=(-1):Distance}]) el_24 Z Z Z Z Z ⟨Z,Z,trivial⟩ Z Z) ?_;refine Fg 1 Z Z (vH (Ej (xs:=[.tmp 17]) (es:=map Wave.c [{Name:=[101,108,105,116,101],Gun:=0:Wave}]) el_25 Z Z Z Z Z ⟨Z,trivial⟩ Z Z) ?_);refine Fg 1 Z Z (vH (Ej (xs:=[.tmp 19]) (es:=map Step.enc [{Uu with Kind:=1,By:=4:Step}]) el_29 Z Z Z Z Z ⟨Z,trivial⟩ Z Z) ?_);refine Fg 5 Z Z ?_;obtain rfl:=Oi h;exact Rx [4,5,6,7,8,0] [0] Z (Je Z (QE isAgg33 sizeOf33 Z Z Z)) ⟨Z,Z⟩
def F_bc(n:Nat)(g:List Part)(h:Int)(rec7:(List Part)->Int->Option (Int×Int))(a:Int×Int×Int):Option (Ctl (Int×Int×Int) (Int×Int)):=(bif decide (a.2.2<(g.length:Int))then((idx g a.2.2).bind λe=>((bif ((e.Parts.length:Int)==0)then some true else(bif (h==0)then some true else some (decide (256<a.2.1)))):Option Bool).bind λi=>(bif i then some (a.1,a.2.1)else(rec7 e.Parts (i64.wrap (h-1))).bind λd=>some ((if a.1<i64.wrap (d.1+1)then i64.wrap (d.1+1)else a.1),i64.wrap (a.2.1+d.2))):Option (Int×Int)).bind λf=>some (.cont (f.1,f.2,i64.wrap (a.2.2+1)))else some (.done (a.1,a.2.1)))
def B_f(rec7:(List Part)->Int->Option (Int×Int))(n:Nat)(d:List Part)(e:Int):Option (Int×Int):=(iter (F_bc n d e rec7) n (0,(d.length:Int),0):Option (Int×Int)).bind λa=>some (a.1,a.2)
theorem Qeo(rec7:(List Part)->Int->Option (Int×Int))(m:∀(j:List Part) (k:Int) (r:Int×Int),rec7 j k=some r->Csm prog 79 [.rsl 3 (map Part.enc j),I k] [] (λr=>.tup [I r.1,I r.2]) r)(n:Nat)(j:List Part)(k:Int)(r:Int×Int)(h:B_f rec7 n j k=some r):Csm prog 79 [.rsl 3 (map Part.enc j),I k] [] (λr=>.tup [I r.1,I r.2]) r:=by
 refine QF func79 Z Z Z ?_;refine G0 9 Z (Lg 7 Z Z (Lg 3 Z Z (Bd h λg y h=>Cg g [] [] (λg=>[(4,I g.1),(5,I g.2)]) Ze Zf ?_ ?_)))
 .refine G0 1 Z (Lp [] [1,12,13] (λf=>[(4,I f.1),(5,I f.2.1),(14,I f.2.2)]) Ze y Zf (Lr []) λf E e q=>?_);refine G0 6 Z (Yd Z e (λs e=>?_) (λs e=>?_))
  .exact Gc 2 Z (Qh e (Gx 1 Z (cQo q e (Lr []))))
  refine Gc 3 Z (Bd e λi a e=>Cg i [] [1,12,13,14] (λi=>[(4,I i.1),(5,I i.2)]) Ze Zf ?_ ?_)
  .refine G0 3 Z (Bd a λz t a=>IzE t (Yb z) Z (Go 7 Z (Bd a λl d a=>Cg l [0] [1,4,5,7,12,13,14] (λl=>[(29,.bool l)]) Ze Zf ?_ ?_)))
   .refine G0 3 Z (Lg 2 Z Z (Is 22 d Z (λu d=>?_) (λu d=>?_)))
    .exact Gl 8 Z d [0]
    .refine Go 4 Z (Is 26 d Z (λw d=>?_) (λw d=>?_))
     iterate 2 exact Gl 4 Z d [0]
   refine Cn Z a (λx a=>?_) (λx a=>?_)
   .exact YC 3 Z a []
   refine Gc 8 Z (Cd [] a (m _ _) Z λp B a=>Fg 11 Z Z ?_);refine vX (I (if f.1<i64.wrap (p.1+1)then i64.wrap (p.1+1)else f.1)) (OpV.max Z Z Z Z) ?_;exact Gl 7 Z a []
  exact Gc 4 Z (Qf e (Lr []))
 refine Gc 9 Z ?_;obtain rfl:=Oi h;exact R2 4 5 Z Z (Lr [])
def F_f:Nat->(List Part)->Int->Option (Int×Int)
  |0=>λ_ _=>none
  |n+1=>B_f (F_f n) n
theorem k_f(n:Nat):∀(a:List Part) (d:Int) (r:Int×Int),F_f n a d=some r->Csm prog 79 [.rsl 3 (map Part.enc a),I d] [] (λr=>.tup [I r.1,I r.2]) r:=by
  induction n with
  |zero=>intro a d r h;cases h
  |succ n ih=>intro a d r h;exact Qeo _ ih n a d r h
def F_fr(n:Nat)(f:Course)(a:Int):Option (Ctl Int (Ctl Unit Bool)):=(bif decide (a<(f.Distances.length:Int))then(idx f.Distances a).bind λd=>(F_f n d.Route 17).bind λe=>((bif decide (64<(d.Cutoffs.length:Int))then some true else(bif decide (16<e.1)then some true else some (decide (256<e.2)))):Option Bool).bind λg=>(bif g then some (.done (.done false))else some (.cont (i64.wrap (a+1))))else some (.done (.cont ())))
def F_bm(n:Nat)(a:Course):Option Bool:=((bif decide (40<(a.Mats.length:Int))then some true else(bif decide (512<(a.Legs.length:Int))then some true else(bif decide (8<(a.Distances.length:Int))then some true else(bif decide (32<(a.Waves.length:Int))then some true else(bif decide (32<(a.Offences.length:Int))then some true else(bif decide (32<(a.Categories.length:Int))then some true else some (decide (32<(a.Prizes.length:Int))))))))):Option Bool).bind λf=>(bif f then some false else(iter (F_fr n a) n 0:Option (Ctl Unit Bool)).bind λe=>match e with|.cont d=>(some true)|.done d=>some d)
theorem k_bm(n:Nat)(z:Course):Ks (F_bm n z) 49 [.agg (Course.c z)] [] (λr=>.bool r):=by
 refine Kg 8 func49 Z Z Z Z λr h=>Bd h λj d h=>Ct j [0] [1] (λj=>[(46,.bool j)]) Ze Zf ?_ (λenv H B=>?_)
 .refine G0 3 Z (Lg 2 Z Z (Is 11 d Z (λE d=>?_) (λE d=>?_)))
  .exact Gl 36 Z d [0]
  .refine Go 2 Z (Lg 3 Z Z (Is 17 d Z (λk d=>?_) (λk d=>?_)))
   .exact Gl 30 Z d [0]
   .refine Go 2 Z (Lg 3 Z Z (Is 23 d Z (λl d=>?_) (λl d=>?_)))
    .exact Gl 24 Z d [0]
    .refine Go 2 Z (Lg 3 Z Z (Is 29 d Z (λm d=>?_) (λm d=>?_)))
     .exact Gl 18 Z d [0]
     .refine Go 2 Z (Lg 3 Z Z (Is 35 d Z (λp d=>?_) (λp d=>?_)))
      .exact Gl 12 Z d [0]
      .refine Go 2 Z (Lg 3 Z Z (Is 41 d Z (λq d=>?_) (λq d=>?_)))
       .exact Gl 6 Z d [0]
       .exact Go 2 Z (Lm Z (Gl 3 Z d [0]))
 refine Gx 1 Z (Qd B (Cn Z h (λs h=>?_) (λs h=>?_)))
 .exact QG 7 Z h 2 []
 refine Gc 7 Z (Lg 3 Z Z (Bd h λF G h=>CgE (b:=F) [] [] Ze Ze Zf ?_ (λL J=>?_)))
 .refine G0 1 Z (Lp [] [48,49] (λi=>[(50,I i)]) Ze G Zf (Lr []) λi N a f=>?_);refine G0 6 Z (Yd Z a (λt a=>?_) (λt a=>?_))
  .exact Gc 2 Z (Qh a (Gx 1 Z (JB f a Z (Lr []))))
  refine Gc 6 Z (Bd a λO u a=>Iz u Z (Go 9 Z (Cd [] a (k_f _ _ _) Z λP M a=>Fg 8 Z Z (Bd a λg e a=>Cg g [] [48,49,50] (λg=>[(71,.bool g)]) Ze Zf ?_ ?_))))
  .refine G0 3 Z (Lg 2 Z Z (Is 64 e Z (λw e=>?_) (λw e=>?_)))
   .exact Gl 8 Z e []
   .refine Go 4 Z (Is 68 e Z (λx e=>?_) (λx e=>?_))
    iterate 2 exact Gl 4 Z e []
  refine Cn Z a (λy a=>?_) (λy a=>?_)
  .refine Gc 8 Z (Qw a ?_);obtain rfl:=Oj f a;exact Gx 1 Z (Qq (Gx 1 Z (Rt h 2 [])))
  exact Gc 7 Z (Qf a (Lr []))
 subst J;exact QG 6 Z h 2 []
def F_ev(n:Nat)(a:(List Int)×Int):Option (Ctl ((List Int)×Int) (List Int)):=(bif decide (a.2<=122)then(Qfi 256 a.1 a.2).bind λf=>(Qej a.1 a.2 2).bind λd=>(Qfi 256 d (u8.wrap (a.2-32))).bind λg=>(Qej d (u8.wrap (a.2-32)) 2).bind λe=>some (.cont (e,u8.wrap (a.2+1)))else some (.done a.1))
def F_jv(n:Nat)(a:(List Int)×Int):Option (Ctl ((List Int)×Int) (List Int)):=(bif decide (a.2<=57)then(Qfi 256 a.1 a.2).bind λe=>(Qej a.1 a.2 3).bind λd=>some (.cont (d,u8.wrap (a.2+1)))else some (.done a.1))
def F_ln(n:Nat)(a:(List Int)×Int):Option (Ctl ((List Int)×Int) (List Int)):=(bif decide (a.2<([123,125,40,41,91,93,59,44,61,60,62].length:Int))then(idx [123,125,40,41,91,93,59,44,61,60,62] a.2).bind λd=>(Qfi 256 a.1 d).bind λf=>(Qej a.1 d 4).bind λe=>some (.cont (e,i64.wrap (a.2+1)))else some (.done a.1))
def F_mc(n:Nat)(a:(List Int)×Int):Option (Ctl ((List Int)×Int) (List Int)):=(bif decide (a.2<(([32,9,10,13].length):Int))then(idx [32,9,10,13] a.2).bind λd=>(Qfi 256 a.1 d).bind λf=>(Qej a.1 d 1).bind λe=>some (.cont (e,i64.wrap (a.2+1)))else some (.done a.1))
def F_dl(n:Nat):Option (List Int):=(iter (F_ev n) n (List.replicate 256 0,97):Option (List Int)).bind λd=>(iter (F_jv n) n (d,48):Option (List Int)).bind λe=>(iter (F_ln n) n (e,0):Option (List Int)).bind λf=>(iter (F_mc n) n (f,0):Option (List Int)).bind λa=>(arr 256 a).bind λg=>(arr 256 a).bind λi=>(arr 256 g).bind λh=>some h
theorem k_dl(n:Nat):Kq (F_dl n) 243 [] [] (λr=>.agg (List.flatten (map (Qe .u8) r))) (λr=>[.row 322 1 (map (Qe .u8) r)]):=by
 refine Kg 2 func243 Z Z Z Z λr h=>vH (JE (n:=256) (k:=1) (e:=(Qe .u8)) (z:=0) zeroValue322 (by kernel_rfl) (by kernel_rfl) (by kernel_rfl) Z) ?_;refine Fg 8 Z Z (Bd h λw ai h=>Ct w [0] [0] Ze (λw=>[(0,.row 322 1 (map (Qe .u8) w))]) Zf ?_ (λenv H q=>?_))
 .refine G0 1 Z (Lp [0] [0] (λj=>[(1,.int .u8 j.2)]) (λj=>[(0,.row 322 1 (map (Qe .u8) j.1))]) ai Zf (Lr [0]) λj ar a O=>?_);refine G0 7 Z (Yd Z a (λP a=>?_) (λP a=>?_))
  .exact Gc 2 Z (Qh a (Gx 1 Z (cQo O a (Lr [0]))))
  refine Gc 8 Z (Bd a λau x a=>?_);refine vX (.ptr 0 (toNat j.2*1)) (Qah (n:=256) (k:=1) (l:=j.1) x E3 E5 Z) ?_;refine Bd a λaj Q a=>?_;refine vU (QaX (e:=(Qe .u8)) (k:=1) (f:=0) (Qa7 x).2 Q E5 Z Z) ?_;refine FE Z (Bd a λav y a=>?_);refine vX (.ptr 0 (toNat (u8.wrap (j.2-32))*1)) (Qah (n:=256) (k:=1) (l:=aj) y E3 E5 Z) ?_;refine Bd a λaw R a=>?_;refine vU (QaX (e:=(Qe .u8)) (k:=1) (f:=0) (Qa7 y).2 R E5 Z Z) ?_;exact Fg 8 Z Z (Qf a (Lr [0]))
 refine Gx 1 Z (Qd q (Gc 6 Z (Bd h λB ak h=>Ct B [0] [0] Ze (λB=>[(0,.row 322 1 (map (Qe .u8) B))]) Zf ?_ (λenv H q=>?_))))
 .refine G0 1 Z (Lp [0] [0] (λm=>[(2,.int .u8 m.2)]) (λm=>[(0,.row 322 1 (map (Qe .u8) m.1))]) ak Zf (Lr [0]) λm ax i T=>?_);refine G0 7 Z (Yd Z i (λV i=>?_) (λV i=>?_))
  .exact Gc 2 Z (Qh i (Gx 1 Z (cQo T i (Lr [0]))))
  refine Gc 6 Z (Bd i λay E i=>?_);refine vX (.ptr 0 (toNat m.2*1)) (Qah (n:=256) (k:=1) (l:=m.1) E E3 E5 Z) ?_;refine Bd i λaz W i=>?_;refine vU (QaX (e:=(Qe .u8)) (k:=1) (f:=0) (Qa7 E).2 W E5 Z Z) ?_;exact Fg 8 Z Z (Qf i (Lr [0]))
 refine Gx 1 Z (Qd q (Gc 3 Z (vH (Ej (xs:=[.const (.int .u8 123),.const (.int .u8 125),.const (.int .u8 40),.const (.int .u8 41),.const (.int .u8 91),.const (.int .u8 93),.const (.int .u8 59),.const (.int .u8 44),.const (.int .u8 61),.const (.int .u8 60),.const (.int .u8 62)]) (es:=map (Qe .u8) [123,125,40,41,91,93,59,44,61,60,62]) YZ Z Z Z Z Z ⟨Z,Z,Z,Z,Z,Z,Z,Z,Z,Z,Z,trivial⟩ Z Z) ?_)));refine FE Z (vH (QnX (es:=map (Qe .u8) [123,125,40,41,91,93,59,44,61,60,62]) underlying204 underlying5 (XX ..) Z) ?_);refine FE Z (Lg 3 Z Z (Bd h λF al h=>Ct F [0] [0] Ze (λF=>[(0,.row 322 1 (map (Qe .u8) F))]) Zf ?_ (λenv H q=>?_)))
 .refine G0 1 Z (Lp [0] [0,23,24] (λs=>[(25,I s.2)]) (λs=>[(0,.row 322 1 (map (Qe .u8) s.1))]) al Zf (Lr [0]) λs ba d X=>?_);refine G0 6 Z (Yd Z d (λY d=>?_) (λY d=>?_))
  .exact Gc 2 Z (Qh d (Gx 1 Z (cQo X d (Lr [0]))))
  refine Gc 6 Z (Bd d λam aa d=>Iz aa Z (Go 6 Z (Bd d λbb G d=>?_)));refine vX (.ptr 0 (toNat am*1)) (Qah (n:=256) (k:=1) (l:=s.1) G E3 E5 Z) ?_;refine Bd d λbc ab d=>?_;refine vU (QaX (e:=(Qe .u8)) (k:=1) (f:=0) (Qa7 G).2 ab E5 Z Z) ?_;exact Fg 7 Z Z (Qf d (Lr [0]))
 refine Gx 1 Z (Qd q (Gc 3 Z (vH (Ej (xs:=[.const (.int .u8 32),.const (.int .u8 9),.const (.int .u8 10),.const (.int .u8 13)]) (es:=map (Qe .u8) [32,9,10,13]) YZ Z Z Z Z Z ⟨Z,Z,Z,Z,trivial⟩ Z Z) ?_)));refine Fg 4 Z Z (Bd h λu an h=>Cg u [0] [0] Ze (λu=>[(0,.row 322 1 (map (Qe .u8) u))]) Zf ?_ ?_)
 .refine G0 1 Z (Lp [0,1] [0,32,33] (λp=>[(34,I p.2)]) (λp=>[(0,.row 322 1 (map (Qe .u8) p.1))]) an Zf (Lr [0,1]) λp bd g ac=>?_);refine G0 6 Z (Yd Z g (λae g=>?_) (λae g=>?_))
  .exact Gc 2 Z (Qh g (Gx 1 Z (cQo ac g (Lr [0]))))
  refine Gc 6 Z (Bd g λN J g=>?_);refine vX (.ptr 1 (toNat p.2*1)) (Qp J Z EH E5) ?_;refine vX (.int .u8 N) (Ey Z isAgg5 Z (Qo J)) ?_;refine Go 5 Z (Bd g λbe L g=>?_);refine vX (.ptr 0 (toNat N*1)) (Qah (n:=256) (k:=1) (l:=p.1) L E3 E5 Z) ?_;refine Bd g λbf af g=>?_;refine vU (QaX (e:=(Qe .u8)) (k:=1) (f:=0) (Qa7 L).2 af E5 Z Z) ?_;exact Fg 7 Z Z (Qf g (Lr [0,1]))
 refine Gc 2 Z (Bd h λao ag h=>?_);refine vX (.agg (List.flatten (map (Qe .u8) ao))) (QkI (e:=(Qe .u8)) ag Zf Z isAgg322 GK) ?_;refine Bd h λbg ah h=>Bd h λaq t h=>?_;obtain⟨M,rfl⟩:=JR ah;refine vU (JD (e:=(Qe .u8)) (l:=u) (l':=aq) M (QbS t) Zf Z GK Zf Zf (congrArg (λl=>List.flatten (map (Qe .u8) l)) (JR t).2.symm)) ?_;refine Fg 3 Z Z ?_;obtain rfl:=Oi h;exact Rx [0] [0] Z (Je Z (QnN (e:=(Qe .u8)) (QbS t) Zf Z isAgg322 GK)) ⟨Z,Z⟩
def F_kz(n:Nat)(e:List UInt8)(i:List Int)(a:Int):Option (Ctl Int (Ctl Unit Bool)):=(bif decide (a<(e.length:Int))then(idx e a).bind λf=>(Qfi 256 i (f.toNat:Int)).bind λd=>((bif (d != 2)then(bif (a==0)then some true else(bif (d != 3)then(idx e a).bind λg=>some ((g.toNat:Int) != 95)else some false))else some false):Option Bool).bind λh=>(bif h then some (.done (.done false))else some (.cont (i64.wrap (a+1))))else some (.done (.cont ())))
def F_cj(n:Nat)(d:List UInt8):Option Bool:=(F_dl n).bind λf=>(arr 256 (List.replicate 256 0)).bind λh=>(arr 256 f).bind λg=>(iter (F_kz n d g) n 0:Option (Ctl Unit Bool)).bind λe=>match e with|.cont a=>(some (d != []))|.done a=>some a
theorem k_cj(n:Nat)(q:List UInt8):Ks (F_cj n q) 213 [.str q] [] (λr=>.bool r):=by
 refine Kg 7 func213 Z Z Z Z λr h=>Bd h λG J h=>?_;refine QX [] (OpC.fn call243 Z Z Z) (k_dl _ _ J) ?_;rintro _ _ ⟨rfl,rfl⟩;refine QlQ (x:=(.agg (List.flatten (map (Qe .u8) G)))) (H:=[.row 322 1 (map (Qe .u8) G)]) (Qp2 (e:=(Qe .u8)) Zf _ _) Z ?_;refine vH (JE (n:=256) (k:=1) (e:=(Qe .u8)) (z:=0) zeroValue322 (by kernel_rfl) (by kernel_rfl) (by kernel_rfl) Z) ?_;refine FE Z (Bd h λW L h=>Bd h λM j h=>?_);obtain⟨s,rfl⟩:=JR L;refine vU (JD (e:=(Qe .u8)) (l:=(List.replicate 256 0)) (l':=M) s (QbS j) Zf Z GK Zf Zf (congrArg (λl=>List.flatten (map (Qe .u8) l)) (JR j).2.symm)) ?_;refine Fg 6 Z Z ?_;refine vX (I (q.length:Int)) (Y2 Z Z EE Z) ?_;refine Go 3 Z (Bd h λN O h=>CgE (b:=N) [] [0] Ze Ze Zf ?_ (λT P=>?_))
 .refine G0 1 Z (Lp [1] [0,3,8] (λm=>[(9,I m)]) Ze O Zf (Lr [1]) λm V a f=>?_);refine G0 6 Z (Yd Z a (λt a=>?_) (λt a=>?_))
  .exact Gc 2 Z (Qh a (Gx 1 Z (JB f a Z (Lr []))))
  refine Gc 14 Z (Bd a λp u a=>?_);refine vX (.int .u8 (p.toNat:Int)) (Q4 u EE) ?_;refine Bd a λQ g a=>?_;refine vX (.ptr 0 (toNat (p.toNat:Int)*1)) (Qah (n:=256) (k:=1) (l:=M) g E3 E5 Z) ?_;refine vX (.int .u8 Q) (Ey Z isAgg5 Z (Qo (Qa7 g).2)) ?_;refine Go 4 Z (Bd a λi d a=>Cg i [0] [0,3,8,9] (λi=>[(32,.bool i)]) Ze Zf ?_ ?_)
  .refine G0 4 Z (Is 19 d Z (λw d=>?_) (λw d=>?_))
   .refine Go 3 Z (Is 22 d Z (λy d=>?_) (λy d=>?_))
    .exact Gl 11 Z d [0]
    .refine Go 3 Z (Is 25 d Z (λB d=>?_) (λB d=>?_))
     .refine Go 2 Z (Bd d λR E d=>?_);refine vX (.int .u8 (R.toNat:Int)) (Q4 E EE) ?_ (gT Z);exact Gl 5 Z d [0]
     .exact Gl 8 Z d [0]
   .exact Gl 14 Z d [0]
  refine Cn Z a (λF a=>?_) (λF a=>?_)
  .refine Gc 8 Z (Qw a ?_);obtain rfl:=Oj f a;exact Gx 1 Z (Qq (Gx 1 Z (Rt h 2 [])))
  exact Gc 7 Z (Qf a (Lr [0]))
 subst P;exact QG 8 Z h 2 []
def F_hx(n:Nat)(a:List UInt8):Option Bool:=((F_cj n a).bind λg=>(bif g then(cat [32] a).bind λd=>(cat d [32]).bind λe=>(Qgd [32,99,111,117,114,115,101,32,109,97,116,115,32,115,116,97,114,116,32,112,97,115,115,32,101,110,100,32,108,101,103,32,116,111,32,100,105,115,116,97,110,99,101,32,103,117,110,32,99,104,105,112,32,115,108,111,116,32,108,97,112,115,32,108,97,112,32,99,117,116,111,102,102,32,101,120,116,114,97,32,119,97,118,101,32,111,102,102,101,110,99,101,32,111,117,116,32,99,97,116,101,103,111,114,121,32,112,114,105,122,101,32,97,108,108,32,116,105,101,115,32,105,102,32,101,108,115,101,32,97,110,100,32,111,114,32,110,111,116,32,111,108,100,101,114,32,121,111,117,110,103,101,114,32,98,105,98,32,100,114,97,119,32,102,105,101,108,100,32,115,104,111,114,116,32,102,97,117,108,116,115,32,109,105,115,115,101,115,32,115,116,114,97,121,115,32,119,105,110,100,111,119,32,114,101,115,105,100,117,97,108,32,100,114,105,102,116,32,112,114,111,116,101,115,116,32,102,101,101,32,100,101,97,100,108,105,110,101,32] e).bind λf=>some f else some false):Option Bool).bind λh=>some h
theorem k_hx(n:Nat)(i:List UInt8):Ks (F_hx n i) 156 [.str i] [] (λr=>.bool r):=by
 refine Kg 6 func156 Z Z Z Z λr h=>Bd h λd a h=>Cg d [] [] (λd=>[(2,.bool d)]) Ze Zf ?_ ?_
 .refine G0 2 Z (Cz [] a (k_cj _ _) Z λq m a=>Go 1 Z (Is 5 a Z (λj a=>?_) (λj a=>?_)))
  .refine Go 1 Z (Bd a λk e a=>?_);refine vX (.str k) (QgV e) ?_ (gT Z);refine Bd a λl f a=>?_;refine vX (.str l) (QgV f) ?_ (gT Z);refine Bd a λp g a=>?_;refine QX [] (OpC.fn call214 Z Z Z) (C.contains Qet Z g) ?_ (hg:=(gT Z));rintro _ _ ⟨rfl,rfl⟩;exact FE Z (Gl 3 Z a [])
  .exact Gl 7 Z a []
 exact QG 1 Z h 2 []
def F_ki(n:Nat)(e:List UInt8)(d:Int):Option (Ctl Int (Ctl Unit Bool)):=(bif decide (d<(e.length:Int))then(idx e d).bind λa=>((bif decide ((a.toNat:Int)<97)then(bif decide ((a.toNat:Int)<48)then some ((a.toNat:Int) != 95)else(bif decide (57<(a.toNat:Int))then some ((a.toNat:Int) != 95)else some false))else(bif decide (122<(a.toNat:Int))then(bif decide ((a.toNat:Int)<48)then some ((a.toNat:Int) != 95)else(bif decide (57<(a.toNat:Int))then some ((a.toNat:Int) != 95)else some false))else some false)):Option Bool).bind λf=>(bif f then some (.done (.done false))else some (.cont (i64.wrap (d+1))))else some (.done (.cont ())))
def F_k(n:Nat)(a:List UInt8):Option Bool:=((bif decide ((a.length:Int)<1)then some true else(bif decide (24<(a.length:Int))then some true else(idx a 0).bind λe=>(bif decide ((e.toNat:Int)<97)then some true else(idx a 0).bind λf=>some (decide (122<(f.toNat:Int)))))):Option Bool).bind λi=>(bif i then some false else(iter (F_ki n a) n 0:Option (Ctl Unit Bool)).bind λg=>match g with|.cont d=>((F_hx n a).bind λh=>some (!h))|.done d=>some d)
theorem k_k(n:Nat)(f:List UInt8):Ks (F_k n f) 80 [.str f] [] (λr=>.bool r):=by
 refine Kg 7 func80 Z Z Z Z λr h=>Bd h λk e h=>Ct k [] [0] (λk=>[(22,.bool k)]) Ze Zf ?_ (λenv H F=>?_)
 .refine G0 2 Z ?_;refine vX (I (f.length:Int)) (Y2 Z Z EE Z) ?_;refine Go 2 Z (Is 8 e Z (λG e=>?_) (λG e=>?_))
  .exact Gl 15 Z e []
  .refine Go 1 Z ?_;refine vX (I (f.length:Int)) (Y2 Z Z EE Z) ?_ (gT Z);refine Go 3 Z (Is 13 e Z (λJ e=>?_) (λJ e=>?_))
   .exact Gl 10 Z e []
   .refine Go 1 Z (Bd e λL l e=>?_);refine vX (.int .u8 (L.toNat:Int)) (Q4 l EE) ?_ (gT Z);refine Go 3 Z (Is 18 e Z (λm e=>?_) (λm e=>?_))
    .exact Gl 5 Z e []
    .refine Go 1 Z (Bd e λM p e=>?_);refine vX (.int .u8 (M.toNat:Int)) (Q4 p EE) ?_ (gT Z);exact Gl 3 Z e []
 refine Gx 1 Z (Qd F (Cn Z h (λq h=>?_) (λq h=>?_)))
 .exact QG 7 Z h 2 []
 refine Gc 6 Z ?_;refine vX (I (f.length:Int)) (Y2 Z Z EE Z) ?_;refine Go 3 Z (Bd h λN O h=>CgE (b:=N) [] [0] Ze Ze Zf ?_ (λR P=>?_))
 .refine G0 1 Z (Lp [] [0,24] (λj=>[(25,I j)]) Ze O Zf (Lr []) λj V d g=>?_);refine G0 6 Z (Yd Z d (λs d=>?_) (λs d=>?_))
  .exact Gc 2 Z (Qh d (Gx 1 Z (JB g d Z (Lr []))))
  refine Gc 14 Z (Bd d λQ t d=>?_);refine vX (.int .u8 (Q.toNat:Int)) (Q4 t EE) ?_;refine Go 4 Z (Bd d λi a d=>Cg i [] [0,24,25] (λi=>[(48,.bool i)]) Ze Zf ?_ ?_)
  .refine G0 4 Z (Is 33 a Z (λu a=>?_) (λu a=>?_))
   .refine Go 7 Z (Is 40 a Z (λw a=>?_) (λw a=>?_))
    .exact Gl 9 Z a []
    .refine Go 5 Z (Is 45 a Z (λx a=>?_) (λx a=>?_))
     iterate 2 exact Gl 4 Z a []
   .refine Go 4 Z (Is 37 a Z (λy a=>?_) (λy a=>?_))
    .refine Go 3 Z (Is 40 a Z (λz a=>?_) (λz a=>?_))
     .exact Gl 9 Z a []
     .refine Go 5 Z (Is 45 a Z (λB a=>?_) (λB a=>?_))
      iterate 2 exact Gl 4 Z a []
    .exact Gl 12 Z a []
  refine Cn Z d (λE d=>?_) (λE d=>?_)
  .refine Gc 8 Z (Qw d ?_);obtain rfl:=Oj g d;exact Gx 1 Z (Qq (Gx 1 Z (Rt h 2 [])))
  exact Gc 7 Z (Qf d (Lr []))
 subst P;exact Gc 3 Z (Cz [] h (k_hx _ _) Z λW T h=>Gt 5 Z h 2 [])
def F_hn(n:Nat)(a:Mat):Option Unit:=some ()
theorem k_hn(n:Nat)(a:Mat):Ks (F_hn n a) 82 [.agg (Mat.c a)] [] (λ_=>.str a.Name):=by
 exact Kg 14 func82 Z Z Z Z λr h=>Rt h 2 []
def F_ml(n:Nat)(e:List Mat)(a:(List (List UInt8×Bool))×Int):Option (Ctl ((List (List UInt8×Bool))×Int) (Ctl Unit Bool)):=(bif decide (a.2<(e.length:Int))then(idx e a.2).bind λd=>(F_hn n d).bind λj=>((F_k n d.Name).bind λf=>(bif (!f)then some true else(some (Qy a.1 d.Name false)).bind λg=>some g):Option Bool).bind λh=>(bif h then some (.done (.done false))else(some (Yk a.1 d.Name true)).bind λi=>some (.cont (i,i64.wrap (a.2+1))))else some (.done (.cont ())))
def F_fd(n:Nat)(e:List Mat):Option Bool:=(iter (F_ml n e) n ([],0):Option (Ctl Unit Bool)).bind λd=>match d with|.cont a=>(some true)|.done a=>some a
theorem k_fd(n:Nat)(u:List Mat):Ks (F_fd n u) 81 [.rsl 2 (map Mat.c u),.fn (.func 82) [] []] [] (λr=>.bool r):=by
 refine Kg 7 func81 Z Z Z Z λr h=>vH Yt ?_;refine Fg 7 Z Z (Lg 3 Z Z (Bd h λw x h=>CgE (b:=w) [] [] Ze Ze Zf ?_ (λB y=>?_)))
 .refine G0 1 Z (Lp [0] [1,5,10,11] (λe=>[(12,I e.2)]) (λe=>[(0,.map (Qx A.str A.bool e.1))]) x Zf (Lr [0]) λe G a f=>?_);refine G0 6 Z (Yd Z a (λj a=>?_) (λj a=>?_))
  .exact Gc 2 Z (Qh a (Gx 1 Z (JB f a Z (Lr []))))
  refine Gc 6 Z (Bd a λi m a=>Iz m Z (Go 9 Z (Cz [] a (k_hn _ _) Z λH E a=>Go 5 Z (Bd a λg d a=>Cg g [0] [1,5,8,10,11,12] (λg=>[(26,.bool g)]) Ze Zf ?_ ?_))))
  .refine G0 2 Z (Cz [] d (k_k _ _) Z λJ F d=>Go 2 Z (Is 22 d Z (λp d=>?_) (λp d=>?_)))
   .exact Gl 5 Z d [0]
   .refine Go 2 Z (Bd d λz q d=>?_);refine vX (.bool z) (YM (ev:=A.bool) (z0:=false) (k:=i.Name) (l:=e.1) QcT q ES ET ZR.bool) ?_ (gT Z);exact Gl 2 Z d [0]
  refine Cn Z a (λs a=>?_) (λs a=>?_)
  .refine Gc 9 Z (Qw a ?_);obtain rfl:=Oj f a;exact Gx 1 Z (Qq (Gx 1 Z (Rt h 4 [])))
  refine Gc 5 Z (Bd a λL t a=>?_);refine vU (YW (ev:=A.bool) (k:=i.Name) (v:=true) (l:=e.1) QcT t Z ES) ?_;exact Fg 7 Z Z (Qf a (Lr [0]))
 subst y;exact QG 6 Z h 4 []
def F_ib(n:Nat)(a:Distance):Option Unit:=some ()
theorem k_ib(n:Nat)(a:Distance):Ks (F_ib n a) 84 [.agg (Distance.c a)] [] (λ_=>.str a.Name):=by
 exact Kg 14 func84 Z Z Z Z λr h=>Rt h 2 []
def F_mj(n:Nat)(e:List Distance)(a:(List (List UInt8×Bool))×Int):Option (Ctl ((List (List UInt8×Bool))×Int) (Ctl Unit Bool)):=(bif decide (a.2<(e.length:Int))then(idx e a.2).bind λd=>(F_ib n d).bind λj=>((F_k n d.Name).bind λf=>(bif (!f)then some true else(some (Qy a.1 d.Name false)).bind λg=>some g):Option Bool).bind λh=>(bif h then some (.done (.done false))else(some (Yk a.1 d.Name true)).bind λi=>some (.cont (i,i64.wrap (a.2+1))))else some (.done (.cont ())))
def F_hz(n:Nat)(e:List Distance):Option Bool:=(iter (F_mj n e) n ([],0):Option (Ctl Unit Bool)).bind λd=>match d with|.cont a=>(some true)|.done a=>some a
theorem k_hz(n:Nat)(u:List Distance):Ks (F_hz n u) 83 [.rsl 5 (map Distance.c u),.fn (.func 84) [] []] [] (λr=>.bool r):=by
 refine Kg 7 func83 Z Z Z Z λr h=>vH Yt ?_;refine Fg 7 Z Z (Lg 3 Z Z (Bd h λw x h=>CgE (b:=w) [] [] Ze Ze Zf ?_ (λB y=>?_)))
 .refine G0 1 Z (Lp [0] [1,5,10,11] (λe=>[(12,I e.2)]) (λe=>[(0,.map (Qx A.str A.bool e.1))]) x Zf (Lr [0]) λe G a f=>?_);refine G0 6 Z (Yd Z a (λj a=>?_) (λj a=>?_))
  .exact Gc 2 Z (Qh a (Gx 1 Z (JB f a Z (Lr []))))
  refine Gc 6 Z (Bd a λi m a=>Iz m Z (Go 9 Z (Cz [] a (k_ib _ _) Z λH E a=>Go 5 Z (Bd a λg d a=>Cg g [0] [1,5,8,10,11,12] (λg=>[(26,.bool g)]) Ze Zf ?_ ?_))))
  .refine G0 2 Z (Cz [] d (k_k _ _) Z λJ F d=>Go 2 Z (Is 22 d Z (λp d=>?_) (λp d=>?_)))
   .exact Gl 5 Z d [0]
   .refine Go 2 Z (Bd d λz q d=>?_);refine vX (.bool z) (YM (ev:=A.bool) (z0:=false) (k:=i.Name) (l:=e.1) QcT q ES ET ZR.bool) ?_ (gT Z);exact Gl 2 Z d [0]
  refine Cn Z a (λs a=>?_) (λs a=>?_)
  .refine Gc 9 Z (Qw a ?_);obtain rfl:=Oj f a;exact Gx 1 Z (Qq (Gx 1 Z (Rt h 4 [])))
  refine Gc 5 Z (Bd a λL t a=>?_);refine vU (YW (ev:=A.bool) (k:=i.Name) (v:=true) (l:=e.1) QcT t Z ES) ?_;exact Fg 7 Z Z (Qf a (Lr [0]))
 subst y;exact QG 6 Z h 4 []
def F_ht(n:Nat)(a:Wave):Option Unit:=some ()
theorem k_ht(n:Nat)(a:Wave):Ks (F_ht n a) 86 [.agg (Wave.c a)] [] (λ_=>.str a.Name):=by
 exact Kg 14 func86 Z Z Z Z λr h=>Rt h 2 []
def F_mi(n:Nat)(e:List Wave)(a:(List (List UInt8×Bool))×Int):Option (Ctl ((List (List UInt8×Bool))×Int) (Ctl Unit Bool)):=(bif decide (a.2<(e.length:Int))then(idx e a.2).bind λd=>(F_ht n d).bind λj=>((F_k n d.Name).bind λf=>(bif (!f)then some true else(some (Qy a.1 d.Name false)).bind λg=>some g):Option Bool).bind λh=>(bif h then some (.done (.done false))else(some (Yk a.1 d.Name true)).bind λi=>some (.cont (i,i64.wrap (a.2+1))))else some (.done (.cont ())))
def F_es(n:Nat)(e:List Wave):Option Bool:=(iter (F_mi n e) n ([],0):Option (Ctl Unit Bool)).bind λd=>match d with|.cont a=>(some true)|.done a=>some a
theorem k_es(n:Nat)(u:List Wave):Ks (F_es n u) 85 [.rsl 2 (map Wave.c u),.fn (.func 86) [] []] [] (λr=>.bool r):=by
 refine Kg 7 func85 Z Z Z Z λr h=>vH Yt ?_;refine Fg 7 Z Z (Lg 3 Z Z (Bd h λw x h=>CgE (b:=w) [] [] Ze Ze Zf ?_ (λB y=>?_)))
 .refine G0 1 Z (Lp [0] [1,5,10,11] (λe=>[(12,I e.2)]) (λe=>[(0,.map (Qx A.str A.bool e.1))]) x Zf (Lr [0]) λe G a f=>?_);refine G0 6 Z (Yd Z a (λj a=>?_) (λj a=>?_))
  .exact Gc 2 Z (Qh a (Gx 1 Z (JB f a Z (Lr []))))
  refine Gc 6 Z (Bd a λi m a=>Iz m Z (Go 9 Z (Cz [] a (k_ht _ _) Z λH E a=>Go 5 Z (Bd a λg d a=>Cg g [0] [1,5,8,10,11,12] (λg=>[(26,.bool g)]) Ze Zf ?_ ?_))))
  .refine G0 2 Z (Cz [] d (k_k _ _) Z λJ F d=>Go 2 Z (Is 22 d Z (λp d=>?_) (λp d=>?_)))
   .exact Gl 5 Z d [0]
   .refine Go 2 Z (Bd d λz q d=>?_);refine vX (.bool z) (YM (ev:=A.bool) (z0:=false) (k:=i.Name) (l:=e.1) QcT q ES ET ZR.bool) ?_ (gT Z);exact Gl 2 Z d [0]
  refine Cn Z a (λs a=>?_) (λs a=>?_)
  .refine Gc 9 Z (Qw a ?_);obtain rfl:=Oj f a;exact Gx 1 Z (Qq (Gx 1 Z (Rt h 4 [])))
  refine Gc 5 Z (Bd a λL t a=>?_);refine vU (YW (ev:=A.bool) (k:=i.Name) (v:=true) (l:=e.1) QcT t Z ES) ?_;exact Fg 7 Z Z (Qf a (Lr [0]))
 subst y;exact QG 6 Z h 4 []
def F_fi(n:Nat)(a:Offence):Option Unit:=some ()
theorem k_fi(n:Nat)(a:Offence):Ks (F_fi n a) 88 [.agg (Offence.c a)] [] (λ_=>.str a.Name):=by
 exact Kg 14 func88 Z Z Z Z λr h=>Rt h 2 []
def F_mt(n:Nat)(e:List Offence)(a:(List (List UInt8×Bool))×Int):Option (Ctl ((List (List UInt8×Bool))×Int) (Ctl Unit Bool)):=(bif decide (a.2<(e.length:Int))then(idx e a.2).bind λd=>(F_fi n d).bind λj=>((F_k n d.Name).bind λf=>(bif (!f)then some true else(some (Qy a.1 d.Name false)).bind λg=>some g):Option Bool).bind λh=>(bif h then some (.done (.done false))else(some (Yk a.1 d.Name true)).bind λi=>some (.cont (i,i64.wrap (a.2+1))))else some (.done (.cont ())))
def F_hu(n:Nat)(e:List Offence):Option Bool:=(iter (F_mt n e) n ([],0):Option (Ctl Unit Bool)).bind λd=>match d with|.cont a=>(some true)|.done a=>some a
theorem k_hu(n:Nat)(u:List Offence):Ks (F_hu n u) 87 [.rsl 4 (map Offence.c u),.fn (.func 88) [] []] [] (λr=>.bool r):=by
 refine Kg 7 func87 Z Z Z Z λr h=>vH Yt ?_;refine Fg 7 Z Z (Lg 3 Z Z (Bd h λw x h=>CgE (b:=w) [] [] Ze Ze Zf ?_ (λB y=>?_)))
 .refine G0 1 Z (Lp [0] [1,5,10,11] (λe=>[(12,I e.2)]) (λe=>[(0,.map (Qx A.str A.bool e.1))]) x Zf (Lr [0]) λe G a f=>?_);refine G0 6 Z (Yd Z a (λj a=>?_) (λj a=>?_))
  .exact Gc 2 Z (Qh a (Gx 1 Z (JB f a Z (Lr []))))
  refine Gc 6 Z (Bd a λi m a=>Iz m Z (Go 9 Z (Cz [] a (k_fi _ _) Z λH E a=>Go 5 Z (Bd a λg d a=>Cg g [0] [1,5,8,10,11,12] (λg=>[(26,.bool g)]) Ze Zf ?_ ?_))))
  .refine G0 2 Z (Cz [] d (k_k _ _) Z λJ F d=>Go 2 Z (Is 22 d Z (λp d=>?_) (λp d=>?_)))
   .exact Gl 5 Z d [0]
   .refine Go 2 Z (Bd d λz q d=>?_);refine vX (.bool z) (YM (ev:=A.bool) (z0:=false) (k:=i.Name) (l:=e.1) QcT q ES ET ZR.bool) ?_ (gT Z);exact Gl 2 Z d [0]
  refine Cn Z a (λs a=>?_) (λs a=>?_)
  .refine Gc 9 Z (Qw a ?_);obtain rfl:=Oj f a;exact Gx 1 Z (Qq (Gx 1 Z (Rt h 4 [])))
  refine Gc 5 Z (Bd a λL t a=>?_);refine vU (YW (ev:=A.bool) (k:=i.Name) (v:=true) (l:=e.1) QcT t Z ES) ?_;exact Fg 7 Z Z (Qf a (Lr [0]))
 subst y;exact QG 6 Z h 4 []
def F_eo(n:Nat)(a:Category):Option Unit:=some ()
theorem k_eo(n:Nat)(a:Category):Ks (F_eo n a) 90 [.agg (Category.c a)] [] (λ_=>.str a.Name):=by
 exact Kg 14 func90 Z Z Z Z λr h=>Rt h 2 []
def F_nb(n:Nat)(e:List Category)(a:(List (List UInt8×Bool))×Int):Option (Ctl ((List (List UInt8×Bool))×Int) (Ctl Unit Bool)):=(bif decide (a.2<(e.length:Int))then(idx e a.2).bind λd=>(F_eo n d).bind λj=>((F_k n d.Name).bind λf=>(bif (!f)then some true else(some (Qy a.1 d.Name false)).bind λg=>some g):Option Bool).bind λh=>(bif h then some (.done (.done false))else(some (Yk a.1 d.Name true)).bind λi=>some (.cont (i,i64.wrap (a.2+1))))else some (.done (.cont ())))
def F_fq(n:Nat)(e:List Category):Option Bool:=(iter (F_nb n e) n ([],0):Option (Ctl Unit Bool)).bind λd=>match d with|.cont a=>(some true)|.done a=>some a
theorem k_fq(n:Nat)(u:List Category):Ks (F_fq n u) 89 [.rsl 3 (map Category.c u),.fn (.func 90) [] []] [] (λr=>.bool r):=by
 refine Kg 7 func89 Z Z Z Z λr h=>vH Yt ?_;refine Fg 7 Z Z (Lg 3 Z Z (Bd h λw x h=>CgE (b:=w) [] [] Ze Ze Zf ?_ (λB y=>?_)))
 .refine G0 1 Z (Lp [0] [1,5,10,11] (λe=>[(12,I e.2)]) (λe=>[(0,.map (Qx A.str A.bool e.1))]) x Zf (Lr [0]) λe G a f=>?_);refine G0 6 Z (Yd Z a (λj a=>?_) (λj a=>?_))
  .exact Gc 2 Z (Qh a (Gx 1 Z (JB f a Z (Lr []))))
  refine Gc 6 Z (Bd a λi m a=>Iz m Z (Go 9 Z (Cz [] a (k_eo _ _) Z λH E a=>Go 5 Z (Bd a λg d a=>Cg g [0] [1,5,8,10,11,12] (λg=>[(26,.bool g)]) Ze Zf ?_ ?_))))
  .refine G0 2 Z (Cz [] d (k_k _ _) Z λJ F d=>Go 2 Z (Is 22 d Z (λp d=>?_) (λp d=>?_)))
   .exact Gl 5 Z d [0]
   .refine Go 2 Z (Bd d λz q d=>?_);refine vX (.bool z) (YM (ev:=A.bool) (z0:=false) (k:=i.Name) (l:=e.1) QcT q ES ET ZR.bool) ?_ (gT Z);exact Gl 2 Z d [0]
  refine Cn Z a (λs a=>?_) (λs a=>?_)
  .refine Gc 9 Z (Qw a ?_);obtain rfl:=Oj f a;exact Gx 1 Z (Qq (Gx 1 Z (Rt h 4 [])))
  refine Gc 5 Z (Bd a λL t a=>?_);refine vU (YW (ev:=A.bool) (k:=i.Name) (v:=true) (l:=e.1) QcT t Z ES) ?_;exact Fg 7 Z Z (Qf a (Lr [0]))
 subst y;exact QG 6 Z h 4 []
def F_hm(n:Nat)(a:Course):Option Bool:=((F_k n a.Name).bind λd=>(bif d then(F_fd n a.Mats).bind λe=>(bif e then(F_hz n a.Distances).bind λf=>(bif f then(F_es n a.Waves).bind λg=>(bif g then(F_hu n a.Offences).bind λh=>(bif h then(F_fq n a.Categories).bind λi=>some i else some false)else some false)else some false)else some false)else some false):Option Bool).bind λj=>some j
theorem k_hm(n:Nat)(k:Course):Ks (F_hm n k) 50 [.agg (Course.c k)] [] (λr=>.bool r):=by
 refine Kg 7 func50 Z Z Z Z λr h=>Bd h λd a h=>Cg d [] [] (λd=>[(2,.bool d)]) Ze Zf ?_ ?_
 .refine G0 3 Z (Cz [] a (k_k _ _) Z λu l a=>Go 1 Z (Is 6 a Z (λe a=>?_) (λe a=>?_)))
  .refine Go 2 Z (Cz [] a (k_fd _ _) Z λw m a=>Go 2 Z (Is 11 a Z (λf a=>?_) (λf a=>?_)))
   .refine Go 2 Z (Cz [] a (k_hz _ _) Z λx p a=>Go 2 Z (Is 16 a Z (λg a=>?_) (λg a=>?_)))
    .refine Go 2 Z (Cz [] a (k_es _ _) Z λy q a=>Go 2 Z (Is 21 a Z (λi a=>?_) (λi a=>?_)))
     .refine Go 2 Z (Cz [] a (k_hu _ _) Z λz s a=>Go 2 Z (Is 26 a Z (λj a=>?_) (λj a=>?_)))
      .exact Go 2 Z (Cz [] a (k_fq _ _) Z λB t a=>Gl 3 Z a [])
      .exact Gl 6 Z a []
     .exact Gl 11 Z a []
    .exact Gl 16 Z a []
   .exact Gl 21 Z a []
  .exact Gl 26 Z a []
 exact QG 1 Z h 2 []
def F_gn(n:Nat)(a:Int)(d:Int)(e:Int):Option Bool:=((bif decide (a<d)then some true else some (decide (e<a))):Option Bool).bind λb2=>some b2
theorem k_gn(n:Nat)(d:Int)(e:Int)(f:Int):Ks (F_gn n d e f) 158 [I d,.ptr 0 0,.ptr 1 0] [.cells 3 [I e],.cells 3 [I f]] (λr=>.bool r):=by
 refine Kg 6 func158 Z Z Z Z λr h=>Bd h λb2 a h=>Cg b2 [0,1] [] (λb2=>[(4,.bool b2)]) Ze Zf ?_ ?_
 .refine G0 5 Z (Is 8 a Z (λg a=>?_) (λg a=>?_))
  iterate 2 exact Gl 6 Z a [0,1]
 exact QG 1 Z h 4 [0,1]
def F_mf(n:Nat)(d:List Int)(g:Int)(h:Int)(a:Int):Option (Ctl Int (Ctl Unit Int)):=(bif decide (a<(d.length:Int))then(idx d a).bind λe=>(F_gn n e g h).bind λf=>(bif f then some (.done (.done a))else some (.cont (i64.wrap (a+1))))else some (.done (.cont ())))
def F_jl(n:Nat)(e:List Int)(f:Int)(g:Int):Option Int:=(iter (F_mf n e f g) n 0:Option (Ctl Unit Int)).bind λd=>match d with|.cont a=>(some (-1))|.done a=>some a
theorem k_jl(n:Nat)(j:List Int)(k:Int)(l:Int):Ks (F_jl n j k l) 215 [.rsl 1 (map (Qe .i64) j),.fn (.func 158) [] [.ptr 0 0,.ptr 1 0]] [.cells 3 [I k],.cells 3 [I l]] (λr=>I r):=by
 refine Kg 9 func215 Z Z Z Z λr h=>Lg 3 Z Z (Bd h λm p h=>CgE (b:=m) [0,1] [] Ze Ze Zf ?_ (λs q=>?_))
 .refine G0 1 Z (Lp [0,1] [0,1,7] (λe=>[(8,I e)]) Ze p Zf (Lr [0,1]) λe u a d=>?_);refine G0 6 Z (Yd Z a (λf a=>?_) (λf a=>?_))
  .exact Gc 2 Z (Qh a (Gx 1 Z (JB d a Z (Lr [0,1]))))
  refine Gc 15 Z (Bd a λw g a=>Iz g Z (Go 1 Z (Cz [0,1] a (k_gn _ _ _ _) Z λx t a=>Go 2 Z (Cn Z a (λi a=>?_) (λi a=>?_)))))
  .refine Gc 9 Z (Qw a ?_);obtain rfl:=Oj d a;exact Gx 1 Z (Qq (Gx 1 Z (Rt h 4 [0,1])))
  exact Gc 7 Z (Qf a (Lr [0,1]))
 subst q;exact QG 6 Z h 4 [0,1]
def F_ei(n:Nat)(a:List Int)(d:Int)(e:Int):Option Bool:=(F_jl n a d e).bind λf=>some (decide (0<=f))
theorem k_ei(n:Nat)(a:List Int)(d:Int)(e:Int):Ks (F_ei n a d e) 157 [.rsl 1 (map (Qe .i64) a),.fn (.func 158) [] [.ptr 0 0,.ptr 1 0]] [.cells 3 [I d],.cells 3 [I e]] (λr=>.bool r):=by
 exact Kg 9 func157 Z Z Z Z λr h=>Cz [0,1] h (k_jl _ _ _ _) Z λg f h=>Gt 5 Z h 4 [0,1]
def F_a(n:Nat)(a:Int)(d:Int)(e:List Int):Option Bool:=(F_ei n e a d).bind λf=>some (!f)
theorem k_a(n:Nat)(a:Int)(d:Int)(e:List Int):Ks (F_a n a d e) 92 [I a,I d,.rsl 1 (map (Qe .i64) e)] [] (λr=>.bool r):=by
 exact Kg 11 func92 Z Z Z Z λr h=>Cz [0,1] h (k_ei _ _ _ _) Z λg f h=>Gt 5 Z h 6 []
def F_dj(n:Nat)(a:Mat):Option Bool:=(F_a n 1 3 [a.Kind]).bind λd=>some d
theorem k_dj(n:Nat)(a:Mat):Ks (F_dj n a) 101 [.agg (Mat.c a)] [] (λr=>.bool r):=by
 refine Kg 10 func101 Z Z Z Z λr h=>vH (Ej (xs:=[.tmp 4]) (es:=map (Qe .i64) [a.Kind]) Qv Z Z Z Z Z ⟨Z,trivial⟩ Z Z) ?_;exact FE Z (Cb h (k_a _ _ _ _) Z (ls (ls (lo ln))) λe d h=>Gt 4 Z h 2 [])
def F_ii(n:Nat)(a:Mat):Option Bool:=(F_dj n a).bind λd=>some (!d)
theorem k_ii(n:Nat)(a:Mat):Ks (F_ii n a) 164 [.agg (Mat.c a),.ptr 0 0] [.cells 175 [.fn (.func 101) [] []]] (λr=>.bool r):=by
 exact Kg 10 func164 Z Z Z Z λr h=>Cz [] h (k_dj _ _) Z λe d h=>Gt 5 Z h 3 [0]
def F_mp(n:Nat)(d:List Mat)(a:Int):Option (Ctl Int (Ctl Unit Int)):=(bif decide (a<(d.length:Int))then(idx d a).bind λe=>(F_ii n e).bind λf=>(bif f then some (.done (.done a))else some (.cont (i64.wrap (a+1))))else some (.done (.cont ())))
def F_gq(n:Nat)(e:List Mat):Option Int:=(iter (F_mp n e) n 0:Option (Ctl Unit Int)).bind λd=>match d with|.cont a=>(some (-1))|.done a=>some a
theorem k_gq(n:Nat)(j:List Mat):Ks (F_gq n j) 218 [.rsl 2 (map Mat.c j),.fn (.func 164) [] [.ptr 0 0]] [.cells 175 [.fn (.func 101) [] []]] (λr=>I r):=by
 refine Kg 9 func218 Z Z Z Z λr h=>Lg 3 Z Z (Bd h λk l h=>CgE (b:=k) [0] [] Ze Ze Zf ?_ (λp m=>?_))
 .refine G0 1 Z (Lp [0] [0,1,7] (λe=>[(8,I e)]) Ze l Zf (Lr [0]) λe s a d=>?_);refine G0 6 Z (Yd Z a (λf a=>?_) (λf a=>?_))
  .exact Gc 2 Z (Qh a (Gx 1 Z (JB d a Z (Lr [0]))))
  refine Gc 15 Z (Bd a λt g a=>Iz g Z (Go 1 Z (Cz [0] a (k_ii _ _) Z λu q a=>Go 2 Z (Cn Z a (λi a=>?_) (λi a=>?_)))))
  .refine Gc 9 Z (Qw a ?_);obtain rfl:=Oj d a;exact Gx 1 Z (Qq (Gx 1 Z (Rt h 4 [0])))
  exact Gc 7 Z (Qf a (Lr [0]))
 subst m;exact QG 6 Z h 4 [0]
def F_fp(n:Nat)(a:List Mat):Option Bool:=(F_gq n a).bind λd=>some (decide (0<=d))
theorem k_fp(n:Nat)(a:List Mat):Ks (F_fp n a) 163 [.rsl 2 (map Mat.c a),.fn (.func 164) [] [.ptr 0 0]] [.cells 175 [.fn (.func 101) [] []]] (λr=>.bool r):=by
 exact Kg 9 func163 Z Z Z Z λr h=>Cz [0] h (k_gq _ _) Z λe d h=>Gt 5 Z h 4 [0]
def F_dh(n:Nat)(a:List Mat):Option Bool:=(F_fp n a).bind λd=>some (!d)
theorem k_dh(n:Nat)(a:List Mat):Ks (F_dh n a) 100 [.rsl 2 (map Mat.c a),.fn (.func 101) [] []] [] (λr=>.bool r):=by
 exact Kg 10 func100 Z Z Z Z λr h=>Cz [0] h (k_fp _ _) Z λe d h=>Gt 5 Z h 4 []
def F_dv(n:Nat)(a:Leg)(d:Int):Option Bool:=((F_a n 0 d [a.From,a.To]).bind λe=>(bif e then(F_a n 0 68719476736 [a.Min,a.Max]).bind λf=>(bif f then some (decide (a.Min<=a.Max))else some false)else some false):Option Bool).bind λg=>some g
theorem k_dv(n:Nat)(d:Leg)(g:Int):Ks (F_dv n d g) 97 [.agg (Leg.c d),.ptr 0 0] [.cells 3 [I g]] (λr=>.bool r):=by
 refine Kg 7 func97 Z Z Z Z λr h=>Bd h λe a h=>Cg e [0] [] (λe=>[(3,.bool e)]) Ze Zf ?_ ?_
 .refine G0 6 Z (vH (Ej (xs:=[.tmp 6,.tmp 8]) (es:=map (Qe .i64) [d.From,d.To]) Qv Z Z Z Z Z ⟨Z,Z,trivial⟩ Z Z) ?_);refine FE Z (Cb a (k_a _ _ _ _) Z (ls (ls (lo ln))) λl j a=>Go 1 Z (Is 11 a Z (λi a=>?_) (λi a=>?_)))
  .refine Go 4 Z (vH (Ej (xs:=[.tmp 13,.tmp 15]) (es:=map (Qe .i64) [d.Min,d.Max]) Qv Z Z Z Z Z ⟨Z,Z,trivial⟩ Z Z) ?_ (gT Z));refine FE Z (Cb a (k_a _ _ _ _) Z (ls (ls (lo ln))) λm k a=>Go 2 Z (Is 19 a Z (λf a=>?_) (λf a=>?_)))
   iterate 2 exact Gl 8 Z a [0]
  .exact Gl 16 Z a [0]
 exact QG 1 Z h 3 [0]
def F_ix(n:Nat)(a:Leg)(d:Int):Option Bool:=(F_dv n a d).bind λe=>some (!e)
theorem k_ix(n:Nat)(a:Leg)(d:Int):Ks (F_ix n a d) 166 [.agg (Leg.c a),.ptr 0 0] [.cells 169 [.fn (.func 97) [] [.ptr 1 0]],.cells 3 [I d]] (λr=>.bool r):=by
 exact Kg 10 func166 Z Z Z Z λr h=>Cz [1] h (k_dv _ _ _) Z λf e h=>Gt 5 Z h 3 [0,1]
def F_mg(n:Nat)(d:List Leg)(g:Int)(a:Int):Option (Ctl Int (Ctl Unit Int)):=(bif decide (a<(d.length:Int))then(idx d a).bind λe=>(F_ix n e g).bind λf=>(bif f then some (.done (.done a))else some (.cont (i64.wrap (a+1))))else some (.done (.cont ())))
def F_ia(n:Nat)(e:List Leg)(f:Int):Option Int:=(iter (F_mg n e f) n 0:Option (Ctl Unit Int)).bind λd=>match d with|.cont a=>(some (-1))|.done a=>some a
theorem k_ia(n:Nat)(j:List Leg)(k:Int):Ks (F_ia n j k) 219 [.rsl 4 (map Leg.c j),.fn (.func 166) [] [.ptr 0 0]] [.cells 169 [.fn (.func 97) [] [.ptr 1 0]],.cells 3 [I k]] (λr=>I r):=by
 refine Kg 9 func219 Z Z Z Z λr h=>Lg 3 Z Z (Bd h λl m h=>CgE (b:=l) [0,1] [] Ze Ze Zf ?_ (λq p=>?_))
 .refine G0 1 Z (Lp [0,1] [0,1,7] (λe=>[(8,I e)]) Ze m Zf (Lr [0,1]) λe t a d=>?_);refine G0 6 Z (Yd Z a (λf a=>?_) (λf a=>?_))
  .exact Gc 2 Z (Qh a (Gx 1 Z (JB d a Z (Lr [0,1]))))
  refine Gc 15 Z (Bd a λu g a=>Iz g Z (Go 1 Z (Cz [0,1] a (k_ix _ _ _) Z λw s a=>Go 2 Z (Cn Z a (λi a=>?_) (λi a=>?_)))))
  .refine Gc 9 Z (Qw a ?_);obtain rfl:=Oj d a;exact Gx 1 Z (Qq (Gx 1 Z (Rt h 4 [0,1])))
  exact Gc 7 Z (Qf a (Lr [0,1]))
 subst p;exact QG 6 Z h 4 [0,1]
def F_gj(n:Nat)(a:List Leg)(d:Int):Option Bool:=(F_ia n a d).bind λe=>some (decide (0<=e))
theorem k_gj(n:Nat)(a:List Leg)(d:Int):Ks (F_gj n a d) 165 [.rsl 4 (map Leg.c a),.fn (.func 166) [] [.ptr 0 0]] [.cells 169 [.fn (.func 97) [] [.ptr 1 0]],.cells 3 [I d]] (λr=>.bool r):=by
 exact Kg 9 func165 Z Z Z Z λr h=>Cz [0,1] h (k_ia _ _ _) Z λf e h=>Gt 5 Z h 4 [0,1]
def F_ed(n:Nat)(a:List Leg)(d:Int):Option Bool:=(F_gj n a d).bind λe=>some (!e)
theorem k_ed(n:Nat)(a:List Leg)(d:Int):Ks (F_ed n a d) 102 [.rsl 4 (map Leg.c a),.fn (.func 97) [] [.ptr 0 0]] [.cells 3 [I d]] (λr=>.bool r):=by
 exact Kg 10 func102 Z Z Z Z λr h=>Cz [1,0] h (k_gj _ _ _) Z λf e h=>Gt 5 Z h 4 [0]
def F_ft(n:Nat)(a:Leg):Option Unit:=some ()
theorem k_ft(n:Nat)(a:Leg):Kq (F_ft n a) 104 [.agg (Leg.c a)] [] (λ_=>.agg [I a.From,I a.To]) (λ_=>[.cells 125 [I a.From,I a.To]]):=by
 refine Kg 17 func104 Z Z Z Z λr h=>?_;obtain rfl:=Oi h;exact Rx [1] [2] Z (Je Z (QE isAgg125 sizeOf125 Z Z Z)) ⟨Z,Z⟩
def F_ky(n:Nat)(e:List Leg)(a:(List (Ue×Bool))×Int):Option (Ctl ((List (Ue×Bool))×Int) (List (Ue×Bool))):=(bif decide (a.2<(e.length:Int))then(idx e a.2).bind λd=>(F_ft n d).bind λg=>(some (Yk a.1 ({from_:=d.From,to_:=d.To:Ue}) true)).bind λf=>some (.cont (f,i64.wrap (a.2+1)))else some (.done a.1))
def F_fk(n:Nat)(a:List Leg):Option Bool:=(iter (F_ky n a) n ([],0):Option (List (Ue×Bool))).bind λd=>some ((d.length:Int)==(a.length:Int))
theorem k_fk(n:Nat)(p:List Leg):Ks (F_fk n p) 103 [.rsl 4 (map Leg.c p),.fn (.func 104) [] []] [] (λr=>.bool r):=by
 refine Kg 7 func103 Z Z Z Z λr h=>vH Yt ?_;refine Fg 7 Z Z (Lg 3 Z Z (Bd h λd q h=>Cg d [0] [0,5] Ze (λd=>[(0,.map (Qx (λx=>A.agg (Ue.c x)) A.bool d))]) Zf ?_ ?_))
 .refine G0 1 Z (Lp [0] [0,1,5,9,10] (λe=>[(11,I e.2)]) (λe=>[(0,.map (Qx (λx=>A.agg (Ue.c x)) A.bool e.1))]) q Zf (Lr [0]) λe t a g=>?_);refine G0 6 Z (Yd Z a (λi a=>?_) (λi a=>?_))
  .exact Gc 2 Z (Qh a (Gx 1 Z (cQo g a (Lr [0]))))
  refine Gc 6 Z (Bd a λf j a=>Iz j Z (Go 9 Z (Cd [] a (k_ft _ _) Z λu s a=>FE Z (Bd a λw m a=>?_))));refine vU (YW (ev:=A.bool) (k:=({from_:=f.From,to_:=f.To:Ue})) (v:=true) (l:=e.1) Qft m Z Gn) ?_;exact Fg 7 Z Z (Qf a (Lr [0]))
 refine Gc 3 Z ?_;refine vX (I (d.length:Int)) (Qdm (l:=d) Gn Z) ?_;exact Go 1 Z (Lm Z (Gt 5 Z h 4 []))
def F_du(rec45:(List Part)->Int->Option Bool)(n:Nat)(a:Part)(d:Int):Option Bool:=(bif (a.Laps==0)then((F_a n 0 d [a.Mat]).bind λh=>(bif h then some ((a.Parts.length:Int)==0)else some false):Option Bool).bind λi=>some i else((F_a n 1 64 [a.Laps]).bind λe=>(bif e then(bif (a.Mat==0)then(bif decide (0<(a.Parts.length:Int))then(rec45 a.Parts d).bind λf=>some f else some false)else some false)else some false):Option Bool).bind λg=>some g)
theorem k_du(rec45:(List Part)->Int->Option Bool)(f:∀(d:List Part) (g:Int) (r:Bool),rec45 d g=some r->Csm prog 93 [.rsl 3 (map Part.enc d),.fn (.func 91) [] [.ptr 0 0,.ptr 1 0]] [.cells 3 [I g],.cells 162 [.fn (.func 91) [] [.ptr 0 0,.ptr 1 0]]] (λr=>.bool r) r)(n:Nat)(d:Part)(g:Int):Ks (F_du rec45 n d g) 91 [.agg (Part.c d),.ptr 0 0,.ptr 1 0] [.cells 3 [I g],.cells 162 [.fn (.func 91) [] [.ptr 0 0,.ptr 1 0]]] (λr=>.bool r):=by
 refine Kg 14 func91 Z Z Z Z λr h=>Cn Z h (λp h=>?_) (λp h=>?_)
 .refine Gc 1 Z (Bd h λj e h=>Ct j [0,1] [] (λj=>[(4,.bool j)]) Ze Zf ?_ (λenv H q=>?_))
  .refine G0 4 Z (vH (Ej (xs:=[.tmp 10]) (es:=map (Qe .i64) [d.Mat]) Qv Z Z Z Z Z ⟨Z,trivial⟩ Z Z) ?_);refine FE Z (Cb e (k_a _ _ _ _) Z (ls (ls (lo ln))) λz w e=>Go 1 Z (Is 13 e Z (λs e=>?_) (λs e=>?_)))
   .exact Go 2 Z (Lm Z (Gl 4 Z e [0,1]))
   .exact Gl 7 Z e [0,1]
  exact Gx 1 Z (Qd q (QG 2 Z h 4 [0,1]))
 refine Gc 3 Z (Bd h λi a h=>Cg i [0,1] [] (λi=>[(4,.bool i)]) Ze Zf ?_ ?_)
 .refine G0 3 Z (vH (Ej (xs:=[.tmp 20]) (es:=map (Qe .i64) [d.Laps]) Qv Z Z Z Z Z ⟨Z,trivial⟩ Z Z) ?_);refine FE Z (Cb a (k_a _ _ _ _) Z (ls (ls (lo ln))) λx t a=>Go 1 Z (Is 23 a Z (λk a=>?_) (λk a=>?_)))
  .refine Go 5 Z (Is 28 a Z (λl a=>?_) (λl a=>?_))
   .refine Go 2 Z (Lg 3 Z Z (Is 34 a Z (λm a=>?_) (λm a=>?_)))
    .exact Go 3 Z (Cz [0,1] a (f _ _) Z λy u a=>Gl 3 Z a [0,1])
    .exact Gl 7 Z a [0,1]
   .exact Gl 13 Z a [0,1]
  .exact Gl 18 Z a [0,1]
 exact QG 1 Z h 4 [0,1]
def F_if(rec45:(List Part)->Int->Option Bool)(n:Nat)(a:Part)(d:Int):Option Bool:=(F_du rec45 n a d).bind λe=>some (!e)
theorem k_if(rec45:(List Part)->Int->Option Bool)(a:∀(d:List Part) (e:Int) (r:Bool),rec45 d e=some r->Csm prog 93 [.rsl 3 (map Part.enc d),.fn (.func 91) [] [.ptr 0 0,.ptr 1 0]] [.cells 3 [I e],.cells 162 [.fn (.func 91) [] [.ptr 0 0,.ptr 1 0]]] (λr=>.bool r) r)(n:Nat)(d:Part)(e:Int):Ks (F_if rec45 n d e) 160 [.agg (Part.c d),.ptr 0 0] [.cells 162 [.fn (.func 91) [] [.ptr 1 0,.ptr 2 0]],.cells 3 [I e],.cells 162 [.fn (.func 91) [] [.ptr 1 0,.ptr 2 0]]] (λr=>.bool r):=by
 exact Kg 10 func160 Z Z Z Z λr h=>Cz [1,2] h (k_du rec45 a _ _ _) Z λg f h=>Gt 5 Z h 3 [0,1,2]
def F_mo(n:Nat)(d:List Part)(g:Int)(rec45:(List Part)->Int->Option Bool)(a:Int):Option (Ctl Int (Ctl Unit Int)):=(bif decide (a<(d.length:Int))then(idx d a).bind λe=>(F_if rec45 n e g).bind λf=>(bif f then some (.done (.done a))else some (.cont (i64.wrap (a+1))))else some (.done (.cont ())))
def F_ih(rec45:(List Part)->Int->Option Bool)(n:Nat)(e:List Part)(f:Int):Option Int:=(iter (F_mo n e f rec45) n 0:Option (Ctl Unit Int)).bind λd=>match d with|.cont a=>(some (-1))|.done a=>some a
theorem k_ih(rec45:(List Part)->Int->Option Bool)(d:∀(e:List Part) (f:Int) (r:Bool),rec45 e f=some r->Csm prog 93 [.rsl 3 (map Part.enc e),.fn (.func 91) [] [.ptr 0 0,.ptr 1 0]] [.cells 3 [I f],.cells 162 [.fn (.func 91) [] [.ptr 0 0,.ptr 1 0]]] (λr=>.bool r) r)(n:Nat)(e:List Part)(f:Int):Ks (F_ih rec45 n e f) 216 [.rsl 3 (map Part.enc e),.fn (.func 160) [] [.ptr 0 0]] [.cells 162 [.fn (.func 91) [] [.ptr 1 0,.ptr 2 0]],.cells 3 [I f],.cells 162 [.fn (.func 91) [] [.ptr 1 0,.ptr 2 0]]] (λr=>I r):=by
 refine Kg 9 func216 Z Z Z Z λr h=>Lg 3 Z Z (Bd h λm p h=>CgE (b:=m) [0,1,2] [] Ze Ze Zf ?_ (λt q=>?_))
 .refine G0 1 Z (Lp [0,1,2] [0,1,7] (λi=>[(8,I i)]) Ze p Zf (Lr [0,1,2]) λi w a g=>?_);refine G0 6 Z (Yd Z a (λj a=>?_) (λj a=>?_))
  .exact Gc 2 Z (Qh a (Gx 1 Z (JB g a Z (Lr [0,1,2]))))
  refine Gc 15 Z (Bd a λs k a=>IzE k (Yb s) Z (Go 1 Z (Cz [0,1,2] a (k_if rec45 d _ _ _) Z λx u a=>Go 2 Z (Cn Z a (λl a=>?_) (λl a=>?_)))))
  .refine Gc 9 Z (Qw a ?_);obtain rfl:=Oj g a;exact Gx 1 Z (Qq (Gx 1 Z (Rt h 4 [0,1,2])))
  exact Gc 7 Z (Qf a (Lr [0,1,2]))
 subst q;exact QG 6 Z h 4 [0,1,2]
def F_je(rec45:(List Part)->Int->Option Bool)(n:Nat)(a:List Part)(d:Int):Option Bool:=(F_ih rec45 n a d).bind λe=>some (decide (0<=e))
theorem k_je(rec45:(List Part)->Int->Option Bool)(a:∀(d:List Part) (e:Int) (r:Bool),rec45 d e=some r->Csm prog 93 [.rsl 3 (map Part.enc d),.fn (.func 91) [] [.ptr 0 0,.ptr 1 0]] [.cells 3 [I e],.cells 162 [.fn (.func 91) [] [.ptr 0 0,.ptr 1 0]]] (λr=>.bool r) r)(n:Nat)(d:List Part)(e:Int):Ks (F_je rec45 n d e) 159 [.rsl 3 (map Part.enc d),.fn (.func 160) [] [.ptr 0 0]] [.cells 162 [.fn (.func 91) [] [.ptr 1 0,.ptr 2 0]],.cells 3 [I e],.cells 162 [.fn (.func 91) [] [.ptr 1 0,.ptr 2 0]]] (λr=>.bool r):=by
 exact Kg 9 func159 Z Z Z Z λr h=>Cz [0,1,2] h (k_ih rec45 a _ _ _) Z λg f h=>Gt 5 Z h 4 [0,1,2]
def B_at(rec45:(List Part)->Int->Option Bool)(n:Nat)(a:List Part)(d:Int):Option Bool:=(F_je rec45 n a d).bind λe=>some (!e)
theorem Qc7(rec45:(List Part)->Int->Option Bool)(a:∀(d:List Part) (e:Int) (r:Bool),rec45 d e=some r->Csm prog 93 [.rsl 3 (map Part.enc d),.fn (.func 91) [] [.ptr 0 0,.ptr 1 0]] [.cells 3 [I e],.cells 162 [.fn (.func 91) [] [.ptr 0 0,.ptr 1 0]]] (λr=>.bool r) r)(n:Nat)(d:List Part)(e:Int)(r:Bool)(h:B_at rec45 n d e=some r):Csm prog 93 [.rsl 3 (map Part.enc d),.fn (.func 91) [] [.ptr 0 0,.ptr 1 0]] [.cells 3 [I e],.cells 162 [.fn (.func 91) [] [.ptr 0 0,.ptr 1 0]]] (λr=>.bool r) r:=by
 refine QF func93 Z Z Z ?_;exact G0 10 Z (Cz [2,0,1] h (k_je rec45 a _ _ _) Z λg f h=>Gt 5 Z h 4 [0,1])
def F_at:Nat->(List Part)->Int->Option Bool
  |0=>λ_ _=>none
  |n+1=>B_at (F_at n) n
theorem k_at(n:Nat):∀(a:List Part) (d:Int) (r:Bool),F_at n a d=some r->Csm prog 93 [.rsl 3 (map Part.enc a),.fn (.func 91) [] [.ptr 0 0,.ptr 1 0]] [.cells 3 [I d],.cells 162 [.fn (.func 91) [] [.ptr 0 0,.ptr 1 0]]] (λr=>.bool r) r:=by
  induction n with
  |zero=>intro a d r h;cases h
  |succ n ih=>intro a d r h;exact Qc7 _ ih n a d r h
def F_ef(n:Nat)(a:Cutoff)(e:Int):Option Bool:=((F_a n 0 e [a.Mat]).bind λf=>(bif f then(bif decide (1<=a.Lap)then(F_a n 0 1099511627776 [a.Limit]).bind λd=>some d else some false)else some false):Option Bool).bind λg=>some g
theorem k_ef(n:Nat)(d:Cutoff)(f:Int):Ks (F_ef n d f) 94 [.agg (Cutoff.c d),.ptr 0 0] [.cells 3 [I f]] (λr=>.bool r):=by
 refine Kg 7 func94 Z Z Z Z λr h=>Bd h λe a h=>Cg e [0] [] (λe=>[(3,.bool e)]) Ze Zf ?_ ?_
 .refine G0 4 Z (vH (Ej (xs:=[.tmp 6]) (es:=map (Qe .i64) [d.Mat]) Qv Z Z Z Z Z ⟨Z,trivial⟩ Z Z) ?_);refine FE Z (Cb a (k_a _ _ _ _) Z (ls (ls (lo ln))) λm k a=>Go 1 Z (Is 9 a Z (λg a=>?_) (λg a=>?_)))
  .refine Go 5 Z (Is 14 a Z (λi a=>?_) (λi a=>?_))
   .refine Go 2 Z (vH (Ej (xs:=[.tmp 16]) (es:=map (Qe .i64) [d.Limit]) Qv Z Z Z Z Z ⟨Z,trivial⟩ Z Z) ?_ (gT Z));exact FE Z (Cb a (k_a _ _ _ _) Z (ls (ls (lo ln))) λl j a=>Gl 3 Z a [0])
   .exact Gl 7 Z a [0]
  .exact Gl 12 Z a [0]
 exact QG 1 Z h 3 [0]
def F_iw(n:Nat)(a:Cutoff)(d:Int):Option Bool:=(F_ef n a d).bind λe=>some (!e)
theorem k_iw(n:Nat)(a:Cutoff)(d:Int):Ks (F_iw n a d) 162 [.agg (Cutoff.c a),.ptr 0 0] [.cells 167 [.fn (.func 94) [] [.ptr 1 0]],.cells 3 [I d]] (λr=>.bool r):=by
 exact Kg 10 func162 Z Z Z Z λr h=>Cz [1] h (k_ef _ _ _) Z λf e h=>Gt 5 Z h 3 [0,1]
def F_na(n:Nat)(d:List Cutoff)(g:Int)(a:Int):Option (Ctl Int (Ctl Unit Int)):=(bif decide (a<(d.length:Int))then(idx d a).bind λe=>(F_iw n e g).bind λf=>(bif f then some (.done (.done a))else some (.cont (i64.wrap (a+1))))else some (.done (.cont ())))
def F_id(n:Nat)(e:List Cutoff)(f:Int):Option Int:=(iter (F_na n e f) n 0:Option (Ctl Unit Int)).bind λd=>match d with|.cont a=>(some (-1))|.done a=>some a
theorem k_id(n:Nat)(j:List Cutoff)(k:Int):Ks (F_id n j k) 217 [.rsl 3 (map Cutoff.c j),.fn (.func 162) [] [.ptr 0 0]] [.cells 167 [.fn (.func 94) [] [.ptr 1 0]],.cells 3 [I k]] (λr=>I r):=by
 refine Kg 9 func217 Z Z Z Z λr h=>Lg 3 Z Z (Bd h λl m h=>CgE (b:=l) [0,1] [] Ze Ze Zf ?_ (λq p=>?_))
 .refine G0 1 Z (Lp [0,1] [0,1,7] (λe=>[(8,I e)]) Ze m Zf (Lr [0,1]) λe t a d=>?_);refine G0 6 Z (Yd Z a (λf a=>?_) (λf a=>?_))
  .exact Gc 2 Z (Qh a (Gx 1 Z (JB d a Z (Lr [0,1]))))
  refine Gc 15 Z (Bd a λu g a=>Iz g Z (Go 1 Z (Cz [0,1] a (k_iw _ _ _) Z λw s a=>Go 2 Z (Cn Z a (λi a=>?_) (λi a=>?_)))))
  .refine Gc 9 Z (Qw a ?_);obtain rfl:=Oj d a;exact Gx 1 Z (Qq (Gx 1 Z (Rt h 4 [0,1])))
  exact Gc 7 Z (Qf a (Lr [0,1]))
 subst p;exact QG 6 Z h 4 [0,1]
def F_hy(n:Nat)(a:List Cutoff)(d:Int):Option Bool:=(F_id n a d).bind λe=>some (decide (0<=e))
theorem k_hy(n:Nat)(a:List Cutoff)(d:Int):Ks (F_hy n a d) 161 [.rsl 3 (map Cutoff.c a),.fn (.func 162) [] [.ptr 0 0]] [.cells 167 [.fn (.func 94) [] [.ptr 1 0]],.cells 3 [I d]] (λr=>.bool r):=by
 exact Kg 9 func161 Z Z Z Z λr h=>Cz [0,1] h (k_id _ _ _) Z λf e h=>Gt 5 Z h 4 [0,1]
def F_dk(n:Nat)(a:List Cutoff)(d:Int):Option Bool:=(F_hy n a d).bind λe=>some (!e)
theorem k_dk(n:Nat)(a:List Cutoff)(d:Int):Ks (F_dk n a d) 96 [.rsl 3 (map Cutoff.c a),.fn (.func 94) [] [.ptr 0 0]] [.cells 3 [I d]] (λr=>.bool r):=by
 exact Kg 10 func96 Z Z Z Z λr h=>Cz [1,0] h (k_hy _ _ _) Z λf e h=>Gt 5 Z h 4 [0]
def F_cm(n:Nat)(a:Distance)(d:Int):Option Bool:=((F_a n 1 3 [a.Timing]).bind λe=>(bif e then(F_a n (-1) d [a.Extra]).bind λf=>(bif f then(F_at n a.Route d).bind λg=>(bif g then(F_dk n a.Cutoffs d).bind λh=>some h else some false)else some false)else some false):Option Bool).bind λi=>some i
theorem k_cm(n:Nat)(d:Distance)(j:Int):Ks (F_cm n d j) 95 [.agg (Distance.c d),.ptr 0 0,.ptr 1 0,.ptr 2 0] [.cells 3 [I j],.cells 162 [.fn (.func 91) [] [.ptr 0 0,.ptr 1 0]],.cells 167 [.fn (.func 94) [] [.ptr 0 0]]] (λr=>.bool r):=by
 refine Kg 7 func95 Z Z Z Z λr h=>Bd h λe a h=>Cg e [0,1,2] [] (λe=>[(5,.bool e)]) Ze Zf ?_ ?_
 .refine G0 3 Z (vH (Ej (xs:=[.tmp 7]) (es:=map (Qe .i64) [d.Timing]) Qv Z Z Z Z Z ⟨Z,trivial⟩ Z Z) ?_);refine FE Z (Cb a (k_a _ _ _ _) Z (ls (ls (lo ln))) λq k a=>Go 1 Z (Is 10 a Z (λf a=>?_) (λf a=>?_)))
  .refine Go 3 Z (vH (Ej (xs:=[.tmp 13]) (es:=map (Qe .i64) [d.Extra]) Qv Z Z Z Z Z ⟨Z,trivial⟩ Z Z) ?_ (gT Z));refine FE Z (Cb a (k_a _ _ _ _) Z (ls (ls (lo ln))) λs l a=>Go 2 Z (Is 17 a Z (λg a=>?_) (λg a=>?_)))
   .refine Go 3 Z (Cz [0,1] a (k_at _ _ _) Z λt m a=>Go 2 Z (Is 23 a Z (λi a=>?_) (λi a=>?_)))
    .exact Go 3 Z (Cz [0] a (k_dk _ _ _) Z λu p a=>Gl 3 Z a [0,1,2])
    .exact Gl 7 Z a [0,1,2]
   .exact Gl 13 Z a [0,1,2]
  .exact Gl 20 Z a [0,1,2]
 exact QG 1 Z h 5 [0,1,2]
def F_jt(n:Nat)(a:Distance)(d:Int):Option Bool:=(F_cm n a d).bind λe=>some (!e)
theorem k_jt(n:Nat)(a:Distance)(d:Int):Ks (F_jt n a d) 116 [.agg (Distance.c a),.ptr 0 0] [.cells 128 [.fn (.func 95) [] [.ptr 1 0,.ptr 2 0,.ptr 3 0]],.cells 3 [I d],.cells 162 [.fn (.func 91) [] [.ptr 1 0,.ptr 2 0]],.cells 167 [.fn (.func 94) [] [.ptr 1 0]]] (λr=>.bool r):=by
 exact Kg 10 func116 Z Z Z Z λr h=>Cz [1,2,3] h (k_cm _ _ _) Z λf e h=>Gt 5 Z h 3 [0,1,2,3]
def F_my(n:Nat)(d:List Distance)(g:Int)(a:Int):Option (Ctl Int (Ctl Unit Int)):=(bif decide (a<(d.length:Int))then(idx d a).bind λe=>(F_jt n e g).bind λf=>(bif f then some (.done (.done a))else some (.cont (i64.wrap (a+1))))else some (.done (.cont ())))
def F_en(n:Nat)(e:List Distance)(f:Int):Option Int:=(iter (F_my n e f) n 0:Option (Ctl Unit Int)).bind λd=>match d with|.cont a=>(some (-1))|.done a=>some a
theorem k_en(n:Nat)(j:List Distance)(k:Int):Ks (F_en n j k) 178 [.rsl 5 (map Distance.c j),.fn (.func 116) [] [.ptr 0 0]] [.cells 128 [.fn (.func 95) [] [.ptr 1 0,.ptr 2 0,.ptr 3 0]],.cells 3 [I k],.cells 162 [.fn (.func 91) [] [.ptr 1 0,.ptr 2 0]],.cells 167 [.fn (.func 94) [] [.ptr 1 0]]] (λr=>I r):=by
 refine Kg 9 func178 Z Z Z Z λr h=>Lg 3 Z Z (Bd h λl m h=>CgE (b:=l) [0,1,2,3] [] Ze Ze Zf ?_ (λq p=>?_))
 .refine G0 1 Z (Lp [0,1,2,3] [0,1,7] (λe=>[(8,I e)]) Ze m Zf (Lr [0,1,2,3]) λe t a d=>?_);refine G0 6 Z (Yd Z a (λf a=>?_) (λf a=>?_))
  .exact Gc 2 Z (Qh a (Gx 1 Z (JB d a Z (Lr [0,1,2,3]))))
  refine Gc 15 Z (Bd a λu g a=>Iz g Z (Go 1 Z (Cz [0,1,2,3] a (k_jt _ _ _) Z λw s a=>Go 2 Z (Cn Z a (λi a=>?_) (λi a=>?_)))))
  .refine Gc 9 Z (Qw a ?_);obtain rfl:=Oj d a;exact Gx 1 Z (Qq (Gx 1 Z (Rt h 4 [0,1,2,3])))
  exact Gc 7 Z (Qf a (Lr [0,1,2,3]))
 subst p;exact QG 6 Z h 4 [0,1,2,3]
def F_go(n:Nat)(a:List Distance)(d:Int):Option Bool:=(F_en n a d).bind λe=>some (decide (0<=e))
theorem k_go(n:Nat)(a:List Distance)(d:Int):Ks (F_go n a d) 115 [.rsl 5 (map Distance.c a),.fn (.func 116) [] [.ptr 0 0]] [.cells 128 [.fn (.func 95) [] [.ptr 1 0,.ptr 2 0,.ptr 3 0]],.cells 3 [I d],.cells 162 [.fn (.func 91) [] [.ptr 1 0,.ptr 2 0]],.cells 167 [.fn (.func 94) [] [.ptr 1 0]]] (λr=>.bool r):=by
 exact Kg 9 func115 Z Z Z Z λr h=>Cz [0,1,2,3] h (k_en _ _ _) Z λf e h=>Gt 5 Z h 4 [0,1,2,3]
def F_eb(n:Nat)(a:List Distance)(d:Int):Option Bool:=(F_go n a d).bind λe=>some (!e)
theorem k_eb(n:Nat)(a:List Distance)(d:Int):Ks (F_eb n a d) 53 [.rsl 5 (map Distance.c a),.fn (.func 95) [] [.ptr 0 0,.ptr 1 0,.ptr 2 0]] [.cells 3 [I d],.cells 162 [.fn (.func 91) [] [.ptr 0 0,.ptr 1 0]],.cells 167 [.fn (.func 94) [] [.ptr 0 0]]] (λr=>.bool r):=by
 exact Kg 10 func53 Z Z Z Z λr h=>Cz [3,0,1,2] h (k_go _ _ _) Z λf e h=>Gt 5 Z h 4 [0,1,2]
def F_eg(n:Nat)(a:Wave):Option Bool:=(F_a n 0 1099511627776 [a.Gun]).bind λd=>some d
theorem k_eg(n:Nat)(a:Wave):Ks (F_eg n a) 106 [.agg (Wave.c a)] [] (λr=>.bool r):=by
 refine Kg 10 func106 Z Z Z Z λr h=>vH (Ej (xs:=[.tmp 4]) (es:=map (Qe .i64) [a.Gun]) Qv Z Z Z Z Z ⟨Z,trivial⟩ Z Z) ?_;exact FE Z (Cb h (k_a _ _ _ _) Z (ls (ls (lo ln))) λe d h=>Gt 4 Z h 2 [])
def F_it(n:Nat)(a:Wave):Option Bool:=(F_eg n a).bind λd=>some (!d)
theorem k_it(n:Nat)(a:Wave):Ks (F_it n a) 168 [.agg (Wave.c a),.ptr 0 0] [.cells 180 [.fn (.func 106) [] []]] (λr=>.bool r):=by
 exact Kg 10 func168 Z Z Z Z λr h=>Cz [] h (k_eg _ _) Z λe d h=>Gt 5 Z h 3 [0]
def F_ne(n:Nat)(d:List Wave)(a:Int):Option (Ctl Int (Ctl Unit Int)):=(bif decide (a<(d.length:Int))then(idx d a).bind λe=>(F_it n e).bind λf=>(bif f then some (.done (.done a))else some (.cont (i64.wrap (a+1))))else some (.done (.cont ())))
def F_gw(n:Nat)(e:List Wave):Option Int:=(iter (F_ne n e) n 0:Option (Ctl Unit Int)).bind λd=>match d with|.cont a=>(some (-1))|.done a=>some a
theorem k_gw(n:Nat)(j:List Wave):Ks (F_gw n j) 220 [.rsl 2 (map Wave.c j),.fn (.func 168) [] [.ptr 0 0]] [.cells 180 [.fn (.func 106) [] []]] (λr=>I r):=by
 refine Kg 9 func220 Z Z Z Z λr h=>Lg 3 Z Z (Bd h λk l h=>CgE (b:=k) [0] [] Ze Ze Zf ?_ (λp m=>?_))
 .refine G0 1 Z (Lp [0] [0,1,7] (λe=>[(8,I e)]) Ze l Zf (Lr [0]) λe s a d=>?_);refine G0 6 Z (Yd Z a (λf a=>?_) (λf a=>?_))
  .exact Gc 2 Z (Qh a (Gx 1 Z (JB d a Z (Lr [0]))))
  refine Gc 15 Z (Bd a λt g a=>Iz g Z (Go 1 Z (Cz [0] a (k_it _ _) Z λu q a=>Go 2 Z (Cn Z a (λi a=>?_) (λi a=>?_)))))
  .refine Gc 9 Z (Qw a ?_);obtain rfl:=Oj d a;exact Gx 1 Z (Qq (Gx 1 Z (Rt h 4 [0])))
  exact Gc 7 Z (Qf a (Lr [0]))
 subst m;exact QG 6 Z h 4 [0]
def F_hr(n:Nat)(a:List Wave):Option Bool:=(F_gw n a).bind λd=>some (decide (0<=d))
theorem k_hr(n:Nat)(a:List Wave):Ks (F_hr n a) 167 [.rsl 2 (map Wave.c a),.fn (.func 168) [] [.ptr 0 0]] [.cells 180 [.fn (.func 106) [] []]] (λr=>.bool r):=by
 exact Kg 9 func167 Z Z Z Z λr h=>Cz [0] h (k_gw _ _) Z λe d h=>Gt 5 Z h 4 [0]
def F_dx(n:Nat)(a:List Wave):Option Bool:=(F_hr n a).bind λd=>some (!d)
theorem k_dx(n:Nat)(a:List Wave):Ks (F_dx n a) 105 [.rsl 2 (map Wave.c a),.fn (.func 106) [] []] [] (λr=>.bool r):=by
 exact Kg 10 func105 Z Z Z Z λr h=>Cz [0] h (k_hr _ _) Z λe d h=>Gt 5 Z h 4 []
def F_dn(n:Nat)(a:Offence):Option Bool:=(bif a.Out then((bif (a.Time==0)then some (a.Laps==0)else some false):Option Bool).bind λf=>some f else(bif (a.Laps != 0)then((bif (a.Time==0)then(F_a n 1 64 [a.Laps]).bind λd=>some d else some false):Option Bool).bind λg=>some g else(F_a n 0 68719476736 [a.Time]).bind λe=>some e))
theorem k_dn(n:Nat)(e:Offence):Ks (F_dn n e) 98 [.agg (Offence.c e)] [] (λr=>.bool r):=by
 refine Kg 15 func98 Z Z Z Z λr h=>Cn Z h (λj h=>?_) (λj h=>?_)
 .refine Gc 1 Z (Bd h λf d h=>Ct f [] [] (λf=>[(2,.bool f)]) Ze Zf ?_ (λenv H k=>?_))
  .refine G0 5 Z (Is 9 d Z (λl d=>?_) (λl d=>?_))
   iterate 2 exact Gl 6 Z d []
  exact Gx 1 Z (Qd k (QG 3 Z h 2 []))
 refine Gc 8 Z (Cn Z h (λm h=>?_) (λm h=>?_))
 .refine Gc 1 Z (Bd h λg a h=>Cg g [] [] (λg=>[(2,.bool g)]) Ze Zf ?_ ?_)
  .refine G0 5 Z (Is 21 a Z (λi a=>?_) (λi a=>?_))
   .refine Go 2 Z (vH (Ej (xs:=[.tmp 23]) (es:=map (Qe .i64) [e.Laps]) Qv Z Z Z Z Z ⟨Z,trivial⟩ Z Z) ?_ (gT Z));exact FE Z (Cb a (k_a _ _ _ _) Z (ls (ls (lo ln))) λs p a=>Gl 3 Z a [])
   .exact Gl 7 Z a []
  exact QG 3 Z h 2 []
 refine Gc 7 Z (vH (Ej (xs:=[.tmp 28]) (es:=map (Qe .i64) [e.Time]) Qv Z Z Z Z Z ⟨Z,trivial⟩ Z Z) ?_);exact FE Z (Cb h (k_a _ _ _ _) Z (ls (ls (lo ln))) λt q h=>Gt 4 Z h 2 [])
def F_kj(n:Nat)(a:Offence):Option Bool:=(F_dn n a).bind λd=>some (!d)
theorem k_kj(n:Nat)(a:Offence):Ks (F_kj n a) 170 [.agg (Offence.c a),.ptr 0 0] [.cells 170 [.fn (.func 98) [] []]] (λr=>.bool r):=by
 exact Kg 10 func170 Z Z Z Z λr h=>Cz [] h (k_dn _ _) Z λe d h=>Gt 5 Z h 3 [0]
def F_mx(n:Nat)(d:List Offence)(a:Int):Option (Ctl Int (Ctl Unit Int)):=(bif decide (a<(d.length:Int))then(idx d a).bind λe=>(F_kj n e).bind λf=>(bif f then some (.done (.done a))else some (.cont (i64.wrap (a+1))))else some (.done (.cont ())))
def F_hw(n:Nat)(e:List Offence):Option Int:=(iter (F_mx n e) n 0:Option (Ctl Unit Int)).bind λd=>match d with|.cont a=>(some (-1))|.done a=>some a
theorem k_hw(n:Nat)(j:List Offence):Ks (F_hw n j) 221 [.rsl 4 (map Offence.c j),.fn (.func 170) [] [.ptr 0 0]] [.cells 170 [.fn (.func 98) [] []]] (λr=>I r):=by
 refine Kg 9 func221 Z Z Z Z λr h=>Lg 3 Z Z (Bd h λk l h=>CgE (b:=k) [0] [] Ze Ze Zf ?_ (λp m=>?_))
 .refine G0 1 Z (Lp [0] [0,1,7] (λe=>[(8,I e)]) Ze l Zf (Lr [0]) λe s a d=>?_);refine G0 6 Z (Yd Z a (λf a=>?_) (λf a=>?_))
  .exact Gc 2 Z (Qh a (Gx 1 Z (JB d a Z (Lr [0]))))
  refine Gc 15 Z (Bd a λt g a=>Iz g Z (Go 1 Z (Cz [0] a (k_kj _ _) Z λu q a=>Go 2 Z (Cn Z a (λi a=>?_) (λi a=>?_)))))
  .refine Gc 9 Z (Qw a ?_);obtain rfl:=Oj d a;exact Gx 1 Z (Qq (Gx 1 Z (Rt h 4 [0])))
  exact Gc 7 Z (Qf a (Lr [0]))
 subst m;exact QG 6 Z h 4 [0]
def F_ep(n:Nat)(a:List Offence):Option Bool:=(F_hw n a).bind λd=>some (decide (0<=d))
theorem k_ep(n:Nat)(a:List Offence):Ks (F_ep n a) 169 [.rsl 4 (map Offence.c a),.fn (.func 170) [] [.ptr 0 0]] [.cells 170 [.fn (.func 98) [] []]] (λr=>.bool r):=by
 exact Kg 9 func169 Z Z Z Z λr h=>Cz [0] h (k_hw _ _) Z λe d h=>Gt 5 Z h 4 [0]
def F_dt(n:Nat)(a:List Offence):Option Bool:=(F_ep n a).bind λd=>some (!d)
theorem k_dt(n:Nat)(a:List Offence):Ks (F_dt n a) 107 [.rsl 4 (map Offence.c a),.fn (.func 98) [] []] [] (λr=>.bool r):=by
 exact Kg 10 func107 Z Z Z Z λr h=>Cz [0] h (k_ep _ _) Z λe d h=>Gt 5 Z h 4 []
def F_dp(n:Nat)(a:Category):Option Bool:=((F_a n 0 120 [a.From,a.To]).bind λd=>(bif d then some (decide (a.From<=a.To))else some false):Option Bool).bind λe=>some e
theorem k_dp(n:Nat)(d:Category):Ks (F_dp n d) 109 [.agg (Category.c d)] [] (λr=>.bool r):=by
 refine Kg 7 func109 Z Z Z Z λr h=>Bd h λe a h=>Cg e [] [] (λe=>[(2,.bool e)]) Ze Zf ?_ ?_
 .refine G0 5 Z (vH (Ej (xs:=[.tmp 4,.tmp 6]) (es:=map (Qe .i64) [d.From,d.To]) Qv Z Z Z Z Z ⟨Z,Z,trivial⟩ Z Z) ?_);refine FE Z (Cb a (k_a _ _ _ _) Z (ls (ls (lo ln))) λi g a=>Go 1 Z (Is 9 a Z (λf a=>?_) (λf a=>?_)))
  iterate 2 exact Gl 8 Z a []
 exact QG 1 Z h 2 []
def F_ig(n:Nat)(a:Category):Option Bool:=(F_dp n a).bind λd=>some (!d)
theorem k_ig(n:Nat)(a:Category):Ks (F_ig n a) 172 [.agg (Category.c a),.ptr 0 0] [.cells 183 [.fn (.func 109) [] []]] (λr=>.bool r):=by
 exact Kg 10 func172 Z Z Z Z λr h=>Cz [] h (k_dp _ _) Z λe d h=>Gt 5 Z h 3 [0]
def F_mk(n:Nat)(d:List Category)(a:Int):Option (Ctl Int (Ctl Unit Int)):=(bif decide (a<(d.length:Int))then(idx d a).bind λe=>(F_ig n e).bind λf=>(bif f then some (.done (.done a))else some (.cont (i64.wrap (a+1))))else some (.done (.cont ())))
def F_ha(n:Nat)(e:List Category):Option Int:=(iter (F_mk n e) n 0:Option (Ctl Unit Int)).bind λd=>match d with|.cont a=>(some (-1))|.done a=>some a
theorem k_ha(n:Nat)(j:List Category):Ks (F_ha n j) 222 [.rsl 3 (map Category.c j),.fn (.func 172) [] [.ptr 0 0]] [.cells 183 [.fn (.func 109) [] []]] (λr=>I r):=by
 refine Kg 9 func222 Z Z Z Z λr h=>Lg 3 Z Z (Bd h λk l h=>CgE (b:=k) [0] [] Ze Ze Zf ?_ (λp m=>?_))
 .refine G0 1 Z (Lp [0] [0,1,7] (λe=>[(8,I e)]) Ze l Zf (Lr [0]) λe s a d=>?_);refine G0 6 Z (Yd Z a (λf a=>?_) (λf a=>?_))
  .exact Gc 2 Z (Qh a (Gx 1 Z (JB d a Z (Lr [0]))))
  refine Gc 15 Z (Bd a λt g a=>Iz g Z (Go 1 Z (Cz [0] a (k_ig _ _) Z λu q a=>Go 2 Z (Cn Z a (λi a=>?_) (λi a=>?_)))))
  .refine Gc 9 Z (Qw a ?_);obtain rfl:=Oj d a;exact Gx 1 Z (Qq (Gx 1 Z (Rt h 4 [0])))
  exact Gc 7 Z (Qf a (Lr [0]))
 subst m;exact QG 6 Z h 4 [0]
def F_gp(n:Nat)(a:List Category):Option Bool:=(F_ha n a).bind λd=>some (decide (0<=d))
theorem k_gp(n:Nat)(a:List Category):Ks (F_gp n a) 171 [.rsl 3 (map Category.c a),.fn (.func 172) [] [.ptr 0 0]] [.cells 183 [.fn (.func 109) [] []]] (λr=>.bool r):=by
 exact Kg 9 func171 Z Z Z Z λr h=>Cz [0] h (k_ha _ _) Z λe d h=>Gt 5 Z h 4 [0]
def F_ee(n:Nat)(a:List Category):Option Bool:=(F_gp n a).bind λd=>some (!d)
theorem k_ee(n:Nat)(a:List Category):Ks (F_ee n a) 108 [.rsl 3 (map Category.c a),.fn (.func 109) [] []] [] (λr=>.bool r):=by
 exact Kg 10 func108 Z Z Z Z λr h=>Cz [0] h (k_gp _ _) Z λe d h=>Gt 5 Z h 4 []
def F_cz(n:Nat)(a:Prize)(d:Course):Option Bool:=((F_a n 0 (i64.wrap ((d.Distances.length:Int)-1)) [a.Distance]).bind λe=>(bif e then(F_a n (-1) (i64.wrap ((d.Categories.length:Int)-1)) [a.Category]).bind λf=>(bif f then(F_a n 1 4000 [a.Rank]).bind λg=>(bif g then(F_a n 1 1125899906842624 [a.Amount]).bind λh=>some h else some false)else some false)else some false):Option Bool).bind λi=>some i
theorem k_cz(n:Nat)(d:Prize)(j:Course):Ks (F_cz n d j) 99 [.agg (Prize.c d),.ptr 0 0] [.cells 33 (Course.c j)] (λr=>.bool r):=by
 refine Kg 7 func99 Z Z Z Z λr h=>Bd h λe a h=>Cg e [0] [] (λe=>[(3,.bool e)]) Ze Zf ?_ ?_
 .refine G0 3 Z (Lg 3 Z Z (vH (Ej (xs:=[.tmp 9]) (es:=map (Qe .i64) [d.Distance]) Qv Z Z Z Z Z ⟨Z,trivial⟩ Z Z) ?_));refine FE Z (Cb a (k_a _ _ _ _) Z (ls (ls (lo ln))) λq k a=>Go 1 Z (Is 12 a Z (λf a=>?_) (λf a=>?_)))
  .refine Go 2 Z (Lg 3 Z Z (vH (Ej (xs:=[.tmp 18]) (es:=map (Qe .i64) [d.Category]) Qv Z Z Z Z Z ⟨Z,trivial⟩ Z Z) ?_ (gT Z)));refine FE Z (Cb a (k_a _ _ _ _) Z (ls (ls (lo ln))) λs l a=>Go 2 Z (Is 22 a Z (λg a=>?_) (λg a=>?_)))
   .refine Go 2 Z (vH (Ej (xs:=[.tmp 24]) (es:=map (Qe .i64) [d.Rank]) Qv Z Z Z Z Z ⟨Z,trivial⟩ Z Z) ?_ (gT Z));refine FE Z (Cb a (k_a _ _ _ _) Z (ls (ls (lo ln))) λt m a=>Go 2 Z (Is 28 a Z (λi a=>?_) (λi a=>?_)))
    .refine Go 2 Z (vH (Ej (xs:=[.tmp 30]) (es:=map (Qe .i64) [d.Amount]) Qv Z Z Z Z Z ⟨Z,trivial⟩ Z Z) ?_ (gT Z));exact FE Z (Cb a (k_a _ _ _ _) Z (ls (ls (lo ln))) λu p a=>Gl 3 Z a [0])
    .exact Gl 7 Z a [0]
   .exact Gl 13 Z a [0]
  .exact Gl 23 Z a [0]
 exact QG 1 Z h 3 [0]
def F_ka(n:Nat)(a:Prize)(d:Course):Option Bool:=(F_cz n a d).bind λe=>some (!e)
theorem k_ka(n:Nat)(a:Prize)(d:Course):Ks (F_ka n a d) 174 [.agg (Prize.c a),.ptr 0 0] [.cells 173 [.fn (.func 99) [] [.ptr 1 0]],.cells 33 (Course.c d)] (λr=>.bool r):=by
 exact Kg 10 func174 Z Z Z Z λr h=>Cz [1] h (k_cz _ _ _) Z λf e h=>Gt 5 Z h 3 [0,1]
def F_nc(n:Nat)(d:List Prize)(g:Course)(a:Int):Option (Ctl Int (Ctl Unit Int)):=(bif decide (a<(d.length:Int))then(idx d a).bind λe=>(F_ka n e g).bind λf=>(bif f then some (.done (.done a))else some (.cont (i64.wrap (a+1))))else some (.done (.cont ())))
def F_ho(n:Nat)(e:List Prize)(f:Course):Option Int:=(iter (F_nc n e f) n 0:Option (Ctl Unit Int)).bind λd=>match d with|.cont a=>(some (-1))|.done a=>some a
theorem k_ho(n:Nat)(j:List Prize)(k:Course):Ks (F_ho n j k) 223 [.rsl 4 (map Prize.c j),.fn (.func 174) [] [.ptr 0 0]] [.cells 173 [.fn (.func 99) [] [.ptr 1 0]],.cells 33 (Course.c k)] (λr=>I r):=by
 refine Kg 9 func223 Z Z Z Z λr h=>Lg 3 Z Z (Bd h λl m h=>CgE (b:=l) [0,1] [] Ze Ze Zf ?_ (λq p=>?_))
 .refine G0 1 Z (Lp [0,1] [0,1,7] (λe=>[(8,I e)]) Ze m Zf (Lr [0,1]) λe t a d=>?_);refine G0 6 Z (Yd Z a (λf a=>?_) (λf a=>?_))
  .exact Gc 2 Z (Qh a (Gx 1 Z (JB d a Z (Lr [0,1]))))
  refine Gc 15 Z (Bd a λu g a=>Iz g Z (Go 1 Z (Cz [0,1] a (k_ka _ _ _) Z λw s a=>Go 2 Z (Cn Z a (λi a=>?_) (λi a=>?_)))))
  .refine Gc 9 Z (Qw a ?_);obtain rfl:=Oj d a;exact Gx 1 Z (Qq (Gx 1 Z (Rt h 4 [0,1])))
  exact Gc 7 Z (Qf a (Lr [0,1]))
 subst p;exact QG 6 Z h 4 [0,1]
def F_hs(n:Nat)(a:List Prize)(d:Course):Option Bool:=(F_ho n a d).bind λe=>some (decide (0<=e))
theorem k_hs(n:Nat)(a:List Prize)(d:Course):Ks (F_hs n a d) 173 [.rsl 4 (map Prize.c a),.fn (.func 174) [] [.ptr 0 0]] [.cells 173 [.fn (.func 99) [] [.ptr 1 0]],.cells 33 (Course.c d)] (λr=>.bool r):=by
 exact Kg 9 func173 Z Z Z Z λr h=>Cz [0,1] h (k_ho _ _ _) Z λf e h=>Gt 5 Z h 4 [0,1]
def F_cs(n:Nat)(a:List Prize)(d:Course):Option Bool:=(F_hs n a d).bind λe=>some (!e)
theorem k_cs(n:Nat)(a:List Prize)(d:Course):Ks (F_cs n a d) 110 [.rsl 4 (map Prize.c a),.fn (.func 99) [] [.ptr 0 0]] [.cells 33 (Course.c d)] (λr=>.bool r):=by
 exact Kg 10 func110 Z Z Z Z λr h=>Cz [1,0] h (k_hs _ _ _) Z λf e h=>Gt 5 Z h 4 [0]
def F_hb(n:Nat)(a:Prize):Option Unit:=some ()
theorem k_hb(n:Nat)(a:Prize):Kq (F_hb n a) 112 [.agg (Prize.c a)] [] (λ_=>.agg [I a.Distance,I a.Category,I a.Rank]) (λ_=>[.cells 187 [I a.Distance,I a.Category,I a.Rank]]):=by
 refine Kg 19 func112 Z Z Z Z λr h=>?_;obtain rfl:=Oi h;exact Rx [1] [2] Z (Je Z (QE isAgg187 sizeOf187 Z Z Z)) ⟨Z,Z⟩
def F_ku(n:Nat)(e:List Prize)(a:(List (Ug×Bool))×Int):Option (Ctl ((List (Ug×Bool))×Int) (List (Ug×Bool))):=(bif decide (a.2<(e.length:Int))then(idx e a.2).bind λd=>(F_hb n d).bind λg=>(some (Yk a.1 ({distance:=d.Distance,category:=d.Category,rank:=d.Rank:Ug}) true)).bind λf=>some (.cont (f,i64.wrap (a.2+1)))else some (.done a.1))
def F_hp(n:Nat)(a:List Prize):Option Bool:=(iter (F_ku n a) n ([],0):Option (List (Ug×Bool))).bind λd=>some ((d.length:Int)==(a.length:Int))
theorem k_hp(n:Nat)(p:List Prize):Ks (F_hp n p) 111 [.rsl 4 (map Prize.c p),.fn (.func 112) [] []] [] (λr=>.bool r):=by
 refine Kg 7 func111 Z Z Z Z λr h=>vH Yt ?_;refine Fg 7 Z Z (Lg 3 Z Z (Bd h λd q h=>Cg d [0] [0,5] Ze (λd=>[(0,.map (Qx (λx=>A.agg (Ug.c x)) A.bool d))]) Zf ?_ ?_))
 .refine G0 1 Z (Lp [0] [0,1,5,9,10] (λe=>[(11,I e.2)]) (λe=>[(0,.map (Qx (λx=>A.agg (Ug.c x)) A.bool e.1))]) q Zf (Lr [0]) λe t a g=>?_);refine G0 6 Z (Yd Z a (λi a=>?_) (λi a=>?_))
  .exact Gc 2 Z (Qh a (Gx 1 Z (cQo g a (Lr [0]))))
  refine Gc 6 Z (Bd a λf j a=>Iz j Z (Go 9 Z (Cd [] a (k_hb _ _) Z λu s a=>FE Z (Bd a λw m a=>?_))));refine vU (YW (ev:=A.bool) (k:=({distance:=f.Distance,category:=f.Category,rank:=f.Rank:Ug})) (v:=true) (l:=e.1) Qqb m Z underlying239) ?_;exact Fg 7 Z Z (Qf a (Lr [0]))
 refine Gc 3 Z ?_;refine vX (I (d.length:Int)) (Qdm (l:=d) underlying239 Z) ?_;exact Go 1 Z (Lm Z (Gt 5 Z h 4 []))
def F_cp(n:Nat)(a:Course):Option Bool:=((F_dh n a.Mats).bind λd=>(bif d then(F_ed n a.Legs (i64.wrap ((a.Mats.length:Int)-1))).bind λe=>(bif e then(F_fk n a.Legs).bind λf=>(bif f then(F_eb n a.Distances (i64.wrap ((a.Mats.length:Int)-1))).bind λg=>(bif g then(F_dx n a.Waves).bind λh=>(bif h then(F_dt n a.Offences).bind λi=>(bif i then(F_ee n a.Categories).bind λj=>(bif j then(F_cs n a.Prizes a).bind λk=>(bif k then(F_hp n a.Prizes).bind λl=>(bif l then(F_a n 0 16 [a.Faults.Misses,a.Faults.Strays]).bind λm=>(bif m then(F_a n 0 4294967296 [a.Faults.Window,a.Faults.Residual]).bind λp=>(bif p then(F_a n 0 100000 [a.Faults.Drift]).bind λq=>(bif q then(F_a n 0 1125899906842624 [a.Fee]).bind λr=>(bif r then(F_a n 0 1099511627776 [a.Deadline]).bind λs=>some s else some false)else some false)else some false)else some false)else some false)else some false)else some false)else some false)else some false)else some false)else some false)else some false)else some false):Option Bool).bind λt=>some t
theorem k_cp(n:Nat)(d:Course):Ks (F_cp n d) 51 [.agg (Course.c d)] [] (λr=>.bool r):=by
 refine Kg 10 func51 Z Z Z Z λr h=>Lg 55 Z Z (Bd h λe a h=>Cg e [] [] (λe=>[(2,.bool e)]) Ze Zf ?_ ?_)
 .refine G0 3 Z (Cz [] a (k_dh _ _) Z λQ x a=>Go 1 Z (Is 25 a Z (λf a=>?_) (λf a=>?_)))
  .refine Go 3 Z (Cd [1] a (k_ed _ _ _) Z λR y a=>Fg 2 Z Z (Is 31 a Z (λg a=>?_) (λg a=>?_)))
   .refine Go 2 Z (Cz [] a (k_fk _ _) Z λT z a=>Go 2 Z (Is 36 a Z (λi a=>?_) (λi a=>?_)))
    .refine Go 3 Z (Cz [1,2,3] a (k_eb _ _ _) Z λV B a=>Go 2 Z (Is 42 a Z (λj a=>?_) (λj a=>?_)))
     .refine Go 2 Z (Cz [] a (k_dx _ _) Z λW E a=>Go 2 Z (Is 47 a Z (λk a=>?_) (λk a=>?_)))
      .refine Go 3 Z (Cz [] a (k_dt _ _) Z λX F a=>Go 2 Z (Is 53 a Z (λl a=>?_) (λl a=>?_)))
       .refine Go 2 Z (Cz [] a (k_ee _ _) Z λY G a=>Go 2 Z (Is 58 a Z (λm a=>?_) (λm a=>?_)))
        .refine Go 3 Z (Cz [0] a (k_cs _ _ _) Z λaa H a=>Go 2 Z (Is 64 a Z (λp a=>?_) (λp a=>?_)))
         .refine Go 2 Z (Cz [] a (k_hp _ _) Z λab J a=>Go 2 Z (Is 69 a Z (λq a=>?_) (λq a=>?_)))
          .refine Go 4 Z (vH (Ej (xs:=[.tmp 71,.tmp 73]) (es:=map (Qe .i64) [d.Faults.Misses,d.Faults.Strays]) Qv Z Z Z Z Z ⟨Z,Z,trivial⟩ Z Z) ?_ (gT Z));refine FE Z (Cb a (k_a _ _ _ _) Z (ls (ls (lo ln))) λac L a=>Go 2 Z (Is 77 a Z (λs a=>?_) (λs a=>?_)))
           .refine Go 4 Z (vH (Ej (xs:=[.tmp 79,.tmp 81]) (es:=map (Qe .i64) [d.Faults.Window,d.Faults.Residual]) Qv Z Z Z Z Z ⟨Z,Z,trivial⟩ Z Z) ?_ (gT Z));refine FE Z (Cb a (k_a _ _ _ _) Z (ls (ls (lo ln))) λae M a=>Go 2 Z (Is 85 a Z (λt a=>?_) (λt a=>?_)))
            .refine Go 2 Z (vH (Ej (xs:=[.tmp 87]) (es:=map (Qe .i64) [d.Faults.Drift]) Qv Z Z Z Z Z ⟨Z,trivial⟩ Z Z) ?_ (gT Z));refine FE Z (Cb a (k_a _ _ _ _) Z (ls (ls (lo ln))) λaf N a=>Go 2 Z (Is 91 a Z (λu a=>?_) (λu a=>?_)))
             .refine Go 2 Z (vH (Ej (xs:=[.tmp 93]) (es:=map (Qe .i64) [d.Fee]) Qv Z Z Z Z Z ⟨Z,trivial⟩ Z Z) ?_ (gT Z));refine FE Z (Cb a (k_a _ _ _ _) Z (ls (ls (lo ln))) λag O a=>Go 2 Z (Is 97 a Z (λw a=>?_) (λw a=>?_)))
              .refine Go 2 Z (vH (Ej (xs:=[.tmp 99]) (es:=map (Qe .i64) [d.Deadline]) Qv Z Z Z Z Z ⟨Z,trivial⟩ Z Z) ?_ (gT Z));exact FE Z (Cb a (k_a _ _ _ _) Z (ls (ls (lo ln))) λah P a=>Gl 3 Z a [])
              .exact Gl 7 Z a []
             .exact Gl 13 Z a []
            .exact Gl 19 Z a []
           .exact Gl 27 Z a []
          .exact Gl 35 Z a []
         .exact Gl 40 Z a []
        .exact Gl 46 Z a []
       .exact Gl 51 Z a []
      .exact Gl 57 Z a []
     .exact Gl 62 Z a []
    .exact Gl 68 Z a []
   .exact Gl 73 Z a []
  .exact Gl 79 Z a []
 exact QG 1 Z h 2 []
def F_mq(n:Nat)(d:List Step)(a:(List Uf)×Int):Option (Ctl ((List Uf)×Int) (List Uf)):=(bif decide (a.2<(d.length:Int))then(idx d a.2).bind λe=>(app a.1 [Uf.ctyping_step ({Step:=e:Uh})]).bind λf=>some (.cont (f,i64.wrap (a.2+1)))else some (.done a.1))
def F_bi(n:Nat)(a:List Step):Option (List Uf):=(iter (F_mq n a) n ([],0):Option (List Uf)).bind λd=>some d
theorem k_bi(n:Nat)(u:List Step):Kq (F_bi n u) 114 [.rsl 8 (map Step.enc u)] [] (λr=>.osl 0 0 r.length 1) (λr=>[.row 246 1 (map Uf.enc r)]):=by
 refine Kg 9 func114 Z Z Z Z λr h=>Lg 3 Z Z (Bd h λf w h=>Cg f [0] [] (λf=>[(2,.osl 0 0 f.length 1)]) (λf=>[(0,.row 246 1 (map Uf.enc f))]) Zf ?_ ?_)
 .refine G0 1 Z (Lp [0] [5,6] (λd=>[(2,.osl 0 0 d.1.length 1),(7,I d.2)]) (λd=>[(0,.row 246 1 (map Uf.enc d.1))]) w Zf ?_ ?_)
  .refine Em (Eo (s:=2) (k:=1) (t:=246) (XO Z) Z) ?_;exact Lr [0]
  intro d x a j;refine G0 6 Z (Yd Z a (λl a=>?_) (λl a=>?_))
  .exact Gc 2 Z (Qh a (Gx 1 Z (cQo j a (Lr [0]))))
  refine Gc 6 Z (Bd a λg p a=>IzE p (Yq g) Z (Go 9 Z ?_));refine vX (.iface 249 (.agg (Uh.c ({Step:=g:Uh})))) (Qat Z Gp (by intro m;nofun) Z) ?_;refine vH (Ej (xs:=[.tmp 14]) (es:=map Uf.enc [Uf.ctyping_step ({Step:=g:Uh})]) Qdf Z Z Z Z Z ⟨Z,trivial⟩ Z Z) ?_;refine FE Z (Bd a λy q a=>vH (Qg (e:=Uf.enc) q Qdf E8 (QM (i:=2))) ?_);exact Fg 8 Z Z (Qf a (Lr [3]))
 exact QG 7 Z h 2 [0]
def F_ax(n:Nat)(a:Uc):Option Bool:=((bif (a.Cond.Kind==0)then(bif (a.Cond.Var==0)then(bif (a.Cond.N==0)then some ((a.Cond.Parts.length:Int)==0)else some false)else some false)else some false):Option Bool).bind λd=>some d
theorem k_ax(n:Nat)(e:Uc):Ks (F_ax n e) 224 [.agg (Uc.c ({Cond:=e.Cond:Uc}))] [] (λr=>.bool r):=by
 refine Kg 7 func224 Z Z Z Z λr h=>Bd h λd a h=>Cg d [] [] (λd=>[(2,.bool d)]) Ze Zf ?_ ?_
 .refine G0 6 Z (Is 7 a Z (λf a=>?_) (λf a=>?_))
  .refine Go 6 Z (Is 13 a Z (λg a=>?_) (λg a=>?_))
   .refine Go 6 Z (Is 19 a Z (λi a=>?_) (λi a=>?_))
    .exact Go 3 Z (Lm Z (Gl 4 Z a []))
    .exact Gl 8 Z a []
   .exact Gl 14 Z a []
  .exact Gl 20 Z a []
 exact QG 1 Z h 2 []
def F_av(n:Nat)(a:Uh):Option (List Uf):=(F_bi n a.Step.Then).bind λd=>(F_bi n a.Step.Else).bind λe=>(app d e).bind λf=>some f
theorem k_av(n:Nat)(a:Uh):Kq (F_av n a) 246 [.agg (Uh.c a)] [] (λr=>.osl 0 0 r.length 1) (λr=>[.row 246 1 (map Uf.enc r)]):=by
 refine Kg 7 func246 Z Z Z Z λr h=>DAs 7 3 [0,0,0,1,3,3,3] (by kernel_rfl) (Da 3 Z ?_);obtain⟨d,f,h⟩:=YB h;refine DA.op (x:=.osl 1 0 d.length 1) (H1:=[.cells 249 (Uh.c a),.row 246 1 (map Uf.enc d)]) ?_ ?_
 .refine QX [] (OpC.fn call114 Z Z Z) (k_bi _ _ _ f) ?_;rintro _ _ ⟨rfl,rfl⟩;exact FE Z Wp
 refine Db 2 Z ?_;refine DB.wo2 (x:=.rsl 8 (map Step.enc a.Step.Else)) (Ld isAgg29 Z Wp) (Ld isAgg29 Z Wp) ?_;refine DB.done Z (Cd [] h (k_bi _ _) Z λk j h=>FE Z (Bd h λl g h=>vH (Qg (e:=Uf.enc) g Qdf E8 (QM (i:=2))) ?_));exact FE Z (Gt 4 Z h 2 [3])
def F_me(n:Nat)(d:List Cond)(a:(List Uf)×Int):Option (Ctl ((List Uf)×Int) (List Uf)):=(bif decide (a.2<(d.length:Int))then(idx d a.2).bind λe=>(app a.1 [Uf.ctyping_cond ({Cond:=e:Uc})]).bind λf=>some (.cont (f,i64.wrap (a.2+1)))else some (.done a.1))
def F_ez(n:Nat)(a:List Cond):Option (List Uf):=(iter (F_me n a) n ([],0):Option (List Uf)).bind λd=>some d
theorem k_ez(n:Nat)(u:List Cond):Kq (F_ez n u) 268 [.rsl 4 (map Cond.enc u)] [] (λr=>.osl 0 0 r.length 1) (λr=>[.row 246 1 (map Uf.enc r)]):=by
 refine Kg 9 func268 Z Z Z Z λr h=>Lg 3 Z Z (Bd h λf w h=>Cg f [0] [] (λf=>[(2,.osl 0 0 f.length 1)]) (λf=>[(0,.row 246 1 (map Uf.enc f))]) Zf ?_ ?_)
 .refine G0 1 Z (Lp [0] [5,6] (λd=>[(2,.osl 0 0 d.1.length 1),(7,I d.2)]) (λd=>[(0,.row 246 1 (map Uf.enc d.1))]) w Zf ?_ ?_)
  .refine Em (Eo (s:=2) (k:=1) (t:=246) (XO Z) Z) ?_;exact Lr [0]
  intro d x a j;refine G0 6 Z (Yd Z a (λl a=>?_) (λl a=>?_))
  .exact Gc 2 Z (Qh a (Gx 1 Z (cQo j a (Lr [0]))))
  refine Gc 6 Z (Bd a λg p a=>IzE p (Jw g) Z (Go 9 Z ?_));refine vX (.iface 301 (.agg (Uc.c ({Cond:=g:Uc})))) (Qat Z EK (by intro m;nofun) Z) ?_;refine vH (Ej (xs:=[.tmp 14]) (es:=map Uf.enc [Uf.ctyping_cond ({Cond:=g:Uc})]) Qdf Z Z Z Z Z ⟨Z,trivial⟩ Z Z) ?_;refine FE Z (Bd a λy q a=>vH (Qg (e:=Uf.enc) q Qdf E8 (QM (i:=2))) ?_);exact Fg 8 Z Z (Qf a (Lr [3]))
 exact QG 7 Z h 2 [0]
def F_aj(n:Nat)(a:Uc):Option (List Uf):=(F_ez n a.Cond.Parts).bind λd=>some d
theorem k_aj(n:Nat)(a:Uc):Kq (F_aj n a) 245 [.agg (Uc.c ({Cond:=a.Cond:Uc}))] [] (λr=>.osl 0 0 r.length 1) (λr=>[.row 246 1 (map Uf.enc r)]):=by
 exact Kg 11 func245 Z Z Z Z λr h=>Cd [] h (k_ez _ _) Z λe d h=>FE Z (Gt 4 Z h 2 [1])
def F_hg(n:Nat)(m:List Uf)(p:Int)(rec90:(List Uf)->Int->Ud->Option (Ud×Bool))(a:Ud×Int):Option (Ctl (Ud×Int) (Ctl Ud (Ud×Bool))):=(bif decide (a.2<(m.length:Int))then(idx m a.2).bind λq=>Uf.elim q (λg=>((F_ax n ({Cond:=g.Step.Cond:Uc})).bind λr=>(bif (!r)then(rec90 [Uf.ctyping_cond ({Cond:=g.Step.Cond:Uc})] 0 ({steps:=i64.wrap (a.1.steps+1),conds:=a.1.conds:Ud})).bind λh=>some (h.1,(!h.2))else some ({steps:=i64.wrap (a.1.steps+1),conds:=a.1.conds:Ud},false)):Option (Ud×Bool)).bind λd=>(bif d.2 then some (.done (.done (d.1,false)))else((bif decide (64<d.1.steps)then some (d.1,true)else(bif decide (256<d.1.conds)then some (d.1,true)else(F_av n g).bind λk=>(rec90 k (i64.wrap (p+1)) d.1).bind λi=>some (i.1,(!i.2)))):Option (Ud×Bool)).bind λe=>(bif e.2 then some (.done (.done (e.1,false)))else some (.cont (e.1,i64.wrap (a.2+1)))))) (λs=>((bif decide (64<a.1.steps)then some ({steps:=a.1.steps,conds:=i64.wrap (a.1.conds+1):Ud},true)else(bif decide (256<(i64.wrap (a.1.conds+1)))then some ({steps:=a.1.steps,conds:=i64.wrap (a.1.conds+1):Ud},true)else(F_aj n ({Cond:=s.Cond:Uc})).bind λl=>(rec90 l (i64.wrap (p+1)) ({steps:=a.1.steps,conds:=i64.wrap (a.1.conds+1):Ud})).bind λj=>some (j.1,(!j.2)))):Option (Ud×Bool)).bind λf=>(bif f.2 then some (.done (.done (f.1,false)))else some (.cont (f.1,i64.wrap (a.2+1)))))else some (.done (.cont a.1)))
def B_h(rec90:(List Uf)->Int->Ud->Option (Ud×Bool))(n:Nat)(d:List Uf)(e:Int)(f:Ud):Option (Ud×Bool):=((bif decide (0<(d.length:Int))then some (decide (16<e))else some false):Option Bool).bind λb2=>(bif b2 then some (f,false)else(iter (F_hg n d e rec90) n (f,0):Option (Ctl Ud (Ud×Bool))).bind λg=>match g with|.cont a=>(some (a,true))|.done a=>some a)
theorem Qaz(rec90:(List Uf)->Int->Ud->Option (Ud×Bool))(g:∀(l:List Uf) (x:Int) (y:Ud) (r:Ud×Bool),rec90 l x y=some r->C prog 175 [.ptr 0 0,.osl 1 0 l.length 1,I x] [.cells 242 (Ud.c y),.row 246 1 (map Uf.enc l)] (RQ (λr=>.bool r.2) (λr=>[.cells 242 (Ud.c r.1),.row 246 1 (map Uf.enc l)]) r))(n:Nat)(l:List Uf)(x:Int)(y:Ud)(r:Ud×Bool)(h:B_h rec90 n l x y=some r):C prog 175 [.ptr 0 0,.osl 1 0 l.length 1,I x] [.cells 242 (Ud.c y),.row 246 1 (map Uf.enc l)] (RQ (λr=>.bool r.2) (λr=>[.cells 242 (Ud.c r.1),.row 246 1 (map Uf.enc l)]) r):=by
 refine QF func175 Z Z Z ?_;refine G0 7 Z (Bd h λb2 B h=>Ct b2 [0,1] [0,1,2] (λb2=>[(18,.bool b2)]) Ze Zf ?_ (λenv H q=>?_))
 .refine G0 5 Z (Is 15 B Z (λX B=>?_) (λX B=>?_))
  iterate 2 exact Gl 4 Z B [0,1]
 refine Gx 1 Z (Qd q (Cn Z h (λY h=>?_) (λY h=>?_)))
 .exact QG 7 Z h 6 [0,1]
 refine Gc 10 Z (Bd h λaa ab h=>CgE (b:=aa) [0,1] [] Ze (λE=>[(0,.cells 242 (Ud.c E))]) Zf ?_ (λE ac=>?_))
 .refine G0 1 Z (Lp [0,1] [0,2,19,20] (λt=>[(21,I t.2)]) (λt=>[(0,.cells 242 (Ud.c t.1))]) ab Zf (Lr [0,1]) λt an a p=>?_);refine G0 6 Z (Yd Z a (λV a=>?_) (λV a=>?_))
  .exact Gc 2 Z (Qh a (Gx 1 Z (JB p a Z (Lr [0,1]))))
  refine Gc 6 Z (Bd a λT F a=>?_);refine vX (.ptr 1 (toNat t.2*1)) (Qp F Z E8 sizeOf246) ?_;refine vX (Uf.val T) (Ey Z isAgg246 Z (Qo F)) ?_;refine Go 12 Z ?_;rcases JY T with⟨k,hE90⟩|⟨w,hE92⟩
  .have a:=JN hE90 a;refine QH (Q7 (s:=8) (a':=.iface 249 (.agg (Uh.c k))) Z (congrArg Uf.val hE90)) ?_;refine QH (Q7 (s:=24) (a':=.iface 249 (.agg (Uh.c k))) Z (congrArg Uf.val hE90)) ?_;refine QH (Q7 (s:=25) (a':=.iface 249 (.agg (Uh.c k))) Z (congrArg Uf.val hE90)) ?_;refine vX (.tup [.agg [I 0,I 0,I 0,.rsl 4 (map Cond.enc [])],.bool false]) (Qi0 (z:=(.agg [I 0,I 0,I 0,.rsl 4 (map Cond.enc [])])) EK (by intro m;nofun) Z GL (zrC Z)) ?_;refine Go 7 Z ?_;refine vX (.tup [.agg (Uh.c k),.bool true]) (QbW Gp (by intro m;nofun)) ?_;refine Go 34 Z (Bd a λu f a=>Ct u [0,1] [0,2,8,19,20,21] (λu=>[(60,.bool u.2)]) (λu=>[(0,.cells 242 (Ud.c u.1))]) Zf ?_ (λenv H q=>?_))
   .refine G0 2 Z (Cz [] f (k_ax _ _) Z λao ah f=>Go 2 Z (Is 53 f Z (λW f=>?_) (λW f=>?_)))
    .refine Go 2 Z ?_;refine vX (.iface 301 (.agg (Uc.c ({Cond:=k.Step.Cond:Uc})))) (Qat Z EK (by intro m;nofun) Z) ?_ (gT Z);refine vH (Ej (xs:=[.tmp 56]) (es:=map Uf.enc [Uf.ctyping_cond ({Cond:=k.Step.Cond:Uc})]) Qdf Z Z Z Z Z ⟨Z,trivial⟩ Z Z) ?_ (gT Z);exact FE Z (Cd [0,4] f (g _ _ _) Z λai ae f=>FE Z (Gl 3 Z f [0,1]))
    .exact Gl 8 Z f [0,1]
   refine Gx 1 Z (Qd q (Cn Z a (λG a=>?_) (λG a=>?_)))
   .refine Gc 10 Z (Qw a ?_);obtain rfl:=Oj p a;exact Gx 1 Z (Qq (Gx 1 Z (Rt h 6 [0,1])))
   refine Gc 4 Z (Bd a λi d a=>Ct i [0,1] [0,2,19,20,21] (λi=>[(81,.bool i.2)]) (λi=>[(0,.cells 242 (Ud.c i.1))]) Zf ?_ (λenv H q=>?_))
   .refine G0 7 Z (Is 66 d Z (λJ d=>?_) (λJ d=>?_))
    .exact Gl 16 Z d [0,1]
    .refine Go 7 Z (Is 73 d Z (λL d=>?_) (λL d=>?_))
     .exact Gl 9 Z d [0,1]
     .refine Go 2 Z (Bd d λaj M d=>?_);refine QX [] (Qfz call246 Z Z Z Z (λ_ _=>by kernel_rfl)) (k_av _ _ _ M) ?_ (hg:=(gT Z));rintro _ _ ⟨rfl,rfl⟩;exact Fg 2 Z Z (Cd [0,2] d (g _ _ _) Z λak af d=>FE Z (Gl 3 Z d [0,1]))
   refine Gx 1 Z (Qd q (Cn Z a (λN a=>?_) (λN a=>?_)))
   .refine Gc 8 Z (Qw a ?_);obtain rfl:=Oj p a;exact Gx 1 Z (Qq (Gx 1 Z (Rt h 6 [0,1])))
   exact Gc 7 Z (Qf a (Lr [0,1]))
  .have a:=JM hE92 a;refine QH (Q7 (s:=8) (a':=.iface 301 (.agg (Uc.c ({Cond:=w.Cond:Uc})))) Z (congrArg Uf.val hE92)) ?_;refine QH (Q7 (s:=24) (a':=.iface 301 (.agg (Uc.c ({Cond:=w.Cond:Uc})))) Z (congrArg Uf.val hE92)) ?_;refine QH (Q7 (s:=25) (a':=.iface 301 (.agg (Uc.c ({Cond:=w.Cond:Uc})))) Z (congrArg Uf.val hE92)) ?_;refine vX (.tup [.agg (Uc.c ({Cond:=w.Cond:Uc})),.bool true]) (QbW EK (by intro m;nofun)) ?_;refine Go 24 Z (Bd a λj e a=>Cg j [0,1] [0,2,19,20,21] (λj=>[(81,.bool j.2)]) (λj=>[(0,.cells 242 (Ud.c j.1))]) Zf ?_ ?_)
   .refine G0 7 Z (Is 66 e Z (λO e=>?_) (λO e=>?_))
    .exact Gl 16 Z e [0,1]
    .refine Go 7 Z (Is 73 e Z (λP e=>?_) (λP e=>?_))
     .exact Gl 9 Z e [0,1]
     .refine Go 2 Z (Bd e λal Q e=>?_);refine QX [] (Qfz call245 Z Z Z Z (λ_ _=>by kernel_rfl)) (k_aj _ _ _ Q) ?_ (hg:=(gT Z));rintro _ _ ⟨rfl,rfl⟩;exact Fg 2 Z Z (Cd [0,3] e (g _ _ _) Z λam ag e=>FE Z (Gl 3 Z e [0,1]))
   refine Cn Z a (λR a=>?_) (λR a=>?_)
   .refine Gc 8 Z (Qw a ?_);obtain rfl:=Oj p a;exact Gx 1 Z (Qq (Gx 1 Z (Rt h 6 [0,1])))
   exact Gc 7 Z (Qf a (Lr [0,1]))
 subst ac;exact QG 6 Z h 6 [0,1]
def F_h:Nat->(List Uf)->Int->Ud->Option (Ud×Bool)
  |0=>λ_ _ _=>none
  |n+1=>B_h (F_h n) n
theorem k_h(n:Nat):∀(a:List Uf) (d:Int) (e:Ud) (r:Ud×Bool),F_h n a d e=some r->C prog 175 [.ptr 0 0,.osl 1 0 a.length 1,I d] [.cells 242 (Ud.c e),.row 246 1 (map Uf.enc a)] (RQ (λr=>.bool r.2) (λr=>[.cells 242 (Ud.c r.1),.row 246 1 (map Uf.enc a)]) r):=by
  induction n with
  |zero=>intro a d e r h;cases h
  |succ n ih=>intro a d e r h;exact Qaz _ ih n a d e r h
def F_mv(n:Nat)(m:List Uf)(p:Int)(a:Ud×Int):Option (Ctl (Ud×Int) (Ctl Ud (Ud×Bool))):=(bif decide (a.2<(m.length:Int))then(idx m a.2).bind λq=>Uf.elim q (λg=>((F_ax n ({Cond:=g.Step.Cond:Uc})).bind λr=>(bif (!r)then(F_h n [Uf.ctyping_cond ({Cond:=g.Step.Cond:Uc})] 0 ({steps:=i64.wrap (a.1.steps+1),conds:=a.1.conds:Ud})).bind λh=>some (h.1,(!h.2))else some ({steps:=i64.wrap (a.1.steps+1),conds:=a.1.conds:Ud},false)):Option (Ud×Bool)).bind λd=>(bif d.2 then some (.done (.done (d.1,false)))else((bif decide (64<d.1.steps)then some (d.1,true)else(bif decide (256<d.1.conds)then some (d.1,true)else(F_av n g).bind λk=>(F_h n k (i64.wrap (p+1)) d.1).bind λi=>some (i.1,(!i.2)))):Option (Ud×Bool)).bind λe=>(bif e.2 then some (.done (.done (e.1,false)))else some (.cont (e.1,i64.wrap (a.2+1)))))) (λs=>((bif decide (64<a.1.steps)then some ({steps:=a.1.steps,conds:=i64.wrap (a.1.conds+1):Ud},true)else(bif decide (256<(i64.wrap (a.1.conds+1)))then some ({steps:=a.1.steps,conds:=i64.wrap (a.1.conds+1):Ud},true)else(F_aj n ({Cond:=s.Cond:Uc})).bind λl=>(F_h n l (i64.wrap (p+1)) ({steps:=a.1.steps,conds:=i64.wrap (a.1.conds+1):Ud})).bind λj=>some (j.1,(!j.2)))):Option (Ud×Bool)).bind λf=>(bif f.2 then some (.done (.done (f.1,false)))else some (.cont (f.1,i64.wrap (a.2+1)))))else some (.done (.cont a.1)))
def F_ju(n:Nat)(d:List Uf)(e:Int)(f:Ud):Option (Ud×Bool):=((bif decide (0<(d.length:Int))then some (decide (16<e))else some false):Option Bool).bind λb2=>(bif b2 then some (f,false)else(iter (F_mv n d e) n (f,0):Option (Ctl Ud (Ud×Bool))).bind λg=>match g with|.cont a=>(some (a,true))|.done a=>some a)
theorem k_ju(n:Nat)(Q:List Uf)(R:Int)(T:Ud):Kq (F_ju n Q R T) 175 [.ptr 0 0,.rsl 1 (map Uf.enc Q),I R] [.cells 242 (Ud.c T)] (λr=>.bool r.2) (λr=>[.cells 242 (Ud.c r.1)]):=by
 refine Kg 7 func175 Z Z Z Z λr h=>Bd h λb2 u h=>Ct b2 [0] [0,1,2] (λb2=>[(18,.bool b2)]) Ze Zf ?_ (λenv H l=>?_)
 .refine G0 2 Z (Lg 2 Z Z (Is 15 u Z (λV u=>?_) (λV u=>?_)))
  iterate 2 exact Gl 4 Z u [0]
 refine Gx 1 Z (Qd l (Cn Z h (λW h=>?_) (λW h=>?_)))
 .exact QG 7 Z h 6 [0]
 refine Gc 6 Z (Lg 3 Z Z (Bd h λX Y h=>CgE (b:=X) [0] [] Ze (λw=>[(0,.cells 242 (Ud.c w))]) Zf ?_ (λw aa=>?_)))
 .refine G0 1 Z (Lp [0] [0,2,19,20] (λq=>[(21,I q.2)]) (λq=>[(0,.cells 242 (Ud.c q.1))]) Y Zf (Lr [0]) λq am a k=>?_);refine G0 6 Z (Yd Z a (λN a=>?_) (λN a=>?_))
  .exact Gc 2 Z (Qh a (Gx 1 Z (JB k a Z (Lr [0]))))
  refine Gc 6 Z (Bd a λab O a=>Iz O Z (Go 13 Z ?_));rcases JY ab with⟨j,hE90⟩|⟨t,hE92⟩
  .have a:=JN hE90 a;refine QH (Q7 (s:=8) (a':=.iface 249 (.agg (Uh.c j))) Z (congrArg Uf.val hE90)) ?_;refine QH (Q7 (s:=24) (a':=.iface 249 (.agg (Uh.c j))) Z (congrArg Uf.val hE90)) ?_;refine QH (Q7 (s:=25) (a':=.iface 249 (.agg (Uh.c j))) Z (congrArg Uf.val hE90)) ?_;refine vX (.tup [.agg [I 0,I 0,I 0,.rsl 4 (map Cond.enc [])],.bool false]) (Qi0 (z:=(.agg [I 0,I 0,I 0,.rsl 4 (map Cond.enc [])])) EK (by intro m;nofun) Z GL (zrC Z)) ?_;refine Go 7 Z ?_;refine vX (.tup [.agg (Uh.c j),.bool true]) (QbW Gp (by intro m;nofun)) ?_;refine Go 34 Z (Bd a λp f a=>Ct p [0] [0,2,8,19,20,21] (λp=>[(60,.bool p.2)]) (λp=>[(0,.cells 242 (Ud.c p.1))]) Zf ?_ (λenv H l=>?_))
   .refine G0 2 Z (Cz [] f (k_ax _ _) Z λan ag f=>Go 2 Z (Is 53 f Z (λP f=>?_) (λP f=>?_)))
    .refine Go 2 Z ?_;refine vX (.iface 301 (.agg (Uc.c ({Cond:=j.Step.Cond:Uc})))) (Qat Z EK (by intro m;nofun) Z) ?_ (gT Z);refine vH (Ej (xs:=[.tmp 56]) (es:=map Uf.enc [Uf.ctyping_cond ({Cond:=j.Step.Cond:Uc})]) Qdf Z Z Z Z Z ⟨Z,trivial⟩ Z Z) ?_ (gT Z);exact FE Z (Cd [0,3] f (k_h _ _ _ _) Z λah ac f=>FE Z (Gl 3 Z f [0]))
    .exact Gl 8 Z f [0]
   refine Gx 1 Z (Qd l (Cn Z a (λx a=>?_) (λx a=>?_)))
   .refine Gc 10 Z (Qw a ?_);obtain rfl:=Oj k a;exact Gx 1 Z (Qq (Gx 1 Z (Rt h 6 [0])))
   refine Gc 4 Z (Bd a λg d a=>Ct g [0] [0,2,19,20,21] (λg=>[(81,.bool g.2)]) (λg=>[(0,.cells 242 (Ud.c g.1))]) Zf ?_ (λenv H l=>?_))
   .refine G0 7 Z (Is 66 d Z (λy d=>?_) (λy d=>?_))
    .exact Gl 16 Z d [0]
    .refine Go 7 Z (Is 73 d Z (λB d=>?_) (λB d=>?_))
     .exact Gl 9 Z d [0]
     .refine Go 2 Z (Bd d λai E d=>?_);refine QX [] (Qfz call246 Z Z Z Z (λ_ _=>by kernel_rfl)) (k_av _ _ _ E) ?_ (hg:=(gT Z));rintro _ _ ⟨rfl,rfl⟩;exact Fg 2 Z Z (Cd [0,1] d (k_h _ _ _ _) Z λaj ae d=>FE Z (Gl 3 Z d [0]))
   refine Gx 1 Z (Qd l (Cn Z a (λF a=>?_) (λF a=>?_)))
   .refine Gc 8 Z (Qw a ?_);obtain rfl:=Oj k a;exact Gx 1 Z (Qq (Gx 1 Z (Rt h 6 [0])))
   exact Gc 7 Z (Qf a (Lr [0]))
  .have a:=JM hE92 a;refine QH (Q7 (s:=8) (a':=.iface 301 (.agg (Uc.c ({Cond:=t.Cond:Uc})))) Z (congrArg Uf.val hE92)) ?_;refine QH (Q7 (s:=24) (a':=.iface 301 (.agg (Uc.c ({Cond:=t.Cond:Uc})))) Z (congrArg Uf.val hE92)) ?_;refine QH (Q7 (s:=25) (a':=.iface 301 (.agg (Uc.c ({Cond:=t.Cond:Uc})))) Z (congrArg Uf.val hE92)) ?_;refine vX (.tup [.agg (Uc.c ({Cond:=t.Cond:Uc})),.bool true]) (QbW EK (by intro m;nofun)) ?_;refine Go 24 Z (Bd a λi e a=>Cg i [0] [0,2,19,20,21] (λi=>[(81,.bool i.2)]) (λi=>[(0,.cells 242 (Ud.c i.1))]) Zf ?_ ?_)
   .refine G0 7 Z (Is 66 e Z (λG e=>?_) (λG e=>?_))
    .exact Gl 16 Z e [0]
    .refine Go 7 Z (Is 73 e Z (λJ e=>?_) (λJ e=>?_))
     .exact Gl 9 Z e [0]
     .refine Go 2 Z (Bd e λak L e=>?_);refine QX [] (Qfz call245 Z Z Z Z (λ_ _=>by kernel_rfl)) (k_aj _ _ _ L) ?_ (hg:=(gT Z));rintro _ _ ⟨rfl,rfl⟩;exact Fg 2 Z Z (Cd [0,2] e (k_h _ _ _ _) Z λal af e=>FE Z (Gl 3 Z e [0]))
   refine Cn Z a (λM a=>?_) (λM a=>?_)
   .refine Gc 8 Z (Qw a ?_);obtain rfl:=Oj k a;exact Gx 1 Z (Qq (Gx 1 Z (Rt h 6 [0])))
   exact Gc 7 Z (Qf a (Lr [0]))
 subst aa;exact QG 6 Z h 6 [0]
def F_hl(rec94:(List Uf)->Option Bool)(n:Nat)(a:Uc):Option Bool:=((bif (a.Cond.Var==0)then some (a.Cond.N==0)else some false):Option Bool).bind λb2=>(bif (a.Cond.Kind==1)then((F_a n 1 3 [a.Cond.Var]).bind λe=>(bif e then(F_a n 0 10000 [a.Cond.N]).bind λf=>(bif f then some ((a.Cond.Parts.length:Int)==0)else some false)else some false):Option Bool).bind λg=>some g else((bif (a.Cond.Kind==4)then(bif b2 then some (.cont ((a.Cond.Parts.length:Int)==1))else some (.cont false))else((bif (a.Cond.Kind==2)then some (a.Cond.Kind==2)else some (a.Cond.Kind==3)):Option Bool).bind λh=>(bif h then(bif b2 then(bif decide (0<(a.Cond.Parts.length:Int))then some (.cont (decide ((a.Cond.Parts.length:Int)<=16)))else some (.cont false))else some (.cont false))else some (.done false))):Option (Ctl Bool Bool)).bind λi=>match i with|.cont d=>(((bif d then(F_aj n ({Cond:=a.Cond:Uc})).bind λj=>(rec94 j).bind λk=>some (!k)else some false):Option Bool).bind λl=>some l)|.done d=>some d)
theorem k_hl(rec94:(List Uf)->Option Bool)(j:∀(g:List Uf) (r:Bool),rec94 g=some r->Csm prog 176 [.rsl 1 (map Uf.enc g),.fn (.func 177) [] []] [] (λr=>.bool r) r)(n:Nat)(g:Uc):Ks (F_hl rec94 n g) 226 [.iface 301 (.agg (Uc.c ({Cond:=g.Cond:Uc})))] [] (λr=>.bool r):=by
 refine Kg 14 func226 Z Z Z Z λr h=>?_;refine vX (.tup [.agg (Uc.c ({Cond:=g.Cond:Uc})),.bool true]) (QbW EK (by intro m;nofun)) ?_;refine Go 12 Z (Bd h λb2 k h=>Ct b2 [0] [3] (λb2=>[(4,.bool b2)]) Ze Zf ?_ (λenv H f=>?_))
 .refine G0 6 Z (Is 15 k Z (λG k=>?_) (λG k=>?_))
  iterate 2 exact Gl 7 Z k [0]
 refine Gx 1 Z (Qd f (Gc 15 Z (Cn Z h (λJ h=>?_) (λJ h=>?_))))
 .refine Gc 1 Z (Bd h λl d h=>Ct l [] [] (λl=>[(2,.bool l)]) Ze Zf ?_ (λenv H f=>?_))
  .refine G0 4 Z (vH (Ej (xs:=[.tmp 28]) (es:=map (Qe .i64) [g.Cond.Var]) Qv Z Z Z Z Z ⟨Z,trivial⟩ Z Z) ?_);refine FE Z (Cb d (k_a _ _ _ _) Z (ls (ls (lo ln))) λR M d=>Go 1 Z (Is 31 d Z (λt d=>?_) (λt d=>?_)))
   .refine Go 3 Z (vH (Ej (xs:=[.tmp 34]) (es:=map (Qe .i64) [g.Cond.N]) Qv Z Z Z Z Z ⟨Z,trivial⟩ Z Z) ?_ (gT Z));refine FE Z (Cb d (k_a _ _ _ _) Z (ls (ls (lo ln))) λT O d=>Go 2 Z (Is 38 d Z (λu d=>?_) (λu d=>?_)))
    .exact Go 3 Z (Lm Z (Gl 4 Z d []))
    .exact Gl 8 Z d []
   .exact Gl 15 Z d []
  exact Gx 1 Z (Qd f (QG 5 Z h 2 []))
 refine Gc 6 Z (Bd h λL a h=>CtE (b:=L) [0] [3] (λp=>[(4,.bool p)]) Ze Zf ?_ (λp env H hb f=>?_))
 .refine G0 0 Z (Cn Z a (λw a=>?_) (λw a=>?_))
  .refine Gc 3 Z (Is 48 a Z (λx a=>?_) (λx a=>?_))
   .refine Go 3 Z (Lg 4 Z Z ?_);cases a;exact Y3 Z (Lr [0])
   .refine Go 8 Z ?_;cases a;exact Y3 Z (Lr [0])
  refine Gc 7 Z (Bd a λq i a=>Ct q [0] [3,4] (λq=>[(55,.bool q)]) Ze Zf ?_ (λenv H f=>?_))
  .refine G0 0 Z (Cn Z i (λy i=>?_) (λy i=>?_))
   .exact YC 1 Z i [0]
   exact YC 4 Z i [0]
  refine Gx 1 Z (Qd f (Yd Z a (λz a=>?_) (λz a=>?_)))
  .refine Gc 6 Z ?_;cases a;exact Qq (Gx 4 Z (Rt h 2 []))
  refine Gc 3 Z (Is 59 a Z (λB a=>?_) (λB a=>?_))
  .refine Go 3 Z (Lg 3 Z Z (Is 66 a Z (λE a=>?_) (λE a=>?_)))
   .refine Go 3 Z (Lg 4 Z Z ?_);cases a;exact Y3 Z (Lr [0])
   .refine Go 8 Z ?_;cases a;exact Y3 Z (Lr [0])
  .refine Go 15 Z ?_;cases a;exact Y3 Z (Lr [0])
 subst hb;refine Gx 2 Z (Qd f (Gc 1 Z (Bd h λs e h=>Cg s [] [] (λs=>[(2,.bool s)]) Ze Zf ?_ ?_)))
 .refine G0 3 Z (Is 74 e Z (λF e=>?_) (λF e=>?_))
  .exact Go 1 Z (Cd [] e (k_aj _ _) Z λV P e=>FE Z (Cb e (j _) Z (lo (ls ln)) λW Q e=>Gl 4 Z e []))
  .exact Gl 7 Z e []
 exact QG 3 Z h 2 []
def F_jd(rec94:(List Uf)->Option Bool)(n:Nat)(z:Uf):Option Bool:=Uf.elim z (λd=>(bif (d.Step.Kind==1)then((F_a n 1 5 [d.Step.By]).bind λg=>(bif g then(F_ax n ({Cond:=d.Step.Cond:Uc})).bind λh=>(bif h then(F_av n d).bind λi=>some ((i.length:Int)==0)else some false)else some false):Option Bool).bind λj=>some j else(bif (d.Step.Kind==2)then((bif (d.Step.By==0)then(F_hl rec94 n ({Cond:=d.Step.Cond:Uc})).bind λk=>(bif k then(bif decide (0<(d.Step.Then.length:Int))then(F_av n d).bind λl=>(rec94 l).bind λm=>some (!m)else some false)else some false)else some false):Option Bool).bind λp=>some p else some false))) (λa=>((bif (a.Cond.Var==0)then some (a.Cond.N==0)else some false):Option Bool).bind λf=>(bif (a.Cond.Kind==1)then((F_a n 1 3 [a.Cond.Var]).bind λq=>(bif q then(F_a n 0 10000 [a.Cond.N]).bind λr=>(bif r then some ((a.Cond.Parts.length:Int)==0)else some false)else some false):Option Bool).bind λs=>some s else((bif (a.Cond.Kind==4)then(bif f then some (.cont ((a.Cond.Parts.length:Int)==1))else some (.cont false))else((bif (a.Cond.Kind==2)then some (a.Cond.Kind==2)else some (a.Cond.Kind==3)):Option Bool).bind λt=>(bif t then(bif f then(bif decide (0<(a.Cond.Parts.length:Int))then some (.cont (decide ((a.Cond.Parts.length:Int)<=16)))else some (.cont false))else some (.cont false))else some (.done false))):Option (Ctl Bool Bool)).bind λu=>match u with|.cont e=>(((bif e then(F_aj n ({Cond:=a.Cond:Uc})).bind λw=>(rec94 w).bind λx=>some (!x)else some false):Option Bool).bind λy=>some y)|.done e=>some e))
theorem k_jd(rec94:(List Uf)->Option Bool)(j:∀(p:List Uf) (r:Bool),rec94 p=some r->Csm prog 176 [.rsl 1 (map Uf.enc p),.fn (.func 177) [] []] [] (λr=>.bool r) r)(n:Nat)(p:Uf):Ks (F_jd rec94 n p) 226 [Uf.val p] [] (λr=>.bool r):=by
 refine Kg 14 func226 Z Z Z Z λr h=>?_;rcases JY p with⟨q,hE2⟩|⟨t,hE4⟩
 .have h:=JN hE2 h;refine QH (Q7 (s:=0) (a':=.iface 249 (.agg (Uh.c q))) Z (congrArg Uf.val hE2)) ?_;refine QH (Q7 (s:=7) (a':=.iface 249 (.agg (Uh.c q))) Z (congrArg Uf.val hE2)) ?_;refine vX (.tup [.agg [I 0,I 0,I 0,.rsl 4 (map Cond.enc [])],.bool false]) (Qi0 (z:=(.agg [I 0,I 0,I 0,.rsl 4 (map Cond.enc [])])) EK (by intro m;nofun) Z GL (zrC Z)) ?_;refine Go 7 Z ?_;refine vX (.tup [.agg (Uh.c q),.bool true]) (QbW Gp (by intro m;nofun)) ?_;refine Go 35 Z (Cn Z h (λaf h=>?_) (λaf h=>?_))
  .refine Gc 1 Z (Bd h λu e h=>Ct u [] [] (λu=>[(2,.bool u)]) Ze Zf ?_ (λenv H g=>?_))
   .refine G0 4 Z (vH (Ej (xs:=[.tmp 94]) (es:=map (Qe .i64) [q.Step.By]) Qv Z Z Z Z Z ⟨Z,trivial⟩ Z Z) ?_);refine FE Z (Cb e (k_a _ _ _ _) Z (ls (ls (lo ln))) λau ah e=>Go 1 Z (Is 97 e Z (λG e=>?_) (λG e=>?_)))
    .refine Go 1 Z (Cz [] e (k_ax _ _) Z λav ai e=>Go 2 Z (Is 101 e Z (λJ e=>?_) (λJ e=>?_)))
     .exact Go 1 Z (Cd [] e (k_av _ _) Z λaw aj e=>FE Z (Gl 5 Z e []))
     .exact Gl 7 Z e []
    .exact Gl 11 Z e []
   exact Gx 1 Z (Qd g (QG 4 Z h 2 []))
  refine Gc 6 Z (Cn Z h (λL h=>?_) (λL h=>?_))
  .refine Gc 1 Z (Bd h λw d h=>Ct w [] [] (λw=>[(2,.bool w)]) Ze Zf ?_ (λenv H g=>?_))
   .refine G0 6 Z (Is 113 d Z (λM d=>?_) (λM d=>?_))
    .refine Go 1 Z ?_;refine vX (.iface 301 (.agg (Uc.c ({Cond:=q.Step.Cond:Uc})))) (Qat Z EK (by intro m;nofun) Z) ?_ (gT Z);refine Cz [] d (k_hl rec94 j _ _) Z λax ak d=>Go 2 Z (Is 118 d Z (λO d=>?_) (λO d=>?_))
     .refine Go 3 Z (Lg 3 Z Z (Is 125 d Z (λP d=>?_) (λP d=>?_)))
      .exact Go 1 Z (Cd [] d (k_av _ _) Z λay al d=>FE Z (Cb d (j _) Z (lo (ls ln)) λaz am d=>Gl 4 Z d []))
      .exact Gl 7 Z d []
     .exact Gl 14 Z d []
    .exact Gl 19 Z d []
   exact Gx 1 Z (Qd g (QG 4 Z h 2 []))
  exact QG 10 Z h 2 []
 .have h:=JM hE4 h;refine QH (Q7 (s:=0) (a':=.iface 301 (.agg (Uc.c ({Cond:=t.Cond:Uc})))) Z (congrArg Uf.val hE4)) ?_;refine QH (Q7 (s:=7) (a':=.iface 301 (.agg (Uc.c ({Cond:=t.Cond:Uc})))) Z (congrArg Uf.val hE4)) ?_;refine vX (.tup [.agg (Uc.c ({Cond:=t.Cond:Uc})),.bool true]) (QbW EK (by intro m;nofun)) ?_;refine Go 12 Z (Bd h λx k h=>Ct x [0] [3] (λx=>[(4,.bool x)]) Ze Zf ?_ (λenv H g=>?_))
  .refine G0 6 Z (Is 15 k Z (λQ k=>?_) (λQ k=>?_))
   iterate 2 exact Gl 7 Z k [0]
  refine Gx 1 Z (Qd g (Gc 15 Z (Cn Z h (λR h=>?_) (λR h=>?_))))
  .refine Gc 1 Z (Bd h λy f h=>Ct y [] [] (λy=>[(2,.bool y)]) Ze Zf ?_ (λenv H g=>?_))
   .refine G0 4 Z (vH (Ej (xs:=[.tmp 28]) (es:=map (Qe .i64) [t.Cond.Var]) Qv Z Z Z Z Z ⟨Z,trivial⟩ Z Z) ?_);refine FE Z (Cb f (k_a _ _ _ _) Z (ls (ls (lo ln))) λba an f=>Go 1 Z (Is 31 f Z (λT f=>?_) (λT f=>?_)))
    .refine Go 3 Z (vH (Ej (xs:=[.tmp 34]) (es:=map (Qe .i64) [t.Cond.N]) Qv Z Z Z Z Z ⟨Z,trivial⟩ Z Z) ?_ (gT Z));refine FE Z (Cb f (k_a _ _ _ _) Z (ls (ls (lo ln))) λbb ao f=>Go 2 Z (Is 38 f Z (λV f=>?_) (λV f=>?_)))
     .exact Go 3 Z (Lm Z (Gl 4 Z f []))
     .exact Gl 8 Z f []
    .exact Gl 15 Z f []
   exact Gx 1 Z (Qd g (QG 5 Z h 2 []))
  refine Gc 6 Z (Bd h λag a h=>CtE (b:=ag) [0] [3] (λB=>[(4,.bool B)]) Ze Zf ?_ (λB env H hb g=>?_))
  .refine G0 0 Z (Cn Z a (λW a=>?_) (λW a=>?_))
   .refine Gc 3 Z (Is 48 a Z (λX a=>?_) (λX a=>?_))
    .refine Go 3 Z (Lg 4 Z Z ?_);cases a;exact Y3 Z (Lr [0])
    .refine Go 8 Z ?_;cases a;exact Y3 Z (Lr [0])
   refine Gc 7 Z (Bd a λE l a=>Ct E [0] [3,4] (λE=>[(55,.bool E)]) Ze Zf ?_ (λenv H g=>?_))
   .refine G0 0 Z (Cn Z l (λY l=>?_) (λY l=>?_))
    .exact YC 1 Z l [0]
    exact YC 4 Z l [0]
   refine Gx 1 Z (Qd g (Yd Z a (λaa a=>?_) (λaa a=>?_)))
   .refine Gc 6 Z ?_;cases a;exact Qq (Gx 4 Z (Rt h 2 []))
   refine Gc 3 Z (Is 59 a Z (λab a=>?_) (λab a=>?_))
   .refine Go 3 Z (Lg 3 Z Z (Is 66 a Z (λac a=>?_) (λac a=>?_)))
    .refine Go 3 Z (Lg 4 Z Z ?_);cases a;exact Y3 Z (Lr [0])
    .refine Go 8 Z ?_;cases a;exact Y3 Z (Lr [0])
   .refine Go 15 Z ?_;cases a;exact Y3 Z (Lr [0])
  subst hb;refine Gx 2 Z (Qd g (Gc 1 Z (Bd h λF i h=>Cg F [] [] (λF=>[(2,.bool F)]) Ze Zf ?_ ?_)))
  .refine G0 3 Z (Is 74 i Z (λae i=>?_) (λae i=>?_))
   .exact Go 1 Z (Cd [] i (k_aj _ _) Z λbc aq i=>FE Z (Cb i (j _) Z (lo (ls ln)) λbd ar i=>Gl 4 Z i []))
   .exact Gl 7 Z i []
  exact QG 3 Z h 2 []
def F_hc(rec94:(List Uf)->Option Bool)(n:Nat)(a:Uf):Option Bool:=(F_jd rec94 n a).bind λd=>some (!d)
theorem k_hc(rec94:(List Uf)->Option Bool)(a:∀(d:List Uf) (r:Bool),rec94 d=some r->Csm prog 176 [.rsl 1 (map Uf.enc d),.fn (.func 177) [] []] [] (λr=>.bool r) r)(n:Nat)(d:Uf):Ks (F_hc rec94 n d) 177 [Uf.val d] [] (λr=>.bool r):=by
 exact Kg 8 func177 Z Z Z Z λr h=>Bd h λf e h=>Pc [] Z (OpC.fn call226 Z Z Z) (k_jd rec94 a _ _ _ e) (hargs:=by first|exact Z|exact Eq.trans (by exact Z) (Qac _ (by simp[Yu,YL,Uf.data])).symm) Z (Gt 5 Z h 2 [])
def F_mr(n:Nat)(d:List Uf)(rec94:(List Uf)->Option Bool)(a:Int):Option (Ctl Int (Ctl Unit Int)):=(bif decide (a<(d.length:Int))then(idx d a).bind λe=>(F_hc rec94 n e).bind λf=>(bif f then some (.done (.done a))else some (.cont (i64.wrap (a+1))))else some (.done (.cont ())))
def F_kp(rec94:(List Uf)->Option Bool)(n:Nat)(e:List Uf):Option Int:=(iter (F_mr n e rec94) n 0:Option (Ctl Unit Int)).bind λd=>match d with|.cont a=>(some (-1))|.done a=>some a
theorem k_kp(rec94:(List Uf)->Option Bool)(d:∀(e:List Uf) (r:Bool),rec94 e=some r->Csm prog 176 [.rsl 1 (map Uf.enc e),.fn (.func 177) [] []] [] (λr=>.bool r) r)(n:Nat)(e:List Uf):Ks (F_kp rec94 n e) 225 [.rsl 1 (map Uf.enc e),.fn (.func 177) [] []] [] (λr=>I r):=by
 refine Kg 9 func225 Z Z Z Z λr h=>Lg 3 Z Z (Bd h λm p h=>CgE (b:=m) [] [] Ze Ze Zf ?_ (λs q=>?_))
 .refine G0 1 Z (Lp [] [0,1,7] (λg=>[(8,I g)]) Ze p Zf (Lr []) λg t a f=>?_);refine G0 6 Z (Yd Z a (λi a=>?_) (λi a=>?_))
  .exact Gc 2 Z (Qh a (Gx 1 Z (JB f a Z (Lr []))))
  refine Gc 15 Z (Bd a λu j a=>Iz j Z (Go 1 Z (Bd a λw k a=>Pc [] Z (Qea call177 Z Z Z Z) (k_hc rec94 d _ _ _ k) (hargs:=by first|exact Z|exact Eq.trans (by exact Z) (Qac _ (by simp[Yu,YL,Uf.data])).symm) Z (Go 2 Z (Cn Z a (λl a=>?_) (λl a=>?_))))))
  .refine Gc 9 Z (Qw a ?_);obtain rfl:=Oj f a;exact Gx 1 Z (Qq (Gx 1 Z (Rt h 4 [])))
  exact Gc 7 Z (Qf a (Lr []))
 subst q;exact QG 6 Z h 4 []
def B_ah(rec94:(List Uf)->Option Bool)(n:Nat)(a:List Uf):Option Bool:=(F_kp rec94 n a).bind λd=>some (decide (0<=d))
theorem QaA(rec94:(List Uf)->Option Bool)(a:∀(d:List Uf) (r:Bool),rec94 d=some r->Csm prog 176 [.rsl 1 (map Uf.enc d),.fn (.func 177) [] []] [] (λr=>.bool r) r)(n:Nat)(d:List Uf)(r:Bool)(h:B_ah rec94 n d=some r):Csm prog 176 [.rsl 1 (map Uf.enc d),.fn (.func 177) [] []] [] (λr=>.bool r) r:=by
 refine QF func176 Z Z Z ?_;exact G0 9 Z (Cz [] h (k_kp rec94 a _ _) Z λf e h=>Gt 5 Z h 4 [])
def F_ah:Nat->(List Uf)->Option Bool
  |0=>λ_=>none
  |n+1=>B_ah (F_ah n) n
theorem k_ah(n:Nat):∀(a:List Uf) (r:Bool),F_ah n a=some r->Csm prog 176 [.rsl 1 (map Uf.enc a),.fn (.func 177) [] []] [] (λr=>.bool r) r:=by
  induction n with
  |zero=>intro a r h;cases h
  |succ n ih=>intro a r h;exact QaA _ ih n a r h
def F_jf(n:Nat)(a:List Uf):Option Int:=(F_ju n a 0 ({steps:=0,conds:=0:Ud})).bind λd=>(bif (!d.2)then some 2 else((bif ((a.length:Int)==0)then some true else(F_ah n a).bind λe=>some e):Option Bool).bind λf=>(bif f then some 71 else some 0))
theorem k_jf(n:Nat)(e:List Uf):Ks (F_jf n e) 113 [.rsl 1 (map Uf.enc e)] [] (λr=>I r):=by
 refine Kg 17 func113 Z Z Z Z λr h=>Cd [0] h (k_ju _ _ _ _) Z λl j h=>Fg 3 Z Z (Cn Z h (λf h=>?_) (λf h=>?_))
 .exact QG 7 Z h 2 []
 refine Gc 4 Z (Bd h λd a h=>Cg d [] [] (λd=>[(16,.bool d)]) Ze Zf ?_ ?_)
 .refine G0 2 Z (Lg 2 Z Z (Is 13 a Z (λg a=>?_) (λg a=>?_)))
  .exact Gl 4 Z a []
  .exact Go 1 Z (Cz [] a (k_ah _ _) Z λm k a=>Gl 2 Z a [])
 refine Cn Z h (λi h=>?_) (λi h=>?_)
 .exact QG 7 Z h 2 []
 exact QG 8 Z h 2 []
def F_fz(n:Nat)(a:List Step):Option Int:=(F_bi n a).bind λd=>(F_jf n d).bind λe=>some e
theorem k_fz(n:Nat)(a:List Step):Ks (F_fz n a) 52 [.rsl 8 (map Step.enc a)] [] (λr=>I r):=by
 exact Kg 8 func52 Z Z Z Z λr h=>Cd [] h (k_bi _ _) Z λf d h=>FE Z (Cb h (k_jf _ _) Z (lo ln) λg e h=>Gt 4 Z h 2 [])
def F_gc(n:Nat)(d:Part)(e:List Int)(a:(List Int)×Int):Option (Ctl ((List Int)×Int) (Ctl (List Int) (Ctl ((List Int)×Int) (Ctl (List Int) (List Int))))):=(bif decide (a.2<(if d.Laps<1 then 1 else d.Laps))then(bif decide (256<(a.1.length:Int))then some (.done (.done (.done (.done a.1))))else(app a.1 e).bind λf=>some (.cont (f,i64.wrap (a.2+1))))else some (.done (.cont a.1)))
def F_gy(n:Nat)(f:List Part)(rec113:(List Part)->Option (List Int))(a:(List Int)×Int):Option (Ctl ((List Int)×Int) (Ctl (List Int) (List Int))):=(bif decide (a.2<(f.length:Int))then(idx f a.2).bind λe=>((bif decide (0<e.Laps)then(rec113 e.Parts).bind λg=>some g else some [e.Mat]):Option (List Int)).bind λh=>(iter (F_gc n e h) n (a.1,0):Option (Ctl (List Int) (Ctl ((List Int)×Int) (Ctl (List Int) (List Int))))).bind λi=>match i with|.cont d=>(some (.cont (d,i64.wrap (a.2+1))))|.done d=>some d else some (.done (.cont a.1)))
def B_z(rec113:(List Part)->Option (List Int))(n:Nat)(e:List Part):Option (List Int):=(iter (F_gy n e rec113) n ([],0):Option (Ctl (List Int) (List Int))).bind λd=>match d with|.cont a=>(some a)|.done a=>some a
theorem QdD(rec113:(List Part)->Option (List Int))(u:∀(w:List Part) (r:List Int),rec113 w=some r->C prog 117 [.rsl 3 (map Part.enc w)] [] (RQ (λr=>.osl 0 0 r.length 1) (λr=>[.row 3 1 (map (Qe .i64) r)]) r))(n:Nat)(w:List Part)(r:List Int)(h:B_z rec113 n w=some r):C prog 117 [.rsl 3 (map Part.enc w)] [] (RQ (λr=>.osl 0 0 r.length 1) (λr=>[.row 3 1 (map (Qe .i64) r)]) r):=by
 refine QF func117 Z Z Z ?_;refine G0 9 Z (Lg 3 Z Z (Bd h λN O h=>CgE (b:=N) [0] [] (λg=>[(2,.osl 0 0 g.length 1)]) (λg=>[(0,.row 3 1 (map (Qe .i64) g))]) Zf ?_ (λg x=>?_)))
 .refine G0 1 Z (Lp [0] [6,7] (λl=>[(2,.osl 0 0 l.1.length 1),(8,I l.2)]) (λl=>[(0,.row 3 1 (map (Qe .i64) l.1))]) O Zf ?_ ?_)
  .refine Em (Eo (s:=2) (k:=1) (t:=3) (XO Z) Z) ?_;exact Lr [0]
  intro l T a y;refine G0 6 Z (Yd Z a (λE a=>?_) (λE a=>?_))
  .exact Gc 2 Z (Qh a (Gx 1 Z (JB y a Z (Lr [0]))))
  refine Gc 6 Z (Bd a λq F a=>IzE F (Yb q) Z (Go 9 Z (vH (Ej (xs:=[.tmp 13]) (es:=map (Qe .i64) [q.Mat]) Qv Z Z Z Z Z ⟨Z,trivial⟩ Z Z) ?_)));refine Fg 11 Z Z (Bd a λm f a=>Ct m [0,1,0] [2,4,6,7,8] (λm=>[(5,.osl 2 0 m.length 1)]) (λm=>[(2,.row 3 1 (map (Qe .i64) m))]) Zf ?_ (λenv H z=>?_))
  .refine G0 0 Z (Cn Z f (λG f=>?_) (λG f=>?_))
   .exact Gc 3 Z (Cd [] f (u _) Z λV R f=>FE Z (Gl 2 Z f [0,1,3]))
   exact YC 1 Z f [0,1,2]
  refine Gx 1 Z (Qd z (Gc 4 Z ?_));refine vX (I (if q.Laps<1 then 1 else q.Laps)) (OpV.max Z Z Z Z) ?_;refine Go 3 Z (Bd a λP Q a=>CtE (b:=P) [0] [6,7,8] (λj=>[(2,.osl 0 0 j.length 1)]) (λj=>[(0,.row 3 1 (map (Qe .i64) j))]) Zf ?_ (λj env H x z=>?_))
  .refine G0 1 Z (Lp [0,2] [5,6,7,8,23] (λp=>[(2,.osl 0 0 p.1.length 1),(24,I p.2)]) (λp=>[(0,.row 3 1 (map (Qe .i64) p.1))]) Q Zf (Lr [0,2]) λp W d B=>?_);refine G0 6 Z (Yd Z d (λJ d=>?_) (λJ d=>?_))
   .exact Gc 2 Z (Qh d (Gx 1 Z (JB B d Z (Lr [0]))))
   refine Gc 12 Z (Cn Z d (λL d=>?_) (λL d=>?_))
   .refine Gc 10 Z (Qw d ?_);obtain rfl:=Oj B d;refine Gx 1 Z (Qq (Gx 2 Z (Qw a ?_)));obtain rfl:=Oj y a;exact Gx 1 Z (Qq (Gx 1 Z (Rt h 2 [0])))
   refine Gc 5 Z (Bd d λX M d=>vH (Qg (e:=(Qe .i64)) M Qv EC (QM (i:=1))) ?_);exact Fg 8 Z Z (Qf d (Lr [2,1]))
  subst x;exact Gx 2 Z (Qd z (Gc 4 Z (Qf a (Lr [0]))))
 subst x;exact QG 7 Z h 2 [0]
def F_z:Nat->(List Part)->Option (List Int)
  |0=>λ_=>none
  |n+1=>B_z (F_z n) n
theorem k_z(n:Nat):∀(a:List Part) (r:List Int),F_z n a=some r->C prog 117 [.rsl 3 (map Part.enc a)] [] (RQ (λr=>.osl 0 0 r.length 1) (λr=>[.row 3 1 (map (Qe .i64) r)]) r):=by
  induction n with
  |zero=>intro a r h;cases h
  |succ n ih=>intro a r h;exact QdD _ ih n a r h
def F_dy(n:Nat)(a:Cutoff)(d:List (Int×Int)):Option Bool:=(some (Qy d a.Mat 0)).bind λe=>some (decide (a.Lap<=e))
theorem k_dy(n:Nat)(a:Cutoff)(d:List (Int×Int)):Ks (F_dy n a d) 118 [.agg (Cutoff.c a),.ptr 0 0] [.cells 193 [.map 1],.map (Qx (λx=>A.int .i64 x) (λx=>A.int .i64 x) d)] (λr=>.bool r):=by
 refine Kg 11 func118 Z Z Z Z λr h=>Bd h λf e h=>?_;refine vX (I f) (YM (ev:=(λx=>A.int .i64 x)) (z0:=0) (k:=a.Mat) (l:=d) JF e Gw GF ZR.int) ?_;exact Gt 7 Z h 3 [0,1]
def F_ie(n:Nat)(a:Cutoff)(d:List (Int×Int)):Option Bool:=(F_dy n a d).bind λe=>some (!e)
theorem k_ie(n:Nat)(a:Cutoff)(d:List (Int×Int)):Ks (F_ie n a d) 162 [.agg (Cutoff.c a),.ptr 0 0] [.cells 167 [.fn (.func 118) [] [.ptr 1 0]],.cells 193 [.map 2],.map (Qx (λx=>A.int .i64 x) (λx=>A.int .i64 x) d)] (λr=>.bool r):=by
 exact Kg 10 func162 Z Z Z Z λr h=>Cz [1,2] h (k_dy _ _ _) Z λf e h=>Gt 5 Z h 3 [0,1,2]
def F_nd(n:Nat)(d:List Cutoff)(g:List (Int×Int))(a:Int):Option (Ctl Int (Ctl Unit Int)):=(bif decide (a<(d.length:Int))then(idx d a).bind λe=>(F_ie n e g).bind λf=>(bif f then some (.done (.done a))else some (.cont (i64.wrap (a+1))))else some (.done (.cont ())))
def F_ir(n:Nat)(e:List Cutoff)(f:List (Int×Int)):Option Int:=(iter (F_nd n e f) n 0:Option (Ctl Unit Int)).bind λd=>match d with|.cont a=>(some (-1))|.done a=>some a
theorem k_ir(n:Nat)(j:List Cutoff)(k:List (Int×Int)):Ks (F_ir n j k) 217 [.rsl 3 (map Cutoff.c j),.fn (.func 162) [] [.ptr 0 0]] [.cells 167 [.fn (.func 118) [] [.ptr 1 0]],.cells 193 [.map 2],.map (Qx (λx=>A.int .i64 x) (λx=>A.int .i64 x) k)] (λr=>I r):=by
 refine Kg 9 func217 Z Z Z Z λr h=>Lg 3 Z Z (Bd h λl m h=>CgE (b:=l) [0,1,2] [] Ze Ze Zf ?_ (λq p=>?_))
 .refine G0 1 Z (Lp [0,1,2] [0,1,7] (λe=>[(8,I e)]) Ze m Zf (Lr [0,1,2]) λe t a d=>?_);refine G0 6 Z (Yd Z a (λf a=>?_) (λf a=>?_))
  .exact Gc 2 Z (Qh a (Gx 1 Z (JB d a Z (Lr [0,1,2]))))
  refine Gc 15 Z (Bd a λu g a=>Iz g Z (Go 1 Z (Cz [0,1,2] a (k_ie _ _ _) Z λw s a=>Go 2 Z (Cn Z a (λi a=>?_) (λi a=>?_)))))
  .refine Gc 9 Z (Qw a ?_);obtain rfl:=Oj d a;exact Gx 1 Z (Qq (Gx 1 Z (Rt h 4 [0,1,2])))
  exact Gc 7 Z (Qf a (Lr [0,1,2]))
 subst p;exact QG 6 Z h 4 [0,1,2]
def F_kn(n:Nat)(a:List Cutoff)(d:List (Int×Int)):Option Bool:=(F_ir n a d).bind λe=>some (decide (0<=e))
theorem k_kn(n:Nat)(a:List Cutoff)(d:List (Int×Int)):Ks (F_kn n a d) 161 [.rsl 3 (map Cutoff.c a),.fn (.func 162) [] [.ptr 0 0]] [.cells 167 [.fn (.func 118) [] [.ptr 1 0]],.cells 193 [.map 2],.map (Qx (λx=>A.int .i64 x) (λx=>A.int .i64 x) d)] (λr=>.bool r):=by
 exact Kg 9 func161 Z Z Z Z λr h=>Cz [0,1,2] h (k_ir _ _ _) Z λf e h=>Gt 5 Z h 4 [0,1,2]
def F_jp(n:Nat)(a:List Cutoff)(d:List (Int×Int)):Option Bool:=(F_kn n a d).bind λe=>some (!e)
theorem k_jp(n:Nat)(a:List Cutoff)(d:List (Int×Int)):Ks (F_jp n a d) 96 [.rsl 3 (map Cutoff.c a),.fn (.func 118) [] [.ptr 0 0]] [.cells 193 [.map 1],.map (Qx (λx=>A.int .i64 x) (λx=>A.int .i64 x) d)] (λr=>.bool r):=by
 exact Kg 10 func96 Z Z Z Z λr h=>Cz [2,0,1] h (k_kn _ _ _) Z λf e h=>Gt 5 Z h 4 [0,1]
def F_dw(n:Nat)(l:Course)(m:List (Ue×Bool))(e:List Int)(a:(List (Int×Int))×Int):Option (Ctl ((List (Int×Int))×Int) (Ctl (List (Int×Int)) Bool)):=(bif decide (a.2<(e.length:Int))then(idx e a.2).bind λd=>(idx l.Mats d).bind λf=>((bif ((f.Kind==1) != (a.2==0))then some true else(bif ((f.Kind==3) != (a.2==(i64.wrap ((e.length:Int)-1))))then some true else(bif decide (0<a.2)then(idx e (i64.wrap (a.2-1))).bind λg=>(some (Qy m ({from_:=g,to_:=d:Ue}) false)).bind λh=>some (!h)else some false))):Option Bool).bind λi=>(bif i then some (.done (.done false))else(some (Qy a.1 d 0)).bind λj=>(some (Yk a.1 d (i64.wrap (j+1)))).bind λk=>some (.cont (k,i64.wrap (a.2+1))))else some (.done (.cont a.1)))
def F_ds(n:Nat)(f:Course)(d:Distance)(g:List (Ue×Bool)):Option Bool:=(F_z n d.Route).bind λe=>((bif decide ((i64.wrap ((e.length:Int)-1))<1)then some true else some (decide (256<=(i64.wrap ((e.length:Int)-1))))):Option Bool).bind λp=>(bif p then some false else(iter (F_dw n f g e) n ([],0):Option (Ctl (List (Int×Int)) Bool)).bind λh=>match h with|.cont a=>(((bif decide (0<=d.Extra)then(some (Qy a d.Extra 0)).bind λi=>(bif (i==0)then some true else(idx f.Mats d.Extra).bind λj=>(bif (j.Kind != 2)then some true else(some (Qy g ({from_:=d.Extra,to_:=d.Extra:Ue}) false)).bind λk=>some (!k)))else some false):Option Bool).bind λl=>(bif l then some false else(F_jp n d.Cutoffs a).bind λm=>some m))|.done a=>some a)
theorem k_ds(n:Nat)(a1:Course)(m:Distance)(y:List (Ue×Bool)):Ks (F_ds n a1 m y) 55 [.agg (Course.c a1),.agg (Distance.c m),.map 0] [.map (Qx (λx=>A.agg (Ue.c x)) A.bool y)] (λr=>.bool r):=by
 refine Kg 11 func55 Z Z Z Z λr h=>Cd [] h (k_z _ _) Z λr1 am h=>Fg 13 Z Z (Bd h λF p h=>Ct F [0,1,2,3] [2,3,4,7,8] (λF=>[(25,.bool F)]) Ze Zf ?_ (λenv H g=>?_))
 .refine G0 4 Z (Is 22 p Z (λac p=>?_) (λac p=>?_))
  iterate 2 exact Gl 4 Z p [0,1,2,3]
 refine Gx 1 Z (Qd g (Cn Z h (λae h=>?_) (λae h=>?_)))
 .exact QG 7 Z h 6 [0]
 refine Gc 4 Z (vH Yt ?_);refine Fg 12 Z Z (Bd h λaf ag h=>CtE (b:=af) [0,1,2,4,5] [2,3,4] (λ_=>[(9,.ptr 3 0)]) (λi=>[(3,.cells 193 [.map 4]),(4,.map (Qx (λx=>A.int .i64 x) (λx=>A.int .i64 x) i))]) Zf ?_ (λi env H ah g=>?_))
 .refine G0 1 Z (Lp [0,1,2,3,5,4] [2,3,4,7,8,9,27,28] (λf=>[(29,I f.2)]) (λf=>[(4,.cells 193 [.map 5]),(5,.map (Qx (λx=>A.int .i64 x) (λx=>A.int .i64 x) f.1))]) ag Zf (Lr [0,1,2,3,5,4]) λf an a q=>?_);refine G0 6 Z (Yd Z a (λG a=>?_) (λG a=>?_))
  .exact Gc 2 Z (Qh a (Gx 1 Z (JB q a Z (Lr [0,1,2,4,5]))))
  refine Gc 7 Z (Bd a λj s a=>?_);refine vX (.ptr 3 (toNat f.2*1)) (Qp s Z EC EF) ?_;refine vX (I j) (Ey Z ED Z (Qo s)) ?_;refine Go 9 Z (Bd a λz J a=>Iz J Z (Go 7 Z (Bd a λt e a=>Ct t [0,1,2,3,4,5] [2,3,4,7,8,9,11,27,28,29] (λt=>[(68,.bool t)]) Ze Zf ?_ (λenv H g=>?_))))
  .refine G0 5 Z ?_;refine vX (.bool ((z.Kind==1) != (f.2==0))) (Qdn GE) ?_;refine Go 1 Z (Is 45 e Z (λL e=>?_) (λL e=>?_))
   .exact Gl 24 Z e [0,1,2,3,4,5]
   .refine Go 5 Z ?_;refine vV (x:=(.bool ((z.Kind==3) != (f.2==(i64.wrap ((r1.length:Int)-1)))))) (Qdn GE) ?_ (gT Z);refine Go 2 Z (Is 53 e Z (λM e=>?_) (λM e=>?_))
    .exact Gl 16 Z e [0,1,2,3,4,5]
    .refine Go 3 Z (Is 56 e Z (λN e=>?_) (λN e=>?_))
     .refine Go 4 Z (Bd e λB u e=>?_);refine vX (.ptr 3 (toNat (i64.wrap (f.2-1))*1)) (Qp u Z EC EF) ?_ (gT Z);refine vX (I B) (Ey Z ED Z (Qo u)) ?_ (gT Z);refine Go 2 Z (Bd e λai O e=>?_);refine vX (.bool ai) (YM (ev:=A.bool) (z0:=false) (k:=({from_:=B,to_:=j:Ue})) (l:=y) Qft O Gn ET ZR.bool) ?_ (gT Z);exact Gl 4 Z e [0,1,2,3,4,5]
     .exact Gl 13 Z e [0,1,2,3,4,5]
  refine Gx 1 Z (Qd g (Cn Z a (λP a=>?_) (λP a=>?_)))
  .refine Gc 9 Z (Qw a ?_);obtain rfl:=Oj q a;exact Gx 1 Z (Qq (Gx 1 Z (Rt h 6 [0])))
  refine Gc 5 Z (Bd a λE Q a=>?_);refine vX (I E) (YM (ev:=(λx=>A.int .i64 x)) (z0:=0) (k:=j) (l:=f.1) JF Q Gw GF ZR.int) ?_;refine Go 1 Z (Bd a λao R a=>?_);refine vU (YW (ev:=(λx=>A.int .i64 x)) (k:=j) (v:=(i64.wrap (E+1))) (l:=f.1) JF R Z Gw) ?_;exact Fg 7 Z Z (Qf a (Lr [0,1,2,3,4,5]))
 subst ah;refine Gx 1 Z (Qd g (Gc 9 Z (Bd h λw d h=>Cg w [0,2,3,4] [4,9] (λw=>[(100,.bool w)]) (λ_=>[(2,.cells 193 [.map 3])]) Zf ?_ ?_)))
 .refine G0 4 Z (Is 78 d Z (λT d=>?_) (λT d=>?_))
  .refine Go 2 Z (Bd d λaj V d=>?_);refine vX (I aj) (YM (ev:=(λx=>A.int .i64 x)) (z0:=0) (k:=m.Extra) (l:=i) JF V Gw GF ZR.int) ?_ (gT Z);refine Go 2 Z (Is 83 d Z (λW d=>?_) (λW d=>?_))
   .exact Gl 18 Z d [0,2,3,4]
   .refine Go 3 Z (Bd d λaq X d=>Iz X Z (Go 5 Z (Is 92 d Z (λY d=>?_) (λY d=>?_))))
    .exact Gl 9 Z d [0,2,3,4]
    .refine Go 4 Z (Bd d λak aa d=>?_);refine vX (.bool ak) (YM (ev:=A.bool) (z0:=false) (k:=({from_:=m.Extra,to_:=m.Extra:Ue})) (l:=y) Qft aa Gn ET ZR.bool) ?_ (gT Z);exact Gl 4 Z d [0,2,3,4]
  .exact Gl 23 Z d [0,2,3,4]
 refine Cn Z h (λab h=>?_) (λab h=>?_)
 .exact QG 7 Z h 6 [0]
 exact Gc 7 Z (Cz [2,3] h (k_jp _ _ _) Z λar al h=>Gt 4 Z h 6 [0])
def F_er(n:Nat)(a:Distance)(d:Course)(e:List (Ue×Bool)):Option Bool:=(F_ds n d a e).bind λf=>some f
theorem k_er(n:Nat)(a:Distance)(d:Course)(e:List (Ue×Bool)):Ks (F_er n a d e) 54 [.agg (Distance.c a),.ptr 0 0,.ptr 1 0] [.cells 33 (Course.c d),.cells 123 [.map 2],.map (Qx (λx=>A.agg (Ue.c x)) A.bool e)] (λr=>.bool r):=by
 exact Kg 11 func54 Z Z Z Z λr h=>Cz [2] h (k_ds _ _ _ _) Z λg f h=>Gt 4 Z h 4 [0,1,2]
def F_jq(n:Nat)(a:Distance)(d:Course)(e:List (Ue×Bool)):Option Bool:=(F_er n a d e).bind λf=>some (!f)
theorem k_jq(n:Nat)(a:Distance)(d:Course)(e:List (Ue×Bool)):Ks (F_jq n a d e) 116 [.agg (Distance.c a),.ptr 0 0] [.cells 128 [.fn (.func 54) [] [.ptr 1 0,.ptr 2 0]],.cells 33 (Course.c d),.cells 123 [.map 3],.map (Qx (λx=>A.agg (Ue.c x)) A.bool e)] (λr=>.bool r):=by
 exact Kg 10 func116 Z Z Z Z λr h=>Cz [1,2,3] h (k_er _ _ _ _) Z λg f h=>Gt 5 Z h 3 [0,1,2,3]
def F_mw(n:Nat)(d:List Distance)(g:Course)(h:List (Ue×Bool))(a:Int):Option (Ctl Int (Ctl Unit Int)):=(bif decide (a<(d.length:Int))then(idx d a).bind λe=>(F_jq n e g h).bind λf=>(bif f then some (.done (.done a))else some (.cont (i64.wrap (a+1))))else some (.done (.cont ())))
def F_jg(n:Nat)(e:List Distance)(f:Course)(g:List (Ue×Bool)):Option Int:=(iter (F_mw n e f g) n 0:Option (Ctl Unit Int)).bind λd=>match d with|.cont a=>(some (-1))|.done a=>some a
theorem k_jg(n:Nat)(j:List Distance)(k:Course)(l:List (Ue×Bool)):Ks (F_jg n j k l) 178 [.rsl 5 (map Distance.c j),.fn (.func 116) [] [.ptr 0 0]] [.cells 128 [.fn (.func 54) [] [.ptr 1 0,.ptr 2 0]],.cells 33 (Course.c k),.cells 123 [.map 3],.map (Qx (λx=>A.agg (Ue.c x)) A.bool l)] (λr=>I r):=by
 refine Kg 9 func178 Z Z Z Z λr h=>Lg 3 Z Z (Bd h λm p h=>CgE (b:=m) [0,1,2,3] [] Ze Ze Zf ?_ (λs q=>?_))
 .refine G0 1 Z (Lp [0,1,2,3] [0,1,7] (λe=>[(8,I e)]) Ze p Zf (Lr [0,1,2,3]) λe u a d=>?_);refine G0 6 Z (Yd Z a (λf a=>?_) (λf a=>?_))
  .exact Gc 2 Z (Qh a (Gx 1 Z (JB d a Z (Lr [0,1,2,3]))))
  refine Gc 15 Z (Bd a λw g a=>Iz g Z (Go 1 Z (Cz [0,1,2,3] a (k_jq _ _ _ _) Z λy t a=>Go 2 Z (Cn Z a (λi a=>?_) (λi a=>?_)))))
  .refine Gc 9 Z (Qw a ?_);obtain rfl:=Oj d a;exact Gx 1 Z (Qq (Gx 1 Z (Rt h 4 [0,1,2,3])))
  exact Gc 7 Z (Qf a (Lr [0,1,2,3]))
 subst q;exact QG 6 Z h 4 [0,1,2,3]
def F_im(n:Nat)(a:List Distance)(d:Course)(e:List (Ue×Bool)):Option Bool:=(F_jg n a d e).bind λf=>some (decide (0<=f))
theorem k_im(n:Nat)(a:List Distance)(d:Course)(e:List (Ue×Bool)):Ks (F_im n a d e) 115 [.rsl 5 (map Distance.c a),.fn (.func 116) [] [.ptr 0 0]] [.cells 128 [.fn (.func 54) [] [.ptr 1 0,.ptr 2 0]],.cells 33 (Course.c d),.cells 123 [.map 3],.map (Qx (λx=>A.agg (Ue.c x)) A.bool e)] (λr=>.bool r):=by
 exact Kg 9 func115 Z Z Z Z λr h=>Cz [0,1,2,3] h (k_jg _ _ _ _) Z λg f h=>Gt 5 Z h 4 [0,1,2,3]
def F_fw(n:Nat)(a:List Distance)(d:Course)(e:List (Ue×Bool)):Option Bool:=(F_im n a d e).bind λf=>some (!f)
theorem k_fw(n:Nat)(a:List Distance)(d:Course)(e:List (Ue×Bool)):Ks (F_fw n a d e) 53 [.rsl 5 (map Distance.c a),.fn (.func 54) [] [.ptr 0 0,.ptr 1 0]] [.cells 33 (Course.c d),.cells 123 [.map 2],.map (Qx (λx=>A.agg (Ue.c x)) A.bool e)] (λr=>.bool r):=by
 exact Kg 10 func53 Z Z Z Z λr h=>Cz [3,0,1,2] h (k_im _ _ _ _) Z λg f h=>Gt 5 Z h 4 [0,1,2]
def F_jz(n:Nat)(e:Course)(a:(List (Ue×Bool))×Int):Option (Ctl ((List (Ue×Bool))×Int) (List (Ue×Bool))):=(bif decide (a.2<(e.Legs.length:Int))then(idx e.Legs a.2).bind λd=>(some (Yk a.1 ({from_:=d.From,to_:=d.To:Ue}) true)).bind λf=>some (.cont (f,i64.wrap (a.2+1)))else some (.done a.1))
def F_r(n:Nat)(a:Course):Option Int:=(F_bm n a).bind λg=>(bif (!g)then some 2 else(F_hm n a).bind λh=>(bif (!h)then some 70 else(F_cp n a).bind λi=>(bif (!i)then some 71 else(F_fz n a.Ties).bind λd=>(bif (d != 0)then some d else(iter (F_jz n a) n ([],0):Option (List (Ue×Bool))).bind λe=>(F_fw n a.Distances a e).bind λf=>(bif (!f)then some 72 else some 0)))))
theorem k_r(n:Nat)(q:Course):Ks (F_r n q) 20 [.agg (Course.c q)] [] (λr=>I r):=by
 refine Kg 11 func20 Z Z Z Z λr h=>Cz [] h (k_bm _ _) Z λM B h=>Go 4 Z (Cn Z h (λs h=>?_) (λs h=>?_))
 .exact QG 8 Z h 2 []
 refine Gc 3 Z (Cz [] h (k_hm _ _) Z λN E h=>Go 4 Z (Cn Z h (λt h=>?_) (λt h=>?_)))
 .exact QG 8 Z h 2 []
 refine Gc 3 Z (Cz [] h (k_cp _ _) Z λO F h=>Go 4 Z (Cn Z h (λu h=>?_) (λu h=>?_)))
 .exact QG 8 Z h 2 []
 refine Gc 8 Z (Cz [] h (k_fz _ _) Z λP G h=>Go 9 Z (Cn Z h (λw h=>?_) (λw h=>?_)))
 .exact QG 8 Z h 2 []
 refine Gc 4 Z (vH Yt ?_);refine Fg 9 Z Z (Lg 3 Z Z (Bd h λe y h=>Cg e [0,1,2] [1] (λ_=>[(3,.ptr 1 0)]) (λe=>[(1,.cells 123 [.map 2]),(2,.map (Qx (λx=>A.agg (Ue.c x)) A.bool e))]) Zf ?_ ?_))
 .refine G0 1 Z (Lp [0,2,1] [1,3,26,27] (λd=>[(28,I d.2)]) (λd=>[(1,.cells 123 [.map 2]),(2,.map (Qx (λx=>A.agg (Ue.c x)) A.bool d.1))]) y Zf (Lr [0,2,1]) λd H a g=>?_);refine G0 6 Z (Yd Z a (λi a=>?_) (λi a=>?_))
  .exact Gc 2 Z (Qh a (Gx 1 Z (cQo g a (Lr [0,1,2]))))
  refine Gc 6 Z (Bd a λf j a=>Iz j Z (Go 12 Z (Bd a λJ m a=>?_)));refine vU (YW (ev:=A.bool) (k:=({from_:=f.From,to_:=f.To:Ue})) (v:=true) (l:=d.1) Qft m Z Gn) ?_;exact Fg 7 Z Z (Qf a (Lr [0,1,2]))
 refine Gc 6 Z (Cz [0,1,2] h (k_fw _ _ _ _) Z λL z h=>Go 3 Z (Cn Z h (λp h=>?_) (λp h=>?_)))
 .exact QG 7 Z h 2 []
 exact QG 8 Z h 2 []
def F_bb(n:Nat)(a:List Fact)(d:Int):Option Unit:=some ()
theorem k_bb(n:Nat)(a:List Fact)(d:Int):Kq (F_bb n a d) 21 [.rsl 57 (map Fact.c a),I d] [] (λ_=>.fn (.func 56) [] [.ptr 0 0,.ptr 1 0]) (λ_=>[.cells 34 [.rsl 57 (map Fact.c a)],.cells 3 [I d]]):=by
 refine Kg 2 func21 Z Z Z Z λr h=>vH (OpH.box Z Z Z Z Z) ?_;exact FE Z (Gt 11 Z h 4 [0,1])
end Go.Sw
