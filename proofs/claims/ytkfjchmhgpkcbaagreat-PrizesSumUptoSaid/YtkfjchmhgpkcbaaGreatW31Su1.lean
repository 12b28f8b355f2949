/- What the functions compute that PrizesSum reaches, and that their calls refine it (part 1 of 3). -/
import Derived.Test.YtkfjchmhgpkcbaaGreatW31SuB
set_option linter.unusedVariables false
set_option linter.unusedSimpArgs false
set_option maxRecDepth 100000
set_option maxHeartbeats 4000000
namespace Go.Sw
open Go.Proofs Tryz
def F_lb(n:Nat)(c:List Int)(a:(List Prize)×Int):Option (Ctl ((List Prize)×Int) (List Prize)):=
  (bif decide (a.2<(c.length:Int))then(idx c a.2).bind λb=>(app a.1 [{Distance:=0,Category:=(-1),Rank:=b,Amount:=IntKind.i64.wrap (100*b):Prize}]).bind λd=>some (.cont (d,IntKind.i64.wrap (a.2+1)))else some (.done a.1))
def F_dj(n:Nat)(a:List Int):Option (List Prize):=
  (iter (F_lb n a) n ([],0):Option (List Prize)).bind λb=>some b
theorem k_dj(n:Nat)(q:List Int)(r:List Prize)(h:F_dj n q=some r):
    C prog 31 [.rsl 1 (List.map (Qd .i64) q)] [] (RQ (λr=>.agg [.str [115,97,109,112,108,101],.osl 0 0 ([{Name:=[108,105,110,101],Kind:=1:Mat},{Name:=[102,105,110,105,115,104],Kind:=3:Mat}].length) 2,.osl 1 0 ([{From:=0,To:=1,Min:=10,Max:=100:Leg}].length) 4,.osl 2 0 ([{Name:=[98,114,105,101,102],Route:=[z_Part,{z_Part with Mat:=1:Part}],Timing:=1,Cutoffs:=[],Extra:=(-1):Distance}].length) 5,.osl 3 0 ([{Name:=[101,108,105,116,101],Gun:=0:Wave}].length) 2,.rsl 4 (List.map Offence.c []),.rsl 3 (List.map Category.c []),.osl 4 0 r.length 4,.osl 5 0 ([{z_Step with Kind:=1,By:=4:Step}].length) 8,I 0,I 0,I 0,I 0,I 0,I 0,I 0]) (λr=>[.row 101 2 (List.map Mat.c [{Name:=[108,105,110,101],Kind:=1:Mat},{Name:=[102,105,110,105,115,104],Kind:=3:Mat}]),.row 135 4 (List.map Leg.c [{From:=0,To:=1,Min:=10,Max:=100:Leg}]),.row 99 5 (List.map Distance.c [{Name:=[98,114,105,101,102],Route:=[z_Part,{z_Part with Mat:=1:Part}],Timing:=1,Cutoffs:=[],Extra:=(-1):Distance}]),.row 139 2 (List.map Wave.c [{Name:=[101,108,105,116,101],Gun:=0:Wave}]),.row 74 4 (List.map Prize.c r),.row 144 8 (List.map Step.enc [{z_Step with Kind:=1,By:=4:Step}]),.cells 49 [.str [115,97,109,112,108,101],.osl 0 0 ([{Name:=[108,105,110,101],Kind:=1:Mat},{Name:=[102,105,110,105,115,104],Kind:=3:Mat}].length) 2,.osl 1 0 ([{From:=0,To:=1,Min:=10,Max:=100:Leg}].length) 4,.osl 2 0 ([{Name:=[98,114,105,101,102],Route:=[z_Part,{z_Part with Mat:=1:Part}],Timing:=1,Cutoffs:=[],Extra:=(-1):Distance}].length) 5,.osl 3 0 ([{Name:=[101,108,105,116,101],Gun:=0:Wave}].length) 2,.rsl 4 (List.map Offence.c []),.rsl 3 (List.map Category.c []),.osl 4 0 r.length 4,.osl 5 0 ([{z_Step with Kind:=1,By:=4:Step}].length) 8,I 0,I 0,I 0,I 0,I 0,I 0,I 0]]) r):=by
 refine Qb func31 Z Z Z ?_;refine G0 9 Z ?_;refine vH (El (xs:=[.tmp 6,.tmp 7]) (es:=List.map Mat.c [{Name:=[108,105,110,101],Kind:=1:Mat},{Name:=[102,105,110,105,115,104],Kind:=3:Mat}]) el_38 Z Z Z Z Z ⟨Z,Z,trivial⟩ Z Z) ?_;refine FE Z (Go 1 Z ?_);refine vH (El (xs:=[.tmp 9]) (es:=List.map Leg.c [{From:=0,To:=1,Min:=10,Max:=100:Leg}]) el_39 Z Z Z Z Z ⟨Z,trivial⟩ Z Z) ?_;refine FE Z (Go 2 Z ?_);refine vH (El (xs:=[.tmp 11,.tmp 12]) (es:=List.map Part.enc [z_Part,{z_Part with Mat:=1:Part}]) el_96 Z Z Z Z Z ⟨Z,Z,trivial⟩ Z Z) ?_;refine FE Z (Go 1 Z ?_);refine Et (YA [(13,_),(14,_)] Z Z (QmL.cons Z Ep (QmL.cons Z (FzA.agg (Ed (Ee _) (Ed Ep (Ek _)))) QmL.nil)) (Ec (Ec (Ec (Ec (Q3 _)))))) ?_;refine vH (El (xs:=[.tmp 14]) (es:=List.map Distance.c [{Name:=[98,114,105,101,102],Route:=[z_Part,{z_Part with Mat:=1:Part}],Timing:=1,Cutoffs:=[],Extra:=(-1):Distance}]) el_40 Z Z Z Z Z ⟨Z,trivial⟩ Z Z) ?_;refine FE Z (Go 1 Z ?_);refine vH (El (xs:=[.tmp 16]) (es:=List.map Wave.c [{Name:=[101,108,105,116,101],Gun:=0:Wave}]) el_41 Z Z Z Z Z ⟨Z,trivial⟩ Z Z) ?_;refine FE Z (Go 1 Z ?_);refine vH (El (xs:=[.tmp 18]) (es:=List.map Step.enc [{z_Step with Kind:=1,By:=4:Step}]) el_45 Z Z Z Z Z ⟨Z,trivial⟩ Z Z) ?_;refine FE Z ?_;refine vX (.agg [.str [115,97,109,112,108,101],.osl 1 0 ([{Name:=[108,105,110,101],Kind:=1:Mat},{Name:=[102,105,110,105,115,104],Kind:=3:Mat}].length) 2,.osl 2 0 ([{From:=0,To:=1,Min:=10,Max:=100:Leg}].length) 4,.osl 4 0 ([{Name:=[98,114,105,101,102],Route:=[z_Part,{z_Part with Mat:=1:Part}],Timing:=1,Cutoffs:=[],Extra:=(-1):Distance}].length) 5,.osl 5 0 ([{Name:=[101,108,105,116,101],Gun:=0:Wave}].length) 2,.rsl 4 (List.map Offence.c []),.rsl 3 (List.map Category.c []),.nils,.osl 6 0 ([{z_Step with Kind:=1,By:=4:Step}].length) 8,I 0,I 0,I 0,I 0,I 0,I 0,I 0]) (OpV.build (zs:=[.str [],.rsl 2 (List.map Mat.c []),.rsl 4 (List.map Leg.c []),.rsl 5 (List.map Distance.c []),.rsl 2 (List.map Wave.c []),.rsl 4 (List.map Offence.c []),.rsl 3 (List.map Category.c []),.nils,.rsl 8 (List.map Step.enc []),I 0,I 0,I 0,I 0,I 0,I 0,I 0]) zeroValue49 (zrC Z) Qlb) ?_;refine vH (Qcc (v:=(.agg [.str [],.rsl 2 (List.map Mat.c []),.rsl 4 (List.map Leg.c []),.rsl 5 (List.map Distance.c []),.rsl 2 (List.map Wave.c []),.rsl 4 (List.map Offence.c []),.rsl 3 (List.map Category.c []),.nils,.rsl 8 (List.map Step.enc []),I 0,I 0,I 0,I 0,I 0,I 0,I 0])) zeroValue49 (zrC Z)) ?_;refine FE Z (Go 7 Z (Lm Z (Go 3 Z (Bd h λd u h=>?_))));refine Ct d [0,1,2,3,4,5,6,7] [2] (λ_=>[(3,.ptr 1 0)]) (λd=>[(1,.cells 49 [.str [115,97,109,112,108,101],.osl 2 0 ([{Name:=[108,105,110,101],Kind:=1:Mat},{Name:=[102,105,110,105,115,104],Kind:=3:Mat}].length) 2,.osl 3 0 ([{From:=0,To:=1,Min:=10,Max:=100:Leg}].length) 4,.osl 4 0 ([{Name:=[98,114,105,101,102],Route:=[z_Part,{z_Part with Mat:=1:Part}],Timing:=1,Cutoffs:=[],Extra:=(-1):Distance}].length) 5,.osl 5 0 ([{Name:=[101,108,105,116,101],Gun:=0:Wave}].length) 2,.rsl 4 (List.map Offence.c []),.rsl 3 (List.map Category.c []),.osl 6 0 d.length 4,.osl 7 0 ([{z_Step with Kind:=1,By:=4:Step}].length) 8,I 0,I 0,I 0,I 0,I 0,I 0,I 0]),(2,.row 101 2 (List.map Mat.c [{Name:=[108,105,110,101],Kind:=1:Mat},{Name:=[102,105,110,105,115,104],Kind:=3:Mat}])),(3,.row 135 4 (List.map Leg.c [{From:=0,To:=1,Min:=10,Max:=100:Leg}])),(6,.row 74 4 (List.map Prize.c d)),(7,.row 144 8 (List.map Step.enc [{z_Step with Kind:=1,By:=4:Step}]))]) Zf ?_ (λenv H s=>?_)
 .refine G0 1 Z ?_;refine Lp [0,7,1,2,4,5,0,6] [2,3,21,22] (λb=>[(23,I b.2)]) (λb=>[(1,.cells 49 [.str [115,97,109,112,108,101],.osl 2 0 ([{Name:=[108,105,110,101],Kind:=1:Mat},{Name:=[102,105,110,105,115,104],Kind:=3:Mat}].length) 2,.osl 3 0 ([{From:=0,To:=1,Min:=10,Max:=100:Leg}].length) 4,.osl 4 0 ([{Name:=[98,114,105,101,102],Route:=[z_Part,{z_Part with Mat:=1:Part}],Timing:=1,Cutoffs:=[],Extra:=(-1):Distance}].length) 5,.osl 5 0 ([{Name:=[101,108,105,116,101],Gun:=0:Wave}].length) 2,.rsl 4 (List.map Offence.c []),.rsl 3 (List.map Category.c []),.osl 6 0 b.1.length 4,.osl 7 0 ([{z_Step with Kind:=1,By:=4:Step}].length) 8,I 0,I 0,I 0,I 0,I 0,I 0,I 0]),(6,.row 74 4 (List.map Prize.c b.1))]) u Zf ?_ ?_
  .refine En (Q9 (i:=7) (m:=7) (t:=74) (k:=4) Z Z Z) ?_;exact Lr [0,7,1,2,4,5,8,6]
  intro b w a g;refine G0 6 Z (Ya Z a (λj a=>?_) (λj a=>?_))
  .refine Gc 2 Z (Qk a ?_);obtain rfl:=Oj g a;exact Gx 1 Z (Q1 (Lr [0,1,2,3,4,5,6,7]))
  refine Gc 6 Z (Bd a λf l a=>Iz l Z (Go 11 Z ?_));refine vH (El (xs:=[.tmp 32]) (es:=List.map Prize.c [{Distance:=0,Category:=(-1),Rank:=f,Amount:=IntKind.i64.wrap (100*f):Prize}]) Qn8 Z Z Z Z Z ⟨Z,trivial⟩ Z Z) ?_;refine FE Z (Bd a λx p a=>?_);refine vH (QM (e:=Prize.c) p Qn8 runUnderlying44 (YI (i:=8))) ?_;exact FE Z (Go 9 Z (Qj a (Lr [0,1,2,3,4,5,9,7])))
 refine Gx 1 Z (Ef s (Gc 7 Z ?_));obtain rfl:=Oi h;exact Rx [2,3,4,5,6,7,0] [2] Z (QV Z (QD isAgg49 sizeOf49 Z Z Z)) ⟨Z,Z⟩
def F_ls(n:Nat)(c:List Int)(a:(List Runner)×Int):Option (Ctl ((List Runner)×Int) (List Runner)):=
  (bif decide (a.2<(c.length:Int))then(idx c a.2).bind λb=>(app a.1 [{Bib:=IntKind.i64.wrap (a.2+1),Keys:=[],Worlds:=[[{Out:=false,Seg:=(-1),Lo:=b,Hi:=b:Outcome}]]:Runner}]).bind λd=>some (.cont (d,IntKind.i64.wrap (a.2+1)))else some (.done a.1))
def F_br(n:Nat)(a:List Int):Option (List Runner):=
  (iter (F_ls n a) n ([],0):Option (List Runner)).bind λb=>some b
theorem k_br(n:Nat)(q:List Int)(r:List Runner)(h:F_br n q=some r):
    C prog 32 [.rsl 1 (List.map (Qd .i64) q)] [] (RQ (λr=>.agg [.rsl 3 (List.map Segment.c []),.osl 0 0 ([[0]].length) 1,.rsl 2 (List.map Pair.c []),.osl 1 0 r.length 3]) (λr=>[.row 32 1 (List.map (YC 1 (Qd .i64)) [[0]]),.row 68 3 (List.map Runner.c r),.cells 29 [.rsl 3 (List.map Segment.c []),.osl 0 0 ([[0]].length) 1,.rsl 2 (List.map Pair.c []),.osl 1 0 r.length 3]]) r):=by
 refine Qb func32 Z Z Z ?_;refine G0 7 Z ?_;refine vH (El (xs:=[.const (.int .i64 0)]) (es:=List.map (Qd .i64) [0]) Qv Z Z Z Z Z ⟨Z,trivial⟩ Z Z) ?_;refine FE Z ?_;refine Et (YA [(6,_)] Z Z (QmL.cons Z Ep QmL.nil) (Ec (Ec (Q3 _)))) ?_;refine vH (El (xs:=[.tmp 6]) (es:=List.map (YC 1 (Qd .i64)) [[0]]) el_23 Z Z Z Z Z ⟨Z,trivial⟩ Z Z) ?_;refine FE Z (Go 1 Z ?_);refine vX (.agg [.rsl 3 (List.map Segment.c []),.osl 2 0 ([[0]].length) 1,.rsl 2 (List.map Pair.c []),.nils]) (OpV.build (zs:=[.rsl 3 (List.map Segment.c []),.rsl 1 (List.map (YC 1 (Qd .i64)) []),.rsl 2 (List.map Pair.c []),.nils]) zeroValue29 (zrC Z) Qlg) ?_;refine vH (Qcc (v:=(.agg [.rsl 3 (List.map Segment.c []),.rsl 1 (List.map (YC 1 (Qd .i64)) []),.rsl 2 (List.map Pair.c []),.nils])) zeroValue29 (zrC Z)) ?_;refine FE Z (Go 7 Z (Lm Z (Go 3 Z (Bd h λf u h=>?_))));refine Ct f [0,1,2,3] [2] (λ_=>[(3,.ptr 1 0)]) (λf=>[(1,.cells 29 [.rsl 3 (List.map Segment.c []),.osl 2 0 ([[0]].length) 1,.rsl 2 (List.map Pair.c []),.osl 3 0 f.length 3]),(3,.row 68 3 (List.map Runner.c f))]) Zf ?_ (λenv H s=>?_)
 .refine G0 1 Z ?_;refine Lp [0,3,2,0] [2,3,10,11] (λb=>[(12,I b.2)]) (λb=>[(1,.cells 29 [.rsl 3 (List.map Segment.c []),.osl 2 0 ([[0]].length) 1,.rsl 2 (List.map Pair.c []),.osl 3 0 b.1.length 3]),(3,.row 68 3 (List.map Runner.c b.1))]) u Zf ?_ ?_
  .refine En (Q9 (i:=3) (m:=3) (t:=68) (k:=3) Z Z Z) ?_;exact Lr [0,3,2,4]
  intro b w a g;refine G0 6 Z (Ya Z a (λj a=>?_) (λj a=>?_))
  .refine Gc 2 Z (Qk a ?_);obtain rfl:=Oj g a;exact Gx 1 Z (Q1 (Lr [0,1,2,3]))
  refine Gc 7 Z (Bd a λd l a=>Iz l Z (Go 13 Z ?_));refine vH (El (xs:=[.tmp 23]) (es:=List.map Outcome.c [{Out:=false,Seg:=(-1),Lo:=d,Hi:=d:Outcome}]) Qmg Z Z Z Z Z ⟨Z,trivial⟩ Z Z) ?_;refine FE Z ?_;refine Et (YA [(24,_)] Z Z (QmL.cons Z Ep QmL.nil) (Ec (Ec (Ec (Ec (Ec (Q3 _))))))) ?_;refine vH (El (xs:=[.tmp 24]) (es:=List.map (YC 4 Outcome.c) [[{Out:=false,Seg:=(-1),Lo:=d,Hi:=d:Outcome}]]) el_66 Z Z Z Z Z ⟨Z,trivial⟩ Z Z) ?_;refine FE Z (Go 1 Z ?_);refine Et (YA [(25,_),(26,_)] Z Z (QmL.cons Z Ep (QmL.cons Z (FzA.agg (Ed (Ee _) (Ed (Ee _) (Ed Ep (Ek _))))) QmL.nil)) (Ec (Ec (Ec (Ec (Ec (Ec (Q3 _)))))))) ?_;refine vH (El (xs:=[.tmp 26]) (es:=List.map Runner.c [{Bib:=IntKind.i64.wrap (b.2+1),Keys:=[],Worlds:=[[{Out:=false,Seg:=(-1),Lo:=d,Hi:=d:Outcome}]]:Runner}]) Qn9 Z Z Z Z Z ⟨Z,trivial⟩ Z Z) ?_;refine FE Z (Bd a λx p a=>?_);refine vH (QM (e:=Runner.c) p Qn9 runUnderlying27 (YI (i:=6))) ?_;exact FE Z (Go 9 Z (Qj a (Lr [0,1,2,7])))
 refine Gx 1 Z (Ef s (Gc 7 Z ?_));obtain rfl:=Oi h;exact Rx [2,3,0] [2] Z (QV Z (QD isAgg29 sizeOf29 Z Z Z)) ⟨Z,Z⟩
def F_y(n:Nat)(e:List Part)(f:Int)(rec10:(List Part)->Int->Option (Int×Int))(a:Int×Int×Int):Option (Ctl (Int×Int×Int) (Int×Int)):=
  (bif decide (a.2.2<(e.length:Int))then((idx e a.2.2).bind λc=>((bif ((c.Parts.length:Int)==0)then some true else(bif (f==0)then some true else some (decide (256<a.2.1)))):Option Bool).bind λg=>(bif g then some (a.1,a.2.1)else(rec10 c.Parts (IntKind.i64.wrap (f-1))).bind λb=>some ((if a.1<IntKind.i64.wrap (b.1+1)then IntKind.i64.wrap (b.1+1)else a.1),IntKind.i64.wrap (a.2.1+b.2))):Option (Int×Int)).bind λd=>some (.cont (d.1,d.2,IntKind.i64.wrap (a.2.2+1)))else some (.done (a.1,a.2.1)))
def B_b(rec10:(List Part)->Int->Option (Int×Int))(n:Nat)(b:List Part)(c:Int):Option (Int×Int):=
  (iter (F_y n b c rec10) n (0,(b.length:Int),0):Option (Int×Int)).bind λa=>some (a.1,a.2)
theorem QcZ(rec10:(List Part)->Int->Option (Int×Int))(i:∀(j:List Part) (k:Int) (r:Int×Int),rec10 j k=some r->Csm prog 166 [.rsl 3 (List.map Part.enc j),I k] [] (λr=>.tup [I r.1,I r.2]) r)(n:Nat)(j:List Part)(k:Int)(r:Int×Int)(h:B_b rec10 n j k=some r):
    Csm prog 166 [.rsl 3 (List.map Part.enc j),I k] [] (λr=>.tup [I r.1,I r.2]) r:=by
 refine Qb func166 Z Z Z ?_;refine G0 9 Z (Lm Z (Go 7 Z (Lm Z (Go 3 Z (Bd h λf x h=>?_)))));refine Ct f [] [] (λf=>[(4,I f.1),(5,I f.2)]) Ze Zf ?_ (λenv H e=>?_)
 .refine G0 1 Z ?_;refine Lp [] [1,12,13] (λd=>[(4,I d.1),(5,I d.2.1),(14,I d.2.2)]) Ze x Zf (Lr []) λd B c p=>?_;refine G0 6 Z (Ya Z c (λq c=>?_) (λq c=>?_))
  .refine Gc 2 Z (Qk c ?_);obtain rfl:=Oj p c;exact Gx 1 Z (Q1 (Lr []))
  refine Gc 3 Z (Bd c λg a c=>?_);refine Ct g [] [1,12,13,14] (λg=>[(4,I g.1),(5,I g.2)]) Ze Zf ?_ (λenv H e=>?_)
  .refine G0 3 Z (Bd a λy s a=>IzE s (Jj y) Z (Go 7 Z (Bd a λl b a=>?_)));refine Ct l [0] [1,4,5,7,12,13,14] (λl=>[(29,.bool l)]) Ze Zf ?_ (λenv H e=>?_)
   .refine G0 3 Z (Lm Z (Go 2 Z (Is 22 b Z (λt b=>?_) (λt b=>?_))))
    .exact Go 8 Z (Cl b [0])
    .refine Go 4 Z (Is 26 b Z (λu b=>?_) (λu b=>?_))
     .exact Go 4 Z (Cl b [0])
     .exact Go 4 Z (Cl b [0])
   refine Gx 1 Z (Ef e (Cn Z a (λw a=>?_) (λw a=>?_)))
   .exact Gc 3 Z (Cl a [])
   refine Gc 8 Z (Cd [] a (i _ _) Z λm z a=>FE Z (Go 11 Z ?_));refine vX (I (if d.1<IntKind.i64.wrap (m.1+1)then IntKind.i64.wrap (m.1+1)else d.1)) (OpV.max Z Z Z Z) ?_;exact Go 7 Z (Cl a [])
  exact Gx 1 Z (Ef e (Gc 4 Z (Qj c (Lr []))))
 refine Gx 1 Z (Ef e (Gc 9 Z ?_));obtain rfl:=Oi h;exact R2 4 5 Z Z (Lr [])
def F_b:Nat->(List Part)->Int->Option (Int×Int)
  |0=>λ_ _=>none
  |n+1=>B_b (F_b n) n
theorem k_b(n:Nat):∀(a:List Part) (b:Int) (r:Int×Int),F_b n a b=some r->Csm prog 166 [.rsl 3 (List.map Part.enc a),I b] [] (λr=>.tup [I r.1,I r.2]) r:=by
  induction n with
  |zero=>intro a b r h;cases h
  |succ n ih=>intro a b r h;exact QcZ _ ih n a b r h
def F_fh(n:Nat)(d:Course)(a:Int):Option (Ctl Int (Ctl Unit Bool)):=
  (bif decide (a<(d.Distances.length:Int))then(idx d.Distances a).bind λb=>(F_b n b.Route 17).bind λc=>((bif decide (64<(b.Cutoffs.length:Int))then some true else(bif decide (16<c.1)then some true else some (decide (256<c.2)))):Option Bool).bind λe=>(bif e then some (.done (.done false))else some (.cont (IntKind.i64.wrap (a+1))))else some (.done (.cont ())))
def F_ac(n:Nat)(a:Course):Option Bool:=
  ((bif decide (40<(a.Mats.length:Int))then some true else(bif decide (512<(a.Legs.length:Int))then some true else(bif decide (8<(a.Distances.length:Int))then some true else(bif decide (32<(a.Waves.length:Int))then some true else(bif decide (32<(a.Offences.length:Int))then some true else(bif decide (32<(a.Categories.length:Int))then some true else some (decide (32<(a.Prizes.length:Int))))))))):Option Bool).bind λd=>(bif d then some false else(iter (F_fh n a) n 0:Option (Ctl Unit Bool)).bind λc=>match c with|.cont b=>(some true)|.done b=>some b)
theorem k_ac(n:Nat)(B:Course)(r:Bool)(h:F_ac n B=some r):
    Csm prog 112 [.agg (Course.c B)] [] (λr=>.bool r) r:=by
 refine Qb func112 Z Z Z ?_;refine G0 8 Z (Bd h λk d h=>?_);refine Ct k [0] [1] (λk=>[(46,.bool k)]) Ze Zf ?_ (λenv H f=>?_)
 .refine G0 3 Z (Lm Z (Go 2 Z (Is 11 d Z (λE d=>?_) (λE d=>?_))))
  .exact Go 36 Z (Cl d [0])
  .refine Go 2 Z (Lm Z (Go 3 Z (Is 17 d Z (λl d=>?_) (λl d=>?_))))
   .exact Go 30 Z (Cl d [0])
   .refine Go 2 Z (Lm Z (Go 3 Z (Is 23 d Z (λm d=>?_) (λm d=>?_))))
    .exact Go 24 Z (Cl d [0])
    .refine Go 2 Z (Lm Z (Go 3 Z (Is 29 d Z (λp d=>?_) (λp d=>?_))))
     .exact Go 18 Z (Cl d [0])
     .refine Go 2 Z (Lm Z (Go 3 Z (Is 35 d Z (λq d=>?_) (λq d=>?_))))
      .exact Go 12 Z (Cl d [0])
      .refine Go 2 Z (Lm Z (Go 3 Z (Is 41 d Z (λs d=>?_) (λs d=>?_))))
       .exact Go 6 Z (Cl d [0])
       .exact Go 2 Z (Lm Z (Go 3 Z (Cl d [0])))
 refine Gx 1 Z (Ef f (Cn Z h (λt h=>?_) (λt h=>?_)))
 .exact Gc 7 Z (Rt h 2 [])
 refine Gc 7 Z (Lm Z (Go 3 Z (Bd h λF G h=>?_)));refine Ja (b:=F) [] [] Ze Ze Zf ?_ (λL env H J f=>?_)
 .refine G0 1 Z ?_;refine Lp [] [48,49] (λj=>[(50,I j)]) Ze G Zf (Lr []) λj N a g=>?_;refine G0 6 Z (Ya Z a (λu a=>?_) (λu a=>?_))
  .refine Gc 2 Z (Qk a ?_);obtain rfl:=Oj g a;exact Gx 1 Z (Qp Z (Lr []))
  refine Gc 6 Z (Bd a λO w a=>Iz w Z (Go 9 Z (Cd [] a (k_b _ _ _) Z λP M a=>FE Z (Go 8 Z (Bd a λi e a=>?_)))));refine Ct i [] [48,49,50] (λi=>[(71,.bool i)]) Ze Zf ?_ (λenv H f=>?_)
  .refine G0 3 Z (Lm Z (Go 2 Z (Is 64 e Z (λx e=>?_) (λx e=>?_))))
   .exact Go 8 Z (Cl e [])
   .refine Go 4 Z (Is 68 e Z (λy e=>?_) (λy e=>?_))
    .exact Go 4 Z (Cl e [])
    .exact Go 4 Z (Cl e [])
  refine Gx 1 Z (Ef f (Cn Z a (λz a=>?_) (λz a=>?_)))
  .refine Gc 8 Z (Qn a ?_);obtain rfl:=Oj g a;exact Gx 1 Z (Qm (Gx 1 Z (Rt h 2 [])))
  exact Gc 7 Z (Qj a (Lr []))
 subst J;exact Gx 1 Z (Ef f (Gc 6 Z (Rt h 2 [])))
def F_fj(n:Nat)(a:(List Int)×Int):Option (Ctl ((List Int)×Int) (List Int)):=
  (bif decide (a.2<=122)then(Qb5 256 a.1 a.2).bind λd=>(Qbs a.1 a.2 2).bind λb=>(Qb5 256 b (IntKind.u8.wrap (a.2-32))).bind λe=>(Qbs b (IntKind.u8.wrap (a.2-32)) 2).bind λc=>some (.cont (c,IntKind.u8.wrap (a.2+1)))else some (.done a.1))
def F_ii(n:Nat)(a:(List Int)×Int):Option (Ctl ((List Int)×Int) (List Int)):=
  (bif decide (a.2<=57)then(Qb5 256 a.1 a.2).bind λc=>(Qbs a.1 a.2 3).bind λb=>some (.cont (b,IntKind.u8.wrap (a.2+1)))else some (.done a.1))
def F_kc(n:Nat)(a:(List Int)×Int):Option (Ctl ((List Int)×Int) (List Int)):=
  (bif decide (a.2<([123,125,40,41,91,93,59,44,61,60,62].length:Int))then(idx [123,125,40,41,91,93,59,44,61,60,62] a.2).bind λb=>(Qb5 256 a.1 b).bind λd=>(Qbs a.1 b 4).bind λc=>some (.cont (c,IntKind.i64.wrap (a.2+1)))else some (.done a.1))
def F_kl(n:Nat)(a:(List Int)×Int):Option (Ctl ((List Int)×Int) (List Int)):=
  (bif decide (a.2<(([32,9,10,13].length):Int))then(idx [32,9,10,13] a.2).bind λb=>(Qb5 256 a.1 b).bind λd=>(Qbs a.1 b 1).bind λc=>some (.cont (c,IntKind.i64.wrap (a.2+1)))else some (.done a.1))
def F_dt(n:Nat):Option (List Int):=
  (iter (F_fj n) n (List.replicate 256 0,97):Option (List Int)).bind λb=>(iter (F_ii n) n (b,48):Option (List Int)).bind λc=>(iter (F_kc n) n (c,0):Option (List Int)).bind λd=>(iter (F_kl n) n (d,0):Option (List Int)).bind λa=>(arr 256 a).bind λe=>(arr 256 a).bind λg=>(arr 256 e).bind λf=>some f
theorem k_dt(n:Nat)(r:List Int)(h:F_dt n=some r):
    C prog 291 [] [] (RQ (λr=>.agg (List.flatten (List.map (Qd .u8) r))) (λr=>[.row 353 1 (List.map (Qd .u8) r)]) r):=by
 refine Qb func291 Z Z Z ?_;refine G0 2 Z ?_;refine vH (Qbf (n:=256) (k:=1) (e:=(Qd .u8)) (z:=0) zeroValue353 (by kernel_rfl) (by kernel_rfl) (by kernel_rfl) Z) ?_;refine FE Z (Go 8 Z (Bd h λt af h=>?_));refine Ct t [0] [0] Ze (λt=>[(0,.row 353 1 (List.map (Qd .u8) t))]) Zf ?_ (λenv H g=>?_)
 .refine G0 1 Z ?_;refine Lp [0] [0] (λi=>[(1,.int .u8 i.2)]) (λi=>[(0,.row 353 1 (List.map (Qd .u8) i.1))]) af Zf (Lr [0]) λi an a M=>?_;refine G0 7 Z (Ya Z a (λN a=>?_) (λN a=>?_))
  .refine Gc 2 Z (Qk a ?_);obtain rfl:=Oj M a;exact Gx 1 Z (Q1 (Lr [0]))
  refine Gc 8 Z (Bd a λao u a=>?_);refine vX (.ptr 0 (Int.toNat i.2*1)) (YZ (n:=256) (k:=1) (l:=i.1) u runUnderlying353 sizeOf5 Z) ?_;refine Bd a λag O a=>?_;refine vU (Jn (e:=(Qd .u8)) (k:=1) (f:=0) (Qaf u).2 O sizeOf5 Z Z) ?_;refine FE Z (Bd a λaq w a=>?_);refine vX (.ptr 0 (Int.toNat (IntKind.u8.wrap (i.2-32))*1)) (YZ (n:=256) (k:=1) (l:=ag) w runUnderlying353 sizeOf5 Z) ?_;refine Bd a λar P a=>?_;refine vU (Jn (e:=(Qd .u8)) (k:=1) (f:=0) (Qaf w).2 P sizeOf5 Z Z) ?_;exact FE Z (Go 8 Z (Qj a (Lr [0])))
 refine Gx 1 Z (Ef g (Gc 6 Z (Bd h λx ah h=>?_)));refine Ct x [0] [0] Ze (λx=>[(0,.row 353 1 (List.map (Qd .u8) x))]) Zf ?_ (λenv H g=>?_)
 .refine G0 1 Z ?_;refine Lp [0] [0] (λj=>[(2,.int .u8 j.2)]) (λj=>[(0,.row 353 1 (List.map (Qd .u8) j.1))]) ah Zf (Lr [0]) λj au d Q=>?_;refine G0 7 Z (Ya Z d (λR d=>?_) (λR d=>?_))
  .refine Gc 2 Z (Qk d ?_);obtain rfl:=Oj Q d;exact Gx 1 Z (Q1 (Lr [0]))
  refine Gc 6 Z (Bd d λav y d=>?_);refine vX (.ptr 0 (Int.toNat j.2*1)) (YZ (n:=256) (k:=1) (l:=j.1) y runUnderlying353 sizeOf5 Z) ?_;refine Bd d λaw T d=>?_;refine vU (Jn (e:=(Qd .u8)) (k:=1) (f:=0) (Qaf y).2 T sizeOf5 Z Z) ?_;exact FE Z (Go 8 Z (Qj d (Lr [0])))
 refine Gx 1 Z (Ef g (Gc 3 Z ?_));refine vH (El (xs:=[.const (.int .u8 123),.const (.int .u8 125),.const (.int .u8 40),.const (.int .u8 41),.const (.int .u8 91),.const (.int .u8 93),.const (.int .u8 59),.const (.int .u8 44),.const (.int .u8 61),.const (.int .u8 60),.const (.int .u8 62)]) (es:=List.map (Qd .u8) [123,125,40,41,91,93,59,44,61,60,62]) Qmh Z Z Z Z Z ⟨Z,Z,Z,Z,Z,Z,Z,Z,Z,Z,Z,trivial⟩ Z Z) ?_;refine FE Z ?_;refine vH (QkF (es:=List.map (Qd .u8) [123,125,40,41,91,93,59,44,61,60,62]) underlying357 underlying5 (X9 ..) Z) ?_;refine FE Z (Lm Z (Go 3 Z (Bd h λB ai h=>?_)));refine Ct B [0] [0] Ze (λB=>[(0,.row 353 1 (List.map (Qd .u8) B))]) Zf ?_ (λenv H g=>?_)
 .refine G0 1 Z ?_;refine Lp [0] [0,23,24] (λp=>[(25,I p.2)]) (λp=>[(0,.row 353 1 (List.map (Qd .u8) p.1))]) ai Zf (Lr [0]) λp ax b V=>?_;refine G0 6 Z (Ya Z b (λW b=>?_) (λW b=>?_))
  .refine Gc 2 Z (Qk b ?_);obtain rfl:=Oj V b;exact Gx 1 Z (Q1 (Lr [0]))
  refine Gc 6 Z (Bd b λaj X b=>Iz X Z (Go 6 Z (Bd b λay E b=>?_)));refine vX (.ptr 0 (Int.toNat aj*1)) (YZ (n:=256) (k:=1) (l:=p.1) E runUnderlying353 sizeOf5 Z) ?_;refine Bd b λaz Y b=>?_;refine vU (Jn (e:=(Qd .u8)) (k:=1) (f:=0) (Qaf E).2 Y sizeOf5 Z Z) ?_;exact FE Z (Go 7 Z (Qj b (Lr [0])))
 refine Gx 1 Z (Ef g (Gc 3 Z ?_));refine vH (El (xs:=[.const (.int .u8 32),.const (.int .u8 9),.const (.int .u8 10),.const (.int .u8 13)]) (es:=List.map (Qd .u8) [32,9,10,13]) Qmh Z Z Z Z Z ⟨Z,Z,Z,Z,trivial⟩ Z Z) ?_;refine FE Z (Go 4 Z (Bd h λs ak h=>?_));refine Ct s [0] [0] Ze (λs=>[(0,.row 353 1 (List.map (Qd .u8) s))]) Zf ?_ (λenv H g=>?_)
 .refine G0 1 Z ?_;refine Lp [0,1] [0,32,33] (λm=>[(34,I m.2)]) (λm=>[(0,.row 353 1 (List.map (Qd .u8) m.1))]) ak Zf (Lr [0,1]) λm ba c aa=>?_;refine G0 6 Z (Ya Z c (λab c=>?_) (λab c=>?_))
  .refine Gc 2 Z (Qk c ?_);obtain rfl:=Oj aa c;exact Gx 1 Z (Q1 (Lr [0]))
  refine Gc 6 Z (Bd c λL F c=>?_);refine vX (.ptr 1 (Int.toNat m.2*1)) (QN F Z runUnderlying357 sizeOf5) ?_;refine vX (.int .u8 L) (Ey Z isAgg5 Z (Qo F)) ?_;refine Go 5 Z (Bd c λbb G c=>?_);refine vX (.ptr 0 (Int.toNat L*1)) (YZ (n:=256) (k:=1) (l:=m.1) G runUnderlying353 sizeOf5 Z) ?_;refine Bd c λbc ac c=>?_;refine vU (Jn (e:=(Qd .u8)) (k:=1) (f:=0) (Qaf G).2 ac sizeOf5 Z Z) ?_;exact FE Z (Go 7 Z (Qj c (Lr [0,1])))
 refine Gx 1 Z (Ef g (Gc 2 Z (Bd h λal ad h=>?_)));refine vX (.agg (List.flatten (List.map (Qd .u8) al))) (QhM (e:=(Qd .u8)) ad Zf Z isAgg353 sizeOf353) ?_;refine Bd h λbd ae h=>Bd h λam q h=>?_;obtain⟨J,rfl⟩:=QbD ae;refine vU (QcM (e:=(Qd .u8)) (l:=s) (l':=am) J (Qgr q) Zf Z sizeOf353 Zf Zf (congrArg (λl=>List.flatten (List.map (Qd .u8) l)) (QbD q).2.symm)) ?_;refine FE Z (Go 3 Z ?_);obtain rfl:=Oi h;exact Rx [0] [0] Z (QV Z (Qkq (e:=(Qd .u8)) (Qgr q) Zf Z isAgg353 sizeOf353)) ⟨Z,Z⟩
def F_kf(n:Nat)(c:List UInt8)(g:List Int)(a:Int):Option (Ctl Int (Ctl Unit Bool)):=
  (bif decide (a<(c.length:Int))then(idx c a).bind λd=>(Qb5 256 g (d.toNat:Int)).bind λb=>((bif (b != 2)then(bif (a==0)then some true else(bif (b != 3)then(idx c a).bind λe=>some ((e.toNat:Int) != 95)else some false))else some false):Option Bool).bind λf=>(bif f then some (.done (.done false))else some (.cont (IntKind.i64.wrap (a+1))))else some (.done (.cont ())))
def F_cs(n:Nat)(b:List UInt8):Option Bool:=
  (F_dt n).bind λr1=>(arr 256 (List.replicate 256 0)).bind λe=>(arr 256 r1).bind λd=>(iter (F_kf n b d) n 0:Option (Ctl Unit Bool)).bind λc=>match c with|.cont a=>(some (b != []))|.done a=>some a
theorem k_cs(n:Nat)(q:List UInt8)(r:Bool)(h:F_cs n q=some r):
    Csm prog 274 [.str q] [] (λr=>.bool r) r:=by
 refine Qb func274 Z Z Z ?_;refine G0 7 Z (Bd h λr1 G h=>?_);refine Qt [] (OpC.fn call291 Z Z Z) (k_dt _ _ G) ?_;rintro _ _ ⟨rfl,rfl⟩;refine Qmw (x:=(.agg (List.flatten (List.map (Qd .u8) r1)))) (H:=[.row 353 1 (List.map (Qd .u8) r1)]) (Qm1 (e:=(Qd .u8)) Zf _ _) Z ?_;refine vH (Qbf (n:=256) (k:=1) (e:=(Qd .u8)) (z:=0) zeroValue353 (by kernel_rfl) (by kernel_rfl) (by kernel_rfl) Z) ?_;refine FE Z (Bd h λV J h=>Bd h λL j h=>?_);obtain⟨s,rfl⟩:=QbD J;refine vU (QcM (e:=(Qd .u8)) (l:=(List.replicate 256 0)) (l':=L) s (Qgr j) Zf Z sizeOf353 Zf Zf (congrArg (λl=>List.flatten (List.map (Qd .u8) l)) (QbD j).2.symm)) ?_;refine FE Z (Go 6 Z ?_);refine vX (I (q.length:Int)) (Je Z Z runUnderlying9 Z) ?_;refine Go 3 Z (Bd h λM N h=>?_);refine Ja (b:=M) [] [0] Ze Ze Zf ?_ (λR env H O d=>?_)
 .refine G0 1 Z ?_;refine Lp [1] [0,3,8] (λm=>[(9,I m)]) Ze N Zf (Lr [1]) λm T a f=>?_;refine G0 6 Z (Ya Z a (λt a=>?_) (λt a=>?_))
  .refine Gc 2 Z (Qk a ?_);obtain rfl:=Oj f a;exact Gx 1 Z (Qp Z (Lr []))
  refine Gc 14 Z (Bd a λp u a=>?_);refine vX (.int .u8 (p.toNat:Int)) (QaG u runUnderlying9) ?_;refine Bd a λP g a=>?_;refine vX (.ptr 0 (Int.toNat (p.toNat:Int)*1)) (YZ (n:=256) (k:=1) (l:=L) g runUnderlying353 sizeOf5 Z) ?_;refine vX (.int .u8 P) (Ey Z isAgg5 Z (Qo (Qaf g).2)) ?_;refine Go 4 Z (Bd a λi c a=>?_);refine Ct i [0] [0,3,8,9] (λi=>[(32,.bool i)]) Ze Zf ?_ (λenv H d=>?_)
  .refine G0 4 Z (Is 19 c Z (λw c=>?_) (λw c=>?_))
   .refine Go 3 Z (Is 22 c Z (λy c=>?_) (λy c=>?_))
    .exact Go 11 Z (Cl c [0])
    .refine Go 3 Z (Is 25 c Z (λB c=>?_) (λB c=>?_))
     .refine Go 2 Z (Bd c λQ E c=>?_);refine vX (.int .u8 (Q.toNat:Int)) (QaG E runUnderlying9) ?_ (gT Z);exact Go 5 Z (Cl c [0])
     .exact Go 8 Z (Cl c [0])
   .exact Go 14 Z (Cl c [0])
  refine Gx 1 Z (Ef d (Cn Z a (λF a=>?_) (λF a=>?_)))
  .refine Gc 8 Z (Qn a ?_);obtain rfl:=Oj f a;exact Gx 1 Z (Qm (Gx 1 Z (Rt h 2 [])))
  exact Gc 7 Z (Qj a (Lr [0]))
 subst O;exact Gx 1 Z (Ef d (Gc 8 Z (Rt h 2 [])))
def F_cw(n:Nat)(a:List UInt8):Option Bool:=
  ((F_cs n a).bind λe=>(bif e then(cat [32] a).bind λb=>(cat b [32]).bind λc=>(Qep [32,99,111,117,114,115,101,32,109,97,116,115,32,115,116,97,114,116,32,112,97,115,115,32,101,110,100,32,108,101,103,32,116,111,32,100,105,115,116,97,110,99,101,32,103,117,110,32,99,104,105,112,32,115,108,111,116,32,108,97,112,115,32,108,97,112,32,99,117,116,111,102,102,32,101,120,116,114,97,32,119,97,118,101,32,111,102,102,101,110,99,101,32,111,117,116,32,99,97,116,101,103,111,114,121,32,112,114,105,122,101,32,97,108,108,32,116,105,101,115,32,105,102,32,101,108,115,101,32,97,110,100,32,111,114,32,110,111,116,32,111,108,100,101,114,32,121,111,117,110,103,101,114,32,98,105,98,32,100,114,97,119,32,102,105,101,108,100,32,115,104,111,114,116,32,102,97,117,108,116,115,32,109,105,115,115,101,115,32,115,116,114,97,121,115,32,119,105,110,100,111,119,32,114,101,115,105,100,117,97,108,32,100,114,105,102,116,32,112,114,111,116,101,115,116,32,102,101,101,32,100,101,97,100,108,105,110,101,32] c).bind λd=>some d else some false):Option Bool).bind λf=>some f
theorem k_cw(n:Nat)(f:List UInt8)(r:Bool)(h:F_cw n f=some r):
    Csm prog 235 [.str f] [] (λr=>.bool r) r:=by
 refine Qb func235 Z Z Z ?_;refine G0 6 Z (Bd h λb a h=>?_);refine Ct b [] [] (λb=>[(2,.bool b)]) Ze Zf ?_ (λenv H g=>?_)
 .refine G0 2 Z (Cz [] a (k_cs _ _) Z λp l a=>Go 1 Z (Is 5 a Z (λi a=>?_) (λi a=>?_)))
  .refine Go 1 Z (Bd a λj c a=>?_);refine vX (.str j) (QeR c) ?_ (gT Z);refine Bd a λk d a=>?_;refine vX (.str k) (QeR d) ?_ (gT Z);refine Bd a λm e a=>?_;refine Qt [] (OpC.fn call275 Z Z Z) (C.contains Qc4 Z e) ?_ (hg:=(gT Z));rintro _ _ ⟨rfl,rfl⟩;exact FE Z (Go 3 Z (Cl a []))
  .exact Go 7 Z (Cl a [])
 exact Gx 1 Z (Ef g (Gc 1 Z (Rt h 2 [])))
def F_ij(n:Nat)(c:List UInt8)(b:Int):Option (Ctl Int (Ctl Unit Bool)):=
  (bif decide (b<(c.length:Int))then(idx c b).bind λa=>((bif decide ((a.toNat:Int)<97)then(bif decide ((a.toNat:Int)<48)then some ((a.toNat:Int) != 95)else(bif decide (57<(a.toNat:Int))then some ((a.toNat:Int) != 95)else some false))else(bif decide (122<(a.toNat:Int))then(bif decide ((a.toNat:Int)<48)then some ((a.toNat:Int) != 95)else(bif decide (57<(a.toNat:Int))then some ((a.toNat:Int) != 95)else some false))else some false)):Option Bool).bind λd=>(bif d then some (.done (.done false))else some (.cont (IntKind.i64.wrap (b+1))))else some (.done (.cont ())))
def F_d(n:Nat)(a:List UInt8):Option Bool:=
  ((bif decide ((a.length:Int)<1)then some true else(bif decide (24<(a.length:Int))then some true else(idx a 0).bind λc=>(bif decide ((c.toNat:Int)<97)then some true else(idx a 0).bind λd=>some (decide (122<(d.toNat:Int)))))):Option Bool).bind λg=>(bif g then some false else(iter (F_ij n a) n 0:Option (Ctl Unit Bool)).bind λe=>match e with|.cont b=>((F_cw n a).bind λf=>some (!f))|.done b=>some b)
theorem k_d(n:Nat)(f:List UInt8)(r:Bool)(h:F_d n f=some r):
    Csm prog 167 [.str f] [] (λr=>.bool r) r:=by
 refine Qb func167 Z Z Z ?_;refine G0 7 Z (Bd h λk d h=>?_);refine Ct k [] [0] (λk=>[(22,.bool k)]) Ze Zf ?_ (λenv H e=>?_)
 .refine G0 2 Z ?_;refine vX (I (f.length:Int)) (Je Z Z runUnderlying9 Z) ?_;refine Go 2 Z (Is 8 d Z (λF d=>?_) (λF d=>?_))
  .exact Go 15 Z (Cl d [])
  .refine Go 1 Z ?_;refine vX (I (f.length:Int)) (Je Z Z runUnderlying9 Z) ?_ (gT Z);refine Go 3 Z (Is 13 d Z (λG d=>?_) (λG d=>?_))
   .exact Go 10 Z (Cl d [])
   .refine Go 1 Z (Bd d λJ l d=>?_);refine vX (.int .u8 (J.toNat:Int)) (QaG l runUnderlying9) ?_ (gT Z);refine Go 3 Z (Is 18 d Z (λm d=>?_) (λm d=>?_))
    .exact Go 5 Z (Cl d [])
    .refine Go 1 Z (Bd d λL p d=>?_);refine vX (.int .u8 (L.toNat:Int)) (QaG p runUnderlying9) ?_ (gT Z);exact Go 3 Z (Cl d [])
 refine Gx 1 Z (Ef e (Cn Z h (λq h=>?_) (λq h=>?_)))
 .exact Gc 7 Z (Rt h 2 [])
 refine Gc 6 Z ?_;refine vX (I (f.length:Int)) (Je Z Z runUnderlying9 Z) ?_;refine Go 3 Z (Bd h λM N h=>?_);refine Ja (b:=M) [] [0] Ze Ze Zf ?_ (λQ env H O e=>?_)
 .refine G0 1 Z ?_;refine Lp [] [0,24] (λj=>[(25,I j)]) Ze N Zf (Lr []) λj T c g=>?_;refine G0 6 Z (Ya Z c (λs c=>?_) (λs c=>?_))
  .refine Gc 2 Z (Qk c ?_);obtain rfl:=Oj g c;exact Gx 1 Z (Qp Z (Lr []))
  refine Gc 14 Z (Bd c λP t c=>?_);refine vX (.int .u8 (P.toNat:Int)) (QaG t runUnderlying9) ?_;refine Go 4 Z (Bd c λi a c=>?_);refine Ct i [] [0,24,25] (λi=>[(48,.bool i)]) Ze Zf ?_ (λenv H e=>?_)
  .refine G0 4 Z (Is 33 a Z (λu a=>?_) (λu a=>?_))
   .refine Go 7 Z (Is 40 a Z (λw a=>?_) (λw a=>?_))
    .exact Go 9 Z (Cl a [])
    .refine Go 5 Z (Is 45 a Z (λx a=>?_) (λx a=>?_))
     .exact Go 4 Z (Cl a [])
     .exact Go 4 Z (Cl a [])
   .refine Go 4 Z (Is 37 a Z (λy a=>?_) (λy a=>?_))
    .refine Go 3 Z (Is 40 a Z (λz a=>?_) (λz a=>?_))
     .exact Go 9 Z (Cl a [])
     .refine Go 5 Z (Is 45 a Z (λB a=>?_) (λB a=>?_))
      .exact Go 4 Z (Cl a [])
      .exact Go 4 Z (Cl a [])
    .exact Go 12 Z (Cl a [])
  refine Gx 1 Z (Ef e (Cn Z c (λE c=>?_) (λE c=>?_)))
  .refine Gc 8 Z (Qn c ?_);obtain rfl:=Oj g c;exact Gx 1 Z (Qm (Gx 1 Z (Rt h 2 [])))
  exact Gc 7 Z (Qj c (Lr []))
 subst O;exact Gx 1 Z (Ef e (Gc 3 Z (Cz [] h (k_cw _ _) Z λV R h=>Go 5 Z (Rt h 2 []))))
def F_fe(n:Nat)(a:Mat):Option Unit:=
  some ()
theorem k_fe(n:Nat)(a:Mat)(r:Unit)(h:F_fe n a=some r):
    Csm prog 169 [.agg (Mat.c a)] [] (λ_=>.str a.Name) r:=by
 refine Qb func169 Z Z Z ?_;exact G0 14 Z (Rt h 2 [])
def F_lc(n:Nat)(c:List Mat)(a:(List (List UInt8×Bool))×Int):Option (Ctl ((List (List UInt8×Bool))×Int) (Ctl Unit Bool)):=
  (bif decide (a.2<(c.length:Int))then(idx c a.2).bind λb=>(F_fe n b).bind λh=>((F_d n b.Name).bind λd=>(bif (!d)then some true else(some (QF a.1 b.Name false)).bind λe=>some e):Option Bool).bind λf=>(bif f then some (.done (.done false))else(some (QW a.1 b.Name true)).bind λg=>some (.cont (g,IntKind.i64.wrap (a.2+1))))else some (.done (.cont ())))
def F_cp(n:Nat)(c:List Mat):Option Bool:=
  (iter (F_lc n c) n ([],0):Option (Ctl Unit Bool)).bind λb=>match b with|.cont a=>(some true)|.done a=>some a
theorem k_cp(n:Nat)(w:List Mat)(r:Bool)(h:F_cp n w=some r):
    Csm prog 168 [.rsl 2 (List.map Mat.c w),.fn (.func 169) [] []] [] (λr=>.bool r) r:=by
 refine Qb func168 Z Z Z ?_;refine G0 7 Z ?_;refine vH Yu ?_;refine FE Z (Go 7 Z (Lm Z (Go 3 Z (Bd h λx y h=>?_))));refine Ja (b:=x) [] [] Ze Ze Zf ?_ (λE env H z f=>?_)
 .refine G0 1 Z ?_;refine Lp [0] [1,5,10,11] (λe=>[(12,I e.2)]) (λe=>[(0,.map (Qz A.str A.bool e.1))]) y Zf (Lr [0]) λe J a g=>?_;refine G0 6 Z (Ya Z a (λm a=>?_) (λm a=>?_))
  .refine Gc 2 Z (Qk a ?_);obtain rfl:=Oj g a;exact Gx 1 Z (Qp Z (Lr []))
  refine Gc 6 Z (Bd a λj p a=>Iz p Z (Go 9 Z (Cz [] a (k_fe _ _) Z λL F a=>Go 5 Z (Bd a λi d a=>?_))));refine Ct i [0] [1,5,8,10,11,12] (λi=>[(26,.bool i)]) Ze Zf ?_ (λenv H f=>?_)
  .refine G0 2 Z (Cz [] d (k_d _ _) Z λM G d=>Go 2 Z (Is 22 d Z (λq d=>?_) (λq d=>?_)))
   .exact Go 5 Z (Cl d [0])
   .refine Go 2 Z (Bd d λB s d=>?_);refine vX (.bool B) (YV (ev:=A.bool) (z0:=false) (k:=j.Name) (l:=e.1) QbT s underlying309 zeroValue4 ZR.bool) ?_ (gT Z);exact Go 2 Z (Cl d [0])
  refine Gx 1 Z (Ef f (Cn Z a (λt a=>?_) (λt a=>?_)))
  .refine Gc 9 Z (Qn a ?_);obtain rfl:=Oj g a;exact Gx 1 Z (Qm (Gx 1 Z (Rt h 4 [])))
  refine Gc 5 Z (Bd a λN u a=>?_);refine vU (YL (ev:=A.bool) (k:=j.Name) (v:=true) (l:=e.1) QbT u Z underlying309) ?_;exact FE Z (Go 7 Z (Qj a (Lr [0])))
 subst z;exact Gx 1 Z (Ef f (Gc 6 Z (Rt h 4 [])))
def F_gk(n:Nat)(a:Distance):Option Unit:=
  some ()
theorem k_gk(n:Nat)(a:Distance)(r:Unit)(h:F_gk n a=some r):
    Csm prog 171 [.agg (Distance.c a)] [] (λ_=>.str a.Name) r:=by
 refine Qb func171 Z Z Z ?_;exact G0 14 Z (Rt h 2 [])
def F_md(n:Nat)(c:List Distance)(a:(List (List UInt8×Bool))×Int):Option (Ctl ((List (List UInt8×Bool))×Int) (Ctl Unit Bool)):=
  (bif decide (a.2<(c.length:Int))then(idx c a.2).bind λb=>(F_gk n b).bind λh=>((F_d n b.Name).bind λd=>(bif (!d)then some true else(some (QF a.1 b.Name false)).bind λe=>some e):Option Bool).bind λf=>(bif f then some (.done (.done false))else(some (QW a.1 b.Name true)).bind λg=>some (.cont (g,IntKind.i64.wrap (a.2+1))))else some (.done (.cont ())))
def F_bh(n:Nat)(c:List Distance):Option Bool:=
  (iter (F_md n c) n ([],0):Option (Ctl Unit Bool)).bind λb=>match b with|.cont a=>(some true)|.done a=>some a
theorem k_bh(n:Nat)(w:List Distance)(r:Bool)(h:F_bh n w=some r):
    Csm prog 170 [.rsl 5 (List.map Distance.c w),.fn (.func 171) [] []] [] (λr=>.bool r) r:=by
 refine Qb func170 Z Z Z ?_;refine G0 7 Z ?_;refine vH Yu ?_;refine FE Z (Go 7 Z (Lm Z (Go 3 Z (Bd h λx y h=>?_))));refine Ja (b:=x) [] [] Ze Ze Zf ?_ (λE env H z f=>?_)
 .refine G0 1 Z ?_;refine Lp [0] [1,5,10,11] (λe=>[(12,I e.2)]) (λe=>[(0,.map (Qz A.str A.bool e.1))]) y Zf (Lr [0]) λe J a g=>?_;refine G0 6 Z (Ya Z a (λm a=>?_) (λm a=>?_))
  .refine Gc 2 Z (Qk a ?_);obtain rfl:=Oj g a;exact Gx 1 Z (Qp Z (Lr []))
  refine Gc 6 Z (Bd a λj p a=>Iz p Z (Go 9 Z (Cz [] a (k_gk _ _) Z λL F a=>Go 5 Z (Bd a λi d a=>?_))));refine Ct i [0] [1,5,8,10,11,12] (λi=>[(26,.bool i)]) Ze Zf ?_ (λenv H f=>?_)
  .refine G0 2 Z (Cz [] d (k_d _ _) Z λM G d=>Go 2 Z (Is 22 d Z (λq d=>?_) (λq d=>?_)))
   .exact Go 5 Z (Cl d [0])
   .refine Go 2 Z (Bd d λB s d=>?_);refine vX (.bool B) (YV (ev:=A.bool) (z0:=false) (k:=j.Name) (l:=e.1) QbT s underlying309 zeroValue4 ZR.bool) ?_ (gT Z);exact Go 2 Z (Cl d [0])
  refine Gx 1 Z (Ef f (Cn Z a (λt a=>?_) (λt a=>?_)))
  .refine Gc 9 Z (Qn a ?_);obtain rfl:=Oj g a;exact Gx 1 Z (Qm (Gx 1 Z (Rt h 4 [])))
  refine Gc 5 Z (Bd a λN u a=>?_);refine vU (YL (ev:=A.bool) (k:=j.Name) (v:=true) (l:=e.1) QbT u Z underlying309) ?_;exact FE Z (Go 7 Z (Qj a (Lr [0])))
 subst z;exact Gx 1 Z (Ef f (Gc 6 Z (Rt h 4 [])))
def F_ek(n:Nat)(a:Wave):Option Unit:=
  some ()
theorem k_ek(n:Nat)(a:Wave)(r:Unit)(h:F_ek n a=some r):
    Csm prog 173 [.agg (Wave.c a)] [] (λ_=>.str a.Name) r:=by
 refine Qb func173 Z Z Z ?_;exact G0 14 Z (Rt h 2 [])
def F_me(n:Nat)(c:List Wave)(a:(List (List UInt8×Bool))×Int):Option (Ctl ((List (List UInt8×Bool))×Int) (Ctl Unit Bool)):=
  (bif decide (a.2<(c.length:Int))then(idx c a.2).bind λb=>(F_ek n b).bind λh=>((F_d n b.Name).bind λd=>(bif (!d)then some true else(some (QF a.1 b.Name false)).bind λe=>some e):Option Bool).bind λf=>(bif f then some (.done (.done false))else(some (QW a.1 b.Name true)).bind λg=>some (.cont (g,IntKind.i64.wrap (a.2+1))))else some (.done (.cont ())))
def F_bp(n:Nat)(c:List Wave):Option Bool:=
  (iter (F_me n c) n ([],0):Option (Ctl Unit Bool)).bind λb=>match b with|.cont a=>(some true)|.done a=>some a
theorem k_bp(n:Nat)(w:List Wave)(r:Bool)(h:F_bp n w=some r):
    Csm prog 172 [.rsl 2 (List.map Wave.c w),.fn (.func 173) [] []] [] (λr=>.bool r) r:=by
 refine Qb func172 Z Z Z ?_;refine G0 7 Z ?_;refine vH Yu ?_;refine FE Z (Go 7 Z (Lm Z (Go 3 Z (Bd h λx y h=>?_))));refine Ja (b:=x) [] [] Ze Ze Zf ?_ (λE env H z f=>?_)
 .refine G0 1 Z ?_;refine Lp [0] [1,5,10,11] (λe=>[(12,I e.2)]) (λe=>[(0,.map (Qz A.str A.bool e.1))]) y Zf (Lr [0]) λe J a g=>?_;refine G0 6 Z (Ya Z a (λm a=>?_) (λm a=>?_))
  .refine Gc 2 Z (Qk a ?_);obtain rfl:=Oj g a;exact Gx 1 Z (Qp Z (Lr []))
  refine Gc 6 Z (Bd a λj p a=>Iz p Z (Go 9 Z (Cz [] a (k_ek _ _) Z λL F a=>Go 5 Z (Bd a λi d a=>?_))));refine Ct i [0] [1,5,8,10,11,12] (λi=>[(26,.bool i)]) Ze Zf ?_ (λenv H f=>?_)
  .refine G0 2 Z (Cz [] d (k_d _ _) Z λM G d=>Go 2 Z (Is 22 d Z (λq d=>?_) (λq d=>?_)))
   .exact Go 5 Z (Cl d [0])
   .refine Go 2 Z (Bd d λB s d=>?_);refine vX (.bool B) (YV (ev:=A.bool) (z0:=false) (k:=j.Name) (l:=e.1) QbT s underlying309 zeroValue4 ZR.bool) ?_ (gT Z);exact Go 2 Z (Cl d [0])
  refine Gx 1 Z (Ef f (Cn Z a (λt a=>?_) (λt a=>?_)))
  .refine Gc 9 Z (Qn a ?_);obtain rfl:=Oj g a;exact Gx 1 Z (Qm (Gx 1 Z (Rt h 4 [])))
  refine Gc 5 Z (Bd a λN u a=>?_);refine vU (YL (ev:=A.bool) (k:=j.Name) (v:=true) (l:=e.1) QbT u Z underlying309) ?_;exact FE Z (Go 7 Z (Qj a (Lr [0])))
 subst z;exact Gx 1 Z (Ef f (Gc 6 Z (Rt h 4 [])))
def F_eh(n:Nat)(a:Offence):Option Unit:=
  some ()
theorem k_eh(n:Nat)(a:Offence)(r:Unit)(h:F_eh n a=some r):
    Csm prog 175 [.agg (Offence.c a)] [] (λ_=>.str a.Name) r:=by
 refine Qb func175 Z Z Z ?_;exact G0 14 Z (Rt h 2 [])
def F_kv(n:Nat)(c:List Offence)(a:(List (List UInt8×Bool))×Int):Option (Ctl ((List (List UInt8×Bool))×Int) (Ctl Unit Bool)):=
  (bif decide (a.2<(c.length:Int))then(idx c a.2).bind λb=>(F_eh n b).bind λh=>((F_d n b.Name).bind λd=>(bif (!d)then some true else(some (QF a.1 b.Name false)).bind λe=>some e):Option Bool).bind λf=>(bif f then some (.done (.done false))else(some (QW a.1 b.Name true)).bind λg=>some (.cont (g,IntKind.i64.wrap (a.2+1))))else some (.done (.cont ())))
def F_ct(n:Nat)(c:List Offence):Option Bool:=
  (iter (F_kv n c) n ([],0):Option (Ctl Unit Bool)).bind λb=>match b with|.cont a=>(some true)|.done a=>some a
theorem k_ct(n:Nat)(w:List Offence)(r:Bool)(h:F_ct n w=some r):
    Csm prog 174 [.rsl 4 (List.map Offence.c w),.fn (.func 175) [] []] [] (λr=>.bool r) r:=by
 refine Qb func174 Z Z Z ?_;refine G0 7 Z ?_;refine vH Yu ?_;refine FE Z (Go 7 Z (Lm Z (Go 3 Z (Bd h λx y h=>?_))));refine Ja (b:=x) [] [] Ze Ze Zf ?_ (λE env H z f=>?_)
 .refine G0 1 Z ?_;refine Lp [0] [1,5,10,11] (λe=>[(12,I e.2)]) (λe=>[(0,.map (Qz A.str A.bool e.1))]) y Zf (Lr [0]) λe J a g=>?_;refine G0 6 Z (Ya Z a (λm a=>?_) (λm a=>?_))
  .refine Gc 2 Z (Qk a ?_);obtain rfl:=Oj g a;exact Gx 1 Z (Qp Z (Lr []))
  refine Gc 6 Z (Bd a λj p a=>Iz p Z (Go 9 Z (Cz [] a (k_eh _ _) Z λL F a=>Go 5 Z (Bd a λi d a=>?_))));refine Ct i [0] [1,5,8,10,11,12] (λi=>[(26,.bool i)]) Ze Zf ?_ (λenv H f=>?_)
  .refine G0 2 Z (Cz [] d (k_d _ _) Z λM G d=>Go 2 Z (Is 22 d Z (λq d=>?_) (λq d=>?_)))
   .exact Go 5 Z (Cl d [0])
   .refine Go 2 Z (Bd d λB s d=>?_);refine vX (.bool B) (YV (ev:=A.bool) (z0:=false) (k:=j.Name) (l:=e.1) QbT s underlying309 zeroValue4 ZR.bool) ?_ (gT Z);exact Go 2 Z (Cl d [0])
  refine Gx 1 Z (Ef f (Cn Z a (λt a=>?_) (λt a=>?_)))
  .refine Gc 9 Z (Qn a ?_);obtain rfl:=Oj g a;exact Gx 1 Z (Qm (Gx 1 Z (Rt h 4 [])))
  refine Gc 5 Z (Bd a λN u a=>?_);refine vU (YL (ev:=A.bool) (k:=j.Name) (v:=true) (l:=e.1) QbT u Z underlying309) ?_;exact FE Z (Go 7 Z (Qj a (Lr [0])))
 subst z;exact Gx 1 Z (Ef f (Gc 6 Z (Rt h 4 [])))
def F_ex(n:Nat)(a:Category):Option Unit:=
  some ()
theorem k_ex(n:Nat)(a:Category)(r:Unit)(h:F_ex n a=some r):
    Csm prog 177 [.agg (Category.c a)] [] (λ_=>.str a.Name) r:=by
 refine Qb func177 Z Z Z ?_;exact G0 14 Z (Rt h 2 [])
def F_ky(n:Nat)(c:List Category)(a:(List (List UInt8×Bool))×Int):Option (Ctl ((List (List UInt8×Bool))×Int) (Ctl Unit Bool)):=
  (bif decide (a.2<(c.length:Int))then(idx c a.2).bind λb=>(F_ex n b).bind λh=>((F_d n b.Name).bind λd=>(bif (!d)then some true else(some (QF a.1 b.Name false)).bind λe=>some e):Option Bool).bind λf=>(bif f then some (.done (.done false))else(some (QW a.1 b.Name true)).bind λg=>some (.cont (g,IntKind.i64.wrap (a.2+1))))else some (.done (.cont ())))
def F_ee(n:Nat)(c:List Category):Option Bool:=
  (iter (F_ky n c) n ([],0):Option (Ctl Unit Bool)).bind λb=>match b with|.cont a=>(some true)|.done a=>some a
theorem k_ee(n:Nat)(w:List Category)(r:Bool)(h:F_ee n w=some r):
    Csm prog 176 [.rsl 3 (List.map Category.c w),.fn (.func 177) [] []] [] (λr=>.bool r) r:=by
 refine Qb func176 Z Z Z ?_;refine G0 7 Z ?_;refine vH Yu ?_;refine FE Z (Go 7 Z (Lm Z (Go 3 Z (Bd h λx y h=>?_))));refine Ja (b:=x) [] [] Ze Ze Zf ?_ (λE env H z f=>?_)
 .refine G0 1 Z ?_;refine Lp [0] [1,5,10,11] (λe=>[(12,I e.2)]) (λe=>[(0,.map (Qz A.str A.bool e.1))]) y Zf (Lr [0]) λe J a g=>?_;refine G0 6 Z (Ya Z a (λm a=>?_) (λm a=>?_))
  .refine Gc 2 Z (Qk a ?_);obtain rfl:=Oj g a;exact Gx 1 Z (Qp Z (Lr []))
  refine Gc 6 Z (Bd a λj p a=>Iz p Z (Go 9 Z (Cz [] a (k_ex _ _) Z λL F a=>Go 5 Z (Bd a λi d a=>?_))));refine Ct i [0] [1,5,8,10,11,12] (λi=>[(26,.bool i)]) Ze Zf ?_ (λenv H f=>?_)
  .refine G0 2 Z (Cz [] d (k_d _ _) Z λM G d=>Go 2 Z (Is 22 d Z (λq d=>?_) (λq d=>?_)))
   .exact Go 5 Z (Cl d [0])
   .refine Go 2 Z (Bd d λB s d=>?_);refine vX (.bool B) (YV (ev:=A.bool) (z0:=false) (k:=j.Name) (l:=e.1) QbT s underlying309 zeroValue4 ZR.bool) ?_ (gT Z);exact Go 2 Z (Cl d [0])
  refine Gx 1 Z (Ef f (Cn Z a (λt a=>?_) (λt a=>?_)))
  .refine Gc 9 Z (Qn a ?_);obtain rfl:=Oj g a;exact Gx 1 Z (Qm (Gx 1 Z (Rt h 4 [])))
  refine Gc 5 Z (Bd a λN u a=>?_);refine vU (YL (ev:=A.bool) (k:=j.Name) (v:=true) (l:=e.1) QbT u Z underlying309) ?_;exact FE Z (Go 7 Z (Qj a (Lr [0])))
 subst z;exact Gx 1 Z (Ef f (Gc 6 Z (Rt h 4 [])))
def F_dv(n:Nat)(a:Course):Option Bool:=
  ((F_d n a.Name).bind λb=>(bif b then(F_cp n a.Mats).bind λc=>(bif c then(F_bh n a.Distances).bind λd=>(bif d then(F_bp n a.Waves).bind λe=>(bif e then(F_ct n a.Offences).bind λf=>(bif f then(F_ee n a.Categories).bind λg=>some g else some false)else some false)else some false)else some false)else some false):Option Bool).bind λh=>some h
theorem k_dv(n:Nat)(j:Course)(r:Bool)(h:F_dv n j=some r):
    Csm prog 113 [.agg (Course.c j)] [] (λr=>.bool r) r:=by
 refine Qb func113 Z Z Z ?_;refine G0 7 Z (Bd h λb a h=>?_);refine Ct b [] [] (λb=>[(2,.bool b)]) Ze Zf ?_ (λenv H k=>?_)
 .refine G0 3 Z (Cz [] a (k_d _ _) Z λu l a=>Go 1 Z (Is 6 a Z (λd a=>?_) (λd a=>?_)))
  .refine Go 2 Z (Cz [] a (k_cp _ _) Z λw m a=>Go 2 Z (Is 11 a Z (λe a=>?_) (λe a=>?_)))
   .refine Go 2 Z (Cz [] a (k_bh _ _) Z λx p a=>Go 2 Z (Is 16 a Z (λf a=>?_) (λf a=>?_)))
    .refine Go 2 Z (Cz [] a (k_bp _ _) Z λy q a=>Go 2 Z (Is 21 a Z (λg a=>?_) (λg a=>?_)))
     .refine Go 2 Z (Cz [] a (k_ct _ _) Z λz s a=>Go 2 Z (Is 26 a Z (λi a=>?_) (λi a=>?_)))
      .exact Go 2 Z (Cz [] a (k_ee _ _) Z λB t a=>Go 3 Z (Cl a []))
      .exact Go 6 Z (Cl a [])
     .exact Go 11 Z (Cl a [])
    .exact Go 16 Z (Cl a [])
   .exact Go 21 Z (Cl a [])
  .exact Go 26 Z (Cl a [])
 exact Gx 1 Z (Ef k (Gc 1 Z (Rt h 2 [])))
def F_aq(n:Nat)(a:Int)(b:Int)(c:Int):Option Bool:=
  ((bif decide (a<b)then some true else some (decide (c<a))):Option Bool).bind λd=>some d
theorem k_aq(n:Nat)(c:Int)(d:Int)(e:Int)(r:Bool)(h:F_aq n c d e=some r):
    Csm prog 236 [I c,.ptr 0 0,.ptr 1 0] [.cells 3 [I d],.cells 3 [I e]] (λr=>.bool r) r:=by
 refine Qb func236 Z Z Z ?_;refine G0 6 Z (Bd h λb a h=>?_);refine Ct b [0,1] [] (λb=>[(4,.bool b)]) Ze Zf ?_ (λenv H f=>?_)
 .refine G0 5 Z (Is 8 a Z (λg a=>?_) (λg a=>?_))
  .exact Go 6 Z (Cl a [0,1])
  .exact Go 6 Z (Cl a [0,1])
 exact Gx 1 Z (Ef f (Gc 1 Z (Rt h 4 [0,1])))
def F_kx(n:Nat)(b:List Int)(e:Int)(f:Int)(a:Int):Option (Ctl Int (Ctl Unit Int)):=
  (bif decide (a<(b.length:Int))then(idx b a).bind λc=>(F_aq n c e f).bind λd=>(bif d then some (.done (.done a))else some (.cont (IntKind.i64.wrap (a+1))))else some (.done (.cont ())))
def F_gs(n:Nat)(c:List Int)(d:Int)(e:Int):Option Int:=
  (iter (F_kx n c d e) n 0:Option (Ctl Unit Int)).bind λb=>match b with|.cont a=>(some (-1))|.done a=>some a
theorem k_gs(n:Nat)(c:List Int)(a:Int)(b:Int)(r:Int)(h:F_gs n c a b=some r):
    Csm prog 226 [.rsl 1 (List.map (Qd .i64) c),.fn (.func 236) [] [.ptr 0 0,.ptr 1 0]] [.cells 3 [I a],.cells 3 [I b]] (λr=>I r) r:=
 QJ (el:=λx=>I x) (g:=λx=>F_aq n x a b) func226 Z Z Z runUnderlying32 sizeOf3 (λ_ _ _ _ d e=>Ey d isAgg3 e Pts.rp) call236 (λ_ _ h=>k_aq _ _ _ _ _ h) h
def F_cf(n:Nat)(a:List Int)(b:Int)(c:Int):Option Bool:=
  (F_gs n a b c).bind λr1=>some (decide (0<=r1))
theorem k_cf(n:Nat)(a:List Int)(b:Int)(c:Int)(r:Bool)(h:F_cf n a b c=some r):
    Csm prog 147 [.rsl 1 (List.map (Qd .i64) a),.fn (.func 236) [] [.ptr 0 0,.ptr 1 0]] [.cells 3 [I b],.cells 3 [I c]] (λr=>.bool r) r:=by
 refine Qb func147 Z Z Z ?_;exact G0 9 Z (Cz [0,1] h (k_gs _ _ _ _) Z λr1 d h=>Go 5 Z (Rt h 4 [0,1]))
def F_a(n:Nat)(a:Int)(b:Int)(c:List Int):Option Bool:=
  (F_cf n c a b).bind λr1=>some (!r1)
theorem k_a(n:Nat)(a:Int)(b:Int)(c:List Int)(r:Bool)(h:F_a n a b c=some r):
    Csm prog 179 [I a,I b,.rsl 1 (List.map (Qd .i64) c)] [] (λr=>.bool r) r:=by
 refine Qb func179 Z Z Z ?_;exact G0 11 Z (Cz [0,1] h (k_cf _ _ _ _) Z λr1 d h=>Go 5 Z (Rt h 6 []))
def F_dq(n:Nat)(a:Mat):Option Bool:=
  (F_a n 1 3 [a.Kind]).bind λr1=>some r1
theorem k_dq(n:Nat)(a:Mat)(r:Bool)(h:F_dq n a=some r):
    Csm prog 188 [.agg (Mat.c a)] [] (λr=>.bool r) r:=by
 refine Qb func188 Z Z Z ?_;refine G0 10 Z ?_;refine vH (El (xs:=[.tmp 4]) (es:=List.map (Qd .i64) [a.Kind]) Qv Z Z Z Z Z ⟨Z,trivial⟩ Z Z) ?_;exact FE Z (Cb h (k_a _ _ _ _) Z (ls (ls (lo ln))) λr1 b h=>Go 4 Z (Rt h 2 []))
def F_fs(n:Nat)(a:Mat):Option Bool:=
  (F_dq n a).bind λr1=>some (!r1)
theorem k_fs(n:Nat)(a:Mat)(r:Bool)(h:F_fs n a=some r):
    Csm prog 242 [.agg (Mat.c a),.ptr 0 0] [.cells 270 [.fn (.func 188) [] []]] (λr=>.bool r) r:=by
 refine Qb func242 Z Z Z ?_;exact G0 10 Z (Cz [] h (k_dq _ _) Z λr1 b h=>Go 5 Z (Rt h 3 [0]))
def F_ld(n:Nat)(b:List Mat)(a:Int):Option (Ctl Int (Ctl Unit Int)):=
  (bif decide (a<(b.length:Int))then(idx b a).bind λc=>(F_fs n c).bind λd=>(bif d then some (.done (.done a))else some (.cont (IntKind.i64.wrap (a+1))))else some (.done (.cont ())))
def F_ey(n:Nat)(c:List Mat):Option Int:=
  (iter (F_ld n c) n 0:Option (Ctl Unit Int)).bind λb=>match b with|.cont a=>(some (-1))|.done a=>some a
theorem k_ey(n:Nat)(a:List Mat)(r:Int)(h:F_ey n a=some r):
    Csm prog 278 [.rsl 2 (List.map Mat.c a),.fn (.func 242) [] [.ptr 0 0]] [.cells 270 [.fn (.func 188) [] []]] (λr=>I r) r:=
 QJ (el:=λx=>.agg (Mat.c x)) (g:=λx=>F_fs n x) func278 Z Z Z runUnderlying38 sizeOf101 (λ_ _ _ _ b d=>Qy b isAgg101 sizeOf101 d Pts.rp Z Z) call242 (λ_ _ h=>k_fs _ _ _ h) h
def F_hh(n:Nat)(a:List Mat):Option Bool:=
  (F_ey n a).bind λr1=>some (decide (0<=r1))
theorem k_hh(n:Nat)(a:List Mat)(r:Bool)(h:F_hh n a=some r):
    Csm prog 241 [.rsl 2 (List.map Mat.c a),.fn (.func 242) [] [.ptr 0 0]] [.cells 270 [.fn (.func 188) [] []]] (λr=>.bool r) r:=by
 refine Qb func241 Z Z Z ?_;exact G0 9 Z (Cz [0] h (k_ey _ _) Z λr1 b h=>Go 5 Z (Rt h 4 [0]))
def F_cz(n:Nat)(a:List Mat):Option Bool:=
  (F_hh n a).bind λr1=>some (!r1)
theorem k_cz(n:Nat)(a:List Mat)(r:Bool)(h:F_cz n a=some r):
    Csm prog 187 [.rsl 2 (List.map Mat.c a),.fn (.func 188) [] []] [] (λr=>.bool r) r:=by
 refine Qb func187 Z Z Z ?_;exact G0 10 Z (Cz [0] h (k_hh _ _) Z λr1 b h=>Go 5 Z (Rt h 4 []))
def F_ed(n:Nat)(a:Leg)(b:Int):Option Bool:=
  ((F_a n 0 b [a.From,a.To]).bind λc=>(bif c then(F_a n 0 68719476736 [a.Min,a.Max]).bind λd=>(bif d then some (decide (a.Min<=a.Max))else some false)else some false):Option Bool).bind λe=>some e
theorem k_ed(n:Nat)(b:Leg)(f:Int)(r:Bool)(h:F_ed n b f=some r):
    Csm prog 184 [.agg (Leg.c b),.ptr 0 0] [.cells 3 [I f]] (λr=>.bool r) r:=by
 refine Qb func184 Z Z Z ?_;refine G0 7 Z (Bd h λd a h=>?_);refine Ct d [0] [] (λd=>[(3,.bool d)]) Ze Zf ?_ (λenv H g=>?_)
 .refine G0 6 Z ?_;refine vH (El (xs:=[.tmp 6,.tmp 8]) (es:=List.map (Qd .i64) [b.From,b.To]) Qv Z Z Z Z Z ⟨Z,Z,trivial⟩ Z Z) ?_;refine FE Z (Cb a (k_a _ _ _ _) Z (ls (ls (lo ln))) λl j a=>Go 1 Z (Is 11 a Z (λi a=>?_) (λi a=>?_)))
  .refine Go 4 Z ?_;refine vH (El (xs:=[.tmp 13,.tmp 15]) (es:=List.map (Qd .i64) [b.Min,b.Max]) Qv Z Z Z Z Z ⟨Z,Z,trivial⟩ Z Z) ?_ (gT Z);refine FE Z (Cb a (k_a _ _ _ _) Z (ls (ls (lo ln))) λm k a=>Go 2 Z (Is 19 a Z (λe a=>?_) (λe a=>?_)))
   .exact Go 8 Z (Cl a [0])
   .exact Go 8 Z (Cl a [0])
  .exact Go 16 Z (Cl a [0])
 exact Gx 1 Z (Ef g (Gc 1 Z (Rt h 3 [0])))
def F_hj(n:Nat)(a:Leg)(b:Int):Option Bool:=
  (F_ed n a b).bind λr1=>some (!r1)
theorem k_hj(n:Nat)(a:Leg)(b:Int)(r:Bool)(h:F_hj n a b=some r):
    Csm prog 244 [.agg (Leg.c a),.ptr 0 0] [.cells 266 [.fn (.func 184) [] [.ptr 1 0]],.cells 3 [I b]] (λr=>.bool r) r:=by
 refine Qb func244 Z Z Z ?_;exact G0 10 Z (Cz [1] h (k_ed _ _ _) Z λr1 d h=>Go 5 Z (Rt h 3 [0,1]))
def F_lt(n:Nat)(b:List Leg)(e:Int)(a:Int):Option (Ctl Int (Ctl Unit Int)):=
  (bif decide (a<(b.length:Int))then(idx b a).bind λc=>(F_hj n c e).bind λd=>(bif d then some (.done (.done a))else some (.cont (IntKind.i64.wrap (a+1))))else some (.done (.cont ())))
def F_gf(n:Nat)(c:List Leg)(d:Int):Option Int:=
  (iter (F_lt n c d) n 0:Option (Ctl Unit Int)).bind λb=>match b with|.cont a=>(some (-1))|.done a=>some a
theorem k_gf(n:Nat)(b:List Leg)(a:Int)(r:Int)(h:F_gf n b a=some r):
    Csm prog 279 [.rsl 4 (List.map Leg.c b),.fn (.func 244) [] [.ptr 0 0]] [.cells 266 [.fn (.func 184) [] [.ptr 1 0]],.cells 3 [I a]] (λr=>I r) r:=
 QJ (el:=λx=>.agg (Leg.c x)) (g:=λx=>F_hj n x a) func279 Z Z Z runUnderlying39 sizeOf135 (λ_ _ _ _ d e=>Qy d isAgg135 sizeOf135 e Pts.rp Z Z) call244 (λ_ _ h=>k_hj _ _ _ _ h) h
def F_gx(n:Nat)(a:List Leg)(b:Int):Option Bool:=
  (F_gf n a b).bind λr1=>some (decide (0<=r1))
theorem k_gx(n:Nat)(a:List Leg)(b:Int)(r:Bool)(h:F_gx n a b=some r):
    Csm prog 243 [.rsl 4 (List.map Leg.c a),.fn (.func 244) [] [.ptr 0 0]] [.cells 266 [.fn (.func 184) [] [.ptr 1 0]],.cells 3 [I b]] (λr=>.bool r) r:=by
 refine Qb func243 Z Z Z ?_;exact G0 9 Z (Cz [0,1] h (k_gf _ _ _) Z λr1 d h=>Go 5 Z (Rt h 4 [0,1]))
def F_cb(n:Nat)(a:List Leg)(b:Int):Option Bool:=
  (F_gx n a b).bind λr1=>some (!r1)
theorem k_cb(n:Nat)(a:List Leg)(b:Int)(r:Bool)(h:F_cb n a b=some r):
    Csm prog 189 [.rsl 4 (List.map Leg.c a),.fn (.func 184) [] [.ptr 0 0]] [.cells 3 [I b]] (λr=>.bool r) r:=by
 refine Qb func189 Z Z Z ?_;exact G0 10 Z (Cz [1,0] h (k_gx _ _ _) Z λr1 d h=>Go 5 Z (Rt h 4 [0]))
def F_gl(n:Nat)(a:Leg):Option Unit:=
  some ()
theorem k_gl(n:Nat)(a:Leg)(r:Unit)(h:F_gl n a=some r):
    C prog 191 [.agg (Leg.c a)] [] (RQ (λ_=>.agg [I a.From,I a.To]) (λ_=>[.cells 209 [I a.From,I a.To]]) r):=by
 refine Qb func191 Z Z Z ?_;refine G0 17 Z ?_;obtain rfl:=Oi h;exact Rx [1] [2] Z (QV Z (QD isAgg209 sizeOf209 Z Z Z)) ⟨Z,Z⟩
def F_ka(n:Nat)(c:List Leg)(a:(List (typing_ends×Bool))×Int):Option (Ctl ((List (typing_ends×Bool))×Int) (List (typing_ends×Bool))):=
  (bif decide (a.2<(c.length:Int))then(idx c a.2).bind λb=>(F_gl n b).bind λe=>(some (QW a.1 ({from_:=b.From,to_:=b.To:typing_ends}) true)).bind λd=>some (.cont (d,IntKind.i64.wrap (a.2+1)))else some (.done a.1))
def F_be(n:Nat)(a:List Leg):Option Bool:=
  (iter (F_ka n a) n ([],0):Option (List (typing_ends×Bool))).bind λb=>some ((b.length:Int)==(a.length:Int))
theorem k_be(n:Nat)(m:List Leg)(r:Bool)(h:F_be n m=some r):
    Csm prog 190 [.rsl 4 (List.map Leg.c m),.fn (.func 191) [] []] [] (λr=>.bool r) r:=by
 refine Qb func190 Z Z Z ?_;refine G0 7 Z ?_;refine vH Yu ?_;refine FE Z (Go 7 Z (Lm Z (Go 3 Z (Bd h λb p h=>?_))));refine Ct b [0] [0,5] Ze (λb=>[(0,.map (Qz (λx=>A.agg (typing_ends.c x)) A.bool b))]) Zf ?_ (λenv H q=>?_)
 .refine G0 1 Z ?_;refine Lp [0] [0,1,5,9,10] (λd=>[(11,I d.2)]) (λd=>[(0,.map (Qz (λx=>A.agg (typing_ends.c x)) A.bool d.1))]) p Zf (Lr [0]) λd t a f=>?_;refine G0 6 Z (Ya Z a (λg a=>?_) (λg a=>?_))
  .refine Gc 2 Z (Qk a ?_);obtain rfl:=Oj f a;exact Gx 1 Z (Q1 (Lr [0]))
  refine Gc 6 Z (Bd a λe i a=>Iz i Z (Go 9 Z (Cd [] a (k_gl _ _) Z λu s a=>FE Z (Bd a λw j a=>?_))));refine vU (YL (ev:=A.bool) (k:=({from_:=e.From,to_:=e.To:typing_ends})) (v:=true) (l:=d.1) QdG j Z underlying207) ?_;exact FE Z (Go 7 Z (Qj a (Lr [0])))
 refine Gx 1 Z (Ef q (Gc 3 Z ?_));refine vX (I (b.length:Int)) (QeT (l:=b) underlying207 Z) ?_;exact Go 1 Z (Lm Z (Go 5 Z (Rt h 4 [])))
def F_at(rec48:(List Part)->Int->Option Bool)(n:Nat)(a:Part)(b:Int):Option Bool:=
  (bif (a.Laps==0)then((F_a n 0 b [a.Mat]).bind λf=>(bif f then some ((a.Parts.length:Int)==0)else some false):Option Bool).bind λg=>some g else((F_a n 1 64 [a.Laps]).bind λc=>(bif c then(bif (a.Mat==0)then(bif decide (0<(a.Parts.length:Int))then(rec48 a.Parts b).bind λd=>some d else some false)else some false)else some false):Option Bool).bind λe=>some e)
theorem k_at(rec48:(List Part)->Int->Option Bool)(e:∀(b:List Part) (f:Int) (r:Bool),rec48 b f=some r->Csm prog 180 [.rsl 3 (List.map Part.enc b),.fn (.func 178) [] [.ptr 0 0,.ptr 1 0]] [.cells 3 [I f],.cells 261 [.fn (.func 178) [] [.ptr 0 0,.ptr 1 0]]] (λr=>.bool r) r)(n:Nat)(b:Part)(f:Int)(r:Bool)(h:F_at rec48 n b f=some r):
    Csm prog 178 [.agg (Part.c b),.ptr 0 0,.ptr 1 0] [.cells 3 [I f],.cells 261 [.fn (.func 178) [] [.ptr 0 0,.ptr 1 0]]] (λr=>.bool r) r:=by
 refine Qb func178 Z Z Z ?_;refine G0 14 Z (Cn Z h (λp h=>?_) (λp h=>?_))
 .refine Gc 1 Z (Bd h λj d h=>?_);refine Ct j [0,1] [] (λj=>[(4,.bool j)]) Ze Zf ?_ (λenv H g=>?_)
  .refine G0 4 Z ?_;refine vH (El (xs:=[.tmp 10]) (es:=List.map (Qd .i64) [b.Mat]) Qv Z Z Z Z Z ⟨Z,trivial⟩ Z Z) ?_;refine FE Z (Cb d (k_a _ _ _ _) Z (ls (ls (lo ln))) λy u d=>Go 1 Z (Is 13 d Z (λq d=>?_) (λq d=>?_)))
   .exact Go 2 Z (Lm Z (Go 4 Z (Cl d [0,1])))
   .exact Go 7 Z (Cl d [0,1])
  exact Gx 1 Z (Ef g (Gc 2 Z (Rt h 4 [0,1])))
 refine Gc 3 Z (Bd h λi a h=>?_);refine Ct i [0,1] [] (λi=>[(4,.bool i)]) Ze Zf ?_ (λenv H g=>?_)
 .refine G0 3 Z ?_;refine vH (El (xs:=[.tmp 20]) (es:=List.map (Qd .i64) [b.Laps]) Qv Z Z Z Z Z ⟨Z,trivial⟩ Z Z) ?_;refine FE Z (Cb a (k_a _ _ _ _) Z (ls (ls (lo ln))) λw s a=>Go 1 Z (Is 23 a Z (λk a=>?_) (λk a=>?_)))
  .refine Go 5 Z (Is 28 a Z (λl a=>?_) (λl a=>?_))
   .refine Go 2 Z (Lm Z (Go 3 Z (Is 34 a Z (λm a=>?_) (λm a=>?_))))
    .exact Go 3 Z (Cz [0,1] a (e _ _) Z λx t a=>Go 3 Z (Cl a [0,1]))
    .exact Go 7 Z (Cl a [0,1])
   .exact Go 13 Z (Cl a [0,1])
  .exact Go 18 Z (Cl a [0,1])
 exact Gx 1 Z (Ef g (Gc 1 Z (Rt h 4 [0,1])))
def F_hm(rec48:(List Part)->Int->Option Bool)(n:Nat)(a:Part)(b:Int):Option Bool:=
  (F_at rec48 n a b).bind λr1=>some (!r1)
theorem k_hm(rec48:(List Part)->Int->Option Bool)(a:∀(b:List Part) (d:Int) (r:Bool),rec48 b d=some r->Csm prog 180 [.rsl 3 (List.map Part.enc b),.fn (.func 178) [] [.ptr 0 0,.ptr 1 0]] [.cells 3 [I d],.cells 261 [.fn (.func 178) [] [.ptr 0 0,.ptr 1 0]]] (λr=>.bool r) r)(n:Nat)(b:Part)(d:Int)(r:Bool)(h:F_hm rec48 n b d=some r):
    Csm prog 238 [.agg (Part.c b),.ptr 0 0] [.cells 261 [.fn (.func 178) [] [.ptr 1 0,.ptr 2 0]],.cells 3 [I d],.cells 261 [.fn (.func 178) [] [.ptr 1 0,.ptr 2 0]]] (λr=>.bool r) r:=by
 refine Qb func238 Z Z Z ?_;exact G0 10 Z (Cz [1,2] h (k_at rec48 a _ _ _) Z λr1 e h=>Go 5 Z (Rt h 3 [0,1,2]))
def F_mf(n:Nat)(b:List Part)(e:Int)(rec48:(List Part)->Int->Option Bool)(a:Int):Option (Ctl Int (Ctl Unit Int)):=
  (bif decide (a<(b.length:Int))then(idx b a).bind λc=>(F_hm rec48 n c e).bind λd=>(bif d then some (.done (.done a))else some (.cont (IntKind.i64.wrap (a+1))))else some (.done (.cont ())))
def F_db(rec48:(List Part)->Int->Option Bool)(n:Nat)(c:List Part)(d:Int):Option Int:=
  (iter (F_mf n c d rec48) n 0:Option (Ctl Unit Int)).bind λb=>match b with|.cont a=>(some (-1))|.done a=>some a
theorem k_db(rec48:(List Part)->Int->Option Bool)(c:∀(d:List Part) (e:Int) (r:Bool),rec48 d e=some r->Csm prog 180 [.rsl 3 (List.map Part.enc d),.fn (.func 178) [] [.ptr 0 0,.ptr 1 0]] [.cells 3 [I e],.cells 261 [.fn (.func 178) [] [.ptr 0 0,.ptr 1 0]]] (λr=>.bool r) r)(n:Nat)(d:List Part)(e:Int)(r:Int)(h:F_db rec48 n d e=some r):
    Csm prog 276 [.rsl 3 (List.map Part.enc d),.fn (.func 238) [] [.ptr 0 0]] [.cells 261 [.fn (.func 178) [] [.ptr 1 0,.ptr 2 0]],.cells 3 [I e],.cells 261 [.fn (.func 178) [] [.ptr 1 0,.ptr 2 0]]] (λr=>I r) r:=by
 refine Qb func276 Z Z Z ?_;refine G0 9 Z (Lm Z (Go 3 Z (Bd h λl m h=>?_)));refine Ja (b:=l) [0,1,2] [] Ze Ze Zf ?_ (λt env H p q=>?_)
 .refine G0 1 Z ?_;refine Lp [0,1,2] [0,1,7] (λg=>[(8,I g)]) Ze m Zf (Lr [0,1,2]) λg w a f=>?_;refine G0 6 Z (Ya Z a (λi a=>?_) (λi a=>?_))
  .refine Gc 2 Z (Qk a ?_);obtain rfl:=Oj f a;exact Gx 1 Z (Qp Z (Lr [0,1,2]))
  refine Gc 15 Z (Bd a λs j a=>IzE j (Jj s) Z (Go 1 Z (Cz [0,1,2] a (k_hm rec48 c _ _ _) Z λx u a=>Go 2 Z (Cn Z a (λk a=>?_) (λk a=>?_)))))
  .refine Gc 9 Z (Qn a ?_);obtain rfl:=Oj f a;exact Gx 1 Z (Qm (Gx 1 Z (Rt h 4 [0,1,2])))
  exact Gc 7 Z (Qj a (Lr [0,1,2]))
 subst p;exact Gx 1 Z (Ef q (Gc 6 Z (Rt h 4 [0,1,2])))
def F_bo(rec48:(List Part)->Int->Option Bool)(n:Nat)(a:List Part)(b:Int):Option Bool:=
  (F_db rec48 n a b).bind λr1=>some (decide (0<=r1))
theorem k_bo(rec48:(List Part)->Int->Option Bool)(a:∀(b:List Part) (c:Int) (r:Bool),rec48 b c=some r->Csm prog 180 [.rsl 3 (List.map Part.enc b),.fn (.func 178) [] [.ptr 0 0,.ptr 1 0]] [.cells 3 [I c],.cells 261 [.fn (.func 178) [] [.ptr 0 0,.ptr 1 0]]] (λr=>.bool r) r)(n:Nat)(b:List Part)(c:Int)(r:Bool)(h:F_bo rec48 n b c=some r):
    Csm prog 237 [.rsl 3 (List.map Part.enc b),.fn (.func 238) [] [.ptr 0 0]] [.cells 261 [.fn (.func 178) [] [.ptr 1 0,.ptr 2 0]],.cells 3 [I c],.cells 261 [.fn (.func 178) [] [.ptr 1 0,.ptr 2 0]]] (λr=>.bool r) r:=by
 refine Qb func237 Z Z Z ?_;exact G0 9 Z (Cz [0,1,2] h (k_db rec48 a _ _ _) Z λr1 d h=>Go 5 Z (Rt h 4 [0,1,2]))
def B_f(rec48:(List Part)->Int->Option Bool)(n:Nat)(a:List Part)(b:Int):Option Bool:=
  (F_bo rec48 n a b).bind λr1=>some (!r1)
theorem Qb0(rec48:(List Part)->Int->Option Bool)(a:∀(b:List Part) (c:Int) (r:Bool),rec48 b c=some r->Csm prog 180 [.rsl 3 (List.map Part.enc b),.fn (.func 178) [] [.ptr 0 0,.ptr 1 0]] [.cells 3 [I c],.cells 261 [.fn (.func 178) [] [.ptr 0 0,.ptr 1 0]]] (λr=>.bool r) r)(n:Nat)(b:List Part)(c:Int)(r:Bool)(h:B_f rec48 n b c=some r):
    Csm prog 180 [.rsl 3 (List.map Part.enc b),.fn (.func 178) [] [.ptr 0 0,.ptr 1 0]] [.cells 3 [I c],.cells 261 [.fn (.func 178) [] [.ptr 0 0,.ptr 1 0]]] (λr=>.bool r) r:=by
 refine Qb func180 Z Z Z ?_;exact G0 10 Z (Cz [2,0,1] h (k_bo rec48 a _ _ _) Z λr1 d h=>Go 5 Z (Rt h 4 [0,1]))
def F_f:Nat->(List Part)->Int->Option Bool
  |0=>λ_ _=>none
  |n+1=>B_f (F_f n) n
theorem k_f(n:Nat):∀(a:List Part) (b:Int) (r:Bool),F_f n a b=some r->Csm prog 180 [.rsl 3 (List.map Part.enc a),.fn (.func 178) [] [.ptr 0 0,.ptr 1 0]] [.cells 3 [I b],.cells 261 [.fn (.func 178) [] [.ptr 0 0,.ptr 1 0]]] (λr=>.bool r) r:=by
  induction n with
  |zero=>intro a b r h;cases h
  |succ n ih=>intro a b r h;exact Qb0 _ ih n a b r h
def F_dn(n:Nat)(a:Cutoff)(c:Int):Option Bool:=
  ((F_a n 0 c [a.Mat]).bind λd=>(bif d then(bif decide (1<=a.Lap)then(F_a n 0 1099511627776 [a.Limit]).bind λb=>some b else some false)else some false):Option Bool).bind λe=>some e
theorem k_dn(n:Nat)(b:Cutoff)(e:Int)(r:Bool)(h:F_dn n b e=some r):
    Csm prog 181 [.agg (Cutoff.c b),.ptr 0 0] [.cells 3 [I e]] (λr=>.bool r) r:=by
 refine Qb func181 Z Z Z ?_;refine G0 7 Z (Bd h λd a h=>?_);refine Ct d [0] [] (λd=>[(3,.bool d)]) Ze Zf ?_ (λenv H f=>?_)
 .refine G0 4 Z ?_;refine vH (El (xs:=[.tmp 6]) (es:=List.map (Qd .i64) [b.Mat]) Qv Z Z Z Z Z ⟨Z,trivial⟩ Z Z) ?_;refine FE Z (Cb a (k_a _ _ _ _) Z (ls (ls (lo ln))) λm k a=>Go 1 Z (Is 9 a Z (λg a=>?_) (λg a=>?_)))
  .refine Go 5 Z (Is 14 a Z (λi a=>?_) (λi a=>?_))
   .refine Go 2 Z ?_;refine vH (El (xs:=[.tmp 16]) (es:=List.map (Qd .i64) [b.Limit]) Qv Z Z Z Z Z ⟨Z,trivial⟩ Z Z) ?_ (gT Z);exact FE Z (Cb a (k_a _ _ _ _) Z (ls (ls (lo ln))) λl j a=>Go 3 Z (Cl a [0]))
   .exact Go 7 Z (Cl a [0])
  .exact Go 12 Z (Cl a [0])
 exact Gx 1 Z (Ef f (Gc 1 Z (Rt h 3 [0])))
def F_ef(n:Nat)(a:Cutoff)(b:Int):Option Bool:=
  (F_dn n a b).bind λr1=>some (!r1)
theorem k_ef(n:Nat)(a:Cutoff)(b:Int)(r:Bool)(h:F_ef n a b=some r):
    Csm prog 240 [.agg (Cutoff.c a),.ptr 0 0] [.cells 264 [.fn (.func 181) [] [.ptr 1 0]],.cells 3 [I b]] (λr=>.bool r) r:=by
 refine Qb func240 Z Z Z ?_;exact G0 10 Z (Cz [1] h (k_dn _ _ _) Z λr1 d h=>Go 5 Z (Rt h 3 [0,1]))
def F_lk(n:Nat)(b:List Cutoff)(e:Int)(a:Int):Option (Ctl Int (Ctl Unit Int)):=
  (bif decide (a<(b.length:Int))then(idx b a).bind λc=>(F_ef n c e).bind λd=>(bif d then some (.done (.done a))else some (.cont (IntKind.i64.wrap (a+1))))else some (.done (.cont ())))
def F_fb(n:Nat)(c:List Cutoff)(d:Int):Option Int:=
  (iter (F_lk n c d) n 0:Option (Ctl Unit Int)).bind λb=>match b with|.cont a=>(some (-1))|.done a=>some a
theorem k_fb(n:Nat)(b:List Cutoff)(a:Int)(r:Int)(h:F_fb n b a=some r):
    Csm prog 277 [.rsl 3 (List.map Cutoff.c b),.fn (.func 240) [] [.ptr 0 0]] [.cells 264 [.fn (.func 181) [] [.ptr 1 0]],.cells 3 [I a]] (λr=>I r) r:=
 QJ (el:=λx=>.agg (Cutoff.c x)) (g:=λx=>F_ef n x a) func277 Z Z Z runUnderlying97 sizeOf249 (λ_ _ _ _ d e=>Qy d isAgg249 sizeOf249 e Pts.rp Z Z) call240 (λ_ _ h=>k_ef _ _ _ _ h) h
def F_eo(n:Nat)(a:List Cutoff)(b:Int):Option Bool:=
  (F_fb n a b).bind λr1=>some (decide (0<=r1))
theorem k_eo(n:Nat)(a:List Cutoff)(b:Int)(r:Bool)(h:F_eo n a b=some r):
    Csm prog 239 [.rsl 3 (List.map Cutoff.c a),.fn (.func 240) [] [.ptr 0 0]] [.cells 264 [.fn (.func 181) [] [.ptr 1 0]],.cells 3 [I b]] (λr=>.bool r) r:=by
 refine Qb func239 Z Z Z ?_;exact G0 9 Z (Cz [0,1] h (k_fb _ _ _) Z λr1 d h=>Go 5 Z (Rt h 4 [0,1]))
def F_bz(n:Nat)(a:List Cutoff)(b:Int):Option Bool:=
  (F_eo n a b).bind λr1=>some (!r1)
theorem k_bz(n:Nat)(a:List Cutoff)(b:Int)(r:Bool)(h:F_bz n a b=some r):
    Csm prog 183 [.rsl 3 (List.map Cutoff.c a),.fn (.func 181) [] [.ptr 0 0]] [.cells 3 [I b]] (λr=>.bool r) r:=by
 refine Qb func183 Z Z Z ?_;exact G0 10 Z (Cz [1,0] h (k_eo _ _ _) Z λr1 d h=>Go 5 Z (Rt h 4 [0]))
def F_cl(n:Nat)(a:Distance)(b:Int):Option Bool:=
  ((F_a n 1 3 [a.Timing]).bind λc=>(bif c then(F_a n (-1) b [a.Extra]).bind λd=>(bif d then(F_f n a.Route b).bind λe=>(bif e then(F_bz n a.Cutoffs b).bind λf=>some f else some false)else some false)else some false):Option Bool).bind λg=>some g
theorem k_cl(n:Nat)(b:Distance)(i:Int)(r:Bool)(h:F_cl n b i=some r):
    Csm prog 182 [.agg (Distance.c b),.ptr 0 0,.ptr 1 0,.ptr 2 0] [.cells 3 [I i],.cells 261 [.fn (.func 178) [] [.ptr 0 0,.ptr 1 0]],.cells 264 [.fn (.func 181) [] [.ptr 0 0]]] (λr=>.bool r) r:=by
 refine Qb func182 Z Z Z ?_;refine G0 7 Z (Bd h λd a h=>?_);refine Ct d [0,1,2] [] (λd=>[(5,.bool d)]) Ze Zf ?_ (λenv H j=>?_)
 .refine G0 3 Z ?_;refine vH (El (xs:=[.tmp 7]) (es:=List.map (Qd .i64) [b.Timing]) Qv Z Z Z Z Z ⟨Z,trivial⟩ Z Z) ?_;refine FE Z (Cb a (k_a _ _ _ _) Z (ls (ls (lo ln))) λq k a=>Go 1 Z (Is 10 a Z (λe a=>?_) (λe a=>?_)))
  .refine Go 3 Z ?_;refine vH (El (xs:=[.tmp 13]) (es:=List.map (Qd .i64) [b.Extra]) Qv Z Z Z Z Z ⟨Z,trivial⟩ Z Z) ?_ (gT Z);refine FE Z (Cb a (k_a _ _ _ _) Z (ls (ls (lo ln))) λs l a=>Go 2 Z (Is 17 a Z (λf a=>?_) (λf a=>?_)))
   .refine Go 3 Z (Cz [0,1] a (k_f _ _ _) Z λt m a=>Go 2 Z (Is 23 a Z (λg a=>?_) (λg a=>?_)))
    .exact Go 3 Z (Cz [0] a (k_bz _ _ _) Z λu p a=>Go 3 Z (Cl a [0,1,2]))
    .exact Go 7 Z (Cl a [0,1,2])
   .exact Go 13 Z (Cl a [0,1,2])
  .exact Go 20 Z (Cl a [0,1,2])
 exact Gx 1 Z (Ef j (Gc 1 Z (Rt h 5 [0,1,2])))
def F_fk(n:Nat)(a:Distance)(b:Int):Option Bool:=
  (F_cl n a b).bind λr1=>some (!r1)
theorem k_fk(n:Nat)(a:Distance)(b:Int)(r:Bool)(h:F_fk n a b=some r):
    Csm prog 203 [.agg (Distance.c a),.ptr 0 0] [.cells 212 [.fn (.func 182) [] [.ptr 1 0,.ptr 2 0,.ptr 3 0]],.cells 3 [I b],.cells 261 [.fn (.func 178) [] [.ptr 1 0,.ptr 2 0]],.cells 264 [.fn (.func 181) [] [.ptr 1 0]]] (λr=>.bool r) r:=by
 refine Qb func203 Z Z Z ?_;exact G0 10 Z (Cz [1,2,3] h (k_cl _ _ _) Z λr1 d h=>Go 5 Z (Rt h 3 [0,1,2,3]))
def F_kz(n:Nat)(b:List Distance)(e:Int)(a:Int):Option (Ctl Int (Ctl Unit Int)):=
  (bif decide (a<(b.length:Int))then(idx b a).bind λc=>(F_fk n c e).bind λd=>(bif d then some (.done (.done a))else some (.cont (IntKind.i64.wrap (a+1))))else some (.done (.cont ())))
def F_gr(n:Nat)(c:List Distance)(d:Int):Option Int:=
  (iter (F_kz n c d) n 0:Option (Ctl Unit Int)).bind λb=>match b with|.cont a=>(some (-1))|.done a=>some a
theorem k_gr(n:Nat)(b:List Distance)(a:Int)(r:Int)(h:F_gr n b a=some r):
    Csm prog 256 [.rsl 5 (List.map Distance.c b),.fn (.func 203) [] [.ptr 0 0]] [.cells 212 [.fn (.func 182) [] [.ptr 1 0,.ptr 2 0,.ptr 3 0]],.cells 3 [I a],.cells 261 [.fn (.func 178) [] [.ptr 1 0,.ptr 2 0]],.cells 264 [.fn (.func 181) [] [.ptr 1 0]]] (λr=>I r) r:=
 QJ (el:=λx=>.agg (Distance.c x)) (g:=λx=>F_fk n x a) func256 Z Z Z runUnderlying40 sizeOf99 (λ_ _ _ _ d e=>Qy d isAgg99 sizeOf99 e Pts.rp Z Z) call203 (λ_ _ h=>k_fk _ _ _ _ h) h
def F_gz(n:Nat)(a:List Distance)(b:Int):Option Bool:=
  (F_gr n a b).bind λr1=>some (decide (0<=r1))
theorem k_gz(n:Nat)(a:List Distance)(b:Int)(r:Bool)(h:F_gz n a b=some r):
    Csm prog 202 [.rsl 5 (List.map Distance.c a),.fn (.func 203) [] [.ptr 0 0]] [.cells 212 [.fn (.func 182) [] [.ptr 1 0,.ptr 2 0,.ptr 3 0]],.cells 3 [I b],.cells 261 [.fn (.func 178) [] [.ptr 1 0,.ptr 2 0]],.cells 264 [.fn (.func 181) [] [.ptr 1 0]]] (λr=>.bool r) r:=by
 refine Qb func202 Z Z Z ?_;exact G0 9 Z (Cz [0,1,2,3] h (k_gr _ _ _) Z λr1 d h=>Go 5 Z (Rt h 4 [0,1,2,3]))
def F_bw(n:Nat)(a:List Distance)(b:Int):Option Bool:=
  (F_gz n a b).bind λr1=>some (!r1)
theorem k_bw(n:Nat)(a:List Distance)(b:Int)(r:Bool)(h:F_bw n a b=some r):
    Csm prog 116 [.rsl 5 (List.map Distance.c a),.fn (.func 182) [] [.ptr 0 0,.ptr 1 0,.ptr 2 0]] [.cells 3 [I b],.cells 261 [.fn (.func 178) [] [.ptr 0 0,.ptr 1 0]],.cells 264 [.fn (.func 181) [] [.ptr 0 0]]] (λr=>.bool r) r:=by
 refine Qb func116 Z Z Z ?_;exact G0 10 Z (Cz [3,0,1,2] h (k_gz _ _ _) Z λr1 d h=>Go 5 Z (Rt h 4 [0,1,2]))
def F_di(n:Nat)(a:Wave):Option Bool:=
  (F_a n 0 1099511627776 [a.Gun]).bind λr1=>some r1
theorem k_di(n:Nat)(a:Wave)(r:Bool)(h:F_di n a=some r):
    Csm prog 193 [.agg (Wave.c a)] [] (λr=>.bool r) r:=by
 refine Qb func193 Z Z Z ?_;refine G0 10 Z ?_;refine vH (El (xs:=[.tmp 4]) (es:=List.map (Qd .i64) [a.Gun]) Qv Z Z Z Z Z ⟨Z,trivial⟩ Z Z) ?_;exact FE Z (Cb h (k_a _ _ _ _) Z (ls (ls (lo ln))) λr1 b h=>Go 4 Z (Rt h 2 []))
def F_hc(n:Nat)(a:Wave):Option Bool:=
  (F_di n a).bind λr1=>some (!r1)
theorem k_hc(n:Nat)(a:Wave)(r:Bool)(h:F_hc n a=some r):
    Csm prog 246 [.agg (Wave.c a),.ptr 0 0] [.cells 275 [.fn (.func 193) [] []]] (λr=>.bool r) r:=by
 refine Qb func246 Z Z Z ?_;exact G0 10 Z (Cz [] h (k_di _ _) Z λr1 b h=>Go 5 Z (Rt h 3 [0]))
def F_lu(n:Nat)(b:List Wave)(a:Int):Option (Ctl Int (Ctl Unit Int)):=
  (bif decide (a<(b.length:Int))then(idx b a).bind λc=>(F_hc n c).bind λd=>(bif d then some (.done (.done a))else some (.cont (IntKind.i64.wrap (a+1))))else some (.done (.cont ())))
def F_gq(n:Nat)(c:List Wave):Option Int:=
  (iter (F_lu n c) n 0:Option (Ctl Unit Int)).bind λb=>match b with|.cont a=>(some (-1))|.done a=>some a
theorem k_gq(n:Nat)(a:List Wave)(r:Int)(h:F_gq n a=some r):
    Csm prog 280 [.rsl 2 (List.map Wave.c a),.fn (.func 246) [] [.ptr 0 0]] [.cells 275 [.fn (.func 193) [] []]] (λr=>I r) r:=
 QJ (el:=λx=>.agg (Wave.c x)) (g:=λx=>F_hc n x) func280 Z Z Z runUnderlying41 sizeOf139 (λ_ _ _ _ b d=>Qy b isAgg139 sizeOf139 d Pts.rp Z Z) call246 (λ_ _ h=>k_hc _ _ _ h) h
def F_go(n:Nat)(a:List Wave):Option Bool:=
  (F_gq n a).bind λr1=>some (decide (0<=r1))
theorem k_go(n:Nat)(a:List Wave)(r:Bool)(h:F_go n a=some r):
    Csm prog 245 [.rsl 2 (List.map Wave.c a),.fn (.func 246) [] [.ptr 0 0]] [.cells 275 [.fn (.func 193) [] []]] (λr=>.bool r) r:=by
 refine Qb func245 Z Z Z ?_;exact G0 9 Z (Cz [0] h (k_gq _ _) Z λr1 b h=>Go 5 Z (Rt h 4 [0]))
def F_cr(n:Nat)(a:List Wave):Option Bool:=
  (F_go n a).bind λr1=>some (!r1)
theorem k_cr(n:Nat)(a:List Wave)(r:Bool)(h:F_cr n a=some r):
    Csm prog 192 [.rsl 2 (List.map Wave.c a),.fn (.func 193) [] []] [] (λr=>.bool r) r:=by
 refine Qb func192 Z Z Z ?_;exact G0 10 Z (Cz [0] h (k_go _ _) Z λr1 b h=>Go 5 Z (Rt h 4 []))
def F_dg(n:Nat)(a:Offence):Option Bool:=
  (bif a.Out then((bif (a.Time==0)then some (a.Laps==0)else some false):Option Bool).bind λd=>some d else(bif (a.Laps != 0)then((bif (a.Time==0)then(F_a n 1 64 [a.Laps]).bind λb=>some b else some false):Option Bool).bind λe=>some e else(F_a n 0 68719476736 [a.Time]).bind λc=>some c))
theorem k_dg(n:Nat)(e:Offence)(r:Bool)(h:F_dg n e=some r):
    Csm prog 185 [.agg (Offence.c e)] [] (λr=>.bool r) r:=by
 refine Qb func185 Z Z Z ?_;refine G0 15 Z (Cn Z h (λj h=>?_) (λj h=>?_))
 .refine Gc 1 Z (Bd h λf b h=>?_);refine Ct f [] [] (λf=>[(2,.bool f)]) Ze Zf ?_ (λenv H d=>?_)
  .refine G0 5 Z (Is 9 b Z (λk b=>?_) (λk b=>?_))
   .exact Go 6 Z (Cl b [])
   .exact Go 6 Z (Cl b [])
  exact Gx 1 Z (Ef d (Gc 3 Z (Rt h 2 [])))
 refine Gc 8 Z (Cn Z h (λl h=>?_) (λl h=>?_))
 .refine Gc 1 Z (Bd h λg a h=>?_);refine Ct g [] [] (λg=>[(2,.bool g)]) Ze Zf ?_ (λenv H d=>?_)
  .refine G0 5 Z (Is 21 a Z (λi a=>?_) (λi a=>?_))
   .refine Go 2 Z ?_;refine vH (El (xs:=[.tmp 23]) (es:=List.map (Qd .i64) [e.Laps]) Qv Z Z Z Z Z ⟨Z,trivial⟩ Z Z) ?_ (gT Z);exact FE Z (Cb a (k_a _ _ _ _) Z (ls (ls (lo ln))) λq m a=>Go 3 Z (Cl a []))
   .exact Go 7 Z (Cl a [])
  exact Gx 1 Z (Ef d (Gc 3 Z (Rt h 2 [])))
 refine Gc 7 Z ?_;refine vH (El (xs:=[.tmp 28]) (es:=List.map (Qd .i64) [e.Time]) Qv Z Z Z Z Z ⟨Z,trivial⟩ Z Z) ?_;exact FE Z (Cb h (k_a _ _ _ _) Z (ls (ls (lo ln))) λs p h=>Go 4 Z (Rt h 2 []))
def F_ev(n:Nat)(a:Offence):Option Bool:=
  (F_dg n a).bind λr1=>some (!r1)
theorem k_ev(n:Nat)(a:Offence)(r:Bool)(h:F_ev n a=some r):
    Csm prog 248 [.agg (Offence.c a),.ptr 0 0] [.cells 267 [.fn (.func 185) [] []]] (λr=>.bool r) r:=by
 refine Qb func248 Z Z Z ?_;exact G0 10 Z (Cz [] h (k_dg _ _) Z λr1 b h=>Go 5 Z (Rt h 3 [0]))
def F_lv(n:Nat)(b:List Offence)(a:Int):Option (Ctl Int (Ctl Unit Int)):=
  (bif decide (a<(b.length:Int))then(idx b a).bind λc=>(F_ev n c).bind λd=>(bif d then some (.done (.done a))else some (.cont (IntKind.i64.wrap (a+1))))else some (.done (.cont ())))
def F_eg(n:Nat)(c:List Offence):Option Int:=
  (iter (F_lv n c) n 0:Option (Ctl Unit Int)).bind λb=>match b with|.cont a=>(some (-1))|.done a=>some a
theorem k_eg(n:Nat)(a:List Offence)(r:Int)(h:F_eg n a=some r):
    Csm prog 281 [.rsl 4 (List.map Offence.c a),.fn (.func 248) [] [.ptr 0 0]] [.cells 267 [.fn (.func 185) [] []]] (λr=>I r) r:=
 QJ (el:=λx=>.agg (Offence.c x)) (g:=λx=>F_ev n x) func281 Z Z Z runUnderlying42 sizeOf237 (λ_ _ _ _ b d=>Qy b isAgg237 sizeOf237 d Pts.rp Z Z) call248 (λ_ _ h=>k_ev _ _ _ h) h
def F_fl(n:Nat)(a:List Offence):Option Bool:=
  (F_eg n a).bind λr1=>some (decide (0<=r1))
theorem k_fl(n:Nat)(a:List Offence)(r:Bool)(h:F_fl n a=some r):
    Csm prog 247 [.rsl 4 (List.map Offence.c a),.fn (.func 248) [] [.ptr 0 0]] [.cells 267 [.fn (.func 185) [] []]] (λr=>.bool r) r:=by
 refine Qb func247 Z Z Z ?_;exact G0 9 Z (Cz [0] h (k_eg _ _) Z λr1 b h=>Go 5 Z (Rt h 4 [0]))
def F_bn(n:Nat)(a:List Offence):Option Bool:=
  (F_fl n a).bind λr1=>some (!r1)
theorem k_bn(n:Nat)(a:List Offence)(r:Bool)(h:F_bn n a=some r):
    Csm prog 194 [.rsl 4 (List.map Offence.c a),.fn (.func 185) [] []] [] (λr=>.bool r) r:=by
 refine Qb func194 Z Z Z ?_;exact G0 10 Z (Cz [0] h (k_fl _ _) Z λr1 b h=>Go 5 Z (Rt h 4 []))
def F_cg(n:Nat)(a:Category):Option Bool:=
  ((F_a n 0 120 [a.From,a.To]).bind λb=>(bif b then some (decide (a.From<=a.To))else some false):Option Bool).bind λc=>some c
theorem k_cg(n:Nat)(b:Category)(r:Bool)(h:F_cg n b=some r):
    Csm prog 196 [.agg (Category.c b)] [] (λr=>.bool r) r:=by
 refine Qb func196 Z Z Z ?_;refine G0 7 Z (Bd h λd a h=>?_);refine Ct d [] [] (λd=>[(2,.bool d)]) Ze Zf ?_ (λenv H e=>?_)
 .refine G0 5 Z ?_;refine vH (El (xs:=[.tmp 4,.tmp 6]) (es:=List.map (Qd .i64) [b.From,b.To]) Qv Z Z Z Z Z ⟨Z,Z,trivial⟩ Z Z) ?_;refine FE Z (Cb a (k_a _ _ _ _) Z (ls (ls (lo ln))) λi g a=>Go 1 Z (Is 9 a Z (λf a=>?_) (λf a=>?_)))
  .exact Go 8 Z (Cl a [])
  .exact Go 8 Z (Cl a [])
 exact Gx 1 Z (Ef e (Gc 1 Z (Rt h 2 [])))
def F_gv(n:Nat)(a:Category):Option Bool:=
  (F_cg n a).bind λr1=>some (!r1)
theorem k_gv(n:Nat)(a:Category)(r:Bool)(h:F_gv n a=some r):
    Csm prog 250 [.agg (Category.c a),.ptr 0 0] [.cells 278 [.fn (.func 196) [] []]] (λr=>.bool r) r:=by
 refine Qb func250 Z Z Z ?_;exact G0 10 Z (Cz [] h (k_cg _ _) Z λr1 b h=>Go 5 Z (Rt h 3 [0]))
def F_kt(n:Nat)(b:List Category)(a:Int):Option (Ctl Int (Ctl Unit Int)):=
  (bif decide (a<(b.length:Int))then(idx b a).bind λc=>(F_gv n c).bind λd=>(bif d then some (.done (.done a))else some (.cont (IntKind.i64.wrap (a+1))))else some (.done (.cont ())))
def F_fz(n:Nat)(c:List Category):Option Int:=
  (iter (F_kt n c) n 0:Option (Ctl Unit Int)).bind λb=>match b with|.cont a=>(some (-1))|.done a=>some a
theorem k_fz(n:Nat)(a:List Category)(r:Int)(h:F_fz n a=some r):
    Csm prog 282 [.rsl 3 (List.map Category.c a),.fn (.func 250) [] [.ptr 0 0]] [.cells 278 [.fn (.func 196) [] []]] (λr=>I r) r:=
 QJ (el:=λx=>.agg (Category.c x)) (g:=λx=>F_gv n x) func282 Z Z Z runUnderlying43 sizeOf239 (λ_ _ _ _ b d=>Qy b isAgg239 sizeOf239 d Pts.rp Z Z) call250 (λ_ _ h=>k_gv _ _ _ h) h
def F_fp(n:Nat)(a:List Category):Option Bool:=
  (F_fz n a).bind λr1=>some (decide (0<=r1))
theorem k_fp(n:Nat)(a:List Category)(r:Bool)(h:F_fp n a=some r):
    Csm prog 249 [.rsl 3 (List.map Category.c a),.fn (.func 250) [] [.ptr 0 0]] [.cells 278 [.fn (.func 196) [] []]] (λr=>.bool r) r:=by
 refine Qb func249 Z Z Z ?_;exact G0 9 Z (Cz [0] h (k_fz _ _) Z λr1 b h=>Go 5 Z (Rt h 4 [0]))
def F_da(n:Nat)(a:List Category):Option Bool:=
  (F_fp n a).bind λr1=>some (!r1)
theorem k_da(n:Nat)(a:List Category)(r:Bool)(h:F_da n a=some r):
    Csm prog 195 [.rsl 3 (List.map Category.c a),.fn (.func 196) [] []] [] (λr=>.bool r) r:=by
 refine Qb func195 Z Z Z ?_;exact G0 10 Z (Cz [0] h (k_fp _ _) Z λr1 b h=>Go 5 Z (Rt h 4 []))
def F_cn(n:Nat)(a:Prize)(b:Course):Option Bool:=
  ((F_a n 0 (IntKind.i64.wrap ((b.Distances.length:Int)-1)) [a.Distance]).bind λc=>(bif c then(F_a n (-1) (IntKind.i64.wrap ((b.Categories.length:Int)-1)) [a.Category]).bind λd=>(bif d then(F_a n 1 4000 [a.Rank]).bind λe=>(bif e then(F_a n 1 1125899906842624 [a.Amount]).bind λf=>some f else some false)else some false)else some false):Option Bool).bind λg=>some g
theorem k_cn(n:Nat)(b:Prize)(i:Course)(r:Bool)(h:F_cn n b i=some r):
    Csm prog 186 [.agg (Prize.c b),.ptr 0 0] [.cells 49 (Course.c i)] (λr=>.bool r) r:=by
 refine Qb func186 Z Z Z ?_;refine G0 7 Z (Bd h λd a h=>?_);refine Ct d [0] [] (λd=>[(3,.bool d)]) Ze Zf ?_ (λenv H j=>?_)
 .refine G0 3 Z (Lm Z (Go 3 Z ?_));refine vH (El (xs:=[.tmp 9]) (es:=List.map (Qd .i64) [b.Distance]) Qv Z Z Z Z Z ⟨Z,trivial⟩ Z Z) ?_;refine FE Z (Cb a (k_a _ _ _ _) Z (ls (ls (lo ln))) λq k a=>Go 1 Z (Is 12 a Z (λe a=>?_) (λe a=>?_)))
  .refine Go 2 Z (Lm Z (Go 3 Z ?_));refine vH (El (xs:=[.tmp 18]) (es:=List.map (Qd .i64) [b.Category]) Qv Z Z Z Z Z ⟨Z,trivial⟩ Z Z) ?_ (gT Z);refine FE Z (Cb a (k_a _ _ _ _) Z (ls (ls (lo ln))) λs l a=>Go 2 Z (Is 22 a Z (λf a=>?_) (λf a=>?_)))
   .refine Go 2 Z ?_;refine vH (El (xs:=[.tmp 24]) (es:=List.map (Qd .i64) [b.Rank]) Qv Z Z Z Z Z ⟨Z,trivial⟩ Z Z) ?_ (gT Z);refine FE Z (Cb a (k_a _ _ _ _) Z (ls (ls (lo ln))) λt m a=>Go 2 Z (Is 28 a Z (λg a=>?_) (λg a=>?_)))
    .refine Go 2 Z ?_;refine vH (El (xs:=[.tmp 30]) (es:=List.map (Qd .i64) [b.Amount]) Qv Z Z Z Z Z ⟨Z,trivial⟩ Z Z) ?_ (gT Z);exact FE Z (Cb a (k_a _ _ _ _) Z (ls (ls (lo ln))) λu p a=>Go 3 Z (Cl a [0]))
    .exact Go 7 Z (Cl a [0])
   .exact Go 13 Z (Cl a [0])
  .exact Go 23 Z (Cl a [0])
 exact Gx 1 Z (Ef j (Gc 1 Z (Rt h 3 [0])))
def F_gt(n:Nat)(a:Prize)(b:Course):Option Bool:=
  (F_cn n a b).bind λr1=>some (!r1)
theorem k_gt(n:Nat)(a:Prize)(b:Course)(r:Bool)(h:F_gt n a b=some r):
    Csm prog 252 [.agg (Prize.c a),.ptr 0 0] [.cells 268 [.fn (.func 186) [] [.ptr 1 0]],.cells 49 (Course.c b)] (λr=>.bool r) r:=by
 refine Qb func252 Z Z Z ?_;exact G0 10 Z (Cz [1] h (k_cn _ _ _) Z λr1 d h=>Go 5 Z (Rt h 3 [0,1]))
def F_km(n:Nat)(b:List Prize)(e:Course)(a:Int):Option (Ctl Int (Ctl Unit Int)):=
  (bif decide (a<(b.length:Int))then(idx b a).bind λc=>(F_gt n c e).bind λd=>(bif d then some (.done (.done a))else some (.cont (IntKind.i64.wrap (a+1))))else some (.done (.cont ())))
def F_gb(n:Nat)(c:List Prize)(d:Course):Option Int:=
  (iter (F_km n c d) n 0:Option (Ctl Unit Int)).bind λb=>match b with|.cont a=>(some (-1))|.done a=>some a
theorem k_gb(n:Nat)(b:List Prize)(a:Course)(r:Int)(h:F_gb n b a=some r):
    Csm prog 283 [.rsl 4 (List.map Prize.c b),.fn (.func 252) [] [.ptr 0 0]] [.cells 268 [.fn (.func 186) [] [.ptr 1 0]],.cells 49 (Course.c a)] (λr=>I r) r:=
 QJ (el:=λx=>.agg (Prize.c x)) (g:=λx=>F_gt n x a) func283 Z Z Z runUnderlying44 sizeOf74 (λ_ _ _ _ d e=>Qy d isAgg74 sizeOf74 e Pts.rp Z Z) call252 (λ_ _ h=>k_gt _ _ _ _ h) h
def F_gg(n:Nat)(a:List Prize)(b:Course):Option Bool:=
  (F_gb n a b).bind λr1=>some (decide (0<=r1))
theorem k_gg(n:Nat)(a:List Prize)(b:Course)(r:Bool)(h:F_gg n a b=some r):
    Csm prog 251 [.rsl 4 (List.map Prize.c a),.fn (.func 252) [] [.ptr 0 0]] [.cells 268 [.fn (.func 186) [] [.ptr 1 0]],.cells 49 (Course.c b)] (λr=>.bool r) r:=by
 refine Qb func251 Z Z Z ?_;exact G0 9 Z (Cz [0,1] h (k_gb _ _ _) Z λr1 d h=>Go 5 Z (Rt h 4 [0,1]))
def F_bs(n:Nat)(a:List Prize)(b:Course):Option Bool:=
  (F_gg n a b).bind λr1=>some (!r1)
theorem k_bs(n:Nat)(a:List Prize)(b:Course)(r:Bool)(h:F_bs n a b=some r):
    Csm prog 197 [.rsl 4 (List.map Prize.c a),.fn (.func 186) [] [.ptr 0 0]] [.cells 49 (Course.c b)] (λr=>.bool r) r:=by
 refine Qb func197 Z Z Z ?_;exact G0 10 Z (Cz [1,0] h (k_gg _ _ _) Z λr1 d h=>Go 5 Z (Rt h 4 [0]))
def F_gn(n:Nat)(a:Prize):Option Unit:=
  some ()
theorem k_gn(n:Nat)(a:Prize)(r:Unit)(h:F_gn n a=some r):
    C prog 199 [.agg (Prize.c a)] [] (RQ (λ_=>.agg [I a.Distance,I a.Category,I a.Rank]) (λ_=>[.cells 282 [I a.Distance,I a.Category,I a.Rank]]) r):=by
 refine Qb func199 Z Z Z ?_;refine G0 19 Z ?_;obtain rfl:=Oi h;exact Rx [1] [2] Z (QV Z (QD isAgg282 sizeOf282 Z Z Z)) ⟨Z,Z⟩
def F_ke(n:Nat)(c:List Prize)(a:(List (typing_place×Bool))×Int):Option (Ctl ((List (typing_place×Bool))×Int) (List (typing_place×Bool))):=
  (bif decide (a.2<(c.length:Int))then(idx c a.2).bind λb=>(F_gn n b).bind λe=>(some (QW a.1 ({distance:=b.Distance,category:=b.Category,rank:=b.Rank:typing_place}) true)).bind λd=>some (.cont (d,IntKind.i64.wrap (a.2+1)))else some (.done a.1))
def F_de(n:Nat)(a:List Prize):Option Bool:=
  (iter (F_ke n a) n ([],0):Option (List (typing_place×Bool))).bind λb=>some ((b.length:Int)==(a.length:Int))
theorem k_de(n:Nat)(m:List Prize)(r:Bool)(h:F_de n m=some r):
    Csm prog 198 [.rsl 4 (List.map Prize.c m),.fn (.func 199) [] []] [] (λr=>.bool r) r:=by
 refine Qb func198 Z Z Z ?_;refine G0 7 Z ?_;refine vH Yu ?_;refine FE Z (Go 7 Z (Lm Z (Go 3 Z (Bd h λb p h=>?_))));refine Ct b [0] [0,5] Ze (λb=>[(0,.map (Qz (λx=>A.agg (typing_place.c x)) A.bool b))]) Zf ?_ (λenv H q=>?_)
 .refine G0 1 Z ?_;refine Lp [0] [0,1,5,9,10] (λd=>[(11,I d.2)]) (λd=>[(0,.map (Qz (λx=>A.agg (typing_place.c x)) A.bool d.1))]) p Zf (Lr [0]) λd t a f=>?_;refine G0 6 Z (Ya Z a (λg a=>?_) (λg a=>?_))
  .refine Gc 2 Z (Qk a ?_);obtain rfl:=Oj f a;exact Gx 1 Z (Q1 (Lr [0]))
  refine Gc 6 Z (Bd a λe i a=>Iz i Z (Go 9 Z (Cd [] a (k_gn _ _) Z λu s a=>FE Z (Bd a λw j a=>?_))));refine vU (YL (ev:=A.bool) (k:=({distance:=e.Distance,category:=e.Category,rank:=e.Rank:typing_place})) (v:=true) (l:=d.1) Qnb j Z underlying310) ?_;exact FE Z (Go 7 Z (Qj a (Lr [0])))
 refine Gx 1 Z (Ef q (Gc 3 Z ?_));refine vX (I (b.length:Int)) (QeT (l:=b) underlying310 Z) ?_;exact Go 1 Z (Lm Z (Go 5 Z (Rt h 4 [])))
def F_du(n:Nat)(a:Course):Option Bool:=
  ((F_cz n a.Mats).bind λb=>(bif b then(F_cb n a.Legs (IntKind.i64.wrap ((a.Mats.length:Int)-1))).bind λc=>(bif c then(F_be n a.Legs).bind λd=>(bif d then(F_bw n a.Distances (IntKind.i64.wrap ((a.Mats.length:Int)-1))).bind λe=>(bif e then(F_cr n a.Waves).bind λf=>(bif f then(F_bn n a.Offences).bind λg=>(bif g then(F_da n a.Categories).bind λh=>(bif h then(F_bs n a.Prizes a).bind λi=>(bif i then(F_de n a.Prizes).bind λj=>(bif j then(F_a n 0 16 [a.Faults.Misses,a.Faults.Strays]).bind λk=>(bif k then(F_a n 0 4294967296 [a.Faults.Window,a.Faults.Residual]).bind λl=>(bif l then(F_a n 0 100000 [a.Faults.Drift]).bind λm=>(bif m then(F_a n 0 1125899906842624 [a.Fee]).bind λp=>(bif p then(F_a n 0 1099511627776 [a.Deadline]).bind λq=>some q else some false)else some false)else some false)else some false)else some false)else some false)else some false)else some false)else some false)else some false)else some false)else some false)else some false):Option Bool).bind λr=>some r
theorem k_du(n:Nat)(b:Course)(r:Bool)(h:F_du n b=some r):
    Csm prog 114 [.agg (Course.c b)] [] (λr=>.bool r) r:=by
 refine Qb func114 Z Z Z ?_;refine G0 10 Z (Lm Z (Go 55 Z (Bd h λd a h=>?_)));refine Ct d [] [] (λd=>[(2,.bool d)]) Ze Zf ?_ (λenv H w=>?_)
 .refine G0 3 Z (Cz [] a (k_cz _ _) Z λR x a=>Go 1 Z (Is 25 a Z (λe a=>?_) (λe a=>?_)))
  .refine Go 3 Z (Cd [1] a (k_cb _ _ _) Z λT y a=>FE Z (Go 2 Z (Is 31 a Z (λf a=>?_) (λf a=>?_))))
   .refine Go 2 Z (Cz [] a (k_be _ _) Z λV z a=>Go 2 Z (Is 36 a Z (λg a=>?_) (λg a=>?_)))
    .refine Go 3 Z (Cz [1,2,3] a (k_bw _ _ _) Z λW B a=>Go 2 Z (Is 42 a Z (λi a=>?_) (λi a=>?_)))
     .refine Go 2 Z (Cz [] a (k_cr _ _) Z λX E a=>Go 2 Z (Is 47 a Z (λj a=>?_) (λj a=>?_)))
      .refine Go 3 Z (Cz [] a (k_bn _ _) Z λY F a=>Go 2 Z (Is 53 a Z (λk a=>?_) (λk a=>?_)))
       .refine Go 2 Z (Cz [] a (k_da _ _) Z λaa G a=>Go 2 Z (Is 58 a Z (λl a=>?_) (λl a=>?_)))
        .refine Go 3 Z (Cz [0] a (k_bs _ _ _) Z λab J a=>Go 2 Z (Is 64 a Z (λm a=>?_) (λm a=>?_)))
         .refine Go 2 Z (Cz [] a (k_de _ _) Z λac L a=>Go 2 Z (Is 69 a Z (λp a=>?_) (λp a=>?_)))
          .refine Go 4 Z ?_;refine vH (El (xs:=[.tmp 71,.tmp 73]) (es:=List.map (Qd .i64) [b.Faults.Misses,b.Faults.Strays]) Qv Z Z Z Z Z ⟨Z,Z,trivial⟩ Z Z) ?_ (gT Z);refine FE Z (Cb a (k_a _ _ _ _) Z (ls (ls (lo ln))) λad M a=>Go 2 Z (Is 77 a Z (λq a=>?_) (λq a=>?_)))
           .refine Go 4 Z ?_;refine vH (El (xs:=[.tmp 79,.tmp 81]) (es:=List.map (Qd .i64) [b.Faults.Window,b.Faults.Residual]) Qv Z Z Z Z Z ⟨Z,Z,trivial⟩ Z Z) ?_ (gT Z);refine FE Z (Cb a (k_a _ _ _ _) Z (ls (ls (lo ln))) λae N a=>Go 2 Z (Is 85 a Z (λs a=>?_) (λs a=>?_)))
            .refine Go 2 Z ?_;refine vH (El (xs:=[.tmp 87]) (es:=List.map (Qd .i64) [b.Faults.Drift]) Qv Z Z Z Z Z ⟨Z,trivial⟩ Z Z) ?_ (gT Z);refine FE Z (Cb a (k_a _ _ _ _) Z (ls (ls (lo ln))) λaf O a=>Go 2 Z (Is 91 a Z (λt a=>?_) (λt a=>?_)))
             .refine Go 2 Z ?_;refine vH (El (xs:=[.tmp 93]) (es:=List.map (Qd .i64) [b.Fee]) Qv Z Z Z Z Z ⟨Z,trivial⟩ Z Z) ?_ (gT Z);refine FE Z (Cb a (k_a _ _ _ _) Z (ls (ls (lo ln))) λag P a=>Go 2 Z (Is 97 a Z (λu a=>?_) (λu a=>?_)))
              .refine Go 2 Z ?_;refine vH (El (xs:=[.tmp 99]) (es:=List.map (Qd .i64) [b.Deadline]) Qv Z Z Z Z Z ⟨Z,trivial⟩ Z Z) ?_ (gT Z);exact FE Z (Cb a (k_a _ _ _ _) Z (ls (ls (lo ln))) λah Q a=>Go 3 Z (Cl a []))
              .exact Go 7 Z (Cl a [])
             .exact Go 13 Z (Cl a [])
            .exact Go 19 Z (Cl a [])
           .exact Go 27 Z (Cl a [])
          .exact Go 35 Z (Cl a [])
         .exact Go 40 Z (Cl a [])
        .exact Go 46 Z (Cl a [])
       .exact Go 51 Z (Cl a [])
      .exact Go 57 Z (Cl a [])
     .exact Go 62 Z (Cl a [])
    .exact Go 68 Z (Cl a [])
   .exact Go 73 Z (Cl a [])
  .exact Go 79 Z (Cl a [])
 exact Gx 1 Z (Ef w (Gc 1 Z (Rt h 2 [])))
def F_lx(n:Nat)(b:List Step)(a:(List typing_form)×Int):Option (Ctl ((List typing_form)×Int) (List typing_form)):=
  (bif decide (a.2<(b.length:Int))then(idx b a.2).bind λc=>(app a.1 [typing_form.ctyping_step ({Step:=c:typing_step})]).bind λd=>some (.cont (d,IntKind.i64.wrap (a.2+1)))else some (.done a.1))
def F_s(n:Nat)(a:List Step):Option (List typing_form):=
  (iter (F_lx n a) n ([],0):Option (List typing_form)).bind λb=>some b
theorem k_s(n:Nat)(q:List Step)(r:List typing_form)(h:F_s n q=some r):
    C prog 201 [.rsl 8 (List.map Step.enc q)] [] (RQ (λr=>.osl 0 0 r.length 1) (λr=>[.row 317 1 (List.map typing_form.enc r)]) r):=by
 refine Qb func201 Z Z Z ?_;refine G0 9 Z (Lm Z (Go 3 Z (Bd h λd w h=>?_)));refine Ct d [0] [] (λd=>[(2,.osl 0 0 d.length 1)]) (λd=>[(0,.row 317 1 (List.map typing_form.enc d))]) Zf ?_ (λenv H u=>?_)
 .refine G0 1 Z ?_;refine Lp [0] [5,6] (λb=>[(2,.osl 0 0 b.1.length 1),(7,I b.2)]) (λb=>[(0,.row 317 1 (List.map typing_form.enc b.1))]) w Zf ?_ ?_
  .refine En (Er (s:=2) (k:=1) (t:=317) (XY Z) Z) ?_;exact Lr [0]
  intro b x a g;refine G0 6 Z (Ya Z a (λj a=>?_) (λj a=>?_))
  .refine Gc 2 Z (Qk a ?_);obtain rfl:=Oj g a;exact Gx 1 Z (Q1 (Lr [0]))
  refine Gc 6 Z (Bd a λf l a=>IzE l (YT f) Z (Go 9 Z ?_));refine vX (.iface 320 (.agg (typing_step.c ({Step:=f:typing_step})))) (Qan Z runUnderlying320 (by intro m;nofun) Z) ?_;refine vH (El (xs:=[.tmp 14]) (es:=List.map typing_form.enc [typing_form.ctyping_step ({Step:=f:typing_step})]) Qb7 Z Z Z Z Z ⟨Z,trivial⟩ Z Z) ?_;refine FE Z (Bd a λy p a=>?_);refine vH (QM (e:=typing_form.enc) p Qb7 runUnderlying285 (YI (i:=2))) ?_;exact FE Z (Go 8 Z (Qj a (Lr [3])))
 exact Gx 1 Z (Ef u (Gc 7 Z (Rt h 2 [0])))
def F_v(n:Nat)(a:typing_cond):Option Bool:=
  ((bif (a.Cond.Kind==0)then(bif (a.Cond.Var==0)then(bif (a.Cond.N==0)then some ((a.Cond.Parts.length:Int)==0)else some false)else some false)else some false):Option Bool).bind λb=>some b
theorem k_v(n:Nat)(d:typing_cond)(r:Bool)(h:F_v n d=some r):
    Csm prog 284 [.agg (typing_cond.c ({Cond:=d.Cond:typing_cond}))] [] (λr=>.bool r) r:=by
 refine Qb func284 Z Z Z ?_;refine G0 7 Z (Bd h λb a h=>?_);refine Ct b [] [] (λb=>[(2,.bool b)]) Ze Zf ?_ (λenv H e=>?_)
 .refine G0 6 Z (Is 7 a Z (λf a=>?_) (λf a=>?_))
  .refine Go 6 Z (Is 13 a Z (λg a=>?_) (λg a=>?_))
   .refine Go 6 Z (Is 19 a Z (λi a=>?_) (λi a=>?_))
    .exact Go 3 Z (Lm Z (Go 4 Z (Cl a [])))
    .exact Go 8 Z (Cl a [])
   .exact Go 14 Z (Cl a [])
  .exact Go 20 Z (Cl a [])
 exact Gx 1 Z (Ef e (Gc 1 Z (Rt h 2 [])))
def F_o(n:Nat)(a:typing_step):Option (List typing_form):=
  (F_s n a.Step.Then).bind λr1=>(F_s n a.Step.Else).bind λr2=>(app r1 r2).bind λb=>some b
theorem k_o(n:Nat)(a:typing_step)(r:List typing_form)(h:F_o n a=some r):
    C prog 294 [.agg (typing_step.c a)] [] (RQ (λr=>.osl 0 0 r.length 1) (λr=>[.row 317 1 (List.map typing_form.enc r)]) r):=by
 refine Qb func294 Z Z Z ?_;refine G0 7 Z (DAs 7 3 [0,0,0,1,3,3,3] (by kernel_rfl) (Da 3 Z ?_));obtain⟨r1,b,h⟩:=YP h;refine DA.op (x:=.osl 1 0 r1.length 1) (H1:=[.cells 320 (typing_step.c a),.row 317 1 (List.map typing_form.enc r1)]) ?_ ?_
 .refine Qt [] (OpC.fn call201 Z Z Z) (k_s _ _ _ b) ?_;rintro _ _ ⟨rfl,rfl⟩;exact FE Z Wp
 refine Db 2 Z ?_;refine DB.wo2 (x:=.rsl 8 (List.map Step.enc a.Step.Else)) (Ld isAgg45 Z Wp) (Ld isAgg45 Z Wp) ?_;refine DB.done Z (Cd [] h (k_s _ _) Z λr2 f h=>FE Z (Bd h λg d h=>?_));refine vH (QM (e:=typing_form.enc) d Qb7 runUnderlying285 (YI (i:=2))) ?_;exact FE Z (Go 4 Z (Rt h 2 [3]))
def F_ks(n:Nat)(b:List Cond)(a:(List typing_form)×Int):Option (Ctl ((List typing_form)×Int) (List typing_form)):=
  (bif decide (a.2<(b.length:Int))then(idx b a.2).bind λc=>(app a.1 [typing_form.ctyping_cond ({Cond:=c:typing_cond})]).bind λd=>some (.cont (d,IntKind.i64.wrap (a.2+1)))else some (.done a.1))
def F_df(n:Nat)(a:List Cond):Option (List typing_form):=
  (iter (F_ks n a) n ([],0):Option (List typing_form)).bind λb=>some b
theorem k_df(n:Nat)(q:List Cond)(r:List typing_form)(h:F_df n q=some r):
    C prog 297 [.rsl 4 (List.map Cond.enc q)] [] (RQ (λr=>.osl 0 0 r.length 1) (λr=>[.row 317 1 (List.map typing_form.enc r)]) r):=by
 refine Qb func297 Z Z Z ?_;refine G0 9 Z (Lm Z (Go 3 Z (Bd h λd w h=>?_)));refine Ct d [0] [] (λd=>[(2,.osl 0 0 d.length 1)]) (λd=>[(0,.row 317 1 (List.map typing_form.enc d))]) Zf ?_ (λenv H u=>?_)
 .refine G0 1 Z ?_;refine Lp [0] [5,6] (λb=>[(2,.osl 0 0 b.1.length 1),(7,I b.2)]) (λb=>[(0,.row 317 1 (List.map typing_form.enc b.1))]) w Zf ?_ ?_
  .refine En (Er (s:=2) (k:=1) (t:=317) (XY Z) Z) ?_;exact Lr [0]
  intro b x a g;refine G0 6 Z (Ya Z a (λj a=>?_) (λj a=>?_))
  .refine Gc 2 Z (Qk a ?_);obtain rfl:=Oj g a;exact Gx 1 Z (Q1 (Lr [0]))
  refine Gc 6 Z (Bd a λf l a=>IzE l (Qao f) Z (Go 9 Z ?_));refine vX (.iface 346 (.agg (typing_cond.c ({Cond:=f:typing_cond})))) (Qan Z runUnderlying346 (by intro m;nofun) Z) ?_;refine vH (El (xs:=[.tmp 14]) (es:=List.map typing_form.enc [typing_form.ctyping_cond ({Cond:=f:typing_cond})]) Qb7 Z Z Z Z Z ⟨Z,trivial⟩ Z Z) ?_;refine FE Z (Bd a λy p a=>?_);refine vH (QM (e:=typing_form.enc) p Qb7 runUnderlying285 (YI (i:=2))) ?_;exact FE Z (Go 8 Z (Qj a (Lr [3])))
 exact Gx 1 Z (Ef u (Gc 7 Z (Rt h 2 [0])))
def F_m(n:Nat)(a:typing_cond):Option (List typing_form):=
  (F_df n a.Cond.Parts).bind λr1=>some r1
theorem k_m(n:Nat)(a:typing_cond)(r:List typing_form)(h:F_m n a=some r):
    C prog 293 [.agg (typing_cond.c ({Cond:=a.Cond:typing_cond}))] [] (RQ (λr=>.osl 0 0 r.length 1) (λr=>[.row 317 1 (List.map typing_form.enc r)]) r):=by
 refine Qb func293 Z Z Z ?_;exact G0 11 Z (Cd [] h (k_df _ _) Z λr1 b h=>FE Z (Go 4 Z (Rt h 2 [1])))
def F_fc(n:Nat)(k:List typing_form)(l:Int)(rec93:(List typing_form)->Int->typing_count->Option (typing_count×Bool))(a:typing_count×Int):Option (Ctl (typing_count×Int) (Ctl typing_count (typing_count×Bool))):=
  (bif decide (a.2<(k.length:Int))then(idx k a.2).bind λm=>typing_form.elim m (λe=>((F_v n ({Cond:=e.Step.Cond:typing_cond})).bind λp=>(bif (!p)then(rec93 [typing_form.ctyping_cond ({Cond:=e.Step.Cond:typing_cond})] 0 ({steps:=IntKind.i64.wrap (a.1.steps+1),conds:=a.1.conds:typing_count})).bind λf=>some (f.1,(!f.2))else some ({steps:=IntKind.i64.wrap (a.1.steps+1),conds:=a.1.conds:typing_count},false)):Option (typing_count×Bool)).bind λb=>(bif b.2 then some (.done (.done (b.1,false)))else((bif decide (64<b.1.steps)then some (b.1,true)else(bif decide (256<b.1.conds)then some (b.1,true)else(F_o n e).bind λi=>(rec93 i (IntKind.i64.wrap (l+1)) b.1).bind λg=>some (g.1,(!g.2)))):Option (typing_count×Bool)).bind λc=>(bif c.2 then some (.done (.done (c.1,false)))else some (.cont (c.1,IntKind.i64.wrap (a.2+1)))))) (λq=>((bif decide (64<a.1.steps)then some ({steps:=a.1.steps,conds:=IntKind.i64.wrap (a.1.conds+1):typing_count},true)else(bif decide (256<(IntKind.i64.wrap (a.1.conds+1)))then some ({steps:=a.1.steps,conds:=IntKind.i64.wrap (a.1.conds+1):typing_count},true)else(F_m n ({Cond:=q.Cond:typing_cond})).bind λj=>(rec93 j (IntKind.i64.wrap (l+1)) ({steps:=a.1.steps,conds:=IntKind.i64.wrap (a.1.conds+1):typing_count})).bind λh=>some (h.1,(!h.2)))):Option (typing_count×Bool)).bind λd=>(bif d.2 then some (.done (.done (d.1,false)))else some (.cont (d.1,IntKind.i64.wrap (a.2+1)))))else some (.done (.cont a.1)))
def B_c(rec93:(List typing_form)->Int->typing_count->Option (typing_count×Bool))(n:Nat)(b:List typing_form)(c:Int)(d:typing_count):Option (typing_count×Bool):=
  ((bif decide (0<(b.length:Int))then some (decide (16<c))else some false):Option Bool).bind λf=>(bif f then some (d,false)else(iter (F_fc n b c rec93) n (d,0):Option (Ctl typing_count (typing_count×Bool))).bind λe=>match e with|.cont a=>(some (a,true))|.done a=>some a)
theorem Qau(rec93:(List typing_form)->Int->typing_count->Option (typing_count×Bool))(i:∀(p:List typing_form) (x:Int) (y:typing_count) (r:typing_count×Bool),rec93 p x y=some r->C prog 253 [.ptr 0 0,.osl 1 0 p.length 1,I x] [.cells 313 (typing_count.c y),.row 317 1 (List.map typing_form.enc p)] (RQ (λr=>.bool r.2) (λr=>[.cells 313 (typing_count.c r.1),.row 317 1 (List.map typing_form.enc p)]) r))(n:Nat)(p:List typing_form)(x:Int)(y:typing_count)(r:typing_count×Bool)(h:B_c rec93 n p x y=some r):
    C prog 253 [.ptr 0 0,.osl 1 0 p.length 1,I x] [.cells 313 (typing_count.c y),.row 317 1 (List.map typing_form.enc p)] (RQ (λr=>.bool r.2) (λr=>[.cells 313 (typing_count.c r.1),.row 317 1 (List.map typing_form.enc p)]) r):=by
 refine Qb func253 Z Z Z ?_;refine G0 7 Z (Bd h λV B h=>?_);refine Ct V [0,1] [0,1,2] (λV=>[(18,.bool V)]) Ze Zf ?_ (λenv H f=>?_)
 .refine G0 5 Z (Is 15 B Z (λY B=>?_) (λY B=>?_))
  .exact Go 4 Z (Cl B [0,1])
  .exact Go 4 Z (Cl B [0,1])
 refine Gx 1 Z (Ef f (Cn Z h (λaa h=>?_) (λaa h=>?_)))
 .exact Gc 7 Z (Rt h 6 [0,1])
 refine Gc 10 Z (Bd h λab ac h=>?_);refine Ja (b:=ab) [0,1] [] Ze (λE=>[(0,.cells 313 (typing_count.c E))]) Zf ?_ (λE env H ad f=>?_)
 .refine G0 1 Z ?_;refine Lp [0,1] [0,2,19,20] (λt=>[(21,I t.2)]) (λt=>[(0,.cells 313 (typing_count.c t.1))]) ac Zf (Lr [0,1]) λt an a q=>?_;refine G0 6 Z (Ya Z a (λW a=>?_) (λW a=>?_))
  .refine Gc 2 Z (Qk a ?_);obtain rfl:=Oj q a;exact Gx 1 Z (Qp Z (Lr [0,1]))
  refine Gc 6 Z (Bd a λT F a=>?_);refine vX (.ptr 1 (Int.toNat t.2*1)) (QN F Z runUnderlying285 sizeOf317) ?_;refine vX (typing_form.val T) (Ey Z isAgg317 Z (Qo F)) ?_;refine Go 12 Z ?_;rcases Jk T with⟨l,hE90⟩|⟨w,hE92⟩
  .have a:=Jc hE90 a;refine Et (Qu (s:=8) (a':=.iface 320 (.agg (typing_step.c l))) Z (congrArg typing_form.val hE90)) ?_;refine Et (Qu (s:=24) (a':=.iface 320 (.agg (typing_step.c l))) Z (congrArg typing_form.val hE90)) ?_;refine Et (Qu (s:=25) (a':=.iface 320 (.agg (typing_step.c l))) Z (congrArg typing_form.val hE90)) ?_;refine vX (.tup [.agg [I 0,I 0,I 0,.rsl 4 (List.map Cond.enc [])],.bool false]) (Qgv (z:=(.agg [I 0,I 0,I 0,.rsl 4 (List.map Cond.enc [])])) runUnderlying346 (by intro m;nofun) Z zeroValue346 (zrC Z)) ?_;refine Go 7 Z ?_;refine vX (.tup [.agg (typing_step.c l),.bool true]) (Qbe runUnderlying320 (by intro m;nofun)) ?_;refine Go 34 Z (Bd a λu g a=>?_);refine Ct u [0,1] [0,2,8,19,20,21] (λu=>[(60,.bool u.2)]) (λu=>[(0,.cells 313 (typing_count.c u.1))]) Zf ?_ (λenv H f=>?_)
   .refine G0 2 Z (Cz [] g (k_v _ _) Z λao ah g=>Go 2 Z (Is 53 g Z (λX g=>?_) (λX g=>?_)))
    .refine Go 2 Z ?_;refine vX (.iface 346 (.agg (typing_cond.c ({Cond:=l.Step.Cond:typing_cond})))) (Qan Z runUnderlying346 (by intro m;nofun) Z) ?_ (gT Z);refine vH (El (xs:=[.tmp 56]) (es:=List.map typing_form.enc [typing_form.ctyping_cond ({Cond:=l.Step.Cond:typing_cond})]) Qb7 Z Z Z Z Z ⟨Z,trivial⟩ Z Z) ?_ (gT Z);exact FE Z (Cd [0,4] g (i _ _ _) Z λai ae g=>FE Z (Go 3 Z (Cl g [0,1])))
    .exact Go 8 Z (Cl g [0,1])
   refine Gx 1 Z (Ef f (Cn Z a (λG a=>?_) (λG a=>?_)))
   .refine Gc 10 Z (Qn a ?_);obtain rfl:=Oj q a;exact Gx 1 Z (Qm (Gx 1 Z (Rt h 6 [0,1])))
   refine Gc 4 Z (Bd a λj d a=>?_);refine Ct j [0,1] [0,2,19,20,21] (λj=>[(81,.bool j.2)]) (λj=>[(0,.cells 313 (typing_count.c j.1))]) Zf ?_ (λenv H f=>?_)
   .refine G0 7 Z (Is 66 d Z (λJ d=>?_) (λJ d=>?_))
    .exact Go 16 Z (Cl d [0,1])
    .refine Go 7 Z (Is 73 d Z (λL d=>?_) (λL d=>?_))
     .exact Go 9 Z (Cl d [0,1])
     .refine Go 2 Z (Bd d λaj M d=>?_);refine Qt [] (QdN call294 Z Z Z Z (λ_ _=>by kernel_rfl)) (k_o _ _ _ M) ?_ (hg:=(gT Z));rintro _ _ ⟨rfl,rfl⟩;exact FE Z (Go 2 Z (Cd [0,2] d (i _ _ _) Z λak af d=>FE Z (Go 3 Z (Cl d [0,1]))))
   refine Gx 1 Z (Ef f (Cn Z a (λN a=>?_) (λN a=>?_)))
   .refine Gc 8 Z (Qn a ?_);obtain rfl:=Oj q a;exact Gx 1 Z (Qm (Gx 1 Z (Rt h 6 [0,1])))
   exact Gc 7 Z (Qj a (Lr [0,1]))
  .have a:=Jb hE92 a;refine Et (Qu (s:=8) (a':=.iface 346 (.agg (typing_cond.c ({Cond:=w.Cond:typing_cond})))) Z (congrArg typing_form.val hE92)) ?_;refine Et (Qu (s:=24) (a':=.iface 346 (.agg (typing_cond.c ({Cond:=w.Cond:typing_cond})))) Z (congrArg typing_form.val hE92)) ?_;refine Et (Qu (s:=25) (a':=.iface 346 (.agg (typing_cond.c ({Cond:=w.Cond:typing_cond})))) Z (congrArg typing_form.val hE92)) ?_;refine vX (.tup [.agg (typing_cond.c ({Cond:=w.Cond:typing_cond})),.bool true]) (Qbe runUnderlying346 (by intro m;nofun)) ?_;refine Go 24 Z (Bd a λk e a=>?_);refine Ct k [0,1] [0,2,19,20,21] (λk=>[(81,.bool k.2)]) (λk=>[(0,.cells 313 (typing_count.c k.1))]) Zf ?_ (λenv H f=>?_)
   .refine G0 7 Z (Is 66 e Z (λO e=>?_) (λO e=>?_))
    .exact Go 16 Z (Cl e [0,1])
    .refine Go 7 Z (Is 73 e Z (λP e=>?_) (λP e=>?_))
     .exact Go 9 Z (Cl e [0,1])
     .refine Go 2 Z (Bd e λal Q e=>?_);refine Qt [] (QdN call293 Z Z Z Z (λ_ _=>by kernel_rfl)) (k_m _ _ _ Q) ?_ (hg:=(gT Z));rintro _ _ ⟨rfl,rfl⟩;exact FE Z (Go 2 Z (Cd [0,3] e (i _ _ _) Z λam ag e=>FE Z (Go 3 Z (Cl e [0,1]))))
   refine Gx 1 Z (Ef f (Cn Z a (λR a=>?_) (λR a=>?_)))
   .refine Gc 8 Z (Qn a ?_);obtain rfl:=Oj q a;exact Gx 1 Z (Qm (Gx 1 Z (Rt h 6 [0,1])))
   exact Gc 7 Z (Qj a (Lr [0,1]))
 subst ad;exact Gx 1 Z (Ef f (Gc 6 Z (Rt h 6 [0,1])))
def F_c:Nat->(List typing_form)->Int->typing_count->Option (typing_count×Bool)
  |0=>λ_ _ _=>none
  |n+1=>B_c (F_c n) n
theorem k_c(n:Nat):∀(a:List typing_form) (b:Int) (d:typing_count) (r:typing_count×Bool),F_c n a b d=some r->C prog 253 [.ptr 0 0,.osl 1 0 a.length 1,I b] [.cells 313 (typing_count.c d),.row 317 1 (List.map typing_form.enc a)] (RQ (λr=>.bool r.2) (λr=>[.cells 313 (typing_count.c r.1),.row 317 1 (List.map typing_form.enc a)]) r):=by
  induction n with
  |zero=>intro a b d r h;cases h
  |succ n ih=>intro a b d r h;exact Qau _ ih n a b d r h
def F_kp(n:Nat)(k:List typing_form)(l:Int)(a:typing_count×Int):Option (Ctl (typing_count×Int) (Ctl typing_count (typing_count×Bool))):=
  (bif decide (a.2<(k.length:Int))then(idx k a.2).bind λm=>typing_form.elim m (λe=>((F_v n ({Cond:=e.Step.Cond:typing_cond})).bind λp=>(bif (!p)then(F_c n [typing_form.ctyping_cond ({Cond:=e.Step.Cond:typing_cond})] 0 ({steps:=IntKind.i64.wrap (a.1.steps+1),conds:=a.1.conds:typing_count})).bind λf=>some (f.1,(!f.2))else some ({steps:=IntKind.i64.wrap (a.1.steps+1),conds:=a.1.conds:typing_count},false)):Option (typing_count×Bool)).bind λb=>(bif b.2 then some (.done (.done (b.1,false)))else((bif decide (64<b.1.steps)then some (b.1,true)else(bif decide (256<b.1.conds)then some (b.1,true)else(F_o n e).bind λi=>(F_c n i (IntKind.i64.wrap (l+1)) b.1).bind λg=>some (g.1,(!g.2)))):Option (typing_count×Bool)).bind λc=>(bif c.2 then some (.done (.done (c.1,false)))else some (.cont (c.1,IntKind.i64.wrap (a.2+1)))))) (λq=>((bif decide (64<a.1.steps)then some ({steps:=a.1.steps,conds:=IntKind.i64.wrap (a.1.conds+1):typing_count},true)else(bif decide (256<(IntKind.i64.wrap (a.1.conds+1)))then some ({steps:=a.1.steps,conds:=IntKind.i64.wrap (a.1.conds+1):typing_count},true)else(F_m n ({Cond:=q.Cond:typing_cond})).bind λj=>(F_c n j (IntKind.i64.wrap (l+1)) ({steps:=a.1.steps,conds:=IntKind.i64.wrap (a.1.conds+1):typing_count})).bind λh=>some (h.1,(!h.2)))):Option (typing_count×Bool)).bind λd=>(bif d.2 then some (.done (.done (d.1,false)))else some (.cont (d.1,IntKind.i64.wrap (a.2+1)))))else some (.done (.cont a.1)))
def F_hd(n:Nat)(b:List typing_form)(c:Int)(d:typing_count):Option (typing_count×Bool):=
  ((bif decide (0<(b.length:Int))then some (decide (16<c))else some false):Option Bool).bind λf=>(bif f then some (d,false)else(iter (F_kp n b c) n (d,0):Option (Ctl typing_count (typing_count×Bool))).bind λe=>match e with|.cont a=>(some (a,true))|.done a=>some a)
theorem k_hd(n:Nat)(R:List typing_form)(T:Int)(V:typing_count)(r:typing_count×Bool)(h:F_hd n R T V=some r):
    C prog 253 [.ptr 0 0,.rsl 1 (List.map typing_form.enc R),I T] [.cells 313 (typing_count.c V)] (RQ (λr=>.bool r.2) (λr=>[.cells 313 (typing_count.c r.1)]) r):=by
 refine Qb func253 Z Z Z ?_;refine G0 7 Z (Bd h λN u h=>?_);refine Ct N [0] [0,1,2] (λN=>[(18,.bool N)]) Ze Zf ?_ (λenv H f=>?_)
 .refine G0 2 Z (Lm Z (Go 2 Z (Is 15 u Z (λW u=>?_) (λW u=>?_))))
  .exact Go 4 Z (Cl u [0])
  .exact Go 4 Z (Cl u [0])
 refine Gx 1 Z (Ef f (Cn Z h (λX h=>?_) (λX h=>?_)))
 .exact Gc 7 Z (Rt h 6 [0])
 refine Gc 6 Z (Lm Z (Go 3 Z (Bd h λY aa h=>?_)));refine Ja (b:=Y) [0] [] Ze (λw=>[(0,.cells 313 (typing_count.c w))]) Zf ?_ (λw env H ab f=>?_)
 .refine G0 1 Z ?_;refine Lp [0] [0,2,19,20] (λq=>[(21,I q.2)]) (λq=>[(0,.cells 313 (typing_count.c q.1))]) aa Zf (Lr [0]) λq am a l=>?_;refine G0 6 Z (Ya Z a (λO a=>?_) (λO a=>?_))
  .refine Gc 2 Z (Qk a ?_);obtain rfl:=Oj l a;exact Gx 1 Z (Qp Z (Lr [0]))
  refine Gc 6 Z (Bd a λac P a=>Iz P Z (Go 13 Z ?_));rcases Jk ac with⟨k,hE90⟩|⟨t,hE92⟩
  .have a:=Jc hE90 a;refine Et (Qu (s:=8) (a':=.iface 320 (.agg (typing_step.c k))) Z (congrArg typing_form.val hE90)) ?_;refine Et (Qu (s:=24) (a':=.iface 320 (.agg (typing_step.c k))) Z (congrArg typing_form.val hE90)) ?_;refine Et (Qu (s:=25) (a':=.iface 320 (.agg (typing_step.c k))) Z (congrArg typing_form.val hE90)) ?_;refine vX (.tup [.agg [I 0,I 0,I 0,.rsl 4 (List.map Cond.enc [])],.bool false]) (Qgv (z:=(.agg [I 0,I 0,I 0,.rsl 4 (List.map Cond.enc [])])) runUnderlying346 (by intro m;nofun) Z zeroValue346 (zrC Z)) ?_;refine Go 7 Z ?_;refine vX (.tup [.agg (typing_step.c k),.bool true]) (Qbe runUnderlying320 (by intro m;nofun)) ?_;refine Go 34 Z (Bd a λp g a=>?_);refine Ct p [0] [0,2,8,19,20,21] (λp=>[(60,.bool p.2)]) (λp=>[(0,.cells 313 (typing_count.c p.1))]) Zf ?_ (λenv H f=>?_)
   .refine G0 2 Z (Cz [] g (k_v _ _) Z λan ag g=>Go 2 Z (Is 53 g Z (λQ g=>?_) (λQ g=>?_)))
    .refine Go 2 Z ?_;refine vX (.iface 346 (.agg (typing_cond.c ({Cond:=k.Step.Cond:typing_cond})))) (Qan Z runUnderlying346 (by intro m;nofun) Z) ?_ (gT Z);refine vH (El (xs:=[.tmp 56]) (es:=List.map typing_form.enc [typing_form.ctyping_cond ({Cond:=k.Step.Cond:typing_cond})]) Qb7 Z Z Z Z Z ⟨Z,trivial⟩ Z Z) ?_ (gT Z);exact FE Z (Cd [0,3] g (k_c _ _ _ _) Z λah ad g=>FE Z (Go 3 Z (Cl g [0])))
    .exact Go 8 Z (Cl g [0])
   refine Gx 1 Z (Ef f (Cn Z a (λx a=>?_) (λx a=>?_)))
   .refine Gc 10 Z (Qn a ?_);obtain rfl:=Oj l a;exact Gx 1 Z (Qm (Gx 1 Z (Rt h 6 [0])))
   refine Gc 4 Z (Bd a λi d a=>?_);refine Ct i [0] [0,2,19,20,21] (λi=>[(81,.bool i.2)]) (λi=>[(0,.cells 313 (typing_count.c i.1))]) Zf ?_ (λenv H f=>?_)
   .refine G0 7 Z (Is 66 d Z (λy d=>?_) (λy d=>?_))
    .exact Go 16 Z (Cl d [0])
    .refine Go 7 Z (Is 73 d Z (λB d=>?_) (λB d=>?_))
     .exact Go 9 Z (Cl d [0])
     .refine Go 2 Z (Bd d λai E d=>?_);refine Qt [] (QdN call294 Z Z Z Z (λ_ _=>by kernel_rfl)) (k_o _ _ _ E) ?_ (hg:=(gT Z));rintro _ _ ⟨rfl,rfl⟩;exact FE Z (Go 2 Z (Cd [0,1] d (k_c _ _ _ _) Z λaj ae d=>FE Z (Go 3 Z (Cl d [0]))))
   refine Gx 1 Z (Ef f (Cn Z a (λF a=>?_) (λF a=>?_)))
   .refine Gc 8 Z (Qn a ?_);obtain rfl:=Oj l a;exact Gx 1 Z (Qm (Gx 1 Z (Rt h 6 [0])))
   exact Gc 7 Z (Qj a (Lr [0]))
  .have a:=Jb hE92 a;refine Et (Qu (s:=8) (a':=.iface 346 (.agg (typing_cond.c ({Cond:=t.Cond:typing_cond})))) Z (congrArg typing_form.val hE92)) ?_;refine Et (Qu (s:=24) (a':=.iface 346 (.agg (typing_cond.c ({Cond:=t.Cond:typing_cond})))) Z (congrArg typing_form.val hE92)) ?_;refine Et (Qu (s:=25) (a':=.iface 346 (.agg (typing_cond.c ({Cond:=t.Cond:typing_cond})))) Z (congrArg typing_form.val hE92)) ?_;refine vX (.tup [.agg (typing_cond.c ({Cond:=t.Cond:typing_cond})),.bool true]) (Qbe runUnderlying346 (by intro m;nofun)) ?_;refine Go 24 Z (Bd a λj e a=>?_);refine Ct j [0] [0,2,19,20,21] (λj=>[(81,.bool j.2)]) (λj=>[(0,.cells 313 (typing_count.c j.1))]) Zf ?_ (λenv H f=>?_)
   .refine G0 7 Z (Is 66 e Z (λG e=>?_) (λG e=>?_))
    .exact Go 16 Z (Cl e [0])
    .refine Go 7 Z (Is 73 e Z (λJ e=>?_) (λJ e=>?_))
     .exact Go 9 Z (Cl e [0])
     .refine Go 2 Z (Bd e λak L e=>?_);refine Qt [] (QdN call293 Z Z Z Z (λ_ _=>by kernel_rfl)) (k_m _ _ _ L) ?_ (hg:=(gT Z));rintro _ _ ⟨rfl,rfl⟩;exact FE Z (Go 2 Z (Cd [0,2] e (k_c _ _ _ _) Z λal af e=>FE Z (Go 3 Z (Cl e [0]))))
   refine Gx 1 Z (Ef f (Cn Z a (λM a=>?_) (λM a=>?_)))
   .refine Gc 8 Z (Qn a ?_);obtain rfl:=Oj l a;exact Gx 1 Z (Qm (Gx 1 Z (Rt h 6 [0])))
   exact Gc 7 Z (Qj a (Lr [0]))
 subst ab;exact Gx 1 Z (Ef f (Gc 6 Z (Rt h 6 [0])))
def F_ci(rec97:(List typing_form)->Option Bool)(n:Nat)(a:typing_cond):Option Bool:=
  ((bif (a.Cond.Var==0)then some (a.Cond.N==0)else some false):Option Bool).bind λc=>(bif (a.Cond.Kind==1)then((F_a n 1 3 [a.Cond.Var]).bind λd=>(bif d then(F_a n 0 10000 [a.Cond.N]).bind λe=>(bif e then some ((a.Cond.Parts.length:Int)==0)else some false)else some false):Option Bool).bind λf=>some f else((bif (a.Cond.Kind==4)then(bif c then some (.cont ((a.Cond.Parts.length:Int)==1))else some (.cont false))else((bif (a.Cond.Kind==2)then some (a.Cond.Kind==2)else some (a.Cond.Kind==3)):Option Bool).bind λg=>(bif g then(bif c then(bif decide (0<(a.Cond.Parts.length:Int))then some (.cont (decide ((a.Cond.Parts.length:Int)<=16)))else some (.cont false))else some (.cont false))else some (.done false))):Option (Ctl Bool Bool)).bind λh=>match h with|.cont b=>(((bif b then(F_m n ({Cond:=a.Cond:typing_cond})).bind λi=>(rec97 i).bind λj=>some (!j)else some false):Option Bool).bind λk=>some k)|.done b=>some b)
theorem k_ci(rec97:(List typing_form)->Option Bool)(j:∀(g:List typing_form) (r:Bool),rec97 g=some r->Csm prog 254 [.rsl 1 (List.map typing_form.enc g),.fn (.func 255) [] []] [] (λr=>.bool r) r)(n:Nat)(g:typing_cond)(r:Bool)(h:F_ci rec97 n g=some r):
    Csm prog 286 [.iface 346 (.agg (typing_cond.c ({Cond:=g.Cond:typing_cond})))] [] (λr=>.bool r) r:=by
 refine Qb func286 Z Z Z ?_;refine G0 14 Z ?_;refine vX (.tup [.agg (typing_cond.c ({Cond:=g.Cond:typing_cond})),.bool true]) (Qbe runUnderlying346 (by intro m;nofun)) ?_;refine Go 12 Z (Bd h λt k h=>?_);refine Ct t [0] [3] (λt=>[(4,.bool t)]) Ze Zf ?_ (λenv H e=>?_)
 .refine G0 6 Z (Is 15 k Z (λJ k=>?_) (λJ k=>?_))
  .exact Go 7 Z (Cl k [0])
  .exact Go 7 Z (Cl k [0])
 refine Gx 1 Z (Ef e (Gc 15 Z (Cn Z h (λL h=>?_) (λL h=>?_))))
 .refine Gc 1 Z (Bd h λl d h=>?_);refine Ct l [] [] (λl=>[(2,.bool l)]) Ze Zf ?_ (λenv H e=>?_)
  .refine G0 4 Z ?_;refine vH (El (xs:=[.tmp 28]) (es:=List.map (Qd .i64) [g.Cond.Var]) Qv Z Z Z Z Z ⟨Z,trivial⟩ Z Z) ?_;refine FE Z (Cb d (k_a _ _ _ _) Z (ls (ls (lo ln))) λT O d=>Go 1 Z (Is 31 d Z (λu d=>?_) (λu d=>?_)))
   .refine Go 3 Z ?_;refine vH (El (xs:=[.tmp 34]) (es:=List.map (Qd .i64) [g.Cond.N]) Qv Z Z Z Z Z ⟨Z,trivial⟩ Z Z) ?_ (gT Z);refine FE Z (Cb d (k_a _ _ _ _) Z (ls (ls (lo ln))) λV P d=>Go 2 Z (Is 38 d Z (λw d=>?_) (λw d=>?_)))
    .exact Go 3 Z (Lm Z (Go 4 Z (Cl d [])))
    .exact Go 8 Z (Cl d [])
   .exact Go 15 Z (Cl d [])
  exact Gx 1 Z (Ef e (Gc 5 Z (Rt h 2 [])))
 refine Gc 6 Z (Bd h λM a h=>?_);refine Ja (b:=M) [0] [3] (λp=>[(4,.bool p)]) Ze Zf ?_ (λp env H hb e=>?_)
 .refine G0 0 Z (Cn Z a (λx a=>?_) (λx a=>?_))
  .refine Gc 3 Z (Is 48 a Z (λy a=>?_) (λy a=>?_))
   .refine Go 3 Z (Lm Z (Go 4 Z ?_));cases a;exact Qp Z (Lr [0])
   .refine Go 8 Z ?_;cases a;exact Qp Z (Lr [0])
  refine Gc 7 Z (Bd a λq i a=>?_);refine Ct q [0] [3,4] (λq=>[(55,.bool q)]) Ze Zf ?_ (λenv H e=>?_)
  .refine G0 0 Z (Cn Z i (λz i=>?_) (λz i=>?_))
   .exact Gc 1 Z (Cl i [0])
   exact Gc 4 Z (Cl i [0])
  refine Gx 1 Z (Ef e (Ya Z a (λB a=>?_) (λB a=>?_)))
  .refine Gc 6 Z ?_;cases a;exact Qm (Gx 4 Z (Rt h 2 []))
  refine Gc 3 Z (Is 59 a Z (λE a=>?_) (λE a=>?_))
  .refine Go 3 Z (Lm Z (Go 3 Z (Is 66 a Z (λF a=>?_) (λF a=>?_))))
   .refine Go 3 Z (Lm Z (Go 4 Z ?_));cases a;exact Qp Z (Lr [0])
   .refine Go 8 Z ?_;cases a;exact Qp Z (Lr [0])
  .refine Go 15 Z ?_;cases a;exact Qp Z (Lr [0])
 subst hb;refine Gx 2 Z (Ef e (Gc 1 Z (Bd h λs f h=>?_)));refine Ct s [] [] (λs=>[(2,.bool s)]) Ze Zf ?_ (λenv H e=>?_)
 .refine G0 3 Z (Is 74 f Z (λG f=>?_) (λG f=>?_))
  .exact Go 1 Z (Cd [] f (k_m _ _) Z λW Q f=>FE Z (Cb f (j _) Z (lo (ls ln)) λX R f=>Go 4 Z (Cl f [])))
  .exact Go 7 Z (Cl f [])
 exact Gx 1 Z (Ef e (Gc 3 Z (Rt h 2 [])))
def F_fd(rec97:(List typing_form)->Option Bool)(n:Nat)(x:typing_form):Option Bool:=
  typing_form.elim x (λb=>(bif (b.Step.Kind==1)then((F_a n 1 5 [b.Step.By]).bind λe=>(bif e then(F_v n ({Cond:=b.Step.Cond:typing_cond})).bind λf=>(bif f then(F_o n b).bind λg=>some ((g.length:Int)==0)else some false)else some false):Option Bool).bind λh=>some h else(bif (b.Step.Kind==2)then((bif (b.Step.By==0)then(F_ci rec97 n ({Cond:=b.Step.Cond:typing_cond})).bind λi=>(bif i then(bif decide (0<(b.Step.Then.length:Int))then(F_o n b).bind λj=>(rec97 j).bind λk=>some (!k)else some false)else some false)else some false):Option Bool).bind λl=>some l else some false))) (λa=>((bif (a.Cond.Var==0)then some (a.Cond.N==0)else some false):Option Bool).bind λd=>(bif (a.Cond.Kind==1)then((F_a n 1 3 [a.Cond.Var]).bind λm=>(bif m then(F_a n 0 10000 [a.Cond.N]).bind λp=>(bif p then some ((a.Cond.Parts.length:Int)==0)else some false)else some false):Option Bool).bind λq=>some q else((bif (a.Cond.Kind==4)then(bif d then some (.cont ((a.Cond.Parts.length:Int)==1))else some (.cont false))else((bif (a.Cond.Kind==2)then some (a.Cond.Kind==2)else some (a.Cond.Kind==3)):Option Bool).bind λr=>(bif r then(bif d then(bif decide (0<(a.Cond.Parts.length:Int))then some (.cont (decide ((a.Cond.Parts.length:Int)<=16)))else some (.cont false))else some (.cont false))else some (.done false))):Option (Ctl Bool Bool)).bind λs=>match s with|.cont c=>(((bif c then(F_m n ({Cond:=a.Cond:typing_cond})).bind λt=>(rec97 t).bind λu=>some (!u)else some false):Option Bool).bind λw=>some w)|.done c=>some c))
theorem k_fd(rec97:(List typing_form)->Option Bool)(j:∀(p:List typing_form) (r:Bool),rec97 p=some r->Csm prog 254 [.rsl 1 (List.map typing_form.enc p),.fn (.func 255) [] []] [] (λr=>.bool r) r)(n:Nat)(p:typing_form)(r:Bool)(h:F_fd rec97 n p=some r):
    Csm prog 286 [typing_form.val p] [] (λr=>.bool r) r:=by
 refine Qb func286 Z Z Z ?_;refine G0 14 Z ?_;rcases Jk p with⟨q,hE2⟩|⟨t,hE4⟩
 .have h:=Jc hE2 h;refine Et (Qu (s:=0) (a':=.iface 320 (.agg (typing_step.c q))) Z (congrArg typing_form.val hE2)) ?_;refine Et (Qu (s:=7) (a':=.iface 320 (.agg (typing_step.c q))) Z (congrArg typing_form.val hE2)) ?_;refine vX (.tup [.agg [I 0,I 0,I 0,.rsl 4 (List.map Cond.enc [])],.bool false]) (Qgv (z:=(.agg [I 0,I 0,I 0,.rsl 4 (List.map Cond.enc [])])) runUnderlying346 (by intro m;nofun) Z zeroValue346 (zrC Z)) ?_;refine Go 7 Z ?_;refine vX (.tup [.agg (typing_step.c q),.bool true]) (Qbe runUnderlying320 (by intro m;nofun)) ?_;refine Go 35 Z (Cn Z h (λae h=>?_) (λae h=>?_))
  .refine Gc 1 Z (Bd h λu e h=>?_);refine Ct u [] [] (λu=>[(2,.bool u)]) Ze Zf ?_ (λenv H f=>?_)
   .refine G0 4 Z ?_;refine vH (El (xs:=[.tmp 94]) (es:=List.map (Qd .i64) [q.Step.By]) Qv Z Z Z Z Z ⟨Z,trivial⟩ Z Z) ?_;refine FE Z (Cb e (k_a _ _ _ _) Z (ls (ls (lo ln))) λar ag e=>Go 1 Z (Is 97 e Z (λG e=>?_) (λG e=>?_)))
    .refine Go 1 Z (Cz [] e (k_v _ _) Z λau ah e=>Go 2 Z (Is 101 e Z (λJ e=>?_) (λJ e=>?_)))
     .exact Go 1 Z (Cd [] e (k_o _ _) Z λav ai e=>FE Z (Go 5 Z (Cl e [])))
     .exact Go 7 Z (Cl e [])
    .exact Go 11 Z (Cl e [])
   exact Gx 1 Z (Ef f (Gc 4 Z (Rt h 2 [])))
  refine Gc 6 Z (Cn Z h (λL h=>?_) (λL h=>?_))
  .refine Gc 1 Z (Bd h λw d h=>?_);refine Ct w [] [] (λw=>[(2,.bool w)]) Ze Zf ?_ (λenv H f=>?_)
   .refine G0 6 Z (Is 113 d Z (λM d=>?_) (λM d=>?_))
    .refine Go 1 Z ?_;refine vX (.iface 346 (.agg (typing_cond.c ({Cond:=q.Step.Cond:typing_cond})))) (Qan Z runUnderlying346 (by intro m;nofun) Z) ?_ (gT Z);refine Cz [] d (k_ci rec97 j _ _) Z λaw aj d=>Go 2 Z (Is 118 d Z (λO d=>?_) (λO d=>?_))
     .refine Go 3 Z (Lm Z (Go 3 Z (Is 125 d Z (λP d=>?_) (λP d=>?_))))
      .exact Go 1 Z (Cd [] d (k_o _ _) Z λax ak d=>FE Z (Cb d (j _) Z (lo (ls ln)) λay al d=>Go 4 Z (Cl d [])))
      .exact Go 7 Z (Cl d [])
     .exact Go 14 Z (Cl d [])
    .exact Go 19 Z (Cl d [])
   exact Gx 1 Z (Ef f (Gc 4 Z (Rt h 2 [])))
  exact Gc 10 Z (Rt h 2 [])
 .have h:=Jb hE4 h;refine Et (Qu (s:=0) (a':=.iface 346 (.agg (typing_cond.c ({Cond:=t.Cond:typing_cond})))) Z (congrArg typing_form.val hE4)) ?_;refine Et (Qu (s:=7) (a':=.iface 346 (.agg (typing_cond.c ({Cond:=t.Cond:typing_cond})))) Z (congrArg typing_form.val hE4)) ?_;refine vX (.tup [.agg (typing_cond.c ({Cond:=t.Cond:typing_cond})),.bool true]) (Qbe runUnderlying346 (by intro m;nofun)) ?_;refine Go 12 Z (Bd h λx k h=>?_);refine Ct x [0] [3] (λx=>[(4,.bool x)]) Ze Zf ?_ (λenv H f=>?_)
  .refine G0 6 Z (Is 15 k Z (λQ k=>?_) (λQ k=>?_))
   .exact Go 7 Z (Cl k [0])
   .exact Go 7 Z (Cl k [0])
  refine Gx 1 Z (Ef f (Gc 15 Z (Cn Z h (λR h=>?_) (λR h=>?_))))
  .refine Gc 1 Z (Bd h λy g h=>?_);refine Ct y [] [] (λy=>[(2,.bool y)]) Ze Zf ?_ (λenv H f=>?_)
   .refine G0 4 Z ?_;refine vH (El (xs:=[.tmp 28]) (es:=List.map (Qd .i64) [t.Cond.Var]) Qv Z Z Z Z Z ⟨Z,trivial⟩ Z Z) ?_;refine FE Z (Cb g (k_a _ _ _ _) Z (ls (ls (lo ln))) λaz am g=>Go 1 Z (Is 31 g Z (λT g=>?_) (λT g=>?_)))
    .refine Go 3 Z ?_;refine vH (El (xs:=[.tmp 34]) (es:=List.map (Qd .i64) [t.Cond.N]) Qv Z Z Z Z Z ⟨Z,trivial⟩ Z Z) ?_ (gT Z);refine FE Z (Cb g (k_a _ _ _ _) Z (ls (ls (lo ln))) λba an g=>Go 2 Z (Is 38 g Z (λV g=>?_) (λV g=>?_)))
     .exact Go 3 Z (Lm Z (Go 4 Z (Cl g [])))
     .exact Go 8 Z (Cl g [])
    .exact Go 15 Z (Cl g [])
   exact Gx 1 Z (Ef f (Gc 5 Z (Rt h 2 [])))
  refine Gc 6 Z (Bd h λaf a h=>?_);refine Ja (b:=af) [0] [3] (λB=>[(4,.bool B)]) Ze Zf ?_ (λB env H hb f=>?_)
  .refine G0 0 Z (Cn Z a (λW a=>?_) (λW a=>?_))
   .refine Gc 3 Z (Is 48 a Z (λX a=>?_) (λX a=>?_))
    .refine Go 3 Z (Lm Z (Go 4 Z ?_));cases a;exact Qp Z (Lr [0])
    .refine Go 8 Z ?_;cases a;exact Qp Z (Lr [0])
   refine Gc 7 Z (Bd a λE l a=>?_);refine Ct E [0] [3,4] (λE=>[(55,.bool E)]) Ze Zf ?_ (λenv H f=>?_)
   .refine G0 0 Z (Cn Z l (λY l=>?_) (λY l=>?_))
    .exact Gc 1 Z (Cl l [0])
    exact Gc 4 Z (Cl l [0])
   refine Gx 1 Z (Ef f (Ya Z a (λaa a=>?_) (λaa a=>?_)))
   .refine Gc 6 Z ?_;cases a;exact Qm (Gx 4 Z (Rt h 2 []))
   refine Gc 3 Z (Is 59 a Z (λab a=>?_) (λab a=>?_))
   .refine Go 3 Z (Lm Z (Go 3 Z (Is 66 a Z (λac a=>?_) (λac a=>?_))))
    .refine Go 3 Z (Lm Z (Go 4 Z ?_));cases a;exact Qp Z (Lr [0])
    .refine Go 8 Z ?_;cases a;exact Qp Z (Lr [0])
   .refine Go 15 Z ?_;cases a;exact Qp Z (Lr [0])
  subst hb;refine Gx 2 Z (Ef f (Gc 1 Z (Bd h λF i h=>?_)));refine Ct F [] [] (λF=>[(2,.bool F)]) Ze Zf ?_ (λenv H f=>?_)
  .refine G0 3 Z (Is 74 i Z (λad i=>?_) (λad i=>?_))
   .exact Go 1 Z (Cd [] i (k_m _ _) Z λbb ao i=>FE Z (Cb i (j _) Z (lo (ls ln)) λbc aq i=>Go 4 Z (Cl i [])))
   .exact Go 7 Z (Cl i [])
  exact Gx 1 Z (Ef f (Gc 3 Z (Rt h 2 [])))
def F_ds(rec97:(List typing_form)->Option Bool)(n:Nat)(a:typing_form):Option Bool:=
  (F_fd rec97 n a).bind λr1=>some (!r1)
theorem k_ds(rec97:(List typing_form)->Option Bool)(a:∀(b:List typing_form) (r:Bool),rec97 b=some r->Csm prog 254 [.rsl 1 (List.map typing_form.enc b),.fn (.func 255) [] []] [] (λr=>.bool r) r)(n:Nat)(b:typing_form)(r:Bool)(h:F_ds rec97 n b=some r):
    Csm prog 255 [typing_form.val b] [] (λr=>.bool r) r:=by
 refine Qb func255 Z Z Z ?_;exact G0 8 Z (Bd h λr1 c h=>Pc [] Z (OpC.fn call286 Z Z Z) (k_fd rec97 a _ _ _ c) (hargs:=by first|exact Z|exact Eq.trans (by exact Z) (Qae _ (by simp[Yj,Ye,typing_form.data])).symm) Z (Go 5 Z (Rt h 2 [])))
def F_li(n:Nat)(b:List typing_form)(rec97:(List typing_form)->Option Bool)(a:Int):Option (Ctl Int (Ctl Unit Int)):=
  (bif decide (a<(b.length:Int))then(idx b a).bind λc=>(F_ds rec97 n c).bind λd=>(bif d then some (.done (.done a))else some (.cont (IntKind.i64.wrap (a+1))))else some (.done (.cont ())))
def F_hi(rec97:(List typing_form)->Option Bool)(n:Nat)(c:List typing_form):Option Int:=
  (iter (F_li n c rec97) n 0:Option (Ctl Unit Int)).bind λb=>match b with|.cont a=>(some (-1))|.done a=>some a
theorem k_hi(rec97:(List typing_form)->Option Bool)(c:∀(d:List typing_form) (r:Bool),rec97 d=some r->Csm prog 254 [.rsl 1 (List.map typing_form.enc d),.fn (.func 255) [] []] [] (λr=>.bool r) r)(n:Nat)(d:List typing_form)(r:Int)(h:F_hi rec97 n d=some r):
    Csm prog 285 [.rsl 1 (List.map typing_form.enc d),.fn (.func 255) [] []] [] (λr=>I r) r:=by
 refine Qb func285 Z Z Z ?_;refine G0 9 Z (Lm Z (Go 3 Z (Bd h λl m h=>?_)));refine Ja (b:=l) [] [] Ze Ze Zf ?_ (λs env H p q=>?_)
 .refine G0 1 Z ?_;refine Lp [] [0,1,7] (λf=>[(8,I f)]) Ze m Zf (Lr []) λf t a e=>?_;refine G0 6 Z (Ya Z a (λg a=>?_) (λg a=>?_))
  .refine Gc 2 Z (Qk a ?_);obtain rfl:=Oj e a;exact Gx 1 Z (Qp Z (Lr []))
  refine Gc 15 Z (Bd a λu i a=>Iz i Z (Go 1 Z (Bd a λw j a=>Pc [] Z (Qgx call255 Z Z Z Z) (k_ds rec97 c _ _ _ j) (hargs:=by first|exact Z|exact Eq.trans (by exact Z) (Qae _ (by simp[Yj,Ye,typing_form.data])).symm) Z (Go 2 Z (Cn Z a (λk a=>?_) (λk a=>?_))))))
  .refine Gc 9 Z (Qn a ?_);obtain rfl:=Oj e a;exact Gx 1 Z (Qm (Gx 1 Z (Rt h 4 [])))
  exact Gc 7 Z (Qj a (Lr []))
 subst p;exact Gx 1 Z (Ef q (Gc 6 Z (Rt h 4 [])))
def B_i(rec97:(List typing_form)->Option Bool)(n:Nat)(a:List typing_form):Option Bool:=
  (F_hi rec97 n a).bind λr1=>some (decide (0<=r1))
theorem Qav(rec97:(List typing_form)->Option Bool)(a:∀(b:List typing_form) (r:Bool),rec97 b=some r->Csm prog 254 [.rsl 1 (List.map typing_form.enc b),.fn (.func 255) [] []] [] (λr=>.bool r) r)(n:Nat)(b:List typing_form)(r:Bool)(h:B_i rec97 n b=some r):
    Csm prog 254 [.rsl 1 (List.map typing_form.enc b),.fn (.func 255) [] []] [] (λr=>.bool r) r:=by
 refine Qb func254 Z Z Z ?_;exact G0 9 Z (Cz [] h (k_hi rec97 a _ _) Z λr1 c h=>Go 5 Z (Rt h 4 []))
def F_i:Nat->(List typing_form)->Option Bool
  |0=>λ_=>none
  |n+1=>B_i (F_i n) n
theorem k_i(n:Nat):∀(a:List typing_form) (r:Bool),F_i n a=some r->Csm prog 254 [.rsl 1 (List.map typing_form.enc a),.fn (.func 255) [] []] [] (λr=>.bool r) r:=by
  induction n with
  |zero=>intro a r h;cases h
  |succ n ih=>intro a r h;exact Qav _ ih n a r h
def F_he(n:Nat)(a:List typing_form):Option Int:=
  (F_hd n a 0 ({steps:=0,conds:=0:typing_count})).bind λr1=>(bif (!r1.2)then some 2 else((bif ((a.length:Int)==0)then some true else(F_i n a).bind λb=>some b):Option Bool).bind λc=>(bif c then some 71 else some 0))
theorem k_he(n:Nat)(c:List typing_form)(r:Int)(h:F_he n c=some r):
    Csm prog 200 [.rsl 1 (List.map typing_form.enc c)] [] (λr=>I r) r:=by
 refine Qb func200 Z Z Z ?_;refine G0 17 Z (Cd [0] h (k_hd _ _ _ _) Z λr1 i h=>FE Z (Go 3 Z (Cn Z h (λd h=>?_) (λd h=>?_))))
 .exact Gc 7 Z (Rt h 2 [])
 refine Gc 4 Z (Bd h λb a h=>?_);refine Ct b [] [] (λb=>[(16,.bool b)]) Ze Zf ?_ (λenv H e=>?_)
 .refine G0 2 Z (Lm Z (Go 2 Z (Is 13 a Z (λf a=>?_) (λf a=>?_))))
  .exact Go 4 Z (Cl a [])
  .exact Go 1 Z (Cz [] a (k_i _ _) Z λk j a=>Go 2 Z (Cl a []))
 refine Gx 1 Z (Ef e (Cn Z h (λg h=>?_) (λg h=>?_)))
 .exact Gc 7 Z (Rt h 2 [])
 exact Gc 8 Z (Rt h 2 [])
def F_by(n:Nat)(a:List Step):Option Int:=
  (F_s n a).bind λr1=>(F_he n r1).bind λr2=>some r2
theorem k_by(n:Nat)(a:List Step)(r:Int)(h:F_by n a=some r):
    Csm prog 115 [.rsl 8 (List.map Step.enc a)] [] (λr=>I r) r:=by
 refine Qb func115 Z Z Z ?_;exact G0 8 Z (Cd [] h (k_s _ _) Z λr1 b h=>FE Z (Cb h (k_he _ _) Z (lo ln) λr2 c h=>Go 4 Z (Rt h 2 [])))
def F_eq(n:Nat)(b:Part)(c:List Int)(a:(List Int)×Int):Option (Ctl ((List Int)×Int) (Ctl (List Int) (Ctl ((List Int)×Int) (Ctl (List Int) (List Int))))):=
  (bif decide (a.2<(if b.Laps<1 then 1 else b.Laps))then(bif decide (256<(a.1.length:Int))then some (.done (.done (.done (.done a.1))))else(app a.1 c).bind λd=>some (.cont (d,IntKind.i64.wrap (a.2+1))))else some (.done (.cont a.1)))
def F_ha(n:Nat)(d:List Part)(rec116:(List Part)->Option (List Int))(a:(List Int)×Int):Option (Ctl ((List Int)×Int) (Ctl (List Int) (List Int))):=
  (bif decide (a.2<(d.length:Int))then(idx d a.2).bind λc=>((bif decide (0<c.Laps)then(rec116 c.Parts).bind λe=>some e else some [c.Mat]):Option (List Int)).bind λf=>(iter (F_eq n c f) n (a.1,0):Option (Ctl (List Int) (Ctl ((List Int)×Int) (Ctl (List Int) (List Int))))).bind λg=>match g with|.cont b=>(some (.cont (b,IntKind.i64.wrap (a.2+1))))|.done b=>some b else some (.done (.cont a.1)))
def B_k(rec116:(List Part)->Option (List Int))(n:Nat)(c:List Part):Option (List Int):=
  (iter (F_ha n c rec116) n ([],0):Option (Ctl (List Int) (List Int))).bind λb=>match b with|.cont a=>(some a)|.done a=>some a
theorem Qco(rec116:(List Part)->Option (List Int))(u:∀(w:List Part) (r:List Int),rec116 w=some r->C prog 204 [.rsl 3 (List.map Part.enc w)] [] (RQ (λr=>.osl 0 0 r.length 1) (λr=>[.row 3 1 (List.map (Qd .i64) r)]) r))(n:Nat)(w:List Part)(r:List Int)(h:B_k rec116 n w=some r):
    C prog 204 [.rsl 3 (List.map Part.enc w)] [] (RQ (λr=>.osl 0 0 r.length 1) (λr=>[.row 3 1 (List.map (Qd .i64) r)]) r):=by
 refine Qb func204 Z Z Z ?_;refine G0 9 Z (Lm Z (Go 3 Z (Bd h λM N h=>?_)));refine Ja (b:=M) [0] [] (λf=>[(2,.osl 0 0 f.length 1)]) (λf=>[(0,.row 3 1 (List.map (Qd .i64) f))]) Zf ?_ (λf env H x j=>?_)
 .refine G0 1 Z ?_;refine Lp [0] [6,7] (λl=>[(2,.osl 0 0 l.1.length 1),(8,I l.2)]) (λl=>[(0,.row 3 1 (List.map (Qd .i64) l.1))]) N Zf ?_ ?_
  .refine En (Er (s:=2) (k:=1) (t:=3) (XY Z) Z) ?_;exact Lr [0]
  intro l R a y;refine G0 6 Z (Ya Z a (λB a=>?_) (λB a=>?_))
  .refine Gc 2 Z (Qk a ?_);obtain rfl:=Oj y a;exact Gx 1 Z (Qp Z (Lr [0]))
  refine Gc 6 Z (Bd a λq E a=>IzE E (Jj q) Z (Go 9 Z ?_));refine vH (El (xs:=[.tmp 13]) (es:=List.map (Qd .i64) [q.Mat]) Qv Z Z Z Z Z ⟨Z,trivial⟩ Z Z) ?_;refine FE Z (Go 11 Z (Bd a λm d a=>?_));refine Ct m [0,1,0] [2,4,6,7,8] (λm=>[(5,.osl 2 0 m.length 1)]) (λm=>[(2,.row 3 1 (List.map (Qd .i64) m))]) Zf ?_ (λenv H j=>?_)
  .refine G0 0 Z (Cn Z d (λF d=>?_) (λF d=>?_))
   .exact Gc 3 Z (Cd [] d (u _) Z λT Q d=>FE Z (Go 2 Z (Cl d [0,1,3])))
   exact Gc 1 Z (Cl d [0,1,2])
  refine Gx 1 Z (Ef j (Gc 4 Z ?_));refine vX (I (if q.Laps<1 then 1 else q.Laps)) (OpV.max Z Z Z Z) ?_;refine Go 3 Z (Bd a λO P a=>?_);refine Ja (b:=O) [0] [6,7,8] (λg=>[(2,.osl 0 0 g.length 1)]) (λg=>[(0,.row 3 1 (List.map (Qd .i64) g))]) Zf ?_ (λg env H x j=>?_)
  .refine G0 1 Z ?_;refine Lp [0,2] [5,6,7,8,23] (λp=>[(2,.osl 0 0 p.1.length 1),(24,I p.2)]) (λp=>[(0,.row 3 1 (List.map (Qd .i64) p.1))]) P Zf (Lr [0,2]) λp V c z=>?_;refine G0 6 Z (Ya Z c (λG c=>?_) (λG c=>?_))
   .refine Gc 2 Z (Qk c ?_);obtain rfl:=Oj z c;exact Gx 1 Z (Qp Z (Lr [0]))
   refine Gc 12 Z (Cn Z c (λJ c=>?_) (λJ c=>?_))
   .refine Gc 10 Z (Qn c ?_);obtain rfl:=Oj z c;refine Gx 1 Z (Qm (Gx 2 Z (Qn a ?_)));obtain rfl:=Oj y a;exact Gx 1 Z (Qm (Gx 1 Z (Rt h 2 [0])))
   refine Gc 5 Z (Bd c λW L c=>?_);refine vH (QM (e:=(Qd .i64)) L Qv runUnderlying32 (YI (i:=1))) ?_;exact FE Z (Go 8 Z (Qj c (Lr [2,1])))
  subst x;exact Gx 2 Z (Ef j (Gc 4 Z (Qj a (Lr [0]))))
 subst x;exact Gx 1 Z (Ef j (Gc 7 Z (Rt h 2 [0])))
def F_k:Nat->(List Part)->Option (List Int)
  |0=>λ_=>none
  |n+1=>B_k (F_k n) n
theorem k_k(n:Nat):∀(a:List Part) (r:List Int),F_k n a=some r->C prog 204 [.rsl 3 (List.map Part.enc a)] [] (RQ (λr=>.osl 0 0 r.length 1) (λr=>[.row 3 1 (List.map (Qd .i64) r)]) r):=by
  induction n with
  |zero=>intro a r h;cases h
  |succ n ih=>intro a r h;exact Qco _ ih n a r h
def F_cy(n:Nat)(a:Cutoff)(b:List (Int×Int)):Option Bool:=
  (some (QF b a.Mat 0)).bind λc=>some (decide (a.Lap<=c))
theorem k_cy(n:Nat)(a:Cutoff)(b:List (Int×Int))(r:Bool)(h:F_cy n a b=some r):
    Csm prog 205 [.agg (Cutoff.c a),.ptr 0 0] [.cells 103 [.map 1],.map (Qz (λx=>A.int .i64 x) (λx=>A.int .i64 x) b)] (λr=>.bool r) r:=by
 refine Qb func205 Z Z Z ?_;refine G0 11 Z (Bd h λe d h=>?_);refine vX (I e) (YV (ev:=(λx=>A.int .i64 x)) (z0:=0) (k:=a.Mat) (l:=b) Qbl d underlying103 zeroValue3 Eo) ?_;exact Go 7 Z (Rt h 3 [0,1])
def F_hk(n:Nat)(a:Cutoff)(b:List (Int×Int)):Option Bool:=
  (F_cy n a b).bind λr1=>some (!r1)
theorem k_hk(n:Nat)(a:Cutoff)(b:List (Int×Int))(r:Bool)(h:F_hk n a b=some r):
    Csm prog 240 [.agg (Cutoff.c a),.ptr 0 0] [.cells 264 [.fn (.func 205) [] [.ptr 1 0]],.cells 103 [.map 2],.map (Qz (λx=>A.int .i64 x) (λx=>A.int .i64 x) b)] (λr=>.bool r) r:=by
 refine Qb func240 Z Z Z ?_;exact G0 10 Z (Cz [1,2] h (k_cy _ _ _) Z λr1 d h=>Go 5 Z (Rt h 3 [0,1,2]))
def F_mb(n:Nat)(b:List Cutoff)(e:List (Int×Int))(a:Int):Option (Ctl Int (Ctl Unit Int)):=
  (bif decide (a<(b.length:Int))then(idx b a).bind λc=>(F_hk n c e).bind λd=>(bif d then some (.done (.done a))else some (.cont (IntKind.i64.wrap (a+1))))else some (.done (.cont ())))
def F_er(n:Nat)(c:List Cutoff)(d:List (Int×Int)):Option Int:=
  (iter (F_mb n c d) n 0:Option (Ctl Unit Int)).bind λb=>match b with|.cont a=>(some (-1))|.done a=>some a
theorem k_er(n:Nat)(b:List Cutoff)(a:List (Int×Int))(r:Int)(h:F_er n b a=some r):
    Csm prog 277 [.rsl 3 (List.map Cutoff.c b),.fn (.func 240) [] [.ptr 0 0]] [.cells 264 [.fn (.func 205) [] [.ptr 1 0]],.cells 103 [.map 2],.map (Qz (λx=>A.int .i64 x) (λx=>A.int .i64 x) a)] (λr=>I r) r:=
 QJ (el:=λx=>.agg (Cutoff.c x)) (g:=λx=>F_hk n x a) func277 Z Z Z runUnderlying97 sizeOf249 (λ_ _ _ _ d e=>Qy d isAgg249 sizeOf249 e Pts.rp Z Z) call240 (λ_ _ h=>k_hk _ _ _ _ h) h
def F_gh(n:Nat)(a:List Cutoff)(b:List (Int×Int)):Option Bool:=
  (F_er n a b).bind λr1=>some (decide (0<=r1))
theorem k_gh(n:Nat)(a:List Cutoff)(b:List (Int×Int))(r:Bool)(h:F_gh n a b=some r):
    Csm prog 239 [.rsl 3 (List.map Cutoff.c a),.fn (.func 240) [] [.ptr 0 0]] [.cells 264 [.fn (.func 205) [] [.ptr 1 0]],.cells 103 [.map 2],.map (Qz (λx=>A.int .i64 x) (λx=>A.int .i64 x) b)] (λr=>.bool r) r:=by
 refine Qb func239 Z Z Z ?_;exact G0 9 Z (Cz [0,1,2] h (k_er _ _ _) Z λr1 d h=>Go 5 Z (Rt h 4 [0,1,2]))
def F_fx(n:Nat)(a:List Cutoff)(b:List (Int×Int)):Option Bool:=
  (F_gh n a b).bind λr1=>some (!r1)
theorem k_fx(n:Nat)(a:List Cutoff)(b:List (Int×Int))(r:Bool)(h:F_fx n a b=some r):
    Csm prog 183 [.rsl 3 (List.map Cutoff.c a),.fn (.func 205) [] [.ptr 0 0]] [.cells 103 [.map 1],.map (Qz (λx=>A.int .i64 x) (λx=>A.int .i64 x) b)] (λr=>.bool r) r:=by
 refine Qb func183 Z Z Z ?_;exact G0 10 Z (Cz [2,0,1] h (k_gh _ _ _) Z λr1 d h=>Go 5 Z (Rt h 4 [0,1]))
def F_cq(n:Nat)(i:Course)(j:List (typing_ends×Bool))(r1:List Int)(a:(List (Int×Int))×Int):Option (Ctl ((List (Int×Int))×Int) (Ctl (List (Int×Int)) Bool)):=
  (bif decide (a.2<(r1.length:Int))then(idx r1 a.2).bind λb=>(idx i.Mats b).bind λc=>((bif ((c.Kind==1) != (a.2==0))then some true else(bif ((c.Kind==3) != (a.2==(IntKind.i64.wrap ((r1.length:Int)-1))))then some true else(bif decide (0<a.2)then(idx r1 (IntKind.i64.wrap (a.2-1))).bind λd=>(some (QF j ({from_:=d,to_:=b:typing_ends}) false)).bind λe=>some (!e)else some false))):Option Bool).bind λf=>(bif f then some (.done (.done false))else(some (QF a.1 b 0)).bind λg=>(some (QW a.1 b (IntKind.i64.wrap (g+1)))).bind λh=>some (.cont (h,IntKind.i64.wrap (a.2+1))))else some (.done (.cont a.1)))
def F_do(n:Nat)(c:Course)(b:Distance)(d:List (typing_ends×Bool)):Option Bool:=
  (F_k n b.Route).bind λr1=>((bif decide ((IntKind.i64.wrap ((r1.length:Int)-1))<1)then some true else some (decide (256<=(IntKind.i64.wrap ((r1.length:Int)-1))))):Option Bool).bind λk=>(bif k then some false else(iter (F_cq n c d r1) n ([],0):Option (Ctl (List (Int×Int)) Bool)).bind λe=>match e with|.cont a=>(((bif decide (0<=b.Extra)then(some (QF a b.Extra 0)).bind λf=>(bif (f==0)then some true else(idx c.Mats b.Extra).bind λg=>(bif (g.Kind != 2)then some true else(some (QF d ({from_:=b.Extra,to_:=b.Extra:typing_ends}) false)).bind λh=>some (!h)))else some false):Option Bool).bind λi=>(bif i then some false else(F_fx n b.Cutoffs a).bind λj=>some j))|.done a=>some a)
theorem k_do(n:Nat)(a1:Course)(m:Distance)(y:List (typing_ends×Bool))(r:Bool)(h:F_do n a1 m y=some r):
    Csm prog 118 [.agg (Course.c a1),.agg (Distance.c m),.map 0] [.map (Qz (λx=>A.agg (typing_ends.c x)) A.bool y)] (λr=>.bool r) r:=by
 refine Qb func118 Z Z Z ?_;refine G0 11 Z (Cd [] h (k_k _ _) Z λr1 al h=>FE Z (Go 13 Z (Bd h λF p h=>?_)));refine Ct F [0,1,2,3] [2,3,4,7,8] (λF=>[(25,.bool F)]) Ze Zf ?_ (λenv H g=>?_)
 .refine G0 4 Z (Is 22 p Z (λac p=>?_) (λac p=>?_))
  .exact Go 4 Z (Cl p [0,1,2,3])
  .exact Go 4 Z (Cl p [0,1,2,3])
 refine Gx 1 Z (Ef g (Cn Z h (λad h=>?_) (λad h=>?_)))
 .exact Gc 7 Z (Rt h 6 [0])
 refine Gc 4 Z ?_;refine vH Yu ?_;refine FE Z (Go 12 Z (Bd h λae af h=>?_));refine Ja (b:=ae) [0,1,2,4,5] [2,3,4] (λ_=>[(9,.ptr 3 0)]) (λi=>[(3,.cells 103 [.map 4]),(4,.map (Qz (λx=>A.int .i64 x) (λx=>A.int .i64 x) i))]) Zf ?_ (λi env H ag g=>?_)
 .refine G0 1 Z ?_;refine Lp [0,1,2,3,5,4] [2,3,4,7,8,9,27,28] (λf=>[(29,I f.2)]) (λf=>[(4,.cells 103 [.map 5]),(5,.map (Qz (λx=>A.int .i64 x) (λx=>A.int .i64 x) f.1))]) af Zf (Lr [0,1,2,3,5,4]) λf am a q=>?_;refine G0 6 Z (Ya Z a (λG a=>?_) (λG a=>?_))
  .refine Gc 2 Z (Qk a ?_);obtain rfl:=Oj q a;exact Gx 1 Z (Qp Z (Lr [0,1,2,4,5]))
  refine Gc 7 Z (Bd a λj s a=>?_);refine vX (.ptr 3 (Int.toNat f.2*1)) (QN s Z runUnderlying32 sizeOf3) ?_;refine vX (I j) (Ey Z isAgg3 Z (Qo s)) ?_;refine Go 9 Z (Bd a λz J a=>Iz J Z (Go 7 Z (Bd a λt e a=>?_)));refine Ct t [0,1,2,3,4,5] [2,3,4,7,8,9,11,27,28,29] (λt=>[(68,.bool t)]) Ze Zf ?_ (λenv H g=>?_)
  .refine G0 5 Z ?_;refine vX (.bool ((z.Kind==1) != (f.2==0))) (QeX runUnderlying4) ?_;refine Go 1 Z (Is 45 e Z (λL e=>?_) (λL e=>?_))
   .exact Go 24 Z (Cl e [0,1,2,3,4,5])
   .refine Go 5 Z ?_;refine vV (x:=(.bool ((z.Kind==3) != (f.2==(IntKind.i64.wrap ((r1.length:Int)-1)))))) (QeX runUnderlying4) ?_ (gT Z);refine Go 2 Z (Is 53 e Z (λM e=>?_) (λM e=>?_))
    .exact Go 16 Z (Cl e [0,1,2,3,4,5])
    .refine Go 3 Z (Is 56 e Z (λN e=>?_) (λN e=>?_))
     .refine Go 4 Z (Bd e λB u e=>?_);refine vX (.ptr 3 (Int.toNat (IntKind.i64.wrap (f.2-1))*1)) (QN u Z runUnderlying32 sizeOf3) ?_ (gT Z);refine vX (I B) (Ey Z isAgg3 Z (Qo u)) ?_ (gT Z);refine Go 2 Z (Bd e λah O e=>?_);refine vX (.bool ah) (YV (ev:=A.bool) (z0:=false) (k:=({from_:=B,to_:=j:typing_ends})) (l:=y) QdG O underlying207 zeroValue4 ZR.bool) ?_ (gT Z);exact Go 4 Z (Cl e [0,1,2,3,4,5])
     .exact Go 13 Z (Cl e [0,1,2,3,4,5])
  refine Gx 1 Z (Ef g (Cn Z a (λP a=>?_) (λP a=>?_)))
  .refine Gc 9 Z (Qn a ?_);obtain rfl:=Oj q a;exact Gx 1 Z (Qm (Gx 1 Z (Rt h 6 [0])))
  refine Gc 5 Z (Bd a λE Q a=>?_);refine vX (I E) (YV (ev:=(λx=>A.int .i64 x)) (z0:=0) (k:=j) (l:=f.1) Qbl Q underlying103 zeroValue3 Eo) ?_;refine Go 1 Z (Bd a λan R a=>?_);refine vU (YL (ev:=(λx=>A.int .i64 x)) (k:=j) (v:=(IntKind.i64.wrap (E+1))) (l:=f.1) Qbl R Z underlying103) ?_;exact FE Z (Go 7 Z (Qj a (Lr [0,1,2,3,4,5])))
 subst ag;refine Gx 1 Z (Ef g (Gc 9 Z (Bd h λw d h=>?_)));refine Ct w [0,2,3,4] [4,9] (λw=>[(100,.bool w)]) (λ_=>[(2,.cells 103 [.map 3])]) Zf ?_ (λenv H g=>?_)
 .refine G0 4 Z (Is 78 d Z (λT d=>?_) (λT d=>?_))
  .refine Go 2 Z (Bd d λai V d=>?_);refine vX (I ai) (YV (ev:=(λx=>A.int .i64 x)) (z0:=0) (k:=m.Extra) (l:=i) Qbl V underlying103 zeroValue3 Eo) ?_ (gT Z);refine Go 2 Z (Is 83 d Z (λW d=>?_) (λW d=>?_))
   .exact Go 18 Z (Cl d [0,2,3,4])
   .refine Go 3 Z (Bd d λao X d=>Iz X Z (Go 5 Z (Is 92 d Z (λY d=>?_) (λY d=>?_))))
    .exact Go 9 Z (Cl d [0,2,3,4])
    .refine Go 4 Z (Bd d λaj aa d=>?_);refine vX (.bool aj) (YV (ev:=A.bool) (z0:=false) (k:=({from_:=m.Extra,to_:=m.Extra:typing_ends})) (l:=y) QdG aa underlying207 zeroValue4 ZR.bool) ?_ (gT Z);exact Go 4 Z (Cl d [0,2,3,4])
  .exact Go 23 Z (Cl d [0,2,3,4])
 refine Gx 1 Z (Ef g (Cn Z h (λab h=>?_) (λab h=>?_)))
 .exact Gc 7 Z (Rt h 6 [0])
 exact Gc 7 Z (Cz [2,3] h (k_fx _ _ _) Z λaq ak h=>Go 4 Z (Rt h 6 [0]))
def F_bk(n:Nat)(a:Distance)(b:Course)(c:List (typing_ends×Bool)):Option Bool:=
  (F_do n b a c).bind λr1=>some r1
theorem k_bk(n:Nat)(a:Distance)(b:Course)(d:List (typing_ends×Bool))(r:Bool)(h:F_bk n a b d=some r):
    Csm prog 117 [.agg (Distance.c a),.ptr 0 0,.ptr 1 0] [.cells 49 (Course.c b),.cells 207 [.map 2],.map (Qz (λx=>A.agg (typing_ends.c x)) A.bool d)] (λr=>.bool r) r:=by
 refine Qb func117 Z Z Z ?_;exact G0 11 Z (Cz [2] h (k_do _ _ _ _) Z λr1 e h=>Go 4 Z (Rt h 4 [0,1,2]))
def F_fw(n:Nat)(a:Distance)(b:Course)(c:List (typing_ends×Bool)):Option Bool:=
  (F_bk n a b c).bind λr1=>some (!r1)
theorem k_fw(n:Nat)(a:Distance)(b:Course)(d:List (typing_ends×Bool))(r:Bool)(h:F_fw n a b d=some r):
    Csm prog 203 [.agg (Distance.c a),.ptr 0 0] [.cells 212 [.fn (.func 117) [] [.ptr 1 0,.ptr 2 0]],.cells 49 (Course.c b),.cells 207 [.map 3],.map (Qz (λx=>A.agg (typing_ends.c x)) A.bool d)] (λr=>.bool r) r:=by
 refine Qb func203 Z Z Z ?_;exact G0 10 Z (Cz [1,2,3] h (k_bk _ _ _ _) Z λr1 e h=>Go 5 Z (Rt h 3 [0,1,2,3]))
def F_kq(n:Nat)(b:List Distance)(e:Course)(f:List (typing_ends×Bool))(a:Int):Option (Ctl Int (Ctl Unit Int)):=
  (bif decide (a<(b.length:Int))then(idx b a).bind λc=>(F_fw n c e f).bind λd=>(bif d then some (.done (.done a))else some (.cont (IntKind.i64.wrap (a+1))))else some (.done (.cont ())))
def F_hb(n:Nat)(c:List Distance)(d:Course)(e:List (typing_ends×Bool)):Option Int:=
  (iter (F_kq n c d e) n 0:Option (Ctl Unit Int)).bind λb=>match b with|.cont a=>(some (-1))|.done a=>some a
theorem k_hb(n:Nat)(d:List Distance)(a:Course)(b:List (typing_ends×Bool))(r:Int)(h:F_hb n d a b=some r):
    Csm prog 256 [.rsl 5 (List.map Distance.c d),.fn (.func 203) [] [.ptr 0 0]] [.cells 212 [.fn (.func 117) [] [.ptr 1 0,.ptr 2 0]],.cells 49 (Course.c a),.cells 207 [.map 3],.map (Qz (λx=>A.agg (typing_ends.c x)) A.bool b)] (λr=>I r) r:=
 QJ (el:=λx=>.agg (Distance.c x)) (g:=λx=>F_fw n x a b) func256 Z Z Z runUnderlying40 sizeOf99 (λ_ _ _ _ e f=>Qy e isAgg99 sizeOf99 f Pts.rp Z Z) call203 (λ_ _ h=>k_fw _ _ _ _ _ h) h
def F_gi(n:Nat)(a:List Distance)(b:Course)(c:List (typing_ends×Bool)):Option Bool:=
  (F_hb n a b c).bind λr1=>some (decide (0<=r1))
theorem k_gi(n:Nat)(a:List Distance)(b:Course)(d:List (typing_ends×Bool))(r:Bool)(h:F_gi n a b d=some r):
    Csm prog 202 [.rsl 5 (List.map Distance.c a),.fn (.func 203) [] [.ptr 0 0]] [.cells 212 [.fn (.func 117) [] [.ptr 1 0,.ptr 2 0]],.cells 49 (Course.c b),.cells 207 [.map 3],.map (Qz (λx=>A.agg (typing_ends.c x)) A.bool d)] (λr=>.bool r) r:=by
 refine Qb func202 Z Z Z ?_;exact G0 9 Z (Cz [0,1,2,3] h (k_hb _ _ _ _) Z λr1 e h=>Go 5 Z (Rt h 4 [0,1,2,3]))
def F_bv(n:Nat)(a:List Distance)(b:Course)(c:List (typing_ends×Bool)):Option Bool:=
  (F_gi n a b c).bind λr1=>some (!r1)
theorem k_bv(n:Nat)(a:List Distance)(b:Course)(d:List (typing_ends×Bool))(r:Bool)(h:F_bv n a b d=some r):
    Csm prog 116 [.rsl 5 (List.map Distance.c a),.fn (.func 117) [] [.ptr 0 0,.ptr 1 0]] [.cells 49 (Course.c b),.cells 207 [.map 2],.map (Qz (λx=>A.agg (typing_ends.c x)) A.bool d)] (λr=>.bool r) r:=by
 refine Qb func116 Z Z Z ?_;exact G0 10 Z (Cz [3,0,1,2] h (k_gi _ _ _ _) Z λr1 e h=>Go 5 Z (Rt h 4 [0,1,2]))
def F_jf(n:Nat)(c:Course)(a:(List (typing_ends×Bool))×Int):Option (Ctl ((List (typing_ends×Bool))×Int) (List (typing_ends×Bool))):=
  (bif decide (a.2<(c.Legs.length:Int))then(idx c.Legs a.2).bind λb=>(some (QW a.1 ({from_:=b.From,to_:=b.To:typing_ends}) true)).bind λd=>some (.cont (d,IntKind.i64.wrap (a.2+1)))else some (.done a.1))
def F_l(n:Nat)(a:Course):Option Int:=
  (F_ac n a).bind λr1=>(bif (!r1)then some 2 else(F_dv n a).bind λe=>(bif (!e)then some 70 else(F_du n a).bind λf=>(bif (!f)then some 71 else(F_by n a.Ties).bind λb=>(bif (b != 0)then some b else(iter (F_jf n a) n ([],0):Option (List (typing_ends×Bool))).bind λc=>(F_bv n a.Distances a c).bind λd=>(bif (!d)then some 72 else some 0)))))
theorem k_l(n:Nat)(p:Course)(r:Int)(h:F_l n p=some r):
    Csm prog 71 [.agg (Course.c p)] [] (λr=>I r) r:=by
 refine Qb func71 Z Z Z ?_;refine G0 11 Z (Cz [] h (k_ac _ _) Z λr1 B h=>Go 4 Z (Cn Z h (λq h=>?_) (λq h=>?_)))
 .exact Gc 8 Z (Rt h 2 [])
 refine Gc 3 Z (Cz [] h (k_dv _ _) Z λN E h=>Go 4 Z (Cn Z h (λs h=>?_) (λs h=>?_)))
 .exact Gc 8 Z (Rt h 2 [])
 refine Gc 3 Z (Cz [] h (k_du _ _) Z λO F h=>Go 4 Z (Cn Z h (λt h=>?_) (λt h=>?_)))
 .exact Gc 8 Z (Rt h 2 [])
 refine Gc 8 Z (Cz [] h (k_by _ _) Z λP G h=>Go 9 Z (Cn Z h (λu h=>?_) (λu h=>?_)))
 .exact Gc 8 Z (Rt h 2 [])
 refine Gc 4 Z ?_;refine vH Yu ?_;refine FE Z (Go 9 Z (Lm Z (Go 3 Z (Bd h λd w h=>?_))));refine Ct d [0,1,2] [1] (λ_=>[(3,.ptr 1 0)]) (λd=>[(1,.cells 207 [.map 2]),(2,.map (Qz (λx=>A.agg (typing_ends.c x)) A.bool d))]) Zf ?_ (λenv H y=>?_)
 .refine G0 1 Z ?_;refine Lp [0,2,1] [1,3,26,27] (λb=>[(28,I b.2)]) (λb=>[(1,.cells 207 [.map 2]),(2,.map (Qz (λx=>A.agg (typing_ends.c x)) A.bool b.1))]) w Zf (Lr [0,2,1]) λb J a f=>?_;refine G0 6 Z (Ya Z a (λg a=>?_) (λg a=>?_))
  .refine Gc 2 Z (Qk a ?_);obtain rfl:=Oj f a;exact Gx 1 Z (Q1 (Lr [0,1,2]))
  refine Gc 6 Z (Bd a λe i a=>Iz i Z (Go 12 Z (Bd a λL j a=>?_)));refine vU (YL (ev:=A.bool) (k:=({from_:=e.From,to_:=e.To:typing_ends})) (v:=true) (l:=b.1) QdG j Z underlying207) ?_;exact FE Z (Go 7 Z (Qj a (Lr [0,1,2])))
 refine Gx 1 Z (Ef y (Gc 6 Z (Cz [0,1,2] h (k_bv _ _ _ _) Z λM z h=>Go 3 Z (Cn Z h (λm h=>?_) (λm h=>?_)))))
 .exact Gc 7 Z (Rt h 2 [])
 exact Gc 8 Z (Rt h 2 [])
def F_ax(n:Nat)(a:Int):Option Bool:=
  ((bif decide ((-1099511627776)<=a)then some (decide (a<=1099511627776))else some false):Option Bool).bind λb=>some b
theorem k_ax(n:Nat)(c:Int)(r:Bool)(h:F_ax n c=some r):
    Csm prog 206 [I c] [] (λr=>.bool r) r:=by
 refine Qb func206 Z Z Z ?_;refine G0 6 Z (Bd h λb a h=>?_);refine Ct b [] [] (λb=>[(2,.bool b)]) Ze Zf ?_ (λenv H d=>?_)
 .refine G0 4 Z (Is 5 a Z (λe a=>?_) (λe a=>?_))
  .exact Go 5 Z (Cl a [])
  .exact Go 5 Z (Cl a [])
 exact Gx 1 Z (Ef d (Gc 1 Z (Rt h 2 [])))
def F_az(n:Nat)(a:Int):Option Unit:=
  some ()
theorem k_az(n:Nat)(a:Int)(r:Unit)(h:F_az n a=some r):
    Csm prog 134 [I a] [] (λ_=>.bool (a != a)) r:=by
 refine Qb func134 Z Z Z ?_;exact G0 14 Z (Rt h 2 [])
def F_e(n:Nat)(b:Int)(a:Int):Option Int:=
  (F_az n b).bind λr1=>(F_az n a).bind λr2=>(bif (b != b)then(bif (a != a)then some 0 else some (-1))else(bif (a != a)then some 1 else(bif decide (b<a)then some (-1)else(bif decide (a<b)then some 1 else some 0))))
theorem k_e(n:Nat)(a:Int)(b:Int)(r:Int)(h:F_e n a b=some r):
    Csm prog 87 [I a,I b] [] (λr=>I r) r:=by
 refine Qb func87 Z Z Z ?_;refine G0 8 Z (Cz [] h (k_az _ _) Z λr1 i h=>Go 6 Z (Cz [] h (k_az _ _) Z λr2 j h=>Go 9 Z (Cn Z h (λc h=>?_) (λc h=>?_))))
 .refine Gc 6 Z (Cn Z h (λd h=>?_) (λd h=>?_))
  .exact Gc 8 Z (Rt h 4 [])
  exact Gc 9 Z (Rt h 4 [])
 refine Gc 8 Z (Cn Z h (λe h=>?_) (λe h=>?_))
 .exact Gc 7 Z (Rt h 4 [])
 refine Gc 10 Z (Cn Z h (λf h=>?_) (λf h=>?_))
 .exact Gc 7 Z (Rt h 4 [])
 refine Gc 10 Z (Cn Z h (λg h=>?_) (λg h=>?_))
 .exact Gc 7 Z (Rt h 4 [])
 exact Gc 8 Z (Rt h 4 [])
end Go.Sw
