/- What the functions compute that PrizesCandidatesSpec reaches, and that their calls refine it (part 1 of 3). -/
import Derived.Test.YtkfjchmhgpkcbaaGreatW31CaB
set_option linter.unusedVariables false
set_option linter.unusedSimpArgs false
set_option maxRecDepth 100000
set_option maxHeartbeats 4000000
namespace Go.Sw
open Go.Proofs Tryz
def F_ld(n:Nat)(c:List Int)(a:(List Prize)×Int):Option (Ctl ((List Prize)×Int) (List Prize)):=
  (bif decide (a.2<(c.length:Int))then(idx c a.2).bind fun b=>(app a.1 [{Distance:=0,Category:=(-1),Rank:=b,Amount:=IntKind.i64.wrap (100*b):Prize}]).bind fun d=>some (.cont (d,IntKind.i64.wrap (a.2+1)))else some (.done a.1))
def F_bp(n:Nat)(a:List Int):Option (List Prize):=
  (iter (F_ld n a) n ([],0):Option (List Prize)).bind fun b=>some b
theorem k_bp(n:Nat)(q:List Int)(r:List Prize)(h:F_bp n q=some r):
    C prog 31 [.rsl 1 (List.map (Qd .i64) q)] [] (RQ (fun r=>.agg [.str [115,97,109,112,108,101],.osl 0 0 ([{Name:=[108,105,110,101],Kind:=1:Mat},{Name:=[102,105,110,105,115,104],Kind:=3:Mat}].length) 2,.osl 1 0 ([{From:=0,To:=1,Min:=10,Max:=100:Leg}].length) 4,.osl 2 0 ([{Name:=[98,114,105,101,102],Route:=[z_Part,{z_Part with Mat:=1:Part}],Timing:=1,Cutoffs:=[],Extra:=(-1):Distance}].length) 5,.osl 3 0 ([{Name:=[101,108,105,116,101],Gun:=0:Wave}].length) 2,.rsl 4 (List.map Offence.c []),.rsl 3 (List.map Category.c []),.osl 4 0 r.length 4,.osl 5 0 ([{z_Step with Kind:=1,By:=4:Step}].length) 8,I 0,I 0,I 0,I 0,I 0,I 0,I 0]) (fun r=>[.row 101 2 (List.map Mat.c [{Name:=[108,105,110,101],Kind:=1:Mat},{Name:=[102,105,110,105,115,104],Kind:=3:Mat}]),.row 135 4 (List.map Leg.c [{From:=0,To:=1,Min:=10,Max:=100:Leg}]),.row 99 5 (List.map Distance.c [{Name:=[98,114,105,101,102],Route:=[z_Part,{z_Part with Mat:=1:Part}],Timing:=1,Cutoffs:=[],Extra:=(-1):Distance}]),.row 139 2 (List.map Wave.c [{Name:=[101,108,105,116,101],Gun:=0:Wave}]),.row 74 4 (List.map Prize.c r),.row 144 8 (List.map Step.enc [{z_Step with Kind:=1,By:=4:Step}]),.cells 49 [.str [115,97,109,112,108,101],.osl 0 0 ([{Name:=[108,105,110,101],Kind:=1:Mat},{Name:=[102,105,110,105,115,104],Kind:=3:Mat}].length) 2,.osl 1 0 ([{From:=0,To:=1,Min:=10,Max:=100:Leg}].length) 4,.osl 2 0 ([{Name:=[98,114,105,101,102],Route:=[z_Part,{z_Part with Mat:=1:Part}],Timing:=1,Cutoffs:=[],Extra:=(-1):Distance}].length) 5,.osl 3 0 ([{Name:=[101,108,105,116,101],Gun:=0:Wave}].length) 2,.rsl 4 (List.map Offence.c []),.rsl 3 (List.map Category.c []),.osl 4 0 r.length 4,.osl 5 0 ([{z_Step with Kind:=1,By:=4:Step}].length) 8,I 0,I 0,I 0,I 0,I 0,I 0,I 0]]) r):=by
 refine Qa func31 Z Z Z ?_
 refine G0 9 Z ?_
 refine vH (OpH.lit (xs:=[.tmp 6,.tmp 7]) (es:=List.map Mat.c [{Name:=[108,105,110,101],Kind:=1:Mat},{Name:=[102,105,110,105,115,104],Kind:=3:Mat}]) el_38 Z Z Z Z Z ⟨Z,Z,trivial⟩ Z Z) ?_
 refine FE Z (Go 1 Z ?_)
 refine vH (OpH.lit (xs:=[.tmp 9]) (es:=List.map Leg.c [{From:=0,To:=1,Min:=10,Max:=100:Leg}]) el_39 Z Z Z Z Z ⟨Z,trivial⟩ Z Z) ?_
 refine FE Z (Go 2 Z ?_)
 refine vH (OpH.lit (xs:=[.tmp 11,.tmp 12]) (es:=List.map Part.enc [z_Part,{z_Part with Mat:=1:Part}]) el_96 Z Z Z Z Z ⟨Z,Z,trivial⟩ Z Z) ?_
 refine FE Z (Go 1 Z ?_)
 refine WO.le (Yn [(13,_),(14,_)] Z Z (Qjj.cons Z FzA.o (Qjj.cons Z (FzA.agg (FzL.cons (FzA.refl _) (FzL.cons FzA.o (FzL.refl _)))) Qjj.nil)) (FzH.keep (FzH.keep (FzH.keep (FzH.keep (QS _)))))) ?_
 refine vH (OpH.lit (xs:=[.tmp 14]) (es:=List.map Distance.c [{Name:=[98,114,105,101,102],Route:=[z_Part,{z_Part with Mat:=1:Part}],Timing:=1,Cutoffs:=[],Extra:=(-1):Distance}]) el_40 Z Z Z Z Z ⟨Z,trivial⟩ Z Z) ?_
 refine FE Z (Go 1 Z ?_)
 refine vH (OpH.lit (xs:=[.tmp 16]) (es:=List.map Wave.c [{Name:=[101,108,105,116,101],Gun:=0:Wave}]) el_41 Z Z Z Z Z ⟨Z,trivial⟩ Z Z) ?_
 refine FE Z (Go 1 Z ?_)
 refine vH (OpH.lit (xs:=[.tmp 18]) (es:=List.map Step.enc [{z_Step with Kind:=1,By:=4:Step}]) el_45 Z Z Z Z Z ⟨Z,trivial⟩ Z Z) ?_
 refine FE Z ?_
 refine vX (.agg [.str [115,97,109,112,108,101],.osl 1 0 ([{Name:=[108,105,110,101],Kind:=1:Mat},{Name:=[102,105,110,105,115,104],Kind:=3:Mat}].length) 2,.osl 2 0 ([{From:=0,To:=1,Min:=10,Max:=100:Leg}].length) 4,.osl 4 0 ([{Name:=[98,114,105,101,102],Route:=[z_Part,{z_Part with Mat:=1:Part}],Timing:=1,Cutoffs:=[],Extra:=(-1):Distance}].length) 5,.osl 5 0 ([{Name:=[101,108,105,116,101],Gun:=0:Wave}].length) 2,.rsl 4 (List.map Offence.c []),.rsl 3 (List.map Category.c []),.nils,.osl 6 0 ([{z_Step with Kind:=1,By:=4:Step}].length) 8,I 0,I 0,I 0,I 0,I 0,I 0,I 0]) (OpV.build (zs:=[.str [],.rsl 2 (List.map Mat.c []),.rsl 4 (List.map Leg.c []),.rsl 5 (List.map Distance.c []),.rsl 2 (List.map Wave.c []),.rsl 4 (List.map Offence.c []),.rsl 3 (List.map Category.c []),.nils,.rsl 8 (List.map Step.enc []),I 0,I 0,I 0,I 0,I 0,I 0,I 0]) zeroValue49 (zrC Z) Qh5) ?_
 refine vH (QbS (v:=(.agg [.str [],.rsl 2 (List.map Mat.c []),.rsl 4 (List.map Leg.c []),.rsl 5 (List.map Distance.c []),.rsl 2 (List.map Wave.c []),.rsl 4 (List.map Offence.c []),.rsl 3 (List.map Category.c []),.nils,.rsl 8 (List.map Step.enc []),I 0,I 0,I 0,I 0,I 0,I 0,I 0])) zeroValue49 (zrC Z)) ?_
 refine FE Z (Go 7 Z (Lm Z (Go 3 Z (Bd h fun d u h=>?_))))
 refine Ct d [0,1,2,3,4,5,6,7] [2] (fun _=>[(3,.ptr 1 0)]) (fun d=>[(1,.cells 49 [.str [115,97,109,112,108,101],.osl 2 0 ([{Name:=[108,105,110,101],Kind:=1:Mat},{Name:=[102,105,110,105,115,104],Kind:=3:Mat}].length) 2,.osl 3 0 ([{From:=0,To:=1,Min:=10,Max:=100:Leg}].length) 4,.osl 4 0 ([{Name:=[98,114,105,101,102],Route:=[z_Part,{z_Part with Mat:=1:Part}],Timing:=1,Cutoffs:=[],Extra:=(-1):Distance}].length) 5,.osl 5 0 ([{Name:=[101,108,105,116,101],Gun:=0:Wave}].length) 2,.rsl 4 (List.map Offence.c []),.rsl 3 (List.map Category.c []),.osl 6 0 d.length 4,.osl 7 0 ([{z_Step with Kind:=1,By:=4:Step}].length) 8,I 0,I 0,I 0,I 0,I 0,I 0,I 0]),(2,.row 101 2 (List.map Mat.c [{Name:=[108,105,110,101],Kind:=1:Mat},{Name:=[102,105,110,105,115,104],Kind:=3:Mat}])),(3,.row 135 4 (List.map Leg.c [{From:=0,To:=1,Min:=10,Max:=100:Leg}])),(6,.row 74 4 (List.map Prize.c d)),(7,.row 144 8 (List.map Step.enc [{z_Step with Kind:=1,By:=4:Step}]))]) (fun _=>rfl) ?_ (fun env H s=>?_)
 ·refine G0 1 Z ?_
  refine Lp [0,7,1,2,4,5,0,6] [2,3,21,22] (fun b=>[(23,I b.2)]) (fun b=>[(1,.cells 49 [.str [115,97,109,112,108,101],.osl 2 0 ([{Name:=[108,105,110,101],Kind:=1:Mat},{Name:=[102,105,110,105,115,104],Kind:=3:Mat}].length) 2,.osl 3 0 ([{From:=0,To:=1,Min:=10,Max:=100:Leg}].length) 4,.osl 4 0 ([{Name:=[98,114,105,101,102],Route:=[z_Part,{z_Part with Mat:=1:Part}],Timing:=1,Cutoffs:=[],Extra:=(-1):Distance}].length) 5,.osl 5 0 ([{Name:=[101,108,105,116,101],Gun:=0:Wave}].length) 2,.rsl 4 (List.map Offence.c []),.rsl 3 (List.map Category.c []),.osl 6 0 b.1.length 4,.osl 7 0 ([{z_Step with Kind:=1,By:=4:Step}].length) 8,I 0,I 0,I 0,I 0,I 0,I 0,I 0]),(6,.row 74 4 (List.map Prize.c b.1))]) u (fun _=>rfl) ?_ ?_
  ·refine Le.trans (QX (i:=7) (m:=7) (t:=74) (k:=4) Z Z Z) ?_
   exact Lr [0,7,1,2,4,5,8,6]
  intro b w a g
  refine G0 6 Z (Yc Z a (fun j a=>?_) (fun j a=>?_))
  ·refine Gc 2 Z (Qj a ?_)
   obtain rfl:=Oj g a
   exact Gx 1 Z (QT (Lr [0,1,2,3,4,5,6,7]))
  refine Gc 6 Z (Bd a fun f l a=>Iz l Z (Go 11 Z ?_))
  refine vH (OpH.lit (xs:=[.tmp 32]) (es:=List.map Prize.c [{Distance:=0,Category:=(-1),Rank:=f,Amount:=IntKind.i64.wrap (100*f):Prize}]) Qkh Z Z Z Z Z ⟨Z,trivial⟩ Z Z) ?_
  refine FE Z (Bd a fun x p a=>?_)
  refine vH (QO (e:=Prize.c) p Qkh runUnderlying44 (Yw (i:=8))) ?_
  exact FE Z (Go 9 Z (Qi a (Lr [0,1,2,3,4,5,9,7])))
 refine Gx 1 Z (TC.le s (Gc 7 Z ?_))
 obtain rfl:=Oi h
 exact Rx [2,3,4,5,6,7,0] [2] Z (QL Z (Qs isAgg49 sizeOf49 Z Z Z)) ⟨Z,Z⟩
def F_jw(n:Nat)(c:List Int)(a:(List Runner)×Int):Option (Ctl ((List Runner)×Int) (List Runner)):=
  (bif decide (a.2<(c.length:Int))then(idx c a.2).bind fun b=>(app a.1 [{Bib:=IntKind.i64.wrap (a.2+1),Keys:=[],Worlds:=[[{Out:=false,Seg:=(-1),Lo:=b,Hi:=b:Outcome}]]:Runner}]).bind fun d=>some (.cont (d,IntKind.i64.wrap (a.2+1)))else some (.done a.1))
def F_ck(n:Nat)(a:List Int):Option (List Runner):=
  (iter (F_jw n a) n ([],0):Option (List Runner)).bind fun b=>some b
theorem k_ck(n:Nat)(q:List Int)(r:List Runner)(h:F_ck n q=some r):
    C prog 32 [.rsl 1 (List.map (Qd .i64) q)] [] (RQ (fun r=>.agg [.rsl 3 (List.map Segment.c []),.osl 0 0 ([[0]].length) 1,.rsl 2 (List.map Pair.c []),.osl 1 0 r.length 3]) (fun r=>[.row 32 1 (List.map (Yo 1 (Qd .i64)) [[0]]),.row 68 3 (List.map Runner.c r),.cells 29 [.rsl 3 (List.map Segment.c []),.osl 0 0 ([[0]].length) 1,.rsl 2 (List.map Pair.c []),.osl 1 0 r.length 3]]) r):=by
 refine Qa func32 Z Z Z ?_
 refine G0 7 Z ?_
 refine vH (OpH.lit (xs:=[.const (.int .i64 0)]) (es:=List.map (Qd .i64) [0]) Qw Z Z Z Z Z ⟨Z,trivial⟩ Z Z) ?_
 refine FE Z ?_
 refine WO.le (Yn [(6,_)] Z Z (Qjj.cons Z FzA.o Qjj.nil) (FzH.keep (FzH.keep (QS _)))) ?_
 refine vH (OpH.lit (xs:=[.tmp 6]) (es:=List.map (Yo 1 (Qd .i64)) [[0]]) el_23 Z Z Z Z Z ⟨Z,trivial⟩ Z Z) ?_
 refine FE Z (Go 1 Z ?_)
 refine vX (.agg [.rsl 3 (List.map Segment.c []),.osl 2 0 ([[0]].length) 1,.rsl 2 (List.map Pair.c []),.nils]) (OpV.build (zs:=[.rsl 3 (List.map Segment.c []),.rsl 1 (List.map (Yo 1 (Qd .i64)) []),.rsl 2 (List.map Pair.c []),.nils]) zeroValue29 (zrC Z) Qia) ?_
 refine vH (QbS (v:=(.agg [.rsl 3 (List.map Segment.c []),.rsl 1 (List.map (Yo 1 (Qd .i64)) []),.rsl 2 (List.map Pair.c []),.nils])) zeroValue29 (zrC Z)) ?_
 refine FE Z (Go 7 Z (Lm Z (Go 3 Z (Bd h fun f u h=>?_))))
 refine Ct f [0,1,2,3] [2] (fun _=>[(3,.ptr 1 0)]) (fun f=>[(1,.cells 29 [.rsl 3 (List.map Segment.c []),.osl 2 0 ([[0]].length) 1,.rsl 2 (List.map Pair.c []),.osl 3 0 f.length 3]),(3,.row 68 3 (List.map Runner.c f))]) (fun _=>rfl) ?_ (fun env H s=>?_)
 ·refine G0 1 Z ?_
  refine Lp [0,3,2,0] [2,3,10,11] (fun b=>[(12,I b.2)]) (fun b=>[(1,.cells 29 [.rsl 3 (List.map Segment.c []),.osl 2 0 ([[0]].length) 1,.rsl 2 (List.map Pair.c []),.osl 3 0 b.1.length 3]),(3,.row 68 3 (List.map Runner.c b.1))]) u (fun _=>rfl) ?_ ?_
  ·refine Le.trans (QX (i:=3) (m:=3) (t:=68) (k:=3) Z Z Z) ?_
   exact Lr [0,3,2,4]
  intro b w a g
  refine G0 6 Z (Yc Z a (fun j a=>?_) (fun j a=>?_))
  ·refine Gc 2 Z (Qj a ?_)
   obtain rfl:=Oj g a
   exact Gx 1 Z (QT (Lr [0,1,2,3]))
  refine Gc 7 Z (Bd a fun d l a=>Iz l Z (Go 13 Z ?_))
  refine vH (OpH.lit (xs:=[.tmp 23]) (es:=List.map Outcome.c [{Out:=false,Seg:=(-1),Lo:=d,Hi:=d:Outcome}]) QiR Z Z Z Z Z ⟨Z,trivial⟩ Z Z) ?_
  refine FE Z ?_
  refine WO.le (Yn [(24,_)] Z Z (Qjj.cons Z FzA.o Qjj.nil) (FzH.keep (FzH.keep (FzH.keep (FzH.keep (FzH.keep (QS _))))))) ?_
  refine vH (OpH.lit (xs:=[.tmp 24]) (es:=List.map (Yo 4 Outcome.c) [[{Out:=false,Seg:=(-1),Lo:=d,Hi:=d:Outcome}]]) el_66 Z Z Z Z Z ⟨Z,trivial⟩ Z Z) ?_
  refine FE Z (Go 1 Z ?_)
  refine WO.le (Yn [(25,_),(26,_)] Z Z (Qjj.cons Z FzA.o (Qjj.cons Z (FzA.agg (FzL.cons (FzA.refl _) (FzL.cons (FzA.refl _) (FzL.cons FzA.o (FzL.refl _))))) Qjj.nil)) (FzH.keep (FzH.keep (FzH.keep (FzH.keep (FzH.keep (FzH.keep (QS _)))))))) ?_
  refine vH (OpH.lit (xs:=[.tmp 26]) (es:=List.map Runner.c [{Bib:=IntKind.i64.wrap (b.2+1),Keys:=[],Worlds:=[[{Out:=false,Seg:=(-1),Lo:=d,Hi:=d:Outcome}]]:Runner}]) Qki Z Z Z Z Z ⟨Z,trivial⟩ Z Z) ?_
  refine FE Z (Bd a fun x p a=>?_)
  refine vH (QO (e:=Runner.c) p Qki runUnderlying27 (Yw (i:=6))) ?_
  exact FE Z (Go 9 Z (Qi a (Lr [0,1,2,7])))
 refine Gx 1 Z (TC.le s (Gc 7 Z ?_))
 obtain rfl:=Oi h
 exact Rx [2,3,0] [2] Z (QL Z (Qs isAgg29 sizeOf29 Z Z Z)) ⟨Z,Z⟩
def F_jz(n:Nat)(e:List Part)(f:Int)(rec10:(List Part)->Int->Option (Int×Int))(a:Int×Int×Int):Option (Ctl (Int×Int×Int) (Int×Int)):=
  (bif decide (a.2.2<(e.length:Int))then((idx e a.2.2).bind fun c=>((bif ((c.Parts.length:Int)==0)then some true else(bif (f==0)then some true else some (decide (256<a.2.1)))):Option Bool).bind fun g=>(bif g then some (a.1,a.2.1)else(rec10 c.Parts (IntKind.i64.wrap (f-1))).bind fun b=>some ((if a.1<IntKind.i64.wrap (b.1+1)then IntKind.i64.wrap (b.1+1)else a.1),IntKind.i64.wrap (a.2.1+b.2))):Option (Int×Int)).bind fun d=>some (.cont (d.1,d.2,IntKind.i64.wrap (a.2.2+1)))else some (.done (a.1,a.2.1)))
def B_ac(rec10:(List Part)->Int->Option (Int×Int))(n:Nat)(b:List Part)(c:Int):Option (Int×Int):=
  (iter (F_jz n b c rec10) n (0,(b.length:Int),0):Option (Int×Int)).bind fun a=>some (a.1,a.2)
theorem Qcn(rec10:(List Part)->Int->Option (Int×Int))(i:∀(j:List Part) (k:Int) (r:Int×Int),rec10 j k=some r->Csm prog 166 [.rsl 3 (List.map Part.enc j),I k] [] (fun r=>.tup [I r.1,I r.2]) r)(n:Nat)(j:List Part)(k:Int)(r:Int×Int)(h:B_ac rec10 n j k=some r):
    Csm prog 166 [.rsl 3 (List.map Part.enc j),I k] [] (fun r=>.tup [I r.1,I r.2]) r:=by
 refine Qa func166 Z Z Z ?_
 refine G0 9 Z (Lm Z (Go 7 Z (Lm Z (Go 3 Z (Bd h fun f x h=>?_)))))
 refine Ct f [] [] (fun f=>[(4,I f.1),(5,I f.2)]) (fun _=>[]) (fun _=>rfl) ?_ (fun env H e=>?_)
 ·refine G0 1 Z ?_
  refine Lp [] [1,12,13] (fun d=>[(4,I d.1),(5,I d.2.1),(14,I d.2.2)]) (fun _=>[]) x (fun _=>rfl) (Lr []) fun d B c p=>?_
  refine G0 6 Z (Yc Z c (fun q c=>?_) (fun q c=>?_))
  ·refine Gc 2 Z (Qj c ?_)
   obtain rfl:=Oj p c
   exact Gx 1 Z (QT (Lr []))
  refine Gc 3 Z (Bd c fun g a c=>?_)
  refine Ct g [] [1,12,13,14] (fun g=>[(4,I g.1),(5,I g.2)]) (fun _=>[]) (fun _=>rfl) ?_ (fun env H e=>?_)
  ·refine G0 3 Z (Bd a fun y s a=>IzE s (Qbp y) Z (Go 7 Z (Bd a fun l b a=>?_)))
   refine Ct l [0] [1,4,5,7,12,13,14] (fun l=>[(29,.bool l)]) (fun _=>[]) (fun _=>rfl) ?_ (fun env H e=>?_)
   ·refine G0 3 Z (Lm Z (Go 2 Z (Is 22 b Z (fun t b=>?_) (fun t b=>?_))))
    ·exact Go 8 Z (Cl b [0])
    ·refine Go 4 Z (Is 26 b Z (fun u b=>?_) (fun u b=>?_))
     ·exact Go 4 Z (Cl b [0])
     ·exact Go 4 Z (Cl b [0])
   refine Gx 1 Z (TC.le e (Cn Z a (fun w a=>?_) (fun w a=>?_)))
   ·exact Gc 3 Z (Cl a [])
   refine Gc 8 Z (Cd [] a (i _ _) Z fun m z a=>FE Z (Go 11 Z ?_))
   refine vX (I (if d.1<IntKind.i64.wrap (m.1+1)then IntKind.i64.wrap (m.1+1)else d.1)) (OpV.max Z Z Z Z) ?_
   exact Go 7 Z (Cl a [])
  exact Gx 1 Z (TC.le e (Gc 4 Z (Qi c (Lr []))))
 refine Gx 1 Z (TC.le e (Gc 9 Z ?_))
 obtain rfl:=Oi h
 exact R2 4 5 Z Z (Lr [])
def F_ac:Nat->(List Part)->Int->Option (Int×Int)
  |0=>fun _ _=>none
  |n+1=>B_ac (F_ac n) n
theorem k_ac(n:Nat):∀(a:List Part) (b:Int) (r:Int×Int),F_ac n a b=some r->Csm prog 166 [.rsl 3 (List.map Part.enc a),I b] [] (fun r=>.tup [I r.1,I r.2]) r:=by
  induction n with
  |zero=>intro a b r h;cases h
  |succ n ih=>intro a b r h;exact Qcn _ ih n a b r h
def F_kg(n:Nat)(d:Course)(a:Int):Option (Ctl Int (Ctl Unit Bool)):=
  (bif decide (a<(d.Distances.length:Int))then(idx d.Distances a).bind fun b=>(F_ac n b.Route 17).bind fun c=>((bif decide (64<(b.Cutoffs.length:Int))then some true else(bif decide (16<c.1)then some true else some (decide (256<c.2)))):Option Bool).bind fun e=>(bif e then some (.done (.done false))else some (.cont (IntKind.i64.wrap (a+1))))else some (.done (.cont ())))
def F_du(n:Nat)(a:Course):Option Bool:=
  ((bif decide (40<(a.Mats.length:Int))then some true else(bif decide (512<(a.Legs.length:Int))then some true else(bif decide (8<(a.Distances.length:Int))then some true else(bif decide (32<(a.Waves.length:Int))then some true else(bif decide (32<(a.Offences.length:Int))then some true else(bif decide (32<(a.Categories.length:Int))then some true else some (decide (32<(a.Prizes.length:Int))))))))):Option Bool).bind fun d=>(bif d then some false else(iter (F_kg n a) n 0:Option (Ctl Unit Bool)).bind fun c=>match c with|.cont b=>(some true)|.done b=>some b)
theorem k_du(n:Nat)(B:Course)(r:Bool)(h:F_du n B=some r):
    Csm prog 112 [.agg (Course.c B)] [] (fun r=>.bool r) r:=by
 refine Qa func112 Z Z Z ?_
 refine G0 8 Z (Bd h fun k d h=>?_)
 refine Ct k [0] [1] (fun k=>[(46,.bool k)]) (fun _=>[]) (fun _=>rfl) ?_ (fun env H f=>?_)
 ·refine G0 3 Z (Lm Z (Go 2 Z (Is 11 d Z (fun E d=>?_) (fun E d=>?_))))
  ·exact Go 36 Z (Cl d [0])
  ·refine Go 2 Z (Lm Z (Go 3 Z (Is 17 d Z (fun l d=>?_) (fun l d=>?_))))
   ·exact Go 30 Z (Cl d [0])
   ·refine Go 2 Z (Lm Z (Go 3 Z (Is 23 d Z (fun m d=>?_) (fun m d=>?_))))
    ·exact Go 24 Z (Cl d [0])
    ·refine Go 2 Z (Lm Z (Go 3 Z (Is 29 d Z (fun p d=>?_) (fun p d=>?_))))
     ·exact Go 18 Z (Cl d [0])
     ·refine Go 2 Z (Lm Z (Go 3 Z (Is 35 d Z (fun q d=>?_) (fun q d=>?_))))
      ·exact Go 12 Z (Cl d [0])
      ·refine Go 2 Z (Lm Z (Go 3 Z (Is 41 d Z (fun s d=>?_) (fun s d=>?_))))
       ·exact Go 6 Z (Cl d [0])
       ·exact Go 2 Z (Lm Z (Go 3 Z (Cl d [0])))
 refine Gx 1 Z (TC.le f (Cn Z h (fun t h=>?_) (fun t h=>?_)))
 ·exact Gc 7 Z (Rt h 2 [])
 refine Gc 7 Z (Lm Z (Go 3 Z (Bd h fun F G h=>?_)))
 refine YS (b:=F) [] [] (fun _=>[]) (fun _=>[]) (fun _=>rfl) ?_ (fun L env H J f=>?_)
 ·refine G0 1 Z ?_
  refine Lp [] [48,49] (fun j=>[(50,I j)]) (fun _=>[]) G (fun _=>rfl) (Lr []) fun j N a g=>?_
  refine G0 6 Z (Yc Z a (fun u a=>?_) (fun u a=>?_))
  ·refine Gc 2 Z (Qj a ?_)
   obtain rfl:=Oj g a
   exact Gx 1 Z (Qm Z (Lr []))
  refine Gc 6 Z (Bd a fun O w a=>Iz w Z (Go 9 Z (Cd [] a (k_ac _ _ _) Z fun P M a=>FE Z (Go 8 Z (Bd a fun i e a=>?_)))))
  refine Ct i [] [48,49,50] (fun i=>[(71,.bool i)]) (fun _=>[]) (fun _=>rfl) ?_ (fun env H f=>?_)
  ·refine G0 3 Z (Lm Z (Go 2 Z (Is 64 e Z (fun x e=>?_) (fun x e=>?_))))
   ·exact Go 8 Z (Cl e [])
   ·refine Go 4 Z (Is 68 e Z (fun y e=>?_) (fun y e=>?_))
    ·exact Go 4 Z (Cl e [])
    ·exact Go 4 Z (Cl e [])
  refine Gx 1 Z (TC.le f (Cn Z a (fun z a=>?_) (fun z a=>?_)))
  ·refine Gc 8 Z (Ql a ?_)
   obtain rfl:=Oj g a
   exact Gx 1 Z (Qk (Gx 1 Z (Rt h 2 [])))
  exact Gc 7 Z (Qi a (Lr []))
 subst J
 exact Gx 1 Z (TC.le f (Gc 6 Z (Rt h 2 [])))
def F_ks(n:Nat)(a:(List Int)×Int):Option (Ctl ((List Int)×Int) (List Int)):=
  (bif decide (a.2<=122)then(QcL 256 a.1 a.2).bind fun d=>(Qet a.1 a.2 2).bind fun b=>(QcL 256 b (IntKind.u8.wrap (a.2-32))).bind fun e=>(Qet b (IntKind.u8.wrap (a.2-32)) 2).bind fun c=>some (.cont (c,IntKind.u8.wrap (a.2+1)))else some (.done a.1))
def F_lo(n:Nat)(a:(List Int)×Int):Option (Ctl ((List Int)×Int) (List Int)):=
  (bif decide (a.2<=57)then(QcL 256 a.1 a.2).bind fun c=>(Qet a.1 a.2 3).bind fun b=>some (.cont (b,IntKind.u8.wrap (a.2+1)))else some (.done a.1))
def F_jj(n:Nat)(a:(List Int)×Int):Option (Ctl ((List Int)×Int) (List Int)):=
  (bif decide (a.2<([123,125,40,41,91,93,59,44,61,60,62].length:Int))then(idx [123,125,40,41,91,93,59,44,61,60,62] a.2).bind fun b=>(QcL 256 a.1 b).bind fun d=>(Qet a.1 b 4).bind fun c=>some (.cont (c,IntKind.i64.wrap (a.2+1)))else some (.done a.1))
def F_lr(n:Nat)(a:(List Int)×Int):Option (Ctl ((List Int)×Int) (List Int)):=
  (bif decide (a.2<(([32,9,10,13].length):Int))then(idx [32,9,10,13] a.2).bind fun b=>(QcL 256 a.1 b).bind fun d=>(Qet a.1 b 1).bind fun c=>some (.cont (c,IntKind.i64.wrap (a.2+1)))else some (.done a.1))
def F_gi(n:Nat):Option (List Int):=
  (iter (F_ks n) n (List.replicate 256 0,97):Option (List Int)).bind fun b=>(iter (F_lo n) n (b,48):Option (List Int)).bind fun c=>(iter (F_jj n) n (c,0):Option (List Int)).bind fun d=>(iter (F_lr n) n (d,0):Option (List Int)).bind fun a=>(arr 256 a).bind fun e=>(arr 256 a).bind fun g=>(arr 256 e).bind fun f=>some f
theorem k_gi(n:Nat)(r:List Int)(h:F_gi n=some r):
    C prog 291 [] [] (RQ (fun r=>.agg (List.flatten (List.map (Qd .u8) r))) (fun r=>[.row 353 1 (List.map (Qd .u8) r)]) r):=by
 refine Qa func291 Z Z Z ?_
 refine G0 2 Z ?_
 refine vH (Qa4 (n:=256) (k:=1) (e:=(Qd .u8)) (z:=0) zeroValue353 (by kernel_rfl) (by kernel_rfl) (by kernel_rfl) Z) ?_
 refine FE Z (Go 8 Z (Bd h fun t af h=>?_))
 refine Ct t [0] [0] (fun _=>[]) (fun t=>[(0,.row 353 1 (List.map (Qd .u8) t))]) (fun _=>rfl) ?_ (fun env H g=>?_)
 ·refine G0 1 Z ?_
  refine Lp [0] [0] (fun i=>[(1,.int .u8 i.2)]) (fun i=>[(0,.row 353 1 (List.map (Qd .u8) i.1))]) af (fun _=>rfl) (Lr [0]) fun i an a M=>?_
  refine G0 7 Z (Yc Z a (fun N a=>?_) (fun N a=>?_))
  ·refine Gc 2 Z (Qj a ?_)
   obtain rfl:=Oj M a
   exact Gx 1 Z (QT (Lr [0]))
  refine Gc 8 Z (Bd a fun ao u a=>?_)
  refine vX (.ptr 0 (Int.toNat i.2*1)) (YG (n:=256) (k:=1) (l:=i.1) u runUnderlying353 sizeOf5 Z) ?_
  refine Bd a fun ag O a=>?_
  refine vU (QaF (e:=(Qd .u8)) (k:=1) (f:=0) (Qaj u).2 O sizeOf5 Z Z) ?_
  refine FE Z (Bd a fun aq w a=>?_)
  refine vX (.ptr 0 (Int.toNat (IntKind.u8.wrap (i.2-32))*1)) (YG (n:=256) (k:=1) (l:=ag) w runUnderlying353 sizeOf5 Z) ?_
  refine Bd a fun ar P a=>?_
  refine vU (QaF (e:=(Qd .u8)) (k:=1) (f:=0) (Qaj w).2 P sizeOf5 Z Z) ?_
  exact FE Z (Go 8 Z (Qi a (Lr [0])))
 refine Gx 1 Z (TC.le g (Gc 6 Z (Bd h fun x ah h=>?_)))
 refine Ct x [0] [0] (fun _=>[]) (fun x=>[(0,.row 353 1 (List.map (Qd .u8) x))]) (fun _=>rfl) ?_ (fun env H g=>?_)
 ·refine G0 1 Z ?_
  refine Lp [0] [0] (fun j=>[(2,.int .u8 j.2)]) (fun j=>[(0,.row 353 1 (List.map (Qd .u8) j.1))]) ah (fun _=>rfl) (Lr [0]) fun j au d Q=>?_
  refine G0 7 Z (Yc Z d (fun R d=>?_) (fun R d=>?_))
  ·refine Gc 2 Z (Qj d ?_)
   obtain rfl:=Oj Q d
   exact Gx 1 Z (QT (Lr [0]))
  refine Gc 6 Z (Bd d fun av y d=>?_)
  refine vX (.ptr 0 (Int.toNat j.2*1)) (YG (n:=256) (k:=1) (l:=j.1) y runUnderlying353 sizeOf5 Z) ?_
  refine Bd d fun aw T d=>?_
  refine vU (QaF (e:=(Qd .u8)) (k:=1) (f:=0) (Qaj y).2 T sizeOf5 Z Z) ?_
  exact FE Z (Go 8 Z (Qi d (Lr [0])))
 refine Gx 1 Z (TC.le g (Gc 3 Z ?_))
 refine vH (OpH.lit (xs:=[.const (.int .u8 123),.const (.int .u8 125),.const (.int .u8 40),.const (.int .u8 41),.const (.int .u8 91),.const (.int .u8 93),.const (.int .u8 59),.const (.int .u8 44),.const (.int .u8 61),.const (.int .u8 60),.const (.int .u8 62)]) (es:=List.map (Qd .u8) [123,125,40,41,91,93,59,44,61,60,62]) QiS Z Z Z Z Z ⟨Z,Z,Z,Z,Z,Z,Z,Z,Z,Z,Z,trivial⟩ Z Z) ?_
 refine FE Z ?_
 refine vH (QhJ (es:=List.map (Qd .u8) [123,125,40,41,91,93,59,44,61,60,62]) underlying357 underlying5 (List.length_map ..) Z) ?_
 refine FE Z (Lm Z (Go 3 Z (Bd h fun B ai h=>?_)))
 refine Ct B [0] [0] (fun _=>[]) (fun B=>[(0,.row 353 1 (List.map (Qd .u8) B))]) (fun _=>rfl) ?_ (fun env H g=>?_)
 ·refine G0 1 Z ?_
  refine Lp [0] [0,23,24] (fun p=>[(25,I p.2)]) (fun p=>[(0,.row 353 1 (List.map (Qd .u8) p.1))]) ai (fun _=>rfl) (Lr [0]) fun p ax b V=>?_
  refine G0 6 Z (Yc Z b (fun W b=>?_) (fun W b=>?_))
  ·refine Gc 2 Z (Qj b ?_)
   obtain rfl:=Oj V b
   exact Gx 1 Z (QT (Lr [0]))
  refine Gc 6 Z (Bd b fun aj X b=>Iz X Z (Go 6 Z (Bd b fun ay E b=>?_)))
  refine vX (.ptr 0 (Int.toNat aj*1)) (YG (n:=256) (k:=1) (l:=p.1) E runUnderlying353 sizeOf5 Z) ?_
  refine Bd b fun az Y b=>?_
  refine vU (QaF (e:=(Qd .u8)) (k:=1) (f:=0) (Qaj E).2 Y sizeOf5 Z Z) ?_
  exact FE Z (Go 7 Z (Qi b (Lr [0])))
 refine Gx 1 Z (TC.le g (Gc 3 Z ?_))
 refine vH (OpH.lit (xs:=[.const (.int .u8 32),.const (.int .u8 9),.const (.int .u8 10),.const (.int .u8 13)]) (es:=List.map (Qd .u8) [32,9,10,13]) QiS Z Z Z Z Z ⟨Z,Z,Z,Z,trivial⟩ Z Z) ?_
 refine FE Z (Go 4 Z (Bd h fun s ak h=>?_))
 refine Ct s [0] [0] (fun _=>[]) (fun s=>[(0,.row 353 1 (List.map (Qd .u8) s))]) (fun _=>rfl) ?_ (fun env H g=>?_)
 ·refine G0 1 Z ?_
  refine Lp [0,1] [0,32,33] (fun m=>[(34,I m.2)]) (fun m=>[(0,.row 353 1 (List.map (Qd .u8) m.1))]) ak (fun _=>rfl) (Lr [0,1]) fun m ba c aa=>?_
  refine G0 6 Z (Yc Z c (fun ab c=>?_) (fun ab c=>?_))
  ·refine Gc 2 Z (Qj c ?_)
   obtain rfl:=Oj aa c
   exact Gx 1 Z (QT (Lr [0]))
  refine Gc 6 Z (Bd c fun L F c=>?_)
  refine vX (.ptr 1 (Int.toNat m.2*1)) (Yp F Z runUnderlying357 sizeOf5) ?_
  refine vX (.int .u8 L) (OpV.load Z isAgg5 Z (QJ F)) ?_
  refine Go 5 Z (Bd c fun bb G c=>?_)
  refine vX (.ptr 0 (Int.toNat L*1)) (YG (n:=256) (k:=1) (l:=m.1) G runUnderlying353 sizeOf5 Z) ?_
  refine Bd c fun bc ac c=>?_
  refine vU (QaF (e:=(Qd .u8)) (k:=1) (f:=0) (Qaj G).2 ac sizeOf5 Z Z) ?_
  exact FE Z (Go 7 Z (Qi c (Lr [0,1])))
 refine Gx 1 Z (TC.le g (Gc 2 Z (Bd h fun al ad h=>?_)))
 refine vX (.agg (List.flatten (List.map (Qd .u8) al))) (QfC (e:=(Qd .u8)) ad (fun _=>rfl) Z isAgg353 sizeOf353) ?_
 refine Bd h fun bd ae h=>Bd h fun am q h=>?_
 obtain⟨J,rfl⟩:=Qbm ae
 refine vU (Qce (e:=(Qd .u8)) (l:=s) (l':=am) J (QeL q) (fun _=>rfl) Z sizeOf353 (fun _=>rfl) (fun _=>rfl) (congrArg (fun l=>List.flatten (List.map (Qd .u8) l)) (Qbm q).2.symm)) ?_
 refine FE Z (Go 3 Z ?_)
 obtain rfl:=Oi h
 exact Rx [0] [0] Z (QL Z (Qhu (e:=(Qd .u8)) (QeL q) (fun _=>rfl) Z isAgg353 sizeOf353)) ⟨Z,Z⟩
def F_lc(n:Nat)(c:List UInt8)(g:List Int)(a:Int):Option (Ctl Int (Ctl Unit Bool)):=
  (bif decide (a<(c.length:Int))then(idx c a).bind fun d=>(QcL 256 g (d.toNat:Int)).bind fun b=>((bif (b != 2)then(bif (a==0)then some true else(bif (b != 3)then(idx c a).bind fun e=>some ((e.toNat:Int) != 95)else some false))else some false):Option Bool).bind fun f=>(bif f then some (.done (.done false))else some (.cont (IntKind.i64.wrap (a+1))))else some (.done (.cont ())))
def F_hi(n:Nat)(b:List UInt8):Option Bool:=
  (F_gi n).bind fun d=>(arr 256 (List.replicate 256 0)).bind fun f=>(arr 256 d).bind fun e=>(iter (F_lc n b e) n 0:Option (Ctl Unit Bool)).bind fun c=>match c with|.cont a=>(some (b != []))|.done a=>some a
theorem k_hi(n:Nat)(q:List UInt8)(r:Bool)(h:F_hi n q=some r):
    Csm prog 274 [.str q] [] (fun r=>.bool r) r:=by
 refine Qa func274 Z Z Z ?_
 refine G0 7 Z (Bd h fun G J h=>?_)
 refine Qu [] (OpC.fn call291 Z Z Z) (k_gi _ _ J) ?_
 rintro _ _ ⟨rfl,rfl⟩
 refine QkV (x:=(.agg (List.flatten (List.map (Qd .u8) G)))) (H:=[.row 353 1 (List.map (Qd .u8) G)]) (Qjx (e:=(Qd .u8)) (fun _=>rfl) _ _) Z ?_
 refine vH (Qa4 (n:=256) (k:=1) (e:=(Qd .u8)) (z:=0) zeroValue353 (by kernel_rfl) (by kernel_rfl) (by kernel_rfl) Z) ?_
 refine FE Z (Bd h fun W L h=>Bd h fun M j h=>?_)
 obtain⟨s,rfl⟩:=Qbm L
 refine vU (Qce (e:=(Qd .u8)) (l:=(List.replicate 256 0)) (l':=M) s (QeL j) (fun _=>rfl) Z sizeOf353 (fun _=>rfl) (fun _=>rfl) (congrArg (fun l=>List.flatten (List.map (Qd .u8) l)) (Qbm j).2.symm)) ?_
 refine FE Z (Go 6 Z ?_)
 refine vX (I (q.length:Int)) (Qa3 Z Z runUnderlying9 Z) ?_
 refine Go 3 Z (Bd h fun N O h=>?_)
 refine YS (b:=N) [] [0] (fun _=>[]) (fun _=>[]) (fun _=>rfl) ?_ (fun T env H P d=>?_)
 ·refine G0 1 Z ?_
  refine Lp [1] [0,3,8] (fun m=>[(9,I m)]) (fun _=>[]) O (fun _=>rfl) (Lr [1]) fun m V a f=>?_
  refine G0 6 Z (Yc Z a (fun t a=>?_) (fun t a=>?_))
  ·refine Gc 2 Z (Qj a ?_)
   obtain rfl:=Oj f a
   exact Gx 1 Z (Qm Z (Lr []))
  refine Gc 14 Z (Bd a fun p u a=>?_)
  refine vX (.int .u8 (p.toNat:Int)) (QaE u runUnderlying9) ?_
  refine Bd a fun Q g a=>?_
  refine vX (.ptr 0 (Int.toNat (p.toNat:Int)*1)) (YG (n:=256) (k:=1) (l:=M) g runUnderlying353 sizeOf5 Z) ?_
  refine vX (.int .u8 Q) (OpV.load Z isAgg5 Z (QJ (Qaj g).2)) ?_
  refine Go 4 Z (Bd a fun i c a=>?_)
  refine Ct i [0] [0,3,8,9] (fun i=>[(32,.bool i)]) (fun _=>[]) (fun _=>rfl) ?_ (fun env H d=>?_)
  ·refine G0 4 Z (Is 19 c Z (fun w c=>?_) (fun w c=>?_))
   ·refine Go 3 Z (Is 22 c Z (fun y c=>?_) (fun y c=>?_))
    ·exact Go 11 Z (Cl c [0])
    ·refine Go 3 Z (Is 25 c Z (fun B c=>?_) (fun B c=>?_))
     ·refine Go 2 Z (Bd c fun R E c=>?_)
      refine vX (.int .u8 (R.toNat:Int)) (QaE E runUnderlying9) ?_ (gT Z)
      exact Go 5 Z (Cl c [0])
     ·exact Go 8 Z (Cl c [0])
   ·exact Go 14 Z (Cl c [0])
  refine Gx 1 Z (TC.le d (Cn Z a (fun F a=>?_) (fun F a=>?_)))
  ·refine Gc 8 Z (Ql a ?_)
   obtain rfl:=Oj f a
   exact Gx 1 Z (Qk (Gx 1 Z (Rt h 2 [])))
  exact Gc 7 Z (Qi a (Lr [0]))
 subst P
 exact Gx 1 Z (TC.le d (Gc 8 Z (Rt h 2 [])))
def F_ie(n:Nat)(a:List UInt8):Option Bool:=
  ((F_hi n a).bind fun e=>(bif e then(cat [32] a).bind fun b=>(cat b [32]).bind fun c=>(QfY [32,99,111,117,114,115,101,32,109,97,116,115,32,115,116,97,114,116,32,112,97,115,115,32,101,110,100,32,108,101,103,32,116,111,32,100,105,115,116,97,110,99,101,32,103,117,110,32,99,104,105,112,32,115,108,111,116,32,108,97,112,115,32,108,97,112,32,99,117,116,111,102,102,32,101,120,116,114,97,32,119,97,118,101,32,111,102,102,101,110,99,101,32,111,117,116,32,99,97,116,101,103,111,114,121,32,112,114,105,122,101,32,97,108,108,32,116,105,101,115,32,105,102,32,101,108,115,101,32,97,110,100,32,111,114,32,110,111,116,32,111,108,100,101,114,32,121,111,117,110,103,101,114,32,98,105,98,32,100,114,97,119,32,102,105,101,108,100,32,115,104,111,114,116,32,102,97,117,108,116,115,32,109,105,115,115,101,115,32,115,116,114,97,121,115,32,119,105,110,100,111,119,32,114,101,115,105,100,117,97,108,32,100,114,105,102,116,32,112,114,111,116,101,115,116,32,102,101,101,32,100,101,97,100,108,105,110,101,32] c).bind fun d=>some d else some false):Option Bool).bind fun f=>some f
theorem k_ie(n:Nat)(f:List UInt8)(r:Bool)(h:F_ie n f=some r):
    Csm prog 235 [.str f] [] (fun r=>.bool r) r:=by
 refine Qa func235 Z Z Z ?_
 refine G0 6 Z (Bd h fun b a h=>?_)
 refine Ct b [] [] (fun b=>[(2,.bool b)]) (fun _=>[]) (fun _=>rfl) ?_ (fun env H g=>?_)
 ·refine G0 2 Z (Cz [] a (k_hi _ _) Z fun p l a=>Go 1 Z (Is 5 a Z (fun i a=>?_) (fun i a=>?_)))
  ·refine Go 1 Z (Bd a fun j c a=>?_)
   refine vX (.str j) (QdA c) ?_ (gT Z)
   refine Bd a fun k d a=>?_
   refine vX (.str k) (QdA d) ?_ (gT Z)
   refine Bd a fun m e a=>?_
   refine Qu [] (OpC.fn call275 Z Z Z) (C.contains Qcp Z e) ?_ (hg:=(gT Z))
   rintro _ _ ⟨rfl,rfl⟩
   exact FE Z (Go 3 Z (Cl a []))
  ·exact Go 7 Z (Cl a [])
 exact Gx 1 Z (TC.le g (Gc 1 Z (Rt h 2 [])))
def F_kf(n:Nat)(c:List UInt8)(b:Int):Option (Ctl Int (Ctl Unit Bool)):=
  (bif decide (b<(c.length:Int))then(idx c b).bind fun a=>((bif decide ((a.toNat:Int)<97)then(bif decide ((a.toNat:Int)<48)then some ((a.toNat:Int) != 95)else(bif decide (57<(a.toNat:Int))then some ((a.toNat:Int) != 95)else some false))else(bif decide (122<(a.toNat:Int))then(bif decide ((a.toNat:Int)<48)then some ((a.toNat:Int) != 95)else(bif decide (57<(a.toNat:Int))then some ((a.toNat:Int) != 95)else some false))else some false)):Option Bool).bind fun d=>(bif d then some (.done (.done false))else some (.cont (IntKind.i64.wrap (b+1))))else some (.done (.cont ())))
def F_c(n:Nat)(a:List UInt8):Option Bool:=
  ((bif decide ((a.length:Int)<1)then some true else(bif decide (24<(a.length:Int))then some true else(idx a 0).bind fun c=>(bif decide ((c.toNat:Int)<97)then some true else(idx a 0).bind fun d=>some (decide (122<(d.toNat:Int)))))):Option Bool).bind fun g=>(bif g then some false else(iter (F_kf n a) n 0:Option (Ctl Unit Bool)).bind fun e=>match e with|.cont b=>((F_ie n a).bind fun f=>some (!f))|.done b=>some b)
theorem k_c(n:Nat)(f:List UInt8)(r:Bool)(h:F_c n f=some r):
    Csm prog 167 [.str f] [] (fun r=>.bool r) r:=by
 refine Qa func167 Z Z Z ?_
 refine G0 7 Z (Bd h fun k d h=>?_)
 refine Ct k [] [0] (fun k=>[(22,.bool k)]) (fun _=>[]) (fun _=>rfl) ?_ (fun env H e=>?_)
 ·refine G0 2 Z ?_
  refine vX (I (f.length:Int)) (Qa3 Z Z runUnderlying9 Z) ?_
  refine Go 2 Z (Is 8 d Z (fun F d=>?_) (fun F d=>?_))
  ·exact Go 15 Z (Cl d [])
  ·refine Go 1 Z ?_
   refine vX (I (f.length:Int)) (Qa3 Z Z runUnderlying9 Z) ?_ (gT Z)
   refine Go 3 Z (Is 13 d Z (fun G d=>?_) (fun G d=>?_))
   ·exact Go 10 Z (Cl d [])
   ·refine Go 1 Z (Bd d fun J l d=>?_)
    refine vX (.int .u8 (J.toNat:Int)) (QaE l runUnderlying9) ?_ (gT Z)
    refine Go 3 Z (Is 18 d Z (fun m d=>?_) (fun m d=>?_))
    ·exact Go 5 Z (Cl d [])
    ·refine Go 1 Z (Bd d fun L p d=>?_)
     refine vX (.int .u8 (L.toNat:Int)) (QaE p runUnderlying9) ?_ (gT Z)
     exact Go 3 Z (Cl d [])
 refine Gx 1 Z (TC.le e (Cn Z h (fun q h=>?_) (fun q h=>?_)))
 ·exact Gc 7 Z (Rt h 2 [])
 refine Gc 6 Z ?_
 refine vX (I (f.length:Int)) (Qa3 Z Z runUnderlying9 Z) ?_
 refine Go 3 Z (Bd h fun M N h=>?_)
 refine YS (b:=M) [] [0] (fun _=>[]) (fun _=>[]) (fun _=>rfl) ?_ (fun Q env H O e=>?_)
 ·refine G0 1 Z ?_
  refine Lp [] [0,24] (fun j=>[(25,I j)]) (fun _=>[]) N (fun _=>rfl) (Lr []) fun j T c g=>?_
  refine G0 6 Z (Yc Z c (fun s c=>?_) (fun s c=>?_))
  ·refine Gc 2 Z (Qj c ?_)
   obtain rfl:=Oj g c
   exact Gx 1 Z (Qm Z (Lr []))
  refine Gc 14 Z (Bd c fun P t c=>?_)
  refine vX (.int .u8 (P.toNat:Int)) (QaE t runUnderlying9) ?_
  refine Go 4 Z (Bd c fun i a c=>?_)
  refine Ct i [] [0,24,25] (fun i=>[(48,.bool i)]) (fun _=>[]) (fun _=>rfl) ?_ (fun env H e=>?_)
  ·refine G0 4 Z (Is 33 a Z (fun u a=>?_) (fun u a=>?_))
   ·refine Go 7 Z (Is 40 a Z (fun w a=>?_) (fun w a=>?_))
    ·exact Go 9 Z (Cl a [])
    ·refine Go 5 Z (Is 45 a Z (fun x a=>?_) (fun x a=>?_))
     ·exact Go 4 Z (Cl a [])
     ·exact Go 4 Z (Cl a [])
   ·refine Go 4 Z (Is 37 a Z (fun y a=>?_) (fun y a=>?_))
    ·refine Go 3 Z (Is 40 a Z (fun z a=>?_) (fun z a=>?_))
     ·exact Go 9 Z (Cl a [])
     ·refine Go 5 Z (Is 45 a Z (fun B a=>?_) (fun B a=>?_))
      ·exact Go 4 Z (Cl a [])
      ·exact Go 4 Z (Cl a [])
    ·exact Go 12 Z (Cl a [])
  refine Gx 1 Z (TC.le e (Cn Z c (fun E c=>?_) (fun E c=>?_)))
  ·refine Gc 8 Z (Ql c ?_)
   obtain rfl:=Oj g c
   exact Gx 1 Z (Qk (Gx 1 Z (Rt h 2 [])))
  exact Gc 7 Z (Qi c (Lr []))
 subst O
 exact Gx 1 Z (TC.le e (Gc 3 Z (Cz [] h (k_ie _ _) Z fun V R h=>Go 5 Z (Rt h 2 []))))
def F_hv(n:Nat)(a:Mat):Option Unit:=
  some ()
theorem k_hv(n:Nat)(a:Mat)(r:Unit)(h:F_hv n a=some r):
    Csm prog 169 [.agg (Mat.c a)] [] (fun _=>.str a.Name) r:=by
 refine Qa func169 Z Z Z ?_
 exact G0 14 Z (Rt h 2 [])
def F_lg(n:Nat)(c:List Mat)(a:(List (List UInt8×Bool))×Int):Option (Ctl ((List (List UInt8×Bool))×Int) (Ctl Unit Bool)):=
  (bif decide (a.2<(c.length:Int))then(idx c a.2).bind fun b=>(F_hv n b).bind fun h=>((F_c n b.Name).bind fun d=>(bif (!d)then some true else(some (Qae a.1 b.Name false)).bind fun e=>some e):Option Bool).bind fun f=>(bif f then some (.done (.done false))else(some (Qab a.1 b.Name true)).bind fun g=>some (.cont (g,IntKind.i64.wrap (a.2+1))))else some (.done (.cont ())))
def F_gb(n:Nat)(c:List Mat):Option Bool:=
  (iter (F_lg n c) n ([],0):Option (Ctl Unit Bool)).bind fun b=>match b with|.cont a=>(some true)|.done a=>some a
theorem k_gb(n:Nat)(w:List Mat)(r:Bool)(h:F_gb n w=some r):
    Csm prog 168 [.rsl 2 (List.map Mat.c w),.fn (.func 169) [] []] [] (fun r=>.bool r) r:=by
 refine Qa func168 Z Z Z ?_
 refine G0 7 Z ?_
 refine vH Yj ?_
 refine FE Z (Go 7 Z (Lm Z (Go 3 Z (Bd h fun x y h=>?_))))
 refine YS (b:=x) [] [] (fun _=>[]) (fun _=>[]) (fun _=>rfl) ?_ (fun E env H z f=>?_)
 ·refine G0 1 Z ?_
  refine Lp [0] [1,5,10,11] (fun e=>[(12,I e.2)]) (fun e=>[(0,.map (Qt A.str A.bool e.1))]) y (fun _=>rfl) (Lr [0]) fun e J a g=>?_
  refine G0 6 Z (Yc Z a (fun m a=>?_) (fun m a=>?_))
  ·refine Gc 2 Z (Qj a ?_)
   obtain rfl:=Oj g a
   exact Gx 1 Z (Qm Z (Lr []))
  refine Gc 6 Z (Bd a fun j p a=>Iz p Z (Go 9 Z (Cz [] a (k_hv _ _) Z fun L F a=>Go 5 Z (Bd a fun i d a=>?_))))
  refine Ct i [0] [1,5,8,10,11,12] (fun i=>[(26,.bool i)]) (fun _=>[]) (fun _=>rfl) ?_ (fun env H f=>?_)
  ·refine G0 2 Z (Cz [] d (k_c _ _) Z fun M G d=>Go 2 Z (Is 22 d Z (fun q d=>?_) (fun q d=>?_)))
   ·exact Go 5 Z (Cl d [0])
   ·refine Go 2 Z (Bd d fun B s d=>?_)
    refine vX (.bool B) (YC (ev:=A.bool) (z0:=false) (k:=j.Name) (l:=e.1) QbB s underlying309 zeroValue4 ZR.bool) ?_ (gT Z)
    exact Go 2 Z (Cl d [0])
  refine Gx 1 Z (TC.le f (Cn Z a (fun t a=>?_) (fun t a=>?_)))
  ·refine Gc 9 Z (Ql a ?_)
   obtain rfl:=Oj g a
   exact Gx 1 Z (Qk (Gx 1 Z (Rt h 4 [])))
  refine Gc 5 Z (Bd a fun N u a=>?_)
  refine vU (Yt (ev:=A.bool) (k:=j.Name) (v:=true) (l:=e.1) QbB u Z underlying309) ?_
  exact FE Z (Go 7 Z (Qi a (Lr [0])))
 subst z
 exact Gx 1 Z (TC.le f (Gc 6 Z (Rt h 4 [])))
def F_fp(n:Nat)(a:Distance):Option Unit:=
  some ()
theorem k_fp(n:Nat)(a:Distance)(r:Unit)(h:F_fp n a=some r):
    Csm prog 171 [.agg (Distance.c a)] [] (fun _=>.str a.Name) r:=by
 refine Qa func171 Z Z Z ?_
 exact G0 14 Z (Rt h 2 [])
def F_ki(n:Nat)(c:List Distance)(a:(List (List UInt8×Bool))×Int):Option (Ctl ((List (List UInt8×Bool))×Int) (Ctl Unit Bool)):=
  (bif decide (a.2<(c.length:Int))then(idx c a.2).bind fun b=>(F_fp n b).bind fun h=>((F_c n b.Name).bind fun d=>(bif (!d)then some true else(some (Qae a.1 b.Name false)).bind fun e=>some e):Option Bool).bind fun f=>(bif f then some (.done (.done false))else(some (Qab a.1 b.Name true)).bind fun g=>some (.cont (g,IntKind.i64.wrap (a.2+1))))else some (.done (.cont ())))
def F_ef(n:Nat)(c:List Distance):Option Bool:=
  (iter (F_ki n c) n ([],0):Option (Ctl Unit Bool)).bind fun b=>match b with|.cont a=>(some true)|.done a=>some a
theorem k_ef(n:Nat)(w:List Distance)(r:Bool)(h:F_ef n w=some r):
    Csm prog 170 [.rsl 5 (List.map Distance.c w),.fn (.func 171) [] []] [] (fun r=>.bool r) r:=by
 refine Qa func170 Z Z Z ?_
 refine G0 7 Z ?_
 refine vH Yj ?_
 refine FE Z (Go 7 Z (Lm Z (Go 3 Z (Bd h fun x y h=>?_))))
 refine YS (b:=x) [] [] (fun _=>[]) (fun _=>[]) (fun _=>rfl) ?_ (fun E env H z f=>?_)
 ·refine G0 1 Z ?_
  refine Lp [0] [1,5,10,11] (fun e=>[(12,I e.2)]) (fun e=>[(0,.map (Qt A.str A.bool e.1))]) y (fun _=>rfl) (Lr [0]) fun e J a g=>?_
  refine G0 6 Z (Yc Z a (fun m a=>?_) (fun m a=>?_))
  ·refine Gc 2 Z (Qj a ?_)
   obtain rfl:=Oj g a
   exact Gx 1 Z (Qm Z (Lr []))
  refine Gc 6 Z (Bd a fun j p a=>Iz p Z (Go 9 Z (Cz [] a (k_fp _ _) Z fun L F a=>Go 5 Z (Bd a fun i d a=>?_))))
  refine Ct i [0] [1,5,8,10,11,12] (fun i=>[(26,.bool i)]) (fun _=>[]) (fun _=>rfl) ?_ (fun env H f=>?_)
  ·refine G0 2 Z (Cz [] d (k_c _ _) Z fun M G d=>Go 2 Z (Is 22 d Z (fun q d=>?_) (fun q d=>?_)))
   ·exact Go 5 Z (Cl d [0])
   ·refine Go 2 Z (Bd d fun B s d=>?_)
    refine vX (.bool B) (YC (ev:=A.bool) (z0:=false) (k:=j.Name) (l:=e.1) QbB s underlying309 zeroValue4 ZR.bool) ?_ (gT Z)
    exact Go 2 Z (Cl d [0])
  refine Gx 1 Z (TC.le f (Cn Z a (fun t a=>?_) (fun t a=>?_)))
  ·refine Gc 9 Z (Ql a ?_)
   obtain rfl:=Oj g a
   exact Gx 1 Z (Qk (Gx 1 Z (Rt h 4 [])))
  refine Gc 5 Z (Bd a fun N u a=>?_)
  refine vU (Yt (ev:=A.bool) (k:=j.Name) (v:=true) (l:=e.1) QbB u Z underlying309) ?_
  exact FE Z (Go 7 Z (Qi a (Lr [0])))
 subst z
 exact Gx 1 Z (TC.le f (Gc 6 Z (Rt h 4 [])))
def F_fq(n:Nat)(a:Wave):Option Unit:=
  some ()
theorem k_fq(n:Nat)(a:Wave)(r:Unit)(h:F_fq n a=some r):
    Csm prog 173 [.agg (Wave.c a)] [] (fun _=>.str a.Name) r:=by
 refine Qa func173 Z Z Z ?_
 exact G0 14 Z (Rt h 2 [])
def F_lq(n:Nat)(c:List Wave)(a:(List (List UInt8×Bool))×Int):Option (Ctl ((List (List UInt8×Bool))×Int) (Ctl Unit Bool)):=
  (bif decide (a.2<(c.length:Int))then(idx c a.2).bind fun b=>(F_fq n b).bind fun h=>((F_c n b.Name).bind fun d=>(bif (!d)then some true else(some (Qae a.1 b.Name false)).bind fun e=>some e):Option Bool).bind fun f=>(bif f then some (.done (.done false))else(some (Qab a.1 b.Name true)).bind fun g=>some (.cont (g,IntKind.i64.wrap (a.2+1))))else some (.done (.cont ())))
def F_hh(n:Nat)(c:List Wave):Option Bool:=
  (iter (F_lq n c) n ([],0):Option (Ctl Unit Bool)).bind fun b=>match b with|.cont a=>(some true)|.done a=>some a
theorem k_hh(n:Nat)(w:List Wave)(r:Bool)(h:F_hh n w=some r):
    Csm prog 172 [.rsl 2 (List.map Wave.c w),.fn (.func 173) [] []] [] (fun r=>.bool r) r:=by
 refine Qa func172 Z Z Z ?_
 refine G0 7 Z ?_
 refine vH Yj ?_
 refine FE Z (Go 7 Z (Lm Z (Go 3 Z (Bd h fun x y h=>?_))))
 refine YS (b:=x) [] [] (fun _=>[]) (fun _=>[]) (fun _=>rfl) ?_ (fun E env H z f=>?_)
 ·refine G0 1 Z ?_
  refine Lp [0] [1,5,10,11] (fun e=>[(12,I e.2)]) (fun e=>[(0,.map (Qt A.str A.bool e.1))]) y (fun _=>rfl) (Lr [0]) fun e J a g=>?_
  refine G0 6 Z (Yc Z a (fun m a=>?_) (fun m a=>?_))
  ·refine Gc 2 Z (Qj a ?_)
   obtain rfl:=Oj g a
   exact Gx 1 Z (Qm Z (Lr []))
  refine Gc 6 Z (Bd a fun j p a=>Iz p Z (Go 9 Z (Cz [] a (k_fq _ _) Z fun L F a=>Go 5 Z (Bd a fun i d a=>?_))))
  refine Ct i [0] [1,5,8,10,11,12] (fun i=>[(26,.bool i)]) (fun _=>[]) (fun _=>rfl) ?_ (fun env H f=>?_)
  ·refine G0 2 Z (Cz [] d (k_c _ _) Z fun M G d=>Go 2 Z (Is 22 d Z (fun q d=>?_) (fun q d=>?_)))
   ·exact Go 5 Z (Cl d [0])
   ·refine Go 2 Z (Bd d fun B s d=>?_)
    refine vX (.bool B) (YC (ev:=A.bool) (z0:=false) (k:=j.Name) (l:=e.1) QbB s underlying309 zeroValue4 ZR.bool) ?_ (gT Z)
    exact Go 2 Z (Cl d [0])
  refine Gx 1 Z (TC.le f (Cn Z a (fun t a=>?_) (fun t a=>?_)))
  ·refine Gc 9 Z (Ql a ?_)
   obtain rfl:=Oj g a
   exact Gx 1 Z (Qk (Gx 1 Z (Rt h 4 [])))
  refine Gc 5 Z (Bd a fun N u a=>?_)
  refine vU (Yt (ev:=A.bool) (k:=j.Name) (v:=true) (l:=e.1) QbB u Z underlying309) ?_
  exact FE Z (Go 7 Z (Qi a (Lr [0])))
 subst z
 exact Gx 1 Z (TC.le f (Gc 6 Z (Rt h 4 [])))
def F_ea(n:Nat)(a:Offence):Option Unit:=
  some ()
theorem k_ea(n:Nat)(a:Offence)(r:Unit)(h:F_ea n a=some r):
    Csm prog 175 [.agg (Offence.c a)] [] (fun _=>.str a.Name) r:=by
 refine Qa func175 Z Z Z ?_
 exact G0 14 Z (Rt h 2 [])
def F_ls(n:Nat)(c:List Offence)(a:(List (List UInt8×Bool))×Int):Option (Ctl ((List (List UInt8×Bool))×Int) (Ctl Unit Bool)):=
  (bif decide (a.2<(c.length:Int))then(idx c a.2).bind fun b=>(F_ea n b).bind fun h=>((F_c n b.Name).bind fun d=>(bif (!d)then some true else(some (Qae a.1 b.Name false)).bind fun e=>some e):Option Bool).bind fun f=>(bif f then some (.done (.done false))else(some (Qab a.1 b.Name true)).bind fun g=>some (.cont (g,IntKind.i64.wrap (a.2+1))))else some (.done (.cont ())))
def F_fm(n:Nat)(c:List Offence):Option Bool:=
  (iter (F_ls n c) n ([],0):Option (Ctl Unit Bool)).bind fun b=>match b with|.cont a=>(some true)|.done a=>some a
theorem k_fm(n:Nat)(w:List Offence)(r:Bool)(h:F_fm n w=some r):
    Csm prog 174 [.rsl 4 (List.map Offence.c w),.fn (.func 175) [] []] [] (fun r=>.bool r) r:=by
 refine Qa func174 Z Z Z ?_
 refine G0 7 Z ?_
 refine vH Yj ?_
 refine FE Z (Go 7 Z (Lm Z (Go 3 Z (Bd h fun x y h=>?_))))
 refine YS (b:=x) [] [] (fun _=>[]) (fun _=>[]) (fun _=>rfl) ?_ (fun E env H z f=>?_)
 ·refine G0 1 Z ?_
  refine Lp [0] [1,5,10,11] (fun e=>[(12,I e.2)]) (fun e=>[(0,.map (Qt A.str A.bool e.1))]) y (fun _=>rfl) (Lr [0]) fun e J a g=>?_
  refine G0 6 Z (Yc Z a (fun m a=>?_) (fun m a=>?_))
  ·refine Gc 2 Z (Qj a ?_)
   obtain rfl:=Oj g a
   exact Gx 1 Z (Qm Z (Lr []))
  refine Gc 6 Z (Bd a fun j p a=>Iz p Z (Go 9 Z (Cz [] a (k_ea _ _) Z fun L F a=>Go 5 Z (Bd a fun i d a=>?_))))
  refine Ct i [0] [1,5,8,10,11,12] (fun i=>[(26,.bool i)]) (fun _=>[]) (fun _=>rfl) ?_ (fun env H f=>?_)
  ·refine G0 2 Z (Cz [] d (k_c _ _) Z fun M G d=>Go 2 Z (Is 22 d Z (fun q d=>?_) (fun q d=>?_)))
   ·exact Go 5 Z (Cl d [0])
   ·refine Go 2 Z (Bd d fun B s d=>?_)
    refine vX (.bool B) (YC (ev:=A.bool) (z0:=false) (k:=j.Name) (l:=e.1) QbB s underlying309 zeroValue4 ZR.bool) ?_ (gT Z)
    exact Go 2 Z (Cl d [0])
  refine Gx 1 Z (TC.le f (Cn Z a (fun t a=>?_) (fun t a=>?_)))
  ·refine Gc 9 Z (Ql a ?_)
   obtain rfl:=Oj g a
   exact Gx 1 Z (Qk (Gx 1 Z (Rt h 4 [])))
  refine Gc 5 Z (Bd a fun N u a=>?_)
  refine vU (Yt (ev:=A.bool) (k:=j.Name) (v:=true) (l:=e.1) QbB u Z underlying309) ?_
  exact FE Z (Go 7 Z (Qi a (Lr [0])))
 subst z
 exact Gx 1 Z (TC.le f (Gc 6 Z (Rt h 4 [])))
def F_hj(n:Nat)(a:Category):Option Unit:=
  some ()
theorem k_hj(n:Nat)(a:Category)(r:Unit)(h:F_hj n a=some r):
    Csm prog 177 [.agg (Category.c a)] [] (fun _=>.str a.Name) r:=by
 refine Qa func177 Z Z Z ?_
 exact G0 14 Z (Rt h 2 [])
def F_kd(n:Nat)(c:List Category)(a:(List (List UInt8×Bool))×Int):Option (Ctl ((List (List UInt8×Bool))×Int) (Ctl Unit Bool)):=
  (bif decide (a.2<(c.length:Int))then(idx c a.2).bind fun b=>(F_hj n b).bind fun h=>((F_c n b.Name).bind fun d=>(bif (!d)then some true else(some (Qae a.1 b.Name false)).bind fun e=>some e):Option Bool).bind fun f=>(bif f then some (.done (.done false))else(some (Qab a.1 b.Name true)).bind fun g=>some (.cont (g,IntKind.i64.wrap (a.2+1))))else some (.done (.cont ())))
def F_en(n:Nat)(c:List Category):Option Bool:=
  (iter (F_kd n c) n ([],0):Option (Ctl Unit Bool)).bind fun b=>match b with|.cont a=>(some true)|.done a=>some a
theorem k_en(n:Nat)(w:List Category)(r:Bool)(h:F_en n w=some r):
    Csm prog 176 [.rsl 3 (List.map Category.c w),.fn (.func 177) [] []] [] (fun r=>.bool r) r:=by
 refine Qa func176 Z Z Z ?_
 refine G0 7 Z ?_
 refine vH Yj ?_
 refine FE Z (Go 7 Z (Lm Z (Go 3 Z (Bd h fun x y h=>?_))))
 refine YS (b:=x) [] [] (fun _=>[]) (fun _=>[]) (fun _=>rfl) ?_ (fun E env H z f=>?_)
 ·refine G0 1 Z ?_
  refine Lp [0] [1,5,10,11] (fun e=>[(12,I e.2)]) (fun e=>[(0,.map (Qt A.str A.bool e.1))]) y (fun _=>rfl) (Lr [0]) fun e J a g=>?_
  refine G0 6 Z (Yc Z a (fun m a=>?_) (fun m a=>?_))
  ·refine Gc 2 Z (Qj a ?_)
   obtain rfl:=Oj g a
   exact Gx 1 Z (Qm Z (Lr []))
  refine Gc 6 Z (Bd a fun j p a=>Iz p Z (Go 9 Z (Cz [] a (k_hj _ _) Z fun L F a=>Go 5 Z (Bd a fun i d a=>?_))))
  refine Ct i [0] [1,5,8,10,11,12] (fun i=>[(26,.bool i)]) (fun _=>[]) (fun _=>rfl) ?_ (fun env H f=>?_)
  ·refine G0 2 Z (Cz [] d (k_c _ _) Z fun M G d=>Go 2 Z (Is 22 d Z (fun q d=>?_) (fun q d=>?_)))
   ·exact Go 5 Z (Cl d [0])
   ·refine Go 2 Z (Bd d fun B s d=>?_)
    refine vX (.bool B) (YC (ev:=A.bool) (z0:=false) (k:=j.Name) (l:=e.1) QbB s underlying309 zeroValue4 ZR.bool) ?_ (gT Z)
    exact Go 2 Z (Cl d [0])
  refine Gx 1 Z (TC.le f (Cn Z a (fun t a=>?_) (fun t a=>?_)))
  ·refine Gc 9 Z (Ql a ?_)
   obtain rfl:=Oj g a
   exact Gx 1 Z (Qk (Gx 1 Z (Rt h 4 [])))
  refine Gc 5 Z (Bd a fun N u a=>?_)
  refine vU (Yt (ev:=A.bool) (k:=j.Name) (v:=true) (l:=e.1) QbB u Z underlying309) ?_
  exact FE Z (Go 7 Z (Qi a (Lr [0])))
 subst z
 exact Gx 1 Z (TC.le f (Gc 6 Z (Rt h 4 [])))
def F_fh(n:Nat)(a:Course):Option Bool:=
  ((F_c n a.Name).bind fun b=>(bif b then(F_gb n a.Mats).bind fun c=>(bif c then(F_ef n a.Distances).bind fun d=>(bif d then(F_hh n a.Waves).bind fun e=>(bif e then(F_fm n a.Offences).bind fun f=>(bif f then(F_en n a.Categories).bind fun g=>some g else some false)else some false)else some false)else some false)else some false):Option Bool).bind fun h=>some h
theorem k_fh(n:Nat)(j:Course)(r:Bool)(h:F_fh n j=some r):
    Csm prog 113 [.agg (Course.c j)] [] (fun r=>.bool r) r:=by
 refine Qa func113 Z Z Z ?_
 refine G0 7 Z (Bd h fun b a h=>?_)
 refine Ct b [] [] (fun b=>[(2,.bool b)]) (fun _=>[]) (fun _=>rfl) ?_ (fun env H k=>?_)
 ·refine G0 3 Z (Cz [] a (k_c _ _) Z fun u l a=>Go 1 Z (Is 6 a Z (fun d a=>?_) (fun d a=>?_)))
  ·refine Go 2 Z (Cz [] a (k_gb _ _) Z fun w m a=>Go 2 Z (Is 11 a Z (fun e a=>?_) (fun e a=>?_)))
   ·refine Go 2 Z (Cz [] a (k_ef _ _) Z fun x p a=>Go 2 Z (Is 16 a Z (fun f a=>?_) (fun f a=>?_)))
    ·refine Go 2 Z (Cz [] a (k_hh _ _) Z fun y q a=>Go 2 Z (Is 21 a Z (fun g a=>?_) (fun g a=>?_)))
     ·refine Go 2 Z (Cz [] a (k_fm _ _) Z fun z s a=>Go 2 Z (Is 26 a Z (fun i a=>?_) (fun i a=>?_)))
      ·exact Go 2 Z (Cz [] a (k_en _ _) Z fun B t a=>Go 3 Z (Cl a []))
      ·exact Go 6 Z (Cl a [])
     ·exact Go 11 Z (Cl a [])
    ·exact Go 16 Z (Cl a [])
   ·exact Go 21 Z (Cl a [])
  ·exact Go 26 Z (Cl a [])
 exact Gx 1 Z (TC.le k (Gc 1 Z (Rt h 2 [])))
def F_dk(n:Nat)(a:Int)(b:Int)(c:Int):Option Bool:=
  ((bif decide (a<b)then some true else some (decide (c<a))):Option Bool).bind fun d=>some d
theorem k_dk(n:Nat)(c:Int)(d:Int)(e:Int)(r:Bool)(h:F_dk n c d e=some r):
    Csm prog 236 [I c,.ptr 0 0,.ptr 1 0] [.cells 3 [I d],.cells 3 [I e]] (fun r=>.bool r) r:=by
 refine Qa func236 Z Z Z ?_
 refine G0 6 Z (Bd h fun b a h=>?_)
 refine Ct b [0,1] [] (fun b=>[(4,.bool b)]) (fun _=>[]) (fun _=>rfl) ?_ (fun env H f=>?_)
 ·refine G0 5 Z (Is 8 a Z (fun g a=>?_) (fun g a=>?_))
  ·exact Go 6 Z (Cl a [0,1])
  ·exact Go 6 Z (Cl a [0,1])
 exact Gx 1 Z (TC.le f (Gc 1 Z (Rt h 4 [0,1])))
def F_kw(n:Nat)(b:List Int)(e:Int)(f:Int)(a:Int):Option (Ctl Int (Ctl Unit Int)):=
  (bif decide (a<(b.length:Int))then(idx b a).bind fun c=>(F_dk n c e f).bind fun d=>(bif d then some (.done (.done a))else some (.cont (IntKind.i64.wrap (a+1))))else some (.done (.cont ())))
def F_hy(n:Nat)(c:List Int)(d:Int)(e:Int):Option Int:=
  (iter (F_kw n c d e) n 0:Option (Ctl Unit Int)).bind fun b=>match b with|.cont a=>(some (-1))|.done a=>some a
theorem k_hy(n:Nat)(c:List Int)(a:Int)(b:Int)(r:Int)(h:F_hy n c a b=some r):
    Csm prog 226 [.rsl 1 (List.map (Qd .i64) c),.fn (.func 236) [] [.ptr 0 0,.ptr 1 0]] [.cells 3 [I a],.cells 3 [I b]] (fun r=>I r) r:=
 QE (el:=fun x=>I x) (g:=fun x=>F_dk n x a b) func226 Z Z Z runUnderlying32 sizeOf3 (fun _ _ _ _ d e=>OpV.load d isAgg3 e Pts.rp) call236 (fun _ _ h=>k_dk _ _ _ _ _ h) h
def F_gz(n:Nat)(a:List Int)(b:Int)(c:Int):Option Bool:=
  (F_hy n a b c).bind fun d=>some (decide (0<=d))
theorem k_gz(n:Nat)(a:List Int)(b:Int)(c:Int)(r:Bool)(h:F_gz n a b c=some r):
    Csm prog 147 [.rsl 1 (List.map (Qd .i64) a),.fn (.func 236) [] [.ptr 0 0,.ptr 1 0]] [.cells 3 [I b],.cells 3 [I c]] (fun r=>.bool r) r:=by
 refine Qa func147 Z Z Z ?_
 exact G0 9 Z (Cz [0,1] h (k_hy _ _ _ _) Z fun e d h=>Go 5 Z (Rt h 4 [0,1]))
def F_a(n:Nat)(a:Int)(b:Int)(c:List Int):Option Bool:=
  (F_gz n c a b).bind fun d=>some (!d)
theorem k_a(n:Nat)(a:Int)(b:Int)(c:List Int)(r:Bool)(h:F_a n a b c=some r):
    Csm prog 179 [I a,I b,.rsl 1 (List.map (Qd .i64) c)] [] (fun r=>.bool r) r:=by
 refine Qa func179 Z Z Z ?_
 exact G0 11 Z (Cz [0,1] h (k_gz _ _ _ _) Z fun e d h=>Go 5 Z (Rt h 6 []))
def F_gq(n:Nat)(a:Mat):Option Bool:=
  (F_a n 1 3 [a.Kind]).bind fun b=>some b
theorem k_gq(n:Nat)(a:Mat)(r:Bool)(h:F_gq n a=some r):
    Csm prog 188 [.agg (Mat.c a)] [] (fun r=>.bool r) r:=by
 refine Qa func188 Z Z Z ?_
 refine G0 10 Z ?_
 refine vH (OpH.lit (xs:=[.tmp 4]) (es:=List.map (Qd .i64) [a.Kind]) Qw Z Z Z Z Z ⟨Z,trivial⟩ Z Z) ?_
 exact FE Z (Cb h (k_a _ _ _ _) Z (ls (ls (lo ln))) fun d b h=>Go 4 Z (Rt h 2 []))
def F_dd(n:Nat)(a:Mat):Option Bool:=
  (F_gq n a).bind fun b=>some (!b)
theorem k_dd(n:Nat)(a:Mat)(r:Bool)(h:F_dd n a=some r):
    Csm prog 242 [.agg (Mat.c a),.ptr 0 0] [.cells 270 [.fn (.func 188) [] []]] (fun r=>.bool r) r:=by
 refine Qa func242 Z Z Z ?_
 exact G0 10 Z (Cz [] h (k_gq _ _) Z fun d b h=>Go 5 Z (Rt h 3 [0]))
def F_ju(n:Nat)(b:List Mat)(a:Int):Option (Ctl Int (Ctl Unit Int)):=
  (bif decide (a<(b.length:Int))then(idx b a).bind fun c=>(F_dd n c).bind fun d=>(bif d then some (.done (.done a))else some (.cont (IntKind.i64.wrap (a+1))))else some (.done (.cont ())))
def F_et(n:Nat)(c:List Mat):Option Int:=
  (iter (F_ju n c) n 0:Option (Ctl Unit Int)).bind fun b=>match b with|.cont a=>(some (-1))|.done a=>some a
theorem k_et(n:Nat)(a:List Mat)(r:Int)(h:F_et n a=some r):
    Csm prog 278 [.rsl 2 (List.map Mat.c a),.fn (.func 242) [] [.ptr 0 0]] [.cells 270 [.fn (.func 188) [] []]] (fun r=>I r) r:=
 QE (el:=fun x=>.agg (Mat.c x)) (g:=fun x=>F_dd n x) func278 Z Z Z runUnderlying38 sizeOf101 (fun _ _ _ _ b d=>QH b isAgg101 sizeOf101 d Pts.rp Z Z) call242 (fun _ _ h=>k_dd _ _ _ h) h
def F_ge(n:Nat)(a:List Mat):Option Bool:=
  (F_et n a).bind fun b=>some (decide (0<=b))
theorem k_ge(n:Nat)(a:List Mat)(r:Bool)(h:F_ge n a=some r):
    Csm prog 241 [.rsl 2 (List.map Mat.c a),.fn (.func 242) [] [.ptr 0 0]] [.cells 270 [.fn (.func 188) [] []]] (fun r=>.bool r) r:=by
 refine Qa func241 Z Z Z ?_
 exact G0 9 Z (Cz [0] h (k_et _ _) Z fun d b h=>Go 5 Z (Rt h 4 [0]))
def F_dz(n:Nat)(a:List Mat):Option Bool:=
  (F_ge n a).bind fun b=>some (!b)
theorem k_dz(n:Nat)(a:List Mat)(r:Bool)(h:F_dz n a=some r):
    Csm prog 187 [.rsl 2 (List.map Mat.c a),.fn (.func 188) [] []] [] (fun r=>.bool r) r:=by
 refine Qa func187 Z Z Z ?_
 exact G0 10 Z (Cz [0] h (k_ge _ _) Z fun d b h=>Go 5 Z (Rt h 4 []))
def F_hk(n:Nat)(a:Leg)(b:Int):Option Bool:=
  ((F_a n 0 b [a.From,a.To]).bind fun c=>(bif c then(F_a n 0 68719476736 [a.Min,a.Max]).bind fun d=>(bif d then some (decide (a.Min<=a.Max))else some false)else some false):Option Bool).bind fun e=>some e
theorem k_hk(n:Nat)(b:Leg)(f:Int)(r:Bool)(h:F_hk n b f=some r):
    Csm prog 184 [.agg (Leg.c b),.ptr 0 0] [.cells 3 [I f]] (fun r=>.bool r) r:=by
 refine Qa func184 Z Z Z ?_
 refine G0 7 Z (Bd h fun d a h=>?_)
 refine Ct d [0] [] (fun d=>[(3,.bool d)]) (fun _=>[]) (fun _=>rfl) ?_ (fun env H g=>?_)
 ·refine G0 6 Z ?_
  refine vH (OpH.lit (xs:=[.tmp 6,.tmp 8]) (es:=List.map (Qd .i64) [b.From,b.To]) Qw Z Z Z Z Z ⟨Z,Z,trivial⟩ Z Z) ?_
  refine FE Z (Cb a (k_a _ _ _ _) Z (ls (ls (lo ln))) fun l j a=>Go 1 Z (Is 11 a Z (fun i a=>?_) (fun i a=>?_)))
  ·refine Go 4 Z ?_
   refine vH (OpH.lit (xs:=[.tmp 13,.tmp 15]) (es:=List.map (Qd .i64) [b.Min,b.Max]) Qw Z Z Z Z Z ⟨Z,Z,trivial⟩ Z Z) ?_ (gT Z)
   refine FE Z (Cb a (k_a _ _ _ _) Z (ls (ls (lo ln))) fun m k a=>Go 2 Z (Is 19 a Z (fun e a=>?_) (fun e a=>?_)))
   ·exact Go 8 Z (Cl a [0])
   ·exact Go 8 Z (Cl a [0])
  ·exact Go 16 Z (Cl a [0])
 exact Gx 1 Z (TC.le g (Gc 1 Z (Rt h 3 [0])))
def F_dl(n:Nat)(a:Leg)(b:Int):Option Bool:=
  (F_hk n a b).bind fun c=>some (!c)
theorem k_dl(n:Nat)(a:Leg)(b:Int)(r:Bool)(h:F_dl n a b=some r):
    Csm prog 244 [.agg (Leg.c a),.ptr 0 0] [.cells 266 [.fn (.func 184) [] [.ptr 1 0]],.cells 3 [I b]] (fun r=>.bool r) r:=by
 refine Qa func244 Z Z Z ?_
 exact G0 10 Z (Cz [1] h (k_hk _ _ _) Z fun e d h=>Go 5 Z (Rt h 3 [0,1]))
def F_ll(n:Nat)(b:List Leg)(e:Int)(a:Int):Option (Ctl Int (Ctl Unit Int)):=
  (bif decide (a<(b.length:Int))then(idx b a).bind fun c=>(F_dl n c e).bind fun d=>(bif d then some (.done (.done a))else some (.cont (IntKind.i64.wrap (a+1))))else some (.done (.cont ())))
def F_gk(n:Nat)(c:List Leg)(d:Int):Option Int:=
  (iter (F_ll n c d) n 0:Option (Ctl Unit Int)).bind fun b=>match b with|.cont a=>(some (-1))|.done a=>some a
theorem k_gk(n:Nat)(b:List Leg)(a:Int)(r:Int)(h:F_gk n b a=some r):
    Csm prog 279 [.rsl 4 (List.map Leg.c b),.fn (.func 244) [] [.ptr 0 0]] [.cells 266 [.fn (.func 184) [] [.ptr 1 0]],.cells 3 [I a]] (fun r=>I r) r:=
 QE (el:=fun x=>.agg (Leg.c x)) (g:=fun x=>F_dl n x a) func279 Z Z Z runUnderlying39 sizeOf135 (fun _ _ _ _ d e=>QH d isAgg135 sizeOf135 e Pts.rp Z Z) call244 (fun _ _ h=>k_dl _ _ _ _ h) h
def F_dv(n:Nat)(a:List Leg)(b:Int):Option Bool:=
  (F_gk n a b).bind fun c=>some (decide (0<=c))
theorem k_dv(n:Nat)(a:List Leg)(b:Int)(r:Bool)(h:F_dv n a b=some r):
    Csm prog 243 [.rsl 4 (List.map Leg.c a),.fn (.func 244) [] [.ptr 0 0]] [.cells 266 [.fn (.func 184) [] [.ptr 1 0]],.cells 3 [I b]] (fun r=>.bool r) r:=by
 refine Qa func243 Z Z Z ?_
 exact G0 9 Z (Cz [0,1] h (k_gk _ _ _) Z fun e d h=>Go 5 Z (Rt h 4 [0,1]))
def F_il(n:Nat)(a:List Leg)(b:Int):Option Bool:=
  (F_dv n a b).bind fun c=>some (!c)
theorem k_il(n:Nat)(a:List Leg)(b:Int)(r:Bool)(h:F_il n a b=some r):
    Csm prog 189 [.rsl 4 (List.map Leg.c a),.fn (.func 184) [] [.ptr 0 0]] [.cells 3 [I b]] (fun r=>.bool r) r:=by
 refine Qa func189 Z Z Z ?_
 exact G0 10 Z (Cz [1,0] h (k_dv _ _ _) Z fun e d h=>Go 5 Z (Rt h 4 [0]))
def F_eu(n:Nat)(a:Leg):Option Unit:=
  some ()
theorem k_eu(n:Nat)(a:Leg)(r:Unit)(h:F_eu n a=some r):
    C prog 191 [.agg (Leg.c a)] [] (RQ (fun _=>.agg [I a.From,I a.To]) (fun _=>[.cells 209 [I a.From,I a.To]]) r):=by
 refine Qa func191 Z Z Z ?_
 refine G0 17 Z ?_
 obtain rfl:=Oi h
 exact Rx [1] [2] Z (QL Z (Qs isAgg209 sizeOf209 Z Z Z)) ⟨Z,Z⟩
def F_ko(n:Nat)(c:List Leg)(a:(List (typing_ends×Bool))×Int):Option (Ctl ((List (typing_ends×Bool))×Int) (List (typing_ends×Bool))):=
  (bif decide (a.2<(c.length:Int))then(idx c a.2).bind fun b=>(F_eu n b).bind fun e=>(some (Qab a.1 ({from_:=b.From,to_:=b.To:typing_ends}) true)).bind fun d=>some (.cont (d,IntKind.i64.wrap (a.2+1)))else some (.done a.1))
def F_ij(n:Nat)(a:List Leg):Option Bool:=
  (iter (F_ko n a) n ([],0):Option (List (typing_ends×Bool))).bind fun b=>some ((b.length:Int)==(a.length:Int))
theorem k_ij(n:Nat)(m:List Leg)(r:Bool)(h:F_ij n m=some r):
    Csm prog 190 [.rsl 4 (List.map Leg.c m),.fn (.func 191) [] []] [] (fun r=>.bool r) r:=by
 refine Qa func190 Z Z Z ?_
 refine G0 7 Z ?_
 refine vH Yj ?_
 refine FE Z (Go 7 Z (Lm Z (Go 3 Z (Bd h fun b p h=>?_))))
 refine Ct b [0] [0,5] (fun _=>[]) (fun b=>[(0,.map (Qt (fun x=>A.agg (typing_ends.c x)) A.bool b))]) (fun _=>rfl) ?_ (fun env H q=>?_)
 ·refine G0 1 Z ?_
  refine Lp [0] [0,1,5,9,10] (fun d=>[(11,I d.2)]) (fun d=>[(0,.map (Qt (fun x=>A.agg (typing_ends.c x)) A.bool d.1))]) p (fun _=>rfl) (Lr [0]) fun d t a f=>?_
  refine G0 6 Z (Yc Z a (fun g a=>?_) (fun g a=>?_))
  ·refine Gc 2 Z (Qj a ?_)
   obtain rfl:=Oj f a
   exact Gx 1 Z (QT (Lr [0]))
  refine Gc 6 Z (Bd a fun e i a=>Iz i Z (Go 9 Z (Cd [] a (k_eu _ _) Z fun u s a=>FE Z (Bd a fun w j a=>?_))))
  refine vU (Yt (ev:=A.bool) (k:=({from_:=e.From,to_:=e.To:typing_ends})) (v:=true) (l:=d.1) QcT j Z underlying207) ?_
  exact FE Z (Go 7 Z (Qi a (Lr [0])))
 refine Gx 1 Z (TC.le q (Gc 3 Z ?_))
 refine vX (I (b.length:Int)) (QdC (l:=b) underlying207 Z) ?_
 exact Go 1 Z (Lm Z (Go 5 Z (Rt h 4 [])))
def F_gp(rec48:(List Part)->Int->Option Bool)(n:Nat)(a:Part)(b:Int):Option Bool:=
  (bif (a.Laps==0)then((F_a n 0 b [a.Mat]).bind fun f=>(bif f then some ((a.Parts.length:Int)==0)else some false):Option Bool).bind fun g=>some g else((F_a n 1 64 [a.Laps]).bind fun c=>(bif c then(bif (a.Mat==0)then(bif decide (0<(a.Parts.length:Int))then(rec48 a.Parts b).bind fun d=>some d else some false)else some false)else some false):Option Bool).bind fun e=>some e)
theorem k_gp(rec48:(List Part)->Int->Option Bool)(e:∀(b:List Part) (f:Int) (r:Bool),rec48 b f=some r->Csm prog 180 [.rsl 3 (List.map Part.enc b),.fn (.func 178) [] [.ptr 0 0,.ptr 1 0]] [.cells 3 [I f],.cells 261 [.fn (.func 178) [] [.ptr 0 0,.ptr 1 0]]] (fun r=>.bool r) r)(n:Nat)(b:Part)(f:Int)(r:Bool)(h:F_gp rec48 n b f=some r):
    Csm prog 178 [.agg (Part.c b),.ptr 0 0,.ptr 1 0] [.cells 3 [I f],.cells 261 [.fn (.func 178) [] [.ptr 0 0,.ptr 1 0]]] (fun r=>.bool r) r:=by
 refine Qa func178 Z Z Z ?_
 refine G0 14 Z (Cn Z h (fun p h=>?_) (fun p h=>?_))
 ·refine Gc 1 Z (Bd h fun j d h=>?_)
  refine Ct j [0,1] [] (fun j=>[(4,.bool j)]) (fun _=>[]) (fun _=>rfl) ?_ (fun env H g=>?_)
  ·refine G0 4 Z ?_
   refine vH (OpH.lit (xs:=[.tmp 10]) (es:=List.map (Qd .i64) [b.Mat]) Qw Z Z Z Z Z ⟨Z,trivial⟩ Z Z) ?_
   refine FE Z (Cb d (k_a _ _ _ _) Z (ls (ls (lo ln))) fun y u d=>Go 1 Z (Is 13 d Z (fun q d=>?_) (fun q d=>?_)))
   ·exact Go 2 Z (Lm Z (Go 4 Z (Cl d [0,1])))
   ·exact Go 7 Z (Cl d [0,1])
  exact Gx 1 Z (TC.le g (Gc 2 Z (Rt h 4 [0,1])))
 refine Gc 3 Z (Bd h fun i a h=>?_)
 refine Ct i [0,1] [] (fun i=>[(4,.bool i)]) (fun _=>[]) (fun _=>rfl) ?_ (fun env H g=>?_)
 ·refine G0 3 Z ?_
  refine vH (OpH.lit (xs:=[.tmp 20]) (es:=List.map (Qd .i64) [b.Laps]) Qw Z Z Z Z Z ⟨Z,trivial⟩ Z Z) ?_
  refine FE Z (Cb a (k_a _ _ _ _) Z (ls (ls (lo ln))) fun w s a=>Go 1 Z (Is 23 a Z (fun k a=>?_) (fun k a=>?_)))
  ·refine Go 5 Z (Is 28 a Z (fun l a=>?_) (fun l a=>?_))
   ·refine Go 2 Z (Lm Z (Go 3 Z (Is 34 a Z (fun m a=>?_) (fun m a=>?_))))
    ·exact Go 3 Z (Cz [0,1] a (e _ _) Z fun x t a=>Go 3 Z (Cl a [0,1]))
    ·exact Go 7 Z (Cl a [0,1])
   ·exact Go 13 Z (Cl a [0,1])
  ·exact Go 18 Z (Cl a [0,1])
 exact Gx 1 Z (TC.le g (Gc 1 Z (Rt h 4 [0,1])))
def F_eg(rec48:(List Part)->Int->Option Bool)(n:Nat)(a:Part)(b:Int):Option Bool:=
  (F_gp rec48 n a b).bind fun c=>some (!c)
theorem k_eg(rec48:(List Part)->Int->Option Bool)(a:∀(b:List Part) (d:Int) (r:Bool),rec48 b d=some r->Csm prog 180 [.rsl 3 (List.map Part.enc b),.fn (.func 178) [] [.ptr 0 0,.ptr 1 0]] [.cells 3 [I d],.cells 261 [.fn (.func 178) [] [.ptr 0 0,.ptr 1 0]]] (fun r=>.bool r) r)(n:Nat)(b:Part)(d:Int)(r:Bool)(h:F_eg rec48 n b d=some r):
    Csm prog 238 [.agg (Part.c b),.ptr 0 0] [.cells 261 [.fn (.func 178) [] [.ptr 1 0,.ptr 2 0]],.cells 3 [I d],.cells 261 [.fn (.func 178) [] [.ptr 1 0,.ptr 2 0]]] (fun r=>.bool r) r:=by
 refine Qa func238 Z Z Z ?_
 exact G0 10 Z (Cz [1,2] h (k_gp rec48 a _ _ _) Z fun f e h=>Go 5 Z (Rt h 3 [0,1,2]))
def F_jl(n:Nat)(b:List Part)(e:Int)(rec48:(List Part)->Int->Option Bool)(a:Int):Option (Ctl Int (Ctl Unit Int)):=
  (bif decide (a<(b.length:Int))then(idx b a).bind fun c=>(F_eg rec48 n c e).bind fun d=>(bif d then some (.done (.done a))else some (.cont (IntKind.i64.wrap (a+1))))else some (.done (.cont ())))
def F_gu(rec48:(List Part)->Int->Option Bool)(n:Nat)(c:List Part)(d:Int):Option Int:=
  (iter (F_jl n c d rec48) n 0:Option (Ctl Unit Int)).bind fun b=>match b with|.cont a=>(some (-1))|.done a=>some a
theorem k_gu(rec48:(List Part)->Int->Option Bool)(c:∀(d:List Part) (e:Int) (r:Bool),rec48 d e=some r->Csm prog 180 [.rsl 3 (List.map Part.enc d),.fn (.func 178) [] [.ptr 0 0,.ptr 1 0]] [.cells 3 [I e],.cells 261 [.fn (.func 178) [] [.ptr 0 0,.ptr 1 0]]] (fun r=>.bool r) r)(n:Nat)(d:List Part)(e:Int)(r:Int)(h:F_gu rec48 n d e=some r):
    Csm prog 276 [.rsl 3 (List.map Part.enc d),.fn (.func 238) [] [.ptr 0 0]] [.cells 261 [.fn (.func 178) [] [.ptr 1 0,.ptr 2 0]],.cells 3 [I e],.cells 261 [.fn (.func 178) [] [.ptr 1 0,.ptr 2 0]]] (fun r=>I r) r:=by
 refine Qa func276 Z Z Z ?_
 refine G0 9 Z (Lm Z (Go 3 Z (Bd h fun l m h=>?_)))
 refine YS (b:=l) [0,1,2] [] (fun _=>[]) (fun _=>[]) (fun _=>rfl) ?_ (fun t env H p q=>?_)
 ·refine G0 1 Z ?_
  refine Lp [0,1,2] [0,1,7] (fun g=>[(8,I g)]) (fun _=>[]) m (fun _=>rfl) (Lr [0,1,2]) fun g w a f=>?_
  refine G0 6 Z (Yc Z a (fun i a=>?_) (fun i a=>?_))
  ·refine Gc 2 Z (Qj a ?_)
   obtain rfl:=Oj f a
   exact Gx 1 Z (Qm Z (Lr [0,1,2]))
  refine Gc 15 Z (Bd a fun s j a=>IzE j (Qbp s) Z (Go 1 Z (Cz [0,1,2] a (k_eg rec48 c _ _ _) Z fun x u a=>Go 2 Z (Cn Z a (fun k a=>?_) (fun k a=>?_)))))
  ·refine Gc 9 Z (Ql a ?_)
   obtain rfl:=Oj f a
   exact Gx 1 Z (Qk (Gx 1 Z (Rt h 4 [0,1,2])))
  exact Gc 7 Z (Qi a (Lr [0,1,2]))
 subst p
 exact Gx 1 Z (TC.le q (Gc 6 Z (Rt h 4 [0,1,2])))
def F_fe(rec48:(List Part)->Int->Option Bool)(n:Nat)(a:List Part)(b:Int):Option Bool:=
  (F_gu rec48 n a b).bind fun c=>some (decide (0<=c))
theorem k_fe(rec48:(List Part)->Int->Option Bool)(a:∀(b:List Part) (c:Int) (r:Bool),rec48 b c=some r->Csm prog 180 [.rsl 3 (List.map Part.enc b),.fn (.func 178) [] [.ptr 0 0,.ptr 1 0]] [.cells 3 [I c],.cells 261 [.fn (.func 178) [] [.ptr 0 0,.ptr 1 0]]] (fun r=>.bool r) r)(n:Nat)(b:List Part)(c:Int)(r:Bool)(h:F_fe rec48 n b c=some r):
    Csm prog 237 [.rsl 3 (List.map Part.enc b),.fn (.func 238) [] [.ptr 0 0]] [.cells 261 [.fn (.func 178) [] [.ptr 1 0,.ptr 2 0]],.cells 3 [I c],.cells 261 [.fn (.func 178) [] [.ptr 1 0,.ptr 2 0]]] (fun r=>.bool r) r:=by
 refine Qa func237 Z Z Z ?_
 exact G0 9 Z (Cz [0,1,2] h (k_gu rec48 a _ _ _) Z fun e d h=>Go 5 Z (Rt h 4 [0,1,2]))
def B_ad(rec48:(List Part)->Int->Option Bool)(n:Nat)(a:List Part)(b:Int):Option Bool:=
  (F_fe rec48 n a b).bind fun c=>some (!c)
theorem QbJ(rec48:(List Part)->Int->Option Bool)(a:∀(b:List Part) (c:Int) (r:Bool),rec48 b c=some r->Csm prog 180 [.rsl 3 (List.map Part.enc b),.fn (.func 178) [] [.ptr 0 0,.ptr 1 0]] [.cells 3 [I c],.cells 261 [.fn (.func 178) [] [.ptr 0 0,.ptr 1 0]]] (fun r=>.bool r) r)(n:Nat)(b:List Part)(c:Int)(r:Bool)(h:B_ad rec48 n b c=some r):
    Csm prog 180 [.rsl 3 (List.map Part.enc b),.fn (.func 178) [] [.ptr 0 0,.ptr 1 0]] [.cells 3 [I c],.cells 261 [.fn (.func 178) [] [.ptr 0 0,.ptr 1 0]]] (fun r=>.bool r) r:=by
 refine Qa func180 Z Z Z ?_
 exact G0 10 Z (Cz [2,0,1] h (k_fe rec48 a _ _ _) Z fun e d h=>Go 5 Z (Rt h 4 [0,1]))
def F_ad:Nat->(List Part)->Int->Option Bool
  |0=>fun _ _=>none
  |n+1=>B_ad (F_ad n) n
theorem k_ad(n:Nat):∀(a:List Part) (b:Int) (r:Bool),F_ad n a b=some r->Csm prog 180 [.rsl 3 (List.map Part.enc a),.fn (.func 178) [] [.ptr 0 0,.ptr 1 0]] [.cells 3 [I b],.cells 261 [.fn (.func 178) [] [.ptr 0 0,.ptr 1 0]]] (fun r=>.bool r) r:=by
  induction n with
  |zero=>intro a b r h;cases h
  |succ n ih=>intro a b r h;exact QbJ _ ih n a b r h
def F_eo(n:Nat)(a:Cutoff)(c:Int):Option Bool:=
  ((F_a n 0 c [a.Mat]).bind fun d=>(bif d then(bif decide (1<=a.Lap)then(F_a n 0 1099511627776 [a.Limit]).bind fun b=>some b else some false)else some false):Option Bool).bind fun e=>some e
theorem k_eo(n:Nat)(b:Cutoff)(e:Int)(r:Bool)(h:F_eo n b e=some r):
    Csm prog 181 [.agg (Cutoff.c b),.ptr 0 0] [.cells 3 [I e]] (fun r=>.bool r) r:=by
 refine Qa func181 Z Z Z ?_
 refine G0 7 Z (Bd h fun d a h=>?_)
 refine Ct d [0] [] (fun d=>[(3,.bool d)]) (fun _=>[]) (fun _=>rfl) ?_ (fun env H f=>?_)
 ·refine G0 4 Z ?_
  refine vH (OpH.lit (xs:=[.tmp 6]) (es:=List.map (Qd .i64) [b.Mat]) Qw Z Z Z Z Z ⟨Z,trivial⟩ Z Z) ?_
  refine FE Z (Cb a (k_a _ _ _ _) Z (ls (ls (lo ln))) fun m k a=>Go 1 Z (Is 9 a Z (fun g a=>?_) (fun g a=>?_)))
  ·refine Go 5 Z (Is 14 a Z (fun i a=>?_) (fun i a=>?_))
   ·refine Go 2 Z ?_
    refine vH (OpH.lit (xs:=[.tmp 16]) (es:=List.map (Qd .i64) [b.Limit]) Qw Z Z Z Z Z ⟨Z,trivial⟩ Z Z) ?_ (gT Z)
    exact FE Z (Cb a (k_a _ _ _ _) Z (ls (ls (lo ln))) fun l j a=>Go 3 Z (Cl a [0]))
   ·exact Go 7 Z (Cl a [0])
  ·exact Go 12 Z (Cl a [0])
 exact Gx 1 Z (TC.le f (Gc 1 Z (Rt h 3 [0])))
def F_dh(n:Nat)(a:Cutoff)(b:Int):Option Bool:=
  (F_eo n a b).bind fun c=>some (!c)
theorem k_dh(n:Nat)(a:Cutoff)(b:Int)(r:Bool)(h:F_dh n a b=some r):
    Csm prog 240 [.agg (Cutoff.c a),.ptr 0 0] [.cells 264 [.fn (.func 181) [] [.ptr 1 0]],.cells 3 [I b]] (fun r=>.bool r) r:=by
 refine Qa func240 Z Z Z ?_
 exact G0 10 Z (Cz [1] h (k_eo _ _ _) Z fun e d h=>Go 5 Z (Rt h 3 [0,1]))
def F_le(n:Nat)(b:List Cutoff)(e:Int)(a:Int):Option (Ctl Int (Ctl Unit Int)):=
  (bif decide (a<(b.length:Int))then(idx b a).bind fun c=>(F_dh n c e).bind fun d=>(bif d then some (.done (.done a))else some (.cont (IntKind.i64.wrap (a+1))))else some (.done (.cont ())))
def F_fi(n:Nat)(c:List Cutoff)(d:Int):Option Int:=
  (iter (F_le n c d) n 0:Option (Ctl Unit Int)).bind fun b=>match b with|.cont a=>(some (-1))|.done a=>some a
theorem k_fi(n:Nat)(b:List Cutoff)(a:Int)(r:Int)(h:F_fi n b a=some r):
    Csm prog 277 [.rsl 3 (List.map Cutoff.c b),.fn (.func 240) [] [.ptr 0 0]] [.cells 264 [.fn (.func 181) [] [.ptr 1 0]],.cells 3 [I a]] (fun r=>I r) r:=
 QE (el:=fun x=>.agg (Cutoff.c x)) (g:=fun x=>F_dh n x a) func277 Z Z Z runUnderlying97 sizeOf249 (fun _ _ _ _ d e=>QH d isAgg249 sizeOf249 e Pts.rp Z Z) call240 (fun _ _ h=>k_dh _ _ _ _ h) h
def F_hs(n:Nat)(a:List Cutoff)(b:Int):Option Bool:=
  (F_fi n a b).bind fun c=>some (decide (0<=c))
theorem k_hs(n:Nat)(a:List Cutoff)(b:Int)(r:Bool)(h:F_hs n a b=some r):
    Csm prog 239 [.rsl 3 (List.map Cutoff.c a),.fn (.func 240) [] [.ptr 0 0]] [.cells 264 [.fn (.func 181) [] [.ptr 1 0]],.cells 3 [I b]] (fun r=>.bool r) r:=by
 refine Qa func239 Z Z Z ?_
 exact G0 9 Z (Cz [0,1] h (k_fi _ _ _) Z fun e d h=>Go 5 Z (Rt h 4 [0,1]))
def F_hf(n:Nat)(a:List Cutoff)(b:Int):Option Bool:=
  (F_hs n a b).bind fun c=>some (!c)
theorem k_hf(n:Nat)(a:List Cutoff)(b:Int)(r:Bool)(h:F_hf n a b=some r):
    Csm prog 183 [.rsl 3 (List.map Cutoff.c a),.fn (.func 181) [] [.ptr 0 0]] [.cells 3 [I b]] (fun r=>.bool r) r:=by
 refine Qa func183 Z Z Z ?_
 exact G0 10 Z (Cz [1,0] h (k_hs _ _ _) Z fun e d h=>Go 5 Z (Rt h 4 [0]))
def F_ec(n:Nat)(a:Distance)(b:Int):Option Bool:=
  ((F_a n 1 3 [a.Timing]).bind fun c=>(bif c then(F_a n (-1) b [a.Extra]).bind fun d=>(bif d then(F_ad n a.Route b).bind fun e=>(bif e then(F_hf n a.Cutoffs b).bind fun f=>some f else some false)else some false)else some false):Option Bool).bind fun g=>some g
theorem k_ec(n:Nat)(b:Distance)(i:Int)(r:Bool)(h:F_ec n b i=some r):
    Csm prog 182 [.agg (Distance.c b),.ptr 0 0,.ptr 1 0,.ptr 2 0] [.cells 3 [I i],.cells 261 [.fn (.func 178) [] [.ptr 0 0,.ptr 1 0]],.cells 264 [.fn (.func 181) [] [.ptr 0 0]]] (fun r=>.bool r) r:=by
 refine Qa func182 Z Z Z ?_
 refine G0 7 Z (Bd h fun d a h=>?_)
 refine Ct d [0,1,2] [] (fun d=>[(5,.bool d)]) (fun _=>[]) (fun _=>rfl) ?_ (fun env H j=>?_)
 ·refine G0 3 Z ?_
  refine vH (OpH.lit (xs:=[.tmp 7]) (es:=List.map (Qd .i64) [b.Timing]) Qw Z Z Z Z Z ⟨Z,trivial⟩ Z Z) ?_
  refine FE Z (Cb a (k_a _ _ _ _) Z (ls (ls (lo ln))) fun q k a=>Go 1 Z (Is 10 a Z (fun e a=>?_) (fun e a=>?_)))
  ·refine Go 3 Z ?_
   refine vH (OpH.lit (xs:=[.tmp 13]) (es:=List.map (Qd .i64) [b.Extra]) Qw Z Z Z Z Z ⟨Z,trivial⟩ Z Z) ?_ (gT Z)
   refine FE Z (Cb a (k_a _ _ _ _) Z (ls (ls (lo ln))) fun s l a=>Go 2 Z (Is 17 a Z (fun f a=>?_) (fun f a=>?_)))
   ·refine Go 3 Z (Cz [0,1] a (k_ad _ _ _) Z fun t m a=>Go 2 Z (Is 23 a Z (fun g a=>?_) (fun g a=>?_)))
    ·exact Go 3 Z (Cz [0] a (k_hf _ _ _) Z fun u p a=>Go 3 Z (Cl a [0,1,2]))
    ·exact Go 7 Z (Cl a [0,1,2])
   ·exact Go 13 Z (Cl a [0,1,2])
  ·exact Go 20 Z (Cl a [0,1,2])
 exact Gx 1 Z (TC.le j (Gc 1 Z (Rt h 5 [0,1,2])))
def F_cs(n:Nat)(a:Distance)(b:Int):Option Bool:=
  (F_ec n a b).bind fun c=>some (!c)
theorem k_cs(n:Nat)(a:Distance)(b:Int)(r:Bool)(h:F_cs n a b=some r):
    Csm prog 203 [.agg (Distance.c a),.ptr 0 0] [.cells 212 [.fn (.func 182) [] [.ptr 1 0,.ptr 2 0,.ptr 3 0]],.cells 3 [I b],.cells 261 [.fn (.func 178) [] [.ptr 1 0,.ptr 2 0]],.cells 264 [.fn (.func 181) [] [.ptr 1 0]]] (fun r=>.bool r) r:=by
 refine Qa func203 Z Z Z ?_
 exact G0 10 Z (Cz [1,2,3] h (k_ec _ _ _) Z fun e d h=>Go 5 Z (Rt h 3 [0,1,2,3]))
def F_ka(n:Nat)(b:List Distance)(e:Int)(a:Int):Option (Ctl Int (Ctl Unit Int)):=
  (bif decide (a<(b.length:Int))then(idx b a).bind fun c=>(F_cs n c e).bind fun d=>(bif d then some (.done (.done a))else some (.cont (IntKind.i64.wrap (a+1))))else some (.done (.cont ())))
def F_gt(n:Nat)(c:List Distance)(d:Int):Option Int:=
  (iter (F_ka n c d) n 0:Option (Ctl Unit Int)).bind fun b=>match b with|.cont a=>(some (-1))|.done a=>some a
theorem k_gt(n:Nat)(b:List Distance)(a:Int)(r:Int)(h:F_gt n b a=some r):
    Csm prog 256 [.rsl 5 (List.map Distance.c b),.fn (.func 203) [] [.ptr 0 0]] [.cells 212 [.fn (.func 182) [] [.ptr 1 0,.ptr 2 0,.ptr 3 0]],.cells 3 [I a],.cells 261 [.fn (.func 178) [] [.ptr 1 0,.ptr 2 0]],.cells 264 [.fn (.func 181) [] [.ptr 1 0]]] (fun r=>I r) r:=
 QE (el:=fun x=>.agg (Distance.c x)) (g:=fun x=>F_cs n x a) func256 Z Z Z runUnderlying40 sizeOf99 (fun _ _ _ _ d e=>QH d isAgg99 sizeOf99 e Pts.rp Z Z) call203 (fun _ _ h=>k_cs _ _ _ _ h) h
def F_hu(n:Nat)(a:List Distance)(b:Int):Option Bool:=
  (F_gt n a b).bind fun c=>some (decide (0<=c))
theorem k_hu(n:Nat)(a:List Distance)(b:Int)(r:Bool)(h:F_hu n a b=some r):
    Csm prog 202 [.rsl 5 (List.map Distance.c a),.fn (.func 203) [] [.ptr 0 0]] [.cells 212 [.fn (.func 182) [] [.ptr 1 0,.ptr 2 0,.ptr 3 0]],.cells 3 [I b],.cells 261 [.fn (.func 178) [] [.ptr 1 0,.ptr 2 0]],.cells 264 [.fn (.func 181) [] [.ptr 1 0]]] (fun r=>.bool r) r:=by
 refine Qa func202 Z Z Z ?_
 exact G0 9 Z (Cz [0,1,2,3] h (k_gt _ _ _) Z fun e d h=>Go 5 Z (Rt h 4 [0,1,2,3]))
def F_fy(n:Nat)(a:List Distance)(b:Int):Option Bool:=
  (F_hu n a b).bind fun c=>some (!c)
theorem k_fy(n:Nat)(a:List Distance)(b:Int)(r:Bool)(h:F_fy n a b=some r):
    Csm prog 116 [.rsl 5 (List.map Distance.c a),.fn (.func 182) [] [.ptr 0 0,.ptr 1 0,.ptr 2 0]] [.cells 3 [I b],.cells 261 [.fn (.func 178) [] [.ptr 0 0,.ptr 1 0]],.cells 264 [.fn (.func 181) [] [.ptr 0 0]]] (fun r=>.bool r) r:=by
 refine Qa func116 Z Z Z ?_
 exact G0 10 Z (Cz [3,0,1,2] h (k_hu _ _ _) Z fun e d h=>Go 5 Z (Rt h 4 [0,1,2]))
def F_hb(n:Nat)(a:Wave):Option Bool:=
  (F_a n 0 1099511627776 [a.Gun]).bind fun b=>some b
theorem k_hb(n:Nat)(a:Wave)(r:Bool)(h:F_hb n a=some r):
    Csm prog 193 [.agg (Wave.c a)] [] (fun r=>.bool r) r:=by
 refine Qa func193 Z Z Z ?_
 refine G0 10 Z ?_
 refine vH (OpH.lit (xs:=[.tmp 4]) (es:=List.map (Qd .i64) [a.Gun]) Qw Z Z Z Z Z ⟨Z,trivial⟩ Z Z) ?_
 exact FE Z (Cb h (k_a _ _ _ _) Z (ls (ls (lo ln))) fun d b h=>Go 4 Z (Rt h 2 []))
def F_cn(n:Nat)(a:Wave):Option Bool:=
  (F_hb n a).bind fun b=>some (!b)
theorem k_cn(n:Nat)(a:Wave)(r:Bool)(h:F_cn n a=some r):
    Csm prog 246 [.agg (Wave.c a),.ptr 0 0] [.cells 275 [.fn (.func 193) [] []]] (fun r=>.bool r) r:=by
 refine Qa func246 Z Z Z ?_
 exact G0 10 Z (Cz [] h (k_hb _ _) Z fun d b h=>Go 5 Z (Rt h 3 [0]))
def F_jn(n:Nat)(b:List Wave)(a:Int):Option (Ctl Int (Ctl Unit Int)):=
  (bif decide (a<(b.length:Int))then(idx b a).bind fun c=>(F_cn n c).bind fun d=>(bif d then some (.done (.done a))else some (.cont (IntKind.i64.wrap (a+1))))else some (.done (.cont ())))
def F_hl(n:Nat)(c:List Wave):Option Int:=
  (iter (F_jn n c) n 0:Option (Ctl Unit Int)).bind fun b=>match b with|.cont a=>(some (-1))|.done a=>some a
theorem k_hl(n:Nat)(a:List Wave)(r:Int)(h:F_hl n a=some r):
    Csm prog 280 [.rsl 2 (List.map Wave.c a),.fn (.func 246) [] [.ptr 0 0]] [.cells 275 [.fn (.func 193) [] []]] (fun r=>I r) r:=
 QE (el:=fun x=>.agg (Wave.c x)) (g:=fun x=>F_cn n x) func280 Z Z Z runUnderlying41 sizeOf139 (fun _ _ _ _ b d=>QH b isAgg139 sizeOf139 d Pts.rp Z Z) call246 (fun _ _ h=>k_cn _ _ _ h) h
def F_gw(n:Nat)(a:List Wave):Option Bool:=
  (F_hl n a).bind fun b=>some (decide (0<=b))
theorem k_gw(n:Nat)(a:List Wave)(r:Bool)(h:F_gw n a=some r):
    Csm prog 245 [.rsl 2 (List.map Wave.c a),.fn (.func 246) [] [.ptr 0 0]] [.cells 275 [.fn (.func 193) [] []]] (fun r=>.bool r) r:=by
 refine Qa func245 Z Z Z ?_
 exact G0 9 Z (Cz [0] h (k_hl _ _) Z fun d b h=>Go 5 Z (Rt h 4 [0]))
def F_ga(n:Nat)(a:List Wave):Option Bool:=
  (F_gw n a).bind fun b=>some (!b)
theorem k_ga(n:Nat)(a:List Wave)(r:Bool)(h:F_ga n a=some r):
    Csm prog 192 [.rsl 2 (List.map Wave.c a),.fn (.func 193) [] []] [] (fun r=>.bool r) r:=by
 refine Qa func192 Z Z Z ?_
 exact G0 10 Z (Cz [0] h (k_gw _ _) Z fun d b h=>Go 5 Z (Rt h 4 []))
def F_if(n:Nat)(a:Offence):Option Bool:=
  (bif a.Out then((bif (a.Time==0)then some (a.Laps==0)else some false):Option Bool).bind fun d=>some d else(bif (a.Laps != 0)then((bif (a.Time==0)then(F_a n 1 64 [a.Laps]).bind fun b=>some b else some false):Option Bool).bind fun e=>some e else(F_a n 0 68719476736 [a.Time]).bind fun c=>some c))
theorem k_if(n:Nat)(e:Offence)(r:Bool)(h:F_if n e=some r):
    Csm prog 185 [.agg (Offence.c e)] [] (fun r=>.bool r) r:=by
 refine Qa func185 Z Z Z ?_
 refine G0 15 Z (Cn Z h (fun j h=>?_) (fun j h=>?_))
 ·refine Gc 1 Z (Bd h fun f b h=>?_)
  refine Ct f [] [] (fun f=>[(2,.bool f)]) (fun _=>[]) (fun _=>rfl) ?_ (fun env H d=>?_)
  ·refine G0 5 Z (Is 9 b Z (fun k b=>?_) (fun k b=>?_))
   ·exact Go 6 Z (Cl b [])
   ·exact Go 6 Z (Cl b [])
  exact Gx 1 Z (TC.le d (Gc 3 Z (Rt h 2 [])))
 refine Gc 8 Z (Cn Z h (fun l h=>?_) (fun l h=>?_))
 ·refine Gc 1 Z (Bd h fun g a h=>?_)
  refine Ct g [] [] (fun g=>[(2,.bool g)]) (fun _=>[]) (fun _=>rfl) ?_ (fun env H d=>?_)
  ·refine G0 5 Z (Is 21 a Z (fun i a=>?_) (fun i a=>?_))
   ·refine Go 2 Z ?_
    refine vH (OpH.lit (xs:=[.tmp 23]) (es:=List.map (Qd .i64) [e.Laps]) Qw Z Z Z Z Z ⟨Z,trivial⟩ Z Z) ?_ (gT Z)
    exact FE Z (Cb a (k_a _ _ _ _) Z (ls (ls (lo ln))) fun q m a=>Go 3 Z (Cl a []))
   ·exact Go 7 Z (Cl a [])
  exact Gx 1 Z (TC.le d (Gc 3 Z (Rt h 2 [])))
 refine Gc 7 Z ?_
 refine vH (OpH.lit (xs:=[.tmp 28]) (es:=List.map (Qd .i64) [e.Time]) Qw Z Z Z Z Z ⟨Z,trivial⟩ Z Z) ?_
 exact FE Z (Cb h (k_a _ _ _ _) Z (ls (ls (lo ln))) fun s p h=>Go 4 Z (Rt h 2 []))
def F_dj(n:Nat)(a:Offence):Option Bool:=
  (F_if n a).bind fun b=>some (!b)
theorem k_dj(n:Nat)(a:Offence)(r:Bool)(h:F_dj n a=some r):
    Csm prog 248 [.agg (Offence.c a),.ptr 0 0] [.cells 267 [.fn (.func 185) [] []]] (fun r=>.bool r) r:=by
 refine Qa func248 Z Z Z ?_
 exact G0 10 Z (Cz [] h (k_if _ _) Z fun d b h=>Go 5 Z (Rt h 3 [0]))
def F_jq(n:Nat)(b:List Offence)(a:Int):Option (Ctl Int (Ctl Unit Int)):=
  (bif decide (a<(b.length:Int))then(idx b a).bind fun c=>(F_dj n c).bind fun d=>(bif d then some (.done (.done a))else some (.cont (IntKind.i64.wrap (a+1))))else some (.done (.cont ())))
def F_fk(n:Nat)(c:List Offence):Option Int:=
  (iter (F_jq n c) n 0:Option (Ctl Unit Int)).bind fun b=>match b with|.cont a=>(some (-1))|.done a=>some a
theorem k_fk(n:Nat)(a:List Offence)(r:Int)(h:F_fk n a=some r):
    Csm prog 281 [.rsl 4 (List.map Offence.c a),.fn (.func 248) [] [.ptr 0 0]] [.cells 267 [.fn (.func 185) [] []]] (fun r=>I r) r:=
 QE (el:=fun x=>.agg (Offence.c x)) (g:=fun x=>F_dj n x) func281 Z Z Z runUnderlying42 sizeOf237 (fun _ _ _ _ b d=>QH b isAgg237 sizeOf237 d Pts.rp Z Z) call248 (fun _ _ h=>k_dj _ _ _ h) h
def F_fg(n:Nat)(a:List Offence):Option Bool:=
  (F_fk n a).bind fun b=>some (decide (0<=b))
theorem k_fg(n:Nat)(a:List Offence)(r:Bool)(h:F_fg n a=some r):
    Csm prog 247 [.rsl 4 (List.map Offence.c a),.fn (.func 248) [] [.ptr 0 0]] [.cells 267 [.fn (.func 185) [] []]] (fun r=>.bool r) r:=by
 refine Qa func247 Z Z Z ?_
 exact G0 9 Z (Cz [0] h (k_fk _ _) Z fun d b h=>Go 5 Z (Rt h 4 [0]))
def F_hd(n:Nat)(a:List Offence):Option Bool:=
  (F_fg n a).bind fun b=>some (!b)
theorem k_hd(n:Nat)(a:List Offence)(r:Bool)(h:F_hd n a=some r):
    Csm prog 194 [.rsl 4 (List.map Offence.c a),.fn (.func 185) [] []] [] (fun r=>.bool r) r:=by
 refine Qa func194 Z Z Z ?_
 exact G0 10 Z (Cz [0] h (k_fg _ _) Z fun d b h=>Go 5 Z (Rt h 4 []))
def F_fc(n:Nat)(a:Category):Option Bool:=
  ((F_a n 0 120 [a.From,a.To]).bind fun b=>(bif b then some (decide (a.From<=a.To))else some false):Option Bool).bind fun c=>some c
theorem k_fc(n:Nat)(b:Category)(r:Bool)(h:F_fc n b=some r):
    Csm prog 196 [.agg (Category.c b)] [] (fun r=>.bool r) r:=by
 refine Qa func196 Z Z Z ?_
 refine G0 7 Z (Bd h fun d a h=>?_)
 refine Ct d [] [] (fun d=>[(2,.bool d)]) (fun _=>[]) (fun _=>rfl) ?_ (fun env H e=>?_)
 ·refine G0 5 Z ?_
  refine vH (OpH.lit (xs:=[.tmp 4,.tmp 6]) (es:=List.map (Qd .i64) [b.From,b.To]) Qw Z Z Z Z Z ⟨Z,Z,trivial⟩ Z Z) ?_
  refine FE Z (Cb a (k_a _ _ _ _) Z (ls (ls (lo ln))) fun i g a=>Go 1 Z (Is 9 a Z (fun f a=>?_) (fun f a=>?_)))
  ·exact Go 8 Z (Cl a [])
  ·exact Go 8 Z (Cl a [])
 exact Gx 1 Z (TC.le e (Gc 1 Z (Rt h 2 [])))
def F_dm(n:Nat)(a:Category):Option Bool:=
  (F_fc n a).bind fun b=>some (!b)
theorem k_dm(n:Nat)(a:Category)(r:Bool)(h:F_dm n a=some r):
    Csm prog 250 [.agg (Category.c a),.ptr 0 0] [.cells 278 [.fn (.func 196) [] []]] (fun r=>.bool r) r:=by
 refine Qa func250 Z Z Z ?_
 exact G0 10 Z (Cz [] h (k_fc _ _) Z fun d b h=>Go 5 Z (Rt h 3 [0]))
def F_kk(n:Nat)(b:List Category)(a:Int):Option (Ctl Int (Ctl Unit Int)):=
  (bif decide (a<(b.length:Int))then(idx b a).bind fun c=>(F_dm n c).bind fun d=>(bif d then some (.done (.done a))else some (.cont (IntKind.i64.wrap (a+1))))else some (.done (.cont ())))
def F_ib(n:Nat)(c:List Category):Option Int:=
  (iter (F_kk n c) n 0:Option (Ctl Unit Int)).bind fun b=>match b with|.cont a=>(some (-1))|.done a=>some a
theorem k_ib(n:Nat)(a:List Category)(r:Int)(h:F_ib n a=some r):
    Csm prog 282 [.rsl 3 (List.map Category.c a),.fn (.func 250) [] [.ptr 0 0]] [.cells 278 [.fn (.func 196) [] []]] (fun r=>I r) r:=
 QE (el:=fun x=>.agg (Category.c x)) (g:=fun x=>F_dm n x) func282 Z Z Z runUnderlying43 sizeOf239 (fun _ _ _ _ b d=>QH b isAgg239 sizeOf239 d Pts.rp Z Z) call250 (fun _ _ h=>k_dm _ _ _ h) h
def F_hm(n:Nat)(a:List Category):Option Bool:=
  (F_ib n a).bind fun b=>some (decide (0<=b))
theorem k_hm(n:Nat)(a:List Category)(r:Bool)(h:F_hm n a=some r):
    Csm prog 249 [.rsl 3 (List.map Category.c a),.fn (.func 250) [] [.ptr 0 0]] [.cells 278 [.fn (.func 196) [] []]] (fun r=>.bool r) r:=by
 refine Qa func249 Z Z Z ?_
 exact G0 9 Z (Cz [0] h (k_ib _ _) Z fun d b h=>Go 5 Z (Rt h 4 [0]))
def F_fn(n:Nat)(a:List Category):Option Bool:=
  (F_hm n a).bind fun b=>some (!b)
theorem k_fn(n:Nat)(a:List Category)(r:Bool)(h:F_fn n a=some r):
    Csm prog 195 [.rsl 3 (List.map Category.c a),.fn (.func 196) [] []] [] (fun r=>.bool r) r:=by
 refine Qa func195 Z Z Z ?_
 exact G0 10 Z (Cz [0] h (k_hm _ _) Z fun d b h=>Go 5 Z (Rt h 4 []))
def F_fs(n:Nat)(a:Prize)(b:Course):Option Bool:=
  ((F_a n 0 (IntKind.i64.wrap ((b.Distances.length:Int)-1)) [a.Distance]).bind fun c=>(bif c then(F_a n (-1) (IntKind.i64.wrap ((b.Categories.length:Int)-1)) [a.Category]).bind fun d=>(bif d then(F_a n 1 4000 [a.Rank]).bind fun e=>(bif e then(F_a n 1 1125899906842624 [a.Amount]).bind fun f=>some f else some false)else some false)else some false):Option Bool).bind fun g=>some g
theorem k_fs(n:Nat)(b:Prize)(i:Course)(r:Bool)(h:F_fs n b i=some r):
    Csm prog 186 [.agg (Prize.c b),.ptr 0 0] [.cells 49 (Course.c i)] (fun r=>.bool r) r:=by
 refine Qa func186 Z Z Z ?_
 refine G0 7 Z (Bd h fun d a h=>?_)
 refine Ct d [0] [] (fun d=>[(3,.bool d)]) (fun _=>[]) (fun _=>rfl) ?_ (fun env H j=>?_)
 ·refine G0 3 Z (Lm Z (Go 3 Z ?_))
  refine vH (OpH.lit (xs:=[.tmp 9]) (es:=List.map (Qd .i64) [b.Distance]) Qw Z Z Z Z Z ⟨Z,trivial⟩ Z Z) ?_
  refine FE Z (Cb a (k_a _ _ _ _) Z (ls (ls (lo ln))) fun q k a=>Go 1 Z (Is 12 a Z (fun e a=>?_) (fun e a=>?_)))
  ·refine Go 2 Z (Lm Z (Go 3 Z ?_))
   refine vH (OpH.lit (xs:=[.tmp 18]) (es:=List.map (Qd .i64) [b.Category]) Qw Z Z Z Z Z ⟨Z,trivial⟩ Z Z) ?_ (gT Z)
   refine FE Z (Cb a (k_a _ _ _ _) Z (ls (ls (lo ln))) fun s l a=>Go 2 Z (Is 22 a Z (fun f a=>?_) (fun f a=>?_)))
   ·refine Go 2 Z ?_
    refine vH (OpH.lit (xs:=[.tmp 24]) (es:=List.map (Qd .i64) [b.Rank]) Qw Z Z Z Z Z ⟨Z,trivial⟩ Z Z) ?_ (gT Z)
    refine FE Z (Cb a (k_a _ _ _ _) Z (ls (ls (lo ln))) fun t m a=>Go 2 Z (Is 28 a Z (fun g a=>?_) (fun g a=>?_)))
    ·refine Go 2 Z ?_
     refine vH (OpH.lit (xs:=[.tmp 30]) (es:=List.map (Qd .i64) [b.Amount]) Qw Z Z Z Z Z ⟨Z,trivial⟩ Z Z) ?_ (gT Z)
     exact FE Z (Cb a (k_a _ _ _ _) Z (ls (ls (lo ln))) fun u p a=>Go 3 Z (Cl a [0]))
    ·exact Go 7 Z (Cl a [0])
   ·exact Go 13 Z (Cl a [0])
  ·exact Go 23 Z (Cl a [0])
 exact Gx 1 Z (TC.le j (Gc 1 Z (Rt h 3 [0])))
def F_cp(n:Nat)(a:Prize)(b:Course):Option Bool:=
  (F_fs n a b).bind fun c=>some (!c)
theorem k_cp(n:Nat)(a:Prize)(b:Course)(r:Bool)(h:F_cp n a b=some r):
    Csm prog 252 [.agg (Prize.c a),.ptr 0 0] [.cells 268 [.fn (.func 186) [] [.ptr 1 0]],.cells 49 (Course.c b)] (fun r=>.bool r) r:=by
 refine Qa func252 Z Z Z ?_
 exact G0 10 Z (Cz [1] h (k_fs _ _ _) Z fun e d h=>Go 5 Z (Rt h 3 [0,1]))
def F_lb(n:Nat)(b:List Prize)(e:Course)(a:Int):Option (Ctl Int (Ctl Unit Int)):=
  (bif decide (a<(b.length:Int))then(idx b a).bind fun c=>(F_cp n c e).bind fun d=>(bif d then some (.done (.done a))else some (.cont (IntKind.i64.wrap (a+1))))else some (.done (.cont ())))
def F_go(n:Nat)(c:List Prize)(d:Course):Option Int:=
  (iter (F_lb n c d) n 0:Option (Ctl Unit Int)).bind fun b=>match b with|.cont a=>(some (-1))|.done a=>some a
theorem k_go(n:Nat)(b:List Prize)(a:Course)(r:Int)(h:F_go n b a=some r):
    Csm prog 283 [.rsl 4 (List.map Prize.c b),.fn (.func 252) [] [.ptr 0 0]] [.cells 268 [.fn (.func 186) [] [.ptr 1 0]],.cells 49 (Course.c a)] (fun r=>I r) r:=
 QE (el:=fun x=>.agg (Prize.c x)) (g:=fun x=>F_cp n x a) func283 Z Z Z runUnderlying44 sizeOf74 (fun _ _ _ _ d e=>QH d isAgg74 sizeOf74 e Pts.rp Z Z) call252 (fun _ _ h=>k_cp _ _ _ _ h) h
def F_fb(n:Nat)(a:List Prize)(b:Course):Option Bool:=
  (F_go n a b).bind fun c=>some (decide (0<=c))
theorem k_fb(n:Nat)(a:List Prize)(b:Course)(r:Bool)(h:F_fb n a b=some r):
    Csm prog 251 [.rsl 4 (List.map Prize.c a),.fn (.func 252) [] [.ptr 0 0]] [.cells 268 [.fn (.func 186) [] [.ptr 1 0]],.cells 49 (Course.c b)] (fun r=>.bool r) r:=by
 refine Qa func251 Z Z Z ?_
 exact G0 9 Z (Cz [0,1] h (k_go _ _ _) Z fun e d h=>Go 5 Z (Rt h 4 [0,1]))
def F_ed(n:Nat)(a:List Prize)(b:Course):Option Bool:=
  (F_fb n a b).bind fun c=>some (!c)
theorem k_ed(n:Nat)(a:List Prize)(b:Course)(r:Bool)(h:F_ed n a b=some r):
    Csm prog 197 [.rsl 4 (List.map Prize.c a),.fn (.func 186) [] [.ptr 0 0]] [.cells 49 (Course.c b)] (fun r=>.bool r) r:=by
 refine Qa func197 Z Z Z ?_
 exact G0 10 Z (Cz [1,0] h (k_fb _ _ _) Z fun e d h=>Go 5 Z (Rt h 4 [0]))
def F_ep(n:Nat)(a:Prize):Option Unit:=
  some ()
theorem k_ep(n:Nat)(a:Prize)(r:Unit)(h:F_ep n a=some r):
    C prog 199 [.agg (Prize.c a)] [] (RQ (fun _=>.agg [I a.Distance,I a.Category,I a.Rank]) (fun _=>[.cells 282 [I a.Distance,I a.Category,I a.Rank]]) r):=by
 refine Qa func199 Z Z Z ?_
 refine G0 19 Z ?_
 obtain rfl:=Oi h
 exact Rx [1] [2] Z (QL Z (Qs isAgg282 sizeOf282 Z Z Z)) ⟨Z,Z⟩
def F_lh(n:Nat)(c:List Prize)(a:(List (typing_place×Bool))×Int):Option (Ctl ((List (typing_place×Bool))×Int) (List (typing_place×Bool))):=
  (bif decide (a.2<(c.length:Int))then(idx c a.2).bind fun b=>(F_ep n b).bind fun e=>(some (Qab a.1 ({distance:=b.Distance,category:=b.Category,rank:=b.Rank:typing_place}) true)).bind fun d=>some (.cont (d,IntKind.i64.wrap (a.2+1)))else some (.done a.1))
def F_gf(n:Nat)(a:List Prize):Option Bool:=
  (iter (F_lh n a) n ([],0):Option (List (typing_place×Bool))).bind fun b=>some ((b.length:Int)==(a.length:Int))
theorem k_gf(n:Nat)(m:List Prize)(r:Bool)(h:F_gf n m=some r):
    Csm prog 198 [.rsl 4 (List.map Prize.c m),.fn (.func 199) [] []] [] (fun r=>.bool r) r:=by
 refine Qa func198 Z Z Z ?_
 refine G0 7 Z ?_
 refine vH Yj ?_
 refine FE Z (Go 7 Z (Lm Z (Go 3 Z (Bd h fun b p h=>?_))))
 refine Ct b [0] [0,5] (fun _=>[]) (fun b=>[(0,.map (Qt (fun x=>A.agg (typing_place.c x)) A.bool b))]) (fun _=>rfl) ?_ (fun env H q=>?_)
 ·refine G0 1 Z ?_
  refine Lp [0] [0,1,5,9,10] (fun d=>[(11,I d.2)]) (fun d=>[(0,.map (Qt (fun x=>A.agg (typing_place.c x)) A.bool d.1))]) p (fun _=>rfl) (Lr [0]) fun d t a f=>?_
  refine G0 6 Z (Yc Z a (fun g a=>?_) (fun g a=>?_))
  ·refine Gc 2 Z (Qj a ?_)
   obtain rfl:=Oj f a
   exact Gx 1 Z (QT (Lr [0]))
  refine Gc 6 Z (Bd a fun e i a=>Iz i Z (Go 9 Z (Cd [] a (k_ep _ _) Z fun u s a=>FE Z (Bd a fun w j a=>?_))))
  refine vU (Yt (ev:=A.bool) (k:=({distance:=e.Distance,category:=e.Category,rank:=e.Rank:typing_place})) (v:=true) (l:=d.1) QjF j Z underlying310) ?_
  exact FE Z (Go 7 Z (Qi a (Lr [0])))
 refine Gx 1 Z (TC.le q (Gc 3 Z ?_))
 refine vX (I (b.length:Int)) (QdC (l:=b) underlying310 Z) ?_
 exact Go 1 Z (Lm Z (Go 5 Z (Rt h 4 [])))
def F_hg(n:Nat)(a:Course):Option Bool:=
  ((F_dz n a.Mats).bind fun b=>(bif b then(F_il n a.Legs (IntKind.i64.wrap ((a.Mats.length:Int)-1))).bind fun c=>(bif c then(F_ij n a.Legs).bind fun d=>(bif d then(F_fy n a.Distances (IntKind.i64.wrap ((a.Mats.length:Int)-1))).bind fun e=>(bif e then(F_ga n a.Waves).bind fun f=>(bif f then(F_hd n a.Offences).bind fun g=>(bif g then(F_fn n a.Categories).bind fun h=>(bif h then(F_ed n a.Prizes a).bind fun i=>(bif i then(F_gf n a.Prizes).bind fun j=>(bif j then(F_a n 0 16 [a.Faults.Misses,a.Faults.Strays]).bind fun k=>(bif k then(F_a n 0 4294967296 [a.Faults.Window,a.Faults.Residual]).bind fun l=>(bif l then(F_a n 0 100000 [a.Faults.Drift]).bind fun m=>(bif m then(F_a n 0 1125899906842624 [a.Fee]).bind fun p=>(bif p then(F_a n 0 1099511627776 [a.Deadline]).bind fun q=>some q else some false)else some false)else some false)else some false)else some false)else some false)else some false)else some false)else some false)else some false)else some false)else some false)else some false):Option Bool).bind fun r=>some r
theorem k_hg(n:Nat)(b:Course)(r:Bool)(h:F_hg n b=some r):
    Csm prog 114 [.agg (Course.c b)] [] (fun r=>.bool r) r:=by
 refine Qa func114 Z Z Z ?_
 refine G0 10 Z (Lm Z (Go 55 Z (Bd h fun d a h=>?_)))
 refine Ct d [] [] (fun d=>[(2,.bool d)]) (fun _=>[]) (fun _=>rfl) ?_ (fun env H w=>?_)
 ·refine G0 3 Z (Cz [] a (k_dz _ _) Z fun R x a=>Go 1 Z (Is 25 a Z (fun e a=>?_) (fun e a=>?_)))
  ·refine Go 3 Z (Cd [1] a (k_il _ _ _) Z fun T y a=>FE Z (Go 2 Z (Is 31 a Z (fun f a=>?_) (fun f a=>?_))))
   ·refine Go 2 Z (Cz [] a (k_ij _ _) Z fun V z a=>Go 2 Z (Is 36 a Z (fun g a=>?_) (fun g a=>?_)))
    ·refine Go 3 Z (Cz [1,2,3] a (k_fy _ _ _) Z fun W B a=>Go 2 Z (Is 42 a Z (fun i a=>?_) (fun i a=>?_)))
     ·refine Go 2 Z (Cz [] a (k_ga _ _) Z fun X E a=>Go 2 Z (Is 47 a Z (fun j a=>?_) (fun j a=>?_)))
      ·refine Go 3 Z (Cz [] a (k_hd _ _) Z fun Y F a=>Go 2 Z (Is 53 a Z (fun k a=>?_) (fun k a=>?_)))
       ·refine Go 2 Z (Cz [] a (k_fn _ _) Z fun aa G a=>Go 2 Z (Is 58 a Z (fun l a=>?_) (fun l a=>?_)))
        ·refine Go 3 Z (Cz [0] a (k_ed _ _ _) Z fun ab J a=>Go 2 Z (Is 64 a Z (fun m a=>?_) (fun m a=>?_)))
         ·refine Go 2 Z (Cz [] a (k_gf _ _) Z fun ac L a=>Go 2 Z (Is 69 a Z (fun p a=>?_) (fun p a=>?_)))
          ·refine Go 4 Z ?_
           refine vH (OpH.lit (xs:=[.tmp 71,.tmp 73]) (es:=List.map (Qd .i64) [b.Faults.Misses,b.Faults.Strays]) Qw Z Z Z Z Z ⟨Z,Z,trivial⟩ Z Z) ?_ (gT Z)
           refine FE Z (Cb a (k_a _ _ _ _) Z (ls (ls (lo ln))) fun ad M a=>Go 2 Z (Is 77 a Z (fun q a=>?_) (fun q a=>?_)))
           ·refine Go 4 Z ?_
            refine vH (OpH.lit (xs:=[.tmp 79,.tmp 81]) (es:=List.map (Qd .i64) [b.Faults.Window,b.Faults.Residual]) Qw Z Z Z Z Z ⟨Z,Z,trivial⟩ Z Z) ?_ (gT Z)
            refine FE Z (Cb a (k_a _ _ _ _) Z (ls (ls (lo ln))) fun ae N a=>Go 2 Z (Is 85 a Z (fun s a=>?_) (fun s a=>?_)))
            ·refine Go 2 Z ?_
             refine vH (OpH.lit (xs:=[.tmp 87]) (es:=List.map (Qd .i64) [b.Faults.Drift]) Qw Z Z Z Z Z ⟨Z,trivial⟩ Z Z) ?_ (gT Z)
             refine FE Z (Cb a (k_a _ _ _ _) Z (ls (ls (lo ln))) fun af O a=>Go 2 Z (Is 91 a Z (fun t a=>?_) (fun t a=>?_)))
             ·refine Go 2 Z ?_
              refine vH (OpH.lit (xs:=[.tmp 93]) (es:=List.map (Qd .i64) [b.Fee]) Qw Z Z Z Z Z ⟨Z,trivial⟩ Z Z) ?_ (gT Z)
              refine FE Z (Cb a (k_a _ _ _ _) Z (ls (ls (lo ln))) fun ag P a=>Go 2 Z (Is 97 a Z (fun u a=>?_) (fun u a=>?_)))
              ·refine Go 2 Z ?_
               refine vH (OpH.lit (xs:=[.tmp 99]) (es:=List.map (Qd .i64) [b.Deadline]) Qw Z Z Z Z Z ⟨Z,trivial⟩ Z Z) ?_ (gT Z)
               exact FE Z (Cb a (k_a _ _ _ _) Z (ls (ls (lo ln))) fun ah Q a=>Go 3 Z (Cl a []))
              ·exact Go 7 Z (Cl a [])
             ·exact Go 13 Z (Cl a [])
            ·exact Go 19 Z (Cl a [])
           ·exact Go 27 Z (Cl a [])
          ·exact Go 35 Z (Cl a [])
         ·exact Go 40 Z (Cl a [])
        ·exact Go 46 Z (Cl a [])
       ·exact Go 51 Z (Cl a [])
      ·exact Go 57 Z (Cl a [])
     ·exact Go 62 Z (Cl a [])
    ·exact Go 68 Z (Cl a [])
   ·exact Go 73 Z (Cl a [])
  ·exact Go 79 Z (Cl a [])
 exact Gx 1 Z (TC.le w (Gc 1 Z (Rt h 2 [])))
def F_km(n:Nat)(b:List Step)(a:(List typing_form)×Int):Option (Ctl ((List typing_form)×Int) (List typing_form)):=
  (bif decide (a.2<(b.length:Int))then(idx b a.2).bind fun c=>(app a.1 [typing_form.ctyping_step ({Step:=c:typing_step})]).bind fun d=>some (.cont (d,IntKind.i64.wrap (a.2+1)))else some (.done a.1))
def F_z(n:Nat)(a:List Step):Option (List typing_form):=
  (iter (F_km n a) n ([],0):Option (List typing_form)).bind fun b=>some b
theorem k_z(n:Nat)(q:List Step)(r:List typing_form)(h:F_z n q=some r):
    C prog 201 [.rsl 8 (List.map Step.enc q)] [] (RQ (fun r=>.osl 0 0 r.length 1) (fun r=>[.row 317 1 (List.map typing_form.enc r)]) r):=by
 refine Qa func201 Z Z Z ?_
 refine G0 9 Z (Lm Z (Go 3 Z (Bd h fun d w h=>?_)))
 refine Ct d [0] [] (fun d=>[(2,.osl 0 0 d.length 1)]) (fun d=>[(0,.row 317 1 (List.map typing_form.enc d))]) (fun _=>rfl) ?_ (fun env H u=>?_)
 ·refine G0 1 Z ?_
  refine Lp [0] [5,6] (fun b=>[(2,.osl 0 0 b.1.length 1),(7,I b.2)]) (fun b=>[(0,.row 317 1 (List.map typing_form.enc b.1))]) w (fun _=>rfl) ?_ ?_
  ·refine Le.trans (Le.phantom (s:=2) (k:=1) (t:=317) (Nat.le_of_ble_eq_true Z) Z) ?_
   exact Lr [0]
  intro b x a g
  refine G0 6 Z (Yc Z a (fun j a=>?_) (fun j a=>?_))
  ·refine Gc 2 Z (Qj a ?_)
   obtain rfl:=Oj g a
   exact Gx 1 Z (QT (Lr [0]))
  refine Gc 6 Z (Bd a fun f l a=>IzE l (QfA f) Z (Go 9 Z ?_))
  refine vX (.iface 320 (.agg (typing_step.c ({Step:=f:typing_step})))) (Qap Z runUnderlying320 (by intro m;nofun) Z) ?_
  refine vH (OpH.lit (xs:=[.tmp 14]) (es:=List.map typing_form.enc [typing_form.ctyping_step ({Step:=f:typing_step})]) QbO Z Z Z Z Z ⟨Z,trivial⟩ Z Z) ?_
  refine FE Z (Bd a fun y p a=>?_)
  refine vH (QO (e:=typing_form.enc) p QbO runUnderlying285 (Yw (i:=2))) ?_
  exact FE Z (Go 8 Z (Qi a (Lr [3])))
 exact Gx 1 Z (TC.le u (Gc 7 Z (Rt h 2 [0])))
def F_y(n:Nat)(a:typing_cond):Option Bool:=
  ((bif (a.Cond.Kind==0)then(bif (a.Cond.Var==0)then(bif (a.Cond.N==0)then some ((a.Cond.Parts.length:Int)==0)else some false)else some false)else some false):Option Bool).bind fun b=>some b
theorem k_y(n:Nat)(d:typing_cond)(r:Bool)(h:F_y n d=some r):
    Csm prog 284 [.agg (typing_cond.c ({Cond:=d.Cond:typing_cond}))] [] (fun r=>.bool r) r:=by
 refine Qa func284 Z Z Z ?_
 refine G0 7 Z (Bd h fun b a h=>?_)
 refine Ct b [] [] (fun b=>[(2,.bool b)]) (fun _=>[]) (fun _=>rfl) ?_ (fun env H e=>?_)
 ·refine G0 6 Z (Is 7 a Z (fun f a=>?_) (fun f a=>?_))
  ·refine Go 6 Z (Is 13 a Z (fun g a=>?_) (fun g a=>?_))
   ·refine Go 6 Z (Is 19 a Z (fun i a=>?_) (fun i a=>?_))
    ·exact Go 3 Z (Lm Z (Go 4 Z (Cl a [])))
    ·exact Go 8 Z (Cl a [])
   ·exact Go 14 Z (Cl a [])
  ·exact Go 20 Z (Cl a [])
 exact Gx 1 Z (TC.le e (Gc 1 Z (Rt h 2 [])))
def F_k(n:Nat)(a:typing_step):Option (List typing_form):=
  (F_z n a.Step.Then).bind fun b=>(F_z n a.Step.Else).bind fun c=>(app b c).bind fun d=>some d
theorem k_k(n:Nat)(a:typing_step)(r:List typing_form)(h:F_k n a=some r):
    C prog 294 [.agg (typing_step.c a)] [] (RQ (fun r=>.osl 0 0 r.length 1) (fun r=>[.row 317 1 (List.map typing_form.enc r)]) r):=by
 refine Qa func294 Z Z Z ?_
 refine G0 7 Z (DAs 7 3 [0,0,0,1,3,3,3] (by kernel_rfl) (Da 3 Z ?_))
 obtain⟨b,d,h⟩:=Yy h
 refine DA.op (x:=.osl 1 0 b.length 1) (H1:=[.cells 320 (typing_step.c a),.row 317 1 (List.map typing_form.enc b)]) ?_ ?_
 ·refine Qu [] (OpC.fn call201 Z Z Z) (k_z _ _ _ d) ?_
  rintro _ _ ⟨rfl,rfl⟩
  exact FE Z Wp
 refine Db 2 Z ?_
 refine DB.wo2 (x:=.rsl 8 (List.map Step.enc a.Step.Else)) (Ld isAgg45 Z Wp) (Ld isAgg45 Z Wp) ?_
 refine DB.done Z (Cd [] h (k_z _ _) Z fun j g h=>FE Z (Bd h fun k f h=>?_))
 refine vH (QO (e:=typing_form.enc) f QbO runUnderlying285 (Yw (i:=2))) ?_
 exact FE Z (Go 4 Z (Rt h 2 [3]))
def F_kt(n:Nat)(b:List Cond)(a:(List typing_form)×Int):Option (Ctl ((List typing_form)×Int) (List typing_form)):=
  (bif decide (a.2<(b.length:Int))then(idx b a.2).bind fun c=>(app a.1 [typing_form.ctyping_cond ({Cond:=c:typing_cond})]).bind fun d=>some (.cont (d,IntKind.i64.wrap (a.2+1)))else some (.done a.1))
def F_gd(n:Nat)(a:List Cond):Option (List typing_form):=
  (iter (F_kt n a) n ([],0):Option (List typing_form)).bind fun b=>some b
theorem k_gd(n:Nat)(q:List Cond)(r:List typing_form)(h:F_gd n q=some r):
    C prog 297 [.rsl 4 (List.map Cond.enc q)] [] (RQ (fun r=>.osl 0 0 r.length 1) (fun r=>[.row 317 1 (List.map typing_form.enc r)]) r):=by
 refine Qa func297 Z Z Z ?_
 refine G0 9 Z (Lm Z (Go 3 Z (Bd h fun d w h=>?_)))
 refine Ct d [0] [] (fun d=>[(2,.osl 0 0 d.length 1)]) (fun d=>[(0,.row 317 1 (List.map typing_form.enc d))]) (fun _=>rfl) ?_ (fun env H u=>?_)
 ·refine G0 1 Z ?_
  refine Lp [0] [5,6] (fun b=>[(2,.osl 0 0 b.1.length 1),(7,I b.2)]) (fun b=>[(0,.row 317 1 (List.map typing_form.enc b.1))]) w (fun _=>rfl) ?_ ?_
  ·refine Le.trans (Le.phantom (s:=2) (k:=1) (t:=317) (Nat.le_of_ble_eq_true Z) Z) ?_
   exact Lr [0]
  intro b x a g
  refine G0 6 Z (Yc Z a (fun j a=>?_) (fun j a=>?_))
  ·refine Gc 2 Z (Qj a ?_)
   obtain rfl:=Oj g a
   exact Gx 1 Z (QT (Lr [0]))
  refine Gc 6 Z (Bd a fun f l a=>IzE l (QfM f) Z (Go 9 Z ?_))
  refine vX (.iface 346 (.agg (typing_cond.c ({Cond:=f:typing_cond})))) (Qap Z runUnderlying346 (by intro m;nofun) Z) ?_
  refine vH (OpH.lit (xs:=[.tmp 14]) (es:=List.map typing_form.enc [typing_form.ctyping_cond ({Cond:=f:typing_cond})]) QbO Z Z Z Z Z ⟨Z,trivial⟩ Z Z) ?_
  refine FE Z (Bd a fun y p a=>?_)
  refine vH (QO (e:=typing_form.enc) p QbO runUnderlying285 (Yw (i:=2))) ?_
  exact FE Z (Go 8 Z (Qi a (Lr [3])))
 exact Gx 1 Z (TC.le u (Gc 7 Z (Rt h 2 [0])))
def F_j(n:Nat)(a:typing_cond):Option (List typing_form):=
  (F_gd n a.Cond.Parts).bind fun b=>some b
theorem k_j(n:Nat)(a:typing_cond)(r:List typing_form)(h:F_j n a=some r):
    C prog 293 [.agg (typing_cond.c ({Cond:=a.Cond:typing_cond}))] [] (RQ (fun r=>.osl 0 0 r.length 1) (fun r=>[.row 317 1 (List.map typing_form.enc r)]) r):=by
 refine Qa func293 Z Z Z ?_
 exact G0 11 Z (Cd [] h (k_gd _ _) Z fun d b h=>FE Z (Go 4 Z (Rt h 2 [1])))
def F_kx(n:Nat)(k:List typing_form)(l:Int)(rec93:(List typing_form)->Int->typing_count->Option (typing_count×Bool))(a:typing_count×Int):Option (Ctl (typing_count×Int) (Ctl typing_count (typing_count×Bool))):=
  (bif decide (a.2<(k.length:Int))then(idx k a.2).bind fun m=>typing_form.elim m (fun e=>((F_y n ({Cond:=e.Step.Cond:typing_cond})).bind fun p=>(bif (!p)then(rec93 [typing_form.ctyping_cond ({Cond:=e.Step.Cond:typing_cond})] 0 ({steps:=IntKind.i64.wrap (a.1.steps+1),conds:=a.1.conds:typing_count})).bind fun f=>some (f.1,(!f.2))else some ({steps:=IntKind.i64.wrap (a.1.steps+1),conds:=a.1.conds:typing_count},false)):Option (typing_count×Bool)).bind fun b=>(bif b.2 then some (.done (.done (b.1,false)))else((bif decide (64<b.1.steps)then some (b.1,true)else(bif decide (256<b.1.conds)then some (b.1,true)else(F_k n e).bind fun i=>(rec93 i (IntKind.i64.wrap (l+1)) b.1).bind fun g=>some (g.1,(!g.2)))):Option (typing_count×Bool)).bind fun c=>(bif c.2 then some (.done (.done (c.1,false)))else some (.cont (c.1,IntKind.i64.wrap (a.2+1)))))) (fun q=>((bif decide (64<a.1.steps)then some ({steps:=a.1.steps,conds:=IntKind.i64.wrap (a.1.conds+1):typing_count},true)else(bif decide (256<(IntKind.i64.wrap (a.1.conds+1)))then some ({steps:=a.1.steps,conds:=IntKind.i64.wrap (a.1.conds+1):typing_count},true)else(F_j n ({Cond:=q.Cond:typing_cond})).bind fun j=>(rec93 j (IntKind.i64.wrap (l+1)) ({steps:=a.1.steps,conds:=IntKind.i64.wrap (a.1.conds+1):typing_count})).bind fun h=>some (h.1,(!h.2)))):Option (typing_count×Bool)).bind fun d=>(bif d.2 then some (.done (.done (d.1,false)))else some (.cont (d.1,IntKind.i64.wrap (a.2+1)))))else some (.done (.cont a.1)))
def B_d(rec93:(List typing_form)->Int->typing_count->Option (typing_count×Bool))(n:Nat)(b:List typing_form)(c:Int)(d:typing_count):Option (typing_count×Bool):=
  ((bif decide (0<(b.length:Int))then some (decide (16<c))else some false):Option Bool).bind fun f=>(bif f then some (d,false)else(iter (F_kx n b c rec93) n (d,0):Option (Ctl typing_count (typing_count×Bool))).bind fun e=>match e with|.cont a=>(some (a,true))|.done a=>some a)
theorem Qaw(rec93:(List typing_form)->Int->typing_count->Option (typing_count×Bool))(i:∀(p:List typing_form) (x:Int) (y:typing_count) (r:typing_count×Bool),rec93 p x y=some r->C prog 253 [.ptr 0 0,.osl 1 0 p.length 1,I x] [.cells 313 (typing_count.c y),.row 317 1 (List.map typing_form.enc p)] (RQ (fun r=>.bool r.2) (fun r=>[.cells 313 (typing_count.c r.1),.row 317 1 (List.map typing_form.enc p)]) r))(n:Nat)(p:List typing_form)(x:Int)(y:typing_count)(r:typing_count×Bool)(h:B_d rec93 n p x y=some r):
    C prog 253 [.ptr 0 0,.osl 1 0 p.length 1,I x] [.cells 313 (typing_count.c y),.row 317 1 (List.map typing_form.enc p)] (RQ (fun r=>.bool r.2) (fun r=>[.cells 313 (typing_count.c r.1),.row 317 1 (List.map typing_form.enc p)]) r):=by
 refine Qa func253 Z Z Z ?_
 refine G0 7 Z (Bd h fun V B h=>?_)
 refine Ct V [0,1] [0,1,2] (fun V=>[(18,.bool V)]) (fun _=>[]) (fun _=>rfl) ?_ (fun env H f=>?_)
 ·refine G0 5 Z (Is 15 B Z (fun Y B=>?_) (fun Y B=>?_))
  ·exact Go 4 Z (Cl B [0,1])
  ·exact Go 4 Z (Cl B [0,1])
 refine Gx 1 Z (TC.le f (Cn Z h (fun aa h=>?_) (fun aa h=>?_)))
 ·exact Gc 7 Z (Rt h 6 [0,1])
 refine Gc 10 Z (Bd h fun ab ac h=>?_)
 refine YS (b:=ab) [0,1] [] (fun _=>[]) (fun E=>[(0,.cells 313 (typing_count.c E))]) (fun _=>rfl) ?_ (fun E env H ad f=>?_)
 ·refine G0 1 Z ?_
  refine Lp [0,1] [0,2,19,20] (fun t=>[(21,I t.2)]) (fun t=>[(0,.cells 313 (typing_count.c t.1))]) ac (fun _=>rfl) (Lr [0,1]) fun t an a q=>?_
  refine G0 6 Z (Yc Z a (fun W a=>?_) (fun W a=>?_))
  ·refine Gc 2 Z (Qj a ?_)
   obtain rfl:=Oj q a
   exact Gx 1 Z (Qm Z (Lr [0,1]))
  refine Gc 6 Z (Bd a fun T F a=>?_)
  refine vX (.ptr 1 (Int.toNat t.2*1)) (Yp F Z runUnderlying285 sizeOf317) ?_
  refine vX (typing_form.val T) (OpV.load Z isAgg317 Z (QJ F)) ?_
  refine Go 12 Z ?_
  rcases YT T with⟨l,hE90⟩|⟨w,hE92⟩
  ·have a:=YM hE90 a
   refine WO.le (QR (s:=8) (a':=.iface 320 (.agg (typing_step.c l))) Z (congrArg typing_form.val hE90)) ?_
   refine WO.le (QR (s:=24) (a':=.iface 320 (.agg (typing_step.c l))) Z (congrArg typing_form.val hE90)) ?_
   refine WO.le (QR (s:=25) (a':=.iface 320 (.agg (typing_step.c l))) Z (congrArg typing_form.val hE90)) ?_
   refine vX (.tup [.agg [I 0,I 0,I 0,.rsl 4 (List.map Cond.enc [])],.bool false]) (QeR (z:=(.agg [I 0,I 0,I 0,.rsl 4 (List.map Cond.enc [])])) runUnderlying346 (by intro m;nofun) Z zeroValue346 (zrC Z)) ?_
   refine Go 7 Z ?_
   refine vX (.tup [.agg (typing_step.c l),.bool true]) (Qa2 runUnderlying320 (by intro m;nofun)) ?_
   refine Go 34 Z (Bd a fun u g a=>?_)
   refine Ct u [0,1] [0,2,8,19,20,21] (fun u=>[(60,.bool u.2)]) (fun u=>[(0,.cells 313 (typing_count.c u.1))]) (fun _=>rfl) ?_ (fun env H f=>?_)
   ·refine G0 2 Z (Cz [] g (k_y _ _) Z fun ao ah g=>Go 2 Z (Is 53 g Z (fun X g=>?_) (fun X g=>?_)))
    ·refine Go 2 Z ?_
     refine vX (.iface 346 (.agg (typing_cond.c ({Cond:=l.Step.Cond:typing_cond})))) (Qap Z runUnderlying346 (by intro m;nofun) Z) ?_ (gT Z)
     refine vH (OpH.lit (xs:=[.tmp 56]) (es:=List.map typing_form.enc [typing_form.ctyping_cond ({Cond:=l.Step.Cond:typing_cond})]) QbO Z Z Z Z Z ⟨Z,trivial⟩ Z Z) ?_ (gT Z)
     exact FE Z (Cd [0,4] g (i _ _ _) Z fun ai ae g=>FE Z (Go 3 Z (Cl g [0,1])))
    ·exact Go 8 Z (Cl g [0,1])
   refine Gx 1 Z (TC.le f (Cn Z a (fun G a=>?_) (fun G a=>?_)))
   ·refine Gc 10 Z (Ql a ?_)
    obtain rfl:=Oj q a
    exact Gx 1 Z (Qk (Gx 1 Z (Rt h 6 [0,1])))
   refine Gc 4 Z (Bd a fun j d a=>?_)
   refine Ct j [0,1] [0,2,19,20,21] (fun j=>[(81,.bool j.2)]) (fun j=>[(0,.cells 313 (typing_count.c j.1))]) (fun _=>rfl) ?_ (fun env H f=>?_)
   ·refine G0 7 Z (Is 66 d Z (fun J d=>?_) (fun J d=>?_))
    ·exact Go 16 Z (Cl d [0,1])
    ·refine Go 7 Z (Is 73 d Z (fun L d=>?_) (fun L d=>?_))
     ·exact Go 9 Z (Cl d [0,1])
     ·refine Go 2 Z (Bd d fun aj M d=>?_)
      refine Qu [] (QcX call294 Z Z Z Z (fun _ _=>by kernel_rfl)) (k_k _ _ _ M) ?_ (hg:=(gT Z))
      rintro _ _ ⟨rfl,rfl⟩
      exact FE Z (Go 2 Z (Cd [0,2] d (i _ _ _) Z fun ak af d=>FE Z (Go 3 Z (Cl d [0,1]))))
   refine Gx 1 Z (TC.le f (Cn Z a (fun N a=>?_) (fun N a=>?_)))
   ·refine Gc 8 Z (Ql a ?_)
    obtain rfl:=Oj q a
    exact Gx 1 Z (Qk (Gx 1 Z (Rt h 6 [0,1])))
   exact Gc 7 Z (Qi a (Lr [0,1]))
  ·have a:=YL hE92 a
   refine WO.le (QR (s:=8) (a':=.iface 346 (.agg (typing_cond.c ({Cond:=w.Cond:typing_cond})))) Z (congrArg typing_form.val hE92)) ?_
   refine WO.le (QR (s:=24) (a':=.iface 346 (.agg (typing_cond.c ({Cond:=w.Cond:typing_cond})))) Z (congrArg typing_form.val hE92)) ?_
   refine WO.le (QR (s:=25) (a':=.iface 346 (.agg (typing_cond.c ({Cond:=w.Cond:typing_cond})))) Z (congrArg typing_form.val hE92)) ?_
   refine vX (.tup [.agg (typing_cond.c ({Cond:=w.Cond:typing_cond})),.bool true]) (Qa2 runUnderlying346 (by intro m;nofun)) ?_
   refine Go 24 Z (Bd a fun k e a=>?_)
   refine Ct k [0,1] [0,2,19,20,21] (fun k=>[(81,.bool k.2)]) (fun k=>[(0,.cells 313 (typing_count.c k.1))]) (fun _=>rfl) ?_ (fun env H f=>?_)
   ·refine G0 7 Z (Is 66 e Z (fun O e=>?_) (fun O e=>?_))
    ·exact Go 16 Z (Cl e [0,1])
    ·refine Go 7 Z (Is 73 e Z (fun P e=>?_) (fun P e=>?_))
     ·exact Go 9 Z (Cl e [0,1])
     ·refine Go 2 Z (Bd e fun al Q e=>?_)
      refine Qu [] (QcX call293 Z Z Z Z (fun _ _=>by kernel_rfl)) (k_j _ _ _ Q) ?_ (hg:=(gT Z))
      rintro _ _ ⟨rfl,rfl⟩
      exact FE Z (Go 2 Z (Cd [0,3] e (i _ _ _) Z fun am ag e=>FE Z (Go 3 Z (Cl e [0,1]))))
   refine Gx 1 Z (TC.le f (Cn Z a (fun R a=>?_) (fun R a=>?_)))
   ·refine Gc 8 Z (Ql a ?_)
    obtain rfl:=Oj q a
    exact Gx 1 Z (Qk (Gx 1 Z (Rt h 6 [0,1])))
   exact Gc 7 Z (Qi a (Lr [0,1]))
 subst ad
 exact Gx 1 Z (TC.le f (Gc 6 Z (Rt h 6 [0,1])))
def F_d:Nat->(List typing_form)->Int->typing_count->Option (typing_count×Bool)
  |0=>fun _ _ _=>none
  |n+1=>B_d (F_d n) n
theorem k_d(n:Nat):∀(a:List typing_form) (b:Int) (d:typing_count) (r:typing_count×Bool),F_d n a b d=some r->C prog 253 [.ptr 0 0,.osl 1 0 a.length 1,I b] [.cells 313 (typing_count.c d),.row 317 1 (List.map typing_form.enc a)] (RQ (fun r=>.bool r.2) (fun r=>[.cells 313 (typing_count.c r.1),.row 317 1 (List.map typing_form.enc a)]) r):=by
  induction n with
  |zero=>intro a b d r h;cases h
  |succ n ih=>intro a b d r h;exact Qaw _ ih n a b d r h
def F_ku(n:Nat)(k:List typing_form)(l:Int)(a:typing_count×Int):Option (Ctl (typing_count×Int) (Ctl typing_count (typing_count×Bool))):=
  (bif decide (a.2<(k.length:Int))then(idx k a.2).bind fun m=>typing_form.elim m (fun e=>((F_y n ({Cond:=e.Step.Cond:typing_cond})).bind fun p=>(bif (!p)then(F_d n [typing_form.ctyping_cond ({Cond:=e.Step.Cond:typing_cond})] 0 ({steps:=IntKind.i64.wrap (a.1.steps+1),conds:=a.1.conds:typing_count})).bind fun f=>some (f.1,(!f.2))else some ({steps:=IntKind.i64.wrap (a.1.steps+1),conds:=a.1.conds:typing_count},false)):Option (typing_count×Bool)).bind fun b=>(bif b.2 then some (.done (.done (b.1,false)))else((bif decide (64<b.1.steps)then some (b.1,true)else(bif decide (256<b.1.conds)then some (b.1,true)else(F_k n e).bind fun i=>(F_d n i (IntKind.i64.wrap (l+1)) b.1).bind fun g=>some (g.1,(!g.2)))):Option (typing_count×Bool)).bind fun c=>(bif c.2 then some (.done (.done (c.1,false)))else some (.cont (c.1,IntKind.i64.wrap (a.2+1)))))) (fun q=>((bif decide (64<a.1.steps)then some ({steps:=a.1.steps,conds:=IntKind.i64.wrap (a.1.conds+1):typing_count},true)else(bif decide (256<(IntKind.i64.wrap (a.1.conds+1)))then some ({steps:=a.1.steps,conds:=IntKind.i64.wrap (a.1.conds+1):typing_count},true)else(F_j n ({Cond:=q.Cond:typing_cond})).bind fun j=>(F_d n j (IntKind.i64.wrap (l+1)) ({steps:=a.1.steps,conds:=IntKind.i64.wrap (a.1.conds+1):typing_count})).bind fun h=>some (h.1,(!h.2)))):Option (typing_count×Bool)).bind fun d=>(bif d.2 then some (.done (.done (d.1,false)))else some (.cont (d.1,IntKind.i64.wrap (a.2+1)))))else some (.done (.cont a.1)))
def F_ey(n:Nat)(b:List typing_form)(c:Int)(d:typing_count):Option (typing_count×Bool):=
  ((bif decide (0<(b.length:Int))then some (decide (16<c))else some false):Option Bool).bind fun f=>(bif f then some (d,false)else(iter (F_ku n b c) n (d,0):Option (Ctl typing_count (typing_count×Bool))).bind fun e=>match e with|.cont a=>(some (a,true))|.done a=>some a)
theorem k_ey(n:Nat)(R:List typing_form)(T:Int)(V:typing_count)(r:typing_count×Bool)(h:F_ey n R T V=some r):
    C prog 253 [.ptr 0 0,.rsl 1 (List.map typing_form.enc R),I T] [.cells 313 (typing_count.c V)] (RQ (fun r=>.bool r.2) (fun r=>[.cells 313 (typing_count.c r.1)]) r):=by
 refine Qa func253 Z Z Z ?_
 refine G0 7 Z (Bd h fun N u h=>?_)
 refine Ct N [0] [0,1,2] (fun N=>[(18,.bool N)]) (fun _=>[]) (fun _=>rfl) ?_ (fun env H f=>?_)
 ·refine G0 2 Z (Lm Z (Go 2 Z (Is 15 u Z (fun W u=>?_) (fun W u=>?_))))
  ·exact Go 4 Z (Cl u [0])
  ·exact Go 4 Z (Cl u [0])
 refine Gx 1 Z (TC.le f (Cn Z h (fun X h=>?_) (fun X h=>?_)))
 ·exact Gc 7 Z (Rt h 6 [0])
 refine Gc 6 Z (Lm Z (Go 3 Z (Bd h fun Y aa h=>?_)))
 refine YS (b:=Y) [0] [] (fun _=>[]) (fun w=>[(0,.cells 313 (typing_count.c w))]) (fun _=>rfl) ?_ (fun w env H ab f=>?_)
 ·refine G0 1 Z ?_
  refine Lp [0] [0,2,19,20] (fun q=>[(21,I q.2)]) (fun q=>[(0,.cells 313 (typing_count.c q.1))]) aa (fun _=>rfl) (Lr [0]) fun q am a l=>?_
  refine G0 6 Z (Yc Z a (fun O a=>?_) (fun O a=>?_))
  ·refine Gc 2 Z (Qj a ?_)
   obtain rfl:=Oj l a
   exact Gx 1 Z (Qm Z (Lr [0]))
  refine Gc 6 Z (Bd a fun ac P a=>Iz P Z (Go 13 Z ?_))
  rcases YT ac with⟨k,hE90⟩|⟨t,hE92⟩
  ·have a:=YM hE90 a
   refine WO.le (QR (s:=8) (a':=.iface 320 (.agg (typing_step.c k))) Z (congrArg typing_form.val hE90)) ?_
   refine WO.le (QR (s:=24) (a':=.iface 320 (.agg (typing_step.c k))) Z (congrArg typing_form.val hE90)) ?_
   refine WO.le (QR (s:=25) (a':=.iface 320 (.agg (typing_step.c k))) Z (congrArg typing_form.val hE90)) ?_
   refine vX (.tup [.agg [I 0,I 0,I 0,.rsl 4 (List.map Cond.enc [])],.bool false]) (QeR (z:=(.agg [I 0,I 0,I 0,.rsl 4 (List.map Cond.enc [])])) runUnderlying346 (by intro m;nofun) Z zeroValue346 (zrC Z)) ?_
   refine Go 7 Z ?_
   refine vX (.tup [.agg (typing_step.c k),.bool true]) (Qa2 runUnderlying320 (by intro m;nofun)) ?_
   refine Go 34 Z (Bd a fun p g a=>?_)
   refine Ct p [0] [0,2,8,19,20,21] (fun p=>[(60,.bool p.2)]) (fun p=>[(0,.cells 313 (typing_count.c p.1))]) (fun _=>rfl) ?_ (fun env H f=>?_)
   ·refine G0 2 Z (Cz [] g (k_y _ _) Z fun an ag g=>Go 2 Z (Is 53 g Z (fun Q g=>?_) (fun Q g=>?_)))
    ·refine Go 2 Z ?_
     refine vX (.iface 346 (.agg (typing_cond.c ({Cond:=k.Step.Cond:typing_cond})))) (Qap Z runUnderlying346 (by intro m;nofun) Z) ?_ (gT Z)
     refine vH (OpH.lit (xs:=[.tmp 56]) (es:=List.map typing_form.enc [typing_form.ctyping_cond ({Cond:=k.Step.Cond:typing_cond})]) QbO Z Z Z Z Z ⟨Z,trivial⟩ Z Z) ?_ (gT Z)
     exact FE Z (Cd [0,3] g (k_d _ _ _ _) Z fun ah ad g=>FE Z (Go 3 Z (Cl g [0])))
    ·exact Go 8 Z (Cl g [0])
   refine Gx 1 Z (TC.le f (Cn Z a (fun x a=>?_) (fun x a=>?_)))
   ·refine Gc 10 Z (Ql a ?_)
    obtain rfl:=Oj l a
    exact Gx 1 Z (Qk (Gx 1 Z (Rt h 6 [0])))
   refine Gc 4 Z (Bd a fun i d a=>?_)
   refine Ct i [0] [0,2,19,20,21] (fun i=>[(81,.bool i.2)]) (fun i=>[(0,.cells 313 (typing_count.c i.1))]) (fun _=>rfl) ?_ (fun env H f=>?_)
   ·refine G0 7 Z (Is 66 d Z (fun y d=>?_) (fun y d=>?_))
    ·exact Go 16 Z (Cl d [0])
    ·refine Go 7 Z (Is 73 d Z (fun B d=>?_) (fun B d=>?_))
     ·exact Go 9 Z (Cl d [0])
     ·refine Go 2 Z (Bd d fun ai E d=>?_)
      refine Qu [] (QcX call294 Z Z Z Z (fun _ _=>by kernel_rfl)) (k_k _ _ _ E) ?_ (hg:=(gT Z))
      rintro _ _ ⟨rfl,rfl⟩
      exact FE Z (Go 2 Z (Cd [0,1] d (k_d _ _ _ _) Z fun aj ae d=>FE Z (Go 3 Z (Cl d [0]))))
   refine Gx 1 Z (TC.le f (Cn Z a (fun F a=>?_) (fun F a=>?_)))
   ·refine Gc 8 Z (Ql a ?_)
    obtain rfl:=Oj l a
    exact Gx 1 Z (Qk (Gx 1 Z (Rt h 6 [0])))
   exact Gc 7 Z (Qi a (Lr [0]))
  ·have a:=YL hE92 a
   refine WO.le (QR (s:=8) (a':=.iface 346 (.agg (typing_cond.c ({Cond:=t.Cond:typing_cond})))) Z (congrArg typing_form.val hE92)) ?_
   refine WO.le (QR (s:=24) (a':=.iface 346 (.agg (typing_cond.c ({Cond:=t.Cond:typing_cond})))) Z (congrArg typing_form.val hE92)) ?_
   refine WO.le (QR (s:=25) (a':=.iface 346 (.agg (typing_cond.c ({Cond:=t.Cond:typing_cond})))) Z (congrArg typing_form.val hE92)) ?_
   refine vX (.tup [.agg (typing_cond.c ({Cond:=t.Cond:typing_cond})),.bool true]) (Qa2 runUnderlying346 (by intro m;nofun)) ?_
   refine Go 24 Z (Bd a fun j e a=>?_)
   refine Ct j [0] [0,2,19,20,21] (fun j=>[(81,.bool j.2)]) (fun j=>[(0,.cells 313 (typing_count.c j.1))]) (fun _=>rfl) ?_ (fun env H f=>?_)
   ·refine G0 7 Z (Is 66 e Z (fun G e=>?_) (fun G e=>?_))
    ·exact Go 16 Z (Cl e [0])
    ·refine Go 7 Z (Is 73 e Z (fun J e=>?_) (fun J e=>?_))
     ·exact Go 9 Z (Cl e [0])
     ·refine Go 2 Z (Bd e fun ak L e=>?_)
      refine Qu [] (QcX call293 Z Z Z Z (fun _ _=>by kernel_rfl)) (k_j _ _ _ L) ?_ (hg:=(gT Z))
      rintro _ _ ⟨rfl,rfl⟩
      exact FE Z (Go 2 Z (Cd [0,2] e (k_d _ _ _ _) Z fun al af e=>FE Z (Go 3 Z (Cl e [0]))))
   refine Gx 1 Z (TC.le f (Cn Z a (fun M a=>?_) (fun M a=>?_)))
   ·refine Gc 8 Z (Ql a ?_)
    obtain rfl:=Oj l a
    exact Gx 1 Z (Qk (Gx 1 Z (Rt h 6 [0])))
   exact Gc 7 Z (Qi a (Lr [0]))
 subst ab
 exact Gx 1 Z (TC.le f (Gc 6 Z (Rt h 6 [0])))
def F_gn(rec97:(List typing_form)->Option Bool)(n:Nat)(a:typing_cond):Option Bool:=
  ((bif (a.Cond.Var==0)then some (a.Cond.N==0)else some false):Option Bool).bind fun c=>(bif (a.Cond.Kind==1)then((F_a n 1 3 [a.Cond.Var]).bind fun d=>(bif d then(F_a n 0 10000 [a.Cond.N]).bind fun e=>(bif e then some ((a.Cond.Parts.length:Int)==0)else some false)else some false):Option Bool).bind fun f=>some f else((bif (a.Cond.Kind==4)then(bif c then some (.cont ((a.Cond.Parts.length:Int)==1))else some (.cont false))else((bif (a.Cond.Kind==2)then some (a.Cond.Kind==2)else some (a.Cond.Kind==3)):Option Bool).bind fun g=>(bif g then(bif c then(bif decide (0<(a.Cond.Parts.length:Int))then some (.cont (decide ((a.Cond.Parts.length:Int)<=16)))else some (.cont false))else some (.cont false))else some (.done false))):Option (Ctl Bool Bool)).bind fun h=>match h with|.cont b=>(((bif b then(F_j n ({Cond:=a.Cond:typing_cond})).bind fun i=>(rec97 i).bind fun j=>some (!j)else some false):Option Bool).bind fun k=>some k)|.done b=>some b)
theorem k_gn(rec97:(List typing_form)->Option Bool)(j:∀(g:List typing_form) (r:Bool),rec97 g=some r->Csm prog 254 [.rsl 1 (List.map typing_form.enc g),.fn (.func 255) [] []] [] (fun r=>.bool r) r)(n:Nat)(g:typing_cond)(r:Bool)(h:F_gn rec97 n g=some r):
    Csm prog 286 [.iface 346 (.agg (typing_cond.c ({Cond:=g.Cond:typing_cond})))] [] (fun r=>.bool r) r:=by
 refine Qa func286 Z Z Z ?_
 refine G0 14 Z ?_
 refine vX (.tup [.agg (typing_cond.c ({Cond:=g.Cond:typing_cond})),.bool true]) (Qa2 runUnderlying346 (by intro m;nofun)) ?_
 refine Go 12 Z (Bd h fun t k h=>?_)
 refine Ct t [0] [3] (fun t=>[(4,.bool t)]) (fun _=>[]) (fun _=>rfl) ?_ (fun env H e=>?_)
 ·refine G0 6 Z (Is 15 k Z (fun J k=>?_) (fun J k=>?_))
  ·exact Go 7 Z (Cl k [0])
  ·exact Go 7 Z (Cl k [0])
 refine Gx 1 Z (TC.le e (Gc 15 Z (Cn Z h (fun L h=>?_) (fun L h=>?_))))
 ·refine Gc 1 Z (Bd h fun l d h=>?_)
  refine Ct l [] [] (fun l=>[(2,.bool l)]) (fun _=>[]) (fun _=>rfl) ?_ (fun env H e=>?_)
  ·refine G0 4 Z ?_
   refine vH (OpH.lit (xs:=[.tmp 28]) (es:=List.map (Qd .i64) [g.Cond.Var]) Qw Z Z Z Z Z ⟨Z,trivial⟩ Z Z) ?_
   refine FE Z (Cb d (k_a _ _ _ _) Z (ls (ls (lo ln))) fun T O d=>Go 1 Z (Is 31 d Z (fun u d=>?_) (fun u d=>?_)))
   ·refine Go 3 Z ?_
    refine vH (OpH.lit (xs:=[.tmp 34]) (es:=List.map (Qd .i64) [g.Cond.N]) Qw Z Z Z Z Z ⟨Z,trivial⟩ Z Z) ?_ (gT Z)
    refine FE Z (Cb d (k_a _ _ _ _) Z (ls (ls (lo ln))) fun V P d=>Go 2 Z (Is 38 d Z (fun w d=>?_) (fun w d=>?_)))
    ·exact Go 3 Z (Lm Z (Go 4 Z (Cl d [])))
    ·exact Go 8 Z (Cl d [])
   ·exact Go 15 Z (Cl d [])
  exact Gx 1 Z (TC.le e (Gc 5 Z (Rt h 2 [])))
 refine Gc 6 Z (Bd h fun M a h=>?_)
 refine YS (b:=M) [0] [3] (fun p=>[(4,.bool p)]) (fun _=>[]) (fun _=>rfl) ?_ (fun p env H hb e=>?_)
 ·refine G0 0 Z (Cn Z a (fun x a=>?_) (fun x a=>?_))
  ·refine Gc 3 Z (Is 48 a Z (fun y a=>?_) (fun y a=>?_))
   ·refine Go 3 Z (Lm Z (Go 4 Z ?_))
    cases a
    exact Qm Z (Lr [0])
   ·refine Go 8 Z ?_
    cases a
    exact Qm Z (Lr [0])
  refine Gc 7 Z (Bd a fun q i a=>?_)
  refine Ct q [0] [3,4] (fun q=>[(55,.bool q)]) (fun _=>[]) (fun _=>rfl) ?_ (fun env H e=>?_)
  ·refine G0 0 Z (Cn Z i (fun z i=>?_) (fun z i=>?_))
   ·exact Gc 1 Z (Cl i [0])
   exact Gc 4 Z (Cl i [0])
  refine Gx 1 Z (TC.le e (Yc Z a (fun B a=>?_) (fun B a=>?_)))
  ·refine Gc 6 Z ?_
   cases a
   exact Qk (Gx 4 Z (Rt h 2 []))
  refine Gc 3 Z (Is 59 a Z (fun E a=>?_) (fun E a=>?_))
  ·refine Go 3 Z (Lm Z (Go 3 Z (Is 66 a Z (fun F a=>?_) (fun F a=>?_))))
   ·refine Go 3 Z (Lm Z (Go 4 Z ?_))
    cases a
    exact Qm Z (Lr [0])
   ·refine Go 8 Z ?_
    cases a
    exact Qm Z (Lr [0])
  ·refine Go 15 Z ?_
   cases a
   exact Qm Z (Lr [0])
 subst hb
 refine Gx 2 Z (TC.le e (Gc 1 Z (Bd h fun s f h=>?_)))
 refine Ct s [] [] (fun s=>[(2,.bool s)]) (fun _=>[]) (fun _=>rfl) ?_ (fun env H e=>?_)
 ·refine G0 3 Z (Is 74 f Z (fun G f=>?_) (fun G f=>?_))
  ·exact Go 1 Z (Cd [] f (k_j _ _) Z fun W Q f=>FE Z (Cb f (j _) Z (lo (ls ln)) fun X R f=>Go 4 Z (Cl f [])))
  ·exact Go 7 Z (Cl f [])
 exact Gx 1 Z (TC.le e (Gc 3 Z (Rt h 2 [])))
def F_do(rec97:(List typing_form)->Option Bool)(n:Nat)(x:typing_form):Option Bool:=
  typing_form.elim x (fun b=>(bif (b.Step.Kind==1)then((F_a n 1 5 [b.Step.By]).bind fun e=>(bif e then(F_y n ({Cond:=b.Step.Cond:typing_cond})).bind fun f=>(bif f then(F_k n b).bind fun g=>some ((g.length:Int)==0)else some false)else some false):Option Bool).bind fun h=>some h else(bif (b.Step.Kind==2)then((bif (b.Step.By==0)then(F_gn rec97 n ({Cond:=b.Step.Cond:typing_cond})).bind fun i=>(bif i then(bif decide (0<(b.Step.Then.length:Int))then(F_k n b).bind fun j=>(rec97 j).bind fun k=>some (!k)else some false)else some false)else some false):Option Bool).bind fun l=>some l else some false))) (fun a=>((bif (a.Cond.Var==0)then some (a.Cond.N==0)else some false):Option Bool).bind fun d=>(bif (a.Cond.Kind==1)then((F_a n 1 3 [a.Cond.Var]).bind fun m=>(bif m then(F_a n 0 10000 [a.Cond.N]).bind fun p=>(bif p then some ((a.Cond.Parts.length:Int)==0)else some false)else some false):Option Bool).bind fun q=>some q else((bif (a.Cond.Kind==4)then(bif d then some (.cont ((a.Cond.Parts.length:Int)==1))else some (.cont false))else((bif (a.Cond.Kind==2)then some (a.Cond.Kind==2)else some (a.Cond.Kind==3)):Option Bool).bind fun r=>(bif r then(bif d then(bif decide (0<(a.Cond.Parts.length:Int))then some (.cont (decide ((a.Cond.Parts.length:Int)<=16)))else some (.cont false))else some (.cont false))else some (.done false))):Option (Ctl Bool Bool)).bind fun s=>match s with|.cont c=>(((bif c then(F_j n ({Cond:=a.Cond:typing_cond})).bind fun t=>(rec97 t).bind fun u=>some (!u)else some false):Option Bool).bind fun w=>some w)|.done c=>some c))
theorem k_do(rec97:(List typing_form)->Option Bool)(j:∀(p:List typing_form) (r:Bool),rec97 p=some r->Csm prog 254 [.rsl 1 (List.map typing_form.enc p),.fn (.func 255) [] []] [] (fun r=>.bool r) r)(n:Nat)(p:typing_form)(r:Bool)(h:F_do rec97 n p=some r):
    Csm prog 286 [typing_form.val p] [] (fun r=>.bool r) r:=by
 refine Qa func286 Z Z Z ?_
 refine G0 14 Z ?_
 rcases YT p with⟨q,hE2⟩|⟨t,hE4⟩
 ·have h:=YM hE2 h
  refine WO.le (QR (s:=0) (a':=.iface 320 (.agg (typing_step.c q))) Z (congrArg typing_form.val hE2)) ?_
  refine WO.le (QR (s:=7) (a':=.iface 320 (.agg (typing_step.c q))) Z (congrArg typing_form.val hE2)) ?_
  refine vX (.tup [.agg [I 0,I 0,I 0,.rsl 4 (List.map Cond.enc [])],.bool false]) (QeR (z:=(.agg [I 0,I 0,I 0,.rsl 4 (List.map Cond.enc [])])) runUnderlying346 (by intro m;nofun) Z zeroValue346 (zrC Z)) ?_
  refine Go 7 Z ?_
  refine vX (.tup [.agg (typing_step.c q),.bool true]) (Qa2 runUnderlying320 (by intro m;nofun)) ?_
  refine Go 35 Z (Cn Z h (fun ae h=>?_) (fun ae h=>?_))
  ·refine Gc 1 Z (Bd h fun u e h=>?_)
   refine Ct u [] [] (fun u=>[(2,.bool u)]) (fun _=>[]) (fun _=>rfl) ?_ (fun env H f=>?_)
   ·refine G0 4 Z ?_
    refine vH (OpH.lit (xs:=[.tmp 94]) (es:=List.map (Qd .i64) [q.Step.By]) Qw Z Z Z Z Z ⟨Z,trivial⟩ Z Z) ?_
    refine FE Z (Cb e (k_a _ _ _ _) Z (ls (ls (lo ln))) fun ar ag e=>Go 1 Z (Is 97 e Z (fun G e=>?_) (fun G e=>?_)))
    ·refine Go 1 Z (Cz [] e (k_y _ _) Z fun au ah e=>Go 2 Z (Is 101 e Z (fun J e=>?_) (fun J e=>?_)))
     ·exact Go 1 Z (Cd [] e (k_k _ _) Z fun av ai e=>FE Z (Go 5 Z (Cl e [])))
     ·exact Go 7 Z (Cl e [])
    ·exact Go 11 Z (Cl e [])
   exact Gx 1 Z (TC.le f (Gc 4 Z (Rt h 2 [])))
  refine Gc 6 Z (Cn Z h (fun L h=>?_) (fun L h=>?_))
  ·refine Gc 1 Z (Bd h fun w d h=>?_)
   refine Ct w [] [] (fun w=>[(2,.bool w)]) (fun _=>[]) (fun _=>rfl) ?_ (fun env H f=>?_)
   ·refine G0 6 Z (Is 113 d Z (fun M d=>?_) (fun M d=>?_))
    ·refine Go 1 Z ?_
     refine vX (.iface 346 (.agg (typing_cond.c ({Cond:=q.Step.Cond:typing_cond})))) (Qap Z runUnderlying346 (by intro m;nofun) Z) ?_ (gT Z)
     refine Cz [] d (k_gn rec97 j _ _) Z fun aw aj d=>Go 2 Z (Is 118 d Z (fun O d=>?_) (fun O d=>?_))
     ·refine Go 3 Z (Lm Z (Go 3 Z (Is 125 d Z (fun P d=>?_) (fun P d=>?_))))
      ·exact Go 1 Z (Cd [] d (k_k _ _) Z fun ax ak d=>FE Z (Cb d (j _) Z (lo (ls ln)) fun ay al d=>Go 4 Z (Cl d [])))
      ·exact Go 7 Z (Cl d [])
     ·exact Go 14 Z (Cl d [])
    ·exact Go 19 Z (Cl d [])
   exact Gx 1 Z (TC.le f (Gc 4 Z (Rt h 2 [])))
  exact Gc 10 Z (Rt h 2 [])
 ·have h:=YL hE4 h
  refine WO.le (QR (s:=0) (a':=.iface 346 (.agg (typing_cond.c ({Cond:=t.Cond:typing_cond})))) Z (congrArg typing_form.val hE4)) ?_
  refine WO.le (QR (s:=7) (a':=.iface 346 (.agg (typing_cond.c ({Cond:=t.Cond:typing_cond})))) Z (congrArg typing_form.val hE4)) ?_
  refine vX (.tup [.agg (typing_cond.c ({Cond:=t.Cond:typing_cond})),.bool true]) (Qa2 runUnderlying346 (by intro m;nofun)) ?_
  refine Go 12 Z (Bd h fun x k h=>?_)
  refine Ct x [0] [3] (fun x=>[(4,.bool x)]) (fun _=>[]) (fun _=>rfl) ?_ (fun env H f=>?_)
  ·refine G0 6 Z (Is 15 k Z (fun Q k=>?_) (fun Q k=>?_))
   ·exact Go 7 Z (Cl k [0])
   ·exact Go 7 Z (Cl k [0])
  refine Gx 1 Z (TC.le f (Gc 15 Z (Cn Z h (fun R h=>?_) (fun R h=>?_))))
  ·refine Gc 1 Z (Bd h fun y g h=>?_)
   refine Ct y [] [] (fun y=>[(2,.bool y)]) (fun _=>[]) (fun _=>rfl) ?_ (fun env H f=>?_)
   ·refine G0 4 Z ?_
    refine vH (OpH.lit (xs:=[.tmp 28]) (es:=List.map (Qd .i64) [t.Cond.Var]) Qw Z Z Z Z Z ⟨Z,trivial⟩ Z Z) ?_
    refine FE Z (Cb g (k_a _ _ _ _) Z (ls (ls (lo ln))) fun az am g=>Go 1 Z (Is 31 g Z (fun T g=>?_) (fun T g=>?_)))
    ·refine Go 3 Z ?_
     refine vH (OpH.lit (xs:=[.tmp 34]) (es:=List.map (Qd .i64) [t.Cond.N]) Qw Z Z Z Z Z ⟨Z,trivial⟩ Z Z) ?_ (gT Z)
     refine FE Z (Cb g (k_a _ _ _ _) Z (ls (ls (lo ln))) fun ba an g=>Go 2 Z (Is 38 g Z (fun V g=>?_) (fun V g=>?_)))
     ·exact Go 3 Z (Lm Z (Go 4 Z (Cl g [])))
     ·exact Go 8 Z (Cl g [])
    ·exact Go 15 Z (Cl g [])
   exact Gx 1 Z (TC.le f (Gc 5 Z (Rt h 2 [])))
  refine Gc 6 Z (Bd h fun af a h=>?_)
  refine YS (b:=af) [0] [3] (fun B=>[(4,.bool B)]) (fun _=>[]) (fun _=>rfl) ?_ (fun B env H hb f=>?_)
  ·refine G0 0 Z (Cn Z a (fun W a=>?_) (fun W a=>?_))
   ·refine Gc 3 Z (Is 48 a Z (fun X a=>?_) (fun X a=>?_))
    ·refine Go 3 Z (Lm Z (Go 4 Z ?_))
     cases a
     exact Qm Z (Lr [0])
    ·refine Go 8 Z ?_
     cases a
     exact Qm Z (Lr [0])
   refine Gc 7 Z (Bd a fun E l a=>?_)
   refine Ct E [0] [3,4] (fun E=>[(55,.bool E)]) (fun _=>[]) (fun _=>rfl) ?_ (fun env H f=>?_)
   ·refine G0 0 Z (Cn Z l (fun Y l=>?_) (fun Y l=>?_))
    ·exact Gc 1 Z (Cl l [0])
    exact Gc 4 Z (Cl l [0])
   refine Gx 1 Z (TC.le f (Yc Z a (fun aa a=>?_) (fun aa a=>?_)))
   ·refine Gc 6 Z ?_
    cases a
    exact Qk (Gx 4 Z (Rt h 2 []))
   refine Gc 3 Z (Is 59 a Z (fun ab a=>?_) (fun ab a=>?_))
   ·refine Go 3 Z (Lm Z (Go 3 Z (Is 66 a Z (fun ac a=>?_) (fun ac a=>?_))))
    ·refine Go 3 Z (Lm Z (Go 4 Z ?_))
     cases a
     exact Qm Z (Lr [0])
    ·refine Go 8 Z ?_
     cases a
     exact Qm Z (Lr [0])
   ·refine Go 15 Z ?_
    cases a
    exact Qm Z (Lr [0])
  subst hb
  refine Gx 2 Z (TC.le f (Gc 1 Z (Bd h fun F i h=>?_)))
  refine Ct F [] [] (fun F=>[(2,.bool F)]) (fun _=>[]) (fun _=>rfl) ?_ (fun env H f=>?_)
  ·refine G0 3 Z (Is 74 i Z (fun ad i=>?_) (fun ad i=>?_))
   ·exact Go 1 Z (Cd [] i (k_j _ _) Z fun bb ao i=>FE Z (Cb i (j _) Z (lo (ls ln)) fun bc aq i=>Go 4 Z (Cl i [])))
   ·exact Go 7 Z (Cl i [])
  exact Gx 1 Z (TC.le f (Gc 3 Z (Rt h 2 [])))
def F_ht(rec97:(List typing_form)->Option Bool)(n:Nat)(a:typing_form):Option Bool:=
  (F_do rec97 n a).bind fun b=>some (!b)
theorem k_ht(rec97:(List typing_form)->Option Bool)(a:∀(b:List typing_form) (r:Bool),rec97 b=some r->Csm prog 254 [.rsl 1 (List.map typing_form.enc b),.fn (.func 255) [] []] [] (fun r=>.bool r) r)(n:Nat)(b:typing_form)(r:Bool)(h:F_ht rec97 n b=some r):
    Csm prog 255 [typing_form.val b] [] (fun r=>.bool r) r:=by
 refine Qa func255 Z Z Z ?_
 exact G0 8 Z (Bd h fun d c h=>Pc [] Z (OpC.fn call286 Z Z Z) (k_do rec97 a _ _ _ c) (hargs:=by first|exact Z|exact Eq.trans (by exact Z) (Qah _ (by simp[Q6,Q2,typing_form.data])).symm) Z (Go 5 Z (Rt h 2 [])))
def F_kn(n:Nat)(b:List typing_form)(rec97:(List typing_form)->Option Bool)(a:Int):Option (Ctl Int (Ctl Unit Int)):=
  (bif decide (a<(b.length:Int))then(idx b a).bind fun c=>(F_ht rec97 n c).bind fun d=>(bif d then some (.done (.done a))else some (.cont (IntKind.i64.wrap (a+1))))else some (.done (.cont ())))
def F_ig(rec97:(List typing_form)->Option Bool)(n:Nat)(c:List typing_form):Option Int:=
  (iter (F_kn n c rec97) n 0:Option (Ctl Unit Int)).bind fun b=>match b with|.cont a=>(some (-1))|.done a=>some a
theorem k_ig(rec97:(List typing_form)->Option Bool)(c:∀(d:List typing_form) (r:Bool),rec97 d=some r->Csm prog 254 [.rsl 1 (List.map typing_form.enc d),.fn (.func 255) [] []] [] (fun r=>.bool r) r)(n:Nat)(d:List typing_form)(r:Int)(h:F_ig rec97 n d=some r):
    Csm prog 285 [.rsl 1 (List.map typing_form.enc d),.fn (.func 255) [] []] [] (fun r=>I r) r:=by
 refine Qa func285 Z Z Z ?_
 refine G0 9 Z (Lm Z (Go 3 Z (Bd h fun l m h=>?_)))
 refine YS (b:=l) [] [] (fun _=>[]) (fun _=>[]) (fun _=>rfl) ?_ (fun s env H p q=>?_)
 ·refine G0 1 Z ?_
  refine Lp [] [0,1,7] (fun f=>[(8,I f)]) (fun _=>[]) m (fun _=>rfl) (Lr []) fun f t a e=>?_
  refine G0 6 Z (Yc Z a (fun g a=>?_) (fun g a=>?_))
  ·refine Gc 2 Z (Qj a ?_)
   obtain rfl:=Oj e a
   exact Gx 1 Z (Qm Z (Lr []))
  refine Gc 15 Z (Bd a fun u i a=>Iz i Z (Go 1 Z (Bd a fun w j a=>Pc [] Z (QeT call255 Z Z Z Z) (k_ht rec97 c _ _ _ j) (hargs:=by first|exact Z|exact Eq.trans (by exact Z) (Qah _ (by simp[Q6,Q2,typing_form.data])).symm) Z (Go 2 Z (Cn Z a (fun k a=>?_) (fun k a=>?_))))))
  ·refine Gc 9 Z (Ql a ?_)
   obtain rfl:=Oj e a
   exact Gx 1 Z (Qk (Gx 1 Z (Rt h 4 [])))
  exact Gc 7 Z (Qi a (Lr []))
 subst p
 exact Gx 1 Z (TC.le q (Gc 6 Z (Rt h 4 [])))
def B_t(rec97:(List typing_form)->Option Bool)(n:Nat)(a:List typing_form):Option Bool:=
  (F_ig rec97 n a).bind fun b=>some (decide (0<=b))
theorem Qax(rec97:(List typing_form)->Option Bool)(a:∀(b:List typing_form) (r:Bool),rec97 b=some r->Csm prog 254 [.rsl 1 (List.map typing_form.enc b),.fn (.func 255) [] []] [] (fun r=>.bool r) r)(n:Nat)(b:List typing_form)(r:Bool)(h:B_t rec97 n b=some r):
    Csm prog 254 [.rsl 1 (List.map typing_form.enc b),.fn (.func 255) [] []] [] (fun r=>.bool r) r:=by
 refine Qa func254 Z Z Z ?_
 exact G0 9 Z (Cz [] h (k_ig rec97 a _ _) Z fun d c h=>Go 5 Z (Rt h 4 []))
def F_t:Nat->(List typing_form)->Option Bool
  |0=>fun _=>none
  |n+1=>B_t (F_t n) n
theorem k_t(n:Nat):∀(a:List typing_form) (r:Bool),F_t n a=some r->Csm prog 254 [.rsl 1 (List.map typing_form.enc a),.fn (.func 255) [] []] [] (fun r=>.bool r) r:=by
  induction n with
  |zero=>intro a r h;cases h
  |succ n ih=>intro a r h;exact Qax _ ih n a r h
def F_ex(n:Nat)(a:List typing_form):Option Int:=
  (F_ey n a 0 ({steps:=0,conds:=0:typing_count})).bind fun b=>(bif (!b.2)then some 2 else((bif ((a.length:Int)==0)then some true else(F_t n a).bind fun c=>some c):Option Bool).bind fun d=>(bif d then some 71 else some 0))
theorem k_ex(n:Nat)(c:List typing_form)(r:Int)(h:F_ex n c=some r):
    Csm prog 200 [.rsl 1 (List.map typing_form.enc c)] [] (fun r=>I r) r:=by
 refine Qa func200 Z Z Z ?_
 refine G0 17 Z (Cd [0] h (k_ey _ _ _ _) Z fun k i h=>FE Z (Go 3 Z (Cn Z h (fun d h=>?_) (fun d h=>?_))))
 ·exact Gc 7 Z (Rt h 2 [])
 refine Gc 4 Z (Bd h fun b a h=>?_)
 refine Ct b [] [] (fun b=>[(16,.bool b)]) (fun _=>[]) (fun _=>rfl) ?_ (fun env H e=>?_)
 ·refine G0 2 Z (Lm Z (Go 2 Z (Is 13 a Z (fun f a=>?_) (fun f a=>?_))))
  ·exact Go 4 Z (Cl a [])
  ·exact Go 1 Z (Cz [] a (k_t _ _) Z fun l j a=>Go 2 Z (Cl a []))
 refine Gx 1 Z (TC.le e (Cn Z h (fun g h=>?_) (fun g h=>?_)))
 ·exact Gc 7 Z (Rt h 2 [])
 exact Gc 8 Z (Rt h 2 [])
def F_gl(n:Nat)(a:List Step):Option Int:=
  (F_z n a).bind fun b=>(F_ex n b).bind fun c=>some c
theorem k_gl(n:Nat)(a:List Step)(r:Int)(h:F_gl n a=some r):
    Csm prog 115 [.rsl 8 (List.map Step.enc a)] [] (fun r=>I r) r:=by
 refine Qa func115 Z Z Z ?_
 exact G0 8 Z (Cd [] h (k_z _ _) Z fun d b h=>FE Z (Cb h (k_ex _ _) Z (lo ln) fun e c h=>Go 4 Z (Rt h 2 [])))
def F_ln(n:Nat)(b:Part)(c:List Int)(a:(List Int)×Int):Option (Ctl ((List Int)×Int) (Ctl (List Int) (Ctl ((List Int)×Int) (Ctl (List Int) (List Int))))):=
  (bif decide (a.2<(if b.Laps<1 then 1 else b.Laps))then(bif decide (256<(a.1.length:Int))then some (.done (.done (.done (.done a.1))))else(app a.1 c).bind fun d=>some (.cont (d,IntKind.i64.wrap (a.2+1))))else some (.done (.cont a.1)))
def F_kb(n:Nat)(d:List Part)(rec116:(List Part)->Option (List Int))(a:(List Int)×Int):Option (Ctl ((List Int)×Int) (Ctl (List Int) (List Int))):=
  (bif decide (a.2<(d.length:Int))then(idx d a.2).bind fun c=>((bif decide (0<c.Laps)then(rec116 c.Parts).bind fun e=>some e else some [c.Mat]):Option (List Int)).bind fun f=>(iter (F_ln n c f) n (a.1,0):Option (Ctl (List Int) (Ctl ((List Int)×Int) (Ctl (List Int) (List Int))))).bind fun g=>match g with|.cont b=>(some (.cont (b,IntKind.i64.wrap (a.2+1))))|.done b=>some b else some (.done (.cont a.1)))
def B_v(rec116:(List Part)->Option (List Int))(n:Nat)(c:List Part):Option (List Int):=
  (iter (F_kb n c rec116) n ([],0):Option (Ctl (List Int) (List Int))).bind fun b=>match b with|.cont a=>(some a)|.done a=>some a
theorem Qb1(rec116:(List Part)->Option (List Int))(u:∀(w:List Part) (r:List Int),rec116 w=some r->C prog 204 [.rsl 3 (List.map Part.enc w)] [] (RQ (fun r=>.osl 0 0 r.length 1) (fun r=>[.row 3 1 (List.map (Qd .i64) r)]) r))(n:Nat)(w:List Part)(r:List Int)(h:B_v rec116 n w=some r):
    C prog 204 [.rsl 3 (List.map Part.enc w)] [] (RQ (fun r=>.osl 0 0 r.length 1) (fun r=>[.row 3 1 (List.map (Qd .i64) r)]) r):=by
 refine Qa func204 Z Z Z ?_
 refine G0 9 Z (Lm Z (Go 3 Z (Bd h fun M N h=>?_)))
 refine YS (b:=M) [0] [] (fun f=>[(2,.osl 0 0 f.length 1)]) (fun f=>[(0,.row 3 1 (List.map (Qd .i64) f))]) (fun _=>rfl) ?_ (fun f env H x j=>?_)
 ·refine G0 1 Z ?_
  refine Lp [0] [6,7] (fun l=>[(2,.osl 0 0 l.1.length 1),(8,I l.2)]) (fun l=>[(0,.row 3 1 (List.map (Qd .i64) l.1))]) N (fun _=>rfl) ?_ ?_
  ·refine Le.trans (Le.phantom (s:=2) (k:=1) (t:=3) (Nat.le_of_ble_eq_true Z) Z) ?_
   exact Lr [0]
  intro l R a y
  refine G0 6 Z (Yc Z a (fun B a=>?_) (fun B a=>?_))
  ·refine Gc 2 Z (Qj a ?_)
   obtain rfl:=Oj y a
   exact Gx 1 Z (Qm Z (Lr [0]))
  refine Gc 6 Z (Bd a fun q E a=>IzE E (Qbp q) Z (Go 9 Z ?_))
  refine vH (OpH.lit (xs:=[.tmp 13]) (es:=List.map (Qd .i64) [q.Mat]) Qw Z Z Z Z Z ⟨Z,trivial⟩ Z Z) ?_
  refine FE Z (Go 11 Z (Bd a fun m d a=>?_))
  refine Ct m [0,1,0] [2,4,6,7,8] (fun m=>[(5,.osl 2 0 m.length 1)]) (fun m=>[(2,.row 3 1 (List.map (Qd .i64) m))]) (fun _=>rfl) ?_ (fun env H j=>?_)
  ·refine G0 0 Z (Cn Z d (fun F d=>?_) (fun F d=>?_))
   ·exact Gc 3 Z (Cd [] d (u _) Z fun T Q d=>FE Z (Go 2 Z (Cl d [0,1,3])))
   exact Gc 1 Z (Cl d [0,1,2])
  refine Gx 1 Z (TC.le j (Gc 4 Z ?_))
  refine vX (I (if q.Laps<1 then 1 else q.Laps)) (OpV.max Z Z Z Z) ?_
  refine Go 3 Z (Bd a fun O P a=>?_)
  refine YS (b:=O) [0] [6,7,8] (fun g=>[(2,.osl 0 0 g.length 1)]) (fun g=>[(0,.row 3 1 (List.map (Qd .i64) g))]) (fun _=>rfl) ?_ (fun g env H x j=>?_)
  ·refine G0 1 Z ?_
   refine Lp [0,2] [5,6,7,8,23] (fun p=>[(2,.osl 0 0 p.1.length 1),(24,I p.2)]) (fun p=>[(0,.row 3 1 (List.map (Qd .i64) p.1))]) P (fun _=>rfl) (Lr [0,2]) fun p V c z=>?_
   refine G0 6 Z (Yc Z c (fun G c=>?_) (fun G c=>?_))
   ·refine Gc 2 Z (Qj c ?_)
    obtain rfl:=Oj z c
    exact Gx 1 Z (Qm Z (Lr [0]))
   refine Gc 12 Z (Cn Z c (fun J c=>?_) (fun J c=>?_))
   ·refine Gc 10 Z (Ql c ?_)
    obtain rfl:=Oj z c
    refine Gx 1 Z (Qk (Gx 2 Z (Ql a ?_)))
    obtain rfl:=Oj y a
    exact Gx 1 Z (Qk (Gx 1 Z (Rt h 2 [0])))
   refine Gc 5 Z (Bd c fun W L c=>?_)
   refine vH (QO (e:=(Qd .i64)) L Qw runUnderlying32 (Yw (i:=1))) ?_
   exact FE Z (Go 8 Z (Qi c (Lr [2,1])))
  subst x
  exact Gx 2 Z (TC.le j (Gc 4 Z (Qi a (Lr [0]))))
 subst x
 exact Gx 1 Z (TC.le j (Gc 7 Z (Rt h 2 [0])))
def F_v:Nat->(List Part)->Option (List Int)
  |0=>fun _=>none
  |n+1=>B_v (F_v n) n
theorem k_v(n:Nat):∀(a:List Part) (r:List Int),F_v n a=some r->C prog 204 [.rsl 3 (List.map Part.enc a)] [] (RQ (fun r=>.osl 0 0 r.length 1) (fun r=>[.row 3 1 (List.map (Qd .i64) r)]) r):=by
  induction n with
  |zero=>intro a r h;cases h
  |succ n ih=>intro a r h;exact Qb1 _ ih n a r h
def F_dr(n:Nat)(a:Cutoff)(b:List (Int×Int)):Option Bool:=
  (some (Qae b a.Mat 0)).bind fun c=>some (decide (a.Lap<=c))
theorem k_dr(n:Nat)(a:Cutoff)(b:List (Int×Int))(r:Bool)(h:F_dr n a b=some r):
    Csm prog 205 [.agg (Cutoff.c a),.ptr 0 0] [.cells 103 [.map 1],.map (Qt (fun x=>A.int .i64 x) (fun x=>A.int .i64 x) b)] (fun r=>.bool r) r:=by
 refine Qa func205 Z Z Z ?_
 refine G0 11 Z (Bd h fun e d h=>?_)
 refine vX (I e) (YC (ev:=(fun x=>A.int .i64 x)) (z0:=0) (k:=a.Mat) (l:=b) Qa9 d underlying103 zeroValue3 ZR.int) ?_
 exact Go 7 Z (Rt h 3 [0,1])
def F_cv(n:Nat)(a:Cutoff)(b:List (Int×Int)):Option Bool:=
  (F_dr n a b).bind fun c=>some (!c)
theorem k_cv(n:Nat)(a:Cutoff)(b:List (Int×Int))(r:Bool)(h:F_cv n a b=some r):
    Csm prog 240 [.agg (Cutoff.c a),.ptr 0 0] [.cells 264 [.fn (.func 205) [] [.ptr 1 0]],.cells 103 [.map 2],.map (Qt (fun x=>A.int .i64 x) (fun x=>A.int .i64 x) b)] (fun r=>.bool r) r:=by
 refine Qa func240 Z Z Z ?_
 exact G0 10 Z (Cz [1,2] h (k_dr _ _ _) Z fun e d h=>Go 5 Z (Rt h 3 [0,1,2]))
def F_kp(n:Nat)(b:List Cutoff)(e:List (Int×Int))(a:Int):Option (Ctl Int (Ctl Unit Int)):=
  (bif decide (a<(b.length:Int))then(idx b a).bind fun c=>(F_cv n c e).bind fun d=>(bif d then some (.done (.done a))else some (.cont (IntKind.i64.wrap (a+1))))else some (.done (.cont ())))
def F_dt(n:Nat)(c:List Cutoff)(d:List (Int×Int)):Option Int:=
  (iter (F_kp n c d) n 0:Option (Ctl Unit Int)).bind fun b=>match b with|.cont a=>(some (-1))|.done a=>some a
theorem k_dt(n:Nat)(b:List Cutoff)(a:List (Int×Int))(r:Int)(h:F_dt n b a=some r):
    Csm prog 277 [.rsl 3 (List.map Cutoff.c b),.fn (.func 240) [] [.ptr 0 0]] [.cells 264 [.fn (.func 205) [] [.ptr 1 0]],.cells 103 [.map 2],.map (Qt (fun x=>A.int .i64 x) (fun x=>A.int .i64 x) a)] (fun r=>I r) r:=
 QE (el:=fun x=>.agg (Cutoff.c x)) (g:=fun x=>F_cv n x a) func277 Z Z Z runUnderlying97 sizeOf249 (fun _ _ _ _ d e=>QH d isAgg249 sizeOf249 e Pts.rp Z Z) call240 (fun _ _ h=>k_cv _ _ _ _ h) h
def F_gm(n:Nat)(a:List Cutoff)(b:List (Int×Int)):Option Bool:=
  (F_dt n a b).bind fun c=>some (decide (0<=c))
theorem k_gm(n:Nat)(a:List Cutoff)(b:List (Int×Int))(r:Bool)(h:F_gm n a b=some r):
    Csm prog 239 [.rsl 3 (List.map Cutoff.c a),.fn (.func 240) [] [.ptr 0 0]] [.cells 264 [.fn (.func 205) [] [.ptr 1 0]],.cells 103 [.map 2],.map (Qt (fun x=>A.int .i64 x) (fun x=>A.int .i64 x) b)] (fun r=>.bool r) r:=by
 refine Qa func239 Z Z Z ?_
 exact G0 9 Z (Cz [0,1,2] h (k_dt _ _ _) Z fun e d h=>Go 5 Z (Rt h 4 [0,1,2]))
def F_ff(n:Nat)(a:List Cutoff)(b:List (Int×Int)):Option Bool:=
  (F_gm n a b).bind fun c=>some (!c)
theorem k_ff(n:Nat)(a:List Cutoff)(b:List (Int×Int))(r:Bool)(h:F_ff n a b=some r):
    Csm prog 183 [.rsl 3 (List.map Cutoff.c a),.fn (.func 205) [] [.ptr 0 0]] [.cells 103 [.map 1],.map (Qt (fun x=>A.int .i64 x) (fun x=>A.int .i64 x) b)] (fun r=>.bool r) r:=by
 refine Qa func183 Z Z Z ?_
 exact G0 10 Z (Cz [2,0,1] h (k_gm _ _ _) Z fun e d h=>Go 5 Z (Rt h 4 [0,1]))
def F_lp(n:Nat)(j:Course)(k:List (typing_ends×Bool))(c:List Int)(a:(List (Int×Int))×Int):Option (Ctl ((List (Int×Int))×Int) (Ctl (List (Int×Int)) Bool)):=
  (bif decide (a.2<(c.length:Int))then(idx c a.2).bind fun b=>(idx j.Mats b).bind fun d=>((bif ((d.Kind==1) != (a.2==0))then some true else(bif ((d.Kind==3) != (a.2==(IntKind.i64.wrap ((c.length:Int)-1))))then some true else(bif decide (0<a.2)then(idx c (IntKind.i64.wrap (a.2-1))).bind fun e=>(some (Qae k ({from_:=e,to_:=b:typing_ends}) false)).bind fun f=>some (!f)else some false))):Option Bool).bind fun g=>(bif g then some (.done (.done false))else(some (Qae a.1 b 0)).bind fun h=>(some (Qab a.1 b (IntKind.i64.wrap (h+1)))).bind fun i=>some (.cont (i,IntKind.i64.wrap (a.2+1))))else some (.done (.cont a.1)))
def F_ev(n:Nat)(d:Course)(b:Distance)(e:List (typing_ends×Bool)):Option Bool:=
  (F_v n b.Route).bind fun c=>((bif decide ((IntKind.i64.wrap ((c.length:Int)-1))<1)then some true else some (decide (256<=(IntKind.i64.wrap ((c.length:Int)-1))))):Option Bool).bind fun l=>(bif l then some false else(iter (F_lp n d e c) n ([],0):Option (Ctl (List (Int×Int)) Bool)).bind fun f=>match f with|.cont a=>(((bif decide (0<=b.Extra)then(some (Qae a b.Extra 0)).bind fun g=>(bif (g==0)then some true else(idx d.Mats b.Extra).bind fun h=>(bif (h.Kind != 2)then some true else(some (Qae e ({from_:=b.Extra,to_:=b.Extra:typing_ends}) false)).bind fun i=>some (!i)))else some false):Option Bool).bind fun j=>(bif j then some false else(F_ff n b.Cutoffs a).bind fun k=>some k))|.done a=>some a)
theorem k_ev(n:Nat)(a1:Course)(m:Distance)(y:List (typing_ends×Bool))(r:Bool)(h:F_ev n a1 m y=some r):
    Csm prog 118 [.agg (Course.c a1),.agg (Distance.c m),.map 0] [.map (Qt (fun x=>A.agg (typing_ends.c x)) A.bool y)] (fun r=>.bool r) r:=by
 refine Qa func118 Z Z Z ?_
 refine G0 11 Z (Cd [] h (k_v _ _) Z fun r1 al h=>FE Z (Go 13 Z (Bd h fun F p h=>?_)))
 refine Ct F [0,1,2,3] [2,3,4,7,8] (fun F=>[(25,.bool F)]) (fun _=>[]) (fun _=>rfl) ?_ (fun env H g=>?_)
 ·refine G0 4 Z (Is 22 p Z (fun ac p=>?_) (fun ac p=>?_))
  ·exact Go 4 Z (Cl p [0,1,2,3])
  ·exact Go 4 Z (Cl p [0,1,2,3])
 refine Gx 1 Z (TC.le g (Cn Z h (fun ad h=>?_) (fun ad h=>?_)))
 ·exact Gc 7 Z (Rt h 6 [0])
 refine Gc 4 Z ?_
 refine vH Yj ?_
 refine FE Z (Go 12 Z (Bd h fun ae af h=>?_))
 refine YS (b:=ae) [0,1,2,4,5] [2,3,4] (fun _=>[(9,.ptr 3 0)]) (fun i=>[(3,.cells 103 [.map 4]),(4,.map (Qt (fun x=>A.int .i64 x) (fun x=>A.int .i64 x) i))]) (fun _=>rfl) ?_ (fun i env H ag g=>?_)
 ·refine G0 1 Z ?_
  refine Lp [0,1,2,3,5,4] [2,3,4,7,8,9,27,28] (fun f=>[(29,I f.2)]) (fun f=>[(4,.cells 103 [.map 5]),(5,.map (Qt (fun x=>A.int .i64 x) (fun x=>A.int .i64 x) f.1))]) af (fun _=>rfl) (Lr [0,1,2,3,5,4]) fun f am a q=>?_
  refine G0 6 Z (Yc Z a (fun G a=>?_) (fun G a=>?_))
  ·refine Gc 2 Z (Qj a ?_)
   obtain rfl:=Oj q a
   exact Gx 1 Z (Qm Z (Lr [0,1,2,4,5]))
  refine Gc 7 Z (Bd a fun j s a=>?_)
  refine vX (.ptr 3 (Int.toNat f.2*1)) (Yp s Z runUnderlying32 sizeOf3) ?_
  refine vX (I j) (OpV.load Z isAgg3 Z (QJ s)) ?_
  refine Go 9 Z (Bd a fun z J a=>Iz J Z (Go 7 Z (Bd a fun t e a=>?_)))
  refine Ct t [0,1,2,3,4,5] [2,3,4,7,8,9,11,27,28,29] (fun t=>[(68,.bool t)]) (fun _=>[]) (fun _=>rfl) ?_ (fun env H g=>?_)
  ·refine G0 5 Z ?_
   refine vX (.bool ((z.Kind==1) != (f.2==0))) (QdF runUnderlying4) ?_
   refine Go 1 Z (Is 45 e Z (fun L e=>?_) (fun L e=>?_))
   ·exact Go 24 Z (Cl e [0,1,2,3,4,5])
   ·refine Go 5 Z ?_
    refine vV (x:=(.bool ((z.Kind==3) != (f.2==(IntKind.i64.wrap ((r1.length:Int)-1)))))) (QdF runUnderlying4) ?_ (gT Z)
    refine Go 2 Z (Is 53 e Z (fun M e=>?_) (fun M e=>?_))
    ·exact Go 16 Z (Cl e [0,1,2,3,4,5])
    ·refine Go 3 Z (Is 56 e Z (fun N e=>?_) (fun N e=>?_))
     ·refine Go 4 Z (Bd e fun B u e=>?_)
      refine vX (.ptr 3 (Int.toNat (IntKind.i64.wrap (f.2-1))*1)) (Yp u Z runUnderlying32 sizeOf3) ?_ (gT Z)
      refine vX (I B) (OpV.load Z isAgg3 Z (QJ u)) ?_ (gT Z)
      refine Go 2 Z (Bd e fun ah O e=>?_)
      refine vX (.bool ah) (YC (ev:=A.bool) (z0:=false) (k:=({from_:=B,to_:=j:typing_ends})) (l:=y) QcT O underlying207 zeroValue4 ZR.bool) ?_ (gT Z)
      exact Go 4 Z (Cl e [0,1,2,3,4,5])
     ·exact Go 13 Z (Cl e [0,1,2,3,4,5])
  refine Gx 1 Z (TC.le g (Cn Z a (fun P a=>?_) (fun P a=>?_)))
  ·refine Gc 9 Z (Ql a ?_)
   obtain rfl:=Oj q a
   exact Gx 1 Z (Qk (Gx 1 Z (Rt h 6 [0])))
  refine Gc 5 Z (Bd a fun E Q a=>?_)
  refine vX (I E) (YC (ev:=(fun x=>A.int .i64 x)) (z0:=0) (k:=j) (l:=f.1) Qa9 Q underlying103 zeroValue3 ZR.int) ?_
  refine Go 1 Z (Bd a fun an R a=>?_)
  refine vU (Yt (ev:=(fun x=>A.int .i64 x)) (k:=j) (v:=(IntKind.i64.wrap (E+1))) (l:=f.1) Qa9 R Z underlying103) ?_
  exact FE Z (Go 7 Z (Qi a (Lr [0,1,2,3,4,5])))
 subst ag
 refine Gx 1 Z (TC.le g (Gc 9 Z (Bd h fun w d h=>?_)))
 refine Ct w [0,2,3,4] [4,9] (fun w=>[(100,.bool w)]) (fun _=>[(2,.cells 103 [.map 3])]) (fun _=>rfl) ?_ (fun env H g=>?_)
 ·refine G0 4 Z (Is 78 d Z (fun T d=>?_) (fun T d=>?_))
  ·refine Go 2 Z (Bd d fun ai V d=>?_)
   refine vX (I ai) (YC (ev:=(fun x=>A.int .i64 x)) (z0:=0) (k:=m.Extra) (l:=i) Qa9 V underlying103 zeroValue3 ZR.int) ?_ (gT Z)
   refine Go 2 Z (Is 83 d Z (fun W d=>?_) (fun W d=>?_))
   ·exact Go 18 Z (Cl d [0,2,3,4])
   ·refine Go 3 Z (Bd d fun ao X d=>Iz X Z (Go 5 Z (Is 92 d Z (fun Y d=>?_) (fun Y d=>?_))))
    ·exact Go 9 Z (Cl d [0,2,3,4])
    ·refine Go 4 Z (Bd d fun aj aa d=>?_)
     refine vX (.bool aj) (YC (ev:=A.bool) (z0:=false) (k:=({from_:=m.Extra,to_:=m.Extra:typing_ends})) (l:=y) QcT aa underlying207 zeroValue4 ZR.bool) ?_ (gT Z)
     exact Go 4 Z (Cl d [0,2,3,4])
  ·exact Go 23 Z (Cl d [0,2,3,4])
 refine Gx 1 Z (TC.le g (Cn Z h (fun ab h=>?_) (fun ab h=>?_)))
 ·exact Gc 7 Z (Rt h 6 [0])
 exact Gc 7 Z (Cz [2,3] h (k_ff _ _ _) Z fun aq ak h=>Go 4 Z (Rt h 6 [0]))
def F_gv(n:Nat)(a:Distance)(b:Course)(c:List (typing_ends×Bool)):Option Bool:=
  (F_ev n b a c).bind fun d=>some d
theorem k_gv(n:Nat)(a:Distance)(b:Course)(d:List (typing_ends×Bool))(r:Bool)(h:F_gv n a b d=some r):
    Csm prog 117 [.agg (Distance.c a),.ptr 0 0,.ptr 1 0] [.cells 49 (Course.c b),.cells 207 [.map 2],.map (Qt (fun x=>A.agg (typing_ends.c x)) A.bool d)] (fun r=>.bool r) r:=by
 refine Qa func117 Z Z Z ?_
 exact G0 11 Z (Cz [2] h (k_ev _ _ _ _) Z fun f e h=>Go 4 Z (Rt h 4 [0,1,2]))
def F_cw(n:Nat)(a:Distance)(b:Course)(c:List (typing_ends×Bool)):Option Bool:=
  (F_gv n a b c).bind fun d=>some (!d)
theorem k_cw(n:Nat)(a:Distance)(b:Course)(d:List (typing_ends×Bool))(r:Bool)(h:F_cw n a b d=some r):
    Csm prog 203 [.agg (Distance.c a),.ptr 0 0] [.cells 212 [.fn (.func 117) [] [.ptr 1 0,.ptr 2 0]],.cells 49 (Course.c b),.cells 207 [.map 3],.map (Qt (fun x=>A.agg (typing_ends.c x)) A.bool d)] (fun r=>.bool r) r:=by
 refine Qa func203 Z Z Z ?_
 exact G0 10 Z (Cz [1,2,3] h (k_gv _ _ _ _) Z fun f e h=>Go 5 Z (Rt h 3 [0,1,2,3]))
def F_lv(n:Nat)(b:List Distance)(e:Course)(f:List (typing_ends×Bool))(a:Int):Option (Ctl Int (Ctl Unit Int)):=
  (bif decide (a<(b.length:Int))then(idx b a).bind fun c=>(F_cw n c e f).bind fun d=>(bif d then some (.done (.done a))else some (.cont (IntKind.i64.wrap (a+1))))else some (.done (.cont ())))
def F_gg(n:Nat)(c:List Distance)(d:Course)(e:List (typing_ends×Bool)):Option Int:=
  (iter (F_lv n c d e) n 0:Option (Ctl Unit Int)).bind fun b=>match b with|.cont a=>(some (-1))|.done a=>some a
theorem k_gg(n:Nat)(d:List Distance)(a:Course)(b:List (typing_ends×Bool))(r:Int)(h:F_gg n d a b=some r):
    Csm prog 256 [.rsl 5 (List.map Distance.c d),.fn (.func 203) [] [.ptr 0 0]] [.cells 212 [.fn (.func 117) [] [.ptr 1 0,.ptr 2 0]],.cells 49 (Course.c a),.cells 207 [.map 3],.map (Qt (fun x=>A.agg (typing_ends.c x)) A.bool b)] (fun r=>I r) r:=
 QE (el:=fun x=>.agg (Distance.c x)) (g:=fun x=>F_cw n x a b) func256 Z Z Z runUnderlying40 sizeOf99 (fun _ _ _ _ e f=>QH e isAgg99 sizeOf99 f Pts.rp Z Z) call203 (fun _ _ h=>k_cw _ _ _ _ _ h) h
def F_ei(n:Nat)(a:List Distance)(b:Course)(c:List (typing_ends×Bool)):Option Bool:=
  (F_gg n a b c).bind fun d=>some (decide (0<=d))
theorem k_ei(n:Nat)(a:List Distance)(b:Course)(d:List (typing_ends×Bool))(r:Bool)(h:F_ei n a b d=some r):
    Csm prog 202 [.rsl 5 (List.map Distance.c a),.fn (.func 203) [] [.ptr 0 0]] [.cells 212 [.fn (.func 117) [] [.ptr 1 0,.ptr 2 0]],.cells 49 (Course.c b),.cells 207 [.map 3],.map (Qt (fun x=>A.agg (typing_ends.c x)) A.bool d)] (fun r=>.bool r) r:=by
 refine Qa func202 Z Z Z ?_
 exact G0 9 Z (Cz [0,1,2,3] h (k_gg _ _ _ _) Z fun f e h=>Go 5 Z (Rt h 4 [0,1,2,3]))
def F_ek(n:Nat)(a:List Distance)(b:Course)(c:List (typing_ends×Bool)):Option Bool:=
  (F_ei n a b c).bind fun d=>some (!d)
theorem k_ek(n:Nat)(a:List Distance)(b:Course)(d:List (typing_ends×Bool))(r:Bool)(h:F_ek n a b d=some r):
    Csm prog 116 [.rsl 5 (List.map Distance.c a),.fn (.func 117) [] [.ptr 0 0,.ptr 1 0]] [.cells 49 (Course.c b),.cells 207 [.map 2],.map (Qt (fun x=>A.agg (typing_ends.c x)) A.bool d)] (fun r=>.bool r) r:=by
 refine Qa func116 Z Z Z ?_
 exact G0 10 Z (Cz [3,0,1,2] h (k_ei _ _ _ _) Z fun f e h=>Go 5 Z (Rt h 4 [0,1,2]))
def F_lt(n:Nat)(c:Course)(a:(List (typing_ends×Bool))×Int):Option (Ctl ((List (typing_ends×Bool))×Int) (List (typing_ends×Bool))):=
  (bif decide (a.2<(c.Legs.length:Int))then(idx c.Legs a.2).bind fun b=>(some (Qab a.1 ({from_:=b.From,to_:=b.To:typing_ends}) true)).bind fun d=>some (.cont (d,IntKind.i64.wrap (a.2+1)))else some (.done a.1))
def F_gc(n:Nat)(a:Course):Option Int:=
  (F_du n a).bind fun e=>(bif (!e)then some 2 else(F_fh n a).bind fun f=>(bif (!f)then some 70 else(F_hg n a).bind fun g=>(bif (!g)then some 71 else(F_gl n a.Ties).bind fun b=>(bif (b != 0)then some b else(iter (F_lt n a) n ([],0):Option (List (typing_ends×Bool))).bind fun c=>(F_ek n a.Distances a c).bind fun d=>(bif (!d)then some 72 else some 0)))))
theorem k_gc(n:Nat)(p:Course)(r:Int)(h:F_gc n p=some r):
    Csm prog 71 [.agg (Course.c p)] [] (fun r=>I r) r:=by
 refine Qa func71 Z Z Z ?_
 refine G0 11 Z (Cz [] h (k_du _ _) Z fun N B h=>Go 4 Z (Cn Z h (fun q h=>?_) (fun q h=>?_)))
 ·exact Gc 8 Z (Rt h 2 [])
 refine Gc 3 Z (Cz [] h (k_fh _ _) Z fun O E h=>Go 4 Z (Cn Z h (fun s h=>?_) (fun s h=>?_)))
 ·exact Gc 8 Z (Rt h 2 [])
 refine Gc 3 Z (Cz [] h (k_hg _ _) Z fun P F h=>Go 4 Z (Cn Z h (fun t h=>?_) (fun t h=>?_)))
 ·exact Gc 8 Z (Rt h 2 [])
 refine Gc 8 Z (Cz [] h (k_gl _ _) Z fun Q G h=>Go 9 Z (Cn Z h (fun u h=>?_) (fun u h=>?_)))
 ·exact Gc 8 Z (Rt h 2 [])
 refine Gc 4 Z ?_
 refine vH Yj ?_
 refine FE Z (Go 9 Z (Lm Z (Go 3 Z (Bd h fun d w h=>?_))))
 refine Ct d [0,1,2] [1] (fun _=>[(3,.ptr 1 0)]) (fun d=>[(1,.cells 207 [.map 2]),(2,.map (Qt (fun x=>A.agg (typing_ends.c x)) A.bool d))]) (fun _=>rfl) ?_ (fun env H y=>?_)
 ·refine G0 1 Z ?_
  refine Lp [0,2,1] [1,3,26,27] (fun b=>[(28,I b.2)]) (fun b=>[(1,.cells 207 [.map 2]),(2,.map (Qt (fun x=>A.agg (typing_ends.c x)) A.bool b.1))]) w (fun _=>rfl) (Lr [0,2,1]) fun b J a f=>?_
  refine G0 6 Z (Yc Z a (fun g a=>?_) (fun g a=>?_))
  ·refine Gc 2 Z (Qj a ?_)
   obtain rfl:=Oj f a
   exact Gx 1 Z (QT (Lr [0,1,2]))
  refine Gc 6 Z (Bd a fun e i a=>Iz i Z (Go 12 Z (Bd a fun L j a=>?_)))
  refine vU (Yt (ev:=A.bool) (k:=({from_:=e.From,to_:=e.To:typing_ends})) (v:=true) (l:=b.1) QcT j Z underlying207) ?_
  exact FE Z (Go 7 Z (Qi a (Lr [0,1,2])))
 refine Gx 1 Z (TC.le y (Gc 6 Z (Cz [0,1,2] h (k_ek _ _ _ _) Z fun M z h=>Go 3 Z (Cn Z h (fun m h=>?_) (fun m h=>?_)))))
 ·exact Gc 7 Z (Rt h 2 [])
 exact Gc 8 Z (Rt h 2 [])
def F_ae(n:Nat)(a:Int):Option Bool:=
  ((bif decide ((-1099511627776)<=a)then some (decide (a<=1099511627776))else some false):Option Bool).bind fun b=>some b
theorem k_ae(n:Nat)(c:Int)(r:Bool)(h:F_ae n c=some r):
    Csm prog 206 [I c] [] (fun r=>.bool r) r:=by
 refine Qa func206 Z Z Z ?_
 refine G0 6 Z (Bd h fun b a h=>?_)
 refine Ct b [] [] (fun b=>[(2,.bool b)]) (fun _=>[]) (fun _=>rfl) ?_ (fun env H d=>?_)
 ·refine G0 4 Z (Is 5 a Z (fun e a=>?_) (fun e a=>?_))
  ·exact Go 5 Z (Cl a [])
  ·exact Go 5 Z (Cl a [])
 exact Gx 1 Z (TC.le d (Gc 1 Z (Rt h 2 [])))
def F_ai(n:Nat)(a:Int):Option Unit:=
  some ()
theorem k_ai(n:Nat)(a:Int)(r:Unit)(h:F_ai n a=some r):
    Csm prog 134 [I a] [] (fun _=>.bool (a != a)) r:=by
 refine Qa func134 Z Z Z ?_
 exact G0 14 Z (Rt h 2 [])
def F_b(n:Nat)(b:Int)(a:Int):Option Int:=
  (F_ai n b).bind fun c=>(F_ai n a).bind fun d=>(bif (b != b)then(bif (a != a)then some 0 else some (-1))else(bif (a != a)then some 1 else(bif decide (b<a)then some (-1)else(bif decide (a<b)then some 1 else some 0))))
theorem k_b(n:Nat)(a:Int)(b:Int)(r:Int)(h:F_b n a b=some r):
    Csm prog 87 [I a,I b] [] (fun r=>I r) r:=by
 refine Qa func87 Z Z Z ?_
 refine G0 8 Z (Cz [] h (k_ai _ _) Z fun k i h=>Go 6 Z (Cz [] h (k_ai _ _) Z fun l j h=>Go 9 Z (Cn Z h (fun c h=>?_) (fun c h=>?_))))
 ·refine Gc 6 Z (Cn Z h (fun d h=>?_) (fun d h=>?_))
  ·exact Gc 8 Z (Rt h 4 [])
  exact Gc 9 Z (Rt h 4 [])
 refine Gc 8 Z (Cn Z h (fun e h=>?_) (fun e h=>?_))
 ·exact Gc 7 Z (Rt h 4 [])
 refine Gc 10 Z (Cn Z h (fun f h=>?_) (fun f h=>?_))
 ·exact Gc 7 Z (Rt h 4 [])
 refine Gc 10 Z (Cn Z h (fun g h=>?_) (fun g h=>?_))
 ·exact Gc 7 Z (Rt h 4 [])
 exact Gc 8 Z (Rt h 4 [])
end Go.Sw
