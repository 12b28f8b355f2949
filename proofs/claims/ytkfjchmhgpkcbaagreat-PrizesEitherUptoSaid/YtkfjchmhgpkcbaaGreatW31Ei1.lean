/- What the functions compute that PrizesEither reaches, and that their calls refine it (part 1 of 3). -/
import Derived.Test.YtkfjchmhgpkcbaaGreatW31EiB
set_option linter.unusedVariables false
set_option linter.unusedSimpArgs false
set_option maxRecDepth 100000
set_option maxHeartbeats 4000000
namespace Go.Sw
open Go.Proofs Tryz
def F_ji(n:Nat)(c:List Int)(a:(List Prize)×Int):Option (Ctl ((List Prize)×Int) (List Prize)):=
  (bif decide (a.2<(c.length:Int))then(idx c a.2).bind fun b=>(app a.1 [{Distance:=0,Category:=(-1),Rank:=b,Amount:=IntKind.i64.wrap (100*b):Prize}]).bind fun d=>some (.cont (d,IntKind.i64.wrap (a.2+1)))else some (.done a.1))
def F_dh(n:Nat)(a:List Int):Option (List Prize):=
  (iter (F_ji n a) n ([],0):Option (List Prize)).bind fun b=>some b
theorem k_dh(n:Nat)(q:List Int)(r:List Prize)(h:F_dh n q=some r):
    C prog 31 [.rsl 1 (List.map (Qe .i64) q)] [] (RQ (fun r=>.agg [.str [115,97,109,112,108,101],.osl 0 0 ([{Name:=[108,105,110,101],Kind:=1:Mat},{Name:=[102,105,110,105,115,104],Kind:=3:Mat}].length) 2,.osl 1 0 ([{From:=0,To:=1,Min:=10,Max:=100:Leg}].length) 4,.osl 2 0 ([{Name:=[98,114,105,101,102],Route:=[z_Part,{z_Part with Mat:=1:Part}],Timing:=1,Cutoffs:=[],Extra:=(-1):Distance}].length) 5,.osl 3 0 ([{Name:=[101,108,105,116,101],Gun:=0:Wave}].length) 2,.rsl 4 (List.map Offence.c []),.rsl 3 (List.map Category.c []),.osl 4 0 r.length 4,.osl 5 0 ([{z_Step with Kind:=1,By:=4:Step}].length) 8,I 0,I 0,I 0,I 0,I 0,I 0,I 0]) (fun r=>[.row 101 2 (List.map Mat.c [{Name:=[108,105,110,101],Kind:=1:Mat},{Name:=[102,105,110,105,115,104],Kind:=3:Mat}]),.row 135 4 (List.map Leg.c [{From:=0,To:=1,Min:=10,Max:=100:Leg}]),.row 99 5 (List.map Distance.c [{Name:=[98,114,105,101,102],Route:=[z_Part,{z_Part with Mat:=1:Part}],Timing:=1,Cutoffs:=[],Extra:=(-1):Distance}]),.row 139 2 (List.map Wave.c [{Name:=[101,108,105,116,101],Gun:=0:Wave}]),.row 74 4 (List.map Prize.c r),.row 144 8 (List.map Step.enc [{z_Step with Kind:=1,By:=4:Step}]),.cells 49 [.str [115,97,109,112,108,101],.osl 0 0 ([{Name:=[108,105,110,101],Kind:=1:Mat},{Name:=[102,105,110,105,115,104],Kind:=3:Mat}].length) 2,.osl 1 0 ([{From:=0,To:=1,Min:=10,Max:=100:Leg}].length) 4,.osl 2 0 ([{Name:=[98,114,105,101,102],Route:=[z_Part,{z_Part with Mat:=1:Part}],Timing:=1,Cutoffs:=[],Extra:=(-1):Distance}].length) 5,.osl 3 0 ([{Name:=[101,108,105,116,101],Gun:=0:Wave}].length) 2,.rsl 4 (List.map Offence.c []),.rsl 3 (List.map Category.c []),.osl 4 0 r.length 4,.osl 5 0 ([{z_Step with Kind:=1,By:=4:Step}].length) 8,I 0,I 0,I 0,I 0,I 0,I 0,I 0]]) r):=by
 refine Qb func31 Z Z Z ?_
 refine G0 9 Z ?_
 refine vH (OpH.lit (xs:=[.tmp 6,.tmp 7]) (es:=List.map Mat.c [{Name:=[108,105,110,101],Kind:=1:Mat},{Name:=[102,105,110,105,115,104],Kind:=3:Mat}]) el_38 Z Z Z Z Z ⟨Z,Z,trivial⟩ Z Z) ?_
 refine FE Z (Go 1 Z ?_)
 refine vH (OpH.lit (xs:=[.tmp 9]) (es:=List.map Leg.c [{From:=0,To:=1,Min:=10,Max:=100:Leg}]) el_39 Z Z Z Z Z ⟨Z,trivial⟩ Z Z) ?_
 refine FE Z (Go 2 Z ?_)
 refine vH (OpH.lit (xs:=[.tmp 11,.tmp 12]) (es:=List.map Part.enc [z_Part,{z_Part with Mat:=1:Part}]) el_96 Z Z Z Z Z ⟨Z,Z,trivial⟩ Z Z) ?_
 refine FE Z (Go 1 Z ?_)
 refine WO.le (Yr [(13,_),(14,_)] Z Z (Qlr.cons Z FzA.o (Qlr.cons Z (FzA.agg (FzL.cons (FzA.refl _) (FzL.cons FzA.o (FzL.refl _)))) Qlr.nil)) (FzH.keep (FzH.keep (FzH.keep (FzH.keep (QX _)))))) ?_
 refine vH (OpH.lit (xs:=[.tmp 14]) (es:=List.map Distance.c [{Name:=[98,114,105,101,102],Route:=[z_Part,{z_Part with Mat:=1:Part}],Timing:=1,Cutoffs:=[],Extra:=(-1):Distance}]) el_40 Z Z Z Z Z ⟨Z,trivial⟩ Z Z) ?_
 refine FE Z (Go 1 Z ?_)
 refine vH (OpH.lit (xs:=[.tmp 16]) (es:=List.map Wave.c [{Name:=[101,108,105,116,101],Gun:=0:Wave}]) el_41 Z Z Z Z Z ⟨Z,trivial⟩ Z Z) ?_
 refine FE Z (Go 1 Z ?_)
 refine vH (OpH.lit (xs:=[.tmp 18]) (es:=List.map Step.enc [{z_Step with Kind:=1,By:=4:Step}]) el_45 Z Z Z Z Z ⟨Z,trivial⟩ Z Z) ?_
 refine FE Z ?_
 refine vX (.agg [.str [115,97,109,112,108,101],.osl 1 0 ([{Name:=[108,105,110,101],Kind:=1:Mat},{Name:=[102,105,110,105,115,104],Kind:=3:Mat}].length) 2,.osl 2 0 ([{From:=0,To:=1,Min:=10,Max:=100:Leg}].length) 4,.osl 4 0 ([{Name:=[98,114,105,101,102],Route:=[z_Part,{z_Part with Mat:=1:Part}],Timing:=1,Cutoffs:=[],Extra:=(-1):Distance}].length) 5,.osl 5 0 ([{Name:=[101,108,105,116,101],Gun:=0:Wave}].length) 2,.rsl 4 (List.map Offence.c []),.rsl 3 (List.map Category.c []),.nils,.osl 6 0 ([{z_Step with Kind:=1,By:=4:Step}].length) 8,I 0,I 0,I 0,I 0,I 0,I 0,I 0]) (OpV.build (zs:=[.str [],.rsl 2 (List.map Mat.c []),.rsl 4 (List.map Leg.c []),.rsl 5 (List.map Distance.c []),.rsl 2 (List.map Wave.c []),.rsl 4 (List.map Offence.c []),.rsl 3 (List.map Category.c []),.nils,.rsl 8 (List.map Step.enc []),I 0,I 0,I 0,I 0,I 0,I 0,I 0]) zeroValue49 (zrC Z) QjZ) ?_
 refine vH (Qcd (v:=(.agg [.str [],.rsl 2 (List.map Mat.c []),.rsl 4 (List.map Leg.c []),.rsl 5 (List.map Distance.c []),.rsl 2 (List.map Wave.c []),.rsl 4 (List.map Offence.c []),.rsl 3 (List.map Category.c []),.nils,.rsl 8 (List.map Step.enc []),I 0,I 0,I 0,I 0,I 0,I 0,I 0])) zeroValue49 (zrC Z)) ?_
 refine FE Z (Go 7 Z (Lm Z (Go 3 Z (Bd h fun d u h=>?_))))
 refine Ct d [0,1,2,3,4,5,6,7] [2] (fun _=>[(3,.ptr 1 0)]) (fun d=>[(1,.cells 49 [.str [115,97,109,112,108,101],.osl 2 0 ([{Name:=[108,105,110,101],Kind:=1:Mat},{Name:=[102,105,110,105,115,104],Kind:=3:Mat}].length) 2,.osl 3 0 ([{From:=0,To:=1,Min:=10,Max:=100:Leg}].length) 4,.osl 4 0 ([{Name:=[98,114,105,101,102],Route:=[z_Part,{z_Part with Mat:=1:Part}],Timing:=1,Cutoffs:=[],Extra:=(-1):Distance}].length) 5,.osl 5 0 ([{Name:=[101,108,105,116,101],Gun:=0:Wave}].length) 2,.rsl 4 (List.map Offence.c []),.rsl 3 (List.map Category.c []),.osl 6 0 d.length 4,.osl 7 0 ([{z_Step with Kind:=1,By:=4:Step}].length) 8,I 0,I 0,I 0,I 0,I 0,I 0,I 0]),(2,.row 101 2 (List.map Mat.c [{Name:=[108,105,110,101],Kind:=1:Mat},{Name:=[102,105,110,105,115,104],Kind:=3:Mat}])),(3,.row 135 4 (List.map Leg.c [{From:=0,To:=1,Min:=10,Max:=100:Leg}])),(6,.row 74 4 (List.map Prize.c d)),(7,.row 144 8 (List.map Step.enc [{z_Step with Kind:=1,By:=4:Step}]))]) (fun _=>rfl) ?_ (fun env H s=>?_)
 ·refine G0 1 Z ?_
  refine Lp [0,7,1,2,4,5,0,6] [2,3,21,22] (fun b=>[(23,I b.2)]) (fun b=>[(1,.cells 49 [.str [115,97,109,112,108,101],.osl 2 0 ([{Name:=[108,105,110,101],Kind:=1:Mat},{Name:=[102,105,110,105,115,104],Kind:=3:Mat}].length) 2,.osl 3 0 ([{From:=0,To:=1,Min:=10,Max:=100:Leg}].length) 4,.osl 4 0 ([{Name:=[98,114,105,101,102],Route:=[z_Part,{z_Part with Mat:=1:Part}],Timing:=1,Cutoffs:=[],Extra:=(-1):Distance}].length) 5,.osl 5 0 ([{Name:=[101,108,105,116,101],Gun:=0:Wave}].length) 2,.rsl 4 (List.map Offence.c []),.rsl 3 (List.map Category.c []),.osl 6 0 b.1.length 4,.osl 7 0 ([{z_Step with Kind:=1,By:=4:Step}].length) 8,I 0,I 0,I 0,I 0,I 0,I 0,I 0]),(6,.row 74 4 (List.map Prize.c b.1))]) u (fun _=>rfl) ?_ ?_
  ·refine Le.trans (Q5 (i:=7) (m:=7) (t:=74) (k:=4) Z Z Z) ?_
   exact Lr [0,7,1,2,4,5,8,6]
  intro b w a g
  refine G0 6 Z (Yt Z a (fun j a=>?_) (fun j a=>?_))
  ·refine Gc 2 Z (Qj a ?_)
   obtain rfl:=Oj g a
   exact Gx 1 Z (Q1 (Lr [0,1,2,3,4,5,6,7]))
  refine Gc 6 Z (Bd a fun f l a=>Iz l Z (Go 11 Z ?_))
  refine vH (OpH.lit (xs:=[.tmp 32]) (es:=List.map Prize.c [{Distance:=0,Category:=(-1),Rank:=f,Amount:=IntKind.i64.wrap (100*f):Prize}]) QmC Z Z Z Z Z ⟨Z,trivial⟩ Z Z) ?_
  refine FE Z (Bd a fun x p a=>?_)
  refine vH (QU (e:=Prize.c) p QmC runUnderlying44 (YJ (i:=8))) ?_
  exact FE Z (Go 9 Z (Qi a (Lr [0,1,2,3,4,5,9,7])))
 refine Gx 1 Z (TC.le s (Gc 7 Z ?_))
 obtain rfl:=Oi h
 exact Rx [2,3,4,5,6,7,0] [2] Z (QN Z (Qp isAgg49 sizeOf49 Z Z Z)) ⟨Z,Z⟩
def F_km(n:Nat)(c:List Int)(a:(List Runner)×Int):Option (Ctl ((List Runner)×Int) (List Runner)):=
  (bif decide (a.2<(c.length:Int))then(idx c a.2).bind fun b=>(app a.1 [{Bib:=IntKind.i64.wrap (a.2+1),Keys:=[],Worlds:=[[{Out:=false,Seg:=(-1),Lo:=b,Hi:=b:Outcome}]]:Runner}]).bind fun d=>some (.cont (d,IntKind.i64.wrap (a.2+1)))else some (.done a.1))
def F_cm(n:Nat)(a:List Int):Option (List Runner):=
  (iter (F_km n a) n ([],0):Option (List Runner)).bind fun b=>some b
theorem k_cm(n:Nat)(q:List Int)(r:List Runner)(h:F_cm n q=some r):
    C prog 32 [.rsl 1 (List.map (Qe .i64) q)] [] (RQ (fun r=>.agg [.rsl 3 (List.map Segment.c []),.osl 0 0 ([[0]].length) 1,.rsl 2 (List.map Pair.c []),.osl 1 0 r.length 3]) (fun r=>[.row 32 1 (List.map (YE 1 (Qe .i64)) [[0]]),.row 68 3 (List.map Runner.c r),.cells 29 [.rsl 3 (List.map Segment.c []),.osl 0 0 ([[0]].length) 1,.rsl 2 (List.map Pair.c []),.osl 1 0 r.length 3]]) r):=by
 refine Qb func32 Z Z Z ?_
 refine G0 7 Z ?_
 refine vH (OpH.lit (xs:=[.const (.int .i64 0)]) (es:=List.map (Qe .i64) [0]) Qz Z Z Z Z Z ⟨Z,trivial⟩ Z Z) ?_
 refine FE Z ?_
 refine WO.le (Yr [(6,_)] Z Z (Qlr.cons Z FzA.o Qlr.nil) (FzH.keep (FzH.keep (QX _)))) ?_
 refine vH (OpH.lit (xs:=[.tmp 6]) (es:=List.map (YE 1 (Qe .i64)) [[0]]) el_23 Z Z Z Z Z ⟨Z,trivial⟩ Z Z) ?_
 refine FE Z (Go 1 Z ?_)
 refine vX (.agg [.rsl 3 (List.map Segment.c []),.osl 2 0 ([[0]].length) 1,.rsl 2 (List.map Pair.c []),.nils]) (OpV.build (zs:=[.rsl 3 (List.map Segment.c []),.rsl 1 (List.map (YE 1 (Qe .i64)) []),.rsl 2 (List.map Pair.c []),.nils]) zeroValue29 (zrC Z) Qj4) ?_
 refine vH (Qcd (v:=(.agg [.rsl 3 (List.map Segment.c []),.rsl 1 (List.map (YE 1 (Qe .i64)) []),.rsl 2 (List.map Pair.c []),.nils])) zeroValue29 (zrC Z)) ?_
 refine FE Z (Go 7 Z (Lm Z (Go 3 Z (Bd h fun f u h=>?_))))
 refine Ct f [0,1,2,3] [2] (fun _=>[(3,.ptr 1 0)]) (fun f=>[(1,.cells 29 [.rsl 3 (List.map Segment.c []),.osl 2 0 ([[0]].length) 1,.rsl 2 (List.map Pair.c []),.osl 3 0 f.length 3]),(3,.row 68 3 (List.map Runner.c f))]) (fun _=>rfl) ?_ (fun env H s=>?_)
 ·refine G0 1 Z ?_
  refine Lp [0,3,2,0] [2,3,10,11] (fun b=>[(12,I b.2)]) (fun b=>[(1,.cells 29 [.rsl 3 (List.map Segment.c []),.osl 2 0 ([[0]].length) 1,.rsl 2 (List.map Pair.c []),.osl 3 0 b.1.length 3]),(3,.row 68 3 (List.map Runner.c b.1))]) u (fun _=>rfl) ?_ ?_
  ·refine Le.trans (Q5 (i:=3) (m:=3) (t:=68) (k:=3) Z Z Z) ?_
   exact Lr [0,3,2,4]
  intro b w a g
  refine G0 6 Z (Yt Z a (fun j a=>?_) (fun j a=>?_))
  ·refine Gc 2 Z (Qj a ?_)
   obtain rfl:=Oj g a
   exact Gx 1 Z (Q1 (Lr [0,1,2,3]))
  refine Gc 7 Z (Bd a fun d l a=>Iz l Z (Go 13 Z ?_))
  refine vH (OpH.lit (xs:=[.tmp 23]) (es:=List.map Outcome.c [{Out:=false,Seg:=(-1),Lo:=d,Hi:=d:Outcome}]) QkS Z Z Z Z Z ⟨Z,trivial⟩ Z Z) ?_
  refine FE Z ?_
  refine WO.le (Yr [(24,_)] Z Z (Qlr.cons Z FzA.o Qlr.nil) (FzH.keep (FzH.keep (FzH.keep (FzH.keep (FzH.keep (QX _))))))) ?_
  refine vH (OpH.lit (xs:=[.tmp 24]) (es:=List.map (YE 4 Outcome.c) [[{Out:=false,Seg:=(-1),Lo:=d,Hi:=d:Outcome}]]) el_66 Z Z Z Z Z ⟨Z,trivial⟩ Z Z) ?_
  refine FE Z (Go 1 Z ?_)
  refine WO.le (Yr [(25,_),(26,_)] Z Z (Qlr.cons Z FzA.o (Qlr.cons Z (FzA.agg (FzL.cons (FzA.refl _) (FzL.cons (FzA.refl _) (FzL.cons FzA.o (FzL.refl _))))) Qlr.nil)) (FzH.keep (FzH.keep (FzH.keep (FzH.keep (FzH.keep (FzH.keep (QX _)))))))) ?_
  refine vH (OpH.lit (xs:=[.tmp 26]) (es:=List.map Runner.c [{Bib:=IntKind.i64.wrap (b.2+1),Keys:=[],Worlds:=[[{Out:=false,Seg:=(-1),Lo:=d,Hi:=d:Outcome}]]:Runner}]) QmD Z Z Z Z Z ⟨Z,trivial⟩ Z Z) ?_
  refine FE Z (Bd a fun x p a=>?_)
  refine vH (QU (e:=Runner.c) p QmD runUnderlying27 (YJ (i:=6))) ?_
  exact FE Z (Go 9 Z (Qi a (Lr [0,1,2,7])))
 refine Gx 1 Z (TC.le s (Gc 7 Z ?_))
 obtain rfl:=Oi h
 exact Rx [2,3,0] [2] Z (QN Z (Qp isAgg29 sizeOf29 Z Z Z)) ⟨Z,Z⟩
def F_z(n:Nat)(e:List Part)(f:Int)(rec10:(List Part)->Int->Option (Int×Int))(a:Int×Int×Int):Option (Ctl (Int×Int×Int) (Int×Int)):=
  (bif decide (a.2.2<(e.length:Int))then((idx e a.2.2).bind fun c=>((bif ((c.Parts.length:Int)==0)then some true else(bif (f==0)then some true else some (decide (256<a.2.1)))):Option Bool).bind fun g=>(bif g then some (a.1,a.2.1)else(rec10 c.Parts (IntKind.i64.wrap (f-1))).bind fun b=>some ((if a.1<IntKind.i64.wrap (b.1+1)then IntKind.i64.wrap (b.1+1)else a.1),IntKind.i64.wrap (a.2.1+b.2))):Option (Int×Int)).bind fun d=>some (.cont (d.1,d.2,IntKind.i64.wrap (a.2.2+1)))else some (.done (a.1,a.2.1)))
def B_b(rec10:(List Part)->Int->Option (Int×Int))(n:Nat)(b:List Part)(c:Int):Option (Int×Int):=
  (iter (F_z n b c rec10) n (0,(b.length:Int),0):Option (Int×Int)).bind fun a=>some (a.1,a.2)
theorem QcW(rec10:(List Part)->Int->Option (Int×Int))(i:∀(j:List Part) (k:Int) (r:Int×Int),rec10 j k=some r->Csm prog 166 [.rsl 3 (List.map Part.enc j),I k] [] (fun r=>.tup [I r.1,I r.2]) r)(n:Nat)(j:List Part)(k:Int)(r:Int×Int)(h:B_b rec10 n j k=some r):
    Csm prog 166 [.rsl 3 (List.map Part.enc j),I k] [] (fun r=>.tup [I r.1,I r.2]) r:=by
 refine Qb func166 Z Z Z ?_
 refine G0 9 Z (Lm Z (Go 7 Z (Lm Z (Go 3 Z (Bd h fun f x h=>?_)))))
 refine Ct f [] [] (fun f=>[(4,I f.1),(5,I f.2)]) (fun _=>[]) (fun _=>rfl) ?_ (fun env H e=>?_)
 ·refine G0 1 Z ?_
  refine Lp [] [1,12,13] (fun d=>[(4,I d.1),(5,I d.2.1),(14,I d.2.2)]) (fun _=>[]) x (fun _=>rfl) (Lr []) fun d B c p=>?_
  refine G0 6 Z (Yt Z c (fun q c=>?_) (fun q c=>?_))
  ·refine Gc 2 Z (Qj c ?_)
   obtain rfl:=Oj p c
   exact Gx 1 Z (Q1 (Lr []))
  refine Gc 3 Z (Bd c fun g a c=>?_)
  refine Ct g [] [1,12,13,14] (fun g=>[(4,I g.1),(5,I g.2)]) (fun _=>[]) (fun _=>rfl) ?_ (fun env H e=>?_)
  ·refine G0 3 Z (Bd a fun y s a=>IzE s (Y5 y) Z (Go 7 Z (Bd a fun l b a=>?_)))
   refine Ct l [0] [1,4,5,7,12,13,14] (fun l=>[(29,.bool l)]) (fun _=>[]) (fun _=>rfl) ?_ (fun env H e=>?_)
   ·refine G0 3 Z (Lm Z (Go 2 Z (Is 22 b Z (fun t b=>?_) (fun t b=>?_))))
    ·exact Go 8 Z (Cl b [0])
    ·refine Go 4 Z (Is 26 b Z (fun u b=>?_) (fun u b=>?_))
     ·exact Go 4 Z (Cl b [0])
     ·exact Go 4 Z (Cl b [0])
   refine Gx 1 Z (TC.le e (Cn Z a (fun w a=>?_) (fun w a=>?_)))
   ·exact Gc 3 Z (Cl a [])
   refine Gc 8 Z (Cd [] a (i _ _) Z fun m z a=>FE Z (Go 11 Z ?_))
   refine vX (I (if d.1<IntKind.i64.wrap (m.1+1)then IntKind.i64.wrap (m.1+1)else d.1)) (OpV.max Z Z Z Z) ?_
   exact Go 7 Z (Cl a [])
  exact Gx 1 Z (TC.le e (Gc 4 Z (Qi c (Lr []))))
 refine Gx 1 Z (TC.le e (Gc 9 Z ?_))
 obtain rfl:=Oi h
 exact R2 4 5 Z Z (Lr [])
def F_b:Nat->(List Part)->Int->Option (Int×Int)
  |0=>fun _ _=>none
  |n+1=>B_b (F_b n) n
theorem k_b(n:Nat):∀(a:List Part) (b:Int) (r:Int×Int),F_b n a b=some r->Csm prog 166 [.rsl 3 (List.map Part.enc a),I b] [] (fun r=>.tup [I r.1,I r.2]) r:=by
  induction n with
  |zero=>intro a b r h;cases h
  |succ n ih=>intro a b r h;exact QcW _ ih n a b r h
def F_em(n:Nat)(d:Course)(a:Int):Option (Ctl Int (Ctl Unit Bool)):=
  (bif decide (a<(d.Distances.length:Int))then(idx d.Distances a).bind fun b=>(F_b n b.Route 17).bind fun c=>((bif decide (64<(b.Cutoffs.length:Int))then some true else(bif decide (16<c.1)then some true else some (decide (256<c.2)))):Option Bool).bind fun e=>(bif e then some (.done (.done false))else some (.cont (IntKind.i64.wrap (a+1))))else some (.done (.cont ())))
def F_ac(n:Nat)(a:Course):Option Bool:=
  ((bif decide (40<(a.Mats.length:Int))then some true else(bif decide (512<(a.Legs.length:Int))then some true else(bif decide (8<(a.Distances.length:Int))then some true else(bif decide (32<(a.Waves.length:Int))then some true else(bif decide (32<(a.Offences.length:Int))then some true else(bif decide (32<(a.Categories.length:Int))then some true else some (decide (32<(a.Prizes.length:Int))))))))):Option Bool).bind fun d=>(bif d then some false else(iter (F_em n a) n 0:Option (Ctl Unit Bool)).bind fun c=>match c with|.cont b=>(some true)|.done b=>some b)
theorem k_ac(n:Nat)(B:Course)(r:Bool)(h:F_ac n B=some r):
    Csm prog 112 [.agg (Course.c B)] [] (fun r=>.bool r) r:=by
 refine Qb func112 Z Z Z ?_
 refine G0 8 Z (Bd h fun k d h=>?_)
 refine Ct k [0] [1] (fun k=>[(46,.bool k)]) (fun _=>[]) (fun _=>rfl) ?_ (fun env H f=>?_)
 ·refine G0 3 Z (Lm Z (Go 2 Z (Is 11 d Z (fun E d=>?_) (fun E d=>?_))))
  ·exact Go 36 Z (Cl d [0])
  ·refine Go 2 Z (Lm Z (Go 3 Z (Is 17 d Z (fun l d=>?_) (fun l d=>?_))))
   ·exact Go 30 Z (Cl d [0])
   ·refine Go 2 Z (Lm Z (Go 3 Z (Is 23 d Z (fun m d=>?_) (fun m d=>?_))))
    ·exact Go 24 Z (Cl d [0])
    ·refine Go 2 Z (Lm Z (Go 3 Z (Is 29 d Z (fun p d=>?_) (fun p d=>?_))))
     ·exact Go 18 Z (Cl d [0])
     ·refine Go 2 Z (Lm Z (Go 3 Z (Is 35 d Z (fun q d=>?_) (fun q d=>?_))))
      ·exact Go 12 Z (Cl d [0])
      ·refine Go 2 Z (Lm Z (Go 3 Z (Is 41 d Z (fun s d=>?_) (fun s d=>?_))))
       ·exact Go 6 Z (Cl d [0])
       ·exact Go 2 Z (Lm Z (Go 3 Z (Cl d [0])))
 refine Gx 1 Z (TC.le f (Cn Z h (fun t h=>?_) (fun t h=>?_)))
 ·exact Gc 7 Z (Rt h 2 [])
 refine Gc 7 Z (Lm Z (Go 3 Z (Bd h fun F G h=>?_)))
 refine CtE (b:=F) [] [] (fun _=>[]) (fun _=>[]) (fun _=>rfl) ?_ (fun L env H J f=>?_)
 ·refine G0 1 Z ?_
  refine Lp [] [48,49] (fun j=>[(50,I j)]) (fun _=>[]) G (fun _=>rfl) (Lr []) fun j N a g=>?_
  refine G0 6 Z (Yt Z a (fun u a=>?_) (fun u a=>?_))
  ·refine Gc 2 Z (Qj a ?_)
   obtain rfl:=Oj g a
   exact Gx 1 Z (Qu Z (Lr []))
  refine Gc 6 Z (Bd a fun O w a=>Iz w Z (Go 9 Z (Cd [] a (k_b _ _ _) Z fun P M a=>FE Z (Go 8 Z (Bd a fun i e a=>?_)))))
  refine Ct i [] [48,49,50] (fun i=>[(71,.bool i)]) (fun _=>[]) (fun _=>rfl) ?_ (fun env H f=>?_)
  ·refine G0 3 Z (Lm Z (Go 2 Z (Is 64 e Z (fun x e=>?_) (fun x e=>?_))))
   ·exact Go 8 Z (Cl e [])
   ·refine Go 4 Z (Is 68 e Z (fun y e=>?_) (fun y e=>?_))
    ·exact Go 4 Z (Cl e [])
    ·exact Go 4 Z (Cl e [])
  refine Gx 1 Z (TC.le f (Cn Z a (fun z a=>?_) (fun z a=>?_)))
  ·refine Gc 8 Z (Qv a ?_)
   obtain rfl:=Oj g a
   exact Gx 1 Z (Qs (Gx 1 Z (Rt h 2 [])))
  exact Gc 7 Z (Qi a (Lr []))
 subst J
 exact Gx 1 Z (TC.le f (Gc 6 Z (Rt h 2 [])))
def F_gi(n:Nat)(a:(List Int)×Int):Option (Ctl ((List Int)×Int) (List Int)):=
  (bif decide (a.2<=122)then(Qct 256 a.1 a.2).bind fun d=>(Qfx a.1 a.2 2).bind fun b=>(Qct 256 b (IntKind.u8.wrap (a.2-32))).bind fun e=>(Qfx b (IntKind.u8.wrap (a.2-32)) 2).bind fun c=>some (.cont (c,IntKind.u8.wrap (a.2+1)))else some (.done a.1))
def F_hn(n:Nat)(a:(List Int)×Int):Option (Ctl ((List Int)×Int) (List Int)):=
  (bif decide (a.2<=57)then(Qct 256 a.1 a.2).bind fun c=>(Qfx a.1 a.2 3).bind fun b=>some (.cont (b,IntKind.u8.wrap (a.2+1)))else some (.done a.1))
def F_ix(n:Nat)(a:(List Int)×Int):Option (Ctl ((List Int)×Int) (List Int)):=
  (bif decide (a.2<([123,125,40,41,91,93,59,44,61,60,62].length:Int))then(idx [123,125,40,41,91,93,59,44,61,60,62] a.2).bind fun b=>(Qct 256 a.1 b).bind fun d=>(Qfx a.1 b 4).bind fun c=>some (.cont (c,IntKind.i64.wrap (a.2+1)))else some (.done a.1))
def F_jc(n:Nat)(a:(List Int)×Int):Option (Ctl ((List Int)×Int) (List Int)):=
  (bif decide (a.2<(([32,9,10,13].length):Int))then(idx [32,9,10,13] a.2).bind fun b=>(Qct 256 a.1 b).bind fun d=>(Qfx a.1 b 1).bind fun c=>some (.cont (c,IntKind.i64.wrap (a.2+1)))else some (.done a.1))
def F_bu(n:Nat):Option (List Int):=
  (iter (F_gi n) n (List.replicate 256 0,97):Option (List Int)).bind fun b=>(iter (F_hn n) n (b,48):Option (List Int)).bind fun c=>(iter (F_ix n) n (c,0):Option (List Int)).bind fun d=>(iter (F_jc n) n (d,0):Option (List Int)).bind fun a=>(arr 256 a).bind fun e=>(arr 256 a).bind fun g=>(arr 256 e).bind fun f=>some f
theorem k_bu(n:Nat)(r:List Int)(h:F_bu n=some r):
    C prog 291 [] [] (RQ (fun r=>.agg (List.flatten (List.map (Qe .u8) r))) (fun r=>[.row 353 1 (List.map (Qe .u8) r)]) r):=by
 refine Qb func291 Z Z Z ?_
 refine G0 2 Z ?_
 refine vH (Qbk (n:=256) (k:=1) (e:=(Qe .u8)) (z:=0) zeroValue353 (by kernel_rfl) (by kernel_rfl) (by kernel_rfl) Z) ?_
 refine FE Z (Go 8 Z (Bd h fun t af h=>?_))
 refine Ct t [0] [0] (fun _=>[]) (fun t=>[(0,.row 353 1 (List.map (Qe .u8) t))]) (fun _=>rfl) ?_ (fun env H g=>?_)
 ·refine G0 1 Z ?_
  refine Lp [0] [0] (fun i=>[(1,.int .u8 i.2)]) (fun i=>[(0,.row 353 1 (List.map (Qe .u8) i.1))]) af (fun _=>rfl) (Lr [0]) fun i an a M=>?_
  refine G0 7 Z (Yt Z a (fun N a=>?_) (fun N a=>?_))
  ·refine Gc 2 Z (Qj a ?_)
   obtain rfl:=Oj M a
   exact Gx 1 Z (Q1 (Lr [0]))
  refine Gc 8 Z (Bd a fun ao u a=>?_)
  refine vX (.ptr 0 (Int.toNat i.2*1)) (YO (n:=256) (k:=1) (l:=i.1) u runUnderlying353 sizeOf5 Z) ?_
  refine Bd a fun ag O a=>?_
  refine vU (QaJ (e:=(Qe .u8)) (k:=1) (f:=0) (Qai u).2 O sizeOf5 Z Z) ?_
  refine FE Z (Bd a fun aq w a=>?_)
  refine vX (.ptr 0 (Int.toNat (IntKind.u8.wrap (i.2-32))*1)) (YO (n:=256) (k:=1) (l:=ag) w runUnderlying353 sizeOf5 Z) ?_
  refine Bd a fun ar P a=>?_
  refine vU (QaJ (e:=(Qe .u8)) (k:=1) (f:=0) (Qai w).2 P sizeOf5 Z Z) ?_
  exact FE Z (Go 8 Z (Qi a (Lr [0])))
 refine Gx 1 Z (TC.le g (Gc 6 Z (Bd h fun x ah h=>?_)))
 refine Ct x [0] [0] (fun _=>[]) (fun x=>[(0,.row 353 1 (List.map (Qe .u8) x))]) (fun _=>rfl) ?_ (fun env H g=>?_)
 ·refine G0 1 Z ?_
  refine Lp [0] [0] (fun j=>[(2,.int .u8 j.2)]) (fun j=>[(0,.row 353 1 (List.map (Qe .u8) j.1))]) ah (fun _=>rfl) (Lr [0]) fun j au d Q=>?_
  refine G0 7 Z (Yt Z d (fun R d=>?_) (fun R d=>?_))
  ·refine Gc 2 Z (Qj d ?_)
   obtain rfl:=Oj Q d
   exact Gx 1 Z (Q1 (Lr [0]))
  refine Gc 6 Z (Bd d fun av y d=>?_)
  refine vX (.ptr 0 (Int.toNat j.2*1)) (YO (n:=256) (k:=1) (l:=j.1) y runUnderlying353 sizeOf5 Z) ?_
  refine Bd d fun aw T d=>?_
  refine vU (QaJ (e:=(Qe .u8)) (k:=1) (f:=0) (Qai y).2 T sizeOf5 Z Z) ?_
  exact FE Z (Go 8 Z (Qi d (Lr [0])))
 refine Gx 1 Z (TC.le g (Gc 3 Z ?_))
 refine vH (OpH.lit (xs:=[.const (.int .u8 123),.const (.int .u8 125),.const (.int .u8 40),.const (.int .u8 41),.const (.int .u8 91),.const (.int .u8 93),.const (.int .u8 59),.const (.int .u8 44),.const (.int .u8 61),.const (.int .u8 60),.const (.int .u8 62)]) (es:=List.map (Qe .u8) [123,125,40,41,91,93,59,44,61,60,62]) QkT Z Z Z Z Z ⟨Z,Z,Z,Z,Z,Z,Z,Z,Z,Z,Z,trivial⟩ Z Z) ?_
 refine FE Z ?_
 refine vH (Qjz (es:=List.map (Qe .u8) [123,125,40,41,91,93,59,44,61,60,62]) underlying357 underlying5 (List.length_map ..) Z) ?_
 refine FE Z (Lm Z (Go 3 Z (Bd h fun B ai h=>?_)))
 refine Ct B [0] [0] (fun _=>[]) (fun B=>[(0,.row 353 1 (List.map (Qe .u8) B))]) (fun _=>rfl) ?_ (fun env H g=>?_)
 ·refine G0 1 Z ?_
  refine Lp [0] [0,23,24] (fun p=>[(25,I p.2)]) (fun p=>[(0,.row 353 1 (List.map (Qe .u8) p.1))]) ai (fun _=>rfl) (Lr [0]) fun p ax b V=>?_
  refine G0 6 Z (Yt Z b (fun W b=>?_) (fun W b=>?_))
  ·refine Gc 2 Z (Qj b ?_)
   obtain rfl:=Oj V b
   exact Gx 1 Z (Q1 (Lr [0]))
  refine Gc 6 Z (Bd b fun aj X b=>Iz X Z (Go 6 Z (Bd b fun ay E b=>?_)))
  refine vX (.ptr 0 (Int.toNat aj*1)) (YO (n:=256) (k:=1) (l:=p.1) E runUnderlying353 sizeOf5 Z) ?_
  refine Bd b fun az Y b=>?_
  refine vU (QaJ (e:=(Qe .u8)) (k:=1) (f:=0) (Qai E).2 Y sizeOf5 Z Z) ?_
  exact FE Z (Go 7 Z (Qi b (Lr [0])))
 refine Gx 1 Z (TC.le g (Gc 3 Z ?_))
 refine vH (OpH.lit (xs:=[.const (.int .u8 32),.const (.int .u8 9),.const (.int .u8 10),.const (.int .u8 13)]) (es:=List.map (Qe .u8) [32,9,10,13]) QkT Z Z Z Z Z ⟨Z,Z,Z,Z,trivial⟩ Z Z) ?_
 refine FE Z (Go 4 Z (Bd h fun s ak h=>?_))
 refine Ct s [0] [0] (fun _=>[]) (fun s=>[(0,.row 353 1 (List.map (Qe .u8) s))]) (fun _=>rfl) ?_ (fun env H g=>?_)
 ·refine G0 1 Z ?_
  refine Lp [0,1] [0,32,33] (fun m=>[(34,I m.2)]) (fun m=>[(0,.row 353 1 (List.map (Qe .u8) m.1))]) ak (fun _=>rfl) (Lr [0,1]) fun m ba c aa=>?_
  refine G0 6 Z (Yt Z c (fun ab c=>?_) (fun ab c=>?_))
  ·refine Gc 2 Z (Qj c ?_)
   obtain rfl:=Oj aa c
   exact Gx 1 Z (Q1 (Lr [0]))
  refine Gc 6 Z (Bd c fun L F c=>?_)
  refine vX (.ptr 1 (Int.toNat m.2*1)) (Yv F Z runUnderlying357 sizeOf5) ?_
  refine vX (.int .u8 L) (OpV.load Z isAgg5 Z (QL F)) ?_
  refine Go 5 Z (Bd c fun bb G c=>?_)
  refine vX (.ptr 0 (Int.toNat L*1)) (YO (n:=256) (k:=1) (l:=m.1) G runUnderlying353 sizeOf5 Z) ?_
  refine Bd c fun bc ac c=>?_
  refine vU (QaJ (e:=(Qe .u8)) (k:=1) (f:=0) (Qai G).2 ac sizeOf5 Z Z) ?_
  exact FE Z (Go 7 Z (Qi c (Lr [0,1])))
 refine Gx 1 Z (TC.le g (Gc 2 Z (Bd h fun al ad h=>?_)))
 refine vX (.agg (List.flatten (List.map (Qe .u8) al))) (QgZ (e:=(Qe .u8)) ad (fun _=>rfl) Z isAgg353 sizeOf353) ?_
 refine Bd h fun bd ae h=>Bd h fun am q h=>?_
 obtain⟨J,rfl⟩:=QbH ae
 refine vU (QcJ (e:=(Qe .u8)) (l:=s) (l':=am) J (QfR q) (fun _=>rfl) Z sizeOf353 (fun _=>rfl) (fun _=>rfl) (congrArg (fun l=>List.flatten (List.map (Qe .u8) l)) (QbH q).2.symm)) ?_
 refine FE Z (Go 3 Z ?_)
 obtain rfl:=Oi h
 exact Rx [0] [0] Z (QN Z (Qjk (e:=(Qe .u8)) (QfR q) (fun _=>rfl) Z isAgg353 sizeOf353)) ⟨Z,Z⟩
def F_is(n:Nat)(c:List UInt8)(g:List Int)(a:Int):Option (Ctl Int (Ctl Unit Bool)):=
  (bif decide (a<(c.length:Int))then(idx c a).bind fun d=>(Qct 256 g (d.toNat:Int)).bind fun b=>((bif (b != 2)then(bif (a==0)then some true else(bif (b != 3)then(idx c a).bind fun e=>some ((e.toNat:Int) != 95)else some false))else some false):Option Bool).bind fun f=>(bif f then some (.done (.done false))else some (.cont (IntKind.i64.wrap (a+1))))else some (.done (.cont ())))
def F_de(n:Nat)(b:List UInt8):Option Bool:=
  (F_bu n).bind fun d=>(arr 256 (List.replicate 256 0)).bind fun f=>(arr 256 d).bind fun e=>(iter (F_is n b e) n 0:Option (Ctl Unit Bool)).bind fun c=>match c with|.cont a=>(some (b != []))|.done a=>some a
theorem k_de(n:Nat)(q:List UInt8)(r:Bool)(h:F_de n q=some r):
    Csm prog 274 [.str q] [] (fun r=>.bool r) r:=by
 refine Qb func274 Z Z Z ?_
 refine G0 7 Z (Bd h fun G J h=>?_)
 refine Qt [] (OpC.fn call291 Z Z Z) (k_bu _ _ J) ?_
 rintro _ _ ⟨rfl,rfl⟩
 refine Qlb (x:=(.agg (List.flatten (List.map (Qe .u8) G)))) (H:=[.row 353 1 (List.map (Qe .u8) G)]) (QlI (e:=(Qe .u8)) (fun _=>rfl) _ _) Z ?_
 refine vH (Qbk (n:=256) (k:=1) (e:=(Qe .u8)) (z:=0) zeroValue353 (by kernel_rfl) (by kernel_rfl) (by kernel_rfl) Z) ?_
 refine FE Z (Bd h fun W L h=>Bd h fun M j h=>?_)
 obtain⟨s,rfl⟩:=QbH L
 refine vU (QcJ (e:=(Qe .u8)) (l:=(List.replicate 256 0)) (l':=M) s (QfR j) (fun _=>rfl) Z sizeOf353 (fun _=>rfl) (fun _=>rfl) (congrArg (fun l=>List.flatten (List.map (Qe .u8) l)) (QbH j).2.symm)) ?_
 refine FE Z (Go 6 Z ?_)
 refine vX (I (q.length:Int)) (Y0 Z Z runUnderlying9 Z) ?_
 refine Go 3 Z (Bd h fun N O h=>?_)
 refine CtE (b:=N) [] [0] (fun _=>[]) (fun _=>[]) (fun _=>rfl) ?_ (fun T env H P d=>?_)
 ·refine G0 1 Z ?_
  refine Lp [1] [0,3,8] (fun m=>[(9,I m)]) (fun _=>[]) O (fun _=>rfl) (Lr [1]) fun m V a f=>?_
  refine G0 6 Z (Yt Z a (fun t a=>?_) (fun t a=>?_))
  ·refine Gc 2 Z (Qj a ?_)
   obtain rfl:=Oj f a
   exact Gx 1 Z (Qu Z (Lr []))
  refine Gc 14 Z (Bd a fun p u a=>?_)
  refine vX (.int .u8 (p.toNat:Int)) (QaI u runUnderlying9) ?_
  refine Bd a fun Q g a=>?_
  refine vX (.ptr 0 (Int.toNat (p.toNat:Int)*1)) (YO (n:=256) (k:=1) (l:=M) g runUnderlying353 sizeOf5 Z) ?_
  refine vX (.int .u8 Q) (OpV.load Z isAgg5 Z (QL (Qai g).2)) ?_
  refine Go 4 Z (Bd a fun i c a=>?_)
  refine Ct i [0] [0,3,8,9] (fun i=>[(32,.bool i)]) (fun _=>[]) (fun _=>rfl) ?_ (fun env H d=>?_)
  ·refine G0 4 Z (Is 19 c Z (fun w c=>?_) (fun w c=>?_))
   ·refine Go 3 Z (Is 22 c Z (fun y c=>?_) (fun y c=>?_))
    ·exact Go 11 Z (Cl c [0])
    ·refine Go 3 Z (Is 25 c Z (fun B c=>?_) (fun B c=>?_))
     ·refine Go 2 Z (Bd c fun R E c=>?_)
      refine vX (.int .u8 (R.toNat:Int)) (QaI E runUnderlying9) ?_ (gT Z)
      exact Go 5 Z (Cl c [0])
     ·exact Go 8 Z (Cl c [0])
   ·exact Go 14 Z (Cl c [0])
  refine Gx 1 Z (TC.le d (Cn Z a (fun F a=>?_) (fun F a=>?_)))
  ·refine Gc 8 Z (Qv a ?_)
   obtain rfl:=Oj f a
   exact Gx 1 Z (Qs (Gx 1 Z (Rt h 2 [])))
  exact Gc 7 Z (Qi a (Lr [0]))
 subst P
 exact Gx 1 Z (TC.le d (Gc 8 Z (Rt h 2 [])))
def F_co(n:Nat)(a:List UInt8):Option Bool:=
  ((F_de n a).bind fun e=>(bif e then(cat [32] a).bind fun b=>(cat b [32]).bind fun c=>(Qd7 [32,99,111,117,114,115,101,32,109,97,116,115,32,115,116,97,114,116,32,112,97,115,115,32,101,110,100,32,108,101,103,32,116,111,32,100,105,115,116,97,110,99,101,32,103,117,110,32,99,104,105,112,32,115,108,111,116,32,108,97,112,115,32,108,97,112,32,99,117,116,111,102,102,32,101,120,116,114,97,32,119,97,118,101,32,111,102,102,101,110,99,101,32,111,117,116,32,99,97,116,101,103,111,114,121,32,112,114,105,122,101,32,97,108,108,32,116,105,101,115,32,105,102,32,101,108,115,101,32,97,110,100,32,111,114,32,110,111,116,32,111,108,100,101,114,32,121,111,117,110,103,101,114,32,98,105,98,32,100,114,97,119,32,102,105,101,108,100,32,115,104,111,114,116,32,102,97,117,108,116,115,32,109,105,115,115,101,115,32,115,116,114,97,121,115,32,119,105,110,100,111,119,32,114,101,115,105,100,117,97,108,32,100,114,105,102,116,32,112,114,111,116,101,115,116,32,102,101,101,32,100,101,97,100,108,105,110,101,32] c).bind fun d=>some d else some false):Option Bool).bind fun f=>some f
theorem k_co(n:Nat)(f:List UInt8)(r:Bool)(h:F_co n f=some r):
    Csm prog 235 [.str f] [] (fun r=>.bool r) r:=by
 refine Qb func235 Z Z Z ?_
 refine G0 6 Z (Bd h fun b a h=>?_)
 refine Ct b [] [] (fun b=>[(2,.bool b)]) (fun _=>[]) (fun _=>rfl) ?_ (fun env H g=>?_)
 ·refine G0 2 Z (Cz [] a (k_de _ _) Z fun p l a=>Go 1 Z (Is 5 a Z (fun i a=>?_) (fun i a=>?_)))
  ·refine Go 1 Z (Bd a fun j c a=>?_)
   refine vX (.str j) (Qey c) ?_ (gT Z)
   refine Bd a fun k d a=>?_
   refine vX (.str k) (Qey d) ?_ (gT Z)
   refine Bd a fun m e a=>?_
   refine Qt [] (OpC.fn call275 Z Z Z) (C.contains QcZ Z e) ?_ (hg:=(gT Z))
   rintro _ _ ⟨rfl,rfl⟩
   exact FE Z (Go 3 Z (Cl a []))
  ·exact Go 7 Z (Cl a [])
 exact Gx 1 Z (TC.le g (Gc 1 Z (Rt h 2 [])))
def F_hb(n:Nat)(c:List UInt8)(b:Int):Option (Ctl Int (Ctl Unit Bool)):=
  (bif decide (b<(c.length:Int))then(idx c b).bind fun a=>((bif decide ((a.toNat:Int)<97)then(bif decide ((a.toNat:Int)<48)then some ((a.toNat:Int) != 95)else(bif decide (57<(a.toNat:Int))then some ((a.toNat:Int) != 95)else some false))else(bif decide (122<(a.toNat:Int))then(bif decide ((a.toNat:Int)<48)then some ((a.toNat:Int) != 95)else(bif decide (57<(a.toNat:Int))then some ((a.toNat:Int) != 95)else some false))else some false)):Option Bool).bind fun d=>(bif d then some (.done (.done false))else some (.cont (IntKind.i64.wrap (b+1))))else some (.done (.cont ())))
def F_d(n:Nat)(a:List UInt8):Option Bool:=
  ((bif decide ((a.length:Int)<1)then some true else(bif decide (24<(a.length:Int))then some true else(idx a 0).bind fun c=>(bif decide ((c.toNat:Int)<97)then some true else(idx a 0).bind fun d=>some (decide (122<(d.toNat:Int)))))):Option Bool).bind fun g=>(bif g then some false else(iter (F_hb n a) n 0:Option (Ctl Unit Bool)).bind fun e=>match e with|.cont b=>((F_co n a).bind fun f=>some (!f))|.done b=>some b)
theorem k_d(n:Nat)(f:List UInt8)(r:Bool)(h:F_d n f=some r):
    Csm prog 167 [.str f] [] (fun r=>.bool r) r:=by
 refine Qb func167 Z Z Z ?_
 refine G0 7 Z (Bd h fun k d h=>?_)
 refine Ct k [] [0] (fun k=>[(22,.bool k)]) (fun _=>[]) (fun _=>rfl) ?_ (fun env H e=>?_)
 ·refine G0 2 Z ?_
  refine vX (I (f.length:Int)) (Y0 Z Z runUnderlying9 Z) ?_
  refine Go 2 Z (Is 8 d Z (fun F d=>?_) (fun F d=>?_))
  ·exact Go 15 Z (Cl d [])
  ·refine Go 1 Z ?_
   refine vX (I (f.length:Int)) (Y0 Z Z runUnderlying9 Z) ?_ (gT Z)
   refine Go 3 Z (Is 13 d Z (fun G d=>?_) (fun G d=>?_))
   ·exact Go 10 Z (Cl d [])
   ·refine Go 1 Z (Bd d fun J l d=>?_)
    refine vX (.int .u8 (J.toNat:Int)) (QaI l runUnderlying9) ?_ (gT Z)
    refine Go 3 Z (Is 18 d Z (fun m d=>?_) (fun m d=>?_))
    ·exact Go 5 Z (Cl d [])
    ·refine Go 1 Z (Bd d fun L p d=>?_)
     refine vX (.int .u8 (L.toNat:Int)) (QaI p runUnderlying9) ?_ (gT Z)
     exact Go 3 Z (Cl d [])
 refine Gx 1 Z (TC.le e (Cn Z h (fun q h=>?_) (fun q h=>?_)))
 ·exact Gc 7 Z (Rt h 2 [])
 refine Gc 6 Z ?_
 refine vX (I (f.length:Int)) (Y0 Z Z runUnderlying9 Z) ?_
 refine Go 3 Z (Bd h fun M N h=>?_)
 refine CtE (b:=M) [] [0] (fun _=>[]) (fun _=>[]) (fun _=>rfl) ?_ (fun Q env H O e=>?_)
 ·refine G0 1 Z ?_
  refine Lp [] [0,24] (fun j=>[(25,I j)]) (fun _=>[]) N (fun _=>rfl) (Lr []) fun j T c g=>?_
  refine G0 6 Z (Yt Z c (fun s c=>?_) (fun s c=>?_))
  ·refine Gc 2 Z (Qj c ?_)
   obtain rfl:=Oj g c
   exact Gx 1 Z (Qu Z (Lr []))
  refine Gc 14 Z (Bd c fun P t c=>?_)
  refine vX (.int .u8 (P.toNat:Int)) (QaI t runUnderlying9) ?_
  refine Go 4 Z (Bd c fun i a c=>?_)
  refine Ct i [] [0,24,25] (fun i=>[(48,.bool i)]) (fun _=>[]) (fun _=>rfl) ?_ (fun env H e=>?_)
  ·refine G0 4 Z (Is 33 a Z (fun u a=>?_) (fun u a=>?_))
   ·refine Go 7 Z (Is 40 a Z (fun w a=>?_) (fun w a=>?_))
    ·exact Go 9 Z (Cl a [])
    ·refine Go 5 Z (Is 45 a Z (fun x a=>?_) (fun x a=>?_))
     ·exact Go 4 Z (Cl a [])
     ·exact Go 4 Z (Cl a [])
   ·refine Go 4 Z (Is 37 a Z (fun y a=>?_) (fun y a=>?_))
    ·refine Go 3 Z (Is 40 a Z (fun z a=>?_) (fun z a=>?_))
     ·exact Go 9 Z (Cl a [])
     ·refine Go 5 Z (Is 45 a Z (fun B a=>?_) (fun B a=>?_))
      ·exact Go 4 Z (Cl a [])
      ·exact Go 4 Z (Cl a [])
    ·exact Go 12 Z (Cl a [])
  refine Gx 1 Z (TC.le e (Cn Z c (fun E c=>?_) (fun E c=>?_)))
  ·refine Gc 8 Z (Qv c ?_)
   obtain rfl:=Oj g c
   exact Gx 1 Z (Qs (Gx 1 Z (Rt h 2 [])))
  exact Gc 7 Z (Qi c (Lr []))
 subst O
 exact Gx 1 Z (TC.le e (Gc 3 Z (Cz [] h (k_co _ _) Z fun V R h=>Go 5 Z (Rt h 2 []))))
def F_gf(n:Nat)(a:Mat):Option Unit:=
  some ()
theorem k_gf(n:Nat)(a:Mat)(r:Unit)(h:F_gf n a=some r):
    Csm prog 169 [.agg (Mat.c a)] [] (fun _=>.str a.Name) r:=by
 refine Qb func169 Z Z Z ?_
 exact G0 14 Z (Rt h 2 [])
def F_kr(n:Nat)(c:List Mat)(a:(List (List UInt8×Bool))×Int):Option (Ctl ((List (List UInt8×Bool))×Int) (Ctl Unit Bool)):=
  (bif decide (a.2<(c.length:Int))then(idx c a.2).bind fun b=>(F_gf n b).bind fun h=>((F_d n b.Name).bind fun d=>(bif (!d)then some true else(some (QG a.1 b.Name false)).bind fun e=>some e):Option Bool).bind fun f=>(bif f then some (.done (.done false))else(some (QQ a.1 b.Name true)).bind fun g=>some (.cont (g,IntKind.i64.wrap (a.2+1))))else some (.done (.cont ())))
def F_bj(n:Nat)(c:List Mat):Option Bool:=
  (iter (F_kr n c) n ([],0):Option (Ctl Unit Bool)).bind fun b=>match b with|.cont a=>(some true)|.done a=>some a
theorem k_bj(n:Nat)(w:List Mat)(r:Bool)(h:F_bj n w=some r):
    Csm prog 168 [.rsl 2 (List.map Mat.c w),.fn (.func 169) [] []] [] (fun r=>.bool r) r:=by
 refine Qb func168 Z Z Z ?_
 refine G0 7 Z ?_
 refine vH Yi ?_
 refine FE Z (Go 7 Z (Lm Z (Go 3 Z (Bd h fun x y h=>?_))))
 refine CtE (b:=x) [] [] (fun _=>[]) (fun _=>[]) (fun _=>rfl) ?_ (fun E env H z f=>?_)
 ·refine G0 1 Z ?_
  refine Lp [0] [1,5,10,11] (fun e=>[(12,I e.2)]) (fun e=>[(0,.map (Qm A.str A.bool e.1))]) y (fun _=>rfl) (Lr [0]) fun e J a g=>?_
  refine G0 6 Z (Yt Z a (fun m a=>?_) (fun m a=>?_))
  ·refine Gc 2 Z (Qj a ?_)
   obtain rfl:=Oj g a
   exact Gx 1 Z (Qu Z (Lr []))
  refine Gc 6 Z (Bd a fun j p a=>Iz p Z (Go 9 Z (Cz [] a (k_gf _ _) Z fun L F a=>Go 5 Z (Bd a fun i d a=>?_))))
  refine Ct i [0] [1,5,8,10,11,12] (fun i=>[(26,.bool i)]) (fun _=>[]) (fun _=>rfl) ?_ (fun env H f=>?_)
  ·refine G0 2 Z (Cz [] d (k_d _ _) Z fun M G d=>Go 2 Z (Is 22 d Z (fun q d=>?_) (fun q d=>?_)))
   ·exact Go 5 Z (Cl d [0])
   ·refine Go 2 Z (Bd d fun B s d=>?_)
    refine vX (.bool B) (Yy (ev:=A.bool) (z0:=false) (k:=j.Name) (l:=e.1) QbX s underlying309 zeroValue4 ZR.bool) ?_ (gT Z)
    exact Go 2 Z (Cl d [0])
  refine Gx 1 Z (TC.le f (Cn Z a (fun t a=>?_) (fun t a=>?_)))
  ·refine Gc 9 Z (Qv a ?_)
   obtain rfl:=Oj g a
   exact Gx 1 Z (Qs (Gx 1 Z (Rt h 4 [])))
  refine Gc 5 Z (Bd a fun N u a=>?_)
  refine vU (Yz (ev:=A.bool) (k:=j.Name) (v:=true) (l:=e.1) QbX u Z underlying309) ?_
  exact FE Z (Go 7 Z (Qi a (Lr [0])))
 subst z
 exact Gx 1 Z (TC.le f (Gc 6 Z (Rt h 4 [])))
def F_fv(n:Nat)(a:Distance):Option Unit:=
  some ()
theorem k_fv(n:Nat)(a:Distance)(r:Unit)(h:F_fv n a=some r):
    Csm prog 171 [.agg (Distance.c a)] [] (fun _=>.str a.Name) r:=by
 refine Qb func171 Z Z Z ?_
 exact G0 14 Z (Rt h 2 [])
def F_kg(n:Nat)(c:List Distance)(a:(List (List UInt8×Bool))×Int):Option (Ctl ((List (List UInt8×Bool))×Int) (Ctl Unit Bool)):=
  (bif decide (a.2<(c.length:Int))then(idx c a.2).bind fun b=>(F_fv n b).bind fun h=>((F_d n b.Name).bind fun d=>(bif (!d)then some true else(some (QG a.1 b.Name false)).bind fun e=>some e):Option Bool).bind fun f=>(bif f then some (.done (.done false))else(some (QQ a.1 b.Name true)).bind fun g=>some (.cont (g,IntKind.i64.wrap (a.2+1))))else some (.done (.cont ())))
def F_cg(n:Nat)(c:List Distance):Option Bool:=
  (iter (F_kg n c) n ([],0):Option (Ctl Unit Bool)).bind fun b=>match b with|.cont a=>(some true)|.done a=>some a
theorem k_cg(n:Nat)(w:List Distance)(r:Bool)(h:F_cg n w=some r):
    Csm prog 170 [.rsl 5 (List.map Distance.c w),.fn (.func 171) [] []] [] (fun r=>.bool r) r:=by
 refine Qb func170 Z Z Z ?_
 refine G0 7 Z ?_
 refine vH Yi ?_
 refine FE Z (Go 7 Z (Lm Z (Go 3 Z (Bd h fun x y h=>?_))))
 refine CtE (b:=x) [] [] (fun _=>[]) (fun _=>[]) (fun _=>rfl) ?_ (fun E env H z f=>?_)
 ·refine G0 1 Z ?_
  refine Lp [0] [1,5,10,11] (fun e=>[(12,I e.2)]) (fun e=>[(0,.map (Qm A.str A.bool e.1))]) y (fun _=>rfl) (Lr [0]) fun e J a g=>?_
  refine G0 6 Z (Yt Z a (fun m a=>?_) (fun m a=>?_))
  ·refine Gc 2 Z (Qj a ?_)
   obtain rfl:=Oj g a
   exact Gx 1 Z (Qu Z (Lr []))
  refine Gc 6 Z (Bd a fun j p a=>Iz p Z (Go 9 Z (Cz [] a (k_fv _ _) Z fun L F a=>Go 5 Z (Bd a fun i d a=>?_))))
  refine Ct i [0] [1,5,8,10,11,12] (fun i=>[(26,.bool i)]) (fun _=>[]) (fun _=>rfl) ?_ (fun env H f=>?_)
  ·refine G0 2 Z (Cz [] d (k_d _ _) Z fun M G d=>Go 2 Z (Is 22 d Z (fun q d=>?_) (fun q d=>?_)))
   ·exact Go 5 Z (Cl d [0])
   ·refine Go 2 Z (Bd d fun B s d=>?_)
    refine vX (.bool B) (Yy (ev:=A.bool) (z0:=false) (k:=j.Name) (l:=e.1) QbX s underlying309 zeroValue4 ZR.bool) ?_ (gT Z)
    exact Go 2 Z (Cl d [0])
  refine Gx 1 Z (TC.le f (Cn Z a (fun t a=>?_) (fun t a=>?_)))
  ·refine Gc 9 Z (Qv a ?_)
   obtain rfl:=Oj g a
   exact Gx 1 Z (Qs (Gx 1 Z (Rt h 4 [])))
  refine Gc 5 Z (Bd a fun N u a=>?_)
  refine vU (Yz (ev:=A.bool) (k:=j.Name) (v:=true) (l:=e.1) QbX u Z underlying309) ?_
  exact FE Z (Go 7 Z (Qi a (Lr [0])))
 subst z
 exact Gx 1 Z (TC.le f (Gc 6 Z (Rt h 4 [])))
def F_ep(n:Nat)(a:Wave):Option Unit:=
  some ()
theorem k_ep(n:Nat)(a:Wave)(r:Unit)(h:F_ep n a=some r):
    Csm prog 173 [.agg (Wave.c a)] [] (fun _=>.str a.Name) r:=by
 refine Qb func173 Z Z Z ?_
 exact G0 14 Z (Rt h 2 [])
def F_kv(n:Nat)(c:List Wave)(a:(List (List UInt8×Bool))×Int):Option (Ctl ((List (List UInt8×Bool))×Int) (Ctl Unit Bool)):=
  (bif decide (a.2<(c.length:Int))then(idx c a.2).bind fun b=>(F_ep n b).bind fun h=>((F_d n b.Name).bind fun d=>(bif (!d)then some true else(some (QG a.1 b.Name false)).bind fun e=>some e):Option Bool).bind fun f=>(bif f then some (.done (.done false))else(some (QQ a.1 b.Name true)).bind fun g=>some (.cont (g,IntKind.i64.wrap (a.2+1))))else some (.done (.cont ())))
def F_bi(n:Nat)(c:List Wave):Option Bool:=
  (iter (F_kv n c) n ([],0):Option (Ctl Unit Bool)).bind fun b=>match b with|.cont a=>(some true)|.done a=>some a
theorem k_bi(n:Nat)(w:List Wave)(r:Bool)(h:F_bi n w=some r):
    Csm prog 172 [.rsl 2 (List.map Wave.c w),.fn (.func 173) [] []] [] (fun r=>.bool r) r:=by
 refine Qb func172 Z Z Z ?_
 refine G0 7 Z ?_
 refine vH Yi ?_
 refine FE Z (Go 7 Z (Lm Z (Go 3 Z (Bd h fun x y h=>?_))))
 refine CtE (b:=x) [] [] (fun _=>[]) (fun _=>[]) (fun _=>rfl) ?_ (fun E env H z f=>?_)
 ·refine G0 1 Z ?_
  refine Lp [0] [1,5,10,11] (fun e=>[(12,I e.2)]) (fun e=>[(0,.map (Qm A.str A.bool e.1))]) y (fun _=>rfl) (Lr [0]) fun e J a g=>?_
  refine G0 6 Z (Yt Z a (fun m a=>?_) (fun m a=>?_))
  ·refine Gc 2 Z (Qj a ?_)
   obtain rfl:=Oj g a
   exact Gx 1 Z (Qu Z (Lr []))
  refine Gc 6 Z (Bd a fun j p a=>Iz p Z (Go 9 Z (Cz [] a (k_ep _ _) Z fun L F a=>Go 5 Z (Bd a fun i d a=>?_))))
  refine Ct i [0] [1,5,8,10,11,12] (fun i=>[(26,.bool i)]) (fun _=>[]) (fun _=>rfl) ?_ (fun env H f=>?_)
  ·refine G0 2 Z (Cz [] d (k_d _ _) Z fun M G d=>Go 2 Z (Is 22 d Z (fun q d=>?_) (fun q d=>?_)))
   ·exact Go 5 Z (Cl d [0])
   ·refine Go 2 Z (Bd d fun B s d=>?_)
    refine vX (.bool B) (Yy (ev:=A.bool) (z0:=false) (k:=j.Name) (l:=e.1) QbX s underlying309 zeroValue4 ZR.bool) ?_ (gT Z)
    exact Go 2 Z (Cl d [0])
  refine Gx 1 Z (TC.le f (Cn Z a (fun t a=>?_) (fun t a=>?_)))
  ·refine Gc 9 Z (Qv a ?_)
   obtain rfl:=Oj g a
   exact Gx 1 Z (Qs (Gx 1 Z (Rt h 4 [])))
  refine Gc 5 Z (Bd a fun N u a=>?_)
  refine vU (Yz (ev:=A.bool) (k:=j.Name) (v:=true) (l:=e.1) QbX u Z underlying309) ?_
  exact FE Z (Go 7 Z (Qi a (Lr [0])))
 subst z
 exact Gx 1 Z (TC.le f (Gc 6 Z (Rt h 4 [])))
def F_er(n:Nat)(a:Offence):Option Unit:=
  some ()
theorem k_er(n:Nat)(a:Offence)(r:Unit)(h:F_er n a=some r):
    Csm prog 175 [.agg (Offence.c a)] [] (fun _=>.str a.Name) r:=by
 refine Qb func175 Z Z Z ?_
 exact G0 14 Z (Rt h 2 [])
def F_jg(n:Nat)(c:List Offence)(a:(List (List UInt8×Bool))×Int):Option (Ctl ((List (List UInt8×Bool))×Int) (Ctl Unit Bool)):=
  (bif decide (a.2<(c.length:Int))then(idx c a.2).bind fun b=>(F_er n b).bind fun h=>((F_d n b.Name).bind fun d=>(bif (!d)then some true else(some (QG a.1 b.Name false)).bind fun e=>some e):Option Bool).bind fun f=>(bif f then some (.done (.done false))else(some (QQ a.1 b.Name true)).bind fun g=>some (.cont (g,IntKind.i64.wrap (a.2+1))))else some (.done (.cont ())))
def F_dj(n:Nat)(c:List Offence):Option Bool:=
  (iter (F_jg n c) n ([],0):Option (Ctl Unit Bool)).bind fun b=>match b with|.cont a=>(some true)|.done a=>some a
theorem k_dj(n:Nat)(w:List Offence)(r:Bool)(h:F_dj n w=some r):
    Csm prog 174 [.rsl 4 (List.map Offence.c w),.fn (.func 175) [] []] [] (fun r=>.bool r) r:=by
 refine Qb func174 Z Z Z ?_
 refine G0 7 Z ?_
 refine vH Yi ?_
 refine FE Z (Go 7 Z (Lm Z (Go 3 Z (Bd h fun x y h=>?_))))
 refine CtE (b:=x) [] [] (fun _=>[]) (fun _=>[]) (fun _=>rfl) ?_ (fun E env H z f=>?_)
 ·refine G0 1 Z ?_
  refine Lp [0] [1,5,10,11] (fun e=>[(12,I e.2)]) (fun e=>[(0,.map (Qm A.str A.bool e.1))]) y (fun _=>rfl) (Lr [0]) fun e J a g=>?_
  refine G0 6 Z (Yt Z a (fun m a=>?_) (fun m a=>?_))
  ·refine Gc 2 Z (Qj a ?_)
   obtain rfl:=Oj g a
   exact Gx 1 Z (Qu Z (Lr []))
  refine Gc 6 Z (Bd a fun j p a=>Iz p Z (Go 9 Z (Cz [] a (k_er _ _) Z fun L F a=>Go 5 Z (Bd a fun i d a=>?_))))
  refine Ct i [0] [1,5,8,10,11,12] (fun i=>[(26,.bool i)]) (fun _=>[]) (fun _=>rfl) ?_ (fun env H f=>?_)
  ·refine G0 2 Z (Cz [] d (k_d _ _) Z fun M G d=>Go 2 Z (Is 22 d Z (fun q d=>?_) (fun q d=>?_)))
   ·exact Go 5 Z (Cl d [0])
   ·refine Go 2 Z (Bd d fun B s d=>?_)
    refine vX (.bool B) (Yy (ev:=A.bool) (z0:=false) (k:=j.Name) (l:=e.1) QbX s underlying309 zeroValue4 ZR.bool) ?_ (gT Z)
    exact Go 2 Z (Cl d [0])
  refine Gx 1 Z (TC.le f (Cn Z a (fun t a=>?_) (fun t a=>?_)))
  ·refine Gc 9 Z (Qv a ?_)
   obtain rfl:=Oj g a
   exact Gx 1 Z (Qs (Gx 1 Z (Rt h 4 [])))
  refine Gc 5 Z (Bd a fun N u a=>?_)
  refine vU (Yz (ev:=A.bool) (k:=j.Name) (v:=true) (l:=e.1) QbX u Z underlying309) ?_
  exact FE Z (Go 7 Z (Qi a (Lr [0])))
 subst z
 exact Gx 1 Z (TC.le f (Gc 6 Z (Rt h 4 [])))
def F_gb(n:Nat)(a:Category):Option Unit:=
  some ()
theorem k_gb(n:Nat)(a:Category)(r:Unit)(h:F_gb n a=some r):
    Csm prog 177 [.agg (Category.c a)] [] (fun _=>.str a.Name) r:=by
 refine Qb func177 Z Z Z ?_
 exact G0 14 Z (Rt h 2 [])
def F_jp(n:Nat)(c:List Category)(a:(List (List UInt8×Bool))×Int):Option (Ctl ((List (List UInt8×Bool))×Int) (Ctl Unit Bool)):=
  (bif decide (a.2<(c.length:Int))then(idx c a.2).bind fun b=>(F_gb n b).bind fun h=>((F_d n b.Name).bind fun d=>(bif (!d)then some true else(some (QG a.1 b.Name false)).bind fun e=>some e):Option Bool).bind fun f=>(bif f then some (.done (.done false))else(some (QQ a.1 b.Name true)).bind fun g=>some (.cont (g,IntKind.i64.wrap (a.2+1))))else some (.done (.cont ())))
def F_cc(n:Nat)(c:List Category):Option Bool:=
  (iter (F_jp n c) n ([],0):Option (Ctl Unit Bool)).bind fun b=>match b with|.cont a=>(some true)|.done a=>some a
theorem k_cc(n:Nat)(w:List Category)(r:Bool)(h:F_cc n w=some r):
    Csm prog 176 [.rsl 3 (List.map Category.c w),.fn (.func 177) [] []] [] (fun r=>.bool r) r:=by
 refine Qb func176 Z Z Z ?_
 refine G0 7 Z ?_
 refine vH Yi ?_
 refine FE Z (Go 7 Z (Lm Z (Go 3 Z (Bd h fun x y h=>?_))))
 refine CtE (b:=x) [] [] (fun _=>[]) (fun _=>[]) (fun _=>rfl) ?_ (fun E env H z f=>?_)
 ·refine G0 1 Z ?_
  refine Lp [0] [1,5,10,11] (fun e=>[(12,I e.2)]) (fun e=>[(0,.map (Qm A.str A.bool e.1))]) y (fun _=>rfl) (Lr [0]) fun e J a g=>?_
  refine G0 6 Z (Yt Z a (fun m a=>?_) (fun m a=>?_))
  ·refine Gc 2 Z (Qj a ?_)
   obtain rfl:=Oj g a
   exact Gx 1 Z (Qu Z (Lr []))
  refine Gc 6 Z (Bd a fun j p a=>Iz p Z (Go 9 Z (Cz [] a (k_gb _ _) Z fun L F a=>Go 5 Z (Bd a fun i d a=>?_))))
  refine Ct i [0] [1,5,8,10,11,12] (fun i=>[(26,.bool i)]) (fun _=>[]) (fun _=>rfl) ?_ (fun env H f=>?_)
  ·refine G0 2 Z (Cz [] d (k_d _ _) Z fun M G d=>Go 2 Z (Is 22 d Z (fun q d=>?_) (fun q d=>?_)))
   ·exact Go 5 Z (Cl d [0])
   ·refine Go 2 Z (Bd d fun B s d=>?_)
    refine vX (.bool B) (Yy (ev:=A.bool) (z0:=false) (k:=j.Name) (l:=e.1) QbX s underlying309 zeroValue4 ZR.bool) ?_ (gT Z)
    exact Go 2 Z (Cl d [0])
  refine Gx 1 Z (TC.le f (Cn Z a (fun t a=>?_) (fun t a=>?_)))
  ·refine Gc 9 Z (Qv a ?_)
   obtain rfl:=Oj g a
   exact Gx 1 Z (Qs (Gx 1 Z (Rt h 4 [])))
  refine Gc 5 Z (Bd a fun N u a=>?_)
  refine vU (Yz (ev:=A.bool) (k:=j.Name) (v:=true) (l:=e.1) QbX u Z underlying309) ?_
  exact FE Z (Go 7 Z (Qi a (Lr [0])))
 subst z
 exact Gx 1 Z (TC.le f (Gc 6 Z (Rt h 4 [])))
def F_bt(n:Nat)(a:Course):Option Bool:=
  ((F_d n a.Name).bind fun b=>(bif b then(F_bj n a.Mats).bind fun c=>(bif c then(F_cg n a.Distances).bind fun d=>(bif d then(F_bi n a.Waves).bind fun e=>(bif e then(F_dj n a.Offences).bind fun f=>(bif f then(F_cc n a.Categories).bind fun g=>some g else some false)else some false)else some false)else some false)else some false):Option Bool).bind fun h=>some h
theorem k_bt(n:Nat)(j:Course)(r:Bool)(h:F_bt n j=some r):
    Csm prog 113 [.agg (Course.c j)] [] (fun r=>.bool r) r:=by
 refine Qb func113 Z Z Z ?_
 refine G0 7 Z (Bd h fun b a h=>?_)
 refine Ct b [] [] (fun b=>[(2,.bool b)]) (fun _=>[]) (fun _=>rfl) ?_ (fun env H k=>?_)
 ·refine G0 3 Z (Cz [] a (k_d _ _) Z fun u l a=>Go 1 Z (Is 6 a Z (fun d a=>?_) (fun d a=>?_)))
  ·refine Go 2 Z (Cz [] a (k_bj _ _) Z fun w m a=>Go 2 Z (Is 11 a Z (fun e a=>?_) (fun e a=>?_)))
   ·refine Go 2 Z (Cz [] a (k_cg _ _) Z fun x p a=>Go 2 Z (Is 16 a Z (fun f a=>?_) (fun f a=>?_)))
    ·refine Go 2 Z (Cz [] a (k_bi _ _) Z fun y q a=>Go 2 Z (Is 21 a Z (fun g a=>?_) (fun g a=>?_)))
     ·refine Go 2 Z (Cz [] a (k_dj _ _) Z fun z s a=>Go 2 Z (Is 26 a Z (fun i a=>?_) (fun i a=>?_)))
      ·exact Go 2 Z (Cz [] a (k_cc _ _) Z fun B t a=>Go 3 Z (Cl a []))
      ·exact Go 6 Z (Cl a [])
     ·exact Go 11 Z (Cl a [])
    ·exact Go 16 Z (Cl a [])
   ·exact Go 21 Z (Cl a [])
  ·exact Go 26 Z (Cl a [])
 exact Gx 1 Z (TC.le k (Gc 1 Z (Rt h 2 [])))
def F_ba(n:Nat)(a:Int)(b:Int)(c:Int):Option Bool:=
  ((bif decide (a<b)then some true else some (decide (c<a))):Option Bool).bind fun d=>some d
theorem k_ba(n:Nat)(c:Int)(d:Int)(e:Int)(r:Bool)(h:F_ba n c d e=some r):
    Csm prog 236 [I c,.ptr 0 0,.ptr 1 0] [.cells 3 [I d],.cells 3 [I e]] (fun r=>.bool r) r:=by
 refine Qb func236 Z Z Z ?_
 refine G0 6 Z (Bd h fun b a h=>?_)
 refine Ct b [0,1] [] (fun b=>[(4,.bool b)]) (fun _=>[]) (fun _=>rfl) ?_ (fun env H f=>?_)
 ·refine G0 5 Z (Is 8 a Z (fun g a=>?_) (fun g a=>?_))
  ·exact Go 6 Z (Cl a [0,1])
  ·exact Go 6 Z (Cl a [0,1])
 exact Gx 1 Z (TC.le f (Gc 1 Z (Rt h 4 [0,1])))
def F_jt(n:Nat)(b:List Int)(e:Int)(f:Int)(a:Int):Option (Ctl Int (Ctl Unit Int)):=
  (bif decide (a<(b.length:Int))then(idx b a).bind fun c=>(F_ba n c e f).bind fun d=>(bif d then some (.done (.done a))else some (.cont (IntKind.i64.wrap (a+1))))else some (.done (.cont ())))
def F_eq(n:Nat)(c:List Int)(d:Int)(e:Int):Option Int:=
  (iter (F_jt n c d e) n 0:Option (Ctl Unit Int)).bind fun b=>match b with|.cont a=>(some (-1))|.done a=>some a
theorem k_eq(n:Nat)(c:List Int)(a:Int)(b:Int)(r:Int)(h:F_eq n c a b=some r):
    Csm prog 226 [.rsl 1 (List.map (Qe .i64) c),.fn (.func 236) [] [.ptr 0 0,.ptr 1 0]] [.cells 3 [I a],.cells 3 [I b]] (fun r=>I r) r:=
 QH (el:=fun x=>I x) (g:=fun x=>F_ba n x a b) func226 Z Z Z runUnderlying32 sizeOf3 (fun _ _ _ _ d e=>OpV.load d isAgg3 e Pts.rp) call236 (fun _ _ h=>k_ba _ _ _ _ _ h) h
def F_bg(n:Nat)(a:List Int)(b:Int)(c:Int):Option Bool:=
  (F_eq n a b c).bind fun d=>some (decide (0<=d))
theorem k_bg(n:Nat)(a:List Int)(b:Int)(c:Int)(r:Bool)(h:F_bg n a b c=some r):
    Csm prog 147 [.rsl 1 (List.map (Qe .i64) a),.fn (.func 236) [] [.ptr 0 0,.ptr 1 0]] [.cells 3 [I b],.cells 3 [I c]] (fun r=>.bool r) r:=by
 refine Qb func147 Z Z Z ?_
 exact G0 9 Z (Cz [0,1] h (k_eq _ _ _ _) Z fun e d h=>Go 5 Z (Rt h 4 [0,1]))
def F_a(n:Nat)(a:Int)(b:Int)(c:List Int):Option Bool:=
  (F_bg n c a b).bind fun d=>some (!d)
theorem k_a(n:Nat)(a:Int)(b:Int)(c:List Int)(r:Bool)(h:F_a n a b c=some r):
    Csm prog 179 [I a,I b,.rsl 1 (List.map (Qe .i64) c)] [] (fun r=>.bool r) r:=by
 refine Qb func179 Z Z Z ?_
 exact G0 11 Z (Cz [0,1] h (k_bg _ _ _ _) Z fun e d h=>Go 5 Z (Rt h 6 []))
def F_dk(n:Nat)(a:Mat):Option Bool:=
  (F_a n 1 3 [a.Kind]).bind fun b=>some b
theorem k_dk(n:Nat)(a:Mat)(r:Bool)(h:F_dk n a=some r):
    Csm prog 188 [.agg (Mat.c a)] [] (fun r=>.bool r) r:=by
 refine Qb func188 Z Z Z ?_
 refine G0 10 Z ?_
 refine vH (OpH.lit (xs:=[.tmp 4]) (es:=List.map (Qe .i64) [a.Kind]) Qz Z Z Z Z Z ⟨Z,trivial⟩ Z Z) ?_
 exact FE Z (Cb h (k_a _ _ _ _) Z (ls (ls (lo ln))) fun d b h=>Go 4 Z (Rt h 2 []))
def F_dw(n:Nat)(a:Mat):Option Bool:=
  (F_dk n a).bind fun b=>some (!b)
theorem k_dw(n:Nat)(a:Mat)(r:Bool)(h:F_dw n a=some r):
    Csm prog 242 [.agg (Mat.c a),.ptr 0 0] [.cells 270 [.fn (.func 188) [] []]] (fun r=>.bool r) r:=by
 refine Qb func242 Z Z Z ?_
 exact G0 10 Z (Cz [] h (k_dk _ _) Z fun d b h=>Go 5 Z (Rt h 3 [0]))
def F_je(n:Nat)(b:List Mat)(a:Int):Option (Ctl Int (Ctl Unit Int)):=
  (bif decide (a<(b.length:Int))then(idx b a).bind fun c=>(F_dw n c).bind fun d=>(bif d then some (.done (.done a))else some (.cont (IntKind.i64.wrap (a+1))))else some (.done (.cont ())))
def F_fq(n:Nat)(c:List Mat):Option Int:=
  (iter (F_je n c) n 0:Option (Ctl Unit Int)).bind fun b=>match b with|.cont a=>(some (-1))|.done a=>some a
theorem k_fq(n:Nat)(a:List Mat)(r:Int)(h:F_fq n a=some r):
    Csm prog 278 [.rsl 2 (List.map Mat.c a),.fn (.func 242) [] [.ptr 0 0]] [.cells 270 [.fn (.func 188) [] []]] (fun r=>I r) r:=
 QH (el:=fun x=>.agg (Mat.c x)) (g:=fun x=>F_dw n x) func278 Z Z Z runUnderlying38 sizeOf101 (fun _ _ _ _ b d=>QF b isAgg101 sizeOf101 d Pts.rp Z Z) call242 (fun _ _ h=>k_dw _ _ _ h) h
def F_dz(n:Nat)(a:List Mat):Option Bool:=
  (F_fq n a).bind fun b=>some (decide (0<=b))
theorem k_dz(n:Nat)(a:List Mat)(r:Bool)(h:F_dz n a=some r):
    Csm prog 241 [.rsl 2 (List.map Mat.c a),.fn (.func 242) [] [.ptr 0 0]] [.cells 270 [.fn (.func 188) [] []]] (fun r=>.bool r) r:=by
 refine Qb func241 Z Z Z ?_
 exact G0 9 Z (Cz [0] h (k_fq _ _) Z fun d b h=>Go 5 Z (Rt h 4 [0]))
def F_bk(n:Nat)(a:List Mat):Option Bool:=
  (F_dz n a).bind fun b=>some (!b)
theorem k_bk(n:Nat)(a:List Mat)(r:Bool)(h:F_bk n a=some r):
    Csm prog 187 [.rsl 2 (List.map Mat.c a),.fn (.func 188) [] []] [] (fun r=>.bool r) r:=by
 refine Qb func187 Z Z Z ?_
 exact G0 10 Z (Cz [0] h (k_dz _ _) Z fun d b h=>Go 5 Z (Rt h 4 []))
def F_ck(n:Nat)(a:Leg)(b:Int):Option Bool:=
  ((F_a n 0 b [a.From,a.To]).bind fun c=>(bif c then(F_a n 0 68719476736 [a.Min,a.Max]).bind fun d=>(bif d then some (decide (a.Min<=a.Max))else some false)else some false):Option Bool).bind fun e=>some e
theorem k_ck(n:Nat)(b:Leg)(f:Int)(r:Bool)(h:F_ck n b f=some r):
    Csm prog 184 [.agg (Leg.c b),.ptr 0 0] [.cells 3 [I f]] (fun r=>.bool r) r:=by
 refine Qb func184 Z Z Z ?_
 refine G0 7 Z (Bd h fun d a h=>?_)
 refine Ct d [0] [] (fun d=>[(3,.bool d)]) (fun _=>[]) (fun _=>rfl) ?_ (fun env H g=>?_)
 ·refine G0 6 Z ?_
  refine vH (OpH.lit (xs:=[.tmp 6,.tmp 8]) (es:=List.map (Qe .i64) [b.From,b.To]) Qz Z Z Z Z Z ⟨Z,Z,trivial⟩ Z Z) ?_
  refine FE Z (Cb a (k_a _ _ _ _) Z (ls (ls (lo ln))) fun l j a=>Go 1 Z (Is 11 a Z (fun i a=>?_) (fun i a=>?_)))
  ·refine Go 4 Z ?_
   refine vH (OpH.lit (xs:=[.tmp 13,.tmp 15]) (es:=List.map (Qe .i64) [b.Min,b.Max]) Qz Z Z Z Z Z ⟨Z,Z,trivial⟩ Z Z) ?_ (gT Z)
   refine FE Z (Cb a (k_a _ _ _ _) Z (ls (ls (lo ln))) fun m k a=>Go 2 Z (Is 19 a Z (fun e a=>?_) (fun e a=>?_)))
   ·exact Go 8 Z (Cl a [0])
   ·exact Go 8 Z (Cl a [0])
  ·exact Go 16 Z (Cl a [0])
 exact Gx 1 Z (TC.le g (Gc 1 Z (Rt h 3 [0])))
def F_es(n:Nat)(a:Leg)(b:Int):Option Bool:=
  (F_ck n a b).bind fun c=>some (!c)
theorem k_es(n:Nat)(a:Leg)(b:Int)(r:Bool)(h:F_es n a b=some r):
    Csm prog 244 [.agg (Leg.c a),.ptr 0 0] [.cells 266 [.fn (.func 184) [] [.ptr 1 0]],.cells 3 [I b]] (fun r=>.bool r) r:=by
 refine Qb func244 Z Z Z ?_
 exact G0 10 Z (Cz [1] h (k_ck _ _ _) Z fun e d h=>Go 5 Z (Rt h 3 [0,1]))
def F_jk(n:Nat)(b:List Leg)(e:Int)(a:Int):Option (Ctl Int (Ctl Unit Int)):=
  (bif decide (a<(b.length:Int))then(idx b a).bind fun c=>(F_es n c e).bind fun d=>(bif d then some (.done (.done a))else some (.cont (IntKind.i64.wrap (a+1))))else some (.done (.cont ())))
def F_et(n:Nat)(c:List Leg)(d:Int):Option Int:=
  (iter (F_jk n c d) n 0:Option (Ctl Unit Int)).bind fun b=>match b with|.cont a=>(some (-1))|.done a=>some a
theorem k_et(n:Nat)(b:List Leg)(a:Int)(r:Int)(h:F_et n b a=some r):
    Csm prog 279 [.rsl 4 (List.map Leg.c b),.fn (.func 244) [] [.ptr 0 0]] [.cells 266 [.fn (.func 184) [] [.ptr 1 0]],.cells 3 [I a]] (fun r=>I r) r:=
 QH (el:=fun x=>.agg (Leg.c x)) (g:=fun x=>F_es n x a) func279 Z Z Z runUnderlying39 sizeOf135 (fun _ _ _ _ d e=>QF d isAgg135 sizeOf135 e Pts.rp Z Z) call244 (fun _ _ h=>k_es _ _ _ _ h) h
def F_fr(n:Nat)(a:List Leg)(b:Int):Option Bool:=
  (F_et n a b).bind fun c=>some (decide (0<=c))
theorem k_fr(n:Nat)(a:List Leg)(b:Int)(r:Bool)(h:F_fr n a b=some r):
    Csm prog 243 [.rsl 4 (List.map Leg.c a),.fn (.func 244) [] [.ptr 0 0]] [.cells 266 [.fn (.func 184) [] [.ptr 1 0]],.cells 3 [I b]] (fun r=>.bool r) r:=by
 refine Qb func243 Z Z Z ?_
 exact G0 9 Z (Cz [0,1] h (k_et _ _ _) Z fun e d h=>Go 5 Z (Rt h 4 [0,1]))
def F_dn(n:Nat)(a:List Leg)(b:Int):Option Bool:=
  (F_fr n a b).bind fun c=>some (!c)
theorem k_dn(n:Nat)(a:List Leg)(b:Int)(r:Bool)(h:F_dn n a b=some r):
    Csm prog 189 [.rsl 4 (List.map Leg.c a),.fn (.func 184) [] [.ptr 0 0]] [.cells 3 [I b]] (fun r=>.bool r) r:=by
 refine Qb func189 Z Z Z ?_
 exact G0 10 Z (Cz [1,0] h (k_fr _ _ _) Z fun e d h=>Go 5 Z (Rt h 4 [0]))
def F_eb(n:Nat)(a:Leg):Option Unit:=
  some ()
theorem k_eb(n:Nat)(a:Leg)(r:Unit)(h:F_eb n a=some r):
    C prog 191 [.agg (Leg.c a)] [] (RQ (fun _=>.agg [I a.From,I a.To]) (fun _=>[.cells 209 [I a.From,I a.To]]) r):=by
 refine Qb func191 Z Z Z ?_
 refine G0 17 Z ?_
 obtain rfl:=Oi h
 exact Rx [1] [2] Z (QN Z (Qp isAgg209 sizeOf209 Z Z Z)) ⟨Z,Z⟩
def F_ir(n:Nat)(c:List Leg)(a:(List (typing_ends×Bool))×Int):Option (Ctl ((List (typing_ends×Bool))×Int) (List (typing_ends×Bool))):=
  (bif decide (a.2<(c.length:Int))then(idx c a.2).bind fun b=>(F_eb n b).bind fun e=>(some (QQ a.1 ({from_:=b.From,to_:=b.To:typing_ends}) true)).bind fun d=>some (.cont (d,IntKind.i64.wrap (a.2+1)))else some (.done a.1))
def F_cz(n:Nat)(a:List Leg):Option Bool:=
  (iter (F_ir n a) n ([],0):Option (List (typing_ends×Bool))).bind fun b=>some ((b.length:Int)==(a.length:Int))
theorem k_cz(n:Nat)(m:List Leg)(r:Bool)(h:F_cz n m=some r):
    Csm prog 190 [.rsl 4 (List.map Leg.c m),.fn (.func 191) [] []] [] (fun r=>.bool r) r:=by
 refine Qb func190 Z Z Z ?_
 refine G0 7 Z ?_
 refine vH Yi ?_
 refine FE Z (Go 7 Z (Lm Z (Go 3 Z (Bd h fun b p h=>?_))))
 refine Ct b [0] [0,5] (fun _=>[]) (fun b=>[(0,.map (Qm (fun x=>A.agg (typing_ends.c x)) A.bool b))]) (fun _=>rfl) ?_ (fun env H q=>?_)
 ·refine G0 1 Z ?_
  refine Lp [0] [0,1,5,9,10] (fun d=>[(11,I d.2)]) (fun d=>[(0,.map (Qm (fun x=>A.agg (typing_ends.c x)) A.bool d.1))]) p (fun _=>rfl) (Lr [0]) fun d t a f=>?_
  refine G0 6 Z (Yt Z a (fun g a=>?_) (fun g a=>?_))
  ·refine Gc 2 Z (Qj a ?_)
   obtain rfl:=Oj f a
   exact Gx 1 Z (Q1 (Lr [0]))
  refine Gc 6 Z (Bd a fun e i a=>Iz i Z (Go 9 Z (Cd [] a (k_eb _ _) Z fun u s a=>FE Z (Bd a fun w j a=>?_))))
  refine vU (Yz (ev:=A.bool) (k:=({from_:=e.From,to_:=e.To:typing_ends})) (v:=true) (l:=d.1) Qdw j Z underlying207) ?_
  exact FE Z (Go 7 Z (Qi a (Lr [0])))
 refine Gx 1 Z (TC.le q (Gc 3 Z ?_))
 refine vX (I (b.length:Int)) (Qcb (l:=b) underlying207 Z) ?_
 exact Go 1 Z (Lm Z (Go 5 Z (Rt h 4 [])))
def F_au(rec48:(List Part)->Int->Option Bool)(n:Nat)(a:Part)(b:Int):Option Bool:=
  (bif (a.Laps==0)then((F_a n 0 b [a.Mat]).bind fun f=>(bif f then some ((a.Parts.length:Int)==0)else some false):Option Bool).bind fun g=>some g else((F_a n 1 64 [a.Laps]).bind fun c=>(bif c then(bif (a.Mat==0)then(bif decide (0<(a.Parts.length:Int))then(rec48 a.Parts b).bind fun d=>some d else some false)else some false)else some false):Option Bool).bind fun e=>some e)
theorem k_au(rec48:(List Part)->Int->Option Bool)(e:∀(b:List Part) (f:Int) (r:Bool),rec48 b f=some r->Csm prog 180 [.rsl 3 (List.map Part.enc b),.fn (.func 178) [] [.ptr 0 0,.ptr 1 0]] [.cells 3 [I f],.cells 261 [.fn (.func 178) [] [.ptr 0 0,.ptr 1 0]]] (fun r=>.bool r) r)(n:Nat)(b:Part)(f:Int)(r:Bool)(h:F_au rec48 n b f=some r):
    Csm prog 178 [.agg (Part.c b),.ptr 0 0,.ptr 1 0] [.cells 3 [I f],.cells 261 [.fn (.func 178) [] [.ptr 0 0,.ptr 1 0]]] (fun r=>.bool r) r:=by
 refine Qb func178 Z Z Z ?_
 refine G0 14 Z (Cn Z h (fun p h=>?_) (fun p h=>?_))
 ·refine Gc 1 Z (Bd h fun j d h=>?_)
  refine Ct j [0,1] [] (fun j=>[(4,.bool j)]) (fun _=>[]) (fun _=>rfl) ?_ (fun env H g=>?_)
  ·refine G0 4 Z ?_
   refine vH (OpH.lit (xs:=[.tmp 10]) (es:=List.map (Qe .i64) [b.Mat]) Qz Z Z Z Z Z ⟨Z,trivial⟩ Z Z) ?_
   refine FE Z (Cb d (k_a _ _ _ _) Z (ls (ls (lo ln))) fun y u d=>Go 1 Z (Is 13 d Z (fun q d=>?_) (fun q d=>?_)))
   ·exact Go 2 Z (Lm Z (Go 4 Z (Cl d [0,1])))
   ·exact Go 7 Z (Cl d [0,1])
  exact Gx 1 Z (TC.le g (Gc 2 Z (Rt h 4 [0,1])))
 refine Gc 3 Z (Bd h fun i a h=>?_)
 refine Ct i [0,1] [] (fun i=>[(4,.bool i)]) (fun _=>[]) (fun _=>rfl) ?_ (fun env H g=>?_)
 ·refine G0 3 Z ?_
  refine vH (OpH.lit (xs:=[.tmp 20]) (es:=List.map (Qe .i64) [b.Laps]) Qz Z Z Z Z Z ⟨Z,trivial⟩ Z Z) ?_
  refine FE Z (Cb a (k_a _ _ _ _) Z (ls (ls (lo ln))) fun w s a=>Go 1 Z (Is 23 a Z (fun k a=>?_) (fun k a=>?_)))
  ·refine Go 5 Z (Is 28 a Z (fun l a=>?_) (fun l a=>?_))
   ·refine Go 2 Z (Lm Z (Go 3 Z (Is 34 a Z (fun m a=>?_) (fun m a=>?_))))
    ·exact Go 3 Z (Cz [0,1] a (e _ _) Z fun x t a=>Go 3 Z (Cl a [0,1]))
    ·exact Go 7 Z (Cl a [0,1])
   ·exact Go 13 Z (Cl a [0,1])
  ·exact Go 18 Z (Cl a [0,1])
 exact Gx 1 Z (TC.le g (Gc 1 Z (Rt h 4 [0,1])))
def F_ib(rec48:(List Part)->Int->Option Bool)(n:Nat)(a:Part)(b:Int):Option Bool:=
  (F_au rec48 n a b).bind fun c=>some (!c)
theorem k_ib(rec48:(List Part)->Int->Option Bool)(a:∀(b:List Part) (d:Int) (r:Bool),rec48 b d=some r->Csm prog 180 [.rsl 3 (List.map Part.enc b),.fn (.func 178) [] [.ptr 0 0,.ptr 1 0]] [.cells 3 [I d],.cells 261 [.fn (.func 178) [] [.ptr 0 0,.ptr 1 0]]] (fun r=>.bool r) r)(n:Nat)(b:Part)(d:Int)(r:Bool)(h:F_ib rec48 n b d=some r):
    Csm prog 238 [.agg (Part.c b),.ptr 0 0] [.cells 261 [.fn (.func 178) [] [.ptr 1 0,.ptr 2 0]],.cells 3 [I d],.cells 261 [.fn (.func 178) [] [.ptr 1 0,.ptr 2 0]]] (fun r=>.bool r) r:=by
 refine Qb func238 Z Z Z ?_
 exact G0 10 Z (Cz [1,2] h (k_au rec48 a _ _ _) Z fun f e h=>Go 5 Z (Rt h 3 [0,1,2]))
def F_jz(n:Nat)(b:List Part)(e:Int)(rec48:(List Part)->Int->Option Bool)(a:Int):Option (Ctl Int (Ctl Unit Int)):=
  (bif decide (a<(b.length:Int))then(idx b a).bind fun c=>(F_ib rec48 n c e).bind fun d=>(bif d then some (.done (.done a))else some (.cont (IntKind.i64.wrap (a+1))))else some (.done (.cont ())))
def F_dd(rec48:(List Part)->Int->Option Bool)(n:Nat)(c:List Part)(d:Int):Option Int:=
  (iter (F_jz n c d rec48) n 0:Option (Ctl Unit Int)).bind fun b=>match b with|.cont a=>(some (-1))|.done a=>some a
theorem k_dd(rec48:(List Part)->Int->Option Bool)(c:∀(d:List Part) (e:Int) (r:Bool),rec48 d e=some r->Csm prog 180 [.rsl 3 (List.map Part.enc d),.fn (.func 178) [] [.ptr 0 0,.ptr 1 0]] [.cells 3 [I e],.cells 261 [.fn (.func 178) [] [.ptr 0 0,.ptr 1 0]]] (fun r=>.bool r) r)(n:Nat)(d:List Part)(e:Int)(r:Int)(h:F_dd rec48 n d e=some r):
    Csm prog 276 [.rsl 3 (List.map Part.enc d),.fn (.func 238) [] [.ptr 0 0]] [.cells 261 [.fn (.func 178) [] [.ptr 1 0,.ptr 2 0]],.cells 3 [I e],.cells 261 [.fn (.func 178) [] [.ptr 1 0,.ptr 2 0]]] (fun r=>I r) r:=by
 refine Qb func276 Z Z Z ?_
 refine G0 9 Z (Lm Z (Go 3 Z (Bd h fun l m h=>?_)))
 refine CtE (b:=l) [0,1,2] [] (fun _=>[]) (fun _=>[]) (fun _=>rfl) ?_ (fun t env H p q=>?_)
 ·refine G0 1 Z ?_
  refine Lp [0,1,2] [0,1,7] (fun g=>[(8,I g)]) (fun _=>[]) m (fun _=>rfl) (Lr [0,1,2]) fun g w a f=>?_
  refine G0 6 Z (Yt Z a (fun i a=>?_) (fun i a=>?_))
  ·refine Gc 2 Z (Qj a ?_)
   obtain rfl:=Oj f a
   exact Gx 1 Z (Qu Z (Lr [0,1,2]))
  refine Gc 15 Z (Bd a fun s j a=>IzE j (Y5 s) Z (Go 1 Z (Cz [0,1,2] a (k_ib rec48 c _ _ _) Z fun x u a=>Go 2 Z (Cn Z a (fun k a=>?_) (fun k a=>?_)))))
  ·refine Gc 9 Z (Qv a ?_)
   obtain rfl:=Oj f a
   exact Gx 1 Z (Qs (Gx 1 Z (Rt h 4 [0,1,2])))
  exact Gc 7 Z (Qi a (Lr [0,1,2]))
 subst p
 exact Gx 1 Z (TC.le q (Gc 6 Z (Rt h 4 [0,1,2])))
def F_bl(rec48:(List Part)->Int->Option Bool)(n:Nat)(a:List Part)(b:Int):Option Bool:=
  (F_dd rec48 n a b).bind fun c=>some (decide (0<=c))
theorem k_bl(rec48:(List Part)->Int->Option Bool)(a:∀(b:List Part) (c:Int) (r:Bool),rec48 b c=some r->Csm prog 180 [.rsl 3 (List.map Part.enc b),.fn (.func 178) [] [.ptr 0 0,.ptr 1 0]] [.cells 3 [I c],.cells 261 [.fn (.func 178) [] [.ptr 0 0,.ptr 1 0]]] (fun r=>.bool r) r)(n:Nat)(b:List Part)(c:Int)(r:Bool)(h:F_bl rec48 n b c=some r):
    Csm prog 237 [.rsl 3 (List.map Part.enc b),.fn (.func 238) [] [.ptr 0 0]] [.cells 261 [.fn (.func 178) [] [.ptr 1 0,.ptr 2 0]],.cells 3 [I c],.cells 261 [.fn (.func 178) [] [.ptr 1 0,.ptr 2 0]]] (fun r=>.bool r) r:=by
 refine Qb func237 Z Z Z ?_
 exact G0 9 Z (Cz [0,1,2] h (k_dd rec48 a _ _ _) Z fun e d h=>Go 5 Z (Rt h 4 [0,1,2]))
def B_f(rec48:(List Part)->Int->Option Bool)(n:Nat)(a:List Part)(b:Int):Option Bool:=
  (F_bl rec48 n a b).bind fun c=>some (!c)
theorem Qb4(rec48:(List Part)->Int->Option Bool)(a:∀(b:List Part) (c:Int) (r:Bool),rec48 b c=some r->Csm prog 180 [.rsl 3 (List.map Part.enc b),.fn (.func 178) [] [.ptr 0 0,.ptr 1 0]] [.cells 3 [I c],.cells 261 [.fn (.func 178) [] [.ptr 0 0,.ptr 1 0]]] (fun r=>.bool r) r)(n:Nat)(b:List Part)(c:Int)(r:Bool)(h:B_f rec48 n b c=some r):
    Csm prog 180 [.rsl 3 (List.map Part.enc b),.fn (.func 178) [] [.ptr 0 0,.ptr 1 0]] [.cells 3 [I c],.cells 261 [.fn (.func 178) [] [.ptr 0 0,.ptr 1 0]]] (fun r=>.bool r) r:=by
 refine Qb func180 Z Z Z ?_
 exact G0 10 Z (Cz [2,0,1] h (k_bl rec48 a _ _ _) Z fun e d h=>Go 5 Z (Rt h 4 [0,1]))
def F_f:Nat->(List Part)->Int->Option Bool
  |0=>fun _ _=>none
  |n+1=>B_f (F_f n) n
theorem k_f(n:Nat):∀(a:List Part) (b:Int) (r:Bool),F_f n a b=some r->Csm prog 180 [.rsl 3 (List.map Part.enc a),.fn (.func 178) [] [.ptr 0 0,.ptr 1 0]] [.cells 3 [I b],.cells 261 [.fn (.func 178) [] [.ptr 0 0,.ptr 1 0]]] (fun r=>.bool r) r:=by
  induction n with
  |zero=>intro a b r h;cases h
  |succ n ih=>intro a b r h;exact Qb4 _ ih n a b r h
def F_br(n:Nat)(a:Cutoff)(c:Int):Option Bool:=
  ((F_a n 0 c [a.Mat]).bind fun d=>(bif d then(bif decide (1<=a.Lap)then(F_a n 0 1099511627776 [a.Limit]).bind fun b=>some b else some false)else some false):Option Bool).bind fun e=>some e
theorem k_br(n:Nat)(b:Cutoff)(e:Int)(r:Bool)(h:F_br n b e=some r):
    Csm prog 181 [.agg (Cutoff.c b),.ptr 0 0] [.cells 3 [I e]] (fun r=>.bool r) r:=by
 refine Qb func181 Z Z Z ?_
 refine G0 7 Z (Bd h fun d a h=>?_)
 refine Ct d [0] [] (fun d=>[(3,.bool d)]) (fun _=>[]) (fun _=>rfl) ?_ (fun env H f=>?_)
 ·refine G0 4 Z ?_
  refine vH (OpH.lit (xs:=[.tmp 6]) (es:=List.map (Qe .i64) [b.Mat]) Qz Z Z Z Z Z ⟨Z,trivial⟩ Z Z) ?_
  refine FE Z (Cb a (k_a _ _ _ _) Z (ls (ls (lo ln))) fun m k a=>Go 1 Z (Is 9 a Z (fun g a=>?_) (fun g a=>?_)))
  ·refine Go 5 Z (Is 14 a Z (fun i a=>?_) (fun i a=>?_))
   ·refine Go 2 Z ?_
    refine vH (OpH.lit (xs:=[.tmp 16]) (es:=List.map (Qe .i64) [b.Limit]) Qz Z Z Z Z Z ⟨Z,trivial⟩ Z Z) ?_ (gT Z)
    exact FE Z (Cb a (k_a _ _ _ _) Z (ls (ls (lo ln))) fun l j a=>Go 3 Z (Cl a [0]))
   ·exact Go 7 Z (Cl a [0])
  ·exact Go 12 Z (Cl a [0])
 exact Gx 1 Z (TC.le f (Gc 1 Z (Rt h 3 [0])))
def F_ez(n:Nat)(a:Cutoff)(b:Int):Option Bool:=
  (F_br n a b).bind fun c=>some (!c)
theorem k_ez(n:Nat)(a:Cutoff)(b:Int)(r:Bool)(h:F_ez n a b=some r):
    Csm prog 240 [.agg (Cutoff.c a),.ptr 0 0] [.cells 264 [.fn (.func 181) [] [.ptr 1 0]],.cells 3 [I b]] (fun r=>.bool r) r:=by
 refine Qb func240 Z Z Z ?_
 exact G0 10 Z (Cz [1] h (k_br _ _ _) Z fun e d h=>Go 5 Z (Rt h 3 [0,1]))
def F_kd(n:Nat)(b:List Cutoff)(e:Int)(a:Int):Option (Ctl Int (Ctl Unit Int)):=
  (bif decide (a<(b.length:Int))then(idx b a).bind fun c=>(F_ez n c e).bind fun d=>(bif d then some (.done (.done a))else some (.cont (IntKind.i64.wrap (a+1))))else some (.done (.cont ())))
def F_ea(n:Nat)(c:List Cutoff)(d:Int):Option Int:=
  (iter (F_kd n c d) n 0:Option (Ctl Unit Int)).bind fun b=>match b with|.cont a=>(some (-1))|.done a=>some a
theorem k_ea(n:Nat)(b:List Cutoff)(a:Int)(r:Int)(h:F_ea n b a=some r):
    Csm prog 277 [.rsl 3 (List.map Cutoff.c b),.fn (.func 240) [] [.ptr 0 0]] [.cells 264 [.fn (.func 181) [] [.ptr 1 0]],.cells 3 [I a]] (fun r=>I r) r:=
 QH (el:=fun x=>.agg (Cutoff.c x)) (g:=fun x=>F_ez n x a) func277 Z Z Z runUnderlying97 sizeOf249 (fun _ _ _ _ d e=>QF d isAgg249 sizeOf249 e Pts.rp Z Z) call240 (fun _ _ h=>k_ez _ _ _ _ h) h
def F_ex(n:Nat)(a:List Cutoff)(b:Int):Option Bool:=
  (F_ea n a b).bind fun c=>some (decide (0<=c))
theorem k_ex(n:Nat)(a:List Cutoff)(b:Int)(r:Bool)(h:F_ex n a b=some r):
    Csm prog 239 [.rsl 3 (List.map Cutoff.c a),.fn (.func 240) [] [.ptr 0 0]] [.cells 264 [.fn (.func 181) [] [.ptr 1 0]],.cells 3 [I b]] (fun r=>.bool r) r:=by
 refine Qb func239 Z Z Z ?_
 exact G0 9 Z (Cz [0,1] h (k_ea _ _ _) Z fun e d h=>Go 5 Z (Rt h 4 [0,1]))
def F_dl(n:Nat)(a:List Cutoff)(b:Int):Option Bool:=
  (F_ex n a b).bind fun c=>some (!c)
theorem k_dl(n:Nat)(a:List Cutoff)(b:Int)(r:Bool)(h:F_dl n a b=some r):
    Csm prog 183 [.rsl 3 (List.map Cutoff.c a),.fn (.func 181) [] [.ptr 0 0]] [.cells 3 [I b]] (fun r=>.bool r) r:=by
 refine Qb func183 Z Z Z ?_
 exact G0 10 Z (Cz [1,0] h (k_ex _ _ _) Z fun e d h=>Go 5 Z (Rt h 4 [0]))
def F_ds(n:Nat)(a:Distance)(b:Int):Option Bool:=
  ((F_a n 1 3 [a.Timing]).bind fun c=>(bif c then(F_a n (-1) b [a.Extra]).bind fun d=>(bif d then(F_f n a.Route b).bind fun e=>(bif e then(F_dl n a.Cutoffs b).bind fun f=>some f else some false)else some false)else some false):Option Bool).bind fun g=>some g
theorem k_ds(n:Nat)(b:Distance)(i:Int)(r:Bool)(h:F_ds n b i=some r):
    Csm prog 182 [.agg (Distance.c b),.ptr 0 0,.ptr 1 0,.ptr 2 0] [.cells 3 [I i],.cells 261 [.fn (.func 178) [] [.ptr 0 0,.ptr 1 0]],.cells 264 [.fn (.func 181) [] [.ptr 0 0]]] (fun r=>.bool r) r:=by
 refine Qb func182 Z Z Z ?_
 refine G0 7 Z (Bd h fun d a h=>?_)
 refine Ct d [0,1,2] [] (fun d=>[(5,.bool d)]) (fun _=>[]) (fun _=>rfl) ?_ (fun env H j=>?_)
 ·refine G0 3 Z ?_
  refine vH (OpH.lit (xs:=[.tmp 7]) (es:=List.map (Qe .i64) [b.Timing]) Qz Z Z Z Z Z ⟨Z,trivial⟩ Z Z) ?_
  refine FE Z (Cb a (k_a _ _ _ _) Z (ls (ls (lo ln))) fun q k a=>Go 1 Z (Is 10 a Z (fun e a=>?_) (fun e a=>?_)))
  ·refine Go 3 Z ?_
   refine vH (OpH.lit (xs:=[.tmp 13]) (es:=List.map (Qe .i64) [b.Extra]) Qz Z Z Z Z Z ⟨Z,trivial⟩ Z Z) ?_ (gT Z)
   refine FE Z (Cb a (k_a _ _ _ _) Z (ls (ls (lo ln))) fun s l a=>Go 2 Z (Is 17 a Z (fun f a=>?_) (fun f a=>?_)))
   ·refine Go 3 Z (Cz [0,1] a (k_f _ _ _) Z fun t m a=>Go 2 Z (Is 23 a Z (fun g a=>?_) (fun g a=>?_)))
    ·exact Go 3 Z (Cz [0] a (k_dl _ _ _) Z fun u p a=>Go 3 Z (Cl a [0,1,2]))
    ·exact Go 7 Z (Cl a [0,1,2])
   ·exact Go 13 Z (Cl a [0,1,2])
  ·exact Go 20 Z (Cl a [0,1,2])
 exact Gx 1 Z (TC.le j (Gc 1 Z (Rt h 5 [0,1,2])))
def F_dx(n:Nat)(a:Distance)(b:Int):Option Bool:=
  (F_ds n a b).bind fun c=>some (!c)
theorem k_dx(n:Nat)(a:Distance)(b:Int)(r:Bool)(h:F_dx n a b=some r):
    Csm prog 203 [.agg (Distance.c a),.ptr 0 0] [.cells 212 [.fn (.func 182) [] [.ptr 1 0,.ptr 2 0,.ptr 3 0]],.cells 3 [I b],.cells 261 [.fn (.func 178) [] [.ptr 1 0,.ptr 2 0]],.cells 264 [.fn (.func 181) [] [.ptr 1 0]]] (fun r=>.bool r) r:=by
 refine Qb func203 Z Z Z ?_
 exact G0 10 Z (Cz [1,2,3] h (k_ds _ _ _) Z fun e d h=>Go 5 Z (Rt h 3 [0,1,2,3]))
def F_ko(n:Nat)(b:List Distance)(e:Int)(a:Int):Option (Ctl Int (Ctl Unit Int)):=
  (bif decide (a<(b.length:Int))then(idx b a).bind fun c=>(F_dx n c e).bind fun d=>(bif d then some (.done (.done a))else some (.cont (IntKind.i64.wrap (a+1))))else some (.done (.cont ())))
def F_ed(n:Nat)(c:List Distance)(d:Int):Option Int:=
  (iter (F_ko n c d) n 0:Option (Ctl Unit Int)).bind fun b=>match b with|.cont a=>(some (-1))|.done a=>some a
theorem k_ed(n:Nat)(b:List Distance)(a:Int)(r:Int)(h:F_ed n b a=some r):
    Csm prog 256 [.rsl 5 (List.map Distance.c b),.fn (.func 203) [] [.ptr 0 0]] [.cells 212 [.fn (.func 182) [] [.ptr 1 0,.ptr 2 0,.ptr 3 0]],.cells 3 [I a],.cells 261 [.fn (.func 178) [] [.ptr 1 0,.ptr 2 0]],.cells 264 [.fn (.func 181) [] [.ptr 1 0]]] (fun r=>I r) r:=
 QH (el:=fun x=>.agg (Distance.c x)) (g:=fun x=>F_dx n x a) func256 Z Z Z runUnderlying40 sizeOf99 (fun _ _ _ _ d e=>QF d isAgg99 sizeOf99 e Pts.rp Z Z) call203 (fun _ _ h=>k_dx _ _ _ _ h) h
def F_gd(n:Nat)(a:List Distance)(b:Int):Option Bool:=
  (F_ed n a b).bind fun c=>some (decide (0<=c))
theorem k_gd(n:Nat)(a:List Distance)(b:Int)(r:Bool)(h:F_gd n a b=some r):
    Csm prog 202 [.rsl 5 (List.map Distance.c a),.fn (.func 203) [] [.ptr 0 0]] [.cells 212 [.fn (.func 182) [] [.ptr 1 0,.ptr 2 0,.ptr 3 0]],.cells 3 [I b],.cells 261 [.fn (.func 178) [] [.ptr 1 0,.ptr 2 0]],.cells 264 [.fn (.func 181) [] [.ptr 1 0]]] (fun r=>.bool r) r:=by
 refine Qb func202 Z Z Z ?_
 exact G0 9 Z (Cz [0,1,2,3] h (k_ed _ _ _) Z fun e d h=>Go 5 Z (Rt h 4 [0,1,2,3]))
def F_cn(n:Nat)(a:List Distance)(b:Int):Option Bool:=
  (F_gd n a b).bind fun c=>some (!c)
theorem k_cn(n:Nat)(a:List Distance)(b:Int)(r:Bool)(h:F_cn n a b=some r):
    Csm prog 116 [.rsl 5 (List.map Distance.c a),.fn (.func 182) [] [.ptr 0 0,.ptr 1 0,.ptr 2 0]] [.cells 3 [I b],.cells 261 [.fn (.func 178) [] [.ptr 0 0,.ptr 1 0]],.cells 264 [.fn (.func 181) [] [.ptr 0 0]]] (fun r=>.bool r) r:=by
 refine Qb func116 Z Z Z ?_
 exact G0 10 Z (Cz [3,0,1,2] h (k_gd _ _ _) Z fun e d h=>Go 5 Z (Rt h 4 [0,1,2]))
def F_cq(n:Nat)(a:Wave):Option Bool:=
  (F_a n 0 1099511627776 [a.Gun]).bind fun b=>some b
theorem k_cq(n:Nat)(a:Wave)(r:Bool)(h:F_cq n a=some r):
    Csm prog 193 [.agg (Wave.c a)] [] (fun r=>.bool r) r:=by
 refine Qb func193 Z Z Z ?_
 refine G0 10 Z ?_
 refine vH (OpH.lit (xs:=[.tmp 4]) (es:=List.map (Qe .i64) [a.Gun]) Qz Z Z Z Z Z ⟨Z,trivial⟩ Z Z) ?_
 exact FE Z (Cb h (k_a _ _ _ _) Z (ls (ls (lo ln))) fun d b h=>Go 4 Z (Rt h 2 []))
def F_fg(n:Nat)(a:Wave):Option Bool:=
  (F_cq n a).bind fun b=>some (!b)
theorem k_fg(n:Nat)(a:Wave)(r:Bool)(h:F_fg n a=some r):
    Csm prog 246 [.agg (Wave.c a),.ptr 0 0] [.cells 275 [.fn (.func 193) [] []]] (fun r=>.bool r) r:=by
 refine Qb func246 Z Z Z ?_
 exact G0 10 Z (Cz [] h (k_cq _ _) Z fun d b h=>Go 5 Z (Rt h 3 [0]))
def F_jx(n:Nat)(b:List Wave)(a:Int):Option (Ctl Int (Ctl Unit Int)):=
  (bif decide (a<(b.length:Int))then(idx b a).bind fun c=>(F_fg n c).bind fun d=>(bif d then some (.done (.done a))else some (.cont (IntKind.i64.wrap (a+1))))else some (.done (.cont ())))
def F_fb(n:Nat)(c:List Wave):Option Int:=
  (iter (F_jx n c) n 0:Option (Ctl Unit Int)).bind fun b=>match b with|.cont a=>(some (-1))|.done a=>some a
theorem k_fb(n:Nat)(a:List Wave)(r:Int)(h:F_fb n a=some r):
    Csm prog 280 [.rsl 2 (List.map Wave.c a),.fn (.func 246) [] [.ptr 0 0]] [.cells 275 [.fn (.func 193) [] []]] (fun r=>I r) r:=
 QH (el:=fun x=>.agg (Wave.c x)) (g:=fun x=>F_fg n x) func280 Z Z Z runUnderlying41 sizeOf139 (fun _ _ _ _ b d=>QF b isAgg139 sizeOf139 d Pts.rp Z Z) call246 (fun _ _ h=>k_fg _ _ _ h) h
def F_fk(n:Nat)(a:List Wave):Option Bool:=
  (F_fb n a).bind fun b=>some (decide (0<=b))
theorem k_fk(n:Nat)(a:List Wave)(r:Bool)(h:F_fk n a=some r):
    Csm prog 245 [.rsl 2 (List.map Wave.c a),.fn (.func 246) [] [.ptr 0 0]] [.cells 275 [.fn (.func 193) [] []]] (fun r=>.bool r) r:=by
 refine Qb func245 Z Z Z ?_
 exact G0 9 Z (Cz [0] h (k_fb _ _) Z fun d b h=>Go 5 Z (Rt h 4 [0]))
def F_bo(n:Nat)(a:List Wave):Option Bool:=
  (F_fk n a).bind fun b=>some (!b)
theorem k_bo(n:Nat)(a:List Wave)(r:Bool)(h:F_bo n a=some r):
    Csm prog 192 [.rsl 2 (List.map Wave.c a),.fn (.func 193) [] []] [] (fun r=>.bool r) r:=by
 refine Qb func192 Z Z Z ?_
 exact G0 10 Z (Cz [0] h (k_fk _ _) Z fun d b h=>Go 5 Z (Rt h 4 []))
def F_ci(n:Nat)(a:Offence):Option Bool:=
  (bif a.Out then((bif (a.Time==0)then some (a.Laps==0)else some false):Option Bool).bind fun d=>some d else(bif (a.Laps != 0)then((bif (a.Time==0)then(F_a n 1 64 [a.Laps]).bind fun b=>some b else some false):Option Bool).bind fun e=>some e else(F_a n 0 68719476736 [a.Time]).bind fun c=>some c))
theorem k_ci(n:Nat)(e:Offence)(r:Bool)(h:F_ci n e=some r):
    Csm prog 185 [.agg (Offence.c e)] [] (fun r=>.bool r) r:=by
 refine Qb func185 Z Z Z ?_
 refine G0 15 Z (Cn Z h (fun j h=>?_) (fun j h=>?_))
 ·refine Gc 1 Z (Bd h fun f b h=>?_)
  refine Ct f [] [] (fun f=>[(2,.bool f)]) (fun _=>[]) (fun _=>rfl) ?_ (fun env H d=>?_)
  ·refine G0 5 Z (Is 9 b Z (fun k b=>?_) (fun k b=>?_))
   ·exact Go 6 Z (Cl b [])
   ·exact Go 6 Z (Cl b [])
  exact Gx 1 Z (TC.le d (Gc 3 Z (Rt h 2 [])))
 refine Gc 8 Z (Cn Z h (fun l h=>?_) (fun l h=>?_))
 ·refine Gc 1 Z (Bd h fun g a h=>?_)
  refine Ct g [] [] (fun g=>[(2,.bool g)]) (fun _=>[]) (fun _=>rfl) ?_ (fun env H d=>?_)
  ·refine G0 5 Z (Is 21 a Z (fun i a=>?_) (fun i a=>?_))
   ·refine Go 2 Z ?_
    refine vH (OpH.lit (xs:=[.tmp 23]) (es:=List.map (Qe .i64) [e.Laps]) Qz Z Z Z Z Z ⟨Z,trivial⟩ Z Z) ?_ (gT Z)
    exact FE Z (Cb a (k_a _ _ _ _) Z (ls (ls (lo ln))) fun q m a=>Go 3 Z (Cl a []))
   ·exact Go 7 Z (Cl a [])
  exact Gx 1 Z (TC.le d (Gc 3 Z (Rt h 2 [])))
 refine Gc 7 Z ?_
 refine vH (OpH.lit (xs:=[.tmp 28]) (es:=List.map (Qe .i64) [e.Time]) Qz Z Z Z Z Z ⟨Z,trivial⟩ Z Z) ?_
 exact FE Z (Cb h (k_a _ _ _ _) Z (ls (ls (lo ln))) fun s p h=>Go 4 Z (Rt h 2 []))
def F_fc(n:Nat)(a:Offence):Option Bool:=
  (F_ci n a).bind fun b=>some (!b)
theorem k_fc(n:Nat)(a:Offence)(r:Bool)(h:F_fc n a=some r):
    Csm prog 248 [.agg (Offence.c a),.ptr 0 0] [.cells 267 [.fn (.func 185) [] []]] (fun r=>.bool r) r:=by
 refine Qb func248 Z Z Z ?_
 exact G0 10 Z (Cz [] h (k_ci _ _) Z fun d b h=>Go 5 Z (Rt h 3 [0]))
def F_jm(n:Nat)(b:List Offence)(a:Int):Option (Ctl Int (Ctl Unit Int)):=
  (bif decide (a<(b.length:Int))then(idx b a).bind fun c=>(F_fc n c).bind fun d=>(bif d then some (.done (.done a))else some (.cont (IntKind.i64.wrap (a+1))))else some (.done (.cont ())))
def F_eg(n:Nat)(c:List Offence):Option Int:=
  (iter (F_jm n c) n 0:Option (Ctl Unit Int)).bind fun b=>match b with|.cont a=>(some (-1))|.done a=>some a
theorem k_eg(n:Nat)(a:List Offence)(r:Int)(h:F_eg n a=some r):
    Csm prog 281 [.rsl 4 (List.map Offence.c a),.fn (.func 248) [] [.ptr 0 0]] [.cells 267 [.fn (.func 185) [] []]] (fun r=>I r) r:=
 QH (el:=fun x=>.agg (Offence.c x)) (g:=fun x=>F_fc n x) func281 Z Z Z runUnderlying42 sizeOf237 (fun _ _ _ _ b d=>QF b isAgg237 sizeOf237 d Pts.rp Z Z) call248 (fun _ _ h=>k_fc _ _ _ h) h
def F_fd(n:Nat)(a:List Offence):Option Bool:=
  (F_eg n a).bind fun b=>some (decide (0<=b))
theorem k_fd(n:Nat)(a:List Offence)(r:Bool)(h:F_fd n a=some r):
    Csm prog 247 [.rsl 4 (List.map Offence.c a),.fn (.func 248) [] [.ptr 0 0]] [.cells 267 [.fn (.func 185) [] []]] (fun r=>.bool r) r:=by
 refine Qb func247 Z Z Z ?_
 exact G0 9 Z (Cz [0] h (k_eg _ _) Z fun d b h=>Go 5 Z (Rt h 4 [0]))
def F_df(n:Nat)(a:List Offence):Option Bool:=
  (F_fd n a).bind fun b=>some (!b)
theorem k_df(n:Nat)(a:List Offence)(r:Bool)(h:F_df n a=some r):
    Csm prog 194 [.rsl 4 (List.map Offence.c a),.fn (.func 185) [] []] [] (fun r=>.bool r) r:=by
 refine Qb func194 Z Z Z ?_
 exact G0 10 Z (Cz [0] h (k_fd _ _) Z fun d b h=>Go 5 Z (Rt h 4 []))
def F_cx(n:Nat)(a:Category):Option Bool:=
  ((F_a n 0 120 [a.From,a.To]).bind fun b=>(bif b then some (decide (a.From<=a.To))else some false):Option Bool).bind fun c=>some c
theorem k_cx(n:Nat)(b:Category)(r:Bool)(h:F_cx n b=some r):
    Csm prog 196 [.agg (Category.c b)] [] (fun r=>.bool r) r:=by
 refine Qb func196 Z Z Z ?_
 refine G0 7 Z (Bd h fun d a h=>?_)
 refine Ct d [] [] (fun d=>[(2,.bool d)]) (fun _=>[]) (fun _=>rfl) ?_ (fun env H e=>?_)
 ·refine G0 5 Z ?_
  refine vH (OpH.lit (xs:=[.tmp 4,.tmp 6]) (es:=List.map (Qe .i64) [b.From,b.To]) Qz Z Z Z Z Z ⟨Z,Z,trivial⟩ Z Z) ?_
  refine FE Z (Cb a (k_a _ _ _ _) Z (ls (ls (lo ln))) fun i g a=>Go 1 Z (Is 9 a Z (fun f a=>?_) (fun f a=>?_)))
  ·exact Go 8 Z (Cl a [])
  ·exact Go 8 Z (Cl a [])
 exact Gx 1 Z (TC.le e (Gc 1 Z (Rt h 2 [])))
def F_ga(n:Nat)(a:Category):Option Bool:=
  (F_cx n a).bind fun b=>some (!b)
theorem k_ga(n:Nat)(a:Category)(r:Bool)(h:F_ga n a=some r):
    Csm prog 250 [.agg (Category.c a),.ptr 0 0] [.cells 278 [.fn (.func 196) [] []]] (fun r=>.bool r) r:=by
 refine Qb func250 Z Z Z ?_
 exact G0 10 Z (Cz [] h (k_cx _ _) Z fun d b h=>Go 5 Z (Rt h 3 [0]))
def F_jq(n:Nat)(b:List Category)(a:Int):Option (Ctl Int (Ctl Unit Int)):=
  (bif decide (a<(b.length:Int))then(idx b a).bind fun c=>(F_ga n c).bind fun d=>(bif d then some (.done (.done a))else some (.cont (IntKind.i64.wrap (a+1))))else some (.done (.cont ())))
def F_en(n:Nat)(c:List Category):Option Int:=
  (iter (F_jq n c) n 0:Option (Ctl Unit Int)).bind fun b=>match b with|.cont a=>(some (-1))|.done a=>some a
theorem k_en(n:Nat)(a:List Category)(r:Int)(h:F_en n a=some r):
    Csm prog 282 [.rsl 3 (List.map Category.c a),.fn (.func 250) [] [.ptr 0 0]] [.cells 278 [.fn (.func 196) [] []]] (fun r=>I r) r:=
 QH (el:=fun x=>.agg (Category.c x)) (g:=fun x=>F_ga n x) func282 Z Z Z runUnderlying43 sizeOf239 (fun _ _ _ _ b d=>QF b isAgg239 sizeOf239 d Pts.rp Z Z) call250 (fun _ _ h=>k_ga _ _ _ h) h
def F_eh(n:Nat)(a:List Category):Option Bool:=
  (F_en n a).bind fun b=>some (decide (0<=b))
theorem k_eh(n:Nat)(a:List Category)(r:Bool)(h:F_eh n a=some r):
    Csm prog 249 [.rsl 3 (List.map Category.c a),.fn (.func 250) [] [.ptr 0 0]] [.cells 278 [.fn (.func 196) [] []]] (fun r=>.bool r) r:=by
 refine Qb func249 Z Z Z ?_
 exact G0 9 Z (Cz [0] h (k_en _ _) Z fun d b h=>Go 5 Z (Rt h 4 [0]))
def F_cl(n:Nat)(a:List Category):Option Bool:=
  (F_eh n a).bind fun b=>some (!b)
theorem k_cl(n:Nat)(a:List Category)(r:Bool)(h:F_cl n a=some r):
    Csm prog 195 [.rsl 3 (List.map Category.c a),.fn (.func 196) [] []] [] (fun r=>.bool r) r:=by
 refine Qb func195 Z Z Z ?_
 exact G0 10 Z (Cz [0] h (k_eh _ _) Z fun d b h=>Go 5 Z (Rt h 4 []))
def F_ct(n:Nat)(a:Prize)(b:Course):Option Bool:=
  ((F_a n 0 (IntKind.i64.wrap ((b.Distances.length:Int)-1)) [a.Distance]).bind fun c=>(bif c then(F_a n (-1) (IntKind.i64.wrap ((b.Categories.length:Int)-1)) [a.Category]).bind fun d=>(bif d then(F_a n 1 4000 [a.Rank]).bind fun e=>(bif e then(F_a n 1 1125899906842624 [a.Amount]).bind fun f=>some f else some false)else some false)else some false):Option Bool).bind fun g=>some g
theorem k_ct(n:Nat)(b:Prize)(i:Course)(r:Bool)(h:F_ct n b i=some r):
    Csm prog 186 [.agg (Prize.c b),.ptr 0 0] [.cells 49 (Course.c i)] (fun r=>.bool r) r:=by
 refine Qb func186 Z Z Z ?_
 refine G0 7 Z (Bd h fun d a h=>?_)
 refine Ct d [0] [] (fun d=>[(3,.bool d)]) (fun _=>[]) (fun _=>rfl) ?_ (fun env H j=>?_)
 ·refine G0 3 Z (Lm Z (Go 3 Z ?_))
  refine vH (OpH.lit (xs:=[.tmp 9]) (es:=List.map (Qe .i64) [b.Distance]) Qz Z Z Z Z Z ⟨Z,trivial⟩ Z Z) ?_
  refine FE Z (Cb a (k_a _ _ _ _) Z (ls (ls (lo ln))) fun q k a=>Go 1 Z (Is 12 a Z (fun e a=>?_) (fun e a=>?_)))
  ·refine Go 2 Z (Lm Z (Go 3 Z ?_))
   refine vH (OpH.lit (xs:=[.tmp 18]) (es:=List.map (Qe .i64) [b.Category]) Qz Z Z Z Z Z ⟨Z,trivial⟩ Z Z) ?_ (gT Z)
   refine FE Z (Cb a (k_a _ _ _ _) Z (ls (ls (lo ln))) fun s l a=>Go 2 Z (Is 22 a Z (fun f a=>?_) (fun f a=>?_)))
   ·refine Go 2 Z ?_
    refine vH (OpH.lit (xs:=[.tmp 24]) (es:=List.map (Qe .i64) [b.Rank]) Qz Z Z Z Z Z ⟨Z,trivial⟩ Z Z) ?_ (gT Z)
    refine FE Z (Cb a (k_a _ _ _ _) Z (ls (ls (lo ln))) fun t m a=>Go 2 Z (Is 28 a Z (fun g a=>?_) (fun g a=>?_)))
    ·refine Go 2 Z ?_
     refine vH (OpH.lit (xs:=[.tmp 30]) (es:=List.map (Qe .i64) [b.Amount]) Qz Z Z Z Z Z ⟨Z,trivial⟩ Z Z) ?_ (gT Z)
     exact FE Z (Cb a (k_a _ _ _ _) Z (ls (ls (lo ln))) fun u p a=>Go 3 Z (Cl a [0]))
    ·exact Go 7 Z (Cl a [0])
   ·exact Go 13 Z (Cl a [0])
  ·exact Go 23 Z (Cl a [0])
 exact Gx 1 Z (TC.le j (Gc 1 Z (Rt h 3 [0])))
def F_ge(n:Nat)(a:Prize)(b:Course):Option Bool:=
  (F_ct n a b).bind fun c=>some (!c)
theorem k_ge(n:Nat)(a:Prize)(b:Course)(r:Bool)(h:F_ge n a b=some r):
    Csm prog 252 [.agg (Prize.c a),.ptr 0 0] [.cells 268 [.fn (.func 186) [] [.ptr 1 0]],.cells 49 (Course.c b)] (fun r=>.bool r) r:=by
 refine Qb func252 Z Z Z ?_
 exact G0 10 Z (Cz [1] h (k_ct _ _ _) Z fun e d h=>Go 5 Z (Rt h 3 [0,1]))
def F_jh(n:Nat)(b:List Prize)(e:Course)(a:Int):Option (Ctl Int (Ctl Unit Int)):=
  (bif decide (a<(b.length:Int))then(idx b a).bind fun c=>(F_ge n c e).bind fun d=>(bif d then some (.done (.done a))else some (.cont (IntKind.i64.wrap (a+1))))else some (.done (.cont ())))
def F_gk(n:Nat)(c:List Prize)(d:Course):Option Int:=
  (iter (F_jh n c d) n 0:Option (Ctl Unit Int)).bind fun b=>match b with|.cont a=>(some (-1))|.done a=>some a
theorem k_gk(n:Nat)(b:List Prize)(a:Course)(r:Int)(h:F_gk n b a=some r):
    Csm prog 283 [.rsl 4 (List.map Prize.c b),.fn (.func 252) [] [.ptr 0 0]] [.cells 268 [.fn (.func 186) [] [.ptr 1 0]],.cells 49 (Course.c a)] (fun r=>I r) r:=
 QH (el:=fun x=>.agg (Prize.c x)) (g:=fun x=>F_ge n x a) func283 Z Z Z runUnderlying44 sizeOf74 (fun _ _ _ _ d e=>QF d isAgg74 sizeOf74 e Pts.rp Z Z) call252 (fun _ _ h=>k_ge _ _ _ _ h) h
def F_fm(n:Nat)(a:List Prize)(b:Course):Option Bool:=
  (F_gk n a b).bind fun c=>some (decide (0<=c))
theorem k_fm(n:Nat)(a:List Prize)(b:Course)(r:Bool)(h:F_fm n a b=some r):
    Csm prog 251 [.rsl 4 (List.map Prize.c a),.fn (.func 252) [] [.ptr 0 0]] [.cells 268 [.fn (.func 186) [] [.ptr 1 0]],.cells 49 (Course.c b)] (fun r=>.bool r) r:=by
 refine Qb func251 Z Z Z ?_
 exact G0 9 Z (Cz [0,1] h (k_gk _ _ _) Z fun e d h=>Go 5 Z (Rt h 4 [0,1]))
def F_bh(n:Nat)(a:List Prize)(b:Course):Option Bool:=
  (F_fm n a b).bind fun c=>some (!c)
theorem k_bh(n:Nat)(a:List Prize)(b:Course)(r:Bool)(h:F_bh n a b=some r):
    Csm prog 197 [.rsl 4 (List.map Prize.c a),.fn (.func 186) [] [.ptr 0 0]] [.cells 49 (Course.c b)] (fun r=>.bool r) r:=by
 refine Qb func197 Z Z Z ?_
 exact G0 10 Z (Cz [1,0] h (k_fm _ _ _) Z fun e d h=>Go 5 Z (Rt h 4 [0]))
def F_eo(n:Nat)(a:Prize):Option Unit:=
  some ()
theorem k_eo(n:Nat)(a:Prize)(r:Unit)(h:F_eo n a=some r):
    C prog 199 [.agg (Prize.c a)] [] (RQ (fun _=>.agg [I a.Distance,I a.Category,I a.Rank]) (fun _=>[.cells 282 [I a.Distance,I a.Category,I a.Rank]]) r):=by
 refine Qb func199 Z Z Z ?_
 refine G0 19 Z ?_
 obtain rfl:=Oi h
 exact Rx [1] [2] Z (QN Z (Qp isAgg282 sizeOf282 Z Z Z)) ⟨Z,Z⟩
def F_iv(n:Nat)(c:List Prize)(a:(List (typing_place×Bool))×Int):Option (Ctl ((List (typing_place×Bool))×Int) (List (typing_place×Bool))):=
  (bif decide (a.2<(c.length:Int))then(idx c a.2).bind fun b=>(F_eo n b).bind fun e=>(some (QQ a.1 ({distance:=b.Distance,category:=b.Category,rank:=b.Rank:typing_place}) true)).bind fun d=>some (.cont (d,IntKind.i64.wrap (a.2+1)))else some (.done a.1))
def F_da(n:Nat)(a:List Prize):Option Bool:=
  (iter (F_iv n a) n ([],0):Option (List (typing_place×Bool))).bind fun b=>some ((b.length:Int)==(a.length:Int))
theorem k_da(n:Nat)(m:List Prize)(r:Bool)(h:F_da n m=some r):
    Csm prog 198 [.rsl 4 (List.map Prize.c m),.fn (.func 199) [] []] [] (fun r=>.bool r) r:=by
 refine Qb func198 Z Z Z ?_
 refine G0 7 Z ?_
 refine vH Yi ?_
 refine FE Z (Go 7 Z (Lm Z (Go 3 Z (Bd h fun b p h=>?_))))
 refine Ct b [0] [0,5] (fun _=>[]) (fun b=>[(0,.map (Qm (fun x=>A.agg (typing_place.c x)) A.bool b))]) (fun _=>rfl) ?_ (fun env H q=>?_)
 ·refine G0 1 Z ?_
  refine Lp [0] [0,1,5,9,10] (fun d=>[(11,I d.2)]) (fun d=>[(0,.map (Qm (fun x=>A.agg (typing_place.c x)) A.bool d.1))]) p (fun _=>rfl) (Lr [0]) fun d t a f=>?_
  refine G0 6 Z (Yt Z a (fun g a=>?_) (fun g a=>?_))
  ·refine Gc 2 Z (Qj a ?_)
   obtain rfl:=Oj f a
   exact Gx 1 Z (Q1 (Lr [0]))
  refine Gc 6 Z (Bd a fun e i a=>Iz i Z (Go 9 Z (Cd [] a (k_eo _ _) Z fun u s a=>FE Z (Bd a fun w j a=>?_))))
  refine vU (Yz (ev:=A.bool) (k:=({distance:=e.Distance,category:=e.Category,rank:=e.Rank:typing_place})) (v:=true) (l:=d.1) QlP j Z underlying310) ?_
  exact FE Z (Go 7 Z (Qi a (Lr [0])))
 refine Gx 1 Z (TC.le q (Gc 3 Z ?_))
 refine vX (I (b.length:Int)) (Qcb (l:=b) underlying310 Z) ?_
 exact Go 1 Z (Lm Z (Go 5 Z (Rt h 4 [])))
def F_dm(n:Nat)(a:Course):Option Bool:=
  ((F_bk n a.Mats).bind fun b=>(bif b then(F_dn n a.Legs (IntKind.i64.wrap ((a.Mats.length:Int)-1))).bind fun c=>(bif c then(F_cz n a.Legs).bind fun d=>(bif d then(F_cn n a.Distances (IntKind.i64.wrap ((a.Mats.length:Int)-1))).bind fun e=>(bif e then(F_bo n a.Waves).bind fun f=>(bif f then(F_df n a.Offences).bind fun g=>(bif g then(F_cl n a.Categories).bind fun h=>(bif h then(F_bh n a.Prizes a).bind fun i=>(bif i then(F_da n a.Prizes).bind fun j=>(bif j then(F_a n 0 16 [a.Faults.Misses,a.Faults.Strays]).bind fun k=>(bif k then(F_a n 0 4294967296 [a.Faults.Window,a.Faults.Residual]).bind fun l=>(bif l then(F_a n 0 100000 [a.Faults.Drift]).bind fun m=>(bif m then(F_a n 0 1125899906842624 [a.Fee]).bind fun p=>(bif p then(F_a n 0 1099511627776 [a.Deadline]).bind fun q=>some q else some false)else some false)else some false)else some false)else some false)else some false)else some false)else some false)else some false)else some false)else some false)else some false)else some false):Option Bool).bind fun r=>some r
theorem k_dm(n:Nat)(b:Course)(r:Bool)(h:F_dm n b=some r):
    Csm prog 114 [.agg (Course.c b)] [] (fun r=>.bool r) r:=by
 refine Qb func114 Z Z Z ?_
 refine G0 10 Z (Lm Z (Go 55 Z (Bd h fun d a h=>?_)))
 refine Ct d [] [] (fun d=>[(2,.bool d)]) (fun _=>[]) (fun _=>rfl) ?_ (fun env H w=>?_)
 ·refine G0 3 Z (Cz [] a (k_bk _ _) Z fun R x a=>Go 1 Z (Is 25 a Z (fun e a=>?_) (fun e a=>?_)))
  ·refine Go 3 Z (Cd [1] a (k_dn _ _ _) Z fun T y a=>FE Z (Go 2 Z (Is 31 a Z (fun f a=>?_) (fun f a=>?_))))
   ·refine Go 2 Z (Cz [] a (k_cz _ _) Z fun V z a=>Go 2 Z (Is 36 a Z (fun g a=>?_) (fun g a=>?_)))
    ·refine Go 3 Z (Cz [1,2,3] a (k_cn _ _ _) Z fun W B a=>Go 2 Z (Is 42 a Z (fun i a=>?_) (fun i a=>?_)))
     ·refine Go 2 Z (Cz [] a (k_bo _ _) Z fun X E a=>Go 2 Z (Is 47 a Z (fun j a=>?_) (fun j a=>?_)))
      ·refine Go 3 Z (Cz [] a (k_df _ _) Z fun Y F a=>Go 2 Z (Is 53 a Z (fun k a=>?_) (fun k a=>?_)))
       ·refine Go 2 Z (Cz [] a (k_cl _ _) Z fun aa G a=>Go 2 Z (Is 58 a Z (fun l a=>?_) (fun l a=>?_)))
        ·refine Go 3 Z (Cz [0] a (k_bh _ _ _) Z fun ab J a=>Go 2 Z (Is 64 a Z (fun m a=>?_) (fun m a=>?_)))
         ·refine Go 2 Z (Cz [] a (k_da _ _) Z fun ac L a=>Go 2 Z (Is 69 a Z (fun p a=>?_) (fun p a=>?_)))
          ·refine Go 4 Z ?_
           refine vH (OpH.lit (xs:=[.tmp 71,.tmp 73]) (es:=List.map (Qe .i64) [b.Faults.Misses,b.Faults.Strays]) Qz Z Z Z Z Z ⟨Z,Z,trivial⟩ Z Z) ?_ (gT Z)
           refine FE Z (Cb a (k_a _ _ _ _) Z (ls (ls (lo ln))) fun ad M a=>Go 2 Z (Is 77 a Z (fun q a=>?_) (fun q a=>?_)))
           ·refine Go 4 Z ?_
            refine vH (OpH.lit (xs:=[.tmp 79,.tmp 81]) (es:=List.map (Qe .i64) [b.Faults.Window,b.Faults.Residual]) Qz Z Z Z Z Z ⟨Z,Z,trivial⟩ Z Z) ?_ (gT Z)
            refine FE Z (Cb a (k_a _ _ _ _) Z (ls (ls (lo ln))) fun ae N a=>Go 2 Z (Is 85 a Z (fun s a=>?_) (fun s a=>?_)))
            ·refine Go 2 Z ?_
             refine vH (OpH.lit (xs:=[.tmp 87]) (es:=List.map (Qe .i64) [b.Faults.Drift]) Qz Z Z Z Z Z ⟨Z,trivial⟩ Z Z) ?_ (gT Z)
             refine FE Z (Cb a (k_a _ _ _ _) Z (ls (ls (lo ln))) fun af O a=>Go 2 Z (Is 91 a Z (fun t a=>?_) (fun t a=>?_)))
             ·refine Go 2 Z ?_
              refine vH (OpH.lit (xs:=[.tmp 93]) (es:=List.map (Qe .i64) [b.Fee]) Qz Z Z Z Z Z ⟨Z,trivial⟩ Z Z) ?_ (gT Z)
              refine FE Z (Cb a (k_a _ _ _ _) Z (ls (ls (lo ln))) fun ag P a=>Go 2 Z (Is 97 a Z (fun u a=>?_) (fun u a=>?_)))
              ·refine Go 2 Z ?_
               refine vH (OpH.lit (xs:=[.tmp 99]) (es:=List.map (Qe .i64) [b.Deadline]) Qz Z Z Z Z Z ⟨Z,trivial⟩ Z Z) ?_ (gT Z)
               exact FE Z (Cb a (k_a _ _ _ _) Z (ls (ls (lo ln))) fun ah Q a=>Go 3 Z (Cl a []))
              ·exact Go 7 Z (Cl a [])
             ·exact Go 13 Z (Cl a [])
            ·exact Go 19 Z (Cl a [])
           ·exact Go 27 Z (Cl a [])
          ·exact Go 35 Z (Cl a [])
         ·exact Go 40 Z (Cl a [])
        ·exact Go 46 Z (Cl a [])
       ·exact Go 51 Z (Cl a [])
      ·exact Go 57 Z (Cl a [])
     ·exact Go 62 Z (Cl a [])
    ·exact Go 68 Z (Cl a [])
   ·exact Go 73 Z (Cl a [])
  ·exact Go 79 Z (Cl a [])
 exact Gx 1 Z (TC.le w (Gc 1 Z (Rt h 2 [])))
def F_jj(n:Nat)(b:List Step)(a:(List typing_form)×Int):Option (Ctl ((List typing_form)×Int) (List typing_form)):=
  (bif decide (a.2<(b.length:Int))then(idx b a.2).bind fun c=>(app a.1 [typing_form.ctyping_step ({Step:=c:typing_step})]).bind fun d=>some (.cont (d,IntKind.i64.wrap (a.2+1)))else some (.done a.1))
def F_x(n:Nat)(a:List Step):Option (List typing_form):=
  (iter (F_jj n a) n ([],0):Option (List typing_form)).bind fun b=>some b
theorem k_x(n:Nat)(q:List Step)(r:List typing_form)(h:F_x n q=some r):
    C prog 201 [.rsl 8 (List.map Step.enc q)] [] (RQ (fun r=>.osl 0 0 r.length 1) (fun r=>[.row 317 1 (List.map typing_form.enc r)]) r):=by
 refine Qb func201 Z Z Z ?_
 refine G0 9 Z (Lm Z (Go 3 Z (Bd h fun d w h=>?_)))
 refine Ct d [0] [] (fun d=>[(2,.osl 0 0 d.length 1)]) (fun d=>[(0,.row 317 1 (List.map typing_form.enc d))]) (fun _=>rfl) ?_ (fun env H u=>?_)
 ·refine G0 1 Z ?_
  refine Lp [0] [5,6] (fun b=>[(2,.osl 0 0 b.1.length 1),(7,I b.2)]) (fun b=>[(0,.row 317 1 (List.map typing_form.enc b.1))]) w (fun _=>rfl) ?_ ?_
  ·refine Le.trans (Le.phantom (s:=2) (k:=1) (t:=317) (Nat.le_of_ble_eq_true Z) Z) ?_
   exact Lr [0]
  intro b x a g
  refine G0 6 Z (Yt Z a (fun j a=>?_) (fun j a=>?_))
  ·refine Gc 2 Z (Qj a ?_)
   obtain rfl:=Oj g a
   exact Gx 1 Z (Q1 (Lr [0]))
  refine Gc 6 Z (Bd a fun f l a=>IzE l (YI f) Z (Go 9 Z ?_))
  refine vX (.iface 320 (.agg (typing_step.c ({Step:=f:typing_step})))) (Qaq Z runUnderlying320 (by intro m;nofun) Z) ?_
  refine vH (OpH.lit (xs:=[.tmp 14]) (es:=List.map typing_form.enc [typing_form.ctyping_step ({Step:=f:typing_step})]) Qb8 Z Z Z Z Z ⟨Z,trivial⟩ Z Z) ?_
  refine FE Z (Bd a fun y p a=>?_)
  refine vH (QU (e:=typing_form.enc) p Qb8 runUnderlying285 (YJ (i:=2))) ?_
  exact FE Z (Go 8 Z (Qi a (Lr [3])))
 exact Gx 1 Z (TC.le u (Gc 7 Z (Rt h 2 [0])))
def F_q(n:Nat)(a:typing_cond):Option Bool:=
  ((bif (a.Cond.Kind==0)then(bif (a.Cond.Var==0)then(bif (a.Cond.N==0)then some ((a.Cond.Parts.length:Int)==0)else some false)else some false)else some false):Option Bool).bind fun b=>some b
theorem k_q(n:Nat)(d:typing_cond)(r:Bool)(h:F_q n d=some r):
    Csm prog 284 [.agg (typing_cond.c ({Cond:=d.Cond:typing_cond}))] [] (fun r=>.bool r) r:=by
 refine Qb func284 Z Z Z ?_
 refine G0 7 Z (Bd h fun b a h=>?_)
 refine Ct b [] [] (fun b=>[(2,.bool b)]) (fun _=>[]) (fun _=>rfl) ?_ (fun env H e=>?_)
 ·refine G0 6 Z (Is 7 a Z (fun f a=>?_) (fun f a=>?_))
  ·refine Go 6 Z (Is 13 a Z (fun g a=>?_) (fun g a=>?_))
   ·refine Go 6 Z (Is 19 a Z (fun i a=>?_) (fun i a=>?_))
    ·exact Go 3 Z (Lm Z (Go 4 Z (Cl a [])))
    ·exact Go 8 Z (Cl a [])
   ·exact Go 14 Z (Cl a [])
  ·exact Go 20 Z (Cl a [])
 exact Gx 1 Z (TC.le e (Gc 1 Z (Rt h 2 [])))
def F_n(n:Nat)(a:typing_step):Option (List typing_form):=
  (F_x n a.Step.Then).bind fun b=>(F_x n a.Step.Else).bind fun c=>(app b c).bind fun d=>some d
theorem k_n(n:Nat)(a:typing_step)(r:List typing_form)(h:F_n n a=some r):
    C prog 294 [.agg (typing_step.c a)] [] (RQ (fun r=>.osl 0 0 r.length 1) (fun r=>[.row 317 1 (List.map typing_form.enc r)]) r):=by
 refine Qb func294 Z Z Z ?_
 refine G0 7 Z (DAs 7 3 [0,0,0,1,3,3,3] (by kernel_rfl) (Da 3 Z ?_))
 obtain⟨b,d,h⟩:=bnd h
 refine DA.op (x:=.osl 1 0 b.length 1) (H1:=[.cells 320 (typing_step.c a),.row 317 1 (List.map typing_form.enc b)]) ?_ ?_
 ·refine Qt [] (OpC.fn call201 Z Z Z) (k_x _ _ _ d) ?_
  rintro _ _ ⟨rfl,rfl⟩
  exact FE Z Wp
 refine Db 2 Z ?_
 refine DB.wo2 (x:=.rsl 8 (List.map Step.enc a.Step.Else)) (Ld isAgg45 Z Wp) (Ld isAgg45 Z Wp) ?_
 refine DB.done Z (Cd [] h (k_x _ _) Z fun j g h=>FE Z (Bd h fun k f h=>?_))
 refine vH (QU (e:=typing_form.enc) f Qb8 runUnderlying285 (YJ (i:=2))) ?_
 exact FE Z (Go 4 Z (Rt h 2 [3]))
def F_kw(n:Nat)(b:List Cond)(a:(List typing_form)×Int):Option (Ctl ((List typing_form)×Int) (List typing_form)):=
  (bif decide (a.2<(b.length:Int))then(idx b a.2).bind fun c=>(app a.1 [typing_form.ctyping_cond ({Cond:=c:typing_cond})]).bind fun d=>some (.cont (d,IntKind.i64.wrap (a.2+1)))else some (.done a.1))
def F_bp(n:Nat)(a:List Cond):Option (List typing_form):=
  (iter (F_kw n a) n ([],0):Option (List typing_form)).bind fun b=>some b
theorem k_bp(n:Nat)(q:List Cond)(r:List typing_form)(h:F_bp n q=some r):
    C prog 297 [.rsl 4 (List.map Cond.enc q)] [] (RQ (fun r=>.osl 0 0 r.length 1) (fun r=>[.row 317 1 (List.map typing_form.enc r)]) r):=by
 refine Qb func297 Z Z Z ?_
 refine G0 9 Z (Lm Z (Go 3 Z (Bd h fun d w h=>?_)))
 refine Ct d [0] [] (fun d=>[(2,.osl 0 0 d.length 1)]) (fun d=>[(0,.row 317 1 (List.map typing_form.enc d))]) (fun _=>rfl) ?_ (fun env H u=>?_)
 ·refine G0 1 Z ?_
  refine Lp [0] [5,6] (fun b=>[(2,.osl 0 0 b.1.length 1),(7,I b.2)]) (fun b=>[(0,.row 317 1 (List.map typing_form.enc b.1))]) w (fun _=>rfl) ?_ ?_
  ·refine Le.trans (Le.phantom (s:=2) (k:=1) (t:=317) (Nat.le_of_ble_eq_true Z) Z) ?_
   exact Lr [0]
  intro b x a g
  refine G0 6 Z (Yt Z a (fun j a=>?_) (fun j a=>?_))
  ·refine Gc 2 Z (Qj a ?_)
   obtain rfl:=Oj g a
   exact Gx 1 Z (Q1 (Lr [0]))
  refine Gc 6 Z (Bd a fun f l a=>IzE l (Qar f) Z (Go 9 Z ?_))
  refine vX (.iface 346 (.agg (typing_cond.c ({Cond:=f:typing_cond})))) (Qaq Z runUnderlying346 (by intro m;nofun) Z) ?_
  refine vH (OpH.lit (xs:=[.tmp 14]) (es:=List.map typing_form.enc [typing_form.ctyping_cond ({Cond:=f:typing_cond})]) Qb8 Z Z Z Z Z ⟨Z,trivial⟩ Z Z) ?_
  refine FE Z (Bd a fun y p a=>?_)
  refine vH (QU (e:=typing_form.enc) p Qb8 runUnderlying285 (YJ (i:=2))) ?_
  exact FE Z (Go 8 Z (Qi a (Lr [3])))
 exact Gx 1 Z (TC.le u (Gc 7 Z (Rt h 2 [0])))
def F_m(n:Nat)(a:typing_cond):Option (List typing_form):=
  (F_bp n a.Cond.Parts).bind fun b=>some b
theorem k_m(n:Nat)(a:typing_cond)(r:List typing_form)(h:F_m n a=some r):
    C prog 293 [.agg (typing_cond.c ({Cond:=a.Cond:typing_cond}))] [] (RQ (fun r=>.osl 0 0 r.length 1) (fun r=>[.row 317 1 (List.map typing_form.enc r)]) r):=by
 refine Qb func293 Z Z Z ?_
 exact G0 11 Z (Cd [] h (k_bp _ _) Z fun d b h=>FE Z (Go 4 Z (Rt h 2 [1])))
def F_fo(n:Nat)(k:List typing_form)(l:Int)(rec93:(List typing_form)->Int->typing_count->Option (typing_count×Bool))(a:typing_count×Int):Option (Ctl (typing_count×Int) (Ctl typing_count (typing_count×Bool))):=
  (bif decide (a.2<(k.length:Int))then(idx k a.2).bind fun m=>typing_form.elim m (fun e=>((F_q n ({Cond:=e.Step.Cond:typing_cond})).bind fun p=>(bif (!p)then(rec93 [typing_form.ctyping_cond ({Cond:=e.Step.Cond:typing_cond})] 0 ({steps:=IntKind.i64.wrap (a.1.steps+1),conds:=a.1.conds:typing_count})).bind fun f=>some (f.1,(!f.2))else some ({steps:=IntKind.i64.wrap (a.1.steps+1),conds:=a.1.conds:typing_count},false)):Option (typing_count×Bool)).bind fun b=>(bif b.2 then some (.done (.done (b.1,false)))else((bif decide (64<b.1.steps)then some (b.1,true)else(bif decide (256<b.1.conds)then some (b.1,true)else(F_n n e).bind fun i=>(rec93 i (IntKind.i64.wrap (l+1)) b.1).bind fun g=>some (g.1,(!g.2)))):Option (typing_count×Bool)).bind fun c=>(bif c.2 then some (.done (.done (c.1,false)))else some (.cont (c.1,IntKind.i64.wrap (a.2+1)))))) (fun q=>((bif decide (64<a.1.steps)then some ({steps:=a.1.steps,conds:=IntKind.i64.wrap (a.1.conds+1):typing_count},true)else(bif decide (256<(IntKind.i64.wrap (a.1.conds+1)))then some ({steps:=a.1.steps,conds:=IntKind.i64.wrap (a.1.conds+1):typing_count},true)else(F_m n ({Cond:=q.Cond:typing_cond})).bind fun j=>(rec93 j (IntKind.i64.wrap (l+1)) ({steps:=a.1.steps,conds:=IntKind.i64.wrap (a.1.conds+1):typing_count})).bind fun h=>some (h.1,(!h.2)))):Option (typing_count×Bool)).bind fun d=>(bif d.2 then some (.done (.done (d.1,false)))else some (.cont (d.1,IntKind.i64.wrap (a.2+1)))))else some (.done (.cont a.1)))
def B_c(rec93:(List typing_form)->Int->typing_count->Option (typing_count×Bool))(n:Nat)(b:List typing_form)(c:Int)(d:typing_count):Option (typing_count×Bool):=
  ((bif decide (0<(b.length:Int))then some (decide (16<c))else some false):Option Bool).bind fun f=>(bif f then some (d,false)else(iter (F_fo n b c rec93) n (d,0):Option (Ctl typing_count (typing_count×Bool))).bind fun e=>match e with|.cont a=>(some (a,true))|.done a=>some a)
theorem Qaw(rec93:(List typing_form)->Int->typing_count->Option (typing_count×Bool))(i:∀(p:List typing_form) (x:Int) (y:typing_count) (r:typing_count×Bool),rec93 p x y=some r->C prog 253 [.ptr 0 0,.osl 1 0 p.length 1,I x] [.cells 313 (typing_count.c y),.row 317 1 (List.map typing_form.enc p)] (RQ (fun r=>.bool r.2) (fun r=>[.cells 313 (typing_count.c r.1),.row 317 1 (List.map typing_form.enc p)]) r))(n:Nat)(p:List typing_form)(x:Int)(y:typing_count)(r:typing_count×Bool)(h:B_c rec93 n p x y=some r):
    C prog 253 [.ptr 0 0,.osl 1 0 p.length 1,I x] [.cells 313 (typing_count.c y),.row 317 1 (List.map typing_form.enc p)] (RQ (fun r=>.bool r.2) (fun r=>[.cells 313 (typing_count.c r.1),.row 317 1 (List.map typing_form.enc p)]) r):=by
 refine Qb func253 Z Z Z ?_
 refine G0 7 Z (Bd h fun V B h=>?_)
 refine Ct V [0,1] [0,1,2] (fun V=>[(18,.bool V)]) (fun _=>[]) (fun _=>rfl) ?_ (fun env H f=>?_)
 ·refine G0 5 Z (Is 15 B Z (fun Y B=>?_) (fun Y B=>?_))
  ·exact Go 4 Z (Cl B [0,1])
  ·exact Go 4 Z (Cl B [0,1])
 refine Gx 1 Z (TC.le f (Cn Z h (fun aa h=>?_) (fun aa h=>?_)))
 ·exact Gc 7 Z (Rt h 6 [0,1])
 refine Gc 10 Z (Bd h fun ab ac h=>?_)
 refine CtE (b:=ab) [0,1] [] (fun _=>[]) (fun E=>[(0,.cells 313 (typing_count.c E))]) (fun _=>rfl) ?_ (fun E env H ad f=>?_)
 ·refine G0 1 Z ?_
  refine Lp [0,1] [0,2,19,20] (fun t=>[(21,I t.2)]) (fun t=>[(0,.cells 313 (typing_count.c t.1))]) ac (fun _=>rfl) (Lr [0,1]) fun t an a q=>?_
  refine G0 6 Z (Yt Z a (fun W a=>?_) (fun W a=>?_))
  ·refine Gc 2 Z (Qj a ?_)
   obtain rfl:=Oj q a
   exact Gx 1 Z (Qu Z (Lr [0,1]))
  refine Gc 6 Z (Bd a fun T F a=>?_)
  refine vX (.ptr 1 (Int.toNat t.2*1)) (Yv F Z runUnderlying285 sizeOf317) ?_
  refine vX (typing_form.val T) (OpV.load Z isAgg317 Z (QL F)) ?_
  refine Go 12 Z ?_
  rcases Y7 T with⟨l,hE90⟩|⟨w,hE92⟩
  ·have a:=YY hE90 a
   refine WO.le (QW (s:=8) (a':=.iface 320 (.agg (typing_step.c l))) Z (congrArg typing_form.val hE90)) ?_
   refine WO.le (QW (s:=24) (a':=.iface 320 (.agg (typing_step.c l))) Z (congrArg typing_form.val hE90)) ?_
   refine WO.le (QW (s:=25) (a':=.iface 320 (.agg (typing_step.c l))) Z (congrArg typing_form.val hE90)) ?_
   refine vX (.tup [.agg [I 0,I 0,I 0,.rsl 4 (List.map Cond.enc [])],.bool false]) (QfU (z:=(.agg [I 0,I 0,I 0,.rsl 4 (List.map Cond.enc [])])) runUnderlying346 (by intro m;nofun) Z zeroValue346 (zrC Z)) ?_
   refine Go 7 Z ?_
   refine vX (.tup [.agg (typing_step.c l),.bool true]) (Qbi runUnderlying320 (by intro m;nofun)) ?_
   refine Go 34 Z (Bd a fun u g a=>?_)
   refine Ct u [0,1] [0,2,8,19,20,21] (fun u=>[(60,.bool u.2)]) (fun u=>[(0,.cells 313 (typing_count.c u.1))]) (fun _=>rfl) ?_ (fun env H f=>?_)
   ·refine G0 2 Z (Cz [] g (k_q _ _) Z fun ao ah g=>Go 2 Z (Is 53 g Z (fun X g=>?_) (fun X g=>?_)))
    ·refine Go 2 Z ?_
     refine vX (.iface 346 (.agg (typing_cond.c ({Cond:=l.Step.Cond:typing_cond})))) (Qaq Z runUnderlying346 (by intro m;nofun) Z) ?_ (gT Z)
     refine vH (OpH.lit (xs:=[.tmp 56]) (es:=List.map typing_form.enc [typing_form.ctyping_cond ({Cond:=l.Step.Cond:typing_cond})]) Qb8 Z Z Z Z Z ⟨Z,trivial⟩ Z Z) ?_ (gT Z)
     exact FE Z (Cd [0,4] g (i _ _ _) Z fun ai ae g=>FE Z (Go 3 Z (Cl g [0,1])))
    ·exact Go 8 Z (Cl g [0,1])
   refine Gx 1 Z (TC.le f (Cn Z a (fun G a=>?_) (fun G a=>?_)))
   ·refine Gc 10 Z (Qv a ?_)
    obtain rfl:=Oj q a
    exact Gx 1 Z (Qs (Gx 1 Z (Rt h 6 [0,1])))
   refine Gc 4 Z (Bd a fun j d a=>?_)
   refine Ct j [0,1] [0,2,19,20,21] (fun j=>[(81,.bool j.2)]) (fun j=>[(0,.cells 313 (typing_count.c j.1))]) (fun _=>rfl) ?_ (fun env H f=>?_)
   ·refine G0 7 Z (Is 66 d Z (fun J d=>?_) (fun J d=>?_))
    ·exact Go 16 Z (Cl d [0,1])
    ·refine Go 7 Z (Is 73 d Z (fun L d=>?_) (fun L d=>?_))
     ·exact Go 9 Z (Cl d [0,1])
     ·refine Go 2 Z (Bd d fun aj M d=>?_)
      refine Qt [] (QdC call294 Z Z Z Z (fun _ _=>by kernel_rfl)) (k_n _ _ _ M) ?_ (hg:=(gT Z))
      rintro _ _ ⟨rfl,rfl⟩
      exact FE Z (Go 2 Z (Cd [0,2] d (i _ _ _) Z fun ak af d=>FE Z (Go 3 Z (Cl d [0,1]))))
   refine Gx 1 Z (TC.le f (Cn Z a (fun N a=>?_) (fun N a=>?_)))
   ·refine Gc 8 Z (Qv a ?_)
    obtain rfl:=Oj q a
    exact Gx 1 Z (Qs (Gx 1 Z (Rt h 6 [0,1])))
   exact Gc 7 Z (Qi a (Lr [0,1]))
  ·have a:=YX hE92 a
   refine WO.le (QW (s:=8) (a':=.iface 346 (.agg (typing_cond.c ({Cond:=w.Cond:typing_cond})))) Z (congrArg typing_form.val hE92)) ?_
   refine WO.le (QW (s:=24) (a':=.iface 346 (.agg (typing_cond.c ({Cond:=w.Cond:typing_cond})))) Z (congrArg typing_form.val hE92)) ?_
   refine WO.le (QW (s:=25) (a':=.iface 346 (.agg (typing_cond.c ({Cond:=w.Cond:typing_cond})))) Z (congrArg typing_form.val hE92)) ?_
   refine vX (.tup [.agg (typing_cond.c ({Cond:=w.Cond:typing_cond})),.bool true]) (Qbi runUnderlying346 (by intro m;nofun)) ?_
   refine Go 24 Z (Bd a fun k e a=>?_)
   refine Ct k [0,1] [0,2,19,20,21] (fun k=>[(81,.bool k.2)]) (fun k=>[(0,.cells 313 (typing_count.c k.1))]) (fun _=>rfl) ?_ (fun env H f=>?_)
   ·refine G0 7 Z (Is 66 e Z (fun O e=>?_) (fun O e=>?_))
    ·exact Go 16 Z (Cl e [0,1])
    ·refine Go 7 Z (Is 73 e Z (fun P e=>?_) (fun P e=>?_))
     ·exact Go 9 Z (Cl e [0,1])
     ·refine Go 2 Z (Bd e fun al Q e=>?_)
      refine Qt [] (QdC call293 Z Z Z Z (fun _ _=>by kernel_rfl)) (k_m _ _ _ Q) ?_ (hg:=(gT Z))
      rintro _ _ ⟨rfl,rfl⟩
      exact FE Z (Go 2 Z (Cd [0,3] e (i _ _ _) Z fun am ag e=>FE Z (Go 3 Z (Cl e [0,1]))))
   refine Gx 1 Z (TC.le f (Cn Z a (fun R a=>?_) (fun R a=>?_)))
   ·refine Gc 8 Z (Qv a ?_)
    obtain rfl:=Oj q a
    exact Gx 1 Z (Qs (Gx 1 Z (Rt h 6 [0,1])))
   exact Gc 7 Z (Qi a (Lr [0,1]))
 subst ad
 exact Gx 1 Z (TC.le f (Gc 6 Z (Rt h 6 [0,1])))
def F_c:Nat->(List typing_form)->Int->typing_count->Option (typing_count×Bool)
  |0=>fun _ _ _=>none
  |n+1=>B_c (F_c n) n
theorem k_c(n:Nat):∀(a:List typing_form) (b:Int) (d:typing_count) (r:typing_count×Bool),F_c n a b d=some r->C prog 253 [.ptr 0 0,.osl 1 0 a.length 1,I b] [.cells 313 (typing_count.c d),.row 317 1 (List.map typing_form.enc a)] (RQ (fun r=>.bool r.2) (fun r=>[.cells 313 (typing_count.c r.1),.row 317 1 (List.map typing_form.enc a)]) r):=by
  induction n with
  |zero=>intro a b d r h;cases h
  |succ n ih=>intro a b d r h;exact Qaw _ ih n a b d r h
def F_kp(n:Nat)(k:List typing_form)(l:Int)(a:typing_count×Int):Option (Ctl (typing_count×Int) (Ctl typing_count (typing_count×Bool))):=
  (bif decide (a.2<(k.length:Int))then(idx k a.2).bind fun m=>typing_form.elim m (fun e=>((F_q n ({Cond:=e.Step.Cond:typing_cond})).bind fun p=>(bif (!p)then(F_c n [typing_form.ctyping_cond ({Cond:=e.Step.Cond:typing_cond})] 0 ({steps:=IntKind.i64.wrap (a.1.steps+1),conds:=a.1.conds:typing_count})).bind fun f=>some (f.1,(!f.2))else some ({steps:=IntKind.i64.wrap (a.1.steps+1),conds:=a.1.conds:typing_count},false)):Option (typing_count×Bool)).bind fun b=>(bif b.2 then some (.done (.done (b.1,false)))else((bif decide (64<b.1.steps)then some (b.1,true)else(bif decide (256<b.1.conds)then some (b.1,true)else(F_n n e).bind fun i=>(F_c n i (IntKind.i64.wrap (l+1)) b.1).bind fun g=>some (g.1,(!g.2)))):Option (typing_count×Bool)).bind fun c=>(bif c.2 then some (.done (.done (c.1,false)))else some (.cont (c.1,IntKind.i64.wrap (a.2+1)))))) (fun q=>((bif decide (64<a.1.steps)then some ({steps:=a.1.steps,conds:=IntKind.i64.wrap (a.1.conds+1):typing_count},true)else(bif decide (256<(IntKind.i64.wrap (a.1.conds+1)))then some ({steps:=a.1.steps,conds:=IntKind.i64.wrap (a.1.conds+1):typing_count},true)else(F_m n ({Cond:=q.Cond:typing_cond})).bind fun j=>(F_c n j (IntKind.i64.wrap (l+1)) ({steps:=a.1.steps,conds:=IntKind.i64.wrap (a.1.conds+1):typing_count})).bind fun h=>some (h.1,(!h.2)))):Option (typing_count×Bool)).bind fun d=>(bif d.2 then some (.done (.done (d.1,false)))else some (.cont (d.1,IntKind.i64.wrap (a.2+1)))))else some (.done (.cont a.1)))
def F_ee(n:Nat)(b:List typing_form)(c:Int)(d:typing_count):Option (typing_count×Bool):=
  ((bif decide (0<(b.length:Int))then some (decide (16<c))else some false):Option Bool).bind fun f=>(bif f then some (d,false)else(iter (F_kp n b c) n (d,0):Option (Ctl typing_count (typing_count×Bool))).bind fun e=>match e with|.cont a=>(some (a,true))|.done a=>some a)
theorem k_ee(n:Nat)(R:List typing_form)(T:Int)(V:typing_count)(r:typing_count×Bool)(h:F_ee n R T V=some r):
    C prog 253 [.ptr 0 0,.rsl 1 (List.map typing_form.enc R),I T] [.cells 313 (typing_count.c V)] (RQ (fun r=>.bool r.2) (fun r=>[.cells 313 (typing_count.c r.1)]) r):=by
 refine Qb func253 Z Z Z ?_
 refine G0 7 Z (Bd h fun N u h=>?_)
 refine Ct N [0] [0,1,2] (fun N=>[(18,.bool N)]) (fun _=>[]) (fun _=>rfl) ?_ (fun env H f=>?_)
 ·refine G0 2 Z (Lm Z (Go 2 Z (Is 15 u Z (fun W u=>?_) (fun W u=>?_))))
  ·exact Go 4 Z (Cl u [0])
  ·exact Go 4 Z (Cl u [0])
 refine Gx 1 Z (TC.le f (Cn Z h (fun X h=>?_) (fun X h=>?_)))
 ·exact Gc 7 Z (Rt h 6 [0])
 refine Gc 6 Z (Lm Z (Go 3 Z (Bd h fun Y aa h=>?_)))
 refine CtE (b:=Y) [0] [] (fun _=>[]) (fun w=>[(0,.cells 313 (typing_count.c w))]) (fun _=>rfl) ?_ (fun w env H ab f=>?_)
 ·refine G0 1 Z ?_
  refine Lp [0] [0,2,19,20] (fun q=>[(21,I q.2)]) (fun q=>[(0,.cells 313 (typing_count.c q.1))]) aa (fun _=>rfl) (Lr [0]) fun q am a l=>?_
  refine G0 6 Z (Yt Z a (fun O a=>?_) (fun O a=>?_))
  ·refine Gc 2 Z (Qj a ?_)
   obtain rfl:=Oj l a
   exact Gx 1 Z (Qu Z (Lr [0]))
  refine Gc 6 Z (Bd a fun ac P a=>Iz P Z (Go 13 Z ?_))
  rcases Y7 ac with⟨k,hE90⟩|⟨t,hE92⟩
  ·have a:=YY hE90 a
   refine WO.le (QW (s:=8) (a':=.iface 320 (.agg (typing_step.c k))) Z (congrArg typing_form.val hE90)) ?_
   refine WO.le (QW (s:=24) (a':=.iface 320 (.agg (typing_step.c k))) Z (congrArg typing_form.val hE90)) ?_
   refine WO.le (QW (s:=25) (a':=.iface 320 (.agg (typing_step.c k))) Z (congrArg typing_form.val hE90)) ?_
   refine vX (.tup [.agg [I 0,I 0,I 0,.rsl 4 (List.map Cond.enc [])],.bool false]) (QfU (z:=(.agg [I 0,I 0,I 0,.rsl 4 (List.map Cond.enc [])])) runUnderlying346 (by intro m;nofun) Z zeroValue346 (zrC Z)) ?_
   refine Go 7 Z ?_
   refine vX (.tup [.agg (typing_step.c k),.bool true]) (Qbi runUnderlying320 (by intro m;nofun)) ?_
   refine Go 34 Z (Bd a fun p g a=>?_)
   refine Ct p [0] [0,2,8,19,20,21] (fun p=>[(60,.bool p.2)]) (fun p=>[(0,.cells 313 (typing_count.c p.1))]) (fun _=>rfl) ?_ (fun env H f=>?_)
   ·refine G0 2 Z (Cz [] g (k_q _ _) Z fun an ag g=>Go 2 Z (Is 53 g Z (fun Q g=>?_) (fun Q g=>?_)))
    ·refine Go 2 Z ?_
     refine vX (.iface 346 (.agg (typing_cond.c ({Cond:=k.Step.Cond:typing_cond})))) (Qaq Z runUnderlying346 (by intro m;nofun) Z) ?_ (gT Z)
     refine vH (OpH.lit (xs:=[.tmp 56]) (es:=List.map typing_form.enc [typing_form.ctyping_cond ({Cond:=k.Step.Cond:typing_cond})]) Qb8 Z Z Z Z Z ⟨Z,trivial⟩ Z Z) ?_ (gT Z)
     exact FE Z (Cd [0,3] g (k_c _ _ _ _) Z fun ah ad g=>FE Z (Go 3 Z (Cl g [0])))
    ·exact Go 8 Z (Cl g [0])
   refine Gx 1 Z (TC.le f (Cn Z a (fun x a=>?_) (fun x a=>?_)))
   ·refine Gc 10 Z (Qv a ?_)
    obtain rfl:=Oj l a
    exact Gx 1 Z (Qs (Gx 1 Z (Rt h 6 [0])))
   refine Gc 4 Z (Bd a fun i d a=>?_)
   refine Ct i [0] [0,2,19,20,21] (fun i=>[(81,.bool i.2)]) (fun i=>[(0,.cells 313 (typing_count.c i.1))]) (fun _=>rfl) ?_ (fun env H f=>?_)
   ·refine G0 7 Z (Is 66 d Z (fun y d=>?_) (fun y d=>?_))
    ·exact Go 16 Z (Cl d [0])
    ·refine Go 7 Z (Is 73 d Z (fun B d=>?_) (fun B d=>?_))
     ·exact Go 9 Z (Cl d [0])
     ·refine Go 2 Z (Bd d fun ai E d=>?_)
      refine Qt [] (QdC call294 Z Z Z Z (fun _ _=>by kernel_rfl)) (k_n _ _ _ E) ?_ (hg:=(gT Z))
      rintro _ _ ⟨rfl,rfl⟩
      exact FE Z (Go 2 Z (Cd [0,1] d (k_c _ _ _ _) Z fun aj ae d=>FE Z (Go 3 Z (Cl d [0]))))
   refine Gx 1 Z (TC.le f (Cn Z a (fun F a=>?_) (fun F a=>?_)))
   ·refine Gc 8 Z (Qv a ?_)
    obtain rfl:=Oj l a
    exact Gx 1 Z (Qs (Gx 1 Z (Rt h 6 [0])))
   exact Gc 7 Z (Qi a (Lr [0]))
  ·have a:=YX hE92 a
   refine WO.le (QW (s:=8) (a':=.iface 346 (.agg (typing_cond.c ({Cond:=t.Cond:typing_cond})))) Z (congrArg typing_form.val hE92)) ?_
   refine WO.le (QW (s:=24) (a':=.iface 346 (.agg (typing_cond.c ({Cond:=t.Cond:typing_cond})))) Z (congrArg typing_form.val hE92)) ?_
   refine WO.le (QW (s:=25) (a':=.iface 346 (.agg (typing_cond.c ({Cond:=t.Cond:typing_cond})))) Z (congrArg typing_form.val hE92)) ?_
   refine vX (.tup [.agg (typing_cond.c ({Cond:=t.Cond:typing_cond})),.bool true]) (Qbi runUnderlying346 (by intro m;nofun)) ?_
   refine Go 24 Z (Bd a fun j e a=>?_)
   refine Ct j [0] [0,2,19,20,21] (fun j=>[(81,.bool j.2)]) (fun j=>[(0,.cells 313 (typing_count.c j.1))]) (fun _=>rfl) ?_ (fun env H f=>?_)
   ·refine G0 7 Z (Is 66 e Z (fun G e=>?_) (fun G e=>?_))
    ·exact Go 16 Z (Cl e [0])
    ·refine Go 7 Z (Is 73 e Z (fun J e=>?_) (fun J e=>?_))
     ·exact Go 9 Z (Cl e [0])
     ·refine Go 2 Z (Bd e fun ak L e=>?_)
      refine Qt [] (QdC call293 Z Z Z Z (fun _ _=>by kernel_rfl)) (k_m _ _ _ L) ?_ (hg:=(gT Z))
      rintro _ _ ⟨rfl,rfl⟩
      exact FE Z (Go 2 Z (Cd [0,2] e (k_c _ _ _ _) Z fun al af e=>FE Z (Go 3 Z (Cl e [0]))))
   refine Gx 1 Z (TC.le f (Cn Z a (fun M a=>?_) (fun M a=>?_)))
   ·refine Gc 8 Z (Qv a ?_)
    obtain rfl:=Oj l a
    exact Gx 1 Z (Qs (Gx 1 Z (Rt h 6 [0])))
   exact Gc 7 Z (Qi a (Lr [0]))
 subst ab
 exact Gx 1 Z (TC.le f (Gc 6 Z (Rt h 6 [0])))
def F_cj(rec97:(List typing_form)->Option Bool)(n:Nat)(a:typing_cond):Option Bool:=
  ((bif (a.Cond.Var==0)then some (a.Cond.N==0)else some false):Option Bool).bind fun c=>(bif (a.Cond.Kind==1)then((F_a n 1 3 [a.Cond.Var]).bind fun d=>(bif d then(F_a n 0 10000 [a.Cond.N]).bind fun e=>(bif e then some ((a.Cond.Parts.length:Int)==0)else some false)else some false):Option Bool).bind fun f=>some f else((bif (a.Cond.Kind==4)then(bif c then some (.cont ((a.Cond.Parts.length:Int)==1))else some (.cont false))else((bif (a.Cond.Kind==2)then some (a.Cond.Kind==2)else some (a.Cond.Kind==3)):Option Bool).bind fun g=>(bif g then(bif c then(bif decide (0<(a.Cond.Parts.length:Int))then some (.cont (decide ((a.Cond.Parts.length:Int)<=16)))else some (.cont false))else some (.cont false))else some (.done false))):Option (Ctl Bool Bool)).bind fun h=>match h with|.cont b=>(((bif b then(F_m n ({Cond:=a.Cond:typing_cond})).bind fun i=>(rec97 i).bind fun j=>some (!j)else some false):Option Bool).bind fun k=>some k)|.done b=>some b)
theorem k_cj(rec97:(List typing_form)->Option Bool)(j:∀(g:List typing_form) (r:Bool),rec97 g=some r->Csm prog 254 [.rsl 1 (List.map typing_form.enc g),.fn (.func 255) [] []] [] (fun r=>.bool r) r)(n:Nat)(g:typing_cond)(r:Bool)(h:F_cj rec97 n g=some r):
    Csm prog 286 [.iface 346 (.agg (typing_cond.c ({Cond:=g.Cond:typing_cond})))] [] (fun r=>.bool r) r:=by
 refine Qb func286 Z Z Z ?_
 refine G0 14 Z ?_
 refine vX (.tup [.agg (typing_cond.c ({Cond:=g.Cond:typing_cond})),.bool true]) (Qbi runUnderlying346 (by intro m;nofun)) ?_
 refine Go 12 Z (Bd h fun t k h=>?_)
 refine Ct t [0] [3] (fun t=>[(4,.bool t)]) (fun _=>[]) (fun _=>rfl) ?_ (fun env H e=>?_)
 ·refine G0 6 Z (Is 15 k Z (fun J k=>?_) (fun J k=>?_))
  ·exact Go 7 Z (Cl k [0])
  ·exact Go 7 Z (Cl k [0])
 refine Gx 1 Z (TC.le e (Gc 15 Z (Cn Z h (fun L h=>?_) (fun L h=>?_))))
 ·refine Gc 1 Z (Bd h fun l d h=>?_)
  refine Ct l [] [] (fun l=>[(2,.bool l)]) (fun _=>[]) (fun _=>rfl) ?_ (fun env H e=>?_)
  ·refine G0 4 Z ?_
   refine vH (OpH.lit (xs:=[.tmp 28]) (es:=List.map (Qe .i64) [g.Cond.Var]) Qz Z Z Z Z Z ⟨Z,trivial⟩ Z Z) ?_
   refine FE Z (Cb d (k_a _ _ _ _) Z (ls (ls (lo ln))) fun T O d=>Go 1 Z (Is 31 d Z (fun u d=>?_) (fun u d=>?_)))
   ·refine Go 3 Z ?_
    refine vH (OpH.lit (xs:=[.tmp 34]) (es:=List.map (Qe .i64) [g.Cond.N]) Qz Z Z Z Z Z ⟨Z,trivial⟩ Z Z) ?_ (gT Z)
    refine FE Z (Cb d (k_a _ _ _ _) Z (ls (ls (lo ln))) fun V P d=>Go 2 Z (Is 38 d Z (fun w d=>?_) (fun w d=>?_)))
    ·exact Go 3 Z (Lm Z (Go 4 Z (Cl d [])))
    ·exact Go 8 Z (Cl d [])
   ·exact Go 15 Z (Cl d [])
  exact Gx 1 Z (TC.le e (Gc 5 Z (Rt h 2 [])))
 refine Gc 6 Z (Bd h fun M a h=>?_)
 refine CtE (b:=M) [0] [3] (fun p=>[(4,.bool p)]) (fun _=>[]) (fun _=>rfl) ?_ (fun p env H hb e=>?_)
 ·refine G0 0 Z (Cn Z a (fun x a=>?_) (fun x a=>?_))
  ·refine Gc 3 Z (Is 48 a Z (fun y a=>?_) (fun y a=>?_))
   ·refine Go 3 Z (Lm Z (Go 4 Z ?_))
    cases a
    exact Qu Z (Lr [0])
   ·refine Go 8 Z ?_
    cases a
    exact Qu Z (Lr [0])
  refine Gc 7 Z (Bd a fun q i a=>?_)
  refine Ct q [0] [3,4] (fun q=>[(55,.bool q)]) (fun _=>[]) (fun _=>rfl) ?_ (fun env H e=>?_)
  ·refine G0 0 Z (Cn Z i (fun z i=>?_) (fun z i=>?_))
   ·exact Gc 1 Z (Cl i [0])
   exact Gc 4 Z (Cl i [0])
  refine Gx 1 Z (TC.le e (Yt Z a (fun B a=>?_) (fun B a=>?_)))
  ·refine Gc 6 Z ?_
   cases a
   exact Qs (Gx 4 Z (Rt h 2 []))
  refine Gc 3 Z (Is 59 a Z (fun E a=>?_) (fun E a=>?_))
  ·refine Go 3 Z (Lm Z (Go 3 Z (Is 66 a Z (fun F a=>?_) (fun F a=>?_))))
   ·refine Go 3 Z (Lm Z (Go 4 Z ?_))
    cases a
    exact Qu Z (Lr [0])
   ·refine Go 8 Z ?_
    cases a
    exact Qu Z (Lr [0])
  ·refine Go 15 Z ?_
   cases a
   exact Qu Z (Lr [0])
 subst hb
 refine Gx 2 Z (TC.le e (Gc 1 Z (Bd h fun s f h=>?_)))
 refine Ct s [] [] (fun s=>[(2,.bool s)]) (fun _=>[]) (fun _=>rfl) ?_ (fun env H e=>?_)
 ·refine G0 3 Z (Is 74 f Z (fun G f=>?_) (fun G f=>?_))
  ·exact Go 1 Z (Cd [] f (k_m _ _) Z fun W Q f=>FE Z (Cb f (j _) Z (lo (ls ln)) fun X R f=>Go 4 Z (Cl f [])))
  ·exact Go 7 Z (Cl f [])
 exact Gx 1 Z (TC.le e (Gc 3 Z (Rt h 2 [])))
def F_fn(rec97:(List typing_form)->Option Bool)(n:Nat)(x:typing_form):Option Bool:=
  typing_form.elim x (fun b=>(bif (b.Step.Kind==1)then((F_a n 1 5 [b.Step.By]).bind fun e=>(bif e then(F_q n ({Cond:=b.Step.Cond:typing_cond})).bind fun f=>(bif f then(F_n n b).bind fun g=>some ((g.length:Int)==0)else some false)else some false):Option Bool).bind fun h=>some h else(bif (b.Step.Kind==2)then((bif (b.Step.By==0)then(F_cj rec97 n ({Cond:=b.Step.Cond:typing_cond})).bind fun i=>(bif i then(bif decide (0<(b.Step.Then.length:Int))then(F_n n b).bind fun j=>(rec97 j).bind fun k=>some (!k)else some false)else some false)else some false):Option Bool).bind fun l=>some l else some false))) (fun a=>((bif (a.Cond.Var==0)then some (a.Cond.N==0)else some false):Option Bool).bind fun d=>(bif (a.Cond.Kind==1)then((F_a n 1 3 [a.Cond.Var]).bind fun m=>(bif m then(F_a n 0 10000 [a.Cond.N]).bind fun p=>(bif p then some ((a.Cond.Parts.length:Int)==0)else some false)else some false):Option Bool).bind fun q=>some q else((bif (a.Cond.Kind==4)then(bif d then some (.cont ((a.Cond.Parts.length:Int)==1))else some (.cont false))else((bif (a.Cond.Kind==2)then some (a.Cond.Kind==2)else some (a.Cond.Kind==3)):Option Bool).bind fun r=>(bif r then(bif d then(bif decide (0<(a.Cond.Parts.length:Int))then some (.cont (decide ((a.Cond.Parts.length:Int)<=16)))else some (.cont false))else some (.cont false))else some (.done false))):Option (Ctl Bool Bool)).bind fun s=>match s with|.cont c=>(((bif c then(F_m n ({Cond:=a.Cond:typing_cond})).bind fun t=>(rec97 t).bind fun u=>some (!u)else some false):Option Bool).bind fun w=>some w)|.done c=>some c))
theorem k_fn(rec97:(List typing_form)->Option Bool)(j:∀(p:List typing_form) (r:Bool),rec97 p=some r->Csm prog 254 [.rsl 1 (List.map typing_form.enc p),.fn (.func 255) [] []] [] (fun r=>.bool r) r)(n:Nat)(p:typing_form)(r:Bool)(h:F_fn rec97 n p=some r):
    Csm prog 286 [typing_form.val p] [] (fun r=>.bool r) r:=by
 refine Qb func286 Z Z Z ?_
 refine G0 14 Z ?_
 rcases Y7 p with⟨q,hE2⟩|⟨t,hE4⟩
 ·have h:=YY hE2 h
  refine WO.le (QW (s:=0) (a':=.iface 320 (.agg (typing_step.c q))) Z (congrArg typing_form.val hE2)) ?_
  refine WO.le (QW (s:=7) (a':=.iface 320 (.agg (typing_step.c q))) Z (congrArg typing_form.val hE2)) ?_
  refine vX (.tup [.agg [I 0,I 0,I 0,.rsl 4 (List.map Cond.enc [])],.bool false]) (QfU (z:=(.agg [I 0,I 0,I 0,.rsl 4 (List.map Cond.enc [])])) runUnderlying346 (by intro m;nofun) Z zeroValue346 (zrC Z)) ?_
  refine Go 7 Z ?_
  refine vX (.tup [.agg (typing_step.c q),.bool true]) (Qbi runUnderlying320 (by intro m;nofun)) ?_
  refine Go 35 Z (Cn Z h (fun ae h=>?_) (fun ae h=>?_))
  ·refine Gc 1 Z (Bd h fun u e h=>?_)
   refine Ct u [] [] (fun u=>[(2,.bool u)]) (fun _=>[]) (fun _=>rfl) ?_ (fun env H f=>?_)
   ·refine G0 4 Z ?_
    refine vH (OpH.lit (xs:=[.tmp 94]) (es:=List.map (Qe .i64) [q.Step.By]) Qz Z Z Z Z Z ⟨Z,trivial⟩ Z Z) ?_
    refine FE Z (Cb e (k_a _ _ _ _) Z (ls (ls (lo ln))) fun ar ag e=>Go 1 Z (Is 97 e Z (fun G e=>?_) (fun G e=>?_)))
    ·refine Go 1 Z (Cz [] e (k_q _ _) Z fun au ah e=>Go 2 Z (Is 101 e Z (fun J e=>?_) (fun J e=>?_)))
     ·exact Go 1 Z (Cd [] e (k_n _ _) Z fun av ai e=>FE Z (Go 5 Z (Cl e [])))
     ·exact Go 7 Z (Cl e [])
    ·exact Go 11 Z (Cl e [])
   exact Gx 1 Z (TC.le f (Gc 4 Z (Rt h 2 [])))
  refine Gc 6 Z (Cn Z h (fun L h=>?_) (fun L h=>?_))
  ·refine Gc 1 Z (Bd h fun w d h=>?_)
   refine Ct w [] [] (fun w=>[(2,.bool w)]) (fun _=>[]) (fun _=>rfl) ?_ (fun env H f=>?_)
   ·refine G0 6 Z (Is 113 d Z (fun M d=>?_) (fun M d=>?_))
    ·refine Go 1 Z ?_
     refine vX (.iface 346 (.agg (typing_cond.c ({Cond:=q.Step.Cond:typing_cond})))) (Qaq Z runUnderlying346 (by intro m;nofun) Z) ?_ (gT Z)
     refine Cz [] d (k_cj rec97 j _ _) Z fun aw aj d=>Go 2 Z (Is 118 d Z (fun O d=>?_) (fun O d=>?_))
     ·refine Go 3 Z (Lm Z (Go 3 Z (Is 125 d Z (fun P d=>?_) (fun P d=>?_))))
      ·exact Go 1 Z (Cd [] d (k_n _ _) Z fun ax ak d=>FE Z (Cb d (j _) Z (lo (ls ln)) fun ay al d=>Go 4 Z (Cl d [])))
      ·exact Go 7 Z (Cl d [])
     ·exact Go 14 Z (Cl d [])
    ·exact Go 19 Z (Cl d [])
   exact Gx 1 Z (TC.le f (Gc 4 Z (Rt h 2 [])))
  exact Gc 10 Z (Rt h 2 [])
 ·have h:=YX hE4 h
  refine WO.le (QW (s:=0) (a':=.iface 346 (.agg (typing_cond.c ({Cond:=t.Cond:typing_cond})))) Z (congrArg typing_form.val hE4)) ?_
  refine WO.le (QW (s:=7) (a':=.iface 346 (.agg (typing_cond.c ({Cond:=t.Cond:typing_cond})))) Z (congrArg typing_form.val hE4)) ?_
  refine vX (.tup [.agg (typing_cond.c ({Cond:=t.Cond:typing_cond})),.bool true]) (Qbi runUnderlying346 (by intro m;nofun)) ?_
  refine Go 12 Z (Bd h fun x k h=>?_)
  refine Ct x [0] [3] (fun x=>[(4,.bool x)]) (fun _=>[]) (fun _=>rfl) ?_ (fun env H f=>?_)
  ·refine G0 6 Z (Is 15 k Z (fun Q k=>?_) (fun Q k=>?_))
   ·exact Go 7 Z (Cl k [0])
   ·exact Go 7 Z (Cl k [0])
  refine Gx 1 Z (TC.le f (Gc 15 Z (Cn Z h (fun R h=>?_) (fun R h=>?_))))
  ·refine Gc 1 Z (Bd h fun y g h=>?_)
   refine Ct y [] [] (fun y=>[(2,.bool y)]) (fun _=>[]) (fun _=>rfl) ?_ (fun env H f=>?_)
   ·refine G0 4 Z ?_
    refine vH (OpH.lit (xs:=[.tmp 28]) (es:=List.map (Qe .i64) [t.Cond.Var]) Qz Z Z Z Z Z ⟨Z,trivial⟩ Z Z) ?_
    refine FE Z (Cb g (k_a _ _ _ _) Z (ls (ls (lo ln))) fun az am g=>Go 1 Z (Is 31 g Z (fun T g=>?_) (fun T g=>?_)))
    ·refine Go 3 Z ?_
     refine vH (OpH.lit (xs:=[.tmp 34]) (es:=List.map (Qe .i64) [t.Cond.N]) Qz Z Z Z Z Z ⟨Z,trivial⟩ Z Z) ?_ (gT Z)
     refine FE Z (Cb g (k_a _ _ _ _) Z (ls (ls (lo ln))) fun ba an g=>Go 2 Z (Is 38 g Z (fun V g=>?_) (fun V g=>?_)))
     ·exact Go 3 Z (Lm Z (Go 4 Z (Cl g [])))
     ·exact Go 8 Z (Cl g [])
    ·exact Go 15 Z (Cl g [])
   exact Gx 1 Z (TC.le f (Gc 5 Z (Rt h 2 [])))
  refine Gc 6 Z (Bd h fun af a h=>?_)
  refine CtE (b:=af) [0] [3] (fun B=>[(4,.bool B)]) (fun _=>[]) (fun _=>rfl) ?_ (fun B env H hb f=>?_)
  ·refine G0 0 Z (Cn Z a (fun W a=>?_) (fun W a=>?_))
   ·refine Gc 3 Z (Is 48 a Z (fun X a=>?_) (fun X a=>?_))
    ·refine Go 3 Z (Lm Z (Go 4 Z ?_))
     cases a
     exact Qu Z (Lr [0])
    ·refine Go 8 Z ?_
     cases a
     exact Qu Z (Lr [0])
   refine Gc 7 Z (Bd a fun E l a=>?_)
   refine Ct E [0] [3,4] (fun E=>[(55,.bool E)]) (fun _=>[]) (fun _=>rfl) ?_ (fun env H f=>?_)
   ·refine G0 0 Z (Cn Z l (fun Y l=>?_) (fun Y l=>?_))
    ·exact Gc 1 Z (Cl l [0])
    exact Gc 4 Z (Cl l [0])
   refine Gx 1 Z (TC.le f (Yt Z a (fun aa a=>?_) (fun aa a=>?_)))
   ·refine Gc 6 Z ?_
    cases a
    exact Qs (Gx 4 Z (Rt h 2 []))
   refine Gc 3 Z (Is 59 a Z (fun ab a=>?_) (fun ab a=>?_))
   ·refine Go 3 Z (Lm Z (Go 3 Z (Is 66 a Z (fun ac a=>?_) (fun ac a=>?_))))
    ·refine Go 3 Z (Lm Z (Go 4 Z ?_))
     cases a
     exact Qu Z (Lr [0])
    ·refine Go 8 Z ?_
     cases a
     exact Qu Z (Lr [0])
   ·refine Go 15 Z ?_
    cases a
    exact Qu Z (Lr [0])
  subst hb
  refine Gx 2 Z (TC.le f (Gc 1 Z (Bd h fun F i h=>?_)))
  refine Ct F [] [] (fun F=>[(2,.bool F)]) (fun _=>[]) (fun _=>rfl) ?_ (fun env H f=>?_)
  ·refine G0 3 Z (Is 74 i Z (fun ad i=>?_) (fun ad i=>?_))
   ·exact Go 1 Z (Cd [] i (k_m _ _) Z fun bb ao i=>FE Z (Cb i (j _) Z (lo (ls ln)) fun bc aq i=>Go 4 Z (Cl i [])))
   ·exact Go 7 Z (Cl i [])
  exact Gx 1 Z (TC.le f (Gc 3 Z (Rt h 2 [])))
def F_cd(rec97:(List typing_form)->Option Bool)(n:Nat)(a:typing_form):Option Bool:=
  (F_fn rec97 n a).bind fun b=>some (!b)
theorem k_cd(rec97:(List typing_form)->Option Bool)(a:∀(b:List typing_form) (r:Bool),rec97 b=some r->Csm prog 254 [.rsl 1 (List.map typing_form.enc b),.fn (.func 255) [] []] [] (fun r=>.bool r) r)(n:Nat)(b:typing_form)(r:Bool)(h:F_cd rec97 n b=some r):
    Csm prog 255 [typing_form.val b] [] (fun r=>.bool r) r:=by
 refine Qb func255 Z Z Z ?_
 exact G0 8 Z (Bd h fun d c h=>Pc [] Z (OpC.fn call286 Z Z Z) (k_fn rec97 a _ _ _ c) (hargs:=by first|exact Z|exact Eq.trans (by exact Z) (Qaf _ (by simp[Yd,Q9,typing_form.data])).symm) Z (Go 5 Z (Rt h 2 [])))
def F_kx(n:Nat)(b:List typing_form)(rec97:(List typing_form)->Option Bool)(a:Int):Option (Ctl Int (Ctl Unit Int)):=
  (bif decide (a<(b.length:Int))then(idx b a).bind fun c=>(F_cd rec97 n c).bind fun d=>(bif d then some (.done (.done a))else some (.cont (IntKind.i64.wrap (a+1))))else some (.done (.cont ())))
def F_gg(rec97:(List typing_form)->Option Bool)(n:Nat)(c:List typing_form):Option Int:=
  (iter (F_kx n c rec97) n 0:Option (Ctl Unit Int)).bind fun b=>match b with|.cont a=>(some (-1))|.done a=>some a
theorem k_gg(rec97:(List typing_form)->Option Bool)(c:∀(d:List typing_form) (r:Bool),rec97 d=some r->Csm prog 254 [.rsl 1 (List.map typing_form.enc d),.fn (.func 255) [] []] [] (fun r=>.bool r) r)(n:Nat)(d:List typing_form)(r:Int)(h:F_gg rec97 n d=some r):
    Csm prog 285 [.rsl 1 (List.map typing_form.enc d),.fn (.func 255) [] []] [] (fun r=>I r) r:=by
 refine Qb func285 Z Z Z ?_
 refine G0 9 Z (Lm Z (Go 3 Z (Bd h fun l m h=>?_)))
 refine CtE (b:=l) [] [] (fun _=>[]) (fun _=>[]) (fun _=>rfl) ?_ (fun s env H p q=>?_)
 ·refine G0 1 Z ?_
  refine Lp [] [0,1,7] (fun f=>[(8,I f)]) (fun _=>[]) m (fun _=>rfl) (Lr []) fun f t a e=>?_
  refine G0 6 Z (Yt Z a (fun g a=>?_) (fun g a=>?_))
  ·refine Gc 2 Z (Qj a ?_)
   obtain rfl:=Oj e a
   exact Gx 1 Z (Qu Z (Lr []))
  refine Gc 15 Z (Bd a fun u i a=>Iz i Z (Go 1 Z (Bd a fun w j a=>Pc [] Z (QfW call255 Z Z Z Z) (k_cd rec97 c _ _ _ j) (hargs:=by first|exact Z|exact Eq.trans (by exact Z) (Qaf _ (by simp[Yd,Q9,typing_form.data])).symm) Z (Go 2 Z (Cn Z a (fun k a=>?_) (fun k a=>?_))))))
  ·refine Gc 9 Z (Qv a ?_)
   obtain rfl:=Oj e a
   exact Gx 1 Z (Qs (Gx 1 Z (Rt h 4 [])))
  exact Gc 7 Z (Qi a (Lr []))
 subst p
 exact Gx 1 Z (TC.le q (Gc 6 Z (Rt h 4 [])))
def B_h(rec97:(List typing_form)->Option Bool)(n:Nat)(a:List typing_form):Option Bool:=
  (F_gg rec97 n a).bind fun b=>some (decide (0<=b))
theorem Qax(rec97:(List typing_form)->Option Bool)(a:∀(b:List typing_form) (r:Bool),rec97 b=some r->Csm prog 254 [.rsl 1 (List.map typing_form.enc b),.fn (.func 255) [] []] [] (fun r=>.bool r) r)(n:Nat)(b:List typing_form)(r:Bool)(h:B_h rec97 n b=some r):
    Csm prog 254 [.rsl 1 (List.map typing_form.enc b),.fn (.func 255) [] []] [] (fun r=>.bool r) r:=by
 refine Qb func254 Z Z Z ?_
 exact G0 9 Z (Cz [] h (k_gg rec97 a _ _) Z fun d c h=>Go 5 Z (Rt h 4 []))
def F_h:Nat->(List typing_form)->Option Bool
  |0=>fun _=>none
  |n+1=>B_h (F_h n) n
theorem k_h(n:Nat):∀(a:List typing_form) (r:Bool),F_h n a=some r->Csm prog 254 [.rsl 1 (List.map typing_form.enc a),.fn (.func 255) [] []] [] (fun r=>.bool r) r:=by
  induction n with
  |zero=>intro a r h;cases h
  |succ n ih=>intro a r h;exact Qax _ ih n a r h
def F_dy(n:Nat)(a:List typing_form):Option Int:=
  (F_ee n a 0 ({steps:=0,conds:=0:typing_count})).bind fun b=>(bif (!b.2)then some 2 else((bif ((a.length:Int)==0)then some true else(F_h n a).bind fun c=>some c):Option Bool).bind fun d=>(bif d then some 71 else some 0))
theorem k_dy(n:Nat)(c:List typing_form)(r:Int)(h:F_dy n c=some r):
    Csm prog 200 [.rsl 1 (List.map typing_form.enc c)] [] (fun r=>I r) r:=by
 refine Qb func200 Z Z Z ?_
 refine G0 17 Z (Cd [0] h (k_ee _ _ _ _) Z fun k i h=>FE Z (Go 3 Z (Cn Z h (fun d h=>?_) (fun d h=>?_))))
 ·exact Gc 7 Z (Rt h 2 [])
 refine Gc 4 Z (Bd h fun b a h=>?_)
 refine Ct b [] [] (fun b=>[(16,.bool b)]) (fun _=>[]) (fun _=>rfl) ?_ (fun env H e=>?_)
 ·refine G0 2 Z (Lm Z (Go 2 Z (Is 13 a Z (fun f a=>?_) (fun f a=>?_))))
  ·exact Go 4 Z (Cl a [])
  ·exact Go 1 Z (Cz [] a (k_h _ _) Z fun l j a=>Go 2 Z (Cl a []))
 refine Gx 1 Z (TC.le e (Cn Z h (fun g h=>?_) (fun g h=>?_)))
 ·exact Gc 7 Z (Rt h 2 [])
 exact Gc 8 Z (Rt h 2 [])
def F_bv(n:Nat)(a:List Step):Option Int:=
  (F_x n a).bind fun b=>(F_dy n b).bind fun c=>some c
theorem k_bv(n:Nat)(a:List Step)(r:Int)(h:F_bv n a=some r):
    Csm prog 115 [.rsl 8 (List.map Step.enc a)] [] (fun r=>I r) r:=by
 refine Qb func115 Z Z Z ?_
 exact G0 8 Z (Cd [] h (k_x _ _) Z fun d b h=>FE Z (Cb h (k_dy _ _) Z (lo ln) fun e c h=>Go 4 Z (Rt h 2 [])))
def F_du(n:Nat)(b:Part)(c:List Int)(a:(List Int)×Int):Option (Ctl ((List Int)×Int) (Ctl (List Int) (Ctl ((List Int)×Int) (Ctl (List Int) (List Int))))):=
  (bif decide (a.2<(if b.Laps<1 then 1 else b.Laps))then(bif decide (256<(a.1.length:Int))then some (.done (.done (.done (.done a.1))))else(app a.1 c).bind fun d=>some (.cont (d,IntKind.i64.wrap (a.2+1))))else some (.done (.cont a.1)))
def F_ek(n:Nat)(d:List Part)(rec116:(List Part)->Option (List Int))(a:(List Int)×Int):Option (Ctl ((List Int)×Int) (Ctl (List Int) (List Int))):=
  (bif decide (a.2<(d.length:Int))then(idx d a.2).bind fun c=>((bif decide (0<c.Laps)then(rec116 c.Parts).bind fun e=>some e else some [c.Mat]):Option (List Int)).bind fun f=>(iter (F_du n c f) n (a.1,0):Option (Ctl (List Int) (Ctl ((List Int)×Int) (Ctl (List Int) (List Int))))).bind fun g=>match g with|.cont b=>(some (.cont (b,IntKind.i64.wrap (a.2+1))))|.done b=>some b else some (.done (.cont a.1)))
def B_l(rec116:(List Part)->Option (List Int))(n:Nat)(c:List Part):Option (List Int):=
  (iter (F_ek n c rec116) n ([],0):Option (Ctl (List Int) (List Int))).bind fun b=>match b with|.cont a=>(some a)|.done a=>some a
theorem Qcn(rec116:(List Part)->Option (List Int))(u:∀(w:List Part) (r:List Int),rec116 w=some r->C prog 204 [.rsl 3 (List.map Part.enc w)] [] (RQ (fun r=>.osl 0 0 r.length 1) (fun r=>[.row 3 1 (List.map (Qe .i64) r)]) r))(n:Nat)(w:List Part)(r:List Int)(h:B_l rec116 n w=some r):
    C prog 204 [.rsl 3 (List.map Part.enc w)] [] (RQ (fun r=>.osl 0 0 r.length 1) (fun r=>[.row 3 1 (List.map (Qe .i64) r)]) r):=by
 refine Qb func204 Z Z Z ?_
 refine G0 9 Z (Lm Z (Go 3 Z (Bd h fun M N h=>?_)))
 refine CtE (b:=M) [0] [] (fun f=>[(2,.osl 0 0 f.length 1)]) (fun f=>[(0,.row 3 1 (List.map (Qe .i64) f))]) (fun _=>rfl) ?_ (fun f env H x j=>?_)
 ·refine G0 1 Z ?_
  refine Lp [0] [6,7] (fun l=>[(2,.osl 0 0 l.1.length 1),(8,I l.2)]) (fun l=>[(0,.row 3 1 (List.map (Qe .i64) l.1))]) N (fun _=>rfl) ?_ ?_
  ·refine Le.trans (Le.phantom (s:=2) (k:=1) (t:=3) (Nat.le_of_ble_eq_true Z) Z) ?_
   exact Lr [0]
  intro l R a y
  refine G0 6 Z (Yt Z a (fun B a=>?_) (fun B a=>?_))
  ·refine Gc 2 Z (Qj a ?_)
   obtain rfl:=Oj y a
   exact Gx 1 Z (Qu Z (Lr [0]))
  refine Gc 6 Z (Bd a fun q E a=>IzE E (Y5 q) Z (Go 9 Z ?_))
  refine vH (OpH.lit (xs:=[.tmp 13]) (es:=List.map (Qe .i64) [q.Mat]) Qz Z Z Z Z Z ⟨Z,trivial⟩ Z Z) ?_
  refine FE Z (Go 11 Z (Bd a fun m d a=>?_))
  refine Ct m [0,1,0] [2,4,6,7,8] (fun m=>[(5,.osl 2 0 m.length 1)]) (fun m=>[(2,.row 3 1 (List.map (Qe .i64) m))]) (fun _=>rfl) ?_ (fun env H j=>?_)
  ·refine G0 0 Z (Cn Z d (fun F d=>?_) (fun F d=>?_))
   ·exact Gc 3 Z (Cd [] d (u _) Z fun T Q d=>FE Z (Go 2 Z (Cl d [0,1,3])))
   exact Gc 1 Z (Cl d [0,1,2])
  refine Gx 1 Z (TC.le j (Gc 4 Z ?_))
  refine vX (I (if q.Laps<1 then 1 else q.Laps)) (OpV.max Z Z Z Z) ?_
  refine Go 3 Z (Bd a fun O P a=>?_)
  refine CtE (b:=O) [0] [6,7,8] (fun g=>[(2,.osl 0 0 g.length 1)]) (fun g=>[(0,.row 3 1 (List.map (Qe .i64) g))]) (fun _=>rfl) ?_ (fun g env H x j=>?_)
  ·refine G0 1 Z ?_
   refine Lp [0,2] [5,6,7,8,23] (fun p=>[(2,.osl 0 0 p.1.length 1),(24,I p.2)]) (fun p=>[(0,.row 3 1 (List.map (Qe .i64) p.1))]) P (fun _=>rfl) (Lr [0,2]) fun p V c z=>?_
   refine G0 6 Z (Yt Z c (fun G c=>?_) (fun G c=>?_))
   ·refine Gc 2 Z (Qj c ?_)
    obtain rfl:=Oj z c
    exact Gx 1 Z (Qu Z (Lr [0]))
   refine Gc 12 Z (Cn Z c (fun J c=>?_) (fun J c=>?_))
   ·refine Gc 10 Z (Qv c ?_)
    obtain rfl:=Oj z c
    refine Gx 1 Z (Qs (Gx 2 Z (Qv a ?_)))
    obtain rfl:=Oj y a
    exact Gx 1 Z (Qs (Gx 1 Z (Rt h 2 [0])))
   refine Gc 5 Z (Bd c fun W L c=>?_)
   refine vH (QU (e:=(Qe .i64)) L Qz runUnderlying32 (YJ (i:=1))) ?_
   exact FE Z (Go 8 Z (Qi c (Lr [2,1])))
  subst x
  exact Gx 2 Z (TC.le j (Gc 4 Z (Qi a (Lr [0]))))
 subst x
 exact Gx 1 Z (TC.le j (Gc 7 Z (Rt h 2 [0])))
def F_l:Nat->(List Part)->Option (List Int)
  |0=>fun _=>none
  |n+1=>B_l (F_l n) n
theorem k_l(n:Nat):∀(a:List Part) (r:List Int),F_l n a=some r->C prog 204 [.rsl 3 (List.map Part.enc a)] [] (RQ (fun r=>.osl 0 0 r.length 1) (fun r=>[.row 3 1 (List.map (Qe .i64) r)]) r):=by
  induction n with
  |zero=>intro a r h;cases h
  |succ n ih=>intro a r h;exact Qcn _ ih n a r h
def F_bx(n:Nat)(a:Cutoff)(b:List (Int×Int)):Option Bool:=
  (some (QG b a.Mat 0)).bind fun c=>some (decide (a.Lap<=c))
theorem k_bx(n:Nat)(a:Cutoff)(b:List (Int×Int))(r:Bool)(h:F_bx n a b=some r):
    Csm prog 205 [.agg (Cutoff.c a),.ptr 0 0] [.cells 103 [.map 1],.map (Qm (fun x=>A.int .i64 x) (fun x=>A.int .i64 x) b)] (fun r=>.bool r) r:=by
 refine Qb func205 Z Z Z ?_
 refine G0 11 Z (Bd h fun e d h=>?_)
 refine vX (I e) (Yy (ev:=(fun x=>A.int .i64 x)) (z0:=0) (k:=a.Mat) (l:=b) QaE d underlying103 zeroValue3 ZR.int) ?_
 exact Go 7 Z (Rt h 3 [0,1])
def F_fi(n:Nat)(a:Cutoff)(b:List (Int×Int)):Option Bool:=
  (F_bx n a b).bind fun c=>some (!c)
theorem k_fi(n:Nat)(a:Cutoff)(b:List (Int×Int))(r:Bool)(h:F_fi n a b=some r):
    Csm prog 240 [.agg (Cutoff.c a),.ptr 0 0] [.cells 264 [.fn (.func 205) [] [.ptr 1 0]],.cells 103 [.map 2],.map (Qm (fun x=>A.int .i64 x) (fun x=>A.int .i64 x) b)] (fun r=>.bool r) r:=by
 refine Qb func240 Z Z Z ?_
 exact G0 10 Z (Cz [1,2] h (k_bx _ _ _) Z fun e d h=>Go 5 Z (Rt h 3 [0,1,2]))
def F_kt(n:Nat)(b:List Cutoff)(e:List (Int×Int))(a:Int):Option (Ctl Int (Ctl Unit Int)):=
  (bif decide (a<(b.length:Int))then(idx b a).bind fun c=>(F_fi n c e).bind fun d=>(bif d then some (.done (.done a))else some (.cont (IntKind.i64.wrap (a+1))))else some (.done (.cont ())))
def F_ft(n:Nat)(c:List Cutoff)(d:List (Int×Int)):Option Int:=
  (iter (F_kt n c d) n 0:Option (Ctl Unit Int)).bind fun b=>match b with|.cont a=>(some (-1))|.done a=>some a
theorem k_ft(n:Nat)(b:List Cutoff)(a:List (Int×Int))(r:Int)(h:F_ft n b a=some r):
    Csm prog 277 [.rsl 3 (List.map Cutoff.c b),.fn (.func 240) [] [.ptr 0 0]] [.cells 264 [.fn (.func 205) [] [.ptr 1 0]],.cells 103 [.map 2],.map (Qm (fun x=>A.int .i64 x) (fun x=>A.int .i64 x) a)] (fun r=>I r) r:=
 QH (el:=fun x=>.agg (Cutoff.c x)) (g:=fun x=>F_fi n x a) func277 Z Z Z runUnderlying97 sizeOf249 (fun _ _ _ _ d e=>QF d isAgg249 sizeOf249 e Pts.rp Z Z) call240 (fun _ _ h=>k_fi _ _ _ _ h) h
def F_fa(n:Nat)(a:List Cutoff)(b:List (Int×Int)):Option Bool:=
  (F_ft n a b).bind fun c=>some (decide (0<=c))
theorem k_fa(n:Nat)(a:List Cutoff)(b:List (Int×Int))(r:Bool)(h:F_fa n a b=some r):
    Csm prog 239 [.rsl 3 (List.map Cutoff.c a),.fn (.func 240) [] [.ptr 0 0]] [.cells 264 [.fn (.func 205) [] [.ptr 1 0]],.cells 103 [.map 2],.map (Qm (fun x=>A.int .i64 x) (fun x=>A.int .i64 x) b)] (fun r=>.bool r) r:=by
 refine Qb func239 Z Z Z ?_
 exact G0 9 Z (Cz [0,1,2] h (k_ft _ _ _) Z fun e d h=>Go 5 Z (Rt h 4 [0,1,2]))
def F_ej(n:Nat)(a:List Cutoff)(b:List (Int×Int)):Option Bool:=
  (F_fa n a b).bind fun c=>some (!c)
theorem k_ej(n:Nat)(a:List Cutoff)(b:List (Int×Int))(r:Bool)(h:F_ej n a b=some r):
    Csm prog 183 [.rsl 3 (List.map Cutoff.c a),.fn (.func 205) [] [.ptr 0 0]] [.cells 103 [.map 1],.map (Qm (fun x=>A.int .i64 x) (fun x=>A.int .i64 x) b)] (fun r=>.bool r) r:=by
 refine Qb func183 Z Z Z ?_
 exact G0 10 Z (Cz [2,0,1] h (k_fa _ _ _) Z fun e d h=>Go 5 Z (Rt h 4 [0,1]))
def F_cw(n:Nat)(j:Course)(k:List (typing_ends×Bool))(c:List Int)(a:(List (Int×Int))×Int):Option (Ctl ((List (Int×Int))×Int) (Ctl (List (Int×Int)) Bool)):=
  (bif decide (a.2<(c.length:Int))then(idx c a.2).bind fun b=>(idx j.Mats b).bind fun d=>((bif ((d.Kind==1) != (a.2==0))then some true else(bif ((d.Kind==3) != (a.2==(IntKind.i64.wrap ((c.length:Int)-1))))then some true else(bif decide (0<a.2)then(idx c (IntKind.i64.wrap (a.2-1))).bind fun e=>(some (QG k ({from_:=e,to_:=b:typing_ends}) false)).bind fun f=>some (!f)else some false))):Option Bool).bind fun g=>(bif g then some (.done (.done false))else(some (QG a.1 b 0)).bind fun h=>(some (QQ a.1 b (IntKind.i64.wrap (h+1)))).bind fun i=>some (.cont (i,IntKind.i64.wrap (a.2+1))))else some (.done (.cont a.1)))
def F_cs(n:Nat)(d:Course)(b:Distance)(e:List (typing_ends×Bool)):Option Bool:=
  (F_l n b.Route).bind fun c=>((bif decide ((IntKind.i64.wrap ((c.length:Int)-1))<1)then some true else some (decide (256<=(IntKind.i64.wrap ((c.length:Int)-1))))):Option Bool).bind fun l=>(bif l then some false else(iter (F_cw n d e c) n ([],0):Option (Ctl (List (Int×Int)) Bool)).bind fun f=>match f with|.cont a=>(((bif decide (0<=b.Extra)then(some (QG a b.Extra 0)).bind fun g=>(bif (g==0)then some true else(idx d.Mats b.Extra).bind fun h=>(bif (h.Kind != 2)then some true else(some (QG e ({from_:=b.Extra,to_:=b.Extra:typing_ends}) false)).bind fun i=>some (!i)))else some false):Option Bool).bind fun j=>(bif j then some false else(F_ej n b.Cutoffs a).bind fun k=>some k))|.done a=>some a)
theorem k_cs(n:Nat)(a1:Course)(m:Distance)(y:List (typing_ends×Bool))(r:Bool)(h:F_cs n a1 m y=some r):
    Csm prog 118 [.agg (Course.c a1),.agg (Distance.c m),.map 0] [.map (Qm (fun x=>A.agg (typing_ends.c x)) A.bool y)] (fun r=>.bool r) r:=by
 refine Qb func118 Z Z Z ?_
 refine G0 11 Z (Cd [] h (k_l _ _) Z fun r1 al h=>FE Z (Go 13 Z (Bd h fun F p h=>?_)))
 refine Ct F [0,1,2,3] [2,3,4,7,8] (fun F=>[(25,.bool F)]) (fun _=>[]) (fun _=>rfl) ?_ (fun env H g=>?_)
 ·refine G0 4 Z (Is 22 p Z (fun ac p=>?_) (fun ac p=>?_))
  ·exact Go 4 Z (Cl p [0,1,2,3])
  ·exact Go 4 Z (Cl p [0,1,2,3])
 refine Gx 1 Z (TC.le g (Cn Z h (fun ad h=>?_) (fun ad h=>?_)))
 ·exact Gc 7 Z (Rt h 6 [0])
 refine Gc 4 Z ?_
 refine vH Yi ?_
 refine FE Z (Go 12 Z (Bd h fun ae af h=>?_))
 refine CtE (b:=ae) [0,1,2,4,5] [2,3,4] (fun _=>[(9,.ptr 3 0)]) (fun i=>[(3,.cells 103 [.map 4]),(4,.map (Qm (fun x=>A.int .i64 x) (fun x=>A.int .i64 x) i))]) (fun _=>rfl) ?_ (fun i env H ag g=>?_)
 ·refine G0 1 Z ?_
  refine Lp [0,1,2,3,5,4] [2,3,4,7,8,9,27,28] (fun f=>[(29,I f.2)]) (fun f=>[(4,.cells 103 [.map 5]),(5,.map (Qm (fun x=>A.int .i64 x) (fun x=>A.int .i64 x) f.1))]) af (fun _=>rfl) (Lr [0,1,2,3,5,4]) fun f am a q=>?_
  refine G0 6 Z (Yt Z a (fun G a=>?_) (fun G a=>?_))
  ·refine Gc 2 Z (Qj a ?_)
   obtain rfl:=Oj q a
   exact Gx 1 Z (Qu Z (Lr [0,1,2,4,5]))
  refine Gc 7 Z (Bd a fun j s a=>?_)
  refine vX (.ptr 3 (Int.toNat f.2*1)) (Yv s Z runUnderlying32 sizeOf3) ?_
  refine vX (I j) (OpV.load Z isAgg3 Z (QL s)) ?_
  refine Go 9 Z (Bd a fun z J a=>Iz J Z (Go 7 Z (Bd a fun t e a=>?_)))
  refine Ct t [0,1,2,3,4,5] [2,3,4,7,8,9,11,27,28,29] (fun t=>[(68,.bool t)]) (fun _=>[]) (fun _=>rfl) ?_ (fun env H g=>?_)
  ·refine G0 5 Z ?_
   refine vX (.bool ((z.Kind==1) != (f.2==0))) (Qbj runUnderlying4) ?_
   refine Go 1 Z (Is 45 e Z (fun L e=>?_) (fun L e=>?_))
   ·exact Go 24 Z (Cl e [0,1,2,3,4,5])
   ·refine Go 5 Z ?_
    refine vV (x:=(.bool ((z.Kind==3) != (f.2==(IntKind.i64.wrap ((r1.length:Int)-1)))))) (Qbj runUnderlying4) ?_ (gT Z)
    refine Go 2 Z (Is 53 e Z (fun M e=>?_) (fun M e=>?_))
    ·exact Go 16 Z (Cl e [0,1,2,3,4,5])
    ·refine Go 3 Z (Is 56 e Z (fun N e=>?_) (fun N e=>?_))
     ·refine Go 4 Z (Bd e fun B u e=>?_)
      refine vX (.ptr 3 (Int.toNat (IntKind.i64.wrap (f.2-1))*1)) (Yv u Z runUnderlying32 sizeOf3) ?_ (gT Z)
      refine vX (I B) (OpV.load Z isAgg3 Z (QL u)) ?_ (gT Z)
      refine Go 2 Z (Bd e fun ah O e=>?_)
      refine vX (.bool ah) (Yy (ev:=A.bool) (z0:=false) (k:=({from_:=B,to_:=j:typing_ends})) (l:=y) Qdw O underlying207 zeroValue4 ZR.bool) ?_ (gT Z)
      exact Go 4 Z (Cl e [0,1,2,3,4,5])
     ·exact Go 13 Z (Cl e [0,1,2,3,4,5])
  refine Gx 1 Z (TC.le g (Cn Z a (fun P a=>?_) (fun P a=>?_)))
  ·refine Gc 9 Z (Qv a ?_)
   obtain rfl:=Oj q a
   exact Gx 1 Z (Qs (Gx 1 Z (Rt h 6 [0])))
  refine Gc 5 Z (Bd a fun E Q a=>?_)
  refine vX (I E) (Yy (ev:=(fun x=>A.int .i64 x)) (z0:=0) (k:=j) (l:=f.1) QaE Q underlying103 zeroValue3 ZR.int) ?_
  refine Go 1 Z (Bd a fun an R a=>?_)
  refine vU (Yz (ev:=(fun x=>A.int .i64 x)) (k:=j) (v:=(IntKind.i64.wrap (E+1))) (l:=f.1) QaE R Z underlying103) ?_
  exact FE Z (Go 7 Z (Qi a (Lr [0,1,2,3,4,5])))
 subst ag
 refine Gx 1 Z (TC.le g (Gc 9 Z (Bd h fun w d h=>?_)))
 refine Ct w [0,2,3,4] [4,9] (fun w=>[(100,.bool w)]) (fun _=>[(2,.cells 103 [.map 3])]) (fun _=>rfl) ?_ (fun env H g=>?_)
 ·refine G0 4 Z (Is 78 d Z (fun T d=>?_) (fun T d=>?_))
  ·refine Go 2 Z (Bd d fun ai V d=>?_)
   refine vX (I ai) (Yy (ev:=(fun x=>A.int .i64 x)) (z0:=0) (k:=m.Extra) (l:=i) QaE V underlying103 zeroValue3 ZR.int) ?_ (gT Z)
   refine Go 2 Z (Is 83 d Z (fun W d=>?_) (fun W d=>?_))
   ·exact Go 18 Z (Cl d [0,2,3,4])
   ·refine Go 3 Z (Bd d fun ao X d=>Iz X Z (Go 5 Z (Is 92 d Z (fun Y d=>?_) (fun Y d=>?_))))
    ·exact Go 9 Z (Cl d [0,2,3,4])
    ·refine Go 4 Z (Bd d fun aj aa d=>?_)
     refine vX (.bool aj) (Yy (ev:=A.bool) (z0:=false) (k:=({from_:=m.Extra,to_:=m.Extra:typing_ends})) (l:=y) Qdw aa underlying207 zeroValue4 ZR.bool) ?_ (gT Z)
     exact Go 4 Z (Cl d [0,2,3,4])
  ·exact Go 23 Z (Cl d [0,2,3,4])
 refine Gx 1 Z (TC.le g (Cn Z h (fun ab h=>?_) (fun ab h=>?_)))
 ·exact Gc 7 Z (Rt h 6 [0])
 exact Gc 7 Z (Cz [2,3] h (k_ej _ _ _) Z fun aq ak h=>Go 4 Z (Rt h 6 [0]))
def F_dg(n:Nat)(a:Distance)(b:Course)(c:List (typing_ends×Bool)):Option Bool:=
  (F_cs n b a c).bind fun d=>some d
theorem k_dg(n:Nat)(a:Distance)(b:Course)(d:List (typing_ends×Bool))(r:Bool)(h:F_dg n a b d=some r):
    Csm prog 117 [.agg (Distance.c a),.ptr 0 0,.ptr 1 0] [.cells 49 (Course.c b),.cells 207 [.map 2],.map (Qm (fun x=>A.agg (typing_ends.c x)) A.bool d)] (fun r=>.bool r) r:=by
 refine Qb func117 Z Z Z ?_
 exact G0 11 Z (Cz [2] h (k_cs _ _ _ _) Z fun f e h=>Go 4 Z (Rt h 4 [0,1,2]))
def F_fj(n:Nat)(a:Distance)(b:Course)(c:List (typing_ends×Bool)):Option Bool:=
  (F_dg n a b c).bind fun d=>some (!d)
theorem k_fj(n:Nat)(a:Distance)(b:Course)(d:List (typing_ends×Bool))(r:Bool)(h:F_fj n a b d=some r):
    Csm prog 203 [.agg (Distance.c a),.ptr 0 0] [.cells 212 [.fn (.func 117) [] [.ptr 1 0,.ptr 2 0]],.cells 49 (Course.c b),.cells 207 [.map 3],.map (Qm (fun x=>A.agg (typing_ends.c x)) A.bool d)] (fun r=>.bool r) r:=by
 refine Qb func203 Z Z Z ?_
 exact G0 10 Z (Cz [1,2,3] h (k_dg _ _ _ _) Z fun f e h=>Go 5 Z (Rt h 3 [0,1,2,3]))
def F_ka(n:Nat)(b:List Distance)(e:Course)(f:List (typing_ends×Bool))(a:Int):Option (Ctl Int (Ctl Unit Int)):=
  (bif decide (a<(b.length:Int))then(idx b a).bind fun c=>(F_fj n c e f).bind fun d=>(bif d then some (.done (.done a))else some (.cont (IntKind.i64.wrap (a+1))))else some (.done (.cont ())))
def F_fy(n:Nat)(c:List Distance)(d:Course)(e:List (typing_ends×Bool)):Option Int:=
  (iter (F_ka n c d e) n 0:Option (Ctl Unit Int)).bind fun b=>match b with|.cont a=>(some (-1))|.done a=>some a
theorem k_fy(n:Nat)(d:List Distance)(a:Course)(b:List (typing_ends×Bool))(r:Int)(h:F_fy n d a b=some r):
    Csm prog 256 [.rsl 5 (List.map Distance.c d),.fn (.func 203) [] [.ptr 0 0]] [.cells 212 [.fn (.func 117) [] [.ptr 1 0,.ptr 2 0]],.cells 49 (Course.c a),.cells 207 [.map 3],.map (Qm (fun x=>A.agg (typing_ends.c x)) A.bool b)] (fun r=>I r) r:=
 QH (el:=fun x=>.agg (Distance.c x)) (g:=fun x=>F_fj n x a b) func256 Z Z Z runUnderlying40 sizeOf99 (fun _ _ _ _ e f=>QF e isAgg99 sizeOf99 f Pts.rp Z Z) call203 (fun _ _ h=>k_fj _ _ _ _ _ h) h
def F_ei(n:Nat)(a:List Distance)(b:Course)(c:List (typing_ends×Bool)):Option Bool:=
  (F_fy n a b c).bind fun d=>some (decide (0<=d))
theorem k_ei(n:Nat)(a:List Distance)(b:Course)(d:List (typing_ends×Bool))(r:Bool)(h:F_ei n a b d=some r):
    Csm prog 202 [.rsl 5 (List.map Distance.c a),.fn (.func 203) [] [.ptr 0 0]] [.cells 212 [.fn (.func 117) [] [.ptr 1 0,.ptr 2 0]],.cells 49 (Course.c b),.cells 207 [.map 3],.map (Qm (fun x=>A.agg (typing_ends.c x)) A.bool d)] (fun r=>.bool r) r:=by
 refine Qb func202 Z Z Z ?_
 exact G0 9 Z (Cz [0,1,2,3] h (k_fy _ _ _ _) Z fun f e h=>Go 5 Z (Rt h 4 [0,1,2,3]))
def F_ca(n:Nat)(a:List Distance)(b:Course)(c:List (typing_ends×Bool)):Option Bool:=
  (F_ei n a b c).bind fun d=>some (!d)
theorem k_ca(n:Nat)(a:List Distance)(b:Course)(d:List (typing_ends×Bool))(r:Bool)(h:F_ca n a b d=some r):
    Csm prog 116 [.rsl 5 (List.map Distance.c a),.fn (.func 117) [] [.ptr 0 0,.ptr 1 0]] [.cells 49 (Course.c b),.cells 207 [.map 2],.map (Qm (fun x=>A.agg (typing_ends.c x)) A.bool d)] (fun r=>.bool r) r:=by
 refine Qb func116 Z Z Z ?_
 exact G0 10 Z (Cz [3,0,1,2] h (k_ei _ _ _ _) Z fun f e h=>Go 5 Z (Rt h 4 [0,1,2]))
def F_hy(n:Nat)(c:Course)(a:(List (typing_ends×Bool))×Int):Option (Ctl ((List (typing_ends×Bool))×Int) (List (typing_ends×Bool))):=
  (bif decide (a.2<(c.Legs.length:Int))then(idx c.Legs a.2).bind fun b=>(some (QQ a.1 ({from_:=b.From,to_:=b.To:typing_ends}) true)).bind fun d=>some (.cont (d,IntKind.i64.wrap (a.2+1)))else some (.done a.1))
def F_k(n:Nat)(a:Course):Option Int:=
  (F_ac n a).bind fun e=>(bif (!e)then some 2 else(F_bt n a).bind fun f=>(bif (!f)then some 70 else(F_dm n a).bind fun g=>(bif (!g)then some 71 else(F_bv n a.Ties).bind fun b=>(bif (b != 0)then some b else(iter (F_hy n a) n ([],0):Option (List (typing_ends×Bool))).bind fun c=>(F_ca n a.Distances a c).bind fun d=>(bif (!d)then some 72 else some 0)))))
theorem k_k(n:Nat)(p:Course)(r:Int)(h:F_k n p=some r):
    Csm prog 71 [.agg (Course.c p)] [] (fun r=>I r) r:=by
 refine Qb func71 Z Z Z ?_
 refine G0 11 Z (Cz [] h (k_ac _ _) Z fun N B h=>Go 4 Z (Cn Z h (fun q h=>?_) (fun q h=>?_)))
 ·exact Gc 8 Z (Rt h 2 [])
 refine Gc 3 Z (Cz [] h (k_bt _ _) Z fun O E h=>Go 4 Z (Cn Z h (fun s h=>?_) (fun s h=>?_)))
 ·exact Gc 8 Z (Rt h 2 [])
 refine Gc 3 Z (Cz [] h (k_dm _ _) Z fun P F h=>Go 4 Z (Cn Z h (fun t h=>?_) (fun t h=>?_)))
 ·exact Gc 8 Z (Rt h 2 [])
 refine Gc 8 Z (Cz [] h (k_bv _ _) Z fun Q G h=>Go 9 Z (Cn Z h (fun u h=>?_) (fun u h=>?_)))
 ·exact Gc 8 Z (Rt h 2 [])
 refine Gc 4 Z ?_
 refine vH Yi ?_
 refine FE Z (Go 9 Z (Lm Z (Go 3 Z (Bd h fun d w h=>?_))))
 refine Ct d [0,1,2] [1] (fun _=>[(3,.ptr 1 0)]) (fun d=>[(1,.cells 207 [.map 2]),(2,.map (Qm (fun x=>A.agg (typing_ends.c x)) A.bool d))]) (fun _=>rfl) ?_ (fun env H y=>?_)
 ·refine G0 1 Z ?_
  refine Lp [0,2,1] [1,3,26,27] (fun b=>[(28,I b.2)]) (fun b=>[(1,.cells 207 [.map 2]),(2,.map (Qm (fun x=>A.agg (typing_ends.c x)) A.bool b.1))]) w (fun _=>rfl) (Lr [0,2,1]) fun b J a f=>?_
  refine G0 6 Z (Yt Z a (fun g a=>?_) (fun g a=>?_))
  ·refine Gc 2 Z (Qj a ?_)
   obtain rfl:=Oj f a
   exact Gx 1 Z (Q1 (Lr [0,1,2]))
  refine Gc 6 Z (Bd a fun e i a=>Iz i Z (Go 12 Z (Bd a fun L j a=>?_)))
  refine vU (Yz (ev:=A.bool) (k:=({from_:=e.From,to_:=e.To:typing_ends})) (v:=true) (l:=b.1) Qdw j Z underlying207) ?_
  exact FE Z (Go 7 Z (Qi a (Lr [0,1,2])))
 refine Gx 1 Z (TC.le y (Gc 6 Z (Cz [0,1,2] h (k_ca _ _ _ _) Z fun M z h=>Go 3 Z (Cn Z h (fun m h=>?_) (fun m h=>?_)))))
 ·exact Gc 7 Z (Rt h 2 [])
 exact Gc 8 Z (Rt h 2 [])
def F_aw(n:Nat)(a:Int):Option Bool:=
  ((bif decide ((-1099511627776)<=a)then some (decide (a<=1099511627776))else some false):Option Bool).bind fun b=>some b
theorem k_aw(n:Nat)(c:Int)(r:Bool)(h:F_aw n c=some r):
    Csm prog 206 [I c] [] (fun r=>.bool r) r:=by
 refine Qb func206 Z Z Z ?_
 refine G0 6 Z (Bd h fun b a h=>?_)
 refine Ct b [] [] (fun b=>[(2,.bool b)]) (fun _=>[]) (fun _=>rfl) ?_ (fun env H d=>?_)
 ·refine G0 4 Z (Is 5 a Z (fun e a=>?_) (fun e a=>?_))
  ·exact Go 5 Z (Cl a [])
  ·exact Go 5 Z (Cl a [])
 exact Gx 1 Z (TC.le d (Gc 1 Z (Rt h 2 [])))
def F_bd(n:Nat)(a:Int):Option Unit:=
  some ()
theorem k_bd(n:Nat)(a:Int)(r:Unit)(h:F_bd n a=some r):
    Csm prog 134 [I a] [] (fun _=>.bool (a != a)) r:=by
 refine Qb func134 Z Z Z ?_
 exact G0 14 Z (Rt h 2 [])
def F_e(n:Nat)(b:Int)(a:Int):Option Int:=
  (F_bd n b).bind fun c=>(F_bd n a).bind fun d=>(bif (b != b)then(bif (a != a)then some 0 else some (-1))else(bif (a != a)then some 1 else(bif decide (b<a)then some (-1)else(bif decide (a<b)then some 1 else some 0))))
theorem k_e(n:Nat)(a:Int)(b:Int)(r:Int)(h:F_e n a b=some r):
    Csm prog 87 [I a,I b] [] (fun r=>I r) r:=by
 refine Qb func87 Z Z Z ?_
 refine G0 8 Z (Cz [] h (k_bd _ _) Z fun k i h=>Go 6 Z (Cz [] h (k_bd _ _) Z fun l j h=>Go 9 Z (Cn Z h (fun c h=>?_) (fun c h=>?_))))
 ·refine Gc 6 Z (Cn Z h (fun d h=>?_) (fun d h=>?_))
  ·exact Gc 8 Z (Rt h 4 [])
  exact Gc 9 Z (Rt h 4 [])
 refine Gc 8 Z (Cn Z h (fun e h=>?_) (fun e h=>?_))
 ·exact Gc 7 Z (Rt h 4 [])
 refine Gc 10 Z (Cn Z h (fun f h=>?_) (fun f h=>?_))
 ·exact Gc 7 Z (Rt h 4 [])
 refine Gc 10 Z (Cn Z h (fun g h=>?_) (fun g h=>?_))
 ·exact Gc 7 Z (Rt h 4 [])
 exact Gc 8 Z (Rt h 4 [])
end Go.Sw
