/- What the functions compute that HitsMore reaches, and that their calls refine it (part 1 of 2). -/
import Derived.Test.YtnlljbbflgfobaaGreatDoorW17MoB
set_option linter.unusedVariables false
set_option linter.unusedSimpArgs false
set_option maxRecDepth 100000
set_option maxHeartbeats 4000000
namespace Go.Sw
open Go.Proofs Tryz
def F_p(n:Nat)(a:Int)(b:Int):Option Unit:=
  some ()
theorem k_p(n:Nat)(a:Int)(b:Int)(r:Unit)(h:F_p n a b=some r):
    C prog 21 [I a,I b] [] (RQ (fun _=>.agg (Fact.c ({z_Fact with No:=a,Kind:=2,Read:={Mat:=1,Epoch:=0,Chip:=7,Local:=b:Read}:Fact}))) (fun _=>[.cells 52 (Fact.c ({z_Fact with No:=a,Kind:=2,Read:={Mat:=1,Epoch:=0,Chip:=7,Local:=b:Read}:Fact}))]) r):=by
 refine Qb func21 Z Z Z ?_
 refine G0 15 Z ?_
 obtain rfl:=Oi h
 exact Rx [0] [4] Z (Yz Z (Qp isAgg52 sizeOf52 Z Z Z)) ⟨Z,Z⟩
def F_o(n:Nat)(a:Int):Option Unit:=
  some ()
theorem k_o(n:Nat)(a:Int)(r:Unit)(h:F_o n a=some r):
    C prog 22 [I a] [] (RQ (fun _=>.agg [.str [99],.osl 0 0 ([{Name:=[97],Kind:=1:Mat},{Name:=[98],Kind:=3:Mat}].length) 2,.rsl 4 (List.map Leg.c []),.rsl 5 (List.map Distance.c []),.rsl 2 (List.map Wave.c []),.rsl 4 (List.map Offence.c []),.rsl 3 (List.map Category.c []),.rsl 4 (List.map Prize.c []),.osl 1 0 ([{z_Step with Kind:=1,By:=4:Step}].length) 8,I 0,I 0,I a,I 0,I 0,I 0,I 0]) (fun _=>[.row 115 2 (List.map Mat.c [{Name:=[97],Kind:=1:Mat},{Name:=[98],Kind:=3:Mat}]),.row 120 8 (List.map Step.enc [{z_Step with Kind:=1,By:=4:Step}]),.cells 67 [.str [99],.osl 0 0 ([{Name:=[97],Kind:=1:Mat},{Name:=[98],Kind:=3:Mat}].length) 2,.rsl 4 (List.map Leg.c []),.rsl 5 (List.map Distance.c []),.rsl 2 (List.map Wave.c []),.rsl 4 (List.map Offence.c []),.rsl 3 (List.map Category.c []),.rsl 4 (List.map Prize.c []),.osl 1 0 ([{z_Step with Kind:=1,By:=4:Step}].length) 8,I 0,I 0,I a,I 0,I 0,I 0,I 0]]) r):=by
 refine Qb func22 Z Z Z ?_
 refine G0 9 Z ?_
 refine vH (OpH.lit (xs:=[.tmp 3,.tmp 4]) (es:=List.map Mat.c [{Name:=[97],Kind:=1:Mat},{Name:=[98],Kind:=3:Mat}]) el_56 Z Z Z Z Z ⟨Z,Z,trivial⟩ Z Z) ?_
 refine FE Z (Go 1 Z ?_)
 refine vH (OpH.lit (xs:=[.tmp 6]) (es:=List.map Step.enc [{z_Step with Kind:=1,By:=4:Step}]) el_63 Z Z Z Z Z ⟨Z,trivial⟩ Z Z) ?_
 refine FE Z (Go 7 Z ?_)
 obtain rfl:=Oi h
 exact Rx [1,2,0] [2] Z (Yz Z (Qp isAgg67 sizeOf67 Z Z Z)) ⟨Z,Z⟩
def F_dg(n:Nat)(e:List Part)(f:Int)(rec8:(List Part)->Int->Option (Int×Int))(a:Int×Int×Int):Option (Ctl (Int×Int×Int) (Int×Int)):=
  (bif decide (a.2.2<(e.length:Int))then((idx e a.2.2).bind fun c=>((bif ((c.Parts.length:Int)==0)then some true else(bif (f==0)then some true else some (decide (256<a.2.1)))):Option Bool).bind fun g=>(bif g then some (a.1,a.2.1)else(rec8 c.Parts (IntKind.i64.wrap (f-1))).bind fun b=>some ((if a.1<IntKind.i64.wrap (b.1+1)then IntKind.i64.wrap (b.1+1)else a.1),IntKind.i64.wrap (a.2.1+b.2))):Option (Int×Int)).bind fun d=>some (.cont (d.1,d.2,IntKind.i64.wrap (a.2.2+1)))else some (.done (a.1,a.2.1)))
def B_k(rec8:(List Part)->Int->Option (Int×Int))(n:Nat)(b:List Part)(c:Int):Option (Int×Int):=
  (iter (F_dg n b c rec8) n (0,(b.length:Int),0):Option (Int×Int)).bind fun a=>some (a.1,a.2)
theorem QcL(rec8:(List Part)->Int->Option (Int×Int))(l:∀(i:List Part) (j:Int) (r:Int×Int),rec8 i j=some r->Csm prog 64 [.rsl 3 (List.map Part.enc i),I j] [] (fun r=>.tup [I r.1,I r.2]) r)(n:Nat)(i:List Part)(j:Int)(r:Int×Int)(h:B_k rec8 n i j=some r):
    Csm prog 64 [.rsl 3 (List.map Part.enc i),I j] [] (fun r=>.tup [I r.1,I r.2]) r:=by
 refine Qb func64 Z Z Z ?_
 refine G0 9 Z (Lm Z (Go 7 Z (Lm Z (Go 3 Z (Bd h fun f x h=>?_)))))
 refine Ct f [] [] (fun f=>[(4,I f.1),(5,I f.2)]) (fun _=>[]) (fun _=>rfl) ?_ (fun env H e=>?_)
 ·refine G0 1 Z ?_
  refine Lp [] [1,12,13] (fun d=>[(4,I d.1),(5,I d.2.1),(14,I d.2.2)]) (fun _=>[]) x (fun _=>rfl) (Lr []) fun d B c p=>?_
  refine G0 6 Z (CnS Z c (fun q c=>?_) (fun q c=>?_))
  ·refine Gc 2 Z (QI c ?_)
   obtain rfl:=Oj p c
   exact Gx 1 Z (Q7 (Lr []))
  refine Gc 3 Z (Bd c fun g a c=>?_)
  refine Ct g [] [1,12,13,14] (fun g=>[(4,I g.1),(5,I g.2)]) (fun _=>[]) (fun _=>rfl) ?_ (fun env H e=>?_)
  ·refine G0 3 Z (Bd a fun y s a=>IzE s (Yw y) Z (Go 7 Z (Bd a fun k b a=>?_)))
   refine Ct k [0] [1,4,5,7,12,13,14] (fun k=>[(29,.bool k)]) (fun _=>[]) (fun _=>rfl) ?_ (fun env H e=>?_)
   ·refine G0 3 Z (Lm Z (Go 2 Z (Is 22 b Z (fun t b=>?_) (fun t b=>?_))))
    ·exact Go 8 Z (Cl b [0])
    ·refine Go 4 Z (Is 26 b Z (fun u b=>?_) (fun u b=>?_))
     ·exact Go 4 Z (Cl b [0])
     ·exact Go 4 Z (Cl b [0])
   refine Gx 1 Z (TC.le e (Cn Z a (fun w a=>?_) (fun w a=>?_)))
   ·exact Gc 3 Z (Cl a [])
   refine Gc 8 Z (Cd [] a (l _ _) Z fun m z a=>FE Z (Go 11 Z ?_))
   refine vX (I (if d.1<IntKind.i64.wrap (m.1+1)then IntKind.i64.wrap (m.1+1)else d.1)) (OpV.max Z Z Z Z) ?_
   exact Go 7 Z (Cl a [])
  exact Gx 1 Z (TC.le e (Gc 4 Z (QH c (Lr []))))
 refine Gx 1 Z (TC.le e (Gc 9 Z ?_))
 obtain rfl:=Oi h
 exact R2 4 5 Z Z (Lr [])
def F_k:Nat->(List Part)->Int->Option (Int×Int)
  |0=>fun _ _=>none
  |n+1=>B_k (F_k n) n
theorem k_k(n:Nat):∀(a:List Part) (b:Int) (r:Int×Int),F_k n a b=some r->Csm prog 64 [.rsl 3 (List.map Part.enc a),I b] [] (fun r=>.tup [I r.1,I r.2]) r:=by
  induction n with
  |zero=>intro a b r h;cases h
  |succ n ih=>intro a b r h;exact QcL _ ih n a b r h
def F_fh(n:Nat)(d:Course)(a:Int):Option (Ctl Int (Ctl Unit Bool)):=
  (bif decide (a<(d.Distances.length:Int))then(idx d.Distances a).bind fun b=>(F_k n b.Route 17).bind fun c=>((bif decide (64<(b.Cutoffs.length:Int))then some true else(bif decide (16<c.1)then some true else some (decide (256<c.2)))):Option Bool).bind fun e=>(bif e then some (.done (.done false))else some (.cont (IntKind.i64.wrap (a+1))))else some (.done (.cont ())))
def F_al(n:Nat)(a:Course):Option Bool:=
  ((bif decide (40<(a.Mats.length:Int))then some true else(bif decide (512<(a.Legs.length:Int))then some true else(bif decide (8<(a.Distances.length:Int))then some true else(bif decide (32<(a.Waves.length:Int))then some true else(bif decide (32<(a.Offences.length:Int))then some true else(bif decide (32<(a.Categories.length:Int))then some true else some (decide (32<(a.Prizes.length:Int))))))))):Option Bool).bind fun d=>(bif d then some false else(iter (F_fh n a) n 0:Option (Ctl Unit Bool)).bind fun c=>match c with|.cont b=>(some true)|.done b=>some b)
theorem k_al(n:Nat)(B:Course)(r:Bool)(h:F_al n B=some r):
    Csm prog 38 [.agg (Course.c B)] [] (fun r=>.bool r) r:=by
 refine Qb func38 Z Z Z ?_
 refine G0 8 Z (Bd h fun k d h=>?_)
 refine Ct k [0] [1] (fun k=>[(46,.bool k)]) (fun _=>[]) (fun _=>rfl) ?_ (fun env H f=>?_)
 ·refine G0 3 Z (Lm Z (Go 2 Z (Is 11 d Z (fun E d=>?_) (fun E d=>?_))))
  ·exact Go 36 Z (Cl d [0])
  ·refine Go 2 Z (Lm Z (Go 3 Z (Is 17 d Z (fun l d=>?_) (fun l d=>?_))))
   ·exact Go 30 Z (Cl d [0])
   ·refine Go 2 Z (Lm Z (Go 3 Z (Is 23 d Z (fun m d=>?_) (fun m d=>?_))))
    ·exact Go 24 Z (Cl d [0])
    ·refine Go 2 Z (Lm Z (Go 3 Z (Is 29 d Z (fun p d=>?_) (fun p d=>?_))))
     ·exact Go 18 Z (Cl d [0])
     ·refine Go 2 Z (Lm Z (Go 3 Z (Is 35 d Z (fun q d=>?_) (fun q d=>?_))))
      ·exact Go 12 Z (Cl d [0])
      ·refine Go 2 Z (Lm Z (Go 3 Z (Is 41 d Z (fun s d=>?_) (fun s d=>?_))))
       ·exact Go 6 Z (Cl d [0])
       ·exact Go 2 Z (Lm Z (Go 3 Z (Cl d [0])))
 refine Gx 1 Z (TC.le f (Cn Z h (fun t h=>?_) (fun t h=>?_)))
 ·exact Gc 7 Z (Rt h 2 [])
 refine Gc 7 Z (Lm Z (Go 3 Z (Bd h fun F G h=>?_)))
 refine CtE (b:=F) [] [] (fun _=>[]) (fun _=>[]) (fun _=>rfl) ?_ (fun L env H J f=>?_)
 ·refine G0 1 Z ?_
  refine Lp [] [48,49] (fun j=>[(50,I j)]) (fun _=>[]) G (fun _=>rfl) (Lr []) fun j N a g=>?_
  refine G0 6 Z (CnS Z a (fun u a=>?_) (fun u a=>?_))
  ·refine Gc 2 Z (QI a ?_)
   obtain rfl:=Oj g a
   exact Gx 1 Z (Qw Z (Lr []))
  refine Gc 6 Z (Bd a fun O w a=>Iz w Z (Go 9 Z (Cd [] a (k_k _ _ _) Z fun P M a=>FE Z (Go 8 Z (Bd a fun i e a=>?_)))))
  refine Ct i [] [48,49,50] (fun i=>[(71,.bool i)]) (fun _=>[]) (fun _=>rfl) ?_ (fun env H f=>?_)
  ·refine G0 3 Z (Lm Z (Go 2 Z (Is 64 e Z (fun x e=>?_) (fun x e=>?_))))
   ·exact Go 8 Z (Cl e [])
   ·refine Go 4 Z (Is 68 e Z (fun y e=>?_) (fun y e=>?_))
    ·exact Go 4 Z (Cl e [])
    ·exact Go 4 Z (Cl e [])
  refine Gx 1 Z (TC.le f (Cn Z a (fun z a=>?_) (fun z a=>?_)))
  ·refine Gc 8 Z (Yh a ?_)
   obtain rfl:=Oj g a
   exact Gx 1 Z (QK (Gx 1 Z (Rt h 2 [])))
  exact Gc 7 Z (QH a (Lr []))
 subst J
 exact Gx 1 Z (TC.le f (Gc 6 Z (Rt h 2 [])))
def F_ed(n:Nat)(a:(List Int)×Int):Option (Ctl ((List Int)×Int) (List Int)):=
  (bif decide (a.2<=122)then(Qd6 256 a.1 a.2).bind fun d=>(Qez a.1 a.2 2).bind fun b=>(Qd6 256 b (IntKind.u8.wrap (a.2-32))).bind fun e=>(Qez b (IntKind.u8.wrap (a.2-32)) 2).bind fun c=>some (.cont (c,IntKind.u8.wrap (a.2+1)))else some (.done a.1))
def F_ev(n:Nat)(a:(List Int)×Int):Option (Ctl ((List Int)×Int) (List Int)):=
  (bif decide (a.2<=57)then(Qd6 256 a.1 a.2).bind fun c=>(Qez a.1 a.2 3).bind fun b=>some (.cont (b,IntKind.u8.wrap (a.2+1)))else some (.done a.1))
def F_fk(n:Nat)(a:(List Int)×Int):Option (Ctl ((List Int)×Int) (List Int)):=
  (bif decide (a.2<([123,125,40,41,91,93,59,44,61,60,62].length:Int))then(idx [123,125,40,41,91,93,59,44,61,60,62] a.2).bind fun b=>(Qd6 256 a.1 b).bind fun d=>(Qez a.1 b 4).bind fun c=>some (.cont (c,IntKind.i64.wrap (a.2+1)))else some (.done a.1))
def F_fq(n:Nat)(a:(List Int)×Int):Option (Ctl ((List Int)×Int) (List Int)):=
  (bif decide (a.2<(([32,9,10,13].length):Int))then(idx [32,9,10,13] a.2).bind fun b=>(Qd6 256 a.1 b).bind fun d=>(Qez a.1 b 1).bind fun c=>some (.cont (c,IntKind.i64.wrap (a.2+1)))else some (.done a.1))
def F_ay(n:Nat):Option (List Int):=
  (iter (F_ed n) n (List.replicate 256 0,97):Option (List Int)).bind fun b=>(iter (F_ev n) n (b,48):Option (List Int)).bind fun c=>(iter (F_fk n) n (c,0):Option (List Int)).bind fun d=>(iter (F_fq n) n (d,0):Option (List Int)).bind fun a=>(arr 256 a).bind fun e=>(arr 256 a).bind fun g=>(arr 256 e).bind fun f=>some f
theorem k_ay(n:Nat)(r:List Int)(h:F_ay n=some r):
    C prog 215 [] [] (RQ (fun r=>.agg (List.flatten (List.map (Qj .u8) r))) (fun r=>[.row 294 1 (List.map (Qj .u8) r)]) r):=by
 refine Qb func215 Z Z Z ?_
 refine G0 2 Z ?_
 refine vH (Qcy (n:=256) (k:=1) (e:=(Qj .u8)) (z:=0) zeroValue294 (by kernel_rfl) (by kernel_rfl) (by kernel_rfl) Z) ?_
 refine FE Z (Go 8 Z (Bd h fun t af h=>?_))
 refine Ct t [0] [0] (fun _=>[]) (fun t=>[(0,.row 294 1 (List.map (Qj .u8) t))]) (fun _=>rfl) ?_ (fun env H g=>?_)
 ·refine G0 1 Z ?_
  refine Lp [0] [0] (fun i=>[(1,.int .u8 i.2)]) (fun i=>[(0,.row 294 1 (List.map (Qj .u8) i.1))]) af (fun _=>rfl) (Lr [0]) fun i an a M=>?_
  refine G0 7 Z (CnS Z a (fun N a=>?_) (fun N a=>?_))
  ·refine Gc 2 Z (QI a ?_)
   obtain rfl:=Oj M a
   exact Gx 1 Z (Q7 (Lr [0]))
  refine Gc 8 Z (Bd a fun ao u a=>?_)
  refine vX (.ptr 0 (Int.toNat i.2*1)) (QaB (n:=256) (k:=1) (l:=i.1) u runUnderlying294 sizeOf5 Z) ?_
  refine Bd a fun ag O a=>?_
  refine vU (Qa3 (e:=(Qj .u8)) (k:=1) (f:=0) (Qbe u).2 O sizeOf5 Z Z) ?_
  refine FE Z (Bd a fun aq w a=>?_)
  refine vX (.ptr 0 (Int.toNat (IntKind.u8.wrap (i.2-32))*1)) (QaB (n:=256) (k:=1) (l:=ag) w runUnderlying294 sizeOf5 Z) ?_
  refine Bd a fun ar P a=>?_
  refine vU (Qa3 (e:=(Qj .u8)) (k:=1) (f:=0) (Qbe w).2 P sizeOf5 Z Z) ?_
  exact FE Z (Go 8 Z (QH a (Lr [0])))
 refine Gx 1 Z (TC.le g (Gc 6 Z (Bd h fun x ah h=>?_)))
 refine Ct x [0] [0] (fun _=>[]) (fun x=>[(0,.row 294 1 (List.map (Qj .u8) x))]) (fun _=>rfl) ?_ (fun env H g=>?_)
 ·refine G0 1 Z ?_
  refine Lp [0] [0] (fun j=>[(2,.int .u8 j.2)]) (fun j=>[(0,.row 294 1 (List.map (Qj .u8) j.1))]) ah (fun _=>rfl) (Lr [0]) fun j au d Q=>?_
  refine G0 7 Z (CnS Z d (fun R d=>?_) (fun R d=>?_))
  ·refine Gc 2 Z (QI d ?_)
   obtain rfl:=Oj Q d
   exact Gx 1 Z (Q7 (Lr [0]))
  refine Gc 6 Z (Bd d fun av y d=>?_)
  refine vX (.ptr 0 (Int.toNat j.2*1)) (QaB (n:=256) (k:=1) (l:=j.1) y runUnderlying294 sizeOf5 Z) ?_
  refine Bd d fun aw T d=>?_
  refine vU (Qa3 (e:=(Qj .u8)) (k:=1) (f:=0) (Qbe y).2 T sizeOf5 Z Z) ?_
  exact FE Z (Go 8 Z (QH d (Lr [0])))
 refine Gx 1 Z (TC.le g (Gc 3 Z ?_))
 refine vH (OpH.lit (xs:=[.const (.int .u8 123),.const (.int .u8 125),.const (.int .u8 40),.const (.int .u8 41),.const (.int .u8 91),.const (.int .u8 93),.const (.int .u8 59),.const (.int .u8 44),.const (.int .u8 61),.const (.int .u8 60),.const (.int .u8 62)]) (es:=List.map (Qj .u8) [123,125,40,41,91,93,59,44,61,60,62]) Qkl Z Z Z Z Z ⟨Z,Z,Z,Z,Z,Z,Z,Z,Z,Z,Z,trivial⟩ Z Z) ?_
 refine FE Z ?_
 refine vH (Qi9 (es:=List.map (Qj .u8) [123,125,40,41,91,93,59,44,61,60,62]) underlying203 underlying5 (List.length_map ..) Z) ?_
 refine FE Z (Lm Z (Go 3 Z (Bd h fun B ai h=>?_)))
 refine Ct B [0] [0] (fun _=>[]) (fun B=>[(0,.row 294 1 (List.map (Qj .u8) B))]) (fun _=>rfl) ?_ (fun env H g=>?_)
 ·refine G0 1 Z ?_
  refine Lp [0] [0,23,24] (fun p=>[(25,I p.2)]) (fun p=>[(0,.row 294 1 (List.map (Qj .u8) p.1))]) ai (fun _=>rfl) (Lr [0]) fun p ax b V=>?_
  refine G0 6 Z (CnS Z b (fun W b=>?_) (fun W b=>?_))
  ·refine Gc 2 Z (QI b ?_)
   obtain rfl:=Oj V b
   exact Gx 1 Z (Q7 (Lr [0]))
  refine Gc 6 Z (Bd b fun aj X b=>Iz X Z (Go 6 Z (Bd b fun ay E b=>?_)))
  refine vX (.ptr 0 (Int.toNat aj*1)) (QaB (n:=256) (k:=1) (l:=p.1) E runUnderlying294 sizeOf5 Z) ?_
  refine Bd b fun az Y b=>?_
  refine vU (Qa3 (e:=(Qj .u8)) (k:=1) (f:=0) (Qbe E).2 Y sizeOf5 Z Z) ?_
  exact FE Z (Go 7 Z (QH b (Lr [0])))
 refine Gx 1 Z (TC.le g (Gc 3 Z ?_))
 refine vH (OpH.lit (xs:=[.const (.int .u8 32),.const (.int .u8 9),.const (.int .u8 10),.const (.int .u8 13)]) (es:=List.map (Qj .u8) [32,9,10,13]) Qkl Z Z Z Z Z ⟨Z,Z,Z,Z,trivial⟩ Z Z) ?_
 refine FE Z (Go 4 Z (Bd h fun s ak h=>?_))
 refine Ct s [0] [0] (fun _=>[]) (fun s=>[(0,.row 294 1 (List.map (Qj .u8) s))]) (fun _=>rfl) ?_ (fun env H g=>?_)
 ·refine G0 1 Z ?_
  refine Lp [0,1] [0,32,33] (fun m=>[(34,I m.2)]) (fun m=>[(0,.row 294 1 (List.map (Qj .u8) m.1))]) ak (fun _=>rfl) (Lr [0,1]) fun m ba c aa=>?_
  refine G0 6 Z (CnS Z c (fun ab c=>?_) (fun ab c=>?_))
  ·refine Gc 2 Z (QI c ?_)
   obtain rfl:=Oj aa c
   exact Gx 1 Z (Q7 (Lr [0]))
  refine Gc 6 Z (Bd c fun L F c=>?_)
  refine vX (.ptr 1 (Int.toNat m.2*1)) (QZ F Z runUnderlying203 sizeOf5) ?_
  refine vX (.int .u8 L) (OpV.load Z isAgg5 Z (QD F)) ?_
  refine Go 5 Z (Bd c fun bb G c=>?_)
  refine vX (.ptr 0 (Int.toNat L*1)) (QaB (n:=256) (k:=1) (l:=m.1) G runUnderlying294 sizeOf5 Z) ?_
  refine Bd c fun bc ac c=>?_
  refine vU (Qa3 (e:=(Qj .u8)) (k:=1) (f:=0) (Qbe G).2 ac sizeOf5 Z Z) ?_
  exact FE Z (Go 7 Z (QH c (Lr [0,1])))
 refine Gx 1 Z (TC.le g (Gc 2 Z (Bd h fun al ad h=>?_)))
 refine vX (.agg (List.flatten (List.map (Qj .u8) al))) (QgS (e:=(Qj .u8)) ad (fun _=>rfl) Z isAgg294 sizeOf294) ?_
 refine Bd h fun bd ae h=>Bd h fun am q h=>?_
 obtain⟨J,rfl⟩:=Qb0 ae
 refine vU (Qcx (e:=(Qj .u8)) (l:=s) (l':=am) J (QfJ q) (fun _=>rfl) Z sizeOf294 (fun _=>rfl) (fun _=>rfl) (congrArg (fun l=>List.flatten (List.map (Qj .u8) l)) (Qb0 q).2.symm)) ?_
 refine FE Z (Go 3 Z ?_)
 obtain rfl:=Oi h
 exact Rx [0] [0] Z (Yz Z (QiZ (e:=(Qj .u8)) (QfJ q) (fun _=>rfl) Z isAgg294 sizeOf294)) ⟨Z,Z⟩
def F_fg(n:Nat)(c:List UInt8)(g:List Int)(a:Int):Option (Ctl Int (Ctl Unit Bool)):=
  (bif decide (a<(c.length:Int))then(idx c a).bind fun d=>(Qd6 256 g (d.toNat:Int)).bind fun b=>((bif (b != 2)then(bif (a==0)then some true else(bif (b != 3)then(idx c a).bind fun e=>some ((e.toNat:Int) != 95)else some false))else some false):Option Bool).bind fun f=>(bif f then some (.done (.done false))else some (.cont (IntKind.i64.wrap (a+1))))else some (.done (.cont ())))
def F_ca(n:Nat)(b:List UInt8):Option Bool:=
  (F_ay n).bind fun d=>(arr 256 (List.replicate 256 0)).bind fun f=>(arr 256 d).bind fun e=>(iter (F_fg n b e) n 0:Option (Ctl Unit Bool)).bind fun c=>match c with|.cont a=>(some (b != []))|.done a=>some a
theorem k_ca(n:Nat)(q:List UInt8)(r:Bool)(h:F_ca n q=some r):
    Csm prog 189 [.str q] [] (fun r=>.bool r) r:=by
 refine Qb func189 Z Z Z ?_
 refine G0 7 Z (Bd h fun G J h=>?_)
 refine Qz [] (OpC.fn call215 Z Z Z) (k_ay _ _ J) ?_
 rintro _ _ ⟨rfl,rfl⟩
 refine QmR (x:=(.agg (List.flatten (List.map (Qj .u8) G)))) (H:=[.row 294 1 (List.map (Qj .u8) G)]) (Qla (e:=(Qj .u8)) (fun _=>rfl) _ _) Z ?_
 refine vH (Qcy (n:=256) (k:=1) (e:=(Qj .u8)) (z:=0) zeroValue294 (by kernel_rfl) (by kernel_rfl) (by kernel_rfl) Z) ?_
 refine FE Z (Bd h fun W L h=>Bd h fun M j h=>?_)
 obtain⟨s,rfl⟩:=Qb0 L
 refine vU (Qcx (e:=(Qj .u8)) (l:=(List.replicate 256 0)) (l':=M) s (QfJ j) (fun _=>rfl) Z sizeOf294 (fun _=>rfl) (fun _=>rfl) (congrArg (fun l=>List.flatten (List.map (Qj .u8) l)) (Qb0 j).2.symm)) ?_
 refine FE Z (Go 6 Z ?_)
 refine vX (I (q.length:Int)) (QaI Z Z runUnderlying9 Z) ?_
 refine Go 3 Z (Bd h fun N O h=>?_)
 refine CtE (b:=N) [] [0] (fun _=>[]) (fun _=>[]) (fun _=>rfl) ?_ (fun T env H P d=>?_)
 ·refine G0 1 Z ?_
  refine Lp [1] [0,3,8] (fun m=>[(9,I m)]) (fun _=>[]) O (fun _=>rfl) (Lr [1]) fun m V a f=>?_
  refine G0 6 Z (CnS Z a (fun t a=>?_) (fun t a=>?_))
  ·refine Gc 2 Z (QI a ?_)
   obtain rfl:=Oj f a
   exact Gx 1 Z (Qw Z (Lr []))
  refine Gc 14 Z (Bd a fun p u a=>?_)
  refine vX (.int .u8 (p.toNat:Int)) (QaH u runUnderlying9) ?_
  refine Bd a fun Q g a=>?_
  refine vX (.ptr 0 (Int.toNat (p.toNat:Int)*1)) (QaB (n:=256) (k:=1) (l:=M) g runUnderlying294 sizeOf5 Z) ?_
  refine vX (.int .u8 Q) (OpV.load Z isAgg5 Z (QD (Qbe g).2)) ?_
  refine Go 4 Z (Bd a fun i c a=>?_)
  refine Ct i [0] [0,3,8,9] (fun i=>[(32,.bool i)]) (fun _=>[]) (fun _=>rfl) ?_ (fun env H d=>?_)
  ·refine G0 4 Z (Is 19 c Z (fun w c=>?_) (fun w c=>?_))
   ·refine Go 3 Z (Is 22 c Z (fun y c=>?_) (fun y c=>?_))
    ·exact Go 11 Z (Cl c [0])
    ·refine Go 3 Z (Is 25 c Z (fun B c=>?_) (fun B c=>?_))
     ·refine Go 2 Z (Bd c fun R E c=>?_)
      refine vX (.int .u8 (R.toNat:Int)) (QaH E runUnderlying9) ?_ (gT Z)
      exact Go 5 Z (Cl c [0])
     ·exact Go 8 Z (Cl c [0])
   ·exact Go 14 Z (Cl c [0])
  refine Gx 1 Z (TC.le d (Cn Z a (fun F a=>?_) (fun F a=>?_)))
  ·refine Gc 8 Z (Yh a ?_)
   obtain rfl:=Oj f a
   exact Gx 1 Z (QK (Gx 1 Z (Rt h 2 [])))
  exact Gc 7 Z (QH a (Lr [0]))
 subst P
 exact Gx 1 Z (TC.le d (Gc 8 Z (Rt h 2 [])))
def F_bv(n:Nat)(a:List UInt8):Option Bool:=
  ((F_ca n a).bind fun e=>(bif e then(cat [32] a).bind fun b=>(cat b [32]).bind fun c=>(Qd8 [32,99,111,117,114,115,101,32,109,97,116,115,32,115,116,97,114,116,32,112,97,115,115,32,101,110,100,32,108,101,103,32,116,111,32,100,105,115,116,97,110,99,101,32,103,117,110,32,99,104,105,112,32,115,108,111,116,32,108,97,112,115,32,108,97,112,32,99,117,116,111,102,102,32,101,120,116,114,97,32,119,97,118,101,32,111,102,102,101,110,99,101,32,111,117,116,32,99,97,116,101,103,111,114,121,32,112,114,105,122,101,32,97,108,108,32,116,105,101,115,32,105,102,32,101,108,115,101,32,97,110,100,32,111,114,32,110,111,116,32,111,108,100,101,114,32,121,111,117,110,103,101,114,32,98,105,98,32,100,114,97,119,32,102,105,101,108,100,32,115,104,111,114,116,32,102,97,117,108,116,115,32,109,105,115,115,101,115,32,115,116,114,97,121,115,32,119,105,110,100,111,119,32,114,101,115,105,100,117,97,108,32,100,114,105,102,116,32,112,114,111,116,101,115,116,32,102,101,101,32,100,101,97,100,108,105,110,101,32] c).bind fun d=>some d else some false):Option Bool).bind fun f=>some f
theorem k_bv(n:Nat)(f:List UInt8)(r:Bool)(h:F_bv n f=some r):
    Csm prog 129 [.str f] [] (fun r=>.bool r) r:=by
 refine Qb func129 Z Z Z ?_
 refine G0 6 Z (Bd h fun b a h=>?_)
 refine Ct b [] [] (fun b=>[(2,.bool b)]) (fun _=>[]) (fun _=>rfl) ?_ (fun env H g=>?_)
 ·refine G0 2 Z (Cz [] a (k_ca _ _) Z fun p l a=>Go 1 Z (Is 5 a Z (fun i a=>?_) (fun i a=>?_)))
  ·refine Go 1 Z (Bd a fun j c a=>?_)
   refine vX (.str j) (Qeq c) ?_ (gT Z)
   refine Bd a fun k d a=>?_
   refine vX (.str k) (Qeq d) ?_ (gT Z)
   refine Bd a fun m e a=>?_
   refine Qz [] (OpC.fn call190 Z Z Z) (C.contains QcO Z e) ?_ (hg:=(gT Z))
   rintro _ _ ⟨rfl,rfl⟩
   exact FE Z (Go 3 Z (Cl a []))
  ·exact Go 7 Z (Cl a [])
 exact Gx 1 Z (TC.le g (Gc 1 Z (Rt h 2 [])))
def F_fe(n:Nat)(c:List UInt8)(b:Int):Option (Ctl Int (Ctl Unit Bool)):=
  (bif decide (b<(c.length:Int))then(idx c b).bind fun a=>((bif decide ((a.toNat:Int)<97)then(bif decide ((a.toNat:Int)<48)then some ((a.toNat:Int) != 95)else(bif decide (57<(a.toNat:Int))then some ((a.toNat:Int) != 95)else some false))else(bif decide (122<(a.toNat:Int))then(bif decide ((a.toNat:Int)<48)then some ((a.toNat:Int) != 95)else(bif decide (57<(a.toNat:Int))then some ((a.toNat:Int) != 95)else some false))else some false)):Option Bool).bind fun d=>(bif d then some (.done (.done false))else some (.cont (IntKind.i64.wrap (b+1))))else some (.done (.cont ())))
def F_d(n:Nat)(a:List UInt8):Option Bool:=
  ((bif decide ((a.length:Int)<1)then some true else(bif decide (24<(a.length:Int))then some true else(idx a 0).bind fun c=>(bif decide ((c.toNat:Int)<97)then some true else(idx a 0).bind fun d=>some (decide (122<(d.toNat:Int)))))):Option Bool).bind fun g=>(bif g then some false else(iter (F_fe n a) n 0:Option (Ctl Unit Bool)).bind fun e=>match e with|.cont b=>((F_bv n a).bind fun f=>some (!f))|.done b=>some b)
theorem k_d(n:Nat)(f:List UInt8)(r:Bool)(h:F_d n f=some r):
    Csm prog 65 [.str f] [] (fun r=>.bool r) r:=by
 refine Qb func65 Z Z Z ?_
 refine G0 7 Z (Bd h fun k d h=>?_)
 refine Ct k [] [0] (fun k=>[(22,.bool k)]) (fun _=>[]) (fun _=>rfl) ?_ (fun env H e=>?_)
 ·refine G0 2 Z ?_
  refine vX (I (f.length:Int)) (QaI Z Z runUnderlying9 Z) ?_
  refine Go 2 Z (Is 8 d Z (fun F d=>?_) (fun F d=>?_))
  ·exact Go 15 Z (Cl d [])
  ·refine Go 1 Z ?_
   refine vX (I (f.length:Int)) (QaI Z Z runUnderlying9 Z) ?_ (gT Z)
   refine Go 3 Z (Is 13 d Z (fun G d=>?_) (fun G d=>?_))
   ·exact Go 10 Z (Cl d [])
   ·refine Go 1 Z (Bd d fun J l d=>?_)
    refine vX (.int .u8 (J.toNat:Int)) (QaH l runUnderlying9) ?_ (gT Z)
    refine Go 3 Z (Is 18 d Z (fun m d=>?_) (fun m d=>?_))
    ·exact Go 5 Z (Cl d [])
    ·refine Go 1 Z (Bd d fun L p d=>?_)
     refine vX (.int .u8 (L.toNat:Int)) (QaH p runUnderlying9) ?_ (gT Z)
     exact Go 3 Z (Cl d [])
 refine Gx 1 Z (TC.le e (Cn Z h (fun q h=>?_) (fun q h=>?_)))
 ·exact Gc 7 Z (Rt h 2 [])
 refine Gc 6 Z ?_
 refine vX (I (f.length:Int)) (QaI Z Z runUnderlying9 Z) ?_
 refine Go 3 Z (Bd h fun M N h=>?_)
 refine CtE (b:=M) [] [0] (fun _=>[]) (fun _=>[]) (fun _=>rfl) ?_ (fun Q env H O e=>?_)
 ·refine G0 1 Z ?_
  refine Lp [] [0,24] (fun j=>[(25,I j)]) (fun _=>[]) N (fun _=>rfl) (Lr []) fun j T c g=>?_
  refine G0 6 Z (CnS Z c (fun s c=>?_) (fun s c=>?_))
  ·refine Gc 2 Z (QI c ?_)
   obtain rfl:=Oj g c
   exact Gx 1 Z (Qw Z (Lr []))
  refine Gc 14 Z (Bd c fun P t c=>?_)
  refine vX (.int .u8 (P.toNat:Int)) (QaH t runUnderlying9) ?_
  refine Go 4 Z (Bd c fun i a c=>?_)
  refine Ct i [] [0,24,25] (fun i=>[(48,.bool i)]) (fun _=>[]) (fun _=>rfl) ?_ (fun env H e=>?_)
  ·refine G0 4 Z (Is 33 a Z (fun u a=>?_) (fun u a=>?_))
   ·refine Go 7 Z (Is 40 a Z (fun w a=>?_) (fun w a=>?_))
    ·exact Go 9 Z (Cl a [])
    ·refine Go 5 Z (Is 45 a Z (fun x a=>?_) (fun x a=>?_))
     ·exact Go 4 Z (Cl a [])
     ·exact Go 4 Z (Cl a [])
   ·refine Go 4 Z (Is 37 a Z (fun y a=>?_) (fun y a=>?_))
    ·refine Go 3 Z (Is 40 a Z (fun z a=>?_) (fun z a=>?_))
     ·exact Go 9 Z (Cl a [])
     ·refine Go 5 Z (Is 45 a Z (fun B a=>?_) (fun B a=>?_))
      ·exact Go 4 Z (Cl a [])
      ·exact Go 4 Z (Cl a [])
    ·exact Go 12 Z (Cl a [])
  refine Gx 1 Z (TC.le e (Cn Z c (fun E c=>?_) (fun E c=>?_)))
  ·refine Gc 8 Z (Yh c ?_)
   obtain rfl:=Oj g c
   exact Gx 1 Z (QK (Gx 1 Z (Rt h 2 [])))
  exact Gc 7 Z (QH c (Lr []))
 subst O
 exact Gx 1 Z (TC.le e (Gc 3 Z (Cz [] h (k_bv _ _) Z fun V R h=>Go 5 Z (Rt h 2 []))))
def F_el(n:Nat)(a:Mat):Option Unit:=
  some ()
theorem k_el(n:Nat)(a:Mat)(r:Unit)(h:F_el n a=some r):
    Csm prog 67 [.agg (Mat.c a)] [] (fun _=>.str a.Name) r:=by
 refine Qb func67 Z Z Z ?_
 exact G0 14 Z (Rt h 2 [])
def F_ga(n:Nat)(c:List Mat)(a:(List (List UInt8×Bool))×Int):Option (Ctl ((List (List UInt8×Bool))×Int) (Ctl Unit Bool)):=
  (bif decide (a.2<(c.length:Int))then(idx c a.2).bind fun b=>(F_el n b).bind fun h=>((F_d n b.Name).bind fun d=>(bif (!d)then some true else(some (QR a.1 b.Name false)).bind fun e=>some e):Option Bool).bind fun f=>(bif f then some (.done (.done false))else(some (Q8 a.1 b.Name true)).bind fun g=>some (.cont (g,IntKind.i64.wrap (a.2+1))))else some (.done (.cont ())))
def F_ak(n:Nat)(c:List Mat):Option Bool:=
  (iter (F_ga n c) n ([],0):Option (Ctl Unit Bool)).bind fun b=>match b with|.cont a=>(some true)|.done a=>some a
theorem k_ak(n:Nat)(w:List Mat)(r:Bool)(h:F_ak n w=some r):
    Csm prog 66 [.rsl 2 (List.map Mat.c w),.fn (.func 67) [] []] [] (fun r=>.bool r) r:=by
 refine Qb func66 Z Z Z ?_
 refine G0 7 Z ?_
 refine vH YJ ?_
 refine FE Z (Go 7 Z (Lm Z (Go 3 Z (Bd h fun x y h=>?_))))
 refine CtE (b:=x) [] [] (fun _=>[]) (fun _=>[]) (fun _=>rfl) ?_ (fun E env H z f=>?_)
 ·refine G0 1 Z ?_
  refine Lp [0] [1,5,10,11] (fun e=>[(12,I e.2)]) (fun e=>[(0,.map (Ya A.str A.bool e.1))]) y (fun _=>rfl) (Lr [0]) fun e J a g=>?_
  refine G0 6 Z (CnS Z a (fun m a=>?_) (fun m a=>?_))
  ·refine Gc 2 Z (QI a ?_)
   obtain rfl:=Oj g a
   exact Gx 1 Z (Qw Z (Lr []))
  refine Gc 6 Z (Bd a fun j p a=>Iz p Z (Go 9 Z (Cz [] a (k_el _ _) Z fun L F a=>Go 5 Z (Bd a fun i d a=>?_))))
  refine Ct i [0] [1,5,8,10,11,12] (fun i=>[(26,.bool i)]) (fun _=>[]) (fun _=>rfl) ?_ (fun env H f=>?_)
  ·refine G0 2 Z (Cz [] d (k_d _ _) Z fun M G d=>Go 2 Z (Is 22 d Z (fun q d=>?_) (fun q d=>?_)))
   ·exact Go 5 Z (Cl d [0])
   ·refine Go 2 Z (Bd d fun B s d=>?_)
    refine vX (.bool B) (YM (ev:=A.bool) (z0:=false) (k:=j.Name) (l:=e.1) QbP s underlying217 zeroValue4 ZR.bool) ?_ (gT Z)
    exact Go 2 Z (Cl d [0])
  refine Gx 1 Z (TC.le f (Cn Z a (fun t a=>?_) (fun t a=>?_)))
  ·refine Gc 9 Z (Yh a ?_)
   obtain rfl:=Oj g a
   exact Gx 1 Z (QK (Gx 1 Z (Rt h 4 [])))
  refine Gc 5 Z (Bd a fun N u a=>?_)
  refine vU (Y7 (ev:=A.bool) (k:=j.Name) (v:=true) (l:=e.1) QbP u Z underlying217) ?_
  exact FE Z (Go 7 Z (QH a (Lr [0])))
 subst z
 exact Gx 1 Z (TC.le f (Gc 6 Z (Rt h 4 [])))
def F_dq(n:Nat)(a:Distance):Option Unit:=
  some ()
theorem k_dq(n:Nat)(a:Distance)(r:Unit)(h:F_dq n a=some r):
    Csm prog 69 [.agg (Distance.c a)] [] (fun _=>.str a.Name) r:=by
 refine Qb func69 Z Z Z ?_
 exact G0 14 Z (Rt h 2 [])
def F_fz(n:Nat)(c:List Distance)(a:(List (List UInt8×Bool))×Int):Option (Ctl ((List (List UInt8×Bool))×Int) (Ctl Unit Bool)):=
  (bif decide (a.2<(c.length:Int))then(idx c a.2).bind fun b=>(F_dq n b).bind fun h=>((F_d n b.Name).bind fun d=>(bif (!d)then some true else(some (QR a.1 b.Name false)).bind fun e=>some e):Option Bool).bind fun f=>(bif f then some (.done (.done false))else(some (Q8 a.1 b.Name true)).bind fun g=>some (.cont (g,IntKind.i64.wrap (a.2+1))))else some (.done (.cont ())))
def F_ao(n:Nat)(c:List Distance):Option Bool:=
  (iter (F_fz n c) n ([],0):Option (Ctl Unit Bool)).bind fun b=>match b with|.cont a=>(some true)|.done a=>some a
theorem k_ao(n:Nat)(w:List Distance)(r:Bool)(h:F_ao n w=some r):
    Csm prog 68 [.rsl 5 (List.map Distance.c w),.fn (.func 69) [] []] [] (fun r=>.bool r) r:=by
 refine Qb func68 Z Z Z ?_
 refine G0 7 Z ?_
 refine vH YJ ?_
 refine FE Z (Go 7 Z (Lm Z (Go 3 Z (Bd h fun x y h=>?_))))
 refine CtE (b:=x) [] [] (fun _=>[]) (fun _=>[]) (fun _=>rfl) ?_ (fun E env H z f=>?_)
 ·refine G0 1 Z ?_
  refine Lp [0] [1,5,10,11] (fun e=>[(12,I e.2)]) (fun e=>[(0,.map (Ya A.str A.bool e.1))]) y (fun _=>rfl) (Lr [0]) fun e J a g=>?_
  refine G0 6 Z (CnS Z a (fun m a=>?_) (fun m a=>?_))
  ·refine Gc 2 Z (QI a ?_)
   obtain rfl:=Oj g a
   exact Gx 1 Z (Qw Z (Lr []))
  refine Gc 6 Z (Bd a fun j p a=>Iz p Z (Go 9 Z (Cz [] a (k_dq _ _) Z fun L F a=>Go 5 Z (Bd a fun i d a=>?_))))
  refine Ct i [0] [1,5,8,10,11,12] (fun i=>[(26,.bool i)]) (fun _=>[]) (fun _=>rfl) ?_ (fun env H f=>?_)
  ·refine G0 2 Z (Cz [] d (k_d _ _) Z fun M G d=>Go 2 Z (Is 22 d Z (fun q d=>?_) (fun q d=>?_)))
   ·exact Go 5 Z (Cl d [0])
   ·refine Go 2 Z (Bd d fun B s d=>?_)
    refine vX (.bool B) (YM (ev:=A.bool) (z0:=false) (k:=j.Name) (l:=e.1) QbP s underlying217 zeroValue4 ZR.bool) ?_ (gT Z)
    exact Go 2 Z (Cl d [0])
  refine Gx 1 Z (TC.le f (Cn Z a (fun t a=>?_) (fun t a=>?_)))
  ·refine Gc 9 Z (Yh a ?_)
   obtain rfl:=Oj g a
   exact Gx 1 Z (QK (Gx 1 Z (Rt h 4 [])))
  refine Gc 5 Z (Bd a fun N u a=>?_)
  refine vU (Y7 (ev:=A.bool) (k:=j.Name) (v:=true) (l:=e.1) QbP u Z underlying217) ?_
  exact FE Z (Go 7 Z (QH a (Lr [0])))
 subst z
 exact Gx 1 Z (TC.le f (Gc 6 Z (Rt h 4 [])))
def F_ei(n:Nat)(a:Wave):Option Unit:=
  some ()
theorem k_ei(n:Nat)(a:Wave)(r:Unit)(h:F_ei n a=some r):
    Csm prog 71 [.agg (Wave.c a)] [] (fun _=>.str a.Name) r:=by
 refine Qb func71 Z Z Z ?_
 exact G0 14 Z (Rt h 2 [])
def F_fu(n:Nat)(c:List Wave)(a:(List (List UInt8×Bool))×Int):Option (Ctl ((List (List UInt8×Bool))×Int) (Ctl Unit Bool)):=
  (bif decide (a.2<(c.length:Int))then(idx c a.2).bind fun b=>(F_ei n b).bind fun h=>((F_d n b.Name).bind fun d=>(bif (!d)then some true else(some (QR a.1 b.Name false)).bind fun e=>some e):Option Bool).bind fun f=>(bif f then some (.done (.done false))else(some (Q8 a.1 b.Name true)).bind fun g=>some (.cont (g,IntKind.i64.wrap (a.2+1))))else some (.done (.cont ())))
def F_bt(n:Nat)(c:List Wave):Option Bool:=
  (iter (F_fu n c) n ([],0):Option (Ctl Unit Bool)).bind fun b=>match b with|.cont a=>(some true)|.done a=>some a
theorem k_bt(n:Nat)(w:List Wave)(r:Bool)(h:F_bt n w=some r):
    Csm prog 70 [.rsl 2 (List.map Wave.c w),.fn (.func 71) [] []] [] (fun r=>.bool r) r:=by
 refine Qb func70 Z Z Z ?_
 refine G0 7 Z ?_
 refine vH YJ ?_
 refine FE Z (Go 7 Z (Lm Z (Go 3 Z (Bd h fun x y h=>?_))))
 refine CtE (b:=x) [] [] (fun _=>[]) (fun _=>[]) (fun _=>rfl) ?_ (fun E env H z f=>?_)
 ·refine G0 1 Z ?_
  refine Lp [0] [1,5,10,11] (fun e=>[(12,I e.2)]) (fun e=>[(0,.map (Ya A.str A.bool e.1))]) y (fun _=>rfl) (Lr [0]) fun e J a g=>?_
  refine G0 6 Z (CnS Z a (fun m a=>?_) (fun m a=>?_))
  ·refine Gc 2 Z (QI a ?_)
   obtain rfl:=Oj g a
   exact Gx 1 Z (Qw Z (Lr []))
  refine Gc 6 Z (Bd a fun j p a=>Iz p Z (Go 9 Z (Cz [] a (k_ei _ _) Z fun L F a=>Go 5 Z (Bd a fun i d a=>?_))))
  refine Ct i [0] [1,5,8,10,11,12] (fun i=>[(26,.bool i)]) (fun _=>[]) (fun _=>rfl) ?_ (fun env H f=>?_)
  ·refine G0 2 Z (Cz [] d (k_d _ _) Z fun M G d=>Go 2 Z (Is 22 d Z (fun q d=>?_) (fun q d=>?_)))
   ·exact Go 5 Z (Cl d [0])
   ·refine Go 2 Z (Bd d fun B s d=>?_)
    refine vX (.bool B) (YM (ev:=A.bool) (z0:=false) (k:=j.Name) (l:=e.1) QbP s underlying217 zeroValue4 ZR.bool) ?_ (gT Z)
    exact Go 2 Z (Cl d [0])
  refine Gx 1 Z (TC.le f (Cn Z a (fun t a=>?_) (fun t a=>?_)))
  ·refine Gc 9 Z (Yh a ?_)
   obtain rfl:=Oj g a
   exact Gx 1 Z (QK (Gx 1 Z (Rt h 4 [])))
  refine Gc 5 Z (Bd a fun N u a=>?_)
  refine vU (Y7 (ev:=A.bool) (k:=j.Name) (v:=true) (l:=e.1) QbP u Z underlying217) ?_
  exact FE Z (Go 7 Z (QH a (Lr [0])))
 subst z
 exact Gx 1 Z (TC.le f (Gc 6 Z (Rt h 4 [])))
def F_dj(n:Nat)(a:Offence):Option Unit:=
  some ()
theorem k_dj(n:Nat)(a:Offence)(r:Unit)(h:F_dj n a=some r):
    Csm prog 73 [.agg (Offence.c a)] [] (fun _=>.str a.Name) r:=by
 refine Qb func73 Z Z Z ?_
 exact G0 14 Z (Rt h 2 [])
def F_gn(n:Nat)(c:List Offence)(a:(List (List UInt8×Bool))×Int):Option (Ctl ((List (List UInt8×Bool))×Int) (Ctl Unit Bool)):=
  (bif decide (a.2<(c.length:Int))then(idx c a.2).bind fun b=>(F_dj n b).bind fun h=>((F_d n b.Name).bind fun d=>(bif (!d)then some true else(some (QR a.1 b.Name false)).bind fun e=>some e):Option Bool).bind fun f=>(bif f then some (.done (.done false))else(some (Q8 a.1 b.Name true)).bind fun g=>some (.cont (g,IntKind.i64.wrap (a.2+1))))else some (.done (.cont ())))
def F_cj(n:Nat)(c:List Offence):Option Bool:=
  (iter (F_gn n c) n ([],0):Option (Ctl Unit Bool)).bind fun b=>match b with|.cont a=>(some true)|.done a=>some a
theorem k_cj(n:Nat)(w:List Offence)(r:Bool)(h:F_cj n w=some r):
    Csm prog 72 [.rsl 4 (List.map Offence.c w),.fn (.func 73) [] []] [] (fun r=>.bool r) r:=by
 refine Qb func72 Z Z Z ?_
 refine G0 7 Z ?_
 refine vH YJ ?_
 refine FE Z (Go 7 Z (Lm Z (Go 3 Z (Bd h fun x y h=>?_))))
 refine CtE (b:=x) [] [] (fun _=>[]) (fun _=>[]) (fun _=>rfl) ?_ (fun E env H z f=>?_)
 ·refine G0 1 Z ?_
  refine Lp [0] [1,5,10,11] (fun e=>[(12,I e.2)]) (fun e=>[(0,.map (Ya A.str A.bool e.1))]) y (fun _=>rfl) (Lr [0]) fun e J a g=>?_
  refine G0 6 Z (CnS Z a (fun m a=>?_) (fun m a=>?_))
  ·refine Gc 2 Z (QI a ?_)
   obtain rfl:=Oj g a
   exact Gx 1 Z (Qw Z (Lr []))
  refine Gc 6 Z (Bd a fun j p a=>Iz p Z (Go 9 Z (Cz [] a (k_dj _ _) Z fun L F a=>Go 5 Z (Bd a fun i d a=>?_))))
  refine Ct i [0] [1,5,8,10,11,12] (fun i=>[(26,.bool i)]) (fun _=>[]) (fun _=>rfl) ?_ (fun env H f=>?_)
  ·refine G0 2 Z (Cz [] d (k_d _ _) Z fun M G d=>Go 2 Z (Is 22 d Z (fun q d=>?_) (fun q d=>?_)))
   ·exact Go 5 Z (Cl d [0])
   ·refine Go 2 Z (Bd d fun B s d=>?_)
    refine vX (.bool B) (YM (ev:=A.bool) (z0:=false) (k:=j.Name) (l:=e.1) QbP s underlying217 zeroValue4 ZR.bool) ?_ (gT Z)
    exact Go 2 Z (Cl d [0])
  refine Gx 1 Z (TC.le f (Cn Z a (fun t a=>?_) (fun t a=>?_)))
  ·refine Gc 9 Z (Yh a ?_)
   obtain rfl:=Oj g a
   exact Gx 1 Z (QK (Gx 1 Z (Rt h 4 [])))
  refine Gc 5 Z (Bd a fun N u a=>?_)
  refine vU (Y7 (ev:=A.bool) (k:=j.Name) (v:=true) (l:=e.1) QbP u Z underlying217) ?_
  exact FE Z (Go 7 Z (QH a (Lr [0])))
 subst z
 exact Gx 1 Z (TC.le f (Gc 6 Z (Rt h 4 [])))
def F_cv(n:Nat)(a:Category):Option Unit:=
  some ()
theorem k_cv(n:Nat)(a:Category)(r:Unit)(h:F_cv n a=some r):
    Csm prog 75 [.agg (Category.c a)] [] (fun _=>.str a.Name) r:=by
 refine Qb func75 Z Z Z ?_
 exact G0 14 Z (Rt h 2 [])
def F_fs(n:Nat)(c:List Category)(a:(List (List UInt8×Bool))×Int):Option (Ctl ((List (List UInt8×Bool))×Int) (Ctl Unit Bool)):=
  (bif decide (a.2<(c.length:Int))then(idx c a.2).bind fun b=>(F_cv n b).bind fun h=>((F_d n b.Name).bind fun d=>(bif (!d)then some true else(some (QR a.1 b.Name false)).bind fun e=>some e):Option Bool).bind fun f=>(bif f then some (.done (.done false))else(some (Q8 a.1 b.Name true)).bind fun g=>some (.cont (g,IntKind.i64.wrap (a.2+1))))else some (.done (.cont ())))
def F_av(n:Nat)(c:List Category):Option Bool:=
  (iter (F_fs n c) n ([],0):Option (Ctl Unit Bool)).bind fun b=>match b with|.cont a=>(some true)|.done a=>some a
theorem k_av(n:Nat)(w:List Category)(r:Bool)(h:F_av n w=some r):
    Csm prog 74 [.rsl 3 (List.map Category.c w),.fn (.func 75) [] []] [] (fun r=>.bool r) r:=by
 refine Qb func74 Z Z Z ?_
 refine G0 7 Z ?_
 refine vH YJ ?_
 refine FE Z (Go 7 Z (Lm Z (Go 3 Z (Bd h fun x y h=>?_))))
 refine CtE (b:=x) [] [] (fun _=>[]) (fun _=>[]) (fun _=>rfl) ?_ (fun E env H z f=>?_)
 ·refine G0 1 Z ?_
  refine Lp [0] [1,5,10,11] (fun e=>[(12,I e.2)]) (fun e=>[(0,.map (Ya A.str A.bool e.1))]) y (fun _=>rfl) (Lr [0]) fun e J a g=>?_
  refine G0 6 Z (CnS Z a (fun m a=>?_) (fun m a=>?_))
  ·refine Gc 2 Z (QI a ?_)
   obtain rfl:=Oj g a
   exact Gx 1 Z (Qw Z (Lr []))
  refine Gc 6 Z (Bd a fun j p a=>Iz p Z (Go 9 Z (Cz [] a (k_cv _ _) Z fun L F a=>Go 5 Z (Bd a fun i d a=>?_))))
  refine Ct i [0] [1,5,8,10,11,12] (fun i=>[(26,.bool i)]) (fun _=>[]) (fun _=>rfl) ?_ (fun env H f=>?_)
  ·refine G0 2 Z (Cz [] d (k_d _ _) Z fun M G d=>Go 2 Z (Is 22 d Z (fun q d=>?_) (fun q d=>?_)))
   ·exact Go 5 Z (Cl d [0])
   ·refine Go 2 Z (Bd d fun B s d=>?_)
    refine vX (.bool B) (YM (ev:=A.bool) (z0:=false) (k:=j.Name) (l:=e.1) QbP s underlying217 zeroValue4 ZR.bool) ?_ (gT Z)
    exact Go 2 Z (Cl d [0])
  refine Gx 1 Z (TC.le f (Cn Z a (fun t a=>?_) (fun t a=>?_)))
  ·refine Gc 9 Z (Yh a ?_)
   obtain rfl:=Oj g a
   exact Gx 1 Z (QK (Gx 1 Z (Rt h 4 [])))
  refine Gc 5 Z (Bd a fun N u a=>?_)
  refine vU (Y7 (ev:=A.bool) (k:=j.Name) (v:=true) (l:=e.1) QbP u Z underlying217) ?_
  exact FE Z (Go 7 Z (QH a (Lr [0])))
 subst z
 exact Gx 1 Z (TC.le f (Gc 6 Z (Rt h 4 [])))
def F_cc(n:Nat)(a:Course):Option Bool:=
  ((F_d n a.Name).bind fun b=>(bif b then(F_ak n a.Mats).bind fun c=>(bif c then(F_ao n a.Distances).bind fun d=>(bif d then(F_bt n a.Waves).bind fun e=>(bif e then(F_cj n a.Offences).bind fun f=>(bif f then(F_av n a.Categories).bind fun g=>some g else some false)else some false)else some false)else some false)else some false):Option Bool).bind fun h=>some h
theorem k_cc(n:Nat)(j:Course)(r:Bool)(h:F_cc n j=some r):
    Csm prog 39 [.agg (Course.c j)] [] (fun r=>.bool r) r:=by
 refine Qb func39 Z Z Z ?_
 refine G0 7 Z (Bd h fun b a h=>?_)
 refine Ct b [] [] (fun b=>[(2,.bool b)]) (fun _=>[]) (fun _=>rfl) ?_ (fun env H k=>?_)
 ·refine G0 3 Z (Cz [] a (k_d _ _) Z fun u l a=>Go 1 Z (Is 6 a Z (fun d a=>?_) (fun d a=>?_)))
  ·refine Go 2 Z (Cz [] a (k_ak _ _) Z fun w m a=>Go 2 Z (Is 11 a Z (fun e a=>?_) (fun e a=>?_)))
   ·refine Go 2 Z (Cz [] a (k_ao _ _) Z fun x p a=>Go 2 Z (Is 16 a Z (fun f a=>?_) (fun f a=>?_)))
    ·refine Go 2 Z (Cz [] a (k_bt _ _) Z fun y q a=>Go 2 Z (Is 21 a Z (fun g a=>?_) (fun g a=>?_)))
     ·refine Go 2 Z (Cz [] a (k_cj _ _) Z fun z s a=>Go 2 Z (Is 26 a Z (fun i a=>?_) (fun i a=>?_)))
      ·exact Go 2 Z (Cz [] a (k_av _ _) Z fun B t a=>Go 3 Z (Cl a []))
      ·exact Go 6 Z (Cl a [])
     ·exact Go 11 Z (Cl a [])
    ·exact Go 16 Z (Cl a [])
   ·exact Go 21 Z (Cl a [])
  ·exact Go 26 Z (Cl a [])
 exact Gx 1 Z (TC.le k (Gc 1 Z (Rt h 2 [])))
def F_ae(n:Nat)(a:Int)(b:Int)(c:Int):Option Bool:=
  ((bif decide (a<b)then some true else some (decide (c<a))):Option Bool).bind fun b2=>some b2
theorem k_ae(n:Nat)(b:Int)(c:Int)(d:Int)(r:Bool)(h:F_ae n b c d=some r):
    Csm prog 131 [I b,.ptr 0 0,.ptr 1 0] [.cells 3 [I c],.cells 3 [I d]] (fun r=>.bool r) r:=by
 refine Qb func131 Z Z Z ?_
 refine G0 6 Z (Bd h fun b2 a h=>?_)
 refine Ct b2 [0,1] [] (fun b2=>[(4,.bool b2)]) (fun _=>[]) (fun _=>rfl) ?_ (fun env H e=>?_)
 ·refine G0 5 Z (Is 8 a Z (fun f a=>?_) (fun f a=>?_))
  ·exact Go 6 Z (Cl a [0,1])
  ·exact Go 6 Z (Cl a [0,1])
 exact Gx 1 Z (TC.le e (Gc 1 Z (Rt h 4 [0,1])))
def F_gm(n:Nat)(b:List Int)(e:Int)(f:Int)(a:Int):Option (Ctl Int (Ctl Unit Int)):=
  (bif decide (a<(b.length:Int))then(idx b a).bind fun c=>(F_ae n c e f).bind fun d=>(bif d then some (.done (.done a))else some (.cont (IntKind.i64.wrap (a+1))))else some (.done (.cont ())))
def F_ct(n:Nat)(c:List Int)(d:Int)(e:Int):Option Int:=
  (iter (F_gm n c d e) n 0:Option (Ctl Unit Int)).bind fun b=>match b with|.cont a=>(some (-1))|.done a=>some a
theorem k_ct(n:Nat)(c:List Int)(a:Int)(b:Int)(r:Int)(h:F_ct n c a b=some r):
    Csm prog 191 [.rsl 1 (List.map (Qj .i64) c),.fn (.func 131) [] [.ptr 0 0,.ptr 1 0]] [.cells 3 [I a],.cells 3 [I b]] (fun r=>I r) r:=
 QN (el:=fun x=>I x) (g:=fun x=>F_ae n x a b) func191 Z Z Z runUnderlying109 sizeOf3 (fun _ _ _ _ d e=>OpV.load d isAgg3 e Pts.rp) call131 (fun _ _ h=>k_ae _ _ _ _ _ h) h
def F_bo(n:Nat)(a:List Int)(b:Int)(c:Int):Option Bool:=
  (F_ct n a b c).bind fun d=>some (decide (0<=d))
theorem k_bo(n:Nat)(a:List Int)(b:Int)(c:Int)(r:Bool)(h:F_bo n a b c=some r):
    Csm prog 130 [.rsl 1 (List.map (Qj .i64) a),.fn (.func 131) [] [.ptr 0 0,.ptr 1 0]] [.cells 3 [I b],.cells 3 [I c]] (fun r=>.bool r) r:=by
 refine Qb func130 Z Z Z ?_
 exact G0 9 Z (Cz [0,1] h (k_ct _ _ _ _) Z fun e d h=>Go 5 Z (Rt h 4 [0,1]))
def F_a(n:Nat)(a:Int)(b:Int)(c:List Int):Option Bool:=
  (F_bo n c a b).bind fun d=>some (!d)
theorem k_a(n:Nat)(a:Int)(b:Int)(c:List Int)(r:Bool)(h:F_a n a b c=some r):
    Csm prog 77 [I a,I b,.rsl 1 (List.map (Qj .i64) c)] [] (fun r=>.bool r) r:=by
 refine Qb func77 Z Z Z ?_
 exact G0 11 Z (Cz [0,1] h (k_bo _ _ _ _) Z fun e d h=>Go 5 Z (Rt h 6 []))
def F_bm(n:Nat)(a:Mat):Option Bool:=
  (F_a n 1 3 [a.Kind]).bind fun b=>some b
theorem k_bm(n:Nat)(a:Mat)(r:Bool)(h:F_bm n a=some r):
    Csm prog 86 [.agg (Mat.c a)] [] (fun r=>.bool r) r:=by
 refine Qb func86 Z Z Z ?_
 refine G0 10 Z ?_
 refine vH (OpH.lit (xs:=[.tmp 4]) (es:=List.map (Qj .i64) [a.Kind]) QB Z Z Z Z Z ⟨Z,trivial⟩ Z Z) ?_
 exact FE Z (Cb h (k_a _ _ _ _) Z (ls (ls (lo ln))) fun d b h=>Go 4 Z (Rt h 2 []))
def F_et(n:Nat)(a:Mat):Option Bool:=
  (F_bm n a).bind fun b=>some (!b)
theorem k_et(n:Nat)(a:Mat)(r:Bool)(h:F_et n a=some r):
    Csm prog 137 [.agg (Mat.c a),.ptr 0 0] [.cells 168 [.fn (.func 86) [] []]] (fun r=>.bool r) r:=by
 refine Qb func137 Z Z Z ?_
 exact G0 10 Z (Cz [] h (k_bm _ _) Z fun d b h=>Go 5 Z (Rt h 3 [0]))
def F_gg(n:Nat)(b:List Mat)(a:Int):Option (Ctl Int (Ctl Unit Int)):=
  (bif decide (a<(b.length:Int))then(idx b a).bind fun c=>(F_et n c).bind fun d=>(bif d then some (.done (.done a))else some (.cont (IntKind.i64.wrap (a+1))))else some (.done (.cont ())))
def F_dn(n:Nat)(c:List Mat):Option Int:=
  (iter (F_gg n c) n 0:Option (Ctl Unit Int)).bind fun b=>match b with|.cont a=>(some (-1))|.done a=>some a
theorem k_dn(n:Nat)(a:List Mat)(r:Int)(h:F_dn n a=some r):
    Csm prog 194 [.rsl 2 (List.map Mat.c a),.fn (.func 137) [] [.ptr 0 0]] [.cells 168 [.fn (.func 86) [] []]] (fun r=>I r) r:=
 QN (el:=fun x=>.agg (Mat.c x)) (g:=fun x=>F_et n x) func194 Z Z Z runUnderlying56 sizeOf115 (fun _ _ _ _ b d=>Qn b isAgg115 sizeOf115 d Pts.rp Z Z) call137 (fun _ _ h=>k_et _ _ _ h) h
def F_dk(n:Nat)(a:List Mat):Option Bool:=
  (F_dn n a).bind fun b=>some (decide (0<=b))
theorem k_dk(n:Nat)(a:List Mat)(r:Bool)(h:F_dk n a=some r):
    Csm prog 136 [.rsl 2 (List.map Mat.c a),.fn (.func 137) [] [.ptr 0 0]] [.cells 168 [.fn (.func 86) [] []]] (fun r=>.bool r) r:=by
 refine Qb func136 Z Z Z ?_
 exact G0 9 Z (Cz [0] h (k_dn _ _) Z fun d b h=>Go 5 Z (Rt h 4 [0]))
def F_ar(n:Nat)(a:List Mat):Option Bool:=
  (F_dk n a).bind fun b=>some (!b)
theorem k_ar(n:Nat)(a:List Mat)(r:Bool)(h:F_ar n a=some r):
    Csm prog 85 [.rsl 2 (List.map Mat.c a),.fn (.func 86) [] []] [] (fun r=>.bool r) r:=by
 refine Qb func85 Z Z Z ?_
 exact G0 10 Z (Cz [0] h (k_dk _ _) Z fun d b h=>Go 5 Z (Rt h 4 []))
def F_bp(n:Nat)(a:Leg)(b:Int):Option Bool:=
  ((F_a n 0 b [a.From,a.To]).bind fun c=>(bif c then(F_a n 0 68719476736 [a.Min,a.Max]).bind fun d=>(bif d then some (decide (a.Min<=a.Max))else some false)else some false):Option Bool).bind fun e=>some e
theorem k_bp(n:Nat)(b:Leg)(f:Int)(r:Bool)(h:F_bp n b f=some r):
    Csm prog 82 [.agg (Leg.c b),.ptr 0 0] [.cells 3 [I f]] (fun r=>.bool r) r:=by
 refine Qb func82 Z Z Z ?_
 refine G0 7 Z (Bd h fun d a h=>?_)
 refine Ct d [0] [] (fun d=>[(3,.bool d)]) (fun _=>[]) (fun _=>rfl) ?_ (fun env H g=>?_)
 ·refine G0 6 Z ?_
  refine vH (OpH.lit (xs:=[.tmp 6,.tmp 8]) (es:=List.map (Qj .i64) [b.From,b.To]) QB Z Z Z Z Z ⟨Z,Z,trivial⟩ Z Z) ?_
  refine FE Z (Cb a (k_a _ _ _ _) Z (ls (ls (lo ln))) fun l j a=>Go 1 Z (Is 11 a Z (fun i a=>?_) (fun i a=>?_)))
  ·refine Go 4 Z ?_
   refine vH (OpH.lit (xs:=[.tmp 13,.tmp 15]) (es:=List.map (Qj .i64) [b.Min,b.Max]) QB Z Z Z Z Z ⟨Z,Z,trivial⟩ Z Z) ?_ (gT Z)
   refine FE Z (Cb a (k_a _ _ _ _) Z (ls (ls (lo ln))) fun m k a=>Go 2 Z (Is 19 a Z (fun e a=>?_) (fun e a=>?_)))
   ·exact Go 8 Z (Cl a [0])
   ·exact Go 8 Z (Cl a [0])
  ·exact Go 16 Z (Cl a [0])
 exact Gx 1 Z (TC.le g (Gc 1 Z (Rt h 3 [0])))
def F_er(n:Nat)(a:Leg)(b:Int):Option Bool:=
  (F_bp n a b).bind fun c=>some (!c)
theorem k_er(n:Nat)(a:Leg)(b:Int)(r:Bool)(h:F_er n a b=some r):
    Csm prog 139 [.agg (Leg.c a),.ptr 0 0] [.cells 162 [.fn (.func 82) [] [.ptr 1 0]],.cells 3 [I b]] (fun r=>.bool r) r:=by
 refine Qb func139 Z Z Z ?_
 exact G0 10 Z (Cz [1] h (k_bp _ _ _) Z fun e d h=>Go 5 Z (Rt h 3 [0,1]))
def F_ge(n:Nat)(b:List Leg)(e:Int)(a:Int):Option (Ctl Int (Ctl Unit Int)):=
  (bif decide (a<(b.length:Int))then(idx b a).bind fun c=>(F_er n c e).bind fun d=>(bif d then some (.done (.done a))else some (.cont (IntKind.i64.wrap (a+1))))else some (.done (.cont ())))
def F_em(n:Nat)(c:List Leg)(d:Int):Option Int:=
  (iter (F_ge n c d) n 0:Option (Ctl Unit Int)).bind fun b=>match b with|.cont a=>(some (-1))|.done a=>some a
theorem k_em(n:Nat)(b:List Leg)(a:Int)(r:Int)(h:F_em n b a=some r):
    Csm prog 195 [.rsl 4 (List.map Leg.c b),.fn (.func 139) [] [.ptr 0 0]] [.cells 162 [.fn (.func 82) [] [.ptr 1 0]],.cells 3 [I a]] (fun r=>I r) r:=
 QN (el:=fun x=>.agg (Leg.c x)) (g:=fun x=>F_er n x a) func195 Z Z Z runUnderlying57 sizeOf103 (fun _ _ _ _ d e=>Qn d isAgg103 sizeOf103 e Pts.rp Z Z) call139 (fun _ _ h=>k_er _ _ _ _ h) h
def F_eg(n:Nat)(a:List Leg)(b:Int):Option Bool:=
  (F_em n a b).bind fun c=>some (decide (0<=c))
theorem k_eg(n:Nat)(a:List Leg)(b:Int)(r:Bool)(h:F_eg n a b=some r):
    Csm prog 138 [.rsl 4 (List.map Leg.c a),.fn (.func 139) [] [.ptr 0 0]] [.cells 162 [.fn (.func 82) [] [.ptr 1 0]],.cells 3 [I b]] (fun r=>.bool r) r:=by
 refine Qb func138 Z Z Z ?_
 exact G0 9 Z (Cz [0,1] h (k_em _ _ _) Z fun e d h=>Go 5 Z (Rt h 4 [0,1]))
def F_ba(n:Nat)(a:List Leg)(b:Int):Option Bool:=
  (F_eg n a b).bind fun c=>some (!c)
theorem k_ba(n:Nat)(a:List Leg)(b:Int)(r:Bool)(h:F_ba n a b=some r):
    Csm prog 87 [.rsl 4 (List.map Leg.c a),.fn (.func 82) [] [.ptr 0 0]] [.cells 3 [I b]] (fun r=>.bool r) r:=by
 refine Qb func87 Z Z Z ?_
 exact G0 10 Z (Cz [1,0] h (k_eg _ _ _) Z fun e d h=>Go 5 Z (Rt h 4 [0]))
def F_ej(n:Nat)(a:Leg):Option Unit:=
  some ()
theorem k_ej(n:Nat)(a:Leg)(r:Unit)(h:F_ej n a=some r):
    C prog 89 [.agg (Leg.c a)] [] (RQ (fun _=>.agg [I a.From,I a.To]) (fun _=>[.cells 105 [I a.From,I a.To]]) r):=by
 refine Qb func89 Z Z Z ?_
 refine G0 17 Z ?_
 obtain rfl:=Oi h
 exact Rx [1] [2] Z (Yz Z (Qp isAgg105 sizeOf105 Z Z Z)) ⟨Z,Z⟩
def F_fi(n:Nat)(c:List Leg)(a:(List (typing_ends×Bool))×Int):Option (Ctl ((List (typing_ends×Bool))×Int) (List (typing_ends×Bool))):=
  (bif decide (a.2<(c.length:Int))then(idx c a.2).bind fun b=>(F_ej n b).bind fun e=>(some (Q8 a.1 ({from_:=b.From,to_:=b.To:typing_ends}) true)).bind fun d=>some (.cont (d,IntKind.i64.wrap (a.2+1)))else some (.done a.1))
def F_bn(n:Nat)(a:List Leg):Option Bool:=
  (iter (F_fi n a) n ([],0):Option (List (typing_ends×Bool))).bind fun b=>some ((b.length:Int)==(a.length:Int))
theorem k_bn(n:Nat)(m:List Leg)(r:Bool)(h:F_bn n m=some r):
    Csm prog 88 [.rsl 4 (List.map Leg.c m),.fn (.func 89) [] []] [] (fun r=>.bool r) r:=by
 refine Qb func88 Z Z Z ?_
 refine G0 7 Z ?_
 refine vH YJ ?_
 refine FE Z (Go 7 Z (Lm Z (Go 3 Z (Bd h fun b p h=>?_))))
 refine Ct b [0] [0,5] (fun _=>[]) (fun b=>[(0,.map (Ya (fun x=>A.agg (typing_ends.c x)) A.bool b))]) (fun _=>rfl) ?_ (fun env H q=>?_)
 ·refine G0 1 Z ?_
  refine Lp [0] [0,1,5,9,10] (fun d=>[(11,I d.2)]) (fun d=>[(0,.map (Ya (fun x=>A.agg (typing_ends.c x)) A.bool d.1))]) p (fun _=>rfl) (Lr [0]) fun d t a f=>?_
  refine G0 6 Z (CnS Z a (fun g a=>?_) (fun g a=>?_))
  ·refine Gc 2 Z (QI a ?_)
   obtain rfl:=Oj f a
   exact Gx 1 Z (Q7 (Lr [0]))
  refine Gc 6 Z (Bd a fun e i a=>Iz i Z (Go 9 Z (Cd [] a (k_ej _ _) Z fun u s a=>FE Z (Bd a fun w j a=>?_))))
  refine vU (Y7 (ev:=A.bool) (k:=({from_:=e.From,to_:=e.To:typing_ends})) (v:=true) (l:=d.1) Qdv j Z underlying101) ?_
  exact FE Z (Go 7 Z (QH a (Lr [0])))
 refine Gx 1 Z (TC.le q (Gc 3 Z ?_))
 refine vX (I (b.length:Int)) (Qes (l:=b) underlying101 Z) ?_
 exact Go 1 Z (Lm Z (Go 5 Z (Rt h 4 [])))
def F_ad(rec46:(List Part)->Int->Option Bool)(n:Nat)(a:Part)(b:Int):Option Bool:=
  (bif (a.Laps==0)then((F_a n 0 b [a.Mat]).bind fun f=>(bif f then some ((a.Parts.length:Int)==0)else some false):Option Bool).bind fun g=>some g else((F_a n 1 64 [a.Laps]).bind fun c=>(bif c then(bif (a.Mat==0)then(bif decide (0<(a.Parts.length:Int))then(rec46 a.Parts b).bind fun d=>some d else some false)else some false)else some false):Option Bool).bind fun e=>some e)
theorem k_ad(rec46:(List Part)->Int->Option Bool)(e:∀(b:List Part) (f:Int) (r:Bool),rec46 b f=some r->Csm prog 78 [.rsl 3 (List.map Part.enc b),.fn (.func 76) [] [.ptr 0 0,.ptr 1 0]] [.cells 3 [I f],.cells 155 [.fn (.func 76) [] [.ptr 0 0,.ptr 1 0]]] (fun r=>.bool r) r)(n:Nat)(b:Part)(f:Int)(r:Bool)(h:F_ad rec46 n b f=some r):
    Csm prog 76 [.agg (Part.c b),.ptr 0 0,.ptr 1 0] [.cells 3 [I f],.cells 155 [.fn (.func 76) [] [.ptr 0 0,.ptr 1 0]]] (fun r=>.bool r) r:=by
 refine Qb func76 Z Z Z ?_
 refine G0 14 Z (Cn Z h (fun p h=>?_) (fun p h=>?_))
 ·refine Gc 1 Z (Bd h fun j d h=>?_)
  refine Ct j [0,1] [] (fun j=>[(4,.bool j)]) (fun _=>[]) (fun _=>rfl) ?_ (fun env H g=>?_)
  ·refine G0 4 Z ?_
   refine vH (OpH.lit (xs:=[.tmp 10]) (es:=List.map (Qj .i64) [b.Mat]) QB Z Z Z Z Z ⟨Z,trivial⟩ Z Z) ?_
   refine FE Z (Cb d (k_a _ _ _ _) Z (ls (ls (lo ln))) fun y u d=>Go 1 Z (Is 13 d Z (fun q d=>?_) (fun q d=>?_)))
   ·exact Go 2 Z (Lm Z (Go 4 Z (Cl d [0,1])))
   ·exact Go 7 Z (Cl d [0,1])
  exact Gx 1 Z (TC.le g (Gc 2 Z (Rt h 4 [0,1])))
 refine Gc 3 Z (Bd h fun i a h=>?_)
 refine Ct i [0,1] [] (fun i=>[(4,.bool i)]) (fun _=>[]) (fun _=>rfl) ?_ (fun env H g=>?_)
 ·refine G0 3 Z ?_
  refine vH (OpH.lit (xs:=[.tmp 20]) (es:=List.map (Qj .i64) [b.Laps]) QB Z Z Z Z Z ⟨Z,trivial⟩ Z Z) ?_
  refine FE Z (Cb a (k_a _ _ _ _) Z (ls (ls (lo ln))) fun w s a=>Go 1 Z (Is 23 a Z (fun k a=>?_) (fun k a=>?_)))
  ·refine Go 5 Z (Is 28 a Z (fun l a=>?_) (fun l a=>?_))
   ·refine Go 2 Z (Lm Z (Go 3 Z (Is 34 a Z (fun m a=>?_) (fun m a=>?_))))
    ·exact Go 3 Z (Cz [0,1] a (e _ _) Z fun x t a=>Go 3 Z (Cl a [0,1]))
    ·exact Go 7 Z (Cl a [0,1])
   ·exact Go 13 Z (Cl a [0,1])
  ·exact Go 18 Z (Cl a [0,1])
 exact Gx 1 Z (TC.le g (Gc 1 Z (Rt h 4 [0,1])))
def F_ey(rec46:(List Part)->Int->Option Bool)(n:Nat)(a:Part)(b:Int):Option Bool:=
  (F_ad rec46 n a b).bind fun c=>some (!c)
theorem k_ey(rec46:(List Part)->Int->Option Bool)(a:∀(b:List Part) (d:Int) (r:Bool),rec46 b d=some r->Csm prog 78 [.rsl 3 (List.map Part.enc b),.fn (.func 76) [] [.ptr 0 0,.ptr 1 0]] [.cells 3 [I d],.cells 155 [.fn (.func 76) [] [.ptr 0 0,.ptr 1 0]]] (fun r=>.bool r) r)(n:Nat)(b:Part)(d:Int)(r:Bool)(h:F_ey rec46 n b d=some r):
    Csm prog 133 [.agg (Part.c b),.ptr 0 0] [.cells 155 [.fn (.func 76) [] [.ptr 1 0,.ptr 2 0]],.cells 3 [I d],.cells 155 [.fn (.func 76) [] [.ptr 1 0,.ptr 2 0]]] (fun r=>.bool r) r:=by
 refine Qb func133 Z Z Z ?_
 exact G0 10 Z (Cz [1,2] h (k_ad rec46 a _ _ _) Z fun f e h=>Go 5 Z (Rt h 3 [0,1,2]))
def F_gk(n:Nat)(b:List Part)(e:Int)(rec46:(List Part)->Int->Option Bool)(a:Int):Option (Ctl Int (Ctl Unit Int)):=
  (bif decide (a<(b.length:Int))then(idx b a).bind fun c=>(F_ey rec46 n c e).bind fun d=>(bif d then some (.done (.done a))else some (.cont (IntKind.i64.wrap (a+1))))else some (.done (.cont ())))
def F_bx(rec46:(List Part)->Int->Option Bool)(n:Nat)(c:List Part)(d:Int):Option Int:=
  (iter (F_gk n c d rec46) n 0:Option (Ctl Unit Int)).bind fun b=>match b with|.cont a=>(some (-1))|.done a=>some a
theorem k_bx(rec46:(List Part)->Int->Option Bool)(c:∀(d:List Part) (e:Int) (r:Bool),rec46 d e=some r->Csm prog 78 [.rsl 3 (List.map Part.enc d),.fn (.func 76) [] [.ptr 0 0,.ptr 1 0]] [.cells 3 [I e],.cells 155 [.fn (.func 76) [] [.ptr 0 0,.ptr 1 0]]] (fun r=>.bool r) r)(n:Nat)(d:List Part)(e:Int)(r:Int)(h:F_bx rec46 n d e=some r):
    Csm prog 192 [.rsl 3 (List.map Part.enc d),.fn (.func 133) [] [.ptr 0 0]] [.cells 155 [.fn (.func 76) [] [.ptr 1 0,.ptr 2 0]],.cells 3 [I e],.cells 155 [.fn (.func 76) [] [.ptr 1 0,.ptr 2 0]]] (fun r=>I r) r:=by
 refine Qb func192 Z Z Z ?_
 refine G0 9 Z (Lm Z (Go 3 Z (Bd h fun l m h=>?_)))
 refine CtE (b:=l) [0,1,2] [] (fun _=>[]) (fun _=>[]) (fun _=>rfl) ?_ (fun t env H p q=>?_)
 ·refine G0 1 Z ?_
  refine Lp [0,1,2] [0,1,7] (fun g=>[(8,I g)]) (fun _=>[]) m (fun _=>rfl) (Lr [0,1,2]) fun g w a f=>?_
  refine G0 6 Z (CnS Z a (fun i a=>?_) (fun i a=>?_))
  ·refine Gc 2 Z (QI a ?_)
   obtain rfl:=Oj f a
   exact Gx 1 Z (Qw Z (Lr [0,1,2]))
  refine Gc 15 Z (Bd a fun s j a=>IzE j (Yw s) Z (Go 1 Z (Cz [0,1,2] a (k_ey rec46 c _ _ _) Z fun x u a=>Go 2 Z (Cn Z a (fun k a=>?_) (fun k a=>?_)))))
  ·refine Gc 9 Z (Yh a ?_)
   obtain rfl:=Oj f a
   exact Gx 1 Z (QK (Gx 1 Z (Rt h 4 [0,1,2])))
  exact Gc 7 Z (QH a (Lr [0,1,2]))
 subst p
 exact Gx 1 Z (TC.le q (Gc 6 Z (Rt h 4 [0,1,2])))
def F_cd(rec46:(List Part)->Int->Option Bool)(n:Nat)(a:List Part)(b:Int):Option Bool:=
  (F_bx rec46 n a b).bind fun c=>some (decide (0<=c))
theorem k_cd(rec46:(List Part)->Int->Option Bool)(a:∀(b:List Part) (c:Int) (r:Bool),rec46 b c=some r->Csm prog 78 [.rsl 3 (List.map Part.enc b),.fn (.func 76) [] [.ptr 0 0,.ptr 1 0]] [.cells 3 [I c],.cells 155 [.fn (.func 76) [] [.ptr 0 0,.ptr 1 0]]] (fun r=>.bool r) r)(n:Nat)(b:List Part)(c:Int)(r:Bool)(h:F_cd rec46 n b c=some r):
    Csm prog 132 [.rsl 3 (List.map Part.enc b),.fn (.func 133) [] [.ptr 0 0]] [.cells 155 [.fn (.func 76) [] [.ptr 1 0,.ptr 2 0]],.cells 3 [I c],.cells 155 [.fn (.func 76) [] [.ptr 1 0,.ptr 2 0]]] (fun r=>.bool r) r:=by
 refine Qb func132 Z Z Z ?_
 exact G0 9 Z (Cz [0,1,2] h (k_bx rec46 a _ _ _) Z fun e d h=>Go 5 Z (Rt h 4 [0,1,2]))
def B_e(rec46:(List Part)->Int->Option Bool)(n:Nat)(a:List Part)(b:Int):Option Bool:=
  (F_cd rec46 n a b).bind fun c=>some (!c)
theorem QbU(rec46:(List Part)->Int->Option Bool)(a:∀(b:List Part) (c:Int) (r:Bool),rec46 b c=some r->Csm prog 78 [.rsl 3 (List.map Part.enc b),.fn (.func 76) [] [.ptr 0 0,.ptr 1 0]] [.cells 3 [I c],.cells 155 [.fn (.func 76) [] [.ptr 0 0,.ptr 1 0]]] (fun r=>.bool r) r)(n:Nat)(b:List Part)(c:Int)(r:Bool)(h:B_e rec46 n b c=some r):
    Csm prog 78 [.rsl 3 (List.map Part.enc b),.fn (.func 76) [] [.ptr 0 0,.ptr 1 0]] [.cells 3 [I c],.cells 155 [.fn (.func 76) [] [.ptr 0 0,.ptr 1 0]]] (fun r=>.bool r) r:=by
 refine Qb func78 Z Z Z ?_
 exact G0 10 Z (Cz [2,0,1] h (k_cd rec46 a _ _ _) Z fun e d h=>Go 5 Z (Rt h 4 [0,1]))
def F_e:Nat->(List Part)->Int->Option Bool
  |0=>fun _ _=>none
  |n+1=>B_e (F_e n) n
theorem k_e(n:Nat):∀(a:List Part) (b:Int) (r:Bool),F_e n a b=some r->Csm prog 78 [.rsl 3 (List.map Part.enc a),.fn (.func 76) [] [.ptr 0 0,.ptr 1 0]] [.cells 3 [I b],.cells 155 [.fn (.func 76) [] [.ptr 0 0,.ptr 1 0]]] (fun r=>.bool r) r:=by
  induction n with
  |zero=>intro a b r h;cases h
  |succ n ih=>intro a b r h;exact QbU _ ih n a b r h
def F_bb(n:Nat)(a:Cutoff)(c:Int):Option Bool:=
  ((F_a n 0 c [a.Mat]).bind fun d=>(bif d then(bif decide (1<=a.Lap)then(F_a n 0 1099511627776 [a.Limit]).bind fun b=>some b else some false)else some false):Option Bool).bind fun e=>some e
theorem k_bb(n:Nat)(b:Cutoff)(e:Int)(r:Bool)(h:F_bb n b e=some r):
    Csm prog 79 [.agg (Cutoff.c b),.ptr 0 0] [.cells 3 [I e]] (fun r=>.bool r) r:=by
 refine Qb func79 Z Z Z ?_
 refine G0 7 Z (Bd h fun d a h=>?_)
 refine Ct d [0] [] (fun d=>[(3,.bool d)]) (fun _=>[]) (fun _=>rfl) ?_ (fun env H f=>?_)
 ·refine G0 4 Z ?_
  refine vH (OpH.lit (xs:=[.tmp 6]) (es:=List.map (Qj .i64) [b.Mat]) QB Z Z Z Z Z ⟨Z,trivial⟩ Z Z) ?_
  refine FE Z (Cb a (k_a _ _ _ _) Z (ls (ls (lo ln))) fun m k a=>Go 1 Z (Is 9 a Z (fun g a=>?_) (fun g a=>?_)))
  ·refine Go 5 Z (Is 14 a Z (fun i a=>?_) (fun i a=>?_))
   ·refine Go 2 Z ?_
    refine vH (OpH.lit (xs:=[.tmp 16]) (es:=List.map (Qj .i64) [b.Limit]) QB Z Z Z Z Z ⟨Z,trivial⟩ Z Z) ?_ (gT Z)
    exact FE Z (Cb a (k_a _ _ _ _) Z (ls (ls (lo ln))) fun l j a=>Go 3 Z (Cl a [0]))
   ·exact Go 7 Z (Cl a [0])
  ·exact Go 12 Z (Cl a [0])
 exact Gx 1 Z (TC.le f (Gc 1 Z (Rt h 3 [0])))
def F_cq(n:Nat)(a:Cutoff)(b:Int):Option Bool:=
  (F_bb n a b).bind fun c=>some (!c)
theorem k_cq(n:Nat)(a:Cutoff)(b:Int)(r:Bool)(h:F_cq n a b=some r):
    Csm prog 135 [.agg (Cutoff.c a),.ptr 0 0] [.cells 160 [.fn (.func 79) [] [.ptr 1 0]],.cells 3 [I b]] (fun r=>.bool r) r:=by
 refine Qb func135 Z Z Z ?_
 exact G0 10 Z (Cz [1] h (k_bb _ _ _) Z fun e d h=>Go 5 Z (Rt h 3 [0,1]))
def F_fx(n:Nat)(b:List Cutoff)(e:Int)(a:Int):Option (Ctl Int (Ctl Unit Int)):=
  (bif decide (a<(b.length:Int))then(idx b a).bind fun c=>(F_cq n c e).bind fun d=>(bif d then some (.done (.done a))else some (.cont (IntKind.i64.wrap (a+1))))else some (.done (.cont ())))
def F_dc(n:Nat)(c:List Cutoff)(d:Int):Option Int:=
  (iter (F_fx n c d) n 0:Option (Ctl Unit Int)).bind fun b=>match b with|.cont a=>(some (-1))|.done a=>some a
theorem k_dc(n:Nat)(b:List Cutoff)(a:Int)(r:Int)(h:F_dc n b a=some r):
    Csm prog 193 [.rsl 3 (List.map Cutoff.c b),.fn (.func 135) [] [.ptr 0 0]] [.cells 160 [.fn (.func 79) [] [.ptr 1 0]],.cells 3 [I a]] (fun r=>I r) r:=
 QN (el:=fun x=>.agg (Cutoff.c x)) (g:=fun x=>F_cq n x a) func193 Z Z Z runUnderlying86 sizeOf159 (fun _ _ _ _ d e=>Qn d isAgg159 sizeOf159 e Pts.rp Z Z) call135 (fun _ _ h=>k_cq _ _ _ _ h) h
def F_ec(n:Nat)(a:List Cutoff)(b:Int):Option Bool:=
  (F_dc n a b).bind fun c=>some (decide (0<=c))
theorem k_ec(n:Nat)(a:List Cutoff)(b:Int)(r:Bool)(h:F_ec n a b=some r):
    Csm prog 134 [.rsl 3 (List.map Cutoff.c a),.fn (.func 135) [] [.ptr 0 0]] [.cells 160 [.fn (.func 79) [] [.ptr 1 0]],.cells 3 [I b]] (fun r=>.bool r) r:=by
 refine Qb func134 Z Z Z ?_
 exact G0 9 Z (Cz [0,1] h (k_dc _ _ _) Z fun e d h=>Go 5 Z (Rt h 4 [0,1]))
def F_ah(n:Nat)(a:List Cutoff)(b:Int):Option Bool:=
  (F_ec n a b).bind fun c=>some (!c)
theorem k_ah(n:Nat)(a:List Cutoff)(b:Int)(r:Bool)(h:F_ah n a b=some r):
    Csm prog 81 [.rsl 3 (List.map Cutoff.c a),.fn (.func 79) [] [.ptr 0 0]] [.cells 3 [I b]] (fun r=>.bool r) r:=by
 refine Qb func81 Z Z Z ?_
 exact G0 10 Z (Cz [1,0] h (k_ec _ _ _) Z fun e d h=>Go 5 Z (Rt h 4 [0]))
def F_ai(n:Nat)(a:Distance)(b:Int):Option Bool:=
  ((F_a n 1 3 [a.Timing]).bind fun c=>(bif c then(F_a n (-1) b [a.Extra]).bind fun d=>(bif d then(F_e n a.Route b).bind fun e=>(bif e then(F_ah n a.Cutoffs b).bind fun f=>some f else some false)else some false)else some false):Option Bool).bind fun g=>some g
theorem k_ai(n:Nat)(b:Distance)(i:Int)(r:Bool)(h:F_ai n b i=some r):
    Csm prog 80 [.agg (Distance.c b),.ptr 0 0,.ptr 1 0,.ptr 2 0] [.cells 3 [I i],.cells 155 [.fn (.func 76) [] [.ptr 0 0,.ptr 1 0]],.cells 160 [.fn (.func 79) [] [.ptr 0 0]]] (fun r=>.bool r) r:=by
 refine Qb func80 Z Z Z ?_
 refine G0 7 Z (Bd h fun d a h=>?_)
 refine Ct d [0,1,2] [] (fun d=>[(5,.bool d)]) (fun _=>[]) (fun _=>rfl) ?_ (fun env H j=>?_)
 ·refine G0 3 Z ?_
  refine vH (OpH.lit (xs:=[.tmp 7]) (es:=List.map (Qj .i64) [b.Timing]) QB Z Z Z Z Z ⟨Z,trivial⟩ Z Z) ?_
  refine FE Z (Cb a (k_a _ _ _ _) Z (ls (ls (lo ln))) fun q k a=>Go 1 Z (Is 10 a Z (fun e a=>?_) (fun e a=>?_)))
  ·refine Go 3 Z ?_
   refine vH (OpH.lit (xs:=[.tmp 13]) (es:=List.map (Qj .i64) [b.Extra]) QB Z Z Z Z Z ⟨Z,trivial⟩ Z Z) ?_ (gT Z)
   refine FE Z (Cb a (k_a _ _ _ _) Z (ls (ls (lo ln))) fun s l a=>Go 2 Z (Is 17 a Z (fun f a=>?_) (fun f a=>?_)))
   ·refine Go 3 Z (Cz [0,1] a (k_e _ _ _) Z fun t m a=>Go 2 Z (Is 23 a Z (fun g a=>?_) (fun g a=>?_)))
    ·exact Go 3 Z (Cz [0] a (k_ah _ _ _) Z fun u p a=>Go 3 Z (Cl a [0,1,2]))
    ·exact Go 7 Z (Cl a [0,1,2])
   ·exact Go 13 Z (Cl a [0,1,2])
  ·exact Go 20 Z (Cl a [0,1,2])
 exact Gx 1 Z (TC.le j (Gc 1 Z (Rt h 5 [0,1,2])))
def F_do(n:Nat)(a:Distance)(b:Int):Option Bool:=
  (F_ai n a b).bind fun c=>some (!c)
theorem k_do(n:Nat)(a:Distance)(b:Int)(r:Bool)(h:F_do n a b=some r):
    Csm prog 101 [.agg (Distance.c a),.ptr 0 0] [.cells 108 [.fn (.func 80) [] [.ptr 1 0,.ptr 2 0,.ptr 3 0]],.cells 3 [I b],.cells 155 [.fn (.func 76) [] [.ptr 1 0,.ptr 2 0]],.cells 160 [.fn (.func 79) [] [.ptr 1 0]]] (fun r=>.bool r) r:=by
 refine Qb func101 Z Z Z ?_
 exact G0 10 Z (Cz [1,2,3] h (k_ai _ _ _) Z fun e d h=>Go 5 Z (Rt h 3 [0,1,2,3]))
def F_gc(n:Nat)(b:List Distance)(e:Int)(a:Int):Option (Ctl Int (Ctl Unit Int)):=
  (bif decide (a<(b.length:Int))then(idx b a).bind fun c=>(F_do n c e).bind fun d=>(bif d then some (.done (.done a))else some (.cont (IntKind.i64.wrap (a+1))))else some (.done (.cont ())))
def F_db(n:Nat)(c:List Distance)(d:Int):Option Int:=
  (iter (F_gc n c d) n 0:Option (Ctl Unit Int)).bind fun b=>match b with|.cont a=>(some (-1))|.done a=>some a
theorem k_db(n:Nat)(b:List Distance)(a:Int)(r:Int)(h:F_db n b a=some r):
    Csm prog 151 [.rsl 5 (List.map Distance.c b),.fn (.func 101) [] [.ptr 0 0]] [.cells 108 [.fn (.func 80) [] [.ptr 1 0,.ptr 2 0,.ptr 3 0]],.cells 3 [I a],.cells 155 [.fn (.func 76) [] [.ptr 1 0,.ptr 2 0]],.cells 160 [.fn (.func 79) [] [.ptr 1 0]]] (fun r=>I r) r:=
 QN (el:=fun x=>.agg (Distance.c x)) (g:=fun x=>F_do n x a) func151 Z Z Z runUnderlying58 sizeOf88 (fun _ _ _ _ d e=>Qn d isAgg88 sizeOf88 e Pts.rp Z Z) call101 (fun _ _ h=>k_do _ _ _ _ h) h
def F_dy(n:Nat)(a:List Distance)(b:Int):Option Bool:=
  (F_db n a b).bind fun c=>some (decide (0<=c))
theorem k_dy(n:Nat)(a:List Distance)(b:Int)(r:Bool)(h:F_dy n a b=some r):
    Csm prog 100 [.rsl 5 (List.map Distance.c a),.fn (.func 101) [] [.ptr 0 0]] [.cells 108 [.fn (.func 80) [] [.ptr 1 0,.ptr 2 0,.ptr 3 0]],.cells 3 [I b],.cells 155 [.fn (.func 76) [] [.ptr 1 0,.ptr 2 0]],.cells 160 [.fn (.func 79) [] [.ptr 1 0]]] (fun r=>.bool r) r:=by
 refine Qb func100 Z Z Z ?_
 exact G0 9 Z (Cz [0,1,2,3] h (k_db _ _ _) Z fun e d h=>Go 5 Z (Rt h 4 [0,1,2,3]))
def F_bh(n:Nat)(a:List Distance)(b:Int):Option Bool:=
  (F_dy n a b).bind fun c=>some (!c)
theorem k_bh(n:Nat)(a:List Distance)(b:Int)(r:Bool)(h:F_bh n a b=some r):
    Csm prog 42 [.rsl 5 (List.map Distance.c a),.fn (.func 80) [] [.ptr 0 0,.ptr 1 0,.ptr 2 0]] [.cells 3 [I b],.cells 155 [.fn (.func 76) [] [.ptr 0 0,.ptr 1 0]],.cells 160 [.fn (.func 79) [] [.ptr 0 0]]] (fun r=>.bool r) r:=by
 refine Qb func42 Z Z Z ?_
 exact G0 10 Z (Cz [3,0,1,2] h (k_dy _ _ _) Z fun e d h=>Go 5 Z (Rt h 4 [0,1,2]))
def F_ag(n:Nat)(a:Wave):Option Bool:=
  (F_a n 0 1099511627776 [a.Gun]).bind fun b=>some b
theorem k_ag(n:Nat)(a:Wave)(r:Bool)(h:F_ag n a=some r):
    Csm prog 91 [.agg (Wave.c a)] [] (fun r=>.bool r) r:=by
 refine Qb func91 Z Z Z ?_
 refine G0 10 Z ?_
 refine vH (OpH.lit (xs:=[.tmp 4]) (es:=List.map (Qj .i64) [a.Gun]) QB Z Z Z Z Z ⟨Z,trivial⟩ Z Z) ?_
 exact FE Z (Cb h (k_a _ _ _ _) Z (ls (ls (lo ln))) fun d b h=>Go 4 Z (Rt h 2 []))
def F_du(n:Nat)(a:Wave):Option Bool:=
  (F_ag n a).bind fun b=>some (!b)
theorem k_du(n:Nat)(a:Wave)(r:Bool)(h:F_du n a=some r):
    Csm prog 141 [.agg (Wave.c a),.ptr 0 0] [.cells 173 [.fn (.func 91) [] []]] (fun r=>.bool r) r:=by
 refine Qb func141 Z Z Z ?_
 exact G0 10 Z (Cz [] h (k_ag _ _) Z fun d b h=>Go 5 Z (Rt h 3 [0]))
def F_gj(n:Nat)(b:List Wave)(a:Int):Option (Ctl Int (Ctl Unit Int)):=
  (bif decide (a<(b.length:Int))then(idx b a).bind fun c=>(F_du n c).bind fun d=>(bif d then some (.done (.done a))else some (.cont (IntKind.i64.wrap (a+1))))else some (.done (.cont ())))
def F_ee(n:Nat)(c:List Wave):Option Int:=
  (iter (F_gj n c) n 0:Option (Ctl Unit Int)).bind fun b=>match b with|.cont a=>(some (-1))|.done a=>some a
theorem k_ee(n:Nat)(a:List Wave)(r:Int)(h:F_ee n a=some r):
    Csm prog 196 [.rsl 2 (List.map Wave.c a),.fn (.func 141) [] [.ptr 0 0]] [.cells 173 [.fn (.func 91) [] []]] (fun r=>I r) r:=
 QN (el:=fun x=>.agg (Wave.c x)) (g:=fun x=>F_du n x) func196 Z Z Z runUnderlying59 sizeOf145 (fun _ _ _ _ b d=>Qn b isAgg145 sizeOf145 d Pts.rp Z Z) call141 (fun _ _ h=>k_du _ _ _ h) h
def F_dt(n:Nat)(a:List Wave):Option Bool:=
  (F_ee n a).bind fun b=>some (decide (0<=b))
theorem k_dt(n:Nat)(a:List Wave)(r:Bool)(h:F_dt n a=some r):
    Csm prog 140 [.rsl 2 (List.map Wave.c a),.fn (.func 141) [] [.ptr 0 0]] [.cells 173 [.fn (.func 91) [] []]] (fun r=>.bool r) r:=by
 refine Qb func140 Z Z Z ?_
 exact G0 9 Z (Cz [0] h (k_ee _ _) Z fun d b h=>Go 5 Z (Rt h 4 [0]))
def F_af(n:Nat)(a:List Wave):Option Bool:=
  (F_dt n a).bind fun b=>some (!b)
theorem k_af(n:Nat)(a:List Wave)(r:Bool)(h:F_af n a=some r):
    Csm prog 90 [.rsl 2 (List.map Wave.c a),.fn (.func 91) [] []] [] (fun r=>.bool r) r:=by
 refine Qb func90 Z Z Z ?_
 exact G0 10 Z (Cz [0] h (k_dt _ _) Z fun d b h=>Go 5 Z (Rt h 4 []))
def F_bs(n:Nat)(a:Offence):Option Bool:=
  (bif a.Out then((bif (a.Time==0)then some (a.Laps==0)else some false):Option Bool).bind fun d=>some d else(bif (a.Laps != 0)then((bif (a.Time==0)then(F_a n 1 64 [a.Laps]).bind fun b=>some b else some false):Option Bool).bind fun e=>some e else(F_a n 0 68719476736 [a.Time]).bind fun c=>some c))
theorem k_bs(n:Nat)(e:Offence)(r:Bool)(h:F_bs n e=some r):
    Csm prog 83 [.agg (Offence.c e)] [] (fun r=>.bool r) r:=by
 refine Qb func83 Z Z Z ?_
 refine G0 15 Z (Cn Z h (fun j h=>?_) (fun j h=>?_))
 ·refine Gc 1 Z (Bd h fun f b h=>?_)
  refine Ct f [] [] (fun f=>[(2,.bool f)]) (fun _=>[]) (fun _=>rfl) ?_ (fun env H d=>?_)
  ·refine G0 5 Z (Is 9 b Z (fun k b=>?_) (fun k b=>?_))
   ·exact Go 6 Z (Cl b [])
   ·exact Go 6 Z (Cl b [])
  exact Gx 1 Z (TC.le d (Gc 3 Z (Rt h 2 [])))
 refine Gc 8 Z (Cn Z h (fun l h=>?_) (fun l h=>?_))
 ·refine Gc 1 Z (Bd h fun g a h=>?_)
  refine Ct g [] [] (fun g=>[(2,.bool g)]) (fun _=>[]) (fun _=>rfl) ?_ (fun env H d=>?_)
  ·refine G0 5 Z (Is 21 a Z (fun i a=>?_) (fun i a=>?_))
   ·refine Go 2 Z ?_
    refine vH (OpH.lit (xs:=[.tmp 23]) (es:=List.map (Qj .i64) [e.Laps]) QB Z Z Z Z Z ⟨Z,trivial⟩ Z Z) ?_ (gT Z)
    exact FE Z (Cb a (k_a _ _ _ _) Z (ls (ls (lo ln))) fun q m a=>Go 3 Z (Cl a []))
   ·exact Go 7 Z (Cl a [])
  exact Gx 1 Z (TC.le d (Gc 3 Z (Rt h 2 [])))
 refine Gc 7 Z ?_
 refine vH (OpH.lit (xs:=[.tmp 28]) (es:=List.map (Qj .i64) [e.Time]) QB Z Z Z Z Z ⟨Z,trivial⟩ Z Z) ?_
 exact FE Z (Cb h (k_a _ _ _ _) Z (ls (ls (lo ln))) fun s p h=>Go 4 Z (Rt h 2 []))
def F_cy(n:Nat)(a:Offence):Option Bool:=
  (F_bs n a).bind fun b=>some (!b)
theorem k_cy(n:Nat)(a:Offence)(r:Bool)(h:F_cy n a=some r):
    Csm prog 143 [.agg (Offence.c a),.ptr 0 0] [.cells 163 [.fn (.func 83) [] []]] (fun r=>.bool r) r:=by
 refine Qb func143 Z Z Z ?_
 exact G0 10 Z (Cz [] h (k_bs _ _) Z fun d b h=>Go 5 Z (Rt h 3 [0]))
def F_ft(n:Nat)(b:List Offence)(a:Int):Option (Ctl Int (Ctl Unit Int)):=
  (bif decide (a<(b.length:Int))then(idx b a).bind fun c=>(F_cy n c).bind fun d=>(bif d then some (.done (.done a))else some (.cont (IntKind.i64.wrap (a+1))))else some (.done (.cont ())))
def F_ds(n:Nat)(c:List Offence):Option Int:=
  (iter (F_ft n c) n 0:Option (Ctl Unit Int)).bind fun b=>match b with|.cont a=>(some (-1))|.done a=>some a
theorem k_ds(n:Nat)(a:List Offence)(r:Int)(h:F_ds n a=some r):
    Csm prog 197 [.rsl 4 (List.map Offence.c a),.fn (.func 143) [] [.ptr 0 0]] [.cells 163 [.fn (.func 83) [] []]] (fun r=>I r) r:=
 QN (el:=fun x=>.agg (Offence.c x)) (g:=fun x=>F_cy n x) func197 Z Z Z runUnderlying60 sizeOf149 (fun _ _ _ _ b d=>Qn b isAgg149 sizeOf149 d Pts.rp Z Z) call143 (fun _ _ h=>k_cy _ _ _ h) h
def F_dm(n:Nat)(a:List Offence):Option Bool:=
  (F_ds n a).bind fun b=>some (decide (0<=b))
theorem k_dm(n:Nat)(a:List Offence)(r:Bool)(h:F_dm n a=some r):
    Csm prog 142 [.rsl 4 (List.map Offence.c a),.fn (.func 143) [] [.ptr 0 0]] [.cells 163 [.fn (.func 83) [] []]] (fun r=>.bool r) r:=by
 refine Qb func142 Z Z Z ?_
 exact G0 9 Z (Cz [0] h (k_ds _ _) Z fun d b h=>Go 5 Z (Rt h 4 [0]))
def F_ce(n:Nat)(a:List Offence):Option Bool:=
  (F_dm n a).bind fun b=>some (!b)
theorem k_ce(n:Nat)(a:List Offence)(r:Bool)(h:F_ce n a=some r):
    Csm prog 92 [.rsl 4 (List.map Offence.c a),.fn (.func 83) [] []] [] (fun r=>.bool r) r:=by
 refine Qb func92 Z Z Z ?_
 exact G0 10 Z (Cz [0] h (k_dm _ _) Z fun d b h=>Go 5 Z (Rt h 4 []))
def F_bd(n:Nat)(a:Category):Option Bool:=
  ((F_a n 0 120 [a.From,a.To]).bind fun b=>(bif b then some (decide (a.From<=a.To))else some false):Option Bool).bind fun c=>some c
theorem k_bd(n:Nat)(b:Category)(r:Bool)(h:F_bd n b=some r):
    Csm prog 94 [.agg (Category.c b)] [] (fun r=>.bool r) r:=by
 refine Qb func94 Z Z Z ?_
 refine G0 7 Z (Bd h fun d a h=>?_)
 refine Ct d [] [] (fun d=>[(2,.bool d)]) (fun _=>[]) (fun _=>rfl) ?_ (fun env H e=>?_)
 ·refine G0 5 Z ?_
  refine vH (OpH.lit (xs:=[.tmp 4,.tmp 6]) (es:=List.map (Qj .i64) [b.From,b.To]) QB Z Z Z Z Z ⟨Z,Z,trivial⟩ Z Z) ?_
  refine FE Z (Cb a (k_a _ _ _ _) Z (ls (ls (lo ln))) fun i g a=>Go 1 Z (Is 9 a Z (fun f a=>?_) (fun f a=>?_)))
  ·exact Go 8 Z (Cl a [])
  ·exact Go 8 Z (Cl a [])
 exact Gx 1 Z (TC.le e (Gc 1 Z (Rt h 2 [])))
def F_dw(n:Nat)(a:Category):Option Bool:=
  (F_bd n a).bind fun b=>some (!b)
theorem k_dw(n:Nat)(a:Category)(r:Bool)(h:F_dw n a=some r):
    Csm prog 145 [.agg (Category.c a),.ptr 0 0] [.cells 176 [.fn (.func 94) [] []]] (fun r=>.bool r) r:=by
 refine Qb func145 Z Z Z ?_
 exact G0 10 Z (Cz [] h (k_bd _ _) Z fun d b h=>Go 5 Z (Rt h 3 [0]))
def F_gf(n:Nat)(b:List Category)(a:Int):Option (Ctl Int (Ctl Unit Int)):=
  (bif decide (a<(b.length:Int))then(idx b a).bind fun c=>(F_dw n c).bind fun d=>(bif d then some (.done (.done a))else some (.cont (IntKind.i64.wrap (a+1))))else some (.done (.cont ())))
def F_cm(n:Nat)(c:List Category):Option Int:=
  (iter (F_gf n c) n 0:Option (Ctl Unit Int)).bind fun b=>match b with|.cont a=>(some (-1))|.done a=>some a
theorem k_cm(n:Nat)(a:List Category)(r:Int)(h:F_cm n a=some r):
    Csm prog 198 [.rsl 3 (List.map Category.c a),.fn (.func 145) [] [.ptr 0 0]] [.cells 176 [.fn (.func 94) [] []]] (fun r=>I r) r:=
 QN (el:=fun x=>.agg (Category.c x)) (g:=fun x=>F_dw n x) func198 Z Z Z runUnderlying61 sizeOf153 (fun _ _ _ _ b d=>Qn b isAgg153 sizeOf153 d Pts.rp Z Z) call145 (fun _ _ h=>k_dw _ _ _ h) h
def F_cz(n:Nat)(a:List Category):Option Bool:=
  (F_cm n a).bind fun b=>some (decide (0<=b))
theorem k_cz(n:Nat)(a:List Category)(r:Bool)(h:F_cz n a=some r):
    Csm prog 144 [.rsl 3 (List.map Category.c a),.fn (.func 145) [] [.ptr 0 0]] [.cells 176 [.fn (.func 94) [] []]] (fun r=>.bool r) r:=by
 refine Qb func144 Z Z Z ?_
 exact G0 9 Z (Cz [0] h (k_cm _ _) Z fun d b h=>Go 5 Z (Rt h 4 [0]))
def F_bg(n:Nat)(a:List Category):Option Bool:=
  (F_cz n a).bind fun b=>some (!b)
theorem k_bg(n:Nat)(a:List Category)(r:Bool)(h:F_bg n a=some r):
    Csm prog 93 [.rsl 3 (List.map Category.c a),.fn (.func 94) [] []] [] (fun r=>.bool r) r:=by
 refine Qb func93 Z Z Z ?_
 exact G0 10 Z (Cz [0] h (k_cz _ _) Z fun d b h=>Go 5 Z (Rt h 4 []))
def F_bf(n:Nat)(a:Prize)(b:Course):Option Bool:=
  ((F_a n 0 (IntKind.i64.wrap ((b.Distances.length:Int)-1)) [a.Distance]).bind fun c=>(bif c then(F_a n (-1) (IntKind.i64.wrap ((b.Categories.length:Int)-1)) [a.Category]).bind fun d=>(bif d then(F_a n 1 4000 [a.Rank]).bind fun e=>(bif e then(F_a n 1 1125899906842624 [a.Amount]).bind fun f=>some f else some false)else some false)else some false):Option Bool).bind fun g=>some g
theorem k_bf(n:Nat)(b:Prize)(i:Course)(r:Bool)(h:F_bf n b i=some r):
    Csm prog 84 [.agg (Prize.c b),.ptr 0 0] [.cells 67 (Course.c i)] (fun r=>.bool r) r:=by
 refine Qb func84 Z Z Z ?_
 refine G0 7 Z (Bd h fun d a h=>?_)
 refine Ct d [0] [] (fun d=>[(3,.bool d)]) (fun _=>[]) (fun _=>rfl) ?_ (fun env H j=>?_)
 ·refine G0 3 Z (Lm Z (Go 3 Z ?_))
  refine vH (OpH.lit (xs:=[.tmp 9]) (es:=List.map (Qj .i64) [b.Distance]) QB Z Z Z Z Z ⟨Z,trivial⟩ Z Z) ?_
  refine FE Z (Cb a (k_a _ _ _ _) Z (ls (ls (lo ln))) fun q k a=>Go 1 Z (Is 12 a Z (fun e a=>?_) (fun e a=>?_)))
  ·refine Go 2 Z (Lm Z (Go 3 Z ?_))
   refine vH (OpH.lit (xs:=[.tmp 18]) (es:=List.map (Qj .i64) [b.Category]) QB Z Z Z Z Z ⟨Z,trivial⟩ Z Z) ?_ (gT Z)
   refine FE Z (Cb a (k_a _ _ _ _) Z (ls (ls (lo ln))) fun s l a=>Go 2 Z (Is 22 a Z (fun f a=>?_) (fun f a=>?_)))
   ·refine Go 2 Z ?_
    refine vH (OpH.lit (xs:=[.tmp 24]) (es:=List.map (Qj .i64) [b.Rank]) QB Z Z Z Z Z ⟨Z,trivial⟩ Z Z) ?_ (gT Z)
    refine FE Z (Cb a (k_a _ _ _ _) Z (ls (ls (lo ln))) fun t m a=>Go 2 Z (Is 28 a Z (fun g a=>?_) (fun g a=>?_)))
    ·refine Go 2 Z ?_
     refine vH (OpH.lit (xs:=[.tmp 30]) (es:=List.map (Qj .i64) [b.Amount]) QB Z Z Z Z Z ⟨Z,trivial⟩ Z Z) ?_ (gT Z)
     exact FE Z (Cb a (k_a _ _ _ _) Z (ls (ls (lo ln))) fun u p a=>Go 3 Z (Cl a [0]))
    ·exact Go 7 Z (Cl a [0])
   ·exact Go 13 Z (Cl a [0])
  ·exact Go 23 Z (Cl a [0])
 exact Gx 1 Z (TC.le j (Gc 1 Z (Rt h 3 [0])))
def F_df(n:Nat)(a:Prize)(b:Course):Option Bool:=
  (F_bf n a b).bind fun c=>some (!c)
theorem k_df(n:Nat)(a:Prize)(b:Course)(r:Bool)(h:F_df n a b=some r):
    Csm prog 147 [.agg (Prize.c a),.ptr 0 0] [.cells 166 [.fn (.func 84) [] [.ptr 1 0]],.cells 67 (Course.c b)] (fun r=>.bool r) r:=by
 refine Qb func147 Z Z Z ?_
 exact G0 10 Z (Cz [1] h (k_bf _ _ _) Z fun e d h=>Go 5 Z (Rt h 3 [0,1]))
def F_gb(n:Nat)(b:List Prize)(e:Course)(a:Int):Option (Ctl Int (Ctl Unit Int)):=
  (bif decide (a<(b.length:Int))then(idx b a).bind fun c=>(F_df n c e).bind fun d=>(bif d then some (.done (.done a))else some (.cont (IntKind.i64.wrap (a+1))))else some (.done (.cont ())))
def F_dp(n:Nat)(c:List Prize)(d:Course):Option Int:=
  (iter (F_gb n c d) n 0:Option (Ctl Unit Int)).bind fun b=>match b with|.cont a=>(some (-1))|.done a=>some a
theorem k_dp(n:Nat)(b:List Prize)(a:Course)(r:Int)(h:F_dp n b a=some r):
    Csm prog 199 [.rsl 4 (List.map Prize.c b),.fn (.func 147) [] [.ptr 0 0]] [.cells 166 [.fn (.func 84) [] [.ptr 1 0]],.cells 67 (Course.c a)] (fun r=>I r) r:=
 QN (el:=fun x=>.agg (Prize.c x)) (g:=fun x=>F_df n x a) func199 Z Z Z runUnderlying62 sizeOf165 (fun _ _ _ _ d e=>Qn d isAgg165 sizeOf165 e Pts.rp Z Z) call147 (fun _ _ h=>k_df _ _ _ _ h) h
def F_ep(n:Nat)(a:List Prize)(b:Course):Option Bool:=
  (F_dp n a b).bind fun c=>some (decide (0<=c))
theorem k_ep(n:Nat)(a:List Prize)(b:Course)(r:Bool)(h:F_ep n a b=some r):
    Csm prog 146 [.rsl 4 (List.map Prize.c a),.fn (.func 147) [] [.ptr 0 0]] [.cells 166 [.fn (.func 84) [] [.ptr 1 0]],.cells 67 (Course.c b)] (fun r=>.bool r) r:=by
 refine Qb func146 Z Z Z ?_
 exact G0 9 Z (Cz [0,1] h (k_dp _ _ _) Z fun e d h=>Go 5 Z (Rt h 4 [0,1]))
def F_bl(n:Nat)(a:List Prize)(b:Course):Option Bool:=
  (F_ep n a b).bind fun c=>some (!c)
theorem k_bl(n:Nat)(a:List Prize)(b:Course)(r:Bool)(h:F_bl n a b=some r):
    Csm prog 95 [.rsl 4 (List.map Prize.c a),.fn (.func 84) [] [.ptr 0 0]] [.cells 67 (Course.c b)] (fun r=>.bool r) r:=by
 refine Qb func95 Z Z Z ?_
 exact G0 10 Z (Cz [1,0] h (k_ep _ _ _) Z fun e d h=>Go 5 Z (Rt h 4 [0]))
def F_dr(n:Nat)(a:Prize):Option Unit:=
  some ()
theorem k_dr(n:Nat)(a:Prize)(r:Unit)(h:F_dr n a=some r):
    C prog 97 [.agg (Prize.c a)] [] (RQ (fun _=>.agg [I a.Distance,I a.Category,I a.Rank]) (fun _=>[.cells 180 [I a.Distance,I a.Category,I a.Rank]]) r):=by
 refine Qb func97 Z Z Z ?_
 refine G0 19 Z ?_
 obtain rfl:=Oi h
 exact Rx [1] [2] Z (Yz Z (Qp isAgg180 sizeOf180 Z Z Z)) ⟨Z,Z⟩
def F_fl(n:Nat)(c:List Prize)(a:(List (typing_place×Bool))×Int):Option (Ctl ((List (typing_place×Bool))×Int) (List (typing_place×Bool))):=
  (bif decide (a.2<(c.length:Int))then(idx c a.2).bind fun b=>(F_dr n b).bind fun e=>(some (Q8 a.1 ({distance:=b.Distance,category:=b.Category,rank:=b.Rank:typing_place}) true)).bind fun d=>some (.cont (d,IntKind.i64.wrap (a.2+1)))else some (.done a.1))
def F_be(n:Nat)(a:List Prize):Option Bool:=
  (iter (F_fl n a) n ([],0):Option (List (typing_place×Bool))).bind fun b=>some ((b.length:Int)==(a.length:Int))
theorem k_be(n:Nat)(m:List Prize)(r:Bool)(h:F_be n m=some r):
    Csm prog 96 [.rsl 4 (List.map Prize.c m),.fn (.func 97) [] []] [] (fun r=>.bool r) r:=by
 refine Qb func96 Z Z Z ?_
 refine G0 7 Z ?_
 refine vH YJ ?_
 refine FE Z (Go 7 Z (Lm Z (Go 3 Z (Bd h fun b p h=>?_))))
 refine Ct b [0] [0,5] (fun _=>[]) (fun b=>[(0,.map (Ya (fun x=>A.agg (typing_place.c x)) A.bool b))]) (fun _=>rfl) ?_ (fun env H q=>?_)
 ·refine G0 1 Z ?_
  refine Lp [0] [0,1,5,9,10] (fun d=>[(11,I d.2)]) (fun d=>[(0,.map (Ya (fun x=>A.agg (typing_place.c x)) A.bool d.1))]) p (fun _=>rfl) (Lr [0]) fun d t a f=>?_
  refine G0 6 Z (CnS Z a (fun g a=>?_) (fun g a=>?_))
  ·refine Gc 2 Z (QI a ?_)
   obtain rfl:=Oj f a
   exact Gx 1 Z (Q7 (Lr [0]))
  refine Gc 6 Z (Bd a fun e i a=>Iz i Z (Go 9 Z (Cd [] a (k_dr _ _) Z fun u s a=>FE Z (Bd a fun w j a=>?_))))
  refine vU (Y7 (ev:=A.bool) (k:=({distance:=e.Distance,category:=e.Category,rank:=e.Rank:typing_place})) (v:=true) (l:=d.1) Qlj j Z underlying219) ?_
  exact FE Z (Go 7 Z (QH a (Lr [0])))
 refine Gx 1 Z (TC.le q (Gc 3 Z ?_))
 refine vX (I (b.length:Int)) (Qes (l:=b) underlying219 Z) ?_
 exact Go 1 Z (Lm Z (Go 5 Z (Rt h 4 [])))
def F_cg(n:Nat)(a:Course):Option Bool:=
  ((F_ar n a.Mats).bind fun b=>(bif b then(F_ba n a.Legs (IntKind.i64.wrap ((a.Mats.length:Int)-1))).bind fun c=>(bif c then(F_bn n a.Legs).bind fun d=>(bif d then(F_bh n a.Distances (IntKind.i64.wrap ((a.Mats.length:Int)-1))).bind fun e=>(bif e then(F_af n a.Waves).bind fun f=>(bif f then(F_ce n a.Offences).bind fun g=>(bif g then(F_bg n a.Categories).bind fun h=>(bif h then(F_bl n a.Prizes a).bind fun i=>(bif i then(F_be n a.Prizes).bind fun j=>(bif j then(F_a n 0 16 [a.Faults.Misses,a.Faults.Strays]).bind fun k=>(bif k then(F_a n 0 4294967296 [a.Faults.Window,a.Faults.Residual]).bind fun l=>(bif l then(F_a n 0 100000 [a.Faults.Drift]).bind fun m=>(bif m then(F_a n 0 1125899906842624 [a.Fee]).bind fun p=>(bif p then(F_a n 0 1099511627776 [a.Deadline]).bind fun q=>some q else some false)else some false)else some false)else some false)else some false)else some false)else some false)else some false)else some false)else some false)else some false)else some false)else some false):Option Bool).bind fun r=>some r
theorem k_cg(n:Nat)(b:Course)(r:Bool)(h:F_cg n b=some r):
    Csm prog 40 [.agg (Course.c b)] [] (fun r=>.bool r) r:=by
 refine Qb func40 Z Z Z ?_
 refine G0 10 Z (Lm Z (Go 55 Z (Bd h fun d a h=>?_)))
 refine Ct d [] [] (fun d=>[(2,.bool d)]) (fun _=>[]) (fun _=>rfl) ?_ (fun env H w=>?_)
 ·refine G0 3 Z (Cz [] a (k_ar _ _) Z fun R x a=>Go 1 Z (Is 25 a Z (fun e a=>?_) (fun e a=>?_)))
  ·refine Go 3 Z (Cd [1] a (k_ba _ _ _) Z fun T y a=>FE Z (Go 2 Z (Is 31 a Z (fun f a=>?_) (fun f a=>?_))))
   ·refine Go 2 Z (Cz [] a (k_bn _ _) Z fun V z a=>Go 2 Z (Is 36 a Z (fun g a=>?_) (fun g a=>?_)))
    ·refine Go 3 Z (Cz [1,2,3] a (k_bh _ _ _) Z fun W B a=>Go 2 Z (Is 42 a Z (fun i a=>?_) (fun i a=>?_)))
     ·refine Go 2 Z (Cz [] a (k_af _ _) Z fun X E a=>Go 2 Z (Is 47 a Z (fun j a=>?_) (fun j a=>?_)))
      ·refine Go 3 Z (Cz [] a (k_ce _ _) Z fun Y F a=>Go 2 Z (Is 53 a Z (fun k a=>?_) (fun k a=>?_)))
       ·refine Go 2 Z (Cz [] a (k_bg _ _) Z fun aa G a=>Go 2 Z (Is 58 a Z (fun l a=>?_) (fun l a=>?_)))
        ·refine Go 3 Z (Cz [0] a (k_bl _ _ _) Z fun ab J a=>Go 2 Z (Is 64 a Z (fun m a=>?_) (fun m a=>?_)))
         ·refine Go 2 Z (Cz [] a (k_be _ _) Z fun ac L a=>Go 2 Z (Is 69 a Z (fun p a=>?_) (fun p a=>?_)))
          ·refine Go 4 Z ?_
           refine vH (OpH.lit (xs:=[.tmp 71,.tmp 73]) (es:=List.map (Qj .i64) [b.Faults.Misses,b.Faults.Strays]) QB Z Z Z Z Z ⟨Z,Z,trivial⟩ Z Z) ?_ (gT Z)
           refine FE Z (Cb a (k_a _ _ _ _) Z (ls (ls (lo ln))) fun ad M a=>Go 2 Z (Is 77 a Z (fun q a=>?_) (fun q a=>?_)))
           ·refine Go 4 Z ?_
            refine vH (OpH.lit (xs:=[.tmp 79,.tmp 81]) (es:=List.map (Qj .i64) [b.Faults.Window,b.Faults.Residual]) QB Z Z Z Z Z ⟨Z,Z,trivial⟩ Z Z) ?_ (gT Z)
            refine FE Z (Cb a (k_a _ _ _ _) Z (ls (ls (lo ln))) fun ae N a=>Go 2 Z (Is 85 a Z (fun s a=>?_) (fun s a=>?_)))
            ·refine Go 2 Z ?_
             refine vH (OpH.lit (xs:=[.tmp 87]) (es:=List.map (Qj .i64) [b.Faults.Drift]) QB Z Z Z Z Z ⟨Z,trivial⟩ Z Z) ?_ (gT Z)
             refine FE Z (Cb a (k_a _ _ _ _) Z (ls (ls (lo ln))) fun af O a=>Go 2 Z (Is 91 a Z (fun t a=>?_) (fun t a=>?_)))
             ·refine Go 2 Z ?_
              refine vH (OpH.lit (xs:=[.tmp 93]) (es:=List.map (Qj .i64) [b.Fee]) QB Z Z Z Z Z ⟨Z,trivial⟩ Z Z) ?_ (gT Z)
              refine FE Z (Cb a (k_a _ _ _ _) Z (ls (ls (lo ln))) fun ag P a=>Go 2 Z (Is 97 a Z (fun u a=>?_) (fun u a=>?_)))
              ·refine Go 2 Z ?_
               refine vH (OpH.lit (xs:=[.tmp 99]) (es:=List.map (Qj .i64) [b.Deadline]) QB Z Z Z Z Z ⟨Z,trivial⟩ Z Z) ?_ (gT Z)
               exact FE Z (Cb a (k_a _ _ _ _) Z (ls (ls (lo ln))) fun ah Q a=>Go 3 Z (Cl a []))
              ·exact Go 7 Z (Cl a [])
             ·exact Go 13 Z (Cl a [])
            ·exact Go 19 Z (Cl a [])
           ·exact Go 27 Z (Cl a [])
          ·exact Go 35 Z (Cl a [])
         ·exact Go 40 Z (Cl a [])
        ·exact Go 46 Z (Cl a [])
       ·exact Go 51 Z (Cl a [])
      ·exact Go 57 Z (Cl a [])
     ·exact Go 62 Z (Cl a [])
    ·exact Go 68 Z (Cl a [])
   ·exact Go 73 Z (Cl a [])
  ·exact Go 79 Z (Cl a [])
 exact Gx 1 Z (TC.le w (Gc 1 Z (Rt h 2 [])))
def F_gh(n:Nat)(b:List Step)(a:(List typing_form)×Int):Option (Ctl ((List typing_form)×Int) (List typing_form)):=
  (bif decide (a.2<(b.length:Int))then(idx b a.2).bind fun c=>(app a.1 [typing_form.ctyping_step ({Step:=c:typing_step})]).bind fun d=>some (.cont (d,IntKind.i64.wrap (a.2+1)))else some (.done a.1))
def F_t(n:Nat)(a:List Step):Option (List typing_form):=
  (iter (F_gh n a) n ([],0):Option (List typing_form)).bind fun b=>some b
theorem k_t(n:Nat)(q:List Step)(r:List typing_form)(h:F_t n q=some r):
    C prog 99 [.rsl 8 (List.map Step.enc q)] [] (RQ (fun r=>.osl 0 0 r.length 1) (fun r=>[.row 226 1 (List.map typing_form.enc r)]) r):=by
 refine Qb func99 Z Z Z ?_
 refine G0 9 Z (Lm Z (Go 3 Z (Bd h fun d w h=>?_)))
 refine Ct d [0] [] (fun d=>[(2,.osl 0 0 d.length 1)]) (fun d=>[(0,.row 226 1 (List.map typing_form.enc d))]) (fun _=>rfl) ?_ (fun env H u=>?_)
 ·refine G0 1 Z ?_
  refine Lp [0] [5,6] (fun b=>[(2,.osl 0 0 b.1.length 1),(7,I b.2)]) (fun b=>[(0,.row 226 1 (List.map typing_form.enc b.1))]) w (fun _=>rfl) ?_ ?_
  ·refine Le.trans (Le.phantom (s:=2) (k:=1) (t:=226) (Nat.le_of_ble_eq_true Z) Z) ?_
   exact Lr [0]
  intro b x a g
  refine G0 6 Z (CnS Z a (fun j a=>?_) (fun j a=>?_))
  ·refine Gc 2 Z (QI a ?_)
   obtain rfl:=Oj g a
   exact Gx 1 Z (Q7 (Lr [0]))
  refine Gc 6 Z (Bd a fun f l a=>IzE l (Yv f) Z (Go 9 Z ?_))
  refine vX (.iface 229 (.agg (typing_step.c ({Step:=f:typing_step})))) (Qak Z runUnderlying229 (by intro m;nofun) Z) ?_
  refine vH (OpH.lit (xs:=[.tmp 14]) (es:=List.map typing_form.enc [typing_form.ctyping_step ({Step:=f:typing_step})]) QbZ Z Z Z Z Z ⟨Z,trivial⟩ Z Z) ?_
  refine FE Z (Bd a fun y p a=>?_)
  refine vH (Ym (e:=typing_form.enc) p QbZ runUnderlying183 (QaR (i:=2))) ?_
  exact FE Z (Go 8 Z (QH a (Lr [3])))
 exact Gx 1 Z (TC.le u (Gc 7 Z (Rt h 2 [0])))
def F_v(n:Nat)(a:typing_cond):Option Bool:=
  ((bif (a.Cond.Kind==0)then(bif (a.Cond.Var==0)then(bif (a.Cond.N==0)then some ((a.Cond.Parts.length:Int)==0)else some false)else some false)else some false):Option Bool).bind fun b=>some b
theorem k_v(n:Nat)(d:typing_cond)(r:Bool)(h:F_v n d=some r):
    Csm prog 200 [.agg (typing_cond.c ({Cond:=d.Cond:typing_cond}))] [] (fun r=>.bool r) r:=by
 refine Qb func200 Z Z Z ?_
 refine G0 7 Z (Bd h fun b a h=>?_)
 refine Ct b [] [] (fun b=>[(2,.bool b)]) (fun _=>[]) (fun _=>rfl) ?_ (fun env H e=>?_)
 ·refine G0 6 Z (Is 7 a Z (fun f a=>?_) (fun f a=>?_))
  ·refine Go 6 Z (Is 13 a Z (fun g a=>?_) (fun g a=>?_))
   ·refine Go 6 Z (Is 19 a Z (fun i a=>?_) (fun i a=>?_))
    ·exact Go 3 Z (Lm Z (Go 4 Z (Cl a [])))
    ·exact Go 8 Z (Cl a [])
   ·exact Go 14 Z (Cl a [])
  ·exact Go 20 Z (Cl a [])
 exact Gx 1 Z (TC.le e (Gc 1 Z (Rt h 2 [])))
def F_q(n:Nat)(a:typing_step):Option (List typing_form):=
  (F_t n a.Step.Then).bind fun b=>(F_t n a.Step.Else).bind fun c=>(app b c).bind fun d=>some d
theorem k_q(n:Nat)(a:typing_step)(r:List typing_form)(h:F_q n a=some r):
    C prog 218 [.agg (typing_step.c a)] [] (RQ (fun r=>.osl 0 0 r.length 1) (fun r=>[.row 226 1 (List.map typing_form.enc r)]) r):=by
 refine Qb func218 Z Z Z ?_
 refine G0 7 Z (DAs 7 3 [0,0,0,1,3,3,3] (by kernel_rfl) (Da 3 Z ?_))
 obtain⟨b,d,h⟩:=bnd h
 refine DA.op (x:=.osl 1 0 b.length 1) (H1:=[.cells 229 (typing_step.c a),.row 226 1 (List.map typing_form.enc b)]) ?_ ?_
 ·refine Qz [] (OpC.fn call99 Z Z Z) (k_t _ _ _ d) ?_
  rintro _ _ ⟨rfl,rfl⟩
  exact FE Z Wp
 refine Db 2 Z ?_
 refine DB.wo2 (x:=.rsl 8 (List.map Step.enc a.Step.Else)) (Ld isAgg63 Z Wp) (Ld isAgg63 Z Wp) ?_
 refine DB.done Z (Cd [] h (k_t _ _) Z fun j g h=>FE Z (Bd h fun k f h=>?_))
 refine vH (Ym (e:=typing_form.enc) f QbZ runUnderlying183 (QaR (i:=2))) ?_
 exact FE Z (Go 4 Z (Rt h 2 [3]))
def F_fr(n:Nat)(b:List Cond)(a:(List typing_form)×Int):Option (Ctl ((List typing_form)×Int) (List typing_form)):=
  (bif decide (a.2<(b.length:Int))then(idx b a.2).bind fun c=>(app a.1 [typing_form.ctyping_cond ({Cond:=c:typing_cond})]).bind fun d=>some (.cont (d,IntKind.i64.wrap (a.2+1)))else some (.done a.1))
def F_aj(n:Nat)(a:List Cond):Option (List typing_form):=
  (iter (F_fr n a) n ([],0):Option (List typing_form)).bind fun b=>some b
theorem k_aj(n:Nat)(q:List Cond)(r:List typing_form)(h:F_aj n q=some r):
    C prog 226 [.rsl 4 (List.map Cond.enc q)] [] (RQ (fun r=>.osl 0 0 r.length 1) (fun r=>[.row 226 1 (List.map typing_form.enc r)]) r):=by
 refine Qb func226 Z Z Z ?_
 refine G0 9 Z (Lm Z (Go 3 Z (Bd h fun d w h=>?_)))
 refine Ct d [0] [] (fun d=>[(2,.osl 0 0 d.length 1)]) (fun d=>[(0,.row 226 1 (List.map typing_form.enc d))]) (fun _=>rfl) ?_ (fun env H u=>?_)
 ·refine G0 1 Z ?_
  refine Lp [0] [5,6] (fun b=>[(2,.osl 0 0 b.1.length 1),(7,I b.2)]) (fun b=>[(0,.row 226 1 (List.map typing_form.enc b.1))]) w (fun _=>rfl) ?_ ?_
  ·refine Le.trans (Le.phantom (s:=2) (k:=1) (t:=226) (Nat.le_of_ble_eq_true Z) Z) ?_
   exact Lr [0]
  intro b x a g
  refine G0 6 Z (CnS Z a (fun j a=>?_) (fun j a=>?_))
  ·refine Gc 2 Z (QI a ?_)
   obtain rfl:=Oj g a
   exact Gx 1 Z (Q7 (Lr [0]))
  refine Gc 6 Z (Bd a fun f l a=>IzE l (QaM f) Z (Go 9 Z ?_))
  refine vX (.iface 281 (.agg (typing_cond.c ({Cond:=f:typing_cond})))) (Qak Z runUnderlying281 (by intro m;nofun) Z) ?_
  refine vH (OpH.lit (xs:=[.tmp 14]) (es:=List.map typing_form.enc [typing_form.ctyping_cond ({Cond:=f:typing_cond})]) QbZ Z Z Z Z Z ⟨Z,trivial⟩ Z Z) ?_
  refine FE Z (Bd a fun y p a=>?_)
  refine vH (Ym (e:=typing_form.enc) p QbZ runUnderlying183 (QaR (i:=2))) ?_
  exact FE Z (Go 8 Z (QH a (Lr [3])))
 exact Gx 1 Z (TC.le u (Gc 7 Z (Rt h 2 [0])))
def F_n(n:Nat)(a:typing_cond):Option (List typing_form):=
  (F_aj n a.Cond.Parts).bind fun b=>some b
theorem k_n(n:Nat)(a:typing_cond)(r:List typing_form)(h:F_n n a=some r):
    C prog 217 [.agg (typing_cond.c ({Cond:=a.Cond:typing_cond}))] [] (RQ (fun r=>.osl 0 0 r.length 1) (fun r=>[.row 226 1 (List.map typing_form.enc r)]) r):=by
 refine Qb func217 Z Z Z ?_
 exact G0 11 Z (Cd [] h (k_aj _ _) Z fun d b h=>FE Z (Go 4 Z (Rt h 2 [1])))
def F_dv(n:Nat)(k:List typing_form)(l:Int)(rec91:(List typing_form)->Int->typing_count->Option (typing_count×Bool))(a:typing_count×Int):Option (Ctl (typing_count×Int) (Ctl typing_count (typing_count×Bool))):=
  (bif decide (a.2<(k.length:Int))then(idx k a.2).bind fun m=>typing_form.elim m (fun e=>((F_v n ({Cond:=e.Step.Cond:typing_cond})).bind fun p=>(bif (!p)then(rec91 [typing_form.ctyping_cond ({Cond:=e.Step.Cond:typing_cond})] 0 ({steps:=IntKind.i64.wrap (a.1.steps+1),conds:=a.1.conds:typing_count})).bind fun f=>some (f.1,(!f.2))else some ({steps:=IntKind.i64.wrap (a.1.steps+1),conds:=a.1.conds:typing_count},false)):Option (typing_count×Bool)).bind fun b=>(bif b.2 then some (.done (.done (b.1,false)))else((bif decide (64<b.1.steps)then some (b.1,true)else(bif decide (256<b.1.conds)then some (b.1,true)else(F_q n e).bind fun i=>(rec91 i (IntKind.i64.wrap (l+1)) b.1).bind fun g=>some (g.1,(!g.2)))):Option (typing_count×Bool)).bind fun c=>(bif c.2 then some (.done (.done (c.1,false)))else some (.cont (c.1,IntKind.i64.wrap (a.2+1)))))) (fun q=>((bif decide (64<a.1.steps)then some ({steps:=a.1.steps,conds:=IntKind.i64.wrap (a.1.conds+1):typing_count},true)else(bif decide (256<(IntKind.i64.wrap (a.1.conds+1)))then some ({steps:=a.1.steps,conds:=IntKind.i64.wrap (a.1.conds+1):typing_count},true)else(F_n n ({Cond:=q.Cond:typing_cond})).bind fun j=>(rec91 j (IntKind.i64.wrap (l+1)) ({steps:=a.1.steps,conds:=IntKind.i64.wrap (a.1.conds+1):typing_count})).bind fun h=>some (h.1,(!h.2)))):Option (typing_count×Bool)).bind fun d=>(bif d.2 then some (.done (.done (d.1,false)))else some (.cont (d.1,IntKind.i64.wrap (a.2+1)))))else some (.done (.cont a.1)))
def B_c(rec91:(List typing_form)->Int->typing_count->Option (typing_count×Bool))(n:Nat)(b:List typing_form)(c:Int)(d:typing_count):Option (typing_count×Bool):=
  ((bif decide (0<(b.length:Int))then some (decide (16<c))else some false):Option Bool).bind fun b2=>(bif b2 then some (d,false)else(iter (F_dv n b c rec91) n (d,0):Option (Ctl typing_count (typing_count×Bool))).bind fun e=>match e with|.cont a=>(some (a,true))|.done a=>some a)
theorem Qar(rec91:(List typing_form)->Int->typing_count->Option (typing_count×Bool))(i:∀(p:List typing_form) (x:Int) (y:typing_count) (r:typing_count×Bool),rec91 p x y=some r->C prog 148 [.ptr 0 0,.osl 1 0 p.length 1,I x] [.cells 222 (typing_count.c y),.row 226 1 (List.map typing_form.enc p)] (RQ (fun r=>.bool r.2) (fun r=>[.cells 222 (typing_count.c r.1),.row 226 1 (List.map typing_form.enc p)]) r))(n:Nat)(p:List typing_form)(x:Int)(y:typing_count)(r:typing_count×Bool)(h:B_c rec91 n p x y=some r):
    C prog 148 [.ptr 0 0,.osl 1 0 p.length 1,I x] [.cells 222 (typing_count.c y),.row 226 1 (List.map typing_form.enc p)] (RQ (fun r=>.bool r.2) (fun r=>[.cells 222 (typing_count.c r.1),.row 226 1 (List.map typing_form.enc p)]) r):=by
 refine Qb func148 Z Z Z ?_
 refine G0 7 Z (Bd h fun b2 B h=>?_)
 refine Ct b2 [0,1] [0,1,2] (fun b2=>[(18,.bool b2)]) (fun _=>[]) (fun _=>rfl) ?_ (fun env H f=>?_)
 ·refine G0 5 Z (Is 15 B Z (fun X B=>?_) (fun X B=>?_))
  ·exact Go 4 Z (Cl B [0,1])
  ·exact Go 4 Z (Cl B [0,1])
 refine Gx 1 Z (TC.le f (Cn Z h (fun Y h=>?_) (fun Y h=>?_)))
 ·exact Gc 7 Z (Rt h 6 [0,1])
 refine Gc 10 Z (Bd h fun aa ab h=>?_)
 refine CtE (b:=aa) [0,1] [] (fun _=>[]) (fun E=>[(0,.cells 222 (typing_count.c E))]) (fun _=>rfl) ?_ (fun E env H ac f=>?_)
 ·refine G0 1 Z ?_
  refine Lp [0,1] [0,2,19,20] (fun t=>[(21,I t.2)]) (fun t=>[(0,.cells 222 (typing_count.c t.1))]) ab (fun _=>rfl) (Lr [0,1]) fun t am a q=>?_
  refine G0 6 Z (CnS Z a (fun V a=>?_) (fun V a=>?_))
  ·refine Gc 2 Z (QI a ?_)
   obtain rfl:=Oj q a
   exact Gx 1 Z (Qw Z (Lr [0,1]))
  refine Gc 6 Z (Bd a fun T F a=>?_)
  refine vX (.ptr 1 (Int.toNat t.2*1)) (QZ F Z runUnderlying183 sizeOf226) ?_
  refine vX (typing_form.val T) (OpV.load Z isAgg226 Z (QD F)) ?_
  refine Go 12 Z ?_
  rcases Y0 T with⟨l,hE90⟩|⟨w,hE92⟩
  ·have a:=YS hE90 a
   refine WO.le (Q3 (s:=8) (a':=.iface 229 (.agg (typing_step.c l))) Z (congrArg typing_form.val hE90)) ?_
   refine WO.le (Q3 (s:=24) (a':=.iface 229 (.agg (typing_step.c l))) Z (congrArg typing_form.val hE90)) ?_
   refine WO.le (Q3 (s:=25) (a':=.iface 229 (.agg (typing_step.c l))) Z (congrArg typing_form.val hE90)) ?_
   refine vX (.tup [.agg [I 0,I 0,I 0,.rsl 4 (List.map Cond.enc [])],.bool false]) (QfP (z:=(.agg [I 0,I 0,I 0,.rsl 4 (List.map Cond.enc [])])) runUnderlying281 (by intro m;nofun) Z zeroValue281 (zrC Z)) ?_
   refine Go 7 Z ?_
   refine vX (.tup [.agg (typing_step.c l),.bool true]) (Qbh runUnderlying229 (by intro m;nofun)) ?_
   refine Go 34 Z (Bd a fun u g a=>?_)
   refine Ct u [0,1] [0,2,8,19,20,21] (fun u=>[(60,.bool u.2)]) (fun u=>[(0,.cells 222 (typing_count.c u.1))]) (fun _=>rfl) ?_ (fun env H f=>?_)
   ·refine G0 2 Z (Cz [] g (k_v _ _) Z fun an ag g=>Go 2 Z (Is 53 g Z (fun W g=>?_) (fun W g=>?_)))
    ·refine Go 2 Z ?_
     refine vX (.iface 281 (.agg (typing_cond.c ({Cond:=l.Step.Cond:typing_cond})))) (Qak Z runUnderlying281 (by intro m;nofun) Z) ?_ (gT Z)
     refine vH (OpH.lit (xs:=[.tmp 56]) (es:=List.map typing_form.enc [typing_form.ctyping_cond ({Cond:=l.Step.Cond:typing_cond})]) QbZ Z Z Z Z Z ⟨Z,trivial⟩ Z Z) ?_ (gT Z)
     exact FE Z (Cd [0,4] g (i _ _ _) Z fun ah ad g=>FE Z (Go 3 Z (Cl g [0,1])))
    ·exact Go 8 Z (Cl g [0,1])
   refine Gx 1 Z (TC.le f (Cn Z a (fun G a=>?_) (fun G a=>?_)))
   ·refine Gc 10 Z (Yh a ?_)
    obtain rfl:=Oj q a
    exact Gx 1 Z (QK (Gx 1 Z (Rt h 6 [0,1])))
   refine Gc 4 Z (Bd a fun j d a=>?_)
   refine Ct j [0,1] [0,2,19,20,21] (fun j=>[(81,.bool j.2)]) (fun j=>[(0,.cells 222 (typing_count.c j.1))]) (fun _=>rfl) ?_ (fun env H f=>?_)
   ·refine G0 7 Z (Is 66 d Z (fun J d=>?_) (fun J d=>?_))
    ·exact Go 16 Z (Cl d [0,1])
    ·refine Go 7 Z (Is 73 d Z (fun L d=>?_) (fun L d=>?_))
     ·exact Go 9 Z (Cl d [0,1])
     ·refine Go 2 Z (Bd d fun ai M d=>?_)
      refine Qz [] (Qdz call218 Z Z Z Z (fun _ _=>by kernel_rfl)) (k_q _ _ _ M) ?_ (hg:=(gT Z))
      rintro _ _ ⟨rfl,rfl⟩
      exact FE Z (Go 2 Z (Cd [0,2] d (i _ _ _) Z fun aj ae d=>FE Z (Go 3 Z (Cl d [0,1]))))
   refine Gx 1 Z (TC.le f (Cn Z a (fun N a=>?_) (fun N a=>?_)))
   ·refine Gc 8 Z (Yh a ?_)
    obtain rfl:=Oj q a
    exact Gx 1 Z (QK (Gx 1 Z (Rt h 6 [0,1])))
   exact Gc 7 Z (QH a (Lr [0,1]))
  ·have a:=YR hE92 a
   refine WO.le (Q3 (s:=8) (a':=.iface 281 (.agg (typing_cond.c ({Cond:=w.Cond:typing_cond})))) Z (congrArg typing_form.val hE92)) ?_
   refine WO.le (Q3 (s:=24) (a':=.iface 281 (.agg (typing_cond.c ({Cond:=w.Cond:typing_cond})))) Z (congrArg typing_form.val hE92)) ?_
   refine WO.le (Q3 (s:=25) (a':=.iface 281 (.agg (typing_cond.c ({Cond:=w.Cond:typing_cond})))) Z (congrArg typing_form.val hE92)) ?_
   refine vX (.tup [.agg (typing_cond.c ({Cond:=w.Cond:typing_cond})),.bool true]) (Qbh runUnderlying281 (by intro m;nofun)) ?_
   refine Go 24 Z (Bd a fun k e a=>?_)
   refine Ct k [0,1] [0,2,19,20,21] (fun k=>[(81,.bool k.2)]) (fun k=>[(0,.cells 222 (typing_count.c k.1))]) (fun _=>rfl) ?_ (fun env H f=>?_)
   ·refine G0 7 Z (Is 66 e Z (fun O e=>?_) (fun O e=>?_))
    ·exact Go 16 Z (Cl e [0,1])
    ·refine Go 7 Z (Is 73 e Z (fun P e=>?_) (fun P e=>?_))
     ·exact Go 9 Z (Cl e [0,1])
     ·refine Go 2 Z (Bd e fun ak Q e=>?_)
      refine Qz [] (Qdz call217 Z Z Z Z (fun _ _=>by kernel_rfl)) (k_n _ _ _ Q) ?_ (hg:=(gT Z))
      rintro _ _ ⟨rfl,rfl⟩
      exact FE Z (Go 2 Z (Cd [0,3] e (i _ _ _) Z fun al af e=>FE Z (Go 3 Z (Cl e [0,1]))))
   refine Gx 1 Z (TC.le f (Cn Z a (fun R a=>?_) (fun R a=>?_)))
   ·refine Gc 8 Z (Yh a ?_)
    obtain rfl:=Oj q a
    exact Gx 1 Z (QK (Gx 1 Z (Rt h 6 [0,1])))
   exact Gc 7 Z (QH a (Lr [0,1]))
 subst ac
 exact Gx 1 Z (TC.le f (Gc 6 Z (Rt h 6 [0,1])))
def F_c:Nat->(List typing_form)->Int->typing_count->Option (typing_count×Bool)
  |0=>fun _ _ _=>none
  |n+1=>B_c (F_c n) n
theorem k_c(n:Nat):∀(a:List typing_form) (b:Int) (d:typing_count) (r:typing_count×Bool),F_c n a b d=some r->C prog 148 [.ptr 0 0,.osl 1 0 a.length 1,I b] [.cells 222 (typing_count.c d),.row 226 1 (List.map typing_form.enc a)] (RQ (fun r=>.bool r.2) (fun r=>[.cells 222 (typing_count.c r.1),.row 226 1 (List.map typing_form.enc a)]) r):=by
  induction n with
  |zero=>intro a b d r h;cases h
  |succ n ih=>intro a b d r h;exact Qar _ ih n a b d r h
def F_gd(n:Nat)(k:List typing_form)(l:Int)(a:typing_count×Int):Option (Ctl (typing_count×Int) (Ctl typing_count (typing_count×Bool))):=
  (bif decide (a.2<(k.length:Int))then(idx k a.2).bind fun m=>typing_form.elim m (fun e=>((F_v n ({Cond:=e.Step.Cond:typing_cond})).bind fun p=>(bif (!p)then(F_c n [typing_form.ctyping_cond ({Cond:=e.Step.Cond:typing_cond})] 0 ({steps:=IntKind.i64.wrap (a.1.steps+1),conds:=a.1.conds:typing_count})).bind fun f=>some (f.1,(!f.2))else some ({steps:=IntKind.i64.wrap (a.1.steps+1),conds:=a.1.conds:typing_count},false)):Option (typing_count×Bool)).bind fun b=>(bif b.2 then some (.done (.done (b.1,false)))else((bif decide (64<b.1.steps)then some (b.1,true)else(bif decide (256<b.1.conds)then some (b.1,true)else(F_q n e).bind fun i=>(F_c n i (IntKind.i64.wrap (l+1)) b.1).bind fun g=>some (g.1,(!g.2)))):Option (typing_count×Bool)).bind fun c=>(bif c.2 then some (.done (.done (c.1,false)))else some (.cont (c.1,IntKind.i64.wrap (a.2+1)))))) (fun q=>((bif decide (64<a.1.steps)then some ({steps:=a.1.steps,conds:=IntKind.i64.wrap (a.1.conds+1):typing_count},true)else(bif decide (256<(IntKind.i64.wrap (a.1.conds+1)))then some ({steps:=a.1.steps,conds:=IntKind.i64.wrap (a.1.conds+1):typing_count},true)else(F_n n ({Cond:=q.Cond:typing_cond})).bind fun j=>(F_c n j (IntKind.i64.wrap (l+1)) ({steps:=a.1.steps,conds:=IntKind.i64.wrap (a.1.conds+1):typing_count})).bind fun h=>some (h.1,(!h.2)))):Option (typing_count×Bool)).bind fun d=>(bif d.2 then some (.done (.done (d.1,false)))else some (.cont (d.1,IntKind.i64.wrap (a.2+1)))))else some (.done (.cont a.1)))
def F_eu(n:Nat)(b:List typing_form)(c:Int)(d:typing_count):Option (typing_count×Bool):=
  ((bif decide (0<(b.length:Int))then some (decide (16<c))else some false):Option Bool).bind fun b2=>(bif b2 then some (d,false)else(iter (F_gd n b c) n (d,0):Option (Ctl typing_count (typing_count×Bool))).bind fun e=>match e with|.cont a=>(some (a,true))|.done a=>some a)
theorem k_eu(n:Nat)(Q:List typing_form)(R:Int)(T:typing_count)(r:typing_count×Bool)(h:F_eu n Q R T=some r):
    C prog 148 [.ptr 0 0,.rsl 1 (List.map typing_form.enc Q),I R] [.cells 222 (typing_count.c T)] (RQ (fun r=>.bool r.2) (fun r=>[.cells 222 (typing_count.c r.1)]) r):=by
 refine Qb func148 Z Z Z ?_
 refine G0 7 Z (Bd h fun b2 u h=>?_)
 refine Ct b2 [0] [0,1,2] (fun b2=>[(18,.bool b2)]) (fun _=>[]) (fun _=>rfl) ?_ (fun env H f=>?_)
 ·refine G0 2 Z (Lm Z (Go 2 Z (Is 15 u Z (fun V u=>?_) (fun V u=>?_))))
  ·exact Go 4 Z (Cl u [0])
  ·exact Go 4 Z (Cl u [0])
 refine Gx 1 Z (TC.le f (Cn Z h (fun W h=>?_) (fun W h=>?_)))
 ·exact Gc 7 Z (Rt h 6 [0])
 refine Gc 6 Z (Lm Z (Go 3 Z (Bd h fun X Y h=>?_)))
 refine CtE (b:=X) [0] [] (fun _=>[]) (fun w=>[(0,.cells 222 (typing_count.c w))]) (fun _=>rfl) ?_ (fun w env H aa f=>?_)
 ·refine G0 1 Z ?_
  refine Lp [0] [0,2,19,20] (fun q=>[(21,I q.2)]) (fun q=>[(0,.cells 222 (typing_count.c q.1))]) Y (fun _=>rfl) (Lr [0]) fun q al a l=>?_
  refine G0 6 Z (CnS Z a (fun N a=>?_) (fun N a=>?_))
  ·refine Gc 2 Z (QI a ?_)
   obtain rfl:=Oj l a
   exact Gx 1 Z (Qw Z (Lr [0]))
  refine Gc 6 Z (Bd a fun ab O a=>Iz O Z (Go 13 Z ?_))
  rcases Y0 ab with⟨k,hE90⟩|⟨t,hE92⟩
  ·have a:=YS hE90 a
   refine WO.le (Q3 (s:=8) (a':=.iface 229 (.agg (typing_step.c k))) Z (congrArg typing_form.val hE90)) ?_
   refine WO.le (Q3 (s:=24) (a':=.iface 229 (.agg (typing_step.c k))) Z (congrArg typing_form.val hE90)) ?_
   refine WO.le (Q3 (s:=25) (a':=.iface 229 (.agg (typing_step.c k))) Z (congrArg typing_form.val hE90)) ?_
   refine vX (.tup [.agg [I 0,I 0,I 0,.rsl 4 (List.map Cond.enc [])],.bool false]) (QfP (z:=(.agg [I 0,I 0,I 0,.rsl 4 (List.map Cond.enc [])])) runUnderlying281 (by intro m;nofun) Z zeroValue281 (zrC Z)) ?_
   refine Go 7 Z ?_
   refine vX (.tup [.agg (typing_step.c k),.bool true]) (Qbh runUnderlying229 (by intro m;nofun)) ?_
   refine Go 34 Z (Bd a fun p g a=>?_)
   refine Ct p [0] [0,2,8,19,20,21] (fun p=>[(60,.bool p.2)]) (fun p=>[(0,.cells 222 (typing_count.c p.1))]) (fun _=>rfl) ?_ (fun env H f=>?_)
   ·refine G0 2 Z (Cz [] g (k_v _ _) Z fun am af g=>Go 2 Z (Is 53 g Z (fun P g=>?_) (fun P g=>?_)))
    ·refine Go 2 Z ?_
     refine vX (.iface 281 (.agg (typing_cond.c ({Cond:=k.Step.Cond:typing_cond})))) (Qak Z runUnderlying281 (by intro m;nofun) Z) ?_ (gT Z)
     refine vH (OpH.lit (xs:=[.tmp 56]) (es:=List.map typing_form.enc [typing_form.ctyping_cond ({Cond:=k.Step.Cond:typing_cond})]) QbZ Z Z Z Z Z ⟨Z,trivial⟩ Z Z) ?_ (gT Z)
     exact FE Z (Cd [0,3] g (k_c _ _ _ _) Z fun ag ac g=>FE Z (Go 3 Z (Cl g [0])))
    ·exact Go 8 Z (Cl g [0])
   refine Gx 1 Z (TC.le f (Cn Z a (fun x a=>?_) (fun x a=>?_)))
   ·refine Gc 10 Z (Yh a ?_)
    obtain rfl:=Oj l a
    exact Gx 1 Z (QK (Gx 1 Z (Rt h 6 [0])))
   refine Gc 4 Z (Bd a fun i d a=>?_)
   refine Ct i [0] [0,2,19,20,21] (fun i=>[(81,.bool i.2)]) (fun i=>[(0,.cells 222 (typing_count.c i.1))]) (fun _=>rfl) ?_ (fun env H f=>?_)
   ·refine G0 7 Z (Is 66 d Z (fun y d=>?_) (fun y d=>?_))
    ·exact Go 16 Z (Cl d [0])
    ·refine Go 7 Z (Is 73 d Z (fun B d=>?_) (fun B d=>?_))
     ·exact Go 9 Z (Cl d [0])
     ·refine Go 2 Z (Bd d fun ah E d=>?_)
      refine Qz [] (Qdz call218 Z Z Z Z (fun _ _=>by kernel_rfl)) (k_q _ _ _ E) ?_ (hg:=(gT Z))
      rintro _ _ ⟨rfl,rfl⟩
      exact FE Z (Go 2 Z (Cd [0,1] d (k_c _ _ _ _) Z fun ai ad d=>FE Z (Go 3 Z (Cl d [0]))))
   refine Gx 1 Z (TC.le f (Cn Z a (fun F a=>?_) (fun F a=>?_)))
   ·refine Gc 8 Z (Yh a ?_)
    obtain rfl:=Oj l a
    exact Gx 1 Z (QK (Gx 1 Z (Rt h 6 [0])))
   exact Gc 7 Z (QH a (Lr [0]))
  ·have a:=YR hE92 a
   refine WO.le (Q3 (s:=8) (a':=.iface 281 (.agg (typing_cond.c ({Cond:=t.Cond:typing_cond})))) Z (congrArg typing_form.val hE92)) ?_
   refine WO.le (Q3 (s:=24) (a':=.iface 281 (.agg (typing_cond.c ({Cond:=t.Cond:typing_cond})))) Z (congrArg typing_form.val hE92)) ?_
   refine WO.le (Q3 (s:=25) (a':=.iface 281 (.agg (typing_cond.c ({Cond:=t.Cond:typing_cond})))) Z (congrArg typing_form.val hE92)) ?_
   refine vX (.tup [.agg (typing_cond.c ({Cond:=t.Cond:typing_cond})),.bool true]) (Qbh runUnderlying281 (by intro m;nofun)) ?_
   refine Go 24 Z (Bd a fun j e a=>?_)
   refine Ct j [0] [0,2,19,20,21] (fun j=>[(81,.bool j.2)]) (fun j=>[(0,.cells 222 (typing_count.c j.1))]) (fun _=>rfl) ?_ (fun env H f=>?_)
   ·refine G0 7 Z (Is 66 e Z (fun G e=>?_) (fun G e=>?_))
    ·exact Go 16 Z (Cl e [0])
    ·refine Go 7 Z (Is 73 e Z (fun J e=>?_) (fun J e=>?_))
     ·exact Go 9 Z (Cl e [0])
     ·refine Go 2 Z (Bd e fun aj L e=>?_)
      refine Qz [] (Qdz call217 Z Z Z Z (fun _ _=>by kernel_rfl)) (k_n _ _ _ L) ?_ (hg:=(gT Z))
      rintro _ _ ⟨rfl,rfl⟩
      exact FE Z (Go 2 Z (Cd [0,2] e (k_c _ _ _ _) Z fun ak ae e=>FE Z (Go 3 Z (Cl e [0]))))
   refine Gx 1 Z (TC.le f (Cn Z a (fun M a=>?_) (fun M a=>?_)))
   ·refine Gc 8 Z (Yh a ?_)
    obtain rfl:=Oj l a
    exact Gx 1 Z (QK (Gx 1 Z (Rt h 6 [0])))
   exact Gc 7 Z (QH a (Lr [0]))
 subst aa
 exact Gx 1 Z (TC.le f (Gc 6 Z (Rt h 6 [0])))
def F_ax(rec95:(List typing_form)->Option Bool)(n:Nat)(a:typing_cond):Option Bool:=
  ((bif (a.Cond.Var==0)then some (a.Cond.N==0)else some false):Option Bool).bind fun b2=>(bif (a.Cond.Kind==1)then((F_a n 1 3 [a.Cond.Var]).bind fun c=>(bif c then(F_a n 0 10000 [a.Cond.N]).bind fun d=>(bif d then some ((a.Cond.Parts.length:Int)==0)else some false)else some false):Option Bool).bind fun e=>some e else((bif (a.Cond.Kind==4)then(bif b2 then some (.cont ((a.Cond.Parts.length:Int)==1))else some (.cont false))else((bif (a.Cond.Kind==2)then some (a.Cond.Kind==2)else some (a.Cond.Kind==3)):Option Bool).bind fun f=>(bif f then(bif b2 then(bif decide (0<(a.Cond.Parts.length:Int))then some (.cont (decide ((a.Cond.Parts.length:Int)<=16)))else some (.cont false))else some (.cont false))else some (.done false))):Option (Ctl Bool Bool)).bind fun g=>match g with|.cont b=>(((bif b then(F_n n ({Cond:=a.Cond:typing_cond})).bind fun h=>(rec95 h).bind fun i=>some (!i)else some false):Option Bool).bind fun j=>some j)|.done b=>some b)
theorem k_ax(rec95:(List typing_form)->Option Bool)(j:∀(g:List typing_form) (r:Bool),rec95 g=some r->Csm prog 149 [.rsl 1 (List.map typing_form.enc g),.fn (.func 150) [] []] [] (fun r=>.bool r) r)(n:Nat)(g:typing_cond)(r:Bool)(h:F_ax rec95 n g=some r):
    Csm prog 202 [.iface 281 (.agg (typing_cond.c ({Cond:=g.Cond:typing_cond})))] [] (fun r=>.bool r) r:=by
 refine Qb func202 Z Z Z ?_
 refine G0 14 Z ?_
 refine vX (.tup [.agg (typing_cond.c ({Cond:=g.Cond:typing_cond})),.bool true]) (Qbh runUnderlying281 (by intro m;nofun)) ?_
 refine Go 12 Z (Bd h fun b2 k h=>?_)
 refine Ct b2 [0] [3] (fun b2=>[(4,.bool b2)]) (fun _=>[]) (fun _=>rfl) ?_ (fun env H e=>?_)
 ·refine G0 6 Z (Is 15 k Z (fun G k=>?_) (fun G k=>?_))
  ·exact Go 7 Z (Cl k [0])
  ·exact Go 7 Z (Cl k [0])
 refine Gx 1 Z (TC.le e (Gc 15 Z (Cn Z h (fun J h=>?_) (fun J h=>?_))))
 ·refine Gc 1 Z (Bd h fun l d h=>?_)
  refine Ct l [] [] (fun l=>[(2,.bool l)]) (fun _=>[]) (fun _=>rfl) ?_ (fun env H e=>?_)
  ·refine G0 4 Z ?_
   refine vH (OpH.lit (xs:=[.tmp 28]) (es:=List.map (Qj .i64) [g.Cond.Var]) QB Z Z Z Z Z ⟨Z,trivial⟩ Z Z) ?_
   refine FE Z (Cb d (k_a _ _ _ _) Z (ls (ls (lo ln))) fun R M d=>Go 1 Z (Is 31 d Z (fun t d=>?_) (fun t d=>?_)))
   ·refine Go 3 Z ?_
    refine vH (OpH.lit (xs:=[.tmp 34]) (es:=List.map (Qj .i64) [g.Cond.N]) QB Z Z Z Z Z ⟨Z,trivial⟩ Z Z) ?_ (gT Z)
    refine FE Z (Cb d (k_a _ _ _ _) Z (ls (ls (lo ln))) fun T O d=>Go 2 Z (Is 38 d Z (fun u d=>?_) (fun u d=>?_)))
    ·exact Go 3 Z (Lm Z (Go 4 Z (Cl d [])))
    ·exact Go 8 Z (Cl d [])
   ·exact Go 15 Z (Cl d [])
  exact Gx 1 Z (TC.le e (Gc 5 Z (Rt h 2 [])))
 refine Gc 6 Z (Bd h fun L a h=>?_)
 refine CtE (b:=L) [0] [3] (fun p=>[(4,.bool p)]) (fun _=>[]) (fun _=>rfl) ?_ (fun p env H hb e=>?_)
 ·refine G0 0 Z (Cn Z a (fun w a=>?_) (fun w a=>?_))
  ·refine Gc 3 Z (Is 48 a Z (fun x a=>?_) (fun x a=>?_))
   ·refine Go 3 Z (Lm Z (Go 4 Z ?_))
    cases a
    exact Qw Z (Lr [0])
   ·refine Go 8 Z ?_
    cases a
    exact Qw Z (Lr [0])
  refine Gc 7 Z (Bd a fun q i a=>?_)
  refine Ct q [0] [3,4] (fun q=>[(55,.bool q)]) (fun _=>[]) (fun _=>rfl) ?_ (fun env H e=>?_)
  ·refine G0 0 Z (Cn Z i (fun y i=>?_) (fun y i=>?_))
   ·exact Gc 1 Z (Cl i [0])
   exact Gc 4 Z (Cl i [0])
  refine Gx 1 Z (TC.le e (CnS Z a (fun z a=>?_) (fun z a=>?_)))
  ·refine Gc 6 Z ?_
   cases a
   exact QK (Gx 4 Z (Rt h 2 []))
  refine Gc 3 Z (Is 59 a Z (fun B a=>?_) (fun B a=>?_))
  ·refine Go 3 Z (Lm Z (Go 3 Z (Is 66 a Z (fun E a=>?_) (fun E a=>?_))))
   ·refine Go 3 Z (Lm Z (Go 4 Z ?_))
    cases a
    exact Qw Z (Lr [0])
   ·refine Go 8 Z ?_
    cases a
    exact Qw Z (Lr [0])
  ·refine Go 15 Z ?_
   cases a
   exact Qw Z (Lr [0])
 subst hb
 refine Gx 2 Z (TC.le e (Gc 1 Z (Bd h fun s f h=>?_)))
 refine Ct s [] [] (fun s=>[(2,.bool s)]) (fun _=>[]) (fun _=>rfl) ?_ (fun env H e=>?_)
 ·refine G0 3 Z (Is 74 f Z (fun F f=>?_) (fun F f=>?_))
  ·exact Go 1 Z (Cd [] f (k_n _ _) Z fun V P f=>FE Z (Cb f (j _) Z (lo (ls ln)) fun W Q f=>Go 4 Z (Cl f [])))
  ·exact Go 7 Z (Cl f [])
 exact Gx 1 Z (TC.le e (Gc 3 Z (Rt h 2 [])))
def F_cs(rec95:(List typing_form)->Option Bool)(n:Nat)(x:typing_form):Option Bool:=
  typing_form.elim x (fun b=>(bif (b.Step.Kind==1)then((F_a n 1 5 [b.Step.By]).bind fun e=>(bif e then(F_v n ({Cond:=b.Step.Cond:typing_cond})).bind fun f=>(bif f then(F_q n b).bind fun g=>some ((g.length:Int)==0)else some false)else some false):Option Bool).bind fun h=>some h else(bif (b.Step.Kind==2)then((bif (b.Step.By==0)then(F_ax rec95 n ({Cond:=b.Step.Cond:typing_cond})).bind fun i=>(bif i then(bif decide (0<(b.Step.Then.length:Int))then(F_q n b).bind fun j=>(rec95 j).bind fun k=>some (!k)else some false)else some false)else some false):Option Bool).bind fun l=>some l else some false))) (fun a=>((bif (a.Cond.Var==0)then some (a.Cond.N==0)else some false):Option Bool).bind fun d=>(bif (a.Cond.Kind==1)then((F_a n 1 3 [a.Cond.Var]).bind fun m=>(bif m then(F_a n 0 10000 [a.Cond.N]).bind fun p=>(bif p then some ((a.Cond.Parts.length:Int)==0)else some false)else some false):Option Bool).bind fun q=>some q else((bif (a.Cond.Kind==4)then(bif d then some (.cont ((a.Cond.Parts.length:Int)==1))else some (.cont false))else((bif (a.Cond.Kind==2)then some (a.Cond.Kind==2)else some (a.Cond.Kind==3)):Option Bool).bind fun r=>(bif r then(bif d then(bif decide (0<(a.Cond.Parts.length:Int))then some (.cont (decide ((a.Cond.Parts.length:Int)<=16)))else some (.cont false))else some (.cont false))else some (.done false))):Option (Ctl Bool Bool)).bind fun s=>match s with|.cont c=>(((bif c then(F_n n ({Cond:=a.Cond:typing_cond})).bind fun t=>(rec95 t).bind fun u=>some (!u)else some false):Option Bool).bind fun w=>some w)|.done c=>some c))
theorem k_cs(rec95:(List typing_form)->Option Bool)(j:∀(p:List typing_form) (r:Bool),rec95 p=some r->Csm prog 149 [.rsl 1 (List.map typing_form.enc p),.fn (.func 150) [] []] [] (fun r=>.bool r) r)(n:Nat)(p:typing_form)(r:Bool)(h:F_cs rec95 n p=some r):
    Csm prog 202 [typing_form.val p] [] (fun r=>.bool r) r:=by
 refine Qb func202 Z Z Z ?_
 refine G0 14 Z ?_
 rcases Y0 p with⟨q,hE2⟩|⟨t,hE4⟩
 ·have h:=YS hE2 h
  refine WO.le (Q3 (s:=0) (a':=.iface 229 (.agg (typing_step.c q))) Z (congrArg typing_form.val hE2)) ?_
  refine WO.le (Q3 (s:=7) (a':=.iface 229 (.agg (typing_step.c q))) Z (congrArg typing_form.val hE2)) ?_
  refine vX (.tup [.agg [I 0,I 0,I 0,.rsl 4 (List.map Cond.enc [])],.bool false]) (QfP (z:=(.agg [I 0,I 0,I 0,.rsl 4 (List.map Cond.enc [])])) runUnderlying281 (by intro m;nofun) Z zeroValue281 (zrC Z)) ?_
  refine Go 7 Z ?_
  refine vX (.tup [.agg (typing_step.c q),.bool true]) (Qbh runUnderlying229 (by intro m;nofun)) ?_
  refine Go 35 Z (Cn Z h (fun ae h=>?_) (fun ae h=>?_))
  ·refine Gc 1 Z (Bd h fun u e h=>?_)
   refine Ct u [] [] (fun u=>[(2,.bool u)]) (fun _=>[]) (fun _=>rfl) ?_ (fun env H f=>?_)
   ·refine G0 4 Z ?_
    refine vH (OpH.lit (xs:=[.tmp 94]) (es:=List.map (Qj .i64) [q.Step.By]) QB Z Z Z Z Z ⟨Z,trivial⟩ Z Z) ?_
    refine FE Z (Cb e (k_a _ _ _ _) Z (ls (ls (lo ln))) fun ar ag e=>Go 1 Z (Is 97 e Z (fun G e=>?_) (fun G e=>?_)))
    ·refine Go 1 Z (Cz [] e (k_v _ _) Z fun au ah e=>Go 2 Z (Is 101 e Z (fun J e=>?_) (fun J e=>?_)))
     ·exact Go 1 Z (Cd [] e (k_q _ _) Z fun av ai e=>FE Z (Go 5 Z (Cl e [])))
     ·exact Go 7 Z (Cl e [])
    ·exact Go 11 Z (Cl e [])
   exact Gx 1 Z (TC.le f (Gc 4 Z (Rt h 2 [])))
  refine Gc 6 Z (Cn Z h (fun L h=>?_) (fun L h=>?_))
  ·refine Gc 1 Z (Bd h fun w d h=>?_)
   refine Ct w [] [] (fun w=>[(2,.bool w)]) (fun _=>[]) (fun _=>rfl) ?_ (fun env H f=>?_)
   ·refine G0 6 Z (Is 113 d Z (fun M d=>?_) (fun M d=>?_))
    ·refine Go 1 Z ?_
     refine vX (.iface 281 (.agg (typing_cond.c ({Cond:=q.Step.Cond:typing_cond})))) (Qak Z runUnderlying281 (by intro m;nofun) Z) ?_ (gT Z)
     refine Cz [] d (k_ax rec95 j _ _) Z fun aw aj d=>Go 2 Z (Is 118 d Z (fun O d=>?_) (fun O d=>?_))
     ·refine Go 3 Z (Lm Z (Go 3 Z (Is 125 d Z (fun P d=>?_) (fun P d=>?_))))
      ·exact Go 1 Z (Cd [] d (k_q _ _) Z fun ax ak d=>FE Z (Cb d (j _) Z (lo (ls ln)) fun ay al d=>Go 4 Z (Cl d [])))
      ·exact Go 7 Z (Cl d [])
     ·exact Go 14 Z (Cl d [])
    ·exact Go 19 Z (Cl d [])
   exact Gx 1 Z (TC.le f (Gc 4 Z (Rt h 2 [])))
  exact Gc 10 Z (Rt h 2 [])
 ·have h:=YR hE4 h
  refine WO.le (Q3 (s:=0) (a':=.iface 281 (.agg (typing_cond.c ({Cond:=t.Cond:typing_cond})))) Z (congrArg typing_form.val hE4)) ?_
  refine WO.le (Q3 (s:=7) (a':=.iface 281 (.agg (typing_cond.c ({Cond:=t.Cond:typing_cond})))) Z (congrArg typing_form.val hE4)) ?_
  refine vX (.tup [.agg (typing_cond.c ({Cond:=t.Cond:typing_cond})),.bool true]) (Qbh runUnderlying281 (by intro m;nofun)) ?_
  refine Go 12 Z (Bd h fun x k h=>?_)
  refine Ct x [0] [3] (fun x=>[(4,.bool x)]) (fun _=>[]) (fun _=>rfl) ?_ (fun env H f=>?_)
  ·refine G0 6 Z (Is 15 k Z (fun Q k=>?_) (fun Q k=>?_))
   ·exact Go 7 Z (Cl k [0])
   ·exact Go 7 Z (Cl k [0])
  refine Gx 1 Z (TC.le f (Gc 15 Z (Cn Z h (fun R h=>?_) (fun R h=>?_))))
  ·refine Gc 1 Z (Bd h fun y g h=>?_)
   refine Ct y [] [] (fun y=>[(2,.bool y)]) (fun _=>[]) (fun _=>rfl) ?_ (fun env H f=>?_)
   ·refine G0 4 Z ?_
    refine vH (OpH.lit (xs:=[.tmp 28]) (es:=List.map (Qj .i64) [t.Cond.Var]) QB Z Z Z Z Z ⟨Z,trivial⟩ Z Z) ?_
    refine FE Z (Cb g (k_a _ _ _ _) Z (ls (ls (lo ln))) fun az am g=>Go 1 Z (Is 31 g Z (fun T g=>?_) (fun T g=>?_)))
    ·refine Go 3 Z ?_
     refine vH (OpH.lit (xs:=[.tmp 34]) (es:=List.map (Qj .i64) [t.Cond.N]) QB Z Z Z Z Z ⟨Z,trivial⟩ Z Z) ?_ (gT Z)
     refine FE Z (Cb g (k_a _ _ _ _) Z (ls (ls (lo ln))) fun ba an g=>Go 2 Z (Is 38 g Z (fun V g=>?_) (fun V g=>?_)))
     ·exact Go 3 Z (Lm Z (Go 4 Z (Cl g [])))
     ·exact Go 8 Z (Cl g [])
    ·exact Go 15 Z (Cl g [])
   exact Gx 1 Z (TC.le f (Gc 5 Z (Rt h 2 [])))
  refine Gc 6 Z (Bd h fun af a h=>?_)
  refine CtE (b:=af) [0] [3] (fun B=>[(4,.bool B)]) (fun _=>[]) (fun _=>rfl) ?_ (fun B env H hb f=>?_)
  ·refine G0 0 Z (Cn Z a (fun W a=>?_) (fun W a=>?_))
   ·refine Gc 3 Z (Is 48 a Z (fun X a=>?_) (fun X a=>?_))
    ·refine Go 3 Z (Lm Z (Go 4 Z ?_))
     cases a
     exact Qw Z (Lr [0])
    ·refine Go 8 Z ?_
     cases a
     exact Qw Z (Lr [0])
   refine Gc 7 Z (Bd a fun E l a=>?_)
   refine Ct E [0] [3,4] (fun E=>[(55,.bool E)]) (fun _=>[]) (fun _=>rfl) ?_ (fun env H f=>?_)
   ·refine G0 0 Z (Cn Z l (fun Y l=>?_) (fun Y l=>?_))
    ·exact Gc 1 Z (Cl l [0])
    exact Gc 4 Z (Cl l [0])
   refine Gx 1 Z (TC.le f (CnS Z a (fun aa a=>?_) (fun aa a=>?_)))
   ·refine Gc 6 Z ?_
    cases a
    exact QK (Gx 4 Z (Rt h 2 []))
   refine Gc 3 Z (Is 59 a Z (fun ab a=>?_) (fun ab a=>?_))
   ·refine Go 3 Z (Lm Z (Go 3 Z (Is 66 a Z (fun ac a=>?_) (fun ac a=>?_))))
    ·refine Go 3 Z (Lm Z (Go 4 Z ?_))
     cases a
     exact Qw Z (Lr [0])
    ·refine Go 8 Z ?_
     cases a
     exact Qw Z (Lr [0])
   ·refine Go 15 Z ?_
    cases a
    exact Qw Z (Lr [0])
  subst hb
  refine Gx 2 Z (TC.le f (Gc 1 Z (Bd h fun F i h=>?_)))
  refine Ct F [] [] (fun F=>[(2,.bool F)]) (fun _=>[]) (fun _=>rfl) ?_ (fun env H f=>?_)
  ·refine G0 3 Z (Is 74 i Z (fun ad i=>?_) (fun ad i=>?_))
   ·exact Go 1 Z (Cd [] i (k_n _ _) Z fun bb ao i=>FE Z (Cb i (j _) Z (lo (ls ln)) fun bc aq i=>Go 4 Z (Cl i [])))
   ·exact Go 7 Z (Cl i [])
  exact Gx 1 Z (TC.le f (Gc 3 Z (Rt h 2 [])))
def F_by(rec95:(List typing_form)->Option Bool)(n:Nat)(a:typing_form):Option Bool:=
  (F_cs rec95 n a).bind fun b=>some (!b)
theorem k_by(rec95:(List typing_form)->Option Bool)(a:∀(b:List typing_form) (r:Bool),rec95 b=some r->Csm prog 149 [.rsl 1 (List.map typing_form.enc b),.fn (.func 150) [] []] [] (fun r=>.bool r) r)(n:Nat)(b:typing_form)(r:Bool)(h:F_by rec95 n b=some r):
    Csm prog 150 [typing_form.val b] [] (fun r=>.bool r) r:=by
 refine Qb func150 Z Z Z ?_
 exact G0 8 Z (Bd h fun d c h=>Pc [] Z (OpC.fn call202 Z Z Z) (k_cs rec95 a _ _ _ c) (hargs:=by first|exact Z|exact Eq.trans (by exact Z) (Qac _ (by simp[Yj,YC,typing_form.data])).symm) Z (Go 5 Z (Rt h 2 [])))
def F_gi(n:Nat)(b:List typing_form)(rec95:(List typing_form)->Option Bool)(a:Int):Option (Ctl Int (Ctl Unit Int)):=
  (bif decide (a<(b.length:Int))then(idx b a).bind fun c=>(F_by rec95 n c).bind fun d=>(bif d then some (.done (.done a))else some (.cont (IntKind.i64.wrap (a+1))))else some (.done (.cont ())))
def F_cw(rec95:(List typing_form)->Option Bool)(n:Nat)(c:List typing_form):Option Int:=
  (iter (F_gi n c rec95) n 0:Option (Ctl Unit Int)).bind fun b=>match b with|.cont a=>(some (-1))|.done a=>some a
theorem k_cw(rec95:(List typing_form)->Option Bool)(c:∀(d:List typing_form) (r:Bool),rec95 d=some r->Csm prog 149 [.rsl 1 (List.map typing_form.enc d),.fn (.func 150) [] []] [] (fun r=>.bool r) r)(n:Nat)(d:List typing_form)(r:Int)(h:F_cw rec95 n d=some r):
    Csm prog 201 [.rsl 1 (List.map typing_form.enc d),.fn (.func 150) [] []] [] (fun r=>I r) r:=by
 refine Qb func201 Z Z Z ?_
 refine G0 9 Z (Lm Z (Go 3 Z (Bd h fun l m h=>?_)))
 refine CtE (b:=l) [] [] (fun _=>[]) (fun _=>[]) (fun _=>rfl) ?_ (fun s env H p q=>?_)
 ·refine G0 1 Z ?_
  refine Lp [] [0,1,7] (fun f=>[(8,I f)]) (fun _=>[]) m (fun _=>rfl) (Lr []) fun f t a e=>?_
  refine G0 6 Z (CnS Z a (fun g a=>?_) (fun g a=>?_))
  ·refine Gc 2 Z (QI a ?_)
   obtain rfl:=Oj e a
   exact Gx 1 Z (Qw Z (Lr []))
  refine Gc 15 Z (Bd a fun u i a=>Iz i Z (Go 1 Z (Bd a fun w j a=>Pc [] Z (QfR call150 Z Z Z Z) (k_by rec95 c _ _ _ j) (hargs:=by first|exact Z|exact Eq.trans (by exact Z) (Qac _ (by simp[Yj,YC,typing_form.data])).symm) Z (Go 2 Z (Cn Z a (fun k a=>?_) (fun k a=>?_))))))
  ·refine Gc 9 Z (Yh a ?_)
   obtain rfl:=Oj e a
   exact Gx 1 Z (QK (Gx 1 Z (Rt h 4 [])))
  exact Gc 7 Z (QH a (Lr []))
 subst p
 exact Gx 1 Z (TC.le q (Gc 6 Z (Rt h 4 [])))
def B_g(rec95:(List typing_form)->Option Bool)(n:Nat)(a:List typing_form):Option Bool:=
  (F_cw rec95 n a).bind fun b=>some (decide (0<=b))
theorem Qas(rec95:(List typing_form)->Option Bool)(a:∀(b:List typing_form) (r:Bool),rec95 b=some r->Csm prog 149 [.rsl 1 (List.map typing_form.enc b),.fn (.func 150) [] []] [] (fun r=>.bool r) r)(n:Nat)(b:List typing_form)(r:Bool)(h:B_g rec95 n b=some r):
    Csm prog 149 [.rsl 1 (List.map typing_form.enc b),.fn (.func 150) [] []] [] (fun r=>.bool r) r:=by
 refine Qb func149 Z Z Z ?_
 exact G0 9 Z (Cz [] h (k_cw rec95 a _ _) Z fun d c h=>Go 5 Z (Rt h 4 []))
def F_g:Nat->(List typing_form)->Option Bool
  |0=>fun _=>none
  |n+1=>B_g (F_g n) n
theorem k_g(n:Nat):∀(a:List typing_form) (r:Bool),F_g n a=some r->Csm prog 149 [.rsl 1 (List.map typing_form.enc a),.fn (.func 150) [] []] [] (fun r=>.bool r) r:=by
  induction n with
  |zero=>intro a r h;cases h
  |succ n ih=>intro a r h;exact Qas _ ih n a r h
def F_ea(n:Nat)(a:List typing_form):Option Int:=
  (F_eu n a 0 ({steps:=0,conds:=0:typing_count})).bind fun b=>(bif (!b.2)then some 2 else((bif ((a.length:Int)==0)then some true else(F_g n a).bind fun c=>some c):Option Bool).bind fun d=>(bif d then some 71 else some 0))
theorem k_ea(n:Nat)(c:List typing_form)(r:Int)(h:F_ea n c=some r):
    Csm prog 98 [.rsl 1 (List.map typing_form.enc c)] [] (fun r=>I r) r:=by
 refine Qb func98 Z Z Z ?_
 refine G0 17 Z (Cd [0] h (k_eu _ _ _ _) Z fun k i h=>FE Z (Go 3 Z (Cn Z h (fun d h=>?_) (fun d h=>?_))))
 ·exact Gc 7 Z (Rt h 2 [])
 refine Gc 4 Z (Bd h fun b a h=>?_)
 refine Ct b [] [] (fun b=>[(16,.bool b)]) (fun _=>[]) (fun _=>rfl) ?_ (fun env H e=>?_)
 ·refine G0 2 Z (Lm Z (Go 2 Z (Is 13 a Z (fun f a=>?_) (fun f a=>?_))))
  ·exact Go 4 Z (Cl a [])
  ·exact Go 1 Z (Cz [] a (k_g _ _) Z fun l j a=>Go 2 Z (Cl a []))
 refine Gx 1 Z (TC.le e (Cn Z h (fun g h=>?_) (fun g h=>?_)))
 ·exact Gc 7 Z (Rt h 2 [])
 exact Gc 8 Z (Rt h 2 [])
def F_an(n:Nat)(a:List Step):Option Int:=
  (F_t n a).bind fun b=>(F_ea n b).bind fun c=>some c
theorem k_an(n:Nat)(a:List Step)(r:Int)(h:F_an n a=some r):
    Csm prog 41 [.rsl 8 (List.map Step.enc a)] [] (fun r=>I r) r:=by
 refine Qb func41 Z Z Z ?_
 exact G0 8 Z (Cd [] h (k_t _ _) Z fun d b h=>FE Z (Cb h (k_ea _ _) Z (lo ln) fun e c h=>Go 4 Z (Rt h 2 [])))
def F_eh(n:Nat)(b:Part)(c:List Int)(a:(List Int)×Int):Option (Ctl ((List Int)×Int) (Ctl (List Int) (Ctl ((List Int)×Int) (Ctl (List Int) (List Int))))):=
  (bif decide (a.2<(if b.Laps<1 then 1 else b.Laps))then(bif decide (256<(a.1.length:Int))then some (.done (.done (.done (.done a.1))))else(app a.1 c).bind fun d=>some (.cont (d,IntKind.i64.wrap (a.2+1))))else some (.done (.cont a.1)))
def F_di(n:Nat)(d:List Part)(rec114:(List Part)->Option (List Int))(a:(List Int)×Int):Option (Ctl ((List Int)×Int) (Ctl (List Int) (List Int))):=
  (bif decide (a.2<(d.length:Int))then(idx d a.2).bind fun c=>((bif decide (0<c.Laps)then(rec114 c.Parts).bind fun e=>some e else some [c.Mat]):Option (List Int)).bind fun f=>(iter (F_eh n c f) n (a.1,0):Option (Ctl (List Int) (Ctl ((List Int)×Int) (Ctl (List Int) (List Int))))).bind fun g=>match g with|.cont b=>(some (.cont (b,IntKind.i64.wrap (a.2+1))))|.done b=>some b else some (.done (.cont a.1)))
def B_l(rec114:(List Part)->Option (List Int))(n:Nat)(c:List Part):Option (List Int):=
  (iter (F_di n c rec114) n ([],0):Option (Ctl (List Int) (List Int))).bind fun b=>match b with|.cont a=>(some a)|.done a=>some a
theorem Qcf(rec114:(List Part)->Option (List Int))(u:∀(w:List Part) (r:List Int),rec114 w=some r->C prog 102 [.rsl 3 (List.map Part.enc w)] [] (RQ (fun r=>.osl 0 0 r.length 1) (fun r=>[.row 3 1 (List.map (Qj .i64) r)]) r))(n:Nat)(w:List Part)(r:List Int)(h:B_l rec114 n w=some r):
    C prog 102 [.rsl 3 (List.map Part.enc w)] [] (RQ (fun r=>.osl 0 0 r.length 1) (fun r=>[.row 3 1 (List.map (Qj .i64) r)]) r):=by
 refine Qb func102 Z Z Z ?_
 refine G0 9 Z (Lm Z (Go 3 Z (Bd h fun M N h=>?_)))
 refine CtE (b:=M) [0] [] (fun f=>[(2,.osl 0 0 f.length 1)]) (fun f=>[(0,.row 3 1 (List.map (Qj .i64) f))]) (fun _=>rfl) ?_ (fun f env H x j=>?_)
 ·refine G0 1 Z ?_
  refine Lp [0] [6,7] (fun l=>[(2,.osl 0 0 l.1.length 1),(8,I l.2)]) (fun l=>[(0,.row 3 1 (List.map (Qj .i64) l.1))]) N (fun _=>rfl) ?_ ?_
  ·refine Le.trans (Le.phantom (s:=2) (k:=1) (t:=3) (Nat.le_of_ble_eq_true Z) Z) ?_
   exact Lr [0]
  intro l R a y
  refine G0 6 Z (CnS Z a (fun B a=>?_) (fun B a=>?_))
  ·refine Gc 2 Z (QI a ?_)
   obtain rfl:=Oj y a
   exact Gx 1 Z (Qw Z (Lr [0]))
  refine Gc 6 Z (Bd a fun q E a=>IzE E (Yw q) Z (Go 9 Z ?_))
  refine vH (OpH.lit (xs:=[.tmp 13]) (es:=List.map (Qj .i64) [q.Mat]) QB Z Z Z Z Z ⟨Z,trivial⟩ Z Z) ?_
  refine FE Z (Go 11 Z (Bd a fun m d a=>?_))
  refine Ct m [0,1,0] [2,4,6,7,8] (fun m=>[(5,.osl 2 0 m.length 1)]) (fun m=>[(2,.row 3 1 (List.map (Qj .i64) m))]) (fun _=>rfl) ?_ (fun env H j=>?_)
  ·refine G0 0 Z (Cn Z d (fun F d=>?_) (fun F d=>?_))
   ·exact Gc 3 Z (Cd [] d (u _) Z fun T Q d=>FE Z (Go 2 Z (Cl d [0,1,3])))
   exact Gc 1 Z (Cl d [0,1,2])
  refine Gx 1 Z (TC.le j (Gc 4 Z ?_))
  refine vX (I (if q.Laps<1 then 1 else q.Laps)) (OpV.max Z Z Z Z) ?_
  refine Go 3 Z (Bd a fun O P a=>?_)
  refine CtE (b:=O) [0] [6,7,8] (fun g=>[(2,.osl 0 0 g.length 1)]) (fun g=>[(0,.row 3 1 (List.map (Qj .i64) g))]) (fun _=>rfl) ?_ (fun g env H x j=>?_)
  ·refine G0 1 Z ?_
   refine Lp [0,2] [5,6,7,8,23] (fun p=>[(2,.osl 0 0 p.1.length 1),(24,I p.2)]) (fun p=>[(0,.row 3 1 (List.map (Qj .i64) p.1))]) P (fun _=>rfl) (Lr [0,2]) fun p V c z=>?_
   refine G0 6 Z (CnS Z c (fun G c=>?_) (fun G c=>?_))
   ·refine Gc 2 Z (QI c ?_)
    obtain rfl:=Oj z c
    exact Gx 1 Z (Qw Z (Lr [0]))
   refine Gc 12 Z (Cn Z c (fun J c=>?_) (fun J c=>?_))
   ·refine Gc 10 Z (Yh c ?_)
    obtain rfl:=Oj z c
    refine Gx 1 Z (QK (Gx 2 Z (Yh a ?_)))
    obtain rfl:=Oj y a
    exact Gx 1 Z (QK (Gx 1 Z (Rt h 2 [0])))
   refine Gc 5 Z (Bd c fun W L c=>?_)
   refine vH (Ym (e:=(Qj .i64)) L QB runUnderlying109 (QaR (i:=1))) ?_
   exact FE Z (Go 8 Z (QH c (Lr [2,1])))
  subst x
  exact Gx 2 Z (TC.le j (Gc 4 Z (QH a (Lr [0]))))
 subst x
 exact Gx 1 Z (TC.le j (Gc 7 Z (Rt h 2 [0])))
def F_l:Nat->(List Part)->Option (List Int)
  |0=>fun _=>none
  |n+1=>B_l (F_l n) n
theorem k_l(n:Nat):∀(a:List Part) (r:List Int),F_l n a=some r->C prog 102 [.rsl 3 (List.map Part.enc a)] [] (RQ (fun r=>.osl 0 0 r.length 1) (fun r=>[.row 3 1 (List.map (Qj .i64) r)]) r):=by
  induction n with
  |zero=>intro a r h;cases h
  |succ n ih=>intro a r h;exact Qcf _ ih n a r h
def F_bi(n:Nat)(a:Cutoff)(b:List (Int×Int)):Option Bool:=
  (some (QR b a.Mat 0)).bind fun c=>some (decide (a.Lap<=c))
theorem k_bi(n:Nat)(a:Cutoff)(b:List (Int×Int))(r:Bool)(h:F_bi n a b=some r):
    Csm prog 103 [.agg (Cutoff.c a),.ptr 0 0] [.cells 186 [.map 1],.map (Ya (fun x=>A.int .i64 x) (fun x=>A.int .i64 x) b)] (fun r=>.bool r) r:=by
 refine Qb func103 Z Z Z ?_
 refine G0 11 Z (Bd h fun e d h=>?_)
 refine vX (I e) (YM (ev:=(fun x=>A.int .i64 x)) (z0:=0) (k:=a.Mat) (l:=b) Qib d underlying186 zeroValue3 ZR.int) ?_
 exact Go 7 Z (Rt h 3 [0,1])
def F_dx(n:Nat)(a:Cutoff)(b:List (Int×Int)):Option Bool:=
  (F_bi n a b).bind fun c=>some (!c)
theorem k_dx(n:Nat)(a:Cutoff)(b:List (Int×Int))(r:Bool)(h:F_dx n a b=some r):
    Csm prog 135 [.agg (Cutoff.c a),.ptr 0 0] [.cells 160 [.fn (.func 103) [] [.ptr 1 0]],.cells 186 [.map 2],.map (Ya (fun x=>A.int .i64 x) (fun x=>A.int .i64 x) b)] (fun r=>.bool r) r:=by
 refine Qb func135 Z Z Z ?_
 exact G0 10 Z (Cz [1,2] h (k_bi _ _ _) Z fun e d h=>Go 5 Z (Rt h 3 [0,1,2]))
def F_go(n:Nat)(b:List Cutoff)(e:List (Int×Int))(a:Int):Option (Ctl Int (Ctl Unit Int)):=
  (bif decide (a<(b.length:Int))then(idx b a).bind fun c=>(F_dx n c e).bind fun d=>(bif d then some (.done (.done a))else some (.cont (IntKind.i64.wrap (a+1))))else some (.done (.cont ())))
def F_cl(n:Nat)(c:List Cutoff)(d:List (Int×Int)):Option Int:=
  (iter (F_go n c d) n 0:Option (Ctl Unit Int)).bind fun b=>match b with|.cont a=>(some (-1))|.done a=>some a
theorem k_cl(n:Nat)(b:List Cutoff)(a:List (Int×Int))(r:Int)(h:F_cl n b a=some r):
    Csm prog 193 [.rsl 3 (List.map Cutoff.c b),.fn (.func 135) [] [.ptr 0 0]] [.cells 160 [.fn (.func 103) [] [.ptr 1 0]],.cells 186 [.map 2],.map (Ya (fun x=>A.int .i64 x) (fun x=>A.int .i64 x) a)] (fun r=>I r) r:=
 QN (el:=fun x=>.agg (Cutoff.c x)) (g:=fun x=>F_dx n x a) func193 Z Z Z runUnderlying86 sizeOf159 (fun _ _ _ _ d e=>Qn d isAgg159 sizeOf159 e Pts.rp Z Z) call135 (fun _ _ h=>k_dx _ _ _ _ h) h
def F_es(n:Nat)(a:List Cutoff)(b:List (Int×Int)):Option Bool:=
  (F_cl n a b).bind fun c=>some (decide (0<=c))
theorem k_es(n:Nat)(a:List Cutoff)(b:List (Int×Int))(r:Bool)(h:F_es n a b=some r):
    Csm prog 134 [.rsl 3 (List.map Cutoff.c a),.fn (.func 135) [] [.ptr 0 0]] [.cells 160 [.fn (.func 103) [] [.ptr 1 0]],.cells 186 [.map 2],.map (Ya (fun x=>A.int .i64 x) (fun x=>A.int .i64 x) b)] (fun r=>.bool r) r:=by
 refine Qb func134 Z Z Z ?_
 exact G0 9 Z (Cz [0,1,2] h (k_cl _ _ _) Z fun e d h=>Go 5 Z (Rt h 4 [0,1,2]))
def F_cx(n:Nat)(a:List Cutoff)(b:List (Int×Int)):Option Bool:=
  (F_es n a b).bind fun c=>some (!c)
theorem k_cx(n:Nat)(a:List Cutoff)(b:List (Int×Int))(r:Bool)(h:F_cx n a b=some r):
    Csm prog 81 [.rsl 3 (List.map Cutoff.c a),.fn (.func 103) [] [.ptr 0 0]] [.cells 186 [.map 1],.map (Ya (fun x=>A.int .i64 x) (fun x=>A.int .i64 x) b)] (fun r=>.bool r) r:=by
 refine Qb func81 Z Z Z ?_
 exact G0 10 Z (Cz [2,0,1] h (k_es _ _ _) Z fun e d h=>Go 5 Z (Rt h 4 [0,1]))
def F_bc(n:Nat)(j:Course)(k:List (typing_ends×Bool))(c:List Int)(a:(List (Int×Int))×Int):Option (Ctl ((List (Int×Int))×Int) (Ctl (List (Int×Int)) Bool)):=
  (bif decide (a.2<(c.length:Int))then(idx c a.2).bind fun b=>(idx j.Mats b).bind fun d=>((bif ((d.Kind==1) != (a.2==0))then some true else(bif ((d.Kind==3) != (a.2==(IntKind.i64.wrap ((c.length:Int)-1))))then some true else(bif decide (0<a.2)then(idx c (IntKind.i64.wrap (a.2-1))).bind fun e=>(some (QR k ({from_:=e,to_:=b:typing_ends}) false)).bind fun f=>some (!f)else some false))):Option Bool).bind fun g=>(bif g then some (.done (.done false))else(some (QR a.1 b 0)).bind fun h=>(some (Q8 a.1 b (IntKind.i64.wrap (h+1)))).bind fun i=>some (.cont (i,IntKind.i64.wrap (a.2+1))))else some (.done (.cont a.1)))
def F_as(n:Nat)(d:Course)(b:Distance)(e:List (typing_ends×Bool)):Option Bool:=
  (F_l n b.Route).bind fun c=>((bif decide ((IntKind.i64.wrap ((c.length:Int)-1))<1)then some true else some (decide (256<=(IntKind.i64.wrap ((c.length:Int)-1))))):Option Bool).bind fun l=>(bif l then some false else(iter (F_bc n d e c) n ([],0):Option (Ctl (List (Int×Int)) Bool)).bind fun f=>match f with|.cont a=>(((bif decide (0<=b.Extra)then(some (QR a b.Extra 0)).bind fun g=>(bif (g==0)then some true else(idx d.Mats b.Extra).bind fun h=>(bif (h.Kind != 2)then some true else(some (QR e ({from_:=b.Extra,to_:=b.Extra:typing_ends}) false)).bind fun i=>some (!i)))else some false):Option Bool).bind fun j=>(bif j then some false else(F_cx n b.Cutoffs a).bind fun k=>some k))|.done a=>some a)
theorem k_as(n:Nat)(a1:Course)(m:Distance)(y:List (typing_ends×Bool))(r:Bool)(h:F_as n a1 m y=some r):
    Csm prog 44 [.agg (Course.c a1),.agg (Distance.c m),.map 0] [.map (Ya (fun x=>A.agg (typing_ends.c x)) A.bool y)] (fun r=>.bool r) r:=by
 refine Qb func44 Z Z Z ?_
 refine G0 11 Z (Cd [] h (k_l _ _) Z fun r1 al h=>FE Z (Go 13 Z (Bd h fun F p h=>?_)))
 refine Ct F [0,1,2,3] [2,3,4,7,8] (fun F=>[(25,.bool F)]) (fun _=>[]) (fun _=>rfl) ?_ (fun env H g=>?_)
 ·refine G0 4 Z (Is 22 p Z (fun ac p=>?_) (fun ac p=>?_))
  ·exact Go 4 Z (Cl p [0,1,2,3])
  ·exact Go 4 Z (Cl p [0,1,2,3])
 refine Gx 1 Z (TC.le g (Cn Z h (fun ad h=>?_) (fun ad h=>?_)))
 ·exact Gc 7 Z (Rt h 6 [0])
 refine Gc 4 Z ?_
 refine vH YJ ?_
 refine FE Z (Go 12 Z (Bd h fun ae af h=>?_))
 refine CtE (b:=ae) [0,1,2,4,5] [2,3,4] (fun _=>[(9,.ptr 3 0)]) (fun i=>[(3,.cells 186 [.map 4]),(4,.map (Ya (fun x=>A.int .i64 x) (fun x=>A.int .i64 x) i))]) (fun _=>rfl) ?_ (fun i env H ag g=>?_)
 ·refine G0 1 Z ?_
  refine Lp [0,1,2,3,5,4] [2,3,4,7,8,9,27,28] (fun f=>[(29,I f.2)]) (fun f=>[(4,.cells 186 [.map 5]),(5,.map (Ya (fun x=>A.int .i64 x) (fun x=>A.int .i64 x) f.1))]) af (fun _=>rfl) (Lr [0,1,2,3,5,4]) fun f am a q=>?_
  refine G0 6 Z (CnS Z a (fun G a=>?_) (fun G a=>?_))
  ·refine Gc 2 Z (QI a ?_)
   obtain rfl:=Oj q a
   exact Gx 1 Z (Qw Z (Lr [0,1,2,4,5]))
  refine Gc 7 Z (Bd a fun j s a=>?_)
  refine vX (.ptr 3 (Int.toNat f.2*1)) (QZ s Z runUnderlying109 sizeOf3) ?_
  refine vX (I j) (OpV.load Z isAgg3 Z (QD s)) ?_
  refine Go 9 Z (Bd a fun z J a=>Iz J Z (Go 7 Z (Bd a fun t e a=>?_)))
  refine Ct t [0,1,2,3,4,5] [2,3,4,7,8,9,11,27,28,29] (fun t=>[(68,.bool t)]) (fun _=>[]) (fun _=>rfl) ?_ (fun env H g=>?_)
  ·refine G0 5 Z ?_
   refine vX (.bool ((z.Kind==1) != (f.2==0))) (Qeu runUnderlying4) ?_
   refine Go 1 Z (Is 45 e Z (fun L e=>?_) (fun L e=>?_))
   ·exact Go 24 Z (Cl e [0,1,2,3,4,5])
   ·refine Go 5 Z ?_
    refine vV (x:=(.bool ((z.Kind==3) != (f.2==(IntKind.i64.wrap ((r1.length:Int)-1)))))) (Qeu runUnderlying4) ?_ (gT Z)
    refine Go 2 Z (Is 53 e Z (fun M e=>?_) (fun M e=>?_))
    ·exact Go 16 Z (Cl e [0,1,2,3,4,5])
    ·refine Go 3 Z (Is 56 e Z (fun N e=>?_) (fun N e=>?_))
     ·refine Go 4 Z (Bd e fun B u e=>?_)
      refine vX (.ptr 3 (Int.toNat (IntKind.i64.wrap (f.2-1))*1)) (QZ u Z runUnderlying109 sizeOf3) ?_ (gT Z)
      refine vX (I B) (OpV.load Z isAgg3 Z (QD u)) ?_ (gT Z)
      refine Go 2 Z (Bd e fun ah O e=>?_)
      refine vX (.bool ah) (YM (ev:=A.bool) (z0:=false) (k:=({from_:=B,to_:=j:typing_ends})) (l:=y) Qdv O underlying101 zeroValue4 ZR.bool) ?_ (gT Z)
      exact Go 4 Z (Cl e [0,1,2,3,4,5])
     ·exact Go 13 Z (Cl e [0,1,2,3,4,5])
  refine Gx 1 Z (TC.le g (Cn Z a (fun P a=>?_) (fun P a=>?_)))
  ·refine Gc 9 Z (Yh a ?_)
   obtain rfl:=Oj q a
   exact Gx 1 Z (QK (Gx 1 Z (Rt h 6 [0])))
  refine Gc 5 Z (Bd a fun E Q a=>?_)
  refine vX (I E) (YM (ev:=(fun x=>A.int .i64 x)) (z0:=0) (k:=j) (l:=f.1) Qib Q underlying186 zeroValue3 ZR.int) ?_
  refine Go 1 Z (Bd a fun an R a=>?_)
  refine vU (Y7 (ev:=(fun x=>A.int .i64 x)) (k:=j) (v:=(IntKind.i64.wrap (E+1))) (l:=f.1) Qib R Z underlying186) ?_
  exact FE Z (Go 7 Z (QH a (Lr [0,1,2,3,4,5])))
 subst ag
 refine Gx 1 Z (TC.le g (Gc 9 Z (Bd h fun w d h=>?_)))
 refine Ct w [0,2,3,4] [4,9] (fun w=>[(100,.bool w)]) (fun _=>[(2,.cells 186 [.map 3])]) (fun _=>rfl) ?_ (fun env H g=>?_)
 ·refine G0 4 Z (Is 78 d Z (fun T d=>?_) (fun T d=>?_))
  ·refine Go 2 Z (Bd d fun ai V d=>?_)
   refine vX (I ai) (YM (ev:=(fun x=>A.int .i64 x)) (z0:=0) (k:=m.Extra) (l:=i) Qib V underlying186 zeroValue3 ZR.int) ?_ (gT Z)
   refine Go 2 Z (Is 83 d Z (fun W d=>?_) (fun W d=>?_))
   ·exact Go 18 Z (Cl d [0,2,3,4])
   ·refine Go 3 Z (Bd d fun ao X d=>Iz X Z (Go 5 Z (Is 92 d Z (fun Y d=>?_) (fun Y d=>?_))))
    ·exact Go 9 Z (Cl d [0,2,3,4])
    ·refine Go 4 Z (Bd d fun aj aa d=>?_)
     refine vX (.bool aj) (YM (ev:=A.bool) (z0:=false) (k:=({from_:=m.Extra,to_:=m.Extra:typing_ends})) (l:=y) Qdv aa underlying101 zeroValue4 ZR.bool) ?_ (gT Z)
     exact Go 4 Z (Cl d [0,2,3,4])
  ·exact Go 23 Z (Cl d [0,2,3,4])
 refine Gx 1 Z (TC.le g (Cn Z h (fun ab h=>?_) (fun ab h=>?_)))
 ·exact Gc 7 Z (Rt h 6 [0])
 exact Gc 7 Z (Cz [2,3] h (k_cx _ _ _) Z fun aq ak h=>Go 4 Z (Rt h 6 [0]))
def F_bw(n:Nat)(a:Distance)(b:Course)(c:List (typing_ends×Bool)):Option Bool:=
  (F_as n b a c).bind fun d=>some d
theorem k_bw(n:Nat)(a:Distance)(b:Course)(d:List (typing_ends×Bool))(r:Bool)(h:F_bw n a b d=some r):
    Csm prog 43 [.agg (Distance.c a),.ptr 0 0,.ptr 1 0] [.cells 67 (Course.c b),.cells 101 [.map 2],.map (Ya (fun x=>A.agg (typing_ends.c x)) A.bool d)] (fun r=>.bool r) r:=by
 refine Qb func43 Z Z Z ?_
 exact G0 11 Z (Cz [2] h (k_as _ _ _ _) Z fun f e h=>Go 4 Z (Rt h 4 [0,1,2]))
def F_cn(n:Nat)(a:Distance)(b:Course)(c:List (typing_ends×Bool)):Option Bool:=
  (F_bw n a b c).bind fun d=>some (!d)
theorem k_cn(n:Nat)(a:Distance)(b:Course)(d:List (typing_ends×Bool))(r:Bool)(h:F_cn n a b d=some r):
    Csm prog 101 [.agg (Distance.c a),.ptr 0 0] [.cells 108 [.fn (.func 43) [] [.ptr 1 0,.ptr 2 0]],.cells 67 (Course.c b),.cells 101 [.map 3],.map (Ya (fun x=>A.agg (typing_ends.c x)) A.bool d)] (fun r=>.bool r) r:=by
 refine Qb func101 Z Z Z ?_
 exact G0 10 Z (Cz [1,2,3] h (k_bw _ _ _ _) Z fun f e h=>Go 5 Z (Rt h 3 [0,1,2,3]))
def F_fy(n:Nat)(b:List Distance)(e:Course)(f:List (typing_ends×Bool))(a:Int):Option (Ctl Int (Ctl Unit Int)):=
  (bif decide (a<(b.length:Int))then(idx b a).bind fun c=>(F_cn n c e f).bind fun d=>(bif d then some (.done (.done a))else some (.cont (IntKind.i64.wrap (a+1))))else some (.done (.cont ())))
def F_eb(n:Nat)(c:List Distance)(d:Course)(e:List (typing_ends×Bool)):Option Int:=
  (iter (F_fy n c d e) n 0:Option (Ctl Unit Int)).bind fun b=>match b with|.cont a=>(some (-1))|.done a=>some a
theorem k_eb(n:Nat)(d:List Distance)(a:Course)(b:List (typing_ends×Bool))(r:Int)(h:F_eb n d a b=some r):
    Csm prog 151 [.rsl 5 (List.map Distance.c d),.fn (.func 101) [] [.ptr 0 0]] [.cells 108 [.fn (.func 43) [] [.ptr 1 0,.ptr 2 0]],.cells 67 (Course.c a),.cells 101 [.map 3],.map (Ya (fun x=>A.agg (typing_ends.c x)) A.bool b)] (fun r=>I r) r:=
 QN (el:=fun x=>.agg (Distance.c x)) (g:=fun x=>F_cn n x a b) func151 Z Z Z runUnderlying58 sizeOf88 (fun _ _ _ _ e f=>Qn e isAgg88 sizeOf88 f Pts.rp Z Z) call101 (fun _ _ h=>k_cn _ _ _ _ _ h) h
def F_en(n:Nat)(a:List Distance)(b:Course)(c:List (typing_ends×Bool)):Option Bool:=
  (F_eb n a b c).bind fun d=>some (decide (0<=d))
theorem k_en(n:Nat)(a:List Distance)(b:Course)(d:List (typing_ends×Bool))(r:Bool)(h:F_en n a b d=some r):
    Csm prog 100 [.rsl 5 (List.map Distance.c a),.fn (.func 101) [] [.ptr 0 0]] [.cells 108 [.fn (.func 43) [] [.ptr 1 0,.ptr 2 0]],.cells 67 (Course.c b),.cells 101 [.map 3],.map (Ya (fun x=>A.agg (typing_ends.c x)) A.bool d)] (fun r=>.bool r) r:=by
 refine Qb func100 Z Z Z ?_
 exact G0 9 Z (Cz [0,1,2,3] h (k_eb _ _ _ _) Z fun f e h=>Go 5 Z (Rt h 4 [0,1,2,3]))
def F_ap(n:Nat)(a:List Distance)(b:Course)(c:List (typing_ends×Bool)):Option Bool:=
  (F_en n a b c).bind fun d=>some (!d)
theorem k_ap(n:Nat)(a:List Distance)(b:Course)(d:List (typing_ends×Bool))(r:Bool)(h:F_ap n a b d=some r):
    Csm prog 42 [.rsl 5 (List.map Distance.c a),.fn (.func 43) [] [.ptr 0 0,.ptr 1 0]] [.cells 67 (Course.c b),.cells 101 [.map 2],.map (Ya (fun x=>A.agg (typing_ends.c x)) A.bool d)] (fun r=>.bool r) r:=by
 refine Qb func42 Z Z Z ?_
 exact G0 10 Z (Cz [3,0,1,2] h (k_en _ _ _ _) Z fun f e h=>Go 5 Z (Rt h 4 [0,1,2]))
def F_fc(n:Nat)(c:Course)(a:(List (typing_ends×Bool))×Int):Option (Ctl ((List (typing_ends×Bool))×Int) (List (typing_ends×Bool))):=
  (bif decide (a.2<(c.Legs.length:Int))then(idx c.Legs a.2).bind fun b=>(some (Q8 a.1 ({from_:=b.From,to_:=b.To:typing_ends}) true)).bind fun d=>some (.cont (d,IntKind.i64.wrap (a.2+1)))else some (.done a.1))
def F_r(n:Nat)(a:Course):Option Int:=
  (F_al n a).bind fun e=>(bif (!e)then some 2 else(F_cc n a).bind fun f=>(bif (!f)then some 70 else(F_cg n a).bind fun g=>(bif (!g)then some 71 else(F_an n a.Ties).bind fun b=>(bif (b != 0)then some b else(iter (F_fc n a) n ([],0):Option (List (typing_ends×Bool))).bind fun c=>(F_ap n a.Distances a c).bind fun d=>(bif (!d)then some 72 else some 0)))))
theorem k_r(n:Nat)(p:Course)(r:Int)(h:F_r n p=some r):
    Csm prog 17 [.agg (Course.c p)] [] (fun r=>I r) r:=by
 refine Qb func17 Z Z Z ?_
 refine G0 11 Z (Cz [] h (k_al _ _) Z fun N B h=>Go 4 Z (Cn Z h (fun q h=>?_) (fun q h=>?_)))
 ·exact Gc 8 Z (Rt h 2 [])
 refine Gc 3 Z (Cz [] h (k_cc _ _) Z fun O E h=>Go 4 Z (Cn Z h (fun s h=>?_) (fun s h=>?_)))
 ·exact Gc 8 Z (Rt h 2 [])
 refine Gc 3 Z (Cz [] h (k_cg _ _) Z fun P F h=>Go 4 Z (Cn Z h (fun t h=>?_) (fun t h=>?_)))
 ·exact Gc 8 Z (Rt h 2 [])
 refine Gc 8 Z (Cz [] h (k_an _ _) Z fun Q G h=>Go 9 Z (Cn Z h (fun u h=>?_) (fun u h=>?_)))
 ·exact Gc 8 Z (Rt h 2 [])
 refine Gc 4 Z ?_
 refine vH YJ ?_
 refine FE Z (Go 9 Z (Lm Z (Go 3 Z (Bd h fun d w h=>?_))))
 refine Ct d [0,1,2] [1] (fun _=>[(3,.ptr 1 0)]) (fun d=>[(1,.cells 101 [.map 2]),(2,.map (Ya (fun x=>A.agg (typing_ends.c x)) A.bool d))]) (fun _=>rfl) ?_ (fun env H y=>?_)
 ·refine G0 1 Z ?_
  refine Lp [0,2,1] [1,3,26,27] (fun b=>[(28,I b.2)]) (fun b=>[(1,.cells 101 [.map 2]),(2,.map (Ya (fun x=>A.agg (typing_ends.c x)) A.bool b.1))]) w (fun _=>rfl) (Lr [0,2,1]) fun b J a f=>?_
  refine G0 6 Z (CnS Z a (fun g a=>?_) (fun g a=>?_))
  ·refine Gc 2 Z (QI a ?_)
   obtain rfl:=Oj f a
   exact Gx 1 Z (Q7 (Lr [0,1,2]))
  refine Gc 6 Z (Bd a fun e i a=>Iz i Z (Go 12 Z (Bd a fun L j a=>?_)))
  refine vU (Y7 (ev:=A.bool) (k:=({from_:=e.From,to_:=e.To:typing_ends})) (v:=true) (l:=b.1) Qdv j Z underlying101) ?_
  exact FE Z (Go 7 Z (QH a (Lr [0,1,2])))
 refine Gx 1 Z (TC.le y (Gc 6 Z (Cz [0,1,2] h (k_ap _ _ _ _) Z fun M z h=>Go 3 Z (Cn Z h (fun m h=>?_) (fun m h=>?_)))))
 ·exact Gc 7 Z (Rt h 2 [])
 exact Gc 8 Z (Rt h 2 [])
def F_ck(n:Nat)(a:Course)(b:List Fact):Option Unit:=
  some ()
theorem k_ck(n:Nat)(a:Course)(b:List Fact)(r:Unit)(h:F_ck n a b=some r):
    C prog 37 [.agg (Course.c a),.rsl 57 (List.map Fact.c b)] [] (RQ (fun _=>.fn (.func 61) [] [.ptr 0 0,.ptr 1 0]) (fun _=>[.cells 22 [.rsl 57 (List.map Fact.c b)],.cells 67 (Course.c a)]) r):=by
 refine Qb func37 Z Z Z ?_
 refine G0 3 Z ?_
 refine vH (OpH.box Z Z Z Z Z) ?_
 exact FE Z (Go 10 Z (Rt h 4 [1,0]))
end Go.Sw
