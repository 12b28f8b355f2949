/- What the functions compute that ChipsStartersSpec reaches, and that their calls refine it (part 4 of 4). -/
import Derived.Test.YtkjlhfabbbomjaaGreatDoorW18St3
set_option linter.unusedVariables false
set_option linter.unusedSimpArgs false
set_option maxRecDepth 100000
set_option maxHeartbeats 4000000
namespace Go.Sw
open Go.Proofs Tryz
def F_dc(n:Nat)(g:List Fact)(b:(List Fact)×Int)(a:Int):Option (Ctl Int Int):=
  ((bif decide (a<(b.1.length:Int))then(idx b.1 a).bind fun c=>(idx g b.2).bind fun d=>(F_dk n c d).bind fun e=>some (decide (e<0))else some false):Option Bool).bind fun f=>(bif f then some (.cont (IntKind.i64.wrap (a+1)))else some (.done a))
def F_jq(n:Nat)(c:List Fact)(a:(List Fact)×Int):Option (Ctl ((List Fact)×Int) (List Fact)):=
  (bif decide (a.2<(c.length:Int))then((idx c a.2).bind fun d=>(F_bt n d).bind fun e=>(bif (e != 0)then some a.1 else(iter (F_dc n c a) n 0:Option Int).bind fun b=>((bif decide (b<(a.1.length:Int))then(idx a.1 b).bind fun f=>(idx c a.2).bind fun g=>some (f==g)else some false):Option Bool).bind fun h=>(bif h then some a.1 else(slc a.1 0 b).bind fun i=>(app ([]:List Fact) i).bind fun j=>(idx c a.2).bind fun k=>(app j [k]).bind fun l=>(slc a.1 b (a.1.length:Int)).bind fun m=>(app l m).bind fun p=>some p)):Option (List Fact)).bind fun q=>some (.cont (q,IntKind.i64.wrap (a.2+1)))else some (.done a.1))
def F_bj(n:Nat)(b:List Fact):Option (List Fact):=
  (iter (F_jq n b) n (([]:List Fact),0):Option (List Fact)).bind fun a=>some a
theorem k_bj(n:Nat)(Q:List Fact)(r:List Fact)(h:F_bj n Q=some r):
    C prog 35 [.rsl 57 (List.map Fact.c Q)] [] (RQ (fun r=>.osl 0 0 r.length 57) (fun r=>[.row 81 57 (List.map Fact.c r)]) r):=by
 refine Qb func35 Z Z Z ?_
 refine G0 7 Z ?_
 refine vH (OpH.lit (xs:=[]) (es:=List.map Fact.c []) Qbw Z Z Z Z Z trivial Z Z) ?_
 refine FE Z (Go 9 Z (Bd h fun E aj h=>?_))
 refine Ct E [0] [] (fun E=>[(3,.osl 0 0 E.length 57)]) (fun E=>[(0,.row 81 57 (List.map Fact.c E))]) (fun _=>rfl) ?_ (fun env H u=>?_)
 ·refine G0 1 Z ?_
  refine Lp [0] [0] (fun i=>[(3,.osl 0 0 i.1.length 57),(4,I i.2)]) (fun i=>[(0,.row 81 57 (List.map Fact.c i.1))]) aj (fun _=>rfl) (Lr [0]) fun i ao s T=>?_
  refine G0 5 Z (Lm Z (Go 3 Z (Ys Z s (fun V s=>?_) (fun V s=>?_))))
  ·refine Gc 2 Z (Qm s ?_)
   obtain rfl:=Oj T s
   exact Gx 1 Z (QA (Lr [0]))
  refine Gc 3 Z (Bd s fun F g s=>?_)
  refine Ct F [0] [0,4] (fun F=>[(3,.osl 0 0 F.length 57)]) (fun F=>[(0,.row 81 57 (List.map Fact.c F))]) (fun _=>rfl) ?_ (fun env H u=>?_)
  ·refine G0 6 Z (Bd g fun aq W g=>Iz W Z (Go 1 Z (Cz [] g (k_bt _ _) Z fun ar am g=>Go 3 Z (Cn Z g (fun X g=>?_) (fun X g=>?_)))))
   ·exact Gc 3 Z (Cl g [0])
   refine Gc 8 Z (Bd g fun j ak g=>?_)
   refine Ct j [0] [0,3,4] (fun j=>[(5,I j)]) (fun _=>[]) (fun _=>rfl) ?_ (fun env H u=>?_)
   ·refine G0 1 Z ?_
    refine Lp [0] [0,3,4] (fun G=>[(5,I G)]) (fun _=>[]) ak (fun _=>rfl) (Lr [0]) fun G au t Y=>?_
    refine G0 2 Z (Bd t fun J k t=>?_)
    refine Ct J [0] [0,3,4,5] (fun J=>[(34,.bool J)]) (fun _=>[]) (fun _=>rfl) ?_ (fun env H u=>?_)
    ·refine G0 0 Z (DSs 13 Z (D 5 Z (Qdg 4 k Z Z Z (fun aa k=>?_) (fun aa k=>?_))))
     ·refine D 2 Z ?_
      obtain⟨al,O,k⟩:=Y3 k
      refine DS.v (x:=(.ptr 0 (Int.toNat G*57))) (QK O Z runUnderlying34 sizeOf81) ?_ (hg:=(gT Z))
      refine DS.v (x:=(.agg (Fact.c al))) (Qo Z isAgg81 sizeOf81 Z (Qw O) Z Z) ?_ (hg:=(gT Z))
      refine D 2 Z ?_
      obtain⟨f,ab,k⟩:=Y3 k
      refine DS.v (x:=(.rp [I f.Crew,I f.No,I f.At,I f.Kind,I f.Starter.Bib,I f.Starter.Distance,I f.Starter.Wave,I f.Starter.Slot,I f.Starter.Age,I f.Starter.Chip,I f.Starter.Team,I f.Starter.Lot,I f.Read.Mat,I f.Read.Epoch,I f.Read.Chip,I f.Read.Local,I f.Beacon.Mat,I f.Beacon.Epoch,I f.Beacon.Local,I f.Beacon.True,I f.Beacon.Err,I f.Sync.MatA,I f.Sync.EpochA,I f.Sync.LocalA,I f.Sync.MatB,I f.Sync.EpochB,I f.Sync.LocalB,I f.Sync.Min,I f.Sync.Max,I f.Hand.Bib,I f.Hand.Position,I f.Hand.Lo,I f.Hand.Hi,I f.Silence.Mat,I f.Silence.Epoch,I f.Silence.Lo,I f.Silence.Hi,I f.Pair.A,I f.Pair.B,I f.Report.Case,I f.Report.Bib,I f.Report.Offence,I f.Report.Position,I f.Protest.Case,I f.Protest.By,I f.Protest.Fee,I f.Protest.Form,I f.Ruling.Case,I f.Ruling.Instance,I f.Ruling.Kind,I f.Ruling.Bib,I f.Ruling.Position,I f.Ruling.Amount,I f.Appeal.Case,.bool f.Appeal.Suspends,I f.Void.Crew,I f.Void.No])) (Qdb (e:=Fact.c) (l:=Q) (v:=f) ab runUnderlying34 sizeOf81) ?_ (hg:=(gT Z))
      exact D 1 Z (DS.done Z (Cz [] k (k_dk _ _ _) Z fun av an k=>Go 3 Z (Cl k [0])))
     ·exact D 8 Z (DS.done Z (Go 4 Z (Cl k [0])))
    refine Gx 1 Z (TC.le u (Ys Z t (fun ac t=>?_) (fun ac t=>?_)))
    ·refine Gc 2 Z (Qm t ?_)
     obtain rfl:=Oj Y t
     exact Gx 1 Z (QA (Lr [0]))
    exact Gc 9 Z (Qj t (Lr [0]))
   refine Gx 1 Z (TC.le u (Gc 2 Z (Bd g fun L m g=>?_)))
   refine Ct L [0] [0,3,4,5] (fun L=>[(51,.bool L)]) (fun _=>[]) (fun _=>rfl) ?_ (fun env H u=>?_)
   ·refine G0 0 Z (DSs 13 Z (D 5 Z (Qdg 4 m Z Z Z (fun ad m=>?_) (fun ad m=>?_))))
    ·refine D 2 Z ?_
     obtain⟨M,P,m⟩:=Y3 m
     refine DS.v (x:=(.ptr 0 (Int.toNat j*57))) (QK P Z runUnderlying34 sizeOf81) ?_ (hg:=(gT Z))
     refine DS.v (x:=(.agg (Fact.c M))) (Qo Z isAgg81 sizeOf81 Z (Qw P) Z Z) ?_ (hg:=(gT Z))
     refine D 2 Z ?_
     obtain⟨d,ae,m⟩:=Y3 m
     refine DS.v (x:=(.rp [I d.Crew,I d.No,I d.At,I d.Kind,I d.Starter.Bib,I d.Starter.Distance,I d.Starter.Wave,I d.Starter.Slot,I d.Starter.Age,I d.Starter.Chip,I d.Starter.Team,I d.Starter.Lot,I d.Read.Mat,I d.Read.Epoch,I d.Read.Chip,I d.Read.Local,I d.Beacon.Mat,I d.Beacon.Epoch,I d.Beacon.Local,I d.Beacon.True,I d.Beacon.Err,I d.Sync.MatA,I d.Sync.EpochA,I d.Sync.LocalA,I d.Sync.MatB,I d.Sync.EpochB,I d.Sync.LocalB,I d.Sync.Min,I d.Sync.Max,I d.Hand.Bib,I d.Hand.Position,I d.Hand.Lo,I d.Hand.Hi,I d.Silence.Mat,I d.Silence.Epoch,I d.Silence.Lo,I d.Silence.Hi,I d.Pair.A,I d.Pair.B,I d.Report.Case,I d.Report.Bib,I d.Report.Offence,I d.Report.Position,I d.Protest.Case,I d.Protest.By,I d.Protest.Fee,I d.Protest.Form,I d.Ruling.Case,I d.Ruling.Instance,I d.Ruling.Kind,I d.Ruling.Bib,I d.Ruling.Position,I d.Ruling.Amount,I d.Appeal.Case,.bool d.Appeal.Suspends,I d.Void.Crew,I d.Void.No])) (Qdb (e:=Fact.c) (l:=Q) (v:=d) ae runUnderlying34 sizeOf81) ?_ (hg:=(gT Z))
     refine D 1 Z (DS.done Z ?_)
     refine vX (.bool (M==d)) (Qb4 (p:=M) (q:=d) QiZ Z Z) ?_ (gT Z)
     exact Go 2 Z (Cl m [0])
    ·exact D 8 Z (DS.done Z (Go 3 Z (Cl m [0])))
   refine Gx 1 Z (TC.le u (Cn Z g (fun af g=>?_) (fun af g=>?_)))
   ·exact Gc 3 Z (Cl g [0])
   refine Gc 2 Z ?_
   obtain⟨aw,w,g⟩:=Y3 g
   obtain⟨R,ag,g⟩:=Y3 g
   obtain⟨a,z,g⟩:=Y3 g
   obtain⟨N,ah,g⟩:=Y3 g
   obtain⟨ax,y,g⟩:=Y3 g
   refine QaG 14 0 [52,53,54,55,56,57,58,59,60,61,62,63,64,65] [true,false,false,false,true,false,false,false,false,false,true,false,false,false] [[],[],[],[],[0],[],[],[],[],[],[0,4],[],[],[]] [[],[0],[0,4],[0,4,10]] [[(0,1)],[(0,0),(1,1),(2,2),(3,3)],[(0,0),(1,1),(2,2),(3,3)],[(0,0),(1,1),(2,2),(3,3)],[(1,2)],[(0,0),(1,1),(2,2),(3,3)],[(0,0),(1,1),(2,2),(3,3)],[(0,0),(1,1),(2,2),(3,3)],[(0,0),(1,1),(2,2),(3,3)],[(0,0),(1,1),(2,2),(3,3)],[(2,3)],[(0,0),(1,1),(2,2),(3,3)],[(0,0),(1,1),(2,2),(3,3)],[(0,0),(1,1),(2,2),(3,3)]] [.osl 1 0 (([]:List Fact).length) 57,.osl 0 0 i.1.length 57,I j,.osl 0 (0+Int.toNat 0) (Int.toNat j-Int.toNat 0) 57,.osl 2 0 R.length 57,.rsl 57 (List.map Fact.c Q),I i.2,.rp [I a.Crew,I a.No,I a.At,I a.Kind,I a.Starter.Bib,I a.Starter.Distance,I a.Starter.Wave,I a.Starter.Slot,I a.Starter.Age,I a.Starter.Chip,I a.Starter.Team,I a.Starter.Lot,I a.Read.Mat,I a.Read.Epoch,I a.Read.Chip,I a.Read.Local,I a.Beacon.Mat,I a.Beacon.Epoch,I a.Beacon.Local,I a.Beacon.True,I a.Beacon.Err,I a.Sync.MatA,I a.Sync.EpochA,I a.Sync.LocalA,I a.Sync.MatB,I a.Sync.EpochB,I a.Sync.LocalB,I a.Sync.Min,I a.Sync.Max,I a.Hand.Bib,I a.Hand.Position,I a.Hand.Lo,I a.Hand.Hi,I a.Silence.Mat,I a.Silence.Epoch,I a.Silence.Lo,I a.Silence.Hi,I a.Pair.A,I a.Pair.B,I a.Report.Case,I a.Report.Bib,I a.Report.Offence,I a.Report.Position,I a.Protest.Case,I a.Protest.By,I a.Protest.Fee,I a.Protest.Form,I a.Ruling.Case,I a.Ruling.Instance,I a.Ruling.Kind,I a.Ruling.Bib,I a.Ruling.Position,I a.Ruling.Amount,I a.Appeal.Case,.bool a.Appeal.Suspends,I a.Void.Crew,I a.Void.No],.agg (Fact.c a),.rsl 57 (List.map Fact.c [a]),.osl 3 0 N.length 57,.osl 0 0 i.1.length 57,I j,.osl 0 (0+Int.toNat j) (Int.toNat (i.1.length:Int)-Int.toNat j) 57] [[.row 81 57 (List.map Fact.c i.1)],[.row 81 57 (List.map Fact.c i.1),.row 81 57 (List.map Fact.c ([]:List Fact))],[.row 81 57 (List.map Fact.c i.1),.dead,.row 81 57 (List.map Fact.c R)],[.row 81 57 (List.map Fact.c i.1),.dead,.dead,.row 81 57 (List.map Fact.c N)]] ([.row 81 57 (List.map Fact.c i.1),.dead,.dead,.row 81 57 (List.map Fact.c N)]) draws Z Z Z Z Z Z Z ?_ Z ?_
   ·refine Qic.cons ?_ (Qic.cons (Qc (v0 Z Z) (Qc (v0 Z Z) (Qc (v0 Z Z) (Qc (v0 Z Z) (Qe))))) (Qic.cons (Qc (v0 Z Z) (Qc (v0 Z Z) (Qc (v0 Z Z) (Qc (v0 Z Z) (Qe))))) (Qic.cons ?_ (Qic.cons ?_ (Qic.cons (Qc (v0 Z Z) (Qc (v0 Z Z) (Qc (v0 Z Z) (Qc (v0 Z Z) (Qe))))) (Qic.cons (Qc (v0 Z Z) (Qc (v0 Z Z) (Qc (v0 Z Z) (Qc (v0 Z Z) (Qe))))) (Qic.cons ?_ (Qic.cons (Qc (v0 Z Z) (Qc (v0 Z Z) (Qc (v0 Z Z) (Qc (v0 Z Z) (Qe))))) (Qic.cons ?_ (Qic.cons ?_ (Qic.cons (Qc (v0 Z Z) (Qc (v0 Z Z) (Qc (v0 Z Z) (Qc (v0 Z Z) (Qe))))) (Qic.cons (Qc (v0 Z Z) (Qc (v0 Z Z) (Qc (v0 Z Z) (Qc (v0 Z Z) (Qe))))) (Qic.cons ?_ (Qic.nil))))))))))))))
    ·refine Qc ?_ (Qe)
     ·refine Om1 Z sN ?_
      refine vH (OpH.lit (xs:=[]) (es:=List.map Fact.c []) Qbw Z Z Z Z Z trivial Z Z) ?_
      exact FE Z Wp
    ·refine Qc ?_ (Qc ?_ (Qc ?_ (Qc ?_ (Qe))))
     ·refine Om Z (sD 1 (sD 2 sN)) ?_
      refine vX (.osl 0 (0+Int.toNat 0) (Int.toNat j-Int.toNat 0) 57) (QD (l:=i.1) w runUnderlying34 sizeOf81 (.inl ⟨Z,Z⟩) (.inr ⟨_,Z,Z⟩)) ?_
      exact Wp
     ·refine Om Z (sD 1 (sD 2 sN)) ?_
      refine vX (.osl 0 (0+Int.toNat 0) (Int.toNat j-Int.toNat 0) 57) (QD (l:=i.1) w runUnderlying34 sizeOf81 (.inl ⟨Z,Z⟩) (.inr ⟨_,Z,Z⟩)) ?_
      exact Wp
     ·refine Om Z (sD 1 (sD 2 sN)) ?_
      refine vX (.osl 0 (0+Int.toNat 0) (Int.toNat j-Int.toNat 0) 57) (QD (l:=i.1) w runUnderlying34 sizeOf81 (.inl ⟨Z,Z⟩) (.inr ⟨_,Z,Z⟩)) ?_
      exact Wp
     ·refine Om Z (sD 1 (sD 2 sN)) ?_
      refine vX (.osl 0 (0+Int.toNat 0) (Int.toNat j-Int.toNat 0) 57) (QD (l:=i.1) w runUnderlying34 sizeOf81 (.inl ⟨Z,Z⟩) (.inr ⟨_,Z,Z⟩)) ?_
      exact Wp
    ·refine Qc ?_ (Qe)
     ·refine Om1 Z (sD 0 (sD 3 sN)) ?_
      refine vH (Ql (e:=Fact.c) ag Qbw runUnderlying34 (Qdy (b:=0) w)) ?_
      exact FE Z Wp
    ·refine Qc ?_ (Qc ?_ (Qc ?_ (Qc ?_ (Qe))))
     ·refine Om Z (sD 5 (sD 6 sN)) ?_
      exact Ix z runUnderlying34 sizeOf81 Z Wp
     ·refine Om Z (sD 5 (sD 6 sN)) ?_
      exact Ix z runUnderlying34 sizeOf81 Z Wp
     ·refine Om Z (sD 5 (sD 6 sN)) ?_
      exact Ix z runUnderlying34 sizeOf81 Z Wp
     ·refine Om Z (sD 5 (sD 6 sN)) ?_
      exact Ix z runUnderlying34 sizeOf81 Z Wp
    ·refine Qc ?_ (Qc ?_ (Qc ?_ (Qc ?_ (Qe))))
     ·refine Om Z (sD 8 sN) ?_
      refine vH (Q4 (xs:=[.tmp 60]) (es:=List.map Fact.c [a]) Qbw Z Z Z Z Z ⟨Z,trivial⟩ Z Z) ?_
      exact FE Z Wp
     ·refine Om Z (sD 8 sN) ?_
      refine vH (Q4 (xs:=[.tmp 60]) (es:=List.map Fact.c [a]) Qbw Z Z Z Z Z ⟨Z,trivial⟩ Z Z) ?_
      exact FE Z Wp
     ·refine Om Z (sD 8 sN) ?_
      refine vH (Q4 (xs:=[.tmp 60]) (es:=List.map Fact.c [a]) Qbw Z Z Z Z Z ⟨Z,trivial⟩ Z Z) ?_
      exact FE Z Wp
     ·refine Om Z (sD 8 sN) ?_
      refine vH (Q4 (xs:=[.tmp 60]) (es:=List.map Fact.c [a]) Qbw Z Z Z Z Z ⟨Z,trivial⟩ Z Z) ?_
      exact FE Z Wp
    ·refine Qc ?_ (Qe)
     ·refine Om1 Z (sD 4 (sD 9 sN)) ?_
      refine vH (Ql (e:=Fact.c) ah Qbw runUnderlying34 QbL) ?_
      exact FE Z Wp
    ·refine Qc ?_ (Qc ?_ (Qc ?_ (Qc ?_ (Qe))))
     ·refine Om Z (sD 11 (sD 12 sN)) ?_
      refine vX (.osl 0 (0+Int.toNat j) (Int.toNat (i.1.length:Int)-Int.toNat j) 57) (QD (l:=i.1) y runUnderlying34 sizeOf81 (.inr ⟨_,Z,Z⟩) (.inl ⟨Z,Z⟩)) ?_
      exact Wp
     ·refine Om Z (sD 11 (sD 12 sN)) ?_
      refine vX (.osl 0 (0+Int.toNat j) (Int.toNat (i.1.length:Int)-Int.toNat j) 57) (QD (l:=i.1) y runUnderlying34 sizeOf81 (.inr ⟨_,Z,Z⟩) (.inl ⟨Z,Z⟩)) ?_
      exact Wp
     ·refine Om Z (sD 11 (sD 12 sN)) ?_
      refine vX (.osl 0 (0+Int.toNat j) (Int.toNat (i.1.length:Int)-Int.toNat j) 57) (QD (l:=i.1) y runUnderlying34 sizeOf81 (.inr ⟨_,Z,Z⟩) (.inl ⟨Z,Z⟩)) ?_
      exact Wp
     ·refine Om Z (sD 11 (sD 12 sN)) ?_
      refine vX (.osl 0 (0+Int.toNat j) (Int.toNat (i.1.length:Int)-Int.toNat j) 57) (QD (l:=i.1) y runUnderlying34 sizeOf81 (.inr ⟨_,Z,Z⟩) (.inl ⟨Z,Z⟩)) ?_
      exact Wp
   refine Bd g fun ay ai g=>?_
   refine vH (Ql (e:=Fact.c) ai Qbw runUnderlying34 (Qdy (b:=0) y)) ?_
   exact FE Z (Go 3 Z (Cl g [4]))
  exact Gx 1 Z (TC.le u (Gc 5 Z (Qj s (Lr [0]))))
 exact Gx 1 Z (TC.le u (Gc 7 Z (Rt h 2 [0])))
def F_in(n:Nat)(b:List Starter)(d:Int)(a:Int):Option (Ctl Int (Ctl Unit Int)):=
  (bif decide (a<(b.length:Int))then(idx b a).bind fun c=>(bif (c.Bib==d)then some (.done (.done a))else some (.cont (IntKind.i64.wrap (a+1))))else some (.done (.cont ())))
def F_ao(n:Nat)(b:List Starter)(c:Int):Option Int:=
  (iter (F_in n b c) n 0:Option (Ctl Unit Int)).bind fun d=>match d with|.cont a=>(some (-1))|.done a=>some a
theorem k_ao(n:Nat)(j:List Starter)(k:Int)(r:Int)(h:F_ao n j k=some r):
    Csm prog 36 [.rsl 8 (List.map Starter.c j),I k] [] (fun r=>I r) r:=by
 refine Qb func36 Z Z Z ?_
 refine G0 11 Z (Bd h fun p q h=>?_)
 refine CtE (b:=p) [] [] (fun _=>[]) (fun _=>[]) (fun _=>rfl) ?_ (fun s env H l m=>?_)
 ·refine G0 1 Z ?_
  refine Lp [] [0,1] (fun e=>[(5,I e)]) (fun _=>[]) q (fun _=>rfl) (Lr []) fun e t a d=>?_
  refine G0 5 Z (Lm Z (Go 3 Z (Ys Z a (fun f a=>?_) (fun f a=>?_))))
  ·refine Gc 2 Z (Qm a ?_)
   obtain rfl:=Oj d a
   exact Gx 1 Z (Qp Z (Lr []))
  refine Gc 8 Z (Bd a fun u g a=>Iz g Z (Go 6 Z (Cn Z a (fun i a=>?_) (fun i a=>?_))))
  ·refine Gc 9 Z (Qx a ?_)
   obtain rfl:=Oj d a
   exact Gx 1 Z (Qq (Gx 1 Z (Rt h 4 [])))
  exact Gc 8 Z (Qj a (Lr []))
 subst l
 exact Gx 1 Z (TC.le m (Gc 6 Z (Rt h 4 [])))
def F_ek(n:Nat)(b:(List Starter)×Int)(c:Fact)(a:Int):Option (Ctl Int Int):=
  ((bif decide (a<(b.1.length:Int))then(idx b.1 a).bind fun d=>some (decide (d.Bib<c.Starter.Bib))else some false):Option Bool).bind fun e=>(bif e then some (.cont (IntKind.i64.wrap (a+1)))else some (.done a))
def F_iy(n:Nat)(p:Course)(d:List Fact)(a:(List Starter)×Int):Option (Ctl ((List Starter)×Int) (List Starter)):=
  (bif decide (a.2<(d.length:Int))then((idx d a.2).bind fun b=>((idx d a.2).bind fun e=>(bif (e.Kind != 1)then some true else(bif decide ((p.Distances.length:Int)<=b.Starter.Distance)then some true else(bif decide ((p.Waves.length:Int)<=b.Starter.Wave)then some true else(F_ao n a.1 b.Starter.Bib).bind fun f=>some (decide (0<=f))))):Option Bool).bind fun g=>(bif g then some a.1 else(iter (F_ek n a b) n 0:Option Int).bind fun c=>(slc a.1 0 c).bind fun h=>(app ([]:List Starter) h).bind fun i=>(app i [b.Starter]).bind fun j=>(slc a.1 c (a.1.length:Int)).bind fun k=>(app j k).bind fun l=>some l):Option (List Starter)).bind fun m=>some (.cont (m,IntKind.i64.wrap (a.2+1)))else some (.done a.1))
def F_ax(n:Nat)(b:List Starter)(c:Int)(a:Int):Option (Ctl Int (Ctl Unit (Ctl Int (Ctl Unit ((List Starter)×Int))))):=
  (bif decide (a<c)then(idx b c).bind fun d=>(idx b a).bind fun e=>(bif (d.Chip==e.Chip)then some (.done (.done (.done (.done ([],180)))))else some (.cont (IntKind.i64.wrap (a+1))))else some (.done (.cont ())))
def F_cu(n:Nat)(c:List Starter)(a:Int):Option (Ctl Int (Ctl Unit ((List Starter)×Int))):=
  (bif decide (a<(c.length:Int))then(iter (F_ax n c a) n 0:Option (Ctl Unit (Ctl Int (Ctl Unit ((List Starter)×Int))))).bind fun d=>match d with|.cont b=>(some (.cont (IntKind.i64.wrap (a+1))))|.done b=>some b else some (.done (.cont ())))
def F_br(n:Nat)(d:Course)(f:List Fact):Option ((List Starter)×Int):=
  (F_ap n d).bind fun e=>(bif (e != 0)then some ([],e)else(F_bj n f).bind fun g=>(iter (F_iy n d g) n (([]:List Starter),0):Option (List Starter)).bind fun a=>(bif decide (4000<(a.length:Int))then some ([],2)else(iter (F_cu n a) n 0:Option (Ctl Unit ((List Starter)×Int))).bind fun c=>match c with|.cont b=>(some (a,0))|.done b=>some b))
theorem k_br(n:Nat)(L:Course)(a2:List Fact)(r:(List Starter)×Int)(h:F_br n L a2=some r):
    C prog 14 [.agg (Course.c L),.rsl 57 (List.map Fact.c a2)] [] (RQ (fun r=>.tup [.osl 0 0 r.1.length 8,I r.2]) (fun r=>[.row 50 8 (List.map Starter.c r.1)]) r):=by
 refine Qb func14 Z Z Z ?_
 refine G0 10 Z (Cz [] h (k_ap _ _) Z fun r1 br h=>Go 10 Z (Cn Z h (fun bf h=>?_) (fun bf h=>?_)))
 ·refine Gc 9 Z ?_
  obtain rfl:=Oi h
  refine R2 4 5 Z Z ?_
  refine Le.trans (Le.phantom (s:=4) (k:=8) (t:=50) (Nat.le_of_ble_eq_true Z) Z) ?_
  exact Lr [1]
 refine Gc 5 Z (Cd [] h (k_bj _ _) Z fun Y bs h=>FE Z (Go 5 Z ?_))
 refine vH (OpH.lit (xs:=[]) (es:=List.map Starter.c []) QbH Z Z Z Z Z trivial Z Z) ?_
 refine FE Z (Go 9 Z (Bd h fun B av h=>?_))
 refine Ct B [2] [] (fun B=>[(7,.osl 0 0 B.length 8)]) (fun B=>[(0,.row 50 8 (List.map Starter.c B))]) (fun _=>rfl) ?_ (fun env H p=>?_)
 ·refine G0 1 Z ?_
  refine Lp [1,0,2] [1,2] (fun a=>[(7,.osl 2 0 a.1.length 8),(8,I a.2)]) (fun a=>[(2,.row 50 8 (List.map Starter.c a.1))]) av (fun _=>rfl) (Lr [1,0,2]) fun a bj q ac=>?_
  refine G0 9 Z (Ys Z q (fun ad q=>?_) (fun ad q=>?_))
  ·refine Gc 2 Z (Qm q ?_)
   obtain rfl:=Oj ac q
   exact Gx 1 Z (QA (Lr [2]))
  refine Gc 3 Z (Bd q fun E d q=>?_)
  refine Ct E [0,1,2] [1,2,8] (fun E=>[(7,.osl 2 0 E.length 8)]) (fun E=>[(2,.row 50 8 (List.map Starter.c E))]) (fun _=>rfl) ?_ (fun env H p=>?_)
  ·refine G0 5 Z (Bd d fun j P d=>?_)
   refine vX (.ptr 0 (Int.toNat a.2*57)) (QK P Z runUnderlying34 sizeOf81) ?_
   refine Fp QmX Z ?_
   refine vX (.agg (Starter.c j.Starter)) (Qo Z isAgg50 sizeOf50 Z (Qag P) Z Z) ?_
   refine Go 6 Z (Bd d fun M g d=>?_)
   refine Ct M [0,1,2,3] [1,2,7,8,9] (fun M=>[(60,.bool M)]) (fun _=>[]) (fun _=>rfl) ?_ (fun env H p=>?_)
   ·refine G0 3 Z (Bd g fun aw Q g=>?_)
    refine vX (.ptr 0 (Int.toNat a.2*57)) (QK Q Z runUnderlying34 sizeOf81) ?_
    refine Fp QjK Z ?_
    refine vX (I aw.Kind) (OpV.load Z isAgg3 Z (Qag Q)) ?_
    refine Go 2 Z (Is 38 g Z (fun ae g=>?_) (fun ae g=>?_))
    ·exact Go 23 Z (Cl g [0,1,2,3])
    ·refine Go 4 Z (Lm Z (Go 3 Z (Is 46 g Z (fun af g=>?_) (fun af g=>?_))))
     ·exact Go 15 Z (Cl g [0,1,2,3])
     ·refine Go 4 Z (Lm Z (Go 3 Z (Is 54 g Z (fun ag g=>?_) (fun ag g=>?_))))
      ·exact Go 7 Z (Cl g [0,1,2,3])
      ·exact Go 3 Z (Cb g (k_ao _ _ _) Z (lo (ls ln)) fun bk bg g=>Go 3 Z (Cl g [0,1,2,3]))
   refine Gx 1 Z (TC.le p (Cn Z d (fun ah d=>?_) (fun ah d=>?_)))
   ·exact Gc 3 Z (Cl d [0,1,2])
   refine Gc 8 Z (Bd d fun f ax d=>?_)
   refine Ct f [0,1,2,3] [1,2,7,8,9] (fun f=>[(10,I f)]) (fun _=>[]) (fun _=>rfl) ?_ (fun env H p=>?_)
   ·refine G0 1 Z ?_
    refine Lp [0,1,2,3] [1,2,7,8,9] (fun F=>[(10,I F)]) (fun _=>[]) ax (fun _=>rfl) (Lr [0,1,2,3]) fun F bl u ai=>?_
    refine G0 2 Z (Bd u fun N w u=>?_)
    refine Ct N [0,1,2,3] [1,2,7,8,9,10] (fun N=>[(74,.bool N)]) (fun _=>[]) (fun _=>rfl) ?_ (fun env H p=>?_)
    ·refine G0 0 Z (DSs 12 Z (D 5 Z (Qdg 4 w Z Z Z (fun aj w=>?_) (fun aj w=>?_))))
     ·refine D 2 Z ?_
      obtain⟨ay,R,w⟩:=Y3 w
      refine DS.v (x:=(.ptr 2 (Int.toNat F*8))) (QK R Z runUnderlying38 sizeOf50) ?_ (hg:=(gT Z))
      refine DS.wo (x:=.ptr 2 (Int.toNat F*8)) ?_ ?_
      ·exact Fpg (gT Z) QjL Z Wp
      refine DS.v (x:=(I ay.Bib)) (OpV.load Z isAgg3 Z (Qw R)) ?_ (hg:=(gT Z))
      exact D 2 Z (DS.done Z (Go 3 Z (Cl w [0,1,2,3])))
     ·exact D 7 Z (DS.done Z (Go 3 Z (Cl w [0,1,2,3])))
    refine Gx 1 Z (TC.le p (Ys Z u (fun ak u=>?_) (fun ak u=>?_)))
    ·refine Gc 2 Z (Qm u ?_)
     obtain rfl:=Oj ai u
     exact Gx 1 Z (QA (Lr [0,1,2,3]))
    exact Gc 9 Z (Qj u (Lr [0,1,2,3]))
   refine Gx 1 Z (TC.le p ?_)
   obtain⟨bm,y,d⟩:=Y3 d
   obtain⟨aa,al,d⟩:=Y3 d
   obtain⟨O,am,d⟩:=Y3 d
   obtain⟨bn,z,d⟩:=Y3 d
   refine QaG 11 0 [77,78,79,80,81,82,83,84,85,86,87] [true,false,false,false,true,false,false,true,false,false,false] [[],[],[],[],[0],[],[],[0,4],[],[],[]] [[],[0],[0,4],[0,4,7]] [[(0,1)],[(0,0),(1,1),(2,2),(3,3)],[(0,0),(1,1),(2,2),(3,3)],[(0,0),(1,1),(2,2),(3,3)],[(1,2)],[(0,0),(1,1),(2,2),(3,3)],[(0,0),(1,1),(2,2),(3,3)],[(2,3)],[(0,0),(1,1),(2,2),(3,3)],[(0,0),(1,1),(2,2),(3,3)],[(0,0),(1,1),(2,2),(3,3)]] [.osl 4 0 (([]:List Starter).length) 8,.osl 2 0 a.1.length 8,I f,.osl 2 (0+Int.toNat 0) (Int.toNat f-Int.toNat 0) 8,.osl 5 0 aa.length 8,.agg (Starter.c j.Starter),.rsl 8 (List.map Starter.c [j.Starter]),.osl 6 0 O.length 8,.osl 2 0 a.1.length 8,I f,.osl 2 (0+Int.toNat f) (Int.toNat (a.1.length:Int)-Int.toNat f) 8] [[.row 81 57 (List.map Fact.c Y),.cells 33 (Course.c L),.row 50 8 (List.map Starter.c a.1),.cells 50 (Starter.c j.Starter)],[.row 81 57 (List.map Fact.c Y),.cells 33 (Course.c L),.row 50 8 (List.map Starter.c a.1),.cells 50 (Starter.c j.Starter),.row 50 8 (List.map Starter.c ([]:List Starter))],[.row 81 57 (List.map Fact.c Y),.cells 33 (Course.c L),.row 50 8 (List.map Starter.c a.1),.cells 50 (Starter.c j.Starter),.dead,.row 50 8 (List.map Starter.c aa)],[.row 81 57 (List.map Fact.c Y),.cells 33 (Course.c L),.row 50 8 (List.map Starter.c a.1),.cells 50 (Starter.c j.Starter),.dead,.dead,.row 50 8 (List.map Starter.c O)]] ([.row 81 57 (List.map Fact.c Y),.cells 33 (Course.c L),.row 50 8 (List.map Starter.c a.1),.cells 50 (Starter.c j.Starter),.dead,.dead,.row 50 8 (List.map Starter.c O)]) draws Z Z Z Z Z Z Z ?_ Z ?_
   ·refine Qic.cons ?_ (Qic.cons (Qc (v0 Z Z) (Qc (v0 Z Z) (Qc (v0 Z Z) (Qc (v0 Z Z) (Qe))))) (Qic.cons (Qc (v0 Z Z) (Qc (v0 Z Z) (Qc (v0 Z Z) (Qc (v0 Z Z) (Qe))))) (Qic.cons ?_ (Qic.cons ?_ (Qic.cons (Qc (v0 Z Z) (Qc (v0 Z Z) (Qc (v0 Z Z) (Qc (v0 Z Z) (Qe))))) (Qic.cons ?_ (Qic.cons ?_ (Qic.cons (Qc (v0 Z Z) (Qc (v0 Z Z) (Qc (v0 Z Z) (Qc (v0 Z Z) (Qe))))) (Qic.cons (Qc (v0 Z Z) (Qc (v0 Z Z) (Qc (v0 Z Z) (Qc (v0 Z Z) (Qe))))) (Qic.cons ?_ (Qic.nil)))))))))))
    ·refine Qc ?_ (Qe)
     ·refine Om1 Z sN ?_
      refine vH (OpH.lit (xs:=[]) (es:=List.map Starter.c []) QbH Z Z Z Z Z trivial Z Z) ?_
      exact FE Z Wp
    ·refine Qc ?_ (Qc ?_ (Qc ?_ (Qc ?_ (Qe))))
     ·refine Om Z (sD 1 (sD 2 sN)) ?_
      refine vX (.osl 2 (0+Int.toNat 0) (Int.toNat f-Int.toNat 0) 8) (QD (l:=a.1) y runUnderlying38 sizeOf50 (.inl ⟨Z,Z⟩) (.inr ⟨_,Z,Z⟩)) ?_
      exact Wp
     ·refine Om Z (sD 1 (sD 2 sN)) ?_
      refine vX (.osl 2 (0+Int.toNat 0) (Int.toNat f-Int.toNat 0) 8) (QD (l:=a.1) y runUnderlying38 sizeOf50 (.inl ⟨Z,Z⟩) (.inr ⟨_,Z,Z⟩)) ?_
      exact Wp
     ·refine Om Z (sD 1 (sD 2 sN)) ?_
      refine vX (.osl 2 (0+Int.toNat 0) (Int.toNat f-Int.toNat 0) 8) (QD (l:=a.1) y runUnderlying38 sizeOf50 (.inl ⟨Z,Z⟩) (.inr ⟨_,Z,Z⟩)) ?_
      exact Wp
     ·refine Om Z (sD 1 (sD 2 sN)) ?_
      refine vX (.osl 2 (0+Int.toNat 0) (Int.toNat f-Int.toNat 0) 8) (QD (l:=a.1) y runUnderlying38 sizeOf50 (.inl ⟨Z,Z⟩) (.inr ⟨_,Z,Z⟩)) ?_
      exact Wp
    ·refine Qc ?_ (Qe)
     ·refine Om1 Z (sD 0 (sD 3 sN)) ?_
      refine vH (Ql (e:=Starter.c) al QbH runUnderlying38 (Qdy (b:=2) y)) ?_
      exact FE Z Wp
    ·refine Qc ?_ (Qc ?_ (Qc ?_ (Qc ?_ (Qe))))
     ·refine Om Z (sD 5 sN) ?_
      refine vH (Q4 (xs:=[.tmp 82]) (es:=List.map Starter.c [j.Starter]) QbH Z Z Z Z Z ⟨Z,trivial⟩ Z Z) ?_
      exact FE Z Wp
     ·refine Om Z (sD 5 sN) ?_
      refine vH (Q4 (xs:=[.tmp 82]) (es:=List.map Starter.c [j.Starter]) QbH Z Z Z Z Z ⟨Z,trivial⟩ Z Z) ?_
      exact FE Z Wp
     ·refine Om Z (sD 5 sN) ?_
      refine vH (Q4 (xs:=[.tmp 82]) (es:=List.map Starter.c [j.Starter]) QbH Z Z Z Z Z ⟨Z,trivial⟩ Z Z) ?_
      exact FE Z Wp
     ·refine Om Z (sD 5 sN) ?_
      refine vH (Q4 (xs:=[.tmp 82]) (es:=List.map Starter.c [j.Starter]) QbH Z Z Z Z Z ⟨Z,trivial⟩ Z Z) ?_
      exact FE Z Wp
    ·refine Qc ?_ (Qe)
     ·refine Om1 Z (sD 4 (sD 6 sN)) ?_
      refine vH (Ql (e:=Starter.c) am QbH runUnderlying38 QbL) ?_
      exact FE Z Wp
    ·refine Qc ?_ (Qc ?_ (Qc ?_ (Qc ?_ (Qe))))
     ·refine Om Z (sD 8 (sD 9 sN)) ?_
      refine vX (.osl 2 (0+Int.toNat f) (Int.toNat (a.1.length:Int)-Int.toNat f) 8) (QD (l:=a.1) z runUnderlying38 sizeOf50 (.inr ⟨_,Z,Z⟩) (.inl ⟨Z,Z⟩)) ?_
      exact Wp
     ·refine Om Z (sD 8 (sD 9 sN)) ?_
      refine vX (.osl 2 (0+Int.toNat f) (Int.toNat (a.1.length:Int)-Int.toNat f) 8) (QD (l:=a.1) z runUnderlying38 sizeOf50 (.inr ⟨_,Z,Z⟩) (.inl ⟨Z,Z⟩)) ?_
      exact Wp
     ·refine Om Z (sD 8 (sD 9 sN)) ?_
      refine vX (.osl 2 (0+Int.toNat f) (Int.toNat (a.1.length:Int)-Int.toNat f) 8) (QD (l:=a.1) z runUnderlying38 sizeOf50 (.inr ⟨_,Z,Z⟩) (.inl ⟨Z,Z⟩)) ?_
      exact Wp
     ·refine Om Z (sD 8 (sD 9 sN)) ?_
      refine vX (.osl 2 (0+Int.toNat f) (Int.toNat (a.1.length:Int)-Int.toNat f) 8) (QD (l:=a.1) z runUnderlying38 sizeOf50 (.inr ⟨_,Z,Z⟩) (.inl ⟨Z,Z⟩)) ?_
      exact Wp
   refine Bd d fun bo an d=>?_
   refine vH (Ql (e:=Starter.c) an QbH runUnderlying38 (Qdy (b:=2) z)) ?_
   exact FE Z (Go 3 Z (Cl d [0,1,7]))
  exact Gx 1 Z (TC.le p (Gc 5 Z (Qj q (Lr [0,1,2]))))
 refine Gx 1 Z (TC.le p (Gc 8 Z (Cn Z h (fun ao h=>?_) (fun ao h=>?_))))
 ·refine Gc 8 Z ?_
  obtain rfl:=Oi h
  refine R2 4 5 Z Z ?_
  refine Le.trans (Le.phantom (s:=4) (k:=8) (t:=50) (Nat.le_of_ble_eq_true Z) Z) ?_
  exact Lr [1]
 refine Gc 8 Z (Bd h fun az ba h=>?_)
 refine CtE (b:=az) [0] [7] (fun _=>[]) (fun _=>[]) (fun _=>rfl) ?_ (fun bh env H ab p=>?_)
 ·refine G0 1 Z ?_
  refine Lp [0] [7] (fun G=>[(11,I G)]) (fun _=>[]) ba (fun _=>rfl) (Lr [0]) fun G bp m T=>?_
  refine G0 9 Z (Ys Z m (fun aq m=>?_) (fun aq m=>?_))
  ·refine Gc 2 Z (Qm m ?_)
   obtain rfl:=Oj T m
   exact Gx 1 Z (Qp Z (Lr [0]))
  refine Gc 9 Z (Bd m fun bb bc m=>?_)
  refine CtE (b:=bb) [0] [7,11] (fun _=>[]) (fun _=>[]) (fun _=>rfl) ?_ (fun bi env H ab p=>?_)
  ·refine G0 1 Z ?_
   refine Lp [0] [7,11] (fun J=>[(12,I J)]) (fun _=>[]) bc (fun _=>rfl) (Lr [0]) fun J bq i V=>?_
   refine G0 8 Z (Ys Z i (fun ar i=>?_) (fun ar i=>?_))
   ·refine Gc 2 Z (Qm i ?_)
    obtain rfl:=Oj V i
    exact Gx 1 Z (Qp Z (Lr [0]))
   refine Gc 5 Z (DSs 10 Z (D 2 Z ?_))
   obtain⟨bd,W,i⟩:=Y3 i
   refine DS.v (x:=(.ptr 0 (Int.toNat G*8))) (QK W Z runUnderlying38 sizeOf50) ?_
   refine DS.wo (x:=.ptr 0 (Int.toNat G*8+5)) ?_ ?_
   ·exact Fp QgH Z Wp
   refine DS.v (x:=(I bd.Chip)) (OpV.load Z isAgg3 Z (Qag W)) ?_
   refine D 2 Z ?_
   obtain⟨be,X,i⟩:=Y3 i
   refine DS.v (x:=(.ptr 0 (Int.toNat J*8))) (QK X Z runUnderlying38 sizeOf50) ?_
   refine DS.wo (x:=.ptr 0 (Int.toNat J*8+5)) ?_ ?_
   ·exact Fp QgH Z Wp
   refine DS.v (x:=(I be.Chip)) (OpV.load Z isAgg3 Z (Qag X)) ?_
   refine DS.done Z (Go 3 Z (Cn Z i (fun au i=>?_) (fun au i=>?_)))
   ·refine Gc 9 Z (Qx i ?_)
    obtain rfl:=Oj V i
    refine Gx 1 Z (Qq (Gx 2 Z (Qx m ?_)))
    obtain rfl:=Oj T m
    refine Gx 1 Z (Qq (Gx 1 Z ?_))
    obtain rfl:=Oi h
    refine R2 4 5 Z Z ?_
    refine Le.trans (Le.phantom (s:=4) (k:=8) (t:=50) (Nat.le_of_ble_eq_true Z) Z) ?_
    exact Lr [1]
   exact Gc 8 Z (Qj i (Lr [0]))
  subst ab
  exact Gx 2 Z (TC.le p (Gc 5 Z (Qj m (Lr [0]))))
 subst ab
 refine Gx 1 Z (TC.le p (Gc 8 Z ?_))
 obtain rfl:=Oi h
 exact R2 4 5 Z Z (Lr [0])
def F_dj(n:Nat)(a:Pair)(b:Pair):Option Bool:=
  ((bif decide (a.A<b.A)then some true else(bif (a.A==b.A)then some (decide (a.B<b.B))else some false)):Option Bool).bind fun c=>some c
theorem k_dj(n:Nat)(d:Pair)(e:Pair)(r:Bool)(h:F_dj n d e=some r):
    Csm prog 42 [.agg (Pair.c d),.agg (Pair.c e)] [] (fun r=>.bool r) r:=by
 refine Qb func42 Z Z Z ?_
 refine G0 8 Z (Bd h fun b a h=>?_)
 refine Ct b [] [] (fun b=>[(4,.bool b)]) (fun _=>[]) (fun _=>rfl) ?_ (fun env H f=>?_)
 ·refine G0 7 Z (Is 10 a Z (fun g a=>?_) (fun g a=>?_))
  ·exact Go 15 Z (Cl a [])
  ·refine Go 6 Z (Is 16 a Z (fun i a=>?_) (fun i a=>?_))
   ·exact Go 9 Z (Cl a [])
   ·exact Go 9 Z (Cl a [])
 exact Gx 1 Z (TC.le f (Gc 1 Z (Rt h 4 [])))
def F_el(n:Nat)(b:(List Pair)×Int)(c:Fact)(a:Int):Option (Ctl Int Int):=
  ((bif decide (a<(b.1.length:Int))then(idx b.1 a).bind fun d=>(F_dj n d c.Pair).bind fun e=>some e else some false):Option Bool).bind fun f=>(bif f then some (.cont (IntKind.i64.wrap (a+1)))else some (.done a))
def F_iq(n:Nat)(s:(List Starter)×Int)(d:List Fact)(a:(List Pair)×Int):Option (Ctl ((List Pair)×Int) (List Pair)):=
  (bif decide (a.2<(d.length:Int))then((idx d a.2).bind fun b=>((idx d a.2).bind fun e=>(bif (e.Kind != 7)then some true else(F_ao n s.1 b.Pair.A).bind fun f=>(bif decide (f<0)then some true else(F_ao n s.1 b.Pair.B).bind fun g=>some (decide (g<0)))):Option Bool).bind fun h=>(bif h then some a.1 else(iter (F_el n a b) n 0:Option Int).bind fun c=>((bif decide (c<(a.1.length:Int))then(idx a.1 c).bind fun i=>some (i==b.Pair)else some false):Option Bool).bind fun j=>(bif j then some a.1 else(slc a.1 0 c).bind fun k=>(app ([]:List Pair) k).bind fun l=>(app l [b.Pair]).bind fun m=>(slc a.1 c (a.1.length:Int)).bind fun p=>(app m p).bind fun q=>some q)):Option (List Pair)).bind fun r=>some (.cont (r,IntKind.i64.wrap (a.2+1)))else some (.done a.1))
def F_ef(n:Nat)(d:Course)(c:List Fact):Option ((List Pair)×Int):=
  (F_br n d c).bind fun b=>(bif (b.2 != 0)then some ([],b.2)else(F_bj n c).bind fun e=>(iter (F_iq n b e) n (([]:List Pair),0):Option (List Pair)).bind fun a=>(bif decide (16<(a.length:Int))then some ([],2)else some (a,0)))
theorem k_ef(n:Nat)(a1:Course)(a2:List Fact)(r:(List Pair)×Int)(h:F_ef n a1 a2=some r):
    C prog 16 [.agg (Course.c a1),.rsl 57 (List.map Fact.c a2)] [] (RQ (fun r=>.tup [.osl 0 0 r.1.length 2,I r.2]) (fun r=>[.row 59 2 (List.map Pair.c r.1)]) r):=by
 refine Qb func16 Z Z Z ?_
 refine G0 11 Z (Cd [] h (k_br _ _ _) Z fun V bg h=>FE Z (Go 14 Z (Cn Z h (fun au h=>?_) (fun au h=>?_))))
 ·refine Gc 9 Z ?_
  obtain rfl:=Oi h
  refine R2 4 5 Z Z ?_
  refine Le.trans (Le.phantom (s:=4) (k:=2) (t:=59) (Nat.le_of_ble_eq_true Z) Z) ?_
  exact Lr [2]
 refine Gc 5 Z (Cd [] h (k_bj _ _) Z fun W bh h=>FE Z (Go 5 Z ?_))
 refine vH (OpH.lit (xs:=[]) (es:=List.map Pair.c []) Qcg Z Z Z Z Z trivial Z Z) ?_
 refine FE Z (Go 9 Z (Bd h fun E an h=>?_))
 refine Ct E [2] [] (fun E=>[(8,.osl 0 0 E.length 2)]) (fun E=>[(0,.row 59 2 (List.map Pair.c E))]) (fun _=>rfl) ?_ (fun env H m=>?_)
 ·refine G0 1 Z ?_
  refine Lp [2,1,3] [1,6] (fun a=>[(8,.osl 2 0 a.1.length 2),(9,I a.2)]) (fun a=>[(2,.row 59 2 (List.map Pair.c a.1))]) an (fun _=>rfl) (Lr [2,1,3]) fun a ay u Y=>?_
  refine G0 9 Z (Ys Z u (fun aa u=>?_) (fun aa u=>?_))
  ·refine Gc 2 Z (Qm u ?_)
   obtain rfl:=Oj Y u
   exact Gx 1 Z (QA (Lr [2]))
  refine Gc 3 Z (Bd u fun F d u=>?_)
  refine Ct F [0,1,2] [1,6,9] (fun F=>[(8,.osl 2 0 F.length 2)]) (fun F=>[(2,.row 59 2 (List.map Pair.c F))]) (fun _=>rfl) ?_ (fun env H m=>?_)
  ·refine G0 5 Z (Bd d fun i P d=>?_)
   refine vX (.ptr 0 (Int.toNat a.2*57)) (QK P Z runUnderlying34 sizeOf81) ?_
   refine Fp QlX Z ?_
   refine vX (.agg (Pair.c i.Pair)) (Qo Z isAgg59 sizeOf59 Z (Qag P) Z Z) ?_
   refine Go 6 Z (Bd d fun G g d=>?_)
   refine Ct G [0,1,2,3] [1,6,8,9,10] (fun G=>[(54,.bool G)]) (fun _=>[]) (fun _=>rfl) ?_ (fun env H m=>?_)
   ·refine G0 3 Z (Bd g fun ao Q g=>?_)
    refine vX (.ptr 0 (Int.toNat a.2*57)) (QK Q Z runUnderlying34 sizeOf81) ?_
    refine Fp QjK Z ?_
    refine vX (I ao.Kind) (OpV.load Z isAgg3 Z (Qag Q)) ?_
    refine Go 2 Z (Is 41 g Z (fun ab g=>?_) (fun ab g=>?_))
    ·exact Go 14 Z (Cl g [0,1,2,3])
    ·refine Go 3 Z (Cb g (k_ao _ _ _) Z (lo (ls ln)) fun az av g=>Go 3 Z (Is 48 g Z (fun ac g=>?_) (fun ac g=>?_)))
     ·exact Go 7 Z (Cl g [0,1,2,3])
     ·exact Go 3 Z (Cb g (k_ao _ _ _) Z (lo (ls ln)) fun ba aw g=>Go 3 Z (Cl g [0,1,2,3]))
   refine Gx 1 Z (TC.le m (Cn Z d (fun ad d=>?_) (fun ad d=>?_)))
   ·exact Gc 3 Z (Cl d [0,1,2])
   refine Gc 8 Z (Bd d fun f aq d=>?_)
   refine Ct f [0,1,2,3] [1,6,8,9,10] (fun f=>[(11,I f)]) (fun _=>[]) (fun _=>rfl) ?_ (fun env H m=>?_)
   ·refine G0 1 Z ?_
    refine Lp [0,1,2,3] [1,6,8,9,10] (fun J=>[(11,I J)]) (fun _=>[]) aq (fun _=>rfl) (Lr [0,1,2,3]) fun J bb w ae=>?_
    refine G0 2 Z (Bd w fun L j w=>?_)
    refine Ct L [0,1,2,3] [1,6,8,9,10,11] (fun L=>[(66,.bool L)]) (fun _=>[]) (fun _=>rfl) ?_ (fun env H m=>?_)
    ·refine G0 0 Z (DSs 10 Z (D 5 Z (Qdg 4 j Z Z Z (fun af j=>?_) (fun af j=>?_))))
     ·refine D 2 Z ?_
      obtain⟨ar,R,j⟩:=Y3 j
      refine DS.v (x:=(.ptr 2 (Int.toNat J*2))) (QK R Z runUnderlying42 sizeOf59) ?_ (hg:=(gT Z))
      refine DS.v (x:=(.agg (Pair.c ar))) (Qo Z isAgg59 sizeOf59 Z (Qw R) Z Z) ?_ (hg:=(gT Z))
      exact D 1 Z (DS.done Z (Cz [] j (k_dj _ _ _) Z fun bc ax j=>Go 2 Z (Cl j [0,1,2,3])))
     ·exact D 5 Z (DS.done Z (Go 3 Z (Cl j [0,1,2,3])))
    refine Gx 1 Z (TC.le m (Ys Z w (fun ag w=>?_) (fun ag w=>?_)))
    ·refine Gc 2 Z (Qm w ?_)
     obtain rfl:=Oj ae w
     exact Gx 1 Z (QA (Lr [0,1,2,3]))
    exact Gc 9 Z (Qj w (Lr [0,1,2,3]))
   refine Gx 1 Z (TC.le m (Gc 2 Z (Bd d fun M y d=>?_)))
   refine Ct M [0,1,2,3] [1,6,8,9,10,11] (fun M=>[(80,.bool M)]) (fun _=>[]) (fun _=>rfl) ?_ (fun env H m=>?_)
   ·refine G0 0 Z (DSs 10 Z (D 5 Z (Qdg 4 y Z Z Z (fun ah y=>?_) (fun ah y=>?_))))
    ·refine D 2 Z ?_
     obtain⟨N,T,y⟩:=Y3 y
     refine DS.v (x:=(.ptr 2 (Int.toNat f*2))) (QK T Z runUnderlying42 sizeOf59) ?_ (hg:=(gT Z))
     refine DS.v (x:=(.agg (Pair.c N))) (Qo Z isAgg59 sizeOf59 Z (Qw T) Z Z) ?_ (hg:=(gT Z))
     refine D 1 Z (DS.done Z ?_)
     refine vX (.bool (N==i.Pair)) (Qb4 (p:=N) (q:=i.Pair) Qi0 Z Z) ?_ (gT Z)
     exact Go 2 Z (Cl y [0,1,2,3])
    ·exact D 5 Z (DS.done Z (Go 3 Z (Cl y [0,1,2,3])))
   refine Gx 1 Z (TC.le m (Cn Z d (fun ai d=>?_) (fun ai d=>?_)))
   ·exact Gc 3 Z (Cl d [0,1,2])
   refine Gc 2 Z ?_
   obtain⟨bd,z,d⟩:=Y3 d
   obtain⟨X,aj,d⟩:=Y3 d
   obtain⟨O,ak,d⟩:=Y3 d
   obtain⟨be,B,d⟩:=Y3 d
   refine QaG 11 0 [81,82,83,84,85,86,87,88,89,90,91] [true,false,false,false,true,false,false,true,false,false,false] [[],[],[],[],[0],[],[],[0,4],[],[],[]] [[],[0],[0,4],[0,4,7]] [[(0,1)],[(0,0),(1,1),(2,2),(3,3)],[(0,0),(1,1),(2,2),(3,3)],[(0,0),(1,1),(2,2),(3,3)],[(1,2)],[(0,0),(1,1),(2,2),(3,3)],[(0,0),(1,1),(2,2),(3,3)],[(2,3)],[(0,0),(1,1),(2,2),(3,3)],[(0,0),(1,1),(2,2),(3,3)],[(0,0),(1,1),(2,2),(3,3)]] [.osl 4 0 (([]:List Pair).length) 2,.osl 2 0 a.1.length 2,I f,.osl 2 (0+Int.toNat 0) (Int.toNat f-Int.toNat 0) 2,.osl 5 0 X.length 2,.agg (Pair.c i.Pair),.rsl 2 (List.map Pair.c [i.Pair]),.osl 6 0 O.length 2,.osl 2 0 a.1.length 2,I f,.osl 2 (0+Int.toNat f) (Int.toNat (a.1.length:Int)-Int.toNat f) 2] [[.row 81 57 (List.map Fact.c W),.row 50 8 (List.map Starter.c V.1),.row 59 2 (List.map Pair.c a.1),.cells 59 (Pair.c i.Pair)],[.row 81 57 (List.map Fact.c W),.row 50 8 (List.map Starter.c V.1),.row 59 2 (List.map Pair.c a.1),.cells 59 (Pair.c i.Pair),.row 59 2 (List.map Pair.c ([]:List Pair))],[.row 81 57 (List.map Fact.c W),.row 50 8 (List.map Starter.c V.1),.row 59 2 (List.map Pair.c a.1),.cells 59 (Pair.c i.Pair),.dead,.row 59 2 (List.map Pair.c X)],[.row 81 57 (List.map Fact.c W),.row 50 8 (List.map Starter.c V.1),.row 59 2 (List.map Pair.c a.1),.cells 59 (Pair.c i.Pair),.dead,.dead,.row 59 2 (List.map Pair.c O)]] ([.row 81 57 (List.map Fact.c W),.row 50 8 (List.map Starter.c V.1),.row 59 2 (List.map Pair.c a.1),.cells 59 (Pair.c i.Pair),.dead,.dead,.row 59 2 (List.map Pair.c O)]) draws Z Z Z Z Z Z Z ?_ Z ?_
   ·refine Qic.cons ?_ (Qic.cons (Qc (v0 Z Z) (Qc (v0 Z Z) (Qc (v0 Z Z) (Qc (v0 Z Z) (Qe))))) (Qic.cons (Qc (v0 Z Z) (Qc (v0 Z Z) (Qc (v0 Z Z) (Qc (v0 Z Z) (Qe))))) (Qic.cons ?_ (Qic.cons ?_ (Qic.cons (Qc (v0 Z Z) (Qc (v0 Z Z) (Qc (v0 Z Z) (Qc (v0 Z Z) (Qe))))) (Qic.cons ?_ (Qic.cons ?_ (Qic.cons (Qc (v0 Z Z) (Qc (v0 Z Z) (Qc (v0 Z Z) (Qc (v0 Z Z) (Qe))))) (Qic.cons (Qc (v0 Z Z) (Qc (v0 Z Z) (Qc (v0 Z Z) (Qc (v0 Z Z) (Qe))))) (Qic.cons ?_ (Qic.nil)))))))))))
    ·refine Qc ?_ (Qe)
     ·refine Om1 Z sN ?_
      refine vH (OpH.lit (xs:=[]) (es:=List.map Pair.c []) Qcg Z Z Z Z Z trivial Z Z) ?_
      exact FE Z Wp
    ·refine Qc ?_ (Qc ?_ (Qc ?_ (Qc ?_ (Qe))))
     ·refine Om Z (sD 1 (sD 2 sN)) ?_
      refine vX (.osl 2 (0+Int.toNat 0) (Int.toNat f-Int.toNat 0) 2) (QD (l:=a.1) z runUnderlying42 sizeOf59 (.inl ⟨Z,Z⟩) (.inr ⟨_,Z,Z⟩)) ?_
      exact Wp
     ·refine Om Z (sD 1 (sD 2 sN)) ?_
      refine vX (.osl 2 (0+Int.toNat 0) (Int.toNat f-Int.toNat 0) 2) (QD (l:=a.1) z runUnderlying42 sizeOf59 (.inl ⟨Z,Z⟩) (.inr ⟨_,Z,Z⟩)) ?_
      exact Wp
     ·refine Om Z (sD 1 (sD 2 sN)) ?_
      refine vX (.osl 2 (0+Int.toNat 0) (Int.toNat f-Int.toNat 0) 2) (QD (l:=a.1) z runUnderlying42 sizeOf59 (.inl ⟨Z,Z⟩) (.inr ⟨_,Z,Z⟩)) ?_
      exact Wp
     ·refine Om Z (sD 1 (sD 2 sN)) ?_
      refine vX (.osl 2 (0+Int.toNat 0) (Int.toNat f-Int.toNat 0) 2) (QD (l:=a.1) z runUnderlying42 sizeOf59 (.inl ⟨Z,Z⟩) (.inr ⟨_,Z,Z⟩)) ?_
      exact Wp
    ·refine Qc ?_ (Qe)
     ·refine Om1 Z (sD 0 (sD 3 sN)) ?_
      refine vH (Ql (e:=Pair.c) aj Qcg runUnderlying42 (Qdy (b:=2) z)) ?_
      exact FE Z Wp
    ·refine Qc ?_ (Qc ?_ (Qc ?_ (Qc ?_ (Qe))))
     ·refine Om Z (sD 5 sN) ?_
      refine vH (Q4 (xs:=[.tmp 86]) (es:=List.map Pair.c [i.Pair]) Qcg Z Z Z Z Z ⟨Z,trivial⟩ Z Z) ?_
      exact FE Z Wp
     ·refine Om Z (sD 5 sN) ?_
      refine vH (Q4 (xs:=[.tmp 86]) (es:=List.map Pair.c [i.Pair]) Qcg Z Z Z Z Z ⟨Z,trivial⟩ Z Z) ?_
      exact FE Z Wp
     ·refine Om Z (sD 5 sN) ?_
      refine vH (Q4 (xs:=[.tmp 86]) (es:=List.map Pair.c [i.Pair]) Qcg Z Z Z Z Z ⟨Z,trivial⟩ Z Z) ?_
      exact FE Z Wp
     ·refine Om Z (sD 5 sN) ?_
      refine vH (Q4 (xs:=[.tmp 86]) (es:=List.map Pair.c [i.Pair]) Qcg Z Z Z Z Z ⟨Z,trivial⟩ Z Z) ?_
      exact FE Z Wp
    ·refine Qc ?_ (Qe)
     ·refine Om1 Z (sD 4 (sD 6 sN)) ?_
      refine vH (Ql (e:=Pair.c) ak Qcg runUnderlying42 QbL) ?_
      exact FE Z Wp
    ·refine Qc ?_ (Qc ?_ (Qc ?_ (Qc ?_ (Qe))))
     ·refine Om Z (sD 8 (sD 9 sN)) ?_
      refine vX (.osl 2 (0+Int.toNat f) (Int.toNat (a.1.length:Int)-Int.toNat f) 2) (QD (l:=a.1) B runUnderlying42 sizeOf59 (.inr ⟨_,Z,Z⟩) (.inl ⟨Z,Z⟩)) ?_
      exact Wp
     ·refine Om Z (sD 8 (sD 9 sN)) ?_
      refine vX (.osl 2 (0+Int.toNat f) (Int.toNat (a.1.length:Int)-Int.toNat f) 2) (QD (l:=a.1) B runUnderlying42 sizeOf59 (.inr ⟨_,Z,Z⟩) (.inl ⟨Z,Z⟩)) ?_
      exact Wp
     ·refine Om Z (sD 8 (sD 9 sN)) ?_
      refine vX (.osl 2 (0+Int.toNat f) (Int.toNat (a.1.length:Int)-Int.toNat f) 2) (QD (l:=a.1) B runUnderlying42 sizeOf59 (.inr ⟨_,Z,Z⟩) (.inl ⟨Z,Z⟩)) ?_
      exact Wp
     ·refine Om Z (sD 8 (sD 9 sN)) ?_
      refine vX (.osl 2 (0+Int.toNat f) (Int.toNat (a.1.length:Int)-Int.toNat f) 2) (QD (l:=a.1) B runUnderlying42 sizeOf59 (.inr ⟨_,Z,Z⟩) (.inl ⟨Z,Z⟩)) ?_
      exact Wp
   refine Bd d fun bf al d=>?_
   refine vH (Ql (e:=Pair.c) al Qcg runUnderlying42 (Qdy (b:=2) B)) ?_
   exact FE Z (Go 3 Z (Cl d [0,1,7]))
  exact Gx 1 Z (TC.le m (Gc 5 Z (Qj u (Lr [0,1,2]))))
 refine Gx 1 Z (TC.le m (Gc 8 Z (Cn Z h (fun am h=>?_) (fun am h=>?_))))
 ·refine Gc 8 Z ?_
  obtain rfl:=Oi h
  refine R2 4 5 Z Z ?_
  refine Le.trans (Le.phantom (s:=4) (k:=2) (t:=59) (Nat.le_of_ble_eq_true Z) Z) ?_
  exact Lr [1]
 refine Gc 10 Z ?_
 obtain rfl:=Oi h
 exact R2 4 5 Z Z (Lr [0])
def F_ju(n:Nat)(b:List Starter)(e:List Starter)(a:Int):Option (Ctl Int (Ctl Unit Bool)):=
  (bif decide (a<(b.length:Int))then(idx b a).bind fun c=>(idx e a).bind fun d=>(bif (c != d)then some (.done (.done false))else some (.cont (IntKind.i64.wrap (a+1))))else some (.done (.cont ())))
def F_fs(n:Nat)(b:List Starter)(c:List Starter):Option Bool:=
  (bif ((b.length:Int) != (c.length:Int))then some false else(iter (F_ju n b c) n 0:Option (Ctl Unit Bool)).bind fun d=>match d with|.cont a=>(some true)|.done a=>some a)
theorem k_fs(n:Nat)(m:List Starter)(s:List Starter)(r:Bool)(h:F_fs n m s=some r):
    Csm prog 17 [.rsl 8 (List.map Starter.c m),.rsl 8 (List.map Starter.c s)] [] (fun r=>.bool r) r:=by
 refine Qb func17 Z Z Z ?_
 refine G0 9 Z (Lm Z (Go 1 Z (Lm Z (Go 3 Z (Cn Z h (fun t h=>?_) (fun t h=>?_))))))
 ·exact Gc 7 Z (Rt h 4 [])
 refine Gc 8 Z (Bd h fun u w h=>?_)
 refine CtE (b:=u) [] [] (fun _=>[]) (fun _=>[]) (fun _=>rfl) ?_ (fun B env H y z=>?_)
 ·refine G0 1 Z ?_
  refine Lp [] [0,1] (fun g=>[(5,I g)]) (fun _=>[]) w (fun _=>rfl) (Lr []) fun g E a f=>?_
  refine G0 5 Z (Lm Z (Go 3 Z (Ys Z a (fun i a=>?_) (fun i a=>?_))))
  ·refine Gc 2 Z (Qm a ?_)
   obtain rfl:=Oj f a
   exact Gx 1 Z (Qp Z (Lr []))
  refine Gc 5 Z (DSs 8 Z (D 2 Z ?_))
  obtain⟨d,j,a⟩:=Y3 a
  refine DS.wo (x:=.rp [I d.Bib,I d.Distance,I d.Wave,I d.Slot,I d.Age,I d.Chip,I d.Team,I d.Lot]) ?_ ?_
  ·exact Ix j runUnderlying38 sizeOf50 Z Wp
  refine D 3 Z ?_
  obtain⟨e,k,a⟩:=Y3 a
  refine DS.wo (x:=.rp [I e.Bib,I e.Distance,I e.Wave,I e.Slot,I e.Age,I e.Chip,I e.Team,I e.Lot]) ?_ ?_
  ·exact Ix k runUnderlying38 sizeOf50 Z Wp
  refine D 1 Z (DS.done Z ?_)
  refine vX (.bool (d != e)) (QdC (p:=d) (q:=e) Qn0 Z Z) ?_
  refine Go 2 Z (Cn Z a (fun l a=>?_) (fun l a=>?_))
  ·refine Gc 8 Z (Qx a ?_)
   obtain rfl:=Oj f a
   exact Gx 1 Z (Qq (Gx 1 Z (Rt h 4 [])))
  exact Gc 8 Z (Qj a (Lr []))
 subst y
 exact Gx 1 Z (TC.le z (Gc 6 Z (Rt h 4 [])))
def F_jt(n:Nat)(b:List Pair)(e:List Pair)(a:Int):Option (Ctl Int (Ctl Unit Bool)):=
  (bif decide (a<(b.length:Int))then(idx b a).bind fun c=>(idx e a).bind fun d=>(bif (c != d)then some (.done (.done false))else some (.cont (IntKind.i64.wrap (a+1))))else some (.done (.cont ())))
def F_fw(n:Nat)(b:List Pair)(c:List Pair):Option Bool:=
  (bif ((b.length:Int) != (c.length:Int))then some false else(iter (F_jt n b c) n 0:Option (Ctl Unit Bool)).bind fun d=>match d with|.cont a=>(some true)|.done a=>some a)
theorem k_fw(n:Nat)(m:List Pair)(s:List Pair)(r:Bool)(h:F_fw n m s=some r):
    Csm prog 18 [.rsl 2 (List.map Pair.c m),.rsl 2 (List.map Pair.c s)] [] (fun r=>.bool r) r:=by
 refine Qb func18 Z Z Z ?_
 refine G0 9 Z (Lm Z (Go 1 Z (Lm Z (Go 3 Z (Cn Z h (fun t h=>?_) (fun t h=>?_))))))
 ·exact Gc 7 Z (Rt h 4 [])
 refine Gc 8 Z (Bd h fun u w h=>?_)
 refine CtE (b:=u) [] [] (fun _=>[]) (fun _=>[]) (fun _=>rfl) ?_ (fun E env H y z=>?_)
 ·refine G0 1 Z ?_
  refine Lp [] [0,1] (fun g=>[(5,I g)]) (fun _=>[]) w (fun _=>rfl) (Lr []) fun g F a f=>?_
  refine G0 5 Z (Lm Z (Go 3 Z (Ys Z a (fun i a=>?_) (fun i a=>?_))))
  ·refine Gc 2 Z (Qm a ?_)
   obtain rfl:=Oj f a
   exact Gx 1 Z (Qp Z (Lr []))
  refine Gc 5 Z (DSs 8 Z (D 2 Z ?_))
  obtain⟨d,j,a⟩:=Y3 a
  refine DS.wo (x:=.rp [I d.A,I d.B]) ?_ ?_
  ·exact Ix j runUnderlying42 sizeOf59 Z Wp
  refine D 3 Z ?_
  obtain⟨e,k,a⟩:=Y3 a
  refine DS.wo (x:=.rp [I e.A,I e.B]) ?_ ?_
  ·exact Ix k runUnderlying42 sizeOf59 Z Wp
  refine D 1 Z (DS.done Z ?_)
  refine vX (.bool (d != e)) (QdC (p:=d) (q:=e) Qi0 Z Z) ?_
  refine Go 2 Z (Cn Z a (fun l a=>?_) (fun l a=>?_))
  ·refine Gc 8 Z (Qx a ?_)
   obtain rfl:=Oj f a
   exact Gx 1 Z (Qq (Gx 1 Z (Rt h 4 [])))
  exact Gc 8 Z (Qj a (Lr []))
 subst y
 exact Gx 1 Z (TC.le z (Gc 6 Z (Rt h 4 [])))
def F_hl(n:Nat)(b:Course)(a:List Fact):Option Bool:=
  (F_gv 300).bind fun j=>(bif (!j)then some false else((F_ba n b).bind fun k=>(bif (!k)then some true else(F_ik n a 14).bind fun m=>some (!(decide ((a.length:Int)<=14)))):Option Bool).bind fun l=>(bif l then some true else(F_aq n b a).bind fun c=>(F_br n b a).bind fun d=>(F_bl n b a).bind fun e=>(F_ef n b a).bind fun f=>((F_fs n c.1 d.1).bind fun g=>(bif g then(bif (c.2==d.2)then(F_fw n e.1 f.1).bind fun h=>(bif h then some (e.2==f.2)else some false)else some false)else some false):Option Bool).bind fun i=>some i))
theorem k_hl(n:Nat)(l:Course)(m:List Fact)(r:Bool)(h:F_hl n l m=some r):
    Csm prog 3 [.agg (Course.c l),.rsl 57 (List.map Fact.c m)] [] (fun r=>.bool r) r:=by
 refine Qb func3 Z Z Z ?_
 refine G0 9 Z (Cz [] h (k_gv _) Z fun P B h=>Go 3 Z (Cn Z h (fun p h=>?_) (fun p h=>?_)))
 ·exact Gc 7 Z (Rt h 4 [])
 refine Gc 4 Z (Bd h fun f b h=>?_)
 refine Ct f [0] [1,2] (fun f=>[(22,.bool f)]) (fun _=>[]) (fun _=>rfl) ?_ (fun env H d=>?_)
 ·refine G0 2 Z (Cz [] b (k_ba _ _) Z fun Q E b=>Go 2 Z (Is 18 b Z (fun q b=>?_) (fun q b=>?_)))
  ·exact Go 5 Z (Cl b [0])
  ·exact Go 1 Z (Cz [] b (k_ik _ _ _) Z fun F s b=>Go 3 Z (Cl b [0]))
 refine Gx 1 Z (TC.le d (Cn Z h (fun g h=>?_) (fun g h=>?_)))
 ·exact Gc 7 Z (Rt h 4 [])
 refine Gc 6 Z (Cd [] h (k_aq _ _ _) Z fun G t h=>FE Z (Go 11 Z (Cd [] h (k_br _ _ _) Z fun J u h=>FE Z (Go 11 Z (Cd [] h (k_bl _ _ _) Z fun L w h=>FE Z (Go 11 Z (Cd [] h (k_ef _ _ _) Z fun M x h=>FE Z (Go 8 Z (Bd h fun e a h=>?_)))))))))
 refine Ct e [] [] (fun e=>[(4,.bool e)]) (fun _=>[]) (fun _=>rfl) ?_ (fun env H d=>?_)
 ·refine G0 3 Z (Cb a (k_fs _ _ _) Z (lo (lo ln)) fun N y a=>Go 1 Z (Is 50 a Z (fun i a=>?_) (fun i a=>?_)))
  ·refine Go 5 Z (Is 55 a Z (fun j a=>?_) (fun j a=>?_))
   ·refine Go 2 Z (Cb a (k_fw _ _ _) Z (lo (lo ln)) fun O z a=>Go 2 Z (Is 60 a Z (fun k a=>?_) (fun k a=>?_)))
    ·exact Go 6 Z (Cl a [])
    ·exact Go 6 Z (Cl a [])
   ·exact Go 11 Z (Cl a [])
  ·exact Go 16 Z (Cl a [])
 exact Gx 1 Z (TC.le d (Gc 1 Z (Rt h 4 [])))
end Go.Sw
