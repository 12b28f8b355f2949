/- What the functions compute that HitsReadSpec reaches, and that their calls refine it (part 3 of 3). -/
import Derived.Test.YtnlljbbflgfobaaGreatDoorW17Re2
set_option linter.unusedVariables false
set_option linter.unusedSimpArgs false
set_option maxRecDepth 100000
set_option maxHeartbeats 4000000
namespace Go.Sw
open Go.Proofs Tryz
def F_bb(n:Nat)(a:Fact):Option (List Int):=
  (bif (a.Kind==1)then(app [a.Kind,a.Crew,a.No,a.At] [a.Starter.Bib,a.Starter.Distance,a.Starter.Wave,a.Starter.Slot,a.Starter.Age,a.Starter.Chip,a.Starter.Team,a.Starter.Lot]).bind fun k=>some k else(bif (a.Kind==2)then(app [a.Kind,a.Crew,a.No,a.At] [a.Read.Mat,a.Read.Epoch,a.Read.Chip,a.Read.Local]).bind fun l=>some l else(bif (a.Kind==3)then(app [a.Kind,a.Crew,a.No,a.At] [a.Beacon.Mat,a.Beacon.Epoch,a.Beacon.Local,a.Beacon.True,a.Beacon.Err]).bind fun m=>some m else(bif (a.Kind==4)then(app [a.Kind,a.Crew,a.No,a.At] [a.Sync.MatA,a.Sync.EpochA,a.Sync.LocalA,a.Sync.MatB,a.Sync.EpochB,a.Sync.LocalB,a.Sync.Min,a.Sync.Max]).bind fun p=>some p else(bif (a.Kind==5)then(app [a.Kind,a.Crew,a.No,a.At] [a.Hand.Bib,a.Hand.Position,a.Hand.Lo,a.Hand.Hi]).bind fun b=>some b else(bif (a.Kind==6)then(app [a.Kind,a.Crew,a.No,a.At] [a.Silence.Mat,a.Silence.Epoch,a.Silence.Lo,a.Silence.Hi]).bind fun c=>some c else(bif (a.Kind==7)then(app [a.Kind,a.Crew,a.No,a.At] [a.Pair.A,a.Pair.B]).bind fun d=>some d else(bif (a.Kind==8)then(app [a.Kind,a.Crew,a.No,a.At] [a.Report.Case,a.Report.Bib,a.Report.Offence,a.Report.Position]).bind fun e=>some e else(bif (a.Kind==9)then(app [a.Kind,a.Crew,a.No,a.At] [a.Protest.Case,a.Protest.By,a.Protest.Fee,a.Protest.Form]).bind fun f=>some f else(bif (a.Kind==10)then(app [a.Kind,a.Crew,a.No,a.At] [a.Ruling.Case,a.Ruling.Instance,a.Ruling.Kind,a.Ruling.Bib,a.Ruling.Position,a.Ruling.Amount]).bind fun g=>some g else(bif (a.Kind==11)then(bif a.Appeal.Suspends then(app [a.Kind,a.Crew,a.No,a.At] [a.Appeal.Case,1]).bind fun h=>some h else(app [a.Kind,a.Crew,a.No,a.At] [a.Appeal.Case,0]).bind fun i=>some i)else(bif (a.Kind==13)then(app [a.Kind,a.Crew,a.No,a.At] [a.Void.Crew,a.Void.No]).bind fun j=>some j else some [a.Kind,a.Crew,a.No,a.At]))))))))))))
theorem k_bb(n:Nat)(a:Fact)(r:List Int)(h:F_bb n a=some r):
    C prog 166 [.agg (Fact.c a)] [] (RQ (fun r=>.osl 0 0 r.length 1) (fun r=>[.row 3 1 (List.map (Qh .i64) r)]) r):=by
 refine Qa func166 Z Z Z ?_
 refine G0 16 Z ?_
 refine vH (OpH.lit (xs:=[.tmp 14,.tmp 16,.tmp 18,.tmp 20]) (es:=List.map (Qh .i64) [a.Kind,a.Crew,a.No,a.At]) Qi Z Z Z Z Z ⟨Z,Z,Z,Z,trivial⟩ Z Z) ?_
 refine FE Z (Go 17 Z (Cn Z h (fun E h=>?_) (fun E h=>?_)))
 ·refine Gc 27 Z ?_
  refine vH (OpH.lit (xs:=[.tmp 30,.tmp 32,.tmp 34,.tmp 36,.tmp 38,.tmp 40,.tmp 42,.tmp 44]) (es:=List.map (Qh .i64) [a.Starter.Bib,a.Starter.Distance,a.Starter.Wave,a.Starter.Slot,a.Starter.Age,a.Starter.Chip,a.Starter.Team,a.Starter.Lot]) Qi Z Z Z Z Z ⟨Z,Z,Z,Z,Z,Z,Z,Z,trivial⟩ Z Z) ?_
  refine FE Z (Bd h fun l2 F h=>?_)
  refine vH (Qp (e:=(Qh .i64)) F Qi runUnderlying109 (QQ (i:=3))) ?_
  exact FE Z (Go 6 Z (Rt h 2 [4]))
 refine Gc 6 Z (Cn Z h (fun G h=>?_) (fun G h=>?_))
 ·refine Gc 19 Z ?_
  refine vH (OpH.lit (xs:=[.tmp 53,.tmp 55,.tmp 57,.tmp 59]) (es:=List.map (Qh .i64) [a.Read.Mat,a.Read.Epoch,a.Read.Chip,a.Read.Local]) Qi Z Z Z Z Z ⟨Z,Z,Z,Z,trivial⟩ Z Z) ?_
  refine FE Z (Bd h fun l4 H h=>?_)
  refine vH (Qp (e:=(Qh .i64)) H Qi runUnderlying109 (QQ (i:=3))) ?_
  exact FE Z (Go 6 Z (Rt h 2 [4]))
 refine Gc 6 Z (Cn Z h (fun J h=>?_) (fun J h=>?_))
 ·refine Gc 21 Z ?_
  refine vH (OpH.lit (xs:=[.tmp 68,.tmp 70,.tmp 72,.tmp 74,.tmp 76]) (es:=List.map (Qh .i64) [a.Beacon.Mat,a.Beacon.Epoch,a.Beacon.Local,a.Beacon.True,a.Beacon.Err]) Qi Z Z Z Z Z ⟨Z,Z,Z,Z,Z,trivial⟩ Z Z) ?_
  refine FE Z (Bd h fun l6 L h=>?_)
  refine vH (Qp (e:=(Qh .i64)) L Qi runUnderlying109 (QQ (i:=3))) ?_
  exact FE Z (Go 6 Z (Rt h 2 [4]))
 refine Gc 6 Z (Cn Z h (fun M h=>?_) (fun M h=>?_))
 ·refine Gc 27 Z ?_
  refine vH (OpH.lit (xs:=[.tmp 85,.tmp 87,.tmp 89,.tmp 91,.tmp 93,.tmp 95,.tmp 97,.tmp 99]) (es:=List.map (Qh .i64) [a.Sync.MatA,a.Sync.EpochA,a.Sync.LocalA,a.Sync.MatB,a.Sync.EpochB,a.Sync.LocalB,a.Sync.Min,a.Sync.Max]) Qi Z Z Z Z Z ⟨Z,Z,Z,Z,Z,Z,Z,Z,trivial⟩ Z Z) ?_
  refine FE Z (Bd h fun l8 N h=>?_)
  refine vH (Qp (e:=(Qh .i64)) N Qi runUnderlying109 (QQ (i:=3))) ?_
  exact FE Z (Go 6 Z (Rt h 2 [4]))
 refine Gc 6 Z (Cn Z h (fun O h=>?_) (fun O h=>?_))
 ·refine Gc 19 Z ?_
  refine vH (OpH.lit (xs:=[.tmp 108,.tmp 110,.tmp 112,.tmp 114]) (es:=List.map (Qh .i64) [a.Hand.Bib,a.Hand.Position,a.Hand.Lo,a.Hand.Hi]) Qi Z Z Z Z Z ⟨Z,Z,Z,Z,trivial⟩ Z Z) ?_
  refine FE Z (Bd h fun P b h=>?_)
  refine vH (Qp (e:=(Qh .i64)) b Qi runUnderlying109 (QQ (i:=3))) ?_
  exact FE Z (Go 6 Z (Rt h 2 [4]))
 refine Gc 6 Z (Cn Z h (fun d h=>?_) (fun d h=>?_))
 ·refine Gc 19 Z ?_
  refine vH (OpH.lit (xs:=[.tmp 123,.tmp 125,.tmp 127,.tmp 129]) (es:=List.map (Qh .i64) [a.Silence.Mat,a.Silence.Epoch,a.Silence.Lo,a.Silence.Hi]) Qi Z Z Z Z Z ⟨Z,Z,Z,Z,trivial⟩ Z Z) ?_
  refine FE Z (Bd h fun Q f h=>?_)
  refine vH (Qp (e:=(Qh .i64)) f Qi runUnderlying109 (QQ (i:=3))) ?_
  exact FE Z (Go 6 Z (Rt h 2 [4]))
 refine Gc 6 Z (Cn Z h (fun g h=>?_) (fun g h=>?_))
 ·refine Gc 9 Z ?_
  refine vH (OpH.lit (xs:=[.tmp 137,.tmp 140]) (es:=List.map (Qh .i64) [a.Pair.A,a.Pair.B]) Qi Z Z Z Z Z ⟨Z,Z,trivial⟩ Z Z) ?_
  refine FE Z (Bd h fun R j h=>?_)
  refine vH (Qp (e:=(Qh .i64)) j Qi runUnderlying109 (QQ (i:=2))) ?_
  exact FE Z (Go 6 Z (Rt h 2 [3]))
 refine Gc 6 Z (Cn Z h (fun k h=>?_) (fun k h=>?_))
 ·refine Gc 19 Z ?_
  refine vH (OpH.lit (xs:=[.tmp 149,.tmp 151,.tmp 153,.tmp 155]) (es:=List.map (Qh .i64) [a.Report.Case,a.Report.Bib,a.Report.Offence,a.Report.Position]) Qi Z Z Z Z Z ⟨Z,Z,Z,Z,trivial⟩ Z Z) ?_
  refine FE Z (Bd h fun T l h=>?_)
  refine vH (Qp (e:=(Qh .i64)) l Qi runUnderlying109 (QQ (i:=3))) ?_
  exact FE Z (Go 6 Z (Rt h 2 [4]))
 refine Gc 6 Z (Cn Z h (fun m h=>?_) (fun m h=>?_))
 ·refine Gc 19 Z ?_
  refine vH (OpH.lit (xs:=[.tmp 164,.tmp 166,.tmp 168,.tmp 170]) (es:=List.map (Qh .i64) [a.Protest.Case,a.Protest.By,a.Protest.Fee,a.Protest.Form]) Qi Z Z Z Z Z ⟨Z,Z,Z,Z,trivial⟩ Z Z) ?_
  refine FE Z (Bd h fun V p h=>?_)
  refine vH (Qp (e:=(Qh .i64)) p Qi runUnderlying109 (QQ (i:=3))) ?_
  exact FE Z (Go 6 Z (Rt h 2 [4]))
 refine Gc 6 Z (Cn Z h (fun q h=>?_) (fun q h=>?_))
 ·refine Gc 23 Z ?_
  refine vH (OpH.lit (xs:=[.tmp 179,.tmp 181,.tmp 183,.tmp 185,.tmp 187,.tmp 189]) (es:=List.map (Qh .i64) [a.Ruling.Case,a.Ruling.Instance,a.Ruling.Kind,a.Ruling.Bib,a.Ruling.Position,a.Ruling.Amount]) Qi Z Z Z Z Z ⟨Z,Z,Z,Z,Z,Z,trivial⟩ Z Z) ?_
  refine FE Z (Bd h fun W s h=>?_)
  refine vH (Qp (e:=(Qh .i64)) s Qi runUnderlying109 (QQ (i:=3))) ?_
  exact FE Z (Go 6 Z (Rt h 2 [4]))
 refine Gc 6 Z (Cn Z h (fun t h=>?_) (fun t h=>?_))
 ·refine Gc 8 Z (Cn Z h (fun u h=>?_) (fun u h=>?_))
  ·refine Gc 6 Z ?_
   refine vH (OpH.lit (xs:=[.tmp 200,.const (.int .i64 1)]) (es:=List.map (Qh .i64) [a.Appeal.Case,1]) Qi Z Z Z Z Z ⟨Z,Z,trivial⟩ Z Z) ?_
   refine FE Z (Bd h fun X w h=>?_)
   refine vH (Qp (e:=(Qh .i64)) w Qi runUnderlying109 (QQ (i:=2))) ?_
   exact FE Z (Go 7 Z (Rt h 2 [3]))
  refine Gc 8 Z ?_
  refine vH (OpH.lit (xs:=[.tmp 206,.const (.int .i64 0)]) (es:=List.map (Qh .i64) [a.Appeal.Case,0]) Qi Z Z Z Z Z ⟨Z,Z,trivial⟩ Z Z) ?_
  refine FE Z (Bd h fun Y x h=>?_)
  refine vH (Qp (e:=(Qh .i64)) x Qi runUnderlying109 (QQ (i:=2))) ?_
  exact FE Z (Go 6 Z (Rt h 2 [3]))
 refine Gc 6 Z (Cn Z h (fun y h=>?_) (fun y h=>?_))
 ·refine Gc 9 Z ?_
  refine vH (OpH.lit (xs:=[.tmp 214,.tmp 217]) (es:=List.map (Qh .i64) [a.Void.Crew,a.Void.No]) Qi Z Z Z Z Z ⟨Z,Z,trivial⟩ Z Z) ?_
  refine FE Z (Bd h fun aa z h=>?_)
  refine vH (Qp (e:=(Qh .i64)) z Qi runUnderlying109 (QQ (i:=2))) ?_
  exact FE Z (Go 6 Z (Rt h 2 [3]))
 exact Gc 10 Z (Rt h 2 [1])
def F_cf(n:Nat)(a:Int):Option Unit:=
  some ()
theorem k_cf(n:Nat)(a:Int)(r:Unit)(h:F_cf n a=some r):
    C prog 205 [I a] [] (RQ (fun _=>.agg [I 1,I a,.str [],.rsl 4 (List.map Value.enc [])]) (fun _=>[.cells 247 [I 1,I a,.str [],.rsl 4 (List.map Value.enc [])]]) r):=by
 refine Qa func205 Z Z Z ?_
 refine G0 13 Z ?_
 obtain rfl:=Oi h
 exact Rx [0] [2] Z (QT Z (Qm isAgg247 sizeOf247 Z Z Z)) ⟨Z,Z⟩
def F_fp(n:Nat)(c:List Int)(a:(List Value)×Int):Option (Ctl ((List Value)×Int) (List Value)):=
  (bif decide (a.2<(c.length:Int))then(idx c a.2).bind fun b=>(F_cf n b).bind fun e=>(app a.1 [{Kind:=1,N:=b,S:=[],L:=[]:Value}]).bind fun d=>some (.cont (d,IntKind.i64.wrap (a.2+1)))else some (.done a.1))
def F_bg(n:Nat)(b:List Int):Option (List Value):=
  (iter (F_fp n b) n ([],0):Option (List Value)).bind fun a=>some a
theorem k_bg(n:Nat)(j:List Int)(r:List Value)(h:F_bg n j=some r):
    C prog 165 [.rsl 1 (List.map (Qh .i64) j)] [] (RQ (fun r=>.agg [I 3,I 0,.str [],.osl 0 0 r.length 4]) (fun r=>[.row 247 4 (List.map Value.enc r),.cells 247 [I 3,I 0,.str [],.osl 0 0 r.length 4]]) r):=by
 refine Qa func165 Z Z Z ?_
 refine G0 7 Z ?_
 refine vX (.agg [I 3,I 0,.str [],.nils]) (OpV.build (zs:=[I 0,I 0,.str [],.nils]) zeroValue247 (zrC Z) Qgu) ?_
 refine vH (QdO (v:=(.agg [I 0,I 0,.str [],.nils])) zeroValue247 (zrC Z)) ?_
 refine FE Z (Go 9 Z (Bd h fun f u h=>?_))
 refine Ct f [0,1,0] [2,3] (fun _=>[]) (fun f=>[(1,.cells 247 [I 3,I 0,.str [],.osl 2 0 f.length 4]),(2,.row 247 4 (List.map Value.enc f))]) (fun _=>rfl) ?_ (fun env H w=>?_)
 ·refine G0 1 Z ?_
  refine Lp [0,1,0] [0,2,3] (fun a=>[(4,I a.2)]) (fun a=>[(1,.cells 247 [I 3,I 0,.str [],.osl 2 0 a.1.length 4]),(2,.row 247 4 (List.map Value.enc a.1))]) u (fun _=>rfl) ?_ ?_
  ·refine Le.trans (Qbm (i:=1) (m:=3) (t:=247) (k:=4) Z Z Z) ?_
   exact Lr [0,1,2]
  intro a y b l
  refine G0 5 Z (Lm Z (Go 3 Z (CnS Z b (fun p b=>?_) (fun p b=>?_))))
  ·refine Gc 2 Z (QF b ?_)
   obtain rfl:=Oj l b
   exact Gx 1 Z (QX (Lr [0,1,2]))
  refine Gc 4 Z ?_
  obtain⟨d,g,b⟩:=bnd b
  obtain⟨z,q,b⟩:=bnd b
  refine Qbi 8 0 [12,13,14,15,16,17,18,19] [false,false,false,false,false,false,true,false] [[],[],[],[],[],[],[],[6]] [[],[6]] [[(0,0),(1,1)],[(0,0),(1,1)],[(0,0),(1,1)],[(0,0),(1,1)],[(0,0),(1,1)],[(0,0),(1,1)],[(0,1)],[(1,1)]] [.ptr 1 3,.osl 2 0 a.1.length 4,.rsl 1 (List.map (Qh .i64) j),I a.2,.rp [I d],I d,.agg [I 1,I d,.str [],.rsl 4 (List.map Value.enc [])],.rsl 4 (List.map Value.enc [{Kind:=1,N:=d,S:=[],L:=[]:Value}])] [[.cells 247 (Value.c z_Value),.cells 247 [I 3,I 0,.str [],.osl 2 0 a.1.length 4],.row 247 4 (List.map Value.enc a.1)],[.cells 247 (Value.c z_Value),.cells 247 [I 3,I 0,.str [],.osl 2 0 a.1.length 4],.row 247 4 (List.map Value.enc a.1),.cells 247 [I 1,I d,.str [],.rsl 4 (List.map Value.enc [])]]] ([.cells 247 (Value.c z_Value),.cells 247 [I 3,I 0,.str [],.osl 2 0 a.1.length 4],.row 247 4 (List.map Value.enc a.1),.cells 247 [I 1,I d,.str [],.rsl 4 (List.map Value.enc [])]]) draws Z Z Z Z Z Z Z ?_ Z ?_
  ·refine Qfc.cons (Qc (v0 Z Z) (Qc (v0 Z Z) (Qj))) (Qfc.cons (Qc (v0 Z Z) (Qc (v0 Z Z) (Qj))) (Qfc.cons (Qc (v0 Z Z) (Qc (v0 Z Z) (Qj))) (Qfc.cons (Qc (v0 Z Z) (Qc (v0 Z Z) (Qj))) (Qfc.cons ?_ (Qfc.cons (Qc (v0 Z Z) (Qc (v0 Z Z) (Qj))) (Qfc.cons ?_ (Qfc.cons ?_ (Qfc.nil))))))))
   ·refine Qc ?_ (Qc ?_ (Qj))
    ·refine Om Z (sD 2 (sD 3 sN)) ?_
     exact Ix g runUnderlying109 sizeOf3 Z Wp
    ·refine Om Z (sD 2 (sD 3 sN)) ?_
     exact Ix g runUnderlying109 sizeOf3 Z Wp
   ·refine Qc ?_ (Qj)
    ·refine Om1 Z (sD 5 sN) ?_
     refine QA [] (OpC.fn call205 Z Z Z) (k_cf _ _ _ q) ?_
     rintro _ _ ⟨rfl,rfl⟩
     exact FE Z Wp
   ·refine Qc ?_ (Qj)
    ·refine Om Z (sD 6 sN) ?_
     refine vH (QaF (xs:=[.tmp 18]) (es:=[Value.c ({Kind:=1,N:=d,S:=[],L:=[]:Value})]) QiU Z Z Z Z Z ⟨Z,trivial⟩ Z Z) ?_
     refine Qi7 (x:=(.rsl 4 (List.map Value.enc [{Kind:=1,N:=d,S:=[],L:=[]:Value}]))) (H:=[_,_,_,_]) (by simp[Qat]) Z ?_
     exact Wp
  refine Bd b fun B s b=>?_
  refine vH (Qp (e:=Value.enc) s QiU runUnderlying245 Qjh) ?_
  exact FE Z (Go 10 Z (QD b (Lr [0,1,4])))
 refine Gx 1 Z (TC.le w (Gc 7 Z ?_))
 obtain rfl:=Oi h
 exact Rx [2,0] [2] Z (QT Z (Qm isAgg247 sizeOf247 Z Z Z)) ⟨Z,Z⟩
def F_fq(n:Nat)(b:Value)(rec173:Value->Option Bool)(a:Int):Option (Ctl Int (Ctl Unit Bool)):=
  (bif decide (a<(b.L.length:Int))then(idx b.L a).bind fun c=>(rec173 c).bind fun d=>(bif (!d)then some (.done (.done false))else some (.cont (IntKind.i64.wrap (a+1))))else some (.done (.cont ())))
def B_i(rec173:Value->Option Bool)(n:Nat)(a:Value):Option Bool:=
  (bif (a.Kind==1)then((bif (a.S==[])then some ((a.L.length:Int)==0)else some false):Option Bool).bind fun e=>some e else(bif (a.Kind==2)then((bif (a.N==0)then some ((a.L.length:Int)==0)else some false):Option Bool).bind fun f=>some f else(bif (a.Kind==3)then(iter (F_fq n a rec173) n 0:Option (Ctl Unit Bool)).bind fun c=>match c with|.cont b=>(((bif (a.N==0)then some (a.S==[])else some false):Option Bool).bind fun d=>some d)|.done b=>some b else some false)))
theorem QaH(rec173:Value->Option Bool)(f:∀(g:Value) (r:Bool),rec173 g=some r->Csm prog 219 [.agg (Value.c g)] [] (fun r=>.bool r) r)(n:Nat)(g:Value)(r:Bool)(h:B_i rec173 n g=some r):
    Csm prog 219 [.agg (Value.c g)] [] (fun r=>.bool r) r:=by
 refine Qa func219 Z Z Z ?_
 refine G0 20 Z (Cn Z h (fun z h=>?_) (fun z h=>?_))
 ·refine Gc 1 Z (Bd h fun p i h=>?_)
  refine Ct p [] [] (fun p=>[(2,.bool p)]) (fun _=>[]) (fun _=>rfl) ?_ (fun env H d=>?_)
  ·refine G0 5 Z (Is 11 i Z (fun B i=>?_) (fun B i=>?_))
   ·exact Go 2 Z (Lm Z (Go 4 Z (Cl i [])))
   ·exact Go 7 Z (Cl i [])
  exact Gx 1 Z (TC.le d (Gc 3 Z (Rt h 2 [])))
 refine Gc 6 Z (Cn Z h (fun E h=>?_) (fun E h=>?_))
 ·refine Gc 1 Z (Bd h fun q j h=>?_)
  refine Ct q [] [] (fun q=>[(2,.bool q)]) (fun _=>[]) (fun _=>rfl) ?_ (fun env H d=>?_)
  ·refine G0 5 Z (Is 22 j Z (fun s j=>?_) (fun s j=>?_))
   ·exact Go 2 Z (Lm Z (Go 4 Z (Cl j [])))
   ·exact Go 7 Z (Cl j [])
  exact Gx 1 Z (TC.le d (Gc 3 Z (Rt h 2 [])))
 refine Gc 6 Z (Cn Z h (fun t h=>?_) (fun t h=>?_))
 ·refine Gc 6 Z (Bd h fun F G h=>?_)
  refine CtE (b:=F) [0] [1] (fun _=>[]) (fun _=>[]) (fun _=>rfl) ?_ (fun M env H J d=>?_)
  ·refine G0 1 Z ?_
   refine Lp [0] [1] (fun m=>[(3,I m)]) (fun _=>[]) G (fun _=>rfl) (Lr [0]) fun m O a k=>?_
   refine G0 6 Z (Lm Z (Go 3 Z (CnS Z a (fun u a=>?_) (fun u a=>?_))))
   ·refine Gc 2 Z (QF a ?_)
    obtain rfl:=Oj k a
    exact Gx 1 Z (QB Z (Lr [0]))
   refine Gc 9 Z (Bd a fun L w a=>IzE w (Qat L) Z (Go 1 Z (Cz [] a (f _) Z fun P N a=>Go 3 Z (Cn Z a (fun x a=>?_) (fun x a=>?_)))))
   ·refine Gc 8 Z (Q8 a ?_)
    obtain rfl:=Oj k a
    exact Gx 1 Z (QK (Gx 3 Z (Rt h 2 [])))
   exact Gc 8 Z (QD a (Lr [0]))
  subst J
  refine Gx 1 Z (TC.le d (Gc 1 Z (Bd h fun l e h=>?_)))
  refine Ct l [] [] (fun l=>[(2,.bool l)]) (fun _=>[]) (fun _=>rfl) ?_ (fun env H d=>?_)
  ·refine G0 5 Z (Is 47 e Z (fun y e=>?_) (fun y e=>?_))
   ·exact Go 6 Z (Cl e [])
   ·exact Go 6 Z (Cl e [])
  exact Gx 1 Z (TC.le d (Gc 3 Z (Rt h 2 [])))
 exact Gc 9 Z (Rt h 2 [])
def F_i:Nat->Value->Option Bool
  |0=>fun _=>none
  |n+1=>B_i (F_i n) n
theorem k_i(n:Nat):∀(a:Value) (r:Bool),F_i n a=some r->Csm prog 219 [.agg (Value.c a)] [] (fun r=>.bool r) r:=by
  induction n with
  |zero=>intro a r h;cases h
  |succ n ih=>intro a r h;exact QaH _ ih n a r h
def F_fr(n:Nat)(c:Value)(rec174:Value->Option Int)(a:Int×Int):Option (Ctl (Int×Int) Int):=
  (bif decide (a.2<(c.L.length:Int))then(idx c.L a.2).bind fun d=>(rec174 d).bind fun b=>some (.cont ((if a.1<b then b else a.1),IntKind.i64.wrap (a.2+1)))else some (.done a.1))
def B_h(rec174:Value->Option Int)(n:Nat)(a:Value):Option Int:=
  (bif (a.Kind != 3)then some 0 else(iter (F_fr n a rec174) n (0,0):Option Int).bind fun b=>some (IntKind.i64.wrap (b+1)))
theorem QaK(rec174:Value->Option Int)(d:∀(e:Value) (r:Int),rec174 e=some r->Csm prog 220 [.agg (Value.c e)] [] (fun r=>I r) r)(n:Nat)(e:Value)(r:Int)(h:B_h rec174 n e=some r):
    Csm prog 220 [.agg (Value.c e)] [] (fun r=>I r) r:=by
 refine Qa func220 Z Z Z ?_
 refine G0 14 Z (Cn Z h (fun l h=>?_) (fun l h=>?_))
 ·exact Gc 7 Z (Rt h 2 [])
 refine Gc 13 Z (Bd h fun g m h=>?_)
 refine Ct g [] [] (fun g=>[(3,I g)]) (fun _=>[]) (fun _=>rfl) ?_ (fun env H p=>?_)
 ·refine G0 1 Z ?_
  refine Lp [0] [1] (fun b=>[(3,I b.1),(4,I b.2)]) (fun _=>[]) m (fun _=>rfl) (Lr [0]) fun b t a i=>?_
  refine G0 6 Z (Lm Z (Go 3 Z (CnS Z a (fun j a=>?_) (fun j a=>?_))))
  ·refine Gc 2 Z (QF a ?_)
   obtain rfl:=Oj i a
   exact Gx 1 Z (QX (Lr []))
  refine Gc 9 Z (Bd a fun q k a=>IzE k (Qat q) Z (Go 1 Z (Cz [] a (d _) Z fun f s a=>?_)))
  refine vX (I (if b.1<f then f else b.1)) (OpV.max Z Z Z Z) ?_
  exact Go 9 Z (QD a (Lr [0]))
 exact Gx 1 Z (TC.le p (Gc 8 Z (Rt h 2 [])))
def F_h:Nat->Value->Option Int
  |0=>fun _=>none
  |n+1=>B_h (F_h n) n
theorem k_h(n:Nat):∀(a:Value) (r:Int),F_h n a=some r->Csm prog 220 [.agg (Value.c a)] [] (fun r=>I r) r:=by
  induction n with
  |zero=>intro a r h;cases h
  |succ n ih=>intro a r h;exact QaK _ ih n a r h
def F_bw(n:Nat)(a:Value):Option Int:=
  (F_i n a).bind fun b=>(bif (!b)then some 1 else(F_h n a).bind fun c=>(bif decide (16<c)then some 2 else some 0))
theorem k_bw(n:Nat)(a:Value)(r:Int)(h:F_bw n a=some r):
    Csm prog 203 [.agg (Value.c a)] [] (fun r=>I r) r:=by
 refine Qa func203 Z Z Z ?_
 refine G0 10 Z (Cz [] h (k_i _ _) Z fun g e h=>Go 3 Z (Cn Z h (fun b h=>?_) (fun b h=>?_)))
 ·exact Gc 7 Z (Rt h 2 [])
 refine Gc 6 Z (Cz [] h (k_h _ _) Z fun i f h=>Go 3 Z (Cn Z h (fun d h=>?_) (fun d h=>?_)))
 ·exact Gc 7 Z (Rt h 2 [])
 exact Gc 8 Z (Rt h 2 [])
def F_at(n:Nat)(a:Int):Option Int:=
  (bif decide (0<=a)then some (IntKind.u64.wrap (2*(IntKind.u64.wrap a)))else some (IntKind.u64.wrap ((IntKind.u64.wrap (2*(IntKind.u64.wrap (IntKind.i64.wrap (0-(IntKind.i64.wrap (a+1)))))))+1)))
theorem k_at(n:Nat)(a:Int)(r:Int)(h:F_at n a=some r):
    Csm prog 222 [I a] [] (fun r=>.int .u64 r) r:=by
 refine Qa func222 Z Z Z ?_
 refine G0 12 Z (Cn Z h (fun b h=>?_) (fun b h=>?_))
 ·refine Gc 3 Z ?_
  refine vX (.int .u64 (IntKind.u64.wrap a)) (Qbl Z runUnderlying3 runUnderlying263 Z) ?_
  exact Go 6 Z (Rt h 2 [])
 refine Gc 7 Z ?_
 refine vV (x:=(.int .u64 (IntKind.u64.wrap (IntKind.i64.wrap (0-(IntKind.i64.wrap (a+1))))))) (Qbl Z runUnderlying3 runUnderlying263 Z) ?_
 exact Go 6 Z (Rt h 2 [])
def B_f(rec177:Int->Option (List Int))(n:Nat)(a:Int):Option (List Int):=
  (bif decide (a<128)then some [IntKind.u8.wrap a]else(rec177 (IntKind.u64.wrap (Int.tdiv a 128))).bind fun b=>(app [IntKind.u8.wrap (IntKind.u64.wrap ((Int.tmod a 128)+128))] b).bind fun c=>some c)
theorem QaA(rec177:Int->Option (List Int))(b:∀(a:Int) (r:List Int),rec177 a=some r->C prog 221 [.int .u64 a] [] (RQ (fun r=>.osl 0 0 r.length 1) (fun r=>[.row 5 1 (List.map (Qh .u8) r)]) r))(n:Nat)(a:Int)(r:List Int)(h:B_f rec177 n a=some r):
    C prog 221 [.int .u64 a] [] (RQ (fun r=>.osl 0 0 r.length 1) (fun r=>[.row 5 1 (List.map (Qh .u8) r)]) r):=by
 refine Qa func221 Z Z Z ?_
 refine G0 12 Z (Cn Z h (fun c h=>?_) (fun c h=>?_))
 ·refine Gc 3 Z ?_
  refine vX (.int .u8 (IntKind.u8.wrap a)) (Qbl Z runUnderlying263 runUnderlying5 Z) ?_
  refine vH (OpH.lit (xs:=[.tmp 6]) (es:=List.map (Qh .u8) [IntKind.u8.wrap a]) QaL Z Z Z Z Z ⟨Z,trivial⟩ Z Z) ?_
  exact FE Z (Go 5 Z (Rt h 2 [0]))
 refine Gc 5 Z ?_
 refine vX (.int .u64 (Int.tmod a 128)) (OpV.rem Z Z Z (by decide)) ?_
 refine Go 1 Z ?_
 refine vV (x:=(.int .u8 (IntKind.u8.wrap (IntKind.u64.wrap ((Int.tmod a 128)+128))))) (Qbl Z runUnderlying263 runUnderlying5 Z) ?_
 refine vH (OpH.lit (xs:=[.tmp 11]) (es:=List.map (Qh .u8) [IntKind.u8.wrap (IntKind.u64.wrap ((Int.tmod a 128)+128))]) QaL Z Z Z Z Z ⟨Z,trivial⟩ Z Z) ?_
 refine FE Z (Go 1 Z ?_)
 refine vX (.int .u64 (IntKind.u64.wrap (Int.tdiv a 128))) (OpV.quo Z Z Z (by decide)) ?_
 refine Cd [] h (b _) Z fun g f h=>FE Z (Bd h fun j d h=>?_)
 refine vH (Qp (e:=(Qh .u8)) d QaL runUnderlying203 (QQ (i:=1))) ?_
 exact FE Z (Go 4 Z (Rt h 2 [2]))
def F_f:Nat->Int->Option (List Int)
  |0=>fun _=>none
  |n+1=>B_f (F_f n) n
theorem k_f(n:Nat):∀(a:Int) (r:List Int),F_f n a=some r->C prog 221 [.int .u64 a] [] (RQ (fun r=>.osl 0 0 r.length 1) (fun r=>[.row 5 1 (List.map (Qh .u8) r)]) r):=by
  induction n with
  |zero=>intro a r h;cases h
  |succ n ih=>intro a r h;exact QaA _ ih n a r h
def F_fh(n:Nat)(b:Value)(rec175:Value->Option (List Int))(a:(List Int)×Int):Option (Ctl ((List Int)×Int) (List Int)):=
  (bif decide (a.2<(b.L.length:Int))then(idx b.L a.2).bind fun c=>(rec175 c).bind fun d=>(app a.1 d).bind fun e=>some (.cont (e,IntKind.i64.wrap (a.2+1)))else some (.done a.1))
def B_g(rec175:Value->Option (List Int))(n:Nat)(a:Value):Option (List Int):=
  (bif (a.Kind==1)then(F_at n a.N).bind fun c=>(F_f n c).bind fun d=>(app [1] d).bind fun e=>some e else(bif (a.Kind==2)then none else(F_f n (IntKind.u64.wrap (a.L.length:Int))).bind fun f=>(app [3] f).bind fun g=>(iter (F_fh n a rec175) n (g,0):Option (List Int)).bind fun b=>some b))
theorem QaG(rec175:Value->Option (List Int))(f:∀(g:Value) (r:List Int),rec175 g=some r->C prog 204 [.agg (Value.c g)] [] (RQ (fun r=>.osl 0 0 r.length 1) (fun r=>[.row 5 1 (List.map (Qh .u8) r)]) r))(n:Nat)(g:Value)(r:List Int)(h:B_g rec175 n g=some r):
    C prog 204 [.agg (Value.c g)] [] (RQ (fun r=>.osl 0 0 r.length 1) (fun r=>[.row 5 1 (List.map (Qh .u8) r)]) r):=by
 refine Qa func204 Z Z Z ?_
 refine G0 20 Z (Cn Z h (fun p h=>?_) (fun p h=>?_))
 ·refine Gc 2 Z ?_
  refine vH (OpH.lit (xs:=[.const (.int .u8 1)]) (es:=List.map (Qh .u8) [1]) QaL Z Z Z Z Z ⟨Z,trivial⟩ Z Z) ?_
  refine FE Z (Go 2 Z (Cz [] h (k_at _ _) Z fun M z h=>Cd [] h (k_f _ _) Z fun N B h=>FE Z (Bd h fun O q h=>?_)))
  refine vH (Qp (e:=(Qh .u8)) q QaL runUnderlying203 (QQ (i:=2))) ?_
  exact FE Z (Go 6 Z (Rt h 2 [3]))
 refine Gc 6 Z (Cn Z h (fun s h=>?_) (fun s h=>?_))
 ·refine Gc 1 Z ?_
  cases h
 refine Gc 5 Z ?_
 refine vH (OpH.lit (xs:=[.const (.int .u8 3)]) (es:=List.map (Qh .u8) [3]) QaL Z Z Z Z Z ⟨Z,trivial⟩ Z Z) ?_
 refine FE Z (Go 2 Z (Lm Z ?_))
 refine vX (.int .u64 (IntKind.u64.wrap (g.L.length:Int))) (Qbl Z runUnderlying3 runUnderlying263 Z) ?_
 refine Cd [] h (k_f _ _) Z fun P E h=>FE Z (Bd h fun Q t h=>?_)
 refine vH (Qp (e:=(Qh .u8)) t QaL runUnderlying203 (QQ (i:=2))) ?_
 refine FE Z (Go 9 Z (Bd h fun b u h=>?_))
 refine Ct b [1] [] (fun b=>[(3,.osl 0 0 b.length 1)]) (fun b=>[(0,.row 5 1 (List.map (Qh .u8) b))]) (fun _=>rfl) ?_ (fun env H w=>?_)
 ·refine G0 1 Z ?_
  refine Lp [0,3] [1] (fun d=>[(3,.osl 1 0 d.1.length 1),(4,I d.2)]) (fun d=>[(1,.row 5 1 (List.map (Qh .u8) d.1))]) u (fun _=>rfl) (Lr [0,3]) fun d F a j=>?_
  refine G0 6 Z (Lm Z (Go 3 Z (CnS Z a (fun k a=>?_) (fun k a=>?_))))
  ·refine Gc 2 Z (QF a ?_)
   obtain rfl:=Oj j a
   exact Gx 1 Z (QX (Lr [1]))
  refine Gc 9 Z (Bd a fun x l a=>IzE l (Qat x) Z (Go 1 Z (Cd [] a (f _) Z fun G y a=>FE Z (Bd a fun J m a=>?_))))
  refine vH (Qp (e:=(Qh .u8)) m QaL runUnderlying203 (QQ (i:=2))) ?_
  exact FE Z (Go 9 Z (QD a (Lr [0,3])))
 exact Gx 1 Z (TC.le w (Gc 7 Z (Rt h 2 [0])))
def F_g:Nat->Value->Option (List Int)
  |0=>fun _=>none
  |n+1=>B_g (F_g n) n
theorem k_g(n:Nat):∀(a:Value) (r:List Int),F_g n a=some r->C prog 204 [.agg (Value.c a)] [] (RQ (fun r=>.osl 0 0 r.length 1) (fun r=>[.row 5 1 (List.map (Qh .u8) r)]) r):=by
  induction n with
  |zero=>intro a r h;cases h
  |succ n ih=>intro a r h;exact QaG _ ih n a r h
def F_ax(n:Nat)(a:Value):Option ((List Int)×Int):=
  (F_bw n a).bind fun b=>(bif (b != 0)then some ([],b)else(F_g n a).bind fun c=>some (c,0))
theorem k_ax(n:Nat)(a:Value)(r:(List Int)×Int)(h:F_ax n a=some r):
    C prog 164 [.agg (Value.c a)] [] (RQ (fun r=>.tup [.osl 0 0 r.1.length 1,I r.2]) (fun r=>[.row 5 1 (List.map (Qh .u8) r.1)]) r):=by
 refine Qa func164 Z Z Z ?_
 refine G0 10 Z (Cz [] h (k_bw _ _) Z fun f d h=>Go 10 Z (Cn Z h (fun b h=>?_) (fun b h=>?_)))
 ·refine Gc 9 Z ?_
  obtain rfl:=Oi h
  refine R2 2 3 Z Z ?_
  refine Le.trans (Le.phantom (s:=2) (k:=1) (t:=5) (Nat.le_of_ble_eq_true Z) Z) ?_
  exact Lr [1]
 refine Gc 5 Z (Cd [] h (k_g _ _) Z fun g e h=>FE Z (Go 5 Z ?_))
 obtain rfl:=Oi h
 exact R2 2 3 Z Z (Lr [1])
def F_x(n:Nat)(a:Fact):Option ((List Int)×Int):=
  (F_aa n a).bind fun c=>(bif (c != 0)then some ([],120)else(F_bb n a).bind fun d=>(F_bg n d).bind fun e=>(F_ax n ({Kind:=3,N:=0,S:=[],L:=e:Value})).bind fun b=>some (b.1,b.2))
theorem k_x(n:Nat)(a:Fact)(r:(List Int)×Int)(h:F_x n a=some r):
    C prog 113 [.agg (Fact.c a)] [] (RQ (fun r=>.tup [.osl 0 0 r.1.length 1,I r.2]) (fun r=>[.row 5 1 (List.map (Qh .u8) r.1)]) r):=by
 refine Qa func113 Z Z Z ?_
 refine G0 11 Z (Cz [] h (k_aa _ _) Z fun i d h=>Go 3 Z (Cn Z h (fun b h=>?_) (fun b h=>?_)))
 ·refine Gc 8 Z ?_
  obtain rfl:=Oi h
  refine R2 2 3 Z Z ?_
  refine Le.trans (Le.phantom (s:=2) (k:=1) (t:=5) (Nat.le_of_ble_eq_true Z) Z) ?_
  exact Lr [1]
 refine Gc 5 Z (Cd [] h (k_bb _ _) Z fun j e h=>FE Z ?_)
 refine WO.le (QaW [(8,_)] Z Z (Qju.cons Z FzA.o Qju.nil) (FzH.keep (FzH.keep (YS _)))) ?_
 refine Cd [] h (k_bg _ _) Z fun l f h=>FE Z ?_
 refine WO.le (QaW [(9,_)] Z Z (Qju.cons Z (FzA.agg (FzL.cons (FzA.refl _) (FzL.cons (FzA.refl _) (FzL.cons (FzA.refl _) (FzL.cons FzA.o (FzL.refl _)))))) Qju.nil) (FzH.keep (FzH.keep (FzH.keep (FzH.cells (FzL.cons (FzA.refl _) (FzL.cons (FzA.refl _) (FzL.cons (FzA.refl _) (FzL.cons FzA.o (FzL.refl _))))) (YS _)))))) ?_
 refine Cd [] h (k_ax _ _) Z fun m g h=>FE Z (Go 7 Z ?_)
 obtain rfl:=Oi h
 exact R2 2 3 Z Z (Lr [4])
def F_bl(n:Nat)(b:Fact)(c:Fact)(a:Int):Option (Ctl Int (Ctl Unit Int)):=
  (bif decide (a<3)then(idx [b.At,b.Crew,b.No] a).bind fun d=>(idx [c.At,c.Crew,c.No] a).bind fun e=>(bif decide (d<e)then some (.done (.done (-1)))else(idx [b.At,b.Crew,b.No] a).bind fun f=>(idx [c.At,c.Crew,c.No] a).bind fun g=>(bif decide (g<f)then some (.done (.done 1))else some (.cont (IntKind.i64.wrap (a+1)))))else some (.done (.cont ())))
def F_as(n:Nat)(d:Fact)(e:Fact):Option Int:=
  (iter (F_bl n d e) n 0:Option (Ctl Unit Int)).bind fun f=>match f with|.cont a=>((F_x n d).bind fun b=>(F_x n e).bind fun c=>(bif Op.bytesLess (List.map QH b.1) (List.map QH c.1)then some (-1)else(bif (!(Op.bytesLess (List.map QH b.1) (List.map QH c.1)||(List.map QH b.1)==(List.map QH c.1)))then some 1 else some 0)))|.done a=>some a
theorem k_as(n:Nat)(j:Fact)(k:Fact)(r:Int)(h:F_as n j k=some r):
    Csm prog 51 [.agg (Fact.c j),.agg (Fact.c k)] [] (fun r=>I r) r:=by
 refine Qa func51 Z Z Z ?_
 refine G0 15 Z ?_
 refine vH (OpH.lit (xs:=[.tmp 13,.tmp 15,.tmp 17]) (es:=List.map (Qh .i64) [j.At,j.Crew,j.No]) Qi Z Z Z Z Z ⟨Z,Z,Z,trivial⟩ Z Z) ?_
 refine FE Z (Go 11 Z ?_)
 refine vH (OpH.lit (xs:=[.tmp 20,.tmp 22,.tmp 24]) (es:=List.map (Qh .i64) [k.At,k.Crew,k.No]) Qi Z Z Z Z Z ⟨Z,Z,Z,trivial⟩ Z Z) ?_
 refine FE Z (Go 9 Z (Bd h fun B E h=>?_))
 refine CtE (b:=B) [0,1] [2,3] (fun _=>[]) (fun _=>[]) (fun _=>rfl) ?_ (fun O env H F G=>?_)
 ·refine G0 1 Z ?_
  refine Lp [0,1,2,3] [2,3,5,6] (fun d=>[(7,I d)]) (fun _=>[]) E (fun _=>rfl) (Lr [0,1,2,3]) fun d R a g=>?_
  refine G0 7 Z (CnS Z a (fun t a=>?_) (fun t a=>?_))
  ·refine Gc 2 Z (QF a ?_)
   obtain rfl:=Oj g a
   exact Gx 1 Z (QB Z (Lr [0,1]))
  refine Gc 6 Z (DSs 8 Z (D 2 Z ?_))
  obtain⟨J,m,a⟩:=bnd a
  refine DS.v (x:=(.ptr 2 (Int.toNat d*1))) (QI m Z runUnderlying109 sizeOf3) ?_
  refine DS.v (x:=(I J)) (OpV.load Z isAgg3 Z (Qs m)) ?_
  refine D 2 Z ?_
  obtain⟨L,p,a⟩:=bnd a
  refine DS.v (x:=(.ptr 3 (Int.toNat d*1))) (QI p Z runUnderlying109 sizeOf3) ?_
  refine DS.v (x:=(I L)) (OpV.load Z isAgg3 Z (Qs p)) ?_
  refine DS.done Z (Go 3 Z (Cn Z a (fun u a=>?_) (fun u a=>?_)))
  ·refine Gc 9 Z (Q8 a ?_)
   obtain rfl:=Oj g a
   exact Gx 1 Z (QK (Gx 1 Z (Rt h 4 [])))
  refine Gc 3 Z (DSs 8 Z (D 2 Z ?_))
  obtain⟨M,q,a⟩:=bnd a
  refine DS.v (x:=(.ptr 2 (Int.toNat d*1))) (QI q Z runUnderlying109 sizeOf3) ?_
  refine DS.v (x:=(I M)) (OpV.load Z isAgg3 Z (Qs q)) ?_
  refine D 2 Z ?_
  obtain⟨N,s,a⟩:=bnd a
  refine DS.v (x:=(.ptr 3 (Int.toNat d*1))) (QI s Z runUnderlying109 sizeOf3) ?_
  refine DS.v (x:=(I N)) (OpV.load Z isAgg3 Z (Qs s)) ?_
  refine DS.done Z (Go 3 Z (Cn Z a (fun w a=>?_) (fun w a=>?_)))
  ·refine Gc 8 Z (Q8 a ?_)
   obtain rfl:=Oj g a
   exact Gx 1 Z (QK (Gx 1 Z (Rt h 4 [])))
  exact Gc 8 Z (QD a (Lr [0,1,2,3]))
 subst F
 refine Gx 1 Z (TC.le G (Gc 3 Z (Cd [] h (k_x _ _) Z fun e P h=>FE Z (Go 10 Z (Cd [] h (k_x _ _) Z fun f Q h=>FE Z (Go 11 Z ?_))))))
 refine vX (.str (List.map QH e.1)) (Qbz (l:=e.1) (QgN.row (i:=2)) runUnderlying203 runUnderlying5 runUnderlying9) ?_
 refine Go 1 Z ?_
 refine vX (.str (List.map QH f.1)) (Qbz (l:=f.1) (QgN.row (i:=3)) runUnderlying203 runUnderlying5 runUnderlying9) ?_
 refine Go 3 Z (Cn Z h (fun y h=>?_) (fun y h=>?_))
 ·exact Gc 7 Z (Rt h 4 [])
 refine Gc 6 Z ?_
 refine vX (.str (List.map QH e.1)) (Qbz (l:=e.1) (QgN.row (i:=2)) runUnderlying203 runUnderlying5 runUnderlying9) ?_
 refine Go 1 Z ?_
 refine vX (.str (List.map QH f.1)) (Qbz (l:=f.1) (QgN.row (i:=3)) runUnderlying203 runUnderlying5 runUnderlying9) ?_
 refine vX (.bool (!(Op.bytesLess (List.map QH e.1) (List.map QH f.1)||(List.map QH e.1)==(List.map QH f.1)))) (QhX Z Z Z) ?_
 refine Go 2 Z (Cn Z h (fun z h=>?_) (fun z h=>?_))
 ·exact Gc 7 Z (Rt h 4 [])
 exact Gc 8 Z (Rt h 4 [])
def F_aq(n:Nat)(g:List Fact)(b:(List Fact)×Int)(a:Int):Option (Ctl Int Int):=
  ((bif decide (a<(b.1.length:Int))then(idx b.1 a).bind fun c=>(idx g b.2).bind fun d=>(F_as n c d).bind fun e=>some (decide (e<0))else some false):Option Bool).bind fun f=>(bif f then some (.cont (IntKind.i64.wrap (a+1)))else some (.done a))
def F_fs(n:Nat)(c:List Fact)(a:(List Fact)×Int):Option (Ctl ((List Fact)×Int) (List Fact)):=
  (bif decide (a.2<(c.length:Int))then((idx c a.2).bind fun d=>(F_aa n d).bind fun e=>(bif (e != 0)then some a.1 else(iter (F_aq n c a) n 0:Option Int).bind fun b=>((bif decide (b<(a.1.length:Int))then(idx a.1 b).bind fun f=>(idx c a.2).bind fun g=>some (f==g)else some false):Option Bool).bind fun h=>(bif h then some a.1 else(slc a.1 0 b).bind fun i=>(app ([]:List Fact) i).bind fun j=>(idx c a.2).bind fun k=>(app j [k]).bind fun l=>(slc a.1 b (a.1.length:Int)).bind fun m=>(app l m).bind fun p=>some p)):Option (List Fact)).bind fun q=>some (.cont (q,IntKind.i64.wrap (a.2+1)))else some (.done a.1))
def F_av(n:Nat)(b:List Fact):Option (List Fact):=
  (iter (F_fs n b) n (([]:List Fact),0):Option (List Fact)).bind fun a=>some a
theorem k_av(n:Nat)(R:List Fact)(r:List Fact)(h:F_av n R=some r):
    C prog 26 [.rsl 57 (List.map Fact.c R)] [] (RQ (fun r=>.osl 0 0 r.length 57) (fun r=>[.row 52 57 (List.map Fact.c r)]) r):=by
 refine Qa func26 Z Z Z ?_
 refine G0 7 Z ?_
 refine vH (OpH.lit (xs:=[]) (es:=List.map Fact.c []) Qbh Z Z Z Z Z trivial Z Z) ?_
 refine FE Z (Go 9 Z (Bd h fun y aj h=>?_))
 refine Ct y [0] [] (fun y=>[(3,.osl 0 0 y.length 57)]) (fun y=>[(0,.row 52 57 (List.map Fact.c y))]) (fun _=>rfl) ?_ (fun env H u=>?_)
 ·refine G0 1 Z ?_
  refine Lp [0] [0] (fun i=>[(3,.osl 0 0 i.1.length 57),(4,I i.2)]) (fun i=>[(0,.row 52 57 (List.map Fact.c i.1))]) aj (fun _=>rfl) (Lr [0]) fun i ao s T=>?_
  refine G0 5 Z (Lm Z (Go 3 Z (CnS Z s (fun V s=>?_) (fun V s=>?_))))
  ·refine Gc 2 Z (QF s ?_)
   obtain rfl:=Oj T s
   exact Gx 1 Z (QX (Lr [0]))
  refine Gc 3 Z (Bd s fun z g s=>?_)
  refine Ct z [0] [0,4] (fun z=>[(3,.osl 0 0 z.length 57)]) (fun z=>[(0,.row 52 57 (List.map Fact.c z))]) (fun _=>rfl) ?_ (fun env H u=>?_)
  ·refine G0 6 Z (Bd g fun aq W g=>Iz W Z (Go 1 Z (Cz [] g (k_aa _ _) Z fun ar am g=>Go 3 Z (Cn Z g (fun X g=>?_) (fun X g=>?_)))))
   ·exact Gc 3 Z (Cl g [0])
   refine Gc 8 Z (Bd g fun j ak g=>?_)
   refine Ct j [0] [0,3,4] (fun j=>[(5,I j)]) (fun _=>[]) (fun _=>rfl) ?_ (fun env H u=>?_)
   ·refine G0 1 Z ?_
    refine Lp [0] [0,3,4] (fun G=>[(5,I G)]) (fun _=>[]) ak (fun _=>rfl) (Lr [0]) fun G au t Y=>?_
    refine G0 2 Z (Bd t fun J k t=>?_)
    refine Ct J [0] [0,3,4,5] (fun J=>[(34,.bool J)]) (fun _=>[]) (fun _=>rfl) ?_ (fun env H u=>?_)
    ·refine G0 0 Z (DSs 13 Z (D 5 Z (Qf8 4 k Z Z Z (fun aa k=>?_) (fun aa k=>?_))))
     ·refine D 2 Z ?_
      obtain⟨al,N,k⟩:=bnd k
      refine DS.v (x:=(.ptr 0 (Int.toNat G*57))) (QI N Z runUnderlying22 sizeOf52) ?_ (hg:=(gT Z))
      refine DS.v (x:=(.agg (Fact.c al))) (Qk Z isAgg52 sizeOf52 Z (Qs N) Z Z) ?_ (hg:=(gT Z))
      refine D 2 Z ?_
      obtain⟨f,ab,k⟩:=bnd k
      refine DS.v (x:=(.rp [I f.Crew,I f.No,I f.At,I f.Kind,I f.Starter.Bib,I f.Starter.Distance,I f.Starter.Wave,I f.Starter.Slot,I f.Starter.Age,I f.Starter.Chip,I f.Starter.Team,I f.Starter.Lot,I f.Read.Mat,I f.Read.Epoch,I f.Read.Chip,I f.Read.Local,I f.Beacon.Mat,I f.Beacon.Epoch,I f.Beacon.Local,I f.Beacon.True,I f.Beacon.Err,I f.Sync.MatA,I f.Sync.EpochA,I f.Sync.LocalA,I f.Sync.MatB,I f.Sync.EpochB,I f.Sync.LocalB,I f.Sync.Min,I f.Sync.Max,I f.Hand.Bib,I f.Hand.Position,I f.Hand.Lo,I f.Hand.Hi,I f.Silence.Mat,I f.Silence.Epoch,I f.Silence.Lo,I f.Silence.Hi,I f.Pair.A,I f.Pair.B,I f.Report.Case,I f.Report.Bib,I f.Report.Offence,I f.Report.Position,I f.Protest.Case,I f.Protest.By,I f.Protest.Fee,I f.Protest.Form,I f.Ruling.Case,I f.Ruling.Instance,I f.Ruling.Kind,I f.Ruling.Bib,I f.Ruling.Position,I f.Ruling.Amount,I f.Appeal.Case,.bool f.Appeal.Suspends,I f.Void.Crew,I f.Void.No])) (Qe8 (e:=Fact.c) (l:=R) (v:=f) ab runUnderlying22 sizeOf52) ?_ (hg:=(gT Z))
      exact D 1 Z (DS.done Z (Cz [] k (k_as _ _ _) Z fun av an k=>Go 3 Z (Cl k [0])))
     ·exact D 8 Z (DS.done Z (Go 4 Z (Cl k [0])))
    refine Gx 1 Z (TC.le u (CnS Z t (fun ac t=>?_) (fun ac t=>?_)))
    ·refine Gc 2 Z (QF t ?_)
     obtain rfl:=Oj Y t
     exact Gx 1 Z (QX (Lr [0]))
    exact Gc 9 Z (QD t (Lr [0]))
   refine Gx 1 Z (TC.le u (Gc 2 Z (Bd g fun L m g=>?_)))
   refine Ct L [0] [0,3,4,5] (fun L=>[(51,.bool L)]) (fun _=>[]) (fun _=>rfl) ?_ (fun env H u=>?_)
   ·refine G0 0 Z (DSs 13 Z (D 5 Z (Qf8 4 m Z Z Z (fun ad m=>?_) (fun ad m=>?_))))
    ·refine D 2 Z ?_
     obtain⟨M,O,m⟩:=bnd m
     refine DS.v (x:=(.ptr 0 (Int.toNat j*57))) (QI O Z runUnderlying22 sizeOf52) ?_ (hg:=(gT Z))
     refine DS.v (x:=(.agg (Fact.c M))) (Qk Z isAgg52 sizeOf52 Z (Qs O) Z Z) ?_ (hg:=(gT Z))
     refine D 2 Z ?_
     obtain⟨d,ae,m⟩:=bnd m
     refine DS.v (x:=(.rp [I d.Crew,I d.No,I d.At,I d.Kind,I d.Starter.Bib,I d.Starter.Distance,I d.Starter.Wave,I d.Starter.Slot,I d.Starter.Age,I d.Starter.Chip,I d.Starter.Team,I d.Starter.Lot,I d.Read.Mat,I d.Read.Epoch,I d.Read.Chip,I d.Read.Local,I d.Beacon.Mat,I d.Beacon.Epoch,I d.Beacon.Local,I d.Beacon.True,I d.Beacon.Err,I d.Sync.MatA,I d.Sync.EpochA,I d.Sync.LocalA,I d.Sync.MatB,I d.Sync.EpochB,I d.Sync.LocalB,I d.Sync.Min,I d.Sync.Max,I d.Hand.Bib,I d.Hand.Position,I d.Hand.Lo,I d.Hand.Hi,I d.Silence.Mat,I d.Silence.Epoch,I d.Silence.Lo,I d.Silence.Hi,I d.Pair.A,I d.Pair.B,I d.Report.Case,I d.Report.Bib,I d.Report.Offence,I d.Report.Position,I d.Protest.Case,I d.Protest.By,I d.Protest.Fee,I d.Protest.Form,I d.Ruling.Case,I d.Ruling.Instance,I d.Ruling.Kind,I d.Ruling.Bib,I d.Ruling.Position,I d.Ruling.Amount,I d.Appeal.Case,.bool d.Appeal.Suspends,I d.Void.Crew,I d.Void.No])) (Qe8 (e:=Fact.c) (l:=R) (v:=d) ae runUnderlying22 sizeOf52) ?_ (hg:=(gT Z))
     refine D 1 Z (DS.done Z ?_)
     refine vX (.bool (M==d)) (QcC (p:=M) (q:=d) QgI Z Z) ?_ (gT Z)
     exact Go 2 Z (Cl m [0])
    ·exact D 8 Z (DS.done Z (Go 3 Z (Cl m [0])))
   refine Gx 1 Z (TC.le u (Cn Z g (fun af g=>?_) (fun af g=>?_)))
   ·exact Gc 3 Z (Cl g [0])
   refine Gc 2 Z (DKs 14 [0,4,10] [(1,0,0),(0,0,1),(0,0,1),(0,0,1),(1,1,0),(0,0,2),(0,0,2),(0,0,2),(0,0,2),(0,0,2),(1,2,0),(0,0,3),(0,0,3),(0,0,3)] (by kernel_rfl) ?_)
   refine DK.op (x:=.osl 1 0 (([]:List Fact).length) 57) (X1:=[.row 52 57 (List.map Fact.c i.1),.row 52 57 (List.map Fact.c ([]:List Fact))]) ?_ ?_
   ·refine vH (OpH.lit (xs:=[]) (es:=List.map Fact.c []) Qbh Z Z Z Z Z trivial Z Z) ?_
    exact FE Z Wp
   refine Dk 2 Z ?_
   obtain⟨aw,E,g⟩:=bnd g
   refine Qes (lo:=0) (hi:=1) (x:=.osl 0 (0+Int.toNat 0) (Int.toNat j-Int.toNat 0) 57) ⟨?_,?_,trivial⟩ ?_
   ·refine vX (.osl 0 (0+Int.toNat 0) (Int.toNat j-Int.toNat 0) 57) (Qay (l:=i.1) E runUnderlying22 sizeOf52 (.inl ⟨Z,Z⟩) (.inr ⟨_,Z,Z⟩)) ?_
    exact Wp
   ·refine vX (.osl 0 (0+Int.toNat 0) (Int.toNat j-Int.toNat 0) 57) (Qay (l:=i.1) E runUnderlying22 sizeOf52 (.inl ⟨Z,Z⟩) (.inr ⟨_,Z,Z⟩)) ?_
    exact Wp
   obtain⟨P,ag,g⟩:=bnd g
   refine DK.op (x:=.osl 2 0 P.length 57) (X1:=[.row 52 57 (List.map Fact.c i.1),.dead,.row 52 57 (List.map Fact.c P)]) ?_ ?_
   ·refine vH (Qp (e:=Fact.c) ag Qbh runUnderlying22 (Qji (b:=0) E)) ?_
    exact FE Z Wp
   refine Dk 2 Z ?_
   obtain⟨a,F,g⟩:=bnd g
   refine Qes (lo:=0) (hi:=2) (x:=.rp [I a.Crew,I a.No,I a.At,I a.Kind,I a.Starter.Bib,I a.Starter.Distance,I a.Starter.Wave,I a.Starter.Slot,I a.Starter.Age,I a.Starter.Chip,I a.Starter.Team,I a.Starter.Lot,I a.Read.Mat,I a.Read.Epoch,I a.Read.Chip,I a.Read.Local,I a.Beacon.Mat,I a.Beacon.Epoch,I a.Beacon.Local,I a.Beacon.True,I a.Beacon.Err,I a.Sync.MatA,I a.Sync.EpochA,I a.Sync.LocalA,I a.Sync.MatB,I a.Sync.EpochB,I a.Sync.LocalB,I a.Sync.Min,I a.Sync.Max,I a.Hand.Bib,I a.Hand.Position,I a.Hand.Lo,I a.Hand.Hi,I a.Silence.Mat,I a.Silence.Epoch,I a.Silence.Lo,I a.Silence.Hi,I a.Pair.A,I a.Pair.B,I a.Report.Case,I a.Report.Bib,I a.Report.Offence,I a.Report.Position,I a.Protest.Case,I a.Protest.By,I a.Protest.Fee,I a.Protest.Form,I a.Ruling.Case,I a.Ruling.Instance,I a.Ruling.Kind,I a.Ruling.Bib,I a.Ruling.Position,I a.Ruling.Amount,I a.Appeal.Case,.bool a.Appeal.Suspends,I a.Void.Crew,I a.Void.No]) ⟨?_,?_,?_,trivial⟩ ?_
   ·exact Ix F runUnderlying22 sizeOf52 Z Wp
   ·exact Ix F runUnderlying22 sizeOf52 Z Wp
   ·exact Ix F runUnderlying22 sizeOf52 Z Wp
   refine Dk 1 Z ?_
   refine Qes (lo:=0) (hi:=2) (x:=.rsl 57 (List.map Fact.c [a])) ⟨?_,?_,?_,trivial⟩ ?_
   ·refine vH (QaF (xs:=[.tmp 60]) (es:=List.map Fact.c [a]) Qbh Z Z Z Z Z ⟨Z,trivial⟩ Z Z) ?_
    exact FE Z Wp
   ·refine vH (QaF (xs:=[.tmp 60]) (es:=List.map Fact.c [a]) Qbh Z Z Z Z Z ⟨Z,trivial⟩ Z Z) ?_
    exact FE Z Wp
   ·refine vH (QaF (xs:=[.tmp 60]) (es:=List.map Fact.c [a]) Qbh Z Z Z Z Z ⟨Z,trivial⟩ Z Z) ?_
    exact FE Z Wp
   obtain⟨Q,ah,g⟩:=bnd g
   refine DK.op (x:=.osl 3 0 Q.length 57) (X1:=[.row 52 57 (List.map Fact.c i.1),.dead,.dead,.row 52 57 (List.map Fact.c Q)]) ?_ ?_
   ·refine vH (Qp (e:=Fact.c) ah Qbh runUnderlying22 Qjh) ?_
    exact FE Z Wp
   refine Dk 2 Z ?_
   obtain⟨ax,w,g⟩:=bnd g
   refine Qes (lo:=0) (hi:=3) (x:=.osl 0 (0+Int.toNat j) (Int.toNat (i.1.length:Int)-Int.toNat j) 57) ⟨?_,?_,?_,?_,trivial⟩ ?_
   ·refine vX (.osl 0 (0+Int.toNat j) (Int.toNat (i.1.length:Int)-Int.toNat j) 57) (Qay (l:=i.1) w runUnderlying22 sizeOf52 (.inr ⟨_,Z,Z⟩) (.inl ⟨Z,Z⟩)) ?_
    exact Wp
   ·refine vX (.osl 0 (0+Int.toNat j) (Int.toNat (i.1.length:Int)-Int.toNat j) 57) (Qay (l:=i.1) w runUnderlying22 sizeOf52 (.inr ⟨_,Z,Z⟩) (.inl ⟨Z,Z⟩)) ?_
    exact Wp
   ·refine vX (.osl 0 (0+Int.toNat j) (Int.toNat (i.1.length:Int)-Int.toNat j) 57) (Qay (l:=i.1) w runUnderlying22 sizeOf52 (.inr ⟨_,Z,Z⟩) (.inl ⟨Z,Z⟩)) ?_
    exact Wp
   ·refine vX (.osl 0 (0+Int.toNat j) (Int.toNat (i.1.length:Int)-Int.toNat j) 57) (Qay (l:=i.1) w runUnderlying22 sizeOf52 (.inr ⟨_,Z,Z⟩) (.inl ⟨Z,Z⟩)) ?_
    exact Wp
   refine DK.done Z Z (Bd g fun ay ai g=>?_)
   refine vH (Qp (e:=Fact.c) ai Qbh runUnderlying22 (Qji (b:=0) w)) ?_
   exact FE Z (Go 3 Z (Cl g [4]))
  exact Gx 1 Z (TC.le u (Gc 5 Z (QD s (Lr [0]))))
 exact Gx 1 Z (TC.le u (Gc 7 Z (Rt h 2 [0])))
def F_ez(n:Nat)(d:List Fact)(c:Read)(a:Int):Option (Ctl Int (Ctl Unit Bool)):=
  (bif decide (a<(d.length:Int))then(idx d a).bind fun b=>((idx d a).bind fun e=>(bif (e.Kind==6)then(bif (b.Silence.Mat==c.Mat)then(bif (b.Silence.Epoch==c.Epoch)then(bif decide (b.Silence.Lo<=c.Local)then some (decide (c.Local<=b.Silence.Hi))else some false)else some false)else some false)else some false):Option Bool).bind fun f=>(bif f then some (.done (.done true))else some (.cont (IntKind.i64.wrap (a+1))))else some (.done (.cont ())))
def F_cb(n:Nat)(c:List Fact)(d:Read):Option Bool:=
  (iter (F_ez n c d) n 0:Option (Ctl Unit Bool)).bind fun b=>match b with|.cont a=>(some false)|.done a=>some a
theorem k_cb(n:Nat)(u:List Fact)(w:Read)(r:Bool)(h:F_cb n u w=some r):
    Csm prog 25 [.rsl 57 (List.map Fact.c u),.agg (Read.c w)] [] (fun r=>.bool r) r:=by
 refine Qa func25 Z Z Z ?_
 refine G0 12 Z (Bd h fun x y h=>?_)
 refine CtE (b:=x) [] [] (fun _=>[]) (fun _=>[]) (fun _=>rfl) ?_ (fun B env H z e=>?_)
 ·refine G0 1 Z ?_
  refine Lp [0] [0,3] (fun i=>[(5,I i)]) (fun _=>[]) y (fun _=>rfl) (Lr [0]) fun i E d f=>?_
  refine G0 5 Z (Lm Z (Go 3 Z (CnS Z d (fun j d=>?_) (fun j d=>?_))))
  ·refine Gc 2 Z (QF d ?_)
   obtain rfl:=Oj f d
   exact Gx 1 Z (QB Z (Lr []))
  refine Gc 8 Z (Bd d fun F k d=>Iz k Z (Go 7 Z (Bd d fun g a d=>?_)))
  refine Ct g [0] [0,3,5] (fun g=>[(51,.bool g)]) (fun _=>[]) (fun _=>rfl) ?_ (fun env H e=>?_)
  ·refine G0 3 Z (Bd a fun G l a=>Iz l Z (Go 4 Z (Is 24 a Z (fun m a=>?_) (fun m a=>?_))))
   ·refine Go 7 Z (Is 31 a Z (fun p a=>?_) (fun p a=>?_))
    ·refine Go 7 Z (Is 38 a Z (fun q a=>?_) (fun q a=>?_))
     ·refine Go 7 Z (Is 45 a Z (fun s a=>?_) (fun s a=>?_))
      ·exact Go 7 Z (Cl a [0])
      ·exact Go 7 Z (Cl a [0])
     ·exact Go 14 Z (Cl a [0])
    ·exact Go 21 Z (Cl a [0])
   ·exact Go 28 Z (Cl a [0])
  refine Gx 1 Z (TC.le e (Cn Z d (fun t d=>?_) (fun t d=>?_)))
  ·refine Gc 8 Z (Q8 d ?_)
   obtain rfl:=Oj f d
   exact Gx 1 Z (QK (Gx 1 Z (Rt h 4 [])))
  exact Gc 8 Z (QD d (Lr [0]))
 subst z
 exact Gx 1 Z (TC.le e (Gc 6 Z (Rt h 4 [])))
def F_aw(n:Nat)(a:List Fact)(b:Read):Option Bool:=
  (F_av n a).bind fun c=>(F_cb n c b).bind fun d=>some d
theorem k_aw(n:Nat)(b:List Fact)(a:Read)(r:Bool)(h:F_aw n b a=some r):
    Csm prog 10 [.rsl 57 (List.map Fact.c b),.agg (Read.c a)] [] (fun r=>.bool r) r:=by
 refine Qa func10 Z Z Z ?_
 refine G0 7 Z (DAs 3 1 [0,1,3] (by kernel_rfl) (Da 1 Z ?_))
 obtain⟨d,e,h⟩:=bnd h
 refine DA.op (x:=.osl 1 0 d.length 57) (H1:=[.cells 24 (Read.c a),.row 52 57 (List.map Fact.c d)]) ?_ ?_
 ·refine QA [] (OpC.fn call26 Z Z Z) (k_av _ _ _ e) ?_
  rintro _ _ ⟨rfl,rfl⟩
  exact FE Z Wp
 refine DB.wo2 (x:=.agg (Read.c a)) ?_ ?_ ?_
 ·refine vX (.agg (Read.c a)) (Qk Z isAgg24 sizeOf24 Z (Pts.cells Z Z) Z Z) ?_
  exact Wp
 ·refine vX (.agg (Read.c a)) (Qk Z isAgg24 sizeOf24 Z (Pts.cells Z Z) Z Z) ?_
  exact Wp
 exact DB.done Z (Cb h (k_cb _ _ _) Z (lo (ls ln)) fun g f h=>Go 4 Z (Rt h 4 []))
def F_bc(n:Nat)(a:Hit)(b:Read):Option Bool:=
  ((bif (a.Mat==b.Mat)then(bif (a.Epoch==b.Epoch)then(bif (a.Chip==b.Chip)then(bif decide (a.First<=b.Local)then some (decide (b.Local<=a.Last))else some false)else some false)else some false)else some false):Option Bool).bind fun c=>some c
theorem k_bc(n:Nat)(e:Hit)(f:Read)(r:Bool)(h:F_bc n e f=some r):
    Csm prog 12 [.agg (Hit.c e),.agg (Read.c f)] [] (fun r=>.bool r) r:=by
 refine Qa func12 Z Z Z ?_
 refine G0 8 Z (Bd h fun b a h=>?_)
 refine Ct b [] [] (fun b=>[(4,.bool b)]) (fun _=>[]) (fun _=>rfl) ?_ (fun env H g=>?_)
 ·refine G0 7 Z (Is 10 a Z (fun i a=>?_) (fun i a=>?_))
  ·refine Go 7 Z (Is 17 a Z (fun j a=>?_) (fun j a=>?_))
   ·refine Go 7 Z (Is 24 a Z (fun k a=>?_) (fun k a=>?_))
    ·refine Go 7 Z (Is 31 a Z (fun d a=>?_) (fun d a=>?_))
     ·exact Go 8 Z (Cl a [])
     ·exact Go 8 Z (Cl a [])
    ·exact Go 15 Z (Cl a [])
   ·exact Go 22 Z (Cl a [])
  ·exact Go 29 Z (Cl a [])
 exact Gx 1 Z (TC.le g (Gc 1 Z (Rt h 4 [])))
def F_ft(n:Nat)(b:List Fact)(a:(List Read)×Int):Option (Ctl ((List Read)×Int) (List Read)):=
  (bif decide (a.2<(b.length:Int))then(idx b a.2).bind fun c=>(app a.1 [c.Read]).bind fun d=>some (.cont (d,IntKind.i64.wrap (a.2+1)))else some (.done a.1))
def F_fo(n:Nat)(d:List Fact)(e:Hit)(c:List Read)(b:Int):Option (Ctl Int (Ctl Unit Bool)):=
  (bif decide (b<(c.length:Int))then(idx c b).bind fun a=>((F_v n d a).bind fun f=>(F_aw n d a).bind fun g=>(bif (f != g)then some true else(F_am n e a).bind fun h=>(F_bc n e a).bind fun i=>some (h != i)):Option Bool).bind fun j=>(bif j then some (.done (.done false))else some (.cont (IntKind.i64.wrap (b+1))))else some (.done (.cont ())))
def F_ci(n:Nat)(b:List Fact)(e:Read)(f:Hit):Option Bool:=
  (F_bi 300).bind fun g=>(bif (!g)then some false else(bif decide (14<(b.length:Int))then some true else(iter (F_ft n b) n ([e],0):Option (List Read)).bind fun c=>(iter (F_fo n b f c) n 0:Option (Ctl Unit Bool)).bind fun d=>match d with|.cont a=>(some true)|.done a=>some a))
theorem k_ci(n:Nat)(G:List Fact)(s:Read)(t:Hit)(r:Bool)(h:F_ci n G s t=some r):
    Csm prog 3 [.rsl 57 (List.map Fact.c G),.agg (Read.c s),.agg (Hit.c t)] [] (fun r=>.bool r) r:=by
 refine Qa func3 Z Z Z ?_
 refine G0 10 Z (Cz [] h (k_bi _) Z fun r1 ae h=>Go 3 Z (Cn Z h (fun J h=>?_) (fun J h=>?_)))
 ·exact Gc 7 Z (Rt h 6 [])
 refine Gc 6 Z (Lm Z (Go 3 Z (Cn Z h (fun L h=>?_) (fun L h=>?_))))
 ·exact Gc 7 Z (Rt h 6 [])
 refine Gc 5 Z ?_
 refine vH (OpH.lit (xs:=[.tmp 17]) (es:=List.map Read.c [s]) QiT Z Z Z Z Z ⟨Z,trivial⟩ Z Z) ?_
 refine FE Z (Go 7 Z (Lm Z (Go 3 Z (Bd h fun g M h=>?_))))
 refine Ct g [0,1] [0] (fun g=>[(5,.ptr 0 0),(7,.osl 1 0 g.length 4)]) (fun g=>[(0,.cells 26 (Hit.c t)),(1,.row 24 4 (List.map Read.c g))]) (fun _=>rfl) ?_ (fun env H j=>?_)
 ·refine G0 1 Z ?_
  refine Lp [1,2] [0,5,19,20] (fun k=>[(7,.osl 1 0 k.1.length 4),(21,I k.2)]) (fun k=>[(1,.row 24 4 (List.map Read.c k.1))]) M (fun _=>rfl) (Lr [1,2]) fun k af f u=>?_
  refine G0 6 Z (CnS Z f (fun w f=>?_) (fun w f=>?_))
  ·refine Gc 2 Z (QF f ?_)
   obtain rfl:=Oj u f
   exact Gx 1 Z (QX (Lr [0,1]))
  refine Gc 6 Z (Bd f fun N y f=>Iz y Z (Go 9 Z ?_))
  refine vH (OpH.lit (xs:=[.tmp 27]) (es:=List.map Read.c [N.Read]) QiT Z Z Z Z Z ⟨Z,trivial⟩ Z Z) ?_
  refine FE Z (Bd f fun ag z f=>?_)
  refine vH (Qp (e:=Read.c) z QiT runUnderlying28 (QQ (i:=3))) ?_
  exact FE Z (Go 8 Z (QD f (Lr [0,4])))
 refine Gx 1 Z (TC.le j (Gc 8 Z (Bd h fun O P h=>?_)))
 refine CtE (b:=O) [] [] (fun _=>[]) (fun _=>[]) (fun _=>rfl) ?_ (fun Y env H Q j=>?_)
 ·refine G0 1 Z ?_
  refine Lp [0,1] [0,5,31,32] (fun l=>[(33,I l)]) (fun _=>[]) P (fun _=>rfl) (Lr [0,1]) fun l ah a m=>?_
  refine G0 6 Z (CnS Z a (fun B a=>?_) (fun B a=>?_))
  ·refine Gc 2 Z (QF a ?_)
   obtain rfl:=Oj m a
   exact Gx 1 Z (QB Z (Lr []))
  refine Gc 6 Z (Bd a fun R p a=>?_)
  refine vX (.ptr 1 (Int.toNat l*4)) (QI p Z runUnderlying28 sizeOf24) ?_
  refine vX (.agg (Read.c R)) (Qk Z isAgg24 sizeOf24 Z (Qs p) Z Z) ?_
  refine Go 5 Z (Bd a fun q d a=>?_)
  refine Ct q [0,1] [0,5,31,32,33] (fun q=>[(52,.bool q)]) (fun _=>[]) (fun _=>rfl) ?_ (fun env H j=>?_)
  ·refine G0 0 Z (DSs 13 Z (D 2 Z ?_))
   refine Dz [] d (k_v _ _ _) Z fun T aa d=>D 2 Z ?_
   refine Dz [] d (k_aw _ _ _) Z fun V ab d=>?_
   refine DS.v (x:=(.bool (T != V))) (Qa6 runUnderlying4) ?_
   refine D 1 Z (Qf8 7 d Z Z Z (fun E d=>?_) (fun E d=>?_))
   ·exact D 5 Z (DS.done Z (Go 4 Z (Cl d [0,1])))
   ·refine D 2 Z ?_
    refine Dz [] d (k_am _ _ _) Z fun W ac d=>D 2 Z (DS.done Z (Cz [] d (k_bc _ _ _) Z fun X ad d=>?_))
    refine vX (.bool (W != X)) (Qa6 runUnderlying4) ?_ (gT Z)
    exact Go 2 Z (Cl d [0,1])
  refine Gx 1 Z (TC.le j (Cn Z a (fun F a=>?_) (fun F a=>?_)))
  ·refine Gc 8 Z (Q8 a ?_)
   obtain rfl:=Oj m a
   exact Gx 1 Z (QK (Gx 1 Z (Rt h 6 [])))
  exact Gc 7 Z (QD a (Lr [0,1]))
 subst Q
 exact Gx 1 Z (TC.le j (Gc 6 Z (Rt h 6 [])))
end Go.Sw
