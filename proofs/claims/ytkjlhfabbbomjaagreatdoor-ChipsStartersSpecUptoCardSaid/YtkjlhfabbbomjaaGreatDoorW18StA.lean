/- The types of ChipsStartersSpec and facts on them. -/
import Derived.Test.YtkjlhfabbbomjaaGreatDoorL3
import Derived.Test.YtkjlhfabbbomjaaGreatDoorProg
set_option linter.unusedVariables false
set_option linter.unusedSimpArgs false
set_option maxRecDepth 100000
set_option maxHeartbeats 4000000
namespace Go.Sw
open Go.Proofs Tryz
theorem draws:prog.follows .mixedOrders=true:=by rfl
structure Faults where
  Misses:Int
  Strays:Int
  Window:Int
  Residual:Int
  Drift:Int
  deriving DecidableEq
def Faults.c(x:Faults):List Go.Sw.A:=[I x.Misses,I x.Strays,I x.Window,I x.Residual,I x.Drift]
structure Mat where
  Name:List UInt8
  Kind:Int
  deriving DecidableEq
def Mat.c(x:Mat):List Go.Sw.A:=[.str x.Name,I x.Kind]
structure Leg where
  From:Int
  To:Int
  Min:Int
  Max:Int
  deriving DecidableEq
def Leg.c(x:Leg):List Go.Sw.A:=[I x.From,I x.To,I x.Min,I x.Max]
structure Part where
  Mat:Int
  Laps:Int
  Parts:List Part
mutual
def Part.enc:Part->List A
  |⟨x0,x1,x2⟩=>[I x0,I x1,.rsl 3 (Part.encs x2)]
def Part.encs:List Part->List (List A)
  |[]=>[]
  |x::l=>Part.enc x::Part.encs l
end
theorem Qda(l:List Part):Part.encs l=List.map Part.enc l:=by induction l with|nil=>simp[Part.encs]|cons x l h=>simp[Part.encs,h]
def Part.c(x:Part):List Go.Sw.A:=[I x.Mat,I x.Laps,.rsl 3 (List.map Part.enc x.Parts)]
theorem Q0(x:Part):Part.enc x=Part.c x:=by cases x;simp[Part.enc,Part.c,Qda]
structure Cutoff where
  Mat:Int
  Lap:Int
  Limit:Int
  deriving DecidableEq
def Cutoff.c(x:Cutoff):List Go.Sw.A:=[I x.Mat,I x.Lap,I x.Limit]
structure Distance where
  Name:List UInt8
  Route:List Part
  Timing:Int
  Cutoffs:List Cutoff
  Extra:Int
def Distance.c(x:Distance):List Go.Sw.A:=[.str x.Name,.rsl 3 (List.map Part.enc x.Route),I x.Timing,.rsl 3 (List.map Cutoff.c x.Cutoffs),I x.Extra]
structure Wave where
  Name:List UInt8
  Gun:Int
  deriving DecidableEq
def Wave.c(x:Wave):List Go.Sw.A:=[.str x.Name,I x.Gun]
structure Offence where
  Name:List UInt8
  Time:Int
  Laps:Int
  Out:Bool
  deriving DecidableEq
def Offence.c(x:Offence):List Go.Sw.A:=[.str x.Name,I x.Time,I x.Laps,.bool x.Out]
structure Category where
  Name:List UInt8
  From:Int
  To:Int
  deriving DecidableEq
def Category.c(x:Category):List Go.Sw.A:=[.str x.Name,I x.From,I x.To]
structure Prize where
  Distance:Int
  Category:Int
  Rank:Int
  Amount:Int
  deriving DecidableEq
def Prize.c(x:Prize):List Go.Sw.A:=[I x.Distance,I x.Category,I x.Rank,I x.Amount]
structure Cond where
  Kind:Int
  Var:Int
  N:Int
  Parts:List Cond
mutual
def Cond.enc:Cond->List A
  |⟨x0,x1,x2,x3⟩=>[I x0,I x1,I x2,.rsl 4 (Cond.encs x3)]
def Cond.encs:List Cond->List (List A)
  |[]=>[]
  |x::l=>Cond.enc x::Cond.encs l
end
theorem Qdi(l:List Cond):Cond.encs l=List.map Cond.enc l:=by induction l with|nil=>simp[Cond.encs]|cons x l h=>simp[Cond.encs,h]
def Cond.c(x:Cond):List Go.Sw.A:=[I x.Kind,I x.Var,I x.N,.rsl 4 (List.map Cond.enc x.Parts)]
theorem Y2(x:Cond):Cond.enc x=Cond.c x:=by cases x;simp[Cond.enc,Cond.c,Qdi]
structure Step where
  Kind:Int
  By:Int
  Cond:Cond
  Then:List Step
  Else:List Step
mutual
def Step.enc:Step->List A
  |⟨x0,x1,x2,x3,x4⟩=>[I x0,I x1,I x2.Kind,I x2.Var,I x2.N,.rsl 4 (List.map Cond.enc x2.Parts),.rsl 8 (Step.encs x3),.rsl 8 (Step.encs x4)]
def Step.encs:List Step->List (List A)
  |[]=>[]
  |x::l=>Step.enc x::Step.encs l
end
theorem Qc5(l:List Step):Step.encs l=List.map Step.enc l:=by induction l with|nil=>simp[Step.encs]|cons x l h=>simp[Step.encs,h]
def Step.c(x:Step):List Go.Sw.A:=[I x.Kind,I x.By,I x.Cond.Kind,I x.Cond.Var,I x.Cond.N,.rsl 4 (List.map Cond.enc x.Cond.Parts),.rsl 8 (List.map Step.enc x.Then),.rsl 8 (List.map Step.enc x.Else)]
theorem Yb(x:Step):Step.enc x=Step.c x:=by cases x;simp[Step.enc,Step.c,Qc5]
structure Course where
  Name:List UInt8
  Mats:List Mat
  Legs:List Leg
  Distances:List Distance
  Waves:List Wave
  Offences:List Offence
  Categories:List Category
  Prizes:List Prize
  Ties:List Step
  Faults:Faults
  Fee:Int
  Deadline:Int
def Course.c(x:Course):List Go.Sw.A:=[.str x.Name,.rsl 2 (List.map Mat.c x.Mats),.rsl 4 (List.map Leg.c x.Legs),.rsl 5 (List.map Distance.c x.Distances),.rsl 2 (List.map Wave.c x.Waves),.rsl 4 (List.map Offence.c x.Offences),.rsl 3 (List.map Category.c x.Categories),.rsl 4 (List.map Prize.c x.Prizes),.rsl 8 (List.map Step.enc x.Ties),I x.Faults.Misses,I x.Faults.Strays,I x.Faults.Window,I x.Faults.Residual,I x.Faults.Drift,I x.Fee,I x.Deadline]
structure Starter where
  Bib:Int
  Distance:Int
  Wave:Int
  Slot:Int
  Age:Int
  Chip:Int
  Team:Int
  Lot:Int
  deriving DecidableEq
def Starter.c(x:Starter):List Go.Sw.A:=[I x.Bib,I x.Distance,I x.Wave,I x.Slot,I x.Age,I x.Chip,I x.Team,I x.Lot]
structure Read where
  Mat:Int
  Epoch:Int
  Chip:Int
  Local:Int
  deriving DecidableEq
def Read.c(x:Read):List Go.Sw.A:=[I x.Mat,I x.Epoch,I x.Chip,I x.Local]
structure Beacon where
  Mat:Int
  Epoch:Int
  Local:Int
  True:Int
  Err:Int
  deriving DecidableEq
def Beacon.c(x:Beacon):List Go.Sw.A:=[I x.Mat,I x.Epoch,I x.Local,I x.True,I x.Err]
structure Sync where
  MatA:Int
  EpochA:Int
  LocalA:Int
  MatB:Int
  EpochB:Int
  LocalB:Int
  Min:Int
  Max:Int
  deriving DecidableEq
def Sync.c(x:Sync):List Go.Sw.A:=[I x.MatA,I x.EpochA,I x.LocalA,I x.MatB,I x.EpochB,I x.LocalB,I x.Min,I x.Max]
structure Hand where
  Bib:Int
  Position:Int
  Lo:Int
  Hi:Int
  deriving DecidableEq
def Hand.c(x:Hand):List Go.Sw.A:=[I x.Bib,I x.Position,I x.Lo,I x.Hi]
structure Silence where
  Mat:Int
  Epoch:Int
  Lo:Int
  Hi:Int
  deriving DecidableEq
def Silence.c(x:Silence):List Go.Sw.A:=[I x.Mat,I x.Epoch,I x.Lo,I x.Hi]
structure Pair where
  A:Int
  B:Int
  deriving DecidableEq
def Pair.c(x:Pair):List Go.Sw.A:=[I x.A,I x.B]
structure Report where
  Case:Int
  Bib:Int
  Offence:Int
  Position:Int
  deriving DecidableEq
def Report.c(x:Report):List Go.Sw.A:=[I x.Case,I x.Bib,I x.Offence,I x.Position]
structure Protest where
  Case:Int
  By:Int
  Fee:Int
  Form:Int
  deriving DecidableEq
def Protest.c(x:Protest):List Go.Sw.A:=[I x.Case,I x.By,I x.Fee,I x.Form]
structure Ruling where
  Case:Int
  Instance:Int
  Kind:Int
  Bib:Int
  Position:Int
  Amount:Int
  deriving DecidableEq
def Ruling.c(x:Ruling):List Go.Sw.A:=[I x.Case,I x.Instance,I x.Kind,I x.Bib,I x.Position,I x.Amount]
structure Appeal where
  Case:Int
  Suspends:Bool
  deriving DecidableEq
def Appeal.c(x:Appeal):List Go.Sw.A:=[I x.Case,.bool x.Suspends]
structure Ref where
  Crew:Int
  No:Int
  deriving DecidableEq
def Ref.c(x:Ref):List Go.Sw.A:=[I x.Crew,I x.No]
structure Fact where
  Crew:Int
  No:Int
  At:Int
  Kind:Int
  Starter:Starter
  Read:Read
  Beacon:Beacon
  Sync:Sync
  Hand:Hand
  Silence:Silence
  Pair:Pair
  Report:Report
  Protest:Protest
  Ruling:Ruling
  Appeal:Appeal
  Void:Ref
  deriving DecidableEq
def Fact.c(x:Fact):List Go.Sw.A:=[I x.Crew,I x.No,I x.At,I x.Kind,I x.Starter.Bib,I x.Starter.Distance,I x.Starter.Wave,I x.Starter.Slot,I x.Starter.Age,I x.Starter.Chip,I x.Starter.Team,I x.Starter.Lot,I x.Read.Mat,I x.Read.Epoch,I x.Read.Chip,I x.Read.Local,I x.Beacon.Mat,I x.Beacon.Epoch,I x.Beacon.Local,I x.Beacon.True,I x.Beacon.Err,I x.Sync.MatA,I x.Sync.EpochA,I x.Sync.LocalA,I x.Sync.MatB,I x.Sync.EpochB,I x.Sync.LocalB,I x.Sync.Min,I x.Sync.Max,I x.Hand.Bib,I x.Hand.Position,I x.Hand.Lo,I x.Hand.Hi,I x.Silence.Mat,I x.Silence.Epoch,I x.Silence.Lo,I x.Silence.Hi,I x.Pair.A,I x.Pair.B,I x.Report.Case,I x.Report.Bib,I x.Report.Offence,I x.Report.Position,I x.Protest.Case,I x.Protest.By,I x.Protest.Fee,I x.Protest.Form,I x.Ruling.Case,I x.Ruling.Instance,I x.Ruling.Kind,I x.Ruling.Bib,I x.Ruling.Position,I x.Ruling.Amount,I x.Appeal.Case,.bool x.Appeal.Suspends,I x.Void.Crew,I x.Void.No]
abbrev z_Starter:Starter:={Bib:=0,Distance:=0,Wave:=0,Slot:=0,Age:=0,Chip:=0,Team:=0,Lot:=0}
abbrev z_Read:Read:={Mat:=0,Epoch:=0,Chip:=0,Local:=0}
abbrev z_Beacon:Beacon:={Mat:=0,Epoch:=0,Local:=0,True:=0,Err:=0}
abbrev z_Sync:Sync:={MatA:=0,EpochA:=0,LocalA:=0,MatB:=0,EpochB:=0,LocalB:=0,Min:=0,Max:=0}
abbrev z_Hand:Hand:={Bib:=0,Position:=0,Lo:=0,Hi:=0}
abbrev z_Silence:Silence:={Mat:=0,Epoch:=0,Lo:=0,Hi:=0}
abbrev z_Report:Report:={Case:=0,Bib:=0,Offence:=0,Position:=0}
abbrev z_Protest:Protest:={Case:=0,By:=0,Fee:=0,Form:=0}
abbrev z_Ruling:Ruling:={Case:=0,Instance:=0,Kind:=0,Bib:=0,Position:=0,Amount:=0}
abbrev z_Fact:Fact:={Crew:=0,No:=0,At:=0,Kind:=0,Starter:=z_Starter,Read:=z_Read,Beacon:=z_Beacon,Sync:=z_Sync,Hand:=z_Hand,Silence:=z_Silence,Pair:={A:=0,B:=0:Pair},Report:=z_Report,Protest:=z_Protest,Ruling:=z_Ruling,Appeal:={Case:=0,Suspends:=false:Appeal},Void:={Crew:=0,No:=0:Ref}}
abbrev z_Part:Part:={Mat:=0,Laps:=0,Parts:=[]}
abbrev z_Cond:Cond:={Kind:=0,Var:=0,N:=0,Parts:=[]}
abbrev z_Step:Step:={Kind:=0,By:=0,Cond:=z_Cond,Then:=[],Else:=[]}
structure typing_ends where
  from_:Int
  to_:Int
  deriving DecidableEq
def typing_ends.c(x:typing_ends):List Go.Sw.A:=[I x.from_,I x.to_]
structure typing_place where
  distance:Int
  category:Int
  rank:Int
  deriving DecidableEq
def typing_place.c(x:typing_place):List Go.Sw.A:=[I x.distance,I x.category,I x.rank]
structure typing_step where
  Step:Step
def typing_step.c(x:typing_step):List Go.Sw.A:=[I x.Step.Kind,I x.Step.By,I x.Step.Cond.Kind,I x.Step.Cond.Var,I x.Step.Cond.N,.rsl 4 (List.map Cond.enc x.Step.Cond.Parts),.rsl 8 (List.map Step.enc x.Step.Then),.rsl 8 (List.map Step.enc x.Step.Else)]
structure typing_cond where
  Cond:Cond
def typing_cond.c(x:typing_cond):List Go.Sw.A:=[I x.Cond.Kind,I x.Cond.Var,I x.Cond.N,.rsl 4 (List.map Cond.enc x.Cond.Parts)]
inductive typing_form where
  |ctyping_step (x:typing_step)
  |ctyping_cond (x:typing_cond)
def typing_form.val:typing_form->A
  |.ctyping_step x=>.iface 263 (.agg (typing_step.c x))
  |.ctyping_cond x=>.iface 298 (.agg (typing_cond.c x))
def typing_form.enc(x:typing_form):List A:=[x.val]
def typing_form.elim{R:Type}(e:typing_form)(f0:typing_step->Option R)(f1:typing_cond->Option R):Option R:=match e with
  |.ctyping_step x=>f0 x
  |.ctyping_cond x=>f1 x
theorem typing_form.data(x:typing_form):YM x.val=true:=by cases x<;>rfl
theorem Jp(e:typing_form):(∃x,e=.ctyping_step x)\/(∃x,e=.ctyping_cond x):=by cases e<;>simp
theorem Jf{R:Type}{e:typing_form}{x:typing_step}{f0:typing_step->Option R}{f1:typing_cond->Option R}{r:R}(hE:e=.ctyping_step x)(h:typing_form.elim e f0 f1=some r):f0 x=some r:=by subst hE;exact h
theorem Je{R:Type}{e:typing_form}{x:typing_cond}{f0:typing_step->Option R}{f1:typing_cond->Option R}{r:R}(hE:e=.ctyping_cond x)(h:typing_form.elim e f0 f1=some r):f1 x=some r:=by subst hE;exact h
structure typing_count where
  steps:Int
  conds:Int
  deriving DecidableEq
def typing_count.c(x:typing_count):List Go.Sw.A:=[I x.steps,I x.conds]
structure facts_scope where
  least:Int
  most:Int
  deriving DecidableEq
def facts_scope.c(x:facts_scope):List Go.Sw.A:=[I x.least,I x.most]
structure Value where
  Kind:Int
  N:Int
  S:List UInt8
  L:List Value
mutual
def Value.enc:Value->List A
  |⟨x0,x1,x2,x3⟩=>[I x0,I x1,.str x2,.rsl 4 (Value.encs x3)]
def Value.encs:List Value->List (List A)
  |[]=>[]
  |x::l=>Value.enc x::Value.encs l
end
theorem QfG(l:List Value):Value.encs l=List.map Value.enc l:=by induction l with|nil=>simp[Value.encs]|cons x l h=>simp[Value.encs,h]
def Value.c(x:Value):List Go.Sw.A:=[I x.Kind,I x.N,.str x.S,.rsl 4 (List.map Value.enc x.L)]
theorem YQ(x:Value):Value.enc x=Value.c x:=by cases x;simp[Value.enc,Value.c,QfG]
abbrev z_Value:Value:={Kind:=0,N:=0,S:=[],L:=[]}
abbrev z_Faults:Faults:={Misses:=0,Strays:=0,Window:=0,Residual:=0,Drift:=0}
theorem Qnh:QJ prog 50 [(0,1),(1,1),(2,1),(3,1),(4,1),(5,1),(6,1),(7,1)]:=⟨_,runUnderlying50,(PL.cons sizeOf3 (PL.cons sizeOf3 (PL.cons sizeOf3 (PL.cons sizeOf3 (PL.cons sizeOf3 (PL.cons sizeOf3 (PL.cons sizeOf3 (PL.cons sizeOf3 PL.nil))))))))⟩
theorem Qnf:QJ prog 81 [(0,1),(1,1),(2,1),(3,1),(4,8),(12,4),(16,5),(21,8),(29,4),(33,4),(37,2),(39,4),(43,4),(47,6),(53,2),(55,2)]:=⟨_,runUnderlying81,(PL.cons sizeOf3 (PL.cons sizeOf3 (PL.cons sizeOf3 (PL.cons sizeOf3 (PL.cons sizeOf50 (PL.cons sizeOf61 (PL.cons sizeOf63 (PL.cons sizeOf65 (PL.cons sizeOf67 (PL.cons sizeOf69 (PL.cons sizeOf59 (PL.cons sizeOf71 (PL.cons sizeOf73 (PL.cons sizeOf75 (PL.cons sizeOf77 (PL.cons sizeOf79 PL.nil))))))))))))))))⟩
theorem Qng:QJ prog 59 [(0,1),(1,1)]:=⟨_,runUnderlying59,(PL.cons sizeOf3 (PL.cons sizeOf3 PL.nil))⟩
theorem Qbw:Q2 prog 34 81 57:=⟨runUnderlying34,sizeOf81,⟨_,zeroValue81,rfl⟩,⟨_,typeInfo81,by decide⟩⟩
theorem Qnd:QJ prog 96 [(0,1),(1,1)]:=⟨_,runUnderlying96,(PL.cons sizeOf9 (PL.cons sizeOf3 PL.nil))⟩
theorem el_22:Q2 prog 22 96 2:=⟨runUnderlying22,sizeOf96,⟨_,zeroValue96,rfl⟩,⟨_,typeInfo96,by decide⟩⟩
theorem Qlo:QJ prog 123 [(0,1),(1,1),(2,1),(3,1)]:=⟨_,runUnderlying123,(PL.cons sizeOf3 (PL.cons sizeOf3 (PL.cons sizeOf3 (PL.cons sizeOf3 PL.nil))))⟩
theorem el_23:Q2 prog 23 123 4:=⟨runUnderlying23,sizeOf123,⟨_,zeroValue123,rfl⟩,⟨_,typeInfo123,by decide⟩⟩
theorem Qln:QJ prog 125 [(0,1),(1,1),(2,1)]:=⟨_,runUnderlying125,(PL.cons sizeOf3 (PL.cons sizeOf3 (PL.cons sizeOf91 PL.nil)))⟩
theorem el_91:Q2 prog 91 125 3:=⟨runUnderlying91,sizeOf125,⟨_,zeroValue125,rfl⟩,⟨_,typeInfo125,by decide⟩⟩
theorem Qne:QJ prog 94 [(0,1),(1,1),(2,1),(3,1),(4,1)]:=⟨_,runUnderlying94,(PL.cons sizeOf9 (PL.cons sizeOf91 (PL.cons sizeOf3 (PL.cons sizeOf92 (PL.cons sizeOf3 PL.nil)))))⟩
theorem el_24:Q2 prog 24 94 5:=⟨runUnderlying24,sizeOf94,⟨_,zeroValue94,rfl⟩,⟨_,typeInfo94,by decide⟩⟩
theorem Qlm:QJ prog 127 [(0,1),(1,1)]:=⟨_,runUnderlying127,(PL.cons sizeOf9 (PL.cons sizeOf3 PL.nil))⟩
theorem el_25:Q2 prog 25 127 2:=⟨runUnderlying25,sizeOf127,⟨_,zeroValue127,rfl⟩,⟨_,typeInfo127,by decide⟩⟩
theorem Qll:QJ prog 132 [(0,1),(1,1),(2,4),(6,1),(7,1)]:=⟨_,runUnderlying132,(PL.cons sizeOf3 (PL.cons sizeOf3 (PL.cons sizeOf130 (PL.cons sizeOf29 (PL.cons sizeOf29 PL.nil)))))⟩
theorem el_29:Q2 prog 29 132 8:=⟨runUnderlying29,sizeOf132,⟨_,zeroValue132,rfl⟩,⟨_,typeInfo132,by decide⟩⟩
theorem Qni:QJ prog 33 [(0,1),(1,1),(2,1),(3,1),(4,1),(5,1),(6,1),(7,1),(8,1),(9,5),(14,1),(15,1)]:=⟨_,runUnderlying33,(PL.cons sizeOf9 (PL.cons sizeOf22 (PL.cons sizeOf23 (PL.cons sizeOf24 (PL.cons sizeOf25 (PL.cons sizeOf26 (PL.cons sizeOf27 (PL.cons sizeOf28 (PL.cons sizeOf29 (PL.cons sizeOf31 (PL.cons sizeOf3 (PL.cons sizeOf3 PL.nil))))))))))))⟩
theorem Yw:Q2 prog 118 5 1:=⟨runUnderlying118,sizeOf5,⟨_,zeroValue5,rfl⟩,⟨_,typeInfo5,by decide⟩⟩
theorem Qcb:Qaq prog 9 A.str:=Qaq.str underlying9
theorem Qu:Q2 prog 48 3 1:=⟨runUnderlying48,sizeOf3,⟨_,zeroValue3,rfl⟩,⟨_,typeInfo3,by decide⟩⟩
theorem QlQ:prog.underlying 136=some (.struct (prog.fieldsOf 136)):=by kernel_rfl
theorem QnO:prog.stoodInHeld 136=false:=by kernel_rfl
theorem Qel:Qaq prog 136 (fun x=>A.agg (typing_ends.c x)):=by
  refine Qaq.struct QlQ (fun _=>rfl) (fun x y h=>?_) (fun w em x=>?_) (fun w x y=>?_) (fun x=>?_)
  · cases x;cases y
    simpa[QV,Yo,typing_ends.c]using h
  · simp only[QV,Yo,typing_ends.c]
    rw[show(10000:Nat)=9998+1+1 from rfl]
    generalize(9998:Nat)=d
    simp[Instr.checkKey,runUnderlying136,runUnderlying3,Result.andThen,sizeOf3,isAgg3,part]
  · have u3:=underlying3
    have a3:=isAgg3
    have z3:=sizeOf3
    simp only[QV,Yo,typing_ends.c,Op.equal,Op.maxDepth]
    rw[show(10000:Nat)=9999+1 from Z,run_equalIn_agg w 9999 136 _ _ QlQ QnO]
    simp only[Program.fieldsOf,underlying136]
    go_simp
    cases x;cases y
    simp
    repeat' split
    all_goals simp_all
  · simp[QV,Yo,typing_ends.c,Instr.sameBits]
theorem QnJ:QJ prog 136 [(0,1),(1,1)]:=⟨_,runUnderlying136,(PL.cons sizeOf3 (PL.cons sizeOf3 PL.nil))⟩
theorem QlP:prog.underlying 218=some (.struct (prog.fieldsOf 218)):=by kernel_rfl
theorem QnN:prog.stoodInHeld 218=false:=by kernel_rfl
theorem QmU:Qaq prog 218 (fun x=>A.agg (typing_place.c x)):=by
  refine Qaq.struct QlP (fun _=>rfl) (fun x y h=>?_) (fun w em x=>?_) (fun w x y=>?_) (fun x=>?_)
  · cases x;cases y
    simpa[QV,Yo,typing_place.c]using h
  · simp only[QV,Yo,typing_place.c]
    rw[show(10000:Nat)=9998+1+1 from rfl]
    generalize(9998:Nat)=d
    simp[Instr.checkKey,runUnderlying218,runUnderlying3,Result.andThen,sizeOf3,isAgg3,part]
  · have u3:=underlying3
    have a3:=isAgg3
    have z3:=sizeOf3
    simp only[QV,Yo,typing_place.c,Op.equal,Op.maxDepth]
    rw[show(10000:Nat)=9999+1 from Z,run_equalIn_agg w 9999 218 _ _ QlP QnN]
    simp only[Program.fieldsOf,underlying218]
    go_simp
    cases x;cases y
    simp
    repeat' split
    all_goals simp_all
  · simp[QV,Yo,typing_place.c,Instr.sameBits]
theorem QnE:QJ prog 218 [(0,1),(1,1),(2,1)]:=⟨_,runUnderlying218,(PL.cons sizeOf3 (PL.cons sizeOf3 (PL.cons sizeOf3 PL.nil)))⟩
theorem Qlg:QJ prog 263 [(0,8)]:=⟨_,runUnderlying263,(PL.cons sizeOf132 PL.nil)⟩
theorem Qct:Q2 prog 221 260 1:=⟨runUnderlying221,sizeOf260,⟨_,zeroValue260,rfl⟩,⟨_,typeInfo260,by decide⟩⟩
theorem Qlh:QJ prog 256 [(0,1),(1,1)]:=⟨_,runUnderlying256,(PL.cons sizeOf3 (PL.cons sizeOf3 PL.nil))⟩
theorem Qlf:QJ prog 298 [(0,4)]:=⟨_,runUnderlying298,(PL.cons sizeOf130 PL.nil)⟩
theorem Qbv:Qaq prog 3 (fun x=>A.int .i64 x):=Qaq.int underlying3
theorem QmX:Yv prog 81 4 4 8:=FA runUnderlying81 rfl sizeOf50
theorem QjK:Yv prog 81 3 3 1:=FA runUnderlying81 rfl sizeOf3
theorem QjL:Yv prog 50 0 0 1:=FA runUnderlying50 rfl sizeOf3
theorem Qli:QJ prog 181 [(0,1),(1,2)]:=⟨_,runUnderlying181,(PL.cons sizeOf175 (PL.cons sizeOf179 PL.nil))⟩
theorem Qlj:QJ prog 179 [(0,1),(1,1)]:=⟨_,runUnderlying179,(PL.cons sizeOf3 (PL.cons sizeOf3 PL.nil))⟩
theorem QgH:Yv prog 50 5 5 1:=FA runUnderlying50 rfl sizeOf3
theorem Jh:Q2 prog 169 181 3:=⟨runUnderlying169,sizeOf181,⟨_,zeroValue181,rfl⟩,⟨_,typeInfo181,by decide⟩⟩
theorem Qlk:QJ prog 171 [(0,1),(1,1)]:=⟨_,runUnderlying171,(PL.cons sizeOf169 (PL.cons sizeOf35 PL.nil))⟩
theorem QlX:Yv prog 81 10 37 2:=FA runUnderlying81 rfl sizeOf59
inductive U_facts_open_rxk where
  |c0 (x:Unit)
  |c1 (x:Unit)
  |c2 (x:Unit)
  |c3 (x:Unit)
  |c4 (x:Unit)
  |c5 (x:Unit)
  |c6 (x:Unit)
  |c7 (x:Unit)
  |c8 (x:Unit)
  |c9 (x:Int×Int×Int×Int×Int×Int)
  |c10 (x:Unit)
  |c11 (x:Unit)
  |c12 (x:Unit)
  |c13 (x:Unit)
theorem QcT:Yv prog 81 1 1 1:=FA runUnderlying81 rfl sizeOf3
theorem Qem:Yv prog 81 2 2 1:=FA runUnderlying81 rfl sizeOf3
theorem QlY:Yv prog 181 0 0 1:=FA runUnderlying181 rfl sizeOf175
def Fact.put(x:Fact)(o:Nat)(v:Int):Option Fact:=match o with
  |0=>some {x with Crew:=v}
  |1=>some {x with No:=v}
  |2=>some {x with At:=v}
  |3=>some {x with Kind:=v}
  |4=>some {x with Starter:={x.Starter with Bib:=v}}
  |5=>some {x with Starter:={x.Starter with Distance:=v}}
  |6=>some {x with Starter:={x.Starter with Wave:=v}}
  |7=>some {x with Starter:={x.Starter with Slot:=v}}
  |8=>some {x with Starter:={x.Starter with Age:=v}}
  |9=>some {x with Starter:={x.Starter with Chip:=v}}
  |10=>some {x with Starter:={x.Starter with Team:=v}}
  |11=>some {x with Starter:={x.Starter with Lot:=v}}
  |12=>some {x with Read:={x.Read with Mat:=v}}
  |13=>some {x with Read:={x.Read with Epoch:=v}}
  |14=>some {x with Read:={x.Read with Chip:=v}}
  |15=>some {x with Read:={x.Read with Local:=v}}
  |16=>some {x with Beacon:={x.Beacon with Mat:=v}}
  |17=>some {x with Beacon:={x.Beacon with Epoch:=v}}
  |18=>some {x with Beacon:={x.Beacon with Local:=v}}
  |19=>some {x with Beacon:={x.Beacon with True:=v}}
  |20=>some {x with Beacon:={x.Beacon with Err:=v}}
  |21=>some {x with Sync:={x.Sync with MatA:=v}}
  |22=>some {x with Sync:={x.Sync with EpochA:=v}}
  |23=>some {x with Sync:={x.Sync with LocalA:=v}}
  |24=>some {x with Sync:={x.Sync with MatB:=v}}
  |25=>some {x with Sync:={x.Sync with EpochB:=v}}
  |26=>some {x with Sync:={x.Sync with LocalB:=v}}
  |27=>some {x with Sync:={x.Sync with Min:=v}}
  |28=>some {x with Sync:={x.Sync with Max:=v}}
  |29=>some {x with Hand:={x.Hand with Bib:=v}}
  |30=>some {x with Hand:={x.Hand with Position:=v}}
  |31=>some {x with Hand:={x.Hand with Lo:=v}}
  |32=>some {x with Hand:={x.Hand with Hi:=v}}
  |33=>some {x with Silence:={x.Silence with Mat:=v}}
  |34=>some {x with Silence:={x.Silence with Epoch:=v}}
  |35=>some {x with Silence:={x.Silence with Lo:=v}}
  |36=>some {x with Silence:={x.Silence with Hi:=v}}
  |37=>some {x with Pair:={x.Pair with A:=v}}
  |38=>some {x with Pair:={x.Pair with B:=v}}
  |39=>some {x with Report:={x.Report with Case:=v}}
  |40=>some {x with Report:={x.Report with Bib:=v}}
  |41=>some {x with Report:={x.Report with Offence:=v}}
  |42=>some {x with Report:={x.Report with Position:=v}}
  |43=>some {x with Protest:={x.Protest with Case:=v}}
  |44=>some {x with Protest:={x.Protest with By:=v}}
  |45=>some {x with Protest:={x.Protest with Fee:=v}}
  |46=>some {x with Protest:={x.Protest with Form:=v}}
  |47=>some {x with Ruling:={x.Ruling with Case:=v}}
  |48=>some {x with Ruling:={x.Ruling with Instance:=v}}
  |49=>some {x with Ruling:={x.Ruling with Kind:=v}}
  |50=>some {x with Ruling:={x.Ruling with Bib:=v}}
  |51=>some {x with Ruling:={x.Ruling with Position:=v}}
  |52=>some {x with Ruling:={x.Ruling with Amount:=v}}
  |53=>some {x with Appeal:={x.Appeal with Case:=v}}
  |55=>some {x with Void:={x.Void with Crew:=v}}
  |56=>some {x with Void:={x.Void with No:=v}}
  |_=>none
theorem QnB:∀(x:Fact) (o:Nat) (v:Int) (y:Fact),Fact.put x o v=some y->Fact.c y=(Fact.c x).set o (I v)/\o<(Fact.c x).length:=by
  intro x o v y h
  unfold Fact.put at h
  split at h<;>first|(cases h;exact⟨Z,Nat.le_of_ble_eq_true Z⟩)|cases h
theorem nt_81:prog.stoodInHeld 81=false:=by kernel_rfl
theorem nt_79:prog.stoodInHeld 79=false:=by kernel_rfl
theorem nt_77:prog.stoodInHeld 77=false:=by kernel_rfl
theorem nt_75:prog.stoodInHeld 75=false:=by kernel_rfl
theorem nt_73:prog.stoodInHeld 73=false:=by kernel_rfl
theorem nt_71:prog.stoodInHeld 71=false:=by kernel_rfl
theorem Qnj:prog.stoodInHeld 59=false:=by kernel_rfl
theorem nt_69:prog.stoodInHeld 69=false:=by kernel_rfl
theorem nt_67:prog.stoodInHeld 67=false:=by kernel_rfl
theorem nt_65:prog.stoodInHeld 65=false:=by kernel_rfl
theorem nt_63:prog.stoodInHeld 63=false:=by kernel_rfl
theorem nt_61:prog.stoodInHeld 61=false:=by kernel_rfl
theorem Qnk:prog.stoodInHeld 50=false:=by kernel_rfl
theorem QiZ:EqD prog 81 Fact.c:=by
  refine Qg6 (QL underlying81 nt_81 isAgg81 sizeOf81 (QmB.cons Z (by decide) (Qjn.int underlying3 isAgg3 sizeOf3 1) (fun _=>rfl) (QmB.cons Z (by decide) (Qjn.int underlying3 isAgg3 sizeOf3 1) (fun _=>rfl) (QmB.cons Z (by decide) (Qjn.int underlying3 isAgg3 sizeOf3 1) (fun _=>rfl) (QmB.cons Z (by decide) (Qjn.int underlying3 isAgg3 sizeOf3 1) (fun _=>rfl) (QmB.cons Z (by decide) (QL underlying50 Qnk isAgg50 sizeOf50 (QmB.cons Z (by decide) (Qjn.int underlying3 isAgg3 sizeOf3 0) (fun _=>rfl) (QmB.cons Z (by decide) (Qjn.int underlying3 isAgg3 sizeOf3 0) (fun _=>rfl) (QmB.cons Z (by decide) (Qjn.int underlying3 isAgg3 sizeOf3 0) (fun _=>rfl) (QmB.cons Z (by decide) (Qjn.int underlying3 isAgg3 sizeOf3 0) (fun _=>rfl) (QmB.cons Z (by decide) (Qjn.int underlying3 isAgg3 sizeOf3 0) (fun _=>rfl) (QmB.cons Z (by decide) (Qjn.int underlying3 isAgg3 sizeOf3 0) (fun _=>rfl) (QmB.cons Z (by decide) (Qjn.int underlying3 isAgg3 sizeOf3 0) (fun _=>rfl) (QmB.cons Z (by decide) (Qjn.int underlying3 isAgg3 sizeOf3 0) (fun _=>rfl) (QmB.nil _ _)))))))))) (fun e=>Bool.noConfusion e) (QmB.cons Z (by decide) (QL underlying61 nt_61 isAgg61 sizeOf61 (QmB.cons Z (by decide) (Qjn.int underlying3 isAgg3 sizeOf3 0) (fun _=>rfl) (QmB.cons Z (by decide) (Qjn.int underlying3 isAgg3 sizeOf3 0) (fun _=>rfl) (QmB.cons Z (by decide) (Qjn.int underlying3 isAgg3 sizeOf3 0) (fun _=>rfl) (QmB.cons Z (by decide) (Qjn.int underlying3 isAgg3 sizeOf3 0) (fun _=>rfl) (QmB.nil _ _)))))) (fun e=>Bool.noConfusion e) (QmB.cons Z (by decide) (QL underlying63 nt_63 isAgg63 sizeOf63 (QmB.cons Z (by decide) (Qjn.int underlying3 isAgg3 sizeOf3 0) (fun _=>rfl) (QmB.cons Z (by decide) (Qjn.int underlying3 isAgg3 sizeOf3 0) (fun _=>rfl) (QmB.cons Z (by decide) (Qjn.int underlying3 isAgg3 sizeOf3 0) (fun _=>rfl) (QmB.cons Z (by decide) (Qjn.int underlying3 isAgg3 sizeOf3 0) (fun _=>rfl) (QmB.cons Z (by decide) (Qjn.int underlying3 isAgg3 sizeOf3 0) (fun _=>rfl) (QmB.nil _ _))))))) (fun e=>Bool.noConfusion e) (QmB.cons Z (by decide) (QL underlying65 nt_65 isAgg65 sizeOf65 (QmB.cons Z (by decide) (Qjn.int underlying3 isAgg3 sizeOf3 0) (fun _=>rfl) (QmB.cons Z (by decide) (Qjn.int underlying3 isAgg3 sizeOf3 0) (fun _=>rfl) (QmB.cons Z (by decide) (Qjn.int underlying3 isAgg3 sizeOf3 0) (fun _=>rfl) (QmB.cons Z (by decide) (Qjn.int underlying3 isAgg3 sizeOf3 0) (fun _=>rfl) (QmB.cons Z (by decide) (Qjn.int underlying3 isAgg3 sizeOf3 0) (fun _=>rfl) (QmB.cons Z (by decide) (Qjn.int underlying3 isAgg3 sizeOf3 0) (fun _=>rfl) (QmB.cons Z (by decide) (Qjn.int underlying3 isAgg3 sizeOf3 0) (fun _=>rfl) (QmB.cons Z (by decide) (Qjn.int underlying3 isAgg3 sizeOf3 0) (fun _=>rfl) (QmB.nil _ _)))))))))) (fun e=>Bool.noConfusion e) (QmB.cons Z (by decide) (QL underlying67 nt_67 isAgg67 sizeOf67 (QmB.cons Z (by decide) (Qjn.int underlying3 isAgg3 sizeOf3 0) (fun _=>rfl) (QmB.cons Z (by decide) (Qjn.int underlying3 isAgg3 sizeOf3 0) (fun _=>rfl) (QmB.cons Z (by decide) (Qjn.int underlying3 isAgg3 sizeOf3 0) (fun _=>rfl) (QmB.cons Z (by decide) (Qjn.int underlying3 isAgg3 sizeOf3 0) (fun _=>rfl) (QmB.nil _ _)))))) (fun e=>Bool.noConfusion e) (QmB.cons Z (by decide) (QL underlying69 nt_69 isAgg69 sizeOf69 (QmB.cons Z (by decide) (Qjn.int underlying3 isAgg3 sizeOf3 0) (fun _=>rfl) (QmB.cons Z (by decide) (Qjn.int underlying3 isAgg3 sizeOf3 0) (fun _=>rfl) (QmB.cons Z (by decide) (Qjn.int underlying3 isAgg3 sizeOf3 0) (fun _=>rfl) (QmB.cons Z (by decide) (Qjn.int underlying3 isAgg3 sizeOf3 0) (fun _=>rfl) (QmB.nil _ _)))))) (fun e=>Bool.noConfusion e) (QmB.cons Z (by decide) (QL underlying59 Qnj isAgg59 sizeOf59 (QmB.cons Z (by decide) (Qjn.int underlying3 isAgg3 sizeOf3 0) (fun _=>rfl) (QmB.cons Z (by decide) (Qjn.int underlying3 isAgg3 sizeOf3 0) (fun _=>rfl) (QmB.nil _ _)))) (fun e=>Bool.noConfusion e) (QmB.cons Z (by decide) (QL underlying71 nt_71 isAgg71 sizeOf71 (QmB.cons Z (by decide) (Qjn.int underlying3 isAgg3 sizeOf3 0) (fun _=>rfl) (QmB.cons Z (by decide) (Qjn.int underlying3 isAgg3 sizeOf3 0) (fun _=>rfl) (QmB.cons Z (by decide) (Qjn.int underlying3 isAgg3 sizeOf3 0) (fun _=>rfl) (QmB.cons Z (by decide) (Qjn.int underlying3 isAgg3 sizeOf3 0) (fun _=>rfl) (QmB.nil _ _)))))) (fun e=>Bool.noConfusion e) (QmB.cons Z (by decide) (QL underlying73 nt_73 isAgg73 sizeOf73 (QmB.cons Z (by decide) (Qjn.int underlying3 isAgg3 sizeOf3 0) (fun _=>rfl) (QmB.cons Z (by decide) (Qjn.int underlying3 isAgg3 sizeOf3 0) (fun _=>rfl) (QmB.cons Z (by decide) (Qjn.int underlying3 isAgg3 sizeOf3 0) (fun _=>rfl) (QmB.cons Z (by decide) (Qjn.int underlying3 isAgg3 sizeOf3 0) (fun _=>rfl) (QmB.nil _ _)))))) (fun e=>Bool.noConfusion e) (QmB.cons Z (by decide) (QL underlying75 nt_75 isAgg75 sizeOf75 (QmB.cons Z (by decide) (Qjn.int underlying3 isAgg3 sizeOf3 0) (fun _=>rfl) (QmB.cons Z (by decide) (Qjn.int underlying3 isAgg3 sizeOf3 0) (fun _=>rfl) (QmB.cons Z (by decide) (Qjn.int underlying3 isAgg3 sizeOf3 0) (fun _=>rfl) (QmB.cons Z (by decide) (Qjn.int underlying3 isAgg3 sizeOf3 0) (fun _=>rfl) (QmB.cons Z (by decide) (Qjn.int underlying3 isAgg3 sizeOf3 0) (fun _=>rfl) (QmB.cons Z (by decide) (Qjn.int underlying3 isAgg3 sizeOf3 0) (fun _=>rfl) (QmB.nil _ _)))))))) (fun e=>Bool.noConfusion e) (QmB.cons Z (by decide) (QL underlying77 nt_77 isAgg77 sizeOf77 (QmB.cons Z (by decide) (Qjn.int underlying3 isAgg3 sizeOf3 0) (fun _=>rfl) (QmB.cons Z (by decide) (Qjn.bool underlying4 isAgg4 sizeOf4 0) (fun _=>rfl) (QmB.nil _ _)))) (fun e=>Bool.noConfusion e) (QmB.cons Z (by decide) (QL underlying79 nt_79 isAgg79 sizeOf79 (QmB.cons Z (by decide) (Qjn.int underlying3 isAgg3 sizeOf3 0) (fun _=>rfl) (QmB.cons Z (by decide) (Qjn.int underlying3 isAgg3 sizeOf3 0) (fun _=>rfl) (QmB.nil _ _)))) (fun e=>Bool.noConfusion e) (QmB.nil _ _)))))))))))))))))) Z (fun x=>⟨[_],_,Z,⟨_,Z⟩,[_],_,Z,⟨_,Z⟩,[_],_,Z,⟨_,Z⟩,[_],_,Z,⟨_,Z⟩,[_,_,_,_,_,_,_,_],_,Z,⟨[_],_,Z,⟨_,Z⟩,[_],_,Z,⟨_,Z⟩,[_],_,Z,⟨_,Z⟩,[_],_,Z,⟨_,Z⟩,[_],_,Z,⟨_,Z⟩,[_],_,Z,⟨_,Z⟩,[_],_,Z,⟨_,Z⟩,[_],_,Z,⟨_,Z⟩,Z⟩,[_,_,_,_],_,Z,⟨[_],_,Z,⟨_,Z⟩,[_],_,Z,⟨_,Z⟩,[_],_,Z,⟨_,Z⟩,[_],_,Z,⟨_,Z⟩,Z⟩,[_,_,_,_,_],_,Z,⟨[_],_,Z,⟨_,Z⟩,[_],_,Z,⟨_,Z⟩,[_],_,Z,⟨_,Z⟩,[_],_,Z,⟨_,Z⟩,[_],_,Z,⟨_,Z⟩,Z⟩,[_,_,_,_,_,_,_,_],_,Z,⟨[_],_,Z,⟨_,Z⟩,[_],_,Z,⟨_,Z⟩,[_],_,Z,⟨_,Z⟩,[_],_,Z,⟨_,Z⟩,[_],_,Z,⟨_,Z⟩,[_],_,Z,⟨_,Z⟩,[_],_,Z,⟨_,Z⟩,[_],_,Z,⟨_,Z⟩,Z⟩,[_,_,_,_],_,Z,⟨[_],_,Z,⟨_,Z⟩,[_],_,Z,⟨_,Z⟩,[_],_,Z,⟨_,Z⟩,[_],_,Z,⟨_,Z⟩,Z⟩,[_,_,_,_],_,Z,⟨[_],_,Z,⟨_,Z⟩,[_],_,Z,⟨_,Z⟩,[_],_,Z,⟨_,Z⟩,[_],_,Z,⟨_,Z⟩,Z⟩,[_,_],_,Z,⟨[_],_,Z,⟨_,Z⟩,[_],_,Z,⟨_,Z⟩,Z⟩,[_,_,_,_],_,Z,⟨[_],_,Z,⟨_,Z⟩,[_],_,Z,⟨_,Z⟩,[_],_,Z,⟨_,Z⟩,[_],_,Z,⟨_,Z⟩,Z⟩,[_,_,_,_],_,Z,⟨[_],_,Z,⟨_,Z⟩,[_],_,Z,⟨_,Z⟩,[_],_,Z,⟨_,Z⟩,[_],_,Z,⟨_,Z⟩,Z⟩,[_,_,_,_,_,_],_,Z,⟨[_],_,Z,⟨_,Z⟩,[_],_,Z,⟨_,Z⟩,[_],_,Z,⟨_,Z⟩,[_],_,Z,⟨_,Z⟩,[_],_,Z,⟨_,Z⟩,[_],_,Z,⟨_,Z⟩,Z⟩,[_,_],_,Z,⟨[_],_,Z,⟨_,Z⟩,[_],_,Z,⟨_,Z⟩,Z⟩,[_,_],_,Z,⟨[_],_,Z,⟨_,Z⟩,[_],_,Z,⟨_,Z⟩,Z⟩,Z⟩) (fun _=>rfl) (fun x y h=>?_) (by kernel_rfl)
  obtain⟨p1,p2,p3,p4,⟨p5,p6,p7,p8,p9,p10,p11,p12⟩,⟨p13,p14,p15,p16⟩,⟨p17,p18,p19,p20,p21⟩,⟨p22,p23,p24,p25,p26,p27,p28,p29⟩,⟨p30,p31,p32,p33⟩,⟨p34,p35,p36,p37⟩,⟨p38,p39⟩,⟨p40,p41,p42,p43⟩,⟨p44,p45,p46,p47⟩,⟨p48,p49,p50,p51,p52,p53⟩,⟨p54,p55⟩,⟨p56,p57⟩⟩:=x
  obtain⟨q58,q59,q60,q61,⟨q62,q63,q64,q65,q66,q67,q68,q69⟩,⟨q70,q71,q72,q73⟩,⟨q74,q75,q76,q77,q78⟩,⟨q79,q80,q81,q82,q83,q84,q85,q86⟩,⟨q87,q88,q89,q90⟩,⟨q91,q92,q93,q94⟩,⟨q95,q96⟩,⟨q97,q98,q99,q100⟩,⟨q101,q102,q103,q104⟩,⟨q105,q106,q107,q108,q109,q110⟩,⟨q111,q112⟩,⟨q113,q114⟩⟩:=y
  simpa[QV,Yo,Fact.c,Starter.c,Read.c,Beacon.c,Sync.c,Hand.c,Silence.c,Pair.c,Report.c,Protest.c,Ruling.c,Appeal.c,Ref.c,and_assoc]using h
theorem Qgt:QJ prog 184 [(0,1),(1,1),(2,1),(3,1)]:=⟨_,runUnderlying184,(PL.cons sizeOf3 (PL.cons sizeOf3 (PL.cons sizeOf9 (PL.cons sizeOf182 PL.nil))))⟩
theorem QgS:Q2 prog 182 184 4:=⟨runUnderlying182,sizeOf184,⟨_,zeroValue184,rfl⟩,⟨_,typeInfo184,by decide⟩⟩
theorem QhL:Yv prog 184 2 2 1:=FA runUnderlying184 rfl sizeOf9
theorem QmP(m:List (Int×Fact))(hl:Nat.ble (List.map Prod.fst m).length QR=true):C prog 127 [.fn (.func 129) [] [.ptr 0 0]] [.cells 98 [.map 1],.fmap (QG (fun x=>A.int .i64 x) (fun x=>A.agg (Fact.c x)) m)] (fun r H=>∃p:List Int,p.Perm (List.map Prod.fst m)/\r=.osl 2 0 p.length 1/\H=[.dead,.fmap (QG (fun x=>A.int .i64 x) (fun x=>A.agg (Fact.c x)) m),.row 3 1 (List.map (Qf .i64) p)]):=
  Qgh func127 Z Z Z (fun env H h=>OpC.fn (xs:=[.const (.slice none 0 0),.tmp 3]) call174 Z Z (by show[_,lk env 3]=_;rw[h];rfl)) (QkT func174 Z Z Z Qu isAgg48 sizeOf48 call129 (Qja func129 Z Z Z isAgg98 underlying98 (fun _=>rfl)) hl (fun _=>rfl) (fun _=>rfl) (fun _=>rfl) (fun _=>rfl) (fun _=>rfl))
theorem QbH:Q2 prog 38 50 8:=⟨runUnderlying38,sizeOf50,⟨_,zeroValue50,rfl⟩,⟨_,typeInfo50,by decide⟩⟩
theorem Qnl:prog.underlying 59=some (.struct (prog.fieldsOf 59)):=by kernel_rfl
theorem ns_59:prog.stoodInHeld 59=false:=by kernel_rfl
theorem QnU:Qaq prog 59 (fun x=>A.agg (Pair.c x)):=by
  refine Qaq.struct Qnl (fun _=>rfl) (fun x y h=>?_) (fun w em x=>?_) (fun w x y=>?_) (fun x=>?_)
  · cases x;cases y
    simpa[QV,Yo,Pair.c]using h
  · simp only[QV,Yo,Pair.c]
    rw[show(10000:Nat)=9998+1+1 from rfl]
    generalize(9998:Nat)=d
    simp[Instr.checkKey,runUnderlying59,runUnderlying3,Result.andThen,sizeOf3,isAgg3,part]
  · have u3:=underlying3
    have a3:=isAgg3
    have z3:=sizeOf3
    simp only[QV,Yo,Pair.c,Op.equal,Op.maxDepth]
    rw[show(10000:Nat)=9999+1 from Z,run_equalIn_agg w 9999 59 _ _ Qnl ns_59]
    simp only[Program.fieldsOf,underlying59]
    go_simp
    cases x;cases y
    simp
    repeat' split
    all_goals simp_all
  · simp[QV,Yo,Pair.c,Instr.sameBits]
theorem Qcg:Q2 prog 42 59 2:=⟨runUnderlying42,sizeOf59,⟨_,zeroValue59,rfl⟩,⟨_,typeInfo59,by decide⟩⟩
theorem QnM(m:List (Pair×Bool))(hl:Nat.ble (List.map Prod.fst m).length QR=true):C prog 64 [.fn (.func 66) [] [.ptr 0 0]] [.cells 103 [.map 1],.fmap (QG (fun x=>A.agg (Pair.c x)) A.bool m)] (fun r H=>∃p:List Pair,p.Perm (List.map Prod.fst m)/\r=.osl 2 0 p.length 2/\H=[.dead,.fmap (QG (fun x=>A.agg (Pair.c x)) A.bool m),.row 59 2 (List.map Pair.c p)]):=
  Qgh func64 Z Z Z (fun env H h=>OpC.fn (xs:=[.const (.slice none 0 0),.tmp 3]) call136 Z Z (by show[_,lk env 3]=_;rw[h];rfl)) (QkU (e:=Pair.c) func136 Z Z Z Qcg isAgg42 sizeOf42 isAgg59 zeroValue59 (ZR.agg (zc ZR.int (zc ZR.int ZL.nil))) Z Z Z Z call66 (Qjb (e:=Pair.c) func66 Z Z Z isAgg103 underlying103 (fun _=>rfl) isAgg59 zeroValue59 sizeOf59 (ZR.agg (zc ZR.int (zc ZR.int ZL.nil))) Z Z Z Z (fun _=>rfl) (fun _=>rfl) (fun _=>rfl) (fun _=>rfl)) hl Z (fun _=>rfl) (fun _=>rfl) (fun _=>rfl) (fun _=>rfl) (fun _=>rfl) (fun _=>rfl))
theorem Qi0:EqD prog 59 Pair.c:=by
  refine Qg6 (QL underlying59 Qnj isAgg59 sizeOf59 (QmB.cons Z (by decide) (Qjn.int underlying3 isAgg3 sizeOf3 0) (fun _=>rfl) (QmB.cons Z (by decide) (Qjn.int underlying3 isAgg3 sizeOf3 0) (fun _=>rfl) (QmB.nil _ _)))) Z (fun x=>⟨[_],_,Z,⟨_,Z⟩,[_],_,Z,⟨_,Z⟩,Z⟩) (fun _=>rfl) (fun x y h=>?_) (by kernel_rfl)
  obtain⟨p1,p2⟩:=x
  obtain⟨q3,q4⟩:=y
  simpa[QV,Yo,Pair.c,and_assoc]using h
theorem Qn1:Q2 prog 128 130 4:=⟨runUnderlying128,sizeOf130,⟨_,zeroValue130,rfl⟩,⟨_,typeInfo130,by decide⟩⟩
theorem Ji:Q2 prog 150 9 1:=⟨runUnderlying150,sizeOf9,⟨_,zeroValue9,rfl⟩,⟨_,typeInfo9,by decide⟩⟩
theorem Qn0:EqD prog 50 Starter.c:=by
  refine Qg6 (QL underlying50 Qnk isAgg50 sizeOf50 (QmB.cons Z (by decide) (Qjn.int underlying3 isAgg3 sizeOf3 0) (fun _=>rfl) (QmB.cons Z (by decide) (Qjn.int underlying3 isAgg3 sizeOf3 0) (fun _=>rfl) (QmB.cons Z (by decide) (Qjn.int underlying3 isAgg3 sizeOf3 0) (fun _=>rfl) (QmB.cons Z (by decide) (Qjn.int underlying3 isAgg3 sizeOf3 0) (fun _=>rfl) (QmB.cons Z (by decide) (Qjn.int underlying3 isAgg3 sizeOf3 0) (fun _=>rfl) (QmB.cons Z (by decide) (Qjn.int underlying3 isAgg3 sizeOf3 0) (fun _=>rfl) (QmB.cons Z (by decide) (Qjn.int underlying3 isAgg3 sizeOf3 0) (fun _=>rfl) (QmB.cons Z (by decide) (Qjn.int underlying3 isAgg3 sizeOf3 0) (fun _=>rfl) (QmB.nil _ _)))))))))) Z (fun x=>⟨[_],_,Z,⟨_,Z⟩,[_],_,Z,⟨_,Z⟩,[_],_,Z,⟨_,Z⟩,[_],_,Z,⟨_,Z⟩,[_],_,Z,⟨_,Z⟩,[_],_,Z,⟨_,Z⟩,[_],_,Z,⟨_,Z⟩,[_],_,Z,⟨_,Z⟩,Z⟩) (fun _=>rfl) (fun x y h=>?_) (by kernel_rfl)
  obtain⟨p1,p2,p3,p4,p5,p6,p7,p8⟩:=x
  obtain⟨q9,q10,q11,q12,q13,q14,q15,q16⟩:=y
  simpa[QV,Yo,Starter.c,and_assoc]using h
theorem pl_31:QJ prog 31 [(0,1),(1,1),(2,1),(3,1),(4,1)]:=⟨_,runUnderlying31,(PL.cons sizeOf3 (PL.cons sizeOf3 (PL.cons sizeOf3 (PL.cons sizeOf3 (PL.cons sizeOf3 PL.nil)))))⟩
theorem pl_61:QJ prog 61 [(0,1),(1,1),(2,1),(3,1)]:=⟨_,runUnderlying61,(PL.cons sizeOf3 (PL.cons sizeOf3 (PL.cons sizeOf3 (PL.cons sizeOf3 PL.nil))))⟩
theorem pl_63:QJ prog 63 [(0,1),(1,1),(2,1),(3,1),(4,1)]:=⟨_,runUnderlying63,(PL.cons sizeOf3 (PL.cons sizeOf3 (PL.cons sizeOf3 (PL.cons sizeOf3 (PL.cons sizeOf3 PL.nil)))))⟩
theorem pl_65:QJ prog 65 [(0,1),(1,1),(2,1),(3,1),(4,1),(5,1),(6,1),(7,1)]:=⟨_,runUnderlying65,(PL.cons sizeOf3 (PL.cons sizeOf3 (PL.cons sizeOf3 (PL.cons sizeOf3 (PL.cons sizeOf3 (PL.cons sizeOf3 (PL.cons sizeOf3 (PL.cons sizeOf3 PL.nil))))))))⟩
theorem pl_67:QJ prog 67 [(0,1),(1,1),(2,1),(3,1)]:=⟨_,runUnderlying67,(PL.cons sizeOf3 (PL.cons sizeOf3 (PL.cons sizeOf3 (PL.cons sizeOf3 PL.nil))))⟩
theorem pl_69:QJ prog 69 [(0,1),(1,1),(2,1),(3,1)]:=⟨_,runUnderlying69,(PL.cons sizeOf3 (PL.cons sizeOf3 (PL.cons sizeOf3 (PL.cons sizeOf3 PL.nil))))⟩
theorem pl_71:QJ prog 71 [(0,1),(1,1),(2,1),(3,1)]:=⟨_,runUnderlying71,(PL.cons sizeOf3 (PL.cons sizeOf3 (PL.cons sizeOf3 (PL.cons sizeOf3 PL.nil))))⟩
theorem pl_73:QJ prog 73 [(0,1),(1,1),(2,1),(3,1)]:=⟨_,runUnderlying73,(PL.cons sizeOf3 (PL.cons sizeOf3 (PL.cons sizeOf3 (PL.cons sizeOf3 PL.nil))))⟩
theorem pl_75:QJ prog 75 [(0,1),(1,1),(2,1),(3,1),(4,1),(5,1)]:=⟨_,runUnderlying75,(PL.cons sizeOf3 (PL.cons sizeOf3 (PL.cons sizeOf3 (PL.cons sizeOf3 (PL.cons sizeOf3 (PL.cons sizeOf3 PL.nil))))))⟩
theorem pl_77:QJ prog 77 [(0,1),(1,1)]:=⟨_,runUnderlying77,(PL.cons sizeOf3 (PL.cons sizeOf4 PL.nil))⟩
theorem pl_79:QJ prog 79 [(0,1),(1,1)]:=⟨_,runUnderlying79,(PL.cons sizeOf3 (PL.cons sizeOf3 PL.nil))⟩
theorem QnK:QJ prog 130 [(0,1),(1,1),(2,1),(3,1)]:=⟨_,runUnderlying130,(PL.cons sizeOf3 (PL.cons sizeOf3 (PL.cons sizeOf3 (PL.cons sizeOf128 PL.nil))))⟩
theorem QnI:QJ prog 152 [(0,1),(1,1),(2,1),(3,1)]:=⟨_,runUnderlying152,(PL.cons sizeOf9 (PL.cons sizeOf3 (PL.cons sizeOf3 (PL.cons sizeOf4 PL.nil))))⟩
theorem QnH:QJ prog 154 [(0,1),(1,1),(2,1)]:=⟨_,runUnderlying154,(PL.cons sizeOf9 (PL.cons sizeOf3 (PL.cons sizeOf3 PL.nil)))⟩
theorem QnG:QJ prog 160 [(0,1),(1,1),(2,1),(3,1)]:=⟨_,runUnderlying160,(PL.cons sizeOf3 (PL.cons sizeOf3 (PL.cons sizeOf3 (PL.cons sizeOf3 PL.nil))))⟩
theorem QnF:QJ prog 168 [(0,1),(1,1),(2,1)]:=⟨_,runUnderlying168,(PL.cons sizeOf3 (PL.cons sizeOf3 (PL.cons sizeOf3 PL.nil)))⟩
theorem QnD:QJ prog 248 [(0,1)]:=⟨_,runUnderlying248,(PL.cons sizeOf246 PL.nil)⟩
def tyT:TyI:={fld:=[(125,2,2),(33,1,1),(33,2,2),(33,3,3),(33,4,4),(33,5,5),(33,6,6),(33,7,7),(94,1,1),(94,3,3),(96,0,0),(94,0,0),(127,0,0),(152,0,0),(154,0,0),(33,0,0),(96,1,1),(123,0,0),(123,1,1),(123,2,2),(123,3,3),(125,1,1),(125,0,0),(168,0,0),(168,1,1),(168,2,2),(94,2,2),(94,4,4),(127,1,1),(152,3,3),(152,1,1),(152,2,2),(154,1,1),(154,2,2),(160,0,0),(160,1,1),(160,2,2),(160,3,3),(33,9,9),(31,0,0),(31,1,1),(31,2,2),(31,3,3),(31,4,4),(33,10,14),(33,11,15),(298,0,0),(130,0,0),(130,1,1),(130,2,2),(130,3,3),(263,0,0),(132,3,6),(132,4,7),(256,0,0),(132,2,2),(256,1,1),(132,0,0),(132,1,1),(33,8,8),(81,3,3),(81,4,4),(50,0,0),(50,1,1),(50,2,2),(50,3,3),(50,4,4),(50,5,5),(50,6,6),(50,7,7),(81,5,12),(61,0,0),(61,1,1),(61,2,2),(61,3,3),(81,6,16),(63,0,0),(63,1,1),(63,2,2),(63,3,3),(63,4,4),(81,7,21),(65,0,0),(65,1,1),(65,2,2),(65,3,3),(65,4,4),(65,5,5),(65,6,6),(65,7,7),(81,8,29),(67,0,0),(67,1,1),(67,2,2),(67,3,3),(81,9,33),(69,0,0),(69,1,1),(69,2,2),(69,3,3),(81,10,37),(59,0,0),(59,1,1),(81,11,39),(71,0,0),(71,1,1),(71,2,2),(71,3,3),(81,12,43),(73,0,0),(73,1,1),(73,2,2),(73,3,3),(81,13,47),(75,2,2),(75,0,0),(75,1,1),(75,3,3),(75,4,4),(75,5,5),(81,14,53),(77,0,0),(81,15,55),(79,0,0),(79,1,1),(81,0,0),(81,1,1),(81,2,2),(171,0,0),(77,1,1),(171,1,1),(181,0,0),(181,1,1),(179,0,0),(179,1,1),(184,2,2),(184,3,3),(184,1,1),(184,0,0),(248,0,0)],agg:=[(81,true,57),(33,true,16),(125,true,3),(91,false,1),(22,false,1),(23,false,1),(24,false,1),(25,false,1),(26,false,1),(27,false,1),(28,false,1),(94,true,5),(92,false,1),(5,false,1),(9,false,1),(96,true,2),(127,true,2),(152,true,4),(154,true,3),(3,false,1),(206,false,1),(202,false,1),(123,true,4),(136,true,2),(197,false,1),(200,false,1),(168,true,3),(139,false,1),(211,false,1),(4,false,1),(203,false,1),(214,false,1),(204,false,1),(160,true,4),(218,true,3),(31,true,5),(132,true,8),(128,false,1),(29,false,1),(130,true,4),(263,true,8),(298,true,4),(260,false,1),(223,false,1),(134,false,1),(179,true,2),(171,true,2),(238,false,1),(239,false,1),(240,false,1),(241,false,1),(35,false,1),(181,true,3),(175,false,1),(182,false,1),(184,true,4),(249,false,1),(246,false,1),(50,true,8),(59,true,2),(65,true,8),(75,true,6),(61,true,4),(63,true,5),(67,true,4),(69,true,4),(71,true,4),(73,true,4),(77,true,2),(79,true,2)],zer:=[(50,[I 0,I 0,I 0,I 0,I 0,I 0,I 0,I 0],[(0,1),(1,1),(2,1),(3,1),(4,1),(5,1),(6,1),(7,1)]),(81,[I 0,I 0,I 0,I 0,I 0,I 0,I 0,I 0,I 0,I 0,I 0,I 0,I 0,I 0,I 0,I 0,I 0,I 0,I 0,I 0,I 0,I 0,I 0,I 0,I 0,I 0,I 0,I 0,I 0,I 0,I 0,I 0,I 0,I 0,I 0,I 0,I 0,I 0,I 0,I 0,I 0,I 0,I 0,I 0,I 0,I 0,I 0,I 0,I 0,I 0,I 0,I 0,I 0,I 0,.bool false,I 0,I 0],[(0,1),(1,1),(2,1),(3,1),(4,8),(12,4),(16,5),(21,8),(29,4),(33,4),(37,2),(39,4),(43,4),(47,6),(53,2),(55,2)]),(96,[.str [],I 0],[(0,1),(1,1)]),(123,[I 0,I 0,I 0,I 0],[(0,1),(1,1),(2,1),(3,1)]),(125,[I 0,I 0,.rsl 3 (List.map Part.enc [])],[(0,1),(1,1),(2,1)]),(94,[.str [],.rsl 3 (List.map Part.enc []),I 0,.rsl 3 (List.map Cutoff.c []),I 0],[(0,1),(1,1),(2,1),(3,1),(4,1)]),(127,[.str [],I 0],[(0,1),(1,1)]),(132,[I 0,I 0,I 0,I 0,I 0,.rsl 4 (List.map Cond.enc []),.rsl 8 (List.map Step.enc []),.rsl 8 (List.map Step.enc [])],[(0,1),(1,1),(2,4),(6,1),(7,1)]),(33,[.str [],.rsl 2 (List.map Mat.c []),.rsl 4 (List.map Leg.c []),.rsl 5 (List.map Distance.c []),.rsl 2 (List.map Wave.c []),.rsl 4 (List.map Offence.c []),.rsl 3 (List.map Category.c []),.rsl 4 (List.map Prize.c []),.rsl 8 (List.map Step.enc []),I 0,I 0,I 0,I 0,I 0,I 0,I 0],[(0,1),(1,1),(2,1),(3,1),(4,1),(5,1),(6,1),(7,1),(8,1),(9,5),(14,1),(15,1)]),(136,[I 0,I 0],[(0,1),(1,1)]),(218,[I 0,I 0,I 0],[(0,1),(1,1),(2,1)]),(263,[I 0,I 0,I 0,I 0,I 0,.rsl 4 (List.map Cond.enc []),.rsl 8 (List.map Step.enc []),.rsl 8 (List.map Step.enc [])],[(0,8)]),(298,[I 0,I 0,I 0,.rsl 4 (List.map Cond.enc [])],[(0,4)]),(256,[I 0,I 0],[(0,1),(1,1)]),(181,[.nilp,I 0,I 0],[(0,1),(1,2)]),(179,[I 0,I 0],[(0,1),(1,1)]),(171,[.nils,.nilf],[(0,1),(1,1)]),(184,[I 0,I 0,.str [],.rsl 4 (List.map Value.enc [])],[(0,1),(1,1),(2,1),(3,1)]),(59,[I 0,I 0],[(0,1),(1,1)])]}
def tyF:List (Nat×List (Nat×Nat)):=[(31,[(0,1),(1,1),(2,1),(3,1),(4,1)]),(33,[(0,1),(1,1),(2,1),(3,1),(4,1),(5,1),(6,1),(7,1),(8,1),(9,5),(14,1),(15,1)]),(50,[(0,1),(1,1),(2,1),(3,1),(4,1),(5,1),(6,1),(7,1)]),(59,[(0,1),(1,1)]),(61,[(0,1),(1,1),(2,1),(3,1)]),(63,[(0,1),(1,1),(2,1),(3,1),(4,1)]),(65,[(0,1),(1,1),(2,1),(3,1),(4,1),(5,1),(6,1),(7,1)]),(67,[(0,1),(1,1),(2,1),(3,1)]),(69,[(0,1),(1,1),(2,1),(3,1)]),(71,[(0,1),(1,1),(2,1),(3,1)]),(73,[(0,1),(1,1),(2,1),(3,1)]),(75,[(0,1),(1,1),(2,1),(3,1),(4,1),(5,1)]),(77,[(0,1),(1,1)]),(79,[(0,1),(1,1)]),(81,[(0,1),(1,1),(2,1),(3,1),(4,8),(12,4),(16,5),(21,8),(29,4),(33,4),(37,2),(39,4),(43,4),(47,6),(53,2),(55,2)]),(94,[(0,1),(1,1),(2,1),(3,1),(4,1)]),(96,[(0,1),(1,1)]),(123,[(0,1),(1,1),(2,1),(3,1)]),(125,[(0,1),(1,1),(2,1)]),(127,[(0,1),(1,1)]),(130,[(0,1),(1,1),(2,1),(3,1)]),(132,[(0,1),(1,1),(2,4),(6,1),(7,1)]),(152,[(0,1),(1,1),(2,1),(3,1)]),(154,[(0,1),(1,1),(2,1)]),(160,[(0,1),(1,1),(2,1),(3,1)]),(168,[(0,1),(1,1),(2,1)]),(171,[(0,1),(1,1)]),(179,[(0,1),(1,1)]),(181,[(0,1),(1,2)]),(184,[(0,1),(1,1),(2,1),(3,1)]),(248,[(0,1)]),(256,[(0,1),(1,1)]),(263,[(0,8)]),(298,[(0,4)])]
theorem tyOK:TyOK prog tyT:=
  ⟨QnZ (L:=tyF) (yc pl_31 (yc Qni (yc Qnh (yc Qng (yc pl_61 (yc pl_63 (yc pl_65 (yc pl_67 (yc pl_69 (yc pl_71 (yc pl_73 (yc pl_75 (yc pl_77 (yc pl_79 (yc Qnf (yc Qne (yc Qnd (yc Qlo (yc Qln (yc Qlm (yc QnK (yc Qll (yc QnI (yc QnH (yc QnG (yc QnF (yc Qlk (yc Qlj (yc Qli (yc Qgt (yc QnD (yc Qlh (yc Qlg (yc Qlf (List.forall_mem_nil _))))))))))))))))))))))))))))))))))) (by kernel_rfl),
   yc ⟨isAgg81,sizeOf81⟩ (yc ⟨isAgg33,sizeOf33⟩ (yc ⟨isAgg125,sizeOf125⟩ (yc ⟨isAgg91,sizeOf91⟩ (yc ⟨isAgg22,sizeOf22⟩ (yc ⟨isAgg23,sizeOf23⟩ (yc ⟨isAgg24,sizeOf24⟩ (yc ⟨isAgg25,sizeOf25⟩ (yc ⟨isAgg26,sizeOf26⟩ (yc ⟨isAgg27,sizeOf27⟩ (yc ⟨isAgg28,sizeOf28⟩ (yc ⟨isAgg94,sizeOf94⟩ (yc ⟨isAgg92,sizeOf92⟩ (yc ⟨isAgg5,sizeOf5⟩ (yc ⟨isAgg9,sizeOf9⟩ (yc ⟨isAgg96,sizeOf96⟩ (yc ⟨isAgg127,sizeOf127⟩ (yc ⟨isAgg152,sizeOf152⟩ (yc ⟨isAgg154,sizeOf154⟩ (yc ⟨isAgg3,sizeOf3⟩ (yc ⟨isAgg206,sizeOf206⟩ (yc ⟨isAgg202,sizeOf202⟩ (yc ⟨isAgg123,sizeOf123⟩ (yc ⟨isAgg136,sizeOf136⟩ (yc ⟨isAgg197,sizeOf197⟩ (yc ⟨isAgg200,sizeOf200⟩ (yc ⟨isAgg168,sizeOf168⟩ (yc ⟨isAgg139,sizeOf139⟩ (yc ⟨isAgg211,sizeOf211⟩ (yc ⟨isAgg4,sizeOf4⟩ (yc ⟨isAgg203,sizeOf203⟩ (yc ⟨isAgg214,sizeOf214⟩ (yc ⟨isAgg204,sizeOf204⟩ (yc ⟨isAgg160,sizeOf160⟩ (yc ⟨isAgg218,sizeOf218⟩ (yc ⟨isAgg31,sizeOf31⟩ (yc ⟨isAgg132,sizeOf132⟩ (yc ⟨isAgg128,sizeOf128⟩ (yc ⟨isAgg29,sizeOf29⟩ (yc ⟨isAgg130,sizeOf130⟩ (yc ⟨isAgg263,sizeOf263⟩ (yc ⟨isAgg298,sizeOf298⟩ (yc ⟨isAgg260,sizeOf260⟩ (yc ⟨isAgg223,sizeOf223⟩ (yc ⟨isAgg134,sizeOf134⟩ (yc ⟨isAgg179,sizeOf179⟩ (yc ⟨isAgg171,sizeOf171⟩ (yc ⟨isAgg238,sizeOf238⟩ (yc ⟨isAgg239,sizeOf239⟩ (yc ⟨isAgg240,sizeOf240⟩ (yc ⟨isAgg241,sizeOf241⟩ (yc ⟨isAgg35,sizeOf35⟩ (yc ⟨isAgg181,sizeOf181⟩ (yc ⟨isAgg175,sizeOf175⟩ (yc ⟨isAgg182,sizeOf182⟩ (yc ⟨isAgg184,sizeOf184⟩ (yc ⟨isAgg249,sizeOf249⟩ (yc ⟨isAgg246,sizeOf246⟩ (yc ⟨isAgg50,sizeOf50⟩ (yc ⟨isAgg59,sizeOf59⟩ (yc ⟨isAgg65,sizeOf65⟩ (yc ⟨isAgg75,sizeOf75⟩ (yc ⟨isAgg61,sizeOf61⟩ (yc ⟨isAgg63,sizeOf63⟩ (yc ⟨isAgg67,sizeOf67⟩ (yc ⟨isAgg69,sizeOf69⟩ (yc ⟨isAgg71,sizeOf71⟩ (yc ⟨isAgg73,sizeOf73⟩ (yc ⟨isAgg77,sizeOf77⟩ (yc ⟨isAgg79,sizeOf79⟩ (List.forall_mem_nil _)))))))))))))))))))))))))))))))))))))))))))))))))))))))))))))))))))))),
   yc ⟨⟨_,zeroValue50,(ZR.agg (zc ZR.int (zc ZR.int (zc ZR.int (zc ZR.int (zc ZR.int (zc ZR.int (zc ZR.int (zc ZR.int ZL.nil)))))))))⟩,Qnh⟩ (yc ⟨⟨_,zeroValue81,(ZR.agg (zc ZR.int (zc ZR.int (zc ZR.int (zc ZR.int (zc ZR.int (zc ZR.int (zc ZR.int (zc ZR.int (zc ZR.int (zc ZR.int (zc ZR.int (zc ZR.int (zc ZR.int (zc ZR.int (zc ZR.int (zc ZR.int (zc ZR.int (zc ZR.int (zc ZR.int (zc ZR.int (zc ZR.int (zc ZR.int (zc ZR.int (zc ZR.int (zc ZR.int (zc ZR.int (zc ZR.int (zc ZR.int (zc ZR.int (zc ZR.int (zc ZR.int (zc ZR.int (zc ZR.int (zc ZR.int (zc ZR.int (zc ZR.int (zc ZR.int (zc ZR.int (zc ZR.int (zc ZR.int (zc ZR.int (zc ZR.int (zc ZR.int (zc ZR.int (zc ZR.int (zc ZR.int (zc ZR.int (zc ZR.int (zc ZR.int (zc ZR.int (zc ZR.int (zc ZR.int (zc ZR.int (zc ZR.int (zc ZR.bool (zc ZR.int (zc ZR.int ZL.nil))))))))))))))))))))))))))))))))))))))))))))))))))))))))))⟩,Qnf⟩ (yc ⟨⟨_,zeroValue96,(ZR.agg (zc ZR.str (zc ZR.int ZL.nil)))⟩,Qnd⟩ (yc ⟨⟨_,zeroValue123,(ZR.agg (zc ZR.int (zc ZR.int (zc ZR.int (zc ZR.int ZL.nil)))))⟩,Qlo⟩ (yc ⟨⟨_,zeroValue125,(ZR.agg (zc ZR.int (zc ZR.int (zc ZR.rsl ZL.nil))))⟩,Qln⟩ (yc ⟨⟨_,zeroValue94,(ZR.agg (zc ZR.str (zc ZR.rsl (zc ZR.int (zc ZR.rsl (zc ZR.int ZL.nil))))))⟩,Qne⟩ (yc ⟨⟨_,zeroValue127,(ZR.agg (zc ZR.str (zc ZR.int ZL.nil)))⟩,Qlm⟩ (yc ⟨⟨_,zeroValue132,(ZR.agg (zc ZR.int (zc ZR.int (zc ZR.int (zc ZR.int (zc ZR.int (zc ZR.rsl (zc ZR.rsl (zc ZR.rsl ZL.nil)))))))))⟩,Qll⟩ (yc ⟨⟨_,zeroValue33,(ZR.agg (zc ZR.str (zc ZR.rsl (zc ZR.rsl (zc ZR.rsl (zc ZR.rsl (zc ZR.rsl (zc ZR.rsl (zc ZR.rsl (zc ZR.rsl (zc ZR.int (zc ZR.int (zc ZR.int (zc ZR.int (zc ZR.int (zc ZR.int (zc ZR.int ZL.nil)))))))))))))))))⟩,Qni⟩ (yc ⟨⟨_,zeroValue136,(ZR.agg (zc ZR.int (zc ZR.int ZL.nil)))⟩,QnJ⟩ (yc ⟨⟨_,zeroValue218,(ZR.agg (zc ZR.int (zc ZR.int (zc ZR.int ZL.nil))))⟩,QnE⟩ (yc ⟨⟨_,zeroValue263,(ZR.agg (zc ZR.int (zc ZR.int (zc ZR.int (zc ZR.int (zc ZR.int (zc ZR.rsl (zc ZR.rsl (zc ZR.rsl ZL.nil)))))))))⟩,Qlg⟩ (yc ⟨⟨_,zeroValue298,(ZR.agg (zc ZR.int (zc ZR.int (zc ZR.int (zc ZR.rsl ZL.nil)))))⟩,Qlf⟩ (yc ⟨⟨_,zeroValue256,(ZR.agg (zc ZR.int (zc ZR.int ZL.nil)))⟩,Qlh⟩ (yc ⟨⟨_,zeroValue181,(ZR.agg (zc ZR.nilp (zc ZR.int (zc ZR.int ZL.nil))))⟩,Qli⟩ (yc ⟨⟨_,zeroValue179,(ZR.agg (zc ZR.int (zc ZR.int ZL.nil)))⟩,Qlj⟩ (yc ⟨⟨_,zeroValue171,(ZR.agg (zc ZR.nils (zc ZR.nilf ZL.nil)))⟩,Qlk⟩ (yc ⟨⟨_,zeroValue184,(ZR.agg (zc ZR.int (zc ZR.int (zc ZR.str (zc ZR.rsl ZL.nil)))))⟩,Qgt⟩ (yc ⟨⟨_,zeroValue59,(ZR.agg (zc ZR.int (zc ZR.int ZL.nil)))⟩,Qng⟩ (List.forall_mem_nil _)))))))))))))))))))⟩
def tyX:TyX:={ty:=tyT,al:=[(81,(.agg [I 0,I 0,I 0,I 0,I 0,I 0,I 0,I 0,I 0,I 0,I 0,I 0,I 0,I 0,I 0,I 0,I 0,I 0,I 0,I 0,I 0,I 0,I 0,I 0,I 0,I 0,I 0,I 0,I 0,I 0,I 0,I 0,I 0,I 0,I 0,I 0,I 0,I 0,I 0,I 0,I 0,I 0,I 0,I 0,I 0,I 0,I 0,I 0,I 0,I 0,I 0,I 0,I 0,I 0,.bool false,I 0,I 0])),(33,(.agg [.str [],.rsl 2 (List.map Mat.c []),.rsl 4 (List.map Leg.c []),.rsl 5 (List.map Distance.c []),.rsl 2 (List.map Wave.c []),.rsl 4 (List.map Offence.c []),.rsl 3 (List.map Category.c []),.rsl 4 (List.map Prize.c []),.rsl 8 (List.map Step.enc []),I 0,I 0,I 0,I 0,I 0,I 0,I 0])),(125,(.agg [I 0,I 0,.rsl 3 (List.map Part.enc [])])),(94,(.agg [.str [],.rsl 3 (List.map Part.enc []),I 0,.rsl 3 (List.map Cutoff.c []),I 0])),(96,(.agg [.str [],I 0])),(127,(.agg [.str [],I 0])),(152,(.agg [.str [],I 0,I 0,.bool false])),(154,(.agg [.str [],I 0,I 0])),(136,(.agg [I 0,I 0])),(123,(.agg [I 0,I 0,I 0,I 0])),(218,(.agg [I 0,I 0,I 0])),(160,(.agg [I 0,I 0,I 0,I 0])),(3,(I 0)),(197,.nilf),(200,.nilf),(31,(.agg [I 0,I 0,I 0,I 0,I 0])),(132,(.agg [I 0,I 0,I 0,I 0,I 0,.rsl 4 (List.map Cond.enc []),.rsl 8 (List.map Step.enc []),.rsl 8 (List.map Step.enc [])])),(130,(.agg [I 0,I 0,I 0,.rsl 4 (List.map Cond.enc [])])),(263,(.agg [I 0,I 0,I 0,I 0,I 0,.rsl 4 (List.map Cond.enc []),.rsl 8 (List.map Step.enc []),.rsl 8 (List.map Step.enc [])])),(298,(.agg [I 0,I 0,I 0,.rsl 4 (List.map Cond.enc [])])),(223,.nilm),(134,.nilm),(171,(.agg [.nils,.nilf])),(238,.nilp),(239,.nilp),(240,.nilp),(241,.nilp),(181,(.agg [.nilp,I 0,I 0])),(184,(.agg [I 0,I 0,.str [],.rsl 4 (List.map Value.enc [])])),(249,.nilp),(50,(.agg [I 0,I 0,I 0,I 0,I 0,I 0,I 0,I 0])),(59,(.agg [I 0,I 0])),(168,(.agg [I 0,I 0,I 0])),(61,(.agg [I 0,I 0,I 0,I 0])),(63,(.agg [I 0,I 0,I 0,I 0,I 0])),(65,(.agg [I 0,I 0,I 0,I 0,I 0,I 0,I 0,I 0])),(67,(.agg [I 0,I 0,I 0,I 0])),(69,(.agg [I 0,I 0,I 0,I 0])),(71,(.agg [I 0,I 0,I 0,I 0])),(73,(.agg [I 0,I 0,I 0,I 0])),(75,(.agg [I 0,I 0,I 0,I 0,I 0,I 0]))],sl:=[118,221,48,169,34,38,42]}
theorem Qeu:Qd1 prog tyX:=
  ⟨tyOK,
   yc ⟨⟨_,zeroValue81,(zrC Z)⟩,Z,Z⟩ (yc ⟨⟨_,zeroValue33,(zrC Z)⟩,Z,Z⟩ (yc ⟨⟨_,zeroValue125,(zrC Z)⟩,Z,Z⟩ (yc ⟨⟨_,zeroValue94,(zrC Z)⟩,Z,Z⟩ (yc ⟨⟨_,zeroValue96,(zrC Z)⟩,Z,Z⟩ (yc ⟨⟨_,zeroValue127,(zrC Z)⟩,Z,Z⟩ (yc ⟨⟨_,zeroValue152,(zrC Z)⟩,Z,Z⟩ (yc ⟨⟨_,zeroValue154,(zrC Z)⟩,Z,Z⟩ (yc ⟨⟨_,zeroValue136,(zrC Z)⟩,Z,Z⟩ (yc ⟨⟨_,zeroValue123,(zrC Z)⟩,Z,Z⟩ (yc ⟨⟨_,zeroValue218,(zrC Z)⟩,Z,Z⟩ (yc ⟨⟨_,zeroValue160,(zrC Z)⟩,Z,Z⟩ (yc ⟨⟨_,zeroValue3,ZR.int⟩,Z,Z⟩ (yc ⟨⟨_,zeroValue197,ZR.nilf⟩,Z,Z⟩ (yc ⟨⟨_,zeroValue200,ZR.nilf⟩,Z,Z⟩ (yc ⟨⟨_,zeroValue31,(zrC Z)⟩,Z,Z⟩ (yc ⟨⟨_,zeroValue132,(zrC Z)⟩,Z,Z⟩ (yc ⟨⟨_,zeroValue130,(zrC Z)⟩,Z,Z⟩ (yc ⟨⟨_,zeroValue263,(zrC Z)⟩,Z,Z⟩ (yc ⟨⟨_,zeroValue298,(zrC Z)⟩,Z,Z⟩ (yc ⟨⟨_,zeroValue223,ZR.nilm⟩,Z,Z⟩ (yc ⟨⟨_,zeroValue134,ZR.nilm⟩,Z,Z⟩ (yc ⟨⟨_,zeroValue171,(zrC Z)⟩,Z,Z⟩ (yc ⟨⟨_,zeroValue238,ZR.nilp⟩,Z,Z⟩ (yc ⟨⟨_,zeroValue239,ZR.nilp⟩,Z,Z⟩ (yc ⟨⟨_,zeroValue240,ZR.nilp⟩,Z,Z⟩ (yc ⟨⟨_,zeroValue241,ZR.nilp⟩,Z,Z⟩ (yc ⟨⟨_,zeroValue181,(zrC Z)⟩,Z,Z⟩ (yc ⟨⟨_,zeroValue184,(zrC Z)⟩,Z,Z⟩ (yc ⟨⟨_,zeroValue249,ZR.nilp⟩,Z,Z⟩ (yc ⟨⟨_,zeroValue50,(zrC Z)⟩,Z,Z⟩ (yc ⟨⟨_,zeroValue59,(zrC Z)⟩,Z,Z⟩ (yc ⟨⟨_,zeroValue168,(zrC Z)⟩,Z,Z⟩ (yc ⟨⟨_,zeroValue61,(zrC Z)⟩,Z,Z⟩ (yc ⟨⟨_,zeroValue63,(zrC Z)⟩,Z,Z⟩ (yc ⟨⟨_,zeroValue65,(zrC Z)⟩,Z,Z⟩ (yc ⟨⟨_,zeroValue67,(zrC Z)⟩,Z,Z⟩ (yc ⟨⟨_,zeroValue69,(zrC Z)⟩,Z,Z⟩ (yc ⟨⟨_,zeroValue71,(zrC Z)⟩,Z,Z⟩ (yc ⟨⟨_,zeroValue73,(zrC Z)⟩,Z,Z⟩ (yc ⟨⟨_,zeroValue75,(zrC Z)⟩,Z,Z⟩ (List.forall_mem_nil _))))))))))))))))))))))))))))))))))))))))),
   yc ⟨_,runUnderlying118⟩ (yc ⟨_,runUnderlying221⟩ (yc ⟨_,runUnderlying48⟩ (yc ⟨_,runUnderlying169⟩ (yc ⟨_,runUnderlying34⟩ (yc ⟨_,runUnderlying38⟩ (yc ⟨_,runUnderlying42⟩ (List.forall_mem_nil _)))))))⟩
theorem G0{h0 N:Nat}{c:Code}{c':Cf}{k':List Kf}{env env':Env}{H H':Qd}{Q:QI}(n:Nat)(h:Qit tyX h0 N n (.code c) [] env H=some (c',k',env',H'))(g:Hd prog h0 N c' k' env' H' Q):TC prog h0 N c env H Q:=QcB Qeu n h g
theorem Gc{h0 N:Nat}{k:List Kf}{c:Code}{c':Cf}{k':List Kf}{env env':Env}{H H':Qd}{Q:QI}(n:Nat)(h:Qit tyX h0 N n (.code c) k env H=some (c',k',env',H'))(g:Hd prog h0 N c' k' env' H' Q):TC prog h0 N c env H (kq prog h0 N k Q):=QcB Qeu n h g
theorem Go{h0 N:Nat}{k:List Kf}{all:Array Oper}{l:List Oper}{c':Cf}{k':List Kf}{env env':Env}{H H':Qd}{Q:QI}(n:Nat)(h:Qit tyX h0 N n (.ops all l) k env H=some (c',k',env',H'))(g:Hd prog h0 N c' k' env' H' Q):WO prog h0 N all l env H (kq prog h0 N k Q):=QcB Qeu n h g
theorem Gx{h0 N:Nat}{k:List Kf}{x:AEx}{c':Cf}{k':List Kf}{env env':Env}{H H':Qd}{Q:QI}(n:Nat)(h:Qit tyX h0 N n (.out x) k env H=some (c',k',env',H'))(g:Hd prog h0 N c' k' env' H' Q):kq prog h0 N k Q x env H:=QcB Qeu n h g
theorem D{N m:Nat}{l r r':List Oper}{ds:List Nat}{env:Env}{H:Qd}{K:List Oper->Env->Qd->Prop}{xs xs':List A}(n:Nat)(h:Qhj tyX N m l ds env H n xs.length r xs=some (r',xs'))(k:DS prog N m l ds env H K r' xs'):DS prog N m l ds env H K r xs:=QeB Qeu n _ rfl h k
def tyZ:TyZ:={sl:=[(91,125,3),(22,96,2),(23,123,4),(24,94,5),(25,127,2),(26,152,4),(27,154,3),(28,160,4),(92,168,3),(118,5,1),(48,3,1),(29,132,8),(128,130,4),(221,260,1),(182,184,4),(34,81,57),(38,50,8),(42,59,2),(150,9,1)],fn:=[87,206,151,90,88,92,94,96,98,89,91,93,95,97,153,208,152,100,109,159,211,158,105,161,212,160,112,101,99,155,209,154,102,157,210,156,104,103,124,173,123,114,163,213,162,106,165,214,164,117,167,215,166,107,169,216,168,120,108,110,111,57,113,115,116,118,119,122,250,217,170,239,171,240,219,218,121,125,126,59,58,53,54,55,56,144,145,146,147,148,83,49,67,200,203,202,201,205,149,85,41,40,50,51,61,60,33,26,27,34,13,38,37,69,68,43,19,29,30,15,23,31,52,32,70,71,139,72,73,74,75,140,76,142,77,141,199,143,78,79,80,81,44,45,46,47,48,132,182,180,179,177,178,184,183,176,181,185,130,131,244,245,246,247,230,229,62,188,187,186,135,63,25,35,36,14,42,10,11,12,16,17,18]}
theorem Qet:Qc2 prog tyZ:=
  ⟨yc ⟨runUnderlying91,sizeOf125⟩ (yc ⟨runUnderlying22,sizeOf96⟩ (yc ⟨runUnderlying23,sizeOf123⟩ (yc ⟨runUnderlying24,sizeOf94⟩ (yc ⟨runUnderlying25,sizeOf127⟩ (yc ⟨runUnderlying26,sizeOf152⟩ (yc ⟨runUnderlying27,sizeOf154⟩ (yc ⟨runUnderlying28,sizeOf160⟩ (yc ⟨runUnderlying92,sizeOf168⟩ (yc ⟨runUnderlying118,sizeOf5⟩ (yc ⟨runUnderlying48,sizeOf3⟩ (yc ⟨runUnderlying29,sizeOf132⟩ (yc ⟨runUnderlying128,sizeOf130⟩ (yc ⟨runUnderlying221,sizeOf260⟩ (yc ⟨runUnderlying182,sizeOf184⟩ (yc ⟨runUnderlying34,sizeOf81⟩ (yc ⟨runUnderlying38,sizeOf50⟩ (yc ⟨runUnderlying42,sizeOf59⟩ (yc ⟨runUnderlying150,sizeOf9⟩ (List.forall_mem_nil _))))))))))))))))))),
   yc call87 (yc call206 (yc call151 (yc call90 (yc call88 (yc call92 (yc call94 (yc call96 (yc call98 (yc call89 (yc call91 (yc call93 (yc call95 (yc call97 (yc call153 (yc call208 (yc call152 (yc call100 (yc call109 (yc call159 (yc call211 (yc call158 (yc call105 (yc call161 (yc call212 (yc call160 (yc call112 (yc call101 (yc call99 (yc call155 (yc call209 (yc call154 (yc call102 (yc call157 (yc call210 (yc call156 (yc call104 (yc call103 (yc call124 (yc call173 (yc call123 (yc call114 (yc call163 (yc call213 (yc call162 (yc call106 (yc call165 (yc call214 (yc call164 (yc call117 (yc call167 (yc call215 (yc call166 (yc call107 (yc call169 (yc call216 (yc call168 (yc call120 (yc call108 (yc call110 (yc call111 (yc call57 (yc call113 (yc call115 (yc call116 (yc call118 (yc call119 (yc call122 (yc call250 (yc call217 (yc call170 (yc call239 (yc call171 (yc call240 (yc call219 (yc call218 (yc call121 (yc call125 (yc call126 (yc call59 (yc call58 (yc call53 (yc call54 (yc call55 (yc call56 (yc call144 (yc call145 (yc call146 (yc call147 (yc call148 (yc call83 (yc call49 (yc call67 (yc call200 (yc call203 (yc call202 (yc call201 (yc call205 (yc call149 (yc call85 (yc call41 (yc call40 (yc call50 (yc call51 (yc call61 (yc call60 (yc call33 (yc call26 (yc call27 (yc call34 (yc call13 (yc call38 (yc call37 (yc call69 (yc call68 (yc call43 (yc call19 (yc call29 (yc call30 (yc call15 (yc call23 (yc call31 (yc call52 (yc call32 (yc call70 (yc call71 (yc call139 (yc call72 (yc call73 (yc call74 (yc call75 (yc call140 (yc call76 (yc call142 (yc call77 (yc call141 (yc call199 (yc call143 (yc call78 (yc call79 (yc call80 (yc call81 (yc call44 (yc call45 (yc call46 (yc call47 (yc call48 (yc call132 (yc call182 (yc call180 (yc call179 (yc call177 (yc call178 (yc call184 (yc call183 (yc call176 (yc call181 (yc call185 (yc call130 (yc call131 (yc call244 (yc call245 (yc call246 (yc call247 (yc call230 (yc call229 (yc call62 (yc call188 (yc call187 (yc call186 (yc call135 (yc call63 (yc call25 (yc call35 (yc call36 (yc call14 (yc call42 (yc call10 (yc call11 (yc call12 (yc call16 (yc call17 (yc call18 (List.forall_mem_nil _)))))))))))))))))))))))))))))))))))))))))))))))))))))))))))))))))))))))))))))))))))))))))))))))))))))))))))))))))))))))))))))))))))))))))))))))))))))))))))))))))))))))))))))))))))))))⟩
theorem Iz{h0 N:Nat}{all:Array Oper}{o:Oper}{l:List Oper}{env:Env}{H:Qd}{Q:QI}{d:Nat}{α:Type}{e:α->List A}{t et k:Nat}{L:List α}{kk:IntKind}{i:Int}{v:α}(h:idx L i=some v)(q:ixB o env=some (d,t,k,L.map e,kk,i))(g:WO prog h0 N all l (up env d (.rp (e v))) H Q)(ht:Qb6 tyZ.sl t=some (et,k):=by exact rfl)(hg:Y9 all o env=some true:=by exact rfl)(hN:Nat.blt d N=true:=by exact rfl):WO prog h0 N all (o::l) env H Q:=Izz Qet h q g ht hg hN
theorem IzE{h0 N:Nat}{all:Array Oper}{o:Oper}{l:List Oper}{env:Env}{H:Qd}{Q:QI}{d:Nat}{α:Type}{e:α->List A}{t et k:Nat}{L:List α}{kk:IntKind}{i:Int}{v:α}{cs:List A}(h:idx L i=some v)(he:e v=cs)(q:ixB o env=some (d,t,k,L.map e,kk,i))(g:WO prog h0 N all l (up env d (.rp cs)) H Q)(ht:Qb6 tyZ.sl t=some (et,k):=by exact rfl)(hg:Y9 all o env=some true:=by exact rfl)(hN:Nat.blt d N=true:=by exact rfl):WO prog h0 N all (o::l) env H Q:=Ize Qet h he q g ht hg hN
theorem Lm{h0 N:Nat}{all:Array Oper}{o:Oper}{l:List Oper}{env:Env}{H:Qd}{Q:QI}{d:Nat}{α:Type}{e:α->List A}{t et k k':Nat}{L:List α}(q:lnB o env=some (d,t,.mk (.rsl k (L.map e))))(g:WO prog h0 N all l (up env d (I L.length)) H Q)(ht:Qb6 tyZ.sl t=some (et,k'):=by exact rfl)(hg:Y9 all o env=some true:=by exact rfl)(hN:Nat.blt d N=true:=by exact rfl):WO prog h0 N all (o::l) env H Q:=Lmz Qet q g ht hg hN
theorem Cz{h0 N:Nat}{all:Array Oper}{o:Oper}{l:List Oper}{env:Env}{H:Qd}{Q:QI}{d:Nat}{β γ:Type}{F:Option β}{F':β->Option γ}{r:γ}{f:Nat}{args argsc:List A}{w:β->A}{Hc:Qd}(π:List Nat)(h:F.bind F'=some r)(hC:∀v,F=some v->C prog f argsc Hc (RQ w (fun _=>Hc) v))(hop:QfE tyZ o env=some (d,f,args))(g:∀v,F=some v->F' v=some r->WO prog h0 N all l (up env d (w v)) H Q)(hv:∀v,Qir (w v)=some (.mk (w v)):=by exact fun _=>rfl)(hargs:args=Qad (rho π H.length) argsc:=by exact rfl)(hH:π.map (fun p=>H[p]?)=(Hc.map (Yc (rho π H.length))).map some:=by exact rfl)(hπ:π.Nodup:=by decide)(hg:Y9 all o env=some true:=by exact rfl)(hN:Nat.blt d N=true:=by exact rfl)(hh:Nat.ble h0 H.length=true:=by exact rfl):WO prog h0 N all (o::l) env H Q:=Czz Qet π h hC hop g hv hargs hH hπ hg hN hh
theorem Cb{h0 N:Nat}{all:Array Oper}{o:Oper}{l:List Oper}{env:Env}{H:Qd}{Q:QI}{d:Nat}{β γ:Type}{F:Option β}{F':β->Option γ}{r:γ}{f:Nat}{args argsc:List A}{w:β->A}(h:F.bind F'=some r)(hC:∀v,F=some v->C prog f argsc [] (RQ w (fun _=>[]) v))(hop:QfE tyZ o env=some (d,f,args))(hL:Qbi H args argsc)(g:∀v,F=some v->F' v=some r->WO prog h0 N all l (up env d (w v)) H Q)(hv:∀v,Yk (w v)=true:=by exact fun _=>rfl)(hg:Y9 all o env=some true:=by exact rfl)(hN:Nat.blt d N=true:=by exact rfl):WO prog h0 N all (o::l) env H Q:=Cbz Qet h hC hop hL g hv hg hN
theorem Dz{N m:Nat}{o:Oper}{l ll:List Oper}{ds:List Nat}{xs:List A}{env:Env}{H:Qd}{K:List Oper->Env->Qd->Prop}{d:Nat}{β γ:Type}{F:Option β}{F':β->Option γ}{r:γ}{f:Nat}{args argsc:List A}{w:β->A}{Hc:Qd}(π:List Nat)(h:F.bind F'=some r)(hC:∀v,F=some v->C prog f argsc Hc (RQ w (fun _=>Hc) v))(hop:QfE tyZ o (YL (Qk o) 0 ds xs env)=some (d,f,args))(g:∀v,F=some v->F' v=some r->DS prog N m ll ds env H K l (xs++[w v]))(hv:∀v,Qir (w v)=some (.mk (w v)):=by exact fun _=>rfl)(hargs:args=Qad (rho π H.length) argsc:=by exact rfl)(hH:π.map (fun p=>H[p]?)=(Hc.map (Yc (rho π H.length))).map some:=by exact rfl)(hπ:π.Nodup:=by decide)(hg:Y9 ll.toArray o (YL (Qk o) 0 ds xs env)=some true:=by exact rfl)(hN:Nat.blt d N=true:=by exact rfl)(hx:Nat.blt xs.length m=true:=by exact rfl):DS prog N m ll ds env H K (o::l) xs:=DzZ Qet π h hC hop g hv hargs hH hπ hg hN hx
theorem DSs{h0 N id:Nat}{l:List Oper}{env:Env}{H:Qd}{Q:QI}(m:Nat)(hc:Go.Sw.draw0 l m N (QcY m 0 l)=true)(h:DS prog N m l (QcY m 0 l) env H (fun r e H=>WO prog h0 N l.toArray r e H Q) l [])(h0B:Nat.ble h0 H.length=true:=by exact rfl):TC prog h0 N (.region id l.toArray true) env H Q:=QmF (k:=[]) m draws hc h0B h
theorem Da{N m:Nat}{cat:List Nat}{l r r':List Oper}{ds:List Nat}{env:Env}{H:Qd}{K:List Oper->Env->Qd->Prop}{xs xs':List A}(n:Nat)(h:Qhk tyX N m cat l ds env H n xs.length r xs=some (r',xs'))(k:DA prog N m cat l ds env H K r' xs'):DA prog N m cat l ds env H K r xs:=QeD Qeu n _ rfl h k
theorem Db{N m:Nat}{cat:List Nat}{l r r':List Oper}{ds:List Nat}{env:Env}{H H1:Qd}{K:List Oper->Env->Qd->Prop}{xs xs':List A}(n:Nat)(h:QeC tyX N cat l ds env H1 n xs.length r xs=some (r',xs'))(k:DB prog N m cat l ds env H H1 K r' xs'):DB prog N m cat l ds env H H1 K r xs:=QbA Qeu n _ rfl h k
theorem DAs{h0 N id:Nat}{l:List Oper}{env:Env}{H:Qd}{Q:QI}(m b:Nat)(cat:List Nat)(hc:Qf7 l m N (QcY m 0 l) (hsC cat) (rqC b cat) [[],[b]] (plC cat)=true)(h:DA prog N m cat l (QcY m 0 l) env H (fun r e H=>WO prog h0 N l.toArray r e H Q) l [])(hcl:Nat.beq cat.length m=true:=by exact rfl)(h0B:Nat.ble h0 H.length=true:=by exact rfl):TC prog h0 N (.region id l.toArray true) env H Q:=QmG m b cat draws hc hcl h0B h
theorem Cd{h0 N:Nat}{all:Array Oper}{o:Oper}{l:List Oper}{env:Env}{H:Qd}{Q:QI}{d:Nat}{β γ:Type}{F:Option β}{F':β->Option γ}{r:γ}{f:Nat}{args argsc:List A}{w:β->A}{Hc:Qd}{Hr:β->Qd}(π:List Nat)(h:F.bind F'=some r)(hC:∀v,F=some v->C prog f argsc Hc (RQ w Hr v))(hop:QfE tyZ o env=some (d,f,args))(g:∀v,F=some v->F' v=some r->WO prog h0 N all l (up env d (Yz (rho π H.length) (w v))) (Yn H π ((Hr v).map (Yc (rho π H.length)))) Q)(hargs:args=Qad (rho π H.length) argsc:=by exact rfl)(hH:π.map (fun p=>H[p]?)=(Hc.map (Yc (rho π H.length))).map some:=by exact rfl)(hπ:π.Nodup:=by decide)(hg:Y9 all o env=some true:=by exact rfl)(hN:Nat.blt d N=true:=by exact rfl)(hh:Nat.ble h0 H.length=true:=by exact rfl):WO prog h0 N all (o::l) env H Q:=Cdz Qet π h hC hop g hargs hH hπ hg hN hh
theorem v0{N:Nat}{l:List Oper}{ds:List Nat}{xs:List A}{env0:Env}{hB hE i:Nat}{H:Qd}{x:A}(hx:xs[i]?=some x)(h:Qjr tyT N l ds xs env0 H i=some x):Qai prog N l ds xs env0 hB hE i H H:=vQ tyOK hx h
theorem ov{N:Nat}{l:List Oper}{ds:List Nat}{xs:List A}{env0:Env}{i c:Nat}{H:Qd}{x:A}(k:Oq prog N l ds xs env0 H (i+1) c)(hx:xs[i]?=some x:=by exact rfl)(h:Qjr tyT N l ds xs env0 H i=some x:=by exact rfl):Oq prog N l ds xs env0 H i (c+1):=.c (vQ tyOK hx h) k
def lay_contains_207_ren:Go.Shelf.Ren:=⟨fun|144=>207|143=>238|219=>249|217=>252|225=>253|224=>254|267=>255|266=>256|314=>257|n=>n,fun|9=>9|4=>4|3=>3|5=>5|46=>230|146=>329|51=>279|n=>n,fun|1=>11|n=>n⟩
theorem Qdr:Go.Proofs.Lays.n144 prog lay_contains_207_ren:={
  mixed:=by kernel_rfl
  f143:=func238.trans (congrArg some (by kernel_rfl))
  f144:=func207.trans (congrArg some (by kernel_rfl))
  f217:=func252.trans (congrArg some (by kernel_rfl))
  f219:=func249.trans (congrArg some (by kernel_rfl))
  f224:=func254.trans (congrArg some (by kernel_rfl))
  f225:=func253.trans (congrArg some (by kernel_rfl))
  f266:=func256.trans (congrArg some (by kernel_rfl))
  f267:=func255.trans (congrArg some (by kernel_rfl))
  f314:=func257.trans (congrArg some (by kernel_rfl))
  t3:=underlying3
  a3:=isAgg3
  z3:=sizeOf3
  v3:=zeroValue3
  t4:=underlying4
  a4:=isAgg4
  z4:=sizeOf4
  v4:=zeroValue4
  t5:=underlying5
  a5:=isAgg5
  z5:=sizeOf5
  v5:=zeroValue5
  t9:=underlying9
  a9:=isAgg9
  z9:=sizeOf9
  v9:=zeroValue9
  t46:=underlying230
  a46:=isAgg230
  z46:=sizeOf230
  v46:=zeroValue230
  t51:=underlying279
  a51:=isAgg279
  z51:=sizeOf279
  v51:=zeroValue279
  t146:=underlying329
  a146:=isAgg329
  z146:=sizeOf329
  v146:=zeroValue329
  g1:=by kernel_rfl}
def lay_sortI_128_ren:Go.Shelf.Ren:=⟨fun|189=>128|125=>138|257=>175|128=>197|129=>198|294=>220|295=>221|296=>222|297=>223|298=>224|299=>225|216=>226|300=>227|301=>228|328=>241|329=>233|330=>234|331=>242|332=>243|215=>67|343=>251|n=>n,fun|28=>48|3=>3|46=>230|0=>0|51=>279|53=>281|4=>4|183=>273|182=>272|131=>53|5=>5|9=>9|218=>309|222=>175|228=>323|229=>161|n=>n,fun|n=>n⟩
theorem Qfz:Go.Proofs.Lays.n189 prog lay_sortI_128_ren:={
  mixed:=by kernel_rfl
  f125:=func138.trans (congrArg some (by kernel_rfl))
  f128:=func197.trans (congrArg some (by kernel_rfl))
  f129:=func198.trans (congrArg some (by kernel_rfl))
  f189:=func128.trans (congrArg some (by kernel_rfl))
  f215:=func67.trans (congrArg some (by kernel_rfl))
  f216:=func226.trans (congrArg some (by kernel_rfl))
  f257:=func175.trans (congrArg some (by kernel_rfl))
  f294:=func220.trans (congrArg some (by kernel_rfl))
  f295:=func221.trans (congrArg some (by kernel_rfl))
  f296:=func222.trans (congrArg some (by kernel_rfl))
  f297:=func223.trans (congrArg some (by kernel_rfl))
  f298:=func224.trans (congrArg some (by kernel_rfl))
  f299:=func225.trans (congrArg some (by kernel_rfl))
  f300:=func227.trans (congrArg some (by kernel_rfl))
  f301:=func228.trans (congrArg some (by kernel_rfl))
  f328:=func241.trans (congrArg some (by kernel_rfl))
  f329:=func233.trans (congrArg some (by kernel_rfl))
  f330:=func234.trans (congrArg some (by kernel_rfl))
  f331:=func242.trans (congrArg some (by kernel_rfl))
  f332:=func243.trans (congrArg some (by kernel_rfl))
  f343:=func251.trans (congrArg some (by kernel_rfl))
  t0:=underlying0
  a0:=isAgg0
  z0:=sizeOf0
  v0:=zeroValue0
  t3:=underlying3
  a3:=isAgg3
  z3:=sizeOf3
  v3:=zeroValue3
  t4:=underlying4
  a4:=isAgg4
  z4:=sizeOf4
  v4:=zeroValue4
  t5:=underlying5
  a5:=isAgg5
  z5:=sizeOf5
  v5:=zeroValue5
  t9:=underlying9
  a9:=isAgg9
  z9:=sizeOf9
  v9:=zeroValue9
  t28:=underlying48
  a28:=isAgg48
  z28:=sizeOf48
  v28:=zeroValue48
  t46:=underlying230
  a46:=isAgg230
  z46:=sizeOf230
  v46:=zeroValue230
  t51:=underlying279
  a51:=isAgg279
  z51:=sizeOf279
  v51:=zeroValue279
  t53:=underlying281
  a53:=isAgg281
  z53:=sizeOf281
  v53:=zeroValue281
  t131:=underlying53
  a131:=isAgg53
  z131:=sizeOf53
  v131:=zeroValue53
  t182:=underlying272
  a182:=isAgg272
  z182:=sizeOf272
  v182:=zeroValue272
  t183:=underlying273
  a183:=isAgg273
  z183:=sizeOf273
  v183:=zeroValue273
  t218:=underlying309
  a218:=isAgg309
  z218:=sizeOf309
  v218:=zeroValue309
  t222:=underlying175
  a222:=isAgg175
  z222:=sizeOf175
  v222:=zeroValue175
  t228:=underlying323
  a228:=isAgg323
  z228:=sizeOf323
  v228:=zeroValue323
  t229:=underlying161
  a229:=isAgg161
  z229:=sizeOf161
  v229:=zeroValue161}
def lay_sortK_65_ren:Go.Shelf.Ren:=⟨fun|6=>65|15=>138|14=>137|28=>197|29=>198|20=>189|21=>190|22=>191|23=>192|24=>193|25=>194|26=>195|27=>196|46=>232|47=>233|48=>234|49=>235|50=>236|57=>248|n=>n,fun|22=>42|24=>59|25=>110|3=>3|39=>230|0=>0|53=>279|55=>281|4=>4|46=>273|45=>272|50=>53|5=>5|9=>9|66=>309|70=>175|76=>323|77=>161|n=>n,fun|n=>n⟩
theorem QgA:Go.Proofs.SlLaysF0.n6 prog lay_sortK_65_ren:={
  mixed:=by kernel_rfl
  f6:=⟨f65.name,by decide,func65.trans (congrArg some (by kernel_rfl))⟩
  f14:=⟨f137.name,by decide,func137.trans (congrArg some (by kernel_rfl))⟩
  f15:=func138.trans (congrArg some (by kernel_rfl))
  f20:=⟨f189.name,by decide,func189.trans (congrArg some (by kernel_rfl))⟩
  f21:=⟨f190.name,by decide,func190.trans (congrArg some (by kernel_rfl))⟩
  f22:=⟨f191.name,by decide,func191.trans (congrArg some (by kernel_rfl))⟩
  f23:=⟨f192.name,by decide,func192.trans (congrArg some (by kernel_rfl))⟩
  f24:=⟨f193.name,by decide,func193.trans (congrArg some (by kernel_rfl))⟩
  f25:=⟨f194.name,by decide,func194.trans (congrArg some (by kernel_rfl))⟩
  f26:=⟨f195.name,by decide,func195.trans (congrArg some (by kernel_rfl))⟩
  f27:=⟨f196.name,by decide,func196.trans (congrArg some (by kernel_rfl))⟩
  f28:=func197.trans (congrArg some (by kernel_rfl))
  f29:=func198.trans (congrArg some (by kernel_rfl))
  f46:=⟨f232.name,by decide,func232.trans (congrArg some (by kernel_rfl))⟩
  f47:=func233.trans (congrArg some (by kernel_rfl))
  f48:=func234.trans (congrArg some (by kernel_rfl))
  f49:=⟨f235.name,by decide,func235.trans (congrArg some (by kernel_rfl))⟩
  f50:=⟨f236.name,by decide,func236.trans (congrArg some (by kernel_rfl))⟩
  f57:=⟨f248.name,by decide,func248.trans (congrArg some (by kernel_rfl))⟩
  t0:=underlying0
  a0:=isAgg0
  z0:=sizeOf0
  v0:=zeroValue0
  t3:=underlying3
  a3:=isAgg3
  z3:=sizeOf3
  v3:=zeroValue3
  t4:=underlying4
  a4:=isAgg4
  z4:=sizeOf4
  v4:=zeroValue4
  t5:=underlying5
  a5:=isAgg5
  z5:=sizeOf5
  v5:=zeroValue5
  t9:=underlying9
  a9:=isAgg9
  z9:=sizeOf9
  v9:=zeroValue9
  t22:=underlying42
  a22:=isAgg42
  z22:=sizeOf42
  v22:=zeroValue42
  t25:=underlying110
  a25:=isAgg110
  z25:=sizeOf110
  v25:=zeroValue110
  t39:=underlying230
  a39:=isAgg230
  z39:=sizeOf230
  v39:=zeroValue230
  t45:=underlying272
  a45:=isAgg272
  z45:=sizeOf272
  v45:=zeroValue272
  t46:=underlying273
  a46:=isAgg273
  z46:=sizeOf273
  v46:=zeroValue273
  t50:=underlying53
  a50:=isAgg53
  z50:=sizeOf53
  v50:=zeroValue53
  t53:=underlying279
  a53:=isAgg279
  z53:=sizeOf279
  v53:=zeroValue279
  t55:=underlying281
  a55:=isAgg281
  z55:=sizeOf281
  v55:=zeroValue281
  t66:=underlying309
  a66:=isAgg309
  z66:=sizeOf309
  v66:=zeroValue309
  t70:=underlying175
  a70:=isAgg175
  z70:=sizeOf175
  v70:=zeroValue175
  t76:=underlying323
  a76:=isAgg323
  z76:=sizeOf323
  v76:=zeroValue323
  t77:=underlying161
  a77:=isAgg161
  z77:=sizeOf161
  v77:=zeroValue161}
end Go.Sw
