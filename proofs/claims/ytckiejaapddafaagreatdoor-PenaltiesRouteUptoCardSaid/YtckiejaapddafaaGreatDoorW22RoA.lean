/- The types of PenaltiesRoute and facts on them. -/
import Derived.Test.YtckiejaapddafaaGreatDoorL3
import Derived.Test.YtckiejaapddafaaGreatDoorProg
set_option linter.unusedVariables false
set_option linter.unusedSimpArgs false
set_option maxRecDepth 100000
set_option maxHeartbeats 4000000
namespace Go.Sw
open Go.Proofs Tryz
theorem draws:prog.follows .mixedOrders=true:=by rfl
structure Faults where
  Misses:Int
  Strays:Int
  Window:Int
  Residual:Int
  Drift:Int
  deriving DecidableEq
def Faults.c(x:Faults):List Go.Sw.A:=[I x.Misses,I x.Strays,I x.Window,I x.Residual,I x.Drift]
structure Mat where
  Name:List UInt8
  Kind:Int
  deriving DecidableEq
def Mat.c(x:Mat):List Go.Sw.A:=[.str x.Name,I x.Kind]
structure Leg where
  From:Int
  To:Int
  Min:Int
  Max:Int
  deriving DecidableEq
def Leg.c(x:Leg):List Go.Sw.A:=[I x.From,I x.To,I x.Min,I x.Max]
structure Part where
  Mat:Int
  Laps:Int
  Parts:List Part
mutual
def Part.enc:Part->List A
  |⟨x0,x1,x2⟩=>[I x0,I x1,.rsl 3 (Part.encs x2)]
def Part.encs:List Part->List (List A)
  |[]=>[]
  |x::l=>Part.enc x::Part.encs l
end
theorem Qdq(l:List Part):Part.encs l=List.map Part.enc l:=by induction l with|nil=>simp[Part.encs]|cons x l h=>simp[Part.encs,h]
def Part.c(x:Part):List Go.Sw.A:=[I x.Mat,I x.Laps,.rsl 3 (List.map Part.enc x.Parts)]
theorem YK(x:Part):Part.enc x=Part.c x:=by cases x;simp[Part.enc,Part.c,Qdq]
structure Cutoff where
  Mat:Int
  Lap:Int
  Limit:Int
  deriving DecidableEq
def Cutoff.c(x:Cutoff):List Go.Sw.A:=[I x.Mat,I x.Lap,I x.Limit]
structure Distance where
  Name:List UInt8
  Route:List Part
  Timing:Int
  Cutoffs:List Cutoff
  Extra:Int
def Distance.c(x:Distance):List Go.Sw.A:=[.str x.Name,.rsl 3 (List.map Part.enc x.Route),I x.Timing,.rsl 3 (List.map Cutoff.c x.Cutoffs),I x.Extra]
structure Wave where
  Name:List UInt8
  Gun:Int
  deriving DecidableEq
def Wave.c(x:Wave):List Go.Sw.A:=[.str x.Name,I x.Gun]
structure Offence where
  Name:List UInt8
  Time:Int
  Laps:Int
  Out:Bool
  deriving DecidableEq
def Offence.c(x:Offence):List Go.Sw.A:=[.str x.Name,I x.Time,I x.Laps,.bool x.Out]
structure Category where
  Name:List UInt8
  From:Int
  To:Int
  deriving DecidableEq
def Category.c(x:Category):List Go.Sw.A:=[.str x.Name,I x.From,I x.To]
structure Prize where
  Distance:Int
  Category:Int
  Rank:Int
  Amount:Int
  deriving DecidableEq
def Prize.c(x:Prize):List Go.Sw.A:=[I x.Distance,I x.Category,I x.Rank,I x.Amount]
structure Cond where
  Kind:Int
  Var:Int
  N:Int
  Parts:List Cond
mutual
def Cond.enc:Cond->List A
  |⟨x0,x1,x2,x3⟩=>[I x0,I x1,I x2,.rsl 4 (Cond.encs x3)]
def Cond.encs:List Cond->List (List A)
  |[]=>[]
  |x::l=>Cond.enc x::Cond.encs l
end
theorem Qdt(l:List Cond):Cond.encs l=List.map Cond.enc l:=by induction l with|nil=>simp[Cond.encs]|cons x l h=>simp[Cond.encs,h]
def Cond.c(x:Cond):List Go.Sw.A:=[I x.Kind,I x.Var,I x.N,.rsl 4 (List.map Cond.enc x.Parts)]
theorem Qa7(x:Cond):Cond.enc x=Cond.c x:=by cases x;simp[Cond.enc,Cond.c,Qdt]
structure Step where
  Kind:Int
  By:Int
  Cond:Cond
  Then:List Step
  Else:List Step
mutual
def Step.enc:Step->List A
  |⟨x0,x1,x2,x3,x4⟩=>[I x0,I x1,I x2.Kind,I x2.Var,I x2.N,.rsl 4 (List.map Cond.enc x2.Parts),.rsl 8 (Step.encs x3),.rsl 8 (Step.encs x4)]
def Step.encs:List Step->List (List A)
  |[]=>[]
  |x::l=>Step.enc x::Step.encs l
end
theorem Qdk(l:List Step):Step.encs l=List.map Step.enc l:=by induction l with|nil=>simp[Step.encs]|cons x l h=>simp[Step.encs,h]
def Step.c(x:Step):List Go.Sw.A:=[I x.Kind,I x.By,I x.Cond.Kind,I x.Cond.Var,I x.Cond.N,.rsl 4 (List.map Cond.enc x.Cond.Parts),.rsl 8 (List.map Step.enc x.Then),.rsl 8 (List.map Step.enc x.Else)]
theorem YS(x:Step):Step.enc x=Step.c x:=by cases x;simp[Step.enc,Step.c,Qdk]
structure Course where
  Name:List UInt8
  Mats:List Mat
  Legs:List Leg
  Distances:List Distance
  Waves:List Wave
  Offences:List Offence
  Categories:List Category
  Prizes:List Prize
  Ties:List Step
  Faults:Faults
  Fee:Int
  Deadline:Int
def Course.c(x:Course):List Go.Sw.A:=[.str x.Name,.rsl 2 (List.map Mat.c x.Mats),.rsl 4 (List.map Leg.c x.Legs),.rsl 5 (List.map Distance.c x.Distances),.rsl 2 (List.map Wave.c x.Waves),.rsl 4 (List.map Offence.c x.Offences),.rsl 3 (List.map Category.c x.Categories),.rsl 4 (List.map Prize.c x.Prizes),.rsl 8 (List.map Step.enc x.Ties),I x.Faults.Misses,I x.Faults.Strays,I x.Faults.Window,I x.Faults.Residual,I x.Faults.Drift,I x.Fee,I x.Deadline]
structure Starter where
  Bib:Int
  Distance:Int
  Wave:Int
  Slot:Int
  Age:Int
  Chip:Int
  Team:Int
  Lot:Int
  deriving DecidableEq
def Starter.c(x:Starter):List Go.Sw.A:=[I x.Bib,I x.Distance,I x.Wave,I x.Slot,I x.Age,I x.Chip,I x.Team,I x.Lot]
structure Read where
  Mat:Int
  Epoch:Int
  Chip:Int
  Local:Int
  deriving DecidableEq
def Read.c(x:Read):List Go.Sw.A:=[I x.Mat,I x.Epoch,I x.Chip,I x.Local]
structure Beacon where
  Mat:Int
  Epoch:Int
  Local:Int
  True:Int
  Err:Int
  deriving DecidableEq
def Beacon.c(x:Beacon):List Go.Sw.A:=[I x.Mat,I x.Epoch,I x.Local,I x.True,I x.Err]
structure Sync where
  MatA:Int
  EpochA:Int
  LocalA:Int
  MatB:Int
  EpochB:Int
  LocalB:Int
  Min:Int
  Max:Int
  deriving DecidableEq
def Sync.c(x:Sync):List Go.Sw.A:=[I x.MatA,I x.EpochA,I x.LocalA,I x.MatB,I x.EpochB,I x.LocalB,I x.Min,I x.Max]
structure Hand where
  Bib:Int
  Position:Int
  Lo:Int
  Hi:Int
  deriving DecidableEq
def Hand.c(x:Hand):List Go.Sw.A:=[I x.Bib,I x.Position,I x.Lo,I x.Hi]
structure Silence where
  Mat:Int
  Epoch:Int
  Lo:Int
  Hi:Int
  deriving DecidableEq
def Silence.c(x:Silence):List Go.Sw.A:=[I x.Mat,I x.Epoch,I x.Lo,I x.Hi]
structure Pair where
  A:Int
  B:Int
  deriving DecidableEq
def Pair.c(x:Pair):List Go.Sw.A:=[I x.A,I x.B]
structure Report where
  Case:Int
  Bib:Int
  Offence:Int
  Position:Int
  deriving DecidableEq
def Report.c(x:Report):List Go.Sw.A:=[I x.Case,I x.Bib,I x.Offence,I x.Position]
structure Protest where
  Case:Int
  By:Int
  Fee:Int
  Form:Int
  deriving DecidableEq
def Protest.c(x:Protest):List Go.Sw.A:=[I x.Case,I x.By,I x.Fee,I x.Form]
structure Ruling where
  Case:Int
  Instance:Int
  Kind:Int
  Bib:Int
  Position:Int
  Amount:Int
  deriving DecidableEq
def Ruling.c(x:Ruling):List Go.Sw.A:=[I x.Case,I x.Instance,I x.Kind,I x.Bib,I x.Position,I x.Amount]
structure Appeal where
  Case:Int
  Suspends:Bool
  deriving DecidableEq
def Appeal.c(x:Appeal):List Go.Sw.A:=[I x.Case,.bool x.Suspends]
structure Ref where
  Crew:Int
  No:Int
  deriving DecidableEq
def Ref.c(x:Ref):List Go.Sw.A:=[I x.Crew,I x.No]
structure Fact where
  Crew:Int
  No:Int
  At:Int
  Kind:Int
  Starter:Starter
  Read:Read
  Beacon:Beacon
  Sync:Sync
  Hand:Hand
  Silence:Silence
  Pair:Pair
  Report:Report
  Protest:Protest
  Ruling:Ruling
  Appeal:Appeal
  Void:Ref
  deriving DecidableEq
def Fact.c(x:Fact):List Go.Sw.A:=[I x.Crew,I x.No,I x.At,I x.Kind,I x.Starter.Bib,I x.Starter.Distance,I x.Starter.Wave,I x.Starter.Slot,I x.Starter.Age,I x.Starter.Chip,I x.Starter.Team,I x.Starter.Lot,I x.Read.Mat,I x.Read.Epoch,I x.Read.Chip,I x.Read.Local,I x.Beacon.Mat,I x.Beacon.Epoch,I x.Beacon.Local,I x.Beacon.True,I x.Beacon.Err,I x.Sync.MatA,I x.Sync.EpochA,I x.Sync.LocalA,I x.Sync.MatB,I x.Sync.EpochB,I x.Sync.LocalB,I x.Sync.Min,I x.Sync.Max,I x.Hand.Bib,I x.Hand.Position,I x.Hand.Lo,I x.Hand.Hi,I x.Silence.Mat,I x.Silence.Epoch,I x.Silence.Lo,I x.Silence.Hi,I x.Pair.A,I x.Pair.B,I x.Report.Case,I x.Report.Bib,I x.Report.Offence,I x.Report.Position,I x.Protest.Case,I x.Protest.By,I x.Protest.Fee,I x.Protest.Form,I x.Ruling.Case,I x.Ruling.Instance,I x.Ruling.Kind,I x.Ruling.Bib,I x.Ruling.Position,I x.Ruling.Amount,I x.Appeal.Case,.bool x.Appeal.Suspends,I x.Void.Crew,I x.Void.No]
abbrev Um:Cond:={Kind:=0,Var:=0,N:=0,Parts:=[]}
abbrev UA:Step:={Kind:=0,By:=0,Cond:=Um,Then:=[],Else:=[]}
abbrev Us:Part:={Mat:=0,Laps:=0,Parts:=[]}
abbrev Uo:Distance:={Name:=[],Route:=[],Timing:=0,Cutoffs:=[],Extra:=0}
abbrev Uz:Starter:={Bib:=0,Distance:=0,Wave:=0,Slot:=0,Age:=0,Chip:=0,Team:=0,Lot:=0}
abbrev Uv:Read:={Mat:=0,Epoch:=0,Chip:=0,Local:=0}
abbrev Ul:Beacon:={Mat:=0,Epoch:=0,Local:=0,True:=0,Err:=0}
abbrev UB:Sync:={MatA:=0,EpochA:=0,LocalA:=0,MatB:=0,EpochB:=0,LocalB:=0,Min:=0,Max:=0}
abbrev Ur:Hand:={Bib:=0,Position:=0,Lo:=0,Hi:=0}
abbrev Uy:Silence:={Mat:=0,Epoch:=0,Lo:=0,Hi:=0}
abbrev Uw:Report:={Case:=0,Bib:=0,Offence:=0,Position:=0}
abbrev Uu:Protest:={Case:=0,By:=0,Fee:=0,Form:=0}
abbrev Ux:Ruling:={Case:=0,Instance:=0,Kind:=0,Bib:=0,Position:=0,Amount:=0}
abbrev Up:Fact:={Crew:=0,No:=0,At:=0,Kind:=0,Starter:=Uz,Read:=Uv,Beacon:=Ul,Sync:=UB,Hand:=Ur,Silence:=Uy,Pair:={A:=0,B:=0:Pair},Report:=Uw,Protest:=Uu,Ruling:=Ux,Appeal:={Case:=0,Suspends:=false:Appeal},Void:={Crew:=0,No:=0:Ref}}
structure Uh where
  from_:Int
  to_:Int
  deriving DecidableEq
def Uh.c(x:Uh):List Go.Sw.A:=[I x.from_,I x.to_]
structure Uj where
  distance:Int
  category:Int
  rank:Int
  deriving DecidableEq
def Uj.c(x:Uj):List Go.Sw.A:=[I x.distance,I x.category,I x.rank]
structure Uk where
  Step:Step
def Uk.c(x:Uk):List Go.Sw.A:=[I x.Step.Kind,I x.Step.By,I x.Step.Cond.Kind,I x.Step.Cond.Var,I x.Step.Cond.N,.rsl 4 (List.map Cond.enc x.Step.Cond.Parts),.rsl 8 (List.map Step.enc x.Step.Then),.rsl 8 (List.map Step.enc x.Step.Else)]
structure Uf where
  Cond:Cond
def Uf.c(x:Uf):List Go.Sw.A:=[I x.Cond.Kind,I x.Cond.Var,I x.Cond.N,.rsl 4 (List.map Cond.enc x.Cond.Parts)]
inductive Ui where
  |ctyping_step (x:Uk)
  |ctyping_cond (x:Uf)
def Ui.val:Ui->A
  |.ctyping_step x=>.iface 316 (.agg (Uk.c x))
  |.ctyping_cond x=>.iface 352 (.agg (Uf.c x))
def Ui.enc(x:Ui):List A:=[x.val]
def Ui.elim{R:Type}(e:Ui)(f0:Uk->Option R)(f1:Uf->Option R):Option R:=match e with
  |.ctyping_step x=>f0 x
  |.ctyping_cond x=>f1 x
theorem Ui.data(x:Ui):Ys x.val=true:=by cases x<;>rfl
theorem JA(e:Ui):(∃x,e=.ctyping_step x)\/(∃x,e=.ctyping_cond x):=by cases e<;>simp
theorem Jn{R:Type}{e:Ui}{x:Uk}{f0:Uk->Option R}{f1:Uf->Option R}{r:R}(hE:e=.ctyping_step x)(h:Ui.elim e f0 f1=some r):f0 x=some r:=by subst hE;exact h
theorem Jm{R:Type}{e:Ui}{x:Uf}{f0:Uk->Option R}{f1:Uf->Option R}{r:R}(hE:e=.ctyping_cond x)(h:Ui.elim e f0 f1=some r):f1 x=some r:=by subst hE;exact h
structure Ug where
  steps:Int
  conds:Int
  deriving DecidableEq
def Ug.c(x:Ug):List Go.Sw.A:=[I x.steps,I x.conds]
structure Penalty where
  Position:Int
  Time:Int
  Laps:Int
  Out:Bool
  deriving DecidableEq
def Penalty.c(x:Penalty):List Go.Sw.A:=[I x.Position,I x.Time,I x.Laps,.bool x.Out]
structure Ud where
  number:Int
  bib:Int
  penalty:Penalty
  deriving DecidableEq
def Ud.c(x:Ud):List Go.Sw.A:=[I x.number,I x.bib,I x.penalty.Position,I x.penalty.Time,I x.penalty.Laps,.bool x.penalty.Out]
structure Ub where
  least:Int
  most:Int
  deriving DecidableEq
def Ub.c(x:Ub):List Go.Sw.A:=[I x.least,I x.most]
structure Value where
  Kind:Int
  N:Int
  S:List UInt8
  L:List Value
mutual
def Value.enc:Value->List A
  |⟨x0,x1,x2,x3⟩=>[I x0,I x1,.str x2,.rsl 4 (Value.encs x3)]
def Value.encs:List Value->List (List A)
  |[]=>[]
  |x::l=>Value.enc x::Value.encs l
end
theorem Qgh(l:List Value):Value.encs l=List.map Value.enc l:=by induction l with|nil=>simp[Value.encs]|cons x l h=>simp[Value.encs,h]
def Value.c(x:Value):List Go.Sw.A:=[I x.Kind,I x.N,.str x.S,.rsl 4 (List.map Value.enc x.L)]
theorem QbC(x:Value):Value.enc x=Value.c x:=by cases x;simp[Value.enc,Value.c,Qgh]
abbrev Ue:=Fil Fact Report
abbrev Ue.K:FK Fact Report:={T:=132,tF:=83,kF:=57,tR:=73,kR:=4,eF:=Fact.c,eR:=Report.c}
def Ue.c(x:Ue):List Go.Sw.A:=[I x.number,.rsl 57 (List.map Fact.c x.r0),.rsl 57 (List.map Fact.c x.r1),.rsl 57 (List.map Fact.c x.r2),.rsl 4 (List.map Report.c x.reports),.bool x.appeal]
def Ue.ptr(x:Ue):List Go.Sw.A:=[.rp (Ue.c x)]
structure Uc where
  penalty:Nat
  deriving DecidableEq
def Uc.c(x:Uc):List Go.Sw.A:=[.fn (.func x.penalty) [] []]
abbrev Ut:Penalty:={Position:=0,Time:=0,Laps:=0,Out:=false}
abbrev Uq:Faults:={Misses:=0,Strays:=0,Window:=0,Residual:=0,Drift:=0}
abbrev Un:Course:={Name:=[],Mats:=[],Legs:=[],Distances:=[],Waves:=[],Offences:=[],Categories:=[],Prizes:=[],Ties:=[],Faults:=Uq,Fee:=0,Deadline:=0}
structure Ua where
  from_:Int
  to_:Int
  deriving DecidableEq
def Ua.c(x:Ua):List Go.Sw.A:=[I x.from_,I x.to_]
theorem Qne:QC prog 139 [(0,1),(1,1),(2,4),(6,1),(7,1)]:=⟨_,runUnderlying139,(Eg sizeOf3 (Eg sizeOf3 (Eg sizeOf137 (Eg sizeOf29 (Eg sizeOf29 PL.nil)))))⟩
theorem el_29:QV prog 29 139 8:=⟨runUnderlying29,sizeOf139,⟨_,zeroValue139,rfl⟩,⟨_,typeInfo139,by decide⟩⟩
theorem Qnd:QC prog 141 [(0,1),(1,1)]:=⟨_,runUnderlying141,(Eg sizeOf9 (Eg sizeOf3 PL.nil))⟩
theorem el_25:QV prog 25 141 2:=⟨runUnderlying25,sizeOf141,⟨_,zeroValue141,rfl⟩,⟨_,typeInfo141,by decide⟩⟩
theorem QpR:QC prog 92 [(0,1),(1,1),(2,1),(3,1)]:=⟨_,runUnderlying92,(Eg sizeOf9 (Eg sizeOf3 (Eg sizeOf3 (Eg sizeOf4 PL.nil))))⟩
theorem el_26:QV prog 26 92 4:=⟨runUnderlying26,sizeOf92,⟨_,zeroValue92,rfl⟩,⟨_,typeInfo92,by decide⟩⟩
theorem Qnc:QC prog 143 [(0,1),(1,1)]:=⟨_,runUnderlying143,(Eg sizeOf9 (Eg sizeOf3 PL.nil))⟩
theorem el_22:QV prog 22 143 2:=⟨runUnderlying22,sizeOf143,⟨_,zeroValue143,rfl⟩,⟨_,typeInfo143,by decide⟩⟩
theorem Qnb:QC prog 145 [(0,1),(1,1),(2,1),(3,1)]:=⟨_,runUnderlying145,(Eg sizeOf3 (Eg sizeOf3 (Eg sizeOf3 (Eg sizeOf3 PL.nil))))⟩
theorem el_23:QV prog 23 145 4:=⟨runUnderlying23,sizeOf145,⟨_,zeroValue145,rfl⟩,⟨_,typeInfo145,by decide⟩⟩
theorem Qna:QC prog 147 [(0,1),(1,1),(2,1)]:=⟨_,runUnderlying147,(Eg sizeOf3 (Eg sizeOf3 (Eg sizeOf109 PL.nil)))⟩
theorem Qq0:QV prog 109 147 3:=⟨runUnderlying109,sizeOf147,⟨_,zeroValue147,rfl⟩,⟨_,typeInfo147,by decide⟩⟩
theorem Qnf:QC prog 112 [(0,1),(1,1),(2,1),(3,1),(4,1)]:=⟨_,runUnderlying112,(Eg sizeOf9 (Eg sizeOf109 (Eg sizeOf3 (Eg sizeOf110 (Eg sizeOf3 PL.nil)))))⟩
theorem el_24:QV prog 24 112 5:=⟨runUnderlying24,sizeOf112,⟨_,zeroValue112,rfl⟩,⟨_,typeInfo112,by decide⟩⟩
theorem QpX:QC prog 33 [(0,1),(1,1),(2,1),(3,1),(4,1),(5,1),(6,1),(7,1),(8,1),(9,5),(14,1),(15,1)]:=⟨_,runUnderlying33,(Eg sizeOf9 (Eg sizeOf22 (Eg sizeOf23 (Eg sizeOf24 (Eg sizeOf25 (Eg sizeOf26 (Eg sizeOf27 (Eg sizeOf28 (Eg sizeOf29 (Eg sizeOf31 (Eg sizeOf3 (Eg sizeOf3 PL.nil))))))))))))⟩
theorem QpV:QC prog 56 [(0,1),(1,1),(2,1),(3,1),(4,1),(5,1),(6,1),(7,1)]:=⟨_,runUnderlying56,(Eg sizeOf3 (Eg sizeOf3 (Eg sizeOf3 (Eg sizeOf3 (Eg sizeOf3 (Eg sizeOf3 (Eg sizeOf3 (Eg sizeOf3 PL.nil))))))))⟩
theorem QpS:QC prog 83 [(0,1),(1,1),(2,1),(3,1),(4,8),(12,4),(16,5),(21,8),(29,4),(33,4),(37,2),(39,4),(43,4),(47,6),(53,2),(55,2)]:=⟨_,runUnderlying83,(Eg sizeOf3 (Eg sizeOf3 (Eg sizeOf3 (Eg sizeOf3 (Eg sizeOf56 (Eg sizeOf61 (Eg sizeOf63 (Eg sizeOf65 (Eg sizeOf67 (Eg sizeOf69 (Eg sizeOf71 (Eg sizeOf73 (Eg sizeOf75 (Eg sizeOf77 (Eg sizeOf79 (Eg sizeOf81 PL.nil))))))))))))))))⟩
theorem QpU:QC prog 73 [(0,1),(1,1),(2,1),(3,1)]:=⟨_,runUnderlying73,(Eg sizeOf3 (Eg sizeOf3 (Eg sizeOf3 (Eg sizeOf3 PL.nil))))⟩
theorem QpT:QC prog 77 [(0,1),(1,1),(2,1),(3,1),(4,1),(5,1)]:=⟨_,runUnderlying77,(Eg sizeOf3 (Eg sizeOf3 (Eg sizeOf3 (Eg sizeOf3 (Eg sizeOf3 (Eg sizeOf3 PL.nil))))))⟩
theorem Qaq:QV prog 34 83 57:=⟨runUnderlying34,sizeOf83,⟨_,zeroValue83,rfl⟩,⟨_,typeInfo83,by decide⟩⟩
theorem JF:QV prog 188 5 1:=⟨runUnderlying188,sizeOf5,⟨_,zeroValue5,rfl⟩,⟨_,typeInfo5,by decide⟩⟩
theorem Qcu:Y1 prog 9 A.str:=Y1.str underlying9
theorem Q2:QV prog 37 3 1:=⟨runUnderlying37,sizeOf3,⟨_,zeroValue3,rfl⟩,⟨_,typeInfo3,by decide⟩⟩
theorem QnI:prog.underlying 154=some (.struct (prog.fieldsOf 154)):=by kernel_rfl
theorem QqG:prog.stoodInHeld 154=false:=by kernel_rfl
theorem QeA:Y1 prog 154 (λx=>A.agg (Uh.c x)):=by
  refine Y1.struct QnI Zf (λx y h=>?_) (λw em x=>?_) (λw x y=>?_) (λx=>?_)
  · cases x;cases y
    simpa[QO,YW,Uh.c]using h
  · simp only[QO,YW,Uh.c]
    rw[show(10000:Nat)=9998+1+1 from rfl];generalize(9998:Nat)=d;simp[Instr.checkKey,runUnderlying154,runUnderlying3,Result.andThen,sizeOf3,isAgg3,part]
  · have u3:=underlying3
    have a3:=isAgg3;have z3:=sizeOf3;simp only[QO,YW,Uh.c,Op.equal,Op.maxDepth];rw[show(10000:Nat)=9999+1 from Z,run_equalIn_agg w 9999 154 _ _ QnI QqG];simp only[Program.fieldsOf,underlying154]
    go_simp
    cases x;cases y;simp
    repeat' split
    all_goals simp_all
  · simp[QO,YW,Uh.c,Instr.sameBits]
theorem Qqz:QC prog 154 [(0,1),(1,1)]:=⟨_,runUnderlying154,(Eg sizeOf3 (Eg sizeOf3 PL.nil))⟩
theorem QnG:prog.underlying 259=some (.struct (prog.fieldsOf 259)):=by kernel_rfl
theorem QqE:prog.stoodInHeld 259=false:=by kernel_rfl
theorem Qpe:Y1 prog 259 (λx=>A.agg (Uj.c x)):=by
  refine Y1.struct QnG Zf (λx y h=>?_) (λw em x=>?_) (λw x y=>?_) (λx=>?_)
  · cases x;cases y
    simpa[QO,YW,Uj.c]using h
  · simp only[QO,YW,Uj.c]
    rw[show(10000:Nat)=9998+1+1 from rfl];generalize(9998:Nat)=d;simp[Instr.checkKey,runUnderlying259,runUnderlying3,Result.andThen,sizeOf3,isAgg3,part]
  · have u3:=underlying3
    have a3:=isAgg3;have z3:=sizeOf3;simp only[QO,YW,Uj.c,Op.equal,Op.maxDepth];rw[show(10000:Nat)=9999+1 from Z,run_equalIn_agg w 9999 259 _ _ QnG QqE];simp only[Program.fieldsOf,underlying259]
    go_simp
    cases x;cases y;simp
    repeat' split
    all_goals simp_all
  · simp[QO,YW,Uj.c,Instr.sameBits]
theorem Qqu:QC prog 259 [(0,1),(1,1),(2,1)]:=⟨_,runUnderlying259,(Eg sizeOf3 (Eg sizeOf3 (Eg sizeOf3 PL.nil)))⟩
theorem Qm4:QC prog 316 [(0,8)]:=⟨_,runUnderlying316,(Eg sizeOf139 PL.nil)⟩
theorem QcL:QV prog 262 313 1:=⟨runUnderlying262,sizeOf313,⟨_,zeroValue313,rfl⟩,⟨_,typeInfo313,by decide⟩⟩
theorem Qm5:QC prog 309 [(0,1),(1,1)]:=⟨_,runUnderlying309,(Eg sizeOf3 (Eg sizeOf3 PL.nil))⟩
theorem Qm3:QC prog 352 [(0,4)]:=⟨_,runUnderlying352,(Eg sizeOf137 PL.nil)⟩
theorem YQ:Y1 prog 3 (λx=>A.int .i64 x):=Y1.int underlying3
theorem QiL:QG prog 83 14 53 2:=FA runUnderlying83 rfl sizeOf79
theorem Qpn:QG prog 79 1 1 1:=FA runUnderlying79 rfl sizeOf4
theorem Qpm:QG prog 83 3 3 1:=FA runUnderlying83 rfl sizeOf3
theorem Qpr:QG prog 56 0 0 1:=FA runUnderlying56 rfl sizeOf3
theorem Qm6:QC prog 210 [(0,1),(1,2)]:=⟨_,runUnderlying210,(Eg sizeOf204 (Eg sizeOf208 PL.nil))⟩
theorem Qk7:QG prog 56 1 1 1:=FA runUnderlying56 rfl sizeOf3
theorem Qm7:QC prog 208 [(0,1),(1,1)]:=⟨_,runUnderlying208,(Eg sizeOf3 (Eg sizeOf3 PL.nil))⟩
theorem Jq:QV prog 198 210 3:=⟨runUnderlying198,sizeOf210,⟨_,zeroValue210,rfl⟩,⟨_,typeInfo210,by decide⟩⟩
theorem Qm8:QC prog 200 [(0,1),(1,1)]:=⟨_,runUnderlying200,(Eg sizeOf198 (Eg sizeOf35 PL.nil))⟩
theorem QiM:QG prog 83 11 39 4:=FA runUnderlying83 rfl sizeOf73
theorem Qpq:QG prog 73 0 0 1:=FA runUnderlying73 rfl sizeOf3
theorem QaR:QG prog 83 13 47 6:=FA runUnderlying83 rfl sizeOf77
theorem Qpp:QG prog 77 0 0 1:=FA runUnderlying77 rfl sizeOf3
theorem Qcj:QG prog 77 1 1 1:=FA runUnderlying77 rfl sizeOf3
theorem Qpo:QG prog 79 0 0 1:=FA runUnderlying79 rfl sizeOf3
inductive U_facts_open_rxk where
  |c0 (x:Unit)
  |c1 (x:Unit)
  |c2 (x:Unit)
  |c3 (x:Unit)
  |c4 (x:Unit)
  |c5 (x:Unit)
  |c6 (x:Unit)
  |c7 (x:Unit)
  |c8 (x:Unit)
  |c9 (x:Int×Int×Int×Int×Int×Int)
  |c10 (x:Unit)
  |c11 (x:Unit)
  |c12 (x:Unit)
  |c13 (x:Unit)
theorem QnP:QG prog 210 0 0 1:=FA runUnderlying210 rfl sizeOf204
def Fact.put(x:Fact)(o:Nat)(v:Int):Option Fact:=match o with
  |0=>some {x with Crew:=v}
  |1=>some {x with No:=v}
  |2=>some {x with At:=v}
  |3=>some {x with Kind:=v}
  |4=>some {x with Starter:={x.Starter with Bib:=v}}
  |5=>some {x with Starter:={x.Starter with Distance:=v}}
  |6=>some {x with Starter:={x.Starter with Wave:=v}}
  |7=>some {x with Starter:={x.Starter with Slot:=v}}
  |8=>some {x with Starter:={x.Starter with Age:=v}}
  |9=>some {x with Starter:={x.Starter with Chip:=v}}
  |10=>some {x with Starter:={x.Starter with Team:=v}}
  |11=>some {x with Starter:={x.Starter with Lot:=v}}
  |12=>some {x with Read:={x.Read with Mat:=v}}
  |13=>some {x with Read:={x.Read with Epoch:=v}}
  |14=>some {x with Read:={x.Read with Chip:=v}}
  |15=>some {x with Read:={x.Read with Local:=v}}
  |16=>some {x with Beacon:={x.Beacon with Mat:=v}}
  |17=>some {x with Beacon:={x.Beacon with Epoch:=v}}
  |18=>some {x with Beacon:={x.Beacon with Local:=v}}
  |19=>some {x with Beacon:={x.Beacon with True:=v}}
  |20=>some {x with Beacon:={x.Beacon with Err:=v}}
  |21=>some {x with Sync:={x.Sync with MatA:=v}}
  |22=>some {x with Sync:={x.Sync with EpochA:=v}}
  |23=>some {x with Sync:={x.Sync with LocalA:=v}}
  |24=>some {x with Sync:={x.Sync with MatB:=v}}
  |25=>some {x with Sync:={x.Sync with EpochB:=v}}
  |26=>some {x with Sync:={x.Sync with LocalB:=v}}
  |27=>some {x with Sync:={x.Sync with Min:=v}}
  |28=>some {x with Sync:={x.Sync with Max:=v}}
  |29=>some {x with Hand:={x.Hand with Bib:=v}}
  |30=>some {x with Hand:={x.Hand with Position:=v}}
  |31=>some {x with Hand:={x.Hand with Lo:=v}}
  |32=>some {x with Hand:={x.Hand with Hi:=v}}
  |33=>some {x with Silence:={x.Silence with Mat:=v}}
  |34=>some {x with Silence:={x.Silence with Epoch:=v}}
  |35=>some {x with Silence:={x.Silence with Lo:=v}}
  |36=>some {x with Silence:={x.Silence with Hi:=v}}
  |37=>some {x with Pair:={x.Pair with A:=v}}
  |38=>some {x with Pair:={x.Pair with B:=v}}
  |39=>some {x with Report:={x.Report with Case:=v}}
  |40=>some {x with Report:={x.Report with Bib:=v}}
  |41=>some {x with Report:={x.Report with Offence:=v}}
  |42=>some {x with Report:={x.Report with Position:=v}}
  |43=>some {x with Protest:={x.Protest with Case:=v}}
  |44=>some {x with Protest:={x.Protest with By:=v}}
  |45=>some {x with Protest:={x.Protest with Fee:=v}}
  |46=>some {x with Protest:={x.Protest with Form:=v}}
  |47=>some {x with Ruling:={x.Ruling with Case:=v}}
  |48=>some {x with Ruling:={x.Ruling with Instance:=v}}
  |49=>some {x with Ruling:={x.Ruling with Kind:=v}}
  |50=>some {x with Ruling:={x.Ruling with Bib:=v}}
  |51=>some {x with Ruling:={x.Ruling with Position:=v}}
  |52=>some {x with Ruling:={x.Ruling with Amount:=v}}
  |53=>some {x with Appeal:={x.Appeal with Case:=v}}
  |55=>some {x with Void:={x.Void with Crew:=v}}
  |56=>some {x with Void:={x.Void with No:=v}}
  |_=>none
theorem Qqr:∀(x:Fact) (o:Nat) (v:Int) (y:Fact),Fact.put x o v=some y->Fact.c y=(Fact.c x).set o (I v)/\o<(Fact.c x).length:=by
  intro x o v y h;unfold Fact.put at h;split at h<;>first|(cases h;exact⟨Z,XX Z⟩)|cases h
theorem nt_83:prog.stoodInHeld 83=false:=by kernel_rfl
theorem nt_81:prog.stoodInHeld 81=false:=by kernel_rfl
theorem nt_79:prog.stoodInHeld 79=false:=by kernel_rfl
theorem nt_77:prog.stoodInHeld 77=false:=by kernel_rfl
theorem nt_75:prog.stoodInHeld 75=false:=by kernel_rfl
theorem nt_73:prog.stoodInHeld 73=false:=by kernel_rfl
theorem nt_71:prog.stoodInHeld 71=false:=by kernel_rfl
theorem nt_69:prog.stoodInHeld 69=false:=by kernel_rfl
theorem nt_67:prog.stoodInHeld 67=false:=by kernel_rfl
theorem nt_65:prog.stoodInHeld 65=false:=by kernel_rfl
theorem nt_63:prog.stoodInHeld 63=false:=by kernel_rfl
theorem nt_61:prog.stoodInHeld 61=false:=by kernel_rfl
theorem nt_56:prog.stoodInHeld 56=false:=by kernel_rfl
theorem QqY:EqD prog 83 Fact.c:=by
  refine Qls (QU underlying83 nt_83 isAgg83 sizeOf83 (QoN.cons Z (by decide) (QmC.int underlying3 isAgg3 sizeOf3 1) Zf (QoN.cons Z (by decide) (QmC.int underlying3 isAgg3 sizeOf3 1) Zf (QoN.cons Z (by decide) (QmC.int underlying3 isAgg3 sizeOf3 1) Zf (QoN.cons Z (by decide) (QmC.int underlying3 isAgg3 sizeOf3 1) Zf (QoN.cons Z (by decide) (QU underlying56 nt_56 isAgg56 sizeOf56 (QoN.cons Z (by decide) (QmC.int underlying3 isAgg3 sizeOf3 0) Zf (QoN.cons Z (by decide) (QmC.int underlying3 isAgg3 sizeOf3 0) Zf (QoN.cons Z (by decide) (QmC.int underlying3 isAgg3 sizeOf3 0) Zf (QoN.cons Z (by decide) (QmC.int underlying3 isAgg3 sizeOf3 0) Zf (QoN.cons Z (by decide) (QmC.int underlying3 isAgg3 sizeOf3 0) Zf (QoN.cons Z (by decide) (QmC.int underlying3 isAgg3 sizeOf3 0) Zf (QoN.cons Z (by decide) (QmC.int underlying3 isAgg3 sizeOf3 0) Zf (QoN.cons Z (by decide) (QmC.int underlying3 isAgg3 sizeOf3 0) Zf (QoN.nil _ _)))))))))) (λe=>Bool.noConfusion e) (QoN.cons Z (by decide) (QU underlying61 nt_61 isAgg61 sizeOf61 (QoN.cons Z (by decide) (QmC.int underlying3 isAgg3 sizeOf3 0) Zf (QoN.cons Z (by decide) (QmC.int underlying3 isAgg3 sizeOf3 0) Zf (QoN.cons Z (by decide) (QmC.int underlying3 isAgg3 sizeOf3 0) Zf (QoN.cons Z (by decide) (QmC.int underlying3 isAgg3 sizeOf3 0) Zf (QoN.nil _ _)))))) (λe=>Bool.noConfusion e) (QoN.cons Z (by decide) (QU underlying63 nt_63 isAgg63 sizeOf63 (QoN.cons Z (by decide) (QmC.int underlying3 isAgg3 sizeOf3 0) Zf (QoN.cons Z (by decide) (QmC.int underlying3 isAgg3 sizeOf3 0) Zf (QoN.cons Z (by decide) (QmC.int underlying3 isAgg3 sizeOf3 0) Zf (QoN.cons Z (by decide) (QmC.int underlying3 isAgg3 sizeOf3 0) Zf (QoN.cons Z (by decide) (QmC.int underlying3 isAgg3 sizeOf3 0) Zf (QoN.nil _ _))))))) (λe=>Bool.noConfusion e) (QoN.cons Z (by decide) (QU underlying65 nt_65 isAgg65 sizeOf65 (QoN.cons Z (by decide) (QmC.int underlying3 isAgg3 sizeOf3 0) Zf (QoN.cons Z (by decide) (QmC.int underlying3 isAgg3 sizeOf3 0) Zf (QoN.cons Z (by decide) (QmC.int underlying3 isAgg3 sizeOf3 0) Zf (QoN.cons Z (by decide) (QmC.int underlying3 isAgg3 sizeOf3 0) Zf (QoN.cons Z (by decide) (QmC.int underlying3 isAgg3 sizeOf3 0) Zf (QoN.cons Z (by decide) (QmC.int underlying3 isAgg3 sizeOf3 0) Zf (QoN.cons Z (by decide) (QmC.int underlying3 isAgg3 sizeOf3 0) Zf (QoN.cons Z (by decide) (QmC.int underlying3 isAgg3 sizeOf3 0) Zf (QoN.nil _ _)))))))))) (λe=>Bool.noConfusion e) (QoN.cons Z (by decide) (QU underlying67 nt_67 isAgg67 sizeOf67 (QoN.cons Z (by decide) (QmC.int underlying3 isAgg3 sizeOf3 0) Zf (QoN.cons Z (by decide) (QmC.int underlying3 isAgg3 sizeOf3 0) Zf (QoN.cons Z (by decide) (QmC.int underlying3 isAgg3 sizeOf3 0) Zf (QoN.cons Z (by decide) (QmC.int underlying3 isAgg3 sizeOf3 0) Zf (QoN.nil _ _)))))) (λe=>Bool.noConfusion e) (QoN.cons Z (by decide) (QU underlying69 nt_69 isAgg69 sizeOf69 (QoN.cons Z (by decide) (QmC.int underlying3 isAgg3 sizeOf3 0) Zf (QoN.cons Z (by decide) (QmC.int underlying3 isAgg3 sizeOf3 0) Zf (QoN.cons Z (by decide) (QmC.int underlying3 isAgg3 sizeOf3 0) Zf (QoN.cons Z (by decide) (QmC.int underlying3 isAgg3 sizeOf3 0) Zf (QoN.nil _ _)))))) (λe=>Bool.noConfusion e) (QoN.cons Z (by decide) (QU underlying71 nt_71 isAgg71 sizeOf71 (QoN.cons Z (by decide) (QmC.int underlying3 isAgg3 sizeOf3 0) Zf (QoN.cons Z (by decide) (QmC.int underlying3 isAgg3 sizeOf3 0) Zf (QoN.nil _ _)))) (λe=>Bool.noConfusion e) (QoN.cons Z (by decide) (QU underlying73 nt_73 isAgg73 sizeOf73 (QoN.cons Z (by decide) (QmC.int underlying3 isAgg3 sizeOf3 0) Zf (QoN.cons Z (by decide) (QmC.int underlying3 isAgg3 sizeOf3 0) Zf (QoN.cons Z (by decide) (QmC.int underlying3 isAgg3 sizeOf3 0) Zf (QoN.cons Z (by decide) (QmC.int underlying3 isAgg3 sizeOf3 0) Zf (QoN.nil _ _)))))) (λe=>Bool.noConfusion e) (QoN.cons Z (by decide) (QU underlying75 nt_75 isAgg75 sizeOf75 (QoN.cons Z (by decide) (QmC.int underlying3 isAgg3 sizeOf3 0) Zf (QoN.cons Z (by decide) (QmC.int underlying3 isAgg3 sizeOf3 0) Zf (QoN.cons Z (by decide) (QmC.int underlying3 isAgg3 sizeOf3 0) Zf (QoN.cons Z (by decide) (QmC.int underlying3 isAgg3 sizeOf3 0) Zf (QoN.nil _ _)))))) (λe=>Bool.noConfusion e) (QoN.cons Z (by decide) (QU underlying77 nt_77 isAgg77 sizeOf77 (QoN.cons Z (by decide) (QmC.int underlying3 isAgg3 sizeOf3 0) Zf (QoN.cons Z (by decide) (QmC.int underlying3 isAgg3 sizeOf3 0) Zf (QoN.cons Z (by decide) (QmC.int underlying3 isAgg3 sizeOf3 0) Zf (QoN.cons Z (by decide) (QmC.int underlying3 isAgg3 sizeOf3 0) Zf (QoN.cons Z (by decide) (QmC.int underlying3 isAgg3 sizeOf3 0) Zf (QoN.cons Z (by decide) (QmC.int underlying3 isAgg3 sizeOf3 0) Zf (QoN.nil _ _)))))))) (λe=>Bool.noConfusion e) (QoN.cons Z (by decide) (QU underlying79 nt_79 isAgg79 sizeOf79 (QoN.cons Z (by decide) (QmC.int underlying3 isAgg3 sizeOf3 0) Zf (QoN.cons Z (by decide) (QmC.bool underlying4 isAgg4 sizeOf4 0) Zf (QoN.nil _ _)))) (λe=>Bool.noConfusion e) (QoN.cons Z (by decide) (QU underlying81 nt_81 isAgg81 sizeOf81 (QoN.cons Z (by decide) (QmC.int underlying3 isAgg3 sizeOf3 0) Zf (QoN.cons Z (by decide) (QmC.int underlying3 isAgg3 sizeOf3 0) Zf (QoN.nil _ _)))) (λe=>Bool.noConfusion e) (QoN.nil _ _)))))))))))))))))) Z (λx=>⟨[_],_,Z,⟨_,Z⟩,[_],_,Z,⟨_,Z⟩,[_],_,Z,⟨_,Z⟩,[_],_,Z,⟨_,Z⟩,[_,_,_,_,_,_,_,_],_,Z,⟨[_],_,Z,⟨_,Z⟩,[_],_,Z,⟨_,Z⟩,[_],_,Z,⟨_,Z⟩,[_],_,Z,⟨_,Z⟩,[_],_,Z,⟨_,Z⟩,[_],_,Z,⟨_,Z⟩,[_],_,Z,⟨_,Z⟩,[_],_,Z,⟨_,Z⟩,Z⟩,[_,_,_,_],_,Z,⟨[_],_,Z,⟨_,Z⟩,[_],_,Z,⟨_,Z⟩,[_],_,Z,⟨_,Z⟩,[_],_,Z,⟨_,Z⟩,Z⟩,[_,_,_,_,_],_,Z,⟨[_],_,Z,⟨_,Z⟩,[_],_,Z,⟨_,Z⟩,[_],_,Z,⟨_,Z⟩,[_],_,Z,⟨_,Z⟩,[_],_,Z,⟨_,Z⟩,Z⟩,[_,_,_,_,_,_,_,_],_,Z,⟨[_],_,Z,⟨_,Z⟩,[_],_,Z,⟨_,Z⟩,[_],_,Z,⟨_,Z⟩,[_],_,Z,⟨_,Z⟩,[_],_,Z,⟨_,Z⟩,[_],_,Z,⟨_,Z⟩,[_],_,Z,⟨_,Z⟩,[_],_,Z,⟨_,Z⟩,Z⟩,[_,_,_,_],_,Z,⟨[_],_,Z,⟨_,Z⟩,[_],_,Z,⟨_,Z⟩,[_],_,Z,⟨_,Z⟩,[_],_,Z,⟨_,Z⟩,Z⟩,[_,_,_,_],_,Z,⟨[_],_,Z,⟨_,Z⟩,[_],_,Z,⟨_,Z⟩,[_],_,Z,⟨_,Z⟩,[_],_,Z,⟨_,Z⟩,Z⟩,[_,_],_,Z,⟨[_],_,Z,⟨_,Z⟩,[_],_,Z,⟨_,Z⟩,Z⟩,[_,_,_,_],_,Z,⟨[_],_,Z,⟨_,Z⟩,[_],_,Z,⟨_,Z⟩,[_],_,Z,⟨_,Z⟩,[_],_,Z,⟨_,Z⟩,Z⟩,[_,_,_,_],_,Z,⟨[_],_,Z,⟨_,Z⟩,[_],_,Z,⟨_,Z⟩,[_],_,Z,⟨_,Z⟩,[_],_,Z,⟨_,Z⟩,Z⟩,[_,_,_,_,_,_],_,Z,⟨[_],_,Z,⟨_,Z⟩,[_],_,Z,⟨_,Z⟩,[_],_,Z,⟨_,Z⟩,[_],_,Z,⟨_,Z⟩,[_],_,Z,⟨_,Z⟩,[_],_,Z,⟨_,Z⟩,Z⟩,[_,_],_,Z,⟨[_],_,Z,⟨_,Z⟩,[_],_,Z,⟨_,Z⟩,Z⟩,[_,_],_,Z,⟨[_],_,Z,⟨_,Z⟩,[_],_,Z,⟨_,Z⟩,Z⟩,Z⟩) Zf (λx y h=>?_) (by kernel_rfl);obtain⟨p1,p2,p3,p4,⟨p5,p6,p7,p8,p9,p10,p11,p12⟩,⟨p13,p14,p15,p16⟩,⟨p17,p18,p19,p20,p21⟩,⟨p22,p23,p24,p25,p26,p27,p28,p29⟩,⟨p30,p31,p32,p33⟩,⟨p34,p35,p36,p37⟩,⟨p38,p39⟩,⟨p40,p41,p42,p43⟩,⟨p44,p45,p46,p47⟩,⟨p48,p49,p50,p51,p52,p53⟩,⟨p54,p55⟩,⟨p56,p57⟩⟩:=x;obtain⟨q58,q59,q60,q61,⟨q62,q63,q64,q65,q66,q67,q68,q69⟩,⟨q70,q71,q72,q73⟩,⟨q74,q75,q76,q77,q78⟩,⟨q79,q80,q81,q82,q83,q84,q85,q86⟩,⟨q87,q88,q89,q90⟩,⟨q91,q92,q93,q94⟩,⟨q95,q96⟩,⟨q97,q98,q99,q100⟩,⟨q101,q102,q103,q104⟩,⟨q105,q106,q107,q108,q109,q110⟩,⟨q111,q112⟩,⟨q113,q114⟩⟩:=y;simpa[QO,YW,Fact.c,Starter.c,Read.c,Beacon.c,Sync.c,Hand.c,Silence.c,Pair.c,Report.c,Protest.c,Ruling.c,Appeal.c,Ref.c,and_assoc]using h
theorem QjL:QC prog 279 [(0,1),(1,1),(2,1),(3,1)]:=⟨_,runUnderlying279,(Eg sizeOf3 (Eg sizeOf3 (Eg sizeOf9 (Eg sizeOf277 PL.nil))))⟩
theorem Qn9:QV prog 277 279 4:=⟨runUnderlying277,sizeOf279,⟨_,zeroValue279,rfl⟩,⟨_,typeInfo279,by decide⟩⟩
theorem QiN:QG prog 279 2 2 1:=FA runUnderlying279 rfl sizeOf9
theorem QhP:QV prog 127 129 1:=⟨runUnderlying127,sizeOf129,⟨_,zeroValue129,rfl⟩,⟨_,typeInfo129,by decide⟩⟩
theorem QiP:QG prog 132 0 0 1:=FA runUnderlying132 rfl sizeOf3
theorem QqB:QC prog 132 [(0,1),(1,3),(4,1),(5,1)]:=⟨_,runUnderlying132,(Eg sizeOf3 (Eg sizeOf130 (Eg sizeOf87 (Eg sizeOf4 PL.nil))))⟩
theorem QiO:QG prog 132 2 4 1:=FA runUnderlying132 rfl sizeOf87
theorem Qp2:QV prog 87 73 4:=⟨runUnderlying87,sizeOf73,⟨_,zeroValue73,rfl⟩,⟨_,typeInfo73,by decide⟩⟩
theorem QnQ:QG prog 132 3 5 1:=FA runUnderlying132 rfl sizeOf4
theorem JE:QG prog 132 1 1 3:=FA runUnderlying132 rfl sizeOf130
theorem Qoa:QV prog 103 77 6:=⟨runUnderlying103,sizeOf77,⟨_,zeroValue77,rfl⟩,⟨_,typeInfo77,by decide⟩⟩
theorem Qm9:QC prog 169 [(0,1)]:=⟨_,runUnderlying169,(Eg sizeOf167 PL.nil)⟩
theorem QjN(m:List (Int×Bool))(hl:Nat.ble (List.map Prod.fst m).length Qt=true):C prog 146 [.fn (.func 148) [] [.ptr 0 0]] [.cells 59 [.map 1],.fmap (Qi (λx=>A.int .i64 x) A.bool m)] (λr H=>∃p:List Int,p.Perm (List.map Prod.fst m)/\r=.osl 2 0 p.length 1/\H=[.dead,.fmap (Qi (λx=>A.int .i64 x) A.bool m),.row 3 1 (List.map (Qf .i64) p)]):=
  Qhc func146 Z Z Z (λenv H h=>OpC.fn (xs:=[.const (.slice none 0 0),.tmp 3]) call211 Z Z (by show[_,lk env 3]=_;rw[h];rfl)) (Qhd func211 Z Z Z Q2 isAgg37 sizeOf37 call148 (QfV func148 Z Z Z isAgg59 underlying59 Zf) hl Zf Zf Zf Zf Zf)
theorem Qng:QC prog 101 [(0,1),(1,1),(2,4)]:=⟨_,runUnderlying101,(Eg sizeOf3 (Eg sizeOf3 (Eg sizeOf50 PL.nil)))⟩
theorem QpW:QC prog 50 [(0,1),(1,1),(2,1),(3,1)]:=⟨_,runUnderlying50,(Eg sizeOf3 (Eg sizeOf3 (Eg sizeOf3 (Eg sizeOf4 PL.nil))))⟩
theorem Qde:QV prog 38 50 4:=⟨runUnderlying38,sizeOf50,⟨_,zeroValue50,rfl⟩,⟨_,typeInfo50,by decide⟩⟩
theorem Qiq(m:List (Int×Fact))(hl:Nat.ble (List.map Prod.fst m).length Qt=true):C prog 146 [.fn (.func 168) [] [.ptr 0 0]] [.cells 116 [.map 1],.fmap (Qi (λx=>A.int .i64 x) (λx=>A.agg (Fact.c x)) m)] (λr H=>∃p:List Int,p.Perm (List.map Prod.fst m)/\r=.osl 2 0 p.length 1/\H=[.dead,.fmap (Qi (λx=>A.int .i64 x) (λx=>A.agg (Fact.c x)) m),.row 3 1 (List.map (Qf .i64) p)]):=
  Qhc func146 Z Z Z (λenv H h=>OpC.fn (xs:=[.const (.slice none 0 0),.tmp 3]) call211 Z Z (by show[_,lk env 3]=_;rw[h];rfl)) (Qhd func211 Z Z Z Q2 isAgg37 sizeOf37 call168 (QfV func168 Z Z Z isAgg116 underlying116 Zf) hl Zf Zf Zf Zf Zf)
theorem Qp3:QV prog 51 56 8:=⟨runUnderlying51,sizeOf56,⟨_,zeroValue56,rfl⟩,⟨_,typeInfo56,by decide⟩⟩
theorem QnH:prog.underlying 197=some (.struct (prog.fieldsOf 197)):=by kernel_rfl
theorem QqF:prog.stoodInHeld 197=false:=by kernel_rfl
theorem Qpf:Y1 prog 197 (λx=>A.agg (Ua.c x)):=by
  refine Y1.struct QnH Zf (λx y h=>?_) (λw em x=>?_) (λw x y=>?_) (λx=>?_)
  · cases x;cases y
    simpa[QO,YW,Ua.c]using h
  · simp only[QO,YW,Ua.c]
    rw[show(10000:Nat)=9998+1+1 from rfl];generalize(9998:Nat)=d;simp[Instr.checkKey,runUnderlying197,runUnderlying3,Result.andThen,sizeOf3,isAgg3,part]
  · have u3:=underlying3
    have a3:=isAgg3;have z3:=sizeOf3;simp only[QO,YW,Ua.c,Op.equal,Op.maxDepth];rw[show(10000:Nat)=9999+1 from Z,run_equalIn_agg w 9999 197 _ _ QnH QqF];simp only[Program.fieldsOf,underlying197]
    go_simp
    cases x;cases y;simp
    repeat' split
    all_goals simp_all
  · simp[QO,YW,Ua.c,Instr.sameBits]
theorem Qqy:QC prog 197 [(0,1),(1,1)]:=⟨_,runUnderlying197,(Eg sizeOf3 (Eg sizeOf3 PL.nil))⟩
inductive U_course_build where
  |c0 (x:Int)
  |c1 (x:Unit)
  |c2 (x:List Int)
  |c3 (x:(List Int)×(List (Ua×Leg)))
theorem Qk8:QG prog 50 0 0 1:=FA runUnderlying50 rfl sizeOf3
theorem QhJ:QG prog 50 2 2 1:=FA runUnderlying50 rfl sizeOf3
theorem Qps:QG prog 50 3 3 1:=FA runUnderlying50 rfl sizeOf4
theorem nt_50:prog.stoodInHeld 50=false:=by kernel_rfl
theorem QqZ:EqD prog 50 Penalty.c:=by
  refine Qls (QU underlying50 nt_50 isAgg50 sizeOf50 (QoN.cons Z (by decide) (QmC.int underlying3 isAgg3 sizeOf3 0) Zf (QoN.cons Z (by decide) (QmC.int underlying3 isAgg3 sizeOf3 0) Zf (QoN.cons Z (by decide) (QmC.int underlying3 isAgg3 sizeOf3 0) Zf (QoN.cons Z (by decide) (QmC.bool underlying4 isAgg4 sizeOf4 0) Zf (QoN.nil _ _)))))) Z (λx=>⟨[_],_,Z,⟨_,Z⟩,[_],_,Z,⟨_,Z⟩,[_],_,Z,⟨_,Z⟩,[_],_,Z,⟨_,Z⟩,Z⟩) Zf (λx y h=>?_) (by kernel_rfl);obtain⟨p1,p2,p3,p4⟩:=x;obtain⟨q5,q6,q7,q8⟩:=y;simpa[QO,YW,Penalty.c,and_assoc]using h
theorem pl_31:QC prog 31 [(0,1),(1,1),(2,1),(3,1),(4,1)]:=⟨_,runUnderlying31,(Eg sizeOf3 (Eg sizeOf3 (Eg sizeOf3 (Eg sizeOf3 (Eg sizeOf3 PL.nil)))))⟩
theorem pl_61:QC prog 61 [(0,1),(1,1),(2,1),(3,1)]:=⟨_,runUnderlying61,(Eg sizeOf3 (Eg sizeOf3 (Eg sizeOf3 (Eg sizeOf3 PL.nil))))⟩
theorem pl_63:QC prog 63 [(0,1),(1,1),(2,1),(3,1),(4,1)]:=⟨_,runUnderlying63,(Eg sizeOf3 (Eg sizeOf3 (Eg sizeOf3 (Eg sizeOf3 (Eg sizeOf3 PL.nil)))))⟩
theorem pl_65:QC prog 65 [(0,1),(1,1),(2,1),(3,1),(4,1),(5,1),(6,1),(7,1)]:=⟨_,runUnderlying65,(Eg sizeOf3 (Eg sizeOf3 (Eg sizeOf3 (Eg sizeOf3 (Eg sizeOf3 (Eg sizeOf3 (Eg sizeOf3 (Eg sizeOf3 PL.nil))))))))⟩
theorem pl_67:QC prog 67 [(0,1),(1,1),(2,1),(3,1)]:=⟨_,runUnderlying67,(Eg sizeOf3 (Eg sizeOf3 (Eg sizeOf3 (Eg sizeOf3 PL.nil))))⟩
theorem pl_69:QC prog 69 [(0,1),(1,1),(2,1),(3,1)]:=⟨_,runUnderlying69,(Eg sizeOf3 (Eg sizeOf3 (Eg sizeOf3 (Eg sizeOf3 PL.nil))))⟩
theorem pl_71:QC prog 71 [(0,1),(1,1)]:=⟨_,runUnderlying71,(Eg sizeOf3 (Eg sizeOf3 PL.nil))⟩
theorem pl_75:QC prog 75 [(0,1),(1,1),(2,1),(3,1)]:=⟨_,runUnderlying75,(Eg sizeOf3 (Eg sizeOf3 (Eg sizeOf3 (Eg sizeOf3 PL.nil))))⟩
theorem pl_79:QC prog 79 [(0,1),(1,1)]:=⟨_,runUnderlying79,(Eg sizeOf3 (Eg sizeOf4 PL.nil))⟩
theorem pl_81:QC prog 81 [(0,1),(1,1)]:=⟨_,runUnderlying81,(Eg sizeOf3 (Eg sizeOf3 PL.nil))⟩
theorem QqC:QC prog 122 [(0,1),(1,1)]:=⟨_,runUnderlying122,(Eg sizeOf37 (Eg sizeOf120 PL.nil))⟩
theorem QqA:QC prog 137 [(0,1),(1,1),(2,1),(3,1)]:=⟨_,runUnderlying137,(Eg sizeOf3 (Eg sizeOf3 (Eg sizeOf3 (Eg sizeOf135 PL.nil))))⟩
theorem Qqx:QC prog 232 [(0,1),(1,1),(2,1)]:=⟨_,runUnderlying232,(Eg sizeOf9 (Eg sizeOf3 (Eg sizeOf3 PL.nil)))⟩
theorem Qqw:QC prog 238 [(0,1),(1,1),(2,1)]:=⟨_,runUnderlying238,(Eg sizeOf3 (Eg sizeOf3 (Eg sizeOf3 PL.nil)))⟩
theorem Qqv:QC prog 244 [(0,1),(1,1),(2,1),(3,1)]:=⟨_,runUnderlying244,(Eg sizeOf3 (Eg sizeOf3 (Eg sizeOf3 (Eg sizeOf3 PL.nil))))⟩
theorem Qqt:QC prog 330 [(0,1)]:=⟨_,runUnderlying330,(Eg sizeOf328 PL.nil)⟩
def tyT:TyI:={fld:=[(147,2,2),(33,1,1),(33,2,2),(33,3,3),(33,4,4),(33,5,5),(33,6,6),(33,7,7),(112,1,1),(112,3,3),(143,0,0),(112,0,0),(141,0,0),(92,0,0),(232,0,0),(33,0,0),(143,1,1),(145,0,0),(145,1,1),(145,2,2),(145,3,3),(147,1,1),(147,0,0),(238,0,0),(238,1,1),(238,2,2),(112,2,2),(112,4,4),(141,1,1),(92,3,3),(92,1,1),(92,2,2),(232,1,1),(232,2,2),(244,0,0),(244,1,1),(244,2,2),(244,3,3),(33,9,9),(31,0,0),(31,1,1),(31,2,2),(31,3,3),(31,4,4),(33,10,14),(33,11,15),(352,0,0),(137,0,0),(137,1,1),(137,2,2),(137,3,3),(316,0,0),(139,3,6),(139,4,7),(309,0,0),(139,2,2),(309,1,1),(139,0,0),(139,1,1),(33,8,8),(83,3,3),(83,4,4),(56,0,0),(56,1,1),(56,2,2),(56,3,3),(56,4,4),(56,5,5),(56,6,6),(56,7,7),(83,5,12),(61,0,0),(61,1,1),(61,2,2),(61,3,3),(83,6,16),(63,0,0),(63,1,1),(63,2,2),(63,3,3),(63,4,4),(83,7,21),(65,0,0),(65,1,1),(65,2,2),(65,3,3),(65,4,4),(65,5,5),(65,6,6),(65,7,7),(83,8,29),(67,0,0),(67,1,1),(67,2,2),(67,3,3),(83,9,33),(69,0,0),(69,1,1),(69,2,2),(69,3,3),(83,10,37),(71,0,0),(71,1,1),(83,11,39),(73,0,0),(73,1,1),(73,2,2),(73,3,3),(83,12,43),(75,0,0),(75,1,1),(75,2,2),(75,3,3),(83,13,47),(77,2,2),(77,0,0),(77,1,1),(77,3,3),(77,4,4),(77,5,5),(83,14,53),(79,0,0),(83,15,55),(81,0,0),(81,1,1),(83,0,0),(83,1,1),(83,2,2),(200,0,0),(79,1,1),(200,1,1),(210,0,0),(210,1,1),(208,0,0),(208,1,1),(279,2,2),(279,3,3),(279,1,1),(279,0,0),(330,0,0),(101,1,1),(101,2,2),(169,0,0),(101,0,0),(122,0,0),(122,1,1),(50,0,0),(50,2,2),(50,1,1)],agg:=[(33,true,16),(147,true,3),(109,false,1),(22,false,1),(23,false,1),(24,false,1),(25,false,1),(26,false,1),(27,false,1),(28,false,1),(112,true,5),(110,false,1),(5,false,1),(9,false,1),(143,true,2),(141,true,2),(92,true,4),(232,true,3),(3,false,1),(247,false,1),(241,false,1),(145,true,4),(154,true,2),(234,false,1),(239,false,1),(238,true,3),(157,false,1),(252,false,1),(4,false,1),(242,false,1),(255,false,1),(245,false,1),(244,true,4),(259,true,3),(31,true,5),(139,true,8),(135,false,1),(29,false,1),(137,true,4),(316,true,8),(352,true,4),(313,false,1),(264,false,1),(152,false,1),(34,false,1),(208,true,2),(200,true,2),(288,false,1),(289,false,1),(290,false,1),(291,false,1),(83,true,57),(35,false,1),(210,true,3),(204,false,1),(277,false,1),(279,true,4),(331,false,1),(328,false,1),(118,false,1),(215,false,1),(129,false,1),(211,false,1),(87,false,1),(73,true,4),(77,true,6),(101,true,6),(50,true,4),(169,true,1),(167,false,1),(37,false,1),(38,false,1),(56,true,8),(281,false,1),(122,true,2),(120,false,1),(114,false,1)],zer:=[(139,[I 0,I 0,I 0,I 0,I 0,.rsl 4 (List.map Cond.enc []),.rsl 8 (List.map Step.enc []),.rsl 8 (List.map Step.enc [])],[(0,1),(1,1),(2,4),(6,1),(7,1)]),(141,[.str [],I 0],[(0,1),(1,1)]),(92,[.str [],I 0,I 0,.bool false],[(0,1),(1,1),(2,1),(3,1)]),(143,[.str [],I 0],[(0,1),(1,1)]),(145,[I 0,I 0,I 0,I 0],[(0,1),(1,1),(2,1),(3,1)]),(147,[I 0,I 0,.rsl 3 (List.map Part.enc [])],[(0,1),(1,1),(2,1)]),(112,[.str [],.rsl 3 (List.map Part.enc []),I 0,.rsl 3 (List.map Cutoff.c []),I 0],[(0,1),(1,1),(2,1),(3,1),(4,1)]),(33,[.str [],.rsl 2 (List.map Mat.c []),.rsl 4 (List.map Leg.c []),.rsl 5 (List.map Distance.c []),.rsl 2 (List.map Wave.c []),.rsl 4 (List.map Offence.c []),.rsl 3 (List.map Category.c []),.rsl 4 (List.map Prize.c []),.rsl 8 (List.map Step.enc []),I 0,I 0,I 0,I 0,I 0,I 0,I 0],[(0,1),(1,1),(2,1),(3,1),(4,1),(5,1),(6,1),(7,1),(8,1),(9,5),(14,1),(15,1)]),(154,[I 0,I 0],[(0,1),(1,1)]),(259,[I 0,I 0,I 0],[(0,1),(1,1),(2,1)]),(316,[I 0,I 0,I 0,I 0,I 0,.rsl 4 (List.map Cond.enc []),.rsl 8 (List.map Step.enc []),.rsl 8 (List.map Step.enc [])],[(0,8)]),(352,[I 0,I 0,I 0,.rsl 4 (List.map Cond.enc [])],[(0,4)]),(309,[I 0,I 0],[(0,1),(1,1)]),(210,[.nilp,I 0,I 0],[(0,1),(1,2)]),(208,[I 0,I 0],[(0,1),(1,1)]),(200,[.nils,.nilf],[(0,1),(1,1)]),(279,[I 0,I 0,.str [],.rsl 4 (List.map Value.enc [])],[(0,1),(1,1),(2,1),(3,1)]),(77,[I 0,I 0,I 0,I 0,I 0,I 0],[(0,1),(1,1),(2,1),(3,1),(4,1),(5,1)]),(169,[.nilf],[(0,1)]),(50,[I 0,I 0,I 0,.bool false],[(0,1),(1,1),(2,1),(3,1)]),(101,[I 0,I 0,I 0,I 0,I 0,.bool false],[(0,1),(1,1),(2,4)]),(197,[I 0,I 0],[(0,1),(1,1)]),(56,[I 0,I 0,I 0,I 0,I 0,I 0,I 0,I 0],[(0,1),(1,1),(2,1),(3,1),(4,1),(5,1),(6,1),(7,1)]),(83,[I 0,I 0,I 0,I 0,I 0,I 0,I 0,I 0,I 0,I 0,I 0,I 0,I 0,I 0,I 0,I 0,I 0,I 0,I 0,I 0,I 0,I 0,I 0,I 0,I 0,I 0,I 0,I 0,I 0,I 0,I 0,I 0,I 0,I 0,I 0,I 0,I 0,I 0,I 0,I 0,I 0,I 0,I 0,I 0,I 0,I 0,I 0,I 0,I 0,I 0,I 0,I 0,I 0,I 0,.bool false,I 0,I 0],[(0,1),(1,1),(2,1),(3,1),(4,8),(12,4),(16,5),(21,8),(29,4),(33,4),(37,2),(39,4),(43,4),(47,6),(53,2),(55,2)]),(73,[I 0,I 0,I 0,I 0],[(0,1),(1,1),(2,1),(3,1)])]}
def tyF:List (Nat×List (Nat×Nat)):=[(31,[(0,1),(1,1),(2,1),(3,1),(4,1)]),(33,[(0,1),(1,1),(2,1),(3,1),(4,1),(5,1),(6,1),(7,1),(8,1),(9,5),(14,1),(15,1)]),(50,[(0,1),(1,1),(2,1),(3,1)]),(56,[(0,1),(1,1),(2,1),(3,1),(4,1),(5,1),(6,1),(7,1)]),(61,[(0,1),(1,1),(2,1),(3,1)]),(63,[(0,1),(1,1),(2,1),(3,1),(4,1)]),(65,[(0,1),(1,1),(2,1),(3,1),(4,1),(5,1),(6,1),(7,1)]),(67,[(0,1),(1,1),(2,1),(3,1)]),(69,[(0,1),(1,1),(2,1),(3,1)]),(71,[(0,1),(1,1)]),(73,[(0,1),(1,1),(2,1),(3,1)]),(75,[(0,1),(1,1),(2,1),(3,1)]),(77,[(0,1),(1,1),(2,1),(3,1),(4,1),(5,1)]),(79,[(0,1),(1,1)]),(81,[(0,1),(1,1)]),(83,[(0,1),(1,1),(2,1),(3,1),(4,8),(12,4),(16,5),(21,8),(29,4),(33,4),(37,2),(39,4),(43,4),(47,6),(53,2),(55,2)]),(92,[(0,1),(1,1),(2,1),(3,1)]),(101,[(0,1),(1,1),(2,4)]),(112,[(0,1),(1,1),(2,1),(3,1),(4,1)]),(122,[(0,1),(1,1)]),(137,[(0,1),(1,1),(2,1),(3,1)]),(139,[(0,1),(1,1),(2,4),(6,1),(7,1)]),(141,[(0,1),(1,1)]),(143,[(0,1),(1,1)]),(145,[(0,1),(1,1),(2,1),(3,1)]),(147,[(0,1),(1,1),(2,1)]),(169,[(0,1)]),(200,[(0,1),(1,1)]),(208,[(0,1),(1,1)]),(210,[(0,1),(1,2)]),(232,[(0,1),(1,1),(2,1)]),(238,[(0,1),(1,1),(2,1)]),(244,[(0,1),(1,1),(2,1),(3,1)]),(279,[(0,1),(1,1),(2,1),(3,1)]),(309,[(0,1),(1,1)]),(316,[(0,8)]),(330,[(0,1)]),(352,[(0,4)])]
theorem tyOK:TyOK prog tyT:=
  ⟨QqR (L:=tyF) (yc pl_31 (yc QpX (yc QpW (yc QpV (yc pl_61 (yc pl_63 (yc pl_65 (yc pl_67 (yc pl_69 (yc pl_71 (yc QpU (yc pl_75 (yc QpT (yc pl_79 (yc pl_81 (yc QpS (yc QpR (yc Qng (yc Qnf (yc QqC (yc QqA (yc Qne (yc Qnd (yc Qnc (yc Qnb (yc Qna (yc Qm9 (yc Qm8 (yc Qm7 (yc Qm6 (yc Qqx (yc Qqw (yc Qqv (yc QjL (yc Qm5 (yc Qm4 (yc Qqt (yc Qm3 (List.forall_mem_nil _))))))))))))))))))))))))))))))))))))))) (by kernel_rfl),
   yc ⟨isAgg33,sizeOf33⟩ (yc ⟨isAgg147,sizeOf147⟩ (yc ⟨isAgg109,sizeOf109⟩ (yc ⟨isAgg22,sizeOf22⟩ (yc ⟨isAgg23,sizeOf23⟩ (yc ⟨isAgg24,sizeOf24⟩ (yc ⟨isAgg25,sizeOf25⟩ (yc ⟨isAgg26,sizeOf26⟩ (yc ⟨isAgg27,sizeOf27⟩ (yc ⟨isAgg28,sizeOf28⟩ (yc ⟨isAgg112,sizeOf112⟩ (yc ⟨isAgg110,sizeOf110⟩ (yc ⟨isAgg5,sizeOf5⟩ (yc ⟨isAgg9,sizeOf9⟩ (yc ⟨isAgg143,sizeOf143⟩ (yc ⟨isAgg141,sizeOf141⟩ (yc ⟨isAgg92,sizeOf92⟩ (yc ⟨isAgg232,sizeOf232⟩ (yc ⟨isAgg3,sizeOf3⟩ (yc ⟨isAgg247,sizeOf247⟩ (yc ⟨isAgg241,sizeOf241⟩ (yc ⟨isAgg145,sizeOf145⟩ (yc ⟨isAgg154,sizeOf154⟩ (yc ⟨isAgg234,sizeOf234⟩ (yc ⟨isAgg239,sizeOf239⟩ (yc ⟨isAgg238,sizeOf238⟩ (yc ⟨isAgg157,sizeOf157⟩ (yc ⟨isAgg252,sizeOf252⟩ (yc ⟨isAgg4,sizeOf4⟩ (yc ⟨isAgg242,sizeOf242⟩ (yc ⟨isAgg255,sizeOf255⟩ (yc ⟨isAgg245,sizeOf245⟩ (yc ⟨isAgg244,sizeOf244⟩ (yc ⟨isAgg259,sizeOf259⟩ (yc ⟨isAgg31,sizeOf31⟩ (yc ⟨isAgg139,sizeOf139⟩ (yc ⟨isAgg135,sizeOf135⟩ (yc ⟨isAgg29,sizeOf29⟩ (yc ⟨isAgg137,sizeOf137⟩ (yc ⟨isAgg316,sizeOf316⟩ (yc ⟨isAgg352,sizeOf352⟩ (yc ⟨isAgg313,sizeOf313⟩ (yc ⟨isAgg264,sizeOf264⟩ (yc ⟨isAgg152,sizeOf152⟩ (yc ⟨isAgg34,sizeOf34⟩ (yc ⟨isAgg208,sizeOf208⟩ (yc ⟨isAgg200,sizeOf200⟩ (yc ⟨isAgg288,sizeOf288⟩ (yc ⟨isAgg289,sizeOf289⟩ (yc ⟨isAgg290,sizeOf290⟩ (yc ⟨isAgg291,sizeOf291⟩ (yc ⟨isAgg83,sizeOf83⟩ (yc ⟨isAgg35,sizeOf35⟩ (yc ⟨isAgg210,sizeOf210⟩ (yc ⟨isAgg204,sizeOf204⟩ (yc ⟨isAgg277,sizeOf277⟩ (yc ⟨isAgg279,sizeOf279⟩ (yc ⟨isAgg331,sizeOf331⟩ (yc ⟨isAgg328,sizeOf328⟩ (yc ⟨isAgg118,sizeOf118⟩ (yc ⟨isAgg215,sizeOf215⟩ (yc ⟨isAgg129,sizeOf129⟩ (yc ⟨isAgg211,sizeOf211⟩ (yc ⟨isAgg87,sizeOf87⟩ (yc ⟨isAgg73,sizeOf73⟩ (yc ⟨isAgg77,sizeOf77⟩ (yc ⟨isAgg101,sizeOf101⟩ (yc ⟨isAgg50,sizeOf50⟩ (yc ⟨isAgg169,sizeOf169⟩ (yc ⟨isAgg167,sizeOf167⟩ (yc ⟨isAgg37,sizeOf37⟩ (yc ⟨isAgg38,sizeOf38⟩ (yc ⟨isAgg56,sizeOf56⟩ (yc ⟨isAgg281,sizeOf281⟩ (yc ⟨isAgg122,sizeOf122⟩ (yc ⟨isAgg120,sizeOf120⟩ (yc ⟨isAgg114,sizeOf114⟩ (List.forall_mem_nil _))))))))))))))))))))))))))))))))))))))))))))))))))))))))))))))))))))))))))))),
   yc ⟨⟨_,zeroValue139,(ZR.agg (zc Eo (zc Eo (zc Eo (zc Eo (zc Eo (zc ZR.rsl (zc ZR.rsl (zc ZR.rsl ZL.nil)))))))))⟩,Qne⟩ (yc ⟨⟨_,zeroValue141,(ZR.agg (zc ZR.str (zc Eo ZL.nil)))⟩,Qnd⟩ (yc ⟨⟨_,zeroValue92,(ZR.agg (zc ZR.str (zc Eo (zc Eo (zc ZR.bool ZL.nil)))))⟩,QpR⟩ (yc ⟨⟨_,zeroValue143,(ZR.agg (zc ZR.str (zc Eo ZL.nil)))⟩,Qnc⟩ (yc ⟨⟨_,zeroValue145,(ZR.agg (zc Eo (zc Eo (zc Eo (zc Eo ZL.nil)))))⟩,Qnb⟩ (yc ⟨⟨_,zeroValue147,(ZR.agg (zc Eo (zc Eo (zc ZR.rsl ZL.nil))))⟩,Qna⟩ (yc ⟨⟨_,zeroValue112,(ZR.agg (zc ZR.str (zc ZR.rsl (zc Eo (zc ZR.rsl (zc Eo ZL.nil))))))⟩,Qnf⟩ (yc ⟨⟨_,zeroValue33,(ZR.agg (zc ZR.str (zc ZR.rsl (zc ZR.rsl (zc ZR.rsl (zc ZR.rsl (zc ZR.rsl (zc ZR.rsl (zc ZR.rsl (zc ZR.rsl (zc Eo (zc Eo (zc Eo (zc Eo (zc Eo (zc Eo (zc Eo ZL.nil)))))))))))))))))⟩,QpX⟩ (yc ⟨⟨_,zeroValue154,(ZR.agg (zc Eo (zc Eo ZL.nil)))⟩,Qqz⟩ (yc ⟨⟨_,zeroValue259,(ZR.agg (zc Eo (zc Eo (zc Eo ZL.nil))))⟩,Qqu⟩ (yc ⟨⟨_,zeroValue316,(ZR.agg (zc Eo (zc Eo (zc Eo (zc Eo (zc Eo (zc ZR.rsl (zc ZR.rsl (zc ZR.rsl ZL.nil)))))))))⟩,Qm4⟩ (yc ⟨⟨_,zeroValue352,(ZR.agg (zc Eo (zc Eo (zc Eo (zc ZR.rsl ZL.nil)))))⟩,Qm3⟩ (yc ⟨⟨_,zeroValue309,(ZR.agg (zc Eo (zc Eo ZL.nil)))⟩,Qm5⟩ (yc ⟨⟨_,zeroValue210,(ZR.agg (zc ZR.nilp (zc Eo (zc Eo ZL.nil))))⟩,Qm6⟩ (yc ⟨⟨_,zeroValue208,(ZR.agg (zc Eo (zc Eo ZL.nil)))⟩,Qm7⟩ (yc ⟨⟨_,zeroValue200,(ZR.agg (zc ZR.nils (zc ZR.nilf ZL.nil)))⟩,Qm8⟩ (yc ⟨⟨_,zeroValue279,(ZR.agg (zc Eo (zc Eo (zc ZR.str (zc ZR.rsl ZL.nil)))))⟩,QjL⟩ (yc ⟨⟨_,zeroValue77,(ZR.agg (zc Eo (zc Eo (zc Eo (zc Eo (zc Eo (zc Eo ZL.nil)))))))⟩,QpT⟩ (yc ⟨⟨_,zeroValue169,(ZR.agg (zc ZR.nilf ZL.nil))⟩,Qm9⟩ (yc ⟨⟨_,zeroValue50,(ZR.agg (zc Eo (zc Eo (zc Eo (zc ZR.bool ZL.nil)))))⟩,QpW⟩ (yc ⟨⟨_,zeroValue101,(ZR.agg (zc Eo (zc Eo (zc Eo (zc Eo (zc Eo (zc ZR.bool ZL.nil)))))))⟩,Qng⟩ (yc ⟨⟨_,zeroValue197,(ZR.agg (zc Eo (zc Eo ZL.nil)))⟩,Qqy⟩ (yc ⟨⟨_,zeroValue56,(ZR.agg (zc Eo (zc Eo (zc Eo (zc Eo (zc Eo (zc Eo (zc Eo (zc Eo ZL.nil)))))))))⟩,QpV⟩ (yc ⟨⟨_,zeroValue83,(ZR.agg (zc Eo (zc Eo (zc Eo (zc Eo (zc Eo (zc Eo (zc Eo (zc Eo (zc Eo (zc Eo (zc Eo (zc Eo (zc Eo (zc Eo (zc Eo (zc Eo (zc Eo (zc Eo (zc Eo (zc Eo (zc Eo (zc Eo (zc Eo (zc Eo (zc Eo (zc Eo (zc Eo (zc Eo (zc Eo (zc Eo (zc Eo (zc Eo (zc Eo (zc Eo (zc Eo (zc Eo (zc Eo (zc Eo (zc Eo (zc Eo (zc Eo (zc Eo (zc Eo (zc Eo (zc Eo (zc Eo (zc Eo (zc Eo (zc Eo (zc Eo (zc Eo (zc Eo (zc Eo (zc Eo (zc ZR.bool (zc Eo (zc Eo ZL.nil))))))))))))))))))))))))))))))))))))))))))))))))))))))))))⟩,QpS⟩ (yc ⟨⟨_,zeroValue73,(ZR.agg (zc Eo (zc Eo (zc Eo (zc Eo ZL.nil)))))⟩,QpU⟩ (List.forall_mem_nil _)))))))))))))))))))))))))⟩
def tyX:TyX:={ty:=tyT,al:=[(33,(.agg [.str [],.rsl 2 (List.map Mat.c []),.rsl 4 (List.map Leg.c []),.rsl 5 (List.map Distance.c []),.rsl 2 (List.map Wave.c []),.rsl 4 (List.map Offence.c []),.rsl 3 (List.map Category.c []),.rsl 4 (List.map Prize.c []),.rsl 8 (List.map Step.enc []),I 0,I 0,I 0,I 0,I 0,I 0,I 0])),(147,(.agg [I 0,I 0,.rsl 3 (List.map Part.enc [])])),(112,(.agg [.str [],.rsl 3 (List.map Part.enc []),I 0,.rsl 3 (List.map Cutoff.c []),I 0])),(143,(.agg [.str [],I 0])),(141,(.agg [.str [],I 0])),(92,(.agg [.str [],I 0,I 0,.bool false])),(232,(.agg [.str [],I 0,I 0])),(154,(.agg [I 0,I 0])),(145,(.agg [I 0,I 0,I 0,I 0])),(259,(.agg [I 0,I 0,I 0])),(244,(.agg [I 0,I 0,I 0,I 0])),(3,(I 0)),(234,.nilf),(239,.nilf),(31,(.agg [I 0,I 0,I 0,I 0,I 0])),(139,(.agg [I 0,I 0,I 0,I 0,I 0,.rsl 4 (List.map Cond.enc []),.rsl 8 (List.map Step.enc []),.rsl 8 (List.map Step.enc [])])),(137,(.agg [I 0,I 0,I 0,.rsl 4 (List.map Cond.enc [])])),(316,(.agg [I 0,I 0,I 0,I 0,I 0,.rsl 4 (List.map Cond.enc []),.rsl 8 (List.map Step.enc []),.rsl 8 (List.map Step.enc [])])),(352,(.agg [I 0,I 0,I 0,.rsl 4 (List.map Cond.enc [])])),(264,.nilm),(152,.nilm),(200,(.agg [.nils,.nilf])),(288,.nilp),(289,.nilp),(290,.nilp),(291,.nilp),(83,(.agg [I 0,I 0,I 0,I 0,I 0,I 0,I 0,I 0,I 0,I 0,I 0,I 0,I 0,I 0,I 0,I 0,I 0,I 0,I 0,I 0,I 0,I 0,I 0,I 0,I 0,I 0,I 0,I 0,I 0,I 0,I 0,I 0,I 0,I 0,I 0,I 0,I 0,I 0,I 0,I 0,I 0,I 0,I 0,I 0,I 0,I 0,I 0,I 0,I 0,I 0,I 0,I 0,I 0,I 0,.bool false,I 0,I 0])),(210,(.agg [.nilp,I 0,I 0])),(279,(.agg [I 0,I 0,.str [],.rsl 4 (List.map Value.enc [])])),(331,.nilp),(211,.nilm),(73,(.agg [I 0,I 0,I 0,I 0])),(77,(.agg [I 0,I 0,I 0,I 0,I 0,I 0])),(50,(.agg [I 0,I 0,I 0,.bool false])),(101,(.agg [I 0,I 0,I 0,I 0,I 0,.bool false])),(169,(.agg [.nilf])),(37,.nils),(38,.nils),(56,(.agg [I 0,I 0,I 0,I 0,I 0,I 0,I 0,I 0])),(281,.nilf),(122,(.agg [.rsl 1 (List.map (Qf .i64) []),.nilm]))],sl:=[188,262,37,198,34,87,103,51,38]}
theorem QbL:QbM prog tyX:=
  ⟨tyOK,
   yc ⟨⟨_,zeroValue33,(zrC Z)⟩,Z,Z⟩ (yc ⟨⟨_,zeroValue147,(zrC Z)⟩,Z,Z⟩ (yc ⟨⟨_,zeroValue112,(zrC Z)⟩,Z,Z⟩ (yc ⟨⟨_,zeroValue143,(zrC Z)⟩,Z,Z⟩ (yc ⟨⟨_,zeroValue141,(zrC Z)⟩,Z,Z⟩ (yc ⟨⟨_,zeroValue92,(zrC Z)⟩,Z,Z⟩ (yc ⟨⟨_,zeroValue232,(zrC Z)⟩,Z,Z⟩ (yc ⟨⟨_,zeroValue154,(zrC Z)⟩,Z,Z⟩ (yc ⟨⟨_,zeroValue145,(zrC Z)⟩,Z,Z⟩ (yc ⟨⟨_,zeroValue259,(zrC Z)⟩,Z,Z⟩ (yc ⟨⟨_,zeroValue244,(zrC Z)⟩,Z,Z⟩ (yc ⟨⟨_,zeroValue3,Eo⟩,Z,Z⟩ (yc ⟨⟨_,zeroValue234,ZR.nilf⟩,Z,Z⟩ (yc ⟨⟨_,zeroValue239,ZR.nilf⟩,Z,Z⟩ (yc ⟨⟨_,zeroValue31,(zrC Z)⟩,Z,Z⟩ (yc ⟨⟨_,zeroValue139,(zrC Z)⟩,Z,Z⟩ (yc ⟨⟨_,zeroValue137,(zrC Z)⟩,Z,Z⟩ (yc ⟨⟨_,zeroValue316,(zrC Z)⟩,Z,Z⟩ (yc ⟨⟨_,zeroValue352,(zrC Z)⟩,Z,Z⟩ (yc ⟨⟨_,zeroValue264,ZR.nilm⟩,Z,Z⟩ (yc ⟨⟨_,zeroValue152,ZR.nilm⟩,Z,Z⟩ (yc ⟨⟨_,zeroValue200,(zrC Z)⟩,Z,Z⟩ (yc ⟨⟨_,zeroValue288,ZR.nilp⟩,Z,Z⟩ (yc ⟨⟨_,zeroValue289,ZR.nilp⟩,Z,Z⟩ (yc ⟨⟨_,zeroValue290,ZR.nilp⟩,Z,Z⟩ (yc ⟨⟨_,zeroValue291,ZR.nilp⟩,Z,Z⟩ (yc ⟨⟨_,zeroValue83,(zrC Z)⟩,Z,Z⟩ (yc ⟨⟨_,zeroValue210,(zrC Z)⟩,Z,Z⟩ (yc ⟨⟨_,zeroValue279,(zrC Z)⟩,Z,Z⟩ (yc ⟨⟨_,zeroValue331,ZR.nilp⟩,Z,Z⟩ (yc ⟨⟨_,zeroValue211,ZR.nilm⟩,Z,Z⟩ (yc ⟨⟨_,zeroValue73,(zrC Z)⟩,Z,Z⟩ (yc ⟨⟨_,zeroValue77,(zrC Z)⟩,Z,Z⟩ (yc ⟨⟨_,zeroValue50,(zrC Z)⟩,Z,Z⟩ (yc ⟨⟨_,zeroValue101,(zrC Z)⟩,Z,Z⟩ (yc ⟨⟨_,zeroValue169,(ZR.agg (zc ZR.nilf ZL.nil))⟩,Z,Z⟩ (yc ⟨⟨_,zeroValue37,ZR.nils⟩,Z,Z⟩ (yc ⟨⟨_,zeroValue38,ZR.nils⟩,Z,Z⟩ (yc ⟨⟨_,zeroValue56,(zrC Z)⟩,Z,Z⟩ (yc ⟨⟨_,zeroValue281,ZR.nilf⟩,Z,Z⟩ (yc ⟨⟨_,zeroValue122,(zrC Z)⟩,Z,Z⟩ (List.forall_mem_nil _))))))))))))))))))))))))))))))))))))))))),
   yc ⟨_,runUnderlying188⟩ (yc ⟨_,runUnderlying262⟩ (yc ⟨_,runUnderlying37⟩ (yc ⟨_,runUnderlying198⟩ (yc ⟨_,runUnderlying34⟩ (yc ⟨_,runUnderlying87⟩ (yc ⟨_,runUnderlying103⟩ (yc ⟨_,runUnderlying51⟩ (yc ⟨_,runUnderlying38⟩ (List.forall_mem_nil _)))))))))⟩
theorem G0{h0 N:Nat}{c:Code}{c':Cf}{k':List Kf}{env env':Env}{H H':Qd}{Q:QB}(n:Nat)(h:QjG tyX h0 N n (.code c) [] env H=some (c',k',env',H'))(g:Hd prog h0 N c' k' env' H' Q):TC prog h0 N c env H Q:=QcY QbL n h g
theorem Gc{h0 N:Nat}{k:List Kf}{c:Code}{c':Cf}{k':List Kf}{env env':Env}{H H':Qd}{Q:QB}(n:Nat)(h:QjG tyX h0 N n (.code c) k env H=some (c',k',env',H'))(g:Hd prog h0 N c' k' env' H' Q):TC prog h0 N c env H (kq prog h0 N k Q):=QcY QbL n h g
theorem Go{h0 N:Nat}{k:List Kf}{all:Array Oper}{l:List Oper}{c':Cf}{k':List Kf}{env env':Env}{H H':Qd}{Q:QB}(n:Nat)(h:QjG tyX h0 N n (.ops all l) k env H=some (c',k',env',H'))(g:Hd prog h0 N c' k' env' H' Q):WO prog h0 N all l env H (kq prog h0 N k Q):=QcY QbL n h g
theorem Gx{h0 N:Nat}{k:List Kf}{x:AEx}{c':Cf}{k':List Kf}{env env':Env}{H H':Qd}{Q:QB}(n:Nat)(h:QjG tyX h0 N n (.out x) k env H=some (c',k',env',H'))(g:Hd prog h0 N c' k' env' H' Q):kq prog h0 N k Q x env H:=QcY QbL n h g
theorem D{N m:Nat}{l r r':List Oper}{ds:List Nat}{env:Env}{H:Qd}{K:List Oper->Env->Qd->Prop}{xs xs':List A}(n:Nat)(h:Qih tyX N m l ds env H n xs.length r xs=some (r',xs'))(k:DS prog N m l ds env H K r' xs'):DS prog N m l ds env H K r xs:=QeZ QbL n _ rfl h k
def tyZ:TyZ:={sl:=[(109,147,3),(22,143,2),(23,145,4),(24,112,5),(25,141,2),(26,92,4),(27,232,3),(28,244,4),(110,238,3),(188,5,1),(37,3,1),(29,139,8),(135,137,4),(262,313,1),(277,279,4),(127,129,1),(34,83,57),(87,73,4),(38,50,4)],fn:=[103,232,188,106,104,108,110,112,114,105,107,109,111,113,190,234,189,116,125,196,237,195,121,198,238,197,128,117,115,192,235,191,118,194,236,193,120,119,140,210,139,130,200,239,199,122,202,240,201,133,204,241,203,123,206,242,205,136,124,126,127,58,129,131,132,134,135,138,316,243,207,298,208,299,245,244,137,141,142,60,59,54,55,56,57,173,174,175,176,177,93,47,165,273,276,275,274,278,225,166,79,84,85,86,44,181,178,180,98,185,182,184,25,96,97,48,26,101,50,62,63,65,64,30,31,87,45,38,169,229,172,88,89,223,40,78,162,77,76,23,37,24,13,39,17,28,19,15,16,51,52,187,102,186,53,29,11,12]}
theorem QeQ:Qdi prog tyZ:=
  ⟨yc ⟨runUnderlying109,sizeOf147⟩ (yc ⟨runUnderlying22,sizeOf143⟩ (yc ⟨runUnderlying23,sizeOf145⟩ (yc ⟨runUnderlying24,sizeOf112⟩ (yc ⟨runUnderlying25,sizeOf141⟩ (yc ⟨runUnderlying26,sizeOf92⟩ (yc ⟨runUnderlying27,sizeOf232⟩ (yc ⟨runUnderlying28,sizeOf244⟩ (yc ⟨runUnderlying110,sizeOf238⟩ (yc ⟨runUnderlying188,sizeOf5⟩ (yc ⟨runUnderlying37,sizeOf3⟩ (yc ⟨runUnderlying29,sizeOf139⟩ (yc ⟨runUnderlying135,sizeOf137⟩ (yc ⟨runUnderlying262,sizeOf313⟩ (yc ⟨runUnderlying277,sizeOf279⟩ (yc ⟨runUnderlying127,sizeOf129⟩ (yc ⟨runUnderlying34,sizeOf83⟩ (yc ⟨runUnderlying87,sizeOf73⟩ (yc ⟨runUnderlying38,sizeOf50⟩ (List.forall_mem_nil _))))))))))))))))))),
   yc call103 (yc call232 (yc call188 (yc call106 (yc call104 (yc call108 (yc call110 (yc call112 (yc call114 (yc call105 (yc call107 (yc call109 (yc call111 (yc call113 (yc call190 (yc call234 (yc call189 (yc call116 (yc call125 (yc call196 (yc call237 (yc call195 (yc call121 (yc call198 (yc call238 (yc call197 (yc call128 (yc call117 (yc call115 (yc call192 (yc call235 (yc call191 (yc call118 (yc call194 (yc call236 (yc call193 (yc call120 (yc call119 (yc call140 (yc call210 (yc call139 (yc call130 (yc call200 (yc call239 (yc call199 (yc call122 (yc call202 (yc call240 (yc call201 (yc call133 (yc call204 (yc call241 (yc call203 (yc call123 (yc call206 (yc call242 (yc call205 (yc call136 (yc call124 (yc call126 (yc call127 (yc call58 (yc call129 (yc call131 (yc call132 (yc call134 (yc call135 (yc call138 (yc call316 (yc call243 (yc call207 (yc call298 (yc call208 (yc call299 (yc call245 (yc call244 (yc call137 (yc call141 (yc call142 (yc call60 (yc call59 (yc call54 (yc call55 (yc call56 (yc call57 (yc call173 (yc call174 (yc call175 (yc call176 (yc call177 (yc call93 (yc call47 (yc call165 (yc call273 (yc call276 (yc call275 (yc call274 (yc call278 (yc call225 (yc call166 (yc call79 (yc call84 (yc call85 (yc call86 (yc call44 (yc call181 (yc call178 (yc call180 (yc call98 (yc call185 (yc call182 (yc call184 (yc call25 (yc call96 (yc call97 (yc call48 (yc call26 (yc call101 (yc call50 (yc call62 (yc call63 (yc call65 (yc call64 (yc call30 (yc call31 (yc call87 (yc call45 (yc call38 (yc call169 (yc call229 (yc call172 (yc call88 (yc call89 (yc call223 (yc call40 (yc call78 (yc call162 (yc call77 (yc call76 (yc call23 (yc call37 (yc call24 (yc call13 (yc call39 (yc call17 (yc call28 (yc call19 (yc call15 (yc call16 (yc call51 (yc call52 (yc call187 (yc call102 (yc call186 (yc call53 (yc call29 (yc call11 (yc call12 (List.forall_mem_nil _))))))))))))))))))))))))))))))))))))))))))))))))))))))))))))))))))))))))))))))))))))))))))))))))))))))))))))))))))))))))))))))))))))))))))))))))))))))))))))))⟩
theorem Iz{h0 N:Nat}{all:Array Oper}{o:Oper}{l:List Oper}{env:Env}{H:Qd}{Q:QB}{d:Nat}{α:Type}{e:α->List A}{t et k:Nat}{L:List α}{kk:IntKind}{i:Int}{v:α}(h:idx L i=some v)(q:ixB o env=some (d,t,k,L.map e,kk,i))(g:WO prog h0 N all l (up env d (.rp (e v))) H Q)(ht:Qcp tyZ.sl t=some (et,k):=by exact rfl)(hg:Y0 all o env=some true:=by exact rfl)(hN:Nat.blt d N=true:=by exact rfl):WO prog h0 N all (o::l) env H Q:=Izz QeQ h q g ht hg hN
theorem IzE{h0 N:Nat}{all:Array Oper}{o:Oper}{l:List Oper}{env:Env}{H:Qd}{Q:QB}{d:Nat}{α:Type}{e:α->List A}{t et k:Nat}{L:List α}{kk:IntKind}{i:Int}{v:α}{cs:List A}(h:idx L i=some v)(he:e v=cs)(q:ixB o env=some (d,t,k,L.map e,kk,i))(g:WO prog h0 N all l (up env d (.rp cs)) H Q)(ht:Qcp tyZ.sl t=some (et,k):=by exact rfl)(hg:Y0 all o env=some true:=by exact rfl)(hN:Nat.blt d N=true:=by exact rfl):WO prog h0 N all (o::l) env H Q:=Ize QeQ h he q g ht hg hN
theorem Lm{h0 N:Nat}{all:Array Oper}{o:Oper}{l:List Oper}{env:Env}{H:Qd}{Q:QB}{d:Nat}{α:Type}{e:α->List A}{t et k k':Nat}{L:List α}(q:lnB o env=some (d,t,.mk (.rsl k (L.map e))))(g:WO prog h0 N all l (up env d (I L.length)) H Q)(ht:Qcp tyZ.sl t=some (et,k'):=by exact rfl)(hg:Y0 all o env=some true:=by exact rfl)(hN:Nat.blt d N=true:=by exact rfl):WO prog h0 N all (o::l) env H Q:=Lmz QeQ q g ht hg hN
theorem Cz{h0 N:Nat}{all:Array Oper}{o:Oper}{l:List Oper}{env:Env}{H:Qd}{Q:QB}{d:Nat}{β γ:Type}{F:Option β}{F':β->Option γ}{r:γ}{f:Nat}{args argsc:List A}{w:β->A}{Hc:Qd}(π:List Nat)(h:F.bind F'=some r)(hC:∀v,F=some v->C prog f argsc Hc (RQ w (λ_=>Hc) v))(hop:Qgg tyZ o env=some (d,f,args))(g:∀v,F=some v->F' v=some r->WO prog h0 N all l (up env d (w v)) H Q)(hv:∀v,QjE (w v)=some (.mk (w v)):=by exact λ_=>rfl)(hargs:args=Qaa (rho π H.length) argsc:=by exact rfl)(hH:π.map (λp=>H[p]?)=(Hc.map (QX (rho π H.length))).map some:=by exact rfl)(hπ:π.Nodup:=by decide)(hg:Y0 all o env=some true:=by exact rfl)(hN:Nat.blt d N=true:=by exact rfl)(hh:Nat.ble h0 H.length=true:=by exact rfl):WO prog h0 N all (o::l) env H Q:=Czz QeQ π h hC hop g hv hargs hH hπ hg hN hh
theorem Cb{h0 N:Nat}{all:Array Oper}{o:Oper}{l:List Oper}{env:Env}{H:Qd}{Q:QB}{d:Nat}{β γ:Type}{F:Option β}{F':β->Option γ}{r:γ}{f:Nat}{args argsc:List A}{w:β->A}(h:F.bind F'=some r)(hC:∀v,F=some v->C prog f argsc [] (RQ w Ze v))(hop:Qgg tyZ o env=some (d,f,args))(hL:Qbo H args argsc)(g:∀v,F=some v->F' v=some r->WO prog h0 N all l (up env d (w v)) H Q)(hv:∀v,Yr (w v)=true:=by exact λ_=>rfl)(hg:Y0 all o env=some true:=by exact rfl)(hN:Nat.blt d N=true:=by exact rfl):WO prog h0 N all (o::l) env H Q:=Cbz QeQ h hC hop hL g hv hg hN
theorem Dz{N m:Nat}{o:Oper}{l ll:List Oper}{ds:List Nat}{xs:List A}{env:Env}{H:Qd}{K:List Oper->Env->Qd->Prop}{d:Nat}{β γ:Type}{F:Option β}{F':β->Option γ}{r:γ}{f:Nat}{args argsc:List A}{w:β->A}{Hc:Qd}(π:List Nat)(h:F.bind F'=some r)(hC:∀v,F=some v->C prog f argsc Hc (RQ w (λ_=>Hc) v))(hop:Qgg tyZ o (Yj (Qj o) 0 ds xs env)=some (d,f,args))(g:∀v,F=some v->F' v=some r->DS prog N m ll ds env H K l (xs++[w v]))(hv:∀v,QjE (w v)=some (.mk (w v)):=by exact λ_=>rfl)(hargs:args=Qaa (rho π H.length) argsc:=by exact rfl)(hH:π.map (λp=>H[p]?)=(Hc.map (QX (rho π H.length))).map some:=by exact rfl)(hπ:π.Nodup:=by decide)(hg:Y0 ll.toArray o (Yj (Qj o) 0 ds xs env)=some true:=by exact rfl)(hN:Nat.blt d N=true:=by exact rfl)(hx:Nat.blt xs.length m=true:=by exact rfl):DS prog N m ll ds env H K (o::l) xs:=DzZ QeQ π h hC hop g hv hargs hH hπ hg hN hx
theorem DSs{h0 N id:Nat}{l:List Oper}{env:Env}{H:Qd}{Q:QB}(m:Nat)(hc:Go.Sw.draw0 l m N (Qbk m 0 l)=true)(h:DS prog N m l (Qbk m 0 l) env H (λr e H=>WO prog h0 N l.toArray r e H Q) l [])(h0B:Nat.ble h0 H.length=true:=by exact rfl):TC prog h0 N (.region id l.toArray true) env H Q:=QoT (k:=[]) m draws hc h0B h
theorem Da{N m:Nat}{cat:List Nat}{l r r':List Oper}{ds:List Nat}{env:Env}{H:Qd}{K:List Oper->Env->Qd->Prop}{xs xs':List A}(n:Nat)(h:Qii tyX N m cat l ds env H n xs.length r xs=some (r',xs'))(k:DA prog N m cat l ds env H K r' xs'):DA prog N m cat l ds env H K r xs:=Qe2 QbL n _ rfl h k
theorem Db{N m:Nat}{cat:List Nat}{l r r':List Oper}{ds:List Nat}{env:Env}{H H1:Qd}{K:List Oper->Env->Qd->Prop}{xs xs':List A}(n:Nat)(h:Qe1 tyX N cat l ds env H1 n xs.length r xs=some (r',xs'))(k:DB prog N m cat l ds env H H1 K r' xs'):DB prog N m cat l ds env H H1 K r xs:=QbV QbL n _ rfl h k
theorem Dk{N m n:Nat}{bs:List Nat}{cat:Kat}{l r r':List Oper}{ds:List Nat}{env:Env}{X:Qd}{Hs Hs':List Qd}{K:List Oper->Env->Qd->Prop}{xs xs':List A}(k:Nat)(h:Qe0 tyX N m cat l ds env n k xs.length Hs.length Hs X r xs=some (Hs',r',xs'))(g:DK prog N m bs cat l ds env n K Hs' X r' xs'):DK prog N m bs cat l ds env n K Hs X r xs:=QbU QbL k _ _ rfl rfl h g
theorem DKs{h0 N id:Nat}{l:List Oper}{env:Env}{H:Qd}{Q:QB}(m:Nat)(bs:List Nat)(cat:Kat)(hc:Qef l m N (Qbk m 0 l) (hsK cat) (rqK bs cat) (msK bs) (plK cat)=true)(h:DK prog N m bs cat l (Qbk m 0 l) env H.length (λr e H=>WO prog h0 N l.toArray r e H Q) [] H l [])(hcl:Nat.beq cat.length m=true:=by exact rfl)(h0B:Nat.ble h0 H.length=true:=by exact rfl):TC prog h0 N (.region id l.toArray true) env H Q:=QoU m bs cat draws hc hcl h0B h
theorem DAs{h0 N id:Nat}{l:List Oper}{env:Env}{H:Qd}{Q:QB}(m b:Nat)(cat:List Nat)(hc:Qef l m N (Qbk m 0 l) (hsC cat) (rqC b cat) [[],[b]] (plC cat)=true)(h:DA prog N m cat l (Qbk m 0 l) env H (λr e H=>WO prog h0 N l.toArray r e H Q) l [])(hcl:Nat.beq cat.length m=true:=by exact rfl)(h0B:Nat.ble h0 H.length=true:=by exact rfl):TC prog h0 N (.region id l.toArray true) env H Q:=QoW m b cat draws hc hcl h0B h
theorem Cd{h0 N:Nat}{all:Array Oper}{o:Oper}{l:List Oper}{env:Env}{H:Qd}{Q:QB}{d:Nat}{β γ:Type}{F:Option β}{F':β->Option γ}{r:γ}{f:Nat}{args argsc:List A}{w:β->A}{Hc:Qd}{Hr:β->Qd}(π:List Nat)(h:F.bind F'=some r)(hC:∀v,F=some v->C prog f argsc Hc (RQ w Hr v))(hop:Qgg tyZ o env=some (d,f,args))(g:∀v,F=some v->F' v=some r->WO prog h0 N all l (up env d (YE (rho π H.length) (w v))) (Yt H π ((Hr v).map (QX (rho π H.length)))) Q)(hargs:args=Qaa (rho π H.length) argsc:=by exact rfl)(hH:π.map (λp=>H[p]?)=(Hc.map (QX (rho π H.length))).map some:=by exact rfl)(hπ:π.Nodup:=by decide)(hg:Y0 all o env=some true:=by exact rfl)(hN:Nat.blt d N=true:=by exact rfl)(hh:Nat.ble h0 H.length=true:=by exact rfl):WO prog h0 N all (o::l) env H Q:=Cdz QeQ π h hC hop g hargs hH hπ hg hN hh
theorem v0{N:Nat}{l:List Oper}{ds:List Nat}{xs:List A}{env0:Env}{hB hE i:Nat}{H:Qd}{x:A}(hx:xs[i]?=some x)(h:QkH tyT N l ds xs env0 H i=some x):Jz prog N l ds xs env0 hB hE i H H:=vQ tyOK hx h
theorem ov{N:Nat}{l:List Oper}{ds:List Nat}{xs:List A}{env0:Env}{i c:Nat}{H:Qd}{x:A}(k:Oq prog N l ds xs env0 H (i+1) c)(hx:xs[i]?=some x:=by exact rfl)(h:QkH tyT N l ds xs env0 H i=some x:=by exact rfl):Oq prog N l ds xs env0 H i (c+1):=.c (vQ tyOK hx h) k
theorem Gy0{T:Type}{X:Ctx T}{st:YSt T}{h0 N:Nat}{c:Code}{c':Cf}{k':List Kf}{env env':Env}{H H':Qd}{Q:YG T}(n:Nat)(h:QjF tyX h0 N n (.code c) [] env H=some (c',k',env',H'))(g:HdY X prog h0 N c' k' env' H' st Q):TCy X prog h0 N c env H st Q:=QcX QbL n h g
theorem Gyc{T:Type}{X:Ctx T}{st:YSt T}{h0 N:Nat}{k:List Kf}{c:Code}{c':Cf}{k':List Kf}{env env':Env}{H H':Qd}{Q:YG T}(n:Nat)(h:QjF tyX h0 N n (.code c) k env H=some (c',k',env',H'))(g:HdY X prog h0 N c' k' env' H' st Q):TCy X prog h0 N c env H st (kqY X prog h0 N k Q):=QcX QbL n h g
theorem Gyo{T:Type}{X:Ctx T}{st:YSt T}{h0 N:Nat}{k:List Kf}{all:Array Oper}{l:List Oper}{c':Cf}{k':List Kf}{env env':Env}{H H':Qd}{Q:YG T}(n:Nat)(h:QjF tyX h0 N n (.ops all l) k env H=some (c',k',env',H'))(g:HdY X prog h0 N c' k' env' H' st Q):WOy X prog h0 N all l env H st (kqY X prog h0 N k Q):=QcX QbL n h g
theorem Gyx{T:Type}{X:Ctx T}{st:YSt T}{h0 N:Nat}{k:List Kf}{x:AEx}{c':Cf}{k':List Kf}{env env':Env}{H H':Qd}{Q:YG T}(n:Nat)(h:QjF tyX h0 N n (.out x) k env H=some (c',k',env',H'))(g:HdY X prog h0 N c' k' env' H' st Q):kqY X prog h0 N k Q x env H st:=QcX QbL n h g
def lay_contains_233_ren:Go.Shelf.Ren:=⟨λ|144=>233|143=>297|219=>315|217=>325|225=>326|224=>327|267=>328|266=>329|314=>330|n=>n,λ|9=>9|4=>4|3=>3|5=>5|46=>85|146=>334|51=>333|n=>n,λ|1=>11|n=>n⟩
theorem QdI:Go.Proofs.Lays.n144 prog lay_contains_233_ren:={
  mixed:=by kernel_rfl
  f143:=func297.trans (congrArg some (by kernel_rfl))
  f144:=func233.trans (congrArg some (by kernel_rfl))
  f217:=func325.trans (congrArg some (by kernel_rfl))
  f219:=func315.trans (congrArg some (by kernel_rfl))
  f224:=func327.trans (congrArg some (by kernel_rfl))
  f225:=func326.trans (congrArg some (by kernel_rfl))
  f266:=func329.trans (congrArg some (by kernel_rfl))
  f267:=func328.trans (congrArg some (by kernel_rfl))
  f314:=func330.trans (congrArg some (by kernel_rfl))
  t3:=underlying3
  a3:=isAgg3
  z3:=sizeOf3
  v3:=zeroValue3
  t4:=underlying4
  a4:=isAgg4
  z4:=sizeOf4
  v4:=zeroValue4
  t5:=underlying5
  a5:=isAgg5
  z5:=sizeOf5
  v5:=zeroValue5
  t9:=underlying9
  a9:=isAgg9
  z9:=sizeOf9
  v9:=zeroValue9
  t46:=underlying85
  a46:=isAgg85
  z46:=sizeOf85
  v46:=zeroValue85
  t51:=underlying333
  a51:=isAgg333
  z51:=sizeOf333
  v51:=zeroValue333
  t146:=underlying334
  a146:=isAgg334
  z146:=sizeOf334
  v146:=zeroValue334
  g1:=by kernel_rfl}
def lay_sortK_179_ren:Go.Shelf.Ren:=⟨λ|6=>179|15=>213|14=>230|28=>255|29=>256|20=>280|21=>281|22=>282|23=>283|24=>284|25=>285|26=>286|27=>287|46=>309|47=>301|48=>302|49=>310|50=>311|57=>323|n=>n,λ|22=>34|24=>83|25=>118|3=>3|39=>85|0=>0|53=>333|55=>336|4=>4|46=>357|45=>356|50=>362|5=>5|9=>9|66=>390|70=>204|76=>403|77=>218|n=>n,λ|n=>n⟩
theorem Qgc:Go.Proofs.SlLaysF0.n6 prog lay_sortK_179_ren:={
  mixed:=by kernel_rfl
  f6:=⟨f179.name,by decide,func179.trans (congrArg some (by kernel_rfl))⟩
  f14:=⟨f230.name,by decide,func230.trans (congrArg some (by kernel_rfl))⟩
  f15:=func213.trans (congrArg some (by kernel_rfl))
  f20:=⟨f280.name,by decide,func280.trans (congrArg some (by kernel_rfl))⟩
  f21:=⟨f281.name,by decide,func281.trans (congrArg some (by kernel_rfl))⟩
  f22:=⟨f282.name,by decide,func282.trans (congrArg some (by kernel_rfl))⟩
  f23:=⟨f283.name,by decide,func283.trans (congrArg some (by kernel_rfl))⟩
  f24:=⟨f284.name,by decide,func284.trans (congrArg some (by kernel_rfl))⟩
  f25:=⟨f285.name,by decide,func285.trans (congrArg some (by kernel_rfl))⟩
  f26:=⟨f286.name,by decide,func286.trans (congrArg some (by kernel_rfl))⟩
  f27:=⟨f287.name,by decide,func287.trans (congrArg some (by kernel_rfl))⟩
  f28:=func255.trans (congrArg some (by kernel_rfl))
  f29:=func256.trans (congrArg some (by kernel_rfl))
  f46:=⟨f309.name,by decide,func309.trans (congrArg some (by kernel_rfl))⟩
  f47:=func301.trans (congrArg some (by kernel_rfl))
  f48:=func302.trans (congrArg some (by kernel_rfl))
  f49:=⟨f310.name,by decide,func310.trans (congrArg some (by kernel_rfl))⟩
  f50:=⟨f311.name,by decide,func311.trans (congrArg some (by kernel_rfl))⟩
  f57:=⟨f323.name,by decide,func323.trans (congrArg some (by kernel_rfl))⟩
  t0:=underlying0
  a0:=isAgg0
  z0:=sizeOf0
  v0:=zeroValue0
  t3:=underlying3
  a3:=isAgg3
  z3:=sizeOf3
  v3:=zeroValue3
  t4:=underlying4
  a4:=isAgg4
  z4:=sizeOf4
  v4:=zeroValue4
  t5:=underlying5
  a5:=isAgg5
  z5:=sizeOf5
  v5:=zeroValue5
  t9:=underlying9
  a9:=isAgg9
  z9:=sizeOf9
  v9:=zeroValue9
  t22:=underlying34
  a22:=isAgg34
  z22:=sizeOf34
  v22:=zeroValue34
  t25:=underlying118
  a25:=isAgg118
  z25:=sizeOf118
  v25:=zeroValue118
  t39:=underlying85
  a39:=isAgg85
  z39:=sizeOf85
  v39:=zeroValue85
  t45:=underlying356
  a45:=isAgg356
  z45:=sizeOf356
  v45:=zeroValue356
  t46:=underlying357
  a46:=isAgg357
  z46:=sizeOf357
  v46:=zeroValue357
  t50:=underlying362
  a50:=isAgg362
  z50:=sizeOf362
  v50:=zeroValue362
  t53:=underlying333
  a53:=isAgg333
  z53:=sizeOf333
  v53:=zeroValue333
  t55:=underlying336
  a55:=isAgg336
  z55:=sizeOf336
  v55:=zeroValue336
  t66:=underlying390
  a66:=isAgg390
  z66:=sizeOf390
  v66:=zeroValue390
  t70:=underlying204
  a70:=isAgg204
  z70:=sizeOf204
  v70:=zeroValue204
  t76:=underlying403
  a76:=isAgg403
  z76:=sizeOf403
  v76:=zeroValue403
  t77:=underlying218
  a77:=isAgg218
  z77:=sizeOf218
  v77:=zeroValue218}
def lay_sortK_183_ren:Go.Shelf.Ren:=⟨λ|6=>183|15=>213|14=>231|28=>255|29=>256|20=>288|21=>289|22=>290|23=>291|24=>292|25=>293|26=>294|27=>295|46=>312|47=>301|48=>302|49=>313|50=>314|57=>324|n=>n,λ|22=>127|24=>129|25=>215|3=>3|39=>85|0=>0|53=>333|55=>336|4=>4|46=>357|45=>356|50=>362|5=>5|9=>9|66=>390|70=>204|76=>403|77=>218|n=>n,λ|n=>n⟩
theorem Qgb:Go.Proofs.SlLaysF0.n6 prog lay_sortK_183_ren:={
  mixed:=by kernel_rfl
  f6:=⟨f183.name,by decide,func183.trans (congrArg some (by kernel_rfl))⟩
  f14:=⟨f231.name,by decide,func231.trans (congrArg some (by kernel_rfl))⟩
  f15:=func213.trans (congrArg some (by kernel_rfl))
  f20:=⟨f288.name,by decide,func288.trans (congrArg some (by kernel_rfl))⟩
  f21:=⟨f289.name,by decide,func289.trans (congrArg some (by kernel_rfl))⟩
  f22:=⟨f290.name,by decide,func290.trans (congrArg some (by kernel_rfl))⟩
  f23:=⟨f291.name,by decide,func291.trans (congrArg some (by kernel_rfl))⟩
  f24:=⟨f292.name,by decide,func292.trans (congrArg some (by kernel_rfl))⟩
  f25:=⟨f293.name,by decide,func293.trans (congrArg some (by kernel_rfl))⟩
  f26:=⟨f294.name,by decide,func294.trans (congrArg some (by kernel_rfl))⟩
  f27:=⟨f295.name,by decide,func295.trans (congrArg some (by kernel_rfl))⟩
  f28:=func255.trans (congrArg some (by kernel_rfl))
  f29:=func256.trans (congrArg some (by kernel_rfl))
  f46:=⟨f312.name,by decide,func312.trans (congrArg some (by kernel_rfl))⟩
  f47:=func301.trans (congrArg some (by kernel_rfl))
  f48:=func302.trans (congrArg some (by kernel_rfl))
  f49:=⟨f313.name,by decide,func313.trans (congrArg some (by kernel_rfl))⟩
  f50:=⟨f314.name,by decide,func314.trans (congrArg some (by kernel_rfl))⟩
  f57:=⟨f324.name,by decide,func324.trans (congrArg some (by kernel_rfl))⟩
  t0:=underlying0
  a0:=isAgg0
  z0:=sizeOf0
  v0:=zeroValue0
  t3:=underlying3
  a3:=isAgg3
  z3:=sizeOf3
  v3:=zeroValue3
  t4:=underlying4
  a4:=isAgg4
  z4:=sizeOf4
  v4:=zeroValue4
  t5:=underlying5
  a5:=isAgg5
  z5:=sizeOf5
  v5:=zeroValue5
  t9:=underlying9
  a9:=isAgg9
  z9:=sizeOf9
  v9:=zeroValue9
  t22:=underlying127
  a22:=isAgg127
  z22:=sizeOf127
  v22:=zeroValue127
  t25:=underlying215
  a25:=isAgg215
  z25:=sizeOf215
  v25:=zeroValue215
  t39:=underlying85
  a39:=isAgg85
  z39:=sizeOf85
  v39:=zeroValue85
  t45:=underlying356
  a45:=isAgg356
  z45:=sizeOf356
  v45:=zeroValue356
  t46:=underlying357
  a46:=isAgg357
  z46:=sizeOf357
  v46:=zeroValue357
  t50:=underlying362
  a50:=isAgg362
  z50:=sizeOf362
  v50:=zeroValue362
  t53:=underlying333
  a53:=isAgg333
  z53:=sizeOf333
  v53:=zeroValue333
  t55:=underlying336
  a55:=isAgg336
  z55:=sizeOf336
  v55:=zeroValue336
  t66:=underlying390
  a66:=isAgg390
  z66:=sizeOf390
  v66:=zeroValue390
  t70:=underlying204
  a70:=isAgg204
  z70:=sizeOf204
  v70:=zeroValue204
  t76:=underlying403
  a76:=isAgg403
  z76:=sizeOf403
  v76:=zeroValue403
  t77:=underlying218
  a77:=isAgg218
  z77:=sizeOf218
  v77:=zeroValue218}
def lay_sortI_147_ren:Go.Shelf.Ren:=⟨λ|189=>147|125=>213|257=>212|128=>255|129=>256|294=>246|295=>247|296=>248|297=>249|298=>250|299=>251|216=>252|300=>253|301=>254|328=>300|329=>301|330=>302|331=>303|332=>304|215=>165|343=>317|n=>n,λ|28=>37|3=>3|46=>85|0=>0|51=>333|53=>336|4=>4|183=>357|182=>356|131=>362|5=>5|9=>9|218=>390|222=>204|228=>403|229=>218|n=>n,λ|n=>n⟩
theorem Qct:Go.Proofs.Lays.n189 prog lay_sortI_147_ren:={
  mixed:=by kernel_rfl
  f125:=func213.trans (congrArg some (by kernel_rfl))
  f128:=func255.trans (congrArg some (by kernel_rfl))
  f129:=func256.trans (congrArg some (by kernel_rfl))
  f189:=func147.trans (congrArg some (by kernel_rfl))
  f215:=func165.trans (congrArg some (by kernel_rfl))
  f216:=func252.trans (congrArg some (by kernel_rfl))
  f257:=func212.trans (congrArg some (by kernel_rfl))
  f294:=func246.trans (congrArg some (by kernel_rfl))
  f295:=func247.trans (congrArg some (by kernel_rfl))
  f296:=func248.trans (congrArg some (by kernel_rfl))
  f297:=func249.trans (congrArg some (by kernel_rfl))
  f298:=func250.trans (congrArg some (by kernel_rfl))
  f299:=func251.trans (congrArg some (by kernel_rfl))
  f300:=func253.trans (congrArg some (by kernel_rfl))
  f301:=func254.trans (congrArg some (by kernel_rfl))
  f328:=func300.trans (congrArg some (by kernel_rfl))
  f329:=func301.trans (congrArg some (by kernel_rfl))
  f330:=func302.trans (congrArg some (by kernel_rfl))
  f331:=func303.trans (congrArg some (by kernel_rfl))
  f332:=func304.trans (congrArg some (by kernel_rfl))
  f343:=func317.trans (congrArg some (by kernel_rfl))
  t0:=underlying0
  a0:=isAgg0
  z0:=sizeOf0
  v0:=zeroValue0
  t3:=underlying3
  a3:=isAgg3
  z3:=sizeOf3
  v3:=zeroValue3
  t4:=underlying4
  a4:=isAgg4
  z4:=sizeOf4
  v4:=zeroValue4
  t5:=underlying5
  a5:=isAgg5
  z5:=sizeOf5
  v5:=zeroValue5
  t9:=underlying9
  a9:=isAgg9
  z9:=sizeOf9
  v9:=zeroValue9
  t28:=underlying37
  a28:=isAgg37
  z28:=sizeOf37
  v28:=zeroValue37
  t46:=underlying85
  a46:=isAgg85
  z46:=sizeOf85
  v46:=zeroValue85
  t51:=underlying333
  a51:=isAgg333
  z51:=sizeOf333
  v51:=zeroValue333
  t53:=underlying336
  a53:=isAgg336
  z53:=sizeOf336
  v53:=zeroValue336
  t131:=underlying362
  a131:=isAgg362
  z131:=sizeOf362
  v131:=zeroValue362
  t182:=underlying356
  a182:=isAgg356
  z182:=sizeOf356
  v182:=zeroValue356
  t183:=underlying357
  a183:=isAgg357
  z183:=sizeOf357
  v183:=zeroValue357
  t218:=underlying390
  a218:=isAgg390
  z218:=sizeOf390
  v218:=zeroValue390
  t222:=underlying204
  a222:=isAgg204
  z222:=sizeOf204
  v222:=zeroValue204
  t228:=underlying403
  a228:=isAgg403
  z228:=sizeOf403
  v228:=zeroValue403
  t229:=underlying218
  a229:=isAgg218
  z229:=sizeOf218
  v229:=zeroValue218}
def lay_insertI_90_ren:Go.Shelf.Ren:=⟨λ|21=>90|27=>170|28=>171|35=>227|39=>279|n=>n,λ|22=>37|3=>3|4=>4|0=>0|n=>n,λ|n=>n⟩
theorem Qfj:Go.Proofs.Lays2.n21 prog lay_insertI_90_ren:={
  mixed:=by kernel_rfl
  f21:=func90.trans (congrArg some (by kernel_rfl))
  f27:=func170.trans (congrArg some (by kernel_rfl))
  f28:=func171.trans (congrArg some (by kernel_rfl))
  f35:=func227.trans (congrArg some (by kernel_rfl))
  f39:=func279.trans (congrArg some (by kernel_rfl))
  t0:=underlying0
  a0:=isAgg0
  z0:=sizeOf0
  v0:=zeroValue0
  t3:=underlying3
  a3:=isAgg3
  z3:=sizeOf3
  v3:=zeroValue3
  t4:=underlying4
  a4:=isAgg4
  z4:=sizeOf4
  v4:=zeroValue4
  t22:=underlying37
  a22:=isAgg37
  z22:=sizeOf37
  v22:=zeroValue37
  i3:=by kernel_rfl}
end Go.Sw
