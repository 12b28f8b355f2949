/- The types of ProtestsOpen and facts on them. -/
import Derived.Test.YthihlfoplokmiaaGreatDoorL3
import Derived.Test.YthihlfoplokmiaaGreatDoorProg
set_option linter.unusedVariables false
set_option linter.unusedSimpArgs false
set_option maxRecDepth 100000
set_option maxHeartbeats 4000000
namespace Go.Sw
open Go.Proofs Tryz
theorem draws:prog.follows .mixedOrders=true:=by rfl
structure Faults where
  Misses:Int
  Strays:Int
  Window:Int
  Residual:Int
  Drift:Int
  deriving DecidableEq
def Faults.c(x:Faults):List Go.Sw.A:=[I x.Misses,I x.Strays,I x.Window,I x.Residual,I x.Drift]
structure Mat where
  Name:List UInt8
  Kind:Int
  deriving DecidableEq
def Mat.c(x:Mat):List Go.Sw.A:=[.str x.Name,I x.Kind]
structure Leg where
  From:Int
  To:Int
  Min:Int
  Max:Int
  deriving DecidableEq
def Leg.c(x:Leg):List Go.Sw.A:=[I x.From,I x.To,I x.Min,I x.Max]
structure Part where
  Mat:Int
  Laps:Int
  Parts:List Part
mutual
def Part.enc:Part->List A
  |⟨x0,x1,x2⟩=>[I x0,I x1,.rsl 3 (Part.encs x2)]
def Part.encs:List Part->List (List A)
  |[]=>[]
  |x::l=>Part.enc x::Part.encs l
end
theorem Qdc(l:List Part):Part.encs l=List.map Part.enc l:=by induction l with|nil=>simp[Part.encs]|cons x l h=>simp[Part.encs,h]
def Part.c(x:Part):List Go.Sw.A:=[I x.Mat,I x.Laps,.rsl 3 (List.map Part.enc x.Parts)]
theorem Jo(x:Part):Part.enc x=Part.c x:=by cases x;simp[Part.enc,Part.c,Qdc]
structure Cutoff where
  Mat:Int
  Lap:Int
  Limit:Int
  deriving DecidableEq
def Cutoff.c(x:Cutoff):List Go.Sw.A:=[I x.Mat,I x.Lap,I x.Limit]
structure Distance where
  Name:List UInt8
  Route:List Part
  Timing:Int
  Cutoffs:List Cutoff
  Extra:Int
def Distance.c(x:Distance):List Go.Sw.A:=[.str x.Name,.rsl 3 (List.map Part.enc x.Route),I x.Timing,.rsl 3 (List.map Cutoff.c x.Cutoffs),I x.Extra]
structure Wave where
  Name:List UInt8
  Gun:Int
  deriving DecidableEq
def Wave.c(x:Wave):List Go.Sw.A:=[.str x.Name,I x.Gun]
structure Offence where
  Name:List UInt8
  Time:Int
  Laps:Int
  Out:Bool
  deriving DecidableEq
def Offence.c(x:Offence):List Go.Sw.A:=[.str x.Name,I x.Time,I x.Laps,.bool x.Out]
structure Category where
  Name:List UInt8
  From:Int
  To:Int
  deriving DecidableEq
def Category.c(x:Category):List Go.Sw.A:=[.str x.Name,I x.From,I x.To]
structure Prize where
  Distance:Int
  Category:Int
  Rank:Int
  Amount:Int
  deriving DecidableEq
def Prize.c(x:Prize):List Go.Sw.A:=[I x.Distance,I x.Category,I x.Rank,I x.Amount]
structure Cond where
  Kind:Int
  Var:Int
  N:Int
  Parts:List Cond
mutual
def Cond.enc:Cond->List A
  |⟨x0,x1,x2,x3⟩=>[I x0,I x1,I x2,.rsl 4 (Cond.encs x3)]
def Cond.encs:List Cond->List (List A)
  |[]=>[]
  |x::l=>Cond.enc x::Cond.encs l
end
theorem Qdf(l:List Cond):Cond.encs l=List.map Cond.enc l:=by induction l with|nil=>simp[Cond.encs]|cons x l h=>simp[Cond.encs,h]
def Cond.c(x:Cond):List Go.Sw.A:=[I x.Kind,I x.Var,I x.N,.rsl 4 (List.map Cond.enc x.Parts)]
theorem Qav(x:Cond):Cond.enc x=Cond.c x:=by cases x;simp[Cond.enc,Cond.c,Qdf]
structure Step where
  Kind:Int
  By:Int
  Cond:Cond
  Then:List Step
  Else:List Step
mutual
def Step.enc:Step->List A
  |⟨x0,x1,x2,x3,x4⟩=>[I x0,I x1,I x2.Kind,I x2.Var,I x2.N,.rsl 4 (List.map Cond.enc x2.Parts),.rsl 8 (Step.encs x3),.rsl 8 (Step.encs x4)]
def Step.encs:List Step->List (List A)
  |[]=>[]
  |x::l=>Step.enc x::Step.encs l
end
theorem Qc5(l:List Step):Step.encs l=List.map Step.enc l:=by induction l with|nil=>simp[Step.encs]|cons x l h=>simp[Step.encs,h]
def Step.c(x:Step):List Go.Sw.A:=[I x.Kind,I x.By,I x.Cond.Kind,I x.Cond.Var,I x.Cond.N,.rsl 4 (List.map Cond.enc x.Cond.Parts),.rsl 8 (List.map Step.enc x.Then),.rsl 8 (List.map Step.enc x.Else)]
theorem YZ(x:Step):Step.enc x=Step.c x:=by cases x;simp[Step.enc,Step.c,Qc5]
structure Course where
  Name:List UInt8
  Mats:List Mat
  Legs:List Leg
  Distances:List Distance
  Waves:List Wave
  Offences:List Offence
  Categories:List Category
  Prizes:List Prize
  Ties:List Step
  Faults:Faults
  Fee:Int
  Deadline:Int
def Course.c(x:Course):List Go.Sw.A:=[.str x.Name,.rsl 2 (List.map Mat.c x.Mats),.rsl 4 (List.map Leg.c x.Legs),.rsl 5 (List.map Distance.c x.Distances),.rsl 2 (List.map Wave.c x.Waves),.rsl 4 (List.map Offence.c x.Offences),.rsl 3 (List.map Category.c x.Categories),.rsl 4 (List.map Prize.c x.Prizes),.rsl 8 (List.map Step.enc x.Ties),I x.Faults.Misses,I x.Faults.Strays,I x.Faults.Window,I x.Faults.Residual,I x.Faults.Drift,I x.Fee,I x.Deadline]
structure Starter where
  Bib:Int
  Distance:Int
  Wave:Int
  Slot:Int
  Age:Int
  Chip:Int
  Team:Int
  Lot:Int
  deriving DecidableEq
def Starter.c(x:Starter):List Go.Sw.A:=[I x.Bib,I x.Distance,I x.Wave,I x.Slot,I x.Age,I x.Chip,I x.Team,I x.Lot]
structure Read where
  Mat:Int
  Epoch:Int
  Chip:Int
  Local:Int
  deriving DecidableEq
def Read.c(x:Read):List Go.Sw.A:=[I x.Mat,I x.Epoch,I x.Chip,I x.Local]
structure Beacon where
  Mat:Int
  Epoch:Int
  Local:Int
  True:Int
  Err:Int
  deriving DecidableEq
def Beacon.c(x:Beacon):List Go.Sw.A:=[I x.Mat,I x.Epoch,I x.Local,I x.True,I x.Err]
structure Sync where
  MatA:Int
  EpochA:Int
  LocalA:Int
  MatB:Int
  EpochB:Int
  LocalB:Int
  Min:Int
  Max:Int
  deriving DecidableEq
def Sync.c(x:Sync):List Go.Sw.A:=[I x.MatA,I x.EpochA,I x.LocalA,I x.MatB,I x.EpochB,I x.LocalB,I x.Min,I x.Max]
structure Hand where
  Bib:Int
  Position:Int
  Lo:Int
  Hi:Int
  deriving DecidableEq
def Hand.c(x:Hand):List Go.Sw.A:=[I x.Bib,I x.Position,I x.Lo,I x.Hi]
structure Silence where
  Mat:Int
  Epoch:Int
  Lo:Int
  Hi:Int
  deriving DecidableEq
def Silence.c(x:Silence):List Go.Sw.A:=[I x.Mat,I x.Epoch,I x.Lo,I x.Hi]
structure Pair where
  A:Int
  B:Int
  deriving DecidableEq
def Pair.c(x:Pair):List Go.Sw.A:=[I x.A,I x.B]
structure Report where
  Case:Int
  Bib:Int
  Offence:Int
  Position:Int
  deriving DecidableEq
def Report.c(x:Report):List Go.Sw.A:=[I x.Case,I x.Bib,I x.Offence,I x.Position]
structure Protest where
  Case:Int
  By:Int
  Fee:Int
  Form:Int
  deriving DecidableEq
def Protest.c(x:Protest):List Go.Sw.A:=[I x.Case,I x.By,I x.Fee,I x.Form]
structure Ruling where
  Case:Int
  Instance:Int
  Kind:Int
  Bib:Int
  Position:Int
  Amount:Int
  deriving DecidableEq
def Ruling.c(x:Ruling):List Go.Sw.A:=[I x.Case,I x.Instance,I x.Kind,I x.Bib,I x.Position,I x.Amount]
structure Appeal where
  Case:Int
  Suspends:Bool
  deriving DecidableEq
def Appeal.c(x:Appeal):List Go.Sw.A:=[I x.Case,.bool x.Suspends]
structure Ref where
  Crew:Int
  No:Int
  deriving DecidableEq
def Ref.c(x:Ref):List Go.Sw.A:=[I x.Crew,I x.No]
structure Fact where
  Crew:Int
  No:Int
  At:Int
  Kind:Int
  Starter:Starter
  Read:Read
  Beacon:Beacon
  Sync:Sync
  Hand:Hand
  Silence:Silence
  Pair:Pair
  Report:Report
  Protest:Protest
  Ruling:Ruling
  Appeal:Appeal
  Void:Ref
  deriving DecidableEq
def Fact.c(x:Fact):List Go.Sw.A:=[I x.Crew,I x.No,I x.At,I x.Kind,I x.Starter.Bib,I x.Starter.Distance,I x.Starter.Wave,I x.Starter.Slot,I x.Starter.Age,I x.Starter.Chip,I x.Starter.Team,I x.Starter.Lot,I x.Read.Mat,I x.Read.Epoch,I x.Read.Chip,I x.Read.Local,I x.Beacon.Mat,I x.Beacon.Epoch,I x.Beacon.Local,I x.Beacon.True,I x.Beacon.Err,I x.Sync.MatA,I x.Sync.EpochA,I x.Sync.LocalA,I x.Sync.MatB,I x.Sync.EpochB,I x.Sync.LocalB,I x.Sync.Min,I x.Sync.Max,I x.Hand.Bib,I x.Hand.Position,I x.Hand.Lo,I x.Hand.Hi,I x.Silence.Mat,I x.Silence.Epoch,I x.Silence.Lo,I x.Silence.Hi,I x.Pair.A,I x.Pair.B,I x.Report.Case,I x.Report.Bib,I x.Report.Offence,I x.Report.Position,I x.Protest.Case,I x.Protest.By,I x.Protest.Fee,I x.Protest.Form,I x.Ruling.Case,I x.Ruling.Instance,I x.Ruling.Kind,I x.Ruling.Bib,I x.Ruling.Position,I x.Ruling.Amount,I x.Appeal.Case,.bool x.Appeal.Suspends,I x.Void.Crew,I x.Void.No]
abbrev Un:Part:={Mat:=0,Laps:=0,Parts:=[]}
abbrev Uj:Cond:={Kind:=0,Var:=0,N:=0,Parts:=[]}
abbrev Uu:Step:={Kind:=0,By:=0,Cond:=Uj,Then:=[],Else:=[]}
abbrev Ut:Starter:={Bib:=0,Distance:=0,Wave:=0,Slot:=0,Age:=0,Chip:=0,Team:=0,Lot:=0}
abbrev Up:Read:={Mat:=0,Epoch:=0,Chip:=0,Local:=0}
abbrev Ui:Beacon:={Mat:=0,Epoch:=0,Local:=0,True:=0,Err:=0}
abbrev Uv:Sync:={MatA:=0,EpochA:=0,LocalA:=0,MatB:=0,EpochB:=0,LocalB:=0,Min:=0,Max:=0}
abbrev Um:Hand:={Bib:=0,Position:=0,Lo:=0,Hi:=0}
abbrev Us:Silence:={Mat:=0,Epoch:=0,Lo:=0,Hi:=0}
abbrev Uq:Report:={Case:=0,Bib:=0,Offence:=0,Position:=0}
abbrev Uo:Protest:={Case:=0,By:=0,Fee:=0,Form:=0}
abbrev Ur:Ruling:={Case:=0,Instance:=0,Kind:=0,Bib:=0,Position:=0,Amount:=0}
abbrev Uk:Fact:={Crew:=0,No:=0,At:=0,Kind:=0,Starter:=Ut,Read:=Up,Beacon:=Ui,Sync:=Uv,Hand:=Um,Silence:=Us,Pair:={A:=0,B:=0:Pair},Report:=Uq,Protest:=Uo,Ruling:=Ur,Appeal:={Case:=0,Suspends:=false:Appeal},Void:={Crew:=0,No:=0:Ref}}
structure Ue where
  from_:Int
  to_:Int
  deriving DecidableEq
def Ue.c(x:Ue):List Go.Sw.A:=[I x.from_,I x.to_]
structure Ug where
  distance:Int
  category:Int
  rank:Int
  deriving DecidableEq
def Ug.c(x:Ug):List Go.Sw.A:=[I x.distance,I x.category,I x.rank]
structure Uh where
  Step:Step
def Uh.c(x:Uh):List Go.Sw.A:=[I x.Step.Kind,I x.Step.By,I x.Step.Cond.Kind,I x.Step.Cond.Var,I x.Step.Cond.N,.rsl 4 (List.map Cond.enc x.Step.Cond.Parts),.rsl 8 (List.map Step.enc x.Step.Then),.rsl 8 (List.map Step.enc x.Step.Else)]
structure Uc where
  Cond:Cond
def Uc.c(x:Uc):List Go.Sw.A:=[I x.Cond.Kind,I x.Cond.Var,I x.Cond.N,.rsl 4 (List.map Cond.enc x.Cond.Parts)]
inductive Uf where
  |ctyping_step (x:Uh)
  |ctyping_cond (x:Uc)
def Uf.val:Uf->A
  |.ctyping_step x=>.iface 282 (.agg (Uh.c x))
  |.ctyping_cond x=>.iface 321 (.agg (Uc.c x))
def Uf.enc(x:Uf):List A:=[x.val]
def Uf.elim{R:Type}(e:Uf)(f0:Uh->Option R)(f1:Uc->Option R):Option R:=match e with
  |.ctyping_step x=>f0 x
  |.ctyping_cond x=>f1 x
theorem Uf.data(x:Uf):Ym x.val=true:=by cases x<;>rfl
theorem Jp(e:Uf):(∃x,e=.ctyping_step x)\/(∃x,e=.ctyping_cond x):=by cases e<;>simp
theorem Jg{R:Type}{e:Uf}{x:Uh}{f0:Uh->Option R}{f1:Uc->Option R}{r:R}(hE:e=.ctyping_step x)(h:Uf.elim e f0 f1=some r):f0 x=some r:=by subst hE;exact h
theorem Jf{R:Type}{e:Uf}{x:Uc}{f0:Uh->Option R}{f1:Uc->Option R}{r:R}(hE:e=.ctyping_cond x)(h:Uf.elim e f0 f1=some r):f1 x=some r:=by subst hE;exact h
structure Ud where
  steps:Int
  conds:Int
  deriving DecidableEq
def Ud.c(x:Ud):List Go.Sw.A:=[I x.steps,I x.conds]
structure Ua where
  least:Int
  most:Int
  deriving DecidableEq
def Ua.c(x:Ua):List Go.Sw.A:=[I x.least,I x.most]
structure Value where
  Kind:Int
  N:Int
  S:List UInt8
  L:List Value
mutual
def Value.enc:Value->List A
  |⟨x0,x1,x2,x3⟩=>[I x0,I x1,.str x2,.rsl 4 (Value.encs x3)]
def Value.encs:List Value->List (List A)
  |[]=>[]
  |x::l=>Value.enc x::Value.encs l
end
theorem QfK(l:List Value):Value.encs l=List.map Value.enc l:=by induction l with|nil=>simp[Value.encs]|cons x l h=>simp[Value.encs,h]
def Value.c(x:Value):List Go.Sw.A:=[I x.Kind,I x.N,.str x.S,.rsl 4 (List.map Value.enc x.L)]
theorem QbC(x:Value):Value.enc x=Value.c x:=by cases x;simp[Value.enc,Value.c,QfK]
abbrev Ub:=Fil Fact Report
abbrev Ub.K:FK Fact Report:={T:=123,tF:=68,kF:=57,tR:=60,kR:=4,eF:=Fact.c,eR:=Report.c}
def Ub.c(x:Ub):List Go.Sw.A:=[I x.number,.rsl 57 (List.map Fact.c x.r0),.rsl 57 (List.map Fact.c x.r1),.rsl 57 (List.map Fact.c x.r2),.rsl 4 (List.map Report.c x.reports),.bool x.appeal]
def Ub.ptr(x:Ub):List Go.Sw.A:=[.rp (Ub.c x)]
abbrev Ul:Faults:={Misses:=0,Strays:=0,Window:=0,Residual:=0,Drift:=0}
theorem Ql3:QD prog 129 [(0,1),(1,1),(2,1)]:=⟨_,runUnderlying129,(Eg sizeOf3 (Eg sizeOf3 (Eg sizeOf83 PL.nil)))⟩
theorem el_83:QN prog 83 129 3:=⟨runUnderlying83,sizeOf129,⟨_,zeroValue129,rfl⟩,⟨_,typeInfo129,by decide⟩⟩
theorem Qom:QD prog 86 [(0,1),(1,1),(2,1),(3,1),(4,1)]:=⟨_,runUnderlying86,(Eg sizeOf9 (Eg sizeOf83 (Eg sizeOf3 (Eg sizeOf84 (Eg sizeOf3 PL.nil)))))⟩
theorem Qol:QD prog 88 [(0,1),(1,1)]:=⟨_,runUnderlying88,(Eg sizeOf9 (Eg sizeOf3 PL.nil))⟩
theorem el_22:QN prog 22 88 2:=⟨runUnderlying22,sizeOf88,⟨_,zeroValue88,rfl⟩,⟨_,typeInfo88,by decide⟩⟩
theorem Ql2:QD prog 131 [(0,1),(1,1),(2,1),(3,1)]:=⟨_,runUnderlying131,(Eg sizeOf3 (Eg sizeOf3 (Eg sizeOf3 (Eg sizeOf3 PL.nil))))⟩
theorem el_23:QN prog 23 131 4:=⟨runUnderlying23,sizeOf131,⟨_,zeroValue131,rfl⟩,⟨_,typeInfo131,by decide⟩⟩
theorem el_24:QN prog 24 86 5:=⟨runUnderlying24,sizeOf86,⟨_,zeroValue86,rfl⟩,⟨_,typeInfo86,by decide⟩⟩
theorem Ql1:QD prog 133 [(0,1),(1,1)]:=⟨_,runUnderlying133,(Eg sizeOf9 (Eg sizeOf3 PL.nil))⟩
theorem el_25:QN prog 25 133 2:=⟨runUnderlying25,sizeOf133,⟨_,zeroValue133,rfl⟩,⟨_,typeInfo133,by decide⟩⟩
theorem Ql0:QD prog 138 [(0,1),(1,1),(2,4),(6,1),(7,1)]:=⟨_,runUnderlying138,(Eg sizeOf3 (Eg sizeOf3 (Eg sizeOf136 (Eg sizeOf29 (Eg sizeOf29 PL.nil)))))⟩
theorem el_29:QN prog 29 138 8:=⟨runUnderlying29,sizeOf138,⟨_,zeroValue138,rfl⟩,⟨_,typeInfo138,by decide⟩⟩
theorem Qot:QD prog 33 [(0,1),(1,1),(2,1),(3,1),(4,1),(5,1),(6,1),(7,1),(8,1),(9,5),(14,1),(15,1)]:=⟨_,runUnderlying33,(Eg sizeOf9 (Eg sizeOf22 (Eg sizeOf23 (Eg sizeOf24 (Eg sizeOf25 (Eg sizeOf26 (Eg sizeOf27 (Eg sizeOf28 (Eg sizeOf29 (Eg sizeOf31 (Eg sizeOf3 (Eg sizeOf3 PL.nil))))))))))))⟩
theorem Qoq:QD prog 60 [(0,1),(1,1),(2,1),(3,1)]:=⟨_,runUnderlying60,(Eg sizeOf3 (Eg sizeOf3 (Eg sizeOf3 (Eg sizeOf3 PL.nil))))⟩
theorem Qon:QD prog 68 [(0,1),(1,1),(2,1),(3,1),(4,8),(12,4),(16,5),(21,8),(29,4),(33,4),(37,2),(39,4),(43,4),(47,6),(53,2),(55,2)]:=⟨_,runUnderlying68,(Eg sizeOf3 (Eg sizeOf3 (Eg sizeOf3 (Eg sizeOf3 (Eg sizeOf46 (Eg sizeOf48 (Eg sizeOf50 (Eg sizeOf52 (Eg sizeOf54 (Eg sizeOf56 (Eg sizeOf58 (Eg sizeOf60 (Eg sizeOf36 (Eg sizeOf62 (Eg sizeOf64 (Eg sizeOf66 PL.nil))))))))))))))))⟩
theorem Qor:QD prog 46 [(0,1),(1,1),(2,1),(3,1),(4,1),(5,1),(6,1),(7,1)]:=⟨_,runUnderlying46,(Eg sizeOf3 (Eg sizeOf3 (Eg sizeOf3 (Eg sizeOf3 (Eg sizeOf3 (Eg sizeOf3 (Eg sizeOf3 (Eg sizeOf3 PL.nil))))))))⟩
theorem Qab:QN prog 34 68 57:=⟨runUnderlying34,sizeOf68,⟨_,zeroValue68,rfl⟩,⟨_,typeInfo68,by decide⟩⟩
theorem Jw:QN prog 178 5 1:=⟨runUnderlying178,sizeOf5,⟨_,zeroValue5,rfl⟩,⟨_,typeInfo5,by decide⟩⟩
theorem Qcm:Y6 prog 9 A.str:=Y6.str underlying9
theorem Yh:QN prog 40 3 1:=⟨runUnderlying40,sizeOf3,⟨_,zeroValue3,rfl⟩,⟨_,typeInfo3,by decide⟩⟩
theorem Qmt:prog.underlying 142=some (.struct (prog.fieldsOf 142)):=by kernel_rfl
theorem Qo8:prog.stoodInHeld 142=false:=by kernel_rfl
theorem Qeo:Y6 prog 142 (λx=>A.agg (Ue.c x)):=by
  refine Y6.struct Qmt Zf (λx y h=>?_) (λw em x=>?_) (λw x y=>?_) (λx=>?_)
  · cases x;cases y
    simpa[QA,YO,Ue.c]using h
  · simp only[QA,YO,Ue.c]
    rw[show(10000:Nat)=9998+1+1 from rfl];generalize(9998:Nat)=d;simp[Instr.checkKey,runUnderlying142,runUnderlying3,Result.andThen,sizeOf3,isAgg3,part]
  · have u3:=underlying3
    have a3:=isAgg3;have z3:=sizeOf3;simp only[QA,YO,Ue.c,Op.equal,Op.maxDepth];rw[show(10000:Nat)=9999+1 from Z,run_equalIn_agg w 9999 142 _ _ Qmt Qo8];simp only[Program.fieldsOf,underlying142]
    go_simp
    cases x;cases y;simp
    repeat' split
    all_goals simp_all
  · simp[QA,YO,Ue.c,Instr.sameBits]
theorem Qo3:QD prog 142 [(0,1),(1,1)]:=⟨_,runUnderlying142,(Eg sizeOf3 (Eg sizeOf3 PL.nil))⟩
theorem Qms:prog.underlying 233=some (.struct (prog.fieldsOf 233)):=by kernel_rfl
theorem Qo7:prog.stoodInHeld 233=false:=by kernel_rfl
theorem QnO:Y6 prog 233 (λx=>A.agg (Ug.c x)):=by
  refine Y6.struct Qms Zf (λx y h=>?_) (λw em x=>?_) (λw x y=>?_) (λx=>?_)
  · cases x;cases y
    simpa[QA,YO,Ug.c]using h
  · simp only[QA,YO,Ug.c]
    rw[show(10000:Nat)=9998+1+1 from rfl];generalize(9998:Nat)=d;simp[Instr.checkKey,runUnderlying233,runUnderlying3,Result.andThen,sizeOf3,isAgg3,part]
  · have u3:=underlying3
    have a3:=isAgg3;have z3:=sizeOf3;simp only[QA,YO,Ug.c,Op.equal,Op.maxDepth];rw[show(10000:Nat)=9999+1 from Z,run_equalIn_agg w 9999 233 _ _ Qms Qo7];simp only[Program.fieldsOf,underlying233]
    go_simp
    cases x;cases y;simp
    repeat' split
    all_goals simp_all
  · simp[QA,YO,Ug.c,Instr.sameBits]
theorem QoY:QD prog 233 [(0,1),(1,1),(2,1)]:=⟨_,runUnderlying233,(Eg sizeOf3 (Eg sizeOf3 (Eg sizeOf3 PL.nil)))⟩
theorem QlV:QD prog 282 [(0,8)]:=⟨_,runUnderlying282,(Eg sizeOf138 PL.nil)⟩
theorem QcD:QN prog 236 279 1:=⟨runUnderlying236,sizeOf279,⟨_,zeroValue279,rfl⟩,⟨_,typeInfo279,by decide⟩⟩
theorem QlW:QD prog 275 [(0,1),(1,1)]:=⟨_,runUnderlying275,(Eg sizeOf3 (Eg sizeOf3 PL.nil))⟩
theorem QlU:QD prog 321 [(0,4)]:=⟨_,runUnderlying321,(Eg sizeOf136 PL.nil)⟩
theorem YR:Y6 prog 3 (λx=>A.int .i64 x):=Y6.int underlying3
theorem Qoy:prog.underlying 66=some (.struct (prog.fieldsOf 66)):=by kernel_rfl
theorem ns_66:prog.stoodInHeld 66=false:=by kernel_rfl
theorem Qmm:Y6 prog 66 (λx=>A.agg (Ref.c x)):=by
  refine Y6.struct Qoy Zf (λx y h=>?_) (λw em x=>?_) (λw x y=>?_) (λx=>?_)
  · cases x;cases y
    simpa[QA,YO,Ref.c]using h
  · simp only[QA,YO,Ref.c]
    rw[show(10000:Nat)=9998+1+1 from rfl];generalize(9998:Nat)=d;simp[Instr.checkKey,runUnderlying66,runUnderlying3,Result.andThen,sizeOf3,isAgg3,part]
  · have u3:=underlying3
    have a3:=isAgg3;have z3:=sizeOf3;simp only[QA,YO,Ref.c,Op.equal,Op.maxDepth];rw[show(10000:Nat)=9999+1 from Z,run_equalIn_agg w 9999 66 _ _ Qoy ns_66];simp only[Program.fieldsOf,underlying66]
    go_simp
    cases x;cases y;simp
    repeat' split
    all_goals simp_all
  · simp[QA,YO,Ref.c,Instr.sameBits]
theorem Qh6:QY prog 68 14 53 2:=FA runUnderlying68 rfl sizeOf64
theorem QnU:QY prog 64 1 1 1:=FA runUnderlying64 rfl sizeOf4
theorem QnT:QY prog 68 3 3 1:=FA runUnderlying68 rfl sizeOf3
theorem QlX:QD prog 168 [(0,1),(1,2)]:=⟨_,runUnderlying168,(Eg sizeOf162 (Eg sizeOf166 PL.nil))⟩
theorem QlY:QD prog 166 [(0,1),(1,1)]:=⟨_,runUnderlying166,(Eg sizeOf3 (Eg sizeOf3 PL.nil))⟩
theorem Ji:QN prog 156 168 3:=⟨runUnderlying156,sizeOf168,⟨_,zeroValue168,rfl⟩,⟨_,typeInfo168,by decide⟩⟩
theorem QlZ:QD prog 158 [(0,1),(1,1)]:=⟨_,runUnderlying158,(Eg sizeOf156 (Eg sizeOf37 PL.nil))⟩
theorem Qh7:QY prog 68 11 39 4:=FA runUnderlying68 rfl sizeOf60
theorem QnX:QY prog 60 0 0 1:=FA runUnderlying60 rfl sizeOf3
theorem QaO:QY prog 68 13 47 6:=FA runUnderlying68 rfl sizeOf62
theorem QnW:QY prog 62 0 0 1:=FA runUnderlying62 rfl sizeOf3
theorem Qca:QY prog 62 1 1 1:=FA runUnderlying62 rfl sizeOf3
theorem QnV:QY prog 64 0 0 1:=FA runUnderlying64 rfl sizeOf3
inductive U_facts_open_rxk where
  |c0 (x:Unit)
  |c1 (x:Unit)
  |c2 (x:Unit)
  |c3 (x:Unit)
  |c4 (x:Unit)
  |c5 (x:Unit)
  |c6 (x:Unit)
  |c7 (x:Unit)
  |c8 (x:Unit)
  |c9 (x:Int×Int×Int×Int×Int×Int)
  |c10 (x:Unit)
  |c11 (x:Unit)
  |c12 (x:Unit)
  |c13 (x:Unit)
theorem QmB:QY prog 168 0 0 1:=FA runUnderlying168 rfl sizeOf162
def Fact.put(x:Fact)(o:Nat)(v:Int):Option Fact:=match o with
  |0=>some {x with Crew:=v}
  |1=>some {x with No:=v}
  |2=>some {x with At:=v}
  |3=>some {x with Kind:=v}
  |4=>some {x with Starter:={x.Starter with Bib:=v}}
  |5=>some {x with Starter:={x.Starter with Distance:=v}}
  |6=>some {x with Starter:={x.Starter with Wave:=v}}
  |7=>some {x with Starter:={x.Starter with Slot:=v}}
  |8=>some {x with Starter:={x.Starter with Age:=v}}
  |9=>some {x with Starter:={x.Starter with Chip:=v}}
  |10=>some {x with Starter:={x.Starter with Team:=v}}
  |11=>some {x with Starter:={x.Starter with Lot:=v}}
  |12=>some {x with Read:={x.Read with Mat:=v}}
  |13=>some {x with Read:={x.Read with Epoch:=v}}
  |14=>some {x with Read:={x.Read with Chip:=v}}
  |15=>some {x with Read:={x.Read with Local:=v}}
  |16=>some {x with Beacon:={x.Beacon with Mat:=v}}
  |17=>some {x with Beacon:={x.Beacon with Epoch:=v}}
  |18=>some {x with Beacon:={x.Beacon with Local:=v}}
  |19=>some {x with Beacon:={x.Beacon with True:=v}}
  |20=>some {x with Beacon:={x.Beacon with Err:=v}}
  |21=>some {x with Sync:={x.Sync with MatA:=v}}
  |22=>some {x with Sync:={x.Sync with EpochA:=v}}
  |23=>some {x with Sync:={x.Sync with LocalA:=v}}
  |24=>some {x with Sync:={x.Sync with MatB:=v}}
  |25=>some {x with Sync:={x.Sync with EpochB:=v}}
  |26=>some {x with Sync:={x.Sync with LocalB:=v}}
  |27=>some {x with Sync:={x.Sync with Min:=v}}
  |28=>some {x with Sync:={x.Sync with Max:=v}}
  |29=>some {x with Hand:={x.Hand with Bib:=v}}
  |30=>some {x with Hand:={x.Hand with Position:=v}}
  |31=>some {x with Hand:={x.Hand with Lo:=v}}
  |32=>some {x with Hand:={x.Hand with Hi:=v}}
  |33=>some {x with Silence:={x.Silence with Mat:=v}}
  |34=>some {x with Silence:={x.Silence with Epoch:=v}}
  |35=>some {x with Silence:={x.Silence with Lo:=v}}
  |36=>some {x with Silence:={x.Silence with Hi:=v}}
  |37=>some {x with Pair:={x.Pair with A:=v}}
  |38=>some {x with Pair:={x.Pair with B:=v}}
  |39=>some {x with Report:={x.Report with Case:=v}}
  |40=>some {x with Report:={x.Report with Bib:=v}}
  |41=>some {x with Report:={x.Report with Offence:=v}}
  |42=>some {x with Report:={x.Report with Position:=v}}
  |43=>some {x with Protest:={x.Protest with Case:=v}}
  |44=>some {x with Protest:={x.Protest with By:=v}}
  |45=>some {x with Protest:={x.Protest with Fee:=v}}
  |46=>some {x with Protest:={x.Protest with Form:=v}}
  |47=>some {x with Ruling:={x.Ruling with Case:=v}}
  |48=>some {x with Ruling:={x.Ruling with Instance:=v}}
  |49=>some {x with Ruling:={x.Ruling with Kind:=v}}
  |50=>some {x with Ruling:={x.Ruling with Bib:=v}}
  |51=>some {x with Ruling:={x.Ruling with Position:=v}}
  |52=>some {x with Ruling:={x.Ruling with Amount:=v}}
  |53=>some {x with Appeal:={x.Appeal with Case:=v}}
  |55=>some {x with Void:={x.Void with Crew:=v}}
  |56=>some {x with Void:={x.Void with No:=v}}
  |_=>none
theorem QoV:∀(x:Fact) (o:Nat) (v:Int) (y:Fact),Fact.put x o v=some y->Fact.c y=(Fact.c x).set o (I v)/\o<(Fact.c x).length:=by
  intro x o v y h;unfold Fact.put at h;split at h<;>first|(cases h;exact⟨Z,XS Z⟩)|cases h
theorem nt_68:prog.stoodInHeld 68=false:=by kernel_rfl
theorem Qou:prog.stoodInHeld 66=false:=by kernel_rfl
theorem nt_64:prog.stoodInHeld 64=false:=by kernel_rfl
theorem nt_62:prog.stoodInHeld 62=false:=by kernel_rfl
theorem nt_36:prog.stoodInHeld 36=false:=by kernel_rfl
theorem nt_60:prog.stoodInHeld 60=false:=by kernel_rfl
theorem nt_58:prog.stoodInHeld 58=false:=by kernel_rfl
theorem nt_56:prog.stoodInHeld 56=false:=by kernel_rfl
theorem nt_54:prog.stoodInHeld 54=false:=by kernel_rfl
theorem nt_52:prog.stoodInHeld 52=false:=by kernel_rfl
theorem nt_50:prog.stoodInHeld 50=false:=by kernel_rfl
theorem nt_48:prog.stoodInHeld 48=false:=by kernel_rfl
theorem nt_46:prog.stoodInHeld 46=false:=by kernel_rfl
theorem Qpp:EqD prog 68 Fact.c:=by
  refine QkA (QM underlying68 nt_68 isAgg68 sizeOf68 (Qnq.cons Z (by decide) (QlA.int underlying3 isAgg3 sizeOf3 1) Zf (Qnq.cons Z (by decide) (QlA.int underlying3 isAgg3 sizeOf3 1) Zf (Qnq.cons Z (by decide) (QlA.int underlying3 isAgg3 sizeOf3 1) Zf (Qnq.cons Z (by decide) (QlA.int underlying3 isAgg3 sizeOf3 1) Zf (Qnq.cons Z (by decide) (QM underlying46 nt_46 isAgg46 sizeOf46 (Qnq.cons Z (by decide) (QlA.int underlying3 isAgg3 sizeOf3 0) Zf (Qnq.cons Z (by decide) (QlA.int underlying3 isAgg3 sizeOf3 0) Zf (Qnq.cons Z (by decide) (QlA.int underlying3 isAgg3 sizeOf3 0) Zf (Qnq.cons Z (by decide) (QlA.int underlying3 isAgg3 sizeOf3 0) Zf (Qnq.cons Z (by decide) (QlA.int underlying3 isAgg3 sizeOf3 0) Zf (Qnq.cons Z (by decide) (QlA.int underlying3 isAgg3 sizeOf3 0) Zf (Qnq.cons Z (by decide) (QlA.int underlying3 isAgg3 sizeOf3 0) Zf (Qnq.cons Z (by decide) (QlA.int underlying3 isAgg3 sizeOf3 0) Zf (Qnq.nil _ _)))))))))) (λe=>Bool.noConfusion e) (Qnq.cons Z (by decide) (QM underlying48 nt_48 isAgg48 sizeOf48 (Qnq.cons Z (by decide) (QlA.int underlying3 isAgg3 sizeOf3 0) Zf (Qnq.cons Z (by decide) (QlA.int underlying3 isAgg3 sizeOf3 0) Zf (Qnq.cons Z (by decide) (QlA.int underlying3 isAgg3 sizeOf3 0) Zf (Qnq.cons Z (by decide) (QlA.int underlying3 isAgg3 sizeOf3 0) Zf (Qnq.nil _ _)))))) (λe=>Bool.noConfusion e) (Qnq.cons Z (by decide) (QM underlying50 nt_50 isAgg50 sizeOf50 (Qnq.cons Z (by decide) (QlA.int underlying3 isAgg3 sizeOf3 0) Zf (Qnq.cons Z (by decide) (QlA.int underlying3 isAgg3 sizeOf3 0) Zf (Qnq.cons Z (by decide) (QlA.int underlying3 isAgg3 sizeOf3 0) Zf (Qnq.cons Z (by decide) (QlA.int underlying3 isAgg3 sizeOf3 0) Zf (Qnq.cons Z (by decide) (QlA.int underlying3 isAgg3 sizeOf3 0) Zf (Qnq.nil _ _))))))) (λe=>Bool.noConfusion e) (Qnq.cons Z (by decide) (QM underlying52 nt_52 isAgg52 sizeOf52 (Qnq.cons Z (by decide) (QlA.int underlying3 isAgg3 sizeOf3 0) Zf (Qnq.cons Z (by decide) (QlA.int underlying3 isAgg3 sizeOf3 0) Zf (Qnq.cons Z (by decide) (QlA.int underlying3 isAgg3 sizeOf3 0) Zf (Qnq.cons Z (by decide) (QlA.int underlying3 isAgg3 sizeOf3 0) Zf (Qnq.cons Z (by decide) (QlA.int underlying3 isAgg3 sizeOf3 0) Zf (Qnq.cons Z (by decide) (QlA.int underlying3 isAgg3 sizeOf3 0) Zf (Qnq.cons Z (by decide) (QlA.int underlying3 isAgg3 sizeOf3 0) Zf (Qnq.cons Z (by decide) (QlA.int underlying3 isAgg3 sizeOf3 0) Zf (Qnq.nil _ _)))))))))) (λe=>Bool.noConfusion e) (Qnq.cons Z (by decide) (QM underlying54 nt_54 isAgg54 sizeOf54 (Qnq.cons Z (by decide) (QlA.int underlying3 isAgg3 sizeOf3 0) Zf (Qnq.cons Z (by decide) (QlA.int underlying3 isAgg3 sizeOf3 0) Zf (Qnq.cons Z (by decide) (QlA.int underlying3 isAgg3 sizeOf3 0) Zf (Qnq.cons Z (by decide) (QlA.int underlying3 isAgg3 sizeOf3 0) Zf (Qnq.nil _ _)))))) (λe=>Bool.noConfusion e) (Qnq.cons Z (by decide) (QM underlying56 nt_56 isAgg56 sizeOf56 (Qnq.cons Z (by decide) (QlA.int underlying3 isAgg3 sizeOf3 0) Zf (Qnq.cons Z (by decide) (QlA.int underlying3 isAgg3 sizeOf3 0) Zf (Qnq.cons Z (by decide) (QlA.int underlying3 isAgg3 sizeOf3 0) Zf (Qnq.cons Z (by decide) (QlA.int underlying3 isAgg3 sizeOf3 0) Zf (Qnq.nil _ _)))))) (λe=>Bool.noConfusion e) (Qnq.cons Z (by decide) (QM underlying58 nt_58 isAgg58 sizeOf58 (Qnq.cons Z (by decide) (QlA.int underlying3 isAgg3 sizeOf3 0) Zf (Qnq.cons Z (by decide) (QlA.int underlying3 isAgg3 sizeOf3 0) Zf (Qnq.nil _ _)))) (λe=>Bool.noConfusion e) (Qnq.cons Z (by decide) (QM underlying60 nt_60 isAgg60 sizeOf60 (Qnq.cons Z (by decide) (QlA.int underlying3 isAgg3 sizeOf3 0) Zf (Qnq.cons Z (by decide) (QlA.int underlying3 isAgg3 sizeOf3 0) Zf (Qnq.cons Z (by decide) (QlA.int underlying3 isAgg3 sizeOf3 0) Zf (Qnq.cons Z (by decide) (QlA.int underlying3 isAgg3 sizeOf3 0) Zf (Qnq.nil _ _)))))) (λe=>Bool.noConfusion e) (Qnq.cons Z (by decide) (QM underlying36 nt_36 isAgg36 sizeOf36 (Qnq.cons Z (by decide) (QlA.int underlying3 isAgg3 sizeOf3 0) Zf (Qnq.cons Z (by decide) (QlA.int underlying3 isAgg3 sizeOf3 0) Zf (Qnq.cons Z (by decide) (QlA.int underlying3 isAgg3 sizeOf3 0) Zf (Qnq.cons Z (by decide) (QlA.int underlying3 isAgg3 sizeOf3 0) Zf (Qnq.nil _ _)))))) (λe=>Bool.noConfusion e) (Qnq.cons Z (by decide) (QM underlying62 nt_62 isAgg62 sizeOf62 (Qnq.cons Z (by decide) (QlA.int underlying3 isAgg3 sizeOf3 0) Zf (Qnq.cons Z (by decide) (QlA.int underlying3 isAgg3 sizeOf3 0) Zf (Qnq.cons Z (by decide) (QlA.int underlying3 isAgg3 sizeOf3 0) Zf (Qnq.cons Z (by decide) (QlA.int underlying3 isAgg3 sizeOf3 0) Zf (Qnq.cons Z (by decide) (QlA.int underlying3 isAgg3 sizeOf3 0) Zf (Qnq.cons Z (by decide) (QlA.int underlying3 isAgg3 sizeOf3 0) Zf (Qnq.nil _ _)))))))) (λe=>Bool.noConfusion e) (Qnq.cons Z (by decide) (QM underlying64 nt_64 isAgg64 sizeOf64 (Qnq.cons Z (by decide) (QlA.int underlying3 isAgg3 sizeOf3 0) Zf (Qnq.cons Z (by decide) (QlA.bool underlying4 isAgg4 sizeOf4 0) Zf (Qnq.nil _ _)))) (λe=>Bool.noConfusion e) (Qnq.cons Z (by decide) (QM underlying66 Qou isAgg66 sizeOf66 (Qnq.cons Z (by decide) (QlA.int underlying3 isAgg3 sizeOf3 0) Zf (Qnq.cons Z (by decide) (QlA.int underlying3 isAgg3 sizeOf3 0) Zf (Qnq.nil _ _)))) (λe=>Bool.noConfusion e) (Qnq.nil _ _)))))))))))))))))) Z (λx=>⟨[_],_,Z,⟨_,Z⟩,[_],_,Z,⟨_,Z⟩,[_],_,Z,⟨_,Z⟩,[_],_,Z,⟨_,Z⟩,[_,_,_,_,_,_,_,_],_,Z,⟨[_],_,Z,⟨_,Z⟩,[_],_,Z,⟨_,Z⟩,[_],_,Z,⟨_,Z⟩,[_],_,Z,⟨_,Z⟩,[_],_,Z,⟨_,Z⟩,[_],_,Z,⟨_,Z⟩,[_],_,Z,⟨_,Z⟩,[_],_,Z,⟨_,Z⟩,Z⟩,[_,_,_,_],_,Z,⟨[_],_,Z,⟨_,Z⟩,[_],_,Z,⟨_,Z⟩,[_],_,Z,⟨_,Z⟩,[_],_,Z,⟨_,Z⟩,Z⟩,[_,_,_,_,_],_,Z,⟨[_],_,Z,⟨_,Z⟩,[_],_,Z,⟨_,Z⟩,[_],_,Z,⟨_,Z⟩,[_],_,Z,⟨_,Z⟩,[_],_,Z,⟨_,Z⟩,Z⟩,[_,_,_,_,_,_,_,_],_,Z,⟨[_],_,Z,⟨_,Z⟩,[_],_,Z,⟨_,Z⟩,[_],_,Z,⟨_,Z⟩,[_],_,Z,⟨_,Z⟩,[_],_,Z,⟨_,Z⟩,[_],_,Z,⟨_,Z⟩,[_],_,Z,⟨_,Z⟩,[_],_,Z,⟨_,Z⟩,Z⟩,[_,_,_,_],_,Z,⟨[_],_,Z,⟨_,Z⟩,[_],_,Z,⟨_,Z⟩,[_],_,Z,⟨_,Z⟩,[_],_,Z,⟨_,Z⟩,Z⟩,[_,_,_,_],_,Z,⟨[_],_,Z,⟨_,Z⟩,[_],_,Z,⟨_,Z⟩,[_],_,Z,⟨_,Z⟩,[_],_,Z,⟨_,Z⟩,Z⟩,[_,_],_,Z,⟨[_],_,Z,⟨_,Z⟩,[_],_,Z,⟨_,Z⟩,Z⟩,[_,_,_,_],_,Z,⟨[_],_,Z,⟨_,Z⟩,[_],_,Z,⟨_,Z⟩,[_],_,Z,⟨_,Z⟩,[_],_,Z,⟨_,Z⟩,Z⟩,[_,_,_,_],_,Z,⟨[_],_,Z,⟨_,Z⟩,[_],_,Z,⟨_,Z⟩,[_],_,Z,⟨_,Z⟩,[_],_,Z,⟨_,Z⟩,Z⟩,[_,_,_,_,_,_],_,Z,⟨[_],_,Z,⟨_,Z⟩,[_],_,Z,⟨_,Z⟩,[_],_,Z,⟨_,Z⟩,[_],_,Z,⟨_,Z⟩,[_],_,Z,⟨_,Z⟩,[_],_,Z,⟨_,Z⟩,Z⟩,[_,_],_,Z,⟨[_],_,Z,⟨_,Z⟩,[_],_,Z,⟨_,Z⟩,Z⟩,[_,_],_,Z,⟨[_],_,Z,⟨_,Z⟩,[_],_,Z,⟨_,Z⟩,Z⟩,Z⟩) Zf (λx y h=>?_) (by kernel_rfl);obtain⟨p1,p2,p3,p4,⟨p5,p6,p7,p8,p9,p10,p11,p12⟩,⟨p13,p14,p15,p16⟩,⟨p17,p18,p19,p20,p21⟩,⟨p22,p23,p24,p25,p26,p27,p28,p29⟩,⟨p30,p31,p32,p33⟩,⟨p34,p35,p36,p37⟩,⟨p38,p39⟩,⟨p40,p41,p42,p43⟩,⟨p44,p45,p46,p47⟩,⟨p48,p49,p50,p51,p52,p53⟩,⟨p54,p55⟩,⟨p56,p57⟩⟩:=x;obtain⟨q58,q59,q60,q61,⟨q62,q63,q64,q65,q66,q67,q68,q69⟩,⟨q70,q71,q72,q73⟩,⟨q74,q75,q76,q77,q78⟩,⟨q79,q80,q81,q82,q83,q84,q85,q86⟩,⟨q87,q88,q89,q90⟩,⟨q91,q92,q93,q94⟩,⟨q95,q96⟩,⟨q97,q98,q99,q100⟩,⟨q101,q102,q103,q104⟩,⟨q105,q106,q107,q108,q109,q110⟩,⟨q111,q112⟩,⟨q113,q114⟩⟩:=y;simpa[QA,YO,Fact.c,Starter.c,Read.c,Beacon.c,Sync.c,Hand.c,Silence.c,Pair.c,Report.c,Protest.c,Ruling.c,Appeal.c,Ref.c,and_assoc]using h
theorem Qi9:QD prog 264 [(0,1),(1,1),(2,1),(3,1)]:=⟨_,runUnderlying264,(Eg sizeOf3 (Eg sizeOf3 (Eg sizeOf9 (Eg sizeOf262 PL.nil))))⟩
theorem QmM:QN prog 262 264 4:=⟨runUnderlying262,sizeOf264,⟨_,zeroValue264,rfl⟩,⟨_,typeInfo264,by decide⟩⟩
theorem Qh8:QY prog 264 2 2 1:=FA runUnderlying264 rfl sizeOf9
theorem Qhd:QN prog 117 119 1:=⟨runUnderlying117,sizeOf119,⟨_,zeroValue119,rfl⟩,⟨_,typeInfo119,by decide⟩⟩
theorem Qh9:QY prog 123 0 0 1:=FA runUnderlying123 rfl sizeOf3
theorem QaP:QY prog 123 1 1 3:=FA runUnderlying123 rfl sizeOf120
theorem Qoo:QD prog 66 [(0,1),(1,1)]:=⟨_,runUnderlying66,(Eg sizeOf3 (Eg sizeOf3 PL.nil))⟩
theorem QoA:QN prog 76 66 2:=⟨runUnderlying76,sizeOf66,⟨_,zeroValue66,rfl⟩,⟨_,typeInfo66,by decide⟩⟩
theorem Qos:QD prog 36 [(0,1),(1,1),(2,1),(3,1)]:=⟨_,runUnderlying36,(Eg sizeOf3 (Eg sizeOf3 (Eg sizeOf3 (Eg sizeOf3 PL.nil))))⟩
theorem Ql4:QD prog 107 [(0,1)]:=⟨_,runUnderlying107,(Eg sizeOf37 PL.nil)⟩
theorem Qps:QN prog 108 107 1:=⟨runUnderlying108,sizeOf107,⟨_,zeroValue107,rfl⟩,⟨_,typeInfo107,by decide⟩⟩
theorem Qjc(m:List (Int×Fact))(hl:Nat.ble (List.map Prod.fst m).length Qq=true):C prog 82 [.fn (.func 208) [] [.ptr 0 0]] [.cells 147 [.map 1],.fmap (Qk (λx=>A.int .i64 x) (λx=>A.agg (Fact.c x)) m)] (λr H=>∃p:List Int,p.Perm (List.map Prod.fst m)/\r=.osl 2 0 p.length 1/\H=[.dead,.fmap (Qk (λx=>A.int .i64 x) (λx=>A.agg (Fact.c x)) m),.row 3 1 (List.map (Qj .i64) p)]):=
  QgB func82 Z Z Z (λenv H h=>OpC.fn (xs:=[.const (.slice none 0 0),.tmp 3]) call163 Z Z (by show[_,lk env 3]=_;rw[h];rfl)) (QgC func163 Z Z Z Yh isAgg40 sizeOf40 call208 (Qfo func208 Z Z Z isAgg147 underlying147 Zf) hl Zf Zf Zf Zf Zf)
theorem Qoz:QN prog 95 46 8:=⟨runUnderlying95,sizeOf46,⟨_,zeroValue46,rfl⟩,⟨_,typeInfo46,by decide⟩⟩
theorem QkL(m:List (Int×Bool))(hl:Nat.ble (List.map Prod.fst m).length Qq=true):C prog 82 [.fn (.func 84) [] [.ptr 0 0]] [.cells 78 [.map 1],.fmap (Qk (λx=>A.int .i64 x) A.bool m)] (λr H=>∃p:List Int,p.Perm (List.map Prod.fst m)/\r=.osl 2 0 p.length 1/\H=[.dead,.fmap (Qk (λx=>A.int .i64 x) A.bool m),.row 3 1 (List.map (Qj .i64) p)]):=
  QgB func82 Z Z Z (λenv H h=>OpC.fn (xs:=[.const (.slice none 0 0),.tmp 3]) call163 Z Z (by show[_,lk env 3]=_;rw[h];rfl)) (QgC func163 Z Z Z Yh isAgg40 sizeOf40 call84 (Qfo func84 Z Z Z isAgg78 underlying78 Zf) hl Zf Zf Zf Zf Zf)
theorem Qop:QD prog 62 [(0,1),(1,1),(2,1),(3,1),(4,1),(5,1)]:=⟨_,runUnderlying62,(Eg sizeOf3 (Eg sizeOf3 (Eg sizeOf3 (Eg sizeOf3 (Eg sizeOf3 (Eg sizeOf3 PL.nil))))))⟩
theorem Qpr:QN prog 134 136 4:=⟨runUnderlying134,sizeOf136,⟨_,zeroValue136,rfl⟩,⟨_,typeInfo136,by decide⟩⟩
theorem Qpq:EqD prog 66 Ref.c:=by
  refine QkA (QM underlying66 Qou isAgg66 sizeOf66 (Qnq.cons Z (by decide) (QlA.int underlying3 isAgg3 sizeOf3 0) Zf (Qnq.cons Z (by decide) (QlA.int underlying3 isAgg3 sizeOf3 0) Zf (Qnq.nil _ _)))) Z (λx=>⟨[_],_,Z,⟨_,Z⟩,[_],_,Z,⟨_,Z⟩,Z⟩) Zf (λx y h=>?_) (by kernel_rfl);obtain⟨p1,p2⟩:=x;obtain⟨q3,q4⟩:=y;simpa[QA,YO,Ref.c,and_assoc]using h
theorem pl_31:QD prog 31 [(0,1),(1,1),(2,1),(3,1),(4,1)]:=⟨_,runUnderlying31,(Eg sizeOf3 (Eg sizeOf3 (Eg sizeOf3 (Eg sizeOf3 (Eg sizeOf3 PL.nil)))))⟩
theorem pl_48:QD prog 48 [(0,1),(1,1),(2,1),(3,1)]:=⟨_,runUnderlying48,(Eg sizeOf3 (Eg sizeOf3 (Eg sizeOf3 (Eg sizeOf3 PL.nil))))⟩
theorem pl_50:QD prog 50 [(0,1),(1,1),(2,1),(3,1),(4,1)]:=⟨_,runUnderlying50,(Eg sizeOf3 (Eg sizeOf3 (Eg sizeOf3 (Eg sizeOf3 (Eg sizeOf3 PL.nil)))))⟩
theorem pl_52:QD prog 52 [(0,1),(1,1),(2,1),(3,1),(4,1),(5,1),(6,1),(7,1)]:=⟨_,runUnderlying52,(Eg sizeOf3 (Eg sizeOf3 (Eg sizeOf3 (Eg sizeOf3 (Eg sizeOf3 (Eg sizeOf3 (Eg sizeOf3 (Eg sizeOf3 PL.nil))))))))⟩
theorem pl_54:QD prog 54 [(0,1),(1,1),(2,1),(3,1)]:=⟨_,runUnderlying54,(Eg sizeOf3 (Eg sizeOf3 (Eg sizeOf3 (Eg sizeOf3 PL.nil))))⟩
theorem pl_56:QD prog 56 [(0,1),(1,1),(2,1),(3,1)]:=⟨_,runUnderlying56,(Eg sizeOf3 (Eg sizeOf3 (Eg sizeOf3 (Eg sizeOf3 PL.nil))))⟩
theorem pl_58:QD prog 58 [(0,1),(1,1)]:=⟨_,runUnderlying58,(Eg sizeOf3 (Eg sizeOf3 PL.nil))⟩
theorem pl_64:QD prog 64 [(0,1),(1,1)]:=⟨_,runUnderlying64,(Eg sizeOf3 (Eg sizeOf4 PL.nil))⟩
theorem Qo4:QD prog 136 [(0,1),(1,1),(2,1),(3,1)]:=⟨_,runUnderlying136,(Eg sizeOf3 (Eg sizeOf3 (Eg sizeOf3 (Eg sizeOf134 PL.nil))))⟩
theorem Qo2:QD prog 185 [(0,1),(1,1),(2,1),(3,1)]:=⟨_,runUnderlying185,(Eg sizeOf9 (Eg sizeOf3 (Eg sizeOf3 (Eg sizeOf4 PL.nil))))⟩
theorem Qo1:QD prog 187 [(0,1),(1,1),(2,1)]:=⟨_,runUnderlying187,(Eg sizeOf9 (Eg sizeOf3 (Eg sizeOf3 PL.nil)))⟩
theorem Qo0:QD prog 192 [(0,1),(1,1),(2,1),(3,1)]:=⟨_,runUnderlying192,(Eg sizeOf3 (Eg sizeOf3 (Eg sizeOf3 (Eg sizeOf3 PL.nil))))⟩
theorem QoZ:QD prog 200 [(0,1),(1,1),(2,1)]:=⟨_,runUnderlying200,(Eg sizeOf3 (Eg sizeOf3 (Eg sizeOf3 PL.nil)))⟩
theorem QoX:QD prog 307 [(0,1)]:=⟨_,runUnderlying307,(Eg sizeOf305 PL.nil)⟩
def tyT:TyI:={fld:=[(86,0,0),(129,2,2),(33,1,1),(33,2,2),(33,3,3),(33,4,4),(33,5,5),(33,6,6),(33,7,7),(86,1,1),(86,3,3),(88,0,0),(133,0,0),(185,0,0),(187,0,0),(33,0,0),(88,1,1),(131,0,0),(131,1,1),(131,2,2),(131,3,3),(129,1,1),(129,0,0),(200,0,0),(200,1,1),(200,2,2),(86,2,2),(86,4,4),(133,1,1),(185,3,3),(185,1,1),(185,2,2),(187,1,1),(187,2,2),(192,0,0),(192,1,1),(192,2,2),(192,3,3),(33,9,9),(31,0,0),(31,1,1),(31,2,2),(31,3,3),(31,4,4),(33,10,14),(33,11,15),(321,0,0),(136,0,0),(136,1,1),(136,2,2),(136,3,3),(282,0,0),(138,3,6),(138,4,7),(275,0,0),(138,2,2),(275,1,1),(138,0,0),(138,1,1),(33,8,8),(68,3,3),(68,4,4),(46,0,0),(46,1,1),(46,2,2),(46,3,3),(46,4,4),(46,5,5),(46,6,6),(46,7,7),(68,5,12),(48,0,0),(48,1,1),(48,2,2),(48,3,3),(68,6,16),(50,0,0),(50,1,1),(50,2,2),(50,3,3),(50,4,4),(68,7,21),(52,0,0),(52,1,1),(52,2,2),(52,3,3),(52,4,4),(52,5,5),(52,6,6),(52,7,7),(68,8,29),(54,0,0),(54,1,1),(54,2,2),(54,3,3),(68,9,33),(56,0,0),(56,1,1),(56,2,2),(56,3,3),(68,10,37),(58,0,0),(58,1,1),(68,11,39),(60,0,0),(60,1,1),(60,2,2),(60,3,3),(68,12,43),(36,0,0),(36,1,1),(36,2,2),(36,3,3),(68,13,47),(62,2,2),(62,0,0),(62,1,1),(62,3,3),(62,4,4),(62,5,5),(68,14,53),(64,0,0),(68,15,55),(66,0,0),(66,1,1),(68,0,0),(68,1,1),(68,2,2),(158,0,0),(64,1,1),(158,1,1),(168,0,0),(168,1,1),(166,0,0),(166,1,1),(264,2,2),(264,3,3),(264,1,1),(264,0,0),(307,0,0),(107,0,0)],agg:=[(86,true,5),(9,false,1),(33,true,16),(129,true,3),(83,false,1),(22,false,1),(23,false,1),(24,false,1),(25,false,1),(26,false,1),(27,false,1),(28,false,1),(84,false,1),(5,false,1),(88,true,2),(133,true,2),(185,true,4),(187,true,3),(3,false,1),(221,false,1),(217,false,1),(131,true,4),(142,true,2),(212,false,1),(215,false,1),(200,true,3),(145,false,1),(226,false,1),(4,false,1),(218,false,1),(229,false,1),(219,false,1),(192,true,4),(233,true,3),(31,true,5),(138,true,8),(134,false,1),(29,false,1),(136,true,4),(282,true,8),(321,true,4),(279,false,1),(238,false,1),(140,false,1),(34,false,1),(166,true,2),(158,true,2),(250,false,1),(251,false,1),(252,false,1),(253,false,1),(68,true,57),(37,false,1),(168,true,3),(162,false,1),(262,false,1),(264,true,4),(308,false,1),(305,false,1),(125,false,1),(173,false,1),(119,false,1),(169,false,1),(66,true,2),(46,true,8),(78,false,1),(36,true,4)],zer:=[(129,[I 0,I 0,.rsl 3 (List.map Part.enc [])],[(0,1),(1,1),(2,1)]),(86,[.str [],.rsl 3 (List.map Part.enc []),I 0,.rsl 3 (List.map Cutoff.c []),I 0],[(0,1),(1,1),(2,1),(3,1),(4,1)]),(88,[.str [],I 0],[(0,1),(1,1)]),(131,[I 0,I 0,I 0,I 0],[(0,1),(1,1),(2,1),(3,1)]),(133,[.str [],I 0],[(0,1),(1,1)]),(138,[I 0,I 0,I 0,I 0,I 0,.rsl 4 (List.map Cond.enc []),.rsl 8 (List.map Step.enc []),.rsl 8 (List.map Step.enc [])],[(0,1),(1,1),(2,4),(6,1),(7,1)]),(33,[.str [],.rsl 2 (List.map Mat.c []),.rsl 4 (List.map Leg.c []),.rsl 5 (List.map Distance.c []),.rsl 2 (List.map Wave.c []),.rsl 4 (List.map Offence.c []),.rsl 3 (List.map Category.c []),.rsl 4 (List.map Prize.c []),.rsl 8 (List.map Step.enc []),I 0,I 0,I 0,I 0,I 0,I 0,I 0],[(0,1),(1,1),(2,1),(3,1),(4,1),(5,1),(6,1),(7,1),(8,1),(9,5),(14,1),(15,1)]),(142,[I 0,I 0],[(0,1),(1,1)]),(233,[I 0,I 0,I 0],[(0,1),(1,1),(2,1)]),(282,[I 0,I 0,I 0,I 0,I 0,.rsl 4 (List.map Cond.enc []),.rsl 8 (List.map Step.enc []),.rsl 8 (List.map Step.enc [])],[(0,8)]),(321,[I 0,I 0,I 0,.rsl 4 (List.map Cond.enc [])],[(0,4)]),(275,[I 0,I 0],[(0,1),(1,1)]),(168,[.nilp,I 0,I 0],[(0,1),(1,2)]),(166,[I 0,I 0],[(0,1),(1,1)]),(158,[.nils,.nilf],[(0,1),(1,1)]),(264,[I 0,I 0,.str [],.rsl 4 (List.map Value.enc [])],[(0,1),(1,1),(2,1),(3,1)]),(66,[I 0,I 0],[(0,1),(1,1)]),(107,[.nilf],[(0,1)]),(60,[I 0,I 0,I 0,I 0],[(0,1),(1,1),(2,1),(3,1)]),(68,[I 0,I 0,I 0,I 0,I 0,I 0,I 0,I 0,I 0,I 0,I 0,I 0,I 0,I 0,I 0,I 0,I 0,I 0,I 0,I 0,I 0,I 0,I 0,I 0,I 0,I 0,I 0,I 0,I 0,I 0,I 0,I 0,I 0,I 0,I 0,I 0,I 0,I 0,I 0,I 0,I 0,I 0,I 0,I 0,I 0,I 0,I 0,I 0,I 0,I 0,I 0,I 0,I 0,I 0,.bool false,I 0,I 0],[(0,1),(1,1),(2,1),(3,1),(4,8),(12,4),(16,5),(21,8),(29,4),(33,4),(37,2),(39,4),(43,4),(47,6),(53,2),(55,2)]),(46,[I 0,I 0,I 0,I 0,I 0,I 0,I 0,I 0],[(0,1),(1,1),(2,1),(3,1),(4,1),(5,1),(6,1),(7,1)]),(36,[I 0,I 0,I 0,I 0],[(0,1),(1,1),(2,1),(3,1)]),(62,[I 0,I 0,I 0,I 0,I 0,I 0],[(0,1),(1,1),(2,1),(3,1),(4,1),(5,1)])]}
def tyF:List (Nat×List (Nat×Nat)):=[(31,[(0,1),(1,1),(2,1),(3,1),(4,1)]),(33,[(0,1),(1,1),(2,1),(3,1),(4,1),(5,1),(6,1),(7,1),(8,1),(9,5),(14,1),(15,1)]),(36,[(0,1),(1,1),(2,1),(3,1)]),(46,[(0,1),(1,1),(2,1),(3,1),(4,1),(5,1),(6,1),(7,1)]),(48,[(0,1),(1,1),(2,1),(3,1)]),(50,[(0,1),(1,1),(2,1),(3,1),(4,1)]),(52,[(0,1),(1,1),(2,1),(3,1),(4,1),(5,1),(6,1),(7,1)]),(54,[(0,1),(1,1),(2,1),(3,1)]),(56,[(0,1),(1,1),(2,1),(3,1)]),(58,[(0,1),(1,1)]),(60,[(0,1),(1,1),(2,1),(3,1)]),(62,[(0,1),(1,1),(2,1),(3,1),(4,1),(5,1)]),(64,[(0,1),(1,1)]),(66,[(0,1),(1,1)]),(68,[(0,1),(1,1),(2,1),(3,1),(4,8),(12,4),(16,5),(21,8),(29,4),(33,4),(37,2),(39,4),(43,4),(47,6),(53,2),(55,2)]),(86,[(0,1),(1,1),(2,1),(3,1),(4,1)]),(88,[(0,1),(1,1)]),(107,[(0,1)]),(129,[(0,1),(1,1),(2,1)]),(131,[(0,1),(1,1),(2,1),(3,1)]),(133,[(0,1),(1,1)]),(136,[(0,1),(1,1),(2,1),(3,1)]),(138,[(0,1),(1,1),(2,4),(6,1),(7,1)]),(158,[(0,1),(1,1)]),(166,[(0,1),(1,1)]),(168,[(0,1),(1,2)]),(185,[(0,1),(1,1),(2,1),(3,1)]),(187,[(0,1),(1,1),(2,1)]),(192,[(0,1),(1,1),(2,1),(3,1)]),(200,[(0,1),(1,1),(2,1)]),(264,[(0,1),(1,1),(2,1),(3,1)]),(275,[(0,1),(1,1)]),(282,[(0,8)]),(307,[(0,1)]),(321,[(0,4)])]
theorem tyOK:TyOK prog tyT:=
  ⟨Qpk (L:=tyF) (yc pl_31 (yc Qot (yc Qos (yc Qor (yc pl_48 (yc pl_50 (yc pl_52 (yc pl_54 (yc pl_56 (yc pl_58 (yc Qoq (yc Qop (yc pl_64 (yc Qoo (yc Qon (yc Qom (yc Qol (yc Ql4 (yc Ql3 (yc Ql2 (yc Ql1 (yc Qo4 (yc Ql0 (yc QlZ (yc QlY (yc QlX (yc Qo2 (yc Qo1 (yc Qo0 (yc QoZ (yc Qi9 (yc QlW (yc QlV (yc QoX (yc QlU (List.forall_mem_nil _)))))))))))))))))))))))))))))))))))) (by kernel_rfl),
   yc ⟨isAgg86,sizeOf86⟩ (yc ⟨isAgg9,sizeOf9⟩ (yc ⟨isAgg33,sizeOf33⟩ (yc ⟨isAgg129,sizeOf129⟩ (yc ⟨isAgg83,sizeOf83⟩ (yc ⟨isAgg22,sizeOf22⟩ (yc ⟨isAgg23,sizeOf23⟩ (yc ⟨isAgg24,sizeOf24⟩ (yc ⟨isAgg25,sizeOf25⟩ (yc ⟨isAgg26,sizeOf26⟩ (yc ⟨isAgg27,sizeOf27⟩ (yc ⟨isAgg28,sizeOf28⟩ (yc ⟨isAgg84,sizeOf84⟩ (yc ⟨isAgg5,sizeOf5⟩ (yc ⟨isAgg88,sizeOf88⟩ (yc ⟨isAgg133,sizeOf133⟩ (yc ⟨isAgg185,sizeOf185⟩ (yc ⟨isAgg187,sizeOf187⟩ (yc ⟨isAgg3,sizeOf3⟩ (yc ⟨isAgg221,sizeOf221⟩ (yc ⟨isAgg217,sizeOf217⟩ (yc ⟨isAgg131,sizeOf131⟩ (yc ⟨isAgg142,sizeOf142⟩ (yc ⟨isAgg212,sizeOf212⟩ (yc ⟨isAgg215,sizeOf215⟩ (yc ⟨isAgg200,sizeOf200⟩ (yc ⟨isAgg145,sizeOf145⟩ (yc ⟨isAgg226,sizeOf226⟩ (yc ⟨isAgg4,sizeOf4⟩ (yc ⟨isAgg218,sizeOf218⟩ (yc ⟨isAgg229,sizeOf229⟩ (yc ⟨isAgg219,sizeOf219⟩ (yc ⟨isAgg192,sizeOf192⟩ (yc ⟨isAgg233,sizeOf233⟩ (yc ⟨isAgg31,sizeOf31⟩ (yc ⟨isAgg138,sizeOf138⟩ (yc ⟨isAgg134,sizeOf134⟩ (yc ⟨isAgg29,sizeOf29⟩ (yc ⟨isAgg136,sizeOf136⟩ (yc ⟨isAgg282,sizeOf282⟩ (yc ⟨isAgg321,sizeOf321⟩ (yc ⟨isAgg279,sizeOf279⟩ (yc ⟨isAgg238,sizeOf238⟩ (yc ⟨isAgg140,sizeOf140⟩ (yc ⟨isAgg34,sizeOf34⟩ (yc ⟨isAgg166,sizeOf166⟩ (yc ⟨isAgg158,sizeOf158⟩ (yc ⟨isAgg250,sizeOf250⟩ (yc ⟨isAgg251,sizeOf251⟩ (yc ⟨isAgg252,sizeOf252⟩ (yc ⟨isAgg253,sizeOf253⟩ (yc ⟨isAgg68,sizeOf68⟩ (yc ⟨isAgg37,sizeOf37⟩ (yc ⟨isAgg168,sizeOf168⟩ (yc ⟨isAgg162,sizeOf162⟩ (yc ⟨isAgg262,sizeOf262⟩ (yc ⟨isAgg264,sizeOf264⟩ (yc ⟨isAgg308,sizeOf308⟩ (yc ⟨isAgg305,sizeOf305⟩ (yc ⟨isAgg125,sizeOf125⟩ (yc ⟨isAgg173,sizeOf173⟩ (yc ⟨isAgg119,sizeOf119⟩ (yc ⟨isAgg169,sizeOf169⟩ (yc ⟨isAgg66,sizeOf66⟩ (yc ⟨isAgg46,sizeOf46⟩ (yc ⟨isAgg78,sizeOf78⟩ (yc ⟨isAgg36,sizeOf36⟩ (List.forall_mem_nil _))))))))))))))))))))))))))))))))))))))))))))))))))))))))))))))))))),
   yc ⟨⟨_,zeroValue129,(ZR.agg (zc En (zc En (zc ZR.rsl ZL.nil))))⟩,Ql3⟩ (yc ⟨⟨_,zeroValue86,(ZR.agg (zc ZR.str (zc ZR.rsl (zc En (zc ZR.rsl (zc En ZL.nil))))))⟩,Qom⟩ (yc ⟨⟨_,zeroValue88,(ZR.agg (zc ZR.str (zc En ZL.nil)))⟩,Qol⟩ (yc ⟨⟨_,zeroValue131,(ZR.agg (zc En (zc En (zc En (zc En ZL.nil)))))⟩,Ql2⟩ (yc ⟨⟨_,zeroValue133,(ZR.agg (zc ZR.str (zc En ZL.nil)))⟩,Ql1⟩ (yc ⟨⟨_,zeroValue138,(ZR.agg (zc En (zc En (zc En (zc En (zc En (zc ZR.rsl (zc ZR.rsl (zc ZR.rsl ZL.nil)))))))))⟩,Ql0⟩ (yc ⟨⟨_,zeroValue33,(ZR.agg (zc ZR.str (zc ZR.rsl (zc ZR.rsl (zc ZR.rsl (zc ZR.rsl (zc ZR.rsl (zc ZR.rsl (zc ZR.rsl (zc ZR.rsl (zc En (zc En (zc En (zc En (zc En (zc En (zc En ZL.nil)))))))))))))))))⟩,Qot⟩ (yc ⟨⟨_,zeroValue142,(ZR.agg (zc En (zc En ZL.nil)))⟩,Qo3⟩ (yc ⟨⟨_,zeroValue233,(ZR.agg (zc En (zc En (zc En ZL.nil))))⟩,QoY⟩ (yc ⟨⟨_,zeroValue282,(ZR.agg (zc En (zc En (zc En (zc En (zc En (zc ZR.rsl (zc ZR.rsl (zc ZR.rsl ZL.nil)))))))))⟩,QlV⟩ (yc ⟨⟨_,zeroValue321,(ZR.agg (zc En (zc En (zc En (zc ZR.rsl ZL.nil)))))⟩,QlU⟩ (yc ⟨⟨_,zeroValue275,(ZR.agg (zc En (zc En ZL.nil)))⟩,QlW⟩ (yc ⟨⟨_,zeroValue168,(ZR.agg (zc ZR.nilp (zc En (zc En ZL.nil))))⟩,QlX⟩ (yc ⟨⟨_,zeroValue166,(ZR.agg (zc En (zc En ZL.nil)))⟩,QlY⟩ (yc ⟨⟨_,zeroValue158,(ZR.agg (zc ZR.nils (zc ZR.nilf ZL.nil)))⟩,QlZ⟩ (yc ⟨⟨_,zeroValue264,(ZR.agg (zc En (zc En (zc ZR.str (zc ZR.rsl ZL.nil)))))⟩,Qi9⟩ (yc ⟨⟨_,zeroValue66,(ZR.agg (zc En (zc En ZL.nil)))⟩,Qoo⟩ (yc ⟨⟨_,zeroValue107,(ZR.agg (zc ZR.nilf ZL.nil))⟩,Ql4⟩ (yc ⟨⟨_,zeroValue60,(ZR.agg (zc En (zc En (zc En (zc En ZL.nil)))))⟩,Qoq⟩ (yc ⟨⟨_,zeroValue68,(ZR.agg (zc En (zc En (zc En (zc En (zc En (zc En (zc En (zc En (zc En (zc En (zc En (zc En (zc En (zc En (zc En (zc En (zc En (zc En (zc En (zc En (zc En (zc En (zc En (zc En (zc En (zc En (zc En (zc En (zc En (zc En (zc En (zc En (zc En (zc En (zc En (zc En (zc En (zc En (zc En (zc En (zc En (zc En (zc En (zc En (zc En (zc En (zc En (zc En (zc En (zc En (zc En (zc En (zc En (zc En (zc ZR.bool (zc En (zc En ZL.nil))))))))))))))))))))))))))))))))))))))))))))))))))))))))))⟩,Qon⟩ (yc ⟨⟨_,zeroValue46,(ZR.agg (zc En (zc En (zc En (zc En (zc En (zc En (zc En (zc En ZL.nil)))))))))⟩,Qor⟩ (yc ⟨⟨_,zeroValue36,(ZR.agg (zc En (zc En (zc En (zc En ZL.nil)))))⟩,Qos⟩ (yc ⟨⟨_,zeroValue62,(ZR.agg (zc En (zc En (zc En (zc En (zc En (zc En ZL.nil)))))))⟩,Qop⟩ (List.forall_mem_nil _)))))))))))))))))))))))⟩
def tyX:TyX:={ty:=tyT,al:=[(33,(.agg [.str [],.rsl 2 (List.map Mat.c []),.rsl 4 (List.map Leg.c []),.rsl 5 (List.map Distance.c []),.rsl 2 (List.map Wave.c []),.rsl 4 (List.map Offence.c []),.rsl 3 (List.map Category.c []),.rsl 4 (List.map Prize.c []),.rsl 8 (List.map Step.enc []),I 0,I 0,I 0,I 0,I 0,I 0,I 0])),(86,(.agg [.str [],.rsl 3 (List.map Part.enc []),I 0,.rsl 3 (List.map Cutoff.c []),I 0])),(129,(.agg [I 0,I 0,.rsl 3 (List.map Part.enc [])])),(88,(.agg [.str [],I 0])),(133,(.agg [.str [],I 0])),(185,(.agg [.str [],I 0,I 0,.bool false])),(187,(.agg [.str [],I 0,I 0])),(142,(.agg [I 0,I 0])),(131,(.agg [I 0,I 0,I 0,I 0])),(233,(.agg [I 0,I 0,I 0])),(192,(.agg [I 0,I 0,I 0,I 0])),(3,(I 0)),(212,.nilf),(215,.nilf),(31,(.agg [I 0,I 0,I 0,I 0,I 0])),(138,(.agg [I 0,I 0,I 0,I 0,I 0,.rsl 4 (List.map Cond.enc []),.rsl 8 (List.map Step.enc []),.rsl 8 (List.map Step.enc [])])),(136,(.agg [I 0,I 0,I 0,.rsl 4 (List.map Cond.enc [])])),(282,(.agg [I 0,I 0,I 0,I 0,I 0,.rsl 4 (List.map Cond.enc []),.rsl 8 (List.map Step.enc []),.rsl 8 (List.map Step.enc [])])),(321,(.agg [I 0,I 0,I 0,.rsl 4 (List.map Cond.enc [])])),(238,.nilm),(140,.nilm),(68,(.agg [I 0,I 0,I 0,I 0,I 0,I 0,I 0,I 0,I 0,I 0,I 0,I 0,I 0,I 0,I 0,I 0,I 0,I 0,I 0,I 0,I 0,I 0,I 0,I 0,I 0,I 0,I 0,I 0,I 0,I 0,I 0,I 0,I 0,I 0,I 0,I 0,I 0,I 0,I 0,I 0,I 0,I 0,I 0,I 0,I 0,I 0,I 0,I 0,I 0,I 0,I 0,I 0,I 0,I 0,.bool false,I 0,I 0])),(158,(.agg [.nils,.nilf])),(250,.nilp),(251,.nilp),(252,.nilp),(253,.nilp),(168,(.agg [.nilp,I 0,I 0])),(264,(.agg [I 0,I 0,.str [],.rsl 4 (List.map Value.enc [])])),(308,.nilp),(169,.nilm),(66,(.agg [I 0,I 0])),(4,(.bool false)),(46,(.agg [I 0,I 0,I 0,I 0,I 0,I 0,I 0,I 0])),(78,.nilm),(36,(.agg [I 0,I 0,I 0,I 0])),(34,.nils)],sl:=[178,236,40,156,34,76,95,108]}
theorem QbJ:QbH prog tyX:=
  ⟨tyOK,
   yc ⟨⟨_,zeroValue33,(zrC Z)⟩,Z,Z⟩ (yc ⟨⟨_,zeroValue86,(zrC Z)⟩,Z,Z⟩ (yc ⟨⟨_,zeroValue129,(zrC Z)⟩,Z,Z⟩ (yc ⟨⟨_,zeroValue88,(zrC Z)⟩,Z,Z⟩ (yc ⟨⟨_,zeroValue133,(zrC Z)⟩,Z,Z⟩ (yc ⟨⟨_,zeroValue185,(zrC Z)⟩,Z,Z⟩ (yc ⟨⟨_,zeroValue187,(zrC Z)⟩,Z,Z⟩ (yc ⟨⟨_,zeroValue142,(zrC Z)⟩,Z,Z⟩ (yc ⟨⟨_,zeroValue131,(zrC Z)⟩,Z,Z⟩ (yc ⟨⟨_,zeroValue233,(zrC Z)⟩,Z,Z⟩ (yc ⟨⟨_,zeroValue192,(zrC Z)⟩,Z,Z⟩ (yc ⟨⟨_,zeroValue3,En⟩,Z,Z⟩ (yc ⟨⟨_,zeroValue212,ZR.nilf⟩,Z,Z⟩ (yc ⟨⟨_,zeroValue215,ZR.nilf⟩,Z,Z⟩ (yc ⟨⟨_,zeroValue31,(zrC Z)⟩,Z,Z⟩ (yc ⟨⟨_,zeroValue138,(zrC Z)⟩,Z,Z⟩ (yc ⟨⟨_,zeroValue136,(zrC Z)⟩,Z,Z⟩ (yc ⟨⟨_,zeroValue282,(zrC Z)⟩,Z,Z⟩ (yc ⟨⟨_,zeroValue321,(zrC Z)⟩,Z,Z⟩ (yc ⟨⟨_,zeroValue238,ZR.nilm⟩,Z,Z⟩ (yc ⟨⟨_,zeroValue140,ZR.nilm⟩,Z,Z⟩ (yc ⟨⟨_,zeroValue68,(zrC Z)⟩,Z,Z⟩ (yc ⟨⟨_,zeroValue158,(zrC Z)⟩,Z,Z⟩ (yc ⟨⟨_,zeroValue250,ZR.nilp⟩,Z,Z⟩ (yc ⟨⟨_,zeroValue251,ZR.nilp⟩,Z,Z⟩ (yc ⟨⟨_,zeroValue252,ZR.nilp⟩,Z,Z⟩ (yc ⟨⟨_,zeroValue253,ZR.nilp⟩,Z,Z⟩ (yc ⟨⟨_,zeroValue168,(zrC Z)⟩,Z,Z⟩ (yc ⟨⟨_,zeroValue264,(zrC Z)⟩,Z,Z⟩ (yc ⟨⟨_,zeroValue308,ZR.nilp⟩,Z,Z⟩ (yc ⟨⟨_,zeroValue169,ZR.nilm⟩,Z,Z⟩ (yc ⟨⟨_,zeroValue66,(zrC Z)⟩,Z,Z⟩ (yc ⟨⟨_,zeroValue4,ZR.bool⟩,Z,Z⟩ (yc ⟨⟨_,zeroValue46,(zrC Z)⟩,Z,Z⟩ (yc ⟨⟨_,zeroValue78,ZR.nilm⟩,Z,Z⟩ (yc ⟨⟨_,zeroValue36,(zrC Z)⟩,Z,Z⟩ (yc ⟨⟨_,zeroValue34,ZR.nils⟩,Z,Z⟩ (List.forall_mem_nil _))))))))))))))))))))))))))))))))))))),
   yc ⟨_,runUnderlying178⟩ (yc ⟨_,runUnderlying236⟩ (yc ⟨_,runUnderlying40⟩ (yc ⟨_,runUnderlying156⟩ (yc ⟨_,runUnderlying34⟩ (yc ⟨_,runUnderlying76⟩ (yc ⟨_,runUnderlying95⟩ (yc ⟨_,runUnderlying108⟩ (List.forall_mem_nil _))))))))⟩
theorem G0{h0 N:Nat}{c:Code}{c':Cf}{k':List Kf}{env env':Env}{H H':Qc}{Q:Qx}(n:Nat)(h:Qi4 tyX h0 N n (.code c) [] env H=some (c',k',env',H'))(g:Hd prog h0 N c' k' env' H' Q):TC prog h0 N c env H Q:=QcM QbJ n h g
theorem Gc{h0 N:Nat}{k:List Kf}{c:Code}{c':Cf}{k':List Kf}{env env':Env}{H H':Qc}{Q:Qx}(n:Nat)(h:Qi4 tyX h0 N n (.code c) k env H=some (c',k',env',H'))(g:Hd prog h0 N c' k' env' H' Q):TC prog h0 N c env H (kq prog h0 N k Q):=QcM QbJ n h g
theorem Go{h0 N:Nat}{k:List Kf}{all:Array Oper}{l:List Oper}{c':Cf}{k':List Kf}{env env':Env}{H H':Qc}{Q:Qx}(n:Nat)(h:Qi4 tyX h0 N n (.ops all l) k env H=some (c',k',env',H'))(g:Hd prog h0 N c' k' env' H' Q):WO prog h0 N all l env H (kq prog h0 N k Q):=QcM QbJ n h g
theorem Gx{h0 N:Nat}{k:List Kf}{x:AEx}{c':Cf}{k':List Kf}{env env':Env}{H H':Qc}{Q:Qx}(n:Nat)(h:Qi4 tyX h0 N n (.out x) k env H=some (c',k',env',H'))(g:Hd prog h0 N c' k' env' H' Q):kq prog h0 N k Q x env H:=QcM QbJ n h g
theorem D{N m:Nat}{l r r':List Oper}{ds:List Nat}{env:Env}{H:Qc}{K:List Oper->Env->Qc->Prop}{xs xs':List A}(n:Nat)(h:QhJ tyX N m l ds env H n xs.length r xs=some (r',xs'))(k:DS prog N m l ds env H K r' xs'):DS prog N m l ds env H K r xs:=QeH QbJ n _ rfl h k
def tyZ:TyZ:={sl:=[(83,129,3),(22,88,2),(23,131,4),(24,86,5),(25,133,2),(26,185,4),(27,187,3),(28,192,4),(84,200,3),(178,5,1),(40,3,1),(29,138,8),(134,136,4),(236,279,1),(262,264,4),(117,119,1),(34,68,57)],fn:=[111,235,185,114,112,116,118,120,122,113,115,117,119,121,187,237,186,124,133,193,240,192,129,195,241,194,136,125,123,189,238,188,126,191,239,190,128,127,148,207,147,138,197,242,196,130,199,243,198,141,201,244,200,131,203,245,202,144,132,134,135,68,137,139,140,142,143,146,288,246,204,276,205,277,248,247,145,149,150,70,69,64,65,66,67,167,168,169,170,171,87,54,176,268,271,270,269,273,232,178,92,96,97,98,57,95,41,94,91,175,172,174,22,56,90,55,23,28,29,42,75,43,44,13,45,152,50,73,35,74,33,34,15,46,48,76,40,47,17,51,25,20,19,26,63,27,10,11,12]}
theorem QeA:Qc3 prog tyZ:=
  ⟨yc ⟨runUnderlying83,sizeOf129⟩ (yc ⟨runUnderlying22,sizeOf88⟩ (yc ⟨runUnderlying23,sizeOf131⟩ (yc ⟨runUnderlying24,sizeOf86⟩ (yc ⟨runUnderlying25,sizeOf133⟩ (yc ⟨runUnderlying26,sizeOf185⟩ (yc ⟨runUnderlying27,sizeOf187⟩ (yc ⟨runUnderlying28,sizeOf192⟩ (yc ⟨runUnderlying84,sizeOf200⟩ (yc ⟨runUnderlying178,sizeOf5⟩ (yc ⟨runUnderlying40,sizeOf3⟩ (yc ⟨runUnderlying29,sizeOf138⟩ (yc ⟨runUnderlying134,sizeOf136⟩ (yc ⟨runUnderlying236,sizeOf279⟩ (yc ⟨runUnderlying262,sizeOf264⟩ (yc ⟨runUnderlying117,sizeOf119⟩ (yc ⟨runUnderlying34,sizeOf68⟩ (List.forall_mem_nil _))))))))))))))))),
   yc call111 (yc call235 (yc call185 (yc call114 (yc call112 (yc call116 (yc call118 (yc call120 (yc call122 (yc call113 (yc call115 (yc call117 (yc call119 (yc call121 (yc call187 (yc call237 (yc call186 (yc call124 (yc call133 (yc call193 (yc call240 (yc call192 (yc call129 (yc call195 (yc call241 (yc call194 (yc call136 (yc call125 (yc call123 (yc call189 (yc call238 (yc call188 (yc call126 (yc call191 (yc call239 (yc call190 (yc call128 (yc call127 (yc call148 (yc call207 (yc call147 (yc call138 (yc call197 (yc call242 (yc call196 (yc call130 (yc call199 (yc call243 (yc call198 (yc call141 (yc call201 (yc call244 (yc call200 (yc call131 (yc call203 (yc call245 (yc call202 (yc call144 (yc call132 (yc call134 (yc call135 (yc call68 (yc call137 (yc call139 (yc call140 (yc call142 (yc call143 (yc call146 (yc call288 (yc call246 (yc call204 (yc call276 (yc call205 (yc call277 (yc call248 (yc call247 (yc call145 (yc call149 (yc call150 (yc call70 (yc call69 (yc call64 (yc call65 (yc call66 (yc call67 (yc call167 (yc call168 (yc call169 (yc call170 (yc call171 (yc call87 (yc call54 (yc call176 (yc call268 (yc call271 (yc call270 (yc call269 (yc call273 (yc call232 (yc call178 (yc call92 (yc call96 (yc call97 (yc call98 (yc call57 (yc call95 (yc call41 (yc call94 (yc call91 (yc call175 (yc call172 (yc call174 (yc call22 (yc call56 (yc call90 (yc call55 (yc call23 (yc call28 (yc call29 (yc call42 (yc call75 (yc call43 (yc call44 (yc call13 (yc call45 (yc call152 (yc call50 (yc call73 (yc call35 (yc call74 (yc call33 (yc call34 (yc call15 (yc call46 (yc call48 (yc call76 (yc call40 (yc call47 (yc call17 (yc call51 (yc call25 (yc call20 (yc call19 (yc call26 (yc call63 (yc call27 (yc call10 (yc call11 (yc call12 (List.forall_mem_nil _)))))))))))))))))))))))))))))))))))))))))))))))))))))))))))))))))))))))))))))))))))))))))))))))))))))))))))))))))))))))))))))))))))))))))))))))))))))⟩
theorem Iz{h0 N:Nat}{all:Array Oper}{o:Oper}{l:List Oper}{env:Env}{H:Qc}{Q:Qx}{d:Nat}{α:Type}{e:α->List A}{t et k:Nat}{L:List α}{kk:IntKind}{i:Int}{v:α}(h:idx L i=some v)(q:ixB o env=some (d,t,k,L.map e,kk,i))(g:WO prog h0 N all l (up env d (.rp (e v))) H Q)(ht:Qch tyZ.sl t=some (et,k):=by exact rfl)(hg:YV all o env=some true:=by exact rfl)(hN:Nat.blt d N=true:=by exact rfl):WO prog h0 N all (o::l) env H Q:=Izz QeA h q g ht hg hN
theorem IzE{h0 N:Nat}{all:Array Oper}{o:Oper}{l:List Oper}{env:Env}{H:Qc}{Q:Qx}{d:Nat}{α:Type}{e:α->List A}{t et k:Nat}{L:List α}{kk:IntKind}{i:Int}{v:α}{cs:List A}(h:idx L i=some v)(he:e v=cs)(q:ixB o env=some (d,t,k,L.map e,kk,i))(g:WO prog h0 N all l (up env d (.rp cs)) H Q)(ht:Qch tyZ.sl t=some (et,k):=by exact rfl)(hg:YV all o env=some true:=by exact rfl)(hN:Nat.blt d N=true:=by exact rfl):WO prog h0 N all (o::l) env H Q:=Ize QeA h he q g ht hg hN
theorem Lm{h0 N:Nat}{all:Array Oper}{o:Oper}{l:List Oper}{env:Env}{H:Qc}{Q:Qx}{d:Nat}{α:Type}{e:α->List A}{t et k k':Nat}{L:List α}(q:lnB o env=some (d,t,.mk (.rsl k (L.map e))))(g:WO prog h0 N all l (up env d (I L.length)) H Q)(ht:Qch tyZ.sl t=some (et,k'):=by exact rfl)(hg:YV all o env=some true:=by exact rfl)(hN:Nat.blt d N=true:=by exact rfl):WO prog h0 N all (o::l) env H Q:=Lmz QeA q g ht hg hN
theorem Cz{h0 N:Nat}{all:Array Oper}{o:Oper}{l:List Oper}{env:Env}{H:Qc}{Q:Qx}{d:Nat}{β γ:Type}{F:Option β}{F':β->Option γ}{r:γ}{f:Nat}{args argsc:List A}{w:β->A}{Hc:Qc}(π:List Nat)(h:F.bind F'=some r)(hC:∀v,F=some v->C prog f argsc Hc (RQ w (λ_=>Hc) v))(hop:QfJ tyZ o env=some (d,f,args))(g:∀v,F=some v->F' v=some r->WO prog h0 N all l (up env d (w v)) H Q)(hv:∀v,Qi1 (w v)=some (.mk (w v)):=by exact λ_=>rfl)(hargs:args=Qaa (rho π H.length) argsc:=by exact rfl)(hH:π.map (λp=>H[p]?)=(Hc.map (QV (rho π H.length))).map some:=by exact rfl)(hπ:π.Nodup:=by decide)(hg:YV all o env=some true:=by exact rfl)(hN:Nat.blt d N=true:=by exact rfl)(hh:Nat.ble h0 H.length=true:=by exact rfl):WO prog h0 N all (o::l) env H Q:=Czz QeA π h hC hop g hv hargs hH hπ hg hN hh
theorem Cb{h0 N:Nat}{all:Array Oper}{o:Oper}{l:List Oper}{env:Env}{H:Qc}{Q:Qx}{d:Nat}{β γ:Type}{F:Option β}{F':β->Option γ}{r:γ}{f:Nat}{args argsc:List A}{w:β->A}(h:F.bind F'=some r)(hC:∀v,F=some v->C prog f argsc [] (RQ w Ze v))(hop:QfJ tyZ o env=some (d,f,args))(hL:Qbk H args argsc)(g:∀v,F=some v->F' v=some r->WO prog h0 N all l (up env d (w v)) H Q)(hv:∀v,Yl (w v)=true:=by exact λ_=>rfl)(hg:YV all o env=some true:=by exact rfl)(hN:Nat.blt d N=true:=by exact rfl):WO prog h0 N all (o::l) env H Q:=Cbz QeA h hC hop hL g hv hg hN
theorem Dz{N m:Nat}{o:Oper}{l ll:List Oper}{ds:List Nat}{xs:List A}{env:Env}{H:Qc}{K:List Oper->Env->Qc->Prop}{d:Nat}{β γ:Type}{F:Option β}{F':β->Option γ}{r:γ}{f:Nat}{args argsc:List A}{w:β->A}{Hc:Qc}(π:List Nat)(h:F.bind F'=some r)(hC:∀v,F=some v->C prog f argsc Hc (RQ w (λ_=>Hc) v))(hop:QfJ tyZ o (Yp (Qg o) 0 ds xs env)=some (d,f,args))(g:∀v,F=some v->F' v=some r->DS prog N m ll ds env H K l (xs++[w v]))(hv:∀v,Qi1 (w v)=some (.mk (w v)):=by exact λ_=>rfl)(hargs:args=Qaa (rho π H.length) argsc:=by exact rfl)(hH:π.map (λp=>H[p]?)=(Hc.map (QV (rho π H.length))).map some:=by exact rfl)(hπ:π.Nodup:=by decide)(hg:YV ll.toArray o (Yp (Qg o) 0 ds xs env)=some true:=by exact rfl)(hN:Nat.blt d N=true:=by exact rfl)(hx:Nat.blt xs.length m=true:=by exact rfl):DS prog N m ll ds env H K (o::l) xs:=DzZ QeA π h hC hop g hv hargs hH hπ hg hN hx
theorem DSs{h0 N id:Nat}{l:List Oper}{env:Env}{H:Qc}{Q:Qx}(m:Nat)(hc:Go.Sw.draw0 l m N (Qbg m 0 l)=true)(h:DS prog N m l (Qbg m 0 l) env H (λr e H=>WO prog h0 N l.toArray r e H Q) l [])(h0B:Nat.ble h0 H.length=true:=by exact rfl):TC prog h0 N (.region id l.toArray true) env H Q:=Qnw (k:=[]) m draws hc h0B h
theorem Da{N m:Nat}{cat:List Nat}{l r r':List Oper}{ds:List Nat}{env:Env}{H:Qc}{K:List Oper->Env->Qc->Prop}{xs xs':List A}(n:Nat)(h:QhK tyX N m cat l ds env H n xs.length r xs=some (r',xs'))(k:DA prog N m cat l ds env H K r' xs'):DA prog N m cat l ds env H K r xs:=QeJ QbJ n _ rfl h k
theorem Db{N m:Nat}{cat:List Nat}{l r r':List Oper}{ds:List Nat}{env:Env}{H H1:Qc}{K:List Oper->Env->Qc->Prop}{xs xs':List A}(n:Nat)(h:QeI tyX N cat l ds env H1 n xs.length r xs=some (r',xs'))(k:DB prog N m cat l ds env H H1 K r' xs'):DB prog N m cat l ds env H H1 K r xs:=QbP QbJ n _ rfl h k
theorem DKs{h0 N id:Nat}{l:List Oper}{env:Env}{H:Qc}{Q:Qx}(m:Nat)(bs:List Nat)(cat:Kat)(hc:Qd2 l m N (Qbg m 0 l) (hsK cat) (rqK bs cat) (msK bs) (plK cat)=true)(h:DK prog N m bs cat l (Qbg m 0 l) env H.length (λr e H=>WO prog h0 N l.toArray r e H Q) [] H l [])(hcl:Nat.beq cat.length m=true:=by exact rfl)(h0B:Nat.ble h0 H.length=true:=by exact rfl):TC prog h0 N (.region id l.toArray true) env H Q:=Qnx m bs cat draws hc hcl h0B h
theorem DAs{h0 N id:Nat}{l:List Oper}{env:Env}{H:Qc}{Q:Qx}(m b:Nat)(cat:List Nat)(hc:Qd2 l m N (Qbg m 0 l) (hsC cat) (rqC b cat) [[],[b]] (plC cat)=true)(h:DA prog N m cat l (Qbg m 0 l) env H (λr e H=>WO prog h0 N l.toArray r e H Q) l [])(hcl:Nat.beq cat.length m=true:=by exact rfl)(h0B:Nat.ble h0 H.length=true:=by exact rfl):TC prog h0 N (.region id l.toArray true) env H Q:=Qnz m b cat draws hc hcl h0B h
theorem Cd{h0 N:Nat}{all:Array Oper}{o:Oper}{l:List Oper}{env:Env}{H:Qc}{Q:Qx}{d:Nat}{β γ:Type}{F:Option β}{F':β->Option γ}{r:γ}{f:Nat}{args argsc:List A}{w:β->A}{Hc:Qc}{Hr:β->Qc}(π:List Nat)(h:F.bind F'=some r)(hC:∀v,F=some v->C prog f argsc Hc (RQ w Hr v))(hop:QfJ tyZ o env=some (d,f,args))(g:∀v,F=some v->F' v=some r->WO prog h0 N all l (up env d (Yx (rho π H.length) (w v))) (Yn H π ((Hr v).map (QV (rho π H.length)))) Q)(hargs:args=Qaa (rho π H.length) argsc:=by exact rfl)(hH:π.map (λp=>H[p]?)=(Hc.map (QV (rho π H.length))).map some:=by exact rfl)(hπ:π.Nodup:=by decide)(hg:YV all o env=some true:=by exact rfl)(hN:Nat.blt d N=true:=by exact rfl)(hh:Nat.ble h0 H.length=true:=by exact rfl):WO prog h0 N all (o::l) env H Q:=Cdz QeA π h hC hop g hargs hH hπ hg hN hh
theorem v0{N:Nat}{l:List Oper}{ds:List Nat}{xs:List A}{env0:Env}{hB hE i:Nat}{H:Qc}{x:A}(hx:xs[i]?=some x)(h:QjV tyT N l ds xs env0 H i=some x):JA prog N l ds xs env0 hB hE i H H:=vQ tyOK hx h
theorem ov{N:Nat}{l:List Oper}{ds:List Nat}{xs:List A}{env0:Env}{i c:Nat}{H:Qc}{x:A}(k:Oq prog N l ds xs env0 H (i+1) c)(hx:xs[i]?=some x:=by exact rfl)(h:QjV tyT N l ds xs env0 H i=some x:=by exact rfl):Oq prog N l ds xs env0 H i (c+1):=.c (vQ tyOK hx h) k
theorem Gy0{T:Type}{X:Ctx T}{st:YSt T}{h0 N:Nat}{c:Code}{c':Cf}{k':List Kf}{env env':Env}{H H':Qc}{Q:Yy T}(n:Nat)(h:Qi3 tyX h0 N n (.code c) [] env H=some (c',k',env',H'))(g:HdY X prog h0 N c' k' env' H' st Q):TCy X prog h0 N c env H st Q:=QcL QbJ n h g
theorem Gyc{T:Type}{X:Ctx T}{st:YSt T}{h0 N:Nat}{k:List Kf}{c:Code}{c':Cf}{k':List Kf}{env env':Env}{H H':Qc}{Q:Yy T}(n:Nat)(h:Qi3 tyX h0 N n (.code c) k env H=some (c',k',env',H'))(g:HdY X prog h0 N c' k' env' H' st Q):TCy X prog h0 N c env H st (kqY X prog h0 N k Q):=QcL QbJ n h g
theorem Gyo{T:Type}{X:Ctx T}{st:YSt T}{h0 N:Nat}{k:List Kf}{all:Array Oper}{l:List Oper}{c':Cf}{k':List Kf}{env env':Env}{H H':Qc}{Q:Yy T}(n:Nat)(h:Qi3 tyX h0 N n (.ops all l) k env H=some (c',k',env',H'))(g:HdY X prog h0 N c' k' env' H' st Q):WOy X prog h0 N all l env H st (kqY X prog h0 N k Q):=QcL QbJ n h g
theorem Gyx{T:Type}{X:Ctx T}{st:YSt T}{h0 N:Nat}{k:List Kf}{x:AEx}{c':Cf}{k':List Kf}{env env':Env}{H H':Qc}{Q:Yy T}(n:Nat)(h:Qi3 tyX h0 N n (.out x) k env H=some (c',k',env',H'))(g:HdY X prog h0 N c' k' env' H' st Q):kqY X prog h0 N k Q x env H st:=QcL QbJ n h g
def lay_contains_236_ren:Go.Shelf.Ren:=⟨λ|144=>236|143=>275|219=>287|217=>290|225=>291|224=>292|267=>293|266=>294|314=>295|n=>n,λ|9=>9|4=>4|3=>3|5=>5|46=>246|146=>359|51=>293|n=>n,λ|1=>11|n=>n⟩
theorem Qdy:Go.Proofs.Lays.n144 prog lay_contains_236_ren:={
  mixed:=by kernel_rfl
  f143:=func275.trans (congrArg some (by kernel_rfl))
  f144:=func236.trans (congrArg some (by kernel_rfl))
  f217:=func290.trans (congrArg some (by kernel_rfl))
  f219:=func287.trans (congrArg some (by kernel_rfl))
  f224:=func292.trans (congrArg some (by kernel_rfl))
  f225:=func291.trans (congrArg some (by kernel_rfl))
  f266:=func294.trans (congrArg some (by kernel_rfl))
  f267:=func293.trans (congrArg some (by kernel_rfl))
  f314:=func295.trans (congrArg some (by kernel_rfl))
  t3:=underlying3
  a3:=isAgg3
  z3:=sizeOf3
  v3:=zeroValue3
  t4:=underlying4
  a4:=isAgg4
  z4:=sizeOf4
  v4:=zeroValue4
  t5:=underlying5
  a5:=isAgg5
  z5:=sizeOf5
  v5:=zeroValue5
  t9:=underlying9
  a9:=isAgg9
  z9:=sizeOf9
  v9:=zeroValue9
  t46:=underlying246
  a46:=isAgg246
  z46:=sizeOf246
  v46:=zeroValue246
  t51:=underlying293
  a51:=isAgg293
  z51:=sizeOf293
  v51:=zeroValue293
  t146:=underlying359
  a146:=isAgg359
  z146:=sizeOf359
  v146:=zeroValue359
  g1:=by kernel_rfl}
def lay_sortK_93_ren:Go.Shelf.Ren:=⟨λ|6=>93|15=>165|14=>177|28=>218|29=>219|20=>224|21=>225|22=>226|23=>227|24=>228|25=>229|26=>230|27=>231|46=>265|47=>250|48=>251|49=>266|50=>267|57=>286|n=>n,λ|22=>34|24=>68|25=>125|3=>3|39=>246|0=>0|53=>293|55=>295|4=>4|46=>286|45=>285|50=>41|5=>5|9=>9|66=>324|70=>162|76=>346|77=>193|n=>n,λ|n=>n⟩
theorem QgY:Go.Proofs.SlLaysF0.n6 prog lay_sortK_93_ren:={
  mixed:=by kernel_rfl
  f6:=⟨f93.name,by decide,func93.trans (congrArg some (by kernel_rfl))⟩
  f14:=⟨f177.name,by decide,func177.trans (congrArg some (by kernel_rfl))⟩
  f15:=func165.trans (congrArg some (by kernel_rfl))
  f20:=⟨f224.name,by decide,func224.trans (congrArg some (by kernel_rfl))⟩
  f21:=⟨f225.name,by decide,func225.trans (congrArg some (by kernel_rfl))⟩
  f22:=⟨f226.name,by decide,func226.trans (congrArg some (by kernel_rfl))⟩
  f23:=⟨f227.name,by decide,func227.trans (congrArg some (by kernel_rfl))⟩
  f24:=⟨f228.name,by decide,func228.trans (congrArg some (by kernel_rfl))⟩
  f25:=⟨f229.name,by decide,func229.trans (congrArg some (by kernel_rfl))⟩
  f26:=⟨f230.name,by decide,func230.trans (congrArg some (by kernel_rfl))⟩
  f27:=⟨f231.name,by decide,func231.trans (congrArg some (by kernel_rfl))⟩
  f28:=func218.trans (congrArg some (by kernel_rfl))
  f29:=func219.trans (congrArg some (by kernel_rfl))
  f46:=⟨f265.name,by decide,func265.trans (congrArg some (by kernel_rfl))⟩
  f47:=func250.trans (congrArg some (by kernel_rfl))
  f48:=func251.trans (congrArg some (by kernel_rfl))
  f49:=⟨f266.name,by decide,func266.trans (congrArg some (by kernel_rfl))⟩
  f50:=⟨f267.name,by decide,func267.trans (congrArg some (by kernel_rfl))⟩
  f57:=⟨f286.name,by decide,func286.trans (congrArg some (by kernel_rfl))⟩
  t0:=underlying0
  a0:=isAgg0
  z0:=sizeOf0
  v0:=zeroValue0
  t3:=underlying3
  a3:=isAgg3
  z3:=sizeOf3
  v3:=zeroValue3
  t4:=underlying4
  a4:=isAgg4
  z4:=sizeOf4
  v4:=zeroValue4
  t5:=underlying5
  a5:=isAgg5
  z5:=sizeOf5
  v5:=zeroValue5
  t9:=underlying9
  a9:=isAgg9
  z9:=sizeOf9
  v9:=zeroValue9
  t22:=underlying34
  a22:=isAgg34
  z22:=sizeOf34
  v22:=zeroValue34
  t25:=underlying125
  a25:=isAgg125
  z25:=sizeOf125
  v25:=zeroValue125
  t39:=underlying246
  a39:=isAgg246
  z39:=sizeOf246
  v39:=zeroValue246
  t45:=underlying285
  a45:=isAgg285
  z45:=sizeOf285
  v45:=zeroValue285
  t46:=underlying286
  a46:=isAgg286
  z46:=sizeOf286
  v46:=zeroValue286
  t50:=underlying41
  a50:=isAgg41
  z50:=sizeOf41
  v50:=zeroValue41
  t53:=underlying293
  a53:=isAgg293
  z53:=sizeOf293
  v53:=zeroValue293
  t55:=underlying295
  a55:=isAgg295
  z55:=sizeOf295
  v55:=zeroValue295
  t66:=underlying324
  a66:=isAgg324
  z66:=sizeOf324
  v66:=zeroValue324
  t70:=underlying162
  a70:=isAgg162
  z70:=sizeOf162
  v70:=zeroValue162
  t76:=underlying346
  a76:=isAgg346
  z76:=sizeOf346
  v76:=zeroValue346
  t77:=underlying193
  a77:=isAgg193
  z77:=sizeOf193
  v77:=zeroValue193}
def lay_sortK_173_ren:Go.Shelf.Ren:=⟨λ|6=>173|15=>165|14=>223|28=>218|29=>219|20=>257|21=>258|22=>259|23=>260|24=>261|25=>262|26=>263|27=>264|46=>283|47=>250|48=>251|49=>284|50=>285|57=>289|n=>n,λ|22=>117|24=>119|25=>173|3=>3|39=>246|0=>0|53=>293|55=>295|4=>4|46=>286|45=>285|50=>41|5=>5|9=>9|66=>324|70=>162|76=>346|77=>193|n=>n,λ|n=>n⟩
theorem QfG:Go.Proofs.SlLaysF0.n6 prog lay_sortK_173_ren:={
  mixed:=by kernel_rfl
  f6:=⟨f173.name,by decide,func173.trans (congrArg some (by kernel_rfl))⟩
  f14:=⟨f223.name,by decide,func223.trans (congrArg some (by kernel_rfl))⟩
  f15:=func165.trans (congrArg some (by kernel_rfl))
  f20:=⟨f257.name,by decide,func257.trans (congrArg some (by kernel_rfl))⟩
  f21:=⟨f258.name,by decide,func258.trans (congrArg some (by kernel_rfl))⟩
  f22:=⟨f259.name,by decide,func259.trans (congrArg some (by kernel_rfl))⟩
  f23:=⟨f260.name,by decide,func260.trans (congrArg some (by kernel_rfl))⟩
  f24:=⟨f261.name,by decide,func261.trans (congrArg some (by kernel_rfl))⟩
  f25:=⟨f262.name,by decide,func262.trans (congrArg some (by kernel_rfl))⟩
  f26:=⟨f263.name,by decide,func263.trans (congrArg some (by kernel_rfl))⟩
  f27:=⟨f264.name,by decide,func264.trans (congrArg some (by kernel_rfl))⟩
  f28:=func218.trans (congrArg some (by kernel_rfl))
  f29:=func219.trans (congrArg some (by kernel_rfl))
  f46:=⟨f283.name,by decide,func283.trans (congrArg some (by kernel_rfl))⟩
  f47:=func250.trans (congrArg some (by kernel_rfl))
  f48:=func251.trans (congrArg some (by kernel_rfl))
  f49:=⟨f284.name,by decide,func284.trans (congrArg some (by kernel_rfl))⟩
  f50:=⟨f285.name,by decide,func285.trans (congrArg some (by kernel_rfl))⟩
  f57:=⟨f289.name,by decide,func289.trans (congrArg some (by kernel_rfl))⟩
  t0:=underlying0
  a0:=isAgg0
  z0:=sizeOf0
  v0:=zeroValue0
  t3:=underlying3
  a3:=isAgg3
  z3:=sizeOf3
  v3:=zeroValue3
  t4:=underlying4
  a4:=isAgg4
  z4:=sizeOf4
  v4:=zeroValue4
  t5:=underlying5
  a5:=isAgg5
  z5:=sizeOf5
  v5:=zeroValue5
  t9:=underlying9
  a9:=isAgg9
  z9:=sizeOf9
  v9:=zeroValue9
  t22:=underlying117
  a22:=isAgg117
  z22:=sizeOf117
  v22:=zeroValue117
  t25:=underlying173
  a25:=isAgg173
  z25:=sizeOf173
  v25:=zeroValue173
  t39:=underlying246
  a39:=isAgg246
  z39:=sizeOf246
  v39:=zeroValue246
  t45:=underlying285
  a45:=isAgg285
  z45:=sizeOf285
  v45:=zeroValue285
  t46:=underlying286
  a46:=isAgg286
  z46:=sizeOf286
  v46:=zeroValue286
  t50:=underlying41
  a50:=isAgg41
  z50:=sizeOf41
  v50:=zeroValue41
  t53:=underlying293
  a53:=isAgg293
  z53:=sizeOf293
  v53:=zeroValue293
  t55:=underlying295
  a55:=isAgg295
  z55:=sizeOf295
  v55:=zeroValue295
  t66:=underlying324
  a66:=isAgg324
  z66:=sizeOf324
  v66:=zeroValue324
  t70:=underlying162
  a70:=isAgg162
  z70:=sizeOf162
  v70:=zeroValue162
  t76:=underlying346
  a76:=isAgg346
  z76:=sizeOf346
  v76:=zeroValue346
  t77:=underlying193
  a77:=isAgg193
  z77:=sizeOf193
  v77:=zeroValue193}
def lay_sortI_83_ren:Go.Shelf.Ren:=⟨λ|189=>83|125=>165|257=>164|128=>218|129=>219|294=>209|295=>210|296=>211|297=>212|298=>213|299=>214|216=>215|300=>216|301=>217|328=>249|329=>250|330=>251|331=>252|332=>253|215=>176|343=>278|n=>n,λ|28=>40|3=>3|46=>246|0=>0|51=>293|53=>295|4=>4|183=>286|182=>285|131=>41|5=>5|9=>9|218=>324|222=>162|228=>346|229=>193|n=>n,λ|n=>n⟩
theorem QcT:Go.Proofs.Lays.n189 prog lay_sortI_83_ren:={
  mixed:=by kernel_rfl
  f125:=func165.trans (congrArg some (by kernel_rfl))
  f128:=func218.trans (congrArg some (by kernel_rfl))
  f129:=func219.trans (congrArg some (by kernel_rfl))
  f189:=func83.trans (congrArg some (by kernel_rfl))
  f215:=func176.trans (congrArg some (by kernel_rfl))
  f216:=func215.trans (congrArg some (by kernel_rfl))
  f257:=func164.trans (congrArg some (by kernel_rfl))
  f294:=func209.trans (congrArg some (by kernel_rfl))
  f295:=func210.trans (congrArg some (by kernel_rfl))
  f296:=func211.trans (congrArg some (by kernel_rfl))
  f297:=func212.trans (congrArg some (by kernel_rfl))
  f298:=func213.trans (congrArg some (by kernel_rfl))
  f299:=func214.trans (congrArg some (by kernel_rfl))
  f300:=func216.trans (congrArg some (by kernel_rfl))
  f301:=func217.trans (congrArg some (by kernel_rfl))
  f328:=func249.trans (congrArg some (by kernel_rfl))
  f329:=func250.trans (congrArg some (by kernel_rfl))
  f330:=func251.trans (congrArg some (by kernel_rfl))
  f331:=func252.trans (congrArg some (by kernel_rfl))
  f332:=func253.trans (congrArg some (by kernel_rfl))
  f343:=func278.trans (congrArg some (by kernel_rfl))
  t0:=underlying0
  a0:=isAgg0
  z0:=sizeOf0
  v0:=zeroValue0
  t3:=underlying3
  a3:=isAgg3
  z3:=sizeOf3
  v3:=zeroValue3
  t4:=underlying4
  a4:=isAgg4
  z4:=sizeOf4
  v4:=zeroValue4
  t5:=underlying5
  a5:=isAgg5
  z5:=sizeOf5
  v5:=zeroValue5
  t9:=underlying9
  a9:=isAgg9
  z9:=sizeOf9
  v9:=zeroValue9
  t28:=underlying40
  a28:=isAgg40
  z28:=sizeOf40
  v28:=zeroValue40
  t46:=underlying246
  a46:=isAgg246
  z46:=sizeOf246
  v46:=zeroValue246
  t51:=underlying293
  a51:=isAgg293
  z51:=sizeOf293
  v51:=zeroValue293
  t53:=underlying295
  a53:=isAgg295
  z53:=sizeOf295
  v53:=zeroValue295
  t131:=underlying41
  a131:=isAgg41
  z131:=sizeOf41
  v131:=zeroValue41
  t182:=underlying285
  a182:=isAgg285
  z182:=sizeOf285
  v182:=zeroValue285
  t183:=underlying286
  a183:=isAgg286
  z183:=sizeOf286
  v183:=zeroValue286
  t218:=underlying324
  a218:=isAgg324
  z218:=sizeOf324
  v218:=zeroValue324
  t222:=underlying162
  a222:=isAgg162
  z222:=sizeOf162
  v222:=zeroValue162
  t228:=underlying346
  a228:=isAgg346
  z228:=sizeOf346
  v228:=zeroValue346
  t229:=underlying193
  a229:=isAgg193
  z229:=sizeOf193
  v229:=zeroValue193}
end Go.Sw
