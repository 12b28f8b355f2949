/- The types of ClocksExact and facts on them. -/
import Derived.Test.YtgjcbknjiemdgaaGreatDoorL3
import Derived.Test.YtgjcbknjiemdgaaGreatDoorProg
set_option linter.unusedVariables false
set_option linter.unusedSimpArgs false
set_option maxRecDepth 100000
set_option maxHeartbeats 4000000
namespace Go.Sw
open Go.Proofs Tryz
theorem draws:prog.follows .mixedOrders=true:=by rfl
structure Faults where
  Misses:Int
  Strays:Int
  Window:Int
  Residual:Int
  Drift:Int
  deriving DecidableEq
def Faults.c(x:Faults):List Go.Sw.A:=[I x.Misses,I x.Strays,I x.Window,I x.Residual,I x.Drift]
structure Mat where
  Name:List UInt8
  Kind:Int
  deriving DecidableEq
def Mat.c(x:Mat):List Go.Sw.A:=[.str x.Name,I x.Kind]
structure Leg where
  From:Int
  To:Int
  Min:Int
  Max:Int
  deriving DecidableEq
def Leg.c(x:Leg):List Go.Sw.A:=[I x.From,I x.To,I x.Min,I x.Max]
structure Part where
  Mat:Int
  Laps:Int
  Parts:List Part
mutual
def Part.enc:Part->List A
  |⟨x0,x1,x2⟩=>[I x0,I x1,.rsl 3 (Part.encs x2)]
def Part.encs:List Part->List (List A)
  |[]=>[]
  |x::l=>Part.enc x::Part.encs l
end
theorem QcZ(l:List Part):Part.encs l=List.map Part.enc l:=by induction l with|nil=>simp[Part.encs]|cons x l h=>simp[Part.encs,h]
def Part.c(x:Part):List Go.Sw.A:=[I x.Mat,I x.Laps,.rsl 3 (List.map Part.enc x.Parts)]
theorem YG(x:Part):Part.enc x=Part.c x:=by cases x;simp[Part.enc,Part.c,QcZ]
structure Cutoff where
  Mat:Int
  Lap:Int
  Limit:Int
  deriving DecidableEq
def Cutoff.c(x:Cutoff):List Go.Sw.A:=[I x.Mat,I x.Lap,I x.Limit]
structure Distance where
  Name:List UInt8
  Route:List Part
  Timing:Int
  Cutoffs:List Cutoff
  Extra:Int
def Distance.c(x:Distance):List Go.Sw.A:=[.str x.Name,.rsl 3 (List.map Part.enc x.Route),I x.Timing,.rsl 3 (List.map Cutoff.c x.Cutoffs),I x.Extra]
structure Wave where
  Name:List UInt8
  Gun:Int
  deriving DecidableEq
def Wave.c(x:Wave):List Go.Sw.A:=[.str x.Name,I x.Gun]
structure Offence where
  Name:List UInt8
  Time:Int
  Laps:Int
  Out:Bool
  deriving DecidableEq
def Offence.c(x:Offence):List Go.Sw.A:=[.str x.Name,I x.Time,I x.Laps,.bool x.Out]
structure Category where
  Name:List UInt8
  From:Int
  To:Int
  deriving DecidableEq
def Category.c(x:Category):List Go.Sw.A:=[.str x.Name,I x.From,I x.To]
structure Prize where
  Distance:Int
  Category:Int
  Rank:Int
  Amount:Int
  deriving DecidableEq
def Prize.c(x:Prize):List Go.Sw.A:=[I x.Distance,I x.Category,I x.Rank,I x.Amount]
structure Cond where
  Kind:Int
  Var:Int
  N:Int
  Parts:List Cond
mutual
def Cond.enc:Cond->List A
  |⟨x0,x1,x2,x3⟩=>[I x0,I x1,I x2,.rsl 4 (Cond.encs x3)]
def Cond.encs:List Cond->List (List A)
  |[]=>[]
  |x::l=>Cond.enc x::Cond.encs l
end
theorem Qc4(l:List Cond):Cond.encs l=List.map Cond.enc l:=by induction l with|nil=>simp[Cond.encs]|cons x l h=>simp[Cond.encs,h]
def Cond.c(x:Cond):List Go.Sw.A:=[I x.Kind,I x.Var,I x.N,.rsl 4 (List.map Cond.enc x.Parts)]
theorem QaW(x:Cond):Cond.enc x=Cond.c x:=by cases x;simp[Cond.enc,Cond.c,Qc4]
structure Step where
  Kind:Int
  By:Int
  Cond:Cond
  Then:List Step
  Else:List Step
mutual
def Step.enc:Step->List A
  |⟨x0,x1,x2,x3,x4⟩=>[I x0,I x1,I x2.Kind,I x2.Var,I x2.N,.rsl 4 (List.map Cond.enc x2.Parts),.rsl 8 (Step.encs x3),.rsl 8 (Step.encs x4)]
def Step.encs:List Step->List (List A)
  |[]=>[]
  |x::l=>Step.enc x::Step.encs l
end
theorem QcV(l:List Step):Step.encs l=List.map Step.enc l:=by induction l with|nil=>simp[Step.encs]|cons x l h=>simp[Step.encs,h]
def Step.c(x:Step):List Go.Sw.A:=[I x.Kind,I x.By,I x.Cond.Kind,I x.Cond.Var,I x.Cond.N,.rsl 4 (List.map Cond.enc x.Cond.Parts),.rsl 8 (List.map Step.enc x.Then),.rsl 8 (List.map Step.enc x.Else)]
theorem YF(x:Step):Step.enc x=Step.c x:=by cases x;simp[Step.enc,Step.c,QcV]
structure Course where
  Name:List UInt8
  Mats:List Mat
  Legs:List Leg
  Distances:List Distance
  Waves:List Wave
  Offences:List Offence
  Categories:List Category
  Prizes:List Prize
  Ties:List Step
  Faults:Faults
  Fee:Int
  Deadline:Int
def Course.c(x:Course):List Go.Sw.A:=[.str x.Name,.rsl 2 (List.map Mat.c x.Mats),.rsl 4 (List.map Leg.c x.Legs),.rsl 5 (List.map Distance.c x.Distances),.rsl 2 (List.map Wave.c x.Waves),.rsl 4 (List.map Offence.c x.Offences),.rsl 3 (List.map Category.c x.Categories),.rsl 4 (List.map Prize.c x.Prizes),.rsl 8 (List.map Step.enc x.Ties),I x.Faults.Misses,I x.Faults.Strays,I x.Faults.Window,I x.Faults.Residual,I x.Faults.Drift,I x.Fee,I x.Deadline]
structure Starter where
  Bib:Int
  Distance:Int
  Wave:Int
  Slot:Int
  Age:Int
  Chip:Int
  Team:Int
  Lot:Int
  deriving DecidableEq
def Starter.c(x:Starter):List Go.Sw.A:=[I x.Bib,I x.Distance,I x.Wave,I x.Slot,I x.Age,I x.Chip,I x.Team,I x.Lot]
structure Read where
  Mat:Int
  Epoch:Int
  Chip:Int
  Local:Int
  deriving DecidableEq
def Read.c(x:Read):List Go.Sw.A:=[I x.Mat,I x.Epoch,I x.Chip,I x.Local]
structure Beacon where
  Mat:Int
  Epoch:Int
  Local:Int
  True:Int
  Err:Int
  deriving DecidableEq
def Beacon.c(x:Beacon):List Go.Sw.A:=[I x.Mat,I x.Epoch,I x.Local,I x.True,I x.Err]
structure Sync where
  MatA:Int
  EpochA:Int
  LocalA:Int
  MatB:Int
  EpochB:Int
  LocalB:Int
  Min:Int
  Max:Int
  deriving DecidableEq
def Sync.c(x:Sync):List Go.Sw.A:=[I x.MatA,I x.EpochA,I x.LocalA,I x.MatB,I x.EpochB,I x.LocalB,I x.Min,I x.Max]
structure Hand where
  Bib:Int
  Position:Int
  Lo:Int
  Hi:Int
  deriving DecidableEq
def Hand.c(x:Hand):List Go.Sw.A:=[I x.Bib,I x.Position,I x.Lo,I x.Hi]
structure Silence where
  Mat:Int
  Epoch:Int
  Lo:Int
  Hi:Int
  deriving DecidableEq
def Silence.c(x:Silence):List Go.Sw.A:=[I x.Mat,I x.Epoch,I x.Lo,I x.Hi]
structure Pair where
  A:Int
  B:Int
  deriving DecidableEq
def Pair.c(x:Pair):List Go.Sw.A:=[I x.A,I x.B]
structure Report where
  Case:Int
  Bib:Int
  Offence:Int
  Position:Int
  deriving DecidableEq
def Report.c(x:Report):List Go.Sw.A:=[I x.Case,I x.Bib,I x.Offence,I x.Position]
structure Protest where
  Case:Int
  By:Int
  Fee:Int
  Form:Int
  deriving DecidableEq
def Protest.c(x:Protest):List Go.Sw.A:=[I x.Case,I x.By,I x.Fee,I x.Form]
structure Ruling where
  Case:Int
  Instance:Int
  Kind:Int
  Bib:Int
  Position:Int
  Amount:Int
  deriving DecidableEq
def Ruling.c(x:Ruling):List Go.Sw.A:=[I x.Case,I x.Instance,I x.Kind,I x.Bib,I x.Position,I x.Amount]
structure Appeal where
  Case:Int
  Suspends:Bool
  deriving DecidableEq
def Appeal.c(x:Appeal):List Go.Sw.A:=[I x.Case,.bool x.Suspends]
structure Ref where
  Crew:Int
  No:Int
  deriving DecidableEq
def Ref.c(x:Ref):List Go.Sw.A:=[I x.Crew,I x.No]
structure Fact where
  Crew:Int
  No:Int
  At:Int
  Kind:Int
  Starter:Starter
  Read:Read
  Beacon:Beacon
  Sync:Sync
  Hand:Hand
  Silence:Silence
  Pair:Pair
  Report:Report
  Protest:Protest
  Ruling:Ruling
  Appeal:Appeal
  Void:Ref
  deriving DecidableEq
def Fact.c(x:Fact):List Go.Sw.A:=[I x.Crew,I x.No,I x.At,I x.Kind,I x.Starter.Bib,I x.Starter.Distance,I x.Starter.Wave,I x.Starter.Slot,I x.Starter.Age,I x.Starter.Chip,I x.Starter.Team,I x.Starter.Lot,I x.Read.Mat,I x.Read.Epoch,I x.Read.Chip,I x.Read.Local,I x.Beacon.Mat,I x.Beacon.Epoch,I x.Beacon.Local,I x.Beacon.True,I x.Beacon.Err,I x.Sync.MatA,I x.Sync.EpochA,I x.Sync.LocalA,I x.Sync.MatB,I x.Sync.EpochB,I x.Sync.LocalB,I x.Sync.Min,I x.Sync.Max,I x.Hand.Bib,I x.Hand.Position,I x.Hand.Lo,I x.Hand.Hi,I x.Silence.Mat,I x.Silence.Epoch,I x.Silence.Lo,I x.Silence.Hi,I x.Pair.A,I x.Pair.B,I x.Report.Case,I x.Report.Bib,I x.Report.Offence,I x.Report.Position,I x.Protest.Case,I x.Protest.By,I x.Protest.Fee,I x.Protest.Form,I x.Ruling.Case,I x.Ruling.Instance,I x.Ruling.Kind,I x.Ruling.Bib,I x.Ruling.Position,I x.Ruling.Amount,I x.Appeal.Case,.bool x.Appeal.Suspends,I x.Void.Crew,I x.Void.No]
abbrev Uj:Cond:={Kind:=0,Var:=0,N:=0,Parts:=[]}
abbrev Uu:Step:={Kind:=0,By:=0,Cond:=Uj,Then:=[],Else:=[]}
structure Segment where
  Mat:Int
  Epoch:Int
  Anchor:Int
  deriving DecidableEq
def Segment.c(x:Segment):List Go.Sw.A:=[I x.Mat,I x.Epoch,I x.Anchor]
structure Ue where
  from_:Int
  to_:Int
  deriving DecidableEq
def Ue.c(x:Ue):List Go.Sw.A:=[I x.from_,I x.to_]
structure Ug where
  distance:Int
  category:Int
  rank:Int
  deriving DecidableEq
def Ug.c(x:Ug):List Go.Sw.A:=[I x.distance,I x.category,I x.rank]
structure Uh where
  Step:Step
def Uh.c(x:Uh):List Go.Sw.A:=[I x.Step.Kind,I x.Step.By,I x.Step.Cond.Kind,I x.Step.Cond.Var,I x.Step.Cond.N,.rsl 4 (List.map Cond.enc x.Step.Cond.Parts),.rsl 8 (List.map Step.enc x.Step.Then),.rsl 8 (List.map Step.enc x.Step.Else)]
structure Uc where
  Cond:Cond
def Uc.c(x:Uc):List Go.Sw.A:=[I x.Cond.Kind,I x.Cond.Var,I x.Cond.N,.rsl 4 (List.map Cond.enc x.Cond.Parts)]
inductive Uf where
  |ctyping_step (x:Uh)
  |ctyping_cond (x:Uc)
def Uf.val:Uf->A
  |.ctyping_step x=>.iface 283 (.agg (Uh.c x))
  |.ctyping_cond x=>.iface 333 (.agg (Uc.c x))
def Uf.enc(x:Uf):List A:=[x.val]
def Uf.elim{R:Type}(e:Uf)(f0:Uh->Option R)(f1:Uc->Option R):Option R:=match e with
  |.ctyping_step x=>f0 x
  |.ctyping_cond x=>f1 x
theorem Uf.data(x:Uf):Yn x.val=true:=by cases x<;>rfl
theorem Je(e:Uf):(∃x,e=.ctyping_step x)\/(∃x,e=.ctyping_cond x):=by cases e<;>simp
theorem Y7{R:Type}{e:Uf}{x:Uh}{f0:Uh->Option R}{f1:Uc->Option R}{r:R}(hE:e=.ctyping_step x)(h:Uf.elim e f0 f1=some r):f0 x=some r:=by subst hE;exact h
theorem Y6{R:Type}{e:Uf}{x:Uc}{f0:Uh->Option R}{f1:Uc->Option R}{r:R}(hE:e=.ctyping_cond x)(h:Uf.elim e f0 f1=some r):f1 x=some r:=by subst hE;exact h
structure Ud where
  steps:Int
  conds:Int
  deriving DecidableEq
def Ud.c(x:Ud):List Go.Sw.A:=[I x.steps,I x.conds]
structure Span where
  Lo:Int
  Hi:Int
  deriving DecidableEq
def Span.c(x:Span):List Go.Sw.A:=[I x.Lo,I x.Hi]
abbrev Um:Faults:={Misses:=0,Strays:=0,Window:=0,Residual:=0,Drift:=0}
abbrev Uk:Course:={Name:=[],Mats:=[],Legs:=[],Distances:=[],Waves:=[],Offences:=[],Categories:=[],Prizes:=[],Ties:=[],Faults:=Um,Fee:=0,Deadline:=0}
structure Ua where
  mat:Int
  epoch:Int
  deriving DecidableEq
def Ua.c(x:Ua):List Go.Sw.A:=[I x.mat,I x.epoch]
structure Ub where
  least:Int
  most:Int
  deriving DecidableEq
def Ub.c(x:Ub):List Go.Sw.A:=[I x.least,I x.most]
abbrev Ut:Starter:={Bib:=0,Distance:=0,Wave:=0,Slot:=0,Age:=0,Chip:=0,Team:=0,Lot:=0}
abbrev Up:Read:={Mat:=0,Epoch:=0,Chip:=0,Local:=0}
abbrev Ui:Beacon:={Mat:=0,Epoch:=0,Local:=0,True:=0,Err:=0}
abbrev Uv:Sync:={MatA:=0,EpochA:=0,LocalA:=0,MatB:=0,EpochB:=0,LocalB:=0,Min:=0,Max:=0}
abbrev Un:Hand:={Bib:=0,Position:=0,Lo:=0,Hi:=0}
abbrev Us:Silence:={Mat:=0,Epoch:=0,Lo:=0,Hi:=0}
abbrev Uq:Report:={Case:=0,Bib:=0,Offence:=0,Position:=0}
abbrev Uo:Protest:={Case:=0,By:=0,Fee:=0,Form:=0}
abbrev Ur:Ruling:={Case:=0,Instance:=0,Kind:=0,Bib:=0,Position:=0,Amount:=0}
abbrev Ul:Fact:={Crew:=0,No:=0,At:=0,Kind:=0,Starter:=Ut,Read:=Up,Beacon:=Ui,Sync:=Uv,Hand:=Un,Silence:=Us,Pair:={A:=0,B:=0:Pair},Report:=Uq,Protest:=Uo,Ruling:=Ur,Appeal:={Case:=0,Suspends:=false:Appeal},Void:={Crew:=0,No:=0:Ref}}
structure Value where
  Kind:Int
  N:Int
  S:List UInt8
  L:List Value
mutual
def Value.enc:Value->List A
  |⟨x0,x1,x2,x3⟩=>[I x0,I x1,.str x2,.rsl 4 (Value.encs x3)]
def Value.encs:List Value->List (List A)
  |[]=>[]
  |x::l=>Value.enc x::Value.encs l
end
theorem QfM(l:List Value):Value.encs l=List.map Value.enc l:=by induction l with|nil=>simp[Value.encs]|cons x l h=>simp[Value.encs,h]
def Value.c(x:Value):List Go.Sw.A:=[I x.Kind,I x.N,.str x.S,.rsl 4 (List.map Value.enc x.L)]
theorem Qbq(x:Value):Value.enc x=Value.c x:=by cases x;simp[Value.enc,Value.c,QfM]
structure Edge where
  From:Int
  To:Int
  W:Int
  deriving DecidableEq
def Edge.c(x:Edge):List Go.Sw.A:=[I x.From,I x.To,I x.W]
structure System where
  Vertices:Int
  Edges:List Edge
  deriving DecidableEq
def System.c(x:System):List Go.Sw.A:=[I x.Vertices,.rsl 3 (List.map Edge.c x.Edges)]
structure Clocks where
  Segments:List Segment
  Far:List (List Int)
  deriving DecidableEq
def Clocks.c(x:Clocks):List Go.Sw.A:=[.rsl 3 (List.map Segment.c x.Segments),.rsl 1 (List.map (Qn 1 (Qe .i64)) x.Far)]
theorem QlH:Qy prog 119 [(0,1),(1,1)]:=⟨_,runUnderlying119,(Eg sizeOf9 (Eg sizeOf3 PL.nil))⟩
theorem el_22:Q6 prog 22 119 2:=⟨runUnderlying22,sizeOf119,⟨_,zeroValue119,rfl⟩,⟨_,typeInfo119,by decide⟩⟩
theorem QlF:Qy prog 154 [(0,1),(1,1),(2,4),(6,1),(7,1)]:=⟨_,runUnderlying154,(Eg sizeOf3 (Eg sizeOf3 (Eg sizeOf152 (Eg sizeOf29 (Eg sizeOf29 PL.nil)))))⟩
theorem el_29:Q6 prog 29 154 8:=⟨runUnderlying29,sizeOf154,⟨_,zeroValue154,rfl⟩,⟨_,typeInfo154,by decide⟩⟩
theorem Qob:Qy prog 31 [(0,1),(1,1),(2,1),(3,1),(4,1)]:=⟨_,runUnderlying31,(Eg sizeOf3 (Eg sizeOf3 (Eg sizeOf3 (Eg sizeOf3 (Eg sizeOf3 PL.nil)))))⟩
theorem Qoa:Qy prog 33 [(0,1),(1,1),(2,1),(3,1),(4,1),(5,1),(6,1),(7,1),(8,1),(9,5),(14,1),(15,1)]:=⟨_,runUnderlying33,(Eg sizeOf9 (Eg sizeOf22 (Eg sizeOf23 (Eg sizeOf24 (Eg sizeOf25 (Eg sizeOf26 (Eg sizeOf27 (Eg sizeOf28 (Eg sizeOf29 (Eg sizeOf31 (Eg sizeOf3 (Eg sizeOf3 PL.nil))))))))))))⟩
theorem Qn9:Qy prog 36 [(0,1),(1,1),(2,1)]:=⟨_,runUnderlying36,(Eg sizeOf3 (Eg sizeOf3 (Eg sizeOf3 PL.nil)))⟩
theorem Jh:Q6 prog 249 5 1:=⟨runUnderlying249,sizeOf5,⟨_,zeroValue5,rfl⟩,⟨_,typeInfo5,by decide⟩⟩
theorem Qcb:Qab prog 9 A.str:=Qab.str underlying9
theorem QS:Q6 prog 66 3 1:=⟨runUnderlying66,sizeOf3,⟨_,zeroValue3,rfl⟩,⟨_,typeInfo3,by decide⟩⟩
theorem Ql6:prog.underlying 164=some (.struct (prog.fieldsOf 164)):=by kernel_rfl
theorem QoX:prog.stoodInHeld 164=false:=by kernel_rfl
theorem Qek:Qab prog 164 (λx=>A.agg (Ue.c x)):=by
  refine Qab.struct Ql6 Zf (λx y h=>?_) (λw em x=>?_) (λw x y=>?_) (λx=>?_)
  · cases x;cases y
    simpa[QH,YL,Ue.c]using h
  · simp only[QH,YL,Ue.c]
    rw[show(10000:Nat)=9998+1+1 from rfl];generalize(9998:Nat)=d;simp[Instr.checkKey,runUnderlying164,runUnderlying3,Result.andThen,sizeOf3,isAgg3,part]
  · have u3:=underlying3
    have a3:=isAgg3;have z3:=sizeOf3;simp only[QH,YL,Ue.c,Op.equal,Op.maxDepth];rw[show(10000:Nat)=9999+1 from Z,run_equalIn_agg w 9999 164 _ _ Ql6 QoX];simp only[Program.fieldsOf,underlying164]
    go_simp
    cases x;cases y;simp
    repeat' split
    all_goals simp_all
  · simp[QH,YL,Ue.c,Instr.sameBits]
theorem QoQ:Qy prog 164 [(0,1),(1,1)]:=⟨_,runUnderlying164,(Eg sizeOf3 (Eg sizeOf3 PL.nil))⟩
theorem Ql5:prog.underlying 236=some (.struct (prog.fieldsOf 236)):=by kernel_rfl
theorem QoW:prog.stoodInHeld 236=false:=by kernel_rfl
theorem Qny:Qab prog 236 (λx=>A.agg (Ug.c x)):=by
  refine Qab.struct Ql5 Zf (λx y h=>?_) (λw em x=>?_) (λw x y=>?_) (λx=>?_)
  · cases x;cases y
    simpa[QH,YL,Ug.c]using h
  · simp only[QH,YL,Ug.c]
    rw[show(10000:Nat)=9998+1+1 from rfl];generalize(9998:Nat)=d;simp[Instr.checkKey,runUnderlying236,runUnderlying3,Result.andThen,sizeOf3,isAgg3,part]
  · have u3:=underlying3
    have a3:=isAgg3;have z3:=sizeOf3;simp only[QH,YL,Ug.c,Op.equal,Op.maxDepth];rw[show(10000:Nat)=9999+1 from Z,run_equalIn_agg w 9999 236 _ _ Ql5 QoW];simp only[Program.fieldsOf,underlying236]
    go_simp
    cases x;cases y;simp
    repeat' split
    all_goals simp_all
  · simp[QH,YL,Ug.c,Instr.sameBits]
theorem QoK:Qy prog 236 [(0,1),(1,1),(2,1)]:=⟨_,runUnderlying236,(Eg sizeOf3 (Eg sizeOf3 (Eg sizeOf3 PL.nil)))⟩
theorem QlC:Qy prog 283 [(0,8)]:=⟨_,runUnderlying283,(Eg sizeOf154 PL.nil)⟩
theorem Qcp:Q6 prog 239 280 1:=⟨runUnderlying239,sizeOf280,⟨_,zeroValue280,rfl⟩,⟨_,typeInfo280,by decide⟩⟩
theorem QlD:Qy prog 276 [(0,1),(1,1)]:=⟨_,runUnderlying276,(Eg sizeOf3 (Eg sizeOf3 PL.nil))⟩
theorem Qly:Qy prog 333 [(0,4)]:=⟨_,runUnderlying333,(Eg sizeOf152 PL.nil)⟩
theorem QjF:Qab prog 3 (λx=>A.int .i64 x):=Qab.int underlying3
theorem Qn8:Qy prog 44 [(0,1),(1,1)]:=⟨_,runUnderlying44,(Eg sizeOf3 (Eg sizeOf3 PL.nil))⟩
theorem QjO:YK prog 44 0 0 1:=FA runUnderlying44 rfl sizeOf3
theorem QnE:YK prog 44 1 1 1:=FA runUnderlying44 rfl sizeOf3
theorem Ql7:prog.underlying 121=some (.struct (prog.fieldsOf 121)):=by kernel_rfl
theorem QoY:prog.stoodInHeld 121=false:=by kernel_rfl
theorem QbW:Qab prog 121 (λx=>A.agg (Ua.c x)):=by
  refine Qab.struct Ql7 Zf (λx y h=>?_) (λw em x=>?_) (λw x y=>?_) (λx=>?_)
  · cases x;cases y
    simpa[QH,YL,Ua.c]using h
  · simp only[QH,YL,Ua.c]
    rw[show(10000:Nat)=9998+1+1 from rfl];generalize(9998:Nat)=d;simp[Instr.checkKey,runUnderlying121,runUnderlying3,Result.andThen,sizeOf3,isAgg3,part]
  · have u3:=underlying3
    have a3:=isAgg3;have z3:=sizeOf3;simp only[QH,YL,Ua.c,Op.equal,Op.maxDepth];rw[show(10000:Nat)=9999+1 from Z,run_equalIn_agg w 9999 121 _ _ Ql7 QoY];simp only[Program.fieldsOf,underlying121]
    go_simp
    cases x;cases y;simp
    repeat' split
    all_goals simp_all
  · simp[QH,YL,Ua.c,Instr.sameBits]
theorem Qgf:Q6 prog 34 96 57:=⟨runUnderlying34,sizeOf96,⟨_,zeroValue96,rfl⟩,⟨_,typeInfo96,by decide⟩⟩
theorem Qlz:Qy prog 297 [(0,1),(1,2)]:=⟨_,runUnderlying297,(Eg sizeOf291 (Eg sizeOf295 PL.nil))⟩
theorem QlA:Qy prog 295 [(0,1),(1,1)]:=⟨_,runUnderlying295,(Eg sizeOf3 (Eg sizeOf3 PL.nil))⟩
theorem Y8:Q6 prog 285 297 3:=⟨runUnderlying285,sizeOf297,⟨_,zeroValue297,rfl⟩,⟨_,typeInfo297,by decide⟩⟩
theorem QlB:Qy prog 287 [(0,1),(1,1)]:=⟨_,runUnderlying287,(Eg sizeOf285 (Eg sizeOf37 PL.nil))⟩
inductive U_facts_open_rxk where
  |c0 (x:Unit)
  |c1 (x:Unit)
  |c2 (x:Unit)
  |c3 (x:Unit)
  |c4 (x:Unit)
  |c5 (x:Unit)
  |c6 (x:Unit)
  |c7 (x:Unit)
  |c8 (x:Unit)
  |c9 (x:Int×Int×Int×Int×Int×Int)
  |c10 (x:Unit)
  |c11 (x:Unit)
  |c12 (x:Unit)
  |c13 (x:Unit)
theorem Qmc:YK prog 297 0 0 1:=FA runUnderlying297 rfl sizeOf291
def Fact.put(x:Fact)(o:Nat)(v:Int):Option Fact:=match o with
  |0=>some {x with Crew:=v}
  |1=>some {x with No:=v}
  |2=>some {x with At:=v}
  |3=>some {x with Kind:=v}
  |4=>some {x with Starter:={x.Starter with Bib:=v}}
  |5=>some {x with Starter:={x.Starter with Distance:=v}}
  |6=>some {x with Starter:={x.Starter with Wave:=v}}
  |7=>some {x with Starter:={x.Starter with Slot:=v}}
  |8=>some {x with Starter:={x.Starter with Age:=v}}
  |9=>some {x with Starter:={x.Starter with Chip:=v}}
  |10=>some {x with Starter:={x.Starter with Team:=v}}
  |11=>some {x with Starter:={x.Starter with Lot:=v}}
  |12=>some {x with Read:={x.Read with Mat:=v}}
  |13=>some {x with Read:={x.Read with Epoch:=v}}
  |14=>some {x with Read:={x.Read with Chip:=v}}
  |15=>some {x with Read:={x.Read with Local:=v}}
  |16=>some {x with Beacon:={x.Beacon with Mat:=v}}
  |17=>some {x with Beacon:={x.Beacon with Epoch:=v}}
  |18=>some {x with Beacon:={x.Beacon with Local:=v}}
  |19=>some {x with Beacon:={x.Beacon with True:=v}}
  |20=>some {x with Beacon:={x.Beacon with Err:=v}}
  |21=>some {x with Sync:={x.Sync with MatA:=v}}
  |22=>some {x with Sync:={x.Sync with EpochA:=v}}
  |23=>some {x with Sync:={x.Sync with LocalA:=v}}
  |24=>some {x with Sync:={x.Sync with MatB:=v}}
  |25=>some {x with Sync:={x.Sync with EpochB:=v}}
  |26=>some {x with Sync:={x.Sync with LocalB:=v}}
  |27=>some {x with Sync:={x.Sync with Min:=v}}
  |28=>some {x with Sync:={x.Sync with Max:=v}}
  |29=>some {x with Hand:={x.Hand with Bib:=v}}
  |30=>some {x with Hand:={x.Hand with Position:=v}}
  |31=>some {x with Hand:={x.Hand with Lo:=v}}
  |32=>some {x with Hand:={x.Hand with Hi:=v}}
  |33=>some {x with Silence:={x.Silence with Mat:=v}}
  |34=>some {x with Silence:={x.Silence with Epoch:=v}}
  |35=>some {x with Silence:={x.Silence with Lo:=v}}
  |36=>some {x with Silence:={x.Silence with Hi:=v}}
  |37=>some {x with Pair:={x.Pair with A:=v}}
  |38=>some {x with Pair:={x.Pair with B:=v}}
  |39=>some {x with Report:={x.Report with Case:=v}}
  |40=>some {x with Report:={x.Report with Bib:=v}}
  |41=>some {x with Report:={x.Report with Offence:=v}}
  |42=>some {x with Report:={x.Report with Position:=v}}
  |43=>some {x with Protest:={x.Protest with Case:=v}}
  |44=>some {x with Protest:={x.Protest with By:=v}}
  |45=>some {x with Protest:={x.Protest with Fee:=v}}
  |46=>some {x with Protest:={x.Protest with Form:=v}}
  |47=>some {x with Ruling:={x.Ruling with Case:=v}}
  |48=>some {x with Ruling:={x.Ruling with Instance:=v}}
  |49=>some {x with Ruling:={x.Ruling with Kind:=v}}
  |50=>some {x with Ruling:={x.Ruling with Bib:=v}}
  |51=>some {x with Ruling:={x.Ruling with Position:=v}}
  |52=>some {x with Ruling:={x.Ruling with Amount:=v}}
  |53=>some {x with Appeal:={x.Appeal with Case:=v}}
  |55=>some {x with Void:={x.Void with Crew:=v}}
  |56=>some {x with Void:={x.Void with No:=v}}
  |_=>none
theorem QoH:∀(x:Fact) (o:Nat) (v:Int) (y:Fact),Fact.put x o v=some y->Fact.c y=(Fact.c x).set o (I v)/\o<(Fact.c x).length:=by
  intro x o v y h;unfold Fact.put at h;split at h<;>first|(cases h;exact⟨Z,XR Z⟩)|cases h
theorem nt_96:prog.stoodInHeld 96=false:=by kernel_rfl
theorem nt_94:prog.stoodInHeld 94=false:=by kernel_rfl
theorem nt_92:prog.stoodInHeld 92=false:=by kernel_rfl
theorem nt_90:prog.stoodInHeld 90=false:=by kernel_rfl
theorem nt_88:prog.stoodInHeld 88=false:=by kernel_rfl
theorem nt_86:prog.stoodInHeld 86=false:=by kernel_rfl
theorem nt_84:prog.stoodInHeld 84=false:=by kernel_rfl
theorem nt_82:prog.stoodInHeld 82=false:=by kernel_rfl
theorem nt_80:prog.stoodInHeld 80=false:=by kernel_rfl
theorem nt_78:prog.stoodInHeld 78=false:=by kernel_rfl
theorem nt_76:prog.stoodInHeld 76=false:=by kernel_rfl
theorem nt_74:prog.stoodInHeld 74=false:=by kernel_rfl
theorem nt_72:prog.stoodInHeld 72=false:=by kernel_rfl
theorem Qmo:EqD prog 96 Fact.c:=by
  refine Qj7 (QL underlying96 nt_96 isAgg96 sizeOf96 (Qm5.cons Z (by decide) (Qk8.int underlying3 isAgg3 sizeOf3 1) Zf (Qm5.cons Z (by decide) (Qk8.int underlying3 isAgg3 sizeOf3 1) Zf (Qm5.cons Z (by decide) (Qk8.int underlying3 isAgg3 sizeOf3 1) Zf (Qm5.cons Z (by decide) (Qk8.int underlying3 isAgg3 sizeOf3 1) Zf (Qm5.cons Z (by decide) (QL underlying72 nt_72 isAgg72 sizeOf72 (Qm5.cons Z (by decide) (Qk8.int underlying3 isAgg3 sizeOf3 0) Zf (Qm5.cons Z (by decide) (Qk8.int underlying3 isAgg3 sizeOf3 0) Zf (Qm5.cons Z (by decide) (Qk8.int underlying3 isAgg3 sizeOf3 0) Zf (Qm5.cons Z (by decide) (Qk8.int underlying3 isAgg3 sizeOf3 0) Zf (Qm5.cons Z (by decide) (Qk8.int underlying3 isAgg3 sizeOf3 0) Zf (Qm5.cons Z (by decide) (Qk8.int underlying3 isAgg3 sizeOf3 0) Zf (Qm5.cons Z (by decide) (Qk8.int underlying3 isAgg3 sizeOf3 0) Zf (Qm5.cons Z (by decide) (Qk8.int underlying3 isAgg3 sizeOf3 0) Zf (Qm5.nil _ _)))))))))) (λe=>Bool.noConfusion e) (Qm5.cons Z (by decide) (QL underlying74 nt_74 isAgg74 sizeOf74 (Qm5.cons Z (by decide) (Qk8.int underlying3 isAgg3 sizeOf3 0) Zf (Qm5.cons Z (by decide) (Qk8.int underlying3 isAgg3 sizeOf3 0) Zf (Qm5.cons Z (by decide) (Qk8.int underlying3 isAgg3 sizeOf3 0) Zf (Qm5.cons Z (by decide) (Qk8.int underlying3 isAgg3 sizeOf3 0) Zf (Qm5.nil _ _)))))) (λe=>Bool.noConfusion e) (Qm5.cons Z (by decide) (QL underlying76 nt_76 isAgg76 sizeOf76 (Qm5.cons Z (by decide) (Qk8.int underlying3 isAgg3 sizeOf3 0) Zf (Qm5.cons Z (by decide) (Qk8.int underlying3 isAgg3 sizeOf3 0) Zf (Qm5.cons Z (by decide) (Qk8.int underlying3 isAgg3 sizeOf3 0) Zf (Qm5.cons Z (by decide) (Qk8.int underlying3 isAgg3 sizeOf3 0) Zf (Qm5.cons Z (by decide) (Qk8.int underlying3 isAgg3 sizeOf3 0) Zf (Qm5.nil _ _))))))) (λe=>Bool.noConfusion e) (Qm5.cons Z (by decide) (QL underlying78 nt_78 isAgg78 sizeOf78 (Qm5.cons Z (by decide) (Qk8.int underlying3 isAgg3 sizeOf3 0) Zf (Qm5.cons Z (by decide) (Qk8.int underlying3 isAgg3 sizeOf3 0) Zf (Qm5.cons Z (by decide) (Qk8.int underlying3 isAgg3 sizeOf3 0) Zf (Qm5.cons Z (by decide) (Qk8.int underlying3 isAgg3 sizeOf3 0) Zf (Qm5.cons Z (by decide) (Qk8.int underlying3 isAgg3 sizeOf3 0) Zf (Qm5.cons Z (by decide) (Qk8.int underlying3 isAgg3 sizeOf3 0) Zf (Qm5.cons Z (by decide) (Qk8.int underlying3 isAgg3 sizeOf3 0) Zf (Qm5.cons Z (by decide) (Qk8.int underlying3 isAgg3 sizeOf3 0) Zf (Qm5.nil _ _)))))))))) (λe=>Bool.noConfusion e) (Qm5.cons Z (by decide) (QL underlying80 nt_80 isAgg80 sizeOf80 (Qm5.cons Z (by decide) (Qk8.int underlying3 isAgg3 sizeOf3 0) Zf (Qm5.cons Z (by decide) (Qk8.int underlying3 isAgg3 sizeOf3 0) Zf (Qm5.cons Z (by decide) (Qk8.int underlying3 isAgg3 sizeOf3 0) Zf (Qm5.cons Z (by decide) (Qk8.int underlying3 isAgg3 sizeOf3 0) Zf (Qm5.nil _ _)))))) (λe=>Bool.noConfusion e) (Qm5.cons Z (by decide) (QL underlying82 nt_82 isAgg82 sizeOf82 (Qm5.cons Z (by decide) (Qk8.int underlying3 isAgg3 sizeOf3 0) Zf (Qm5.cons Z (by decide) (Qk8.int underlying3 isAgg3 sizeOf3 0) Zf (Qm5.cons Z (by decide) (Qk8.int underlying3 isAgg3 sizeOf3 0) Zf (Qm5.cons Z (by decide) (Qk8.int underlying3 isAgg3 sizeOf3 0) Zf (Qm5.nil _ _)))))) (λe=>Bool.noConfusion e) (Qm5.cons Z (by decide) (QL underlying84 nt_84 isAgg84 sizeOf84 (Qm5.cons Z (by decide) (Qk8.int underlying3 isAgg3 sizeOf3 0) Zf (Qm5.cons Z (by decide) (Qk8.int underlying3 isAgg3 sizeOf3 0) Zf (Qm5.nil _ _)))) (λe=>Bool.noConfusion e) (Qm5.cons Z (by decide) (QL underlying86 nt_86 isAgg86 sizeOf86 (Qm5.cons Z (by decide) (Qk8.int underlying3 isAgg3 sizeOf3 0) Zf (Qm5.cons Z (by decide) (Qk8.int underlying3 isAgg3 sizeOf3 0) Zf (Qm5.cons Z (by decide) (Qk8.int underlying3 isAgg3 sizeOf3 0) Zf (Qm5.cons Z (by decide) (Qk8.int underlying3 isAgg3 sizeOf3 0) Zf (Qm5.nil _ _)))))) (λe=>Bool.noConfusion e) (Qm5.cons Z (by decide) (QL underlying88 nt_88 isAgg88 sizeOf88 (Qm5.cons Z (by decide) (Qk8.int underlying3 isAgg3 sizeOf3 0) Zf (Qm5.cons Z (by decide) (Qk8.int underlying3 isAgg3 sizeOf3 0) Zf (Qm5.cons Z (by decide) (Qk8.int underlying3 isAgg3 sizeOf3 0) Zf (Qm5.cons Z (by decide) (Qk8.int underlying3 isAgg3 sizeOf3 0) Zf (Qm5.nil _ _)))))) (λe=>Bool.noConfusion e) (Qm5.cons Z (by decide) (QL underlying90 nt_90 isAgg90 sizeOf90 (Qm5.cons Z (by decide) (Qk8.int underlying3 isAgg3 sizeOf3 0) Zf (Qm5.cons Z (by decide) (Qk8.int underlying3 isAgg3 sizeOf3 0) Zf (Qm5.cons Z (by decide) (Qk8.int underlying3 isAgg3 sizeOf3 0) Zf (Qm5.cons Z (by decide) (Qk8.int underlying3 isAgg3 sizeOf3 0) Zf (Qm5.cons Z (by decide) (Qk8.int underlying3 isAgg3 sizeOf3 0) Zf (Qm5.cons Z (by decide) (Qk8.int underlying3 isAgg3 sizeOf3 0) Zf (Qm5.nil _ _)))))))) (λe=>Bool.noConfusion e) (Qm5.cons Z (by decide) (QL underlying92 nt_92 isAgg92 sizeOf92 (Qm5.cons Z (by decide) (Qk8.int underlying3 isAgg3 sizeOf3 0) Zf (Qm5.cons Z (by decide) (Qk8.bool underlying4 isAgg4 sizeOf4 0) Zf (Qm5.nil _ _)))) (λe=>Bool.noConfusion e) (Qm5.cons Z (by decide) (QL underlying94 nt_94 isAgg94 sizeOf94 (Qm5.cons Z (by decide) (Qk8.int underlying3 isAgg3 sizeOf3 0) Zf (Qm5.cons Z (by decide) (Qk8.int underlying3 isAgg3 sizeOf3 0) Zf (Qm5.nil _ _)))) (λe=>Bool.noConfusion e) (Qm5.nil _ _)))))))))))))))))) Z (λx=>⟨[_],_,Z,⟨_,Z⟩,[_],_,Z,⟨_,Z⟩,[_],_,Z,⟨_,Z⟩,[_],_,Z,⟨_,Z⟩,[_,_,_,_,_,_,_,_],_,Z,⟨[_],_,Z,⟨_,Z⟩,[_],_,Z,⟨_,Z⟩,[_],_,Z,⟨_,Z⟩,[_],_,Z,⟨_,Z⟩,[_],_,Z,⟨_,Z⟩,[_],_,Z,⟨_,Z⟩,[_],_,Z,⟨_,Z⟩,[_],_,Z,⟨_,Z⟩,Z⟩,[_,_,_,_],_,Z,⟨[_],_,Z,⟨_,Z⟩,[_],_,Z,⟨_,Z⟩,[_],_,Z,⟨_,Z⟩,[_],_,Z,⟨_,Z⟩,Z⟩,[_,_,_,_,_],_,Z,⟨[_],_,Z,⟨_,Z⟩,[_],_,Z,⟨_,Z⟩,[_],_,Z,⟨_,Z⟩,[_],_,Z,⟨_,Z⟩,[_],_,Z,⟨_,Z⟩,Z⟩,[_,_,_,_,_,_,_,_],_,Z,⟨[_],_,Z,⟨_,Z⟩,[_],_,Z,⟨_,Z⟩,[_],_,Z,⟨_,Z⟩,[_],_,Z,⟨_,Z⟩,[_],_,Z,⟨_,Z⟩,[_],_,Z,⟨_,Z⟩,[_],_,Z,⟨_,Z⟩,[_],_,Z,⟨_,Z⟩,Z⟩,[_,_,_,_],_,Z,⟨[_],_,Z,⟨_,Z⟩,[_],_,Z,⟨_,Z⟩,[_],_,Z,⟨_,Z⟩,[_],_,Z,⟨_,Z⟩,Z⟩,[_,_,_,_],_,Z,⟨[_],_,Z,⟨_,Z⟩,[_],_,Z,⟨_,Z⟩,[_],_,Z,⟨_,Z⟩,[_],_,Z,⟨_,Z⟩,Z⟩,[_,_],_,Z,⟨[_],_,Z,⟨_,Z⟩,[_],_,Z,⟨_,Z⟩,Z⟩,[_,_,_,_],_,Z,⟨[_],_,Z,⟨_,Z⟩,[_],_,Z,⟨_,Z⟩,[_],_,Z,⟨_,Z⟩,[_],_,Z,⟨_,Z⟩,Z⟩,[_,_,_,_],_,Z,⟨[_],_,Z,⟨_,Z⟩,[_],_,Z,⟨_,Z⟩,[_],_,Z,⟨_,Z⟩,[_],_,Z,⟨_,Z⟩,Z⟩,[_,_,_,_,_,_],_,Z,⟨[_],_,Z,⟨_,Z⟩,[_],_,Z,⟨_,Z⟩,[_],_,Z,⟨_,Z⟩,[_],_,Z,⟨_,Z⟩,[_],_,Z,⟨_,Z⟩,[_],_,Z,⟨_,Z⟩,Z⟩,[_,_],_,Z,⟨[_],_,Z,⟨_,Z⟩,[_],_,Z,⟨_,Z⟩,Z⟩,[_,_],_,Z,⟨[_],_,Z,⟨_,Z⟩,[_],_,Z,⟨_,Z⟩,Z⟩,Z⟩) Zf (λx y h=>?_) (by kernel_rfl);obtain⟨p1,p2,p3,p4,⟨p5,p6,p7,p8,p9,p10,p11,p12⟩,⟨p13,p14,p15,p16⟩,⟨p17,p18,p19,p20,p21⟩,⟨p22,p23,p24,p25,p26,p27,p28,p29⟩,⟨p30,p31,p32,p33⟩,⟨p34,p35,p36,p37⟩,⟨p38,p39⟩,⟨p40,p41,p42,p43⟩,⟨p44,p45,p46,p47⟩,⟨p48,p49,p50,p51,p52,p53⟩,⟨p54,p55⟩,⟨p56,p57⟩⟩:=x;obtain⟨q58,q59,q60,q61,⟨q62,q63,q64,q65,q66,q67,q68,q69⟩,⟨q70,q71,q72,q73⟩,⟨q74,q75,q76,q77,q78⟩,⟨q79,q80,q81,q82,q83,q84,q85,q86⟩,⟨q87,q88,q89,q90⟩,⟨q91,q92,q93,q94⟩,⟨q95,q96⟩,⟨q97,q98,q99,q100⟩,⟨q101,q102,q103,q104⟩,⟨q105,q106,q107,q108,q109,q110⟩,⟨q111,q112⟩,⟨q113,q114⟩⟩:=y;simpa[QH,YL,Fact.c,Starter.c,Read.c,Beacon.c,Sync.c,Hand.c,Silence.c,Pair.c,Report.c,Protest.c,Ruling.c,Appeal.c,Ref.c,and_assoc]using h
theorem QiI:Qy prog 305 [(0,1),(1,1),(2,1),(3,1)]:=⟨_,runUnderlying305,(Eg sizeOf3 (Eg sizeOf3 (Eg sizeOf9 (Eg sizeOf303 PL.nil))))⟩
theorem Qmr:Q6 prog 303 305 4:=⟨runUnderlying303,sizeOf305,⟨_,zeroValue305,rfl⟩,⟨_,typeInfo305,by decide⟩⟩
theorem QhQ:YK prog 305 2 2 1:=FA runUnderlying305 rfl sizeOf9
theorem QlG:Qy prog 121 [(0,1),(1,1)]:=⟨_,runUnderlying121,(Eg sizeOf3 (Eg sizeOf3 PL.nil))⟩
theorem Qoj:Q6 prog 39 36 3:=⟨runUnderlying39,sizeOf36,⟨_,zeroValue36,rfl⟩,⟨_,typeInfo36,by decide⟩⟩
theorem Qn5:Qy prog 70 [(0,1),(1,1),(2,1)]:=⟨_,runUnderlying70,(Eg sizeOf3 (Eg sizeOf3 (Eg sizeOf3 PL.nil)))⟩
theorem Qoi:Q6 prog 49 70 3:=⟨runUnderlying49,sizeOf70,⟨_,zeroValue70,rfl⟩,⟨_,typeInfo70,by decide⟩⟩
theorem Qn7:Qy prog 51 [(0,1),(1,1)]:=⟨_,runUnderlying51,(Eg sizeOf3 (Eg sizeOf49 PL.nil))⟩
theorem QlE:Qy prog 186 [(0,2),(2,1),(3,1)]:=⟨_,runUnderlying186,(Eg sizeOf51 (Eg sizeOf66 (Eg sizeOf66 PL.nil)))⟩
theorem Qoh:Q6 prog 56 66 1:=⟨runUnderlying56,sizeOf66,⟨_,zeroValue66,rfl⟩,⟨_,typeInfo66,by decide⟩⟩
theorem Qn6:Qy prog 58 [(0,1),(1,1)]:=⟨_,runUnderlying58,(Eg sizeOf39 (Eg sizeOf56 PL.nil))⟩
theorem Qn4:Qy prog 76 [(0,1),(1,1),(2,1),(3,1),(4,1)]:=⟨_,runUnderlying76,(Eg sizeOf3 (Eg sizeOf3 (Eg sizeOf3 (Eg sizeOf3 (Eg sizeOf3 PL.nil)))))⟩
theorem Qn3:Qy prog 96 [(0,1),(1,1),(2,1),(3,1),(4,8),(12,4),(16,5),(21,8),(29,4),(33,4),(37,2),(39,4),(43,4),(47,6),(53,2),(55,2)]:=⟨_,runUnderlying96,(Eg sizeOf3 (Eg sizeOf3 (Eg sizeOf3 (Eg sizeOf3 (Eg sizeOf72 (Eg sizeOf74 (Eg sizeOf76 (Eg sizeOf78 (Eg sizeOf80 (Eg sizeOf82 (Eg sizeOf84 (Eg sizeOf86 (Eg sizeOf88 (Eg sizeOf90 (Eg sizeOf92 (Eg sizeOf94 PL.nil))))))))))))))))⟩
theorem nt_44:prog.stoodInHeld 44=false:=by kernel_rfl
theorem Qmp:EqD prog 44 Span.c:=by
  refine Qj7 (QL underlying44 nt_44 isAgg44 sizeOf44 (Qm5.cons Z (by decide) (Qk8.int underlying3 isAgg3 sizeOf3 0) Zf (Qm5.cons Z (by decide) (Qk8.int underlying3 isAgg3 sizeOf3 0) Zf (Qm5.nil _ _)))) Z (λx=>⟨[_],_,Z,⟨_,Z⟩,[_],_,Z,⟨_,Z⟩,Z⟩) Zf (λx y h=>?_) (by kernel_rfl);obtain⟨p1,p2⟩:=x;obtain⟨q3,q4⟩:=y;simpa[QH,YL,Span.c,and_assoc]using h
theorem pl_72:Qy prog 72 [(0,1),(1,1),(2,1),(3,1),(4,1),(5,1),(6,1),(7,1)]:=⟨_,runUnderlying72,(Eg sizeOf3 (Eg sizeOf3 (Eg sizeOf3 (Eg sizeOf3 (Eg sizeOf3 (Eg sizeOf3 (Eg sizeOf3 (Eg sizeOf3 PL.nil))))))))⟩
theorem pl_74:Qy prog 74 [(0,1),(1,1),(2,1),(3,1)]:=⟨_,runUnderlying74,(Eg sizeOf3 (Eg sizeOf3 (Eg sizeOf3 (Eg sizeOf3 PL.nil))))⟩
theorem pl_78:Qy prog 78 [(0,1),(1,1),(2,1),(3,1),(4,1),(5,1),(6,1),(7,1)]:=⟨_,runUnderlying78,(Eg sizeOf3 (Eg sizeOf3 (Eg sizeOf3 (Eg sizeOf3 (Eg sizeOf3 (Eg sizeOf3 (Eg sizeOf3 (Eg sizeOf3 PL.nil))))))))⟩
theorem pl_80:Qy prog 80 [(0,1),(1,1),(2,1),(3,1)]:=⟨_,runUnderlying80,(Eg sizeOf3 (Eg sizeOf3 (Eg sizeOf3 (Eg sizeOf3 PL.nil))))⟩
theorem pl_82:Qy prog 82 [(0,1),(1,1),(2,1),(3,1)]:=⟨_,runUnderlying82,(Eg sizeOf3 (Eg sizeOf3 (Eg sizeOf3 (Eg sizeOf3 PL.nil))))⟩
theorem pl_84:Qy prog 84 [(0,1),(1,1)]:=⟨_,runUnderlying84,(Eg sizeOf3 (Eg sizeOf3 PL.nil))⟩
theorem pl_86:Qy prog 86 [(0,1),(1,1),(2,1),(3,1)]:=⟨_,runUnderlying86,(Eg sizeOf3 (Eg sizeOf3 (Eg sizeOf3 (Eg sizeOf3 PL.nil))))⟩
theorem pl_88:Qy prog 88 [(0,1),(1,1),(2,1),(3,1)]:=⟨_,runUnderlying88,(Eg sizeOf3 (Eg sizeOf3 (Eg sizeOf3 (Eg sizeOf3 PL.nil))))⟩
theorem pl_90:Qy prog 90 [(0,1),(1,1),(2,1),(3,1),(4,1),(5,1)]:=⟨_,runUnderlying90,(Eg sizeOf3 (Eg sizeOf3 (Eg sizeOf3 (Eg sizeOf3 (Eg sizeOf3 (Eg sizeOf3 PL.nil))))))⟩
theorem pl_92:Qy prog 92 [(0,1),(1,1)]:=⟨_,runUnderlying92,(Eg sizeOf3 (Eg sizeOf4 PL.nil))⟩
theorem pl_94:Qy prog 94 [(0,1),(1,1)]:=⟨_,runUnderlying94,(Eg sizeOf3 (Eg sizeOf3 PL.nil))⟩
theorem QoU:Qy prog 111 [(0,1),(1,1),(2,1),(3,1),(4,1)]:=⟨_,runUnderlying111,(Eg sizeOf9 (Eg sizeOf108 (Eg sizeOf3 (Eg sizeOf109 (Eg sizeOf3 PL.nil)))))⟩
theorem QoT:Qy prog 152 [(0,1),(1,1),(2,1),(3,1)]:=⟨_,runUnderlying152,(Eg sizeOf3 (Eg sizeOf3 (Eg sizeOf3 (Eg sizeOf150 PL.nil))))⟩
theorem QoS:Qy prog 156 [(0,1),(1,1),(2,1)]:=⟨_,runUnderlying156,(Eg sizeOf3 (Eg sizeOf3 (Eg sizeOf108 PL.nil)))⟩
theorem QoR:Qy prog 162 [(0,1),(1,1),(2,1),(3,1)]:=⟨_,runUnderlying162,(Eg sizeOf3 (Eg sizeOf3 (Eg sizeOf3 (Eg sizeOf3 PL.nil))))⟩
theorem QoP:Qy prog 201 [(0,1),(1,1)]:=⟨_,runUnderlying201,(Eg sizeOf9 (Eg sizeOf3 PL.nil))⟩
theorem QoO:Qy prog 205 [(0,1),(1,1),(2,1),(3,1)]:=⟨_,runUnderlying205,(Eg sizeOf9 (Eg sizeOf3 (Eg sizeOf3 (Eg sizeOf4 PL.nil))))⟩
theorem QoN:Qy prog 209 [(0,1),(1,1),(2,1)]:=⟨_,runUnderlying209,(Eg sizeOf9 (Eg sizeOf3 (Eg sizeOf3 PL.nil)))⟩
theorem QoM:Qy prog 215 [(0,1),(1,1),(2,1)]:=⟨_,runUnderlying215,(Eg sizeOf3 (Eg sizeOf3 (Eg sizeOf3 PL.nil)))⟩
theorem QoL:Qy prog 221 [(0,1),(1,1),(2,1),(3,1)]:=⟨_,runUnderlying221,(Eg sizeOf3 (Eg sizeOf3 (Eg sizeOf3 (Eg sizeOf3 PL.nil))))⟩
theorem QoJ:Qy prog 351 [(0,1)]:=⟨_,runUnderlying351,(Eg sizeOf349 PL.nil)⟩
def tyT:TyI:={fld:=[(156,2,2),(33,1,1),(33,2,2),(33,3,3),(33,4,4),(33,5,5),(33,6,6),(33,7,7),(111,1,1),(111,3,3),(119,0,0),(111,0,0),(201,0,0),(205,0,0),(209,0,0),(33,0,0),(119,1,1),(162,0,0),(162,1,1),(162,2,2),(162,3,3),(156,1,1),(156,0,0),(215,0,0),(215,1,1),(215,2,2),(111,2,2),(111,4,4),(201,1,1),(205,3,3),(205,1,1),(205,2,2),(209,1,1),(209,2,2),(221,0,0),(221,1,1),(221,2,2),(221,3,3),(33,9,9),(31,0,0),(31,1,1),(31,2,2),(31,3,3),(31,4,4),(33,10,14),(33,11,15),(333,0,0),(152,0,0),(152,1,1),(152,2,2),(152,3,3),(283,0,0),(154,3,6),(154,4,7),(276,0,0),(154,2,2),(276,1,1),(154,0,0),(154,1,1),(33,8,8),(36,0,0),(36,2,2),(44,0,0),(44,1,1),(96,3,3),(96,4,4),(72,0,0),(72,1,1),(72,2,2),(72,3,3),(72,4,4),(72,5,5),(72,6,6),(72,7,7),(96,5,12),(74,0,0),(74,1,1),(74,2,2),(74,3,3),(96,6,16),(76,0,0),(76,1,1),(76,2,2),(76,3,3),(76,4,4),(96,7,21),(78,0,0),(78,1,1),(78,2,2),(78,3,3),(78,4,4),(78,5,5),(78,6,6),(78,7,7),(96,8,29),(80,0,0),(80,1,1),(80,2,2),(80,3,3),(96,9,33),(82,0,0),(82,1,1),(82,2,2),(82,3,3),(96,10,37),(84,0,0),(84,1,1),(96,11,39),(86,0,0),(86,1,1),(86,2,2),(86,3,3),(96,12,43),(88,0,0),(88,1,1),(88,2,2),(88,3,3),(96,13,47),(90,2,2),(90,0,0),(90,1,1),(90,3,3),(90,4,4),(90,5,5),(96,14,53),(92,0,0),(96,15,55),(94,0,0),(94,1,1),(96,0,0),(96,1,1),(96,2,2),(287,0,0),(92,1,1),(287,1,1),(297,0,0),(297,1,1),(295,0,0),(295,1,1),(305,2,2),(305,3,3),(305,1,1),(305,0,0),(351,0,0),(121,0,0),(121,1,1),(36,1,1),(51,0,0),(51,1,1),(70,0,0),(70,1,1),(70,2,2),(186,0,0),(186,1,2),(186,2,3),(58,0,0),(58,1,1)],agg:=[(33,true,16),(156,true,3),(108,false,1),(22,false,1),(23,false,1),(24,false,1),(25,false,1),(26,false,1),(27,false,1),(28,false,1),(111,true,5),(109,false,1),(5,false,1),(9,false,1),(119,true,2),(201,true,2),(205,true,4),(209,true,3),(3,false,1),(224,false,1),(218,false,1),(162,true,4),(164,true,2),(211,false,1),(216,false,1),(215,true,3),(167,false,1),(229,false,1),(4,false,1),(219,false,1),(232,false,1),(222,false,1),(221,true,4),(236,true,3),(31,true,5),(154,true,8),(150,false,1),(29,false,1),(152,true,4),(283,true,8),(333,true,4),(280,false,1),(242,false,1),(160,false,1),(44,true,2),(36,true,3),(34,false,1),(295,true,2),(287,true,2),(339,false,1),(340,false,1),(341,false,1),(342,false,1),(96,true,57),(37,false,1),(297,true,3),(291,false,1),(303,false,1),(305,true,4),(352,false,1),(349,false,1),(116,false,1),(122,false,1),(126,false,1),(121,true,2),(49,false,1),(39,false,1),(51,true,2),(134,false,1),(135,false,1),(76,true,5),(78,true,8),(70,true,3),(66,false,1),(58,true,2),(56,false,1)],zer:=[(119,[.str [],I 0],[(0,1),(1,1)]),(154,[I 0,I 0,I 0,I 0,I 0,.rsl 4 (List.map Cond.enc []),.rsl 8 (List.map Step.enc []),.rsl 8 (List.map Step.enc [])],[(0,1),(1,1),(2,4),(6,1),(7,1)]),(31,[I 0,I 0,I 0,I 0,I 0],[(0,1),(1,1),(2,1),(3,1),(4,1)]),(33,[.str [],.rsl 2 (List.map Mat.c []),.rsl 4 (List.map Leg.c []),.rsl 5 (List.map Distance.c []),.rsl 2 (List.map Wave.c []),.rsl 4 (List.map Offence.c []),.rsl 3 (List.map Category.c []),.rsl 4 (List.map Prize.c []),.rsl 8 (List.map Step.enc []),I 0,I 0,I 0,I 0,I 0,I 0,I 0],[(0,1),(1,1),(2,1),(3,1),(4,1),(5,1),(6,1),(7,1),(8,1),(9,5),(14,1),(15,1)]),(164,[I 0,I 0],[(0,1),(1,1)]),(236,[I 0,I 0,I 0],[(0,1),(1,1),(2,1)]),(283,[I 0,I 0,I 0,I 0,I 0,.rsl 4 (List.map Cond.enc []),.rsl 8 (List.map Step.enc []),.rsl 8 (List.map Step.enc [])],[(0,8)]),(333,[I 0,I 0,I 0,.rsl 4 (List.map Cond.enc [])],[(0,4)]),(276,[I 0,I 0],[(0,1),(1,1)]),(44,[I 0,I 0],[(0,1),(1,1)]),(297,[.nilp,I 0,I 0],[(0,1),(1,2)]),(295,[I 0,I 0],[(0,1),(1,1)]),(287,[.nils,.nilf],[(0,1),(1,1)]),(305,[I 0,I 0,.str [],.rsl 4 (List.map Value.enc [])],[(0,1),(1,1),(2,1),(3,1)]),(121,[I 0,I 0],[(0,1),(1,1)]),(36,[I 0,I 0,I 0],[(0,1),(1,1),(2,1)]),(70,[I 0,I 0,I 0],[(0,1),(1,1),(2,1)]),(51,[I 0,.rsl 3 (List.map Edge.c [])],[(0,1),(1,1)]),(186,[I 0,.rsl 3 (List.map Edge.c []),.rsl 1 (List.map (Qe .i64) []),.rsl 1 (List.map (Qe .i64) [])],[(0,2),(2,1),(3,1)]),(58,[.rsl 3 (List.map Segment.c []),.rsl 1 (List.map (Qn 1 (Qe .i64)) [])],[(0,1),(1,1)]),(76,[I 0,I 0,I 0,I 0,I 0],[(0,1),(1,1),(2,1),(3,1),(4,1)]),(96,[I 0,I 0,I 0,I 0,I 0,I 0,I 0,I 0,I 0,I 0,I 0,I 0,I 0,I 0,I 0,I 0,I 0,I 0,I 0,I 0,I 0,I 0,I 0,I 0,I 0,I 0,I 0,I 0,I 0,I 0,I 0,I 0,I 0,I 0,I 0,I 0,I 0,I 0,I 0,I 0,I 0,I 0,I 0,I 0,I 0,I 0,I 0,I 0,I 0,I 0,I 0,I 0,I 0,I 0,.bool false,I 0,I 0],[(0,1),(1,1),(2,1),(3,1),(4,8),(12,4),(16,5),(21,8),(29,4),(33,4),(37,2),(39,4),(43,4),(47,6),(53,2),(55,2)])]}
def tyF:List (Nat×List (Nat×Nat)):=[(31,[(0,1),(1,1),(2,1),(3,1),(4,1)]),(33,[(0,1),(1,1),(2,1),(3,1),(4,1),(5,1),(6,1),(7,1),(8,1),(9,5),(14,1),(15,1)]),(36,[(0,1),(1,1),(2,1)]),(44,[(0,1),(1,1)]),(51,[(0,1),(1,1)]),(58,[(0,1),(1,1)]),(70,[(0,1),(1,1),(2,1)]),(72,[(0,1),(1,1),(2,1),(3,1),(4,1),(5,1),(6,1),(7,1)]),(74,[(0,1),(1,1),(2,1),(3,1)]),(76,[(0,1),(1,1),(2,1),(3,1),(4,1)]),(78,[(0,1),(1,1),(2,1),(3,1),(4,1),(5,1),(6,1),(7,1)]),(80,[(0,1),(1,1),(2,1),(3,1)]),(82,[(0,1),(1,1),(2,1),(3,1)]),(84,[(0,1),(1,1)]),(86,[(0,1),(1,1),(2,1),(3,1)]),(88,[(0,1),(1,1),(2,1),(3,1)]),(90,[(0,1),(1,1),(2,1),(3,1),(4,1),(5,1)]),(92,[(0,1),(1,1)]),(94,[(0,1),(1,1)]),(96,[(0,1),(1,1),(2,1),(3,1),(4,8),(12,4),(16,5),(21,8),(29,4),(33,4),(37,2),(39,4),(43,4),(47,6),(53,2),(55,2)]),(111,[(0,1),(1,1),(2,1),(3,1),(4,1)]),(119,[(0,1),(1,1)]),(121,[(0,1),(1,1)]),(152,[(0,1),(1,1),(2,1),(3,1)]),(154,[(0,1),(1,1),(2,4),(6,1),(7,1)]),(156,[(0,1),(1,1),(2,1)]),(162,[(0,1),(1,1),(2,1),(3,1)]),(186,[(0,2),(2,1),(3,1)]),(201,[(0,1),(1,1)]),(205,[(0,1),(1,1),(2,1),(3,1)]),(209,[(0,1),(1,1),(2,1)]),(215,[(0,1),(1,1),(2,1)]),(221,[(0,1),(1,1),(2,1),(3,1)]),(276,[(0,1),(1,1)]),(283,[(0,8)]),(287,[(0,1),(1,1)]),(295,[(0,1),(1,1)]),(297,[(0,1),(1,2)]),(305,[(0,1),(1,1),(2,1),(3,1)]),(333,[(0,4)]),(351,[(0,1)])]
theorem tyOK:TyOK prog tyT:=
  ⟨Qpa (L:=tyF) (yc Qob (yc Qoa (yc Qn9 (yc Qn8 (yc Qn7 (yc Qn6 (yc Qn5 (yc pl_72 (yc pl_74 (yc Qn4 (yc pl_78 (yc pl_80 (yc pl_82 (yc pl_84 (yc pl_86 (yc pl_88 (yc pl_90 (yc pl_92 (yc pl_94 (yc Qn3 (yc QoU (yc QlH (yc QlG (yc QoT (yc QlF (yc QoS (yc QoR (yc QlE (yc QoP (yc QoO (yc QoN (yc QoM (yc QoL (yc QlD (yc QlC (yc QlB (yc QlA (yc Qlz (yc QiI (yc Qly (yc QoJ (List.forall_mem_nil _)))))))))))))))))))))))))))))))))))))))))) (by kernel_rfl),
   yc ⟨isAgg33,sizeOf33⟩ (yc ⟨isAgg156,sizeOf156⟩ (yc ⟨isAgg108,sizeOf108⟩ (yc ⟨isAgg22,sizeOf22⟩ (yc ⟨isAgg23,sizeOf23⟩ (yc ⟨isAgg24,sizeOf24⟩ (yc ⟨isAgg25,sizeOf25⟩ (yc ⟨isAgg26,sizeOf26⟩ (yc ⟨isAgg27,sizeOf27⟩ (yc ⟨isAgg28,sizeOf28⟩ (yc ⟨isAgg111,sizeOf111⟩ (yc ⟨isAgg109,sizeOf109⟩ (yc ⟨isAgg5,sizeOf5⟩ (yc ⟨isAgg9,sizeOf9⟩ (yc ⟨isAgg119,sizeOf119⟩ (yc ⟨isAgg201,sizeOf201⟩ (yc ⟨isAgg205,sizeOf205⟩ (yc ⟨isAgg209,sizeOf209⟩ (yc ⟨isAgg3,sizeOf3⟩ (yc ⟨isAgg224,sizeOf224⟩ (yc ⟨isAgg218,sizeOf218⟩ (yc ⟨isAgg162,sizeOf162⟩ (yc ⟨isAgg164,sizeOf164⟩ (yc ⟨isAgg211,sizeOf211⟩ (yc ⟨isAgg216,sizeOf216⟩ (yc ⟨isAgg215,sizeOf215⟩ (yc ⟨isAgg167,sizeOf167⟩ (yc ⟨isAgg229,sizeOf229⟩ (yc ⟨isAgg4,sizeOf4⟩ (yc ⟨isAgg219,sizeOf219⟩ (yc ⟨isAgg232,sizeOf232⟩ (yc ⟨isAgg222,sizeOf222⟩ (yc ⟨isAgg221,sizeOf221⟩ (yc ⟨isAgg236,sizeOf236⟩ (yc ⟨isAgg31,sizeOf31⟩ (yc ⟨isAgg154,sizeOf154⟩ (yc ⟨isAgg150,sizeOf150⟩ (yc ⟨isAgg29,sizeOf29⟩ (yc ⟨isAgg152,sizeOf152⟩ (yc ⟨isAgg283,sizeOf283⟩ (yc ⟨isAgg333,sizeOf333⟩ (yc ⟨isAgg280,sizeOf280⟩ (yc ⟨isAgg242,sizeOf242⟩ (yc ⟨isAgg160,sizeOf160⟩ (yc ⟨isAgg44,sizeOf44⟩ (yc ⟨isAgg36,sizeOf36⟩ (yc ⟨isAgg34,sizeOf34⟩ (yc ⟨isAgg295,sizeOf295⟩ (yc ⟨isAgg287,sizeOf287⟩ (yc ⟨isAgg339,sizeOf339⟩ (yc ⟨isAgg340,sizeOf340⟩ (yc ⟨isAgg341,sizeOf341⟩ (yc ⟨isAgg342,sizeOf342⟩ (yc ⟨isAgg96,sizeOf96⟩ (yc ⟨isAgg37,sizeOf37⟩ (yc ⟨isAgg297,sizeOf297⟩ (yc ⟨isAgg291,sizeOf291⟩ (yc ⟨isAgg303,sizeOf303⟩ (yc ⟨isAgg305,sizeOf305⟩ (yc ⟨isAgg352,sizeOf352⟩ (yc ⟨isAgg349,sizeOf349⟩ (yc ⟨isAgg116,sizeOf116⟩ (yc ⟨isAgg122,sizeOf122⟩ (yc ⟨isAgg126,sizeOf126⟩ (yc ⟨isAgg121,sizeOf121⟩ (yc ⟨isAgg49,sizeOf49⟩ (yc ⟨isAgg39,sizeOf39⟩ (yc ⟨isAgg51,sizeOf51⟩ (yc ⟨isAgg134,sizeOf134⟩ (yc ⟨isAgg135,sizeOf135⟩ (yc ⟨isAgg76,sizeOf76⟩ (yc ⟨isAgg78,sizeOf78⟩ (yc ⟨isAgg70,sizeOf70⟩ (yc ⟨isAgg66,sizeOf66⟩ (yc ⟨isAgg58,sizeOf58⟩ (yc ⟨isAgg56,sizeOf56⟩ (List.forall_mem_nil _)))))))))))))))))))))))))))))))))))))))))))))))))))))))))))))))))))))))))))),
   yc ⟨⟨_,zeroValue119,(ZR.agg (zc ZR.str (zc Eo ZL.nil)))⟩,QlH⟩ (yc ⟨⟨_,zeroValue154,(ZR.agg (zc Eo (zc Eo (zc Eo (zc Eo (zc Eo (zc ZR.rsl (zc ZR.rsl (zc ZR.rsl ZL.nil)))))))))⟩,QlF⟩ (yc ⟨⟨_,zeroValue31,(ZR.agg (zc Eo (zc Eo (zc Eo (zc Eo (zc Eo ZL.nil))))))⟩,Qob⟩ (yc ⟨⟨_,zeroValue33,(ZR.agg (zc ZR.str (zc ZR.rsl (zc ZR.rsl (zc ZR.rsl (zc ZR.rsl (zc ZR.rsl (zc ZR.rsl (zc ZR.rsl (zc ZR.rsl (zc Eo (zc Eo (zc Eo (zc Eo (zc Eo (zc Eo (zc Eo ZL.nil)))))))))))))))))⟩,Qoa⟩ (yc ⟨⟨_,zeroValue164,(ZR.agg (zc Eo (zc Eo ZL.nil)))⟩,QoQ⟩ (yc ⟨⟨_,zeroValue236,(ZR.agg (zc Eo (zc Eo (zc Eo ZL.nil))))⟩,QoK⟩ (yc ⟨⟨_,zeroValue283,(ZR.agg (zc Eo (zc Eo (zc Eo (zc Eo (zc Eo (zc ZR.rsl (zc ZR.rsl (zc ZR.rsl ZL.nil)))))))))⟩,QlC⟩ (yc ⟨⟨_,zeroValue333,(ZR.agg (zc Eo (zc Eo (zc Eo (zc ZR.rsl ZL.nil)))))⟩,Qly⟩ (yc ⟨⟨_,zeroValue276,(ZR.agg (zc Eo (zc Eo ZL.nil)))⟩,QlD⟩ (yc ⟨⟨_,zeroValue44,(ZR.agg (zc Eo (zc Eo ZL.nil)))⟩,Qn8⟩ (yc ⟨⟨_,zeroValue297,(ZR.agg (zc ZR.nilp (zc Eo (zc Eo ZL.nil))))⟩,Qlz⟩ (yc ⟨⟨_,zeroValue295,(ZR.agg (zc Eo (zc Eo ZL.nil)))⟩,QlA⟩ (yc ⟨⟨_,zeroValue287,(ZR.agg (zc ZR.nils (zc ZR.nilf ZL.nil)))⟩,QlB⟩ (yc ⟨⟨_,zeroValue305,(ZR.agg (zc Eo (zc Eo (zc ZR.str (zc ZR.rsl ZL.nil)))))⟩,QiI⟩ (yc ⟨⟨_,zeroValue121,(ZR.agg (zc Eo (zc Eo ZL.nil)))⟩,QlG⟩ (yc ⟨⟨_,zeroValue36,(ZR.agg (zc Eo (zc Eo (zc Eo ZL.nil))))⟩,Qn9⟩ (yc ⟨⟨_,zeroValue70,(ZR.agg (zc Eo (zc Eo (zc Eo ZL.nil))))⟩,Qn5⟩ (yc ⟨⟨_,zeroValue51,(ZR.agg (zc Eo (zc ZR.rsl ZL.nil)))⟩,Qn7⟩ (yc ⟨⟨_,zeroValue186,(ZR.agg (zc Eo (zc ZR.rsl (zc ZR.rsl (zc ZR.rsl ZL.nil)))))⟩,QlE⟩ (yc ⟨⟨_,zeroValue58,(ZR.agg (zc ZR.rsl (zc ZR.rsl ZL.nil)))⟩,Qn6⟩ (yc ⟨⟨_,zeroValue76,(ZR.agg (zc Eo (zc Eo (zc Eo (zc Eo (zc Eo ZL.nil))))))⟩,Qn4⟩ (yc ⟨⟨_,zeroValue96,(ZR.agg (zc Eo (zc Eo (zc Eo (zc Eo (zc Eo (zc Eo (zc Eo (zc Eo (zc Eo (zc Eo (zc Eo (zc Eo (zc Eo (zc Eo (zc Eo (zc Eo (zc Eo (zc Eo (zc Eo (zc Eo (zc Eo (zc Eo (zc Eo (zc Eo (zc Eo (zc Eo (zc Eo (zc Eo (zc Eo (zc Eo (zc Eo (zc Eo (zc Eo (zc Eo (zc Eo (zc Eo (zc Eo (zc Eo (zc Eo (zc Eo (zc Eo (zc Eo (zc Eo (zc Eo (zc Eo (zc Eo (zc Eo (zc Eo (zc Eo (zc Eo (zc Eo (zc Eo (zc Eo (zc Eo (zc ZR.bool (zc Eo (zc Eo ZL.nil))))))))))))))))))))))))))))))))))))))))))))))))))))))))))⟩,Qn3⟩ (List.forall_mem_nil _))))))))))))))))))))))⟩
def tyX:TyX:={ty:=tyT,al:=[(33,(.agg [.str [],.rsl 2 (List.map Mat.c []),.rsl 4 (List.map Leg.c []),.rsl 5 (List.map Distance.c []),.rsl 2 (List.map Wave.c []),.rsl 4 (List.map Offence.c []),.rsl 3 (List.map Category.c []),.rsl 4 (List.map Prize.c []),.rsl 8 (List.map Step.enc []),I 0,I 0,I 0,I 0,I 0,I 0,I 0])),(156,(.agg [I 0,I 0,.rsl 3 (List.map Part.enc [])])),(111,(.agg [.str [],.rsl 3 (List.map Part.enc []),I 0,.rsl 3 (List.map Cutoff.c []),I 0])),(119,(.agg [.str [],I 0])),(201,(.agg [.str [],I 0])),(205,(.agg [.str [],I 0,I 0,.bool false])),(209,(.agg [.str [],I 0,I 0])),(164,(.agg [I 0,I 0])),(162,(.agg [I 0,I 0,I 0,I 0])),(236,(.agg [I 0,I 0,I 0])),(221,(.agg [I 0,I 0,I 0,I 0])),(3,(I 0)),(211,.nilf),(216,.nilf),(31,(.agg [I 0,I 0,I 0,I 0,I 0])),(154,(.agg [I 0,I 0,I 0,I 0,I 0,.rsl 4 (List.map Cond.enc []),.rsl 8 (List.map Step.enc []),.rsl 8 (List.map Step.enc [])])),(152,(.agg [I 0,I 0,I 0,.rsl 4 (List.map Cond.enc [])])),(283,(.agg [I 0,I 0,I 0,I 0,I 0,.rsl 4 (List.map Cond.enc []),.rsl 8 (List.map Step.enc []),.rsl 8 (List.map Step.enc [])])),(333,(.agg [I 0,I 0,I 0,.rsl 4 (List.map Cond.enc [])])),(242,.nilm),(160,.nilm),(44,(.agg [I 0,I 0])),(287,(.agg [.nils,.nilf])),(339,.nilp),(340,.nilp),(341,.nilp),(342,.nilp),(96,(.agg [I 0,I 0,I 0,I 0,I 0,I 0,I 0,I 0,I 0,I 0,I 0,I 0,I 0,I 0,I 0,I 0,I 0,I 0,I 0,I 0,I 0,I 0,I 0,I 0,I 0,I 0,I 0,I 0,I 0,I 0,I 0,I 0,I 0,I 0,I 0,I 0,I 0,I 0,I 0,I 0,I 0,I 0,I 0,I 0,I 0,I 0,I 0,I 0,I 0,I 0,I 0,I 0,I 0,I 0,.bool false,I 0,I 0])),(297,(.agg [.nilp,I 0,I 0])),(305,(.agg [I 0,I 0,.str [],.rsl 4 (List.map Value.enc [])])),(352,.nilp),(116,.nilm),(122,.nilf),(126,.nilm),(121,(.agg [I 0,I 0])),(36,(.agg [I 0,I 0,I 0])),(51,(.agg [I 0,.rsl 3 (List.map Edge.c [])])),(39,.nils),(49,.nils),(134,.nilf),(135,.nilf),(76,(.agg [I 0,I 0,I 0,I 0,I 0])),(78,(.agg [I 0,I 0,I 0,I 0,I 0,I 0,I 0,I 0])),(70,(.agg [I 0,I 0,I 0])),(58,(.agg [.rsl 3 (List.map Segment.c []),.rsl 1 (List.map (Qn 1 (Qe .i64)) [])]))],sl:=[249,239,66,285,34,39,49]}
theorem QbA:Qbd prog tyX:=
  ⟨tyOK,
   yc ⟨⟨_,zeroValue33,(zrC Z)⟩,Z,Z⟩ (yc ⟨⟨_,zeroValue156,(zrC Z)⟩,Z,Z⟩ (yc ⟨⟨_,zeroValue111,(zrC Z)⟩,Z,Z⟩ (yc ⟨⟨_,zeroValue119,(zrC Z)⟩,Z,Z⟩ (yc ⟨⟨_,zeroValue201,(zrC Z)⟩,Z,Z⟩ (yc ⟨⟨_,zeroValue205,(zrC Z)⟩,Z,Z⟩ (yc ⟨⟨_,zeroValue209,(zrC Z)⟩,Z,Z⟩ (yc ⟨⟨_,zeroValue164,(zrC Z)⟩,Z,Z⟩ (yc ⟨⟨_,zeroValue162,(zrC Z)⟩,Z,Z⟩ (yc ⟨⟨_,zeroValue236,(zrC Z)⟩,Z,Z⟩ (yc ⟨⟨_,zeroValue221,(zrC Z)⟩,Z,Z⟩ (yc ⟨⟨_,zeroValue3,Eo⟩,Z,Z⟩ (yc ⟨⟨_,zeroValue211,ZR.nilf⟩,Z,Z⟩ (yc ⟨⟨_,zeroValue216,ZR.nilf⟩,Z,Z⟩ (yc ⟨⟨_,zeroValue31,(zrC Z)⟩,Z,Z⟩ (yc ⟨⟨_,zeroValue154,(zrC Z)⟩,Z,Z⟩ (yc ⟨⟨_,zeroValue152,(zrC Z)⟩,Z,Z⟩ (yc ⟨⟨_,zeroValue283,(zrC Z)⟩,Z,Z⟩ (yc ⟨⟨_,zeroValue333,(zrC Z)⟩,Z,Z⟩ (yc ⟨⟨_,zeroValue242,ZR.nilm⟩,Z,Z⟩ (yc ⟨⟨_,zeroValue160,ZR.nilm⟩,Z,Z⟩ (yc ⟨⟨_,zeroValue44,(zrC Z)⟩,Z,Z⟩ (yc ⟨⟨_,zeroValue287,(zrC Z)⟩,Z,Z⟩ (yc ⟨⟨_,zeroValue339,ZR.nilp⟩,Z,Z⟩ (yc ⟨⟨_,zeroValue340,ZR.nilp⟩,Z,Z⟩ (yc ⟨⟨_,zeroValue341,ZR.nilp⟩,Z,Z⟩ (yc ⟨⟨_,zeroValue342,ZR.nilp⟩,Z,Z⟩ (yc ⟨⟨_,zeroValue96,(zrC Z)⟩,Z,Z⟩ (yc ⟨⟨_,zeroValue297,(zrC Z)⟩,Z,Z⟩ (yc ⟨⟨_,zeroValue305,(zrC Z)⟩,Z,Z⟩ (yc ⟨⟨_,zeroValue352,ZR.nilp⟩,Z,Z⟩ (yc ⟨⟨_,zeroValue116,ZR.nilm⟩,Z,Z⟩ (yc ⟨⟨_,zeroValue122,ZR.nilf⟩,Z,Z⟩ (yc ⟨⟨_,zeroValue126,ZR.nilm⟩,Z,Z⟩ (yc ⟨⟨_,zeroValue121,(zrC Z)⟩,Z,Z⟩ (yc ⟨⟨_,zeroValue36,(zrC Z)⟩,Z,Z⟩ (yc ⟨⟨_,zeroValue51,(zrC Z)⟩,Z,Z⟩ (yc ⟨⟨_,zeroValue39,ZR.nils⟩,Z,Z⟩ (yc ⟨⟨_,zeroValue49,ZR.nils⟩,Z,Z⟩ (yc ⟨⟨_,zeroValue134,ZR.nilf⟩,Z,Z⟩ (yc ⟨⟨_,zeroValue135,ZR.nilf⟩,Z,Z⟩ (yc ⟨⟨_,zeroValue76,(zrC Z)⟩,Z,Z⟩ (yc ⟨⟨_,zeroValue78,(zrC Z)⟩,Z,Z⟩ (yc ⟨⟨_,zeroValue70,(zrC Z)⟩,Z,Z⟩ (yc ⟨⟨_,zeroValue58,(zrC Z)⟩,Z,Z⟩ (List.forall_mem_nil _))))))))))))))))))))))))))))))))))))))))))))),
   yc ⟨_,runUnderlying249⟩ (yc ⟨_,runUnderlying239⟩ (yc ⟨_,runUnderlying66⟩ (yc ⟨_,runUnderlying285⟩ (yc ⟨_,runUnderlying34⟩ (yc ⟨_,runUnderlying39⟩ (yc ⟨_,runUnderlying49⟩ (List.forall_mem_nil _)))))))⟩
theorem G0{h0 N:Nat}{c:Code}{c':Cf}{k':List Kf}{env env':Env}{H H':Qd}{Q:QA}(n:Nat)(h:QiD tyX h0 N n (.code c) [] env H=some (c',k',env',H'))(g:Hd prog h0 N c' k' env' H' Q):TC prog h0 N c env H Q:=Qcz QbA n h g
theorem Gc{h0 N:Nat}{k:List Kf}{c:Code}{c':Cf}{k':List Kf}{env env':Env}{H H':Qd}{Q:QA}(n:Nat)(h:QiD tyX h0 N n (.code c) k env H=some (c',k',env',H'))(g:Hd prog h0 N c' k' env' H' Q):TC prog h0 N c env H (kq prog h0 N k Q):=Qcz QbA n h g
theorem Go{h0 N:Nat}{k:List Kf}{all:Array Oper}{l:List Oper}{c':Cf}{k':List Kf}{env env':Env}{H H':Qd}{Q:QA}(n:Nat)(h:QiD tyX h0 N n (.ops all l) k env H=some (c',k',env',H'))(g:Hd prog h0 N c' k' env' H' Q):WO prog h0 N all l env H (kq prog h0 N k Q):=Qcz QbA n h g
theorem Gx{h0 N:Nat}{k:List Kf}{x:AEx}{c':Cf}{k':List Kf}{env env':Env}{H H':Qd}{Q:QA}(n:Nat)(h:QiD tyX h0 N n (.out x) k env H=some (c',k',env',H'))(g:Hd prog h0 N c' k' env' H' Q):kq prog h0 N k Q x env H:=Qcz QbA n h g
theorem D{N m:Nat}{l r r':List Oper}{ds:List Nat}{env:Env}{H:Qd}{K:List Oper->Env->Qd->Prop}{xs xs':List A}(n:Nat)(h:Qhu tyX N m l ds env H n xs.length r xs=some (r',xs'))(k:DS prog N m l ds env H K r' xs'):DS prog N m l ds env H K r xs:=QeF QbA n _ rfl h k
def tyZ:TyZ:={sl:=[(108,156,3),(22,119,2),(23,162,4),(24,111,5),(25,201,2),(26,205,4),(27,209,3),(28,221,4),(109,215,3),(249,5,1),(66,3,1),(29,154,8),(150,152,4),(239,280,1),(303,305,4),(39,36,3),(49,70,3),(56,66,1),(34,96,57)],fn:=[106,239,180,109,107,111,113,115,117,108,110,112,114,116,181,99,57,119,128,187,243,186,124,189,244,188,131,120,118,183,241,182,121,185,242,184,123,122,143,201,142,133,191,245,190,125,193,246,192,136,195,247,194,126,197,248,196,139,127,129,130,72,132,134,135,137,138,141,283,249,198,269,199,270,251,250,140,144,145,74,73,68,69,70,71,95,37,39,46,47,77,252,253,254,255,256,203,147,79,78,146,76,213,272,275,274,273,277,260,214,150,149,151,152,83,82,86,40,38,13,51,52,178,100,238,179,102,60,61,62,18,29,58,42,27,32,15,24,34,35,105,67,104,36,66,63,64,103,65,11,12,22,30]}
theorem Qew:QcT prog tyZ:=
  ⟨yc ⟨runUnderlying108,sizeOf156⟩ (yc ⟨runUnderlying22,sizeOf119⟩ (yc ⟨runUnderlying23,sizeOf162⟩ (yc ⟨runUnderlying24,sizeOf111⟩ (yc ⟨runUnderlying25,sizeOf201⟩ (yc ⟨runUnderlying26,sizeOf205⟩ (yc ⟨runUnderlying27,sizeOf209⟩ (yc ⟨runUnderlying28,sizeOf221⟩ (yc ⟨runUnderlying109,sizeOf215⟩ (yc ⟨runUnderlying249,sizeOf5⟩ (yc ⟨runUnderlying66,sizeOf3⟩ (yc ⟨runUnderlying29,sizeOf154⟩ (yc ⟨runUnderlying150,sizeOf152⟩ (yc ⟨runUnderlying239,sizeOf280⟩ (yc ⟨runUnderlying303,sizeOf305⟩ (yc ⟨runUnderlying39,sizeOf36⟩ (yc ⟨runUnderlying49,sizeOf70⟩ (yc ⟨runUnderlying56,sizeOf66⟩ (yc ⟨runUnderlying34,sizeOf96⟩ (List.forall_mem_nil _))))))))))))))))))),
   yc call106 (yc call239 (yc call180 (yc call109 (yc call107 (yc call111 (yc call113 (yc call115 (yc call117 (yc call108 (yc call110 (yc call112 (yc call114 (yc call116 (yc call181 (yc call99 (yc call57 (yc call119 (yc call128 (yc call187 (yc call243 (yc call186 (yc call124 (yc call189 (yc call244 (yc call188 (yc call131 (yc call120 (yc call118 (yc call183 (yc call241 (yc call182 (yc call121 (yc call185 (yc call242 (yc call184 (yc call123 (yc call122 (yc call143 (yc call201 (yc call142 (yc call133 (yc call191 (yc call245 (yc call190 (yc call125 (yc call193 (yc call246 (yc call192 (yc call136 (yc call195 (yc call247 (yc call194 (yc call126 (yc call197 (yc call248 (yc call196 (yc call139 (yc call127 (yc call129 (yc call130 (yc call72 (yc call132 (yc call134 (yc call135 (yc call137 (yc call138 (yc call141 (yc call283 (yc call249 (yc call198 (yc call269 (yc call199 (yc call270 (yc call251 (yc call250 (yc call140 (yc call144 (yc call145 (yc call74 (yc call73 (yc call68 (yc call69 (yc call70 (yc call71 (yc call95 (yc call37 (yc call39 (yc call46 (yc call47 (yc call77 (yc call252 (yc call253 (yc call254 (yc call255 (yc call256 (yc call203 (yc call147 (yc call79 (yc call78 (yc call146 (yc call76 (yc call213 (yc call272 (yc call275 (yc call274 (yc call273 (yc call277 (yc call260 (yc call214 (yc call150 (yc call149 (yc call151 (yc call152 (yc call83 (yc call82 (yc call86 (yc call40 (yc call38 (yc call13 (yc call51 (yc call52 (yc call178 (yc call100 (yc call238 (yc call179 (yc call102 (yc call60 (yc call61 (yc call62 (yc call18 (yc call29 (yc call58 (yc call42 (yc call27 (yc call32 (yc call15 (yc call24 (yc call34 (yc call35 (yc call105 (yc call67 (yc call104 (yc call36 (yc call66 (yc call63 (yc call64 (yc call103 (yc call65 (yc call11 (yc call12 (yc call22 (yc call30 (List.forall_mem_nil _)))))))))))))))))))))))))))))))))))))))))))))))))))))))))))))))))))))))))))))))))))))))))))))))))))))))))))))))))))))))))))))))))))))))))))))))))))))))))⟩
theorem Iz{h0 N:Nat}{all:Array Oper}{o:Oper}{l:List Oper}{env:Env}{H:Qd}{Q:QA}{d:Nat}{α:Type}{e:α->List A}{t et k:Nat}{L:List α}{kk:IntKind}{i:Int}{v:α}(h:idx L i=some v)(q:ixB o env=some (d,t,k,L.map e,kk,i))(g:WO prog h0 N all l (up env d (.rp (e v))) H Q)(ht:Qb6 tyZ.sl t=some (et,k):=by exact rfl)(hg:YS all o env=some true:=by exact rfl)(hN:Nat.blt d N=true:=by exact rfl):WO prog h0 N all (o::l) env H Q:=Izz Qew h q g ht hg hN
theorem IzE{h0 N:Nat}{all:Array Oper}{o:Oper}{l:List Oper}{env:Env}{H:Qd}{Q:QA}{d:Nat}{α:Type}{e:α->List A}{t et k:Nat}{L:List α}{kk:IntKind}{i:Int}{v:α}{cs:List A}(h:idx L i=some v)(he:e v=cs)(q:ixB o env=some (d,t,k,L.map e,kk,i))(g:WO prog h0 N all l (up env d (.rp cs)) H Q)(ht:Qb6 tyZ.sl t=some (et,k):=by exact rfl)(hg:YS all o env=some true:=by exact rfl)(hN:Nat.blt d N=true:=by exact rfl):WO prog h0 N all (o::l) env H Q:=Ize Qew h he q g ht hg hN
theorem Lm{h0 N:Nat}{all:Array Oper}{o:Oper}{l:List Oper}{env:Env}{H:Qd}{Q:QA}{d:Nat}{α:Type}{e:α->List A}{t et k k':Nat}{L:List α}(q:lnB o env=some (d,t,.mk (.rsl k (L.map e))))(g:WO prog h0 N all l (up env d (I L.length)) H Q)(ht:Qb6 tyZ.sl t=some (et,k'):=by exact rfl)(hg:YS all o env=some true:=by exact rfl)(hN:Nat.blt d N=true:=by exact rfl):WO prog h0 N all (o::l) env H Q:=Lmz Qew q g ht hg hN
theorem Cz{h0 N:Nat}{all:Array Oper}{o:Oper}{l:List Oper}{env:Env}{H:Qd}{Q:QA}{d:Nat}{β γ:Type}{F:Option β}{F':β->Option γ}{r:γ}{f:Nat}{args argsc:List A}{w:β->A}{Hc:Qd}(π:List Nat)(h:F.bind F'=some r)(hC:∀v,F=some v->C prog f argsc Hc (RQ w (λ_=>Hc) v))(hop:QfL tyZ o env=some (d,f,args))(g:∀v,F=some v->F' v=some r->WO prog h0 N all l (up env d (w v)) H Q)(hv:∀v,QiC (w v)=some (.mk (w v)):=by exact λ_=>rfl)(hargs:args=Qaa (rho π H.length) argsc:=by exact rfl)(hH:π.map (λp=>H[p]?)=(Hc.map (QQ (rho π H.length))).map some:=by exact rfl)(hπ:π.Nodup:=by decide)(hg:YS all o env=some true:=by exact rfl)(hN:Nat.blt d N=true:=by exact rfl)(hh:Nat.ble h0 H.length=true:=by exact rfl):WO prog h0 N all (o::l) env H Q:=Czz Qew π h hC hop g hv hargs hH hπ hg hN hh
theorem Cb{h0 N:Nat}{all:Array Oper}{o:Oper}{l:List Oper}{env:Env}{H:Qd}{Q:QA}{d:Nat}{β γ:Type}{F:Option β}{F':β->Option γ}{r:γ}{f:Nat}{args argsc:List A}{w:β->A}(h:F.bind F'=some r)(hC:∀v,F=some v->C prog f argsc [] (RQ w Ze v))(hop:QfL tyZ o env=some (d,f,args))(hL:Qbg H args argsc)(g:∀v,F=some v->F' v=some r->WO prog h0 N all l (up env d (w v)) H Q)(hv:∀v,Yd (w v)=true:=by exact λ_=>rfl)(hg:YS all o env=some true:=by exact rfl)(hN:Nat.blt d N=true:=by exact rfl):WO prog h0 N all (o::l) env H Q:=Cbz Qew h hC hop hL g hv hg hN
theorem Dz{N m:Nat}{o:Oper}{l ll:List Oper}{ds:List Nat}{xs:List A}{env:Env}{H:Qd}{K:List Oper->Env->Qd->Prop}{d:Nat}{β γ:Type}{F:Option β}{F':β->Option γ}{r:γ}{f:Nat}{args argsc:List A}{w:β->A}{Hc:Qd}(π:List Nat)(h:F.bind F'=some r)(hC:∀v,F=some v->C prog f argsc Hc (RQ w (λ_=>Hc) v))(hop:QfL tyZ o (Ya (Qg o) 0 ds xs env)=some (d,f,args))(g:∀v,F=some v->F' v=some r->DS prog N m ll ds env H K l (xs++[w v]))(hv:∀v,QiC (w v)=some (.mk (w v)):=by exact λ_=>rfl)(hargs:args=Qaa (rho π H.length) argsc:=by exact rfl)(hH:π.map (λp=>H[p]?)=(Hc.map (QQ (rho π H.length))).map some:=by exact rfl)(hπ:π.Nodup:=by decide)(hg:YS ll.toArray o (Ya (Qg o) 0 ds xs env)=some true:=by exact rfl)(hN:Nat.blt d N=true:=by exact rfl)(hx:Nat.blt xs.length m=true:=by exact rfl):DS prog N m ll ds env H K (o::l) xs:=DzZ Qew π h hC hop g hv hargs hH hπ hg hN hx
theorem DSs{h0 N id:Nat}{l:List Oper}{env:Env}{H:Qd}{Q:QA}(m:Nat)(hc:Go.Sw.draw0 l m N (Qa9 m 0 l)=true)(h:DS prog N m l (Qa9 m 0 l) env H (λr e H=>WO prog h0 N l.toArray r e H Q) l [])(h0B:Nat.ble h0 H.length=true:=by exact rfl):TC prog h0 N (.region id l.toArray true) env H Q:=Qnb (k:=[]) m draws hc h0B h
theorem Da{N m:Nat}{cat:List Nat}{l r r':List Oper}{ds:List Nat}{env:Env}{H:Qd}{K:List Oper->Env->Qd->Prop}{xs xs':List A}(n:Nat)(h:Qhv tyX N m cat l ds env H n xs.length r xs=some (r',xs'))(k:DA prog N m cat l ds env H K r' xs'):DA prog N m cat l ds env H K r xs:=QeI QbA n _ rfl h k
theorem Db{N m:Nat}{cat:List Nat}{l r r':List Oper}{ds:List Nat}{env:Env}{H H1:Qd}{K:List Oper->Env->Qd->Prop}{xs xs':List A}(n:Nat)(h:QeH tyX N cat l ds env H1 n xs.length r xs=some (r',xs'))(k:DB prog N m cat l ds env H H1 K r' xs'):DB prog N m cat l ds env H H1 K r xs:=QbG QbA n _ rfl h k
theorem Dk{N m n:Nat}{bs:List Nat}{cat:Kat}{l r r':List Oper}{ds:List Nat}{env:Env}{X:Qd}{Hs Hs':List Qd}{K:List Oper->Env->Qd->Prop}{xs xs':List A}(k:Nat)(h:QeG tyX N m cat l ds env n k xs.length Hs.length Hs X r xs=some (Hs',r',xs'))(g:DK prog N m bs cat l ds env n K Hs' X r' xs'):DK prog N m bs cat l ds env n K Hs X r xs:=QbF QbA k _ _ rfl rfl h g
theorem DKs{h0 N id:Nat}{l:List Oper}{env:Env}{H:Qd}{Q:QA}(m:Nat)(bs:List Nat)(cat:Kat)(hc:QdV l m N (Qa9 m 0 l) (hsK cat) (rqK bs cat) (msK bs) (plK cat)=true)(h:DK prog N m bs cat l (Qa9 m 0 l) env H.length (λr e H=>WO prog h0 N l.toArray r e H Q) [] H l [])(hcl:Nat.beq cat.length m=true:=by exact rfl)(h0B:Nat.ble h0 H.length=true:=by exact rfl):TC prog h0 N (.region id l.toArray true) env H Q:=Qnc m bs cat draws hc hcl h0B h
theorem DAs{h0 N id:Nat}{l:List Oper}{env:Env}{H:Qd}{Q:QA}(m b:Nat)(cat:List Nat)(hc:QdV l m N (Qa9 m 0 l) (hsC cat) (rqC b cat) [[],[b]] (plC cat)=true)(h:DA prog N m cat l (Qa9 m 0 l) env H (λr e H=>WO prog h0 N l.toArray r e H Q) l [])(hcl:Nat.beq cat.length m=true:=by exact rfl)(h0B:Nat.ble h0 H.length=true:=by exact rfl):TC prog h0 N (.region id l.toArray true) env H Q:=Qnd m b cat draws hc hcl h0B h
theorem Cd{h0 N:Nat}{all:Array Oper}{o:Oper}{l:List Oper}{env:Env}{H:Qd}{Q:QA}{d:Nat}{β γ:Type}{F:Option β}{F':β->Option γ}{r:γ}{f:Nat}{args argsc:List A}{w:β->A}{Hc:Qd}{Hr:β->Qd}(π:List Nat)(h:F.bind F'=some r)(hC:∀v,F=some v->C prog f argsc Hc (RQ w Hr v))(hop:QfL tyZ o env=some (d,f,args))(g:∀v,F=some v->F' v=some r->WO prog h0 N all l (up env d (Yr (rho π H.length) (w v))) (Yf H π ((Hr v).map (QQ (rho π H.length)))) Q)(hargs:args=Qaa (rho π H.length) argsc:=by exact rfl)(hH:π.map (λp=>H[p]?)=(Hc.map (QQ (rho π H.length))).map some:=by exact rfl)(hπ:π.Nodup:=by decide)(hg:YS all o env=some true:=by exact rfl)(hN:Nat.blt d N=true:=by exact rfl)(hh:Nat.ble h0 H.length=true:=by exact rfl):WO prog h0 N all (o::l) env H Q:=Cdz Qew π h hC hop g hargs hH hπ hg hN hh
theorem v0{N:Nat}{l:List Oper}{ds:List Nat}{xs:List A}{env0:Env}{hB hE i:Nat}{H:Qd}{x:A}(hx:xs[i]?=some x)(h:Qjr tyT N l ds xs env0 H i=some x):Jd prog N l ds xs env0 hB hE i H H:=vQ tyOK hx h
theorem ov{N:Nat}{l:List Oper}{ds:List Nat}{xs:List A}{env0:Env}{i c:Nat}{H:Qd}{x:A}(k:Oq prog N l ds xs env0 H (i+1) c)(hx:xs[i]?=some x:=by exact rfl)(h:Qjr tyT N l ds xs env0 H i=some x:=by exact rfl):Oq prog N l ds xs env0 H i (c+1):=.c (vQ tyOK hx h) k
theorem Gy0{T:Type}{X:Ctx T}{st:YSt T}{h0 N:Nat}{c:Code}{c':Cf}{k':List Kf}{env env':Env}{H H':Qd}{Q:YC T}(n:Nat)(h:Qkc tyX h0 N n (.code c) [] env H=some (c',k',env',H'))(g:HdY X prog h0 N c' k' env' H' st Q):TCy X prog h0 N c env H st Q:=Qed QbA n h g
theorem Gyo{T:Type}{X:Ctx T}{st:YSt T}{h0 N:Nat}{k:List Kf}{all:Array Oper}{l:List Oper}{c':Cf}{k':List Kf}{env env':Env}{H H':Qd}{Q:YC T}(n:Nat)(h:Qkc tyX h0 N n (.ops all l) k env H=some (c',k',env',H'))(g:HdY X prog h0 N c' k' env' H' st Q):WOy X prog h0 N all l env H st (kqY X prog h0 N k Q):=Qed QbA n h g
theorem Gyx{T:Type}{X:Ctx T}{st:YSt T}{h0 N:Nat}{k:List Kf}{x:AEx}{c':Cf}{k':List Kf}{env env':Env}{H H':Qd}{Q:YC T}(n:Nat)(h:Qkc tyX h0 N n (.out x) k env H=some (c',k',env',H'))(g:HdY X prog h0 N c' k' env' H' st Q):kqY X prog h0 N k Q x env H st:=Qed QbA n h g
def lay_contains_240_ren:Go.Shelf.Ren:=⟨λ|144=>240|143=>268|219=>282|217=>284|225=>285|224=>286|267=>287|266=>288|314=>289|n=>n,λ|9=>9|4=>4|3=>3|5=>5|46=>97|146=>319|51=>261|n=>n,λ|1=>11|n=>n⟩
theorem Qdn:Go.Proofs.Lays.n144 prog lay_contains_240_ren:={
  mixed:=by kernel_rfl
  f143:=func268.trans (congrArg some (by kernel_rfl))
  f144:=func240.trans (congrArg some (by kernel_rfl))
  f217:=func284.trans (congrArg some (by kernel_rfl))
  f219:=func282.trans (congrArg some (by kernel_rfl))
  f224:=func286.trans (congrArg some (by kernel_rfl))
  f225:=func285.trans (congrArg some (by kernel_rfl))
  f266:=func288.trans (congrArg some (by kernel_rfl))
  f267:=func287.trans (congrArg some (by kernel_rfl))
  f314:=func289.trans (congrArg some (by kernel_rfl))
  t3:=underlying3
  a3:=isAgg3
  z3:=sizeOf3
  v3:=zeroValue3
  t4:=underlying4
  a4:=isAgg4
  z4:=sizeOf4
  v4:=zeroValue4
  t5:=underlying5
  a5:=isAgg5
  z5:=sizeOf5
  v5:=zeroValue5
  t9:=underlying9
  a9:=isAgg9
  z9:=sizeOf9
  v9:=zeroValue9
  t46:=underlying97
  a46:=isAgg97
  z46:=sizeOf97
  v46:=zeroValue97
  t51:=underlying261
  a51:=isAgg261
  z51:=sizeOf261
  v51:=zeroValue261
  t146:=underlying319
  a146:=isAgg319
  z146:=sizeOf319
  v146:=zeroValue319
  g1:=by kernel_rfl}
def lay_sortK_80_ren:Go.Shelf.Ren:=⟨λ|6=>80|15=>85|14=>148|28=>161|29=>162|20=>205|21=>206|22=>207|23=>208|24=>209|25=>210|26=>211|27=>212|46=>257|47=>217|48=>218|49=>258|50=>259|57=>271|n=>n,λ|22=>34|24=>96|25=>172|3=>3|39=>97|0=>0|53=>261|55=>263|4=>4|46=>255|45=>254|50=>127|5=>5|9=>9|66=>307|70=>291|76=>354|77=>157|n=>n,λ|n=>n⟩
theorem QgP:Go.Proofs.SlLaysF0.n6 prog lay_sortK_80_ren:={
  mixed:=by kernel_rfl
  f6:=⟨f80.name,by decide,func80.trans (congrArg some (by kernel_rfl))⟩
  f14:=⟨f148.name,by decide,func148.trans (congrArg some (by kernel_rfl))⟩
  f15:=func85.trans (congrArg some (by kernel_rfl))
  f20:=⟨f205.name,by decide,func205.trans (congrArg some (by kernel_rfl))⟩
  f21:=⟨f206.name,by decide,func206.trans (congrArg some (by kernel_rfl))⟩
  f22:=⟨f207.name,by decide,func207.trans (congrArg some (by kernel_rfl))⟩
  f23:=⟨f208.name,by decide,func208.trans (congrArg some (by kernel_rfl))⟩
  f24:=⟨f209.name,by decide,func209.trans (congrArg some (by kernel_rfl))⟩
  f25:=⟨f210.name,by decide,func210.trans (congrArg some (by kernel_rfl))⟩
  f26:=⟨f211.name,by decide,func211.trans (congrArg some (by kernel_rfl))⟩
  f27:=⟨f212.name,by decide,func212.trans (congrArg some (by kernel_rfl))⟩
  f28:=func161.trans (congrArg some (by kernel_rfl))
  f29:=func162.trans (congrArg some (by kernel_rfl))
  f46:=⟨f257.name,by decide,func257.trans (congrArg some (by kernel_rfl))⟩
  f47:=func217.trans (congrArg some (by kernel_rfl))
  f48:=func218.trans (congrArg some (by kernel_rfl))
  f49:=⟨f258.name,by decide,func258.trans (congrArg some (by kernel_rfl))⟩
  f50:=⟨f259.name,by decide,func259.trans (congrArg some (by kernel_rfl))⟩
  f57:=⟨f271.name,by decide,func271.trans (congrArg some (by kernel_rfl))⟩
  t0:=underlying0
  a0:=isAgg0
  z0:=sizeOf0
  v0:=zeroValue0
  t3:=underlying3
  a3:=isAgg3
  z3:=sizeOf3
  v3:=zeroValue3
  t4:=underlying4
  a4:=isAgg4
  z4:=sizeOf4
  v4:=zeroValue4
  t5:=underlying5
  a5:=isAgg5
  z5:=sizeOf5
  v5:=zeroValue5
  t9:=underlying9
  a9:=isAgg9
  z9:=sizeOf9
  v9:=zeroValue9
  t22:=underlying34
  a22:=isAgg34
  z22:=sizeOf34
  v22:=zeroValue34
  t25:=underlying172
  a25:=isAgg172
  z25:=sizeOf172
  v25:=zeroValue172
  t39:=underlying97
  a39:=isAgg97
  z39:=sizeOf97
  v39:=zeroValue97
  t45:=underlying254
  a45:=isAgg254
  z45:=sizeOf254
  v45:=zeroValue254
  t46:=underlying255
  a46:=isAgg255
  z46:=sizeOf255
  v46:=zeroValue255
  t50:=underlying127
  a50:=isAgg127
  z50:=sizeOf127
  v50:=zeroValue127
  t53:=underlying261
  a53:=isAgg261
  z53:=sizeOf261
  v53:=zeroValue261
  t55:=underlying263
  a55:=isAgg263
  z55:=sizeOf263
  v55:=zeroValue263
  t66:=underlying307
  a66:=isAgg307
  z66:=sizeOf307
  v66:=zeroValue307
  t70:=underlying291
  a70:=isAgg291
  z70:=sizeOf291
  v70:=zeroValue291
  t76:=underlying354
  a76:=isAgg354
  z76:=sizeOf354
  v76:=zeroValue354
  t77:=underlying157
  a77:=isAgg157
  z77:=sizeOf157
  v77:=zeroValue157}
def lay_sortK_41_ren:Go.Shelf.Ren:=⟨λ|6=>41|15=>85|14=>84|28=>161|29=>162|20=>153|21=>154|22=>155|23=>156|24=>157|25=>158|26=>159|27=>160|46=>216|47=>217|48=>218|49=>219|50=>220|57=>262|n=>n,λ|22=>39|24=>36|25=>129|3=>3|39=>97|0=>0|53=>261|55=>263|4=>4|46=>255|45=>254|50=>127|5=>5|9=>9|66=>307|70=>291|76=>354|77=>157|n=>n,λ|n=>n⟩
theorem QgQ:Go.Proofs.SlLaysF0.n6 prog lay_sortK_41_ren:={
  mixed:=by kernel_rfl
  f6:=⟨f41.name,by decide,func41.trans (congrArg some (by kernel_rfl))⟩
  f14:=⟨f84.name,by decide,func84.trans (congrArg some (by kernel_rfl))⟩
  f15:=func85.trans (congrArg some (by kernel_rfl))
  f20:=⟨f153.name,by decide,func153.trans (congrArg some (by kernel_rfl))⟩
  f21:=⟨f154.name,by decide,func154.trans (congrArg some (by kernel_rfl))⟩
  f22:=⟨f155.name,by decide,func155.trans (congrArg some (by kernel_rfl))⟩
  f23:=⟨f156.name,by decide,func156.trans (congrArg some (by kernel_rfl))⟩
  f24:=⟨f157.name,by decide,func157.trans (congrArg some (by kernel_rfl))⟩
  f25:=⟨f158.name,by decide,func158.trans (congrArg some (by kernel_rfl))⟩
  f26:=⟨f159.name,by decide,func159.trans (congrArg some (by kernel_rfl))⟩
  f27:=⟨f160.name,by decide,func160.trans (congrArg some (by kernel_rfl))⟩
  f28:=func161.trans (congrArg some (by kernel_rfl))
  f29:=func162.trans (congrArg some (by kernel_rfl))
  f46:=⟨f216.name,by decide,func216.trans (congrArg some (by kernel_rfl))⟩
  f47:=func217.trans (congrArg some (by kernel_rfl))
  f48:=func218.trans (congrArg some (by kernel_rfl))
  f49:=⟨f219.name,by decide,func219.trans (congrArg some (by kernel_rfl))⟩
  f50:=⟨f220.name,by decide,func220.trans (congrArg some (by kernel_rfl))⟩
  f57:=⟨f262.name,by decide,func262.trans (congrArg some (by kernel_rfl))⟩
  t0:=underlying0
  a0:=isAgg0
  z0:=sizeOf0
  v0:=zeroValue0
  t3:=underlying3
  a3:=isAgg3
  z3:=sizeOf3
  v3:=zeroValue3
  t4:=underlying4
  a4:=isAgg4
  z4:=sizeOf4
  v4:=zeroValue4
  t5:=underlying5
  a5:=isAgg5
  z5:=sizeOf5
  v5:=zeroValue5
  t9:=underlying9
  a9:=isAgg9
  z9:=sizeOf9
  v9:=zeroValue9
  t22:=underlying39
  a22:=isAgg39
  z22:=sizeOf39
  v22:=zeroValue39
  t25:=underlying129
  a25:=isAgg129
  z25:=sizeOf129
  v25:=zeroValue129
  t39:=underlying97
  a39:=isAgg97
  z39:=sizeOf97
  v39:=zeroValue97
  t45:=underlying254
  a45:=isAgg254
  z45:=sizeOf254
  v45:=zeroValue254
  t46:=underlying255
  a46:=isAgg255
  z46:=sizeOf255
  v46:=zeroValue255
  t50:=underlying127
  a50:=isAgg127
  z50:=sizeOf127
  v50:=zeroValue127
  t53:=underlying261
  a53:=isAgg261
  z53:=sizeOf261
  v53:=zeroValue261
  t55:=underlying263
  a55:=isAgg263
  z55:=sizeOf263
  v55:=zeroValue263
  t66:=underlying307
  a66:=isAgg307
  z66:=sizeOf307
  v66:=zeroValue307
  t70:=underlying291
  a70:=isAgg291
  z70:=sizeOf291
  v70:=zeroValue291
  t76:=underlying354
  a76:=isAgg354
  z76:=sizeOf354
  v76:=zeroValue354
  t77:=underlying157
  a77:=isAgg157
  z77:=sizeOf157
  v77:=zeroValue157}
end Go.Sw
