/- The types of ClocksSystemSpec and facts on them. -/
import Derived.Test.YtgjcbknjiemdgaaGreatDoorL3
import Derived.Test.YtgjcbknjiemdgaaGreatDoorProg
set_option linter.unusedVariables false
set_option linter.unusedSimpArgs false
set_option maxRecDepth 100000
set_option maxHeartbeats 4000000
namespace Go.Sw
open List(map)
open Int(toNat)
open Go.IntKind(i64 u64 u8)
open Go.Proofs Tryz
abbrev EA:=@runUnderlying66
abbrev EB:=@runUnderlying34
abbrev EC:=@sizeOf96
abbrev ED:=@sizeOf3
abbrev EE:=@runUnderlying9
abbrev EF:=@isAgg3
abbrev EG:=@runUnderlying249
abbrev EH:=@runUnderlying39
abbrev EI:=@runUnderlying3
abbrev EJ:=@runUnderlying263
abbrev EK:=@runUnderlying333
abbrev EL:=@runUnderlying364
abbrev EM:=@zeroValue295
abbrev EN:=@sizeOf36
abbrev EO:=@isAgg96
abbrev EP:=@zeroValue3
abbrev EQ:=@underlying272
abbrev ES:=@runUnderlying264
abbrev ET:=@sizeOf287
abbrev EU:=@runUnderlying56
abbrev EV:=@runUnderlying303
abbrev EW:=@sizeOf44
abbrev EX:=@isAgg287
abbrev EY:=@runUnderlying5
abbrev EZ:=@runUnderlying49
abbrev E0:=@zeroValue44
abbrev E3:=@isAgg44
abbrev E4:=@runUnderlying358
abbrev E5:=@zeroValue371
abbrev E6:=@sizeOf5
abbrev E7:=@runUnderlying96
abbrev E8:=@sizeOf351
abbrev E9:=@runUnderlying239
abbrev Ga:=@runUnderlying285
abbrev Gb:=@runUnderlying371
abbrev Gd:=@underlying9
abbrev Ge:=@zeroValue58
abbrev Gf:=@runUnderlying44
abbrev Gg:=@zeroValue4
abbrev Gh:=@underlying3
abbrev Gi:=@underlying160
abbrev Gj:=@underlying126
abbrev Gk:=@runUnderlying283
abbrev Gl:=@sizeOf305
abbrev Gm:=@runUnderlying78
abbrev Gn:=@zeroValue305
abbrev Gp:=@runUnderlying24
abbrev Gq:=@sizeOf66
abbrev Gr:=@underlying242
abbrev Gs:=@isAgg305
abbrev Gt:=@sizeOf51
abbrev Gu:=@runUnderlying109
abbrev Gv:=@runUnderlying36
abbrev Gw:=@runUnderlying97
abbrev Gy:=@sizeOf4
abbrev Gz:=@isAgg51
abbrev GA:=@sizeOf58
abbrev GB:=@underlying116
abbrev GC:=@sizeOf297
abbrev GD:=@underlying29
abbrev GE:=@sizeOf358
abbrev GF:=@zeroValue333
abbrev GG:=@underlying34
abbrev GH:=@sizeOf371
abbrev GI:=@sizeOf111
abbrev GJ:=@sizeOf9
abbrev GK:=@isAgg36
theorem draws:prog.follows .mixedOrders=true:=by rfl
structure Faults where
  Misses:Int
  Strays:Int
  Window:Int
  Residual:Int
  Drift:Int
  deriving DecidableEq
def Faults.c(x:Faults):List Go.Sw.A:=[I x.Misses,I x.Strays,I x.Window,I x.Residual,I x.Drift]
structure Mat where
  Name:List UInt8
  Kind:Int
  deriving DecidableEq
def Mat.c(x:Mat):List Go.Sw.A:=[.str x.Name,I x.Kind]
structure Leg where
  From:Int
  To:Int
  Min:Int
  Max:Int
  deriving DecidableEq
def Leg.c(x:Leg):List Go.Sw.A:=[I x.From,I x.To,I x.Min,I x.Max]
structure Part where
  Mat:Int
  Laps:Int
  Parts:List Part
mutual
def Part.enc:Part->List A
  |⟨x0,x1,x2⟩=>[I x0,I x1,.rsl 3 (Part.encs x2)]
def Part.encs:List Part->List (List A)
  |[]=>[]
  |x::l=>Part.enc x::Part.encs l
end
theorem Qdx(l:List Part):Part.encs l=map Part.enc l:=by induction l with|nil=>simp[Part.encs]|cons x l h=>simp[Part.encs,h]
def Part.c(x:Part):List Go.Sw.A:=[I x.Mat,I x.Laps,.rsl 3 (map Part.enc x.Parts)]
theorem Yb(x:Part):Part.enc x=Part.c x:=by cases x;simp[Part.enc,Part.c,Qdx]
structure Cutoff where
  Mat:Int
  Lap:Int
  Limit:Int
  deriving DecidableEq
def Cutoff.c(x:Cutoff):List Go.Sw.A:=[I x.Mat,I x.Lap,I x.Limit]
structure Distance where
  Name:List UInt8
  Route:List Part
  Timing:Int
  Cutoffs:List Cutoff
  Extra:Int
def Distance.c(x:Distance):List Go.Sw.A:=[.str x.Name,.rsl 3 (map Part.enc x.Route),I x.Timing,.rsl 3 (map Cutoff.c x.Cutoffs),I x.Extra]
structure Wave where
  Name:List UInt8
  Gun:Int
  deriving DecidableEq
def Wave.c(x:Wave):List Go.Sw.A:=[.str x.Name,I x.Gun]
structure Offence where
  Name:List UInt8
  Time:Int
  Laps:Int
  Out:Bool
  deriving DecidableEq
def Offence.c(x:Offence):List Go.Sw.A:=[.str x.Name,I x.Time,I x.Laps,.bool x.Out]
structure Category where
  Name:List UInt8
  From:Int
  To:Int
  deriving DecidableEq
def Category.c(x:Category):List Go.Sw.A:=[.str x.Name,I x.From,I x.To]
structure Prize where
  Distance:Int
  Category:Int
  Rank:Int
  Amount:Int
  deriving DecidableEq
def Prize.c(x:Prize):List Go.Sw.A:=[I x.Distance,I x.Category,I x.Rank,I x.Amount]
structure Cond where
  Kind:Int
  Var:Int
  N:Int
  Parts:List Cond
mutual
def Cond.enc:Cond->List A
  |⟨x0,x1,x2,x3⟩=>[I x0,I x1,I x2,.rsl 4 (Cond.encs x3)]
def Cond.encs:List Cond->List (List A)
  |[]=>[]
  |x::l=>Cond.enc x::Cond.encs l
end
theorem QdB(l:List Cond):Cond.encs l=map Cond.enc l:=by induction l with|nil=>simp[Cond.encs]|cons x l h=>simp[Cond.encs,h]
def Cond.c(x:Cond):List Go.Sw.A:=[I x.Kind,I x.Var,I x.N,.rsl 4 (map Cond.enc x.Parts)]
theorem Qal(x:Cond):Cond.enc x=Cond.c x:=by cases x;simp[Cond.enc,Cond.c,QdB]
structure Step where
  Kind:Int
  By:Int
  Cond:Cond
  Then:List Step
  Else:List Step
mutual
def Step.enc:Step->List A
  |⟨x0,x1,x2,x3,x4⟩=>[I x0,I x1,I x2.Kind,I x2.Var,I x2.N,.rsl 4 (map Cond.enc x2.Parts),.rsl 8 (Step.encs x3),.rsl 8 (Step.encs x4)]
def Step.encs:List Step->List (List A)
  |[]=>[]
  |x::l=>Step.enc x::Step.encs l
end
theorem Qdu(l:List Step):Step.encs l=map Step.enc l:=by induction l with|nil=>simp[Step.encs]|cons x l h=>simp[Step.encs,h]
def Step.c(x:Step):List Go.Sw.A:=[I x.Kind,I x.By,I x.Cond.Kind,I x.Cond.Var,I x.Cond.N,.rsl 4 (map Cond.enc x.Cond.Parts),.rsl 8 (map Step.enc x.Then),.rsl 8 (map Step.enc x.Else)]
theorem YM(x:Step):Step.enc x=Step.c x:=by cases x;simp[Step.enc,Step.c,Qdu]
structure Course where
  Name:List UInt8
  Mats:List Mat
  Legs:List Leg
  Distances:List Distance
  Waves:List Wave
  Offences:List Offence
  Categories:List Category
  Prizes:List Prize
  Ties:List Step
  Faults:Faults
  Fee:Int
  Deadline:Int
def Course.c(x:Course):List Go.Sw.A:=[.str x.Name,.rsl 2 (map Mat.c x.Mats),.rsl 4 (map Leg.c x.Legs),.rsl 5 (map Distance.c x.Distances),.rsl 2 (map Wave.c x.Waves),.rsl 4 (map Offence.c x.Offences),.rsl 3 (map Category.c x.Categories),.rsl 4 (map Prize.c x.Prizes),.rsl 8 (map Step.enc x.Ties),I x.Faults.Misses,I x.Faults.Strays,I x.Faults.Window,I x.Faults.Residual,I x.Faults.Drift,I x.Fee,I x.Deadline]
structure Starter where
  Bib:Int
  Distance:Int
  Wave:Int
  Slot:Int
  Age:Int
  Chip:Int
  Team:Int
  Lot:Int
  deriving DecidableEq
def Starter.c(x:Starter):List Go.Sw.A:=[I x.Bib,I x.Distance,I x.Wave,I x.Slot,I x.Age,I x.Chip,I x.Team,I x.Lot]
structure Read where
  Mat:Int
  Epoch:Int
  Chip:Int
  Local:Int
  deriving DecidableEq
def Read.c(x:Read):List Go.Sw.A:=[I x.Mat,I x.Epoch,I x.Chip,I x.Local]
structure Beacon where
  Mat:Int
  Epoch:Int
  Local:Int
  True:Int
  Err:Int
  deriving DecidableEq
def Beacon.c(x:Beacon):List Go.Sw.A:=[I x.Mat,I x.Epoch,I x.Local,I x.True,I x.Err]
structure Sync where
  MatA:Int
  EpochA:Int
  LocalA:Int
  MatB:Int
  EpochB:Int
  LocalB:Int
  Min:Int
  Max:Int
  deriving DecidableEq
def Sync.c(x:Sync):List Go.Sw.A:=[I x.MatA,I x.EpochA,I x.LocalA,I x.MatB,I x.EpochB,I x.LocalB,I x.Min,I x.Max]
structure Hand where
  Bib:Int
  Position:Int
  Lo:Int
  Hi:Int
  deriving DecidableEq
def Hand.c(x:Hand):List Go.Sw.A:=[I x.Bib,I x.Position,I x.Lo,I x.Hi]
structure Silence where
  Mat:Int
  Epoch:Int
  Lo:Int
  Hi:Int
  deriving DecidableEq
def Silence.c(x:Silence):List Go.Sw.A:=[I x.Mat,I x.Epoch,I x.Lo,I x.Hi]
structure Pair where
  A:Int
  B:Int
  deriving DecidableEq
def Pair.c(x:Pair):List Go.Sw.A:=[I x.A,I x.B]
structure Report where
  Case:Int
  Bib:Int
  Offence:Int
  Position:Int
  deriving DecidableEq
def Report.c(x:Report):List Go.Sw.A:=[I x.Case,I x.Bib,I x.Offence,I x.Position]
structure Protest where
  Case:Int
  By:Int
  Fee:Int
  Form:Int
  deriving DecidableEq
def Protest.c(x:Protest):List Go.Sw.A:=[I x.Case,I x.By,I x.Fee,I x.Form]
structure Ruling where
  Case:Int
  Instance:Int
  Kind:Int
  Bib:Int
  Position:Int
  Amount:Int
  deriving DecidableEq
def Ruling.c(x:Ruling):List Go.Sw.A:=[I x.Case,I x.Instance,I x.Kind,I x.Bib,I x.Position,I x.Amount]
structure Appeal where
  Case:Int
  Suspends:Bool
  deriving DecidableEq
def Appeal.c(x:Appeal):List Go.Sw.A:=[I x.Case,.bool x.Suspends]
structure Ref where
  Crew:Int
  No:Int
  deriving DecidableEq
def Ref.c(x:Ref):List Go.Sw.A:=[I x.Crew,I x.No]
structure Fact where
  Crew:Int
  No:Int
  At:Int
  Kind:Int
  Starter:Starter
  Read:Read
  Beacon:Beacon
  Sync:Sync
  Hand:Hand
  Silence:Silence
  Pair:Pair
  Report:Report
  Protest:Protest
  Ruling:Ruling
  Appeal:Appeal
  Void:Ref
  deriving DecidableEq
def Fact.c(x:Fact):List Go.Sw.A:=[I x.Crew,I x.No,I x.At,I x.Kind,I x.Starter.Bib,I x.Starter.Distance,I x.Starter.Wave,I x.Starter.Slot,I x.Starter.Age,I x.Starter.Chip,I x.Starter.Team,I x.Starter.Lot,I x.Read.Mat,I x.Read.Epoch,I x.Read.Chip,I x.Read.Local,I x.Beacon.Mat,I x.Beacon.Epoch,I x.Beacon.Local,I x.Beacon.True,I x.Beacon.Err,I x.Sync.MatA,I x.Sync.EpochA,I x.Sync.LocalA,I x.Sync.MatB,I x.Sync.EpochB,I x.Sync.LocalB,I x.Sync.Min,I x.Sync.Max,I x.Hand.Bib,I x.Hand.Position,I x.Hand.Lo,I x.Hand.Hi,I x.Silence.Mat,I x.Silence.Epoch,I x.Silence.Lo,I x.Silence.Hi,I x.Pair.A,I x.Pair.B,I x.Report.Case,I x.Report.Bib,I x.Report.Offence,I x.Report.Position,I x.Protest.Case,I x.Protest.By,I x.Protest.Fee,I x.Protest.Form,I x.Ruling.Case,I x.Ruling.Instance,I x.Ruling.Kind,I x.Ruling.Bib,I x.Ruling.Position,I x.Ruling.Amount,I x.Appeal.Case,.bool x.Appeal.Suspends,I x.Void.Crew,I x.Void.No]
abbrev Uj:Cond:={Kind:=0,Var:=0,N:=0,Parts:=[]}
abbrev Uu:Step:={Kind:=0,By:=0,Cond:=Uj,Then:=[],Else:=[]}
structure Segment where
  Mat:Int
  Epoch:Int
  Anchor:Int
  deriving DecidableEq
def Segment.c(x:Segment):List Go.Sw.A:=[I x.Mat,I x.Epoch,I x.Anchor]
structure Ue where
  from_:Int
  to_:Int
  deriving DecidableEq
def Ue.c(x:Ue):List Go.Sw.A:=[I x.from_,I x.to_]
structure Ug where
  distance:Int
  category:Int
  rank:Int
  deriving DecidableEq
def Ug.c(x:Ug):List Go.Sw.A:=[I x.distance,I x.category,I x.rank]
structure Uh where
  Step:Step
def Uh.c(x:Uh):List Go.Sw.A:=[I x.Step.Kind,I x.Step.By,I x.Step.Cond.Kind,I x.Step.Cond.Var,I x.Step.Cond.N,.rsl 4 (map Cond.enc x.Step.Cond.Parts),.rsl 8 (map Step.enc x.Step.Then),.rsl 8 (map Step.enc x.Step.Else)]
structure Uc where
  Cond:Cond
def Uc.c(x:Uc):List Go.Sw.A:=[I x.Cond.Kind,I x.Cond.Var,I x.Cond.N,.rsl 4 (map Cond.enc x.Cond.Parts)]
inductive Uf where
  |ctyping_step (x:Uh)
  |ctyping_cond (x:Uc)
def Uf.val:Uf->A
  |.ctyping_step x=>.iface 283 (.agg (Uh.c x))
  |.ctyping_cond x=>.iface 333 (.agg (Uc.c x))
def Uf.enc(x:Uf):List A:=[x.val]
def Uf.elim{R:Type}(e:Uf)(f0:Uh->Option R)(f1:Uc->Option R):Option R:=match e with
  |.ctyping_step x=>f0 x
  |.ctyping_cond x=>f1 x
theorem Uf.data(x:Uf):YC x.val=true:=by cases x<;>rfl
theorem JE(e:Uf):(∃x,e=.ctyping_step x)\/(∃x,e=.ctyping_cond x):=by cases e<;>simp
theorem Jt{R:Type}{e:Uf}{x:Uh}{f0:Uh->Option R}{f1:Uc->Option R}{r:R}(hE:e=.ctyping_step x)(h:Uf.elim e f0 f1=some r):f0 x=some r:=by subst hE;exact h
theorem Js{R:Type}{e:Uf}{x:Uc}{f0:Uh->Option R}{f1:Uc->Option R}{r:R}(hE:e=.ctyping_cond x)(h:Uf.elim e f0 f1=some r):f1 x=some r:=by subst hE;exact h
structure Ud where
  steps:Int
  conds:Int
  deriving DecidableEq
def Ud.c(x:Ud):List Go.Sw.A:=[I x.steps,I x.conds]
structure Span where
  Lo:Int
  Hi:Int
  deriving DecidableEq
def Span.c(x:Span):List Go.Sw.A:=[I x.Lo,I x.Hi]
abbrev Um:Faults:={Misses:=0,Strays:=0,Window:=0,Residual:=0,Drift:=0}
abbrev Uk:Course:={Name:=[],Mats:=[],Legs:=[],Distances:=[],Waves:=[],Offences:=[],Categories:=[],Prizes:=[],Ties:=[],Faults:=Um,Fee:=0,Deadline:=0}
structure Ua where
  mat:Int
  epoch:Int
  deriving DecidableEq
def Ua.c(x:Ua):List Go.Sw.A:=[I x.mat,I x.epoch]
structure Ub where
  least:Int
  most:Int
  deriving DecidableEq
def Ub.c(x:Ub):List Go.Sw.A:=[I x.least,I x.most]
abbrev Ut:Starter:={Bib:=0,Distance:=0,Wave:=0,Slot:=0,Age:=0,Chip:=0,Team:=0,Lot:=0}
abbrev Up:Read:={Mat:=0,Epoch:=0,Chip:=0,Local:=0}
abbrev Ui:Beacon:={Mat:=0,Epoch:=0,Local:=0,True:=0,Err:=0}
abbrev Uv:Sync:={MatA:=0,EpochA:=0,LocalA:=0,MatB:=0,EpochB:=0,LocalB:=0,Min:=0,Max:=0}
abbrev Un:Hand:={Bib:=0,Position:=0,Lo:=0,Hi:=0}
abbrev Us:Silence:={Mat:=0,Epoch:=0,Lo:=0,Hi:=0}
abbrev Uq:Report:={Case:=0,Bib:=0,Offence:=0,Position:=0}
abbrev Uo:Protest:={Case:=0,By:=0,Fee:=0,Form:=0}
abbrev Ur:Ruling:={Case:=0,Instance:=0,Kind:=0,Bib:=0,Position:=0,Amount:=0}
abbrev Ul:Fact:={Crew:=0,No:=0,At:=0,Kind:=0,Starter:=Ut,Read:=Up,Beacon:=Ui,Sync:=Uv,Hand:=Un,Silence:=Us,Pair:={A:=0,B:=0:Pair},Report:=Uq,Protest:=Uo,Ruling:=Ur,Appeal:={Case:=0,Suspends:=false:Appeal},Void:={Crew:=0,No:=0:Ref}}
structure Value where
  Kind:Int
  N:Int
  S:List UInt8
  L:List Value
mutual
def Value.enc:Value->List A
  |⟨x0,x1,x2,x3⟩=>[I x0,I x1,.str x2,.rsl 4 (Value.encs x3)]
def Value.encs:List Value->List (List A)
  |[]=>[]
  |x::l=>Value.enc x::Value.encs l
end
theorem Qgw(l:List Value):Value.encs l=map Value.enc l:=by induction l with|nil=>simp[Value.encs]|cons x l h=>simp[Value.encs,h]
def Value.c(x:Value):List Go.Sw.A:=[I x.Kind,I x.N,.str x.S,.rsl 4 (map Value.enc x.L)]
theorem Y0(x:Value):Value.enc x=Value.c x:=by cases x;simp[Value.enc,Value.c,Qgw]
abbrev Uw:Value:={Kind:=0,N:=0,S:=[],L:=[]}
structure Edge where
  From:Int
  To:Int
  W:Int
  deriving DecidableEq
def Edge.c(x:Edge):List Go.Sw.A:=[I x.From,I x.To,I x.W]
structure System where
  Vertices:Int
  Edges:List Edge
  deriving DecidableEq
def System.c(x:System):List Go.Sw.A:=[I x.Vertices,.rsl 3 (map Edge.c x.Edges)]
structure Clocks where
  Segments:List Segment
  Far:List (List Int)
  deriving DecidableEq
def Clocks.c(x:Clocks):List Go.Sw.A:=[.rsl 3 (map Segment.c x.Segments),.rsl 1 (map (Qx 1 (Qf .i64)) x.Far)]
theorem el_22:Ye prog 22 119 2:=⟨runUnderlying22,sizeOf119,⟨_,zeroValue119,rfl⟩,⟨_,typeInfo119,by decide⟩⟩
theorem el_29:Ye prog 29 154 8:=⟨runUnderlying29,sizeOf154,⟨_,zeroValue154,rfl⟩,⟨_,typeInfo154,by decide⟩⟩
theorem YG:Ye prog 249 5 1:=⟨EG,E6,⟨_,zeroValue5,rfl⟩,⟨_,typeInfo5,by decide⟩⟩
theorem QcD:Qaa prog 9 A.str:=Qaa.str Gd
theorem Qz:Ye prog 66 3 1:=⟨EA,ED,⟨_,EP,rfl⟩,⟨_,typeInfo3,by decide⟩⟩
theorem Qm0:prog.underlying 164=some (.struct (prog.fieldsOf 164)):=by kernel_rfl
theorem Qpl:prog.stoodInHeld 164=false:=by kernel_rfl
theorem QeS:Qaa prog 164 (λx=>A.agg (Ue.c x)):=by
  refine Qaa.struct Qm0 Zf (λx y h=>?_) (λw em x=>?_) (λw x y=>?_) (λx=>?_)
  · cases x;cases y
    simpa[QP,YZ,Ue.c]using h
  · simp only[QP,YZ,Ue.c]
    rw[show(10000:Nat)=9998+1+1 from rfl];generalize(9998:Nat)=d;simp[Instr.checkKey,runUnderlying164,EI,Result.andThen,ED,EF,part]
  · have u3:=Gh
    have a3:=EF;have z3:=ED;simp only[QP,YZ,Ue.c,Op.equal,Op.maxDepth];rw[show(10000:Nat)=9999+1 from Z,run_equalIn_agg w 9999 164 _ _ Qm0 Qpl];simp only[Program.fieldsOf,underlying164]
    go_simp
    cases x;cases y;simp
    repeat' split
    all_goals simp_all
  · simp[QP,YZ,Ue.c,Instr.sameBits]
theorem QmZ:prog.underlying 236=some (.struct (prog.fieldsOf 236)):=by kernel_rfl
theorem Qpk:prog.stoodInHeld 236=false:=by kernel_rfl
theorem Qol:Qaa prog 236 (λx=>A.agg (Ug.c x)):=by
  refine Qaa.struct QmZ Zf (λx y h=>?_) (λw em x=>?_) (λw x y=>?_) (λx=>?_)
  · cases x;cases y
    simpa[QP,YZ,Ug.c]using h
  · simp only[QP,YZ,Ug.c]
    rw[show(10000:Nat)=9998+1+1 from rfl];generalize(9998:Nat)=d;simp[Instr.checkKey,runUnderlying236,EI,Result.andThen,ED,EF,part]
  · have u3:=Gh
    have a3:=EF;have z3:=ED;simp only[QP,YZ,Ug.c,Op.equal,Op.maxDepth];rw[show(10000:Nat)=9999+1 from Z,run_equalIn_agg w 9999 236 _ _ QmZ Qpk];simp only[Program.fieldsOf,underlying236]
    go_simp
    cases x;cases y;simp
    repeat' split
    all_goals simp_all
  · simp[QP,YZ,Ug.c,Instr.sameBits]
theorem QcV:Ye prog 239 280 1:=⟨E9,sizeOf280,⟨_,zeroValue280,rfl⟩,⟨_,typeInfo280,by decide⟩⟩
theorem QkC:Qaa prog 3 (λx=>A.int .i64 x):=Qaa.int Gh
theorem QkO:QK prog 36 0 0 1:=FA Gv rfl ED
theorem Qoz:QK prog 36 2 2 1:=FA Gv rfl ED
theorem QkM:QK prog 44 0 0 1:=FA Gf rfl ED
theorem Qoy:QK prog 44 1 1 1:=FA Gf rfl ED
theorem Qm1:prog.underlying 121=some (.struct (prog.fieldsOf 121)):=by kernel_rfl
theorem Qpm:prog.stoodInHeld 121=false:=by kernel_rfl
theorem Qcj:Qaa prog 121 (λx=>A.agg (Ua.c x)):=by
  refine Qaa.struct Qm1 Zf (λx y h=>?_) (λw em x=>?_) (λw x y=>?_) (λx=>?_)
  · cases x;cases y
    simpa[QP,YZ,Ua.c]using h
  · simp only[QP,YZ,Ua.c]
    rw[show(10000:Nat)=9998+1+1 from rfl];generalize(9998:Nat)=d;simp[Instr.checkKey,runUnderlying121,EI,Result.andThen,ED,EF,part]
  · have u3:=Gh
    have a3:=EF;have z3:=ED;simp only[QP,YZ,Ua.c,Op.equal,Op.maxDepth];rw[show(10000:Nat)=9999+1 from Z,run_equalIn_agg w 9999 121 _ _ Qm1 Qpm];simp only[Program.fieldsOf,underlying121]
    go_simp
    cases x;cases y;simp
    repeat' split
    all_goals simp_all
  · simp[QP,YZ,Ua.c,Instr.sameBits]
theorem QaX:Ye prog 34 96 57:=⟨EB,EC,⟨_,zeroValue96,rfl⟩,⟨_,typeInfo96,by decide⟩⟩
theorem QeU:QK prog 96 3 3 1:=FA E7 rfl ED
theorem Jw:Ye prog 285 297 3:=⟨Ga,GC,⟨_,zeroValue297,rfl⟩,⟨_,typeInfo297,by decide⟩⟩
theorem QkL:QK prog 96 5 12 4:=FA E7 rfl sizeOf74
theorem Qox:QK prog 74 0 0 1:=FA runUnderlying74 rfl ED
theorem Qow:QK prog 74 1 1 1:=FA runUnderlying74 rfl ED
theorem QeT:QK prog 96 6 16 5:=FA E7 rfl sizeOf76
theorem Qov:QK prog 76 0 0 1:=FA runUnderlying76 rfl ED
theorem Qou:QK prog 76 1 1 1:=FA runUnderlying76 rfl ED
theorem Qdk:QK prog 96 7 21 8:=FA E7 rfl sizeOf78
theorem Qot:QK prog 78 0 0 1:=FA Gm rfl ED
theorem Qos:QK prog 78 1 1 1:=FA Gm rfl ED
theorem Qor:QK prog 78 3 3 1:=FA Gm rfl ED
theorem Qoq:QK prog 78 4 4 1:=FA Gm rfl ED
inductive U_facts_open_rxk where
  |c0 (x:Unit)
  |c1 (x:Unit)
  |c2 (x:Unit)
  |c3 (x:Unit)
  |c4 (x:Unit)
  |c5 (x:Unit)
  |c6 (x:Unit)
  |c7 (x:Unit)
  |c8 (x:Unit)
  |c9 (x:Int×Int×Int×Int×Int×Int)
  |c10 (x:Unit)
  |c11 (x:Unit)
  |c12 (x:Unit)
  |c13 (x:Unit)
theorem QeV:QK prog 96 1 1 1:=FA E7 rfl ED
theorem QhC:QK prog 96 2 2 1:=FA E7 rfl ED
theorem Qm6:QK prog 297 0 0 1:=FA runUnderlying297 rfl sizeOf291
def Fact.put(x:Fact)(o:Nat)(v:Int):Option Fact:=match o with
  |0=>some {x with Crew:=v}
  |1=>some {x with No:=v}
  |2=>some {x with At:=v}
  |3=>some {x with Kind:=v}
  |4=>some {x with Starter:={x.Starter with Bib:=v}}
  |5=>some {x with Starter:={x.Starter with Distance:=v}}
  |6=>some {x with Starter:={x.Starter with Wave:=v}}
  |7=>some {x with Starter:={x.Starter with Slot:=v}}
  |8=>some {x with Starter:={x.Starter with Age:=v}}
  |9=>some {x with Starter:={x.Starter with Chip:=v}}
  |10=>some {x with Starter:={x.Starter with Team:=v}}
  |11=>some {x with Starter:={x.Starter with Lot:=v}}
  |12=>some {x with Read:={x.Read with Mat:=v}}
  |13=>some {x with Read:={x.Read with Epoch:=v}}
  |14=>some {x with Read:={x.Read with Chip:=v}}
  |15=>some {x with Read:={x.Read with Local:=v}}
  |16=>some {x with Beacon:={x.Beacon with Mat:=v}}
  |17=>some {x with Beacon:={x.Beacon with Epoch:=v}}
  |18=>some {x with Beacon:={x.Beacon with Local:=v}}
  |19=>some {x with Beacon:={x.Beacon with True:=v}}
  |20=>some {x with Beacon:={x.Beacon with Err:=v}}
  |21=>some {x with Sync:={x.Sync with MatA:=v}}
  |22=>some {x with Sync:={x.Sync with EpochA:=v}}
  |23=>some {x with Sync:={x.Sync with LocalA:=v}}
  |24=>some {x with Sync:={x.Sync with MatB:=v}}
  |25=>some {x with Sync:={x.Sync with EpochB:=v}}
  |26=>some {x with Sync:={x.Sync with LocalB:=v}}
  |27=>some {x with Sync:={x.Sync with Min:=v}}
  |28=>some {x with Sync:={x.Sync with Max:=v}}
  |29=>some {x with Hand:={x.Hand with Bib:=v}}
  |30=>some {x with Hand:={x.Hand with Position:=v}}
  |31=>some {x with Hand:={x.Hand with Lo:=v}}
  |32=>some {x with Hand:={x.Hand with Hi:=v}}
  |33=>some {x with Silence:={x.Silence with Mat:=v}}
  |34=>some {x with Silence:={x.Silence with Epoch:=v}}
  |35=>some {x with Silence:={x.Silence with Lo:=v}}
  |36=>some {x with Silence:={x.Silence with Hi:=v}}
  |37=>some {x with Pair:={x.Pair with A:=v}}
  |38=>some {x with Pair:={x.Pair with B:=v}}
  |39=>some {x with Report:={x.Report with Case:=v}}
  |40=>some {x with Report:={x.Report with Bib:=v}}
  |41=>some {x with Report:={x.Report with Offence:=v}}
  |42=>some {x with Report:={x.Report with Position:=v}}
  |43=>some {x with Protest:={x.Protest with Case:=v}}
  |44=>some {x with Protest:={x.Protest with By:=v}}
  |45=>some {x with Protest:={x.Protest with Fee:=v}}
  |46=>some {x with Protest:={x.Protest with Form:=v}}
  |47=>some {x with Ruling:={x.Ruling with Case:=v}}
  |48=>some {x with Ruling:={x.Ruling with Instance:=v}}
  |49=>some {x with Ruling:={x.Ruling with Kind:=v}}
  |50=>some {x with Ruling:={x.Ruling with Bib:=v}}
  |51=>some {x with Ruling:={x.Ruling with Position:=v}}
  |52=>some {x with Ruling:={x.Ruling with Amount:=v}}
  |53=>some {x with Appeal:={x.Appeal with Case:=v}}
  |55=>some {x with Void:={x.Void with Crew:=v}}
  |56=>some {x with Void:={x.Void with No:=v}}
  |_=>none
theorem Qph:∀(x:Fact) (o:Nat) (v:Int) (y:Fact),Fact.put x o v=some y->Fact.c y=(Fact.c x).set o (I v)/\o<(Fact.c x).length:=by
  intro x o v y h;unfold Fact.put at h;split at h<;>first|(cases h;exact⟨Z,XQ Z⟩)|cases h
theorem nt_96:prog.stoodInHeld 96=false:=by kernel_rfl
theorem nt_94:prog.stoodInHeld 94=false:=by kernel_rfl
theorem Yd(h:Nat):Qh7 prog 3 (h+1) 1 false (λl=>∃x:Int,l=[Value.int .i64 x]):=Qh7.int Gh EF ED h
theorem nt_92:prog.stoodInHeld 92=false:=by kernel_rfl
theorem ei_4(h:Nat):Qh7 prog 4 (h+1) 1 false (λl=>∃x:Bool,l=[Value.bool x]):=Qh7.bool underlying4 isAgg4 Gy h
theorem nt_90:prog.stoodInHeld 90=false:=by kernel_rfl
theorem nt_88:prog.stoodInHeld 88=false:=by kernel_rfl
theorem nt_86:prog.stoodInHeld 86=false:=by kernel_rfl
theorem nt_84:prog.stoodInHeld 84=false:=by kernel_rfl
theorem nt_82:prog.stoodInHeld 82=false:=by kernel_rfl
theorem nt_80:prog.stoodInHeld 80=false:=by kernel_rfl
theorem nt_78:prog.stoodInHeld 78=false:=by kernel_rfl
theorem nt_76:prog.stoodInHeld 76=false:=by kernel_rfl
theorem nt_74:prog.stoodInHeld 74=false:=by kernel_rfl
theorem nt_72:prog.stoodInHeld 72=false:=by kernel_rfl
theorem QhP:EqD prog 96 Fact.c:=by
  refine Qh8 (QS underlying96 nt_96 EO EC (Qkh.c Yd (Qkh.c Yd (Qkh.c Yd (Qkh.c Yd (Qkh.cons Z (by decide) (QS underlying72 nt_72 isAgg72 sizeOf72 (Qkh.c Yd (Qkh.c Yd (Qkh.c Yd (Qkh.c Yd (Qkh.c Yd (Qkh.c Yd (Qkh.c Yd (Qkh.c Yd (Qkh.nil 1 _)))))))))) (λe=>Bool.noConfusion e) (Qkh.cons Z (by decide) (QS underlying74 nt_74 isAgg74 sizeOf74 (Qkh.c Yd (Qkh.c Yd (Qkh.c Yd (Qkh.c Yd (Qkh.nil 1 _)))))) (λe=>Bool.noConfusion e) (Qkh.cons Z (by decide) (QS underlying76 nt_76 isAgg76 sizeOf76 (Qkh.c Yd (Qkh.c Yd (Qkh.c Yd (Qkh.c Yd (Qkh.c Yd (Qkh.nil 1 _))))))) (λe=>Bool.noConfusion e) (Qkh.cons Z (by decide) (QS underlying78 nt_78 isAgg78 sizeOf78 (Qkh.c Yd (Qkh.c Yd (Qkh.c Yd (Qkh.c Yd (Qkh.c Yd (Qkh.c Yd (Qkh.c Yd (Qkh.c Yd (Qkh.nil 1 _)))))))))) (λe=>Bool.noConfusion e) (Qkh.cons Z (by decide) (QS underlying80 nt_80 isAgg80 sizeOf80 (Qkh.c Yd (Qkh.c Yd (Qkh.c Yd (Qkh.c Yd (Qkh.nil 1 _)))))) (λe=>Bool.noConfusion e) (Qkh.cons Z (by decide) (QS underlying82 nt_82 isAgg82 sizeOf82 (Qkh.c Yd (Qkh.c Yd (Qkh.c Yd (Qkh.c Yd (Qkh.nil 1 _)))))) (λe=>Bool.noConfusion e) (Qkh.cons Z (by decide) (QS underlying84 nt_84 isAgg84 sizeOf84 (Qkh.c Yd (Qkh.c Yd (Qkh.nil 1 _)))) (λe=>Bool.noConfusion e) (Qkh.cons Z (by decide) (QS underlying86 nt_86 isAgg86 sizeOf86 (Qkh.c Yd (Qkh.c Yd (Qkh.c Yd (Qkh.c Yd (Qkh.nil 1 _)))))) (λe=>Bool.noConfusion e) (Qkh.cons Z (by decide) (QS underlying88 nt_88 isAgg88 sizeOf88 (Qkh.c Yd (Qkh.c Yd (Qkh.c Yd (Qkh.c Yd (Qkh.nil 1 _)))))) (λe=>Bool.noConfusion e) (Qkh.cons Z (by decide) (QS underlying90 nt_90 isAgg90 sizeOf90 (Qkh.c Yd (Qkh.c Yd (Qkh.c Yd (Qkh.c Yd (Qkh.c Yd (Qkh.c Yd (Qkh.nil 1 _)))))))) (λe=>Bool.noConfusion e) (Qkh.cons Z (by decide) (QS underlying92 nt_92 isAgg92 sizeOf92 (Qkh.c Yd (Qkh.c ei_4 (Qkh.nil 1 _)))) (λe=>Bool.noConfusion e) (Qkh.cons Z (by decide) (QS underlying94 nt_94 isAgg94 sizeOf94 (Qkh.c Yd (Qkh.c Yd (Qkh.nil 1 _)))) (λe=>Bool.noConfusion e) (Qkh.nil 2 _)))))))))))))))))) Z (λx=>⟨[_],_,Z,⟨_,Z⟩,[_],_,Z,⟨_,Z⟩,[_],_,Z,⟨_,Z⟩,[_],_,Z,⟨_,Z⟩,[_,_,_,_,_,_,_,_],_,Z,⟨[_],_,Z,⟨_,Z⟩,[_],_,Z,⟨_,Z⟩,[_],_,Z,⟨_,Z⟩,[_],_,Z,⟨_,Z⟩,[_],_,Z,⟨_,Z⟩,[_],_,Z,⟨_,Z⟩,[_],_,Z,⟨_,Z⟩,[_],_,Z,⟨_,Z⟩,Z⟩,[_,_,_,_],_,Z,⟨[_],_,Z,⟨_,Z⟩,[_],_,Z,⟨_,Z⟩,[_],_,Z,⟨_,Z⟩,[_],_,Z,⟨_,Z⟩,Z⟩,[_,_,_,_,_],_,Z,⟨[_],_,Z,⟨_,Z⟩,[_],_,Z,⟨_,Z⟩,[_],_,Z,⟨_,Z⟩,[_],_,Z,⟨_,Z⟩,[_],_,Z,⟨_,Z⟩,Z⟩,[_,_,_,_,_,_,_,_],_,Z,⟨[_],_,Z,⟨_,Z⟩,[_],_,Z,⟨_,Z⟩,[_],_,Z,⟨_,Z⟩,[_],_,Z,⟨_,Z⟩,[_],_,Z,⟨_,Z⟩,[_],_,Z,⟨_,Z⟩,[_],_,Z,⟨_,Z⟩,[_],_,Z,⟨_,Z⟩,Z⟩,[_,_,_,_],_,Z,⟨[_],_,Z,⟨_,Z⟩,[_],_,Z,⟨_,Z⟩,[_],_,Z,⟨_,Z⟩,[_],_,Z,⟨_,Z⟩,Z⟩,[_,_,_,_],_,Z,⟨[_],_,Z,⟨_,Z⟩,[_],_,Z,⟨_,Z⟩,[_],_,Z,⟨_,Z⟩,[_],_,Z,⟨_,Z⟩,Z⟩,[_,_],_,Z,⟨[_],_,Z,⟨_,Z⟩,[_],_,Z,⟨_,Z⟩,Z⟩,[_,_,_,_],_,Z,⟨[_],_,Z,⟨_,Z⟩,[_],_,Z,⟨_,Z⟩,[_],_,Z,⟨_,Z⟩,[_],_,Z,⟨_,Z⟩,Z⟩,[_,_,_,_],_,Z,⟨[_],_,Z,⟨_,Z⟩,[_],_,Z,⟨_,Z⟩,[_],_,Z,⟨_,Z⟩,[_],_,Z,⟨_,Z⟩,Z⟩,[_,_,_,_,_,_],_,Z,⟨[_],_,Z,⟨_,Z⟩,[_],_,Z,⟨_,Z⟩,[_],_,Z,⟨_,Z⟩,[_],_,Z,⟨_,Z⟩,[_],_,Z,⟨_,Z⟩,[_],_,Z,⟨_,Z⟩,Z⟩,[_,_],_,Z,⟨[_],_,Z,⟨_,Z⟩,[_],_,Z,⟨_,Z⟩,Z⟩,[_,_],_,Z,⟨[_],_,Z,⟨_,Z⟩,[_],_,Z,⟨_,Z⟩,Z⟩,Z⟩) Zf (λx y h=>?_) (by kernel_rfl);obtain⟨_,_,_,_,⟨_,_,_,_,_,_,_,_⟩,⟨_,_,_,_⟩,⟨_,_,_,_,_⟩,⟨_,_,_,_,_,_,_,_⟩,⟨_,_,_,_⟩,⟨_,_,_,_⟩,⟨_,_⟩,⟨_,_,_,_⟩,⟨_,_,_,_⟩,⟨_,_,_,_,_,_⟩,⟨_,_⟩,⟨_,_⟩⟩:=x;obtain⟨_,_,_,_,⟨_,_,_,_,_,_,_,_⟩,⟨_,_,_,_⟩,⟨_,_,_,_,_⟩,⟨_,_,_,_,_,_,_,_⟩,⟨_,_,_,_⟩,⟨_,_,_,_⟩,⟨_,_⟩,⟨_,_,_,_⟩,⟨_,_,_,_⟩,⟨_,_,_,_,_,_⟩,⟨_,_⟩,⟨_,_⟩⟩:=y;simpa[QP,YZ,Fact.c,Starter.c,Read.c,Beacon.c,Sync.c,Hand.c,Silence.c,Pair.c,Report.c,Protest.c,Ruling.c,Appeal.c,Ref.c,and_assoc]using h
theorem Qmz:Qd0 prog 305 [(0,1),(1,1),(2,1),(3,1)]:=⟨_,runUnderlying305,(Ef ED (Ef ED (Ef GJ (Ef sizeOf303 PL.nil))))⟩
theorem QhR:Ye prog 303 305 4:=⟨EV,Gl,⟨_,Gn,rfl⟩,⟨_,typeInfo305,by decide⟩⟩
theorem QiK:QK prog 305 2 2 1:=FA runUnderlying305 rfl GJ
theorem Qg2:Ye prog 39 36 3:=⟨EH,EN,⟨_,zeroValue36,rfl⟩,⟨_,typeInfo36,by decide⟩⟩
theorem QkN:QK prog 36 1 1 1:=FA Gv rfl ED
theorem Qeq:Ye prog 49 70 3:=⟨EZ,sizeOf70,⟨_,zeroValue70,rfl⟩,⟨_,typeInfo70,by decide⟩⟩
theorem pl_51:Qd0 prog 51 [(0,1),(1,1)]:=⟨_,runUnderlying51,(Ef ED (Ef sizeOf49 PL.nil))⟩
theorem QoZ:Ye prog 56 66 1:=⟨EU,Gq,⟨_,zeroValue66,rfl⟩,⟨_,typeInfo66,by decide⟩⟩
theorem nt_44:prog.stoodInHeld 44=false:=by kernel_rfl
theorem Qng:EqD prog 44 Span.c:=by
  refine Qh8 (QS underlying44 nt_44 E3 EW (Qkh.c Yd (Qkh.c Yd (Qkh.nil 1 _)))) Z (λx=>⟨[_],_,Z,⟨_,Z⟩,[_],_,Z,⟨_,Z⟩,Z⟩) Zf (λx y h=>?_) (by kernel_rfl);obtain⟨_,_⟩:=x;obtain⟨_,_⟩:=y;simpa[QP,YZ,Span.c,and_assoc]using h
theorem Jy:Ye prog 264 9 1:=⟨ES,GJ,⟨_,zeroValue9,rfl⟩,⟨_,typeInfo9,by decide⟩⟩
theorem nt_70:prog.stoodInHeld 70=false:=by kernel_rfl
theorem Qpz:EqD prog 70 Edge.c:=by
  refine Qh8 (QS underlying70 nt_70 isAgg70 sizeOf70 (Qkh.c Yd (Qkh.c Yd (Qkh.c Yd (Qkh.nil 1 _))))) Z (λx=>⟨[_],_,Z,⟨_,Z⟩,[_],_,Z,⟨_,Z⟩,[_],_,Z,⟨_,Z⟩,Z⟩) Zf (λx y h=>?_) (by kernel_rfl);obtain⟨_,_,_⟩:=x;obtain⟨_,_,_⟩:=y;simpa[QP,YZ,Edge.c,and_assoc]using h
theorem QI{n:Nat}:RB prog n 3 Int (λx=>[A.int .i64 x]) (Qs .i64):=RB.int Gh
def tyT:TyI:={fld:=[(156,2,2),(33,1,1),(33,2,2),(33,3,3),(33,4,4),(33,5,5),(33,6,6),(33,7,7),(111,1,1),(111,3,3),(119,0,0),(111,0,0),(201,0,0),(205,0,0),(209,0,0),(33,0,0),(119,1,1),(162,0,0),(162,1,1),(162,2,2),(162,3,3),(156,1,1),(156,0,0),(215,0,0),(215,1,1),(215,2,2),(111,2,2),(111,4,4),(201,1,1),(205,3,3),(205,1,1),(205,2,2),(209,1,1),(209,2,2),(221,0,0),(221,1,1),(221,2,2),(221,3,3),(33,9,9),(31,0,0),(31,1,1),(31,2,2),(31,3,3),(31,4,4),(33,10,14),(33,11,15),(333,0,0),(152,0,0),(152,1,1),(152,2,2),(152,3,3),(283,0,0),(154,3,6),(154,4,7),(276,0,0),(154,2,2),(276,1,1),(154,0,0),(154,1,1),(33,8,8),(36,0,0),(36,2,2),(44,0,0),(44,1,1),(96,3,3),(96,4,4),(72,0,0),(72,1,1),(72,2,2),(72,3,3),(72,4,4),(72,5,5),(72,6,6),(72,7,7),(96,5,12),(74,0,0),(74,1,1),(74,2,2),(74,3,3),(96,6,16),(76,0,0),(76,1,1),(76,2,2),(76,3,3),(76,4,4),(96,7,21),(78,0,0),(78,1,1),(78,2,2),(78,3,3),(78,4,4),(78,5,5),(78,6,6),(78,7,7),(96,8,29),(80,0,0),(80,1,1),(80,2,2),(80,3,3),(96,9,33),(82,0,0),(82,1,1),(82,2,2),(82,3,3),(96,10,37),(84,0,0),(84,1,1),(96,11,39),(86,0,0),(86,1,1),(86,2,2),(86,3,3),(96,12,43),(88,0,0),(88,1,1),(88,2,2),(88,3,3),(96,13,47),(90,2,2),(90,0,0),(90,1,1),(90,3,3),(90,4,4),(90,5,5),(96,14,53),(92,0,0),(96,15,55),(94,0,0),(94,1,1),(96,0,0),(96,1,1),(96,2,2),(287,0,0),(92,1,1),(287,1,1),(297,0,0),(297,1,1),(295,0,0),(295,1,1),(305,2,2),(305,3,3),(305,1,1),(305,0,0),(351,0,0),(121,0,0),(121,1,1),(36,1,1),(51,0,0),(51,1,1),(70,0,0),(70,1,1),(70,2,2),(186,0,0),(186,1,2),(186,2,3),(58,0,0),(58,1,1)],agg:=[(33,true,16),(156,true,3),(108,false,1),(22,false,1),(23,false,1),(24,false,1),(25,false,1),(26,false,1),(27,false,1),(28,false,1),(111,true,5),(109,false,1),(5,false,1),(9,false,1),(119,true,2),(201,true,2),(205,true,4),(209,true,3),(3,false,1),(224,false,1),(218,false,1),(162,true,4),(164,true,2),(211,false,1),(216,false,1),(215,true,3),(167,false,1),(229,false,1),(4,false,1),(219,false,1),(232,false,1),(222,false,1),(221,true,4),(236,true,3),(31,true,5),(154,true,8),(150,false,1),(29,false,1),(152,true,4),(283,true,8),(333,true,4),(280,false,1),(242,false,1),(160,false,1),(44,true,2),(36,true,3),(34,false,1),(295,true,2),(287,true,2),(339,false,1),(340,false,1),(341,false,1),(342,false,1),(96,true,57),(37,false,1),(297,true,3),(291,false,1),(303,false,1),(305,true,4),(352,false,1),(349,false,1),(116,false,1),(122,false,1),(126,false,1),(121,true,2),(49,false,1),(39,false,1),(51,true,2),(134,false,1),(135,false,1),(76,true,5),(78,true,8),(70,true,3),(66,false,1),(58,true,2),(56,false,1),(72,true,8),(90,true,6),(74,true,4),(80,true,4),(82,true,4),(84,true,2),(86,true,4),(88,true,4),(92,true,2),(94,true,2)],zer:=[(119,[.str [],I 0],[(0,1),(1,1)]),(154,[I 0,I 0,I 0,I 0,I 0,.rsl 4 (map Cond.enc []),.rsl 8 (map Step.enc []),.rsl 8 (map Step.enc [])],[(0,1),(1,1),(2,4),(6,1),(7,1)]),(31,[I 0,I 0,I 0,I 0,I 0],[(0,1),(1,1),(2,1),(3,1),(4,1)]),(33,[.str [],.rsl 2 (map Mat.c []),.rsl 4 (map Leg.c []),.rsl 5 (map Distance.c []),.rsl 2 (map Wave.c []),.rsl 4 (map Offence.c []),.rsl 3 (map Category.c []),.rsl 4 (map Prize.c []),.rsl 8 (map Step.enc []),I 0,I 0,I 0,I 0,I 0,I 0,I 0],[(0,1),(1,1),(2,1),(3,1),(4,1),(5,1),(6,1),(7,1),(8,1),(9,5),(14,1),(15,1)]),(164,[I 0,I 0],[(0,1),(1,1)]),(236,[I 0,I 0,I 0],[(0,1),(1,1),(2,1)]),(283,[I 0,I 0,I 0,I 0,I 0,.rsl 4 (map Cond.enc []),.rsl 8 (map Step.enc []),.rsl 8 (map Step.enc [])],[(0,8)]),(333,[I 0,I 0,I 0,.rsl 4 (map Cond.enc [])],[(0,4)]),(276,[I 0,I 0],[(0,1),(1,1)]),(44,[I 0,I 0],[(0,1),(1,1)]),(297,[.nilp,I 0,I 0],[(0,1),(1,2)]),(295,[I 0,I 0],[(0,1),(1,1)]),(287,[.nils,.nilf],[(0,1),(1,1)]),(305,[I 0,I 0,.str [],.rsl 4 (map Value.enc [])],[(0,1),(1,1),(2,1),(3,1)]),(121,[I 0,I 0],[(0,1),(1,1)]),(36,[I 0,I 0,I 0],[(0,1),(1,1),(2,1)]),(70,[I 0,I 0,I 0],[(0,1),(1,1),(2,1)]),(51,[I 0,.rsl 3 (map Edge.c [])],[(0,1),(1,1)]),(186,[I 0,.rsl 3 (map Edge.c []),.rsl 1 (map (Qf .i64) []),.rsl 1 (map (Qf .i64) [])],[(0,2),(2,1),(3,1)]),(58,[.rsl 3 (map Segment.c []),.rsl 1 (map (Qx 1 (Qf .i64)) [])],[(0,1),(1,1)]),(76,[I 0,I 0,I 0,I 0,I 0],[(0,1),(1,1),(2,1),(3,1),(4,1)]),(96,[I 0,I 0,I 0,I 0,I 0,I 0,I 0,I 0,I 0,I 0,I 0,I 0,I 0,I 0,I 0,I 0,I 0,I 0,I 0,I 0,I 0,I 0,I 0,I 0,I 0,I 0,I 0,I 0,I 0,I 0,I 0,I 0,I 0,I 0,I 0,I 0,I 0,I 0,I 0,I 0,I 0,I 0,I 0,I 0,I 0,I 0,I 0,I 0,I 0,I 0,I 0,I 0,I 0,I 0,.bool false,I 0,I 0],[(0,1),(1,1),(2,1),(3,1),(4,8),(12,4),(16,5),(21,8),(29,4),(33,4),(37,2),(39,4),(43,4),(47,6),(53,2),(55,2)])]}
def tyF:List (Nat×List (Nat×Nat)):=[(31,[(0,1),(1,1),(2,1),(3,1),(4,1)]),(33,[(0,1),(1,1),(2,1),(3,1),(4,1),(5,1),(6,1),(7,1),(8,1),(9,5),(14,1),(15,1)]),(36,[(0,1),(1,1),(2,1)]),(44,[(0,1),(1,1)]),(51,[(0,1),(1,1)]),(58,[(0,1),(1,1)]),(70,[(0,1),(1,1),(2,1)]),(72,[(0,1),(1,1),(2,1),(3,1),(4,1),(5,1),(6,1),(7,1)]),(74,[(0,1),(1,1),(2,1),(3,1)]),(76,[(0,1),(1,1),(2,1),(3,1),(4,1)]),(78,[(0,1),(1,1),(2,1),(3,1),(4,1),(5,1),(6,1),(7,1)]),(80,[(0,1),(1,1),(2,1),(3,1)]),(82,[(0,1),(1,1),(2,1),(3,1)]),(84,[(0,1),(1,1)]),(86,[(0,1),(1,1),(2,1),(3,1)]),(88,[(0,1),(1,1),(2,1),(3,1)]),(90,[(0,1),(1,1),(2,1),(3,1),(4,1),(5,1)]),(92,[(0,1),(1,1)]),(94,[(0,1),(1,1)]),(96,[(0,1),(1,1),(2,1),(3,1),(4,8),(12,4),(16,5),(21,8),(29,4),(33,4),(37,2),(39,4),(43,4),(47,6),(53,2),(55,2)]),(111,[(0,1),(1,1),(2,1),(3,1),(4,1)]),(119,[(0,1),(1,1)]),(121,[(0,1),(1,1)]),(152,[(0,1),(1,1),(2,1),(3,1)]),(154,[(0,1),(1,1),(2,4),(6,1),(7,1)]),(156,[(0,1),(1,1),(2,1)]),(162,[(0,1),(1,1),(2,1),(3,1)]),(164,[(0,1),(1,1)]),(186,[(0,2),(2,1),(3,1)]),(201,[(0,1),(1,1)]),(205,[(0,1),(1,1),(2,1),(3,1)]),(209,[(0,1),(1,1),(2,1)]),(215,[(0,1),(1,1),(2,1)]),(221,[(0,1),(1,1),(2,1),(3,1)]),(236,[(0,1),(1,1),(2,1)]),(276,[(0,1),(1,1)]),(283,[(0,8)]),(287,[(0,1),(1,1)]),(295,[(0,1),(1,1)]),(297,[(0,1),(1,2)]),(305,[(0,1),(1,1),(2,1),(3,1)]),(333,[(0,4)]),(351,[(0,1)])]
def tyX:TyX:={ty:=tyT,al:=[(33,(.agg [.str [],.rsl 2 (map Mat.c []),.rsl 4 (map Leg.c []),.rsl 5 (map Distance.c []),.rsl 2 (map Wave.c []),.rsl 4 (map Offence.c []),.rsl 3 (map Category.c []),.rsl 4 (map Prize.c []),.rsl 8 (map Step.enc []),I 0,I 0,I 0,I 0,I 0,I 0,I 0])),(156,(.agg [I 0,I 0,.rsl 3 (map Part.enc [])])),(111,(.agg [.str [],.rsl 3 (map Part.enc []),I 0,.rsl 3 (map Cutoff.c []),I 0])),(119,(.agg [.str [],I 0])),(201,(.agg [.str [],I 0])),(205,(.agg [.str [],I 0,I 0,.bool false])),(209,(.agg [.str [],I 0,I 0])),(164,(.agg [I 0,I 0])),(162,(.agg [I 0,I 0,I 0,I 0])),(236,(.agg [I 0,I 0,I 0])),(221,(.agg [I 0,I 0,I 0,I 0])),(3,(I 0)),(211,.nilf),(216,.nilf),(31,(.agg [I 0,I 0,I 0,I 0,I 0])),(154,(.agg [I 0,I 0,I 0,I 0,I 0,.rsl 4 (map Cond.enc []),.rsl 8 (map Step.enc []),.rsl 8 (map Step.enc [])])),(152,(.agg [I 0,I 0,I 0,.rsl 4 (map Cond.enc [])])),(283,(.agg [I 0,I 0,I 0,I 0,I 0,.rsl 4 (map Cond.enc []),.rsl 8 (map Step.enc []),.rsl 8 (map Step.enc [])])),(333,(.agg [I 0,I 0,I 0,.rsl 4 (map Cond.enc [])])),(242,.nilm),(160,.nilm),(44,(.agg [I 0,I 0])),(287,(.agg [.nils,.nilf])),(339,.nilp),(340,.nilp),(341,.nilp),(342,.nilp),(96,(.agg [I 0,I 0,I 0,I 0,I 0,I 0,I 0,I 0,I 0,I 0,I 0,I 0,I 0,I 0,I 0,I 0,I 0,I 0,I 0,I 0,I 0,I 0,I 0,I 0,I 0,I 0,I 0,I 0,I 0,I 0,I 0,I 0,I 0,I 0,I 0,I 0,I 0,I 0,I 0,I 0,I 0,I 0,I 0,I 0,I 0,I 0,I 0,I 0,I 0,I 0,I 0,I 0,I 0,I 0,.bool false,I 0,I 0])),(297,(.agg [.nilp,I 0,I 0])),(305,(.agg [I 0,I 0,.str [],.rsl 4 (map Value.enc [])])),(352,.nilp),(116,.nilm),(122,.nilf),(126,.nilm),(121,(.agg [I 0,I 0])),(36,(.agg [I 0,I 0,I 0])),(51,(.agg [I 0,.rsl 3 (map Edge.c [])])),(39,.nils),(49,.nils),(134,.nilf),(135,.nilf),(76,(.agg [I 0,I 0,I 0,I 0,I 0])),(78,(.agg [I 0,I 0,I 0,I 0,I 0,I 0,I 0,I 0])),(70,(.agg [I 0,I 0,I 0])),(58,(.agg [.rsl 3 (map Segment.c []),.rsl 1 (map (Qx 1 (Qf .i64)) [])])),(215,(.agg [I 0,I 0,I 0])),(72,(.agg [I 0,I 0,I 0,I 0,I 0,I 0,I 0,I 0])),(74,(.agg [I 0,I 0,I 0,I 0])),(80,(.agg [I 0,I 0,I 0,I 0])),(82,(.agg [I 0,I 0,I 0,I 0])),(86,(.agg [I 0,I 0,I 0,I 0])),(88,(.agg [I 0,I 0,I 0,I 0])),(90,(.agg [I 0,I 0,I 0,I 0,I 0,I 0]))],sl:=[249,239,66,285,34,39,49]}
def tyZ:TyZ:={sl:=[(108,156,3),(22,119,2),(23,162,4),(24,111,5),(25,201,2),(26,205,4),(27,209,3),(28,221,4),(109,215,3),(249,5,1),(66,3,1),(29,154,8),(150,152,4),(239,280,1),(303,305,4),(39,36,3),(49,70,3),(56,66,1),(264,9,1),(34,96,57)],fn:=[106,239,180,109,107,111,113,115,117,108,110,112,114,116,181,99,57,119,128,187,243,186,124,189,244,188,131,120,118,183,241,182,121,185,242,184,123,122,143,201,142,133,191,245,190,125,193,246,192,136,195,247,194,126,197,248,196,139,127,129,130,72,132,134,135,137,138,141,283,249,198,269,199,270,251,250,140,144,145,74,73,68,69,70,71,95,37,39,46,47,77,252,253,254,255,256,203,147,79,78,146,76,213,272,275,274,273,277,260,214,150,149,151,152,83,82,86,40,38,13,51,52,178,100,238,179,102,60,61,62,18,29,58,42,27,32,15,24,34,35,105,67,104,36,221,163,164,165,166,222,167,263,223,168,169,170,171,87,88,89,90,91,174,230,228,227,225,226,232,231,224,229,233,172,173,175,278,279,280,281,265,264,92,236,235,234,177,93,48,94,59,43,44,45,96,14,53,11,12,19,20]}
theorem QoT:kL prog tyF tyX tyZ=kR prog tyF tyX tyZ:=by kernel_rfl
theorem QbN:QaY prog tyX:=.ofK QoT (by kernel_rfl)
theorem Qfa:QcH prog tyZ:=.ofK QoT (QpC (by kernel_rfl))
section
variable {h0 N m n d id t et k f:Nat} {all:Array Oper} {o:Oper} {l r r' ll:List Oper} {ds:List Nat} {env env' env0:Env} {H H' H1 X:Qe} {Q:QR} {α:Type} {e:α->List A} {L:List α} {kk:IntKind} {i:Int} {v:α} {K:List Oper->Env->Qe->Prop} {xs xs':List A} {args argsc:List A} {Hc:Qe} {Hs Hs':List Qe} {bs:List Nat} {cat:Kat} {k':List Kf} {c':Cf} {hB hE:Nat} {x:A}
theorem G0{c:Code}(n:Nat)(h:Qih tyX h0 N n (.code c) [] env H=some (c',k',env',H'))(g:Hd prog h0 N c' k' env' H' Q):TC prog h0 N c env H Q:=Qc5 QbN n h g
theorem Gc{k:List Kf}{c:Code}(n:Nat)(h:Qih tyX h0 N n (.code c) k env H=some (c',k',env',H'))(g:Hd prog h0 N c' k' env' H' Q):TC prog h0 N c env H (kq prog h0 N k Q):=Qc5 QbN n h g
theorem Go{k:List Kf}(n:Nat)(h:Qih tyX h0 N n (.ops all l) k env H=some (c',k',env',H'))(g:Hd prog h0 N c' k' env' H' Q):WO prog h0 N all l env H (kq prog h0 N k Q):=Qc5 QbN n h g
theorem Gx{k:List Kf}{x:AEx}(n:Nat)(h:Qih tyX h0 N n (.out x) k env H=some (c',k',env',H'))(g:Hd prog h0 N c' k' env' H' Q):kq prog h0 N k Q x env H:=Qc5 QbN n h g
@[reducible] def Ks{β:Type}(F:Option β)(f:FuncId)(args:List A)(H:Qe)(w:β->A):Prop:=Kp prog F f args H w λ_=>H
@[reducible] def Kq{β:Type}(F:Option β)(f:FuncId)(args:List A)(H:Qe)(w:β->A)(H1:β->Qe):Prop:=Kp prog F f args H w H1
theorem Kg{β:Type}{F:Option β}{f:FuncId}{fn:Func}{c:Code}{w:β->A}{H1:β->Qe}(n:Nat)(hf:prog.funcs[f]?=some fn)(hb:fn.body=some c)(hN:fn.ntmps=N)(hA:Nat.ble args.length N=true)(h:Qih tyX H.length N n (.code c) [] (Qep 0 args) H=some (c',k',env',H'))(g:∀r,F=some r->Hd prog H.length N c' k' env' H' (QbA prog H.length fn (RQ w H1 r))):Kp prog F f args H w H1:=Kp.b hf hb hN hA λr e=>G0 n h (g r e)
theorem D(n:Nat)(h:Qii tyX N m l ds env H n xs.length r xs=some (r',xs'))(k:DS prog N m l ds env H K r' xs'):DS prog N m l ds env H K r xs:=Qfl QbN n _ rfl h k
theorem Iz(h:idx L i=some v)(q:ixB o env=some (d,t,k,L.map e,kk,i))(g:WO prog h0 N all l (up env d (.rp (e v))) H Q)(ht:Qcz tyZ.sl t=some (et,k):=by exact rfl)(hg:Y9 all o env=some true:=by exact rfl)(hN:Nat.blt d N=true:=by exact rfl):WO prog h0 N all (o::l) env H Q:=Izz Qfa h q g ht hg hN
theorem IzE{cs:List A}(h:idx L i=some v)(he:e v=cs)(q:ixB o env=some (d,t,k,L.map e,kk,i))(g:WO prog h0 N all l (up env d (.rp cs)) H Q)(ht:Qcz tyZ.sl t=some (et,k):=by exact rfl)(hg:Y9 all o env=some true:=by exact rfl)(hN:Nat.blt d N=true:=by exact rfl):WO prog h0 N all (o::l) env H Q:=Ize Qfa h he q g ht hg hN
theorem Lm{k':Nat}(q:lnB o env=some (d,t,.mk (.rsl k (L.map e))))(g:WO prog h0 N all l (up env d (I L.length)) H Q)(ht:Qcz tyZ.sl t=some (et,k'):=by exact rfl)(hg:Y9 all o env=some true:=by exact rfl)(hN:Nat.blt d N=true:=by exact rfl):WO prog h0 N all (o::l) env H Q:=Lmz Qfa q g ht hg hN
theorem Cz{β γ:Type}{F:Option β}{F':β->Option γ}{r:γ}{w:β->A}(π:List Nat)(h:F.bind F'=some r)(hC:∀v,F=some v->C prog f argsc Hc (RQ w (λ_=>Hc) v))(hop:Qgu tyZ o env=some (d,f,args))(g:∀v,F=some v->F' v=some r->WO prog h0 N all l (up env d (w v)) H Q)(hv:∀v,Qlf (w v)=some (.mk (w v)):=by exact λ_=>rfl)(hargs:args=Qag (rho π H.length) argsc:=by exact rfl)(hH:π.map (λp=>H[p]?)=(Hc.map (Yc (rho π H.length))).map some:=by exact rfl)(hπ:π.Nodup:=by decide)(hg:Y9 all o env=some true:=by exact rfl)(hN:Nat.blt d N=true:=by exact rfl)(hh:Nat.ble h0 H.length=true:=by exact rfl):WO prog h0 N all (o::l) env H Q:=Czz Qfa π h hC hop g hv hargs hH hπ hg hN hh
theorem Cb{β γ:Type}{F:Option β}{F':β->Option γ}{r:γ}{w:β->A}(h:F.bind F'=some r)(hC:∀v,F=some v->C prog f argsc [] (RQ w Ze v))(hop:Qgu tyZ o env=some (d,f,args))(hL:Qbj H args argsc)(g:∀v,F=some v->F' v=some r->WO prog h0 N all l (up env d (w v)) H Q)(hv:∀v,Yu (w v)=true:=by exact λ_=>rfl)(hg:Y9 all o env=some true:=by exact rfl)(hN:Nat.blt d N=true:=by exact rfl):WO prog h0 N all (o::l) env H Q:=Cbz Qfa h hC hop hL g hv hg hN
theorem Dz{β γ:Type}{F:Option β}{F':β->Option γ}{r:γ}{w:β->A}(π:List Nat)(h:F.bind F'=some r)(hC:∀v,F=some v->C prog f argsc Hc (RQ w (λ_=>Hc) v))(hop:Qgu tyZ o (Yq (Qh o) 0 ds xs env)=some (d,f,args))(g:∀v,F=some v->F' v=some r->DS prog N m ll ds env H K l (xs++[w v]))(hv:∀v,Qlf (w v)=some (.mk (w v)):=by exact λ_=>rfl)(hargs:args=Qag (rho π H.length) argsc:=by exact rfl)(hH:π.map (λp=>H[p]?)=(Hc.map (Yc (rho π H.length))).map some:=by exact rfl)(hπ:π.Nodup:=by decide)(hg:Y9 ll.toArray o (Yq (Qh o) 0 ds xs env)=some true:=by exact rfl)(hN:Nat.blt d N=true:=by exact rfl)(hx:Nat.blt xs.length m=true:=by exact rfl):DS prog N m ll ds env H K (o::l) xs:=DzZ Qfa π h hC hop g hv hargs hH hπ hg hN hx
theorem DSs(m:Nat)(hc:Go.Sw.draw0 l m N (Qbe m 0 l)=true)(h:DS prog N m l (Qbe m 0 l) env H (λr e H=>WO prog h0 N l.toArray r e H Q) l [])(h0B:Nat.ble h0 H.length=true:=by exact rfl):TC prog h0 N (.region id l.toArray true) env H Q:=QnY (k:=[]) m draws hc h0B h
theorem Da{cat:List Nat}(n:Nat)(h:Qij tyX N m cat l ds env H n xs.length r xs=some (r',xs'))(k:DA prog N m cat l ds env H K r' xs'):DA prog N m cat l ds env H K r xs:=Qfo QbN n _ rfl h k
theorem Db{cat:List Nat}(n:Nat)(h:Qfn tyX N cat l ds env H1 n xs.length r xs=some (r',xs'))(k:DB prog N m cat l ds env H H1 K r' xs'):DB prog N m cat l ds env H H1 K r xs:=QbT QbN n _ rfl h k
theorem Dk(k:Nat)(h:Qfm tyX N m cat l ds env n k xs.length Hs.length Hs X r xs=some (Hs',r',xs'))(g:DK prog N m bs cat l ds env n K Hs' X r' xs'):DK prog N m bs cat l ds env n K Hs X r xs:=QbS QbN k _ _ rfl rfl h g
theorem DKs(m:Nat)(bs:List Nat)(cat:Kat)(hc:Qer l m N (Qbe m 0 l) (hsK cat) (rqK bs cat) (msK bs) (plK cat)=true)(h:DK prog N m bs cat l (Qbe m 0 l) env H.length (λr e H=>WO prog h0 N l.toArray r e H Q) [] H l [])(hcl:Nat.beq cat.length m=true:=by exact rfl)(h0B:Nat.ble h0 H.length=true:=by exact rfl):TC prog h0 N (.region id l.toArray true) env H Q:=QnZ m bs cat draws hc hcl h0B h
theorem DAs(m b:Nat)(cat:List Nat)(hc:Qer l m N (Qbe m 0 l) (hsC cat) (rqC b cat) [[],[b]] (plC cat)=true)(h:DA prog N m cat l (Qbe m 0 l) env H (λr e H=>WO prog h0 N l.toArray r e H Q) l [])(hcl:Nat.beq cat.length m=true:=by exact rfl)(h0B:Nat.ble h0 H.length=true:=by exact rfl):TC prog h0 N (.region id l.toArray true) env H Q:=Qn0 m b cat draws hc hcl h0B h
theorem Cd{β γ:Type}{F:Option β}{F':β->Option γ}{r:γ}{w:β->A}{Hr:β->Qe}(π:List Nat)(h:F.bind F'=some r)(hC:∀v,F=some v->C prog f argsc Hc (RQ w Hr v))(hop:Qgu tyZ o env=some (d,f,args))(g:∀v,F=some v->F' v=some r->WO prog h0 N all l (up env d (Y4 (rho π H.length) (w v))) (Yx H π ((Hr v).map (Yc (rho π H.length)))) Q)(hargs:args=Qag (rho π H.length) argsc:=by exact rfl)(hH:π.map (λp=>H[p]?)=(Hc.map (Yc (rho π H.length))).map some:=by exact rfl)(hπ:π.Nodup:=by decide)(hg:Y9 all o env=some true:=by exact rfl)(hN:Nat.blt d N=true:=by exact rfl)(hh:Nat.ble h0 H.length=true:=by exact rfl):WO prog h0 N all (o::l) env H Q:=Cdz Qfa π h hC hop g hargs hH hπ hg hN hh
theorem v0{i:Nat}(hx:xs[i]?=some x)(h:Qkq tyT N l ds xs env0 H i=some x):JD prog N l ds xs env0 hB hE i H H:=vQ QbN.ty hx h
theorem ov{i c:Nat}(k:Oq prog N l ds xs env0 H (i+1) c)(hx:xs[i]?=some x:=by exact rfl)(h:Qkq tyT N l ds xs env0 H i=some x:=by exact rfl):Oq prog N l ds xs env0 H i (c+1):=.c (vQ QbN.ty hx h) k
end
theorem Gy0{T:Type}{X:Ctx T}{st:YSt T}{h0 N:Nat}{c:Code}{c':Cf}{k':List Kf}{env env':Env}{H H':Qe}{Q:YS T}(n:Nat)(h:Qlh tyX h0 N n (.code c) [] env H=some (c',k',env',H'))(g:HdY X prog h0 N c' k' env' H' st Q):TCy X prog h0 N c env H st Q:=QeK QbN n h g
theorem Gyo{T:Type}{X:Ctx T}{st:YSt T}{h0 N:Nat}{k:List Kf}{all:Array Oper}{l:List Oper}{c':Cf}{k':List Kf}{env env':Env}{H H':Qe}{Q:YS T}(n:Nat)(h:Qlh tyX h0 N n (.ops all l) k env H=some (c',k',env',H'))(g:HdY X prog h0 N c' k' env' H' st Q):WOy X prog h0 N all l env H st (kqY X prog h0 N k Q):=QeK QbN n h g
theorem Gyx{T:Type}{X:Ctx T}{st:YSt T}{h0 N:Nat}{k:List Kf}{x:AEx}{c':Cf}{k':List Kf}{env env':Env}{H H':Qe}{Q:YS T}(n:Nat)(h:Qlh tyX h0 N n (.out x) k env H=some (c',k',env',H'))(g:HdY X prog h0 N c' k' env' H' st Q):kqY X prog h0 N k Q x env H st:=QeK QbN n h g
def lay_contains_240_ren:Go.Shelf.Ren:=⟨λ|144=>240|143=>268|219=>282|217=>284|225=>285|224=>286|267=>287|266=>288|314=>289|n=>n,λ|9=>9|4=>4|3=>3|5=>5|46=>97|146=>319|51=>261|n=>n,λ|1=>11|n=>n⟩
theorem QdR:Go.Proofs.Lays.n144 prog lay_contains_240_ren:=by
  constructor<;>first|kernel_rfl|(intro;kernel_rfl)|exact Qj4 (by kernel_rfl) (by kernel_rfl)
def lay_sortK_80_ren:Go.Shelf.Ren:=⟨λ|6=>80|15=>85|14=>148|28=>161|29=>162|20=>205|21=>206|22=>207|23=>208|24=>209|25=>210|26=>211|27=>212|46=>257|47=>217|48=>218|49=>258|50=>259|57=>271|n=>n,λ|22=>34|24=>96|25=>172|3=>3|39=>97|0=>0|53=>261|55=>263|4=>4|46=>255|45=>254|50=>127|5=>5|9=>9|66=>307|70=>291|76=>354|77=>157|n=>n,λ|n=>n⟩
theorem Qhw:Go.Proofs.SlLaysF0.n6 prog lay_sortK_80_ren:=by
  constructor<;>first|kernel_rfl|(intro;kernel_rfl)|exact Qj4 (by kernel_rfl) (by kernel_rfl)
def lay_sortK_41_ren:Go.Shelf.Ren:=⟨λ|6=>41|15=>85|14=>84|28=>161|29=>162|20=>153|21=>154|22=>155|23=>156|24=>157|25=>158|26=>159|27=>160|46=>216|47=>217|48=>218|49=>219|50=>220|57=>262|n=>n,λ|22=>39|24=>36|25=>129|3=>3|39=>97|0=>0|53=>261|55=>263|4=>4|46=>255|45=>254|50=>127|5=>5|9=>9|66=>307|70=>291|76=>354|77=>157|n=>n,λ|n=>n⟩
theorem Qhx:Go.Proofs.SlLaysF0.n6 prog lay_sortK_41_ren:=by
  constructor<;>first|kernel_rfl|(intro;kernel_rfl)|exact Qj4 (by kernel_rfl) (by kernel_rfl)
end Go.Sw
