/- The types of PenaltiesCasesSpec and facts on them. -/
import Derived.Test.YtdlojdpflfdgcaaGreatDoorL3
import Derived.Test.YtdlojdpflfdgcaaGreatDoorProg
set_option linter.unusedVariables false
set_option linter.unusedSimpArgs false
set_option maxRecDepth 100000
set_option maxHeartbeats 4000000
namespace Go.Sw
open List(map)
open Int(toNat)
open Go.IntKind(i64 u64 u8)
open Go.Proofs Tryz
abbrev EA:=@runUnderlying37
abbrev EB:=@runUnderlying34
abbrev EC:=@sizeOf72
abbrev ED:=@runUnderlying9
abbrev EE:=@sizeOf3
abbrev EF:=@isAgg3
abbrev EG:=@sizeOf76
abbrev EH:=@runUnderlying239
abbrev EI:=@runUnderlying38
abbrev EJ:=@runUnderlying337
abbrev EK:=@runUnderlying315
abbrev EL:=@runUnderlying3
abbrev EM:=@runUnderlying378
abbrev EN:=@zeroValue291
abbrev EO:=@runUnderlying223
abbrev EP:=@isAgg72
abbrev EQ:=@runUnderlying85
abbrev ES:=@underlying254
abbrev ET:=@runUnderlying220
abbrev EU:=@runUnderlying229
abbrev EV:=@isAgg76
abbrev EW:=@sizeOf283
abbrev EX:=@runUnderlying294
abbrev EY:=@runUnderlying225
abbrev EZ:=@isAgg283
abbrev E0:=@runUnderlying5
abbrev E3:=@sizeOf62
abbrev E4:=@sizeOf66
abbrev E5:=@runUnderlying364
abbrev E6:=@zeroValue397
abbrev E7:=@sizeOf34
abbrev E8:=@sizeOf5
abbrev E9:=@runUnderlying72
abbrev Ga:=@sizeOf355
abbrev Gb:=@sizeOf4
abbrev Gd:=@runUnderlying217
abbrev Ge:=@runUnderlying281
abbrev Gf:=@zeroValue4
abbrev Gg:=@runUnderlying397
abbrev Gh:=@underlying268
abbrev Gi:=@underlying9
abbrev Gj:=@runUnderlying24
abbrev Gk:=@runUnderlying88
abbrev Gm:=@sizeOf100
abbrev Gn:=@underlying3
abbrev Gp:=@underlying134
abbrev Gq:=@underlying153
abbrev Gr:=@underlying125
abbrev Gs:=@underlying135
abbrev Gu:=@runUnderlying266
abbrev Gv:=@sizeOf296
abbrev Gw:=@sizeOf222
abbrev Gy:=@runUnderlying92
abbrev Gz:=@isAgg66
abbrev GA:=@zeroValue72
abbrev GB:=@underlying219
abbrev GC:=@isAgg296
abbrev GD:=@runUnderlying23
abbrev GE:=@runUnderlying98
abbrev GF:=@zeroValue62
abbrev GG:=@isAgg62
abbrev GH:=@zeroValue3
abbrev GI:=@sizeOf48
abbrev GJ:=@underlying132
abbrev GK:=@sizeOf293
abbrev GL:=@zeroValue296
abbrev GM:=@underlying29
abbrev GN:=@sizeOf364
abbrev GO:=@zeroValue315
abbrev GQ:=@sizeOf397
abbrev GR:=@sizeOf9
abbrev GS:=@isAgg37
theorem draws:prog.follows .mixedOrders=true:=by rfl
structure Faults where
  Misses:Int
  Strays:Int
  Window:Int
  Residual:Int
  Drift:Int
  deriving DecidableEq
def Faults.c(x:Faults):List Go.Sw.A:=[I x.Misses,I x.Strays,I x.Window,I x.Residual,I x.Drift]
structure Mat where
  Name:List UInt8
  Kind:Int
  deriving DecidableEq
def Mat.c(x:Mat):List Go.Sw.A:=[.str x.Name,I x.Kind]
structure Leg where
  From:Int
  To:Int
  Min:Int
  Max:Int
  deriving DecidableEq
def Leg.c(x:Leg):List Go.Sw.A:=[I x.From,I x.To,I x.Min,I x.Max]
structure Part where
  Mat:Int
  Laps:Int
  Parts:List Part
mutual
def Part.enc:Part->List A
  |⟨x0,x1,x2⟩=>[I x0,I x1,.rsl 3 (Part.encs x2)]
def Part.encs:List Part->List (List A)
  |[]=>[]
  |x::l=>Part.enc x::Part.encs l
end
theorem QdE(l:List Part):Part.encs l=map Part.enc l:=by induction l with|nil=>simp[Part.encs]|cons x l h=>simp[Part.encs,h]
def Part.c(x:Part):List Go.Sw.A:=[I x.Mat,I x.Laps,.rsl 3 (map Part.enc x.Parts)]
theorem Q4(x:Part):Part.enc x=Part.c x:=by cases x;simp[Part.enc,Part.c,QdE]
structure Cutoff where
  Mat:Int
  Lap:Int
  Limit:Int
  deriving DecidableEq
def Cutoff.c(x:Cutoff):List Go.Sw.A:=[I x.Mat,I x.Lap,I x.Limit]
structure Distance where
  Name:List UInt8
  Route:List Part
  Timing:Int
  Cutoffs:List Cutoff
  Extra:Int
def Distance.c(x:Distance):List Go.Sw.A:=[.str x.Name,.rsl 3 (map Part.enc x.Route),I x.Timing,.rsl 3 (map Cutoff.c x.Cutoffs),I x.Extra]
structure Wave where
  Name:List UInt8
  Gun:Int
  deriving DecidableEq
def Wave.c(x:Wave):List Go.Sw.A:=[.str x.Name,I x.Gun]
structure Offence where
  Name:List UInt8
  Time:Int
  Laps:Int
  Out:Bool
  deriving DecidableEq
def Offence.c(x:Offence):List Go.Sw.A:=[.str x.Name,I x.Time,I x.Laps,.bool x.Out]
structure Category where
  Name:List UInt8
  From:Int
  To:Int
  deriving DecidableEq
def Category.c(x:Category):List Go.Sw.A:=[.str x.Name,I x.From,I x.To]
structure Prize where
  Distance:Int
  Category:Int
  Rank:Int
  Amount:Int
  deriving DecidableEq
def Prize.c(x:Prize):List Go.Sw.A:=[I x.Distance,I x.Category,I x.Rank,I x.Amount]
structure Cond where
  Kind:Int
  Var:Int
  N:Int
  Parts:List Cond
mutual
def Cond.enc:Cond->List A
  |⟨x0,x1,x2,x3⟩=>[I x0,I x1,I x2,.rsl 4 (Cond.encs x3)]
def Cond.encs:List Cond->List (List A)
  |[]=>[]
  |x::l=>Cond.enc x::Cond.encs l
end
theorem QdH(l:List Cond):Cond.encs l=map Cond.enc l:=by induction l with|nil=>simp[Cond.encs]|cons x l h=>simp[Cond.encs,h]
def Cond.c(x:Cond):List Go.Sw.A:=[I x.Kind,I x.Var,I x.N,.rsl 4 (map Cond.enc x.Parts)]
theorem Qap(x:Cond):Cond.enc x=Cond.c x:=by cases x;simp[Cond.enc,Cond.c,QdH]
structure Step where
  Kind:Int
  By:Int
  Cond:Cond
  Then:List Step
  Else:List Step
mutual
def Step.enc:Step->List A
  |⟨x0,x1,x2,x3,x4⟩=>[I x0,I x1,I x2.Kind,I x2.Var,I x2.N,.rsl 4 (map Cond.enc x2.Parts),.rsl 8 (Step.encs x3),.rsl 8 (Step.encs x4)]
def Step.encs:List Step->List (List A)
  |[]=>[]
  |x::l=>Step.enc x::Step.encs l
end
theorem Qdz(l:List Step):Step.encs l=map Step.enc l:=by induction l with|nil=>simp[Step.encs]|cons x l h=>simp[Step.encs,h]
def Step.c(x:Step):List Go.Sw.A:=[I x.Kind,I x.By,I x.Cond.Kind,I x.Cond.Var,I x.Cond.N,.rsl 4 (map Cond.enc x.Cond.Parts),.rsl 8 (map Step.enc x.Then),.rsl 8 (map Step.enc x.Else)]
theorem YT(x:Step):Step.enc x=Step.c x:=by cases x;simp[Step.enc,Step.c,Qdz]
structure Course where
  Name:List UInt8
  Mats:List Mat
  Legs:List Leg
  Distances:List Distance
  Waves:List Wave
  Offences:List Offence
  Categories:List Category
  Prizes:List Prize
  Ties:List Step
  Faults:Faults
  Fee:Int
  Deadline:Int
def Course.c(x:Course):List Go.Sw.A:=[.str x.Name,.rsl 2 (map Mat.c x.Mats),.rsl 4 (map Leg.c x.Legs),.rsl 5 (map Distance.c x.Distances),.rsl 2 (map Wave.c x.Waves),.rsl 4 (map Offence.c x.Offences),.rsl 3 (map Category.c x.Categories),.rsl 4 (map Prize.c x.Prizes),.rsl 8 (map Step.enc x.Ties),I x.Faults.Misses,I x.Faults.Strays,I x.Faults.Window,I x.Faults.Residual,I x.Faults.Drift,I x.Fee,I x.Deadline]
structure Starter where
  Bib:Int
  Distance:Int
  Wave:Int
  Slot:Int
  Age:Int
  Chip:Int
  Team:Int
  Lot:Int
  deriving DecidableEq
def Starter.c(x:Starter):List Go.Sw.A:=[I x.Bib,I x.Distance,I x.Wave,I x.Slot,I x.Age,I x.Chip,I x.Team,I x.Lot]
structure Read where
  Mat:Int
  Epoch:Int
  Chip:Int
  Local:Int
  deriving DecidableEq
def Read.c(x:Read):List Go.Sw.A:=[I x.Mat,I x.Epoch,I x.Chip,I x.Local]
structure Beacon where
  Mat:Int
  Epoch:Int
  Local:Int
  True:Int
  Err:Int
  deriving DecidableEq
def Beacon.c(x:Beacon):List Go.Sw.A:=[I x.Mat,I x.Epoch,I x.Local,I x.True,I x.Err]
structure Sync where
  MatA:Int
  EpochA:Int
  LocalA:Int
  MatB:Int
  EpochB:Int
  LocalB:Int
  Min:Int
  Max:Int
  deriving DecidableEq
def Sync.c(x:Sync):List Go.Sw.A:=[I x.MatA,I x.EpochA,I x.LocalA,I x.MatB,I x.EpochB,I x.LocalB,I x.Min,I x.Max]
structure Hand where
  Bib:Int
  Position:Int
  Lo:Int
  Hi:Int
  deriving DecidableEq
def Hand.c(x:Hand):List Go.Sw.A:=[I x.Bib,I x.Position,I x.Lo,I x.Hi]
structure Silence where
  Mat:Int
  Epoch:Int
  Lo:Int
  Hi:Int
  deriving DecidableEq
def Silence.c(x:Silence):List Go.Sw.A:=[I x.Mat,I x.Epoch,I x.Lo,I x.Hi]
structure Pair where
  A:Int
  B:Int
  deriving DecidableEq
def Pair.c(x:Pair):List Go.Sw.A:=[I x.A,I x.B]
structure Report where
  Case:Int
  Bib:Int
  Offence:Int
  Position:Int
  deriving DecidableEq
def Report.c(x:Report):List Go.Sw.A:=[I x.Case,I x.Bib,I x.Offence,I x.Position]
structure Protest where
  Case:Int
  By:Int
  Fee:Int
  Form:Int
  deriving DecidableEq
def Protest.c(x:Protest):List Go.Sw.A:=[I x.Case,I x.By,I x.Fee,I x.Form]
structure Ruling where
  Case:Int
  Instance:Int
  Kind:Int
  Bib:Int
  Position:Int
  Amount:Int
  deriving DecidableEq
def Ruling.c(x:Ruling):List Go.Sw.A:=[I x.Case,I x.Instance,I x.Kind,I x.Bib,I x.Position,I x.Amount]
structure Appeal where
  Case:Int
  Suspends:Bool
  deriving DecidableEq
def Appeal.c(x:Appeal):List Go.Sw.A:=[I x.Case,.bool x.Suspends]
structure Ref where
  Crew:Int
  No:Int
  deriving DecidableEq
def Ref.c(x:Ref):List Go.Sw.A:=[I x.Crew,I x.No]
structure Fact where
  Crew:Int
  No:Int
  At:Int
  Kind:Int
  Starter:Starter
  Read:Read
  Beacon:Beacon
  Sync:Sync
  Hand:Hand
  Silence:Silence
  Pair:Pair
  Report:Report
  Protest:Protest
  Ruling:Ruling
  Appeal:Appeal
  Void:Ref
  deriving DecidableEq
def Fact.c(x:Fact):List Go.Sw.A:=[I x.Crew,I x.No,I x.At,I x.Kind,I x.Starter.Bib,I x.Starter.Distance,I x.Starter.Wave,I x.Starter.Slot,I x.Starter.Age,I x.Starter.Chip,I x.Starter.Team,I x.Starter.Lot,I x.Read.Mat,I x.Read.Epoch,I x.Read.Chip,I x.Read.Local,I x.Beacon.Mat,I x.Beacon.Epoch,I x.Beacon.Local,I x.Beacon.True,I x.Beacon.Err,I x.Sync.MatA,I x.Sync.EpochA,I x.Sync.LocalA,I x.Sync.MatB,I x.Sync.EpochB,I x.Sync.LocalB,I x.Sync.Min,I x.Sync.Max,I x.Hand.Bib,I x.Hand.Position,I x.Hand.Lo,I x.Hand.Hi,I x.Silence.Mat,I x.Silence.Epoch,I x.Silence.Lo,I x.Silence.Hi,I x.Pair.A,I x.Pair.B,I x.Report.Case,I x.Report.Bib,I x.Report.Offence,I x.Report.Position,I x.Protest.Case,I x.Protest.By,I x.Protest.Fee,I x.Protest.Form,I x.Ruling.Case,I x.Ruling.Instance,I x.Ruling.Kind,I x.Ruling.Bib,I x.Ruling.Position,I x.Ruling.Amount,I x.Appeal.Case,.bool x.Appeal.Suspends,I x.Void.Crew,I x.Void.No]
abbrev Um:Cond:={Kind:=0,Var:=0,N:=0,Parts:=[]}
abbrev UA:Step:={Kind:=0,By:=0,Cond:=Um,Then:=[],Else:=[]}
abbrev Us:Part:={Mat:=0,Laps:=0,Parts:=[]}
abbrev Uo:Distance:={Name:=[],Route:=[],Timing:=0,Cutoffs:=[],Extra:=0}
abbrev Uz:Starter:={Bib:=0,Distance:=0,Wave:=0,Slot:=0,Age:=0,Chip:=0,Team:=0,Lot:=0}
abbrev Uv:Read:={Mat:=0,Epoch:=0,Chip:=0,Local:=0}
abbrev Ul:Beacon:={Mat:=0,Epoch:=0,Local:=0,True:=0,Err:=0}
abbrev UB:Sync:={MatA:=0,EpochA:=0,LocalA:=0,MatB:=0,EpochB:=0,LocalB:=0,Min:=0,Max:=0}
abbrev Ur:Hand:={Bib:=0,Position:=0,Lo:=0,Hi:=0}
abbrev Uy:Silence:={Mat:=0,Epoch:=0,Lo:=0,Hi:=0}
abbrev Uw:Report:={Case:=0,Bib:=0,Offence:=0,Position:=0}
abbrev Uu:Protest:={Case:=0,By:=0,Fee:=0,Form:=0}
abbrev Ux:Ruling:={Case:=0,Instance:=0,Kind:=0,Bib:=0,Position:=0,Amount:=0}
abbrev Up:Fact:={Crew:=0,No:=0,At:=0,Kind:=0,Starter:=Uz,Read:=Uv,Beacon:=Ul,Sync:=UB,Hand:=Ur,Silence:=Uy,Pair:={A:=0,B:=0:Pair},Report:=Uw,Protest:=Uu,Ruling:=Ux,Appeal:={Case:=0,Suspends:=false:Appeal},Void:={Crew:=0,No:=0:Ref}}
structure Uh where
  from_:Int
  to_:Int
  deriving DecidableEq
def Uh.c(x:Uh):List Go.Sw.A:=[I x.from_,I x.to_]
structure Uj where
  distance:Int
  category:Int
  rank:Int
  deriving DecidableEq
def Uj.c(x:Uj):List Go.Sw.A:=[I x.distance,I x.category,I x.rank]
structure Uk where
  Step:Step
def Uk.c(x:Uk):List Go.Sw.A:=[I x.Step.Kind,I x.Step.By,I x.Step.Cond.Kind,I x.Step.Cond.Var,I x.Step.Cond.N,.rsl 4 (map Cond.enc x.Step.Cond.Parts),.rsl 8 (map Step.enc x.Step.Then),.rsl 8 (map Step.enc x.Step.Else)]
structure Uf where
  Cond:Cond
def Uf.c(x:Uf):List Go.Sw.A:=[I x.Cond.Kind,I x.Cond.Var,I x.Cond.N,.rsl 4 (map Cond.enc x.Cond.Parts)]
inductive Ui where
  |ctyping_step (x:Uk)
  |ctyping_cond (x:Uf)
def Ui.val:Ui->A
  |.ctyping_step x=>.iface 266 (.agg (Uk.c x))
  |.ctyping_cond x=>.iface 315 (.agg (Uf.c x))
def Ui.enc(x:Ui):List A:=[x.val]
def Ui.elim{R:Type}(e:Ui)(f0:Uk->Option R)(f1:Uf->Option R):Option R:=match e with
  |.ctyping_step x=>f0 x
  |.ctyping_cond x=>f1 x
theorem Ui.data(x:Ui):YJ x.val=true:=by cases x<;>rfl
theorem JQ(e:Ui):(∃x,e=.ctyping_step x)\/(∃x,e=.ctyping_cond x):=by cases e<;>simp
theorem JC{R:Type}{e:Ui}{x:Uk}{f0:Uk->Option R}{f1:Uf->Option R}{r:R}(hE:e=.ctyping_step x)(h:Ui.elim e f0 f1=some r):f0 x=some r:=by subst hE;exact h
theorem JB{R:Type}{e:Ui}{x:Uf}{f0:Uk->Option R}{f1:Uf->Option R}{r:R}(hE:e=.ctyping_cond x)(h:Ui.elim e f0 f1=some r):f1 x=some r:=by subst hE;exact h
structure Ug where
  steps:Int
  conds:Int
  deriving DecidableEq
def Ug.c(x:Ug):List Go.Sw.A:=[I x.steps,I x.conds]
structure Penalty where
  Position:Int
  Time:Int
  Laps:Int
  Out:Bool
  deriving DecidableEq
def Penalty.c(x:Penalty):List Go.Sw.A:=[I x.Position,I x.Time,I x.Laps,.bool x.Out]
structure Ud where
  number:Int
  bib:Int
  penalty:Penalty
  deriving DecidableEq
def Ud.c(x:Ud):List Go.Sw.A:=[I x.number,I x.bib,I x.penalty.Position,I x.penalty.Time,I x.penalty.Laps,.bool x.penalty.Out]
structure Ub where
  least:Int
  most:Int
  deriving DecidableEq
def Ub.c(x:Ub):List Go.Sw.A:=[I x.least,I x.most]
structure Value where
  Kind:Int
  N:Int
  S:List UInt8
  L:List Value
mutual
def Value.enc:Value->List A
  |⟨x0,x1,x2,x3⟩=>[I x0,I x1,.str x2,.rsl 4 (Value.encs x3)]
def Value.encs:List Value->List (List A)
  |[]=>[]
  |x::l=>Value.enc x::Value.encs l
end
theorem QgI(l:List Value):Value.encs l=map Value.enc l:=by induction l with|nil=>simp[Value.encs]|cons x l h=>simp[Value.encs,h]
def Value.c(x:Value):List Go.Sw.A:=[I x.Kind,I x.N,.str x.S,.rsl 4 (map Value.enc x.L)]
theorem Jq(x:Value):Value.enc x=Value.c x:=by cases x;simp[Value.enc,Value.c,QgI]
abbrev UC:Value:={Kind:=0,N:=0,S:=[],L:=[]}
abbrev Ue:=Fil Fact Report
abbrev Ue.K:FK Fact Report:={T:=225,tF:=72,kF:=57,tR:=62,kR:=4,eF:=Fact.c,eR:=Report.c}
def Ue.c(x:Ue):List Go.Sw.A:=[I x.number,.rsl 57 (map Fact.c x.r0),.rsl 57 (map Fact.c x.r1),.rsl 57 (map Fact.c x.r2),.rsl 4 (map Report.c x.reports),.bool x.appeal]
def Ue.ptr(x:Ue):List Go.Sw.A:=[.rp (Ue.c x)]
structure Uc where
  penalty:Nat
  deriving DecidableEq
def Uc.c(x:Uc):List Go.Sw.A:=[.fn (.func x.penalty) [] []]
abbrev Ut:Penalty:={Position:=0,Time:=0,Laps:=0,Out:=false}
abbrev Uq:Faults:={Misses:=0,Strays:=0,Window:=0,Residual:=0,Drift:=0}
abbrev Un:Course:={Name:=[],Mats:=[],Legs:=[],Distances:=[],Waves:=[],Offences:=[],Categories:=[],Prizes:=[],Ties:=[],Faults:=Uq,Fee:=0,Deadline:=0}
structure Ua where
  from_:Int
  to_:Int
  deriving DecidableEq
def Ua.c(x:Ua):List Go.Sw.A:=[I x.from_,I x.to_]
theorem el_29:Q0 prog 29 110 8:=⟨runUnderlying29,sizeOf110,⟨_,zeroValue110,rfl⟩,⟨_,typeInfo110,by decide⟩⟩
theorem el_25:Q0 prog 25 112 2:=⟨runUnderlying25,sizeOf112,⟨_,zeroValue112,rfl⟩,⟨_,typeInfo112,by decide⟩⟩
theorem el_26:Q0 prog 26 114 4:=⟨runUnderlying26,sizeOf114,⟨_,zeroValue114,rfl⟩,⟨_,typeInfo114,by decide⟩⟩
theorem el_22:Q0 prog 22 116 2:=⟨runUnderlying22,sizeOf116,⟨_,zeroValue116,rfl⟩,⟨_,typeInfo116,by decide⟩⟩
theorem el_23:Q0 prog 23 118 4:=⟨GD,sizeOf118,⟨_,zeroValue118,rfl⟩,⟨_,typeInfo118,by decide⟩⟩
theorem el_97:Q0 prog 97 120 3:=⟨runUnderlying97,sizeOf120,⟨_,zeroValue120,rfl⟩,⟨_,typeInfo120,by decide⟩⟩
theorem el_24:Q0 prog 24 100 5:=⟨Gj,Gm,⟨_,zeroValue100,rfl⟩,⟨_,typeInfo100,by decide⟩⟩
theorem Y9:Q0 prog 34 72 57:=⟨EB,EC,⟨_,GA,rfl⟩,⟨_,typeInfo72,by decide⟩⟩
theorem YO:Q0 prog 239 5 1:=⟨EH,E8,⟨_,zeroValue5,rfl⟩,⟨_,typeInfo5,by decide⟩⟩
theorem QcB:Jd prog 9 A.str:=Jd.str Gi
theorem Qu:Q0 prog 37 3 1:=⟨EA,EE,⟨_,GH,rfl⟩,⟨_,typeInfo3,by decide⟩⟩
theorem Qok:prog.underlying 127=some (.struct (prog.fieldsOf 127)):=by kernel_rfl
theorem QqH:prog.stoodInHeld 127=false:=by kernel_rfl
theorem QeV:Jd prog 127 (λx=>A.agg (Uh.c x)):=by
  refine Jd.struct Qok Zf (λx y h=>?_) (λw em x=>?_) (λw x y=>?_) (λx=>?_)
  · cases x;cases y
    simpa[QW,Y6,Uh.c]using h
  · simp only[QW,Y6,Uh.c]
    rw[show(10000:Nat)=9998+1+1 from rfl];generalize(9998:Nat)=d;simp[Instr.checkKey,runUnderlying127,EL,Result.andThen,EE,EF,part]
  · have u3:=Gn
    have a3:=EF;have z3:=EE;simp only[QW,Y6,Uh.c,Op.equal,Op.maxDepth];rw[show(10000:Nat)=9999+1 from Z,run_equalIn_agg w 9999 127 _ _ Qok QqH];simp only[Program.fieldsOf,underlying127]
    go_simp
    cases x;cases y;simp
    repeat' split
    all_goals simp_all
  · simp[QW,Y6,Uh.c,Instr.sameBits]
theorem Qoj:prog.underlying 214=some (.struct (prog.fieldsOf 214)):=by kernel_rfl
theorem QqG:prog.stoodInHeld 214=false:=by kernel_rfl
theorem QpE:Jd prog 214 (λx=>A.agg (Uj.c x)):=by
  refine Jd.struct Qoj Zf (λx y h=>?_) (λw em x=>?_) (λw x y=>?_) (λx=>?_)
  · cases x;cases y
    simpa[QW,Y6,Uj.c]using h
  · simp only[QW,Y6,Uj.c]
    rw[show(10000:Nat)=9998+1+1 from rfl];generalize(9998:Nat)=d;simp[Instr.checkKey,runUnderlying214,EL,Result.andThen,EE,EF,part]
  · have u3:=Gn
    have a3:=EF;have z3:=EE;simp only[QW,Y6,Uj.c,Op.equal,Op.maxDepth];rw[show(10000:Nat)=9999+1 from Z,run_equalIn_agg w 9999 214 _ _ Qoj QqG];simp only[Program.fieldsOf,underlying214]
    go_simp
    cases x;cases y;simp
    repeat' split
    all_goals simp_all
  · simp[QW,Y6,Uj.c,Instr.sameBits]
theorem QcW:Q0 prog 217 263 1:=⟨Gd,sizeOf263,⟨_,zeroValue263,rfl⟩,⟨_,typeInfo263,by decide⟩⟩
theorem Y2:Jd prog 3 (λx=>A.int .i64 x):=Jd.int Gn
theorem Qjt:QL prog 72 14 53 2:=FA E9 rfl sizeOf68
theorem QpM:QL prog 68 1 1 1:=FA runUnderlying68 rfl Gb
theorem QpL:QL prog 72 3 3 1:=FA E9 rfl EE
theorem QpO:QL prog 48 1 1 1:=FA runUnderlying48 rfl EE
theorem JE:Q0 prog 281 293 3:=⟨Ge,GK,⟨_,zeroValue293,rfl⟩,⟨_,typeInfo293,by decide⟩⟩
theorem Qju:QL prog 72 11 39 4:=FA E9 rfl E3
theorem Qh7:QL prog 62 0 0 1:=FA runUnderlying62 rfl EE
theorem Qam:QL prog 72 13 47 6:=FA E9 rfl E4
theorem QlY:QL prog 66 0 0 1:=FA runUnderlying66 rfl EE
theorem Qco:QL prog 66 1 1 1:=FA runUnderlying66 rfl EE
theorem QpN:QL prog 68 0 0 1:=FA runUnderlying68 rfl EE
inductive U_facts_open_rxk where
  |c0 (x:Unit)
  |c1 (x:Unit)
  |c2 (x:Unit)
  |c3 (x:Unit)
  |c4 (x:Unit)
  |c5 (x:Unit)
  |c6 (x:Unit)
  |c7 (x:Unit)
  |c8 (x:Unit)
  |c9 (x:Int×Int×Int×Int×Int×Int)
  |c10 (x:Unit)
  |c11 (x:Unit)
  |c12 (x:Unit)
  |c13 (x:Unit)
theorem QeX:QL prog 72 1 1 1:=FA E9 rfl EE
theorem Qh6:QL prog 72 2 2 1:=FA E9 rfl EE
theorem Qor:QL prog 293 0 0 1:=FA runUnderlying293 rfl sizeOf287
def Fact.put(x:Fact)(o:Nat)(v:Int):Option Fact:=match o with
  |0=>some {x with Crew:=v}
  |1=>some {x with No:=v}
  |2=>some {x with At:=v}
  |3=>some {x with Kind:=v}
  |4=>some {x with Starter:={x.Starter with Bib:=v}}
  |5=>some {x with Starter:={x.Starter with Distance:=v}}
  |6=>some {x with Starter:={x.Starter with Wave:=v}}
  |7=>some {x with Starter:={x.Starter with Slot:=v}}
  |8=>some {x with Starter:={x.Starter with Age:=v}}
  |9=>some {x with Starter:={x.Starter with Chip:=v}}
  |10=>some {x with Starter:={x.Starter with Team:=v}}
  |11=>some {x with Starter:={x.Starter with Lot:=v}}
  |12=>some {x with Read:={x.Read with Mat:=v}}
  |13=>some {x with Read:={x.Read with Epoch:=v}}
  |14=>some {x with Read:={x.Read with Chip:=v}}
  |15=>some {x with Read:={x.Read with Local:=v}}
  |16=>some {x with Beacon:={x.Beacon with Mat:=v}}
  |17=>some {x with Beacon:={x.Beacon with Epoch:=v}}
  |18=>some {x with Beacon:={x.Beacon with Local:=v}}
  |19=>some {x with Beacon:={x.Beacon with True:=v}}
  |20=>some {x with Beacon:={x.Beacon with Err:=v}}
  |21=>some {x with Sync:={x.Sync with MatA:=v}}
  |22=>some {x with Sync:={x.Sync with EpochA:=v}}
  |23=>some {x with Sync:={x.Sync with LocalA:=v}}
  |24=>some {x with Sync:={x.Sync with MatB:=v}}
  |25=>some {x with Sync:={x.Sync with EpochB:=v}}
  |26=>some {x with Sync:={x.Sync with LocalB:=v}}
  |27=>some {x with Sync:={x.Sync with Min:=v}}
  |28=>some {x with Sync:={x.Sync with Max:=v}}
  |29=>some {x with Hand:={x.Hand with Bib:=v}}
  |30=>some {x with Hand:={x.Hand with Position:=v}}
  |31=>some {x with Hand:={x.Hand with Lo:=v}}
  |32=>some {x with Hand:={x.Hand with Hi:=v}}
  |33=>some {x with Silence:={x.Silence with Mat:=v}}
  |34=>some {x with Silence:={x.Silence with Epoch:=v}}
  |35=>some {x with Silence:={x.Silence with Lo:=v}}
  |36=>some {x with Silence:={x.Silence with Hi:=v}}
  |37=>some {x with Pair:={x.Pair with A:=v}}
  |38=>some {x with Pair:={x.Pair with B:=v}}
  |39=>some {x with Report:={x.Report with Case:=v}}
  |40=>some {x with Report:={x.Report with Bib:=v}}
  |41=>some {x with Report:={x.Report with Offence:=v}}
  |42=>some {x with Report:={x.Report with Position:=v}}
  |43=>some {x with Protest:={x.Protest with Case:=v}}
  |44=>some {x with Protest:={x.Protest with By:=v}}
  |45=>some {x with Protest:={x.Protest with Fee:=v}}
  |46=>some {x with Protest:={x.Protest with Form:=v}}
  |47=>some {x with Ruling:={x.Ruling with Case:=v}}
  |48=>some {x with Ruling:={x.Ruling with Instance:=v}}
  |49=>some {x with Ruling:={x.Ruling with Kind:=v}}
  |50=>some {x with Ruling:={x.Ruling with Bib:=v}}
  |51=>some {x with Ruling:={x.Ruling with Position:=v}}
  |52=>some {x with Ruling:={x.Ruling with Amount:=v}}
  |53=>some {x with Appeal:={x.Appeal with Case:=v}}
  |55=>some {x with Void:={x.Void with Crew:=v}}
  |56=>some {x with Void:={x.Void with No:=v}}
  |_=>none
theorem QqB:∀(x:Fact) (o:Nat) (v:Int) (y:Fact),Fact.put x o v=some y->Fact.c y=(Fact.c x).set o (I v)/\o<(Fact.c x).length:=by
  intro x o v y h;unfold Fact.put at h;split at h<;>first|(cases h;exact⟨Z,XO Z⟩)|cases h
theorem nt_72:prog.stoodInHeld 72=false:=by kernel_rfl
theorem nt_70:prog.stoodInHeld 70=false:=by kernel_rfl
theorem Yc(h:Nat):QiD prog 3 (h+1) 1 false (λl=>∃x:Int,l=[Value.int .i64 x]):=QiD.int Gn EF EE h
theorem nt_68:prog.stoodInHeld 68=false:=by kernel_rfl
theorem ei_4(h:Nat):QiD prog 4 (h+1) 1 false (λl=>∃x:Bool,l=[Value.bool x]):=QiD.bool underlying4 isAgg4 Gb h
theorem nt_66:prog.stoodInHeld 66=false:=by kernel_rfl
theorem nt_64:prog.stoodInHeld 64=false:=by kernel_rfl
theorem nt_62:prog.stoodInHeld 62=false:=by kernel_rfl
theorem nt_60:prog.stoodInHeld 60=false:=by kernel_rfl
theorem nt_58:prog.stoodInHeld 58=false:=by kernel_rfl
theorem nt_56:prog.stoodInHeld 56=false:=by kernel_rfl
theorem nt_54:prog.stoodInHeld 54=false:=by kernel_rfl
theorem nt_52:prog.stoodInHeld 52=false:=by kernel_rfl
theorem nt_50:prog.stoodInHeld 50=false:=by kernel_rfl
theorem nt_48:prog.stoodInHeld 48=false:=by kernel_rfl
theorem QkX:EqD prog 72 Fact.c:=by
  refine Qmp (QZ underlying72 nt_72 EP EC (Qlp.c Yc (Qlp.c Yc (Qlp.c Yc (Qlp.c Yc (Qlp.cons Z (by decide) (QZ underlying48 nt_48 isAgg48 GI (Qlp.c Yc (Qlp.c Yc (Qlp.c Yc (Qlp.c Yc (Qlp.c Yc (Qlp.c Yc (Qlp.c Yc (Qlp.c Yc (Qlp.nil 1 _)))))))))) (λe=>Bool.noConfusion e) (Qlp.cons Z (by decide) (QZ underlying50 nt_50 isAgg50 sizeOf50 (Qlp.c Yc (Qlp.c Yc (Qlp.c Yc (Qlp.c Yc (Qlp.nil 1 _)))))) (λe=>Bool.noConfusion e) (Qlp.cons Z (by decide) (QZ underlying52 nt_52 isAgg52 sizeOf52 (Qlp.c Yc (Qlp.c Yc (Qlp.c Yc (Qlp.c Yc (Qlp.c Yc (Qlp.nil 1 _))))))) (λe=>Bool.noConfusion e) (Qlp.cons Z (by decide) (QZ underlying54 nt_54 isAgg54 sizeOf54 (Qlp.c Yc (Qlp.c Yc (Qlp.c Yc (Qlp.c Yc (Qlp.c Yc (Qlp.c Yc (Qlp.c Yc (Qlp.c Yc (Qlp.nil 1 _)))))))))) (λe=>Bool.noConfusion e) (Qlp.cons Z (by decide) (QZ underlying56 nt_56 isAgg56 sizeOf56 (Qlp.c Yc (Qlp.c Yc (Qlp.c Yc (Qlp.c Yc (Qlp.nil 1 _)))))) (λe=>Bool.noConfusion e) (Qlp.cons Z (by decide) (QZ underlying58 nt_58 isAgg58 sizeOf58 (Qlp.c Yc (Qlp.c Yc (Qlp.c Yc (Qlp.c Yc (Qlp.nil 1 _)))))) (λe=>Bool.noConfusion e) (Qlp.cons Z (by decide) (QZ underlying60 nt_60 isAgg60 sizeOf60 (Qlp.c Yc (Qlp.c Yc (Qlp.nil 1 _)))) (λe=>Bool.noConfusion e) (Qlp.cons Z (by decide) (QZ underlying62 nt_62 GG E3 (Qlp.c Yc (Qlp.c Yc (Qlp.c Yc (Qlp.c Yc (Qlp.nil 1 _)))))) (λe=>Bool.noConfusion e) (Qlp.cons Z (by decide) (QZ underlying64 nt_64 isAgg64 sizeOf64 (Qlp.c Yc (Qlp.c Yc (Qlp.c Yc (Qlp.c Yc (Qlp.nil 1 _)))))) (λe=>Bool.noConfusion e) (Qlp.cons Z (by decide) (QZ underlying66 nt_66 Gz E4 (Qlp.c Yc (Qlp.c Yc (Qlp.c Yc (Qlp.c Yc (Qlp.c Yc (Qlp.c Yc (Qlp.nil 1 _)))))))) (λe=>Bool.noConfusion e) (Qlp.cons Z (by decide) (QZ underlying68 nt_68 isAgg68 sizeOf68 (Qlp.c Yc (Qlp.c ei_4 (Qlp.nil 1 _)))) (λe=>Bool.noConfusion e) (Qlp.cons Z (by decide) (QZ underlying70 nt_70 isAgg70 sizeOf70 (Qlp.c Yc (Qlp.c Yc (Qlp.nil 1 _)))) (λe=>Bool.noConfusion e) (Qlp.nil 2 _)))))))))))))))))) Z (λx=>⟨[_],_,Z,⟨_,Z⟩,[_],_,Z,⟨_,Z⟩,[_],_,Z,⟨_,Z⟩,[_],_,Z,⟨_,Z⟩,[_,_,_,_,_,_,_,_],_,Z,⟨[_],_,Z,⟨_,Z⟩,[_],_,Z,⟨_,Z⟩,[_],_,Z,⟨_,Z⟩,[_],_,Z,⟨_,Z⟩,[_],_,Z,⟨_,Z⟩,[_],_,Z,⟨_,Z⟩,[_],_,Z,⟨_,Z⟩,[_],_,Z,⟨_,Z⟩,Z⟩,[_,_,_,_],_,Z,⟨[_],_,Z,⟨_,Z⟩,[_],_,Z,⟨_,Z⟩,[_],_,Z,⟨_,Z⟩,[_],_,Z,⟨_,Z⟩,Z⟩,[_,_,_,_,_],_,Z,⟨[_],_,Z,⟨_,Z⟩,[_],_,Z,⟨_,Z⟩,[_],_,Z,⟨_,Z⟩,[_],_,Z,⟨_,Z⟩,[_],_,Z,⟨_,Z⟩,Z⟩,[_,_,_,_,_,_,_,_],_,Z,⟨[_],_,Z,⟨_,Z⟩,[_],_,Z,⟨_,Z⟩,[_],_,Z,⟨_,Z⟩,[_],_,Z,⟨_,Z⟩,[_],_,Z,⟨_,Z⟩,[_],_,Z,⟨_,Z⟩,[_],_,Z,⟨_,Z⟩,[_],_,Z,⟨_,Z⟩,Z⟩,[_,_,_,_],_,Z,⟨[_],_,Z,⟨_,Z⟩,[_],_,Z,⟨_,Z⟩,[_],_,Z,⟨_,Z⟩,[_],_,Z,⟨_,Z⟩,Z⟩,[_,_,_,_],_,Z,⟨[_],_,Z,⟨_,Z⟩,[_],_,Z,⟨_,Z⟩,[_],_,Z,⟨_,Z⟩,[_],_,Z,⟨_,Z⟩,Z⟩,[_,_],_,Z,⟨[_],_,Z,⟨_,Z⟩,[_],_,Z,⟨_,Z⟩,Z⟩,[_,_,_,_],_,Z,⟨[_],_,Z,⟨_,Z⟩,[_],_,Z,⟨_,Z⟩,[_],_,Z,⟨_,Z⟩,[_],_,Z,⟨_,Z⟩,Z⟩,[_,_,_,_],_,Z,⟨[_],_,Z,⟨_,Z⟩,[_],_,Z,⟨_,Z⟩,[_],_,Z,⟨_,Z⟩,[_],_,Z,⟨_,Z⟩,Z⟩,[_,_,_,_,_,_],_,Z,⟨[_],_,Z,⟨_,Z⟩,[_],_,Z,⟨_,Z⟩,[_],_,Z,⟨_,Z⟩,[_],_,Z,⟨_,Z⟩,[_],_,Z,⟨_,Z⟩,[_],_,Z,⟨_,Z⟩,Z⟩,[_,_],_,Z,⟨[_],_,Z,⟨_,Z⟩,[_],_,Z,⟨_,Z⟩,Z⟩,[_,_],_,Z,⟨[_],_,Z,⟨_,Z⟩,[_],_,Z,⟨_,Z⟩,Z⟩,Z⟩) Zf (λx y h=>?_) (by kernel_rfl);obtain⟨_,_,_,_,⟨_,_,_,_,_,_,_,_⟩,⟨_,_,_,_⟩,⟨_,_,_,_,_⟩,⟨_,_,_,_,_,_,_,_⟩,⟨_,_,_,_⟩,⟨_,_,_,_⟩,⟨_,_⟩,⟨_,_,_,_⟩,⟨_,_,_,_⟩,⟨_,_,_,_,_,_⟩,⟨_,_⟩,⟨_,_⟩⟩:=x;obtain⟨_,_,_,_,⟨_,_,_,_,_,_,_,_⟩,⟨_,_,_,_⟩,⟨_,_,_,_,_⟩,⟨_,_,_,_,_,_,_,_⟩,⟨_,_,_,_⟩,⟨_,_,_,_⟩,⟨_,_⟩,⟨_,_,_,_⟩,⟨_,_,_,_⟩,⟨_,_,_,_,_,_⟩,⟨_,_⟩,⟨_,_⟩⟩:=y;simpa[QW,Y6,Fact.c,Starter.c,Read.c,Beacon.c,Sync.c,Hand.c,Silence.c,Pair.c,Report.c,Protest.c,Ruling.c,Appeal.c,Ref.c,and_assoc]using h
theorem QnS:Qd6 prog 296 [(0,1),(1,1),(2,1),(3,1)]:=⟨_,runUnderlying296,(Ef EE (Ef EE (Ef GR (Ef sizeOf294 PL.nil))))⟩
theorem Qik:Q0 prog 294 296 4:=⟨EX,Gv,⟨_,GL,rfl⟩,⟨_,typeInfo296,by decide⟩⟩
theorem Qjv:QL prog 296 2 2 1:=FA runUnderlying296 rfl GR
theorem Qil:Q0 prog 220 222 1:=⟨ET,Gw,⟨_,zeroValue222,rfl⟩,⟨_,typeInfo222,by decide⟩⟩
theorem Qjx:QL prog 225 0 0 1:=FA EY rfl EE
theorem QqD:Qd6 prog 225 [(0,1),(1,3),(4,1),(5,1)]:=⟨_,EY,(Ef EE (Ef sizeOf223 (Ef sizeOf85 (Ef Gb PL.nil))))⟩
theorem Qjw:QL prog 225 2 4 1:=FA EY rfl sizeOf85
theorem QjO:Q0 prog 85 62 4:=⟨EQ,E3,⟨_,GF,rfl⟩,⟨_,typeInfo62,by decide⟩⟩
theorem Qos:QL prog 225 3 5 1:=FA EY rfl Gb
theorem JU:QL prog 225 1 1 3:=FA EY rfl sizeOf223
theorem QjN:Q0 prog 88 66 6:=⟨Gk,E4,⟨_,zeroValue66,rfl⟩,⟨_,typeInfo66,by decide⟩⟩
theorem Qi6(m:List (Int×Bool))(hl:Nat.ble (map Prod.fst m).length QB=true):C prog 118 [.fn (.func 120) [] [.ptr 0 0]] [.cells 134 [.map 1],.fmap (Qo (λx=>A.int .i64 x) A.bool m)] (λr H=>∃p:List Int,p.Perm (map Prod.fst m)/\r=.osl 2 0 p.length 1/\H=[.dead,.fmap (Qo (λx=>A.int .i64 x) A.bool m),.row 3 1 (map (Qe .i64) p)]):=
  QhA func118 Z Z Z (λenv H h=>OpC.fn (xs:=[.const (.slice none 0 0),.tmp 3]) call177 Z Z (by show[_,lk env 3]=_;rw[h];rfl)) (QhB func177 Z Z Z Qu GS sizeOf37 call120 (Qgk func120 Z Z Z isAgg134 Gp Zf) hl Zf Zf Zf Zf Zf)
theorem QbK:Q0 prog 38 76 4:=⟨EI,EG,⟨_,zeroValue76,rfl⟩,⟨_,typeInfo76,by decide⟩⟩
theorem Qi5(m:List (Int×Fact))(hl:Nat.ble (map Prod.fst m).length QB=true):C prog 118 [.fn (.func 194) [] [.ptr 0 0]] [.cells 153 [.map 1],.fmap (Qo (λx=>A.int .i64 x) (λx=>A.agg (Fact.c x)) m)] (λr H=>∃p:List Int,p.Perm (map Prod.fst m)/\r=.osl 2 0 p.length 1/\H=[.dead,.fmap (Qo (λx=>A.int .i64 x) (λx=>A.agg (Fact.c x)) m),.row 3 1 (map (Qe .i64) p)]):=
  QhA func118 Z Z Z (λenv H h=>OpC.fn (xs:=[.const (.slice none 0 0),.tmp 3]) call177 Z Z (by show[_,lk env 3]=_;rw[h];rfl)) (QhB func177 Z Z Z Qu GS sizeOf37 call194 (Qgk func194 Z Z Z isAgg153 Gq Zf) hl Zf Zf Zf Zf Zf)
theorem Qqg:Q0 prog 92 48 8:=⟨Gy,GI,⟨_,zeroValue48,rfl⟩,⟨_,typeInfo48,by decide⟩⟩
theorem Qoi:prog.underlying 248=some (.struct (prog.fieldsOf 248)):=by kernel_rfl
theorem QqF:prog.stoodInHeld 248=false:=by kernel_rfl
theorem QpD:Jd prog 248 (λx=>A.agg (Ua.c x)):=by
  refine Jd.struct Qoi Zf (λx y h=>?_) (λw em x=>?_) (λw x y=>?_) (λx=>?_)
  · cases x;cases y
    simpa[QW,Y6,Ua.c]using h
  · simp only[QW,Y6,Ua.c]
    rw[show(10000:Nat)=9998+1+1 from rfl];generalize(9998:Nat)=d;simp[Instr.checkKey,runUnderlying248,EL,Result.andThen,EE,EF,part]
  · have u3:=Gn
    have a3:=EF;have z3:=EE;simp only[QW,Y6,Ua.c,Op.equal,Op.maxDepth];rw[show(10000:Nat)=9999+1 from Z,run_equalIn_agg w 9999 248 _ _ Qoi QqF];simp only[Program.fieldsOf,underlying248]
    go_simp
    cases x;cases y;simp
    repeat' split
    all_goals simp_all
  · simp[QW,Y6,Ua.c,Instr.sameBits]
inductive U_course_build_bwf where
  |c0 (x:Int)
  |c1 (x:List Int)
  |c2 (x:(List Int)×(List (Ua×Leg)))
theorem QlX:QL prog 76 2 2 1:=FA runUnderlying76 rfl EE
theorem QpK:QL prog 76 3 3 1:=FA runUnderlying76 rfl Gb
theorem nt_76:prog.stoodInHeld 76=false:=by kernel_rfl
theorem QqY:EqD prog 76 Penalty.c:=by
  refine Qmp (QZ underlying76 nt_76 EV EG (Qlp.c Yc (Qlp.c Yc (Qlp.c Yc (Qlp.c ei_4 (Qlp.nil 1 _)))))) Z (λx=>⟨[_],_,Z,⟨_,Z⟩,[_],_,Z,⟨_,Z⟩,[_],_,Z,⟨_,Z⟩,[_],_,Z,⟨_,Z⟩,Z⟩) Zf (λx y h=>?_) (by kernel_rfl);obtain⟨_,_,_,_⟩:=x;obtain⟨_,_,_,_⟩:=y;simpa[QW,Y6,Penalty.c,and_assoc]using h
theorem JF:Q0 prog 229 9 1:=⟨EU,GR,⟨_,zeroValue9,rfl⟩,⟨_,typeInfo9,by decide⟩⟩
theorem QJ{n:Nat}:RB prog n 3 Int (λx=>[A.int .i64 x]) (Qq .i64):=RB.int Gn
def tyT:TyI:={fld:=[(120,2,2),(33,1,1),(33,2,2),(33,3,3),(33,4,4),(33,5,5),(33,6,6),(33,7,7),(100,1,1),(100,3,3),(116,0,0),(100,0,0),(112,0,0),(114,0,0),(187,0,0),(33,0,0),(116,1,1),(118,0,0),(118,1,1),(118,2,2),(118,3,3),(120,1,1),(120,0,0),(193,0,0),(193,1,1),(193,2,2),(100,2,2),(100,4,4),(112,1,1),(114,3,3),(114,1,1),(114,2,2),(187,1,1),(187,2,2),(199,0,0),(199,1,1),(199,2,2),(199,3,3),(33,9,9),(31,0,0),(31,1,1),(31,2,2),(31,3,3),(31,4,4),(33,10,14),(33,11,15),(315,0,0),(108,0,0),(108,1,1),(108,2,2),(108,3,3),(266,0,0),(110,3,6),(110,4,7),(259,0,0),(110,2,2),(259,1,1),(110,0,0),(110,1,1),(33,8,8),(72,3,3),(72,4,4),(48,0,0),(48,1,1),(48,2,2),(48,3,3),(48,4,4),(48,5,5),(48,6,6),(48,7,7),(72,5,12),(50,0,0),(50,1,1),(50,2,2),(50,3,3),(72,6,16),(52,0,0),(52,1,1),(52,2,2),(52,3,3),(52,4,4),(72,7,21),(54,0,0),(54,1,1),(54,2,2),(54,3,3),(54,4,4),(54,5,5),(54,6,6),(54,7,7),(72,8,29),(56,0,0),(56,1,1),(56,2,2),(56,3,3),(72,9,33),(58,0,0),(58,1,1),(58,2,2),(58,3,3),(72,10,37),(60,0,0),(60,1,1),(72,11,39),(62,0,0),(62,1,1),(62,2,2),(62,3,3),(72,12,43),(64,0,0),(64,1,1),(64,2,2),(64,3,3),(72,13,47),(66,2,2),(66,0,0),(66,1,1),(66,3,3),(66,4,4),(66,5,5),(72,14,53),(68,0,0),(72,15,55),(70,0,0),(70,1,1),(72,0,0),(72,1,1),(72,2,2),(283,0,0),(68,1,1),(283,1,1),(293,0,0),(293,1,1),(291,0,0),(291,1,1),(296,2,2),(296,3,3),(296,1,1),(296,0,0),(355,0,0),(84,1,1),(84,2,2),(144,0,0),(84,0,0),(160,0,0),(160,1,1),(76,0,0),(76,2,2),(76,1,1)],agg:=[(33,true,16),(120,true,3),(97,false,1),(22,false,1),(23,false,1),(24,false,1),(25,false,1),(26,false,1),(27,false,1),(28,false,1),(100,true,5),(98,false,1),(5,false,1),(9,false,1),(116,true,2),(112,true,2),(114,true,4),(187,true,3),(3,false,1),(202,false,1),(196,false,1),(118,true,4),(127,true,2),(189,false,1),(194,false,1),(193,true,3),(130,false,1),(207,false,1),(4,false,1),(197,false,1),(210,false,1),(200,false,1),(199,true,4),(214,true,3),(31,true,5),(110,true,8),(106,false,1),(29,false,1),(108,true,4),(266,true,8),(315,true,4),(263,false,1),(219,false,1),(125,false,1),(34,false,1),(291,true,2),(283,true,2),(345,false,1),(346,false,1),(347,false,1),(348,false,1),(72,true,57),(35,false,1),(293,true,3),(287,false,1),(294,false,1),(296,true,4),(356,false,1),(353,false,1),(156,false,1),(272,false,1),(222,false,1),(268,false,1),(85,false,1),(62,true,4),(66,true,6),(84,true,6),(76,true,4),(144,true,1),(142,false,1),(37,false,1),(38,false,1),(48,true,8),(298,false,1),(160,true,2),(158,false,1),(104,false,1),(54,true,8),(50,true,4),(52,true,5),(56,true,4),(58,true,4),(60,true,2),(64,true,4),(68,true,2),(70,true,2)],zer:=[(110,[I 0,I 0,I 0,I 0,I 0,.rsl 4 (map Cond.enc []),.rsl 8 (map Step.enc []),.rsl 8 (map Step.enc [])],[(0,1),(1,1),(2,4),(6,1),(7,1)]),(112,[.str [],I 0],[(0,1),(1,1)]),(114,[.str [],I 0,I 0,.bool false],[(0,1),(1,1),(2,1),(3,1)]),(116,[.str [],I 0],[(0,1),(1,1)]),(118,[I 0,I 0,I 0,I 0],[(0,1),(1,1),(2,1),(3,1)]),(120,[I 0,I 0,.rsl 3 (map Part.enc [])],[(0,1),(1,1),(2,1)]),(100,[.str [],.rsl 3 (map Part.enc []),I 0,.rsl 3 (map Cutoff.c []),I 0],[(0,1),(1,1),(2,1),(3,1),(4,1)]),(33,[.str [],.rsl 2 (map Mat.c []),.rsl 4 (map Leg.c []),.rsl 5 (map Distance.c []),.rsl 2 (map Wave.c []),.rsl 4 (map Offence.c []),.rsl 3 (map Category.c []),.rsl 4 (map Prize.c []),.rsl 8 (map Step.enc []),I 0,I 0,I 0,I 0,I 0,I 0,I 0],[(0,1),(1,1),(2,1),(3,1),(4,1),(5,1),(6,1),(7,1),(8,1),(9,5),(14,1),(15,1)]),(127,[I 0,I 0],[(0,1),(1,1)]),(214,[I 0,I 0,I 0],[(0,1),(1,1),(2,1)]),(266,[I 0,I 0,I 0,I 0,I 0,.rsl 4 (map Cond.enc []),.rsl 8 (map Step.enc []),.rsl 8 (map Step.enc [])],[(0,8)]),(315,[I 0,I 0,I 0,.rsl 4 (map Cond.enc [])],[(0,4)]),(259,[I 0,I 0],[(0,1),(1,1)]),(293,[.nilp,I 0,I 0],[(0,1),(1,2)]),(291,[I 0,I 0],[(0,1),(1,1)]),(283,[.nils,.nilf],[(0,1),(1,1)]),(296,[I 0,I 0,.str [],.rsl 4 (map Value.enc [])],[(0,1),(1,1),(2,1),(3,1)]),(66,[I 0,I 0,I 0,I 0,I 0,I 0],[(0,1),(1,1),(2,1),(3,1),(4,1),(5,1)]),(144,[.nilf],[(0,1)]),(76,[I 0,I 0,I 0,.bool false],[(0,1),(1,1),(2,1),(3,1)]),(84,[I 0,I 0,I 0,I 0,I 0,.bool false],[(0,1),(1,1),(2,4)]),(248,[I 0,I 0],[(0,1),(1,1)]),(48,[I 0,I 0,I 0,I 0,I 0,I 0,I 0,I 0],[(0,1),(1,1),(2,1),(3,1),(4,1),(5,1),(6,1),(7,1)]),(72,[I 0,I 0,I 0,I 0,I 0,I 0,I 0,I 0,I 0,I 0,I 0,I 0,I 0,I 0,I 0,I 0,I 0,I 0,I 0,I 0,I 0,I 0,I 0,I 0,I 0,I 0,I 0,I 0,I 0,I 0,I 0,I 0,I 0,I 0,I 0,I 0,I 0,I 0,I 0,I 0,I 0,I 0,I 0,I 0,I 0,I 0,I 0,I 0,I 0,I 0,I 0,I 0,I 0,I 0,.bool false,I 0,I 0],[(0,1),(1,1),(2,1),(3,1),(4,8),(12,4),(16,5),(21,8),(29,4),(33,4),(37,2),(39,4),(43,4),(47,6),(53,2),(55,2)]),(62,[I 0,I 0,I 0,I 0],[(0,1),(1,1),(2,1),(3,1)])]}
def tyF:List (Nat×List (Nat×Nat)):=[(31,[(0,1),(1,1),(2,1),(3,1),(4,1)]),(33,[(0,1),(1,1),(2,1),(3,1),(4,1),(5,1),(6,1),(7,1),(8,1),(9,5),(14,1),(15,1)]),(48,[(0,1),(1,1),(2,1),(3,1),(4,1),(5,1),(6,1),(7,1)]),(50,[(0,1),(1,1),(2,1),(3,1)]),(52,[(0,1),(1,1),(2,1),(3,1),(4,1)]),(54,[(0,1),(1,1),(2,1),(3,1),(4,1),(5,1),(6,1),(7,1)]),(56,[(0,1),(1,1),(2,1),(3,1)]),(58,[(0,1),(1,1),(2,1),(3,1)]),(60,[(0,1),(1,1)]),(62,[(0,1),(1,1),(2,1),(3,1)]),(64,[(0,1),(1,1),(2,1),(3,1)]),(66,[(0,1),(1,1),(2,1),(3,1),(4,1),(5,1)]),(68,[(0,1),(1,1)]),(70,[(0,1),(1,1)]),(72,[(0,1),(1,1),(2,1),(3,1),(4,8),(12,4),(16,5),(21,8),(29,4),(33,4),(37,2),(39,4),(43,4),(47,6),(53,2),(55,2)]),(76,[(0,1),(1,1),(2,1),(3,1)]),(84,[(0,1),(1,1),(2,4)]),(100,[(0,1),(1,1),(2,1),(3,1),(4,1)]),(108,[(0,1),(1,1),(2,1),(3,1)]),(110,[(0,1),(1,1),(2,4),(6,1),(7,1)]),(112,[(0,1),(1,1)]),(114,[(0,1),(1,1),(2,1),(3,1)]),(116,[(0,1),(1,1)]),(118,[(0,1),(1,1),(2,1),(3,1)]),(120,[(0,1),(1,1),(2,1)]),(127,[(0,1),(1,1)]),(144,[(0,1)]),(160,[(0,1),(1,1)]),(187,[(0,1),(1,1),(2,1)]),(193,[(0,1),(1,1),(2,1)]),(199,[(0,1),(1,1),(2,1),(3,1)]),(214,[(0,1),(1,1),(2,1)]),(248,[(0,1),(1,1)]),(259,[(0,1),(1,1)]),(266,[(0,8)]),(283,[(0,1),(1,1)]),(291,[(0,1),(1,1)]),(293,[(0,1),(1,2)]),(296,[(0,1),(1,1),(2,1),(3,1)]),(315,[(0,4)]),(355,[(0,1)])]
def tyX:TyX:={ty:=tyT,al:=[(33,(.agg [.str [],.rsl 2 (map Mat.c []),.rsl 4 (map Leg.c []),.rsl 5 (map Distance.c []),.rsl 2 (map Wave.c []),.rsl 4 (map Offence.c []),.rsl 3 (map Category.c []),.rsl 4 (map Prize.c []),.rsl 8 (map Step.enc []),I 0,I 0,I 0,I 0,I 0,I 0,I 0])),(120,(.agg [I 0,I 0,.rsl 3 (map Part.enc [])])),(100,(.agg [.str [],.rsl 3 (map Part.enc []),I 0,.rsl 3 (map Cutoff.c []),I 0])),(116,(.agg [.str [],I 0])),(112,(.agg [.str [],I 0])),(114,(.agg [.str [],I 0,I 0,.bool false])),(187,(.agg [.str [],I 0,I 0])),(127,(.agg [I 0,I 0])),(118,(.agg [I 0,I 0,I 0,I 0])),(214,(.agg [I 0,I 0,I 0])),(199,(.agg [I 0,I 0,I 0,I 0])),(3,(I 0)),(189,.nilf),(194,.nilf),(31,(.agg [I 0,I 0,I 0,I 0,I 0])),(110,(.agg [I 0,I 0,I 0,I 0,I 0,.rsl 4 (map Cond.enc []),.rsl 8 (map Step.enc []),.rsl 8 (map Step.enc [])])),(108,(.agg [I 0,I 0,I 0,.rsl 4 (map Cond.enc [])])),(266,(.agg [I 0,I 0,I 0,I 0,I 0,.rsl 4 (map Cond.enc []),.rsl 8 (map Step.enc []),.rsl 8 (map Step.enc [])])),(315,(.agg [I 0,I 0,I 0,.rsl 4 (map Cond.enc [])])),(219,.nilm),(125,.nilm),(283,(.agg [.nils,.nilf])),(345,.nilp),(346,.nilp),(347,.nilp),(348,.nilp),(72,(.agg [I 0,I 0,I 0,I 0,I 0,I 0,I 0,I 0,I 0,I 0,I 0,I 0,I 0,I 0,I 0,I 0,I 0,I 0,I 0,I 0,I 0,I 0,I 0,I 0,I 0,I 0,I 0,I 0,I 0,I 0,I 0,I 0,I 0,I 0,I 0,I 0,I 0,I 0,I 0,I 0,I 0,I 0,I 0,I 0,I 0,I 0,I 0,I 0,I 0,I 0,I 0,I 0,I 0,I 0,.bool false,I 0,I 0])),(293,(.agg [.nilp,I 0,I 0])),(296,(.agg [I 0,I 0,.str [],.rsl 4 (map Value.enc [])])),(356,.nilp),(268,.nilm),(62,(.agg [I 0,I 0,I 0,I 0])),(66,(.agg [I 0,I 0,I 0,I 0,I 0,I 0])),(76,(.agg [I 0,I 0,I 0,.bool false])),(84,(.agg [I 0,I 0,I 0,I 0,I 0,.bool false])),(144,(.agg [.nilf])),(37,.nils),(38,.nils),(48,(.agg [I 0,I 0,I 0,I 0,I 0,I 0,I 0,I 0])),(298,.nilf),(160,(.agg [.rsl 1 (map (Qe .i64) []),.nilm])),(193,(.agg [I 0,I 0,I 0])),(50,(.agg [I 0,I 0,I 0,I 0])),(52,(.agg [I 0,I 0,I 0,I 0,I 0])),(54,(.agg [I 0,I 0,I 0,I 0,I 0,I 0,I 0,I 0])),(56,(.agg [I 0,I 0,I 0,I 0])),(58,(.agg [I 0,I 0,I 0,I 0])),(64,(.agg [I 0,I 0,I 0,I 0]))],sl:=[239,217,37,281,34,85,88,92,38]}
def tyZ:TyZ:={sl:=[(97,120,3),(22,116,2),(23,118,4),(24,100,5),(25,112,2),(26,114,4),(27,187,3),(28,199,4),(98,193,3),(239,5,1),(37,3,1),(29,110,8),(106,108,4),(217,263,1),(294,296,4),(220,222,1),(34,72,57),(85,62,4),(38,76,4),(229,9,1)],fn:=[73,201,149,76,74,78,80,82,84,75,77,79,81,83,151,203,150,86,95,157,206,156,91,159,207,158,98,87,85,153,204,152,88,155,205,154,90,89,110,171,109,100,161,208,160,92,163,209,162,103,165,210,164,93,167,211,166,106,94,96,97,41,99,101,102,104,105,108,283,212,168,262,169,263,214,213,107,111,112,43,42,37,38,39,40,248,249,250,251,252,190,134,146,274,277,276,275,279,253,192,67,135,136,137,61,218,215,217,175,222,219,221,60,173,174,113,45,176,114,46,47,49,48,18,19,138,62,27,195,139,140,199,30,66,143,65,64,25,26,28,7,29,11,15,13,9,10,34,35,148,72,147,36,17,180,121,122,123,124,181,125,234,182,126,127,128,129,50,51,52,53,54,185,241,239,238,236,237,243,242,235,240,244,183,184,186,301,302,303,304,272,271,130,247,246,245,188,131,55,56,133,132,57,21,58,59,20,22,23,5,6,8]}
theorem Qqb:kL prog tyF tyX tyZ=kR prog tyF tyX tyZ:=by kernel_rfl
theorem QbJ:Qbn prog tyX:=.ofK Qqb (by kernel_rfl)
theorem Qfa:QcG prog tyZ:=.ofK Qqb (Qq1 (by kernel_rfl))
section
variable {h0 N m n d id t et k f:Nat} {all:Array Oper} {o:Oper} {l r r' ll:List Oper} {ds:List Nat} {env env' env0:Env} {H H' H1 X:Qc} {Q:QR} {α:Type} {e:α->List A} {L:List α} {kk:IntKind} {i:Int} {v:α} {K:List Oper->Env->Qc->Prop} {xs xs':List A} {args argsc:List A} {Hc:Qc} {Hs Hs':List Qc} {bs:List Nat} {cat:Kat} {k':List Kf} {c':Cf} {hB hE:Nat} {x:A}
theorem G0{c:Code}(n:Nat)(h:Qc9 tyX h0 N n (.code c) [] env H=some (c',k',env',H'))(g:Hd prog h0 N c' k' env' H' Q):TC prog h0 N c env H Q:=Qc8 QbJ n h g
theorem Gc{k:List Kf}{c:Code}(n:Nat)(h:Qc9 tyX h0 N n (.code c) k env H=some (c',k',env',H'))(g:Hd prog h0 N c' k' env' H' Q):TC prog h0 N c env H (kq prog h0 N k Q):=Qc8 QbJ n h g
theorem Go{k:List Kf}(n:Nat)(h:Qc9 tyX h0 N n (.ops all l) k env H=some (c',k',env',H'))(g:Hd prog h0 N c' k' env' H' Q):WO prog h0 N all l env H (kq prog h0 N k Q):=Qc8 QbJ n h g
theorem Gx{k:List Kf}{x:AEx}(n:Nat)(h:Qc9 tyX h0 N n (.out x) k env H=some (c',k',env',H'))(g:Hd prog h0 N c' k' env' H' Q):kq prog h0 N k Q x env H:=Qc8 QbJ n h g
theorem Cg{β:Type}{E':β->Env}{Hb:β->Qc}{k:List Kf}{c c2:Code}(b:β)(sel keep:List Nat)(nE:β->Env)(nH:β->List (Nat×Blk))(hc:∀b,QkZ sel keep (nE b) (nH b) env H=some (E' b,Hb b))(h:TC prog h0 N c env H (Qlq h0 b E' Hb (kq prog h0 N (.seq c2::k) Q)))(g:TC prog h0 N c2 (E' b) (Hb b) (kq prog h0 N k Q)):TC prog h0 N c env H (kq prog h0 N (.seq c2::k) Q):=Ct b sel keep nE nH hc h λ_ _ e=>Gx 1 rfl (Qf e g)
theorem CgE{S B:Type}{b:Ctl S B}{E':S->Env}{Hb:S->Qc}{k:List Kf}{c c2:Code}(sel keep:List Nat)(nE:S->Env)(nH:S->List (Nat×Blk))(hc:∀s,QkZ sel keep (nE s) (nH s) env H=some (E' s,Hb s))(h:TC prog h0 N c env H (QdF h0 b E' Hb (kq prog h0 N (.seq c2::k) Q)))(g:∀s,b=.cont s->TC prog h0 N c2 (E' s) (Hb s) (kq prog h0 N k Q)):TC prog h0 N c env H (kq prog h0 N (.seq c2::k) Q):=CtE sel keep nE nH hc h λs _ _ q e=>Gx 1 rfl (Qf e (g s q))
theorem JN{S B S':Type}{b x:Ctl S B}{d:Ctl S' (Ctl S B)}{E':S->Env}{Hb:S->Qc}{s:S}(hb:∀b',d=.done b'->b'=b)(h:some (Ctl.done x)=some d)(e:x=.cont s)(hl:Le h0 env H (E' s) (Hb s)):QdF h0 b E' Hb Q .normal env H:=Yv ((Oj hb h).symm.trans e) hl
theorem cQo{β S':Type}{b x:β}{d:Ctl S' β}{E':β->Env}{Hb:β->Qc}(hb:∀b',d=.done b'->b'=b)(h:some (Ctl.done x)=some d)(hl:Le h0 env H (E' x) (Hb x)):Qlq h0 b E' Hb Q .normal env H:=by
  cases Oj hb h;exact hl
theorem Gl{β:Type}{e b:β}{E':β->Env}{Hb:β->Qc}{k:List Kf}(n:Nat)(hm:Qc9 tyX h0 N n (.ops all l) k env H=some (.out .normal,[],env',H'))(h:some e=some b)(π:List Nat)(hpre:π.take h0=List.range h0:=by exact rfl)(hH:π.map (λp=>H'[p]?)=((Hb e).map (Q5 (rho π H'.length))).map some:=by exact rfl)(hπ:π.Nodup:=by decide)(hE:QbM (rho π H'.length) env' (E' e):=by(repeat' (first|exact trivial|refine⟨rfl,?_⟩))):WO prog h0 N all l env H (kq prog h0 N k (Qlq h0 b E' Hb Q)):=Go n hm (Cl h π hpre hH hπ hE)
theorem Gt{β:Type}{e r:β}{w:β->A}{Hb:β->Qc}{fn:Func}{k:List Kf}(n:Nat)(hm:Qc9 tyX h0 N n (.ops all l) k env H=some (.out .ret,[],env',H'))(h:some e=some r)(a:Nat)(π:List Nat)(hr:fn.results= #[.tmp a]:=by exact rfl)(hpre:π.take h0=List.range h0:=by exact rfl)(hH:π.map (λp=>H'[p]?)=((Hb e).map (Q5 (rho π H'.length))).map some:=by exact rfl)(hπ:π.Nodup:=by decide)(hE:QbM (rho π H'.length) env' [(a,w e)]:=by exact⟨rfl,trivial⟩):WO prog h0 N all l env H (kq prog h0 N k (QaC prog h0 fn (RQ w Hb r))):=Go n hm (Rt h a π hr hpre hH hπ hE)
theorem YC{β:Type}{e b:β}{E':β->Env}{Hb:β->Qc}{k:List Kf}{c:Code}(n:Nat)(hm:Qc9 tyX h0 N n (.code c) k env H=some (.out .normal,[],env',H'))(h:some e=some b)(π:List Nat)(hpre:π.take h0=List.range h0:=by exact rfl)(hH:π.map (λp=>H'[p]?)=((Hb e).map (Q5 (rho π H'.length))).map some:=by exact rfl)(hπ:π.Nodup:=by decide)(hE:QbM (rho π H'.length) env' (E' e):=by(repeat' (first|exact trivial|refine⟨rfl,?_⟩))):TC prog h0 N c env H (kq prog h0 N k (Qlq h0 b E' Hb Q)):=Gc n hm (Cl h π hpre hH hπ hE)
theorem QI{β:Type}{e r:β}{w:β->A}{Hb:β->Qc}{fn:Func}{k:List Kf}{c:Code}(n:Nat)(hm:Qc9 tyX h0 N n (.code c) k env H=some (.out .ret,[],env',H'))(h:some e=some r)(a:Nat)(π:List Nat)(hr:fn.results= #[.tmp a]:=by exact rfl)(hpre:π.take h0=List.range h0:=by exact rfl)(hH:π.map (λp=>H'[p]?)=((Hb e).map (Q5 (rho π H'.length))).map some:=by exact rfl)(hπ:π.Nodup:=by decide)(hE:QbM (rho π H'.length) env' [(a,w e)]:=by exact⟨rfl,trivial⟩):TC prog h0 N c env H (kq prog h0 N k (QaC prog h0 fn (RQ w Hb r))):=Gc n hm (Rt h a π hr hpre hH hπ hE)
theorem Fg{k:List Kf}{e1:Env}(n:Nat)(h:foS env H=some (e1,H1))(hm:Qc9 tyX h0 N n (.ops all l) k e1 H1=some (c',k',env',H'))(g:Hd prog h0 N c' k' env' H' Q):WO prog h0 N all l env H (kq prog h0 N k Q):=FE h (Go n hm g)
@[reducible] def Ks{β:Type}(F:Option β)(f:FuncId)(args:List A)(H:Qc)(w:β->A):Prop:=Kp prog F f args H w λ_=>H
@[reducible] def Kq{β:Type}(F:Option β)(f:FuncId)(args:List A)(H:Qc)(w:β->A)(H1:β->Qc):Prop:=Kp prog F f args H w H1
theorem Kg{β:Type}{F:Option β}{f:FuncId}{fn:Func}{c:Code}{w:β->A}{H1:β->Qc}(n:Nat)(hf:prog.funcs[f]?=some fn)(hb:fn.body=some c)(hN:fn.ntmps=N)(hA:Nat.ble args.length N=true)(h:Qc9 tyX H.length N n (.code c) [] (Qew 0 args) H=some (c',k',env',H'))(g:∀r,F=some r->Hd prog H.length N c' k' env' H' (QaC prog H.length fn (RQ w H1 r))):Kp prog F f args H w H1:=Kp.b hf hb hN hA λr e=>G0 n h (g r e)
theorem D(n:Nat)(h:QiV tyX N m l ds env H n xs.length r xs=some (r',xs'))(k:DS prog N m l ds env H K r' xs'):DS prog N m l ds env H K r xs:=Qfk QbJ n _ rfl h k
theorem Iz(h:idx L i=some v)(q:ixB o env=some (d,t,k,L.map e,kk,i))(g:WO prog h0 N all l (up env d (.rp (e v))) H Q)(ht:QbR tyZ.sl t=some (et,k):=by exact rfl)(hg:Y5 all o env=some true:=by exact rfl)(hN:Nat.blt d N=true:=by exact rfl):WO prog h0 N all (o::l) env H Q:=Izz Qfa h q g ht hg hN
theorem IzE{cs:List A}(h:idx L i=some v)(he:e v=cs)(q:ixB o env=some (d,t,k,L.map e,kk,i))(g:WO prog h0 N all l (up env d (.rp cs)) H Q)(ht:QbR tyZ.sl t=some (et,k):=by exact rfl)(hg:Y5 all o env=some true:=by exact rfl)(hN:Nat.blt d N=true:=by exact rfl):WO prog h0 N all (o::l) env H Q:=Ize Qfa h he q g ht hg hN
theorem Lm{k':Nat}(q:lnB o env=some (d,t,.mk (.rsl k (L.map e))))(g:WO prog h0 N all l (up env d (I L.length)) H Q)(ht:QbR tyZ.sl t=some (et,k'):=by exact rfl)(hg:Y5 all o env=some true:=by exact rfl)(hN:Nat.blt d N=true:=by exact rfl):WO prog h0 N all (o::l) env H Q:=Lmz Qfa q g ht hg hN
theorem Lg{k:List Kf}{i k1:Nat}(n:Nat)(q:lnB o env=some (d,t,.mk (.rsl i (L.map e))))(hm:Qc9 tyX h0 N n (.ops all l) k (up env d (I L.length)) H=some (c',k',env',H'))(g:Hd prog h0 N c' k' env' H' Q)(ht:QbR tyZ.sl t=some (et,k1):=by exact rfl)(hg:Y5 all o env=some true:=by exact rfl)(hN:Nat.blt d N=true:=by exact rfl):WO prog h0 N all (o::l) env H (kq prog h0 N k Q):=Lm q (Go n hm g) ht hg hN
theorem Cz{β γ:Type}{F:Option β}{F':β->Option γ}{r:γ}{w:β->A}(π:List Nat)(h:F.bind F'=some r)(hC:∀v,F=some v->C prog f argsc Hc (RQ w (λ_=>Hc) v))(hop:QgG tyZ o env=some (d,f,args))(g:∀v,F=some v->F' v=some r->WO prog h0 N all l (up env d (w v)) H Q)(hv:∀v,Qmv (w v)=some (.mk (w v)):=by exact λ_=>rfl)(hargs:args=Qai (rho π H.length) argsc:=by exact rfl)(hH:π.map (λp=>H[p]?)=(Hc.map (Q5 (rho π H.length))).map some:=by exact rfl)(hπ:π.Nodup:=by decide)(hg:Y5 all o env=some true:=by exact rfl)(hN:Nat.blt d N=true:=by exact rfl)(hh:Nat.ble h0 H.length=true:=by exact rfl):WO prog h0 N all (o::l) env H Q:=Czz Qfa π h hC hop g hv hargs hH hπ hg hN hh
theorem Cb{β γ:Type}{F:Option β}{F':β->Option γ}{r:γ}{w:β->A}(h:F.bind F'=some r)(hC:∀v,F=some v->C prog f argsc [] (RQ w Ze v))(hop:QgG tyZ o env=some (d,f,args))(hL:Qbp H args argsc)(g:∀v,F=some v->F' v=some r->WO prog h0 N all l (up env d (w v)) H Q)(hv:∀v,Ys (w v)=true:=by exact λ_=>rfl)(hg:Y5 all o env=some true:=by exact rfl)(hN:Nat.blt d N=true:=by exact rfl):WO prog h0 N all (o::l) env H Q:=Cbz Qfa h hC hop hL g hv hg hN
theorem Dz{β γ:Type}{F:Option β}{F':β->Option γ}{r:γ}{w:β->A}(π:List Nat)(h:F.bind F'=some r)(hC:∀v,F=some v->C prog f argsc Hc (RQ w (λ_=>Hc) v))(hop:QgG tyZ o (Ym (Qn o) 0 ds xs env)=some (d,f,args))(g:∀v,F=some v->F' v=some r->DS prog N m ll ds env H K l (xs++[w v]))(hv:∀v,Qmv (w v)=some (.mk (w v)):=by exact λ_=>rfl)(hargs:args=Qai (rho π H.length) argsc:=by exact rfl)(hH:π.map (λp=>H[p]?)=(Hc.map (Q5 (rho π H.length))).map some:=by exact rfl)(hπ:π.Nodup:=by decide)(hg:Y5 ll.toArray o (Ym (Qn o) 0 ds xs env)=some true:=by exact rfl)(hN:Nat.blt d N=true:=by exact rfl)(hx:Nat.blt xs.length m=true:=by exact rfl):DS prog N m ll ds env H K (o::l) xs:=DzZ Qfa π h hC hop g hv hargs hH hπ hg hN hx
theorem DSs(m:Nat)(hc:Go.Sw.draw0 l m N (Qbj m 0 l)=true)(h:DS prog N m l (Qbj m 0 l) env H (λr e H=>WO prog h0 N l.toArray r e H Q) l [])(h0B:Nat.ble h0 H.length=true:=by exact rfl):TC prog h0 N (.region id l.toArray true) env H Q:=Qpm (k:=[]) m draws hc h0B h
theorem Da{cat:List Nat}(n:Nat)(h:QiW tyX N m cat l ds env H n xs.length r xs=some (r',xs'))(k:DA prog N m cat l ds env H K r' xs'):DA prog N m cat l ds env H K r xs:=Qfn QbJ n _ rfl h k
theorem Db{cat:List Nat}(n:Nat)(h:Qfm tyX N cat l ds env H1 n xs.length r xs=some (r',xs'))(k:DB prog N m cat l ds env H H1 K r' xs'):DB prog N m cat l ds env H H1 K r xs:=QbW QbJ n _ rfl h k
theorem Dk(k:Nat)(h:Qfl tyX N m cat l ds env n k xs.length Hs.length Hs X r xs=some (Hs',r',xs'))(g:DK prog N m bs cat l ds env n K Hs' X r' xs'):DK prog N m bs cat l ds env n K Hs X r xs:=QbV QbJ k _ _ rfl rfl h g
theorem DKs(m:Nat)(bs:List Nat)(cat:Kat)(hc:Qex l m N (Qbj m 0 l) (hsK cat) (rqK bs cat) (msK bs) (plK cat)=true)(h:DK prog N m bs cat l (Qbj m 0 l) env H.length (λr e H=>WO prog h0 N l.toArray r e H Q) [] H l [])(hcl:Nat.beq cat.length m=true:=by exact rfl)(h0B:Nat.ble h0 H.length=true:=by exact rfl):TC prog h0 N (.region id l.toArray true) env H Q:=Qpn m bs cat draws hc hcl h0B h
theorem DAs(m b:Nat)(cat:List Nat)(hc:Qex l m N (Qbj m 0 l) (hsC cat) (rqC b cat) [[],[b]] (plC cat)=true)(h:DA prog N m cat l (Qbj m 0 l) env H (λr e H=>WO prog h0 N l.toArray r e H Q) l [])(hcl:Nat.beq cat.length m=true:=by exact rfl)(h0B:Nat.ble h0 H.length=true:=by exact rfl):TC prog h0 N (.region id l.toArray true) env H Q:=Qpp m b cat draws hc hcl h0B h
theorem Cd{β γ:Type}{F:Option β}{F':β->Option γ}{r:γ}{w:β->A}{Hr:β->Qc}(π:List Nat)(h:F.bind F'=some r)(hC:∀v,F=some v->C prog f argsc Hc (RQ w Hr v))(hop:QgG tyZ o env=some (d,f,args))(g:∀v,F=some v->F' v=some r->WO prog h0 N all l (up env d (Y7 (rho π H.length) (w v))) (Yx H π ((Hr v).map (Q5 (rho π H.length)))) Q)(hargs:args=Qai (rho π H.length) argsc:=by exact rfl)(hH:π.map (λp=>H[p]?)=(Hc.map (Q5 (rho π H.length))).map some:=by exact rfl)(hπ:π.Nodup:=by decide)(hg:Y5 all o env=some true:=by exact rfl)(hN:Nat.blt d N=true:=by exact rfl)(hh:Nat.ble h0 H.length=true:=by exact rfl):WO prog h0 N all (o::l) env H Q:=Cdz Qfa π h hC hop g hargs hH hπ hg hN hh
theorem v0{i:Nat}(hx:xs[i]?=some x)(h:Qlx tyT N l ds xs env0 H i=some x):JP prog N l ds xs env0 hB hE i H H:=vQ QbJ.ty hx h
theorem ov{i c:Nat}(k:Oq prog N l ds xs env0 H (i+1) c)(hx:xs[i]?=some x:=by exact rfl)(h:Qlx tyT N l ds xs env0 H i=some x:=by exact rfl):Oq prog N l ds xs env0 H i (c+1):=.c (vQ QbJ.ty hx h) k
end
theorem Gy0{T:Type}{X:Ctx T}{st:YSt T}{h0 N:Nat}{c:Code}{c':Cf}{k':List Kf}{env env':Env}{H H':Qc}{Q:YN T}(n:Nat)(h:Qks tyX h0 N n (.code c) [] env H=some (c',k',env',H'))(g:HdY X prog h0 N c' k' env' H' st Q):TCy X prog h0 N c env H st Q:=Qc7 QbJ n h g
theorem Gyc{T:Type}{X:Ctx T}{st:YSt T}{h0 N:Nat}{k:List Kf}{c:Code}{c':Cf}{k':List Kf}{env env':Env}{H H':Qc}{Q:YN T}(n:Nat)(h:Qks tyX h0 N n (.code c) k env H=some (c',k',env',H'))(g:HdY X prog h0 N c' k' env' H' st Q):TCy X prog h0 N c env H st (kqY X prog h0 N k Q):=Qc7 QbJ n h g
theorem Gyo{T:Type}{X:Ctx T}{st:YSt T}{h0 N:Nat}{k:List Kf}{all:Array Oper}{l:List Oper}{c':Cf}{k':List Kf}{env env':Env}{H H':Qc}{Q:YN T}(n:Nat)(h:Qks tyX h0 N n (.ops all l) k env H=some (c',k',env',H'))(g:HdY X prog h0 N c' k' env' H' st Q):WOy X prog h0 N all l env H st (kqY X prog h0 N k Q):=Qc7 QbJ n h g
theorem Gyx{T:Type}{X:Ctx T}{st:YSt T}{h0 N:Nat}{k:List Kf}{x:AEx}{c':Cf}{k':List Kf}{env env':Env}{H H':Qc}{Q:YN T}(n:Nat)(h:Qks tyX h0 N n (.out x) k env H=some (c',k',env',H'))(g:HdY X prog h0 N c' k' env' H' st Q):kqY X prog h0 N k Q x env H st:=Qc7 QbJ n h g
def lay_contains_202_ren:Go.Shelf.Ren:=⟨λ|144=>202|143=>261|219=>282|217=>306|225=>307|224=>308|267=>309|266=>316|314=>317|n=>n,λ|9=>9|4=>4|3=>3|5=>5|46=>276|146=>358|51=>335|n=>n,λ|1=>11|n=>n⟩
theorem QdV:Go.Proofs.Lays.n144 prog lay_contains_202_ren:=by
  constructor<;>first|kernel_rfl|(intro;kernel_rfl)|exact Qip (by kernel_rfl) (by kernel_rfl)
def lay_sortK_216_ren:Go.Shelf.Ren:=⟨λ|6=>216|15=>179|14=>264|28=>232|29=>233|20=>284|21=>285|22=>286|23=>287|24=>288|25=>289|26=>290|27=>291|46=>310|47=>267|48=>268|49=>311|50=>312|57=>318|n=>n,λ|22=>34|24=>72|25=>156|3=>3|39=>276|0=>0|53=>335|55=>337|4=>4|46=>327|45=>326|50=>332|5=>5|9=>9|66=>369|70=>287|76=>392|77=>173|n=>n,λ|n=>n⟩
theorem QgA:Go.Proofs.SlLaysF0.n6 prog lay_sortK_216_ren:=by
  constructor<;>first|kernel_rfl|(intro;kernel_rfl)|exact Qip (by kernel_rfl) (by kernel_rfl)
def lay_sortK_220_ren:Go.Shelf.Ren:=⟨λ|6=>220|15=>179|14=>265|28=>232|29=>233|20=>292|21=>293|22=>294|23=>295|24=>296|25=>297|26=>298|27=>299|46=>313|47=>267|48=>268|49=>314|50=>315|57=>319|n=>n,λ|22=>220|24=>222|25=>272|3=>3|39=>276|0=>0|53=>335|55=>337|4=>4|46=>327|45=>326|50=>332|5=>5|9=>9|66=>369|70=>287|76=>392|77=>173|n=>n,λ|n=>n⟩
theorem Qgz:Go.Proofs.SlLaysF0.n6 prog lay_sortK_220_ren:=by
  constructor<;>first|kernel_rfl|(intro;kernel_rfl)|exact Qip (by kernel_rfl) (by kernel_rfl)
def lay_sortI_119_ren:Go.Shelf.Ren:=⟨λ|189=>119|125=>179|257=>178|128=>232|129=>233|294=>223|295=>224|296=>225|297=>226|298=>227|299=>228|216=>229|300=>230|301=>231|328=>266|329=>267|330=>268|331=>269|332=>270|215=>146|343=>300|n=>n,λ|28=>37|3=>3|46=>276|0=>0|51=>335|53=>337|4=>4|183=>327|182=>326|131=>332|5=>5|9=>9|218=>369|222=>287|228=>392|229=>173|n=>n,λ|n=>n⟩
theorem QcA:Go.Proofs.Lays.n189 prog lay_sortI_119_ren:=by
  constructor<;>first|kernel_rfl|(intro;kernel_rfl)|exact Qip (by kernel_rfl) (by kernel_rfl)
end Go.Sw
