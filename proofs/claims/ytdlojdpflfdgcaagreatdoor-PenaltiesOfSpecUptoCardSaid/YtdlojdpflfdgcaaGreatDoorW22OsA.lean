/- The types of PenaltiesOfSpec and facts on them. -/
import Derived.Test.YtdlojdpflfdgcaaGreatDoorL3
import Derived.Test.YtdlojdpflfdgcaaGreatDoorProg
set_option linter.unusedVariables false
set_option linter.unusedSimpArgs false
set_option maxRecDepth 100000
set_option maxHeartbeats 4000000
namespace Go.Sw
open List(map)
open Int(toNat)
open Go.IntKind(i64 u64 u8)
open Go.Proofs Tryz
abbrev EB:=@runUnderlying37
abbrev EC:=@runUnderlying34
abbrev ED:=@runUnderlying38
abbrev EE:=@runUnderlying9
abbrev EF:=@sizeOf72
abbrev EG:=@sizeOf3
abbrev EH:=@isAgg3
abbrev EI:=@sizeOf76
abbrev EJ:=@runUnderlying92
abbrev EK:=@runUnderlying239
abbrev EL:=@runUnderlying337
abbrev EM:=@runUnderlying315
abbrev EN:=@runUnderlying3
abbrev EO:=@runUnderlying378
abbrev EP:=@sizeOf48
abbrev EQ:=@zeroValue291
abbrev ES:=@runUnderlying223
abbrev ET:=@runUnderlying85
abbrev EU:=@underlying254
abbrev EV:=@runUnderlying220
abbrev EW:=@runUnderlying229
abbrev EX:=@isAgg76
abbrev EY:=@sizeOf283
abbrev EZ:=@runUnderlying294
abbrev E0:=@runUnderlying225
abbrev E3:=@isAgg283
abbrev E4:=@runUnderlying5
abbrev E5:=@isAgg72
abbrev E6:=@sizeOf62
abbrev E7:=@sizeOf66
abbrev E8:=@runUnderlying364
abbrev E9:=@zeroValue397
abbrev Ga:=@sizeOf34
abbrev Gb:=@sizeOf5
abbrev Gd:=@sizeOf355
abbrev Ge:=@sizeOf4
abbrev Gf:=@runUnderlying217
abbrev Gg:=@runUnderlying281
abbrev Gh:=@zeroValue4
abbrev Gi:=@runUnderlying397
abbrev Gj:=@underlying268
abbrev Gk:=@underlying9
abbrev Gm:=@runUnderlying24
abbrev Gn:=@runUnderlying72
abbrev Gp:=@runUnderlying88
abbrev Gq:=@sizeOf100
abbrev Gr:=@underlying3
abbrev Gs:=@underlying134
abbrev Gu:=@underlying153
abbrev Gv:=@underlying125
abbrev Gw:=@underlying135
abbrev Gy:=@runUnderlying266
abbrev Gz:=@sizeOf296
abbrev GA:=@sizeOf222
abbrev GB:=@isAgg66
abbrev GC:=@zeroValue72
abbrev GD:=@underlying219
abbrev GE:=@zeroValue296
abbrev GF:=@isAgg296
abbrev GG:=@runUnderlying23
abbrev GH:=@runUnderlying48
abbrev GI:=@runUnderlying76
abbrev GJ:=@runUnderlying98
abbrev GK:=@zeroValue62
abbrev GL:=@isAgg62
abbrev GM:=@zeroValue3
abbrev GN:=@underlying132
abbrev GO:=@sizeOf293
abbrev GQ:=@underlying29
abbrev GR:=@sizeOf364
abbrev GS:=@zeroValue315
abbrev GT:=@sizeOf397
abbrev GU:=@sizeOf9
abbrev GV:=@isAgg37
theorem C1:prog.follows .mixedOrders=true:=by rfl
structure Faults where
  Misses:Int
  Strays:Int
  Window:Int
  Residual:Int
  Drift:Int
  deriving DecidableEq
def Faults.c(x:Faults):AA Go.Sw.A:=[I x.Misses,I x.Strays,I x.Window,I x.Residual,I x.Drift]
structure Mat where
  Name:List UInt8
  Kind:Int
  deriving DecidableEq
def Mat.c(x:Mat):AA Go.Sw.A:=[.str x.Name,I x.Kind]
structure BE where
  From:Int
  To:Int
  Min:Int
  Max:Int
  deriving DecidableEq
def BE.c(x:BE):AA Go.Sw.A:=[I x.From,I x.To,I x.Min,I x.Max]
structure AF where
  Mat:Int
  Laps:Int
  Parts:List AF
mutual
def AF.enc:AF->AA A
  |⟨x0,x1,x2⟩=>[I x0,I x1,.rsl 3 (AF.encs x2)]
def AF.encs:AA AF->AA (AA A)
  |[]=>[]
  |x::l=>AF.enc x::AF.encs l
end
theorem tG(l:AA AF):AF.encs l=map AF.enc l:=by induction l with|nil=>simp[AF.encs]|cons x l h=>simp[AF.encs,h]
def AF.c(x:AF):AA Go.Sw.A:=[I x.Mat,I x.Laps,.rsl 3 (map AF.enc x.Parts)]
theorem QP(x:AF):AF.enc x=AF.c x:=by cases x;simp[AF.enc,AF.c,tG]
structure AP where
  Mat:Int
  Lap:Int
  Limit:Int
  deriving DecidableEq
def AP.c(x:AP):AA Go.Sw.A:=[I x.Mat,I x.Lap,I x.Limit]
structure Distance where
  Name:List UInt8
  Route:List AF
  Timing:Int
  Cutoffs:List AP
  Extra:Int
def Distance.c(x:Distance):AA Go.Sw.A:=[.str x.Name,.rsl 3 (map AF.enc x.Route),I x.Timing,.rsl 3 (map AP.c x.Cutoffs),I x.Extra]
structure Wave where
  Name:List UInt8
  Gun:Int
  deriving DecidableEq
def Wave.c(x:Wave):AA Go.Sw.A:=[.str x.Name,I x.Gun]
structure Offence where
  Name:List UInt8
  Time:Int
  Laps:Int
  Out:Bool
  deriving DecidableEq
def Offence.c(x:Offence):AA Go.Sw.A:=[.str x.Name,I x.Time,I x.Laps,.bool x.Out]
structure Category where
  Name:List UInt8
  From:Int
  To:Int
  deriving DecidableEq
def Category.c(x:Category):AA Go.Sw.A:=[.str x.Name,I x.From,I x.To]
structure AW where
  Distance:Int
  Category:Int
  Rank:Int
  Amount:Int
  deriving DecidableEq
def AW.c(x:AW):AA Go.Sw.A:=[I x.Distance,I x.Category,I x.Rank,I x.Amount]
structure Cond where
  Kind:Int
  Var:Int
  N:Int
  Parts:List Cond
mutual
def Cond.enc:Cond->AA A
  |⟨x0,x1,x2,x3⟩=>[I x0,I x1,I x2,.rsl 4 (Cond.encs x3)]
def Cond.encs:AA Cond->AA (AA A)
  |[]=>[]
  |x::l=>Cond.enc x::Cond.encs l
end
theorem tD(l:AA Cond):Cond.encs l=map Cond.enc l:=by induction l with|nil=>simp[Cond.encs]|cons x l h=>simp[Cond.encs,h]
def Cond.c(x:Cond):AA Go.Sw.A:=[I x.Kind,I x.Var,I x.N,.rsl 4 (map Cond.enc x.Parts)]
theorem W3(x:Cond):Cond.enc x=Cond.c x:=by cases x;simp[Cond.enc,Cond.c,tD]
structure Step where
  Kind:Int
  By:Int
  Cond:Cond
  Then:List Step
  Else:List Step
mutual
def Step.enc:Step->AA A
  |⟨x0,x1,x2,x3,x4⟩=>[I x0,I x1,I x2.Kind,I x2.Var,I x2.N,.rsl 4 (map Cond.enc x2.Parts),.rsl 8 (Step.encs x3),.rsl 8 (Step.encs x4)]
def Step.encs:AA Step->AA (AA A)
  |[]=>[]
  |x::l=>Step.enc x::Step.encs l
end
theorem sx(l:AA Step):Step.encs l=map Step.enc l:=by induction l with|nil=>simp[Step.encs]|cons x l h=>simp[Step.encs,h]
def Step.c(x:Step):AA Go.Sw.A:=[I x.Kind,I x.By,I x.Cond.Kind,I x.Cond.Var,I x.Cond.N,.rsl 4 (map Cond.enc x.Cond.Parts),.rsl 8 (map Step.enc x.Then),.rsl 8 (map Step.enc x.Else)]
theorem YX(x:Step):Step.enc x=Step.c x:=by cases x;simp[Step.enc,Step.c,sx]
structure AE where
  Name:List UInt8
  Mats:List Mat
  Legs:List BE
  Distances:List Distance
  Waves:List Wave
  Offences:List Offence
  Categories:List Category
  Prizes:List AW
  Ties:List Step
  Faults:Faults
  Fee:Int
  Deadline:Int
def AE.c(x:AE):AA Go.Sw.A:=[.str x.Name,.rsl 2 (map Mat.c x.Mats),.rsl 4 (map BE.c x.Legs),.rsl 5 (map Distance.c x.Distances),.rsl 2 (map Wave.c x.Waves),.rsl 4 (map Offence.c x.Offences),.rsl 3 (map Category.c x.Categories),.rsl 4 (map AW.c x.Prizes),.rsl 8 (map Step.enc x.Ties),I x.Faults.Misses,I x.Faults.Strays,I x.Faults.Window,I x.Faults.Residual,I x.Faults.Drift,I x.Fee,I x.Deadline]
structure Starter where
  Bib:Int
  Distance:Int
  Wave:Int
  Slot:Int
  Age:Int
  Chip:Int
  Team:Int
  Lot:Int
  deriving DecidableEq
def Starter.c(x:Starter):AA Go.Sw.A:=[I x.Bib,I x.Distance,I x.Wave,I x.Slot,I x.Age,I x.Chip,I x.Team,I x.Lot]
structure Read where
  Mat:Int
  Epoch:Int
  Chip:Int
  Local:Int
  deriving DecidableEq
def Read.c(x:Read):AA Go.Sw.A:=[I x.Mat,I x.Epoch,I x.Chip,I x.Local]
structure Beacon where
  Mat:Int
  Epoch:Int
  Local:Int
  True:Int
  Err:Int
  deriving DecidableEq
def Beacon.c(x:Beacon):AA Go.Sw.A:=[I x.Mat,I x.Epoch,I x.Local,I x.True,I x.Err]
structure Sync where
  MatA:Int
  EpochA:Int
  LocalA:Int
  MatB:Int
  EpochB:Int
  LocalB:Int
  Min:Int
  Max:Int
  deriving DecidableEq
def Sync.c(x:Sync):AA Go.Sw.A:=[I x.MatA,I x.EpochA,I x.LocalA,I x.MatB,I x.EpochB,I x.LocalB,I x.Min,I x.Max]
structure Hand where
  Bib:Int
  Position:Int
  Lo:Int
  Hi:Int
  deriving DecidableEq
def Hand.c(x:Hand):AA Go.Sw.A:=[I x.Bib,I x.Position,I x.Lo,I x.Hi]
structure Silence where
  Mat:Int
  Epoch:Int
  Lo:Int
  Hi:Int
  deriving DecidableEq
def Silence.c(x:Silence):AA Go.Sw.A:=[I x.Mat,I x.Epoch,I x.Lo,I x.Hi]
structure Pair where
  A:Int
  B:Int
  deriving DecidableEq
def Pair.c(x:Pair):AA Go.Sw.A:=[I x.A,I x.B]
structure Report where
  Case:Int
  Bib:Int
  Offence:Int
  Position:Int
  deriving DecidableEq
def Report.c(x:Report):AA Go.Sw.A:=[I x.Case,I x.Bib,I x.Offence,I x.Position]
structure Protest where
  Case:Int
  By:Int
  Fee:Int
  Form:Int
  deriving DecidableEq
def Protest.c(x:Protest):AA Go.Sw.A:=[I x.Case,I x.By,I x.Fee,I x.Form]
structure Ruling where
  Case:Int
  Instance:Int
  Kind:Int
  Bib:Int
  Position:Int
  Amount:Int
  deriving DecidableEq
def Ruling.c(x:Ruling):AA Go.Sw.A:=[I x.Case,I x.Instance,I x.Kind,I x.Bib,I x.Position,I x.Amount]
structure Appeal where
  Case:Int
  Suspends:Bool
  deriving DecidableEq
def Appeal.c(x:Appeal):AA Go.Sw.A:=[I x.Case,.bool x.Suspends]
structure H5 where
  Crew:Int
  No:Int
  deriving DecidableEq
def H5.c(x:H5):AA Go.Sw.A:=[I x.Crew,I x.No]
structure AC where
  Crew:Int
  No:Int
  At:Int
  Kind:Int
  Starter:Starter
  Read:Read
  Beacon:Beacon
  Sync:Sync
  Hand:Hand
  Silence:Silence
  Pair:Pair
  Report:Report
  Protest:Protest
  Ruling:Ruling
  Appeal:Appeal
  Void:H5
  deriving DecidableEq
def AC.c(x:AC):AA Go.Sw.A:=[I x.Crew,I x.No,I x.At,I x.Kind,I x.Starter.Bib,I x.Starter.Distance,I x.Starter.Wave,I x.Starter.Slot,I x.Starter.Age,I x.Starter.Chip,I x.Starter.Team,I x.Starter.Lot,I x.Read.Mat,I x.Read.Epoch,I x.Read.Chip,I x.Read.Local,I x.Beacon.Mat,I x.Beacon.Epoch,I x.Beacon.Local,I x.Beacon.True,I x.Beacon.Err,I x.Sync.MatA,I x.Sync.EpochA,I x.Sync.LocalA,I x.Sync.MatB,I x.Sync.EpochB,I x.Sync.LocalB,I x.Sync.Min,I x.Sync.Max,I x.Hand.Bib,I x.Hand.Position,I x.Hand.Lo,I x.Hand.Hi,I x.Silence.Mat,I x.Silence.Epoch,I x.Silence.Lo,I x.Silence.Hi,I x.Pair.A,I x.Pair.B,I x.Report.Case,I x.Report.Bib,I x.Report.Offence,I x.Report.Position,I x.Protest.Case,I x.Protest.By,I x.Protest.Fee,I x.Protest.Form,I x.Ruling.Case,I x.Ruling.Instance,I x.Ruling.Kind,I x.Ruling.Bib,I x.Ruling.Position,I x.Ruling.Amount,I x.Appeal.Case,.bool x.Appeal.Suspends,I x.Void.Crew,I x.Void.No]
abbrev Um:Cond:={Kind:=0,Var:=0,N:=0,Parts:=[]}
abbrev UA:Step:={Kind:=0,By:=0,Cond:=Um,Then:=[],Else:=[]}
abbrev Us:AF:={Mat:=0,Laps:=0,Parts:=[]}
abbrev Uo:Distance:={Name:=[],Route:=[],Timing:=0,Cutoffs:=[],Extra:=0}
abbrev Uz:Starter:={Bib:=0,Distance:=0,Wave:=0,Slot:=0,Age:=0,Chip:=0,Team:=0,Lot:=0}
abbrev Uv:Read:={Mat:=0,Epoch:=0,Chip:=0,Local:=0}
abbrev Ul:Beacon:={Mat:=0,Epoch:=0,Local:=0,True:=0,Err:=0}
abbrev UB:Sync:={MatA:=0,EpochA:=0,LocalA:=0,MatB:=0,EpochB:=0,LocalB:=0,Min:=0,Max:=0}
abbrev Ur:Hand:={Bib:=0,Position:=0,Lo:=0,Hi:=0}
abbrev Uy:Silence:={Mat:=0,Epoch:=0,Lo:=0,Hi:=0}
abbrev Uw:Report:={Case:=0,Bib:=0,Offence:=0,Position:=0}
abbrev Uu:Protest:={Case:=0,By:=0,Fee:=0,Form:=0}
abbrev Ux:Ruling:={Case:=0,Instance:=0,Kind:=0,Bib:=0,Position:=0,Amount:=0}
abbrev Up:AC:={Crew:=0,No:=0,At:=0,Kind:=0,Starter:=Uz,Read:=Uv,Beacon:=Ul,Sync:=UB,Hand:=Ur,Silence:=Uy,Pair:={A:=0,B:=0:Pair},Report:=Uw,Protest:=Uu,Ruling:=Ux,Appeal:={Case:=0,Suspends:=false:Appeal},Void:={Crew:=0,No:=0:H5}}
structure Uh where
  from_:Int
  to_:Int
  deriving DecidableEq
def Uh.c(x:Uh):AA Go.Sw.A:=[I x.from_,I x.to_]
structure Uj where
  distance:Int
  category:Int
  rank:Int
  deriving DecidableEq
def Uj.c(x:Uj):AA Go.Sw.A:=[I x.distance,I x.category,I x.rank]
structure Uk where
  Step:Step
def Uk.c(x:Uk):AA Go.Sw.A:=[I x.Step.Kind,I x.Step.By,I x.Step.Cond.Kind,I x.Step.Cond.Var,I x.Step.Cond.N,.rsl 4 (map Cond.enc x.Step.Cond.Parts),.rsl 8 (map Step.enc x.Step.Then),.rsl 8 (map Step.enc x.Step.Else)]
structure Uf where
  Cond:Cond
def Uf.c(x:Uf):AA Go.Sw.A:=[I x.Cond.Kind,I x.Cond.Var,I x.Cond.N,.rsl 4 (map Cond.enc x.Cond.Parts)]
inductive Ui where
  |ctyping_step (x:Uk)
  |ctyping_cond (x:Uf)
def Ui.val:Ui->A
  |.ctyping_step x=>.iface 266 (.agg (Uk.c x))
  |.ctyping_cond x=>.iface 315 (.agg (Uf.c x))
def Ui.enc(x:Ui):AA A:=[x.val]
def Ui.elim{R:Type}(e:Ui)(f0:Uk->AB R)(f1:Uf->AB R):AB R:=match e with
  |.ctyping_step x=>f0 x
  |.ctyping_cond x=>f1 x
theorem Ui.data(x:Ui):YR x.val=true:=by cases x<;>rfl
theorem J0(e:Ui):(∃x,e=.ctyping_step x)\/(∃x,e=.ctyping_cond x):=by cases e<;>simp
theorem JM{R:Type}{e:Ui}{x:Uk}{f0:Uk->AB R}{f1:Uf->AB R}{r:R}(hE:e=.ctyping_step x)(h:Ui.elim e f0 f1=some r):f0 x=some r:=by subst hE;exact h
theorem JL{R:Type}{e:Ui}{x:Uf}{f0:Uk->AB R}{f1:Uf->AB R}{r:R}(hE:e=.ctyping_cond x)(h:Ui.elim e f0 f1=some r):f1 x=some r:=by subst hE;exact h
structure Ug where
  steps:Int
  conds:Int
  deriving DecidableEq
def Ug.c(x:Ug):AA Go.Sw.A:=[I x.steps,I x.conds]
structure AD where
  Position:Int
  Time:Int
  Laps:Int
  Out:Bool
  deriving DecidableEq
def AD.c(x:AD):AA Go.Sw.A:=[I x.Position,I x.Time,I x.Laps,.bool x.Out]
structure Ud where
  number:Int
  bib:Int
  penalty:AD
  deriving DecidableEq
def Ud.c(x:Ud):AA Go.Sw.A:=[I x.number,I x.bib,I x.penalty.Position,I x.penalty.Time,I x.penalty.Laps,.bool x.penalty.Out]
structure Ub where
  least:Int
  most:Int
  deriving DecidableEq
def Ub.c(x:Ub):AA Go.Sw.A:=[I x.least,I x.most]
structure Value where
  Kind:Int
  N:Int
  S:List UInt8
  L:List Value
mutual
def Value.enc:Value->AA A
  |⟨x0,x1,x2,x3⟩=>[I x0,I x1,.str x2,.rsl 4 (Value.encs x3)]
def Value.encs:AA Value->AA (AA A)
  |[]=>[]
  |x::l=>Value.enc x::Value.encs l
end
theorem Qhd(l:AA Value):Value.encs l=map Value.enc l:=by induction l with|nil=>simp[Value.encs]|cons x l h=>simp[Value.encs,h]
def Value.c(x:Value):AA Go.Sw.A:=[I x.Kind,I x.N,.str x.S,.rsl 4 (map Value.enc x.L)]
theorem Jb(x:Value):Value.enc x=Value.c x:=by cases x;simp[Value.enc,Value.c,Qhd]
abbrev UC:Value:={Kind:=0,N:=0,S:=[],L:=[]}
abbrev Ue:=BY AC Report
abbrev Ue.K:FK AC Report:={T:=225,tF:=72,kF:=57,tR:=62,kR:=4,eF:=AC.c,eR:=Report.c}
def Ue.c(x:Ue):AA Go.Sw.A:=[I x.number,.rsl 57 (map AC.c x.r0),.rsl 57 (map AC.c x.r1),.rsl 57 (map AC.c x.r2),.rsl 4 (map Report.c x.reports),.bool x.appeal]
def Ue.ptr(x:Ue):AA Go.Sw.A:=[.rp (Ue.c x)]
structure Uc where
  penalty:Nat
  deriving DecidableEq
def Uc.c(x:Uc):AA Go.Sw.A:=[.fn (.func x.penalty) [] []]
abbrev Ut:AD:={Position:=0,Time:=0,Laps:=0,Out:=false}
abbrev Uq:Faults:={Misses:=0,Strays:=0,Window:=0,Residual:=0,Drift:=0}
abbrev Un:AE:={Name:=[],Mats:=[],Legs:=[],Distances:=[],Waves:=[],Offences:=[],Categories:=[],Prizes:=[],Ties:=[],Faults:=Uq,Fee:=0,Deadline:=0}
structure Ua where
  from_:Int
  to_:Int
  deriving DecidableEq
def Ua.c(x:Ua):AA Go.Sw.A:=[I x.from_,I x.to_]
theorem VT:Q2 prog 29 110 8:=⟨runUnderlying29,sizeOf110,⟨_,zeroValue110,rfl⟩,⟨_,typeInfo110,by decide⟩⟩
theorem VV:Q2 prog 25 112 2:=⟨runUnderlying25,sizeOf112,⟨_,zeroValue112,rfl⟩,⟨_,typeInfo112,by decide⟩⟩
theorem VU:Q2 prog 26 114 4:=⟨runUnderlying26,sizeOf114,⟨_,zeroValue114,rfl⟩,⟨_,typeInfo114,by decide⟩⟩
theorem VY:Q2 prog 22 116 2:=⟨runUnderlying22,sizeOf116,⟨_,zeroValue116,rfl⟩,⟨_,typeInfo116,by decide⟩⟩
theorem VX:Q2 prog 23 118 4:=⟨GG,sizeOf118,⟨_,zeroValue118,rfl⟩,⟨_,typeInfo118,by decide⟩⟩
theorem VS:Q2 prog 97 120 3:=⟨runUnderlying97,sizeOf120,⟨_,zeroValue120,rfl⟩,⟨_,typeInfo120,by decide⟩⟩
theorem VW:Q2 prog 24 100 5:=⟨Gm,Gq,⟨_,zeroValue100,rfl⟩,⟨_,typeInfo100,by decide⟩⟩
theorem Jf:Q2 prog 34 72 57:=⟨EC,EF,⟨_,GC,rfl⟩,⟨_,typeInfo72,by decide⟩⟩
theorem YU:Q2 prog 239 5 1:=⟨EK,Gb,⟨_,zeroValue5,rfl⟩,⟨_,typeInfo5,by decide⟩⟩
theorem KM:Jj prog 9 A.str:=Jj.str Gk
theorem Qs:Q2 prog 37 3 1:=⟨EB,EG,⟨_,GM,rfl⟩,⟨_,typeInfo3,by decide⟩⟩
theorem nS:prog.underlying 127=some (.struct (prog.fieldsOf 127)):=by kernel_rfl
theorem uy:prog.stoodInHeld 127=false:=by kernel_rfl
theorem bK:Jj prog 127 (λx=>A.agg (Uh.c x)):=by
  refine Jj.struct nS Zf (λx y h=>?_) (λw em x=>?_) (λw x y=>?_) (λx=>?_)
  · cases x;cases y
    simpa[Q0,Jd,Uh.c]using h
  · simp only[Q0,Jd,Uh.c]
    rw[show(10000:Nat)=9998+1+1 from rfl];generalize(9998:Nat)=d;simp[Instr.checkKey,runUnderlying127,EN,Result.andThen,EG,EH,part]
  · have u3:=Gr
    have a3:=EH;have z3:=EG;simp only[Q0,Jd,Uh.c,Op.equal,Op.maxDepth];rw[show(10000:Nat)=9999+1 from Z,run_equalIn_agg w 9999 127 _ _ nS uy];simp only[Program.fieldsOf,underlying127]
    go_simp
    cases x;cases y;simp
    repeat' split
    all_goals simp_all
  · simp[Q0,Jd,Uh.c,Instr.sameBits]
theorem nT:prog.underlying 214=some (.struct (prog.fieldsOf 214)):=by kernel_rfl
theorem uz:prog.stoodInHeld 214=false:=by kernel_rfl
theorem va:Jj prog 214 (λx=>A.agg (Uj.c x)):=by
  refine Jj.struct nT Zf (λx y h=>?_) (λw em x=>?_) (λw x y=>?_) (λx=>?_)
  · cases x;cases y
    simpa[Q0,Jd,Uj.c]using h
  · simp only[Q0,Jd,Uj.c]
    rw[show(10000:Nat)=9998+1+1 from rfl];generalize(9998:Nat)=d;simp[Instr.checkKey,runUnderlying214,EN,Result.andThen,EG,EH,part]
  · have u3:=Gr
    have a3:=EH;have z3:=EG;simp only[Q0,Jd,Uj.c,Op.equal,Op.maxDepth];rw[show(10000:Nat)=9999+1 from Z,run_equalIn_agg w 9999 214 _ _ nT uz];simp only[Program.fieldsOf,underlying214]
    go_simp
    cases x;cases y;simp
    repeat' split
    all_goals simp_all
  · simp[Q0,Jd,Uj.c,Instr.sameBits]
theorem O2:Q2 prog 217 263 1:=⟨Gf,sizeOf263,⟨_,zeroValue263,rfl⟩,⟨_,typeInfo263,by decide⟩⟩
theorem Ja:Jj prog 3 (λx=>A.int .i64 x):=Jj.int Gr
theorem pE:QK prog 72 14 53 2:=FA Gn rfl sizeOf68
theorem v8:QK prog 68 1 1 1:=FA runUnderlying68 rfl Ge
theorem oX:QK prog 72 3 3 1:=FA Gn rfl EG
theorem v9:QK prog 72 4 4 8:=FA Gn rfl EP
theorem oT:QK prog 48 0 0 1:=FA GH rfl EG
theorem oU:QK prog 48 1 1 1:=FA GH rfl EG
theorem oV:QK prog 48 5 5 1:=FA GH rfl EG
theorem JO:Q2 prog 281 293 3:=⟨Gg,GO,⟨_,zeroValue293,rfl⟩,⟨_,typeInfo293,by decide⟩⟩
theorem pD:QK prog 72 11 39 4:=FA Gn rfl E6
theorem j5:QK prog 62 0 0 1:=FA runUnderlying62 rfl EG
theorem Nl:QK prog 72 13 47 6:=FA Gn rfl E7
theorem oW:QK prog 66 0 0 1:=FA runUnderlying66 rfl EG
theorem So:QK prog 66 1 1 1:=FA runUnderlying66 rfl EG
theorem v7:QK prog 68 0 0 1:=FA runUnderlying68 rfl EG
inductive AI where
  |c0 (x:Unit)
  |c1 (x:Unit)
  |c2 (x:Unit)
  |c3 (x:Unit)
  |c4 (x:Unit)
  |c5 (x:Unit)
  |c6 (x:Unit)
  |c7 (x:Unit)
  |c8 (x:Unit)
  |c9 (x:Int×Int×Int×Int×Int×Int)
  |c10 (x:Unit)
  |c11 (x:Unit)
  |c12 (x:Unit)
  |c13 (x:Unit)
theorem wC:QK prog 293 0 0 1:=FA runUnderlying293 rfl sizeOf287
def AC.put(x:AC)(o:Nat)(v:Int):AB AC:=match o with
  |0=>some {x with Crew:=v}
  |1=>some {x with No:=v}
  |2=>some {x with At:=v}
  |3=>some {x with Kind:=v}
  |4=>some {x with Starter:={x.Starter with Bib:=v}}
  |5=>some {x with Starter:={x.Starter with Distance:=v}}
  |6=>some {x with Starter:={x.Starter with Wave:=v}}
  |7=>some {x with Starter:={x.Starter with Slot:=v}}
  |8=>some {x with Starter:={x.Starter with Age:=v}}
  |9=>some {x with Starter:={x.Starter with Chip:=v}}
  |10=>some {x with Starter:={x.Starter with Team:=v}}
  |11=>some {x with Starter:={x.Starter with Lot:=v}}
  |12=>some {x with Read:={x.Read with Mat:=v}}
  |13=>some {x with Read:={x.Read with Epoch:=v}}
  |14=>some {x with Read:={x.Read with Chip:=v}}
  |15=>some {x with Read:={x.Read with Local:=v}}
  |16=>some {x with Beacon:={x.Beacon with Mat:=v}}
  |17=>some {x with Beacon:={x.Beacon with Epoch:=v}}
  |18=>some {x with Beacon:={x.Beacon with Local:=v}}
  |19=>some {x with Beacon:={x.Beacon with True:=v}}
  |20=>some {x with Beacon:={x.Beacon with Err:=v}}
  |21=>some {x with Sync:={x.Sync with MatA:=v}}
  |22=>some {x with Sync:={x.Sync with EpochA:=v}}
  |23=>some {x with Sync:={x.Sync with LocalA:=v}}
  |24=>some {x with Sync:={x.Sync with MatB:=v}}
  |25=>some {x with Sync:={x.Sync with EpochB:=v}}
  |26=>some {x with Sync:={x.Sync with LocalB:=v}}
  |27=>some {x with Sync:={x.Sync with Min:=v}}
  |28=>some {x with Sync:={x.Sync with Max:=v}}
  |29=>some {x with Hand:={x.Hand with Bib:=v}}
  |30=>some {x with Hand:={x.Hand with Position:=v}}
  |31=>some {x with Hand:={x.Hand with Lo:=v}}
  |32=>some {x with Hand:={x.Hand with Hi:=v}}
  |33=>some {x with Silence:={x.Silence with Mat:=v}}
  |34=>some {x with Silence:={x.Silence with Epoch:=v}}
  |35=>some {x with Silence:={x.Silence with Lo:=v}}
  |36=>some {x with Silence:={x.Silence with Hi:=v}}
  |37=>some {x with Pair:={x.Pair with A:=v}}
  |38=>some {x with Pair:={x.Pair with B:=v}}
  |39=>some {x with Report:={x.Report with Case:=v}}
  |40=>some {x with Report:={x.Report with Bib:=v}}
  |41=>some {x with Report:={x.Report with Offence:=v}}
  |42=>some {x with Report:={x.Report with Position:=v}}
  |43=>some {x with Protest:={x.Protest with Case:=v}}
  |44=>some {x with Protest:={x.Protest with By:=v}}
  |45=>some {x with Protest:={x.Protest with Fee:=v}}
  |46=>some {x with Protest:={x.Protest with Form:=v}}
  |47=>some {x with Ruling:={x.Ruling with Case:=v}}
  |48=>some {x with Ruling:={x.Ruling with Instance:=v}}
  |49=>some {x with Ruling:={x.Ruling with Kind:=v}}
  |50=>some {x with Ruling:={x.Ruling with Bib:=v}}
  |51=>some {x with Ruling:={x.Ruling with Position:=v}}
  |52=>some {x with Ruling:={x.Ruling with Amount:=v}}
  |53=>some {x with Appeal:={x.Appeal with Case:=v}}
  |55=>some {x with Void:={x.Void with Crew:=v}}
  |56=>some {x with Void:={x.Void with No:=v}}
  |_=>none
theorem ua:∀(x:AC) (o:Nat) (v:Int) (y:AC),AC.put x o v=some y->AC.c y=(AC.c x).set o (I v)/\o<(AC.c x).length:=by
  intro x o v y h;unfold AC.put at h;split at h<;>first|(cases h;exact⟨Z,XP Z⟩)|cases h
theorem Ti:prog.stoodInHeld 72=false:=by kernel_rfl
theorem Tj:prog.stoodInHeld 70=false:=by kernel_rfl
theorem Yj(h:Nat):Fi prog 3 (h+1) 1 false (λl=>∃x:Int,l=[Value.int .i64 x]):=Fi.int Gr EH EG h
theorem Tk:prog.stoodInHeld 68=false:=by kernel_rfl
theorem VZ(h:Nat):Fi prog 4 (h+1) 1 false (λl=>∃x:Bool,l=[Value.bool x]):=Fi.bool underlying4 isAgg4 Ge h
theorem Tl:prog.stoodInHeld 66=false:=by kernel_rfl
theorem Tm:prog.stoodInHeld 64=false:=by kernel_rfl
theorem Tn:prog.stoodInHeld 62=false:=by kernel_rfl
theorem Tp:prog.stoodInHeld 60=false:=by kernel_rfl
theorem Tq:prog.stoodInHeld 58=false:=by kernel_rfl
theorem Tr:prog.stoodInHeld 56=false:=by kernel_rfl
theorem Ts:prog.stoodInHeld 54=false:=by kernel_rfl
theorem Tt:prog.stoodInHeld 52=false:=by kernel_rfl
theorem Tu:prog.stoodInHeld 50=false:=by kernel_rfl
theorem Tv:prog.stoodInHeld 48=false:=by kernel_rfl
theorem jf:Zv prog 72 AC.c:=by
  refine nz (Q1 underlying72 Ti E5 EF (Ao.c Yj (Ao.c Yj (Ao.c Yj (Ao.c Yj (Ao.cons Z (by decide) (Q1 underlying48 Tv isAgg48 EP (Ao.c Yj (Ao.c Yj (Ao.c Yj (Ao.c Yj (Ao.c Yj (Ao.c Yj (Ao.c Yj (Ao.c Yj (Ao.nil 1 _)))))))))) (λe=>Bool.noConfusion e) (Ao.cons Z (by decide) (Q1 underlying50 Tu isAgg50 sizeOf50 (Ao.c Yj (Ao.c Yj (Ao.c Yj (Ao.c Yj (Ao.nil 1 _)))))) (λe=>Bool.noConfusion e) (Ao.cons Z (by decide) (Q1 underlying52 Tt isAgg52 sizeOf52 (Ao.c Yj (Ao.c Yj (Ao.c Yj (Ao.c Yj (Ao.c Yj (Ao.nil 1 _))))))) (λe=>Bool.noConfusion e) (Ao.cons Z (by decide) (Q1 underlying54 Ts isAgg54 sizeOf54 (Ao.c Yj (Ao.c Yj (Ao.c Yj (Ao.c Yj (Ao.c Yj (Ao.c Yj (Ao.c Yj (Ao.c Yj (Ao.nil 1 _)))))))))) (λe=>Bool.noConfusion e) (Ao.cons Z (by decide) (Q1 underlying56 Tr isAgg56 sizeOf56 (Ao.c Yj (Ao.c Yj (Ao.c Yj (Ao.c Yj (Ao.nil 1 _)))))) (λe=>Bool.noConfusion e) (Ao.cons Z (by decide) (Q1 underlying58 Tq isAgg58 sizeOf58 (Ao.c Yj (Ao.c Yj (Ao.c Yj (Ao.c Yj (Ao.nil 1 _)))))) (λe=>Bool.noConfusion e) (Ao.cons Z (by decide) (Q1 underlying60 Tp isAgg60 sizeOf60 (Ao.c Yj (Ao.c Yj (Ao.nil 1 _)))) (λe=>Bool.noConfusion e) (Ao.cons Z (by decide) (Q1 underlying62 Tn GL E6 (Ao.c Yj (Ao.c Yj (Ao.c Yj (Ao.c Yj (Ao.nil 1 _)))))) (λe=>Bool.noConfusion e) (Ao.cons Z (by decide) (Q1 underlying64 Tm isAgg64 sizeOf64 (Ao.c Yj (Ao.c Yj (Ao.c Yj (Ao.c Yj (Ao.nil 1 _)))))) (λe=>Bool.noConfusion e) (Ao.cons Z (by decide) (Q1 underlying66 Tl GB E7 (Ao.c Yj (Ao.c Yj (Ao.c Yj (Ao.c Yj (Ao.c Yj (Ao.c Yj (Ao.nil 1 _)))))))) (λe=>Bool.noConfusion e) (Ao.cons Z (by decide) (Q1 underlying68 Tk isAgg68 sizeOf68 (Ao.c Yj (Ao.c VZ (Ao.nil 1 _)))) (λe=>Bool.noConfusion e) (Ao.cons Z (by decide) (Q1 underlying70 Tj isAgg70 sizeOf70 (Ao.c Yj (Ao.c Yj (Ao.nil 1 _)))) (λe=>Bool.noConfusion e) (Ao.nil 2 _)))))))))))))))))) Z (λx=>⟨[_],_,Z,⟨_,Z⟩,[_],_,Z,⟨_,Z⟩,[_],_,Z,⟨_,Z⟩,[_],_,Z,⟨_,Z⟩,[_,_,_,_,_,_,_,_],_,Z,⟨[_],_,Z,⟨_,Z⟩,[_],_,Z,⟨_,Z⟩,[_],_,Z,⟨_,Z⟩,[_],_,Z,⟨_,Z⟩,[_],_,Z,⟨_,Z⟩,[_],_,Z,⟨_,Z⟩,[_],_,Z,⟨_,Z⟩,[_],_,Z,⟨_,Z⟩,Z⟩,[_,_,_,_],_,Z,⟨[_],_,Z,⟨_,Z⟩,[_],_,Z,⟨_,Z⟩,[_],_,Z,⟨_,Z⟩,[_],_,Z,⟨_,Z⟩,Z⟩,[_,_,_,_,_],_,Z,⟨[_],_,Z,⟨_,Z⟩,[_],_,Z,⟨_,Z⟩,[_],_,Z,⟨_,Z⟩,[_],_,Z,⟨_,Z⟩,[_],_,Z,⟨_,Z⟩,Z⟩,[_,_,_,_,_,_,_,_],_,Z,⟨[_],_,Z,⟨_,Z⟩,[_],_,Z,⟨_,Z⟩,[_],_,Z,⟨_,Z⟩,[_],_,Z,⟨_,Z⟩,[_],_,Z,⟨_,Z⟩,[_],_,Z,⟨_,Z⟩,[_],_,Z,⟨_,Z⟩,[_],_,Z,⟨_,Z⟩,Z⟩,[_,_,_,_],_,Z,⟨[_],_,Z,⟨_,Z⟩,[_],_,Z,⟨_,Z⟩,[_],_,Z,⟨_,Z⟩,[_],_,Z,⟨_,Z⟩,Z⟩,[_,_,_,_],_,Z,⟨[_],_,Z,⟨_,Z⟩,[_],_,Z,⟨_,Z⟩,[_],_,Z,⟨_,Z⟩,[_],_,Z,⟨_,Z⟩,Z⟩,[_,_],_,Z,⟨[_],_,Z,⟨_,Z⟩,[_],_,Z,⟨_,Z⟩,Z⟩,[_,_,_,_],_,Z,⟨[_],_,Z,⟨_,Z⟩,[_],_,Z,⟨_,Z⟩,[_],_,Z,⟨_,Z⟩,[_],_,Z,⟨_,Z⟩,Z⟩,[_,_,_,_],_,Z,⟨[_],_,Z,⟨_,Z⟩,[_],_,Z,⟨_,Z⟩,[_],_,Z,⟨_,Z⟩,[_],_,Z,⟨_,Z⟩,Z⟩,[_,_,_,_,_,_],_,Z,⟨[_],_,Z,⟨_,Z⟩,[_],_,Z,⟨_,Z⟩,[_],_,Z,⟨_,Z⟩,[_],_,Z,⟨_,Z⟩,[_],_,Z,⟨_,Z⟩,[_],_,Z,⟨_,Z⟩,Z⟩,[_,_],_,Z,⟨[_],_,Z,⟨_,Z⟩,[_],_,Z,⟨_,Z⟩,Z⟩,[_,_],_,Z,⟨[_],_,Z,⟨_,Z⟩,[_],_,Z,⟨_,Z⟩,Z⟩,Z⟩) Zf (λx y h=>?_) (by kernel_rfl);obtain⟨_,_,_,_,⟨_,_,_,_,_,_,_,_⟩,⟨_,_,_,_⟩,⟨_,_,_,_,_⟩,⟨_,_,_,_,_,_,_,_⟩,⟨_,_,_,_⟩,⟨_,_,_,_⟩,⟨_,_⟩,⟨_,_,_,_⟩,⟨_,_,_,_⟩,⟨_,_,_,_,_,_⟩,⟨_,_⟩,⟨_,_⟩⟩:=x;obtain⟨_,_,_,_,⟨_,_,_,_,_,_,_,_⟩,⟨_,_,_,_⟩,⟨_,_,_,_,_⟩,⟨_,_,_,_,_,_,_,_⟩,⟨_,_,_,_⟩,⟨_,_,_,_⟩,⟨_,_⟩,⟨_,_,_,_⟩,⟨_,_,_,_⟩,⟨_,_,_,_,_,_⟩,⟨_,_⟩,⟨_,_⟩⟩:=y;simpa[Q0,Jd,AC.c,Starter.c,Read.c,Beacon.c,Sync.c,Hand.c,Silence.c,Pair.c,Report.c,Protest.c,Ruling.c,Appeal.c,H5.c,and_assoc]using h
theorem nq:Sf prog 296 [(0,1),(1,1),(2,1),(3,1)]:=⟨_,runUnderlying296,(Ef EG (Ef EG (Ef GU (Ef sizeOf294 PL.nil))))⟩
theorem aX:Q2 prog 294 296 4:=⟨EZ,Gz,⟨_,GE,rfl⟩,⟨_,typeInfo296,by decide⟩⟩
theorem pC:QK prog 296 2 2 1:=FA runUnderlying296 rfl GU
theorem aW:Q2 prog 220 222 1:=⟨EV,GA,⟨_,zeroValue222,rfl⟩,⟨_,typeInfo222,by decide⟩⟩
theorem pA:QK prog 225 0 0 1:=FA E0 rfl EG
theorem uY:Sf prog 225 [(0,1),(1,3),(4,1),(5,1)]:=⟨_,E0,(Ef EG (Ef sizeOf223 (Ef sizeOf85 (Ef Ge PL.nil))))⟩
theorem pB:QK prog 225 2 4 1:=FA E0 rfl sizeOf85
theorem WE:Q2 prog 85 62 4:=⟨ET,E6,⟨_,GK,rfl⟩,⟨_,typeInfo62,by decide⟩⟩
theorem wB:QK prog 225 3 5 1:=FA E0 rfl Ge
theorem J3:QK prog 225 1 1 3:=FA E0 rfl sizeOf223
theorem WG:Q2 prog 88 66 6:=⟨Gp,E7,⟨_,zeroValue66,rfl⟩,⟨_,typeInfo66,by decide⟩⟩
theorem zp(m:AA (Int×Bool))(hl:Nat.ble (map Prod.fst m).length QE=true):C prog 118 [.fn (.func 120) [] [.ptr 0 0]] [.cells 134 [.map 1],.fmap (Qt (λx=>A.int .i64 x) A.bool m)] (λr H=>∃p:AA Int,p.Perm (map Prod.fst m)/\r=.osl 2 0 p.length 1/\H=[.dead,.fmap (Qt (λx=>A.int .i64 x) A.bool m),.row 3 1 (map (Qc .i64) p)]):=
  qQ func118 Z Z Z (λenv H h=>Bh.fn (xs:=[.const (.slice none 0 0),.tmp 3]) call177 Z Z (by show[_,lk env 3]=_;rw[h];rfl)) (qP func177 Z Z Z Qs GV sizeOf37 call120 (rt func120 Z Z Z isAgg134 Gs Zf) hl Zf Zf Zf Zf Zf)
theorem Fl:Q2 prog 38 76 4:=⟨ED,EI,⟨_,zeroValue76,rfl⟩,⟨_,typeInfo76,by decide⟩⟩
theorem zq(m:AA (Int×AC))(hl:Nat.ble (map Prod.fst m).length QE=true):C prog 118 [.fn (.func 194) [] [.ptr 0 0]] [.cells 153 [.map 1],.fmap (Qt (λx=>A.int .i64 x) (λx=>A.agg (AC.c x)) m)] (λr H=>∃p:AA Int,p.Perm (map Prod.fst m)/\r=.osl 2 0 p.length 1/\H=[.dead,.fmap (Qt (λx=>A.int .i64 x) (λx=>A.agg (AC.c x)) m),.row 3 1 (map (Qc .i64) p)]):=
  qQ func118 Z Z Z (λenv H h=>Bh.fn (xs:=[.const (.slice none 0 0),.tmp 3]) call177 Z Z (by show[_,lk env 3]=_;rw[h];rfl)) (qP func177 Z Z Z Qs GV sizeOf37 call194 (rt func194 Z Z Z isAgg153 Gu Zf) hl Zf Zf Zf Zf Zf)
theorem Ni:Q2 prog 92 48 8:=⟨EJ,EP,⟨_,zeroValue48,rfl⟩,⟨_,typeInfo48,by decide⟩⟩
theorem nU:prog.underlying 248=some (.struct (prog.fieldsOf 248)):=by kernel_rfl
theorem uW:prog.stoodInHeld 248=false:=by kernel_rfl
theorem vb:Jj prog 248 (λx=>A.agg (Ua.c x)):=by
  refine Jj.struct nU Zf (λx y h=>?_) (λw em x=>?_) (λw x y=>?_) (λx=>?_)
  · cases x;cases y
    simpa[Q0,Jd,Ua.c]using h
  · simp only[Q0,Jd,Ua.c]
    rw[show(10000:Nat)=9998+1+1 from rfl];generalize(9998:Nat)=d;simp[Instr.checkKey,runUnderlying248,EN,Result.andThen,EG,EH,part]
  · have u3:=Gr
    have a3:=EH;have z3:=EG;simp only[Q0,Jd,Ua.c,Op.equal,Op.maxDepth];rw[show(10000:Nat)=9999+1 from Z,run_equalIn_agg w 9999 248 _ _ nU uW];simp only[Program.fieldsOf,underlying248]
    go_simp
    cases x;cases y;simp
    repeat' split
    all_goals simp_all
  · simp[Q0,Jd,Ua.c,Instr.sameBits]
inductive AY where
  |c0 (x:Int)
  |c1 (x:List Int)
  |c2 (x:(List Int)×(List (Ua×BE)))
theorem v_:QK prog 76 0 0 1:=FA GI rfl EG
theorem Sp:QK prog 76 2 2 1:=FA GI rfl EG
theorem vM:QK prog 76 3 3 1:=FA GI rfl Ge
theorem Th:prog.stoodInHeld 76=false:=by kernel_rfl
theorem t2:Zv prog 76 AD.c:=by
  refine nz (Q1 underlying76 Th EX EI (Ao.c Yj (Ao.c Yj (Ao.c Yj (Ao.c VZ (Ao.nil 1 _)))))) Z (λx=>⟨[_],_,Z,⟨_,Z⟩,[_],_,Z,⟨_,Z⟩,[_],_,Z,⟨_,Z⟩,[_],_,Z,⟨_,Z⟩,Z⟩) Zf (λx y h=>?_) (by kernel_rfl);obtain⟨_,_,_,_⟩:=x;obtain⟨_,_,_,_⟩:=y;simpa[Q0,Jd,AD.c,and_assoc]using h
theorem JP:Q2 prog 229 9 1:=⟨EW,GU,⟨_,zeroValue9,rfl⟩,⟨_,typeInfo9,by decide⟩⟩
theorem QL{n:Nat}:RB prog n 3 Int (λx=>[A.int .i64 x]) (Qp .i64):=RB.int Gr
def dM:OY:={fld:=[(120,2,2),(33,1,1),(33,2,2),(33,3,3),(33,4,4),(33,5,5),(33,6,6),(33,7,7),(100,1,1),(100,3,3),(116,0,0),(100,0,0),(112,0,0),(114,0,0),(187,0,0),(33,0,0),(116,1,1),(118,0,0),(118,1,1),(118,2,2),(118,3,3),(120,1,1),(120,0,0),(193,0,0),(193,1,1),(193,2,2),(100,2,2),(100,4,4),(112,1,1),(114,3,3),(114,1,1),(114,2,2),(187,1,1),(187,2,2),(199,0,0),(199,1,1),(199,2,2),(199,3,3),(33,9,9),(31,0,0),(31,1,1),(31,2,2),(31,3,3),(31,4,4),(33,10,14),(33,11,15),(315,0,0),(108,0,0),(108,1,1),(108,2,2),(108,3,3),(266,0,0),(110,3,6),(110,4,7),(259,0,0),(110,2,2),(259,1,1),(110,0,0),(110,1,1),(33,8,8),(72,3,3),(72,4,4),(48,0,0),(48,1,1),(48,2,2),(48,3,3),(48,4,4),(48,5,5),(48,6,6),(48,7,7),(72,5,12),(50,0,0),(50,1,1),(50,2,2),(50,3,3),(72,6,16),(52,0,0),(52,1,1),(52,2,2),(52,3,3),(52,4,4),(72,7,21),(54,0,0),(54,1,1),(54,2,2),(54,3,3),(54,4,4),(54,5,5),(54,6,6),(54,7,7),(72,8,29),(56,0,0),(56,1,1),(56,2,2),(56,3,3),(72,9,33),(58,0,0),(58,1,1),(58,2,2),(58,3,3),(72,10,37),(60,0,0),(60,1,1),(72,11,39),(62,0,0),(62,1,1),(62,2,2),(62,3,3),(72,12,43),(64,0,0),(64,1,1),(64,2,2),(64,3,3),(72,13,47),(66,2,2),(66,0,0),(66,1,1),(66,3,3),(66,4,4),(66,5,5),(72,14,53),(68,0,0),(72,15,55),(70,0,0),(70,1,1),(72,0,0),(72,1,1),(72,2,2),(283,0,0),(68,1,1),(283,1,1),(293,0,0),(293,1,1),(291,0,0),(291,1,1),(296,2,2),(296,3,3),(296,1,1),(296,0,0),(355,0,0),(84,1,1),(84,2,2),(144,0,0),(84,0,0),(160,0,0),(160,1,1),(76,0,0),(76,2,2),(76,1,1)],agg:=[(33,true,16),(120,true,3),(97,false,1),(22,false,1),(23,false,1),(24,false,1),(25,false,1),(26,false,1),(27,false,1),(28,false,1),(100,true,5),(98,false,1),(5,false,1),(9,false,1),(116,true,2),(112,true,2),(114,true,4),(187,true,3),(3,false,1),(202,false,1),(196,false,1),(118,true,4),(127,true,2),(189,false,1),(194,false,1),(193,true,3),(130,false,1),(207,false,1),(4,false,1),(197,false,1),(210,false,1),(200,false,1),(199,true,4),(214,true,3),(31,true,5),(110,true,8),(106,false,1),(29,false,1),(108,true,4),(266,true,8),(315,true,4),(263,false,1),(219,false,1),(125,false,1),(34,false,1),(291,true,2),(283,true,2),(345,false,1),(346,false,1),(347,false,1),(348,false,1),(72,true,57),(35,false,1),(293,true,3),(287,false,1),(294,false,1),(296,true,4),(356,false,1),(353,false,1),(156,false,1),(272,false,1),(222,false,1),(268,false,1),(85,false,1),(62,true,4),(66,true,6),(84,true,6),(76,true,4),(144,true,1),(142,false,1),(37,false,1),(38,false,1),(48,true,8),(298,false,1),(160,true,2),(158,false,1),(104,false,1),(54,true,8),(50,true,4),(52,true,5),(56,true,4),(58,true,4),(60,true,2),(64,true,4),(68,true,2),(70,true,2)],zer:=[(110,[I 0,I 0,I 0,I 0,I 0,.rsl 4 (map Cond.enc []),.rsl 8 (map Step.enc []),.rsl 8 (map Step.enc [])],[(0,1),(1,1),(2,4),(6,1),(7,1)]),(112,[.str [],I 0],[(0,1),(1,1)]),(114,[.str [],I 0,I 0,.bool false],[(0,1),(1,1),(2,1),(3,1)]),(116,[.str [],I 0],[(0,1),(1,1)]),(118,[I 0,I 0,I 0,I 0],[(0,1),(1,1),(2,1),(3,1)]),(120,[I 0,I 0,.rsl 3 (map AF.enc [])],[(0,1),(1,1),(2,1)]),(100,[.str [],.rsl 3 (map AF.enc []),I 0,.rsl 3 (map AP.c []),I 0],[(0,1),(1,1),(2,1),(3,1),(4,1)]),(33,[.str [],.rsl 2 (map Mat.c []),.rsl 4 (map BE.c []),.rsl 5 (map Distance.c []),.rsl 2 (map Wave.c []),.rsl 4 (map Offence.c []),.rsl 3 (map Category.c []),.rsl 4 (map AW.c []),.rsl 8 (map Step.enc []),I 0,I 0,I 0,I 0,I 0,I 0,I 0],[(0,1),(1,1),(2,1),(3,1),(4,1),(5,1),(6,1),(7,1),(8,1),(9,5),(14,1),(15,1)]),(127,[I 0,I 0],[(0,1),(1,1)]),(214,[I 0,I 0,I 0],[(0,1),(1,1),(2,1)]),(266,[I 0,I 0,I 0,I 0,I 0,.rsl 4 (map Cond.enc []),.rsl 8 (map Step.enc []),.rsl 8 (map Step.enc [])],[(0,8)]),(315,[I 0,I 0,I 0,.rsl 4 (map Cond.enc [])],[(0,4)]),(259,[I 0,I 0],[(0,1),(1,1)]),(293,[.nilp,I 0,I 0],[(0,1),(1,2)]),(291,[I 0,I 0],[(0,1),(1,1)]),(283,[.nils,.nilf],[(0,1),(1,1)]),(296,[I 0,I 0,.str [],.rsl 4 (map Value.enc [])],[(0,1),(1,1),(2,1),(3,1)]),(66,[I 0,I 0,I 0,I 0,I 0,I 0],[(0,1),(1,1),(2,1),(3,1),(4,1),(5,1)]),(144,[.nilf],[(0,1)]),(76,[I 0,I 0,I 0,.bool false],[(0,1),(1,1),(2,1),(3,1)]),(84,[I 0,I 0,I 0,I 0,I 0,.bool false],[(0,1),(1,1),(2,4)]),(248,[I 0,I 0],[(0,1),(1,1)]),(48,[I 0,I 0,I 0,I 0,I 0,I 0,I 0,I 0],[(0,1),(1,1),(2,1),(3,1),(4,1),(5,1),(6,1),(7,1)]),(72,[I 0,I 0,I 0,I 0,I 0,I 0,I 0,I 0,I 0,I 0,I 0,I 0,I 0,I 0,I 0,I 0,I 0,I 0,I 0,I 0,I 0,I 0,I 0,I 0,I 0,I 0,I 0,I 0,I 0,I 0,I 0,I 0,I 0,I 0,I 0,I 0,I 0,I 0,I 0,I 0,I 0,I 0,I 0,I 0,I 0,I 0,I 0,I 0,I 0,I 0,I 0,I 0,I 0,I 0,.bool false,I 0,I 0],[(0,1),(1,1),(2,1),(3,1),(4,8),(12,4),(16,5),(21,8),(29,4),(33,4),(37,2),(39,4),(43,4),(47,6),(53,2),(55,2)]),(62,[I 0,I 0,I 0,I 0],[(0,1),(1,1),(2,1),(3,1)])]}
def mh:AA (Nat×AA (Nat×Nat)):=[(31,[(0,1),(1,1),(2,1),(3,1),(4,1)]),(33,[(0,1),(1,1),(2,1),(3,1),(4,1),(5,1),(6,1),(7,1),(8,1),(9,5),(14,1),(15,1)]),(48,[(0,1),(1,1),(2,1),(3,1),(4,1),(5,1),(6,1),(7,1)]),(50,[(0,1),(1,1),(2,1),(3,1)]),(52,[(0,1),(1,1),(2,1),(3,1),(4,1)]),(54,[(0,1),(1,1),(2,1),(3,1),(4,1),(5,1),(6,1),(7,1)]),(56,[(0,1),(1,1),(2,1),(3,1)]),(58,[(0,1),(1,1),(2,1),(3,1)]),(60,[(0,1),(1,1)]),(62,[(0,1),(1,1),(2,1),(3,1)]),(64,[(0,1),(1,1),(2,1),(3,1)]),(66,[(0,1),(1,1),(2,1),(3,1),(4,1),(5,1)]),(68,[(0,1),(1,1)]),(70,[(0,1),(1,1)]),(72,[(0,1),(1,1),(2,1),(3,1),(4,8),(12,4),(16,5),(21,8),(29,4),(33,4),(37,2),(39,4),(43,4),(47,6),(53,2),(55,2)]),(76,[(0,1),(1,1),(2,1),(3,1)]),(84,[(0,1),(1,1),(2,4)]),(100,[(0,1),(1,1),(2,1),(3,1),(4,1)]),(108,[(0,1),(1,1),(2,1),(3,1)]),(110,[(0,1),(1,1),(2,4),(6,1),(7,1)]),(112,[(0,1),(1,1)]),(114,[(0,1),(1,1),(2,1),(3,1)]),(116,[(0,1),(1,1)]),(118,[(0,1),(1,1),(2,1),(3,1)]),(120,[(0,1),(1,1),(2,1)]),(127,[(0,1),(1,1)]),(144,[(0,1)]),(160,[(0,1),(1,1)]),(187,[(0,1),(1,1),(2,1)]),(193,[(0,1),(1,1),(2,1)]),(199,[(0,1),(1,1),(2,1),(3,1)]),(214,[(0,1),(1,1),(2,1)]),(248,[(0,1),(1,1)]),(259,[(0,1),(1,1)]),(266,[(0,8)]),(283,[(0,1),(1,1)]),(291,[(0,1),(1,1)]),(293,[(0,1),(1,2)]),(296,[(0,1),(1,1),(2,1),(3,1)]),(315,[(0,4)]),(355,[(0,1)])]
def DE:C2:={ty:=dM,al:=[(33,(.agg [.str [],.rsl 2 (map Mat.c []),.rsl 4 (map BE.c []),.rsl 5 (map Distance.c []),.rsl 2 (map Wave.c []),.rsl 4 (map Offence.c []),.rsl 3 (map Category.c []),.rsl 4 (map AW.c []),.rsl 8 (map Step.enc []),I 0,I 0,I 0,I 0,I 0,I 0,I 0])),(120,(.agg [I 0,I 0,.rsl 3 (map AF.enc [])])),(100,(.agg [.str [],.rsl 3 (map AF.enc []),I 0,.rsl 3 (map AP.c []),I 0])),(116,(.agg [.str [],I 0])),(112,(.agg [.str [],I 0])),(114,(.agg [.str [],I 0,I 0,.bool false])),(187,(.agg [.str [],I 0,I 0])),(127,(.agg [I 0,I 0])),(118,(.agg [I 0,I 0,I 0,I 0])),(214,(.agg [I 0,I 0,I 0])),(199,(.agg [I 0,I 0,I 0,I 0])),(3,(I 0)),(189,.nilf),(194,.nilf),(31,(.agg [I 0,I 0,I 0,I 0,I 0])),(110,(.agg [I 0,I 0,I 0,I 0,I 0,.rsl 4 (map Cond.enc []),.rsl 8 (map Step.enc []),.rsl 8 (map Step.enc [])])),(108,(.agg [I 0,I 0,I 0,.rsl 4 (map Cond.enc [])])),(266,(.agg [I 0,I 0,I 0,I 0,I 0,.rsl 4 (map Cond.enc []),.rsl 8 (map Step.enc []),.rsl 8 (map Step.enc [])])),(315,(.agg [I 0,I 0,I 0,.rsl 4 (map Cond.enc [])])),(219,.nilm),(125,.nilm),(283,(.agg [.nils,.nilf])),(345,.nilp),(346,.nilp),(347,.nilp),(348,.nilp),(72,(.agg [I 0,I 0,I 0,I 0,I 0,I 0,I 0,I 0,I 0,I 0,I 0,I 0,I 0,I 0,I 0,I 0,I 0,I 0,I 0,I 0,I 0,I 0,I 0,I 0,I 0,I 0,I 0,I 0,I 0,I 0,I 0,I 0,I 0,I 0,I 0,I 0,I 0,I 0,I 0,I 0,I 0,I 0,I 0,I 0,I 0,I 0,I 0,I 0,I 0,I 0,I 0,I 0,I 0,I 0,.bool false,I 0,I 0])),(293,(.agg [.nilp,I 0,I 0])),(296,(.agg [I 0,I 0,.str [],.rsl 4 (map Value.enc [])])),(356,.nilp),(268,.nilm),(62,(.agg [I 0,I 0,I 0,I 0])),(66,(.agg [I 0,I 0,I 0,I 0,I 0,I 0])),(76,(.agg [I 0,I 0,I 0,.bool false])),(84,(.agg [I 0,I 0,I 0,I 0,I 0,.bool false])),(144,(.agg [.nilf])),(37,.nils),(38,.nils),(48,(.agg [I 0,I 0,I 0,I 0,I 0,I 0,I 0,I 0])),(298,.nilf),(160,(.agg [.rsl 1 (map (Qc .i64) []),.nilm])),(193,(.agg [I 0,I 0,I 0])),(50,(.agg [I 0,I 0,I 0,I 0])),(52,(.agg [I 0,I 0,I 0,I 0,I 0])),(54,(.agg [I 0,I 0,I 0,I 0,I 0,I 0,I 0,I 0])),(56,(.agg [I 0,I 0,I 0,I 0])),(58,(.agg [I 0,I 0,I 0,I 0])),(64,(.agg [I 0,I 0,I 0,I 0]))],sl:=[239,217,37,281,34,85,88,92,38]}
def Hv:NQ:={sl:=[(97,120,3),(22,116,2),(23,118,4),(24,100,5),(25,112,2),(26,114,4),(27,187,3),(28,199,4),(98,193,3),(239,5,1),(37,3,1),(29,110,8),(106,108,4),(217,263,1),(294,296,4),(220,222,1),(34,72,57),(85,62,4),(38,76,4),(229,9,1),(92,48,8)],fn:=[73,201,149,76,74,78,80,82,84,75,77,79,81,83,151,203,150,86,95,157,206,156,91,159,207,158,98,87,85,153,204,152,88,155,205,154,90,89,110,171,109,100,161,208,160,92,163,209,162,103,165,210,164,93,167,211,166,106,94,96,97,41,99,101,102,104,105,108,283,212,168,262,169,263,214,213,107,111,112,43,42,37,38,39,40,248,249,250,251,252,190,134,146,274,277,276,275,279,253,192,67,135,136,137,61,218,215,217,175,222,219,221,60,173,174,113,45,176,114,46,47,49,48,18,19,138,62,27,195,139,140,199,30,66,143,65,64,25,26,28,7,29,11,15,13,9,10,34,35,148,72,147,36,17,180,121,122,123,124,181,125,234,182,126,127,128,129,50,51,52,53,54,185,241,239,238,236,237,243,242,235,240,244,183,184,186,301,302,303,304,272,271,130,247,246,245,188,131,20,55,68,56,133,132,57,21,58,59,22,23,70,69,31,8,32,33,12,5,6,14]}
theorem m8:kL prog mh DE Hv=kR prog mh DE Hv:=by kernel_rfl
theorem Fa:Fm prog DE:=.ofK m8 (by kernel_rfl)
theorem Ou:IC prog Hv:=.ofK m8 (tx (by kernel_rfl))
section
variable {h0 N m n d id t et k f:Nat} {all:Array Oper} {o:Oper} {l r r' ll:AA Oper} {ds:AA Nat} {env env' env0:Env} {H H' H1 X:Qb} {Q:QW} {α:Type} {e:α->AA A} {L:AA α} {kk:IntKind} {i:Int} {v:α} {K:AA Oper->Env->Qb->Prop} {xs xs':AA A} {args argsc:AA A} {Hc:Qb} {Hs Hs':AA Qb} {bs:AA Nat} {cat:IG} {k':AA Kf} {c':Cf} {hB hE:Nat} {x:A}
theorem G0{c:Code}(n:Nat)(h:F7 DE h0 N n (.code c) [] env H=some (c',k',env',H'))(g:Hd prog h0 N c' k' env' H' Q):TC prog h0 N c env H Q:=Wa Fa n h g
theorem Gc{k:AA Kf}{c:Code}(n:Nat)(h:F7 DE h0 N n (.code c) k env H=some (c',k',env',H'))(g:Hd prog h0 N c' k' env' H' Q):TC prog h0 N c env H (kq prog h0 N k Q):=Wa Fa n h g
theorem Go{k:AA Kf}(n:Nat)(h:F7 DE h0 N n (.ops all l) k env H=some (c',k',env',H'))(g:Hd prog h0 N c' k' env' H' Q):WO prog h0 N all l env H (kq prog h0 N k Q):=Wa Fa n h g
theorem Gx{k:AA Kf}{x:TJ}(n:Nat)(h:F7 DE h0 N n (.out x) k env H=some (c',k',env',H'))(g:Hd prog h0 N c' k' env' H' Q):kq prog h0 N k Q x env H:=Wa Fa n h g
theorem Cg{β:Type}{E':β->Env}{Hb:β->Qb}{k:AA Kf}{c c2:Code}(b:β)(sel keep:AA Nat)(nE:β->Env)(nH:β->AA (Nat×AR))(hc:∀b,Ol sel keep (nE b) (nH b) env H=some (E' b,Hb b))(h:TC prog h0 N c env H (OZ h0 b E' Hb (kq prog h0 N (.seq c2::k) Q)))(g:TC prog h0 N c2 (E' b) (Hb b) (kq prog h0 N k Q)):TC prog h0 N c env H (kq prog h0 N (.seq c2::k) Q):=Ct b sel keep nE nH hc h λ_ _ e=>Gx 1 rfl (Qd e g)
theorem BZ{S B:Type}{b:AG S B}{E':S->Env}{Hb:S->Qb}{k:AA Kf}{c c2:Code}(sel keep:AA Nat)(nE:S->Env)(nH:S->AA (Nat×AR))(hc:∀s,Ol sel keep (nE s) (nH s) env H=some (E' s,Hb s))(h:TC prog h0 N c env H (LC h0 b E' Hb (kq prog h0 N (.seq c2::k) Q)))(g:∀s,b=.k s->TC prog h0 N c2 (E' s) (Hb s) (kq prog h0 N k Q)):TC prog h0 N c env H (kq prog h0 N (.seq c2::k) Q):=DD sel keep nE nH hc h λs _ _ q e=>Gx 1 rfl (Qd e (g s q))
theorem JD{S B S':Type}{b x:AG S B}{d:AG S' (AG S B)}{E':S->Env}{Hb:S->Qb}{s:S}(hb:∀b',d=.d b'->b'=b)(h:some (AG.d x)=some d)(e:x=.k s)(hl:Le h0 env H (E' s) (Hb s)):LC h0 b E' Hb Q .normal env H:=YC ((Oj hb h).symm.trans e) hl
theorem JC{β S':Type}{b x:β}{d:AG S' β}{E':β->Env}{Hb:β->Qb}(hb:∀b',d=.d b'->b'=b)(h:some (AG.d x)=some d)(hl:Le h0 env H (E' x) (Hb x)):OZ h0 b E' Hb Q .normal env H:=by
  cases Oj hb h;exact hl
theorem Gl{β:Type}{e b:β}{E':β->Env}{Hb:β->Qb}{k:AA Kf}(n:Nat)(hm:F7 DE h0 N n (.ops all l) k env H=some (.out .normal,[],env',H'))(h:some e=some b)(π:AA Nat)(hpre:π.take h0=List.range h0:=by exact rfl)(hH:π.map (λp=>H'[p]?)=((Hb e).map (Q9 (Af π H'.length))).map some:=by exact rfl)(hπ:π.Nodup:=by decide)(hE:Fk (Af π H'.length) env' (E' e):=by(repeat' (first|exact trivial|refine⟨rfl,?_⟩))):WO prog h0 N all l env H (kq prog h0 N k (OZ h0 b E' Hb Q)):=Go n hm (Cl h π hpre hH hπ hE)
theorem Gt{β:Type}{e r:β}{w:β->A}{Hb:β->Qb}{fn:Func}{k:AA Kf}(n:Nat)(hm:F7 DE h0 N n (.ops all l) k env H=some (.out .ret,[],env',H'))(h:some e=some r)(a:Nat)(π:AA Nat)(hr:fn.results= #[.tmp a]:=by exact rfl)(hpre:π.take h0=List.range h0:=by exact rfl)(hH:π.map (λp=>H'[p]?)=((Hb e).map (Q9 (Af π H'.length))).map some:=by exact rfl)(hπ:π.Nodup:=by decide)(hE:Fk (Af π H'.length) env' [(a,w e)]:=by exact⟨rfl,trivial⟩):WO prog h0 N all l env H (kq prog h0 N k (LJ prog h0 fn (RQ w Hb r))):=Go n hm (Rt h a π hr hpre hH hπ hE)
theorem YM{β:Type}{e b:β}{E':β->Env}{Hb:β->Qb}{k:AA Kf}{c:Code}(n:Nat)(hm:F7 DE h0 N n (.code c) k env H=some (.out .normal,[],env',H'))(h:some e=some b)(π:AA Nat)(hpre:π.take h0=List.range h0:=by exact rfl)(hH:π.map (λp=>H'[p]?)=((Hb e).map (Q9 (Af π H'.length))).map some:=by exact rfl)(hπ:π.Nodup:=by decide)(hE:Fk (Af π H'.length) env' (E' e):=by(repeat' (first|exact trivial|refine⟨rfl,?_⟩))):TC prog h0 N c env H (kq prog h0 N k (OZ h0 b E' Hb Q)):=Gc n hm (Cl h π hpre hH hπ hE)
theorem QJ{β:Type}{e r:β}{w:β->A}{Hb:β->Qb}{fn:Func}{k:AA Kf}{c:Code}(n:Nat)(hm:F7 DE h0 N n (.code c) k env H=some (.out .ret,[],env',H'))(h:some e=some r)(a:Nat)(π:AA Nat)(hr:fn.results= #[.tmp a]:=by exact rfl)(hpre:π.take h0=List.range h0:=by exact rfl)(hH:π.map (λp=>H'[p]?)=((Hb e).map (Q9 (Af π H'.length))).map some:=by exact rfl)(hπ:π.Nodup:=by decide)(hE:Fk (Af π H'.length) env' [(a,w e)]:=by exact⟨rfl,trivial⟩):TC prog h0 N c env H (kq prog h0 N k (LJ prog h0 fn (RQ w Hb r))):=Gc n hm (Rt h a π hr hpre hH hπ hE)
theorem Fg{k:AA Kf}{e1:Env}(n:Nat)(h:Z_ env H=some (e1,H1))(hm:F7 DE h0 N n (.ops all l) k e1 H1=some (c',k',env',H'))(g:Hd prog h0 N c' k' env' H' Q):WO prog h0 N all l env H (kq prog h0 N k Q):=FE h (Go n hm g)
@[reducible] def Ks{β:Type}(F:AB β)(f:FuncId)(args:AA A)(H:Qb)(w:β->A):Prop:=Kp prog F f args H w λ_=>H
@[reducible] def Kq{β:Type}(F:AB β)(f:FuncId)(args:AA A)(H:Qb)(w:β->A)(H1:β->Qb):Prop:=Kp prog F f args H w H1
theorem Kg{β:Type}{F:AB β}{f:FuncId}{fn:Func}{c:Code}{w:β->A}{H1:β->Qb}(n:Nat)(hf:prog.funcs[f]?=some fn)(hb:fn.body=some c)(hN:fn.ntmps=N)(hA:Nat.ble args.length N=true)(h:F7 DE H.length N n (.code c) [] (NZ 0 args) H=some (c',k',env',H'))(g:∀r,F=some r->Hd prog H.length N c' k' env' H' (LJ prog H.length fn (RQ w H1 r))):Kp prog F f args H w H1:=Kp.b hf hb hN hA λr e=>G0 n h (g r e)
theorem D(n:Nat)(h:WJ DE N m l ds env H n xs.length r xs=some (r',xs'))(k:DS prog N m l ds env H K r' xs'):DS prog N m l ds env H K r xs:=kn Fa n _ rfl h k
theorem Iz(h:AJ L i=some v)(q:SV o env=some (d,t,k,L.map e,kk,i))(g:WO prog h0 N all l (up env d (.rp (e v))) H Q)(ht:FQ Hv.sl t=some (et,k):=by exact rfl)(hg:Y1 all o env=some true:=by exact rfl)(hN:Nat.blt d N=true:=by exact rfl):WO prog h0 N all (o::l) env H Q:=tS Ou h q g ht hg hN
theorem CQ{cs:AA A}(h:AJ L i=some v)(he:e v=cs)(q:SV o env=some (d,t,k,L.map e,kk,i))(g:WO prog h0 N all l (up env d (.rp cs)) H Q)(ht:FQ Hv.sl t=some (et,k):=by exact rfl)(hg:Y1 all o env=some true:=by exact rfl)(hN:Nat.blt d N=true:=by exact rfl):WO prog h0 N all (o::l) env H Q:=Ize Ou h he q g ht hg hN
theorem Lm{k':Nat}(q:SQ o env=some (d,t,.mk (.rsl k (L.map e))))(g:WO prog h0 N all l (up env d (I L.length)) H Q)(ht:FQ Hv.sl t=some (et,k'):=by exact rfl)(hg:Y1 all o env=some true:=by exact rfl)(hN:Nat.blt d N=true:=by exact rfl):WO prog h0 N all (o::l) env H Q:=Lmz Ou q g ht hg hN
theorem Lg{k:AA Kf}{i k1:Nat}(n:Nat)(q:SQ o env=some (d,t,.mk (.rsl i (L.map e))))(hm:F7 DE h0 N n (.ops all l) k (up env d (I L.length)) H=some (c',k',env',H'))(g:Hd prog h0 N c' k' env' H' Q)(ht:FQ Hv.sl t=some (et,k1):=by exact rfl)(hg:Y1 all o env=some true:=by exact rfl)(hN:Nat.blt d N=true:=by exact rfl):WO prog h0 N all (o::l) env H (kq prog h0 N k Q):=Lm q (Go n hm g) ht hg hN
theorem Cz{β γ:Type}{F:AB β}{F':β->AB γ}{r:γ}{w:β->A}(π:AA Nat)(h:F.bind F'=some r)(hC:∀v,F=some v->C prog f argsc Hc (RQ w (λ_=>Hc) v))(hop:KE Hv o env=some (d,f,args))(g:∀v,F=some v->F' v=some r->WO prog h0 N all l (up env d (w v)) H Q)(hv:∀v,SY (w v)=some (.mk (w v)):=by exact λ_=>rfl)(hargs:args=C3 (Af π H.length) argsc:=by exact rfl)(hH:π.map (λp=>H[p]?)=(Hc.map (Q9 (Af π H.length))).map some:=by exact rfl)(hπ:π.Nodup:=by decide)(hg:Y1 all o env=some true:=by exact rfl)(hN:Nat.blt d N=true:=by exact rfl)(hh:Nat.ble h0 H.length=true:=by exact rfl):WO prog h0 N all (o::l) env H Q:=Czz Ou π h hC hop g hv hargs hH hπ hg hN hh
theorem Cb{β γ:Type}{F:AB β}{F':β->AB γ}{r:γ}{w:β->A}(h:F.bind F'=some r)(hC:∀v,F=some v->C prog f argsc [] (RQ w Ze v))(hop:KE Hv o env=some (d,f,args))(hL:DI H args argsc)(g:∀v,F=some v->F' v=some r->WO prog h0 N all l (up env d (w v)) H Q)(hv:∀v,YF (w v)=true:=by exact λ_=>rfl)(hg:Y1 all o env=some true:=by exact rfl)(hN:Nat.blt d N=true:=by exact rfl):WO prog h0 N all (o::l) env H Q:=Cbz Ou h hC hop hL g hv hg hN
theorem Dz{β γ:Type}{F:AB β}{F':β->AB γ}{r:γ}{w:β->A}(π:AA Nat)(h:F.bind F'=some r)(hC:∀v,F=some v->C prog f argsc Hc (RQ w (λ_=>Hc) v))(hop:KE Hv o (Q7 (Qf o) 0 ds xs env)=some (d,f,args))(g:∀v,F=some v->F' v=some r->DS prog N m ll ds env H K l (xs++[w v]))(hv:∀v,SY (w v)=some (.mk (w v)):=by exact λ_=>rfl)(hargs:args=C3 (Af π H.length) argsc:=by exact rfl)(hH:π.map (λp=>H[p]?)=(Hc.map (Q9 (Af π H.length))).map some:=by exact rfl)(hπ:π.Nodup:=by decide)(hg:Y1 ll.toArray o (Q7 (Qf o) 0 ds xs env)=some true:=by exact rfl)(hN:Nat.blt d N=true:=by exact rfl)(hx:Nat.blt xs.length m=true:=by exact rfl):DS prog N m ll ds env H K (o::l) xs:=DzZ Ou π h hC hop g hv hargs hH hπ hg hN hx
theorem Bj(m:Nat)(hc:Go.Sw.draw0 l m N (G6 m 0 l)=true)(h:DS prog N m l (G6 m 0 l) env H (λr e H=>WO prog h0 N l.toArray r e H Q) l [])(h0B:Nat.ble h0 H.length=true:=by exact rfl):TC prog h0 N (.region id l.toArray true) env H Q:=u7 (k:=[]) m C1 hc h0B h
theorem Da{cat:AA Nat}(n:Nat)(h:WI DE N m cat l ds env H n xs.length r xs=some (r',xs'))(k:DA prog N m cat l ds env H K r' xs'):DA prog N m cat l ds env H K r xs:=km Fa n _ rfl h k
theorem Db{cat:AA Nat}(n:Nat)(h:Ow DE N cat l ds env H1 n xs.length r xs=some (r',xs'))(k:DB prog N m cat l ds env H H1 K r' xs'):DB prog N m cat l ds env H H1 K r xs:=Wz Fa n _ rfl h k
theorem Dk(k:Nat){B:AA (Nat×AB AR)}(h:Ox DE N m cat l ds env n B.isEmpty k xs.length Hs.length Hs X r xs=some (Hs',r',xs'))(g:DK prog N m bs cat l ds env n K B Hs' X r' xs'):DK prog N m bs cat l ds env n K B Hs X r xs:=W0 Fa (λh=>List.isEmpty_iff.1 h) k _ _ rfl rfl h g
theorem tU{B:AA (Nat×AB AR)}{lo hi:Nat}(h:SW DE o (Q7 (Qf o) 0 ds xs env) x (hi+1-lo) (X::Hs))(k:DK prog N m bs cat l ds env n K B Hs X r (xs++[x]))(hc:Y0 cat xs.length=some (0,lo,hi):=by exact rfl)(hd:o.dst=some d:=by exact rfl)(hcH:Nat.beq hi Hs.length=true:=by exact rfl)(hg:Y1 ⟨l⟩ o (Q7 (Qf o) 0 ds xs env)=some true:=by exact rfl)(hN:Nat.blt d N=true:=by exact rfl)(hle:Nat.ble lo hi=true:=by exact rfl):DK prog N m bs cat l ds env n K B Hs X (o::r) xs:=DK.vs Fa h k hc hd hcH hg hN hle
theorem FC(m:Nat)(bs:AA Nat)(cat:IG)(hc:De l m N (G6 m 0 l) (mw cat) (mj bs cat) (Z6 bs) (NC cat)=true)(h:DK prog N m bs cat l (G6 m 0 l) env H.length (λr e H=>WO prog h0 N l.toArray r e H Q) [] [] H l [])(hcl:Nat.beq cat.length m=true:=by exact rfl)(h0B:Nat.ble h0 H.length=true:=by exact rfl):TC prog h0 N (.region id l.toArray true) env H Q:=u6 m bs cat C1 hc hcl h0B h
theorem Fb{B:AA (Nat×AB AR)}{lo hi b:Nat}(h:SW DE o (Q7 (Qf o) 0 ds xs env) x (Hs.length+1-lo) (X::Hs))(k:DK prog N m bs cat l ds env n K ((b,X[b]?)::B) Hs X r (xs++[x]))(hc:Y0 cat xs.length=some (0,lo,hi):=by exact rfl)(hl:aL o (Q7 (Qf o) 0 ds xs env)=some b:=by exact rfl)(hd:o.dst=some d:=by exact rfl)(hlo:Nat.ble lo Hs.length=true:=by exact rfl)(hhi:Nat.ble hi bs.length=true:=by exact rfl)(hg:Y1 ⟨l⟩ o (Q7 (Qf o) 0 ds xs env)=some true:=by exact rfl)(hN:Nat.blt d N=true:=by exact rfl):DK prog N m bs cat l ds env n K B Hs X (o::r) xs:=uE Fa hl h k hc hd hlo hhi hg hN
theorem F8(m b:Nat)(cat:AA Nat)(hc:De l m N (G6 m 0 l) (mx cat) (ml b cat) [[],[b]] (ND cat)=true)(h:DA prog N m cat l (G6 m 0 l) env H (λr e H=>WO prog h0 N l.toArray r e H Q) l [])(hcl:Nat.beq cat.length m=true:=by exact rfl)(h0B:Nat.ble h0 H.length=true:=by exact rfl):TC prog h0 N (.region id l.toArray true) env H Q:=u0 m b cat C1 hc hcl h0B h
theorem Cd{β γ:Type}{F:AB β}{F':β->AB γ}{r:γ}{w:β->A}{Hr:β->Qb}(π:AA Nat)(h:F.bind F'=some r)(hC:∀v,F=some v->C prog f argsc Hc (RQ w Hr v))(hop:KE Hv o env=some (d,f,args))(g:∀v,F=some v->F' v=some r->WO prog h0 N all l (up env d (Je (Af π H.length) (w v))) (YI H π ((Hr v).map (Q9 (Af π H.length)))) Q)(hargs:args=C3 (Af π H.length) argsc:=by exact rfl)(hH:π.map (λp=>H[p]?)=(Hc.map (Q9 (Af π H.length))).map some:=by exact rfl)(hπ:π.Nodup:=by decide)(hg:Y1 all o env=some true:=by exact rfl)(hN:Nat.blt d N=true:=by exact rfl)(hh:Nat.ble h0 H.length=true:=by exact rfl):WO prog h0 N all (o::l) env H Q:=Cdz Ou π h hC hop g hargs hH hπ hg hN hh
theorem v0{i:Nat}(hx:xs[i]?=some x)(h:aG dM N l ds xs env0 H i=some x):JH prog N l ds xs env0 hB hE i H H:=vQ Fa.ty hx h
theorem ov{i c:Nat}(k:Oq prog N l ds xs env0 H (i+1) c)(hx:xs[i]?=some x:=by exact rfl)(h:aG dM N l ds xs env0 H i=some x:=by exact rfl):Oq prog N l ds xs env0 H i (c+1):=.c (vQ Fa.ty hx h) k
end
theorem TF{T:Type}{X:CT T}{st:DW T}{h0 N:Nat}{c:Code}{c':Cf}{k':AA Kf}{env env':Env}{H H':Qb}{Q:YT T}(n:Nat)(h:Oe DE h0 N n (.code c) [] env H=some (c',k',env',H'))(g:Nr X prog h0 N c' k' env' H' st Q):An X prog h0 N c env H st Q:=Wb Fa n h g
theorem l4{T:Type}{X:CT T}{st:DW T}{h0 N:Nat}{k:AA Kf}{c:Code}{c':Cf}{k':AA Kf}{env env':Env}{H H':Qb}{Q:YT T}(n:Nat)(h:Oe DE h0 N n (.code c) k env H=some (c',k',env',H'))(g:Nr X prog h0 N c' k' env' H' st Q):An X prog h0 N c env H st (KA X prog h0 N k Q):=Wb Fa n h g
theorem TD{T:Type}{X:CT T}{st:DW T}{h0 N:Nat}{k:AA Kf}{all:Array Oper}{l:AA Oper}{c':Cf}{k':AA Kf}{env env':Env}{H H':Qb}{Q:YT T}(n:Nat)(h:Oe DE h0 N n (.ops all l) k env H=some (c',k',env',H'))(g:Nr X prog h0 N c' k' env' H' st Q):Co X prog h0 N all l env H st (KA X prog h0 N k Q):=Wb Fa n h g
theorem B6{T:Type}{X:CT T}{st:DW T}{h0 N:Nat}{k:AA Kf}{x:TJ}{c':Cf}{k':AA Kf}{env env':Env}{H H':Qb}{Q:YT T}(n:Nat)(h:Oe DE h0 N n (.out x) k env H=some (c',k',env',H'))(g:Nr X prog h0 N c' k' env' H' st Q):KA X prog h0 N k Q x env H st:=Wb Fa n h g
def B9:Go.Shelf.Ren:=⟨λ|144=>202|143=>261|219=>282|217=>306|225=>307|224=>308|267=>309|266=>316|314=>317|n=>n,λ|9=>9|4=>4|3=>3|5=>5|46=>276|146=>358|51=>335|n=>n,λ|1=>11|n=>n⟩
theorem Qel:Go.Proofs.Lays.n144 prog B9:=by
  constructor<;>first|kernel_rfl|(intro;kernel_rfl)|exact bE (by kernel_rfl) (by kernel_rfl)
def Ce:Go.Shelf.Ren:=⟨λ|6=>216|15=>179|14=>264|28=>232|29=>233|20=>284|21=>285|22=>286|23=>287|24=>288|25=>289|26=>290|27=>291|46=>310|47=>267|48=>268|49=>311|50=>312|57=>318|n=>n,λ|22=>34|24=>72|25=>156|3=>3|39=>276|0=>0|53=>335|55=>337|4=>4|46=>327|45=>326|50=>332|5=>5|9=>9|66=>369|70=>287|76=>392|77=>173|n=>n,λ|n=>n⟩
theorem Qg6:Go.Proofs.SlLaysF0.n6 prog Ce:=by
  constructor<;>first|kernel_rfl|(intro;kernel_rfl)|exact bE (by kernel_rfl) (by kernel_rfl)
def Cc:Go.Shelf.Ren:=⟨λ|6=>220|15=>179|14=>265|28=>232|29=>233|20=>292|21=>293|22=>294|23=>295|24=>296|25=>297|26=>298|27=>299|46=>313|47=>267|48=>268|49=>314|50=>315|57=>319|n=>n,λ|22=>220|24=>222|25=>272|3=>3|39=>276|0=>0|53=>335|55=>337|4=>4|46=>327|45=>326|50=>332|5=>5|9=>9|66=>369|70=>287|76=>392|77=>173|n=>n,λ|n=>n⟩
theorem Qg5:Go.Proofs.SlLaysF0.n6 prog Cc:=by
  constructor<;>first|kernel_rfl|(intro;kernel_rfl)|exact bE (by kernel_rfl) (by kernel_rfl)
def Ch:Go.Shelf.Ren:=⟨λ|189=>119|125=>179|257=>178|128=>232|129=>233|294=>223|295=>224|296=>225|297=>226|298=>227|299=>228|216=>229|300=>230|301=>231|328=>266|329=>267|330=>268|331=>269|332=>270|215=>146|343=>300|n=>n,λ|28=>37|3=>3|46=>276|0=>0|51=>335|53=>337|4=>4|183=>327|182=>326|131=>332|5=>5|9=>9|218=>369|222=>287|228=>392|229=>173|n=>n,λ|n=>n⟩
theorem tN:Go.Proofs.Lays.n189 prog Ch:=by
  constructor<;>first|kernel_rfl|(intro;kernel_rfl)|exact bE (by kernel_rfl) (by kernel_rfl)
end Go.Sw
