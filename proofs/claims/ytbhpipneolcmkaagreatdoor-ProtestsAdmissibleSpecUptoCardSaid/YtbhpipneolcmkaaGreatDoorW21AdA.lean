/- The types of ProtestsAdmissibleSpec and facts on them. -/
import Derived.Test.YtbhpipneolcmkaaGreatDoorL3
import Derived.Test.YtbhpipneolcmkaaGreatDoorProg
set_option linter.unusedVariables false
set_option linter.unusedSimpArgs false
set_option maxRecDepth 100000
set_option maxHeartbeats 4000000
namespace Go.Sw
open List(map)
open Int(toNat)
open Go.IntKind(i64 u64 u8)
open Go.Proofs Tryz
abbrev EA:=@runUnderlying34
abbrev EB:=@sizeOf68
abbrev EC:=@runUnderlying40
abbrev ED:=@isAgg3
abbrev EE:=@runUnderlying9
abbrev EF:=@sizeOf3
abbrev EG:=@runUnderlying89
abbrev EH:=@runUnderlying204
abbrev EI:=@runUnderlying287
abbrev EJ:=@isAgg68
abbrev EK:=@runUnderlying301
abbrev EL:=@runUnderlying3
abbrev EM:=@sizeOf46
abbrev EN:=@runUnderlying333
abbrev EO:=@zeroValue228
abbrev EP:=@runUnderlying68
abbrev EQ:=@underlying88
abbrev ES:=@underlying237
abbrev ET:=@zeroValue4
abbrev EU:=@runUnderlying194
abbrev EV:=@runUnderlying209
abbrev EW:=@sizeOf220
abbrev EX:=@runUnderlying258
abbrev EY:=@isAgg220
abbrev EZ:=@runUnderlying5
abbrev E0:=@runUnderlying197
abbrev E3:=@runUnderlying322
abbrev E4:=@zeroValue349
abbrev E5:=@sizeOf5
abbrev E6:=@sizeOf312
abbrev E7:=@sizeOf102
abbrev E8:=@runUnderlying190
abbrev E9:=@runUnderlying218
abbrev Ga:=@runUnderlying200
abbrev Gb:=@runUnderlying130
abbrev Gd:=@runUnderlying103
abbrev Ge:=@runUnderlying349
abbrev Gf:=@sizeOf34
abbrev Gg:=@underlying251
abbrev Gh:=@underlying9
abbrev Gi:=@sizeOf4
abbrev Gj:=@zeroValue68
abbrev Gk:=@underlying3
abbrev Gm:=@underlying134
abbrev Gn:=@underlying123
abbrev Gp:=@runUnderlying249
abbrev Gq:=@sizeOf260
abbrev Gr:=@sizeOf196
abbrev Gs:=@runUnderlying29
abbrev Gu:=@zeroValue260
abbrev Gv:=@sizeOf66
abbrev Gw:=@underlying193
abbrev Gy:=@underlying66
abbrev Gz:=@isAgg260
abbrev GA:=@runUnderlying23
abbrev GB:=@runUnderlying24
abbrev GC:=@runUnderlying46
abbrev GD:=@runUnderlying62
abbrev GE:=@runUnderlying4
abbrev GF:=@zeroValue3
abbrev GG:=@sizeOf120
abbrev GH:=@sizeOf230
abbrev GI:=@isAgg4
abbrev GJ:=@underlying29
abbrev GK:=@sizeOf322
abbrev GL:=@zeroValue301
abbrev GM:=@underlying34
abbrev GN:=@sizeOf349
abbrev GO:=@sizeOf9
theorem draws:prog.follows .mixedOrders=true:=by rfl
structure Faults where
  Misses:Int
  Strays:Int
  Window:Int
  Residual:Int
  Drift:Int
  deriving DecidableEq
def Faults.c(x:Faults):List Go.Sw.A:=[I x.Misses,I x.Strays,I x.Window,I x.Residual,I x.Drift]
structure Mat where
  Name:List UInt8
  Kind:Int
  deriving DecidableEq
def Mat.c(x:Mat):List Go.Sw.A:=[.str x.Name,I x.Kind]
structure Leg where
  From:Int
  To:Int
  Min:Int
  Max:Int
  deriving DecidableEq
def Leg.c(x:Leg):List Go.Sw.A:=[I x.From,I x.To,I x.Min,I x.Max]
structure Part where
  Mat:Int
  Laps:Int
  Parts:List Part
mutual
def Part.enc:Part->List A
  |⟨x0,x1,x2⟩=>[I x0,I x1,.rsl 3 (Part.encs x2)]
def Part.encs:List Part->List (List A)
  |[]=>[]
  |x::l=>Part.enc x::Part.encs l
end
theorem Qd9(l:List Part):Part.encs l=map Part.enc l:=by induction l with|nil=>simp[Part.encs]|cons x l h=>simp[Part.encs,h]
def Part.c(x:Part):List Go.Sw.A:=[I x.Mat,I x.Laps,.rsl 3 (map Part.enc x.Parts)]
theorem Yb(x:Part):Part.enc x=Part.c x:=by cases x;simp[Part.enc,Part.c,Qd9]
structure Cutoff where
  Mat:Int
  Lap:Int
  Limit:Int
  deriving DecidableEq
def Cutoff.c(x:Cutoff):List Go.Sw.A:=[I x.Mat,I x.Lap,I x.Limit]
structure Distance where
  Name:List UInt8
  Route:List Part
  Timing:Int
  Cutoffs:List Cutoff
  Extra:Int
def Distance.c(x:Distance):List Go.Sw.A:=[.str x.Name,.rsl 3 (map Part.enc x.Route),I x.Timing,.rsl 3 (map Cutoff.c x.Cutoffs),I x.Extra]
structure Wave where
  Name:List UInt8
  Gun:Int
  deriving DecidableEq
def Wave.c(x:Wave):List Go.Sw.A:=[.str x.Name,I x.Gun]
structure Offence where
  Name:List UInt8
  Time:Int
  Laps:Int
  Out:Bool
  deriving DecidableEq
def Offence.c(x:Offence):List Go.Sw.A:=[.str x.Name,I x.Time,I x.Laps,.bool x.Out]
structure Category where
  Name:List UInt8
  From:Int
  To:Int
  deriving DecidableEq
def Category.c(x:Category):List Go.Sw.A:=[.str x.Name,I x.From,I x.To]
structure Prize where
  Distance:Int
  Category:Int
  Rank:Int
  Amount:Int
  deriving DecidableEq
def Prize.c(x:Prize):List Go.Sw.A:=[I x.Distance,I x.Category,I x.Rank,I x.Amount]
structure Cond where
  Kind:Int
  Var:Int
  N:Int
  Parts:List Cond
mutual
def Cond.enc:Cond->List A
  |⟨x0,x1,x2,x3⟩=>[I x0,I x1,I x2,.rsl 4 (Cond.encs x3)]
def Cond.encs:List Cond->List (List A)
  |[]=>[]
  |x::l=>Cond.enc x::Cond.encs l
end
theorem Qef(l:List Cond):Cond.encs l=map Cond.enc l:=by induction l with|nil=>simp[Cond.encs]|cons x l h=>simp[Cond.encs,h]
def Cond.c(x:Cond):List Go.Sw.A:=[I x.Kind,I x.Var,I x.N,.rsl 4 (map Cond.enc x.Parts)]
theorem Jw(x:Cond):Cond.enc x=Cond.c x:=by cases x;simp[Cond.enc,Cond.c,Qef]
structure Step where
  Kind:Int
  By:Int
  Cond:Cond
  Then:List Step
  Else:List Step
mutual
def Step.enc:Step->List A
  |⟨x0,x1,x2,x3,x4⟩=>[I x0,I x1,I x2.Kind,I x2.Var,I x2.N,.rsl 4 (map Cond.enc x2.Parts),.rsl 8 (Step.encs x3),.rsl 8 (Step.encs x4)]
def Step.encs:List Step->List (List A)
  |[]=>[]
  |x::l=>Step.enc x::Step.encs l
end
theorem Qd3(l:List Step):Step.encs l=map Step.enc l:=by induction l with|nil=>simp[Step.encs]|cons x l h=>simp[Step.encs,h]
def Step.c(x:Step):List Go.Sw.A:=[I x.Kind,I x.By,I x.Cond.Kind,I x.Cond.Var,I x.Cond.N,.rsl 4 (map Cond.enc x.Cond.Parts),.rsl 8 (map Step.enc x.Then),.rsl 8 (map Step.enc x.Else)]
theorem Yq(x:Step):Step.enc x=Step.c x:=by cases x;simp[Step.enc,Step.c,Qd3]
structure Course where
  Name:List UInt8
  Mats:List Mat
  Legs:List Leg
  Distances:List Distance
  Waves:List Wave
  Offences:List Offence
  Categories:List Category
  Prizes:List Prize
  Ties:List Step
  Faults:Faults
  Fee:Int
  Deadline:Int
def Course.c(x:Course):List Go.Sw.A:=[.str x.Name,.rsl 2 (map Mat.c x.Mats),.rsl 4 (map Leg.c x.Legs),.rsl 5 (map Distance.c x.Distances),.rsl 2 (map Wave.c x.Waves),.rsl 4 (map Offence.c x.Offences),.rsl 3 (map Category.c x.Categories),.rsl 4 (map Prize.c x.Prizes),.rsl 8 (map Step.enc x.Ties),I x.Faults.Misses,I x.Faults.Strays,I x.Faults.Window,I x.Faults.Residual,I x.Faults.Drift,I x.Fee,I x.Deadline]
structure Starter where
  Bib:Int
  Distance:Int
  Wave:Int
  Slot:Int
  Age:Int
  Chip:Int
  Team:Int
  Lot:Int
  deriving DecidableEq
def Starter.c(x:Starter):List Go.Sw.A:=[I x.Bib,I x.Distance,I x.Wave,I x.Slot,I x.Age,I x.Chip,I x.Team,I x.Lot]
structure Read where
  Mat:Int
  Epoch:Int
  Chip:Int
  Local:Int
  deriving DecidableEq
def Read.c(x:Read):List Go.Sw.A:=[I x.Mat,I x.Epoch,I x.Chip,I x.Local]
structure Beacon where
  Mat:Int
  Epoch:Int
  Local:Int
  True:Int
  Err:Int
  deriving DecidableEq
def Beacon.c(x:Beacon):List Go.Sw.A:=[I x.Mat,I x.Epoch,I x.Local,I x.True,I x.Err]
structure Sync where
  MatA:Int
  EpochA:Int
  LocalA:Int
  MatB:Int
  EpochB:Int
  LocalB:Int
  Min:Int
  Max:Int
  deriving DecidableEq
def Sync.c(x:Sync):List Go.Sw.A:=[I x.MatA,I x.EpochA,I x.LocalA,I x.MatB,I x.EpochB,I x.LocalB,I x.Min,I x.Max]
structure Hand where
  Bib:Int
  Position:Int
  Lo:Int
  Hi:Int
  deriving DecidableEq
def Hand.c(x:Hand):List Go.Sw.A:=[I x.Bib,I x.Position,I x.Lo,I x.Hi]
structure Silence where
  Mat:Int
  Epoch:Int
  Lo:Int
  Hi:Int
  deriving DecidableEq
def Silence.c(x:Silence):List Go.Sw.A:=[I x.Mat,I x.Epoch,I x.Lo,I x.Hi]
structure Pair where
  A:Int
  B:Int
  deriving DecidableEq
def Pair.c(x:Pair):List Go.Sw.A:=[I x.A,I x.B]
structure Report where
  Case:Int
  Bib:Int
  Offence:Int
  Position:Int
  deriving DecidableEq
def Report.c(x:Report):List Go.Sw.A:=[I x.Case,I x.Bib,I x.Offence,I x.Position]
structure Protest where
  Case:Int
  By:Int
  Fee:Int
  Form:Int
  deriving DecidableEq
def Protest.c(x:Protest):List Go.Sw.A:=[I x.Case,I x.By,I x.Fee,I x.Form]
structure Ruling where
  Case:Int
  Instance:Int
  Kind:Int
  Bib:Int
  Position:Int
  Amount:Int
  deriving DecidableEq
def Ruling.c(x:Ruling):List Go.Sw.A:=[I x.Case,I x.Instance,I x.Kind,I x.Bib,I x.Position,I x.Amount]
structure Appeal where
  Case:Int
  Suspends:Bool
  deriving DecidableEq
def Appeal.c(x:Appeal):List Go.Sw.A:=[I x.Case,.bool x.Suspends]
structure Ref where
  Crew:Int
  No:Int
  deriving DecidableEq
def Ref.c(x:Ref):List Go.Sw.A:=[I x.Crew,I x.No]
structure Fact where
  Crew:Int
  No:Int
  At:Int
  Kind:Int
  Starter:Starter
  Read:Read
  Beacon:Beacon
  Sync:Sync
  Hand:Hand
  Silence:Silence
  Pair:Pair
  Report:Report
  Protest:Protest
  Ruling:Ruling
  Appeal:Appeal
  Void:Ref
  deriving DecidableEq
def Fact.c(x:Fact):List Go.Sw.A:=[I x.Crew,I x.No,I x.At,I x.Kind,I x.Starter.Bib,I x.Starter.Distance,I x.Starter.Wave,I x.Starter.Slot,I x.Starter.Age,I x.Starter.Chip,I x.Starter.Team,I x.Starter.Lot,I x.Read.Mat,I x.Read.Epoch,I x.Read.Chip,I x.Read.Local,I x.Beacon.Mat,I x.Beacon.Epoch,I x.Beacon.Local,I x.Beacon.True,I x.Beacon.Err,I x.Sync.MatA,I x.Sync.EpochA,I x.Sync.LocalA,I x.Sync.MatB,I x.Sync.EpochB,I x.Sync.LocalB,I x.Sync.Min,I x.Sync.Max,I x.Hand.Bib,I x.Hand.Position,I x.Hand.Lo,I x.Hand.Hi,I x.Silence.Mat,I x.Silence.Epoch,I x.Silence.Lo,I x.Silence.Hi,I x.Pair.A,I x.Pair.B,I x.Report.Case,I x.Report.Bib,I x.Report.Offence,I x.Report.Position,I x.Protest.Case,I x.Protest.By,I x.Protest.Fee,I x.Protest.Form,I x.Ruling.Case,I x.Ruling.Instance,I x.Ruling.Kind,I x.Ruling.Bib,I x.Ruling.Position,I x.Ruling.Amount,I x.Appeal.Case,.bool x.Appeal.Suspends,I x.Void.Crew,I x.Void.No]
abbrev Un:Part:={Mat:=0,Laps:=0,Parts:=[]}
abbrev Uj:Cond:={Kind:=0,Var:=0,N:=0,Parts:=[]}
abbrev Uu:Step:={Kind:=0,By:=0,Cond:=Uj,Then:=[],Else:=[]}
abbrev Ut:Starter:={Bib:=0,Distance:=0,Wave:=0,Slot:=0,Age:=0,Chip:=0,Team:=0,Lot:=0}
abbrev Up:Read:={Mat:=0,Epoch:=0,Chip:=0,Local:=0}
abbrev Ui:Beacon:={Mat:=0,Epoch:=0,Local:=0,True:=0,Err:=0}
abbrev Uv:Sync:={MatA:=0,EpochA:=0,LocalA:=0,MatB:=0,EpochB:=0,LocalB:=0,Min:=0,Max:=0}
abbrev Um:Hand:={Bib:=0,Position:=0,Lo:=0,Hi:=0}
abbrev Us:Silence:={Mat:=0,Epoch:=0,Lo:=0,Hi:=0}
abbrev Uq:Report:={Case:=0,Bib:=0,Offence:=0,Position:=0}
abbrev Uo:Protest:={Case:=0,By:=0,Fee:=0,Form:=0}
abbrev Ur:Ruling:={Case:=0,Instance:=0,Kind:=0,Bib:=0,Position:=0,Amount:=0}
abbrev Uk:Fact:={Crew:=0,No:=0,At:=0,Kind:=0,Starter:=Ut,Read:=Up,Beacon:=Ui,Sync:=Uv,Hand:=Um,Silence:=Us,Pair:={A:=0,B:=0:Pair},Report:=Uq,Protest:=Uo,Ruling:=Ur,Appeal:={Case:=0,Suspends:=false:Appeal},Void:={Crew:=0,No:=0:Ref}}
structure Ue where
  from_:Int
  to_:Int
  deriving DecidableEq
def Ue.c(x:Ue):List Go.Sw.A:=[I x.from_,I x.to_]
structure Ug where
  distance:Int
  category:Int
  rank:Int
  deriving DecidableEq
def Ug.c(x:Ug):List Go.Sw.A:=[I x.distance,I x.category,I x.rank]
structure Uh where
  Step:Step
def Uh.c(x:Uh):List Go.Sw.A:=[I x.Step.Kind,I x.Step.By,I x.Step.Cond.Kind,I x.Step.Cond.Var,I x.Step.Cond.N,.rsl 4 (map Cond.enc x.Step.Cond.Parts),.rsl 8 (map Step.enc x.Step.Then),.rsl 8 (map Step.enc x.Step.Else)]
structure Uc where
  Cond:Cond
def Uc.c(x:Uc):List Go.Sw.A:=[I x.Cond.Kind,I x.Cond.Var,I x.Cond.N,.rsl 4 (map Cond.enc x.Cond.Parts)]
inductive Uf where
  |ctyping_step (x:Uh)
  |ctyping_cond (x:Uc)
def Uf.val:Uf->A
  |.ctyping_step x=>.iface 249 (.agg (Uh.c x))
  |.ctyping_cond x=>.iface 301 (.agg (Uc.c x))
def Uf.enc(x:Uf):List A:=[x.val]
def Uf.elim{R:Type}(e:Uf)(f0:Uh->Option R)(f1:Uc->Option R):Option R:=match e with
  |.ctyping_step x=>f0 x
  |.ctyping_cond x=>f1 x
theorem Uf.data(x:Uf):YL x.val=true:=by cases x<;>rfl
theorem JY(e:Uf):(∃x,e=.ctyping_step x)\/(∃x,e=.ctyping_cond x):=by cases e<;>simp
theorem JN{R:Type}{e:Uf}{x:Uh}{f0:Uh->Option R}{f1:Uc->Option R}{r:R}(hE:e=.ctyping_step x)(h:Uf.elim e f0 f1=some r):f0 x=some r:=by subst hE;exact h
theorem JM{R:Type}{e:Uf}{x:Uc}{f0:Uh->Option R}{f1:Uc->Option R}{r:R}(hE:e=.ctyping_cond x)(h:Uf.elim e f0 f1=some r):f1 x=some r:=by subst hE;exact h
structure Ud where
  steps:Int
  conds:Int
  deriving DecidableEq
def Ud.c(x:Ud):List Go.Sw.A:=[I x.steps,I x.conds]
structure Ua where
  least:Int
  most:Int
  deriving DecidableEq
def Ua.c(x:Ua):List Go.Sw.A:=[I x.least,I x.most]
structure Value where
  Kind:Int
  N:Int
  S:List UInt8
  L:List Value
mutual
def Value.enc:Value->List A
  |⟨x0,x1,x2,x3⟩=>[I x0,I x1,.str x2,.rsl 4 (Value.encs x3)]
def Value.encs:List Value->List (List A)
  |[]=>[]
  |x::l=>Value.enc x::Value.encs l
end
theorem Qhf(l:List Value):Value.encs l=map Value.enc l:=by induction l with|nil=>simp[Value.encs]|cons x l h=>simp[Value.encs,h]
def Value.c(x:Value):List Go.Sw.A:=[I x.Kind,I x.N,.str x.S,.rsl 4 (map Value.enc x.L)]
theorem Jc(x:Value):Value.enc x=Value.c x:=by cases x;simp[Value.enc,Value.c,Qhf]
abbrev Uw:Value:={Kind:=0,N:=0,S:=[],L:=[]}
abbrev Ub:=Fil Fact Report
abbrev Ub.K:FK Fact Report:={T:=200,tF:=68,kF:=57,tR:=60,kR:=4,eF:=Fact.c,eR:=Report.c}
def Ub.c(x:Ub):List Go.Sw.A:=[I x.number,.rsl 57 (map Fact.c x.r0),.rsl 57 (map Fact.c x.r1),.rsl 57 (map Fact.c x.r2),.rsl 4 (map Report.c x.reports),.bool x.appeal]
def Ub.ptr(x:Ub):List Go.Sw.A:=[.rp (Ub.c x)]
abbrev Ul:Faults:={Misses:=0,Strays:=0,Window:=0,Residual:=0,Drift:=0}
theorem el_74:Q1 prog 74 111 3:=⟨runUnderlying74,sizeOf111,⟨_,zeroValue111,rfl⟩,⟨_,typeInfo111,by decide⟩⟩
theorem el_22:Q1 prog 22 79 2:=⟨runUnderlying22,sizeOf79,⟨_,zeroValue79,rfl⟩,⟨_,typeInfo79,by decide⟩⟩
theorem el_23:Q1 prog 23 113 4:=⟨GA,sizeOf113,⟨_,zeroValue113,rfl⟩,⟨_,typeInfo113,by decide⟩⟩
theorem el_24:Q1 prog 24 77 5:=⟨GB,sizeOf77,⟨_,zeroValue77,rfl⟩,⟨_,typeInfo77,by decide⟩⟩
theorem el_25:Q1 prog 25 115 2:=⟨runUnderlying25,sizeOf115,⟨_,zeroValue115,rfl⟩,⟨_,typeInfo115,by decide⟩⟩
theorem el_29:Q1 prog 29 120 8:=⟨Gs,GG,⟨_,zeroValue120,rfl⟩,⟨_,typeInfo120,by decide⟩⟩
theorem YF:Q1 prog 34 68 57:=⟨EA,EB,⟨_,Gj,rfl⟩,⟨_,typeInfo68,by decide⟩⟩
theorem YZ:Q1 prog 204 5 1:=⟨EH,E5,⟨_,zeroValue5,rfl⟩,⟨_,typeInfo5,by decide⟩⟩
theorem QcT:JG prog 9 A.str:=JG.str Gh
theorem Qv:Q1 prog 40 3 1:=⟨EC,EF,⟨_,GF,rfl⟩,⟨_,typeInfo3,by decide⟩⟩
theorem QoO:prog.underlying 125=some (.struct (prog.fieldsOf 125)):=by kernel_rfl
theorem Qrg:prog.stoodInHeld 125=false:=by kernel_rfl
theorem Qft:JG prog 125 (λx=>A.agg (Ue.c x)):=by
  refine JG.struct QoO Zf (λx y h=>?_) (λw em x=>?_) (λw x y=>?_) (λx=>?_)
  · cases x;cases y
    simpa[Q0,Jf,Ue.c]using h
  · simp only[Q0,Jf,Ue.c]
    rw[show(10000:Nat)=9998+1+1 from rfl];generalize(9998:Nat)=d;simp[Instr.checkKey,runUnderlying125,EL,Result.andThen,EF,ED,part]
  · have u3:=Gk
    have a3:=ED;have z3:=EF;simp only[Q0,Jf,Ue.c,Op.equal,Op.maxDepth];rw[show(10000:Nat)=9999+1 from Z,run_equalIn_agg w 9999 125 _ _ QoO Qrg];simp only[Program.fieldsOf,underlying125]
    go_simp
    cases x;cases y;simp
    repeat' split
    all_goals simp_all
  · simp[Q0,Jf,Ue.c,Instr.sameBits]
theorem QoN:prog.underlying 187=some (.struct (prog.fieldsOf 187)):=by kernel_rfl
theorem Qrf:prog.stoodInHeld 187=false:=by kernel_rfl
theorem Qqb:JG prog 187 (λx=>A.agg (Ug.c x)):=by
  refine JG.struct QoN Zf (λx y h=>?_) (λw em x=>?_) (λw x y=>?_) (λx=>?_)
  · cases x;cases y
    simpa[Q0,Jf,Ug.c]using h
  · simp only[Q0,Jf,Ug.c]
    rw[show(10000:Nat)=9998+1+1 from rfl];generalize(9998:Nat)=d;simp[Instr.checkKey,runUnderlying187,EL,Result.andThen,EF,ED,part]
  · have u3:=Gk
    have a3:=ED;have z3:=EF;simp only[Q0,Jf,Ug.c,Op.equal,Op.maxDepth];rw[show(10000:Nat)=9999+1 from Z,run_equalIn_agg w 9999 187 _ _ QoN Qrf];simp only[Program.fieldsOf,underlying187]
    go_simp
    cases x;cases y;simp
    repeat' split
    all_goals simp_all
  · simp[Q0,Jf,Ug.c,Instr.sameBits]
theorem Qdf:Q1 prog 190 246 1:=⟨E8,sizeOf246,⟨_,zeroValue246,rfl⟩,⟨_,typeInfo246,by decide⟩⟩
theorem JF:JG prog 3 (λx=>A.int .i64 x):=JG.int Gk
theorem QqU:prog.underlying 66=some (.struct (prog.fieldsOf 66)):=by kernel_rfl
theorem ns_66:prog.stoodInHeld 66=false:=by kernel_rfl
theorem QoB:JG prog 66 (λx=>A.agg (Ref.c x)):=by
  refine JG.struct QqU Zf (λx y h=>?_) (λw em x=>?_) (λw x y=>?_) (λx=>?_)
  · cases x;cases y
    simpa[Q0,Jf,Ref.c]using h
  · simp only[Q0,Jf,Ref.c]
    rw[show(10000:Nat)=9998+1+1 from rfl];generalize(9998:Nat)=d;simp[Instr.checkKey,runUnderlying66,EL,Result.andThen,EF,ED,part]
  · have u3:=Gk
    have a3:=ED;have z3:=EF;simp only[Q0,Jf,Ref.c,Op.equal,Op.maxDepth];rw[show(10000:Nat)=9999+1 from Z,run_equalIn_agg w 9999 66 _ _ QqU ns_66];simp only[Program.fieldsOf,Gy]
    go_simp
    cases x;cases y;simp
    repeat' split
    all_goals simp_all
  · simp[Q0,Jf,Ref.c,Instr.sameBits]
theorem Qj3:QI prog 68 14 53 2:=FA EP rfl sizeOf64
theorem Qql:QI prog 64 1 1 1:=FA runUnderlying64 rfl Gi
theorem QdO:QI prog 68 3 3 1:=FA EP rfl EF
theorem Qqj:QI prog 68 4 4 8:=FA EP rfl EM
theorem QmE:QI prog 46 0 0 1:=FA GC rfl EF
theorem QmD:QI prog 46 1 1 1:=FA GC rfl EF
theorem QmC:QI prog 46 5 5 1:=FA GC rfl EF
theorem JP:Q1 prog 218 230 3:=⟨E9,GH,⟨_,zeroValue230,rfl⟩,⟨_,typeInfo230,by decide⟩⟩
theorem Qgo:QI prog 68 11 39 4:=FA EP rfl sizeOf60
theorem QmB:QI prog 60 0 0 1:=FA runUnderlying60 rfl EF
theorem Qcj:QI prog 68 12 43 4:=FA EP rfl sizeOf36
theorem QdR:QI prog 36 0 0 1:=FA runUnderlying36 rfl EF
theorem Jp:QI prog 68 13 47 6:=FA EP rfl sizeOf62
theorem QmA:QI prog 62 0 0 1:=FA GD rfl EF
theorem QbM:QI prog 62 1 1 1:=FA GD rfl EF
theorem Qmz:QI prog 62 3 3 1:=FA GD rfl EF
theorem Qqm:QI prog 64 0 0 1:=FA runUnderlying64 rfl EF
inductive U_facts_open_rxk where
  |c0 (x:Unit)
  |c1 (x:Unit)
  |c2 (x:Unit)
  |c3 (x:Unit)
  |c4 (x:Unit)
  |c5 (x:Unit)
  |c6 (x:Unit)
  |c7 (x:Unit)
  |c8 (x:Unit)
  |c9 (x:Int×Int×Int×Int×Int×Int)
  |c10 (x:Unit)
  |c11 (x:Unit)
  |c12 (x:Unit)
  |c13 (x:Unit)
theorem Qqk:QI prog 68 0 0 1:=FA EP rfl EF
theorem QdQ:QI prog 68 1 1 1:=FA EP rfl EF
theorem QdP:QI prog 68 2 2 1:=FA EP rfl EF
theorem QoY:QI prog 230 0 0 1:=FA runUnderlying230 rfl sizeOf224
def Fact.put(x:Fact)(o:Nat)(v:Int):Option Fact:=match o with
  |0=>some {x with Crew:=v}
  |1=>some {x with No:=v}
  |2=>some {x with At:=v}
  |3=>some {x with Kind:=v}
  |4=>some {x with Starter:={x.Starter with Bib:=v}}
  |5=>some {x with Starter:={x.Starter with Distance:=v}}
  |6=>some {x with Starter:={x.Starter with Wave:=v}}
  |7=>some {x with Starter:={x.Starter with Slot:=v}}
  |8=>some {x with Starter:={x.Starter with Age:=v}}
  |9=>some {x with Starter:={x.Starter with Chip:=v}}
  |10=>some {x with Starter:={x.Starter with Team:=v}}
  |11=>some {x with Starter:={x.Starter with Lot:=v}}
  |12=>some {x with Read:={x.Read with Mat:=v}}
  |13=>some {x with Read:={x.Read with Epoch:=v}}
  |14=>some {x with Read:={x.Read with Chip:=v}}
  |15=>some {x with Read:={x.Read with Local:=v}}
  |16=>some {x with Beacon:={x.Beacon with Mat:=v}}
  |17=>some {x with Beacon:={x.Beacon with Epoch:=v}}
  |18=>some {x with Beacon:={x.Beacon with Local:=v}}
  |19=>some {x with Beacon:={x.Beacon with True:=v}}
  |20=>some {x with Beacon:={x.Beacon with Err:=v}}
  |21=>some {x with Sync:={x.Sync with MatA:=v}}
  |22=>some {x with Sync:={x.Sync with EpochA:=v}}
  |23=>some {x with Sync:={x.Sync with LocalA:=v}}
  |24=>some {x with Sync:={x.Sync with MatB:=v}}
  |25=>some {x with Sync:={x.Sync with EpochB:=v}}
  |26=>some {x with Sync:={x.Sync with LocalB:=v}}
  |27=>some {x with Sync:={x.Sync with Min:=v}}
  |28=>some {x with Sync:={x.Sync with Max:=v}}
  |29=>some {x with Hand:={x.Hand with Bib:=v}}
  |30=>some {x with Hand:={x.Hand with Position:=v}}
  |31=>some {x with Hand:={x.Hand with Lo:=v}}
  |32=>some {x with Hand:={x.Hand with Hi:=v}}
  |33=>some {x with Silence:={x.Silence with Mat:=v}}
  |34=>some {x with Silence:={x.Silence with Epoch:=v}}
  |35=>some {x with Silence:={x.Silence with Lo:=v}}
  |36=>some {x with Silence:={x.Silence with Hi:=v}}
  |37=>some {x with Pair:={x.Pair with A:=v}}
  |38=>some {x with Pair:={x.Pair with B:=v}}
  |39=>some {x with Report:={x.Report with Case:=v}}
  |40=>some {x with Report:={x.Report with Bib:=v}}
  |41=>some {x with Report:={x.Report with Offence:=v}}
  |42=>some {x with Report:={x.Report with Position:=v}}
  |43=>some {x with Protest:={x.Protest with Case:=v}}
  |44=>some {x with Protest:={x.Protest with By:=v}}
  |45=>some {x with Protest:={x.Protest with Fee:=v}}
  |46=>some {x with Protest:={x.Protest with Form:=v}}
  |47=>some {x with Ruling:={x.Ruling with Case:=v}}
  |48=>some {x with Ruling:={x.Ruling with Instance:=v}}
  |49=>some {x with Ruling:={x.Ruling with Kind:=v}}
  |50=>some {x with Ruling:={x.Ruling with Bib:=v}}
  |51=>some {x with Ruling:={x.Ruling with Position:=v}}
  |52=>some {x with Ruling:={x.Ruling with Amount:=v}}
  |53=>some {x with Appeal:={x.Appeal with Case:=v}}
  |55=>some {x with Void:={x.Void with Crew:=v}}
  |56=>some {x with Void:={x.Void with No:=v}}
  |_=>none
theorem Qrb:∀(x:Fact) (o:Nat) (v:Int) (y:Fact),Fact.put x o v=some y->Fact.c y=(Fact.c x).set o (I v)/\o<(Fact.c x).length:=by
  intro x o v y h;unfold Fact.put at h;split at h<;>first|(cases h;exact⟨Z,XO Z⟩)|cases h
theorem nt_68:prog.stoodInHeld 68=false:=by kernel_rfl
theorem QqQ:prog.stoodInHeld 66=false:=by kernel_rfl
theorem Yo(h:Nat):Qi7 prog 3 (h+1) 1 false (λl=>∃x:Int,l=[Value.int .i64 x]):=Qi7.int Gk ED EF h
theorem nt_64:prog.stoodInHeld 64=false:=by kernel_rfl
theorem ei_4(h:Nat):Qi7 prog 4 (h+1) 1 false (λl=>∃x:Bool,l=[Value.bool x]):=Qi7.bool underlying4 GI Gi h
theorem nt_62:prog.stoodInHeld 62=false:=by kernel_rfl
theorem nt_36:prog.stoodInHeld 36=false:=by kernel_rfl
theorem nt_60:prog.stoodInHeld 60=false:=by kernel_rfl
theorem nt_58:prog.stoodInHeld 58=false:=by kernel_rfl
theorem nt_56:prog.stoodInHeld 56=false:=by kernel_rfl
theorem nt_54:prog.stoodInHeld 54=false:=by kernel_rfl
theorem nt_52:prog.stoodInHeld 52=false:=by kernel_rfl
theorem nt_50:prog.stoodInHeld 50=false:=by kernel_rfl
theorem nt_48:prog.stoodInHeld 48=false:=by kernel_rfl
theorem nt_46:prog.stoodInHeld 46=false:=by kernel_rfl
theorem QlH:EqD prog 68 Fact.c:=by
  refine QmX (Q3 underlying68 nt_68 EJ EB (Ql6.c Yo (Ql6.c Yo (Ql6.c Yo (Ql6.c Yo (Ql6.cons Z (by decide) (Q3 underlying46 nt_46 isAgg46 EM (Ql6.c Yo (Ql6.c Yo (Ql6.c Yo (Ql6.c Yo (Ql6.c Yo (Ql6.c Yo (Ql6.c Yo (Ql6.c Yo (Ql6.nil 1 _)))))))))) (λe=>Bool.noConfusion e) (Ql6.cons Z (by decide) (Q3 underlying48 nt_48 isAgg48 sizeOf48 (Ql6.c Yo (Ql6.c Yo (Ql6.c Yo (Ql6.c Yo (Ql6.nil 1 _)))))) (λe=>Bool.noConfusion e) (Ql6.cons Z (by decide) (Q3 underlying50 nt_50 isAgg50 sizeOf50 (Ql6.c Yo (Ql6.c Yo (Ql6.c Yo (Ql6.c Yo (Ql6.c Yo (Ql6.nil 1 _))))))) (λe=>Bool.noConfusion e) (Ql6.cons Z (by decide) (Q3 underlying52 nt_52 isAgg52 sizeOf52 (Ql6.c Yo (Ql6.c Yo (Ql6.c Yo (Ql6.c Yo (Ql6.c Yo (Ql6.c Yo (Ql6.c Yo (Ql6.c Yo (Ql6.nil 1 _)))))))))) (λe=>Bool.noConfusion e) (Ql6.cons Z (by decide) (Q3 underlying54 nt_54 isAgg54 sizeOf54 (Ql6.c Yo (Ql6.c Yo (Ql6.c Yo (Ql6.c Yo (Ql6.nil 1 _)))))) (λe=>Bool.noConfusion e) (Ql6.cons Z (by decide) (Q3 underlying56 nt_56 isAgg56 sizeOf56 (Ql6.c Yo (Ql6.c Yo (Ql6.c Yo (Ql6.c Yo (Ql6.nil 1 _)))))) (λe=>Bool.noConfusion e) (Ql6.cons Z (by decide) (Q3 underlying58 nt_58 isAgg58 sizeOf58 (Ql6.c Yo (Ql6.c Yo (Ql6.nil 1 _)))) (λe=>Bool.noConfusion e) (Ql6.cons Z (by decide) (Q3 underlying60 nt_60 isAgg60 sizeOf60 (Ql6.c Yo (Ql6.c Yo (Ql6.c Yo (Ql6.c Yo (Ql6.nil 1 _)))))) (λe=>Bool.noConfusion e) (Ql6.cons Z (by decide) (Q3 underlying36 nt_36 isAgg36 sizeOf36 (Ql6.c Yo (Ql6.c Yo (Ql6.c Yo (Ql6.c Yo (Ql6.nil 1 _)))))) (λe=>Bool.noConfusion e) (Ql6.cons Z (by decide) (Q3 underlying62 nt_62 isAgg62 sizeOf62 (Ql6.c Yo (Ql6.c Yo (Ql6.c Yo (Ql6.c Yo (Ql6.c Yo (Ql6.c Yo (Ql6.nil 1 _)))))))) (λe=>Bool.noConfusion e) (Ql6.cons Z (by decide) (Q3 underlying64 nt_64 isAgg64 sizeOf64 (Ql6.c Yo (Ql6.c ei_4 (Ql6.nil 1 _)))) (λe=>Bool.noConfusion e) (Ql6.cons Z (by decide) (Q3 Gy QqQ isAgg66 Gv (Ql6.c Yo (Ql6.c Yo (Ql6.nil 1 _)))) (λe=>Bool.noConfusion e) (Ql6.nil 2 _)))))))))))))))))) Z (λx=>⟨[_],_,Z,⟨_,Z⟩,[_],_,Z,⟨_,Z⟩,[_],_,Z,⟨_,Z⟩,[_],_,Z,⟨_,Z⟩,[_,_,_,_,_,_,_,_],_,Z,⟨[_],_,Z,⟨_,Z⟩,[_],_,Z,⟨_,Z⟩,[_],_,Z,⟨_,Z⟩,[_],_,Z,⟨_,Z⟩,[_],_,Z,⟨_,Z⟩,[_],_,Z,⟨_,Z⟩,[_],_,Z,⟨_,Z⟩,[_],_,Z,⟨_,Z⟩,Z⟩,[_,_,_,_],_,Z,⟨[_],_,Z,⟨_,Z⟩,[_],_,Z,⟨_,Z⟩,[_],_,Z,⟨_,Z⟩,[_],_,Z,⟨_,Z⟩,Z⟩,[_,_,_,_,_],_,Z,⟨[_],_,Z,⟨_,Z⟩,[_],_,Z,⟨_,Z⟩,[_],_,Z,⟨_,Z⟩,[_],_,Z,⟨_,Z⟩,[_],_,Z,⟨_,Z⟩,Z⟩,[_,_,_,_,_,_,_,_],_,Z,⟨[_],_,Z,⟨_,Z⟩,[_],_,Z,⟨_,Z⟩,[_],_,Z,⟨_,Z⟩,[_],_,Z,⟨_,Z⟩,[_],_,Z,⟨_,Z⟩,[_],_,Z,⟨_,Z⟩,[_],_,Z,⟨_,Z⟩,[_],_,Z,⟨_,Z⟩,Z⟩,[_,_,_,_],_,Z,⟨[_],_,Z,⟨_,Z⟩,[_],_,Z,⟨_,Z⟩,[_],_,Z,⟨_,Z⟩,[_],_,Z,⟨_,Z⟩,Z⟩,[_,_,_,_],_,Z,⟨[_],_,Z,⟨_,Z⟩,[_],_,Z,⟨_,Z⟩,[_],_,Z,⟨_,Z⟩,[_],_,Z,⟨_,Z⟩,Z⟩,[_,_],_,Z,⟨[_],_,Z,⟨_,Z⟩,[_],_,Z,⟨_,Z⟩,Z⟩,[_,_,_,_],_,Z,⟨[_],_,Z,⟨_,Z⟩,[_],_,Z,⟨_,Z⟩,[_],_,Z,⟨_,Z⟩,[_],_,Z,⟨_,Z⟩,Z⟩,[_,_,_,_],_,Z,⟨[_],_,Z,⟨_,Z⟩,[_],_,Z,⟨_,Z⟩,[_],_,Z,⟨_,Z⟩,[_],_,Z,⟨_,Z⟩,Z⟩,[_,_,_,_,_,_],_,Z,⟨[_],_,Z,⟨_,Z⟩,[_],_,Z,⟨_,Z⟩,[_],_,Z,⟨_,Z⟩,[_],_,Z,⟨_,Z⟩,[_],_,Z,⟨_,Z⟩,[_],_,Z,⟨_,Z⟩,Z⟩,[_,_],_,Z,⟨[_],_,Z,⟨_,Z⟩,[_],_,Z,⟨_,Z⟩,Z⟩,[_,_],_,Z,⟨[_],_,Z,⟨_,Z⟩,[_],_,Z,⟨_,Z⟩,Z⟩,Z⟩) Zf (λx y h=>?_) (by kernel_rfl);obtain⟨_,_,_,_,⟨_,_,_,_,_,_,_,_⟩,⟨_,_,_,_⟩,⟨_,_,_,_,_⟩,⟨_,_,_,_,_,_,_,_⟩,⟨_,_,_,_⟩,⟨_,_,_,_⟩,⟨_,_⟩,⟨_,_,_,_⟩,⟨_,_,_,_⟩,⟨_,_,_,_,_,_⟩,⟨_,_⟩,⟨_,_⟩⟩:=x;obtain⟨_,_,_,_,⟨_,_,_,_,_,_,_,_⟩,⟨_,_,_,_⟩,⟨_,_,_,_,_⟩,⟨_,_,_,_,_,_,_,_⟩,⟨_,_,_,_⟩,⟨_,_,_,_⟩,⟨_,_⟩,⟨_,_,_,_⟩,⟨_,_,_,_⟩,⟨_,_,_,_,_,_⟩,⟨_,_⟩,⟨_,_⟩⟩:=y;simpa[Q0,Jf,Fact.c,Starter.c,Read.c,Beacon.c,Sync.c,Hand.c,Silence.c,Pair.c,Report.c,Protest.c,Ruling.c,Appeal.c,Ref.c,and_assoc]using h
theorem Qon:QeI prog 260 [(0,1),(1,1),(2,1),(3,1)]:=⟨_,runUnderlying260,(Ef EF (Ef EF (Ef GO (Ef sizeOf258 PL.nil))))⟩
theorem QiR:Q1 prog 258 260 4:=⟨EX,Gq,⟨_,Gu,rfl⟩,⟨_,typeInfo260,by decide⟩⟩
theorem Qj4:QI prog 260 2 2 1:=FA runUnderlying260 rfl GO
theorem QiS:Q1 prog 194 196 1:=⟨EU,Gr,⟨_,zeroValue196,rfl⟩,⟨_,typeInfo196,by decide⟩⟩
theorem Qj5:QI prog 200 0 0 1:=FA Ga rfl EF
theorem Qrd:QeI prog 200 [(0,1),(1,3),(4,1),(5,1)]:=⟨_,Ga,(Ef EF (Ef sizeOf197 (Ef sizeOf198 (Ef Gi PL.nil))))⟩
theorem QaS:QI prog 200 1 1 3:=FA Ga rfl sizeOf197
theorem QgL:Q1 prog 130 66 2:=⟨Gb,Gv,⟨_,zeroValue66,rfl⟩,⟨_,typeInfo66,by decide⟩⟩
theorem Qrz:Q1 prog 103 102 1:=⟨Gd,E7,⟨_,zeroValue102,rfl⟩,⟨_,typeInfo102,by decide⟩⟩
theorem Qlf(m:List (Int×Fact))(hl:Nat.ble (map Prod.fst m).length QC=true):C prog 75 [.fn (.func 193) [] [.ptr 0 0]] [.cells 134 [.map 1],.fmap (Qx (λx=>A.int .i64 x) (λx=>A.agg (Fact.c x)) m)] (λr H=>∃p:List Int,p.Perm (map Prod.fst m)/\r=.osl 2 0 p.length 1/\H=[.dead,.fmap (Qx (λx=>A.int .i64 x) (λx=>A.agg (Fact.c x)) m),.row 3 1 (map (Qe .i64) p)]):=
  Qib func75 Z Z Z (λenv H h=>OpC.fn (xs:=[.const (.slice none 0 0),.tmp 3]) call152 Z Z (by show[_,lk env 3]=_;rw[h];rfl)) (Qic func152 Z Z Z Qv isAgg40 sizeOf40 call193 (QgR func193 Z Z Z isAgg134 Gm Zf) hl Zf Zf Zf Zf Zf)
theorem QcY:Q1 prog 89 46 8:=⟨EG,EM,⟨_,zeroValue46,rfl⟩,⟨_,typeInfo46,by decide⟩⟩
theorem Qna(m:List (Int×Bool))(hl:Nat.ble (map Prod.fst m).length QC=true):C prog 75 [.fn (.func 77) [] [.ptr 0 0]] [.cells 88 [.map 1],.fmap (Qx (λx=>A.int .i64 x) A.bool m)] (λr H=>∃p:List Int,p.Perm (map Prod.fst m)/\r=.osl 2 0 p.length 1/\H=[.dead,.fmap (Qx (λx=>A.int .i64 x) A.bool m),.row 3 1 (map (Qe .i64) p)]):=
  Qib func75 Z Z Z (λenv H h=>OpC.fn (xs:=[.const (.slice none 0 0),.tmp 3]) call152 Z Z (by show[_,lk env 3]=_;rw[h];rfl)) (Qic func152 Z Z Z Qv isAgg40 sizeOf40 call77 (QgR func77 Z Z Z isAgg88 EQ Zf) hl Zf Zf Zf Zf Zf)
theorem Qry:Q1 prog 116 118 4:=⟨runUnderlying116,sizeOf118,⟨_,zeroValue118,rfl⟩,⟨_,typeInfo118,by decide⟩⟩
theorem JQ:Q1 prog 209 9 1:=⟨EV,GO,⟨_,zeroValue9,rfl⟩,⟨_,typeInfo9,by decide⟩⟩
theorem Qrx:EqD prog 66 Ref.c:=by
  refine QmX (Q3 Gy QqQ isAgg66 Gv (Ql6.c Yo (Ql6.c Yo (Ql6.nil 1 _)))) Z (λx=>⟨[_],_,Z,⟨_,Z⟩,[_],_,Z,⟨_,Z⟩,Z⟩) Zf (λx y h=>?_) (by kernel_rfl);obtain⟨_,_⟩:=x;obtain⟨_,_⟩:=y;simpa[Q0,Jf,Ref.c,and_assoc]using h
theorem QL{n:Nat}:RB prog n 3 Int (λx=>[A.int .i64 x]) (Qs .i64):=RB.int Gk
def tyT:TyI:={fld:=[(77,0,0),(111,2,2),(33,1,1),(33,2,2),(33,3,3),(33,4,4),(33,5,5),(33,6,6),(33,7,7),(77,1,1),(77,3,3),(79,0,0),(115,0,0),(156,0,0),(160,0,0),(33,0,0),(79,1,1),(113,0,0),(113,1,1),(113,2,2),(113,3,3),(111,1,1),(111,0,0),(166,0,0),(166,1,1),(166,2,2),(77,2,2),(77,4,4),(115,1,1),(156,3,3),(156,1,1),(156,2,2),(160,1,1),(160,2,2),(172,0,0),(172,1,1),(172,2,2),(172,3,3),(33,9,9),(31,0,0),(31,1,1),(31,2,2),(31,3,3),(31,4,4),(33,10,14),(33,11,15),(301,0,0),(118,0,0),(118,1,1),(118,2,2),(118,3,3),(249,0,0),(120,3,6),(120,4,7),(242,0,0),(120,2,2),(242,1,1),(120,0,0),(120,1,1),(33,8,8),(68,3,3),(68,4,4),(46,0,0),(46,1,1),(46,2,2),(46,3,3),(46,4,4),(46,5,5),(46,6,6),(46,7,7),(68,5,12),(48,0,0),(48,1,1),(48,2,2),(48,3,3),(68,6,16),(50,0,0),(50,1,1),(50,2,2),(50,3,3),(50,4,4),(68,7,21),(52,0,0),(52,1,1),(52,2,2),(52,3,3),(52,4,4),(52,5,5),(52,6,6),(52,7,7),(68,8,29),(54,0,0),(54,1,1),(54,2,2),(54,3,3),(68,9,33),(56,0,0),(56,1,1),(56,2,2),(56,3,3),(68,10,37),(58,0,0),(58,1,1),(68,11,39),(60,0,0),(60,1,1),(60,2,2),(60,3,3),(68,12,43),(36,0,0),(36,1,1),(36,2,2),(36,3,3),(68,13,47),(62,2,2),(62,0,0),(62,1,1),(62,3,3),(62,4,4),(62,5,5),(68,14,53),(64,0,0),(68,15,55),(66,0,0),(66,1,1),(68,0,0),(68,1,1),(68,2,2),(220,0,0),(64,1,1),(220,1,1),(230,0,0),(230,1,1),(228,0,0),(228,1,1),(260,2,2),(260,3,3),(260,1,1),(260,0,0),(312,0,0),(102,0,0)],agg:=[(77,true,5),(9,false,1),(33,true,16),(111,true,3),(74,false,1),(22,false,1),(23,false,1),(24,false,1),(25,false,1),(26,false,1),(27,false,1),(28,false,1),(75,false,1),(5,false,1),(79,true,2),(115,true,2),(156,true,4),(160,true,3),(3,false,1),(175,false,1),(169,false,1),(113,true,4),(125,true,2),(162,false,1),(167,false,1),(166,true,3),(128,false,1),(180,false,1),(4,false,1),(170,false,1),(183,false,1),(173,false,1),(172,true,4),(187,true,3),(31,true,5),(120,true,8),(116,false,1),(29,false,1),(118,true,4),(249,true,8),(301,true,4),(246,false,1),(193,false,1),(123,false,1),(34,false,1),(228,true,2),(220,true,2),(269,false,1),(270,false,1),(271,false,1),(272,false,1),(68,true,57),(37,false,1),(230,true,3),(224,false,1),(258,false,1),(260,true,4),(313,false,1),(310,false,1),(132,false,1),(254,false,1),(196,false,1),(251,false,1),(66,true,2),(46,true,8),(88,false,1),(36,true,4),(52,true,8),(62,true,6),(48,true,4),(50,true,5),(54,true,4),(56,true,4),(58,true,2),(60,true,4),(64,true,2)],zer:=[(111,[I 0,I 0,.rsl 3 (map Part.enc [])],[(0,1),(1,1),(2,1)]),(77,[.str [],.rsl 3 (map Part.enc []),I 0,.rsl 3 (map Cutoff.c []),I 0],[(0,1),(1,1),(2,1),(3,1),(4,1)]),(79,[.str [],I 0],[(0,1),(1,1)]),(113,[I 0,I 0,I 0,I 0],[(0,1),(1,1),(2,1),(3,1)]),(115,[.str [],I 0],[(0,1),(1,1)]),(120,[I 0,I 0,I 0,I 0,I 0,.rsl 4 (map Cond.enc []),.rsl 8 (map Step.enc []),.rsl 8 (map Step.enc [])],[(0,1),(1,1),(2,4),(6,1),(7,1)]),(33,[.str [],.rsl 2 (map Mat.c []),.rsl 4 (map Leg.c []),.rsl 5 (map Distance.c []),.rsl 2 (map Wave.c []),.rsl 4 (map Offence.c []),.rsl 3 (map Category.c []),.rsl 4 (map Prize.c []),.rsl 8 (map Step.enc []),I 0,I 0,I 0,I 0,I 0,I 0,I 0],[(0,1),(1,1),(2,1),(3,1),(4,1),(5,1),(6,1),(7,1),(8,1),(9,5),(14,1),(15,1)]),(125,[I 0,I 0],[(0,1),(1,1)]),(187,[I 0,I 0,I 0],[(0,1),(1,1),(2,1)]),(249,[I 0,I 0,I 0,I 0,I 0,.rsl 4 (map Cond.enc []),.rsl 8 (map Step.enc []),.rsl 8 (map Step.enc [])],[(0,8)]),(301,[I 0,I 0,I 0,.rsl 4 (map Cond.enc [])],[(0,4)]),(242,[I 0,I 0],[(0,1),(1,1)]),(230,[.nilp,I 0,I 0],[(0,1),(1,2)]),(228,[I 0,I 0],[(0,1),(1,1)]),(220,[.nils,.nilf],[(0,1),(1,1)]),(260,[I 0,I 0,.str [],.rsl 4 (map Value.enc [])],[(0,1),(1,1),(2,1),(3,1)]),(66,[I 0,I 0],[(0,1),(1,1)]),(102,[.nilf],[(0,1)]),(60,[I 0,I 0,I 0,I 0],[(0,1),(1,1),(2,1),(3,1)]),(68,[I 0,I 0,I 0,I 0,I 0,I 0,I 0,I 0,I 0,I 0,I 0,I 0,I 0,I 0,I 0,I 0,I 0,I 0,I 0,I 0,I 0,I 0,I 0,I 0,I 0,I 0,I 0,I 0,I 0,I 0,I 0,I 0,I 0,I 0,I 0,I 0,I 0,I 0,I 0,I 0,I 0,I 0,I 0,I 0,I 0,I 0,I 0,I 0,I 0,I 0,I 0,I 0,I 0,I 0,.bool false,I 0,I 0],[(0,1),(1,1),(2,1),(3,1),(4,8),(12,4),(16,5),(21,8),(29,4),(33,4),(37,2),(39,4),(43,4),(47,6),(53,2),(55,2)]),(46,[I 0,I 0,I 0,I 0,I 0,I 0,I 0,I 0],[(0,1),(1,1),(2,1),(3,1),(4,1),(5,1),(6,1),(7,1)]),(36,[I 0,I 0,I 0,I 0],[(0,1),(1,1),(2,1),(3,1)]),(62,[I 0,I 0,I 0,I 0,I 0,I 0],[(0,1),(1,1),(2,1),(3,1),(4,1),(5,1)])]}
def tyF:List (Nat×List (Nat×Nat)):=[(31,[(0,1),(1,1),(2,1),(3,1),(4,1)]),(33,[(0,1),(1,1),(2,1),(3,1),(4,1),(5,1),(6,1),(7,1),(8,1),(9,5),(14,1),(15,1)]),(36,[(0,1),(1,1),(2,1),(3,1)]),(46,[(0,1),(1,1),(2,1),(3,1),(4,1),(5,1),(6,1),(7,1)]),(48,[(0,1),(1,1),(2,1),(3,1)]),(50,[(0,1),(1,1),(2,1),(3,1),(4,1)]),(52,[(0,1),(1,1),(2,1),(3,1),(4,1),(5,1),(6,1),(7,1)]),(54,[(0,1),(1,1),(2,1),(3,1)]),(56,[(0,1),(1,1),(2,1),(3,1)]),(58,[(0,1),(1,1)]),(60,[(0,1),(1,1),(2,1),(3,1)]),(62,[(0,1),(1,1),(2,1),(3,1),(4,1),(5,1)]),(64,[(0,1),(1,1)]),(66,[(0,1),(1,1)]),(68,[(0,1),(1,1),(2,1),(3,1),(4,8),(12,4),(16,5),(21,8),(29,4),(33,4),(37,2),(39,4),(43,4),(47,6),(53,2),(55,2)]),(77,[(0,1),(1,1),(2,1),(3,1),(4,1)]),(79,[(0,1),(1,1)]),(102,[(0,1)]),(111,[(0,1),(1,1),(2,1)]),(113,[(0,1),(1,1),(2,1),(3,1)]),(115,[(0,1),(1,1)]),(118,[(0,1),(1,1),(2,1),(3,1)]),(120,[(0,1),(1,1),(2,4),(6,1),(7,1)]),(125,[(0,1),(1,1)]),(156,[(0,1),(1,1),(2,1),(3,1)]),(160,[(0,1),(1,1),(2,1)]),(166,[(0,1),(1,1),(2,1)]),(172,[(0,1),(1,1),(2,1),(3,1)]),(187,[(0,1),(1,1),(2,1)]),(220,[(0,1),(1,1)]),(228,[(0,1),(1,1)]),(230,[(0,1),(1,2)]),(242,[(0,1),(1,1)]),(249,[(0,8)]),(260,[(0,1),(1,1),(2,1),(3,1)]),(301,[(0,4)]),(312,[(0,1)])]
def tyX:TyX:={ty:=tyT,al:=[(33,(.agg [.str [],.rsl 2 (map Mat.c []),.rsl 4 (map Leg.c []),.rsl 5 (map Distance.c []),.rsl 2 (map Wave.c []),.rsl 4 (map Offence.c []),.rsl 3 (map Category.c []),.rsl 4 (map Prize.c []),.rsl 8 (map Step.enc []),I 0,I 0,I 0,I 0,I 0,I 0,I 0])),(77,(.agg [.str [],.rsl 3 (map Part.enc []),I 0,.rsl 3 (map Cutoff.c []),I 0])),(111,(.agg [I 0,I 0,.rsl 3 (map Part.enc [])])),(79,(.agg [.str [],I 0])),(115,(.agg [.str [],I 0])),(156,(.agg [.str [],I 0,I 0,.bool false])),(160,(.agg [.str [],I 0,I 0])),(125,(.agg [I 0,I 0])),(113,(.agg [I 0,I 0,I 0,I 0])),(187,(.agg [I 0,I 0,I 0])),(172,(.agg [I 0,I 0,I 0,I 0])),(3,(I 0)),(162,.nilf),(167,.nilf),(31,(.agg [I 0,I 0,I 0,I 0,I 0])),(120,(.agg [I 0,I 0,I 0,I 0,I 0,.rsl 4 (map Cond.enc []),.rsl 8 (map Step.enc []),.rsl 8 (map Step.enc [])])),(118,(.agg [I 0,I 0,I 0,.rsl 4 (map Cond.enc [])])),(249,(.agg [I 0,I 0,I 0,I 0,I 0,.rsl 4 (map Cond.enc []),.rsl 8 (map Step.enc []),.rsl 8 (map Step.enc [])])),(301,(.agg [I 0,I 0,I 0,.rsl 4 (map Cond.enc [])])),(193,.nilm),(123,.nilm),(68,(.agg [I 0,I 0,I 0,I 0,I 0,I 0,I 0,I 0,I 0,I 0,I 0,I 0,I 0,I 0,I 0,I 0,I 0,I 0,I 0,I 0,I 0,I 0,I 0,I 0,I 0,I 0,I 0,I 0,I 0,I 0,I 0,I 0,I 0,I 0,I 0,I 0,I 0,I 0,I 0,I 0,I 0,I 0,I 0,I 0,I 0,I 0,I 0,I 0,I 0,I 0,I 0,I 0,I 0,I 0,.bool false,I 0,I 0])),(220,(.agg [.nils,.nilf])),(269,.nilp),(270,.nilp),(271,.nilp),(272,.nilp),(230,(.agg [.nilp,I 0,I 0])),(260,(.agg [I 0,I 0,.str [],.rsl 4 (map Value.enc [])])),(313,.nilp),(251,.nilm),(66,(.agg [I 0,I 0])),(4,(.bool false)),(46,(.agg [I 0,I 0,I 0,I 0,I 0,I 0,I 0,I 0])),(88,.nilm),(36,(.agg [I 0,I 0,I 0,I 0])),(34,.nils),(166,(.agg [I 0,I 0,I 0])),(48,(.agg [I 0,I 0,I 0,I 0])),(50,(.agg [I 0,I 0,I 0,I 0,I 0])),(52,(.agg [I 0,I 0,I 0,I 0,I 0,I 0,I 0,I 0])),(54,(.agg [I 0,I 0,I 0,I 0])),(56,(.agg [I 0,I 0,I 0,I 0])),(60,(.agg [I 0,I 0,I 0,I 0])),(62,(.agg [I 0,I 0,I 0,I 0,I 0,I 0]))],sl:=[204,190,40,218,34,130,89,103]}
def tyZ:TyZ:={sl:=[(74,111,3),(22,79,2),(23,113,4),(24,77,5),(25,115,2),(26,156,4),(27,160,3),(28,172,4),(75,166,3),(204,5,1),(40,3,1),(29,120,8),(116,118,4),(190,246,1),(258,260,4),(194,196,1),(34,68,57),(209,9,1),(89,46,8)],fn:=[79,213,156,82,80,84,86,88,90,81,83,85,87,89,158,215,157,92,101,164,218,163,97,166,219,165,104,93,91,160,216,159,94,162,217,161,96,95,116,178,115,106,168,220,167,98,170,221,169,109,172,222,171,99,174,223,173,112,100,102,103,53,105,107,108,110,111,114,268,224,175,245,176,246,226,225,113,117,118,55,54,49,50,51,52,194,195,196,197,198,140,67,185,256,259,258,257,261,232,186,122,121,123,124,58,184,35,183,181,230,227,229,33,120,180,119,57,20,21,36,68,37,38,8,39,138,44,65,28,66,26,27,10,40,42,69,34,41,12,45,17,15,14,18,48,19,72,148,146,145,143,144,150,149,142,147,151,70,71,73,125,126,188,127,128,129,130,189,131,191,132,190,234,192,133,134,135,136,59,60,61,62,63,263,264,265,266,241,240,43,212,211,210,155,78,46,64,24,25,22,23,32,29,30,31,11,13,5,6,7,16]}
theorem QqO:kL prog tyF tyX tyZ=kR prog tyF tyX tyZ:=by kernel_rfl
theorem Qbl:Qba prog tyX:=.ofK QqO (by kernel_rfl)
theorem QfG:QcZ prog tyZ:=.ofK QqO (QrC (by kernel_rfl))
section
variable {h0 N m n d id t et k f:Nat} {all:Array Oper} {o:Oper} {l r r' ll:List Oper} {ds:List Nat} {env env' env0:Env} {H H' H1 X:Qb} {Q:QV} {α:Type} {e:α->List A} {L:List α} {kk:IntKind} {i:Int} {v:α} {K:List Oper->Env->Qb->Prop} {xs xs':List A} {args argsc:List A} {Hc:Qb} {Hs Hs':List Qb} {bs:List Nat} {cat:Kat} {k':List Kf} {c':Cf} {hB hE:Nat} {x:A}
theorem G0{c:Code}(n:Nat)(h:Qdw tyX h0 N n (.code c) [] env H=some (c',k',env',H'))(g:Hd prog h0 N c' k' env' H' Q):TC prog h0 N c env H Q:=Qdv Qbl n h g
theorem Gc{k:List Kf}{c:Code}(n:Nat)(h:Qdw tyX h0 N n (.code c) k env H=some (c',k',env',H'))(g:Hd prog h0 N c' k' env' H' Q):TC prog h0 N c env H (kq prog h0 N k Q):=Qdv Qbl n h g
theorem Go{k:List Kf}(n:Nat)(h:Qdw tyX h0 N n (.ops all l) k env H=some (c',k',env',H'))(g:Hd prog h0 N c' k' env' H' Q):WO prog h0 N all l env H (kq prog h0 N k Q):=Qdv Qbl n h g
theorem Gx{k:List Kf}{x:AEx}(n:Nat)(h:Qdw tyX h0 N n (.out x) k env H=some (c',k',env',H'))(g:Hd prog h0 N c' k' env' H' Q):kq prog h0 N k Q x env H:=Qdv Qbl n h g
theorem Cg{β:Type}{E':β->Env}{Hb:β->Qb}{k:List Kf}{c c2:Code}(b:β)(sel keep:List Nat)(nE:β->Env)(nH:β->List (Nat×Blk))(hc:∀b,QlK sel keep (nE b) (nH b) env H=some (E' b,Hb b))(h:TC prog h0 N c env H (Ql7 h0 b E' Hb (kq prog h0 N (.seq c2::k) Q)))(g:TC prog h0 N c2 (E' b) (Hb b) (kq prog h0 N k Q)):TC prog h0 N c env H (kq prog h0 N (.seq c2::k) Q):=Ct b sel keep nE nH hc h λ_ _ e=>Gx 1 rfl (Qd e g)
theorem CgE{S B:Type}{b:Ctl S B}{E':S->Env}{Hb:S->Qb}{k:List Kf}{c c2:Code}(sel keep:List Nat)(nE:S->Env)(nH:S->List (Nat×Blk))(hc:∀s,QlK sel keep (nE s) (nH s) env H=some (E' s,Hb s))(h:TC prog h0 N c env H (Qfd h0 b E' Hb (kq prog h0 N (.seq c2::k) Q)))(g:∀s,b=.cont s->TC prog h0 N c2 (E' s) (Hb s) (kq prog h0 N k Q)):TC prog h0 N c env H (kq prog h0 N (.seq c2::k) Q):=CtE sel keep nE nH hc h λs _ _ q e=>Gx 1 rfl (Qd e (g s q))
theorem JB{S B S':Type}{b x:Ctl S B}{d:Ctl S' (Ctl S B)}{E':S->Env}{Hb:S->Qb}{s:S}(hb:∀b',d=.done b'->b'=b)(h:some (Ctl.done x)=some d)(e:x=.cont s)(hl:Le h0 env H (E' s) (Hb s)):Qfd h0 b E' Hb Q .normal env H:=Y3 ((Oj hb h).symm.trans e) hl
theorem cQo{β S':Type}{b x:β}{d:Ctl S' β}{E':β->Env}{Hb:β->Qb}(hb:∀b',d=.done b'->b'=b)(h:some (Ctl.done x)=some d)(hl:Le h0 env H (E' x) (Hb x)):Ql7 h0 b E' Hb Q .normal env H:=by
  cases Oj hb h;exact hl
theorem Gl{β:Type}{e b:β}{E':β->Env}{Hb:β->Qb}{k:List Kf}(n:Nat)(hm:Qdw tyX h0 N n (.ops all l) k env H=some (.out .normal,[],env',H'))(h:some e=some b)(π:List Nat)(hpre:π.take h0=List.range h0:=by exact rfl)(hH:π.map (λp=>H'[p]?)=((Hb e).map (Yi (rho π H'.length))).map some:=by exact rfl)(hπ:π.Nodup:=by decide)(hE:Qb1 (rho π H'.length) env' (E' e):=by(repeat' (first|exact trivial|refine⟨rfl,?_⟩))):WO prog h0 N all l env H (kq prog h0 N k (Ql7 h0 b E' Hb Q)):=Go n hm (Cl h π hpre hH hπ hE)
theorem Gt{β:Type}{e r:β}{w:β->A}{Hb:β->Qb}{fn:Func}{k:List Kf}(n:Nat)(hm:Qdw tyX h0 N n (.ops all l) k env H=some (.out .ret,[],env',H'))(h:some e=some r)(a:Nat)(π:List Nat)(hr:fn.results= #[.tmp a]:=by exact rfl)(hpre:π.take h0=List.range h0:=by exact rfl)(hH:π.map (λp=>H'[p]?)=((Hb e).map (Yi (rho π H'.length))).map some:=by exact rfl)(hπ:π.Nodup:=by decide)(hE:Qb1 (rho π H'.length) env' [(a,w e)]:=by exact⟨rfl,trivial⟩):WO prog h0 N all l env H (kq prog h0 N k (QaE prog h0 fn (RQ w Hb r))):=Go n hm (Rt h a π hr hpre hH hπ hE)
theorem YC{β:Type}{e b:β}{E':β->Env}{Hb:β->Qb}{k:List Kf}{c:Code}(n:Nat)(hm:Qdw tyX h0 N n (.code c) k env H=some (.out .normal,[],env',H'))(h:some e=some b)(π:List Nat)(hpre:π.take h0=List.range h0:=by exact rfl)(hH:π.map (λp=>H'[p]?)=((Hb e).map (Yi (rho π H'.length))).map some:=by exact rfl)(hπ:π.Nodup:=by decide)(hE:Qb1 (rho π H'.length) env' (E' e):=by(repeat' (first|exact trivial|refine⟨rfl,?_⟩))):TC prog h0 N c env H (kq prog h0 N k (Ql7 h0 b E' Hb Q)):=Gc n hm (Cl h π hpre hH hπ hE)
theorem QG{β:Type}{e r:β}{w:β->A}{Hb:β->Qb}{fn:Func}{k:List Kf}{c:Code}(n:Nat)(hm:Qdw tyX h0 N n (.code c) k env H=some (.out .ret,[],env',H'))(h:some e=some r)(a:Nat)(π:List Nat)(hr:fn.results= #[.tmp a]:=by exact rfl)(hpre:π.take h0=List.range h0:=by exact rfl)(hH:π.map (λp=>H'[p]?)=((Hb e).map (Yi (rho π H'.length))).map some:=by exact rfl)(hπ:π.Nodup:=by decide)(hE:Qb1 (rho π H'.length) env' [(a,w e)]:=by exact⟨rfl,trivial⟩):TC prog h0 N c env H (kq prog h0 N k (QaE prog h0 fn (RQ w Hb r))):=Gc n hm (Rt h a π hr hpre hH hπ hE)
theorem Fg{k:List Kf}{e1:Env}(n:Nat)(h:foS env H=some (e1,H1))(hm:Qdw tyX h0 N n (.ops all l) k e1 H1=some (c',k',env',H'))(g:Hd prog h0 N c' k' env' H' Q):WO prog h0 N all l env H (kq prog h0 N k Q):=FE h (Go n hm g)
@[reducible] def Ks{β:Type}(F:Option β)(f:FuncId)(args:List A)(H:Qb)(w:β->A):Prop:=Kp prog F f args H w λ_=>H
@[reducible] def Kq{β:Type}(F:Option β)(f:FuncId)(args:List A)(H:Qb)(w:β->A)(H1:β->Qb):Prop:=Kp prog F f args H w H1
theorem Kg{β:Type}{F:Option β}{f:FuncId}{fn:Func}{c:Code}{w:β->A}{H1:β->Qb}(n:Nat)(hf:prog.funcs[f]?=some fn)(hb:fn.body=some c)(hN:fn.ntmps=N)(hA:Nat.ble args.length N=true)(h:Qdw tyX H.length N n (.code c) [] (Qe5 0 args) H=some (c',k',env',H'))(g:∀r,F=some r->Hd prog H.length N c' k' env' H' (QaE prog H.length fn (RQ w H1 r))):Kp prog F f args H w H1:=Kp.b hf hb hN hA λr e=>G0 n h (g r e)
theorem D(n:Nat)(h:Qju tyX N m l ds env H n xs.length r xs=some (r',xs'))(k:DS prog N m l ds env H K r' xs'):DS prog N m l ds env H K r xs:=QfQ Qbl n _ rfl h k
theorem Iz(h:idx L i=some v)(q:ixB o env=some (d,t,k,L.map e,kk,i))(g:WO prog h0 N all l (up env d (.rp (e v))) H Q)(ht:Qb5 tyZ.sl t=some (et,k):=by exact rfl)(hg:Y8 all o env=some true:=by exact rfl)(hN:Nat.blt d N=true:=by exact rfl):WO prog h0 N all (o::l) env H Q:=Izz QfG h q g ht hg hN
theorem IzE{cs:List A}(h:idx L i=some v)(he:e v=cs)(q:ixB o env=some (d,t,k,L.map e,kk,i))(g:WO prog h0 N all l (up env d (.rp cs)) H Q)(ht:Qb5 tyZ.sl t=some (et,k):=by exact rfl)(hg:Y8 all o env=some true:=by exact rfl)(hN:Nat.blt d N=true:=by exact rfl):WO prog h0 N all (o::l) env H Q:=Ize QfG h he q g ht hg hN
theorem Lm{k':Nat}(q:lnB o env=some (d,t,.mk (.rsl k (L.map e))))(g:WO prog h0 N all l (up env d (I L.length)) H Q)(ht:Qb5 tyZ.sl t=some (et,k'):=by exact rfl)(hg:Y8 all o env=some true:=by exact rfl)(hN:Nat.blt d N=true:=by exact rfl):WO prog h0 N all (o::l) env H Q:=Lmz QfG q g ht hg hN
theorem Lg{k:List Kf}{i k1:Nat}(n:Nat)(q:lnB o env=some (d,t,.mk (.rsl i (L.map e))))(hm:Qdw tyX h0 N n (.ops all l) k (up env d (I L.length)) H=some (c',k',env',H'))(g:Hd prog h0 N c' k' env' H' Q)(ht:Qb5 tyZ.sl t=some (et,k1):=by exact rfl)(hg:Y8 all o env=some true:=by exact rfl)(hN:Nat.blt d N=true:=by exact rfl):WO prog h0 N all (o::l) env H (kq prog h0 N k Q):=Lm q (Go n hm g) ht hg hN
theorem Cz{β γ:Type}{F:Option β}{F':β->Option γ}{r:γ}{w:β->A}(π:List Nat)(h:F.bind F'=some r)(hC:∀v,F=some v->C prog f argsc Hc (RQ w (λ_=>Hc) v))(hop:Qhd tyZ o env=some (d,f,args))(g:∀v,F=some v->F' v=some r->WO prog h0 N all l (up env d (w v)) H Q)(hv:∀v,Qm3 (w v)=some (.mk (w v)):=by exact λ_=>rfl)(hargs:args=Qak (rho π H.length) argsc:=by exact rfl)(hH:π.map (λp=>H[p]?)=(Hc.map (Yi (rho π H.length))).map some:=by exact rfl)(hπ:π.Nodup:=by decide)(hg:Y8 all o env=some true:=by exact rfl)(hN:Nat.blt d N=true:=by exact rfl)(hh:Nat.ble h0 H.length=true:=by exact rfl):WO prog h0 N all (o::l) env H Q:=Czz QfG π h hC hop g hv hargs hH hπ hg hN hh
theorem Cb{β γ:Type}{F:Option β}{F':β->Option γ}{r:γ}{w:β->A}(h:F.bind F'=some r)(hC:∀v,F=some v->C prog f argsc [] (RQ w Ze v))(hop:Qhd tyZ o env=some (d,f,args))(hL:QbC H args argsc)(g:∀v,F=some v->F' v=some r->WO prog h0 N all l (up env d (w v)) H Q)(hv:∀v,YD (w v)=true:=by exact λ_=>rfl)(hg:Y8 all o env=some true:=by exact rfl)(hN:Nat.blt d N=true:=by exact rfl):WO prog h0 N all (o::l) env H Q:=Cbz QfG h hC hop hL g hv hg hN
theorem Dz{β γ:Type}{F:Option β}{F':β->Option γ}{r:γ}{w:β->A}(π:List Nat)(h:F.bind F'=some r)(hC:∀v,F=some v->C prog f argsc Hc (RQ w (λ_=>Hc) v))(hop:Qhd tyZ o (Ys (Qj o) 0 ds xs env)=some (d,f,args))(g:∀v,F=some v->F' v=some r->DS prog N m ll ds env H K l (xs++[w v]))(hv:∀v,Qm3 (w v)=some (.mk (w v)):=by exact λ_=>rfl)(hargs:args=Qak (rho π H.length) argsc:=by exact rfl)(hH:π.map (λp=>H[p]?)=(Hc.map (Yi (rho π H.length))).map some:=by exact rfl)(hπ:π.Nodup:=by decide)(hg:Y8 ll.toArray o (Ys (Qj o) 0 ds xs env)=some true:=by exact rfl)(hN:Nat.blt d N=true:=by exact rfl)(hx:Nat.blt xs.length m=true:=by exact rfl):DS prog N m ll ds env H K (o::l) xs:=DzZ QfG π h hC hop g hv hargs hH hπ hg hN hx
theorem DSs(m:Nat)(hc:Go.Sw.draw0 l m N (Qbx m 0 l)=true)(h:DS prog N m l (Qbx m 0 l) env H (λr e H=>WO prog h0 N l.toArray r e H Q) l [])(h0B:Nat.ble h0 H.length=true:=by exact rfl):TC prog h0 N (.region id l.toArray true) env H Q:=QpR (k:=[]) m draws hc h0B h
theorem Da{cat:List Nat}(n:Nat)(h:Qjv tyX N m cat l ds env H n xs.length r xs=some (r',xs'))(k:DA prog N m cat l ds env H K r' xs'):DA prog N m cat l ds env H K r xs:=QfT Qbl n _ rfl h k
theorem Db{cat:List Nat}(n:Nat)(h:QfS tyX N cat l ds env H1 n xs.length r xs=some (r',xs'))(k:DB prog N m cat l ds env H H1 K r' xs'):DB prog N m cat l ds env H H1 K r xs:=Qcb Qbl n _ rfl h k
theorem Dk(k:Nat)(h:QfR tyX N m cat l ds env n k xs.length Hs.length Hs X r xs=some (Hs',r',xs'))(g:DK prog N m bs cat l ds env n K Hs' X r' xs'):DK prog N m bs cat l ds env n K Hs X r xs:=Qca Qbl k _ _ rfl rfl h g
theorem Dks{lo hi:Nat}(h:allV tyX o (Ys (Qj o) 0 ds xs env) x (hi+1-lo) (X::Hs))(k:DK prog N m bs cat l ds env n K Hs X r (xs++[x]))(hc:Jb cat xs.length=some (0,lo,hi):=by exact rfl)(hd:o.dst=some d:=by exact rfl)(hcH:Nat.beq hi Hs.length=true:=by exact rfl)(hg:Y8 ⟨l⟩ o (Ys (Qj o) 0 ds xs env)=some true:=by exact rfl)(hN:Nat.blt d N=true:=by exact rfl)(hle:Nat.ble lo hi=true:=by exact rfl):DK prog N m bs cat l ds env n K Hs X (o::r) xs:=DK.vs Qbl h k hc hd hcH hg hN hle
theorem DKs(m:Nat)(bs:List Nat)(cat:Kat)(hc:Qe6 l m N (Qbx m 0 l) (hsK cat) (rqK bs cat) (msK bs) (plK cat)=true)(h:DK prog N m bs cat l (Qbx m 0 l) env H.length (λr e H=>WO prog h0 N l.toArray r e H Q) [] H l [])(hcl:Nat.beq cat.length m=true:=by exact rfl)(h0B:Nat.ble h0 H.length=true:=by exact rfl):TC prog h0 N (.region id l.toArray true) env H Q:=QpS m bs cat draws hc hcl h0B h
theorem DAs(m b:Nat)(cat:List Nat)(hc:Qe6 l m N (Qbx m 0 l) (hsC cat) (rqC b cat) [[],[b]] (plC cat)=true)(h:DA prog N m cat l (Qbx m 0 l) env H (λr e H=>WO prog h0 N l.toArray r e H Q) l [])(hcl:Nat.beq cat.length m=true:=by exact rfl)(h0B:Nat.ble h0 H.length=true:=by exact rfl):TC prog h0 N (.region id l.toArray true) env H Q:=QpU m b cat draws hc hcl h0B h
theorem Cd{β γ:Type}{F:Option β}{F':β->Option γ}{r:γ}{w:β->A}{Hr:β->Qb}(π:List Nat)(h:F.bind F'=some r)(hC:∀v,F=some v->C prog f argsc Hc (RQ w Hr v))(hop:Qhd tyZ o env=some (d,f,args))(g:∀v,F=some v->F' v=some r->WO prog h0 N all l (up env d (Jg (rho π H.length) (w v))) (YH H π ((Hr v).map (Yi (rho π H.length)))) Q)(hargs:args=Qak (rho π H.length) argsc:=by exact rfl)(hH:π.map (λp=>H[p]?)=(Hc.map (Yi (rho π H.length))).map some:=by exact rfl)(hπ:π.Nodup:=by decide)(hg:Y8 all o env=some true:=by exact rfl)(hN:Nat.blt d N=true:=by exact rfl)(hh:Nat.ble h0 H.length=true:=by exact rfl):WO prog h0 N all (o::l) env H Q:=Cdz QfG π h hC hop g hargs hH hπ hg hN hh
theorem v0{i:Nat}(hx:xs[i]?=some x)(h:Qmf tyT N l ds xs env0 H i=some x):JX prog N l ds xs env0 hB hE i H H:=vQ Qbl.ty hx h
theorem ov{i c:Nat}(k:Oq prog N l ds xs env0 H (i+1) c)(hx:xs[i]?=some x:=by exact rfl)(h:Qmf tyT N l ds xs env0 H i=some x:=by exact rfl):Oq prog N l ds xs env0 H i (c+1):=.c (vQ Qbl.ty hx h) k
end
theorem Gy0{T:Type}{X:Ctx T}{st:YSt T}{h0 N:Nat}{c:Code}{c':Cf}{k':List Kf}{env env':Env}{H H':Qb}{Q:YY T}(n:Nat)(h:Qk6 tyX h0 N n (.code c) [] env H=some (c',k',env',H'))(g:HdY X prog h0 N c' k' env' H' st Q):TCy X prog h0 N c env H st Q:=Qdu Qbl n h g
theorem Gyc{T:Type}{X:Ctx T}{st:YSt T}{h0 N:Nat}{k:List Kf}{c:Code}{c':Cf}{k':List Kf}{env env':Env}{H H':Qb}{Q:YY T}(n:Nat)(h:Qk6 tyX h0 N n (.code c) k env H=some (c',k',env',H'))(g:HdY X prog h0 N c' k' env' H' st Q):TCy X prog h0 N c env H st (kqY X prog h0 N k Q):=Qdu Qbl n h g
theorem Gyo{T:Type}{X:Ctx T}{st:YSt T}{h0 N:Nat}{k:List Kf}{all:Array Oper}{l:List Oper}{c':Cf}{k':List Kf}{env env':Env}{H H':Qb}{Q:YY T}(n:Nat)(h:Qk6 tyX h0 N n (.ops all l) k env H=some (c',k',env',H'))(g:HdY X prog h0 N c' k' env' H' st Q):WOy X prog h0 N all l env H st (kqY X prog h0 N k Q):=Qdu Qbl n h g
theorem Gyx{T:Type}{X:Ctx T}{st:YSt T}{h0 N:Nat}{k:List Kf}{x:AEx}{c':Cf}{k':List Kf}{env env':Env}{H H':Qb}{Q:YY T}(n:Nat)(h:Qk6 tyX h0 N n (.out x) k env H=some (c',k',env',H'))(g:HdY X prog h0 N c' k' env' H' st Q):kqY X prog h0 N k Q x env H st:=Qdu Qbl n h g
def lay_contains_214_ren:Go.Shelf.Ren:=⟨λ|144=>214|143=>244|219=>267|217=>280|225=>281|224=>282|267=>283|266=>288|314=>289|n=>n,λ|9=>9|4=>4|3=>3|5=>5|46=>236|146=>355|51=>285|n=>n,λ|1=>11|n=>n⟩
theorem Qet:Go.Proofs.Lays.n144 prog lay_contains_214_ren:=by
  constructor<;>first|kernel_rfl|(intro;kernel_rfl)|exact QiX (by kernel_rfl) (by kernel_rfl)
def lay_sortK_182_ren:Go.Shelf.Ren:=⟨λ|6=>182|15=>154|14=>231|28=>208|29=>209|20=>248|21=>249|22=>250|23=>251|24=>252|25=>253|26=>254|27=>255|46=>277|47=>236|48=>237|49=>278|50=>279|57=>287|n=>n,λ|22=>34|24=>68|25=>132|3=>3|39=>236|0=>0|53=>285|55=>287|4=>4|46=>278|45=>277|50=>41|5=>5|9=>9|66=>315|70=>224|76=>336|77=>145|n=>n,λ|n=>n⟩
theorem Qg8:Go.Proofs.SlLaysF0.n6 prog lay_sortK_182_ren:=by
  constructor<;>first|kernel_rfl|(intro;kernel_rfl)|exact QiX (by kernel_rfl) (by kernel_rfl)
def lay_sortK_228_ren:Go.Shelf.Ren:=⟨λ|6=>228|15=>154|14=>247|28=>208|29=>209|20=>269|21=>270|22=>271|23=>272|24=>273|25=>274|26=>275|27=>276|46=>284|47=>236|48=>237|49=>285|50=>286|57=>290|n=>n,λ|22=>194|24=>196|25=>254|3=>3|39=>236|0=>0|53=>285|55=>287|4=>4|46=>278|45=>277|50=>41|5=>5|9=>9|66=>315|70=>224|76=>336|77=>145|n=>n,λ|n=>n⟩
theorem Qg7:Go.Proofs.SlLaysF0.n6 prog lay_sortK_228_ren:=by
  constructor<;>first|kernel_rfl|(intro;kernel_rfl)|exact QiX (by kernel_rfl) (by kernel_rfl)
def lay_sortI_76_ren:Go.Shelf.Ren:=⟨λ|189=>76|125=>154|257=>153|128=>208|129=>209|294=>199|295=>200|296=>201|297=>202|298=>203|299=>204|216=>205|300=>206|301=>207|328=>235|329=>236|330=>237|331=>238|332=>239|215=>185|343=>262|n=>n,λ|28=>40|3=>3|46=>236|0=>0|51=>285|53=>287|4=>4|183=>278|182=>277|131=>41|5=>5|9=>9|218=>315|222=>224|228=>336|229=>145|n=>n,λ|n=>n⟩
theorem QdI:Go.Proofs.Lays.n189 prog lay_sortI_76_ren:=by
  constructor<;>first|kernel_rfl|(intro;kernel_rfl)|exact QiX (by kernel_rfl) (by kernel_rfl)
end Go.Sw
