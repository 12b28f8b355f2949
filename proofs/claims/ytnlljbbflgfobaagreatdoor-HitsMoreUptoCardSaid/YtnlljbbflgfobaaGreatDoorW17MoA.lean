/- The types of HitsMore and facts on them. -/
import Derived.Test.YtnlljbbflgfobaaGreatDoorL3
import Derived.Test.YtnlljbbflgfobaaGreatDoorProg
set_option linter.unusedVariables false
set_option linter.unusedSimpArgs false
set_option maxRecDepth 100000
set_option maxHeartbeats 4000000
namespace Go.Sw
open Go.Proofs Tryz
theorem draws:prog.follows .mixedOrders=true:=by rfl
structure Faults where
  Misses:Int
  Strays:Int
  Window:Int
  Residual:Int
  Drift:Int
  deriving DecidableEq
def Faults.c(x:Faults):List Go.Sw.A:=[I x.Misses,I x.Strays,I x.Window,I x.Residual,I x.Drift]
structure Mat where
  Name:List UInt8
  Kind:Int
  deriving DecidableEq
def Mat.c(x:Mat):List Go.Sw.A:=[.str x.Name,I x.Kind]
structure Leg where
  From:Int
  To:Int
  Min:Int
  Max:Int
  deriving DecidableEq
def Leg.c(x:Leg):List Go.Sw.A:=[I x.From,I x.To,I x.Min,I x.Max]
structure Part where
  Mat:Int
  Laps:Int
  Parts:List Part
mutual
def Part.enc:Part->List A
  |⟨x0,x1,x2⟩=>[I x0,I x1,.rsl 3 (Part.encs x2)]
def Part.encs:List Part->List (List A)
  |[]=>[]
  |x::l=>Part.enc x::Part.encs l
end
theorem Qcw(l:List Part):Part.encs l=List.map Part.enc l:=by induction l with|nil=>simp[Part.encs]|cons x l h=>simp[Part.encs,h]
def Part.c(x:Part):List Go.Sw.A:=[I x.Mat,I x.Laps,.rsl 3 (List.map Part.enc x.Parts)]
theorem Yw(x:Part):Part.enc x=Part.c x:=by cases x;simp[Part.enc,Part.c,Qcw]
structure Cutoff where
  Mat:Int
  Lap:Int
  Limit:Int
  deriving DecidableEq
def Cutoff.c(x:Cutoff):List Go.Sw.A:=[I x.Mat,I x.Lap,I x.Limit]
structure Distance where
  Name:List UInt8
  Route:List Part
  Timing:Int
  Cutoffs:List Cutoff
  Extra:Int
def Distance.c(x:Distance):List Go.Sw.A:=[.str x.Name,.rsl 3 (List.map Part.enc x.Route),I x.Timing,.rsl 3 (List.map Cutoff.c x.Cutoffs),I x.Extra]
structure Wave where
  Name:List UInt8
  Gun:Int
  deriving DecidableEq
def Wave.c(x:Wave):List Go.Sw.A:=[.str x.Name,I x.Gun]
structure Offence where
  Name:List UInt8
  Time:Int
  Laps:Int
  Out:Bool
  deriving DecidableEq
def Offence.c(x:Offence):List Go.Sw.A:=[.str x.Name,I x.Time,I x.Laps,.bool x.Out]
structure Category where
  Name:List UInt8
  From:Int
  To:Int
  deriving DecidableEq
def Category.c(x:Category):List Go.Sw.A:=[.str x.Name,I x.From,I x.To]
structure Prize where
  Distance:Int
  Category:Int
  Rank:Int
  Amount:Int
  deriving DecidableEq
def Prize.c(x:Prize):List Go.Sw.A:=[I x.Distance,I x.Category,I x.Rank,I x.Amount]
structure Cond where
  Kind:Int
  Var:Int
  N:Int
  Parts:List Cond
mutual
def Cond.enc:Cond->List A
  |⟨x0,x1,x2,x3⟩=>[I x0,I x1,I x2,.rsl 4 (Cond.encs x3)]
def Cond.encs:List Cond->List (List A)
  |[]=>[]
  |x::l=>Cond.enc x::Cond.encs l
end
theorem QcD(l:List Cond):Cond.encs l=List.map Cond.enc l:=by induction l with|nil=>simp[Cond.encs]|cons x l h=>simp[Cond.encs,h]
def Cond.c(x:Cond):List Go.Sw.A:=[I x.Kind,I x.Var,I x.N,.rsl 4 (List.map Cond.enc x.Parts)]
theorem QaM(x:Cond):Cond.enc x=Cond.c x:=by cases x;simp[Cond.enc,Cond.c,QcD]
structure Step where
  Kind:Int
  By:Int
  Cond:Cond
  Then:List Step
  Else:List Step
mutual
def Step.enc:Step->List A
  |⟨x0,x1,x2,x3,x4⟩=>[I x0,I x1,I x2.Kind,I x2.Var,I x2.N,.rsl 4 (List.map Cond.enc x2.Parts),.rsl 8 (Step.encs x3),.rsl 8 (Step.encs x4)]
def Step.encs:List Step->List (List A)
  |[]=>[]
  |x::l=>Step.enc x::Step.encs l
end
theorem Qcq(l:List Step):Step.encs l=List.map Step.enc l:=by induction l with|nil=>simp[Step.encs]|cons x l h=>simp[Step.encs,h]
def Step.c(x:Step):List Go.Sw.A:=[I x.Kind,I x.By,I x.Cond.Kind,I x.Cond.Var,I x.Cond.N,.rsl 4 (List.map Cond.enc x.Cond.Parts),.rsl 8 (List.map Step.enc x.Then),.rsl 8 (List.map Step.enc x.Else)]
theorem Yv(x:Step):Step.enc x=Step.c x:=by cases x;simp[Step.enc,Step.c,Qcq]
structure Course where
  Name:List UInt8
  Mats:List Mat
  Legs:List Leg
  Distances:List Distance
  Waves:List Wave
  Offences:List Offence
  Categories:List Category
  Prizes:List Prize
  Ties:List Step
  Faults:Faults
  Fee:Int
  Deadline:Int
def Course.c(x:Course):List Go.Sw.A:=[.str x.Name,.rsl 2 (List.map Mat.c x.Mats),.rsl 4 (List.map Leg.c x.Legs),.rsl 5 (List.map Distance.c x.Distances),.rsl 2 (List.map Wave.c x.Waves),.rsl 4 (List.map Offence.c x.Offences),.rsl 3 (List.map Category.c x.Categories),.rsl 4 (List.map Prize.c x.Prizes),.rsl 8 (List.map Step.enc x.Ties),I x.Faults.Misses,I x.Faults.Strays,I x.Faults.Window,I x.Faults.Residual,I x.Faults.Drift,I x.Fee,I x.Deadline]
structure Starter where
  Bib:Int
  Distance:Int
  Wave:Int
  Slot:Int
  Age:Int
  Chip:Int
  Team:Int
  Lot:Int
  deriving DecidableEq
def Starter.c(x:Starter):List Go.Sw.A:=[I x.Bib,I x.Distance,I x.Wave,I x.Slot,I x.Age,I x.Chip,I x.Team,I x.Lot]
structure Read where
  Mat:Int
  Epoch:Int
  Chip:Int
  Local:Int
  deriving DecidableEq
def Read.c(x:Read):List Go.Sw.A:=[I x.Mat,I x.Epoch,I x.Chip,I x.Local]
structure Beacon where
  Mat:Int
  Epoch:Int
  Local:Int
  True:Int
  Err:Int
  deriving DecidableEq
def Beacon.c(x:Beacon):List Go.Sw.A:=[I x.Mat,I x.Epoch,I x.Local,I x.True,I x.Err]
structure Sync where
  MatA:Int
  EpochA:Int
  LocalA:Int
  MatB:Int
  EpochB:Int
  LocalB:Int
  Min:Int
  Max:Int
  deriving DecidableEq
def Sync.c(x:Sync):List Go.Sw.A:=[I x.MatA,I x.EpochA,I x.LocalA,I x.MatB,I x.EpochB,I x.LocalB,I x.Min,I x.Max]
structure Hand where
  Bib:Int
  Position:Int
  Lo:Int
  Hi:Int
  deriving DecidableEq
def Hand.c(x:Hand):List Go.Sw.A:=[I x.Bib,I x.Position,I x.Lo,I x.Hi]
structure Silence where
  Mat:Int
  Epoch:Int
  Lo:Int
  Hi:Int
  deriving DecidableEq
def Silence.c(x:Silence):List Go.Sw.A:=[I x.Mat,I x.Epoch,I x.Lo,I x.Hi]
structure Pair where
  A:Int
  B:Int
  deriving DecidableEq
def Pair.c(x:Pair):List Go.Sw.A:=[I x.A,I x.B]
structure Report where
  Case:Int
  Bib:Int
  Offence:Int
  Position:Int
  deriving DecidableEq
def Report.c(x:Report):List Go.Sw.A:=[I x.Case,I x.Bib,I x.Offence,I x.Position]
structure Protest where
  Case:Int
  By:Int
  Fee:Int
  Form:Int
  deriving DecidableEq
def Protest.c(x:Protest):List Go.Sw.A:=[I x.Case,I x.By,I x.Fee,I x.Form]
structure Ruling where
  Case:Int
  Instance:Int
  Kind:Int
  Bib:Int
  Position:Int
  Amount:Int
  deriving DecidableEq
def Ruling.c(x:Ruling):List Go.Sw.A:=[I x.Case,I x.Instance,I x.Kind,I x.Bib,I x.Position,I x.Amount]
structure Appeal where
  Case:Int
  Suspends:Bool
  deriving DecidableEq
def Appeal.c(x:Appeal):List Go.Sw.A:=[I x.Case,.bool x.Suspends]
structure Ref where
  Crew:Int
  No:Int
  deriving DecidableEq
def Ref.c(x:Ref):List Go.Sw.A:=[I x.Crew,I x.No]
structure Fact where
  Crew:Int
  No:Int
  At:Int
  Kind:Int
  Starter:Starter
  Read:Read
  Beacon:Beacon
  Sync:Sync
  Hand:Hand
  Silence:Silence
  Pair:Pair
  Report:Report
  Protest:Protest
  Ruling:Ruling
  Appeal:Appeal
  Void:Ref
  deriving DecidableEq
def Fact.c(x:Fact):List Go.Sw.A:=[I x.Crew,I x.No,I x.At,I x.Kind,I x.Starter.Bib,I x.Starter.Distance,I x.Starter.Wave,I x.Starter.Slot,I x.Starter.Age,I x.Starter.Chip,I x.Starter.Team,I x.Starter.Lot,I x.Read.Mat,I x.Read.Epoch,I x.Read.Chip,I x.Read.Local,I x.Beacon.Mat,I x.Beacon.Epoch,I x.Beacon.Local,I x.Beacon.True,I x.Beacon.Err,I x.Sync.MatA,I x.Sync.EpochA,I x.Sync.LocalA,I x.Sync.MatB,I x.Sync.EpochB,I x.Sync.LocalB,I x.Sync.Min,I x.Sync.Max,I x.Hand.Bib,I x.Hand.Position,I x.Hand.Lo,I x.Hand.Hi,I x.Silence.Mat,I x.Silence.Epoch,I x.Silence.Lo,I x.Silence.Hi,I x.Pair.A,I x.Pair.B,I x.Report.Case,I x.Report.Bib,I x.Report.Offence,I x.Report.Position,I x.Protest.Case,I x.Protest.By,I x.Protest.Fee,I x.Protest.Form,I x.Ruling.Case,I x.Ruling.Instance,I x.Ruling.Kind,I x.Ruling.Bib,I x.Ruling.Position,I x.Ruling.Amount,I x.Appeal.Case,.bool x.Appeal.Suspends,I x.Void.Crew,I x.Void.No]
abbrev z_Starter:Starter:={Bib:=0,Distance:=0,Wave:=0,Slot:=0,Age:=0,Chip:=0,Team:=0,Lot:=0}
abbrev z_Read:Read:={Mat:=0,Epoch:=0,Chip:=0,Local:=0}
abbrev z_Beacon:Beacon:={Mat:=0,Epoch:=0,Local:=0,True:=0,Err:=0}
abbrev z_Sync:Sync:={MatA:=0,EpochA:=0,LocalA:=0,MatB:=0,EpochB:=0,LocalB:=0,Min:=0,Max:=0}
abbrev z_Hand:Hand:={Bib:=0,Position:=0,Lo:=0,Hi:=0}
abbrev z_Silence:Silence:={Mat:=0,Epoch:=0,Lo:=0,Hi:=0}
abbrev z_Report:Report:={Case:=0,Bib:=0,Offence:=0,Position:=0}
abbrev z_Protest:Protest:={Case:=0,By:=0,Fee:=0,Form:=0}
abbrev z_Ruling:Ruling:={Case:=0,Instance:=0,Kind:=0,Bib:=0,Position:=0,Amount:=0}
abbrev z_Fact:Fact:={Crew:=0,No:=0,At:=0,Kind:=0,Starter:=z_Starter,Read:=z_Read,Beacon:=z_Beacon,Sync:=z_Sync,Hand:=z_Hand,Silence:=z_Silence,Pair:={A:=0,B:=0:Pair},Report:=z_Report,Protest:=z_Protest,Ruling:=z_Ruling,Appeal:={Case:=0,Suspends:=false:Appeal},Void:={Crew:=0,No:=0:Ref}}
abbrev z_Cond:Cond:={Kind:=0,Var:=0,N:=0,Parts:=[]}
abbrev z_Step:Step:={Kind:=0,By:=0,Cond:=z_Cond,Then:=[],Else:=[]}
structure typing_ends where
  from_:Int
  to_:Int
  deriving DecidableEq
def typing_ends.c(x:typing_ends):List Go.Sw.A:=[I x.from_,I x.to_]
structure typing_place where
  distance:Int
  category:Int
  rank:Int
  deriving DecidableEq
def typing_place.c(x:typing_place):List Go.Sw.A:=[I x.distance,I x.category,I x.rank]
structure typing_step where
  Step:Step
def typing_step.c(x:typing_step):List Go.Sw.A:=[I x.Step.Kind,I x.Step.By,I x.Step.Cond.Kind,I x.Step.Cond.Var,I x.Step.Cond.N,.rsl 4 (List.map Cond.enc x.Step.Cond.Parts),.rsl 8 (List.map Step.enc x.Step.Then),.rsl 8 (List.map Step.enc x.Step.Else)]
structure typing_cond where
  Cond:Cond
def typing_cond.c(x:typing_cond):List Go.Sw.A:=[I x.Cond.Kind,I x.Cond.Var,I x.Cond.N,.rsl 4 (List.map Cond.enc x.Cond.Parts)]
inductive typing_form where
  |ctyping_step (x:typing_step)
  |ctyping_cond (x:typing_cond)
def typing_form.val:typing_form->A
  |.ctyping_step x=>.iface 229 (.agg (typing_step.c x))
  |.ctyping_cond x=>.iface 281 (.agg (typing_cond.c x))
def typing_form.enc(x:typing_form):List A:=[x.val]
def typing_form.elim{R:Type}(e:typing_form)(f0:typing_step->Option R)(f1:typing_cond->Option R):Option R:=match e with
  |.ctyping_step x=>f0 x
  |.ctyping_cond x=>f1 x
theorem typing_form.data(x:typing_form):YC x.val=true:=by cases x<;>rfl
theorem Y0(e:typing_form):(∃x,e=.ctyping_step x)\/(∃x,e=.ctyping_cond x):=by cases e<;>simp
theorem YS{R:Type}{e:typing_form}{x:typing_step}{f0:typing_step->Option R}{f1:typing_cond->Option R}{r:R}(hE:e=.ctyping_step x)(h:typing_form.elim e f0 f1=some r):f0 x=some r:=by subst hE;exact h
theorem YR{R:Type}{e:typing_form}{x:typing_cond}{f0:typing_step->Option R}{f1:typing_cond->Option R}{r:R}(hE:e=.ctyping_cond x)(h:typing_form.elim e f0 f1=some r):f1 x=some r:=by subst hE;exact h
structure typing_count where
  steps:Int
  conds:Int
  deriving DecidableEq
def typing_count.c(x:typing_count):List Go.Sw.A:=[I x.steps,I x.conds]
structure Hit where
  Mat:Int
  Epoch:Int
  Chip:Int
  First:Int
  Last:Int
  deriving DecidableEq
def Hit.c(x:Hit):List Go.Sw.A:=[I x.Mat,I x.Epoch,I x.Chip,I x.First,I x.Last]
structure facts_scope where
  least:Int
  most:Int
  deriving DecidableEq
def facts_scope.c(x:facts_scope):List Go.Sw.A:=[I x.least,I x.most]
structure hits_place where
  chip:Int
  mat:Int
  epoch:Int
  deriving DecidableEq
def hits_place.c(x:hits_place):List Go.Sw.A:=[I x.chip,I x.mat,I x.epoch]
abbrev z_Faults:Faults:={Misses:=0,Strays:=0,Window:=0,Residual:=0,Drift:=0}
abbrev z_Course:Course:={Name:=[],Mats:=[],Legs:=[],Distances:=[],Waves:=[],Offences:=[],Categories:=[],Prizes:=[],Ties:=[],Faults:=z_Faults,Fee:=0,Deadline:=0}
theorem QlS:Qv prog 24 [(0,1),(1,1),(2,1),(3,1)]:=⟨_,runUnderlying24,(PL.cons sizeOf3 (PL.cons sizeOf3 (PL.cons sizeOf3 (PL.cons sizeOf3 PL.nil))))⟩
theorem QlP:Qv prog 52 [(0,1),(1,1),(2,1),(3,1),(4,8),(12,4),(16,5),(21,8),(29,4),(33,4),(37,2),(39,4),(43,4),(47,6),(53,2),(55,2)]:=⟨_,runUnderlying52,(PL.cons sizeOf3 (PL.cons sizeOf3 (PL.cons sizeOf3 (PL.cons sizeOf3 (PL.cons sizeOf30 (PL.cons sizeOf24 (PL.cons sizeOf32 (PL.cons sizeOf34 (PL.cons sizeOf36 (PL.cons sizeOf38 (PL.cons sizeOf40 (PL.cons sizeOf42 (PL.cons sizeOf44 (PL.cons sizeOf46 (PL.cons sizeOf48 (PL.cons sizeOf50 PL.nil))))))))))))))))⟩
theorem QlQ:Qv prog 38 [(0,1),(1,1),(2,1),(3,1)]:=⟨_,runUnderlying38,(PL.cons sizeOf3 (PL.cons sizeOf3 (PL.cons sizeOf3 (PL.cons sizeOf3 PL.nil))))⟩
theorem Y5:Ys prog 22 52 57:=⟨runUnderlying22,sizeOf52,⟨_,zeroValue52,rfl⟩,⟨_,typeInfo52,by decide⟩⟩
theorem QjK:Qv prog 115 [(0,1),(1,1)]:=⟨_,runUnderlying115,(PL.cons sizeOf9 (PL.cons sizeOf3 PL.nil))⟩
theorem el_56:Ys prog 56 115 2:=⟨runUnderlying56,sizeOf115,⟨_,zeroValue115,rfl⟩,⟨_,typeInfo115,by decide⟩⟩
theorem QjJ:Qv prog 120 [(0,1),(1,1),(2,4),(6,1),(7,1)]:=⟨_,runUnderlying120,(PL.cons sizeOf3 (PL.cons sizeOf3 (PL.cons sizeOf118 (PL.cons sizeOf63 (PL.cons sizeOf63 PL.nil)))))⟩
theorem el_63:Ys prog 63 120 8:=⟨runUnderlying63,sizeOf120,⟨_,zeroValue120,rfl⟩,⟨_,typeInfo120,by decide⟩⟩
theorem QlO:Qv prog 65 [(0,1),(1,1),(2,1),(3,1),(4,1)]:=⟨_,runUnderlying65,(PL.cons sizeOf3 (PL.cons sizeOf3 (PL.cons sizeOf3 (PL.cons sizeOf3 (PL.cons sizeOf3 PL.nil)))))⟩
theorem QlN:Qv prog 67 [(0,1),(1,1),(2,1),(3,1),(4,1),(5,1),(6,1),(7,1),(8,1),(9,5),(14,1),(15,1)]:=⟨_,runUnderlying67,(PL.cons sizeOf9 (PL.cons sizeOf56 (PL.cons sizeOf57 (PL.cons sizeOf58 (PL.cons sizeOf59 (PL.cons sizeOf60 (PL.cons sizeOf61 (PL.cons sizeOf62 (PL.cons sizeOf63 (PL.cons sizeOf65 (PL.cons sizeOf3 (PL.cons sizeOf3 PL.nil))))))))))))⟩
theorem Qkl:Ys prog 203 5 1:=⟨runUnderlying203,sizeOf5,⟨_,zeroValue5,rfl⟩,⟨_,typeInfo5,by decide⟩⟩
theorem QbP:YK prog 9 A.str:=YK.str underlying9
theorem QB:Ys prog 109 3 1:=⟨runUnderlying109,sizeOf3,⟨_,zeroValue3,rfl⟩,⟨_,typeInfo3,by decide⟩⟩
theorem Qj7:prog.underlying 105=some (.struct (prog.fieldsOf 105)):=by kernel_rfl
theorem Qmz:prog.stoodInHeld 105=false:=by kernel_rfl
theorem Qdv:YK prog 105 (fun x=>A.agg (typing_ends.c x)):=by
  refine YK.struct Qj7 (fun _=>rfl) (fun x y h=>?_) (fun w em x=>?_) (fun w x y=>?_) (fun x=>?_)
  · cases x;cases y
    simpa[Qi,Q5,typing_ends.c]using h
  · simp only[Qi,Q5,typing_ends.c]
    rw[show(10000:Nat)=9998+1+1 from rfl]
    generalize(9998:Nat)=d
    simp[Instr.checkKey,runUnderlying105,runUnderlying3,Result.andThen,sizeOf3,isAgg3,part]
  · have u3:=underlying3
    have a3:=isAgg3
    have z3:=sizeOf3
    simp only[Qi,Q5,typing_ends.c,Op.equal,Op.maxDepth]
    rw[show(10000:Nat)=9999+1 from Z,run_equalIn_agg w 9999 105 _ _ Qj7 Qmz]
    simp only[Program.fieldsOf,underlying105]
    go_simp
    cases x;cases y
    simp
    repeat' split
    all_goals simp_all
  · simp[Qi,Q5,typing_ends.c,Instr.sameBits]
theorem Qmv:Qv prog 105 [(0,1),(1,1)]:=⟨_,runUnderlying105,(PL.cons sizeOf3 (PL.cons sizeOf3 PL.nil))⟩
theorem Qj6:prog.underlying 180=some (.struct (prog.fieldsOf 180)):=by kernel_rfl
theorem Qmy:prog.stoodInHeld 180=false:=by kernel_rfl
theorem Qlj:YK prog 180 (fun x=>A.agg (typing_place.c x)):=by
  refine YK.struct Qj6 (fun _=>rfl) (fun x y h=>?_) (fun w em x=>?_) (fun w x y=>?_) (fun x=>?_)
  · cases x;cases y
    simpa[Qi,Q5,typing_place.c]using h
  · simp only[Qi,Q5,typing_place.c]
    rw[show(10000:Nat)=9998+1+1 from rfl]
    generalize(9998:Nat)=d
    simp[Instr.checkKey,runUnderlying180,runUnderlying3,Result.andThen,sizeOf3,isAgg3,part]
  · have u3:=underlying3
    have a3:=isAgg3
    have z3:=sizeOf3
    simp only[Qi,Q5,typing_place.c,Op.equal,Op.maxDepth]
    rw[show(10000:Nat)=9999+1 from Z,run_equalIn_agg w 9999 180 _ _ Qj6 Qmy]
    simp only[Program.fieldsOf,underlying180]
    go_simp
    cases x;cases y
    simp
    repeat' split
    all_goals simp_all
  · simp[Qi,Q5,typing_place.c,Instr.sameBits]
theorem Qmn:Qv prog 180 [(0,1),(1,1),(2,1)]:=⟨_,runUnderlying180,(PL.cons sizeOf3 (PL.cons sizeOf3 (PL.cons sizeOf3 PL.nil)))⟩
theorem QjE:Qv prog 229 [(0,8)]:=⟨_,runUnderlying229,(PL.cons sizeOf120 PL.nil)⟩
theorem QbZ:Ys prog 183 226 1:=⟨runUnderlying183,sizeOf226,⟨_,zeroValue226,rfl⟩,⟨_,typeInfo226,by decide⟩⟩
theorem QjF:Qv prog 222 [(0,1),(1,1)]:=⟨_,runUnderlying222,(PL.cons sizeOf3 (PL.cons sizeOf3 PL.nil))⟩
theorem QjD:Qv prog 281 [(0,4)]:=⟨_,runUnderlying281,(PL.cons sizeOf118 PL.nil)⟩
theorem Qib:YK prog 3 (fun x=>A.int .i64 x):=YK.int underlying3
theorem QjG:Qv prog 199 [(0,1),(1,2)]:=⟨_,runUnderlying199,(PL.cons sizeOf193 (PL.cons sizeOf197 PL.nil))⟩
theorem QjH:Qv prog 197 [(0,1),(1,1)]:=⟨_,runUnderlying197,(PL.cons sizeOf3 (PL.cons sizeOf3 PL.nil))⟩
theorem YU:Ys prog 187 199 3:=⟨runUnderlying187,sizeOf199,⟨_,zeroValue199,rfl⟩,⟨_,typeInfo199,by decide⟩⟩
theorem QjI:Qv prog 189 [(0,1),(1,1)]:=⟨_,runUnderlying189,(PL.cons sizeOf187 (PL.cons sizeOf27 PL.nil))⟩
inductive U_facts_open_rxk where
  |c0 (x:Unit)
  |c1 (x:Unit)
  |c2 (x:Unit)
  |c3 (x:Unit)
  |c4 (x:Unit)
  |c5 (x:Unit)
  |c6 (x:Unit)
  |c7 (x:Unit)
  |c8 (x:Unit)
  |c9 (x:Int×Int×Int×Int×Int×Int)
  |c10 (x:Unit)
  |c11 (x:Unit)
  |c12 (x:Unit)
  |c13 (x:Unit)
theorem Qkb:YP prog 199 0 0 1:=FA runUnderlying199 rfl sizeOf193
def Fact.put(x:Fact)(o:Nat)(v:Int):Option Fact:=match o with
  |0=>some {x with Crew:=v}
  |1=>some {x with No:=v}
  |2=>some {x with At:=v}
  |3=>some {x with Kind:=v}
  |4=>some {x with Starter:={x.Starter with Bib:=v}}
  |5=>some {x with Starter:={x.Starter with Distance:=v}}
  |6=>some {x with Starter:={x.Starter with Wave:=v}}
  |7=>some {x with Starter:={x.Starter with Slot:=v}}
  |8=>some {x with Starter:={x.Starter with Age:=v}}
  |9=>some {x with Starter:={x.Starter with Chip:=v}}
  |10=>some {x with Starter:={x.Starter with Team:=v}}
  |11=>some {x with Starter:={x.Starter with Lot:=v}}
  |12=>some {x with Read:={x.Read with Mat:=v}}
  |13=>some {x with Read:={x.Read with Epoch:=v}}
  |14=>some {x with Read:={x.Read with Chip:=v}}
  |15=>some {x with Read:={x.Read with Local:=v}}
  |16=>some {x with Beacon:={x.Beacon with Mat:=v}}
  |17=>some {x with Beacon:={x.Beacon with Epoch:=v}}
  |18=>some {x with Beacon:={x.Beacon with Local:=v}}
  |19=>some {x with Beacon:={x.Beacon with True:=v}}
  |20=>some {x with Beacon:={x.Beacon with Err:=v}}
  |21=>some {x with Sync:={x.Sync with MatA:=v}}
  |22=>some {x with Sync:={x.Sync with EpochA:=v}}
  |23=>some {x with Sync:={x.Sync with LocalA:=v}}
  |24=>some {x with Sync:={x.Sync with MatB:=v}}
  |25=>some {x with Sync:={x.Sync with EpochB:=v}}
  |26=>some {x with Sync:={x.Sync with LocalB:=v}}
  |27=>some {x with Sync:={x.Sync with Min:=v}}
  |28=>some {x with Sync:={x.Sync with Max:=v}}
  |29=>some {x with Hand:={x.Hand with Bib:=v}}
  |30=>some {x with Hand:={x.Hand with Position:=v}}
  |31=>some {x with Hand:={x.Hand with Lo:=v}}
  |32=>some {x with Hand:={x.Hand with Hi:=v}}
  |33=>some {x with Silence:={x.Silence with Mat:=v}}
  |34=>some {x with Silence:={x.Silence with Epoch:=v}}
  |35=>some {x with Silence:={x.Silence with Lo:=v}}
  |36=>some {x with Silence:={x.Silence with Hi:=v}}
  |37=>some {x with Pair:={x.Pair with A:=v}}
  |38=>some {x with Pair:={x.Pair with B:=v}}
  |39=>some {x with Report:={x.Report with Case:=v}}
  |40=>some {x with Report:={x.Report with Bib:=v}}
  |41=>some {x with Report:={x.Report with Offence:=v}}
  |42=>some {x with Report:={x.Report with Position:=v}}
  |43=>some {x with Protest:={x.Protest with Case:=v}}
  |44=>some {x with Protest:={x.Protest with By:=v}}
  |45=>some {x with Protest:={x.Protest with Fee:=v}}
  |46=>some {x with Protest:={x.Protest with Form:=v}}
  |47=>some {x with Ruling:={x.Ruling with Case:=v}}
  |48=>some {x with Ruling:={x.Ruling with Instance:=v}}
  |49=>some {x with Ruling:={x.Ruling with Kind:=v}}
  |50=>some {x with Ruling:={x.Ruling with Bib:=v}}
  |51=>some {x with Ruling:={x.Ruling with Position:=v}}
  |52=>some {x with Ruling:={x.Ruling with Amount:=v}}
  |53=>some {x with Appeal:={x.Appeal with Case:=v}}
  |55=>some {x with Void:={x.Void with Crew:=v}}
  |56=>some {x with Void:={x.Void with No:=v}}
  |_=>none
theorem Qml:∀(x:Fact) (o:Nat) (v:Int) (y:Fact),Fact.put x o v=some y->Fact.c y=(Fact.c x).set o (I v)/\o<(Fact.c x).length:=by
  intro x o v y h
  unfold Fact.put at h
  split at h<;>first|(cases h;exact⟨Z,Nat.le_of_ble_eq_true Z⟩)|cases h
theorem nt_52:prog.stoodInHeld 52=false:=by kernel_rfl
theorem nt_50:prog.stoodInHeld 50=false:=by kernel_rfl
theorem nt_48:prog.stoodInHeld 48=false:=by kernel_rfl
theorem nt_46:prog.stoodInHeld 46=false:=by kernel_rfl
theorem nt_44:prog.stoodInHeld 44=false:=by kernel_rfl
theorem nt_42:prog.stoodInHeld 42=false:=by kernel_rfl
theorem nt_40:prog.stoodInHeld 40=false:=by kernel_rfl
theorem nt_38:prog.stoodInHeld 38=false:=by kernel_rfl
theorem nt_36:prog.stoodInHeld 36=false:=by kernel_rfl
theorem nt_34:prog.stoodInHeld 34=false:=by kernel_rfl
theorem nt_32:prog.stoodInHeld 32=false:=by kernel_rfl
theorem nt_24:prog.stoodInHeld 24=false:=by kernel_rfl
theorem nt_30:prog.stoodInHeld 30=false:=by kernel_rfl
theorem QmL:EqD prog 52 Fact.c:=by
  refine Qip (QA underlying52 nt_52 isAgg52 sizeOf52 (QkW.cons Z (by decide) (QhU.int underlying3 isAgg3 sizeOf3 1) (fun _=>rfl) (QkW.cons Z (by decide) (QhU.int underlying3 isAgg3 sizeOf3 1) (fun _=>rfl) (QkW.cons Z (by decide) (QhU.int underlying3 isAgg3 sizeOf3 1) (fun _=>rfl) (QkW.cons Z (by decide) (QhU.int underlying3 isAgg3 sizeOf3 1) (fun _=>rfl) (QkW.cons Z (by decide) (QA underlying30 nt_30 isAgg30 sizeOf30 (QkW.cons Z (by decide) (QhU.int underlying3 isAgg3 sizeOf3 0) (fun _=>rfl) (QkW.cons Z (by decide) (QhU.int underlying3 isAgg3 sizeOf3 0) (fun _=>rfl) (QkW.cons Z (by decide) (QhU.int underlying3 isAgg3 sizeOf3 0) (fun _=>rfl) (QkW.cons Z (by decide) (QhU.int underlying3 isAgg3 sizeOf3 0) (fun _=>rfl) (QkW.cons Z (by decide) (QhU.int underlying3 isAgg3 sizeOf3 0) (fun _=>rfl) (QkW.cons Z (by decide) (QhU.int underlying3 isAgg3 sizeOf3 0) (fun _=>rfl) (QkW.cons Z (by decide) (QhU.int underlying3 isAgg3 sizeOf3 0) (fun _=>rfl) (QkW.cons Z (by decide) (QhU.int underlying3 isAgg3 sizeOf3 0) (fun _=>rfl) (QkW.nil _ _)))))))))) (fun e=>Bool.noConfusion e) (QkW.cons Z (by decide) (QA underlying24 nt_24 isAgg24 sizeOf24 (QkW.cons Z (by decide) (QhU.int underlying3 isAgg3 sizeOf3 0) (fun _=>rfl) (QkW.cons Z (by decide) (QhU.int underlying3 isAgg3 sizeOf3 0) (fun _=>rfl) (QkW.cons Z (by decide) (QhU.int underlying3 isAgg3 sizeOf3 0) (fun _=>rfl) (QkW.cons Z (by decide) (QhU.int underlying3 isAgg3 sizeOf3 0) (fun _=>rfl) (QkW.nil _ _)))))) (fun e=>Bool.noConfusion e) (QkW.cons Z (by decide) (QA underlying32 nt_32 isAgg32 sizeOf32 (QkW.cons Z (by decide) (QhU.int underlying3 isAgg3 sizeOf3 0) (fun _=>rfl) (QkW.cons Z (by decide) (QhU.int underlying3 isAgg3 sizeOf3 0) (fun _=>rfl) (QkW.cons Z (by decide) (QhU.int underlying3 isAgg3 sizeOf3 0) (fun _=>rfl) (QkW.cons Z (by decide) (QhU.int underlying3 isAgg3 sizeOf3 0) (fun _=>rfl) (QkW.cons Z (by decide) (QhU.int underlying3 isAgg3 sizeOf3 0) (fun _=>rfl) (QkW.nil _ _))))))) (fun e=>Bool.noConfusion e) (QkW.cons Z (by decide) (QA underlying34 nt_34 isAgg34 sizeOf34 (QkW.cons Z (by decide) (QhU.int underlying3 isAgg3 sizeOf3 0) (fun _=>rfl) (QkW.cons Z (by decide) (QhU.int underlying3 isAgg3 sizeOf3 0) (fun _=>rfl) (QkW.cons Z (by decide) (QhU.int underlying3 isAgg3 sizeOf3 0) (fun _=>rfl) (QkW.cons Z (by decide) (QhU.int underlying3 isAgg3 sizeOf3 0) (fun _=>rfl) (QkW.cons Z (by decide) (QhU.int underlying3 isAgg3 sizeOf3 0) (fun _=>rfl) (QkW.cons Z (by decide) (QhU.int underlying3 isAgg3 sizeOf3 0) (fun _=>rfl) (QkW.cons Z (by decide) (QhU.int underlying3 isAgg3 sizeOf3 0) (fun _=>rfl) (QkW.cons Z (by decide) (QhU.int underlying3 isAgg3 sizeOf3 0) (fun _=>rfl) (QkW.nil _ _)))))))))) (fun e=>Bool.noConfusion e) (QkW.cons Z (by decide) (QA underlying36 nt_36 isAgg36 sizeOf36 (QkW.cons Z (by decide) (QhU.int underlying3 isAgg3 sizeOf3 0) (fun _=>rfl) (QkW.cons Z (by decide) (QhU.int underlying3 isAgg3 sizeOf3 0) (fun _=>rfl) (QkW.cons Z (by decide) (QhU.int underlying3 isAgg3 sizeOf3 0) (fun _=>rfl) (QkW.cons Z (by decide) (QhU.int underlying3 isAgg3 sizeOf3 0) (fun _=>rfl) (QkW.nil _ _)))))) (fun e=>Bool.noConfusion e) (QkW.cons Z (by decide) (QA underlying38 nt_38 isAgg38 sizeOf38 (QkW.cons Z (by decide) (QhU.int underlying3 isAgg3 sizeOf3 0) (fun _=>rfl) (QkW.cons Z (by decide) (QhU.int underlying3 isAgg3 sizeOf3 0) (fun _=>rfl) (QkW.cons Z (by decide) (QhU.int underlying3 isAgg3 sizeOf3 0) (fun _=>rfl) (QkW.cons Z (by decide) (QhU.int underlying3 isAgg3 sizeOf3 0) (fun _=>rfl) (QkW.nil _ _)))))) (fun e=>Bool.noConfusion e) (QkW.cons Z (by decide) (QA underlying40 nt_40 isAgg40 sizeOf40 (QkW.cons Z (by decide) (QhU.int underlying3 isAgg3 sizeOf3 0) (fun _=>rfl) (QkW.cons Z (by decide) (QhU.int underlying3 isAgg3 sizeOf3 0) (fun _=>rfl) (QkW.nil _ _)))) (fun e=>Bool.noConfusion e) (QkW.cons Z (by decide) (QA underlying42 nt_42 isAgg42 sizeOf42 (QkW.cons Z (by decide) (QhU.int underlying3 isAgg3 sizeOf3 0) (fun _=>rfl) (QkW.cons Z (by decide) (QhU.int underlying3 isAgg3 sizeOf3 0) (fun _=>rfl) (QkW.cons Z (by decide) (QhU.int underlying3 isAgg3 sizeOf3 0) (fun _=>rfl) (QkW.cons Z (by decide) (QhU.int underlying3 isAgg3 sizeOf3 0) (fun _=>rfl) (QkW.nil _ _)))))) (fun e=>Bool.noConfusion e) (QkW.cons Z (by decide) (QA underlying44 nt_44 isAgg44 sizeOf44 (QkW.cons Z (by decide) (QhU.int underlying3 isAgg3 sizeOf3 0) (fun _=>rfl) (QkW.cons Z (by decide) (QhU.int underlying3 isAgg3 sizeOf3 0) (fun _=>rfl) (QkW.cons Z (by decide) (QhU.int underlying3 isAgg3 sizeOf3 0) (fun _=>rfl) (QkW.cons Z (by decide) (QhU.int underlying3 isAgg3 sizeOf3 0) (fun _=>rfl) (QkW.nil _ _)))))) (fun e=>Bool.noConfusion e) (QkW.cons Z (by decide) (QA underlying46 nt_46 isAgg46 sizeOf46 (QkW.cons Z (by decide) (QhU.int underlying3 isAgg3 sizeOf3 0) (fun _=>rfl) (QkW.cons Z (by decide) (QhU.int underlying3 isAgg3 sizeOf3 0) (fun _=>rfl) (QkW.cons Z (by decide) (QhU.int underlying3 isAgg3 sizeOf3 0) (fun _=>rfl) (QkW.cons Z (by decide) (QhU.int underlying3 isAgg3 sizeOf3 0) (fun _=>rfl) (QkW.cons Z (by decide) (QhU.int underlying3 isAgg3 sizeOf3 0) (fun _=>rfl) (QkW.cons Z (by decide) (QhU.int underlying3 isAgg3 sizeOf3 0) (fun _=>rfl) (QkW.nil _ _)))))))) (fun e=>Bool.noConfusion e) (QkW.cons Z (by decide) (QA underlying48 nt_48 isAgg48 sizeOf48 (QkW.cons Z (by decide) (QhU.int underlying3 isAgg3 sizeOf3 0) (fun _=>rfl) (QkW.cons Z (by decide) (QhU.bool underlying4 isAgg4 sizeOf4 0) (fun _=>rfl) (QkW.nil _ _)))) (fun e=>Bool.noConfusion e) (QkW.cons Z (by decide) (QA underlying50 nt_50 isAgg50 sizeOf50 (QkW.cons Z (by decide) (QhU.int underlying3 isAgg3 sizeOf3 0) (fun _=>rfl) (QkW.cons Z (by decide) (QhU.int underlying3 isAgg3 sizeOf3 0) (fun _=>rfl) (QkW.nil _ _)))) (fun e=>Bool.noConfusion e) (QkW.nil _ _)))))))))))))))))) Z (fun x=>⟨[_],_,Z,⟨_,Z⟩,[_],_,Z,⟨_,Z⟩,[_],_,Z,⟨_,Z⟩,[_],_,Z,⟨_,Z⟩,[_,_,_,_,_,_,_,_],_,Z,⟨[_],_,Z,⟨_,Z⟩,[_],_,Z,⟨_,Z⟩,[_],_,Z,⟨_,Z⟩,[_],_,Z,⟨_,Z⟩,[_],_,Z,⟨_,Z⟩,[_],_,Z,⟨_,Z⟩,[_],_,Z,⟨_,Z⟩,[_],_,Z,⟨_,Z⟩,Z⟩,[_,_,_,_],_,Z,⟨[_],_,Z,⟨_,Z⟩,[_],_,Z,⟨_,Z⟩,[_],_,Z,⟨_,Z⟩,[_],_,Z,⟨_,Z⟩,Z⟩,[_,_,_,_,_],_,Z,⟨[_],_,Z,⟨_,Z⟩,[_],_,Z,⟨_,Z⟩,[_],_,Z,⟨_,Z⟩,[_],_,Z,⟨_,Z⟩,[_],_,Z,⟨_,Z⟩,Z⟩,[_,_,_,_,_,_,_,_],_,Z,⟨[_],_,Z,⟨_,Z⟩,[_],_,Z,⟨_,Z⟩,[_],_,Z,⟨_,Z⟩,[_],_,Z,⟨_,Z⟩,[_],_,Z,⟨_,Z⟩,[_],_,Z,⟨_,Z⟩,[_],_,Z,⟨_,Z⟩,[_],_,Z,⟨_,Z⟩,Z⟩,[_,_,_,_],_,Z,⟨[_],_,Z,⟨_,Z⟩,[_],_,Z,⟨_,Z⟩,[_],_,Z,⟨_,Z⟩,[_],_,Z,⟨_,Z⟩,Z⟩,[_,_,_,_],_,Z,⟨[_],_,Z,⟨_,Z⟩,[_],_,Z,⟨_,Z⟩,[_],_,Z,⟨_,Z⟩,[_],_,Z,⟨_,Z⟩,Z⟩,[_,_],_,Z,⟨[_],_,Z,⟨_,Z⟩,[_],_,Z,⟨_,Z⟩,Z⟩,[_,_,_,_],_,Z,⟨[_],_,Z,⟨_,Z⟩,[_],_,Z,⟨_,Z⟩,[_],_,Z,⟨_,Z⟩,[_],_,Z,⟨_,Z⟩,Z⟩,[_,_,_,_],_,Z,⟨[_],_,Z,⟨_,Z⟩,[_],_,Z,⟨_,Z⟩,[_],_,Z,⟨_,Z⟩,[_],_,Z,⟨_,Z⟩,Z⟩,[_,_,_,_,_,_],_,Z,⟨[_],_,Z,⟨_,Z⟩,[_],_,Z,⟨_,Z⟩,[_],_,Z,⟨_,Z⟩,[_],_,Z,⟨_,Z⟩,[_],_,Z,⟨_,Z⟩,[_],_,Z,⟨_,Z⟩,Z⟩,[_,_],_,Z,⟨[_],_,Z,⟨_,Z⟩,[_],_,Z,⟨_,Z⟩,Z⟩,[_,_],_,Z,⟨[_],_,Z,⟨_,Z⟩,[_],_,Z,⟨_,Z⟩,Z⟩,Z⟩) (fun _=>rfl) (fun x y h=>?_) (by kernel_rfl)
  obtain⟨p1,p2,p3,p4,⟨p5,p6,p7,p8,p9,p10,p11,p12⟩,⟨p13,p14,p15,p16⟩,⟨p17,p18,p19,p20,p21⟩,⟨p22,p23,p24,p25,p26,p27,p28,p29⟩,⟨p30,p31,p32,p33⟩,⟨p34,p35,p36,p37⟩,⟨p38,p39⟩,⟨p40,p41,p42,p43⟩,⟨p44,p45,p46,p47⟩,⟨p48,p49,p50,p51,p52,p53⟩,⟨p54,p55⟩,⟨p56,p57⟩⟩:=x
  obtain⟨q58,q59,q60,q61,⟨q62,q63,q64,q65,q66,q67,q68,q69⟩,⟨q70,q71,q72,q73⟩,⟨q74,q75,q76,q77,q78⟩,⟨q79,q80,q81,q82,q83,q84,q85,q86⟩,⟨q87,q88,q89,q90⟩,⟨q91,q92,q93,q94⟩,⟨q95,q96⟩,⟨q97,q98,q99,q100⟩,⟨q101,q102,q103,q104⟩,⟨q105,q106,q107,q108,q109,q110⟩,⟨q111,q112⟩,⟨q113,q114⟩⟩:=y
  simpa[Qi,Q5,Fact.c,Starter.c,Read.c,Beacon.c,Sync.c,Hand.c,Silence.c,Pair.c,Report.c,Protest.c,Ruling.c,Appeal.c,Ref.c,and_assoc]using h
theorem QlV:prog.underlying 94=some (.struct (prog.fieldsOf 94)):=by kernel_rfl
theorem ns_94:prog.stoodInHeld 94=false:=by kernel_rfl
theorem Qho:YK prog 94 (fun x=>A.agg (hits_place.c x)):=by
  refine YK.struct QlV (fun _=>rfl) (fun x y h=>?_) (fun w em x=>?_) (fun w x y=>?_) (fun x=>?_)
  · cases x;cases y
    simpa[Qi,Q5,hits_place.c]using h
  · simp only[Qi,Q5,hits_place.c]
    rw[show(10000:Nat)=9998+1+1 from rfl]
    generalize(9998:Nat)=d
    simp[Instr.checkKey,runUnderlying94,runUnderlying3,Result.andThen,sizeOf3,isAgg3,part]
  · have u3:=underlying3
    have a3:=isAgg3
    have z3:=sizeOf3
    simp only[Qi,Q5,hits_place.c,Op.equal,Op.maxDepth]
    rw[show(10000:Nat)=9999+1 from Z,run_equalIn_agg w 9999 94 _ _ QlV ns_94]
    simp only[Program.fieldsOf,underlying94]
    go_simp
    cases x;cases y
    simp
    repeat' split
    all_goals simp_all
  · simp[Qi,Q5,hits_place.c,Instr.sameBits]
theorem QlM:Qv prog 94 [(0,1),(1,1),(2,1)]:=⟨_,runUnderlying94,(PL.cons sizeOf3 (PL.cons sizeOf3 (PL.cons sizeOf3 PL.nil)))⟩
theorem Qkm:Ys prog 133 94 3:=⟨runUnderlying133,sizeOf94,⟨_,zeroValue94,rfl⟩,⟨_,typeInfo94,by decide⟩⟩
theorem QlR:Qv prog 26 [(0,1),(1,1),(2,1),(3,1),(4,1)]:=⟨_,runUnderlying26,(PL.cons sizeOf3 (PL.cons sizeOf3 (PL.cons sizeOf3 (PL.cons sizeOf3 (PL.cons sizeOf3 PL.nil)))))⟩
theorem Qe8:Ys prog 68 26 5:=⟨runUnderlying68,sizeOf26,⟨_,zeroValue26,rfl⟩,⟨_,typeInfo26,by decide⟩⟩
theorem nt_26:prog.stoodInHeld 26=false:=by kernel_rfl
theorem Qki:EqD prog 26 Hit.c:=by
  refine Qip (QA underlying26 nt_26 isAgg26 sizeOf26 (QkW.cons Z (by decide) (QhU.int underlying3 isAgg3 sizeOf3 0) (fun _=>rfl) (QkW.cons Z (by decide) (QhU.int underlying3 isAgg3 sizeOf3 0) (fun _=>rfl) (QkW.cons Z (by decide) (QhU.int underlying3 isAgg3 sizeOf3 0) (fun _=>rfl) (QkW.cons Z (by decide) (QhU.int underlying3 isAgg3 sizeOf3 0) (fun _=>rfl) (QkW.cons Z (by decide) (QhU.int underlying3 isAgg3 sizeOf3 0) (fun _=>rfl) (QkW.nil _ _))))))) Z (fun x=>⟨[_],_,Z,⟨_,Z⟩,[_],_,Z,⟨_,Z⟩,[_],_,Z,⟨_,Z⟩,[_],_,Z,⟨_,Z⟩,[_],_,Z,⟨_,Z⟩,Z⟩) (fun _=>rfl) (fun x y h=>?_) (by kernel_rfl)
  obtain⟨p1,p2,p3,p4,p5⟩:=x
  obtain⟨q6,q7,q8,q9,q10⟩:=y
  simpa[Qi,Q5,Hit.c,and_assoc]using h
theorem Qlp:YP prog 26 3 3 1:=FA runUnderlying26 rfl sizeOf3
theorem Qlo:YP prog 26 4 4 1:=FA runUnderlying26 rfl sizeOf3
theorem pl_30:Qv prog 30 [(0,1),(1,1),(2,1),(3,1),(4,1),(5,1),(6,1),(7,1)]:=⟨_,runUnderlying30,(PL.cons sizeOf3 (PL.cons sizeOf3 (PL.cons sizeOf3 (PL.cons sizeOf3 (PL.cons sizeOf3 (PL.cons sizeOf3 (PL.cons sizeOf3 (PL.cons sizeOf3 PL.nil))))))))⟩
theorem pl_32:Qv prog 32 [(0,1),(1,1),(2,1),(3,1),(4,1)]:=⟨_,runUnderlying32,(PL.cons sizeOf3 (PL.cons sizeOf3 (PL.cons sizeOf3 (PL.cons sizeOf3 (PL.cons sizeOf3 PL.nil)))))⟩
theorem pl_34:Qv prog 34 [(0,1),(1,1),(2,1),(3,1),(4,1),(5,1),(6,1),(7,1)]:=⟨_,runUnderlying34,(PL.cons sizeOf3 (PL.cons sizeOf3 (PL.cons sizeOf3 (PL.cons sizeOf3 (PL.cons sizeOf3 (PL.cons sizeOf3 (PL.cons sizeOf3 (PL.cons sizeOf3 PL.nil))))))))⟩
theorem pl_36:Qv prog 36 [(0,1),(1,1),(2,1),(3,1)]:=⟨_,runUnderlying36,(PL.cons sizeOf3 (PL.cons sizeOf3 (PL.cons sizeOf3 (PL.cons sizeOf3 PL.nil))))⟩
theorem pl_40:Qv prog 40 [(0,1),(1,1)]:=⟨_,runUnderlying40,(PL.cons sizeOf3 (PL.cons sizeOf3 PL.nil))⟩
theorem pl_42:Qv prog 42 [(0,1),(1,1),(2,1),(3,1)]:=⟨_,runUnderlying42,(PL.cons sizeOf3 (PL.cons sizeOf3 (PL.cons sizeOf3 (PL.cons sizeOf3 PL.nil))))⟩
theorem pl_44:Qv prog 44 [(0,1),(1,1),(2,1),(3,1)]:=⟨_,runUnderlying44,(PL.cons sizeOf3 (PL.cons sizeOf3 (PL.cons sizeOf3 (PL.cons sizeOf3 PL.nil))))⟩
theorem pl_46:Qv prog 46 [(0,1),(1,1),(2,1),(3,1),(4,1),(5,1)]:=⟨_,runUnderlying46,(PL.cons sizeOf3 (PL.cons sizeOf3 (PL.cons sizeOf3 (PL.cons sizeOf3 (PL.cons sizeOf3 (PL.cons sizeOf3 PL.nil))))))⟩
theorem pl_48:Qv prog 48 [(0,1),(1,1)]:=⟨_,runUnderlying48,(PL.cons sizeOf3 (PL.cons sizeOf4 PL.nil))⟩
theorem pl_50:Qv prog 50 [(0,1),(1,1)]:=⟨_,runUnderlying50,(PL.cons sizeOf3 (PL.cons sizeOf3 PL.nil))⟩
theorem pl_88:Qv prog 88 [(0,1),(1,1),(2,1),(3,1),(4,1)]:=⟨_,runUnderlying88,(PL.cons sizeOf9 (PL.cons sizeOf85 (PL.cons sizeOf3 (PL.cons sizeOf86 (PL.cons sizeOf3 PL.nil)))))⟩
theorem Qmw:Qv prog 103 [(0,1),(1,1),(2,1),(3,1)]:=⟨_,runUnderlying103,(PL.cons sizeOf3 (PL.cons sizeOf3 (PL.cons sizeOf3 (PL.cons sizeOf3 PL.nil))))⟩
theorem Qmu:Qv prog 118 [(0,1),(1,1),(2,1),(3,1)]:=⟨_,runUnderlying118,(PL.cons sizeOf3 (PL.cons sizeOf3 (PL.cons sizeOf3 (PL.cons sizeOf116 PL.nil))))⟩
theorem Qmt:Qv prog 125 [(0,1),(1,1),(2,1)]:=⟨_,runUnderlying125,(PL.cons sizeOf3 (PL.cons sizeOf3 (PL.cons sizeOf85 PL.nil)))⟩
theorem Qms:Qv prog 145 [(0,1),(1,1)]:=⟨_,runUnderlying145,(PL.cons sizeOf9 (PL.cons sizeOf3 PL.nil))⟩
theorem Qmr:Qv prog 149 [(0,1),(1,1),(2,1),(3,1)]:=⟨_,runUnderlying149,(PL.cons sizeOf9 (PL.cons sizeOf3 (PL.cons sizeOf3 (PL.cons sizeOf4 PL.nil))))⟩
theorem Qmq:Qv prog 153 [(0,1),(1,1),(2,1)]:=⟨_,runUnderlying153,(PL.cons sizeOf9 (PL.cons sizeOf3 (PL.cons sizeOf3 PL.nil)))⟩
theorem Qmp:Qv prog 159 [(0,1),(1,1),(2,1)]:=⟨_,runUnderlying159,(PL.cons sizeOf3 (PL.cons sizeOf3 (PL.cons sizeOf3 PL.nil)))⟩
theorem Qmo:Qv prog 165 [(0,1),(1,1),(2,1),(3,1)]:=⟨_,runUnderlying165,(PL.cons sizeOf3 (PL.cons sizeOf3 (PL.cons sizeOf3 (PL.cons sizeOf3 PL.nil))))⟩
def tyT:TyI:={fld:=[(125,2,2),(67,1,1),(67,2,2),(67,3,3),(67,4,4),(67,5,5),(67,6,6),(67,7,7),(88,1,1),(88,3,3),(115,0,0),(88,0,0),(145,0,0),(149,0,0),(153,0,0),(67,0,0),(115,1,1),(103,0,0),(103,1,1),(103,2,2),(103,3,3),(125,1,1),(125,0,0),(159,0,0),(159,1,1),(159,2,2),(88,2,2),(88,4,4),(145,1,1),(149,3,3),(149,1,1),(149,2,2),(153,1,1),(153,2,2),(165,0,0),(165,1,1),(165,2,2),(165,3,3),(67,9,9),(65,0,0),(65,1,1),(65,2,2),(65,3,3),(65,4,4),(67,10,14),(67,11,15),(281,0,0),(118,0,0),(118,1,1),(118,2,2),(118,3,3),(229,0,0),(120,3,6),(120,4,7),(222,0,0),(120,2,2),(222,1,1),(120,0,0),(120,1,1),(67,8,8),(52,3,3),(52,4,4),(30,0,0),(30,1,1),(30,2,2),(30,3,3),(30,4,4),(30,5,5),(30,6,6),(30,7,7),(52,5,12),(24,0,0),(24,1,1),(24,2,2),(24,3,3),(52,6,16),(32,0,0),(32,1,1),(32,2,2),(32,3,3),(32,4,4),(52,7,21),(34,0,0),(34,1,1),(34,2,2),(34,3,3),(34,4,4),(34,5,5),(34,6,6),(34,7,7),(52,8,29),(36,0,0),(36,1,1),(36,2,2),(36,3,3),(52,9,33),(38,0,0),(38,1,1),(38,2,2),(38,3,3),(52,10,37),(40,0,0),(40,1,1),(52,11,39),(42,0,0),(42,1,1),(42,2,2),(42,3,3),(52,12,43),(44,0,0),(44,1,1),(44,2,2),(44,3,3),(52,13,47),(46,2,2),(46,0,0),(46,1,1),(46,3,3),(46,4,4),(46,5,5),(52,14,53),(48,0,0),(52,15,55),(50,0,0),(50,1,1),(52,0,0),(52,1,1),(52,2,2),(189,0,0),(48,1,1),(189,1,1),(199,0,0),(199,1,1),(197,0,0),(197,1,1),(94,0,0),(94,1,1),(94,2,2),(26,2,2),(26,0,0),(26,1,1),(26,3,3),(26,4,4)],agg:=[(52,true,57),(67,true,16),(125,true,3),(85,false,1),(56,false,1),(57,false,1),(58,false,1),(59,false,1),(60,false,1),(61,false,1),(62,false,1),(88,true,5),(86,false,1),(5,false,1),(9,false,1),(115,true,2),(145,true,2),(149,true,4),(153,true,3),(3,false,1),(168,false,1),(162,false,1),(103,true,4),(105,true,2),(155,false,1),(160,false,1),(159,true,3),(108,false,1),(173,false,1),(4,false,1),(163,false,1),(176,false,1),(166,false,1),(165,true,4),(180,true,3),(65,true,5),(120,true,8),(116,false,1),(63,false,1),(118,true,4),(229,true,8),(281,true,4),(226,false,1),(186,false,1),(101,false,1),(22,false,1),(197,true,2),(189,true,2),(234,false,1),(235,false,1),(236,false,1),(237,false,1),(27,false,1),(199,true,3),(193,false,1),(38,true,4),(24,true,4),(94,true,3),(68,false,1),(26,true,5)],zer:=[(24,[I 0,I 0,I 0,I 0],[(0,1),(1,1),(2,1),(3,1)]),(52,[I 0,I 0,I 0,I 0,I 0,I 0,I 0,I 0,I 0,I 0,I 0,I 0,I 0,I 0,I 0,I 0,I 0,I 0,I 0,I 0,I 0,I 0,I 0,I 0,I 0,I 0,I 0,I 0,I 0,I 0,I 0,I 0,I 0,I 0,I 0,I 0,I 0,I 0,I 0,I 0,I 0,I 0,I 0,I 0,I 0,I 0,I 0,I 0,I 0,I 0,I 0,I 0,I 0,I 0,.bool false,I 0,I 0],[(0,1),(1,1),(2,1),(3,1),(4,8),(12,4),(16,5),(21,8),(29,4),(33,4),(37,2),(39,4),(43,4),(47,6),(53,2),(55,2)]),(115,[.str [],I 0],[(0,1),(1,1)]),(120,[I 0,I 0,I 0,I 0,I 0,.rsl 4 (List.map Cond.enc []),.rsl 8 (List.map Step.enc []),.rsl 8 (List.map Step.enc [])],[(0,1),(1,1),(2,4),(6,1),(7,1)]),(65,[I 0,I 0,I 0,I 0,I 0],[(0,1),(1,1),(2,1),(3,1),(4,1)]),(67,[.str [],.rsl 2 (List.map Mat.c []),.rsl 4 (List.map Leg.c []),.rsl 5 (List.map Distance.c []),.rsl 2 (List.map Wave.c []),.rsl 4 (List.map Offence.c []),.rsl 3 (List.map Category.c []),.rsl 4 (List.map Prize.c []),.rsl 8 (List.map Step.enc []),I 0,I 0,I 0,I 0,I 0,I 0,I 0],[(0,1),(1,1),(2,1),(3,1),(4,1),(5,1),(6,1),(7,1),(8,1),(9,5),(14,1),(15,1)]),(105,[I 0,I 0],[(0,1),(1,1)]),(180,[I 0,I 0,I 0],[(0,1),(1,1),(2,1)]),(229,[I 0,I 0,I 0,I 0,I 0,.rsl 4 (List.map Cond.enc []),.rsl 8 (List.map Step.enc []),.rsl 8 (List.map Step.enc [])],[(0,8)]),(281,[I 0,I 0,I 0,.rsl 4 (List.map Cond.enc [])],[(0,4)]),(222,[I 0,I 0],[(0,1),(1,1)]),(199,[.nilp,I 0,I 0],[(0,1),(1,2)]),(197,[I 0,I 0],[(0,1),(1,1)]),(189,[.nils,.nilf],[(0,1),(1,1)]),(94,[I 0,I 0,I 0],[(0,1),(1,1),(2,1)]),(26,[I 0,I 0,I 0,I 0,I 0],[(0,1),(1,1),(2,1),(3,1),(4,1)]),(38,[I 0,I 0,I 0,I 0],[(0,1),(1,1),(2,1),(3,1)])]}
def tyF:List (Nat×List (Nat×Nat)):=[(24,[(0,1),(1,1),(2,1),(3,1)]),(26,[(0,1),(1,1),(2,1),(3,1),(4,1)]),(30,[(0,1),(1,1),(2,1),(3,1),(4,1),(5,1),(6,1),(7,1)]),(32,[(0,1),(1,1),(2,1),(3,1),(4,1)]),(34,[(0,1),(1,1),(2,1),(3,1),(4,1),(5,1),(6,1),(7,1)]),(36,[(0,1),(1,1),(2,1),(3,1)]),(38,[(0,1),(1,1),(2,1),(3,1)]),(40,[(0,1),(1,1)]),(42,[(0,1),(1,1),(2,1),(3,1)]),(44,[(0,1),(1,1),(2,1),(3,1)]),(46,[(0,1),(1,1),(2,1),(3,1),(4,1),(5,1)]),(48,[(0,1),(1,1)]),(50,[(0,1),(1,1)]),(52,[(0,1),(1,1),(2,1),(3,1),(4,8),(12,4),(16,5),(21,8),(29,4),(33,4),(37,2),(39,4),(43,4),(47,6),(53,2),(55,2)]),(65,[(0,1),(1,1),(2,1),(3,1),(4,1)]),(67,[(0,1),(1,1),(2,1),(3,1),(4,1),(5,1),(6,1),(7,1),(8,1),(9,5),(14,1),(15,1)]),(88,[(0,1),(1,1),(2,1),(3,1),(4,1)]),(94,[(0,1),(1,1),(2,1)]),(103,[(0,1),(1,1),(2,1),(3,1)]),(115,[(0,1),(1,1)]),(118,[(0,1),(1,1),(2,1),(3,1)]),(120,[(0,1),(1,1),(2,4),(6,1),(7,1)]),(125,[(0,1),(1,1),(2,1)]),(145,[(0,1),(1,1)]),(149,[(0,1),(1,1),(2,1),(3,1)]),(153,[(0,1),(1,1),(2,1)]),(159,[(0,1),(1,1),(2,1)]),(165,[(0,1),(1,1),(2,1),(3,1)]),(189,[(0,1),(1,1)]),(197,[(0,1),(1,1)]),(199,[(0,1),(1,2)]),(222,[(0,1),(1,1)]),(229,[(0,8)]),(281,[(0,4)])]
theorem tyOK:TyOK prog tyT:=
  ⟨QmJ (L:=tyF) (yc QlS (yc QlR (yc pl_30 (yc pl_32 (yc pl_34 (yc pl_36 (yc QlQ (yc pl_40 (yc pl_42 (yc pl_44 (yc pl_46 (yc pl_48 (yc pl_50 (yc QlP (yc QlO (yc QlN (yc pl_88 (yc QlM (yc Qmw (yc QjK (yc Qmu (yc QjJ (yc Qmt (yc Qms (yc Qmr (yc Qmq (yc Qmp (yc Qmo (yc QjI (yc QjH (yc QjG (yc QjF (yc QjE (yc QjD (List.forall_mem_nil _))))))))))))))))))))))))))))))))))) (by kernel_rfl),
   yc ⟨isAgg52,sizeOf52⟩ (yc ⟨isAgg67,sizeOf67⟩ (yc ⟨isAgg125,sizeOf125⟩ (yc ⟨isAgg85,sizeOf85⟩ (yc ⟨isAgg56,sizeOf56⟩ (yc ⟨isAgg57,sizeOf57⟩ (yc ⟨isAgg58,sizeOf58⟩ (yc ⟨isAgg59,sizeOf59⟩ (yc ⟨isAgg60,sizeOf60⟩ (yc ⟨isAgg61,sizeOf61⟩ (yc ⟨isAgg62,sizeOf62⟩ (yc ⟨isAgg88,sizeOf88⟩ (yc ⟨isAgg86,sizeOf86⟩ (yc ⟨isAgg5,sizeOf5⟩ (yc ⟨isAgg9,sizeOf9⟩ (yc ⟨isAgg115,sizeOf115⟩ (yc ⟨isAgg145,sizeOf145⟩ (yc ⟨isAgg149,sizeOf149⟩ (yc ⟨isAgg153,sizeOf153⟩ (yc ⟨isAgg3,sizeOf3⟩ (yc ⟨isAgg168,sizeOf168⟩ (yc ⟨isAgg162,sizeOf162⟩ (yc ⟨isAgg103,sizeOf103⟩ (yc ⟨isAgg105,sizeOf105⟩ (yc ⟨isAgg155,sizeOf155⟩ (yc ⟨isAgg160,sizeOf160⟩ (yc ⟨isAgg159,sizeOf159⟩ (yc ⟨isAgg108,sizeOf108⟩ (yc ⟨isAgg173,sizeOf173⟩ (yc ⟨isAgg4,sizeOf4⟩ (yc ⟨isAgg163,sizeOf163⟩ (yc ⟨isAgg176,sizeOf176⟩ (yc ⟨isAgg166,sizeOf166⟩ (yc ⟨isAgg165,sizeOf165⟩ (yc ⟨isAgg180,sizeOf180⟩ (yc ⟨isAgg65,sizeOf65⟩ (yc ⟨isAgg120,sizeOf120⟩ (yc ⟨isAgg116,sizeOf116⟩ (yc ⟨isAgg63,sizeOf63⟩ (yc ⟨isAgg118,sizeOf118⟩ (yc ⟨isAgg229,sizeOf229⟩ (yc ⟨isAgg281,sizeOf281⟩ (yc ⟨isAgg226,sizeOf226⟩ (yc ⟨isAgg186,sizeOf186⟩ (yc ⟨isAgg101,sizeOf101⟩ (yc ⟨isAgg22,sizeOf22⟩ (yc ⟨isAgg197,sizeOf197⟩ (yc ⟨isAgg189,sizeOf189⟩ (yc ⟨isAgg234,sizeOf234⟩ (yc ⟨isAgg235,sizeOf235⟩ (yc ⟨isAgg236,sizeOf236⟩ (yc ⟨isAgg237,sizeOf237⟩ (yc ⟨isAgg27,sizeOf27⟩ (yc ⟨isAgg199,sizeOf199⟩ (yc ⟨isAgg193,sizeOf193⟩ (yc ⟨isAgg38,sizeOf38⟩ (yc ⟨isAgg24,sizeOf24⟩ (yc ⟨isAgg94,sizeOf94⟩ (yc ⟨isAgg68,sizeOf68⟩ (yc ⟨isAgg26,sizeOf26⟩ (List.forall_mem_nil _)))))))))))))))))))))))))))))))))))))))))))))))))))))))))))),
   yc ⟨⟨_,zeroValue24,(ZR.agg (zc ZR.int (zc ZR.int (zc ZR.int (zc ZR.int ZL.nil)))))⟩,QlS⟩ (yc ⟨⟨_,zeroValue52,(ZR.agg (zc ZR.int (zc ZR.int (zc ZR.int (zc ZR.int (zc ZR.int (zc ZR.int (zc ZR.int (zc ZR.int (zc ZR.int (zc ZR.int (zc ZR.int (zc ZR.int (zc ZR.int (zc ZR.int (zc ZR.int (zc ZR.int (zc ZR.int (zc ZR.int (zc ZR.int (zc ZR.int (zc ZR.int (zc ZR.int (zc ZR.int (zc ZR.int (zc ZR.int (zc ZR.int (zc ZR.int (zc ZR.int (zc ZR.int (zc ZR.int (zc ZR.int (zc ZR.int (zc ZR.int (zc ZR.int (zc ZR.int (zc ZR.int (zc ZR.int (zc ZR.int (zc ZR.int (zc ZR.int (zc ZR.int (zc ZR.int (zc ZR.int (zc ZR.int (zc ZR.int (zc ZR.int (zc ZR.int (zc ZR.int (zc ZR.int (zc ZR.int (zc ZR.int (zc ZR.int (zc ZR.int (zc ZR.int (zc ZR.bool (zc ZR.int (zc ZR.int ZL.nil))))))))))))))))))))))))))))))))))))))))))))))))))))))))))⟩,QlP⟩ (yc ⟨⟨_,zeroValue115,(ZR.agg (zc ZR.str (zc ZR.int ZL.nil)))⟩,QjK⟩ (yc ⟨⟨_,zeroValue120,(ZR.agg (zc ZR.int (zc ZR.int (zc ZR.int (zc ZR.int (zc ZR.int (zc ZR.rsl (zc ZR.rsl (zc ZR.rsl ZL.nil)))))))))⟩,QjJ⟩ (yc ⟨⟨_,zeroValue65,(ZR.agg (zc ZR.int (zc ZR.int (zc ZR.int (zc ZR.int (zc ZR.int ZL.nil))))))⟩,QlO⟩ (yc ⟨⟨_,zeroValue67,(ZR.agg (zc ZR.str (zc ZR.rsl (zc ZR.rsl (zc ZR.rsl (zc ZR.rsl (zc ZR.rsl (zc ZR.rsl (zc ZR.rsl (zc ZR.rsl (zc ZR.int (zc ZR.int (zc ZR.int (zc ZR.int (zc ZR.int (zc ZR.int (zc ZR.int ZL.nil)))))))))))))))))⟩,QlN⟩ (yc ⟨⟨_,zeroValue105,(ZR.agg (zc ZR.int (zc ZR.int ZL.nil)))⟩,Qmv⟩ (yc ⟨⟨_,zeroValue180,(ZR.agg (zc ZR.int (zc ZR.int (zc ZR.int ZL.nil))))⟩,Qmn⟩ (yc ⟨⟨_,zeroValue229,(ZR.agg (zc ZR.int (zc ZR.int (zc ZR.int (zc ZR.int (zc ZR.int (zc ZR.rsl (zc ZR.rsl (zc ZR.rsl ZL.nil)))))))))⟩,QjE⟩ (yc ⟨⟨_,zeroValue281,(ZR.agg (zc ZR.int (zc ZR.int (zc ZR.int (zc ZR.rsl ZL.nil)))))⟩,QjD⟩ (yc ⟨⟨_,zeroValue222,(ZR.agg (zc ZR.int (zc ZR.int ZL.nil)))⟩,QjF⟩ (yc ⟨⟨_,zeroValue199,(ZR.agg (zc ZR.nilp (zc ZR.int (zc ZR.int ZL.nil))))⟩,QjG⟩ (yc ⟨⟨_,zeroValue197,(ZR.agg (zc ZR.int (zc ZR.int ZL.nil)))⟩,QjH⟩ (yc ⟨⟨_,zeroValue189,(ZR.agg (zc ZR.nils (zc ZR.nilf ZL.nil)))⟩,QjI⟩ (yc ⟨⟨_,zeroValue94,(ZR.agg (zc ZR.int (zc ZR.int (zc ZR.int ZL.nil))))⟩,QlM⟩ (yc ⟨⟨_,zeroValue26,(ZR.agg (zc ZR.int (zc ZR.int (zc ZR.int (zc ZR.int (zc ZR.int ZL.nil))))))⟩,QlR⟩ (yc ⟨⟨_,zeroValue38,(ZR.agg (zc ZR.int (zc ZR.int (zc ZR.int (zc ZR.int ZL.nil)))))⟩,QlQ⟩ (List.forall_mem_nil _)))))))))))))))))⟩
def tyX:TyX:={ty:=tyT,al:=[(52,(.agg [I 0,I 0,I 0,I 0,I 0,I 0,I 0,I 0,I 0,I 0,I 0,I 0,I 0,I 0,I 0,I 0,I 0,I 0,I 0,I 0,I 0,I 0,I 0,I 0,I 0,I 0,I 0,I 0,I 0,I 0,I 0,I 0,I 0,I 0,I 0,I 0,I 0,I 0,I 0,I 0,I 0,I 0,I 0,I 0,I 0,I 0,I 0,I 0,I 0,I 0,I 0,I 0,I 0,I 0,.bool false,I 0,I 0])),(67,(.agg [.str [],.rsl 2 (List.map Mat.c []),.rsl 4 (List.map Leg.c []),.rsl 5 (List.map Distance.c []),.rsl 2 (List.map Wave.c []),.rsl 4 (List.map Offence.c []),.rsl 3 (List.map Category.c []),.rsl 4 (List.map Prize.c []),.rsl 8 (List.map Step.enc []),I 0,I 0,I 0,I 0,I 0,I 0,I 0])),(125,(.agg [I 0,I 0,.rsl 3 (List.map Part.enc [])])),(88,(.agg [.str [],.rsl 3 (List.map Part.enc []),I 0,.rsl 3 (List.map Cutoff.c []),I 0])),(115,(.agg [.str [],I 0])),(145,(.agg [.str [],I 0])),(149,(.agg [.str [],I 0,I 0,.bool false])),(153,(.agg [.str [],I 0,I 0])),(105,(.agg [I 0,I 0])),(103,(.agg [I 0,I 0,I 0,I 0])),(180,(.agg [I 0,I 0,I 0])),(165,(.agg [I 0,I 0,I 0,I 0])),(3,(I 0)),(155,.nilf),(160,.nilf),(65,(.agg [I 0,I 0,I 0,I 0,I 0])),(120,(.agg [I 0,I 0,I 0,I 0,I 0,.rsl 4 (List.map Cond.enc []),.rsl 8 (List.map Step.enc []),.rsl 8 (List.map Step.enc [])])),(118,(.agg [I 0,I 0,I 0,.rsl 4 (List.map Cond.enc [])])),(229,(.agg [I 0,I 0,I 0,I 0,I 0,.rsl 4 (List.map Cond.enc []),.rsl 8 (List.map Step.enc []),.rsl 8 (List.map Step.enc [])])),(281,(.agg [I 0,I 0,I 0,.rsl 4 (List.map Cond.enc [])])),(186,.nilm),(101,.nilm),(189,(.agg [.nils,.nilf])),(234,.nilp),(235,.nilp),(236,.nilp),(237,.nilp),(199,(.agg [.nilp,I 0,I 0])),(38,(.agg [I 0,I 0,I 0,I 0])),(24,(.agg [I 0,I 0,I 0,I 0])),(94,(.agg [I 0,I 0,I 0])),(68,.nils),(26,(.agg [I 0,I 0,I 0,I 0,I 0]))],sl:=[203,183,109,187,22,133,68]}
theorem QaS:Qa2 prog tyX:=
  ⟨tyOK,
   yc ⟨⟨_,zeroValue52,(zrC Z)⟩,Z,Z⟩ (yc ⟨⟨_,zeroValue67,(zrC Z)⟩,Z,Z⟩ (yc ⟨⟨_,zeroValue125,(zrC Z)⟩,Z,Z⟩ (yc ⟨⟨_,zeroValue88,(zrC Z)⟩,Z,Z⟩ (yc ⟨⟨_,zeroValue115,(zrC Z)⟩,Z,Z⟩ (yc ⟨⟨_,zeroValue145,(zrC Z)⟩,Z,Z⟩ (yc ⟨⟨_,zeroValue149,(zrC Z)⟩,Z,Z⟩ (yc ⟨⟨_,zeroValue153,(zrC Z)⟩,Z,Z⟩ (yc ⟨⟨_,zeroValue105,(zrC Z)⟩,Z,Z⟩ (yc ⟨⟨_,zeroValue103,(zrC Z)⟩,Z,Z⟩ (yc ⟨⟨_,zeroValue180,(zrC Z)⟩,Z,Z⟩ (yc ⟨⟨_,zeroValue165,(zrC Z)⟩,Z,Z⟩ (yc ⟨⟨_,zeroValue3,ZR.int⟩,Z,Z⟩ (yc ⟨⟨_,zeroValue155,ZR.nilf⟩,Z,Z⟩ (yc ⟨⟨_,zeroValue160,ZR.nilf⟩,Z,Z⟩ (yc ⟨⟨_,zeroValue65,(zrC Z)⟩,Z,Z⟩ (yc ⟨⟨_,zeroValue120,(zrC Z)⟩,Z,Z⟩ (yc ⟨⟨_,zeroValue118,(zrC Z)⟩,Z,Z⟩ (yc ⟨⟨_,zeroValue229,(zrC Z)⟩,Z,Z⟩ (yc ⟨⟨_,zeroValue281,(zrC Z)⟩,Z,Z⟩ (yc ⟨⟨_,zeroValue186,ZR.nilm⟩,Z,Z⟩ (yc ⟨⟨_,zeroValue101,ZR.nilm⟩,Z,Z⟩ (yc ⟨⟨_,zeroValue189,(zrC Z)⟩,Z,Z⟩ (yc ⟨⟨_,zeroValue234,ZR.nilp⟩,Z,Z⟩ (yc ⟨⟨_,zeroValue235,ZR.nilp⟩,Z,Z⟩ (yc ⟨⟨_,zeroValue236,ZR.nilp⟩,Z,Z⟩ (yc ⟨⟨_,zeroValue237,ZR.nilp⟩,Z,Z⟩ (yc ⟨⟨_,zeroValue199,(zrC Z)⟩,Z,Z⟩ (yc ⟨⟨_,zeroValue38,(zrC Z)⟩,Z,Z⟩ (yc ⟨⟨_,zeroValue24,(zrC Z)⟩,Z,Z⟩ (yc ⟨⟨_,zeroValue94,(zrC Z)⟩,Z,Z⟩ (yc ⟨⟨_,zeroValue68,ZR.nils⟩,Z,Z⟩ (yc ⟨⟨_,zeroValue26,(zrC Z)⟩,Z,Z⟩ (List.forall_mem_nil _))))))))))))))))))))))))))))))))),
   yc ⟨_,runUnderlying203⟩ (yc ⟨_,runUnderlying183⟩ (yc ⟨_,runUnderlying109⟩ (yc ⟨_,runUnderlying187⟩ (yc ⟨_,runUnderlying22⟩ (yc ⟨_,runUnderlying133⟩ (yc ⟨_,runUnderlying68⟩ (List.forall_mem_nil _)))))))⟩
theorem G0{h0 N:Nat}{c:Code}{c':Cf}{k':List Kf}{env env':Env}{H H':Qc}{Q:Qm}(n:Nat)(h:Qhf tyX h0 N n (.code c) [] env H=some (c',k',env',H'))(g:Hd prog h0 N c' k' env' H' Q):TC prog h0 N c env H Q:=Qca QaS n h g
theorem Gc{h0 N:Nat}{k:List Kf}{c:Code}{c':Cf}{k':List Kf}{env env':Env}{H H':Qc}{Q:Qm}(n:Nat)(h:Qhf tyX h0 N n (.code c) k env H=some (c',k',env',H'))(g:Hd prog h0 N c' k' env' H' Q):TC prog h0 N c env H (kq prog h0 N k Q):=Qca QaS n h g
theorem Go{h0 N:Nat}{k:List Kf}{all:Array Oper}{l:List Oper}{c':Cf}{k':List Kf}{env env':Env}{H H':Qc}{Q:Qm}(n:Nat)(h:Qhf tyX h0 N n (.ops all l) k env H=some (c',k',env',H'))(g:Hd prog h0 N c' k' env' H' Q):WO prog h0 N all l env H (kq prog h0 N k Q):=Qca QaS n h g
theorem Gx{h0 N:Nat}{k:List Kf}{x:AEx}{c':Cf}{k':List Kf}{env env':Env}{H H':Qc}{Q:Qm}(n:Nat)(h:Qhf tyX h0 N n (.out x) k env H=some (c',k',env',H'))(g:Hd prog h0 N c' k' env' H' Q):kq prog h0 N k Q x env H:=Qca QaS n h g
theorem D{N m:Nat}{l r r':List Oper}{ds:List Nat}{env:Env}{H:Qc}{K:List Oper->Env->Qc->Prop}{xs xs':List A}(n:Nat)(h:Qf9 tyX N m l ds env H n xs.length r xs=some (r',xs'))(k:DS prog N m l ds env H K r' xs'):DS prog N m l ds env H K r xs:=QdL QaS n _ rfl h k
def tyZ:TyZ:={sl:=[(85,125,3),(56,115,2),(57,103,4),(58,88,5),(59,145,2),(60,149,4),(61,153,3),(62,165,4),(86,159,3),(203,5,1),(109,3,1),(63,120,8),(116,118,4),(183,226,1),(22,52,57),(68,26,5)],fn:=[64,189,129,67,65,69,71,73,75,66,68,70,72,74,131,191,130,77,86,137,194,136,82,139,195,138,89,78,76,133,192,132,79,135,193,134,81,80,101,151,100,91,141,196,140,83,143,197,142,94,145,198,144,84,147,199,146,97,85,87,88,42,90,92,93,95,96,99,226,200,148,217,149,218,202,201,98,102,103,44,43,38,39,40,41,152,153,154,155,156,105,45,18,24,49,108,48,23,116,54,53,17,37,47,107,16,46,30,31,21,22,20,9,11,14,27,28,115,52,114,29,8,13,19]}
theorem QdG:Qco prog tyZ:=
  ⟨yc ⟨runUnderlying85,sizeOf125⟩ (yc ⟨runUnderlying56,sizeOf115⟩ (yc ⟨runUnderlying57,sizeOf103⟩ (yc ⟨runUnderlying58,sizeOf88⟩ (yc ⟨runUnderlying59,sizeOf145⟩ (yc ⟨runUnderlying60,sizeOf149⟩ (yc ⟨runUnderlying61,sizeOf153⟩ (yc ⟨runUnderlying62,sizeOf165⟩ (yc ⟨runUnderlying86,sizeOf159⟩ (yc ⟨runUnderlying203,sizeOf5⟩ (yc ⟨runUnderlying109,sizeOf3⟩ (yc ⟨runUnderlying63,sizeOf120⟩ (yc ⟨runUnderlying116,sizeOf118⟩ (yc ⟨runUnderlying183,sizeOf226⟩ (yc ⟨runUnderlying22,sizeOf52⟩ (yc ⟨runUnderlying68,sizeOf26⟩ (List.forall_mem_nil _)))))))))))))))),
   yc call64 (yc call189 (yc call129 (yc call67 (yc call65 (yc call69 (yc call71 (yc call73 (yc call75 (yc call66 (yc call68 (yc call70 (yc call72 (yc call74 (yc call131 (yc call191 (yc call130 (yc call77 (yc call86 (yc call137 (yc call194 (yc call136 (yc call82 (yc call139 (yc call195 (yc call138 (yc call89 (yc call78 (yc call76 (yc call133 (yc call192 (yc call132 (yc call79 (yc call135 (yc call193 (yc call134 (yc call81 (yc call80 (yc call101 (yc call151 (yc call100 (yc call91 (yc call141 (yc call196 (yc call140 (yc call83 (yc call143 (yc call197 (yc call142 (yc call94 (yc call145 (yc call198 (yc call144 (yc call84 (yc call147 (yc call199 (yc call146 (yc call97 (yc call85 (yc call87 (yc call88 (yc call42 (yc call90 (yc call92 (yc call93 (yc call95 (yc call96 (yc call99 (yc call226 (yc call200 (yc call148 (yc call217 (yc call149 (yc call218 (yc call202 (yc call201 (yc call98 (yc call102 (yc call103 (yc call44 (yc call43 (yc call38 (yc call39 (yc call40 (yc call41 (yc call152 (yc call153 (yc call154 (yc call155 (yc call156 (yc call105 (yc call45 (yc call18 (yc call24 (yc call49 (yc call108 (yc call48 (yc call23 (yc call116 (yc call54 (yc call53 (yc call17 (yc call37 (yc call47 (yc call107 (yc call16 (yc call46 (yc call30 (yc call31 (yc call21 (yc call22 (yc call20 (yc call9 (yc call11 (yc call14 (yc call27 (yc call28 (yc call115 (yc call52 (yc call114 (yc call29 (yc call8 (yc call13 (yc call19 (List.forall_mem_nil _))))))))))))))))))))))))))))))))))))))))))))))))))))))))))))))))))))))))))))))))))))))))))))))))))))))))))))))))))))))))))))⟩
theorem Iz{h0 N:Nat}{all:Array Oper}{o:Oper}{l:List Oper}{env:Env}{H:Qc}{Q:Qm}{d:Nat}{α:Type}{e:α->List A}{t et k:Nat}{L:List α}{kk:IntKind}{i:Int}{v:α}(h:idx L i=some v)(q:ixB o env=some (d,t,k,L.map e,kk,i))(g:WO prog h0 N all l (up env d (.rp (e v))) H Q)(ht:QbJ tyZ.sl t=some (et,k):=by exact rfl)(hg:YA all o env=some true:=by exact rfl)(hN:Nat.blt d N=true:=by exact rfl):WO prog h0 N all (o::l) env H Q:=Izz QdG h q g ht hg hN
theorem IzE{h0 N:Nat}{all:Array Oper}{o:Oper}{l:List Oper}{env:Env}{H:Qc}{Q:Qm}{d:Nat}{α:Type}{e:α->List A}{t et k:Nat}{L:List α}{kk:IntKind}{i:Int}{v:α}{cs:List A}(h:idx L i=some v)(he:e v=cs)(q:ixB o env=some (d,t,k,L.map e,kk,i))(g:WO prog h0 N all l (up env d (.rp cs)) H Q)(ht:QbJ tyZ.sl t=some (et,k):=by exact rfl)(hg:YA all o env=some true:=by exact rfl)(hN:Nat.blt d N=true:=by exact rfl):WO prog h0 N all (o::l) env H Q:=Ize QdG h he q g ht hg hN
theorem Lm{h0 N:Nat}{all:Array Oper}{o:Oper}{l:List Oper}{env:Env}{H:Qc}{Q:Qm}{d:Nat}{α:Type}{e:α->List A}{t et k k':Nat}{L:List α}(q:lnB o env=some (d,t,.mk (.rsl k (L.map e))))(g:WO prog h0 N all l (up env d (I L.length)) H Q)(ht:QbJ tyZ.sl t=some (et,k'):=by exact rfl)(hg:YA all o env=some true:=by exact rfl)(hN:Nat.blt d N=true:=by exact rfl):WO prog h0 N all (o::l) env H Q:=Lmz QdG q g ht hg hN
theorem Cz{h0 N:Nat}{all:Array Oper}{o:Oper}{l:List Oper}{env:Env}{H:Qc}{Q:Qm}{d:Nat}{β γ:Type}{F:Option β}{F':β->Option γ}{r:γ}{f:Nat}{args argsc:List A}{w:β->A}{Hc:Qc}(π:List Nat)(h:F.bind F'=some r)(hC:∀v,F=some v->C prog f argsc Hc (RQ w (fun _=>Hc) v))(hop:QeG tyZ o env=some (d,f,args))(g:∀v,F=some v->F' v=some r->WO prog h0 N all l (up env d (w v)) H Q)(hv:∀v,Qhc (w v)=some (.mk (w v)):=by exact fun _=>rfl)(hargs:args=Qaa (rho π H.length) argsc:=by exact rfl)(hH:π.map (fun p=>H[p]?)=(Hc.map (QG (rho π H.length))).map some:=by exact rfl)(hπ:π.Nodup:=by decide)(hg:YA all o env=some true:=by exact rfl)(hN:Nat.blt d N=true:=by exact rfl)(hh:Nat.ble h0 H.length=true:=by exact rfl):WO prog h0 N all (o::l) env H Q:=Czz QdG π h hC hop g hv hargs hH hπ hg hN hh
theorem Cb{h0 N:Nat}{all:Array Oper}{o:Oper}{l:List Oper}{env:Env}{H:Qc}{Q:Qm}{d:Nat}{β γ:Type}{F:Option β}{F':β->Option γ}{r:γ}{f:Nat}{args argsc:List A}{w:β->A}(h:F.bind F'=some r)(hC:∀v,F=some v->C prog f argsc [] (RQ w (fun _=>[]) v))(hop:QeG tyZ o env=some (d,f,args))(hL:Qa5 H args argsc)(g:∀v,F=some v->F' v=some r->WO prog h0 N all l (up env d (w v)) H Q)(hv:∀v,QU (w v)=true:=by exact fun _=>rfl)(hg:YA all o env=some true:=by exact rfl)(hN:Nat.blt d N=true:=by exact rfl):WO prog h0 N all (o::l) env H Q:=Cbz QdG h hC hop hL g hv hg hN
theorem Dz{N m:Nat}{o:Oper}{l ll:List Oper}{ds:List Nat}{xs:List A}{env:Env}{H:Qc}{K:List Oper->Env->Qc->Prop}{d:Nat}{β γ:Type}{F:Option β}{F':β->Option γ}{r:γ}{f:Nat}{args argsc:List A}{w:β->A}{Hc:Qc}(π:List Nat)(h:F.bind F'=some r)(hC:∀v,F=some v->C prog f argsc Hc (RQ w (fun _=>Hc) v))(hop:QeG tyZ o (QO (Qf o) 0 ds xs env)=some (d,f,args))(g:∀v,F=some v->F' v=some r->DS prog N m ll ds env H K l (xs++[w v]))(hv:∀v,Qhc (w v)=some (.mk (w v)):=by exact fun _=>rfl)(hargs:args=Qaa (rho π H.length) argsc:=by exact rfl)(hH:π.map (fun p=>H[p]?)=(Hc.map (QG (rho π H.length))).map some:=by exact rfl)(hπ:π.Nodup:=by decide)(hg:YA ll.toArray o (QO (Qf o) 0 ds xs env)=some true:=by exact rfl)(hN:Nat.blt d N=true:=by exact rfl)(hx:Nat.blt xs.length m=true:=by exact rfl):DS prog N m ll ds env H K (o::l) xs:=DzZ QdG π h hC hop g hv hargs hH hπ hg hN hx
theorem DSs{h0 N id:Nat}{l:List Oper}{env:Env}{H:Qc}{Q:Qm}(m:Nat)(hc:Go.Sw.draw0 l m N (Qaj m 0 l)=true)(h:DS prog N m l (Qaj m 0 l) env H (fun r e H=>WO prog h0 N l.toArray r e H Q) l [])(h0B:Nat.ble h0 H.length=true:=by exact rfl):TC prog h0 N (.region id l.toArray true) env H Q:=Qk0 (k:=[]) m draws hc h0B h
theorem Da{N m:Nat}{cat:List Nat}{l r r':List Oper}{ds:List Nat}{env:Env}{H:Qc}{K:List Oper->Env->Qc->Prop}{xs xs':List A}(n:Nat)(h:Qga tyX N m cat l ds env H n xs.length r xs=some (r',xs'))(k:DA prog N m cat l ds env H K r' xs'):DA prog N m cat l ds env H K r xs:=QdO QaS n _ rfl h k
theorem Db{N m:Nat}{cat:List Nat}{l r r':List Oper}{ds:List Nat}{env:Env}{H H1:Qc}{K:List Oper->Env->Qc->Prop}{xs xs':List A}(n:Nat)(h:QdN tyX N cat l ds env H1 n xs.length r xs=some (r',xs'))(k:DB prog N m cat l ds env H H1 K r' xs'):DB prog N m cat l ds env H H1 K r xs:=Qbp QaS n _ rfl h k
theorem Dk{N m n:Nat}{bs:List Nat}{cat:Kat}{l r r':List Oper}{ds:List Nat}{env:Env}{X:Qc}{Hs Hs':List Qc}{K:List Oper->Env->Qc->Prop}{xs xs':List A}(k:Nat)(h:QdM tyX N m cat l ds env n k xs.length Hs.length Hs X r xs=some (Hs',r',xs'))(g:DK prog N m bs cat l ds env n K Hs' X r' xs'):DK prog N m bs cat l ds env n K Hs X r xs:=Qbo QaS k _ _ rfl rfl h g
theorem Dks{N m n:Nat}{bs:List Nat}{cat:Kat}{l r:List Oper}{ds:List Nat}{env:Env}{X:Qc}{Hs:List Qc}{K:List Oper->Env->Qc->Prop}{xs:List A}{o:Oper}{x:A}{d lo hi:Nat}(h:allV tyX o (QO (Qf o) 0 ds xs env) x (hi+1-lo) (X::Hs))(k:DK prog N m bs cat l ds env n K Hs X r (xs++[x]))(hc:Yt cat xs.length=some (0,lo,hi):=by exact rfl)(hd:o.dst=some d:=by exact rfl)(hcH:Nat.beq hi Hs.length=true:=by exact rfl)(hg:YA ⟨l⟩ o (QO (Qf o) 0 ds xs env)=some true:=by exact rfl)(hN:Nat.blt d N=true:=by exact rfl)(hle:Nat.ble lo hi=true:=by exact rfl):DK prog N m bs cat l ds env n K Hs X (o::r) xs:=DK.vs QaS h k hc hd hcH hg hN hle
theorem DKs{h0 N id:Nat}{l:List Oper}{env:Env}{H:Qc}{Q:Qm}(m:Nat)(bs:List Nat)(cat:Kat)(hc:Qda l m N (Qaj m 0 l) (hsK cat) (rqK bs cat) (msK bs) (plK cat)=true)(h:DK prog N m bs cat l (Qaj m 0 l) env H.length (fun r e H=>WO prog h0 N l.toArray r e H Q) [] H l [])(hcl:Nat.beq cat.length m=true:=by exact rfl)(h0B:Nat.ble h0 H.length=true:=by exact rfl):TC prog h0 N (.region id l.toArray true) env H Q:=Qk1 m bs cat draws hc hcl h0B h
theorem DAs{h0 N id:Nat}{l:List Oper}{env:Env}{H:Qc}{Q:Qm}(m b:Nat)(cat:List Nat)(hc:Qda l m N (Qaj m 0 l) (hsC cat) (rqC b cat) [[],[b]] (plC cat)=true)(h:DA prog N m cat l (Qaj m 0 l) env H (fun r e H=>WO prog h0 N l.toArray r e H Q) l [])(hcl:Nat.beq cat.length m=true:=by exact rfl)(h0B:Nat.ble h0 H.length=true:=by exact rfl):TC prog h0 N (.region id l.toArray true) env H Q:=Qk2 m b cat draws hc hcl h0B h
theorem Cd{h0 N:Nat}{all:Array Oper}{o:Oper}{l:List Oper}{env:Env}{H:Qc}{Q:Qm}{d:Nat}{β γ:Type}{F:Option β}{F':β->Option γ}{r:γ}{f:Nat}{args argsc:List A}{w:β->A}{Hc:Qc}{Hr:β->Qc}(π:List Nat)(h:F.bind F'=some r)(hC:∀v,F=some v->C prog f argsc Hc (RQ w Hr v))(hop:QeG tyZ o env=some (d,f,args))(g:∀v,F=some v->F' v=some r->WO prog h0 N all l (up env d (Yg (rho π H.length) (w v))) (Q1 H π ((Hr v).map (QG (rho π H.length)))) Q)(hargs:args=Qaa (rho π H.length) argsc:=by exact rfl)(hH:π.map (fun p=>H[p]?)=(Hc.map (QG (rho π H.length))).map some:=by exact rfl)(hπ:π.Nodup:=by decide)(hg:YA all o env=some true:=by exact rfl)(hN:Nat.blt d N=true:=by exact rfl)(hh:Nat.ble h0 H.length=true:=by exact rfl):WO prog h0 N all (o::l) env H Q:=Cdz QdG π h hC hop g hargs hH hπ hg hN hh
theorem v0{N:Nat}{l:List Oper}{ds:List Nat}{xs:List A}{env0:Env}{hB hE i:Nat}{H:Qc}{x:A}(hx:xs[i]?=some x)(h:Qh1 tyT N l ds xs env0 H i=some x):Y8 prog N l ds xs env0 hB hE i H H:=vQ tyOK hx h
theorem ov{N:Nat}{l:List Oper}{ds:List Nat}{xs:List A}{env0:Env}{i c:Nat}{H:Qc}{x:A}(k:Oq prog N l ds xs env0 H (i+1) c)(hx:xs[i]?=some x:=by exact rfl)(h:Qh1 tyT N l ds xs env0 H i=some x:=by exact rfl):Oq prog N l ds xs env0 H i (c+1):=.c (vQ tyOK hx h) k
theorem Gy0{T:Type}{X:Ctx T}{st:YSt T}{h0 N:Nat}{c:Code}{c':Cf}{k':List Kf}{env env':Env}{H H':Qc}{Q:Ye T}(n:Nat)(h:Qhe tyX h0 N n (.code c) [] env H=some (c',k',env',H'))(g:HdY X prog h0 N c' k' env' H' st Q):TCy X prog h0 N c env H st Q:=Qb9 QaS n h g
theorem Gyc{T:Type}{X:Ctx T}{st:YSt T}{h0 N:Nat}{k:List Kf}{c:Code}{c':Cf}{k':List Kf}{env env':Env}{H H':Qc}{Q:Ye T}(n:Nat)(h:Qhe tyX h0 N n (.code c) k env H=some (c',k',env',H'))(g:HdY X prog h0 N c' k' env' H' st Q):TCy X prog h0 N c env H st (kqY X prog h0 N k Q):=Qb9 QaS n h g
theorem Gyo{T:Type}{X:Ctx T}{st:YSt T}{h0 N:Nat}{k:List Kf}{all:Array Oper}{l:List Oper}{c':Cf}{k':List Kf}{env env':Env}{H H':Qc}{Q:Ye T}(n:Nat)(h:Qhe tyX h0 N n (.ops all l) k env H=some (c',k',env',H'))(g:HdY X prog h0 N c' k' env' H' st Q):WOy X prog h0 N all l env H st (kqY X prog h0 N k Q):=Qb9 QaS n h g
theorem Gyx{T:Type}{X:Ctx T}{st:YSt T}{h0 N:Nat}{k:List Kf}{x:AEx}{c':Cf}{k':List Kf}{env env':Env}{H H':Qc}{Q:Ye T}(n:Nat)(h:Qhe tyX h0 N n (.out x) k env H=some (c',k',env',H'))(g:HdY X prog h0 N c' k' env' H' st Q):kqY X prog h0 N k Q x env H st:=Qb9 QaS n h g
theorem DSy{T:Type}{X:Ctx T}{st:YSt T}{h0 N id:Nat}{l:List Oper}{env:Env}{H:Qc}{Q:Ye T}(m:Nat)(hc:Go.Sw.draw0 l m N (Qaj m 0 l)=true)(h:DS prog N m l (Qaj m 0 l) env H (fun r e H=>WOy X prog h0 N l.toArray r e H st Q) l [])(h0B:Nat.ble h0 H.length=true:=by exact rfl):TCy X prog h0 N (.region id l.toArray true) env H st Q:=Qje m draws hc h0B h
def lay_contains_190_ren:Go.Shelf.Ren:=⟨fun|144=>190|143=>216|219=>225|217=>227|225=>228|224=>229|267=>230|266=>231|314=>232|n=>n,fun|9=>9|4=>4|3=>3|5=>5|46=>215|146=>307|51=>261|n=>n,fun|1=>11|n=>n⟩
theorem QcO:Go.Proofs.Lays.n144 prog lay_contains_190_ren:={
  mixed:=by kernel_rfl
  f143:=func216.trans (congrArg some (by kernel_rfl))
  f144:=func190.trans (congrArg some (by kernel_rfl))
  f217:=func227.trans (congrArg some (by kernel_rfl))
  f219:=func225.trans (congrArg some (by kernel_rfl))
  f224:=func229.trans (congrArg some (by kernel_rfl))
  f225:=func228.trans (congrArg some (by kernel_rfl))
  f266:=func231.trans (congrArg some (by kernel_rfl))
  f267:=func230.trans (congrArg some (by kernel_rfl))
  f314:=func232.trans (congrArg some (by kernel_rfl))
  t3:=underlying3
  a3:=isAgg3
  z3:=sizeOf3
  v3:=zeroValue3
  t4:=underlying4
  a4:=isAgg4
  z4:=sizeOf4
  v4:=zeroValue4
  t5:=underlying5
  a5:=isAgg5
  z5:=sizeOf5
  v5:=zeroValue5
  t9:=underlying9
  a9:=isAgg9
  z9:=sizeOf9
  v9:=zeroValue9
  t46:=underlying215
  a46:=isAgg215
  z46:=sizeOf215
  v46:=zeroValue215
  t51:=underlying261
  a51:=isAgg261
  z51:=sizeOf261
  v51:=zeroValue261
  t146:=underlying307
  a146:=isAgg307
  z146:=sizeOf307
  v146:=zeroValue307
  g1:=by kernel_rfl}
def lay_sortK_62_ren:Go.Shelf.Ren:=⟨fun|6=>62|15=>127|14=>126|28=>178|29=>179|20=>170|21=>171|22=>172|23=>173|24=>174|25=>175|26=>176|27=>177|46=>207|47=>208|48=>209|49=>210|50=>211|57=>223|n=>n,fun|22=>133|24=>94|25=>135|3=>3|39=>215|0=>0|53=>261|55=>263|4=>4|46=>254|45=>253|50=>258|5=>5|9=>9|66=>287|70=>193|76=>301|77=>126|n=>n,fun|n=>n⟩
theorem Qfy:Go.Proofs.SlLaysF0.n6 prog lay_sortK_62_ren:={
  mixed:=by kernel_rfl
  f6:=⟨f62.name,by decide,func62.trans (congrArg some (by kernel_rfl))⟩
  f14:=⟨f126.name,by decide,func126.trans (congrArg some (by kernel_rfl))⟩
  f15:=func127.trans (congrArg some (by kernel_rfl))
  f20:=⟨f170.name,by decide,func170.trans (congrArg some (by kernel_rfl))⟩
  f21:=⟨f171.name,by decide,func171.trans (congrArg some (by kernel_rfl))⟩
  f22:=⟨f172.name,by decide,func172.trans (congrArg some (by kernel_rfl))⟩
  f23:=⟨f173.name,by decide,func173.trans (congrArg some (by kernel_rfl))⟩
  f24:=⟨f174.name,by decide,func174.trans (congrArg some (by kernel_rfl))⟩
  f25:=⟨f175.name,by decide,func175.trans (congrArg some (by kernel_rfl))⟩
  f26:=⟨f176.name,by decide,func176.trans (congrArg some (by kernel_rfl))⟩
  f27:=⟨f177.name,by decide,func177.trans (congrArg some (by kernel_rfl))⟩
  f28:=func178.trans (congrArg some (by kernel_rfl))
  f29:=func179.trans (congrArg some (by kernel_rfl))
  f46:=⟨f207.name,by decide,func207.trans (congrArg some (by kernel_rfl))⟩
  f47:=func208.trans (congrArg some (by kernel_rfl))
  f48:=func209.trans (congrArg some (by kernel_rfl))
  f49:=⟨f210.name,by decide,func210.trans (congrArg some (by kernel_rfl))⟩
  f50:=⟨f211.name,by decide,func211.trans (congrArg some (by kernel_rfl))⟩
  f57:=⟨f223.name,by decide,func223.trans (congrArg some (by kernel_rfl))⟩
  t0:=underlying0
  a0:=isAgg0
  z0:=sizeOf0
  v0:=zeroValue0
  t3:=underlying3
  a3:=isAgg3
  z3:=sizeOf3
  v3:=zeroValue3
  t4:=underlying4
  a4:=isAgg4
  z4:=sizeOf4
  v4:=zeroValue4
  t5:=underlying5
  a5:=isAgg5
  z5:=sizeOf5
  v5:=zeroValue5
  t9:=underlying9
  a9:=isAgg9
  z9:=sizeOf9
  v9:=zeroValue9
  t22:=underlying133
  a22:=isAgg133
  z22:=sizeOf133
  v22:=zeroValue133
  t25:=underlying135
  a25:=isAgg135
  z25:=sizeOf135
  v25:=zeroValue135
  t39:=underlying215
  a39:=isAgg215
  z39:=sizeOf215
  v39:=zeroValue215
  t45:=underlying253
  a45:=isAgg253
  z45:=sizeOf253
  v45:=zeroValue253
  t46:=underlying254
  a46:=isAgg254
  z46:=sizeOf254
  v46:=zeroValue254
  t50:=underlying258
  a50:=isAgg258
  z50:=sizeOf258
  v50:=zeroValue258
  t53:=underlying261
  a53:=isAgg261
  z53:=sizeOf261
  v53:=zeroValue261
  t55:=underlying263
  a55:=isAgg263
  z55:=sizeOf263
  v55:=zeroValue263
  t66:=underlying287
  a66:=isAgg287
  z66:=sizeOf287
  v66:=zeroValue287
  t70:=underlying193
  a70:=isAgg193
  z70:=sizeOf193
  v70:=zeroValue193
  t76:=underlying301
  a76:=isAgg301
  z76:=sizeOf301
  v76:=zeroValue301
  t77:=underlying126
  a77:=isAgg126
  z77:=sizeOf126
  v77:=zeroValue126}
def lay_sortI_63_ren:Go.Shelf.Ren:=⟨fun|189=>63|125=>127|257=>128|128=>178|129=>179|294=>180|295=>181|296=>182|297=>183|298=>184|299=>185|216=>186|300=>187|301=>188|328=>212|329=>208|330=>209|331=>213|332=>214|215=>116|343=>224|n=>n,fun|28=>109|3=>3|46=>215|0=>0|51=>261|53=>263|4=>4|183=>254|182=>253|131=>258|5=>5|9=>9|218=>287|222=>193|228=>301|229=>126|n=>n,fun|n=>n⟩
theorem Qfz:Go.Proofs.Lays.n189 prog lay_sortI_63_ren:={
  mixed:=by kernel_rfl
  f125:=func127.trans (congrArg some (by kernel_rfl))
  f128:=func178.trans (congrArg some (by kernel_rfl))
  f129:=func179.trans (congrArg some (by kernel_rfl))
  f189:=func63.trans (congrArg some (by kernel_rfl))
  f215:=func116.trans (congrArg some (by kernel_rfl))
  f216:=func186.trans (congrArg some (by kernel_rfl))
  f257:=func128.trans (congrArg some (by kernel_rfl))
  f294:=func180.trans (congrArg some (by kernel_rfl))
  f295:=func181.trans (congrArg some (by kernel_rfl))
  f296:=func182.trans (congrArg some (by kernel_rfl))
  f297:=func183.trans (congrArg some (by kernel_rfl))
  f298:=func184.trans (congrArg some (by kernel_rfl))
  f299:=func185.trans (congrArg some (by kernel_rfl))
  f300:=func187.trans (congrArg some (by kernel_rfl))
  f301:=func188.trans (congrArg some (by kernel_rfl))
  f328:=func212.trans (congrArg some (by kernel_rfl))
  f329:=func208.trans (congrArg some (by kernel_rfl))
  f330:=func209.trans (congrArg some (by kernel_rfl))
  f331:=func213.trans (congrArg some (by kernel_rfl))
  f332:=func214.trans (congrArg some (by kernel_rfl))
  f343:=func224.trans (congrArg some (by kernel_rfl))
  t0:=underlying0
  a0:=isAgg0
  z0:=sizeOf0
  v0:=zeroValue0
  t3:=underlying3
  a3:=isAgg3
  z3:=sizeOf3
  v3:=zeroValue3
  t4:=underlying4
  a4:=isAgg4
  z4:=sizeOf4
  v4:=zeroValue4
  t5:=underlying5
  a5:=isAgg5
  z5:=sizeOf5
  v5:=zeroValue5
  t9:=underlying9
  a9:=isAgg9
  z9:=sizeOf9
  v9:=zeroValue9
  t28:=underlying109
  a28:=isAgg109
  z28:=sizeOf109
  v28:=zeroValue109
  t46:=underlying215
  a46:=isAgg215
  z46:=sizeOf215
  v46:=zeroValue215
  t51:=underlying261
  a51:=isAgg261
  z51:=sizeOf261
  v51:=zeroValue261
  t53:=underlying263
  a53:=isAgg263
  z53:=sizeOf263
  v53:=zeroValue263
  t131:=underlying258
  a131:=isAgg258
  z131:=sizeOf258
  v131:=zeroValue258
  t182:=underlying253
  a182:=isAgg253
  z182:=sizeOf253
  v182:=zeroValue253
  t183:=underlying254
  a183:=isAgg254
  z183:=sizeOf254
  v183:=zeroValue254
  t218:=underlying287
  a218:=isAgg287
  z218:=sizeOf287
  v218:=zeroValue287
  t222:=underlying193
  a222:=isAgg193
  z222:=sizeOf193
  v222:=zeroValue193
  t228:=underlying301
  a228:=isAgg301
  z228:=sizeOf301
  v228:=zeroValue301
  t229:=underlying126
  a229:=isAgg126
  z229:=sizeOf126
  v229:=zeroValue126}
end Go.Sw
