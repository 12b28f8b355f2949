/- The types of OutcomeChecks and facts on them. -/
import Derived.Test.YtigaapnlkgbkeaaGreatL3
import Derived.Test.YtigaapnlkgbkeaaGreatProg
set_option linter.unusedVariables false
set_option linter.unusedSimpArgs false
set_option maxRecDepth 100000
set_option maxHeartbeats 4000000
namespace Go.Sw
open List(map)
open Int(toNat)
open Go.IntKind(i64 u64 u8)
open Go.Proofs Tryz
abbrev Et:=@runUnderlying77
abbrev Eu:=@sizeOf3
abbrev Ew:=@sizeOf30
abbrev Ex:=@underlying144
abbrev Ey:=@runUnderlying36
abbrev Ez:=@runUnderlying62
abbrev EA:=@runUnderlying23
abbrev EB:=@isAgg30
abbrev EC:=@zeroValue30
abbrev ED:=@sizeOf27
abbrev EE:=@sizeOf105
abbrev EF:=@runUnderlying320
abbrev EG:=@zeroValue3
abbrev EH:=@sizeOf77
abbrev EI:=@isAgg3
abbrev EJ:=@runUnderlying172
abbrev EK:=@underlying296
abbrev EL:=@runUnderlying9
abbrev EM:=@zeroValue4
abbrev EN:=@runUnderlying138
abbrev EO:=@runUnderlying325
abbrev EP:=@sizeOf5
abbrev EQ:=@isAgg27
abbrev ES:=@runUnderlying3
abbrev ET:=@sizeOf171
abbrev EU:=@runUnderlying286
abbrev EV:=@runUnderlying30
abbrev EW:=@zeroValue152
abbrev EX:=@underlying3
abbrev EY:=@underlying214
abbrev EZ:=@underlying140
abbrev E0:=@runUnderlying139
abbrev E3:=@runUnderlying149
abbrev E4:=@runUnderlying307
abbrev E5:=@isAgg171
abbrev E6:=@runUnderlying61
abbrev E7:=@sizeOf4
abbrev E8:=@isAgg135
abbrev E9:=@sizeOf152
abbrev Ga:=@sizeOf135
abbrev Gb:=@isAgg31
abbrev Gd:=@runUnderlying92
abbrev Ge:=@runUnderlying87
abbrev Gf:=@sizeOf154
abbrev Gg:=@sizeOf111
abbrev Gh:=@sizeOf325
abbrev Gi:=@zeroValue320
abbrev Gj:=@sizeOf201
theorem draws:prog.follows .mixedOrders=true:=by rfl
structure Segment where
  Mat:Int
  Epoch:Int
  Anchor:Int
  deriving DecidableEq
def Segment.c(x:Segment):List Go.Sw.A:=[I x.Mat,I x.Epoch,I x.Anchor]
structure Clocks where
  Segments:List Segment
  Far:List (List Int)
  deriving DecidableEq
def Clocks.c(x:Clocks):List Go.Sw.A:=[.rsl 3 (map Segment.c x.Segments),.rsl 1 (map (Qy 1 (Qd .i64)) x.Far)]
structure Outcome where
  Out:Bool
  Seg:Int
  Lo:Int
  Hi:Int
  deriving DecidableEq
def Outcome.c(x:Outcome):List Go.Sw.A:=[.bool x.Out,I x.Seg,I x.Lo,I x.Hi]
abbrev Ug:Outcome:={Out:=false,Seg:=0,Lo:=0,Hi:=0}
structure Hand where
  Bib:Int
  Position:Int
  Lo:Int
  Hi:Int
  deriving DecidableEq
def Hand.c(x:Hand):List Go.Sw.A:=[I x.Bib,I x.Position,I x.Lo,I x.Hi]
structure Penalty where
  Position:Int
  Time:Int
  Laps:Int
  Out:Bool
  deriving DecidableEq
def Penalty.c(x:Penalty):List Go.Sw.A:=[I x.Position,I x.Time,I x.Laps,.bool x.Out]
structure Mat where
  Name:List UInt8
  Kind:Int
  deriving DecidableEq
def Mat.c(x:Mat):List Go.Sw.A:=[.str x.Name,I x.Kind]
structure Leg where
  From:Int
  To:Int
  Min:Int
  Max:Int
  deriving DecidableEq
def Leg.c(x:Leg):List Go.Sw.A:=[I x.From,I x.To,I x.Min,I x.Max]
structure Part where
  Mat:Int
  Laps:Int
  Parts:List Part
mutual
def Part.enc:Part->List A
  |⟨x0,x1,x2⟩=>[I x0,I x1,.rsl 3 (Part.encs x2)]
def Part.encs:List Part->List (List A)
  |[]=>[]
  |x::l=>Part.enc x::Part.encs l
end
theorem Qey(l:List Part):Part.encs l=map Part.enc l:=by induction l with|nil=>simp[Part.encs]|cons x l h=>simp[Part.encs,h]
def Part.c(x:Part):List Go.Sw.A:=[I x.Mat,I x.Laps,.rsl 3 (map Part.enc x.Parts)]
theorem QaC(x:Part):Part.enc x=Part.c x:=by cases x;simp[Part.enc,Part.c,Qey]
structure Cutoff where
  Mat:Int
  Lap:Int
  Limit:Int
  deriving DecidableEq
def Cutoff.c(x:Cutoff):List Go.Sw.A:=[I x.Mat,I x.Lap,I x.Limit]
structure Distance where
  Name:List UInt8
  Route:List Part
  Timing:Int
  Cutoffs:List Cutoff
  Extra:Int
def Distance.c(x:Distance):List Go.Sw.A:=[.str x.Name,.rsl 3 (map Part.enc x.Route),I x.Timing,.rsl 3 (map Cutoff.c x.Cutoffs),I x.Extra]
structure Wave where
  Name:List UInt8
  Gun:Int
  deriving DecidableEq
def Wave.c(x:Wave):List Go.Sw.A:=[.str x.Name,I x.Gun]
structure Offence where
  Name:List UInt8
  Time:Int
  Laps:Int
  Out:Bool
  deriving DecidableEq
def Offence.c(x:Offence):List Go.Sw.A:=[.str x.Name,I x.Time,I x.Laps,.bool x.Out]
structure Category where
  Name:List UInt8
  From:Int
  To:Int
  deriving DecidableEq
def Category.c(x:Category):List Go.Sw.A:=[.str x.Name,I x.From,I x.To]
structure Prize where
  Distance:Int
  Category:Int
  Rank:Int
  Amount:Int
  deriving DecidableEq
def Prize.c(x:Prize):List Go.Sw.A:=[I x.Distance,I x.Category,I x.Rank,I x.Amount]
structure Cond where
  Kind:Int
  Var:Int
  N:Int
  Parts:List Cond
mutual
def Cond.enc:Cond->List A
  |⟨x0,x1,x2,x3⟩=>[I x0,I x1,I x2,.rsl 4 (Cond.encs x3)]
def Cond.encs:List Cond->List (List A)
  |[]=>[]
  |x::l=>Cond.enc x::Cond.encs l
end
theorem QeJ(l:List Cond):Cond.encs l=map Cond.enc l:=by induction l with|nil=>simp[Cond.encs]|cons x l h=>simp[Cond.encs,h]
def Cond.c(x:Cond):List Go.Sw.A:=[I x.Kind,I x.Var,I x.N,.rsl 4 (map Cond.enc x.Parts)]
theorem Qfs(x:Cond):Cond.enc x=Cond.c x:=by cases x;simp[Cond.enc,Cond.c,QeJ]
structure Step where
  Kind:Int
  By:Int
  Cond:Cond
  Then:List Step
  Else:List Step
mutual
def Step.enc:Step->List A
  |⟨x0,x1,x2,x3,x4⟩=>[I x0,I x1,I x2.Kind,I x2.Var,I x2.N,.rsl 4 (map Cond.enc x2.Parts),.rsl 8 (Step.encs x3),.rsl 8 (Step.encs x4)]
def Step.encs:List Step->List (List A)
  |[]=>[]
  |x::l=>Step.enc x::Step.encs l
end
theorem Qet(l:List Step):Step.encs l=map Step.enc l:=by induction l with|nil=>simp[Step.encs]|cons x l h=>simp[Step.encs,h]
def Step.c(x:Step):List Go.Sw.A:=[I x.Kind,I x.By,I x.Cond.Kind,I x.Cond.Var,I x.Cond.N,.rsl 4 (map Cond.enc x.Cond.Parts),.rsl 8 (map Step.enc x.Then),.rsl 8 (map Step.enc x.Else)]
theorem Qfi(x:Step):Step.enc x=Step.c x:=by cases x;simp[Step.enc,Step.c,Qet]
abbrev Uh:Part:={Mat:=0,Laps:=0,Parts:=[]}
abbrev Ue:Distance:={Name:=[],Route:=[],Timing:=0,Cutoffs:=[],Extra:=0}
abbrev Uc:Cond:={Kind:=0,Var:=0,N:=0,Parts:=[]}
abbrev Uk:Step:={Kind:=0,By:=0,Cond:=Uc,Then:=[],Else:=[]}
structure Faults where
  Misses:Int
  Strays:Int
  Window:Int
  Residual:Int
  Drift:Int
  deriving DecidableEq
def Faults.c(x:Faults):List Go.Sw.A:=[I x.Misses,I x.Strays,I x.Window,I x.Residual,I x.Drift]
abbrev Uf:Faults:={Misses:=0,Strays:=0,Window:=0,Residual:=0,Drift:=0}
structure Course where
  Name:List UInt8
  Mats:List Mat
  Legs:List Leg
  Distances:List Distance
  Waves:List Wave
  Offences:List Offence
  Categories:List Category
  Prizes:List Prize
  Ties:List Step
  Faults:Faults
  Fee:Int
  Deadline:Int
def Course.c(x:Course):List Go.Sw.A:=[.str x.Name,.rsl 2 (map Mat.c x.Mats),.rsl 4 (map Leg.c x.Legs),.rsl 5 (map Distance.c x.Distances),.rsl 2 (map Wave.c x.Waves),.rsl 4 (map Offence.c x.Offences),.rsl 3 (map Category.c x.Categories),.rsl 4 (map Prize.c x.Prizes),.rsl 8 (map Step.enc x.Ties),I x.Faults.Misses,I x.Faults.Strays,I x.Faults.Window,I x.Faults.Residual,I x.Faults.Drift,I x.Fee,I x.Deadline]
abbrev Ud:Course:={Name:=[],Mats:=[],Legs:=[],Distances:=[],Waves:=[],Offences:=[],Categories:=[],Prizes:=[],Ties:=[],Faults:=Uf,Fee:=0,Deadline:=0}
structure Starter where
  Bib:Int
  Distance:Int
  Wave:Int
  Slot:Int
  Age:Int
  Chip:Int
  Team:Int
  Lot:Int
  deriving DecidableEq
def Starter.c(x:Starter):List Go.Sw.A:=[I x.Bib,I x.Distance,I x.Wave,I x.Slot,I x.Age,I x.Chip,I x.Team,I x.Lot]
structure Hit where
  Mat:Int
  Epoch:Int
  Chip:Int
  First:Int
  Last:Int
  deriving DecidableEq
def Hit.c(x:Hit):List Go.Sw.A:=[I x.Mat,I x.Epoch,I x.Chip,I x.First,I x.Last]
structure Y5 where
  course:Course
  clocks:Clocks
  starter:Starter
  hits:List Hit
  hands:List Hand
  penalty:List Penalty
  extra:Int
  position:Int
def Y5.c(x:Y5):List Go.Sw.A:=[.str x.course.Name,.rsl 2 (map Mat.c x.course.Mats),.rsl 4 (map Leg.c x.course.Legs),.rsl 5 (map Distance.c x.course.Distances),.rsl 2 (map Wave.c x.course.Waves),.rsl 4 (map Offence.c x.course.Offences),.rsl 3 (map Category.c x.course.Categories),.rsl 4 (map Prize.c x.course.Prizes),.rsl 8 (map Step.enc x.course.Ties),I x.course.Faults.Misses,I x.course.Faults.Strays,I x.course.Faults.Window,I x.course.Faults.Residual,I x.course.Faults.Drift,I x.course.Fee,I x.course.Deadline,.rsl 3 (map Segment.c x.clocks.Segments),.rsl 1 (map (Qy 1 (Qd .i64)) x.clocks.Far),I x.starter.Bib,I x.starter.Distance,I x.starter.Wave,I x.starter.Slot,I x.starter.Age,I x.starter.Chip,I x.starter.Team,I x.starter.Lot,.rsl 5 (map Hit.c x.hits),.rsl 4 (map Hand.c x.hands),.rsl 4 (map Penalty.c x.penalty),I x.extra,I x.position]
abbrev Uj:Starter:={Bib:=0,Distance:=0,Wave:=0,Slot:=0,Age:=0,Chip:=0,Team:=0,Lot:=0}
abbrev z_outcome_question:Y5:={course:=Ud,clocks:={Segments:=[],Far:=[]:Clocks},starter:=Uj,hits:=[],hands:=[],penalty:=[],extra:=0,position:=0}
structure Y8 where
  from_:Int
  to_:Int
  deriving DecidableEq
def Y8.c(x:Y8):List Go.Sw.A:=[I x.from_,I x.to_]
structure Ua where
  distance:Int
  category:Int
  rank:Int
  deriving DecidableEq
def Ua.c(x:Ua):List Go.Sw.A:=[I x.distance,I x.category,I x.rank]
structure Ub where
  Step:Step
def Ub.c(x:Ub):List Go.Sw.A:=[I x.Step.Kind,I x.Step.By,I x.Step.Cond.Kind,I x.Step.Cond.Var,I x.Step.Cond.N,.rsl 4 (map Cond.enc x.Step.Cond.Parts),.rsl 8 (map Step.enc x.Step.Then),.rsl 8 (map Step.enc x.Step.Else)]
structure Y6 where
  Cond:Cond
def Y6.c(x:Y6):List Go.Sw.A:=[I x.Cond.Kind,I x.Cond.Var,I x.Cond.N,.rsl 4 (map Cond.enc x.Cond.Parts)]
inductive Y9 where
  |ctyping_step (x:Ub)
  |ctyping_cond (x:Y6)
def Y9.val:Y9->A
  |.ctyping_step x=>.iface 307 (.agg (Ub.c x))
  |.ctyping_cond x=>.iface 320 (.agg (Y6.c x))
def Y9.enc(x:Y9):List A:=[x.val]
def Y9.elim{R:Type}(e:Y9)(f0:Ub->Option R)(f1:Y6->Option R):Option R:=match e with
  |.ctyping_step x=>f0 x
  |.ctyping_cond x=>f1 x
theorem Y9.data(x:Y9):Yc x.val=true:=by cases x<;>rfl
theorem YR(e:Y9):(∃x,e=.ctyping_step x)\/(∃x,e=.ctyping_cond x):=by cases e<;>simp
theorem YM{R:Type}{e:Y9}{x:Ub}{f0:Ub->Option R}{f1:Y6->Option R}{r:R}(hE:e=.ctyping_step x)(h:Y9.elim e f0 f1=some r):f0 x=some r:=by subst hE;exact h
theorem YL{R:Type}{e:Y9}{x:Y6}{f0:Ub->Option R}{f1:Y6->Option R}{r:R}(hE:e=.ctyping_cond x)(h:Y9.elim e f0 f1=some r):f1 x=some r:=by subst hE;exact h
structure Y7 where
  steps:Int
  conds:Int
  deriving DecidableEq
def Y7.c(x:Y7):List Go.Sw.A:=[I x.steps,I x.conds]
structure YZ where
  mat:Int
  epoch:Int
  deriving DecidableEq
def YZ.c(x:YZ):List Go.Sw.A:=[I x.mat,I x.epoch]
structure Span where
  Lo:Int
  Hi:Int
  deriving DecidableEq
def Span.c(x:Span):List Go.Sw.A:=[I x.Lo,I x.Hi]
structure Y2 where
  segment:Int
  span:Span
  deriving DecidableEq
def Y2.c(x:Y2):List Go.Sw.A:=[I x.segment,I x.span.Lo,I x.span.Hi]
structure Y0 where
  from_:Int
  to_:Int
  deriving DecidableEq
def Y0.c(x:Y0):List Go.Sw.A:=[I x.from_,I x.to_]
structure Y1 where
  chip:Int
  mat:Int
  epoch:Int
  deriving DecidableEq
def Y1.c(x:Y1):List Go.Sw.A:=[I x.chip,I x.mat,I x.epoch]
structure Y3 where
  mat:Int
  epoch:Int
  deriving DecidableEq
def Y3.c(x:Y3):List Go.Sw.A:=[I x.mat,I x.epoch]
structure Y4 where
  last:Int
  when:Y2
  row:Int
  deriving DecidableEq
def Y4.c(x:Y4):List Go.Sw.A:=[I x.last,I x.when.segment,I x.when.span.Lo,I x.when.span.Hi,I x.row]
abbrev z_match_state:Y4:={last:=0,when:={segment:=0,span:={Lo:=0,Hi:=0:Span}:Y2},row:=0}
structure Way where
  Hits:List Int
  Last:Int
  deriving DecidableEq
def Way.c(x:Way):List Go.Sw.A:=[.rsl 1 (map (Qd .i64) x.Hits),I x.Last]
abbrev Ui:Penalty:={Position:=0,Time:=0,Laps:=0,Out:=false}
theorem Yh:QN prog 36 27 4:=⟨Ey,ED,⟨_,zeroValue27,rfl⟩,⟨_,typeInfo27,by decide⟩⟩
theorem QjD:QN prog 100 102 3:=⟨runUnderlying100,sizeOf102,⟨_,zeroValue102,rfl⟩,⟨_,typeInfo102,by decide⟩⟩
theorem QjC:QN prog 103 107 3:=⟨runUnderlying103,sizeOf107,⟨_,zeroValue107,rfl⟩,⟨_,typeInfo107,by decide⟩⟩
theorem el_60:QN prog 60 109 2:=⟨runUnderlying60,sizeOf109,⟨_,zeroValue109,rfl⟩,⟨_,typeInfo109,by decide⟩⟩
theorem el_61:QN prog 61 111 4:=⟨E6,Gg,⟨_,zeroValue111,rfl⟩,⟨_,typeInfo111,by decide⟩⟩
theorem el_62:QN prog 62 105 5:=⟨Ez,EE,⟨_,zeroValue105,rfl⟩,⟨_,typeInfo105,by decide⟩⟩
theorem el_63:QN prog 63 113 2:=⟨runUnderlying63,sizeOf113,⟨_,zeroValue113,rfl⟩,⟨_,typeInfo113,by decide⟩⟩
theorem el_67:QN prog 67 118 8:=⟨runUnderlying67,sizeOf118,⟨_,zeroValue118,rfl⟩,⟨_,typeInfo118,by decide⟩⟩
theorem QO:QN prog 77 3 1:=⟨Et,Eu,⟨_,EG,rfl⟩,⟨_,typeInfo3,by decide⟩⟩
theorem el_23:QN prog 23 77 1:=⟨EA,EH,⟨_,zeroValue77,rfl⟩,⟨_,typeInfo77,by decide⟩⟩
theorem Qh1:QN prog 328 5 1:=⟨runUnderlying328,EP,⟨_,zeroValue5,rfl⟩,⟨_,typeInfo5,by decide⟩⟩
theorem Qbs:YX prog 9 A.str:=YX.str underlying9
theorem QhK:prog.underlying 216=some (.struct (prog.fieldsOf 216)):=by kernel_rfl
theorem Qjr:prog.stoodInHeld 216=false:=by kernel_rfl
theorem QcP:YX prog 216 (λx=>A.agg (Y8.c x)):=by
  refine YX.struct QhK Zf (λx y h=>?_) (λw em x=>?_) (λw x y=>?_) (λx=>?_)
  · cases x;cases y
    simpa[QI,Yt,Y8.c]using h
  · simp only[QI,Yt,Y8.c]
    rw[show(10000:Nat)=9998+1+1 from rfl];generalize(9998:Nat)=d;simp[Instr.checkKey,runUnderlying216,ES,Result.andThen,Eu,EI,part]
  · have u3:=EX
    have a3:=EI;have z3:=Eu;simp only[QI,Yt,Y8.c,Op.equal,Op.maxDepth];rw[show(10000:Nat)=9999+1 from Z,run_equalIn_agg w 9999 216 _ _ QhK Qjr];simp only[Program.fieldsOf,underlying216]
    go_simp
    cases x;cases y;simp
    repeat' split
    all_goals simp_all
  · simp[QI,Yt,Y8.c,Instr.sameBits]
theorem QhI:prog.underlying 283=some (.struct (prog.fieldsOf 283)):=by kernel_rfl
theorem Qjp:prog.stoodInHeld 283=false:=by kernel_rfl
theorem QiJ:YX prog 283 (λx=>A.agg (Ua.c x)):=by
  refine YX.struct QhI Zf (λx y h=>?_) (λw em x=>?_) (λw x y=>?_) (λx=>?_)
  · cases x;cases y
    simpa[QI,Yt,Ua.c]using h
  · simp only[QI,Yt,Ua.c]
    rw[show(10000:Nat)=9998+1+1 from rfl];generalize(9998:Nat)=d;simp[Instr.checkKey,runUnderlying283,ES,Result.andThen,Eu,EI,part]
  · have u3:=EX
    have a3:=EI;have z3:=Eu;simp only[QI,Yt,Ua.c,Op.equal,Op.maxDepth];rw[show(10000:Nat)=9999+1 from Z,run_equalIn_agg w 9999 283 _ _ QhI Qjp];simp only[Program.fieldsOf,underlying283]
    go_simp
    cases x;cases y;simp
    repeat' split
    all_goals simp_all
  · simp[QI,Yt,Ua.c,Instr.sameBits]
theorem QbH:QN prog 286 304 1:=⟨EU,sizeOf304,⟨_,zeroValue304,rfl⟩,⟨_,typeInfo304,by decide⟩⟩
theorem Yb:YX prog 3 (λx=>A.int .i64 x):=YX.int EX
theorem Qjm:Qdq prog 143 [(0,16),(16,2),(18,1),(19,1),(20,1),(21,1),(22,1),(23,1),(24,1)]:=⟨_,runUnderlying143,(Ef sizeOf71 (Ef sizeOf25 (Ef EH (Ef sizeOf138 (Ef sizeOf88 (Ef sizeOf139 (Ef sizeOf140 (Ef sizeOf141 (Ef Eu PL.nil)))))))))⟩
theorem QhJ:prog.underlying 241=some (.struct (prog.fieldsOf 241)):=by kernel_rfl
theorem Qjq:prog.stoodInHeld 241=false:=by kernel_rfl
theorem QiK:YX prog 241 (λx=>A.agg (Y0.c x)):=by
  refine YX.struct QhJ Zf (λx y h=>?_) (λw em x=>?_) (λw x y=>?_) (λx=>?_)
  · cases x;cases y
    simpa[QI,Yt,Y0.c]using h
  · simp only[QI,Yt,Y0.c]
    rw[show(10000:Nat)=9998+1+1 from rfl];generalize(9998:Nat)=d;simp[Instr.checkKey,runUnderlying241,ES,Result.andThen,Eu,EI,part]
  · have u3:=EX
    have a3:=EI;have z3:=Eu;simp only[QI,Yt,Y0.c,Op.equal,Op.maxDepth];rw[show(10000:Nat)=9999+1 from Z,run_equalIn_agg w 9999 241 _ _ QhJ Qjq];simp only[Program.fieldsOf,underlying241]
    go_simp
    cases x;cases y;simp
    repeat' split
    all_goals simp_all
  · simp[QI,Yt,Y0.c,Instr.sameBits]
inductive U_course_build where
  |c0 (x:Int)
  |c1 (x:Unit)
  |c2 (x:List Int)
  |c3 (x:(List Int)×(List (Y0×Leg)))
theorem Qjo:prog.stoodInHeld 186=false:=by kernel_rfl
theorem QfJ(h:Nat):QeF prog 3 (h+1) 1 false (λl=>∃x:Int,l=[Value.int .i64 x]):=QeF.int EX EI Eu h
theorem QiV:EqD prog 186 Y3.c:=by
  refine QeG (QaZ underlying186 Qjo isAgg186 sizeOf186 (QfZ.c QfJ (QfZ.c QfJ (QfZ.nil 1 _)))) Z (λx=>⟨[_],_,Z,⟨_,Z⟩,[_],_,Z,⟨_,Z⟩,Z⟩) Zf (λx y h=>?_) (by kernel_rfl);obtain⟨_,_⟩:=x;obtain⟨_,_⟩:=y;simpa[QI,Yt,Y3.c,and_assoc]using h
theorem Qgi:Ym prog 30 0 0 1:=FA EV rfl Eu
theorem QiP:Ym prog 30 1 1 1:=FA EV rfl Eu
theorem Qh2:QN prog 139 152 3:=⟨E0,E9,⟨_,EW,rfl⟩,⟨_,typeInfo152,by decide⟩⟩
theorem Qh3:QN prog 138 30 2:=⟨EN,Ew,⟨_,EC,rfl⟩,⟨_,typeInfo30,by decide⟩⟩
inductive U_match_prepare where
  |c0 (x:Int)
  |c1 (x:(List Int)×(List Span)×(List Y2)×(List (Int×Y2))×Int)
theorem QjB:QN prog 149 4 1:=⟨E3,E7,⟨_,EM,rfl⟩,⟨_,typeInfo4,by decide⟩⟩
theorem Qjc:QN prog 92 98 2:=⟨Gd,sizeOf98,⟨_,zeroValue98,rfl⟩,⟨_,typeInfo98,by decide⟩⟩
def match_task.tc(x0:Course)(x1:Clocks)(x2:List Int)(x3:List Span)(x4:List Hit)(x5:List Y2)(x6:A)(x7:A)(x8:Int):List Go.Sw.A:=[.str x0.Name,.rsl 2 (map Mat.c x0.Mats),.rsl 4 (map Leg.c x0.Legs),.rsl 5 (map Distance.c x0.Distances),.rsl 2 (map Wave.c x0.Waves),.rsl 4 (map Offence.c x0.Offences),.rsl 3 (map Category.c x0.Categories),.rsl 4 (map Prize.c x0.Prizes),.rsl 8 (map Step.enc x0.Ties),I x0.Faults.Misses,I x0.Faults.Strays,I x0.Faults.Window,I x0.Faults.Residual,I x0.Faults.Drift,I x0.Fee,I x0.Deadline,.rsl 3 (map Segment.c x1.Segments),.rsl 1 (map (Qy 1 (Qd .i64)) x1.Far),.rsl 1 (map (Qd .i64) x2),.rsl 2 (map Span.c x3),.rsl 5 (map Hit.c x4),.rsl 3 (map Y2.c x5),x6,x7,I x8]
theorem QiO:Ym prog 44 3 3 1:=FA runUnderlying44 rfl E7
theorem QcQ:Ym prog 27 3 3 1:=FA runUnderlying27 rfl Eu
theorem QiQ:Ym prog 27 1 1 1:=FA runUnderlying27 rfl Eu
theorem nt_27:prog.stoodInHeld 27=false:=by kernel_rfl
theorem ei_4(h:Nat):QeF prog 4 (h+1) 1 false (λl=>∃x:Bool,l=[Value.bool x]):=QeF.bool underlying4 isAgg4 E7 h
theorem QhY:EqD prog 27 Outcome.c:=by
  refine QeG (QaZ underlying27 nt_27 EQ ED (QfZ.c ei_4 (QfZ.c QfJ (QfZ.c QfJ (QfZ.c QfJ (QfZ.nil 1 _)))))) Z (λx=>⟨[_],_,Z,⟨_,Z⟩,[_],_,Z,⟨_,Z⟩,[_],_,Z,⟨_,Z⟩,[_],_,Z,⟨_,Z⟩,Z⟩) Zf (λx y h=>?_) (by kernel_rfl);obtain⟨_,_,_,_⟩:=x;obtain⟨_,_,_,_⟩:=y;simpa[QI,Yt,Outcome.c,and_assoc]using h
theorem el_41:QN prog 41 76 4:=⟨runUnderlying41,sizeOf76,⟨_,zeroValue76,rfl⟩,⟨_,typeInfo76,by decide⟩⟩
theorem Qgm:QN prog 45 44 4:=⟨runUnderlying45,sizeOf44,⟨_,zeroValue44,rfl⟩,⟨_,typeInfo44,by decide⟩⟩
theorem nt_30:prog.stoodInHeld 30=false:=by kernel_rfl
theorem QhX:EqD prog 30 Span.c:=by
  refine QeG (QaZ underlying30 nt_30 EB Ew (QfZ.c QfJ (QfZ.c QfJ (QfZ.nil 1 _)))) Z (λx=>⟨[_],_,Z,⟨_,Z⟩,[_],_,Z,⟨_,Z⟩,Z⟩) Zf (λx y h=>?_) (by kernel_rfl);obtain⟨_,_⟩:=x;obtain⟨_,_⟩:=y;simpa[QI,Yt,Span.c,and_assoc]using h
theorem QfB{n:Nat}:RB prog n 3 Int (λx=>[A.int .i64 x]) (Qbw .i64):=RB.int EX
def tyT:TyI:={fld:=[(105,3,3),(90,6,29),(44,2,2),(102,2,2),(71,1,1),(71,2,2),(71,3,3),(71,4,4),(71,5,5),(71,6,6),(71,7,7),(105,1,1),(109,0,0),(105,0,0),(113,0,0),(255,0,0),(259,0,0),(71,0,0),(109,1,1),(111,0,0),(111,1,1),(111,2,2),(111,3,3),(102,1,1),(102,0,0),(107,0,0),(107,1,1),(107,2,2),(105,2,2),(105,4,4),(113,1,1),(255,3,3),(255,1,1),(255,2,2),(259,1,1),(259,2,2),(268,0,0),(268,1,1),(268,2,2),(268,3,3),(71,9,9),(69,0,0),(69,1,1),(69,2,2),(69,3,3),(69,4,4),(71,10,14),(71,11,15),(320,0,0),(116,0,0),(116,1,1),(116,2,2),(116,3,3),(307,0,0),(118,3,6),(118,4,7),(300,0,0),(118,2,2),(300,1,1),(118,0,0),(118,1,1),(71,8,8),(120,0,0),(120,1,1),(79,0,0),(79,1,1),(25,0,0),(25,1,1),(79,2,2),(76,2,2),(76,3,3),(76,1,1),(201,0,0),(201,1,1),(222,0,0),(222,1,1),(222,2,2),(146,0,0),(146,1,1),(146,2,2),(146,3,3),(146,4,4),(30,0,0),(30,1,1),(143,2,18),(74,1,1),(74,2,2),(143,5,21),(143,6,22),(143,8,24),(143,7,23),(143,3,19),(143,4,20),(152,0,0),(152,1,1),(143,1,16),(154,2,4),(143,0,0),(154,0,0),(154,1,1),(98,0,0),(98,1,1),(90,0,0),(90,2,18),(90,7,30),(44,0,0),(44,1,1),(90,5,28),(90,1,16),(90,3,26),(90,4,27),(74,3,3),(27,0,0),(27,2,2),(27,3,3),(27,1,1)],agg:=[(105,true,5),(103,false,1),(71,true,16),(25,true,2),(74,true,8),(90,true,31),(44,true,4),(3,false,1),(102,true,3),(100,false,1),(60,false,1),(61,false,1),(62,false,1),(63,false,1),(64,false,1),(65,false,1),(66,false,1),(5,false,1),(9,false,1),(109,true,2),(113,true,2),(255,true,4),(259,true,3),(271,false,1),(193,false,1),(111,true,4),(216,true,2),(261,false,1),(264,false,1),(107,true,3),(219,false,1),(276,false,1),(4,false,1),(266,false,1),(279,false,1),(269,false,1),(268,true,4),(283,true,3),(69,true,5),(118,true,8),(114,false,1),(67,false,1),(116,true,4),(307,true,8),(320,true,4),(304,false,1),(144,false,1),(214,false,1),(22,false,1),(23,false,1),(79,true,3),(77,false,1),(76,true,4),(291,false,1),(201,true,2),(199,false,1),(146,true,5),(30,true,2),(135,false,1),(139,false,1),(140,false,1),(141,false,1),(138,false,1),(154,true,5),(152,true,3),(88,false,1),(92,false,1),(147,false,1),(150,false,1),(149,false,1),(27,true,4),(45,false,1),(31,false,1),(98,true,2),(41,false,1),(171,false,1),(36,false,1)],zer:=[(102,[I 0,I 0,.rsl 3 (map Part.enc [])],[(0,1),(1,1),(2,1)]),(105,[.str [],.rsl 3 (map Part.enc []),I 0,.rsl 3 (map Cutoff.c []),I 0],[(0,1),(1,1),(2,1),(3,1),(4,1)]),(107,[I 0,I 0,I 0],[(0,1),(1,1),(2,1)]),(109,[.str [],I 0],[(0,1),(1,1)]),(111,[I 0,I 0,I 0,I 0],[(0,1),(1,1),(2,1),(3,1)]),(113,[.str [],I 0],[(0,1),(1,1)]),(118,[I 0,I 0,I 0,I 0,I 0,.rsl 4 (map Cond.enc []),.rsl 8 (map Step.enc []),.rsl 8 (map Step.enc [])],[(0,1),(1,1),(2,4),(6,1),(7,1)]),(71,[.str [],.rsl 2 (map Mat.c []),.rsl 4 (map Leg.c []),.rsl 5 (map Distance.c []),.rsl 2 (map Wave.c []),.rsl 4 (map Offence.c []),.rsl 3 (map Category.c []),.rsl 4 (map Prize.c []),.rsl 8 (map Step.enc []),I 0,I 0,I 0,I 0,I 0,I 0,I 0],[(0,1),(1,1),(2,1),(3,1),(4,1),(5,1),(6,1),(7,1),(8,1),(9,5),(14,1),(15,1)]),(25,[.rsl 3 (map Segment.c []),.rsl 1 (map (Qy 1 (Qd .i64)) [])],[(0,1),(1,1)]),(90,[.str [],.rsl 2 (map Mat.c []),.rsl 4 (map Leg.c []),.rsl 5 (map Distance.c []),.rsl 2 (map Wave.c []),.rsl 4 (map Offence.c []),.rsl 3 (map Category.c []),.rsl 4 (map Prize.c []),.rsl 8 (map Step.enc []),I 0,I 0,I 0,I 0,I 0,I 0,I 0,.rsl 3 (map Segment.c []),.rsl 1 (map (Qy 1 (Qd .i64)) []),I 0,I 0,I 0,I 0,I 0,I 0,I 0,I 0,.rsl 5 (map Hit.c []),.rsl 4 (map Hand.c []),.rsl 4 (map Penalty.c []),I 0,I 0],[(0,16),(16,2),(18,8),(26,1),(27,1),(28,1),(29,1),(30,1)]),(216,[I 0,I 0],[(0,1),(1,1)]),(283,[I 0,I 0,I 0],[(0,1),(1,1),(2,1)]),(307,[I 0,I 0,I 0,I 0,I 0,.rsl 4 (map Cond.enc []),.rsl 8 (map Step.enc []),.rsl 8 (map Step.enc [])],[(0,8)]),(320,[I 0,I 0,I 0,.rsl 4 (map Cond.enc [])],[(0,4)]),(300,[I 0,I 0],[(0,1),(1,1)]),(120,[I 0,I 0],[(0,1),(1,1)]),(241,[I 0,I 0],[(0,1),(1,1)]),(222,[I 0,I 0,I 0],[(0,1),(1,1),(2,1)]),(186,[I 0,I 0],[(0,1),(1,1)]),(30,[I 0,I 0],[(0,1),(1,1)]),(79,[I 0,I 0,I 0],[(0,1),(1,1),(2,1)]),(152,[I 0,I 0,I 0],[(0,1),(1,2)]),(154,[I 0,I 0,I 0,I 0,I 0],[(0,1),(1,3),(4,1)]),(98,[.rsl 1 (map (Qd .i64) []),I 0],[(0,1),(1,1)]),(27,[.bool false,I 0,I 0,I 0],[(0,1),(1,1),(2,1),(3,1)]),(74,[I 0,I 0,I 0,I 0,I 0,I 0,I 0,I 0],[(0,1),(1,1),(2,1),(3,1),(4,1),(5,1),(6,1),(7,1)]),(76,[I 0,I 0,I 0,I 0],[(0,1),(1,1),(2,1),(3,1)]),(44,[I 0,I 0,I 0,.bool false],[(0,1),(1,1),(2,1),(3,1)])]}
def tyF:List (Nat×List (Nat×Nat)):=[(25,[(0,1),(1,1)]),(27,[(0,1),(1,1),(2,1),(3,1)]),(30,[(0,1),(1,1)]),(44,[(0,1),(1,1),(2,1),(3,1)]),(69,[(0,1),(1,1),(2,1),(3,1),(4,1)]),(71,[(0,1),(1,1),(2,1),(3,1),(4,1),(5,1),(6,1),(7,1),(8,1),(9,5),(14,1),(15,1)]),(74,[(0,1),(1,1),(2,1),(3,1),(4,1),(5,1),(6,1),(7,1)]),(76,[(0,1),(1,1),(2,1),(3,1)]),(79,[(0,1),(1,1),(2,1)]),(90,[(0,16),(16,2),(18,8),(26,1),(27,1),(28,1),(29,1),(30,1)]),(98,[(0,1),(1,1)]),(102,[(0,1),(1,1),(2,1)]),(105,[(0,1),(1,1),(2,1),(3,1),(4,1)]),(107,[(0,1),(1,1),(2,1)]),(109,[(0,1),(1,1)]),(111,[(0,1),(1,1),(2,1),(3,1)]),(113,[(0,1),(1,1)]),(116,[(0,1),(1,1),(2,1),(3,1)]),(118,[(0,1),(1,1),(2,4),(6,1),(7,1)]),(120,[(0,1),(1,1)]),(143,[(0,16),(16,2),(18,1),(19,1),(20,1),(21,1),(22,1),(23,1),(24,1)]),(146,[(0,1),(1,1),(2,1),(3,1),(4,1)]),(152,[(0,1),(1,2)]),(154,[(0,1),(1,3),(4,1)]),(186,[(0,1),(1,1)]),(201,[(0,1),(1,1)]),(216,[(0,1),(1,1)]),(222,[(0,1),(1,1),(2,1)]),(241,[(0,1),(1,1)]),(255,[(0,1),(1,1),(2,1),(3,1)]),(259,[(0,1),(1,1),(2,1)]),(268,[(0,1),(1,1),(2,1),(3,1)]),(283,[(0,1),(1,1),(2,1)]),(300,[(0,1),(1,1)]),(307,[(0,8)]),(320,[(0,4)])]
def tyX:TyX:={ty:=tyT,al:=[(71,(.agg [.str [],.rsl 2 (map Mat.c []),.rsl 4 (map Leg.c []),.rsl 5 (map Distance.c []),.rsl 2 (map Wave.c []),.rsl 4 (map Offence.c []),.rsl 3 (map Category.c []),.rsl 4 (map Prize.c []),.rsl 8 (map Step.enc []),I 0,I 0,I 0,I 0,I 0,I 0,I 0])),(105,(.agg [.str [],.rsl 3 (map Part.enc []),I 0,.rsl 3 (map Cutoff.c []),I 0])),(25,(.agg [.rsl 3 (map Segment.c []),.rsl 1 (map (Qy 1 (Qd .i64)) [])])),(90,(.agg [.str [],.rsl 2 (map Mat.c []),.rsl 4 (map Leg.c []),.rsl 5 (map Distance.c []),.rsl 2 (map Wave.c []),.rsl 4 (map Offence.c []),.rsl 3 (map Category.c []),.rsl 4 (map Prize.c []),.rsl 8 (map Step.enc []),I 0,I 0,I 0,I 0,I 0,I 0,I 0,.rsl 3 (map Segment.c []),.rsl 1 (map (Qy 1 (Qd .i64)) []),I 0,I 0,I 0,I 0,I 0,I 0,I 0,I 0,.rsl 5 (map Hit.c []),.rsl 4 (map Hand.c []),.rsl 4 (map Penalty.c []),I 0,I 0])),(44,(.agg [I 0,I 0,I 0,.bool false])),(102,(.agg [I 0,I 0,.rsl 3 (map Part.enc [])])),(109,(.agg [.str [],I 0])),(113,(.agg [.str [],I 0])),(255,(.agg [.str [],I 0,I 0,.bool false])),(259,(.agg [.str [],I 0,I 0])),(216,(.agg [I 0,I 0])),(111,(.agg [I 0,I 0,I 0,I 0])),(283,(.agg [I 0,I 0,I 0])),(268,(.agg [I 0,I 0,I 0,I 0])),(3,(I 0)),(261,.nilf),(264,.nilf),(69,(.agg [I 0,I 0,I 0,I 0,I 0])),(118,(.agg [I 0,I 0,I 0,I 0,I 0,.rsl 4 (map Cond.enc []),.rsl 8 (map Step.enc []),.rsl 8 (map Step.enc [])])),(116,(.agg [I 0,I 0,I 0,.rsl 4 (map Cond.enc [])])),(307,(.agg [I 0,I 0,I 0,I 0,I 0,.rsl 4 (map Cond.enc []),.rsl 8 (map Step.enc []),.rsl 8 (map Step.enc [])])),(320,(.agg [I 0,I 0,I 0,.rsl 4 (map Cond.enc [])])),(144,.nilm),(214,.nilm),(79,(.agg [I 0,I 0,I 0])),(77,.nils),(291,.nilf),(201,(.agg [.rsl 1 (map (Qd .i64) []),.nilm])),(146,(.agg [I 0,I 0,I 0,I 0,I 0])),(30,(.agg [I 0,I 0])),(135,.nilp),(76,(.agg [I 0,I 0,I 0,I 0])),(154,(.agg [I 0,I 0,I 0,I 0,I 0])),(152,(.agg [I 0,I 0,I 0])),(92,.nils),(147,.nilf),(149,.nils),(150,.nilf),(27,(.agg [.bool false,I 0,I 0,I 0])),(31,(I 0)),(107,(.agg [I 0,I 0,I 0])),(171,.nilf),(36,.nils),(98,(.agg [.rsl 1 (map (Qd .i64) []),I 0]))],sl:=[328,286,77,92,36]}
def tyZ:TyZ:={sl:=[(45,44,4),(100,102,3),(60,109,2),(61,111,4),(62,105,5),(63,113,2),(64,255,4),(65,259,3),(66,268,4),(103,107,3),(328,5,1),(77,3,1),(67,118,8),(114,116,4),(286,304,1),(22,79,3),(23,77,1),(41,76,4),(88,146,5),(139,152,3),(36,27,4)],fn:=[136,210,185,139,137,141,143,145,147,138,140,142,144,146,186,49,35,149,158,192,214,191,154,194,92,193,161,150,148,188,212,187,151,190,213,189,153,152,173,206,172,163,196,215,195,155,198,216,197,166,200,217,199,156,202,218,201,169,157,159,160,112,162,164,165,167,168,171,229,219,203,226,204,227,221,220,170,174,175,114,113,108,109,110,111,42,29,28,48,36,33,34,83,82,115,81,180,121,94,131,132,116,117,87,176,118,119,93,18,84,85,86,88,91,95,89,96,65,66,63,70,62,72,19,134,223,209,184,67,135,122,101,99,74,16,100,103,105,102,73,22,39,25,21,24,23,30,43,44,45,46,47,10,32,15,12,8,13,37,38,20,9,17,5,6,7]}
theorem Qi9:kL prog tyF tyX tyZ=kR prog tyF tyX tyZ:=by kernel_rfl
theorem Qa2:QaM prog tyX:=.ofK Qi9 (by kernel_rfl)
theorem QcX:Qbu prog tyZ:=.ofK Qi9 (QjF (by kernel_rfl))
section
variable {h0 N m n d id t et k f:Nat} {all:Array Oper} {o:Oper} {l r r' ll:List Oper} {ds:List Nat} {env env' env0:Env} {H H' H1 X:Qc} {Q:Qx} {α:Type} {e:α->List A} {L:List α} {kk:IntKind} {i:Int} {v:α} {K:List Oper->Env->Qc->Prop} {xs xs':List A} {args argsc:List A} {Hc:Qc} {Hs Hs':List Qc} {bs:List Nat} {cat:Kat} {k':List Kf} {c':Cf} {hB hE:Nat} {x:A}
theorem G0{c:Code}(n:Nat)(h:QbQ tyX h0 N n (.code c) [] env H=some (c',k',env',H'))(g:Hd prog h0 N c' k' env' H' Q):TC prog h0 N c env H Q:=QbP Qa2 n h g
theorem Gc{k:List Kf}{c:Code}(n:Nat)(h:QbQ tyX h0 N n (.code c) k env H=some (c',k',env',H'))(g:Hd prog h0 N c' k' env' H' Q):TC prog h0 N c env H (kq prog h0 N k Q):=QbP Qa2 n h g
theorem Go{k:List Kf}(n:Nat)(h:QbQ tyX h0 N n (.ops all l) k env H=some (c',k',env',H'))(g:Hd prog h0 N c' k' env' H' Q):WO prog h0 N all l env H (kq prog h0 N k Q):=QbP Qa2 n h g
theorem Gx{k:List Kf}{x:AEx}(n:Nat)(h:QbQ tyX h0 N n (.out x) k env H=some (c',k',env',H'))(g:Hd prog h0 N c' k' env' H' Q):kq prog h0 N k Q x env H:=QbP Qa2 n h g
theorem Cg{β:Type}{E':β->Env}{Hb:β->Qc}{k:List Kf}{c c2:Code}(b:β)(sel keep:List Nat)(nE:β->Env)(nH:β->List (Nat×Blk))(hc:∀b,QfK sel keep (nE b) (nH b) env H=some (E' b,Hb b))(h:TC prog h0 N c env H (Qf0 h0 b E' Hb (kq prog h0 N (.seq c2::k) Q)))(g:TC prog h0 N c2 (E' b) (Hb b) (kq prog h0 N k Q)):TC prog h0 N c env H (kq prog h0 N (.seq c2::k) Q):=Ct b sel keep nE nH hc h λ_ _ e=>Gx 1 rfl (Qm e g)
theorem CgE{S B:Type}{b:Ctl S B}{E':S->Env}{Hb:S->Qc}{k:List Kf}{c c2:Code}(sel keep:List Nat)(nE:S->Env)(nH:S->List (Nat×Blk))(hc:∀s,QfK sel keep (nE s) (nH s) env H=some (E' s,Hb s))(h:TC prog h0 N c env H (Qd8 h0 b E' Hb (kq prog h0 N (.seq c2::k) Q)))(g:∀s,b=.cont s->TC prog h0 N c2 (E' s) (Hb s) (kq prog h0 N k Q)):TC prog h0 N c env H (kq prog h0 N (.seq c2::k) Q):=CtE sel keep nE nH hc h λs _ _ q e=>Gx 1 rfl (Qm e (g s q))
theorem cNo{S B S':Type}{b x:Ctl S B}{d:Ctl S' (Ctl S B)}{E':S->Env}{Hb:S->Qc}{s:S}(hb:∀b',d=.done b'->b'=b)(h:some (Ctl.done x)=some d)(e:x=.cont s)(hl:Le h0 env H (E' s) (Hb s)):Qd8 h0 b E' Hb Q .normal env H:=YV ((Oj hb h).symm.trans e) hl
theorem cQo{β S':Type}{b x:β}{d:Ctl S' β}{E':β->Env}{Hb:β->Qc}(hb:∀b',d=.done b'->b'=b)(h:some (Ctl.done x)=some d)(hl:Le h0 env H (E' x) (Hb x)):Qf0 h0 b E' Hb Q .normal env H:=by
  cases Oj hb h;exact hl
theorem Gl{β:Type}{e b:β}{E':β->Env}{Hb:β->Qc}{k:List Kf}(n:Nat)(hm:QbQ tyX h0 N n (.ops all l) k env H=some (.out .normal,[],env',H'))(h:some e=some b)(π:List Nat)(hpre:π.take h0=List.range h0:=by exact rfl)(hH:π.map (λp=>H'[p]?)=((Hb e).map (QK (rho π H'.length))).map some:=by exact rfl)(hπ:π.Nodup:=by decide)(hE:Qbj (rho π H'.length) env' (E' e):=by(repeat' (first|exact trivial|refine⟨rfl,?_⟩))):WO prog h0 N all l env H (kq prog h0 N k (Qf0 h0 b E' Hb Q)):=Go n hm (Cl h π hpre hH hπ hE)
theorem Gt{β:Type}{e r:β}{w:β->A}{Hb:β->Qc}{fn:Func}{k:List Kf}(n:Nat)(hm:QbQ tyX h0 N n (.ops all l) k env H=some (.out .ret,[],env',H'))(h:some e=some r)(a:Nat)(π:List Nat)(hr:fn.results= #[.tmp a]:=by exact rfl)(hpre:π.take h0=List.range h0:=by exact rfl)(hH:π.map (λp=>H'[p]?)=((Hb e).map (QK (rho π H'.length))).map some:=by exact rfl)(hπ:π.Nodup:=by decide)(hE:Qbj (rho π H'.length) env' [(a,w e)]:=by exact⟨rfl,trivial⟩):WO prog h0 N all l env H (kq prog h0 N k (YK prog h0 fn (RQ w Hb r))):=Go n hm (Rt h a π hr hpre hH hπ hE)
theorem Gcl{β:Type}{e b:β}{E':β->Env}{Hb:β->Qc}{k:List Kf}{c:Code}(n:Nat)(hm:QbQ tyX h0 N n (.code c) k env H=some (.out .normal,[],env',H'))(h:some e=some b)(π:List Nat)(hpre:π.take h0=List.range h0:=by exact rfl)(hH:π.map (λp=>H'[p]?)=((Hb e).map (QK (rho π H'.length))).map some:=by exact rfl)(hπ:π.Nodup:=by decide)(hE:Qbj (rho π H'.length) env' (E' e):=by(repeat' (first|exact trivial|refine⟨rfl,?_⟩))):TC prog h0 N c env H (kq prog h0 N k (Qf0 h0 b E' Hb Q)):=Gc n hm (Cl h π hpre hH hπ hE)
theorem QP{β:Type}{e r:β}{w:β->A}{Hb:β->Qc}{fn:Func}{k:List Kf}{c:Code}(n:Nat)(hm:QbQ tyX h0 N n (.code c) k env H=some (.out .ret,[],env',H'))(h:some e=some r)(a:Nat)(π:List Nat)(hr:fn.results= #[.tmp a]:=by exact rfl)(hpre:π.take h0=List.range h0:=by exact rfl)(hH:π.map (λp=>H'[p]?)=((Hb e).map (QK (rho π H'.length))).map some:=by exact rfl)(hπ:π.Nodup:=by decide)(hE:Qbj (rho π H'.length) env' [(a,w e)]:=by exact⟨rfl,trivial⟩):TC prog h0 N c env H (kq prog h0 N k (YK prog h0 fn (RQ w Hb r))):=Gc n hm (Rt h a π hr hpre hH hπ hE)
theorem Fg{k:List Kf}{e1:Env}(n:Nat)(h:foS env H=some (e1,H1))(hm:QbQ tyX h0 N n (.ops all l) k e1 H1=some (c',k',env',H'))(g:Hd prog h0 N c' k' env' H' Q):WO prog h0 N all l env H (kq prog h0 N k Q):=FE h (Go n hm g)
@[reducible] def Ks{β:Type}(F:Option β)(f:FuncId)(args:List A)(H:Qc)(w:β->A):Prop:=Kp prog F f args H w λ_=>H
@[reducible] def Kq{β:Type}(F:Option β)(f:FuncId)(args:List A)(H:Qc)(w:β->A)(H1:β->Qc):Prop:=Kp prog F f args H w H1
theorem Kg{β:Type}{F:Option β}{f:FuncId}{fn:Func}{c:Code}{w:β->A}{H1:β->Qc}(n:Nat)(hf:prog.funcs[f]?=some fn)(hb:fn.body=some c)(hN:fn.ntmps=N)(hA:Nat.ble args.length N=true)(h:QbQ tyX H.length N n (.code c) [] (Qa4 0 args) H=some (c',k',env',H'))(g:∀r,F=some r->Hd prog H.length N c' k' env' H' (YK prog H.length fn (RQ w H1 r))):Kp prog F f args H w H1:=Kp.b hf hb hN hA λr e=>G0 n h (g r e)
theorem D(n:Nat)(h:QeP tyX N m l ds env H n xs.length r xs=some (r',xs'))(k:DS prog N m l ds env H K r' xs'):DS prog N m l ds env H K r xs:=Qc3 Qa2 n _ rfl h k
theorem Iz(h:idx L i=some v)(q:ixB o env=some (d,t,k,L.map e,kk,i))(g:WO prog h0 N all l (up env d (.rp (e v))) H Q)(ht:Qa9 tyZ.sl t=some (et,k):=by exact rfl)(hg:Yv all o env=some true:=by exact rfl)(hN:Nat.blt d N=true:=by exact rfl):WO prog h0 N all (o::l) env H Q:=Izz QcX h q g ht hg hN
theorem IzE{cs:List A}(h:idx L i=some v)(he:e v=cs)(q:ixB o env=some (d,t,k,L.map e,kk,i))(g:WO prog h0 N all l (up env d (.rp cs)) H Q)(ht:Qa9 tyZ.sl t=some (et,k):=by exact rfl)(hg:Yv all o env=some true:=by exact rfl)(hN:Nat.blt d N=true:=by exact rfl):WO prog h0 N all (o::l) env H Q:=Ize QcX h he q g ht hg hN
theorem Lm{k':Nat}(q:lnB o env=some (d,t,.mk (.rsl k (L.map e))))(g:WO prog h0 N all l (up env d (I L.length)) H Q)(ht:Qa9 tyZ.sl t=some (et,k'):=by exact rfl)(hg:Yv all o env=some true:=by exact rfl)(hN:Nat.blt d N=true:=by exact rfl):WO prog h0 N all (o::l) env H Q:=Lmz QcX q g ht hg hN
theorem Lg{k:List Kf}{i k1:Nat}(n:Nat)(q:lnB o env=some (d,t,.mk (.rsl i (L.map e))))(hm:QbQ tyX h0 N n (.ops all l) k (up env d (I L.length)) H=some (c',k',env',H'))(g:Hd prog h0 N c' k' env' H' Q)(ht:Qa9 tyZ.sl t=some (et,k1):=by exact rfl)(hg:Yv all o env=some true:=by exact rfl)(hN:Nat.blt d N=true:=by exact rfl):WO prog h0 N all (o::l) env H (kq prog h0 N k Q):=Lm q (Go n hm g) ht hg hN
theorem Cz{β γ:Type}{F:Option β}{F':β->Option γ}{r:γ}{w:β->A}(π:List Nat)(h:F.bind F'=some r)(hC:∀v,F=some v->C prog f argsc Hc (RQ w (λ_=>Hc) v))(hop:QdE tyZ o env=some (d,f,args))(g:∀v,F=some v->F' v=some r->WO prog h0 N all l (up env d (w v)) H Q)(hv:∀v,Qgy (w v)=some (.mk (w v)):=by exact λ_=>rfl)(hargs:args=Qag (rho π H.length) argsc:=by exact rfl)(hH:π.map (λp=>H[p]?)=(Hc.map (QK (rho π H.length))).map some:=by exact rfl)(hπ:π.Nodup:=by decide)(hg:Yv all o env=some true:=by exact rfl)(hN:Nat.blt d N=true:=by exact rfl)(hh:Nat.ble h0 H.length=true:=by exact rfl):WO prog h0 N all (o::l) env H Q:=Czz QcX π h hC hop g hv hargs hH hπ hg hN hh
theorem Cb{β γ:Type}{F:Option β}{F':β->Option γ}{r:γ}{w:β->A}(h:F.bind F'=some r)(hC:∀v,F=some v->C prog f argsc [] (RQ w Ze v))(hop:QdE tyZ o env=some (d,f,args))(hL:QaP H args argsc)(g:∀v,F=some v->F' v=some r->WO prog h0 N all l (up env d (w v)) H Q)(hv:∀v,QT (w v)=true:=by exact λ_=>rfl)(hg:Yv all o env=some true:=by exact rfl)(hN:Nat.blt d N=true:=by exact rfl):WO prog h0 N all (o::l) env H Q:=Cbz QcX h hC hop hL g hv hg hN
theorem Dz{β γ:Type}{F:Option β}{F':β->Option γ}{r:γ}{w:β->A}(π:List Nat)(h:F.bind F'=some r)(hC:∀v,F=some v->C prog f argsc Hc (RQ w (λ_=>Hc) v))(hop:QdE tyZ o (QV (Qk o) 0 ds xs env)=some (d,f,args))(g:∀v,F=some v->F' v=some r->DS prog N m ll ds env H K l (xs++[w v]))(hv:∀v,Qgy (w v)=some (.mk (w v)):=by exact λ_=>rfl)(hargs:args=Qag (rho π H.length) argsc:=by exact rfl)(hH:π.map (λp=>H[p]?)=(Hc.map (QK (rho π H.length))).map some:=by exact rfl)(hπ:π.Nodup:=by decide)(hg:Yv ll.toArray o (QV (Qk o) 0 ds xs env)=some true:=by exact rfl)(hN:Nat.blt d N=true:=by exact rfl)(hx:Nat.blt xs.length m=true:=by exact rfl):DS prog N m ll ds env H K (o::l) xs:=DzZ QcX π h hC hop g hv hargs hH hπ hg hN hx
theorem DSs(m:Nat)(hc:Go.Sw.draw0 l m N (QaI m 0 l)=true)(h:DS prog N m l (QaI m 0 l) env H (λr e H=>WO prog h0 N l.toArray r e H Q) l [])(h0B:Nat.ble h0 H.length=true:=by exact rfl):TC prog h0 N (.region id l.toArray true) env H Q:=Qiw (k:=[]) m draws hc h0B h
theorem Da{cat:List Nat}(n:Nat)(h:QeQ tyX N m cat l ds env H n xs.length r xs=some (r',xs'))(k:DA prog N m cat l ds env H K r' xs'):DA prog N m cat l ds env H K r xs:=Qc6 Qa2 n _ rfl h k
theorem Db{cat:List Nat}(n:Nat)(h:Qc5 tyX N cat l ds env H1 n xs.length r xs=some (r',xs'))(k:DB prog N m cat l ds env H H1 K r' xs'):DB prog N m cat l ds env H H1 K r xs:=Qbd Qa2 n _ rfl h k
theorem Dk(k:Nat)(h:Qc4 tyX N m cat l ds env n k xs.length Hs.length Hs X r xs=some (Hs',r',xs'))(g:DK prog N m bs cat l ds env n K Hs' X r' xs'):DK prog N m bs cat l ds env n K Hs X r xs:=Qbc Qa2 k _ _ rfl rfl h g
theorem Dks{lo hi:Nat}(h:allV tyX o (QV (Qk o) 0 ds xs env) x (hi+1-lo) (X::Hs))(k:DK prog N m bs cat l ds env n K Hs X r (xs++[x]))(hc:Yu cat xs.length=some (0,lo,hi):=by exact rfl)(hd:o.dst=some d:=by exact rfl)(hcH:Nat.beq hi Hs.length=true:=by exact rfl)(hg:Yv ⟨l⟩ o (QV (Qk o) 0 ds xs env)=some true:=by exact rfl)(hN:Nat.blt d N=true:=by exact rfl)(hle:Nat.ble lo hi=true:=by exact rfl):DK prog N m bs cat l ds env n K Hs X (o::r) xs:=DK.vs Qa2 h k hc hd hcH hg hN hle
theorem DKs(m:Nat)(bs:List Nat)(cat:Kat)(hc:Qcy l m N (QaI m 0 l) (hsK cat) (rqK bs cat) (msK bs) (plK cat)=true)(h:DK prog N m bs cat l (QaI m 0 l) env H.length (λr e H=>WO prog h0 N l.toArray r e H Q) [] H l [])(hcl:Nat.beq cat.length m=true:=by exact rfl)(h0B:Nat.ble h0 H.length=true:=by exact rfl):TC prog h0 N (.region id l.toArray true) env H Q:=Qix m bs cat draws hc hcl h0B h
theorem DAs(m b:Nat)(cat:List Nat)(hc:Qcy l m N (QaI m 0 l) (hsC cat) (rqC b cat) [[],[b]] (plC cat)=true)(h:DA prog N m cat l (QaI m 0 l) env H (λr e H=>WO prog h0 N l.toArray r e H Q) l [])(hcl:Nat.beq cat.length m=true:=by exact rfl)(h0B:Nat.ble h0 H.length=true:=by exact rfl):TC prog h0 N (.region id l.toArray true) env H Q:=Qiy m b cat draws hc hcl h0B h
theorem Cd{β γ:Type}{F:Option β}{F':β->Option γ}{r:γ}{w:β->A}{Hr:β->Qc}(π:List Nat)(h:F.bind F'=some r)(hC:∀v,F=some v->C prog f argsc Hc (RQ w Hr v))(hop:QdE tyZ o env=some (d,f,args))(g:∀v,F=some v->F' v=some r->WO prog h0 N all l (up env d (Yw (rho π H.length) (w v))) (QJ H π ((Hr v).map (QK (rho π H.length)))) Q)(hargs:args=Qag (rho π H.length) argsc:=by exact rfl)(hH:π.map (λp=>H[p]?)=(Hc.map (QK (rho π H.length))).map some:=by exact rfl)(hπ:π.Nodup:=by decide)(hg:Yv all o env=some true:=by exact rfl)(hN:Nat.blt d N=true:=by exact rfl)(hh:Nat.ble h0 H.length=true:=by exact rfl):WO prog h0 N all (o::l) env H Q:=Cdz QcX π h hC hop g hargs hH hπ hg hN hh
theorem v0{i:Nat}(hx:xs[i]?=some x)(h:Qf7 tyT N l ds xs env0 H i=some x):YQ prog N l ds xs env0 hB hE i H H:=vQ Qa2.ty hx h
theorem ov{i c:Nat}(k:Oq prog N l ds xs env0 H (i+1) c)(hx:xs[i]?=some x:=by exact rfl)(h:Qf7 tyT N l ds xs env0 H i=some x:=by exact rfl):Oq prog N l ds xs env0 H i (c+1):=.c (vQ Qa2.ty hx h) k
end
theorem Gy0{T:Type}{X:Ctx T}{st:YSt T}{h0 N:Nat}{c:Code}{c':Cf}{k':List Kf}{env env':Env}{H H':Qc}{Q:Yk T}(n:Nat)(h:QgA tyX h0 N n (.code c) [] env H=some (c',k',env',H'))(g:HdY X prog h0 N c' k' env' H' st Q):TCy X prog h0 N c env H st Q:=QcK Qa2 n h g
theorem Gyo{T:Type}{X:Ctx T}{st:YSt T}{h0 N:Nat}{k:List Kf}{all:Array Oper}{l:List Oper}{c':Cf}{k':List Kf}{env env':Env}{H H':Qc}{Q:Yk T}(n:Nat)(h:QgA tyX h0 N n (.ops all l) k env H=some (c',k',env',H'))(g:HdY X prog h0 N c' k' env' H' st Q):WOy X prog h0 N all l env H st (kqY X prog h0 N k Q):=QcK Qa2 n h g
theorem Gyx{T:Type}{X:Ctx T}{st:YSt T}{h0 N:Nat}{k:List Kf}{x:AEx}{c':Cf}{k':List Kf}{env env':Env}{H H':Qc}{Q:Yk T}(n:Nat)(h:QgA tyX h0 N n (.out x) k env H=some (c',k',env',H'))(g:HdY X prog h0 N c' k' env' H' st Q):kqY X prog h0 N k Q x env H st:=QcK Qa2 n h g
def lay_contains_211_ren:Go.Shelf.Ren:=⟨λ|144=>211|143=>225|219=>228|217=>230|225=>231|224=>232|267=>233|266=>234|314=>235|n=>n,λ|9=>9|4=>4|3=>3|5=>5|46=>87|146=>226|51=>132|n=>n,λ|1=>0|n=>n⟩
theorem Qcc:Go.Proofs.Lays.n144 prog lay_contains_211_ren:=by
  constructor<;>first|kernel_rfl|(intro;kernel_rfl)|exact Qer (by kernel_rfl) (by kernel_rfl)
def lay_insertI_133_ren:Go.Shelf.Ren:=⟨λ|21=>133|27=>181|28=>182|35=>208|39=>222|n=>n,λ|22=>77|3=>3|4=>4|0=>0|n=>n,λ|n=>n⟩
theorem QcH:Go.Proofs.Lays2.n21 prog lay_insertI_133_ren:=by
  constructor<;>first|kernel_rfl|(intro;kernel_rfl)|exact Qer (by kernel_rfl) (by kernel_rfl)
def lay_sortK_68_ren:Go.Shelf.Ren:=⟨λ|6=>68|15=>41|14=>97|28=>58|29=>59|20=>123|21=>124|22=>125|23=>126|24=>127|25=>128|26=>129|27=>130|46=>177|47=>77|48=>78|49=>178|50=>179|57=>207|n=>n,λ|22=>92|24=>98|25=>161|3=>3|39=>87|0=>0|53=>132|55=>134|4=>4|46=>125|45=>124|50=>129|5=>5|9=>9|66=>174|70=>178|76=>209|77=>210|n=>n,λ|n=>n⟩
theorem Qeg:Go.Proofs.SlLaysF0.n6 prog lay_sortK_68_ren:=by
  constructor<;>first|kernel_rfl|(intro;kernel_rfl)|exact Qer (by kernel_rfl) (by kernel_rfl)
def lay_sortK_26_ren:Go.Shelf.Ren:=⟨λ|6=>26|15=>41|14=>40|28=>58|29=>59|20=>50|21=>51|22=>52|23=>53|24=>54|25=>55|26=>56|27=>57|46=>76|47=>77|48=>78|49=>79|50=>80|57=>107|n=>n,λ|22=>36|24=>27|25=>56|3=>3|39=>87|0=>0|53=>132|55=>134|4=>4|46=>125|45=>124|50=>129|5=>5|9=>9|66=>174|70=>178|76=>209|77=>210|n=>n,λ|n=>n⟩
theorem Qeh:Go.Proofs.SlLaysF0.n6 prog lay_sortK_26_ren:=by
  constructor<;>first|kernel_rfl|(intro;kernel_rfl)|exact Qer (by kernel_rfl) (by kernel_rfl)
end Go.Sw
