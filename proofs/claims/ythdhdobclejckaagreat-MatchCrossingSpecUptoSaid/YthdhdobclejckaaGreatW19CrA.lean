/- The types of MatchCrossingSpec and facts on them. -/
import Derived.Test.YthdhdobclejckaaGreatL3
import Derived.Test.YthdhdobclejckaaGreatProg
set_option linter.unusedVariables false
set_option linter.unusedSimpArgs false
set_option maxRecDepth 100000
set_option maxHeartbeats 4000000
namespace Go.Sw
open List(map)
open Int(toNat)
open Go.IntKind(i64 u64 u8)
open Go.Proofs Tryz
abbrev EB:=@runUnderlying44
abbrev EC:=@sizeOf3
abbrev ED:=@sizeOf55
abbrev EE:=@runUnderlying9
abbrev EF:=@runUnderlying35
abbrev EG:=@isAgg55
abbrev EH:=@underlying122
abbrev EI:=@sizeOf44
abbrev EJ:=@runUnderlying40
abbrev EK:=@runUnderlying310
abbrev EL:=@underlying285
abbrev EM:=@runUnderlying218
abbrev EN:=@zeroValue3
abbrev EO:=@runUnderlying55
abbrev EP:=@runUnderlying94
abbrev EQ:=@isAgg3
abbrev ES:=@zeroValue4
abbrev ET:=@runUnderlying313
abbrev EU:=@sizeOf5
abbrev EV:=@runUnderlying23
abbrev EW:=@sizeOf65
abbrev EX:=@runUnderlying3
abbrev EY:=@runUnderlying268
abbrev EZ:=@underlying9
abbrev E0:=@runUnderlying24
abbrev E3:=@sizeOf110
abbrev E4:=@sizeOf116
abbrev E5:=@underlying3
abbrev E6:=@zeroValue88
abbrev E7:=@zeroValue55
abbrev E8:=@underlying186
abbrev E9:=@underlying118
abbrev Ga:=@runUnderlying117
abbrev Gb:=@runUnderlying125
abbrev Gd:=@runUnderlying296
abbrev Ge:=@runUnderlying72
abbrev Gf:=@isAgg84
abbrev Gg:=@sizeOf88
abbrev Gh:=@sizeOf46
abbrev Gi:=@sizeOf84
abbrev Gj:=@runUnderlying114
abbrev Gk:=@runUnderlying78
abbrev Gm:=@runUnderlying67
abbrev Gn:=@sizeOf128
abbrev Gp:=@sizeOf4
abbrev Gq:=@zeroValue110
abbrev Gr:=@underlying29
abbrev Gs:=@underlying44
abbrev Gu:=@sizeOf313
abbrev Gv:=@zeroValue310
theorem draws:prog.follows .mixedOrders=true:=by rfl
structure Faults where
  Misses:Int
  Strays:Int
  Window:Int
  Residual:Int
  Drift:Int
  deriving DecidableEq
def Faults.c(x:Faults):List Go.Sw.A:=[I x.Misses,I x.Strays,I x.Window,I x.Residual,I x.Drift]
structure Mat where
  Name:List UInt8
  Kind:Int
  deriving DecidableEq
def Mat.c(x:Mat):List Go.Sw.A:=[.str x.Name,I x.Kind]
structure Leg where
  From:Int
  To:Int
  Min:Int
  Max:Int
  deriving DecidableEq
def Leg.c(x:Leg):List Go.Sw.A:=[I x.From,I x.To,I x.Min,I x.Max]
structure Part where
  Mat:Int
  Laps:Int
  Parts:List Part
mutual
def Part.enc:Part->List A
  |⟨x0,x1,x2⟩=>[I x0,I x1,.rsl 3 (Part.encs x2)]
def Part.encs:List Part->List (List A)
  |[]=>[]
  |x::l=>Part.enc x::Part.encs l
end
theorem Qc0(l:List Part):Part.encs l=map Part.enc l:=by induction l with|nil=>simp[Part.encs]|cons x l h=>simp[Part.encs,h]
def Part.c(x:Part):List Go.Sw.A:=[I x.Mat,I x.Laps,.rsl 3 (map Part.enc x.Parts)]
theorem QF(x:Part):Part.enc x=Part.c x:=by cases x;simp[Part.enc,Part.c,Qc0]
structure Cutoff where
  Mat:Int
  Lap:Int
  Limit:Int
  deriving DecidableEq
def Cutoff.c(x:Cutoff):List Go.Sw.A:=[I x.Mat,I x.Lap,I x.Limit]
structure Distance where
  Name:List UInt8
  Route:List Part
  Timing:Int
  Cutoffs:List Cutoff
  Extra:Int
def Distance.c(x:Distance):List Go.Sw.A:=[.str x.Name,.rsl 3 (map Part.enc x.Route),I x.Timing,.rsl 3 (map Cutoff.c x.Cutoffs),I x.Extra]
structure Wave where
  Name:List UInt8
  Gun:Int
  deriving DecidableEq
def Wave.c(x:Wave):List Go.Sw.A:=[.str x.Name,I x.Gun]
structure Offence where
  Name:List UInt8
  Time:Int
  Laps:Int
  Out:Bool
  deriving DecidableEq
def Offence.c(x:Offence):List Go.Sw.A:=[.str x.Name,I x.Time,I x.Laps,.bool x.Out]
structure Category where
  Name:List UInt8
  From:Int
  To:Int
  deriving DecidableEq
def Category.c(x:Category):List Go.Sw.A:=[.str x.Name,I x.From,I x.To]
structure Prize where
  Distance:Int
  Category:Int
  Rank:Int
  Amount:Int
  deriving DecidableEq
def Prize.c(x:Prize):List Go.Sw.A:=[I x.Distance,I x.Category,I x.Rank,I x.Amount]
structure Cond where
  Kind:Int
  Var:Int
  N:Int
  Parts:List Cond
mutual
def Cond.enc:Cond->List A
  |⟨x0,x1,x2,x3⟩=>[I x0,I x1,I x2,.rsl 4 (Cond.encs x3)]
def Cond.encs:List Cond->List (List A)
  |[]=>[]
  |x::l=>Cond.enc x::Cond.encs l
end
theorem Qc6(l:List Cond):Cond.encs l=map Cond.enc l:=by induction l with|nil=>simp[Cond.encs]|cons x l h=>simp[Cond.encs,h]
def Cond.c(x:Cond):List Go.Sw.A:=[I x.Kind,I x.Var,I x.N,.rsl 4 (map Cond.enc x.Parts)]
theorem Qar(x:Cond):Cond.enc x=Cond.c x:=by cases x;simp[Cond.enc,Cond.c,Qc6]
structure Step where
  Kind:Int
  By:Int
  Cond:Cond
  Then:List Step
  Else:List Step
mutual
def Step.enc:Step->List A
  |⟨x0,x1,x2,x3,x4⟩=>[I x0,I x1,I x2.Kind,I x2.Var,I x2.N,.rsl 4 (map Cond.enc x2.Parts),.rsl 8 (Step.encs x3),.rsl 8 (Step.encs x4)]
def Step.encs:List Step->List (List A)
  |[]=>[]
  |x::l=>Step.enc x::Step.encs l
end
theorem QcW(l:List Step):Step.encs l=map Step.enc l:=by induction l with|nil=>simp[Step.encs]|cons x l h=>simp[Step.encs,h]
def Step.c(x:Step):List Go.Sw.A:=[I x.Kind,I x.By,I x.Cond.Kind,I x.Cond.Var,I x.Cond.N,.rsl 4 (map Cond.enc x.Cond.Parts),.rsl 8 (map Step.enc x.Then),.rsl 8 (map Step.enc x.Else)]
theorem Yx(x:Step):Step.enc x=Step.c x:=by cases x;simp[Step.enc,Step.c,QcW]
structure Course where
  Name:List UInt8
  Mats:List Mat
  Legs:List Leg
  Distances:List Distance
  Waves:List Wave
  Offences:List Offence
  Categories:List Category
  Prizes:List Prize
  Ties:List Step
  Faults:Faults
  Fee:Int
  Deadline:Int
def Course.c(x:Course):List Go.Sw.A:=[.str x.Name,.rsl 2 (map Mat.c x.Mats),.rsl 4 (map Leg.c x.Legs),.rsl 5 (map Distance.c x.Distances),.rsl 2 (map Wave.c x.Waves),.rsl 4 (map Offence.c x.Offences),.rsl 3 (map Category.c x.Categories),.rsl 4 (map Prize.c x.Prizes),.rsl 8 (map Step.enc x.Ties),I x.Faults.Misses,I x.Faults.Strays,I x.Faults.Window,I x.Faults.Residual,I x.Faults.Drift,I x.Fee,I x.Deadline]
structure Segment where
  Mat:Int
  Epoch:Int
  Anchor:Int
  deriving DecidableEq
def Segment.c(x:Segment):List Go.Sw.A:=[I x.Mat,I x.Epoch,I x.Anchor]
structure Clocks where
  Segments:List Segment
  Far:List (List Int)
  deriving DecidableEq
def Clocks.c(x:Clocks):List Go.Sw.A:=[.rsl 3 (map Segment.c x.Segments),.rsl 1 (map (QN 1 (Qe .i64)) x.Far)]
structure Starter where
  Bib:Int
  Distance:Int
  Wave:Int
  Slot:Int
  Age:Int
  Chip:Int
  Team:Int
  Lot:Int
  deriving DecidableEq
def Starter.c(x:Starter):List Go.Sw.A:=[I x.Bib,I x.Distance,I x.Wave,I x.Slot,I x.Age,I x.Chip,I x.Team,I x.Lot]
structure Hit where
  Mat:Int
  Epoch:Int
  Chip:Int
  First:Int
  Last:Int
  deriving DecidableEq
def Hit.c(x:Hit):List Go.Sw.A:=[I x.Mat,I x.Epoch,I x.Chip,I x.First,I x.Last]
structure Hand where
  Bib:Int
  Position:Int
  Lo:Int
  Hi:Int
  deriving DecidableEq
def Hand.c(x:Hand):List Go.Sw.A:=[I x.Bib,I x.Position,I x.Lo,I x.Hi]
structure stopwatchlaw19_Input where
  C:Course
  K:Clocks
  S:Starter
  Extra:Int
  Hits:List Hit
  Hands:List Hand
def stopwatchlaw19_Input.c(x:stopwatchlaw19_Input):List Go.Sw.A:=[.str x.C.Name,.rsl 2 (map Mat.c x.C.Mats),.rsl 4 (map Leg.c x.C.Legs),.rsl 5 (map Distance.c x.C.Distances),.rsl 2 (map Wave.c x.C.Waves),.rsl 4 (map Offence.c x.C.Offences),.rsl 3 (map Category.c x.C.Categories),.rsl 4 (map Prize.c x.C.Prizes),.rsl 8 (map Step.enc x.C.Ties),I x.C.Faults.Misses,I x.C.Faults.Strays,I x.C.Faults.Window,I x.C.Faults.Residual,I x.C.Faults.Drift,I x.C.Fee,I x.C.Deadline,.rsl 3 (map Segment.c x.K.Segments),.rsl 1 (map (QN 1 (Qe .i64)) x.K.Far),I x.S.Bib,I x.S.Distance,I x.S.Wave,I x.S.Slot,I x.S.Age,I x.S.Chip,I x.S.Team,I x.S.Lot,I x.Extra,.rsl 5 (map Hit.c x.Hits),.rsl 4 (map Hand.c x.Hands)]
structure Way where
  Hits:List Int
  Last:Int
  deriving DecidableEq
def Way.c(x:Way):List Go.Sw.A:=[.rsl 1 (map (Qe .i64) x.Hits),I x.Last]
abbrev Um:Cond:={Kind:=0,Var:=0,N:=0,Parts:=[]}
abbrev Uv:Step:={Kind:=0,By:=0,Cond:=Um,Then:=[],Else:=[]}
abbrev Us:Leg:={From:=0,To:=0,Min:=0,Max:=0}
abbrev Ut:Part:={Mat:=0,Laps:=0,Parts:=[]}
abbrev Uo:Distance:={Name:=[],Route:=[],Timing:=0,Cutoffs:=[],Extra:=0}
abbrev Ur:Hit:={Mat:=0,Epoch:=0,Chip:=0,First:=0,Last:=0}
structure Ui where
  from_:Int
  to_:Int
  deriving DecidableEq
def Ui.c(x:Ui):List Go.Sw.A:=[I x.from_,I x.to_]
structure Uk where
  distance:Int
  category:Int
  rank:Int
  deriving DecidableEq
def Uk.c(x:Uk):List Go.Sw.A:=[I x.distance,I x.category,I x.rank]
structure Ul where
  Step:Step
def Ul.c(x:Ul):List Go.Sw.A:=[I x.Step.Kind,I x.Step.By,I x.Step.Cond.Kind,I x.Step.Cond.Var,I x.Step.Cond.N,.rsl 4 (map Cond.enc x.Step.Cond.Parts),.rsl 8 (map Step.enc x.Step.Then),.rsl 8 (map Step.enc x.Step.Else)]
structure Ug where
  Cond:Cond
def Ug.c(x:Ug):List Go.Sw.A:=[I x.Cond.Kind,I x.Cond.Var,I x.Cond.N,.rsl 4 (map Cond.enc x.Cond.Parts)]
inductive Uj where
  |ctyping_step (x:Ul)
  |ctyping_cond (x:Ug)
def Uj.val:Uj->A
  |.ctyping_step x=>.iface 296 (.agg (Ul.c x))
  |.ctyping_cond x=>.iface 310 (.agg (Ug.c x))
def Uj.enc(x:Uj):List A:=[x.val]
def Uj.elim{R:Type}(e:Uj)(f0:Ul->Option R)(f1:Ug->Option R):Option R:=match e with
  |.ctyping_step x=>f0 x
  |.ctyping_cond x=>f1 x
theorem Uj.data(x:Uj):Yq x.val=true:=by cases x<;>rfl
theorem Jo(e:Uj):(∃x,e=.ctyping_step x)\/(∃x,e=.ctyping_cond x):=by cases e<;>simp
theorem Ji{R:Type}{e:Uj}{x:Ul}{f0:Ul->Option R}{f1:Ug->Option R}{r:R}(hE:e=.ctyping_step x)(h:Uj.elim e f0 f1=some r):f0 x=some r:=by subst hE;exact h
theorem Jh{R:Type}{e:Uj}{x:Ug}{f0:Ul->Option R}{f1:Ug->Option R}{r:R}(hE:e=.ctyping_cond x)(h:Uj.elim e f0 f1=some r):f1 x=some r:=by subst hE;exact h
structure Uh where
  steps:Int
  conds:Int
  deriving DecidableEq
def Uh.c(x:Uh):List Go.Sw.A:=[I x.steps,I x.conds]
structure Ua where
  mat:Int
  epoch:Int
  deriving DecidableEq
def Ua.c(x:Ua):List Go.Sw.A:=[I x.mat,I x.epoch]
structure Span where
  Lo:Int
  Hi:Int
  deriving DecidableEq
def Span.c(x:Span):List Go.Sw.A:=[I x.Lo,I x.Hi]
structure Ud where
  segment:Int
  span:Span
  deriving DecidableEq
def Ud.c(x:Ud):List Go.Sw.A:=[I x.segment,I x.span.Lo,I x.span.Hi]
structure Ub where
  from_:Int
  to_:Int
  deriving DecidableEq
def Ub.c(x:Ub):List Go.Sw.A:=[I x.from_,I x.to_]
structure Uc where
  chip:Int
  mat:Int
  epoch:Int
  deriving DecidableEq
def Uc.c(x:Uc):List Go.Sw.A:=[I x.chip,I x.mat,I x.epoch]
structure Ue where
  mat:Int
  epoch:Int
  deriving DecidableEq
def Ue.c(x:Ue):List Go.Sw.A:=[I x.mat,I x.epoch]
structure Uf where
  last:Int
  when:Ud
  row:Int
  deriving DecidableEq
def Uf.c(x:Uf):List Go.Sw.A:=[I x.last,I x.when.segment,I x.when.span.Lo,I x.when.span.Hi,I x.row]
abbrev z_match_state:Uf:={last:=0,when:={segment:=0,span:={Lo:=0,Hi:=0:Span}:Ud},row:=0}
abbrev Up:Faults:={Misses:=0,Strays:=0,Window:=0,Residual:=0,Drift:=0}
abbrev Un:Course:={Name:=[],Mats:=[],Legs:=[],Distances:=[],Waves:=[],Offences:=[],Categories:=[],Prizes:=[],Ties:=[],Faults:=Up,Fee:=0,Deadline:=0}
abbrev Uu:Starter:={Bib:=0,Distance:=0,Wave:=0,Slot:=0,Age:=0,Chip:=0,Team:=0,Lot:=0}
abbrev Uq:Hand:={Bib:=0,Position:=0,Lo:=0,Hi:=0}
structure stopwatchref19_input where
  c:Course
  k:Clocks
  hits:List Hit
  hands:List Hand
  route:List Int
  between:List (List Span)
def stopwatchref19_input.cells(x:stopwatchref19_input):List Go.Sw.A:=[.str x.c.Name,.rsl 2 (map Mat.c x.c.Mats),.rsl 4 (map Leg.c x.c.Legs),.rsl 5 (map Distance.c x.c.Distances),.rsl 2 (map Wave.c x.c.Waves),.rsl 4 (map Offence.c x.c.Offences),.rsl 3 (map Category.c x.c.Categories),.rsl 4 (map Prize.c x.c.Prizes),.rsl 8 (map Step.enc x.c.Ties),I x.c.Faults.Misses,I x.c.Faults.Strays,I x.c.Faults.Window,I x.c.Faults.Residual,I x.c.Faults.Drift,I x.c.Fee,I x.c.Deadline,.rsl 3 (map Segment.c x.k.Segments),.rsl 1 (map (QN 1 (Qe .i64)) x.k.Far),.rsl 5 (map Hit.c x.hits),.rsl 4 (map Hand.c x.hands),.rsl 1 (map (Qe .i64) x.route),.rsl 1 (map (QN 2 Span.c) x.between)]
abbrev z_stopwatchref19_input:stopwatchref19_input:={c:=Un,k:={Segments:=[],Far:=[]:Clocks},hits:=[],hands:=[],route:=[],between:=[]}
theorem el_29:Q7 prog 29 104 8:=⟨runUnderlying29,sizeOf104,⟨_,zeroValue104,rfl⟩,⟨_,typeInfo104,by decide⟩⟩
theorem el_25:Q7 prog 25 106 2:=⟨runUnderlying25,sizeOf106,⟨_,zeroValue106,rfl⟩,⟨_,typeInfo106,by decide⟩⟩
theorem el_22:Q7 prog 22 108 2:=⟨runUnderlying22,sizeOf108,⟨_,zeroValue108,rfl⟩,⟨_,typeInfo108,by decide⟩⟩
theorem el_23:Q7 prog 23 110 4:=⟨EV,E3,⟨_,Gq,rfl⟩,⟨_,typeInfo110,by decide⟩⟩
theorem QnH:Q7 prog 111 113 3:=⟨runUnderlying111,sizeOf113,⟨_,zeroValue113,rfl⟩,⟨_,typeInfo113,by decide⟩⟩
theorem el_24:Q7 prog 24 116 5:=⟨E0,E4,⟨_,zeroValue116,rfl⟩,⟨_,typeInfo116,by decide⟩⟩
theorem QE:Q7 prog 44 3 1:=⟨EB,EC,⟨_,EN,rfl⟩,⟨_,typeInfo3,by decide⟩⟩
theorem el_35:Q7 prog 35 44 1:=⟨EF,EI,⟨_,zeroValue44,rfl⟩,⟨_,typeInfo44,by decide⟩⟩
theorem Qm1:Q7 prog 40 65 5:=⟨EJ,EW,⟨_,zeroValue65,rfl⟩,⟨_,typeInfo65,by decide⟩⟩
theorem Qlp:Q7 prog 316 5 1:=⟨runUnderlying316,EU,⟨_,zeroValue5,rfl⟩,⟨_,typeInfo5,by decide⟩⟩
theorem Qcd:Ju prog 9 A.str:=Ju.str EZ
theorem QkQ:prog.underlying 188=some (.struct (prog.fieldsOf 188)):=by kernel_rfl
theorem Qnq:prog.stoodInHeld 188=false:=by kernel_rfl
theorem QdY:Ju prog 188 (λx=>A.agg (Ui.c x)):=by
  refine Ju.struct QkQ Zf (λx y h=>?_) (λw em x=>?_) (λw x y=>?_) (λx=>?_)
  · cases x;cases y
    simpa[QP,YL,Ui.c]using h
  · simp only[QP,YL,Ui.c]
    rw[show(10000:Nat)=9998+1+1 from rfl];generalize(9998:Nat)=d;simp[Instr.checkKey,runUnderlying188,EX,Result.andThen,EC,EQ,part]
  · have u3:=E5
    have a3:=EQ;have z3:=EC;simp only[QP,YL,Ui.c,Op.equal,Op.maxDepth];rw[show(10000:Nat)=9999+1 from Z,run_equalIn_agg w 9999 188 _ _ QkQ Qnq];simp only[Program.fieldsOf,underlying188]
    go_simp
    cases x;cases y;simp
    repeat' split
    all_goals simp_all
  · simp[QP,YL,Ui.c,Instr.sameBits]
theorem QkP:prog.underlying 265=some (.struct (prog.fieldsOf 265)):=by kernel_rfl
theorem Qnp:prog.stoodInHeld 265=false:=by kernel_rfl
theorem Qmh:Ju prog 265 (λx=>A.agg (Uk.c x)):=by
  refine Ju.struct QkP Zf (λx y h=>?_) (λw em x=>?_) (λw x y=>?_) (λx=>?_)
  · cases x;cases y
    simpa[QP,YL,Uk.c]using h
  · simp only[QP,YL,Uk.c]
    rw[show(10000:Nat)=9998+1+1 from rfl];generalize(9998:Nat)=d;simp[Instr.checkKey,runUnderlying265,EX,Result.andThen,EC,EQ,part]
  · have u3:=E5
    have a3:=EQ;have z3:=EC;simp only[QP,YL,Uk.c,Op.equal,Op.maxDepth];rw[show(10000:Nat)=9999+1 from Z,run_equalIn_agg w 9999 265 _ _ QkP Qnp];simp only[Program.fieldsOf,underlying265]
    go_simp
    cases x;cases y;simp
    repeat' split
    all_goals simp_all
  · simp[QP,YL,Uk.c,Instr.sameBits]
theorem Qcs:Q7 prog 268 293 1:=⟨EY,sizeOf293,⟨_,zeroValue293,rfl⟩,⟨_,typeInfo293,by decide⟩⟩
theorem YR:Ju prog 3 (λx=>A.int .i64 x):=Ju.int E5
theorem Qnn:Qdn prog 121 [(0,16),(16,2),(18,1),(19,1),(20,1),(21,1),(22,1),(23,1),(24,1)]:=⟨_,runUnderlying121,(Eg sizeOf33 (Eg sizeOf37 (Eg EI (Eg sizeOf94 (Eg sizeOf40 (Eg sizeOf117 (Eg sizeOf118 (Eg sizeOf119 (Eg EC PL.nil)))))))))⟩
theorem QkR:prog.underlying 168=some (.struct (prog.fieldsOf 168)):=by kernel_rfl
theorem Qnr:prog.stoodInHeld 168=false:=by kernel_rfl
theorem Qmi:Ju prog 168 (λx=>A.agg (Ub.c x)):=by
  refine Ju.struct QkR Zf (λx y h=>?_) (λw em x=>?_) (λw x y=>?_) (λx=>?_)
  · cases x;cases y
    simpa[QP,YL,Ub.c]using h
  · simp only[QP,YL,Ub.c]
    rw[show(10000:Nat)=9998+1+1 from rfl];generalize(9998:Nat)=d;simp[Instr.checkKey,runUnderlying168,EX,Result.andThen,EC,EQ,part]
  · have u3:=E5
    have a3:=EQ;have z3:=EC;simp only[QP,YL,Ub.c,Op.equal,Op.maxDepth];rw[show(10000:Nat)=9999+1 from Z,run_equalIn_agg w 9999 168 _ _ QkR Qnr];simp only[Program.fieldsOf,underlying168]
    go_simp
    cases x;cases y;simp
    repeat' split
    all_goals simp_all
  · simp[QP,YL,Ub.c,Instr.sameBits]
inductive U_course_build where
  |c0 (x:Int)
  |c1 (x:Unit)
  |c2 (x:List Int)
  |c3 (x:(List Int)×(List (Ub×Leg)))
theorem Qno:prog.stoodInHeld 157=false:=by kernel_rfl
theorem ei_3(h:Nat):QhA prog 3 (h+1) 1 false (λl=>∃x:Int,l=[Value.int .i64 x]):=QhA.int E5 EQ EC h
theorem QmE:EqD prog 157 Ue.c:=by
  refine Qi5 (Qc4 underlying157 Qno isAgg157 sizeOf157 (Qim.c ei_3 (Qim.c ei_3 (Qim.nil 1 _)))) Z (λx=>⟨[_],_,Z,⟨_,Z⟩,[_],_,Z,⟨_,Z⟩,Z⟩) Zf (λx y h=>?_) (by kernel_rfl);obtain⟨_,_⟩:=x;obtain⟨_,_⟩:=y;simpa[QP,YL,Ue.c,and_assoc]using h
theorem QdZ:Qai prog 55 0 0 1:=FA EO rfl EC
theorem QiI:Qai prog 55 1 1 1:=FA EO rfl EC
theorem Qlq:Q7 prog 117 88 3:=⟨Ga,Gg,⟨_,E6,rfl⟩,⟨_,typeInfo88,by decide⟩⟩
theorem Qhm:Q7 prog 94 55 2:=⟨EP,ED,⟨_,E7,rfl⟩,⟨_,typeInfo55,by decide⟩⟩
inductive U_match_prepare where
  |c0 (x:Int)
  |c1 (x:(List Int)×(List Span)×(List Ud)×(List (Int×Ud))×Int)
theorem QnG:Q7 prog 125 4 1:=⟨Gb,Gp,⟨_,ES,rfl⟩,⟨_,typeInfo4,by decide⟩⟩
theorem QiS:Q7 prog 72 46 2:=⟨Ge,Gh,⟨_,zeroValue46,rfl⟩,⟨_,typeInfo46,by decide⟩⟩
def match_task.tc(x0:Course)(x1:Clocks)(x2:List Int)(x3:List Span)(x4:List Hit)(x5:List Ud)(x6:A)(x7:A)(x8:Int):List Go.Sw.A:=[.str x0.Name,.rsl 2 (map Mat.c x0.Mats),.rsl 4 (map Leg.c x0.Legs),.rsl 5 (map Distance.c x0.Distances),.rsl 2 (map Wave.c x0.Waves),.rsl 4 (map Offence.c x0.Offences),.rsl 3 (map Category.c x0.Categories),.rsl 4 (map Prize.c x0.Prizes),.rsl 8 (map Step.enc x0.Ties),I x0.Faults.Misses,I x0.Faults.Strays,I x0.Faults.Window,I x0.Faults.Residual,I x0.Faults.Drift,I x0.Fee,I x0.Deadline,.rsl 3 (map Segment.c x1.Segments),.rsl 1 (map (QN 1 (Qe .i64)) x1.Far),.rsl 1 (map (Qe .i64) x2),.rsl 2 (map Span.c x3),.rsl 5 (map Hit.c x4),.rsl 3 (map Ud.c x5),x6,x7,I x8]
theorem el_41:Q7 prog 41 63 4:=⟨runUnderlying41,sizeOf63,⟨_,zeroValue63,rfl⟩,⟨_,typeInfo63,by decide⟩⟩
theorem nt_55:prog.stoodInHeld 55=false:=by kernel_rfl
theorem Qlo:EqD prog 55 Span.c:=by
  refine Qi5 (Qc4 underlying55 nt_55 EG ED (Qim.c ei_3 (Qim.c ei_3 (Qim.nil 1 _)))) Z (λx=>⟨[_],_,Z,⟨_,Z⟩,[_],_,Z,⟨_,Z⟩,Z⟩) Zf (λx y h=>?_) (by kernel_rfl);obtain⟨_,_⟩:=x;obtain⟨_,_⟩:=y;simpa[QP,YL,Span.c,and_assoc]using h
theorem Jj:Q7 prog 218 9 1:=⟨EM,sizeOf9,⟨_,zeroValue9,rfl⟩,⟨_,typeInfo9,by decide⟩⟩
theorem pl_80:Qdn prog 80 [(0,16),(16,2),(18,1),(19,1),(20,1),(21,1)]:=⟨_,runUnderlying80,(Eg sizeOf33 (Eg sizeOf37 (Eg sizeOf40 (Eg sizeOf41 (Eg EI (Eg sizeOf78 PL.nil))))))⟩
theorem Qm0:Q7 prog 78 94 1:=⟨Gk,sizeOf94,⟨_,zeroValue94,rfl⟩,⟨_,typeInfo94,by decide⟩⟩
theorem Q6{n:Nat}:RB prog n 3 Int (λx=>[A.int .i64 x]) (Qz .i64):=RB.int E5
def tyT:TyI:={fld:=[(113,2,2),(33,1,1),(33,2,2),(33,3,3),(33,4,4),(33,5,5),(33,6,6),(33,7,7),(116,1,1),(116,3,3),(108,0,0),(116,0,0),(106,0,0),(220,0,0),(222,0,0),(33,0,0),(108,1,1),(110,0,0),(110,1,1),(110,2,2),(110,3,3),(113,1,1),(113,0,0),(230,0,0),(230,1,1),(230,2,2),(116,2,2),(116,4,4),(106,1,1),(220,3,3),(220,1,1),(220,2,2),(222,1,1),(222,2,2),(227,0,0),(227,1,1),(227,2,2),(227,3,3),(33,9,9),(31,0,0),(31,1,1),(31,2,2),(31,3,3),(31,4,4),(33,10,14),(33,11,15),(310,0,0),(102,0,0),(102,1,1),(102,2,2),(102,3,3),(296,0,0),(104,3,6),(104,4,7),(289,0,0),(104,2,2),(289,1,1),(104,0,0),(104,1,1),(33,8,8),(271,0,0),(271,1,1),(155,0,0),(155,1,1),(37,0,0),(37,1,1),(155,2,2),(63,2,2),(63,3,3),(63,1,1),(97,0,0),(97,1,1),(196,0,0),(196,1,1),(196,2,2),(65,0,0),(65,1,1),(65,2,2),(65,3,3),(65,4,4),(55,0,0),(55,1,1),(121,2,18),(39,1,1),(39,2,2),(121,5,21),(121,6,22),(121,8,24),(121,7,23),(121,3,19),(121,4,20),(88,0,0),(88,1,1),(121,1,16),(128,2,4),(121,0,0),(128,0,0),(128,1,1),(46,0,0),(46,1,1),(43,0,0),(43,1,16),(43,2,18),(43,3,26),(43,4,27),(43,5,28),(80,4,20),(80,5,21),(80,2,18),(80,3,19),(80,0,0),(80,1,16)],agg:=[(33,true,16),(113,true,3),(111,false,1),(22,false,1),(23,false,1),(24,false,1),(25,false,1),(26,false,1),(27,false,1),(28,false,1),(116,true,5),(114,false,1),(5,false,1),(9,false,1),(108,true,2),(106,true,2),(220,true,4),(222,true,3),(3,false,1),(253,false,1),(161,false,1),(110,true,4),(188,true,2),(245,false,1),(248,false,1),(230,true,3),(191,false,1),(258,false,1),(4,false,1),(250,false,1),(261,false,1),(251,false,1),(227,true,4),(265,true,3),(31,true,5),(104,true,8),(100,false,1),(29,false,1),(102,true,4),(296,true,8),(310,true,4),(293,false,1),(122,false,1),(186,false,1),(34,false,1),(35,false,1),(155,true,3),(44,false,1),(63,true,4),(198,false,1),(97,true,2),(95,false,1),(65,true,5),(55,true,2),(84,false,1),(37,true,2),(117,false,1),(118,false,1),(119,false,1),(94,false,1),(128,true,5),(88,true,3),(40,false,1),(72,false,1),(123,false,1),(126,false,1),(125,false,1),(39,true,8),(46,true,2),(41,false,1),(80,true,22),(78,false,1),(43,true,29)],zer:=[(104,[I 0,I 0,I 0,I 0,I 0,.rsl 4 (map Cond.enc []),.rsl 8 (map Step.enc []),.rsl 8 (map Step.enc [])],[(0,1),(1,1),(2,4),(6,1),(7,1)]),(31,[I 0,I 0,I 0,I 0,I 0],[(0,1),(1,1),(2,1),(3,1),(4,1)]),(106,[.str [],I 0],[(0,1),(1,1)]),(108,[.str [],I 0],[(0,1),(1,1)]),(110,[I 0,I 0,I 0,I 0],[(0,1),(1,1),(2,1),(3,1)]),(113,[I 0,I 0,.rsl 3 (map Part.enc [])],[(0,1),(1,1),(2,1)]),(116,[.str [],.rsl 3 (map Part.enc []),I 0,.rsl 3 (map Cutoff.c []),I 0],[(0,1),(1,1),(2,1),(3,1),(4,1)]),(33,[.str [],.rsl 2 (map Mat.c []),.rsl 4 (map Leg.c []),.rsl 5 (map Distance.c []),.rsl 2 (map Wave.c []),.rsl 4 (map Offence.c []),.rsl 3 (map Category.c []),.rsl 4 (map Prize.c []),.rsl 8 (map Step.enc []),I 0,I 0,I 0,I 0,I 0,I 0,I 0],[(0,1),(1,1),(2,1),(3,1),(4,1),(5,1),(6,1),(7,1),(8,1),(9,5),(14,1),(15,1)]),(188,[I 0,I 0],[(0,1),(1,1)]),(265,[I 0,I 0,I 0],[(0,1),(1,1),(2,1)]),(296,[I 0,I 0,I 0,I 0,I 0,.rsl 4 (map Cond.enc []),.rsl 8 (map Step.enc []),.rsl 8 (map Step.enc [])],[(0,8)]),(310,[I 0,I 0,I 0,.rsl 4 (map Cond.enc [])],[(0,4)]),(289,[I 0,I 0],[(0,1),(1,1)]),(271,[I 0,I 0],[(0,1),(1,1)]),(168,[I 0,I 0],[(0,1),(1,1)]),(196,[I 0,I 0,I 0],[(0,1),(1,1),(2,1)]),(157,[I 0,I 0],[(0,1),(1,1)]),(55,[I 0,I 0],[(0,1),(1,1)]),(155,[I 0,I 0,I 0],[(0,1),(1,1),(2,1)]),(88,[I 0,I 0,I 0],[(0,1),(1,2)]),(128,[I 0,I 0,I 0,I 0,I 0],[(0,1),(1,3),(4,1)]),(46,[.rsl 1 (map (Qe .i64) []),I 0],[(0,1),(1,1)]),(37,[.rsl 3 (map Segment.c []),.rsl 1 (map (QN 1 (Qe .i64)) [])],[(0,1),(1,1)]),(65,[I 0,I 0,I 0,I 0,I 0],[(0,1),(1,1),(2,1),(3,1),(4,1)]),(39,[I 0,I 0,I 0,I 0,I 0,I 0,I 0,I 0],[(0,1),(1,1),(2,1),(3,1),(4,1),(5,1),(6,1),(7,1)]),(63,[I 0,I 0,I 0,I 0],[(0,1),(1,1),(2,1),(3,1)])]}
def tyF:List (Nat×List (Nat×Nat)):=[(31,[(0,1),(1,1),(2,1),(3,1),(4,1)]),(33,[(0,1),(1,1),(2,1),(3,1),(4,1),(5,1),(6,1),(7,1),(8,1),(9,5),(14,1),(15,1)]),(37,[(0,1),(1,1)]),(39,[(0,1),(1,1),(2,1),(3,1),(4,1),(5,1),(6,1),(7,1)]),(43,[(0,16),(16,2),(18,8),(26,1),(27,1),(28,1)]),(46,[(0,1),(1,1)]),(55,[(0,1),(1,1)]),(63,[(0,1),(1,1),(2,1),(3,1)]),(65,[(0,1),(1,1),(2,1),(3,1),(4,1)]),(80,[(0,16),(16,2),(18,1),(19,1),(20,1),(21,1)]),(88,[(0,1),(1,2)]),(97,[(0,1),(1,1)]),(102,[(0,1),(1,1),(2,1),(3,1)]),(104,[(0,1),(1,1),(2,4),(6,1),(7,1)]),(106,[(0,1),(1,1)]),(108,[(0,1),(1,1)]),(110,[(0,1),(1,1),(2,1),(3,1)]),(113,[(0,1),(1,1),(2,1)]),(116,[(0,1),(1,1),(2,1),(3,1),(4,1)]),(121,[(0,16),(16,2),(18,1),(19,1),(20,1),(21,1),(22,1),(23,1),(24,1)]),(128,[(0,1),(1,3),(4,1)]),(155,[(0,1),(1,1),(2,1)]),(157,[(0,1),(1,1)]),(168,[(0,1),(1,1)]),(188,[(0,1),(1,1)]),(196,[(0,1),(1,1),(2,1)]),(220,[(0,1),(1,1),(2,1),(3,1)]),(222,[(0,1),(1,1),(2,1)]),(227,[(0,1),(1,1),(2,1),(3,1)]),(230,[(0,1),(1,1),(2,1)]),(265,[(0,1),(1,1),(2,1)]),(271,[(0,1),(1,1)]),(289,[(0,1),(1,1)]),(296,[(0,8)]),(310,[(0,4)])]
def tyX:TyX:={ty:=tyT,al:=[(33,(.agg [.str [],.rsl 2 (map Mat.c []),.rsl 4 (map Leg.c []),.rsl 5 (map Distance.c []),.rsl 2 (map Wave.c []),.rsl 4 (map Offence.c []),.rsl 3 (map Category.c []),.rsl 4 (map Prize.c []),.rsl 8 (map Step.enc []),I 0,I 0,I 0,I 0,I 0,I 0,I 0])),(113,(.agg [I 0,I 0,.rsl 3 (map Part.enc [])])),(116,(.agg [.str [],.rsl 3 (map Part.enc []),I 0,.rsl 3 (map Cutoff.c []),I 0])),(108,(.agg [.str [],I 0])),(106,(.agg [.str [],I 0])),(220,(.agg [.str [],I 0,I 0,.bool false])),(222,(.agg [.str [],I 0,I 0])),(188,(.agg [I 0,I 0])),(110,(.agg [I 0,I 0,I 0,I 0])),(265,(.agg [I 0,I 0,I 0])),(227,(.agg [I 0,I 0,I 0,I 0])),(3,(I 0)),(245,.nilf),(248,.nilf),(31,(.agg [I 0,I 0,I 0,I 0,I 0])),(104,(.agg [I 0,I 0,I 0,I 0,I 0,.rsl 4 (map Cond.enc []),.rsl 8 (map Step.enc []),.rsl 8 (map Step.enc [])])),(102,(.agg [I 0,I 0,I 0,.rsl 4 (map Cond.enc [])])),(296,(.agg [I 0,I 0,I 0,I 0,I 0,.rsl 4 (map Cond.enc []),.rsl 8 (map Step.enc []),.rsl 8 (map Step.enc [])])),(310,(.agg [I 0,I 0,I 0,.rsl 4 (map Cond.enc [])])),(122,.nilm),(186,.nilm),(155,(.agg [I 0,I 0,I 0])),(44,.nils),(198,.nilf),(97,(.agg [.rsl 1 (map (Qe .i64) []),.nilm])),(65,(.agg [I 0,I 0,I 0,I 0,I 0])),(55,(.agg [I 0,I 0])),(84,.nilp),(63,(.agg [I 0,I 0,I 0,I 0])),(128,(.agg [I 0,I 0,I 0,I 0,I 0])),(88,(.agg [I 0,I 0,I 0])),(72,.nils),(123,.nilf),(125,.nils),(126,.nilf),(37,(.agg [.rsl 3 (map Segment.c []),.rsl 1 (map (QN 1 (Qe .i64)) [])])),(230,(.agg [I 0,I 0,I 0])),(80,(.agg [.str [],.rsl 2 (map Mat.c []),.rsl 4 (map Leg.c []),.rsl 5 (map Distance.c []),.rsl 2 (map Wave.c []),.rsl 4 (map Offence.c []),.rsl 3 (map Category.c []),.rsl 4 (map Prize.c []),.rsl 8 (map Step.enc []),I 0,I 0,I 0,I 0,I 0,I 0,I 0,.rsl 3 (map Segment.c []),.rsl 1 (map (QN 1 (Qe .i64)) []),.rsl 5 (map Hit.c []),.rsl 4 (map Hand.c []),.rsl 1 (map (Qe .i64) []),.rsl 1 (map (QN 2 Span.c) [])]))],sl:=[316,268,44,72]}
def tyZ:TyZ:={sl:=[(111,113,3),(22,108,2),(23,110,4),(24,116,5),(25,106,2),(26,220,4),(27,222,3),(28,227,4),(114,230,3),(316,5,1),(44,3,1),(29,104,8),(100,102,4),(268,293,1),(34,155,3),(35,44,1),(41,63,4),(40,65,5),(117,88,3),(72,46,2),(218,9,1),(78,94,1),(94,55,2)],fn:=[153,233,208,156,154,158,160,162,164,155,157,159,161,163,209,194,116,166,175,215,237,214,171,217,75,216,178,167,165,211,235,210,168,213,236,212,170,169,190,229,189,180,219,238,218,172,221,239,220,183,223,240,222,173,225,241,224,186,174,176,177,111,179,181,182,184,185,188,250,242,226,247,227,248,244,243,187,191,192,113,112,107,108,109,110,139,85,195,193,117,114,115,66,65,118,63,124,128,81,78,79,119,120,70,196,121,122,76,64,67,68,69,71,74,31,72,82,40,41,38,45,37,62,27,13,42,30,32,86,46,19,87,88,204,140,203,89,205,141,142,143,144,206,145,232,207,146,147,148,149,93,94,95,96,97,50,91,90,92,47,48,49,23,98,99,150,100,101,102,103,51,52,53,54,55,104,56,28,152,105,106,61,123,59,77,57,14,33,58,24,26,12,25,9,10,15,16]}
theorem QmX:kL prog tyF tyX tyZ=kR prog tyF tyX tyZ:=by kernel_rfl
theorem Qds:QbV prog tyX:=.ofK QmX (by kernel_rfl)
theorem Qd7:Qch prog tyZ:=.ofK QmX (QnK (by kernel_rfl))
section
variable {h0 N m n d id t et k f:Nat} {all:Array Oper} {o:Oper} {l r r' ll:List Oper} {ds:List Nat} {env env' env0:Env} {H H' H1 X:Qd} {Q:QG} {α:Type} {e:α->List A} {L:List α} {kk:IntKind} {i:Int} {v:α} {K:List Oper->Env->Qd->Prop} {xs xs':List A} {args argsc:List A} {Hc:Qd} {Hs Hs':List Qd} {bs:List Nat} {cat:Kat} {k':List Kf} {c':Cf} {hB hE:Nat} {x:A}
theorem G0{c:Code}(n:Nat)(h:QcC tyX h0 N n (.code c) [] env H=some (c',k',env',H'))(g:Hd prog h0 N c' k' env' H' Q):TC prog h0 N c env H Q:=QcB Qds n h g
theorem Gc{k:List Kf}{c:Code}(n:Nat)(h:QcC tyX h0 N n (.code c) k env H=some (c',k',env',H'))(g:Hd prog h0 N c' k' env' H' Q):TC prog h0 N c env H (kq prog h0 N k Q):=QcB Qds n h g
theorem Go{k:List Kf}(n:Nat)(h:QcC tyX h0 N n (.ops all l) k env H=some (c',k',env',H'))(g:Hd prog h0 N c' k' env' H' Q):WO prog h0 N all l env H (kq prog h0 N k Q):=QcB Qds n h g
theorem Gx{k:List Kf}{x:AEx}(n:Nat)(h:QcC tyX h0 N n (.out x) k env H=some (c',k',env',H'))(g:Hd prog h0 N c' k' env' H' Q):kq prog h0 N k Q x env H:=QcB Qds n h g
theorem Cg{β:Type}{E':β->Env}{Hb:β->Qd}{k:List Kf}{c c2:Code}(b:β)(sel keep:List Nat)(nE:β->Env)(nH:β->List (Nat×Blk))(hc:∀b,QjI sel keep (nE b) (nH b) env H=some (E' b,Hb b))(h:TC prog h0 N c env H (Qin h0 b E' Hb (kq prog h0 N (.seq c2::k) Q)))(g:TC prog h0 N c2 (E' b) (Hb b) (kq prog h0 N k Q)):TC prog h0 N c env H (kq prog h0 N (.seq c2::k) Q):=Ct b sel keep nE nH hc h λ_ _ e=>Gx 1 rfl (Ef e g)
theorem Jn{S B:Type}{b:Ctl S B}{E':S->Env}{Hb:S->Qd}{k:List Kf}{c c2:Code}(sel keep:List Nat)(nE:S->Env)(nH:S->List (Nat×Blk))(hc:∀s,QjI sel keep (nE s) (nH s) env H=some (E' s,Hb s))(h:TC prog h0 N c env H (QfP h0 b E' Hb (kq prog h0 N (.seq c2::k) Q)))(g:∀s,b=.cont s->TC prog h0 N c2 (E' s) (Hb s) (kq prog h0 N k Q)):TC prog h0 N c env H (kq prog h0 N (.seq c2::k) Q):=CtE sel keep nE nH hc h λs _ _ q e=>Gx 1 rfl (Ef e (g s q))
theorem YC{S B S':Type}{b x:Ctl S B}{d:Ctl S' (Ctl S B)}{E':S->Env}{Hb:S->Qd}{s:S}(hb:∀b',d=.done b'->b'=b)(h:some (Ctl.done x)=some d)(e:x=.cont s)(hl:Le h0 env H (E' s) (Hb s)):QfP h0 b E' Hb Q .normal env H:=Yp ((Oj hb h).symm.trans e) hl
theorem cQo{β S':Type}{b x:β}{d:Ctl S' β}{E':β->Env}{Hb:β->Qd}(hb:∀b',d=.done b'->b'=b)(h:some (Ctl.done x)=some d)(hl:Le h0 env H (E' x) (Hb x)):Qin h0 b E' Hb Q .normal env H:=by
  cases Oj hb h;exact hl
theorem Gl{β:Type}{e b:β}{E':β->Env}{Hb:β->Qd}{k:List Kf}(n:Nat)(hm:QcC tyX h0 N n (.ops all l) k env H=some (.out .normal,[],env',H'))(h:some e=some b)(π:List Nat)(hpre:π.take h0=List.range h0:=by exact rfl)(hH:π.map (λp=>H'[p]?)=((Hb e).map (QZ (rho π H'.length))).map some:=by exact rfl)(hπ:π.Nodup:=by decide)(hE:QbY (rho π H'.length) env' (E' e):=by(repeat' (first|exact trivial|refine⟨rfl,?_⟩))):WO prog h0 N all l env H (kq prog h0 N k (Qin h0 b E' Hb Q)):=Go n hm (Cl h π hpre hH hπ hE)
theorem Gt{β:Type}{e r:β}{w:β->A}{Hb:β->Qd}{fn:Func}{k:List Kf}(n:Nat)(hm:QcC tyX h0 N n (.ops all l) k env H=some (.out .ret,[],env',H'))(h:some e=some r)(a:Nat)(π:List Nat)(hr:fn.results= #[.tmp a]:=by exact rfl)(hpre:π.take h0=List.range h0:=by exact rfl)(hH:π.map (λp=>H'[p]?)=((Hb e).map (QZ (rho π H'.length))).map some:=by exact rfl)(hπ:π.Nodup:=by decide)(hE:QbY (rho π H'.length) env' [(a,w e)]:=by exact⟨rfl,trivial⟩):WO prog h0 N all l env H (kq prog h0 N k (Jf prog h0 fn (RQ w Hb r))):=Go n hm (Rt h a π hr hpre hH hπ hE)
theorem YJ{β:Type}{e b:β}{E':β->Env}{Hb:β->Qd}{k:List Kf}{c:Code}(n:Nat)(hm:QcC tyX h0 N n (.code c) k env H=some (.out .normal,[],env',H'))(h:some e=some b)(π:List Nat)(hpre:π.take h0=List.range h0:=by exact rfl)(hH:π.map (λp=>H'[p]?)=((Hb e).map (QZ (rho π H'.length))).map some:=by exact rfl)(hπ:π.Nodup:=by decide)(hE:QbY (rho π H'.length) env' (E' e):=by(repeat' (first|exact trivial|refine⟨rfl,?_⟩))):TC prog h0 N c env H (kq prog h0 N k (Qin h0 b E' Hb Q)):=Gc n hm (Cl h π hpre hH hπ hE)
theorem QC{β:Type}{e r:β}{w:β->A}{Hb:β->Qd}{fn:Func}{k:List Kf}{c:Code}(n:Nat)(hm:QcC tyX h0 N n (.code c) k env H=some (.out .ret,[],env',H'))(h:some e=some r)(a:Nat)(π:List Nat)(hr:fn.results= #[.tmp a]:=by exact rfl)(hpre:π.take h0=List.range h0:=by exact rfl)(hH:π.map (λp=>H'[p]?)=((Hb e).map (QZ (rho π H'.length))).map some:=by exact rfl)(hπ:π.Nodup:=by decide)(hE:QbY (rho π H'.length) env' [(a,w e)]:=by exact⟨rfl,trivial⟩):TC prog h0 N c env H (kq prog h0 N k (Jf prog h0 fn (RQ w Hb r))):=Gc n hm (Rt h a π hr hpre hH hπ hE)
theorem Fg{k:List Kf}{e1:Env}(n:Nat)(h:foS env H=some (e1,H1))(hm:QcC tyX h0 N n (.ops all l) k e1 H1=some (c',k',env',H'))(g:Hd prog h0 N c' k' env' H' Q):WO prog h0 N all l env H (kq prog h0 N k Q):=FE h (Go n hm g)
@[reducible] def Ks{β:Type}(F:Option β)(f:FuncId)(args:List A)(H:Qd)(w:β->A):Prop:=Kp prog F f args H w λ_=>H
@[reducible] def Kq{β:Type}(F:Option β)(f:FuncId)(args:List A)(H:Qd)(w:β->A)(H1:β->Qd):Prop:=Kp prog F f args H w H1
theorem Kg{β:Type}{F:Option β}{f:FuncId}{fn:Func}{c:Code}{w:β->A}{H1:β->Qd}(n:Nat)(hf:prog.funcs[f]?=some fn)(hb:fn.body=some c)(hN:fn.ntmps=N)(hA:Nat.ble args.length N=true)(h:QcC tyX H.length N n (.code c) [] (Qcg 0 args) H=some (c',k',env',H'))(g:∀r,F=some r->Hd prog H.length N c' k' env' H' (Jf prog H.length fn (RQ w H1 r))):Kp prog F f args H w H1:=Kp.b hf hb hN hA λr e=>G0 n h (g r e)
theorem D(n:Nat)(h:QgG tyX N m l ds env H n xs.length r xs=some (r',xs'))(k:DS prog N m l ds env H K r' xs'):DS prog N m l ds env H K r xs:=Qeh Qds n _ rfl h k
theorem Iz(h:idx L i=some v)(q:ixB o env=some (d,t,k,L.map e,kk,i))(g:WO prog h0 N all l (up env d (.rp (e v))) H Q)(ht:QbC tyZ.sl t=some (et,k):=by exact rfl)(hg:YQ all o env=some true:=by exact rfl)(hN:Nat.blt d N=true:=by exact rfl):WO prog h0 N all (o::l) env H Q:=Izz Qd7 h q g ht hg hN
theorem IzE{cs:List A}(h:idx L i=some v)(he:e v=cs)(q:ixB o env=some (d,t,k,L.map e,kk,i))(g:WO prog h0 N all l (up env d (.rp cs)) H Q)(ht:QbC tyZ.sl t=some (et,k):=by exact rfl)(hg:YQ all o env=some true:=by exact rfl)(hN:Nat.blt d N=true:=by exact rfl):WO prog h0 N all (o::l) env H Q:=Ize Qd7 h he q g ht hg hN
theorem Lm{k':Nat}(q:lnB o env=some (d,t,.mk (.rsl k (L.map e))))(g:WO prog h0 N all l (up env d (I L.length)) H Q)(ht:QbC tyZ.sl t=some (et,k'):=by exact rfl)(hg:YQ all o env=some true:=by exact rfl)(hN:Nat.blt d N=true:=by exact rfl):WO prog h0 N all (o::l) env H Q:=Lmz Qd7 q g ht hg hN
theorem Lg{k:List Kf}{i k1:Nat}(n:Nat)(q:lnB o env=some (d,t,.mk (.rsl i (L.map e))))(hm:QcC tyX h0 N n (.ops all l) k (up env d (I L.length)) H=some (c',k',env',H'))(g:Hd prog h0 N c' k' env' H' Q)(ht:QbC tyZ.sl t=some (et,k1):=by exact rfl)(hg:YQ all o env=some true:=by exact rfl)(hN:Nat.blt d N=true:=by exact rfl):WO prog h0 N all (o::l) env H (kq prog h0 N k Q):=Lm q (Go n hm g) ht hg hN
theorem Cz{β γ:Type}{F:Option β}{F':β->Option γ}{r:γ}{w:β->A}(π:List Nat)(h:F.bind F'=some r)(hC:∀v,F=some v->C prog f argsc Hc (RQ w (λ_=>Hc) v))(hop:Qfe tyZ o env=some (d,f,args))(g:∀v,F=some v->F' v=some r->WO prog h0 N all l (up env d (w v)) H Q)(hv:∀v,Qjb (w v)=some (.mk (w v)):=by exact λ_=>rfl)(hargs:args=Qak (rho π H.length) argsc:=by exact rfl)(hH:π.map (λp=>H[p]?)=(Hc.map (QZ (rho π H.length))).map some:=by exact rfl)(hπ:π.Nodup:=by decide)(hg:YQ all o env=some true:=by exact rfl)(hN:Nat.blt d N=true:=by exact rfl)(hh:Nat.ble h0 H.length=true:=by exact rfl):WO prog h0 N all (o::l) env H Q:=Czz Qd7 π h hC hop g hv hargs hH hπ hg hN hh
theorem Cb{β γ:Type}{F:Option β}{F':β->Option γ}{r:γ}{w:β->A}(h:F.bind F'=some r)(hC:∀v,F=some v->C prog f argsc [] (RQ w Ze v))(hop:Qfe tyZ o env=some (d,f,args))(hL:Qbh H args argsc)(g:∀v,F=some v->F' v=some r->WO prog h0 N all l (up env d (w v)) H Q)(hv:∀v,Ya (w v)=true:=by exact λ_=>rfl)(hg:YQ all o env=some true:=by exact rfl)(hN:Nat.blt d N=true:=by exact rfl):WO prog h0 N all (o::l) env H Q:=Cbz Qd7 h hC hop hL g hv hg hN
theorem Dz{β γ:Type}{F:Option β}{F':β->Option γ}{r:γ}{w:β->A}(π:List Nat)(h:F.bind F'=some r)(hC:∀v,F=some v->C prog f argsc Hc (RQ w (λ_=>Hc) v))(hop:Qfe tyZ o (Yf (Qn o) 0 ds xs env)=some (d,f,args))(g:∀v,F=some v->F' v=some r->DS prog N m ll ds env H K l (xs++[w v]))(hv:∀v,Qjb (w v)=some (.mk (w v)):=by exact λ_=>rfl)(hargs:args=Qak (rho π H.length) argsc:=by exact rfl)(hH:π.map (λp=>H[p]?)=(Hc.map (QZ (rho π H.length))).map some:=by exact rfl)(hπ:π.Nodup:=by decide)(hg:YQ ll.toArray o (Yf (Qn o) 0 ds xs env)=some true:=by exact rfl)(hN:Nat.blt d N=true:=by exact rfl)(hx:Nat.blt xs.length m=true:=by exact rfl):DS prog N m ll ds env H K (o::l) xs:=DzZ Qd7 π h hC hop g hv hargs hH hπ hg hN hx
theorem DSs(m:Nat)(hc:Go.Sw.draw0 l m N (Qbb m 0 l)=true)(h:DS prog N m l (Qbb m 0 l) env H (λr e H=>WO prog h0 N l.toArray r e H Q) l [])(h0B:Nat.ble h0 H.length=true:=by exact rfl):TC prog h0 N (.region id l.toArray true) env H Q:=QlY (k:=[]) m draws hc h0B h
theorem Da{cat:List Nat}(n:Nat)(h:QgH tyX N m cat l ds env H n xs.length r xs=some (r',xs'))(k:DA prog N m cat l ds env H K r' xs'):DA prog N m cat l ds env H K r xs:=Qek Qds n _ rfl h k
theorem Db{cat:List Nat}(n:Nat)(h:Qej tyX N cat l ds env H1 n xs.length r xs=some (r',xs'))(k:DB prog N m cat l ds env H H1 K r' xs'):DB prog N m cat l ds env H H1 K r xs:=QbI Qds n _ rfl h k
theorem Dk(k:Nat)(h:Qei tyX N m cat l ds env n k xs.length Hs.length Hs X r xs=some (Hs',r',xs'))(g:DK prog N m bs cat l ds env n K Hs' X r' xs'):DK prog N m bs cat l ds env n K Hs X r xs:=QbH Qds k _ _ rfl rfl h g
theorem DKs(m:Nat)(bs:List Nat)(cat:Kat)(hc:QdF l m N (Qbb m 0 l) (hsK cat) (rqK bs cat) (msK bs) (plK cat)=true)(h:DK prog N m bs cat l (Qbb m 0 l) env H.length (λr e H=>WO prog h0 N l.toArray r e H Q) [] H l [])(hcl:Nat.beq cat.length m=true:=by exact rfl)(h0B:Nat.ble h0 H.length=true:=by exact rfl):TC prog h0 N (.region id l.toArray true) env H Q:=QlZ m bs cat draws hc hcl h0B h
theorem DAs(m b:Nat)(cat:List Nat)(hc:QdF l m N (Qbb m 0 l) (hsC cat) (rqC b cat) [[],[b]] (plC cat)=true)(h:DA prog N m cat l (Qbb m 0 l) env H (λr e H=>WO prog h0 N l.toArray r e H Q) l [])(hcl:Nat.beq cat.length m=true:=by exact rfl)(h0B:Nat.ble h0 H.length=true:=by exact rfl):TC prog h0 N (.region id l.toArray true) env H Q:=Ql0 m b cat draws hc hcl h0B h
theorem Cd{β γ:Type}{F:Option β}{F':β->Option γ}{r:γ}{w:β->A}{Hr:β->Qd}(π:List Nat)(h:F.bind F'=some r)(hC:∀v,F=some v->C prog f argsc Hc (RQ w Hr v))(hop:Qfe tyZ o env=some (d,f,args))(g:∀v,F=some v->F' v=some r->WO prog h0 N all l (up env d (YM (rho π H.length) (w v))) (QX H π ((Hr v).map (QZ (rho π H.length)))) Q)(hargs:args=Qak (rho π H.length) argsc:=by exact rfl)(hH:π.map (λp=>H[p]?)=(Hc.map (QZ (rho π H.length))).map some:=by exact rfl)(hπ:π.Nodup:=by decide)(hg:YQ all o env=some true:=by exact rfl)(hN:Nat.blt d N=true:=by exact rfl)(hh:Nat.ble h0 H.length=true:=by exact rfl):WO prog h0 N all (o::l) env H Q:=Cdz Qd7 π h hC hop g hargs hH hπ hg hN hh
theorem v0{i:Nat}(hx:xs[i]?=some x)(h:Qiv tyT N l ds xs env0 H i=some x):Jm prog N l ds xs env0 hB hE i H H:=vQ Qds.ty hx h
theorem ov{i c:Nat}(k:Oq prog N l ds xs env0 H (i+1) c)(hx:xs[i]?=some x:=by exact rfl)(h:Qiv tyT N l ds xs env0 H i=some x:=by exact rfl):Oq prog N l ds xs env0 H i (c+1):=.c (vQ Qds.ty hx h) k
end
def lay_contains_234_ren:Go.Shelf.Ren:=⟨λ|144=>234|143=>246|219=>249|217=>251|225=>252|224=>253|267=>254|266=>255|314=>256|n=>n,λ|9=>9|4=>4|3=>3|5=>5|46=>67|146=>201|51=>200|n=>n,λ|1=>0|n=>n⟩
theorem Qdg:Go.Proofs.Lays.n144 prog lay_contains_234_ren:=by
  constructor<;>first|kernel_rfl|(intro;kernel_rfl)|exact Qh9 (by kernel_rfl) (by kernel_rfl)
def lay_insertI_80_ren:Go.Shelf.Ren:=⟨λ|21=>80|27=>125|28=>126|35=>197|39=>230|n=>n,λ|22=>44|3=>3|4=>4|0=>0|n=>n,λ|n=>n⟩
theorem Qep:Go.Proofs.Lays2.n21 prog lay_insertI_80_ren:=by
  constructor<;>first|kernel_rfl|(intro;kernel_rfl)|exact Qh9 (by kernel_rfl) (by kernel_rfl)
def lay_sortK_43_ren:Go.Shelf.Ren:=⟨λ|6=>43|15=>84|14=>83|28=>137|29=>138|20=>129|21=>130|22=>131|23=>132|24=>133|25=>134|26=>135|27=>136|46=>198|47=>199|48=>200|49=>201|50=>202|57=>231|n=>n,λ|22=>72|24=>46|25=>135|3=>3|39=>67|0=>0|53=>200|55=>203|4=>4|46=>208|45=>207|50=>212|5=>5|9=>9|66=>275|70=>279|76=>299|77=>216|n=>n,λ|n=>n⟩
theorem Qf2:Go.Proofs.SlLaysF0.n6 prog lay_sortK_43_ren:=by
  constructor<;>first|kernel_rfl|(intro;kernel_rfl)|exact Qh9 (by kernel_rfl) (by kernel_rfl)
end Go.Sw
