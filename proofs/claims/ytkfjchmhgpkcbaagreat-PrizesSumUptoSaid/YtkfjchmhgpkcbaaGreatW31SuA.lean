/- The types of PrizesSum and facts on them. -/
import Derived.Test.YtkfjchmhgpkcbaaGreatL3
import Derived.Test.YtkfjchmhgpkcbaaGreatProg
set_option linter.unusedVariables false
set_option linter.unusedSimpArgs false
set_option maxRecDepth 100000
set_option maxHeartbeats 4000000
namespace Go.Sw
open Go.Proofs Tryz
theorem draws:prog.follows .mixedOrders=true:=by rfl
structure Faults where
  Misses:Int
  Strays:Int
  Window:Int
  Residual:Int
  Drift:Int
  deriving DecidableEq
def Faults.c(x:Faults):List Go.Sw.A:=[I x.Misses,I x.Strays,I x.Window,I x.Residual,I x.Drift]
structure Mat where
  Name:List UInt8
  Kind:Int
  deriving DecidableEq
def Mat.c(x:Mat):List Go.Sw.A:=[.str x.Name,I x.Kind]
structure Leg where
  From:Int
  To:Int
  Min:Int
  Max:Int
  deriving DecidableEq
def Leg.c(x:Leg):List Go.Sw.A:=[I x.From,I x.To,I x.Min,I x.Max]
structure Part where
  Mat:Int
  Laps:Int
  Parts:List Part
mutual
def Part.enc:Part->List A
  |⟨x0,x1,x2⟩=>[I x0,I x1,.rsl 3 (Part.encs x2)]
def Part.encs:List Part->List (List A)
  |[]=>[]
  |x::l=>Part.enc x::Part.encs l
end
theorem QcL(l:List Part):Part.encs l=List.map Part.enc l:=by induction l with|nil=>simp[Part.encs]|cons x l h=>simp[Part.encs,h]
def Part.c(x:Part):List Go.Sw.A:=[I x.Mat,I x.Laps,.rsl 3 (List.map Part.enc x.Parts)]
theorem Jj(x:Part):Part.enc x=Part.c x:=by cases x;simp[Part.enc,Part.c,QcL]
structure Cutoff where
  Mat:Int
  Lap:Int
  Limit:Int
  deriving DecidableEq
def Cutoff.c(x:Cutoff):List Go.Sw.A:=[I x.Mat,I x.Lap,I x.Limit]
structure Distance where
  Name:List UInt8
  Route:List Part
  Timing:Int
  Cutoffs:List Cutoff
  Extra:Int
def Distance.c(x:Distance):List Go.Sw.A:=[.str x.Name,.rsl 3 (List.map Part.enc x.Route),I x.Timing,.rsl 3 (List.map Cutoff.c x.Cutoffs),I x.Extra]
structure Wave where
  Name:List UInt8
  Gun:Int
  deriving DecidableEq
def Wave.c(x:Wave):List Go.Sw.A:=[.str x.Name,I x.Gun]
structure Offence where
  Name:List UInt8
  Time:Int
  Laps:Int
  Out:Bool
  deriving DecidableEq
def Offence.c(x:Offence):List Go.Sw.A:=[.str x.Name,I x.Time,I x.Laps,.bool x.Out]
structure Category where
  Name:List UInt8
  From:Int
  To:Int
  deriving DecidableEq
def Category.c(x:Category):List Go.Sw.A:=[.str x.Name,I x.From,I x.To]
structure Prize where
  Distance:Int
  Category:Int
  Rank:Int
  Amount:Int
  deriving DecidableEq
def Prize.c(x:Prize):List Go.Sw.A:=[I x.Distance,I x.Category,I x.Rank,I x.Amount]
structure Cond where
  Kind:Int
  Var:Int
  N:Int
  Parts:List Cond
mutual
def Cond.enc:Cond->List A
  |⟨x0,x1,x2,x3⟩=>[I x0,I x1,I x2,.rsl 4 (Cond.encs x3)]
def Cond.encs:List Cond->List (List A)
  |[]=>[]
  |x::l=>Cond.enc x::Cond.encs l
end
theorem QcR(l:List Cond):Cond.encs l=List.map Cond.enc l:=by induction l with|nil=>simp[Cond.encs]|cons x l h=>simp[Cond.encs,h]
def Cond.c(x:Cond):List Go.Sw.A:=[I x.Kind,I x.Var,I x.N,.rsl 4 (List.map Cond.enc x.Parts)]
theorem Qao(x:Cond):Cond.enc x=Cond.c x:=by cases x;simp[Cond.enc,Cond.c,QcR]
structure Step where
  Kind:Int
  By:Int
  Cond:Cond
  Then:List Step
  Else:List Step
mutual
def Step.enc:Step->List A
  |⟨x0,x1,x2,x3,x4⟩=>[I x0,I x1,I x2.Kind,I x2.Var,I x2.N,.rsl 4 (List.map Cond.enc x2.Parts),.rsl 8 (Step.encs x3),.rsl 8 (Step.encs x4)]
def Step.encs:List Step->List (List A)
  |[]=>[]
  |x::l=>Step.enc x::Step.encs l
end
theorem QcE(l:List Step):Step.encs l=List.map Step.enc l:=by induction l with|nil=>simp[Step.encs]|cons x l h=>simp[Step.encs,h]
def Step.c(x:Step):List Go.Sw.A:=[I x.Kind,I x.By,I x.Cond.Kind,I x.Cond.Var,I x.Cond.N,.rsl 4 (List.map Cond.enc x.Cond.Parts),.rsl 8 (List.map Step.enc x.Then),.rsl 8 (List.map Step.enc x.Else)]
theorem YT(x:Step):Step.enc x=Step.c x:=by cases x;simp[Step.enc,Step.c,QcE]
structure Course where
  Name:List UInt8
  Mats:List Mat
  Legs:List Leg
  Distances:List Distance
  Waves:List Wave
  Offences:List Offence
  Categories:List Category
  Prizes:List Prize
  Ties:List Step
  Faults:Faults
  Fee:Int
  Deadline:Int
def Course.c(x:Course):List Go.Sw.A:=[.str x.Name,.rsl 2 (List.map Mat.c x.Mats),.rsl 4 (List.map Leg.c x.Legs),.rsl 5 (List.map Distance.c x.Distances),.rsl 2 (List.map Wave.c x.Waves),.rsl 4 (List.map Offence.c x.Offences),.rsl 3 (List.map Category.c x.Categories),.rsl 4 (List.map Prize.c x.Prizes),.rsl 8 (List.map Step.enc x.Ties),I x.Faults.Misses,I x.Faults.Strays,I x.Faults.Window,I x.Faults.Residual,I x.Faults.Drift,I x.Fee,I x.Deadline]
structure Segment where
  Mat:Int
  Epoch:Int
  Anchor:Int
  deriving DecidableEq
def Segment.c(x:Segment):List Go.Sw.A:=[I x.Mat,I x.Epoch,I x.Anchor]
structure Clocks where
  Segments:List Segment
  Far:List (List Int)
  deriving DecidableEq
def Clocks.c(x:Clocks):List Go.Sw.A:=[.rsl 3 (List.map Segment.c x.Segments),.rsl 1 (List.map (YC 1 (Qd .i64)) x.Far)]
structure Pair where
  A:Int
  B:Int
  deriving DecidableEq
def Pair.c(x:Pair):List Go.Sw.A:=[I x.A,I x.B]
structure Outcome where
  Out:Bool
  Seg:Int
  Lo:Int
  Hi:Int
  deriving DecidableEq
def Outcome.c(x:Outcome):List Go.Sw.A:=[.bool x.Out,I x.Seg,I x.Lo,I x.Hi]
structure Runner where
  Bib:Int
  Keys:List Int
  Worlds:List (List Outcome)
  deriving DecidableEq
def Runner.c(x:Runner):List Go.Sw.A:=[I x.Bib,.rsl 1 (List.map (Qd .i64) x.Keys),.rsl 1 (List.map (YC 4 Outcome.c) x.Worlds)]
structure Field where
  Clocks:Clocks
  Pairs:List Pair
  Runners:List Runner
  deriving DecidableEq
def Field.c(x:Field):List Go.Sw.A:=[.rsl 3 (List.map Segment.c x.Clocks.Segments),.rsl 1 (List.map (YC 1 (Qd .i64)) x.Clocks.Far),.rsl 2 (List.map Pair.c x.Pairs),.rsl 3 (List.map Runner.c x.Runners)]
structure Choice where
  Outcome:Int
  X:Int
  deriving DecidableEq
def Choice.c(x:Choice):List Go.Sw.A:=[I x.Outcome,I x.X]
structure History where
  World:Int
  Offsets:List Int
  Choices:List Choice
  deriving DecidableEq
def History.c(x:History):List Go.Sw.A:=[I x.World,.rsl 1 (List.map (Qd .i64) x.Offsets),.rsl 2 (List.map Choice.c x.Choices)]
abbrev z_Part:Part:={Mat:=0,Laps:=0,Parts:=[]}
abbrev z_Cond:Cond:={Kind:=0,Var:=0,N:=0,Parts:=[]}
abbrev z_Step:Step:={Kind:=0,By:=0,Cond:=z_Cond,Then:=[],Else:=[]}
abbrev z_Faults:Faults:={Misses:=0,Strays:=0,Window:=0,Residual:=0,Drift:=0}
abbrev z_Course:Course:={Name:=[],Mats:=[],Legs:=[],Distances:=[],Waves:=[],Offences:=[],Categories:=[],Prizes:=[],Ties:=[],Faults:=z_Faults,Fee:=0,Deadline:=0}
abbrev z_Field:Field:={Clocks:={Segments:=[],Far:=[]:Clocks},Pairs:=[],Runners:=[]}
structure typing_ends where
  from_:Int
  to_:Int
  deriving DecidableEq
def typing_ends.c(x:typing_ends):List Go.Sw.A:=[I x.from_,I x.to_]
structure typing_place where
  distance:Int
  category:Int
  rank:Int
  deriving DecidableEq
def typing_place.c(x:typing_place):List Go.Sw.A:=[I x.distance,I x.category,I x.rank]
structure typing_step where
  Step:Step
def typing_step.c(x:typing_step):List Go.Sw.A:=[I x.Step.Kind,I x.Step.By,I x.Step.Cond.Kind,I x.Step.Cond.Var,I x.Step.Cond.N,.rsl 4 (List.map Cond.enc x.Step.Cond.Parts),.rsl 8 (List.map Step.enc x.Step.Then),.rsl 8 (List.map Step.enc x.Step.Else)]
structure typing_cond where
  Cond:Cond
def typing_cond.c(x:typing_cond):List Go.Sw.A:=[I x.Cond.Kind,I x.Cond.Var,I x.Cond.N,.rsl 4 (List.map Cond.enc x.Cond.Parts)]
inductive typing_form where
  |ctyping_step (x:typing_step)
  |ctyping_cond (x:typing_cond)
def typing_form.val:typing_form->A
  |.ctyping_step x=>.iface 320 (.agg (typing_step.c x))
  |.ctyping_cond x=>.iface 346 (.agg (typing_cond.c x))
def typing_form.enc(x:typing_form):List A:=[x.val]
def typing_form.elim{R:Type}(e:typing_form)(f0:typing_step->Option R)(f1:typing_cond->Option R):Option R:=match e with
  |.ctyping_step x=>f0 x
  |.ctyping_cond x=>f1 x
theorem typing_form.data(x:typing_form):Ye x.val=true:=by cases x<;>rfl
theorem Jk(e:typing_form):(∃x,e=.ctyping_step x)\/(∃x,e=.ctyping_cond x):=by cases e<;>simp
theorem Jc{R:Type}{e:typing_form}{x:typing_step}{f0:typing_step->Option R}{f1:typing_cond->Option R}{r:R}(hE:e=.ctyping_step x)(h:typing_form.elim e f0 f1=some r):f0 x=some r:=by subst hE;exact h
theorem Jb{R:Type}{e:typing_form}{x:typing_cond}{f0:typing_step->Option R}{f1:typing_cond->Option R}{r:R}(hE:e=.ctyping_cond x)(h:typing_form.elim e f0 f1=some r):f1 x=some r:=by subst hE;exact h
structure typing_count where
  steps:Int
  conds:Int
  deriving DecidableEq
def typing_count.c(x:typing_count):List Go.Sw.A:=[I x.steps,I x.conds]
structure clocks_place where
  mat:Int
  epoch:Int
  deriving DecidableEq
def clocks_place.c(x:clocks_place):List Go.Sw.A:=[I x.mat,I x.epoch]
structure Rank where
  Bib:Int
  Kind:Int
  Lo:Int
  Hi:Int
  Out:Bool
  deriving DecidableEq
def Rank.c(x:Rank):List Go.Sw.A:=[I x.Bib,I x.Kind,I x.Lo,I x.Hi,.bool x.Out]
abbrev z_Rank:Rank:={Bib:=0,Kind:=0,Lo:=0,Hi:=0,Out:=false}
structure ranks_place where
  world:Int
  outcome:Int
  rank:Int
  deriving DecidableEq
def ranks_place.c(x:ranks_place):List Go.Sw.A:=[I x.world,I x.outcome,I x.rank]
abbrev z_ranks_place:ranks_place:={world:=0,outcome:=0,rank:=0}
structure Payment where
  Bib:Int
  Amount:Int
  deriving DecidableEq
def Payment.c(x:Payment):List Go.Sw.A:=[I x.Bib,I x.Amount]
structure history_view where
  f:Field
  h:History
  deriving DecidableEq
def history_view.c(x:history_view):List Go.Sw.A:=[.rsl 3 (List.map Segment.c x.f.Clocks.Segments),.rsl 1 (List.map (YC 1 (Qd .i64)) x.f.Clocks.Far),.rsl 2 (List.map Pair.c x.f.Pairs),.rsl 3 (List.map Runner.c x.f.Runners),I x.h.World,.rsl 1 (List.map (Qd .i64) x.h.Offsets),.rsl 2 (List.map Choice.c x.h.Choices)]
abbrev z_History:History:={World:=0,Offsets:=[],Choices:=[]}
structure history_pair_int__int_ where
  first:Int
  second:Int
  deriving DecidableEq
def history_pair_int__int_.c(x:history_pair_int__int_):List Go.Sw.A:=[I x.first,I x.second]
structure money_part where
  index:Int
  cents:Int
  rest:Int
  deriving DecidableEq
def money_part.c(x:money_part):List Go.Sw.A:=[I x.index,I x.cents,I x.rest]
theorem Qv:Q0 prog 32 3 1:=⟨runUnderlying32,sizeOf3,⟨_,zeroValue3,rfl⟩,⟨_,typeInfo3,by decide⟩⟩
theorem Qlr:QL prog 101 [(0,1),(1,1)]:=⟨_,runUnderlying101,(Eg sizeOf9 (Eg sizeOf3 PL.nil))⟩
theorem el_38:Q0 prog 38 101 2:=⟨runUnderlying38,sizeOf101,⟨_,zeroValue101,rfl⟩,⟨_,typeInfo101,by decide⟩⟩
theorem Qlo:QL prog 135 [(0,1),(1,1),(2,1),(3,1)]:=⟨_,runUnderlying135,(Eg sizeOf3 (Eg sizeOf3 (Eg sizeOf3 (Eg sizeOf3 PL.nil))))⟩
theorem el_39:Q0 prog 39 135 4:=⟨runUnderlying39,sizeOf135,⟨_,zeroValue135,rfl⟩,⟨_,typeInfo135,by decide⟩⟩
theorem Qln:QL prog 137 [(0,1),(1,1),(2,1)]:=⟨_,runUnderlying137,(Eg sizeOf3 (Eg sizeOf3 (Eg sizeOf96 PL.nil)))⟩
theorem el_96:Q0 prog 96 137 3:=⟨runUnderlying96,sizeOf137,⟨_,zeroValue137,rfl⟩,⟨_,typeInfo137,by decide⟩⟩
theorem QnV:QL prog 99 [(0,1),(1,1),(2,1),(3,1),(4,1)]:=⟨_,runUnderlying99,(Eg sizeOf9 (Eg sizeOf96 (Eg sizeOf3 (Eg sizeOf97 (Eg sizeOf3 PL.nil)))))⟩
theorem el_40:Q0 prog 40 99 5:=⟨runUnderlying40,sizeOf99,⟨_,zeroValue99,rfl⟩,⟨_,typeInfo99,by decide⟩⟩
theorem Qlm:QL prog 139 [(0,1),(1,1)]:=⟨_,runUnderlying139,(Eg sizeOf9 (Eg sizeOf3 PL.nil))⟩
theorem el_41:Q0 prog 41 139 2:=⟨runUnderlying41,sizeOf139,⟨_,zeroValue139,rfl⟩,⟨_,typeInfo139,by decide⟩⟩
theorem Qll:QL prog 144 [(0,1),(1,1),(2,4),(6,1),(7,1)]:=⟨_,runUnderlying144,(Eg sizeOf3 (Eg sizeOf3 (Eg sizeOf142 (Eg sizeOf45 (Eg sizeOf45 PL.nil)))))⟩
theorem el_45:Q0 prog 45 144 8:=⟨runUnderlying45,sizeOf144,⟨_,zeroValue144,rfl⟩,⟨_,typeInfo144,by decide⟩⟩
theorem Qlb:QL prog 49 [(0,1),(1,1),(2,1),(3,1),(4,1),(5,1),(6,1),(7,1),(8,1),(9,5),(14,1),(15,1)]:=⟨_,runUnderlying49,(Eg sizeOf9 (Eg sizeOf38 (Eg sizeOf39 (Eg sizeOf40 (Eg sizeOf41 (Eg sizeOf42 (Eg sizeOf43 (Eg sizeOf44 (Eg sizeOf45 (Eg sizeOf47 (Eg sizeOf3 (Eg sizeOf3 PL.nil))))))))))))⟩
theorem QnY:QL prog 74 [(0,1),(1,1),(2,1),(3,1)]:=⟨_,runUnderlying74,(Eg sizeOf3 (Eg sizeOf3 (Eg sizeOf3 (Eg sizeOf3 PL.nil))))⟩
theorem Qn8:Q0 prog 44 74 4:=⟨runUnderlying44,sizeOf74,⟨_,zeroValue74,rfl⟩,⟨_,typeInfo74,by decide⟩⟩
theorem el_23:Q0 prog 23 32 1:=⟨runUnderlying23,sizeOf32,⟨_,zeroValue32,rfl⟩,⟨_,typeInfo32,by decide⟩⟩
theorem Qn2:QL prog 25 [(0,1),(1,1)]:=⟨_,runUnderlying25,(Eg sizeOf22 (Eg sizeOf23 PL.nil))⟩
theorem Qlg:QL prog 29 [(0,2),(2,1),(3,1)]:=⟨_,runUnderlying29,(Eg sizeOf25 (Eg sizeOf26 (Eg sizeOf27 PL.nil)))⟩
theorem Qlk:QL prog 146 [(0,1),(1,1),(2,1),(3,1)]:=⟨_,runUnderlying146,(Eg sizeOf4 (Eg sizeOf3 (Eg sizeOf3 (Eg sizeOf3 PL.nil))))⟩
theorem Qmg:Q0 prog 88 146 4:=⟨runUnderlying88,sizeOf146,⟨_,zeroValue146,rfl⟩,⟨_,typeInfo146,by decide⟩⟩
theorem el_66:Q0 prog 66 88 1:=⟨runUnderlying66,sizeOf88,⟨_,zeroValue88,rfl⟩,⟨_,typeInfo88,by decide⟩⟩
theorem QnZ:QL prog 68 [(0,1),(1,1),(2,1)]:=⟨_,runUnderlying68,(Eg sizeOf3 (Eg sizeOf32 (Eg sizeOf66 PL.nil)))⟩
theorem Qn9:Q0 prog 27 68 3:=⟨runUnderlying27,sizeOf68,⟨_,zeroValue68,rfl⟩,⟨_,typeInfo68,by decide⟩⟩
theorem Qmh:Q0 prog 357 5 1:=⟨runUnderlying357,sizeOf5,⟨_,zeroValue5,rfl⟩,⟨_,typeInfo5,by decide⟩⟩
theorem QbT:Y5 prog 9 A.str:=Y5.str underlying9
theorem QlR:prog.underlying 209=some (.struct (prog.fieldsOf 209)):=by kernel_rfl
theorem QoG:prog.stoodInHeld 209=false:=by kernel_rfl
theorem QdG:Y5 prog 209 (λx=>A.agg (typing_ends.c x)):=by
  refine Y5.struct QlR Zf (λx y h=>?_) (λw em x=>?_) (λw x y=>?_) (λx=>?_)
  · cases x;cases y
    simpa[Qw,YW,typing_ends.c]using h
  · simp only[Qw,YW,typing_ends.c]
    rw[show(10000:Nat)=9998+1+1 from rfl];generalize(9998:Nat)=d;simp[Instr.checkKey,runUnderlying209,runUnderlying3,Result.andThen,sizeOf3,isAgg3,part]
  · have u3:=underlying3
    have a3:=isAgg3;have z3:=sizeOf3;simp only[Qw,YW,typing_ends.c,Op.equal,Op.maxDepth];rw[show(10000:Nat)=9999+1 from Z,run_equalIn_agg w 9999 209 _ _ QlR QoG];simp only[Program.fieldsOf,underlying209]
    go_simp
    cases x;cases y;simp
    repeat' split
    all_goals simp_all
  · simp[Qw,YW,typing_ends.c,Instr.sameBits]
theorem Qoy:QL prog 209 [(0,1),(1,1)]:=⟨_,runUnderlying209,(Eg sizeOf3 (Eg sizeOf3 PL.nil))⟩
theorem QlQ:prog.underlying 282=some (.struct (prog.fieldsOf 282)):=by kernel_rfl
theorem QoF:prog.stoodInHeld 282=false:=by kernel_rfl
theorem Qnb:Y5 prog 282 (λx=>A.agg (typing_place.c x)):=by
  refine Y5.struct QlQ Zf (λx y h=>?_) (λw em x=>?_) (λw x y=>?_) (λx=>?_)
  · cases x;cases y
    simpa[Qw,YW,typing_place.c]using h
  · simp only[Qw,YW,typing_place.c]
    rw[show(10000:Nat)=9998+1+1 from rfl];generalize(9998:Nat)=d;simp[Instr.checkKey,runUnderlying282,runUnderlying3,Result.andThen,sizeOf3,isAgg3,part]
  · have u3:=underlying3
    have a3:=isAgg3;have z3:=sizeOf3;simp only[Qw,YW,typing_place.c,Op.equal,Op.maxDepth];rw[show(10000:Nat)=9999+1 from Z,run_equalIn_agg w 9999 282 _ _ QlQ QoF];simp only[Program.fieldsOf,underlying282]
    go_simp
    cases x;cases y;simp
    repeat' split
    all_goals simp_all
  · simp[Qw,YW,typing_place.c,Instr.sameBits]
theorem Qou:QL prog 282 [(0,1),(1,1),(2,1)]:=⟨_,runUnderlying282,(Eg sizeOf3 (Eg sizeOf3 (Eg sizeOf3 PL.nil)))⟩
theorem Qle:QL prog 320 [(0,8)]:=⟨_,runUnderlying320,(Eg sizeOf144 PL.nil)⟩
theorem Qb7:Q0 prog 285 317 1:=⟨runUnderlying285,sizeOf317,⟨_,zeroValue317,rfl⟩,⟨_,typeInfo317,by decide⟩⟩
theorem Qlf:QL prog 313 [(0,1),(1,1)]:=⟨_,runUnderlying313,(Eg sizeOf3 (Eg sizeOf3 PL.nil))⟩
theorem Qlc:QL prog 346 [(0,4)]:=⟨_,runUnderlying346,(Eg sizeOf142 PL.nil)⟩
theorem Qbl:Y5 prog 3 (λx=>A.int .i64 x):=Y5.int underlying3
theorem Qld:QL prog 323 [(0,1),(1,1)]:=⟨_,runUnderlying323,(Eg sizeOf3 (Eg sizeOf3 PL.nil))⟩
theorem QoE:prog.stoodInHeld 146=false:=by kernel_rfl
theorem Qnx:EqD prog 146 Outcome.c:=by
  refine QjC (QcP underlying146 QoE isAgg146 sizeOf146 (QmM.cons Z (by decide) (QkJ.bool underlying4 isAgg4 sizeOf4 0) Zf (QmM.cons Z (by decide) (QkJ.int underlying3 isAgg3 sizeOf3 0) Zf (QmM.cons Z (by decide) (QkJ.int underlying3 isAgg3 sizeOf3 0) Zf (QmM.cons Z (by decide) (QkJ.int underlying3 isAgg3 sizeOf3 0) Zf (QmM.nil _ _)))))) Z (λx=>⟨[_],_,Z,⟨_,Z⟩,[_],_,Z,⟨_,Z⟩,[_],_,Z,⟨_,Z⟩,[_],_,Z,⟨_,Z⟩,Z⟩) Zf (λx y h=>?_) (by kernel_rfl);obtain⟨p1,p2,p3,p4⟩:=x;obtain⟨q5,q6,q7,q8⟩:=y;simpa[Qw,YW,Outcome.c,and_assoc]using h
theorem QnX:QL prog 78 [(0,1),(1,1),(2,1),(3,1),(4,1)]:=⟨_,runUnderlying78,(Eg sizeOf3 (Eg sizeOf3 (Eg sizeOf3 (Eg sizeOf3 (Eg sizeOf4 PL.nil)))))⟩
theorem Qlh:QL prog 191 [(0,1),(1,1),(2,1),(3,1)]:=⟨_,runUnderlying191,(Eg sizeOf187 (Eg sizeOf187 (Eg sizeOf188 (Eg sizeOf189 PL.nil))))⟩
theorem Qli:QL prog 185 [(0,1),(1,1),(2,1)]:=⟨_,runUnderlying185,(Eg sizeOf3 (Eg sizeOf3 (Eg sizeOf3 PL.nil)))⟩
theorem Qnh:Y8 prog 78 1 1 1:=FA runUnderlying78 rfl sizeOf3
theorem Qjl:Q0 prog 89 78 5:=⟨runUnderlying89,sizeOf78,⟨_,zeroValue78,rfl⟩,⟨_,typeInfo78,by decide⟩⟩
theorem QgX(m:List (Int×Int))(hl:Nat.ble (List.map Prod.fst m).length QR=true):C prog 123 [.fn (.func 153) [] [.ptr 0 0]] [.cells 103 [.map 1],.fmap (Qz (λx=>A.int .i64 x) (λx=>A.int .i64 x) m)] (λr H=>∃p:List Int,p.Perm (List.map Prod.fst m)/\r=.osl 2 0 p.length 1/\H=[.dead,.fmap (Qz (λx=>A.int .i64 x) (λx=>A.int .i64 x) m),.row 3 1 (List.map (Qd .i64) p)]):=
  QfT func123 Z Z Z (λenv H h=>OpC.fn (xs:=[.const (.slice none 0 0),.tmp 3]) call212 Z Z (by show[_,lk env 3]=_;rw[h];rfl)) (QfU func212 Z Z Z Qv isAgg32 sizeOf32 call153 (QeO func153 Z Z Z isAgg103 underlying103 Zf) hl Zf Zf Zf Zf Zf)
theorem Qni:Y8 prog 78 0 0 1:=FA runUnderlying78 rfl sizeOf3
inductive U_prizes_divide where
  |c0 (x:Int)
  |c1 (x:Int)
  |c2 (x:(List (Int×Int))×(List Int))
theorem Qn0:QL prog 65 [(0,1),(1,1)]:=⟨_,runUnderlying65,(Eg sizeOf3 (Eg sizeOf3 PL.nil))⟩
theorem QfG:Q0 prog 51 65 2:=⟨runUnderlying51,sizeOf65,⟨_,zeroValue65,rfl⟩,⟨_,typeInfo65,by decide⟩⟩
theorem QnW:QL prog 87 [(0,1),(1,1)]:=⟨_,runUnderlying87,(Eg sizeOf3 (Eg sizeOf3 PL.nil))⟩
theorem el_57:Q0 prog 57 87 2:=⟨runUnderlying57,sizeOf87,⟨_,zeroValue87,rfl⟩,⟨_,typeInfo87,by decide⟩⟩
theorem Qn1:QL prog 59 [(0,1),(1,1),(2,1)]:=⟨_,runUnderlying59,(Eg sizeOf3 (Eg sizeOf32 (Eg sizeOf57 PL.nil)))⟩
theorem Qlq:QL prog 119 [(0,4),(4,3)]:=⟨_,runUnderlying119,(Eg sizeOf29 (Eg sizeOf59 PL.nil))⟩
theorem Qlp:QL prog 125 [(0,1),(1,1)]:=⟨_,runUnderlying125,(Eg sizeOf3 (Eg sizeOf3 PL.nil))⟩
theorem Qmj:Q0 prog 126 125 2:=⟨runUnderlying126,sizeOf125,⟨_,zeroValue125,rfl⟩,⟨_,typeInfo125,by decide⟩⟩
theorem QgW(m:List (Int×List Int))(hl:Nat.ble (List.map Prod.fst m).length QR=true):C prog 123 [.fn (.func 125) [] [.ptr 0 0]] [.cells 110 [.map 1],.fmap (Qz (λx=>A.int .i64 x) (λx=>A.rsl 1 (List.map (Qd .i64) x)) m)] (λr H=>∃p:List Int,p.Perm (List.map Prod.fst m)/\r=.osl 2 0 p.length 1/\H=[.dead,.fmap (Qz (λx=>A.int .i64 x) (λx=>A.rsl 1 (List.map (Qd .i64) x)) m),.row 3 1 (List.map (Qd .i64) p)]):=
  QfT func123 Z Z Z (λenv H h=>OpC.fn (xs:=[.const (.slice none 0 0),.tmp 3]) call212 Z Z (by show[_,lk env 3]=_;rw[h];rfl)) (QfU func212 Z Z Z Qv isAgg32 sizeOf32 call125 (QeO func125 Z Z Z isAgg110 underlying110 Zf) hl Zf Zf Zf Zf Zf)
theorem Qlj:QL prog 167 [(0,1),(1,1),(2,1)]:=⟨_,runUnderlying167,(Eg sizeOf3 (Eg sizeOf3 (Eg sizeOf3 PL.nil)))⟩
theorem Qmi:Q0 prog 162 167 3:=⟨runUnderlying162,sizeOf167,⟨_,zeroValue167,rfl⟩,⟨_,typeInfo167,by decide⟩⟩
theorem nt_65:prog.stoodInHeld 65=false:=by kernel_rfl
theorem QoT:EqD prog 65 Payment.c:=by
  refine QjC (QcP underlying65 nt_65 isAgg65 sizeOf65 (QmM.cons Z (by decide) (QkJ.int underlying3 isAgg3 sizeOf3 0) Zf (QmM.cons Z (by decide) (QkJ.int underlying3 isAgg3 sizeOf3 0) Zf (QmM.nil _ _)))) Z (λx=>⟨[_],_,Z,⟨_,Z⟩,[_],_,Z,⟨_,Z⟩,Z⟩) Zf (λx y h=>?_) (by kernel_rfl);obtain⟨p1,p2⟩:=x;obtain⟨q3,q4⟩:=y;simpa[Qw,YW,Payment.c,and_assoc]using h
theorem QoU:Q0 prog 140 142 4:=⟨runUnderlying140,sizeOf142,⟨_,zeroValue142,rfl⟩,⟨_,typeInfo142,by decide⟩⟩
theorem Qnj:Y8 prog 65 0 0 1:=FA runUnderlying65 rfl sizeOf3
theorem pl_47:QL prog 47 [(0,1),(1,1),(2,1),(3,1),(4,1)]:=⟨_,runUnderlying47,(Eg sizeOf3 (Eg sizeOf3 (Eg sizeOf3 (Eg sizeOf3 (Eg sizeOf3 PL.nil)))))⟩
theorem QoB:QL prog 142 [(0,1),(1,1),(2,1),(3,1)]:=⟨_,runUnderlying142,(Eg sizeOf3 (Eg sizeOf3 (Eg sizeOf3 (Eg sizeOf140 PL.nil))))⟩
theorem QoA:QL prog 149 [(0,1),(1,1)]:=⟨_,runUnderlying149,(Eg sizeOf3 (Eg sizeOf3 PL.nil))⟩
theorem Qoz:QL prog 198 [(0,1),(1,1),(2,1)]:=⟨_,runUnderlying198,(Eg sizeOf3 (Eg sizeOf3 (Eg sizeOf3 PL.nil)))⟩
theorem Qox:QL prog 237 [(0,1),(1,1),(2,1),(3,1)]:=⟨_,runUnderlying237,(Eg sizeOf9 (Eg sizeOf3 (Eg sizeOf3 (Eg sizeOf4 PL.nil))))⟩
theorem Qow:QL prog 239 [(0,1),(1,1),(2,1)]:=⟨_,runUnderlying239,(Eg sizeOf9 (Eg sizeOf3 (Eg sizeOf3 PL.nil)))⟩
theorem Qov:QL prog 249 [(0,1),(1,1),(2,1)]:=⟨_,runUnderlying249,(Eg sizeOf3 (Eg sizeOf3 (Eg sizeOf3 PL.nil)))⟩
def tyT:TyI:={fld:=[(49,7,7),(29,2,3),(137,2,2),(49,1,1),(49,2,2),(49,3,3),(49,4,4),(49,5,5),(49,6,6),(99,1,1),(99,3,3),(101,0,0),(99,0,0),(139,0,0),(237,0,0),(239,0,0),(49,0,0),(101,1,1),(135,0,0),(135,1,1),(135,2,2),(135,3,3),(137,1,1),(137,0,0),(249,0,0),(249,1,1),(249,2,2),(99,2,2),(99,4,4),(139,1,1),(237,3,3),(237,1,1),(237,2,2),(239,1,1),(239,2,2),(74,0,0),(74,1,1),(74,2,2),(74,3,3),(49,9,9),(47,0,0),(47,1,1),(47,2,2),(47,3,3),(47,4,4),(49,10,14),(49,11,15),(346,0,0),(142,0,0),(142,1,1),(142,2,2),(142,3,3),(320,0,0),(144,3,6),(144,4,7),(313,0,0),(144,2,2),(313,1,1),(144,0,0),(144,1,1),(49,8,8),(323,0,0),(323,1,1),(198,0,0),(198,1,1),(25,0,0),(25,1,1),(198,2,2),(146,1,1),(146,2,2),(146,3,3),(146,0,0),(68,2,2),(29,1,2),(29,0,0),(149,0,0),(149,1,1),(68,0,0),(68,1,1),(191,1,1),(191,2,2),(191,0,0),(191,3,3),(185,2,2),(78,4,4),(78,2,2),(78,3,3),(78,1,1),(78,0,0),(119,0,0),(119,1,4),(59,0,0),(59,2,2),(87,0,0),(59,1,1),(87,1,1),(125,1,1),(125,0,0),(167,2,2),(167,0,0),(167,1,1),(65,1,1),(65,0,0)],agg:=[(49,true,16),(3,false,1),(44,false,1),(29,true,4),(27,false,1),(137,true,3),(96,false,1),(38,false,1),(39,false,1),(40,false,1),(41,false,1),(42,false,1),(43,false,1),(99,true,5),(97,false,1),(5,false,1),(9,false,1),(101,true,2),(139,true,2),(237,true,4),(239,true,3),(270,false,1),(266,false,1),(135,true,4),(209,true,2),(261,false,1),(264,false,1),(249,true,3),(212,false,1),(275,false,1),(4,false,1),(267,false,1),(278,false,1),(268,false,1),(74,true,4),(282,true,3),(47,true,5),(144,true,8),(140,false,1),(45,false,1),(142,true,4),(320,true,8),(346,true,4),(317,false,1),(103,false,1),(207,false,1),(22,false,1),(23,false,1),(198,true,3),(32,false,1),(88,false,1),(146,true,4),(25,true,2),(66,false,1),(68,true,3),(26,false,1),(149,true,2),(191,true,4),(187,false,1),(188,false,1),(189,false,1),(185,true,3),(78,true,5),(89,false,1),(51,false,1),(119,true,7),(57,false,1),(59,true,3),(87,true,2),(125,true,2),(110,false,1),(167,true,3),(162,false,1),(33,false,1),(65,true,2)],zer:=[(101,[.str [],I 0],[(0,1),(1,1)]),(135,[I 0,I 0,I 0,I 0],[(0,1),(1,1),(2,1),(3,1)]),(137,[I 0,I 0,.rsl 3 (List.map Part.enc [])],[(0,1),(1,1),(2,1)]),(99,[.str [],.rsl 3 (List.map Part.enc []),I 0,.rsl 3 (List.map Cutoff.c []),I 0],[(0,1),(1,1),(2,1),(3,1),(4,1)]),(139,[.str [],I 0],[(0,1),(1,1)]),(144,[I 0,I 0,I 0,I 0,I 0,.rsl 4 (List.map Cond.enc []),.rsl 8 (List.map Step.enc []),.rsl 8 (List.map Step.enc [])],[(0,1),(1,1),(2,4),(6,1),(7,1)]),(74,[I 0,I 0,I 0,I 0],[(0,1),(1,1),(2,1),(3,1)]),(25,[.rsl 3 (List.map Segment.c []),.rsl 1 (List.map (YC 1 (Qd .i64)) [])],[(0,1),(1,1)]),(146,[.bool false,I 0,I 0,I 0],[(0,1),(1,1),(2,1),(3,1)]),(68,[I 0,.rsl 1 (List.map (Qd .i64) []),.rsl 1 (List.map (YC 4 Outcome.c) [])],[(0,1),(1,1),(2,1)]),(209,[I 0,I 0],[(0,1),(1,1)]),(282,[I 0,I 0,I 0],[(0,1),(1,1),(2,1)]),(320,[I 0,I 0,I 0,I 0,I 0,.rsl 4 (List.map Cond.enc []),.rsl 8 (List.map Step.enc []),.rsl 8 (List.map Step.enc [])],[(0,8)]),(346,[I 0,I 0,I 0,.rsl 4 (List.map Cond.enc [])],[(0,4)]),(313,[I 0,I 0],[(0,1),(1,1)]),(323,[I 0,I 0],[(0,1),(1,1)]),(191,[.nilf,.nilf,.nilf,.nilf],[(0,1),(1,1),(2,1),(3,1)]),(185,[I 0,I 0,I 0],[(0,1),(1,1),(2,1)]),(78,[I 0,I 0,I 0,I 0,.bool false],[(0,1),(1,1),(2,1),(3,1),(4,1)]),(65,[I 0,I 0],[(0,1),(1,1)]),(119,[.rsl 3 (List.map Segment.c []),.rsl 1 (List.map (YC 1 (Qd .i64)) []),.rsl 2 (List.map Pair.c []),.rsl 3 (List.map Runner.c []),I 0,.rsl 1 (List.map (Qd .i64) []),.rsl 2 (List.map Choice.c [])],[(0,4),(4,3)]),(125,[I 0,I 0],[(0,1),(1,1)]),(167,[I 0,I 0,I 0],[(0,1),(1,1),(2,1)]),(87,[I 0,I 0],[(0,1),(1,1)]),(59,[I 0,.rsl 1 (List.map (Qd .i64) []),.rsl 2 (List.map Choice.c [])],[(0,1),(1,1),(2,1)]),(29,[.rsl 3 (List.map Segment.c []),.rsl 1 (List.map (YC 1 (Qd .i64)) []),.rsl 2 (List.map Pair.c []),.rsl 3 (List.map Runner.c [])],[(0,2),(2,1),(3,1)]),(49,[.str [],.rsl 2 (List.map Mat.c []),.rsl 4 (List.map Leg.c []),.rsl 5 (List.map Distance.c []),.rsl 2 (List.map Wave.c []),.rsl 4 (List.map Offence.c []),.rsl 3 (List.map Category.c []),.rsl 4 (List.map Prize.c []),.rsl 8 (List.map Step.enc []),I 0,I 0,I 0,I 0,I 0,I 0,I 0],[(0,1),(1,1),(2,1),(3,1),(4,1),(5,1),(6,1),(7,1),(8,1),(9,5),(14,1),(15,1)])]}
def tyF:List (Nat×List (Nat×Nat)):=[(25,[(0,1),(1,1)]),(29,[(0,2),(2,1),(3,1)]),(47,[(0,1),(1,1),(2,1),(3,1),(4,1)]),(49,[(0,1),(1,1),(2,1),(3,1),(4,1),(5,1),(6,1),(7,1),(8,1),(9,5),(14,1),(15,1)]),(59,[(0,1),(1,1),(2,1)]),(65,[(0,1),(1,1)]),(68,[(0,1),(1,1),(2,1)]),(74,[(0,1),(1,1),(2,1),(3,1)]),(78,[(0,1),(1,1),(2,1),(3,1),(4,1)]),(87,[(0,1),(1,1)]),(99,[(0,1),(1,1),(2,1),(3,1),(4,1)]),(101,[(0,1),(1,1)]),(119,[(0,4),(4,3)]),(125,[(0,1),(1,1)]),(135,[(0,1),(1,1),(2,1),(3,1)]),(137,[(0,1),(1,1),(2,1)]),(139,[(0,1),(1,1)]),(142,[(0,1),(1,1),(2,1),(3,1)]),(144,[(0,1),(1,1),(2,4),(6,1),(7,1)]),(146,[(0,1),(1,1),(2,1),(3,1)]),(149,[(0,1),(1,1)]),(167,[(0,1),(1,1),(2,1)]),(185,[(0,1),(1,1),(2,1)]),(191,[(0,1),(1,1),(2,1),(3,1)]),(198,[(0,1),(1,1),(2,1)]),(237,[(0,1),(1,1),(2,1),(3,1)]),(239,[(0,1),(1,1),(2,1)]),(249,[(0,1),(1,1),(2,1)]),(313,[(0,1),(1,1)]),(320,[(0,8)]),(323,[(0,1),(1,1)]),(346,[(0,4)])]
theorem tyOK:TyOK prog tyT:=
  ⟨QoO (L:=tyF) (yc Qn2 (yc Qlg (yc pl_47 (yc Qlb (yc Qn1 (yc Qn0 (yc QnZ (yc QnY (yc QnX (yc QnW (yc QnV (yc Qlr (yc Qlq (yc Qlp (yc Qlo (yc Qln (yc Qlm (yc QoB (yc Qll (yc Qlk (yc QoA (yc Qlj (yc Qli (yc Qlh (yc Qoz (yc Qox (yc Qow (yc Qov (yc Qlf (yc Qle (yc Qld (yc Qlc (List.forall_mem_nil _))))))))))))))))))))))))))))))))) (by kernel_rfl),
   yc ⟨isAgg49,sizeOf49⟩ (yc ⟨isAgg3,sizeOf3⟩ (yc ⟨isAgg44,sizeOf44⟩ (yc ⟨isAgg29,sizeOf29⟩ (yc ⟨isAgg27,sizeOf27⟩ (yc ⟨isAgg137,sizeOf137⟩ (yc ⟨isAgg96,sizeOf96⟩ (yc ⟨isAgg38,sizeOf38⟩ (yc ⟨isAgg39,sizeOf39⟩ (yc ⟨isAgg40,sizeOf40⟩ (yc ⟨isAgg41,sizeOf41⟩ (yc ⟨isAgg42,sizeOf42⟩ (yc ⟨isAgg43,sizeOf43⟩ (yc ⟨isAgg99,sizeOf99⟩ (yc ⟨isAgg97,sizeOf97⟩ (yc ⟨isAgg5,sizeOf5⟩ (yc ⟨isAgg9,sizeOf9⟩ (yc ⟨isAgg101,sizeOf101⟩ (yc ⟨isAgg139,sizeOf139⟩ (yc ⟨isAgg237,sizeOf237⟩ (yc ⟨isAgg239,sizeOf239⟩ (yc ⟨isAgg270,sizeOf270⟩ (yc ⟨isAgg266,sizeOf266⟩ (yc ⟨isAgg135,sizeOf135⟩ (yc ⟨isAgg209,sizeOf209⟩ (yc ⟨isAgg261,sizeOf261⟩ (yc ⟨isAgg264,sizeOf264⟩ (yc ⟨isAgg249,sizeOf249⟩ (yc ⟨isAgg212,sizeOf212⟩ (yc ⟨isAgg275,sizeOf275⟩ (yc ⟨isAgg4,sizeOf4⟩ (yc ⟨isAgg267,sizeOf267⟩ (yc ⟨isAgg278,sizeOf278⟩ (yc ⟨isAgg268,sizeOf268⟩ (yc ⟨isAgg74,sizeOf74⟩ (yc ⟨isAgg282,sizeOf282⟩ (yc ⟨isAgg47,sizeOf47⟩ (yc ⟨isAgg144,sizeOf144⟩ (yc ⟨isAgg140,sizeOf140⟩ (yc ⟨isAgg45,sizeOf45⟩ (yc ⟨isAgg142,sizeOf142⟩ (yc ⟨isAgg320,sizeOf320⟩ (yc ⟨isAgg346,sizeOf346⟩ (yc ⟨isAgg317,sizeOf317⟩ (yc ⟨isAgg103,sizeOf103⟩ (yc ⟨isAgg207,sizeOf207⟩ (yc ⟨isAgg22,sizeOf22⟩ (yc ⟨isAgg23,sizeOf23⟩ (yc ⟨isAgg198,sizeOf198⟩ (yc ⟨isAgg32,sizeOf32⟩ (yc ⟨isAgg88,sizeOf88⟩ (yc ⟨isAgg146,sizeOf146⟩ (yc ⟨isAgg25,sizeOf25⟩ (yc ⟨isAgg66,sizeOf66⟩ (yc ⟨isAgg68,sizeOf68⟩ (yc ⟨isAgg26,sizeOf26⟩ (yc ⟨isAgg149,sizeOf149⟩ (yc ⟨isAgg191,sizeOf191⟩ (yc ⟨isAgg187,sizeOf187⟩ (yc ⟨isAgg188,sizeOf188⟩ (yc ⟨isAgg189,sizeOf189⟩ (yc ⟨isAgg185,sizeOf185⟩ (yc ⟨isAgg78,sizeOf78⟩ (yc ⟨isAgg89,sizeOf89⟩ (yc ⟨isAgg51,sizeOf51⟩ (yc ⟨isAgg119,sizeOf119⟩ (yc ⟨isAgg57,sizeOf57⟩ (yc ⟨isAgg59,sizeOf59⟩ (yc ⟨isAgg87,sizeOf87⟩ (yc ⟨isAgg125,sizeOf125⟩ (yc ⟨isAgg110,sizeOf110⟩ (yc ⟨isAgg167,sizeOf167⟩ (yc ⟨isAgg162,sizeOf162⟩ (yc ⟨isAgg33,sizeOf33⟩ (yc ⟨isAgg65,sizeOf65⟩ (List.forall_mem_nil _))))))))))))))))))))))))))))))))))))))))))))))))))))))))))))))))))))))))))),
   yc ⟨⟨_,zeroValue101,(ZR.agg (zc ZR.str (zc Eo ZL.nil)))⟩,Qlr⟩ (yc ⟨⟨_,zeroValue135,(ZR.agg (zc Eo (zc Eo (zc Eo (zc Eo ZL.nil)))))⟩,Qlo⟩ (yc ⟨⟨_,zeroValue137,(ZR.agg (zc Eo (zc Eo (zc ZR.rsl ZL.nil))))⟩,Qln⟩ (yc ⟨⟨_,zeroValue99,(ZR.agg (zc ZR.str (zc ZR.rsl (zc Eo (zc ZR.rsl (zc Eo ZL.nil))))))⟩,QnV⟩ (yc ⟨⟨_,zeroValue139,(ZR.agg (zc ZR.str (zc Eo ZL.nil)))⟩,Qlm⟩ (yc ⟨⟨_,zeroValue144,(ZR.agg (zc Eo (zc Eo (zc Eo (zc Eo (zc Eo (zc ZR.rsl (zc ZR.rsl (zc ZR.rsl ZL.nil)))))))))⟩,Qll⟩ (yc ⟨⟨_,zeroValue74,(ZR.agg (zc Eo (zc Eo (zc Eo (zc Eo ZL.nil)))))⟩,QnY⟩ (yc ⟨⟨_,zeroValue25,(ZR.agg (zc ZR.rsl (zc ZR.rsl ZL.nil)))⟩,Qn2⟩ (yc ⟨⟨_,zeroValue146,(ZR.agg (zc ZR.bool (zc Eo (zc Eo (zc Eo ZL.nil)))))⟩,Qlk⟩ (yc ⟨⟨_,zeroValue68,(ZR.agg (zc Eo (zc ZR.rsl (zc ZR.rsl ZL.nil))))⟩,QnZ⟩ (yc ⟨⟨_,zeroValue209,(ZR.agg (zc Eo (zc Eo ZL.nil)))⟩,Qoy⟩ (yc ⟨⟨_,zeroValue282,(ZR.agg (zc Eo (zc Eo (zc Eo ZL.nil))))⟩,Qou⟩ (yc ⟨⟨_,zeroValue320,(ZR.agg (zc Eo (zc Eo (zc Eo (zc Eo (zc Eo (zc ZR.rsl (zc ZR.rsl (zc ZR.rsl ZL.nil)))))))))⟩,Qle⟩ (yc ⟨⟨_,zeroValue346,(ZR.agg (zc Eo (zc Eo (zc Eo (zc ZR.rsl ZL.nil)))))⟩,Qlc⟩ (yc ⟨⟨_,zeroValue313,(ZR.agg (zc Eo (zc Eo ZL.nil)))⟩,Qlf⟩ (yc ⟨⟨_,zeroValue323,(ZR.agg (zc Eo (zc Eo ZL.nil)))⟩,Qld⟩ (yc ⟨⟨_,zeroValue191,(ZR.agg (zc ZR.nilf (zc ZR.nilf (zc ZR.nilf (zc ZR.nilf ZL.nil)))))⟩,Qlh⟩ (yc ⟨⟨_,zeroValue185,(ZR.agg (zc Eo (zc Eo (zc Eo ZL.nil))))⟩,Qli⟩ (yc ⟨⟨_,zeroValue78,(ZR.agg (zc Eo (zc Eo (zc Eo (zc Eo (zc ZR.bool ZL.nil))))))⟩,QnX⟩ (yc ⟨⟨_,zeroValue65,(ZR.agg (zc Eo (zc Eo ZL.nil)))⟩,Qn0⟩ (yc ⟨⟨_,zeroValue119,(ZR.agg (zc ZR.rsl (zc ZR.rsl (zc ZR.rsl (zc ZR.rsl (zc Eo (zc ZR.rsl (zc ZR.rsl ZL.nil))))))))⟩,Qlq⟩ (yc ⟨⟨_,zeroValue125,(ZR.agg (zc Eo (zc Eo ZL.nil)))⟩,Qlp⟩ (yc ⟨⟨_,zeroValue167,(ZR.agg (zc Eo (zc Eo (zc Eo ZL.nil))))⟩,Qlj⟩ (yc ⟨⟨_,zeroValue87,(ZR.agg (zc Eo (zc Eo ZL.nil)))⟩,QnW⟩ (yc ⟨⟨_,zeroValue59,(ZR.agg (zc Eo (zc ZR.rsl (zc ZR.rsl ZL.nil))))⟩,Qn1⟩ (yc ⟨⟨_,zeroValue29,(ZR.agg (zc ZR.rsl (zc ZR.rsl (zc ZR.rsl (zc ZR.rsl ZL.nil)))))⟩,Qlg⟩ (yc ⟨⟨_,zeroValue49,(ZR.agg (zc ZR.str (zc ZR.rsl (zc ZR.rsl (zc ZR.rsl (zc ZR.rsl (zc ZR.rsl (zc ZR.rsl (zc ZR.rsl (zc ZR.rsl (zc Eo (zc Eo (zc Eo (zc Eo (zc Eo (zc Eo (zc Eo ZL.nil)))))))))))))))))⟩,Qlb⟩ (List.forall_mem_nil _)))))))))))))))))))))))))))⟩
def tyX:TyX:={ty:=tyT,al:=[(49,(.agg [.str [],.rsl 2 (List.map Mat.c []),.rsl 4 (List.map Leg.c []),.rsl 5 (List.map Distance.c []),.rsl 2 (List.map Wave.c []),.rsl 4 (List.map Offence.c []),.rsl 3 (List.map Category.c []),.rsl 4 (List.map Prize.c []),.rsl 8 (List.map Step.enc []),I 0,I 0,I 0,I 0,I 0,I 0,I 0])),(29,(.agg [.rsl 3 (List.map Segment.c []),.rsl 1 (List.map (YC 1 (Qd .i64)) []),.rsl 2 (List.map Pair.c []),.rsl 3 (List.map Runner.c [])])),(137,(.agg [I 0,I 0,.rsl 3 (List.map Part.enc [])])),(99,(.agg [.str [],.rsl 3 (List.map Part.enc []),I 0,.rsl 3 (List.map Cutoff.c []),I 0])),(101,(.agg [.str [],I 0])),(139,(.agg [.str [],I 0])),(237,(.agg [.str [],I 0,I 0,.bool false])),(239,(.agg [.str [],I 0,I 0])),(209,(.agg [I 0,I 0])),(135,(.agg [I 0,I 0,I 0,I 0])),(282,(.agg [I 0,I 0,I 0])),(74,(.agg [I 0,I 0,I 0,I 0])),(3,(I 0)),(261,.nilf),(264,.nilf),(47,(.agg [I 0,I 0,I 0,I 0,I 0])),(144,(.agg [I 0,I 0,I 0,I 0,I 0,.rsl 4 (List.map Cond.enc []),.rsl 8 (List.map Step.enc []),.rsl 8 (List.map Step.enc [])])),(142,(.agg [I 0,I 0,I 0,.rsl 4 (List.map Cond.enc [])])),(320,(.agg [I 0,I 0,I 0,I 0,I 0,.rsl 4 (List.map Cond.enc []),.rsl 8 (List.map Step.enc []),.rsl 8 (List.map Step.enc [])])),(346,(.agg [I 0,I 0,I 0,.rsl 4 (List.map Cond.enc [])])),(103,.nilm),(207,.nilm),(198,(.agg [I 0,I 0,I 0])),(146,(.agg [.bool false,I 0,I 0,I 0])),(149,(.agg [I 0,I 0])),(68,(.agg [I 0,.rsl 1 (List.map (Qd .i64) []),.rsl 1 (List.map (YC 4 Outcome.c) [])])),(191,(.agg [.nilf,.nilf,.nilf,.nilf])),(185,(.agg [I 0,I 0,I 0])),(4,(.bool false)),(78,(.agg [I 0,I 0,I 0,I 0,.bool false])),(32,.nils),(89,.nils),(51,.nils),(119,(.agg [.rsl 3 (List.map Segment.c []),.rsl 1 (List.map (YC 1 (Qd .i64)) []),.rsl 2 (List.map Pair.c []),.rsl 3 (List.map Runner.c []),I 0,.rsl 1 (List.map (Qd .i64) []),.rsl 2 (List.map Choice.c [])])),(87,(.agg [I 0,I 0])),(125,(.agg [I 0,I 0])),(162,.nils),(167,(.agg [I 0,I 0,I 0])),(33,(I 0)),(65,(.agg [I 0,I 0]))],sl:=[357,285,32,88,89,126,162,51]}
theorem Qbq:Qbo prog tyX:=
  ⟨tyOK,
   yc ⟨⟨_,zeroValue49,(zrC Z)⟩,Z,Z⟩ (yc ⟨⟨_,zeroValue29,(zrC Z)⟩,Z,Z⟩ (yc ⟨⟨_,zeroValue137,(zrC Z)⟩,Z,Z⟩ (yc ⟨⟨_,zeroValue99,(zrC Z)⟩,Z,Z⟩ (yc ⟨⟨_,zeroValue101,(zrC Z)⟩,Z,Z⟩ (yc ⟨⟨_,zeroValue139,(zrC Z)⟩,Z,Z⟩ (yc ⟨⟨_,zeroValue237,(zrC Z)⟩,Z,Z⟩ (yc ⟨⟨_,zeroValue239,(zrC Z)⟩,Z,Z⟩ (yc ⟨⟨_,zeroValue209,(zrC Z)⟩,Z,Z⟩ (yc ⟨⟨_,zeroValue135,(zrC Z)⟩,Z,Z⟩ (yc ⟨⟨_,zeroValue282,(zrC Z)⟩,Z,Z⟩ (yc ⟨⟨_,zeroValue74,(zrC Z)⟩,Z,Z⟩ (yc ⟨⟨_,zeroValue3,Eo⟩,Z,Z⟩ (yc ⟨⟨_,zeroValue261,ZR.nilf⟩,Z,Z⟩ (yc ⟨⟨_,zeroValue264,ZR.nilf⟩,Z,Z⟩ (yc ⟨⟨_,zeroValue47,(zrC Z)⟩,Z,Z⟩ (yc ⟨⟨_,zeroValue144,(zrC Z)⟩,Z,Z⟩ (yc ⟨⟨_,zeroValue142,(zrC Z)⟩,Z,Z⟩ (yc ⟨⟨_,zeroValue320,(zrC Z)⟩,Z,Z⟩ (yc ⟨⟨_,zeroValue346,(zrC Z)⟩,Z,Z⟩ (yc ⟨⟨_,zeroValue103,ZR.nilm⟩,Z,Z⟩ (yc ⟨⟨_,zeroValue207,ZR.nilm⟩,Z,Z⟩ (yc ⟨⟨_,zeroValue198,(zrC Z)⟩,Z,Z⟩ (yc ⟨⟨_,zeroValue146,(zrC Z)⟩,Z,Z⟩ (yc ⟨⟨_,zeroValue149,(zrC Z)⟩,Z,Z⟩ (yc ⟨⟨_,zeroValue68,(zrC Z)⟩,Z,Z⟩ (yc ⟨⟨_,zeroValue191,(zrC Z)⟩,Z,Z⟩ (yc ⟨⟨_,zeroValue185,(zrC Z)⟩,Z,Z⟩ (yc ⟨⟨_,zeroValue4,ZR.bool⟩,Z,Z⟩ (yc ⟨⟨_,zeroValue78,(zrC Z)⟩,Z,Z⟩ (yc ⟨⟨_,zeroValue32,ZR.nils⟩,Z,Z⟩ (yc ⟨⟨_,zeroValue89,ZR.nils⟩,Z,Z⟩ (yc ⟨⟨_,zeroValue51,ZR.nils⟩,Z,Z⟩ (yc ⟨⟨_,zeroValue119,(zrC Z)⟩,Z,Z⟩ (yc ⟨⟨_,zeroValue87,(zrC Z)⟩,Z,Z⟩ (yc ⟨⟨_,zeroValue125,(zrC Z)⟩,Z,Z⟩ (yc ⟨⟨_,zeroValue162,ZR.nils⟩,Z,Z⟩ (yc ⟨⟨_,zeroValue167,(zrC Z)⟩,Z,Z⟩ (yc ⟨⟨_,zeroValue33,Eo⟩,Z,Z⟩ (yc ⟨⟨_,zeroValue65,(zrC Z)⟩,Z,Z⟩ (List.forall_mem_nil _)))))))))))))))))))))))))))))))))))))))),
   yc ⟨_,runUnderlying357⟩ (yc ⟨_,runUnderlying285⟩ (yc ⟨_,runUnderlying32⟩ (yc ⟨_,runUnderlying88⟩ (yc ⟨_,runUnderlying89⟩ (yc ⟨_,runUnderlying126⟩ (yc ⟨_,runUnderlying162⟩ (yc ⟨_,runUnderlying51⟩ (List.forall_mem_nil _))))))))⟩
theorem G0{h0 N:Nat}{c:Code}{c':Cf}{k':List Kf}{env env':Env}{H H':Qc}{Q:QC}(n:Nat)(h:Qh4 tyX h0 N n (.code c) [] env H=some (c',k',env',H'))(g:Hd prog h0 N c' k' env' H' Q):TC prog h0 N c env H Q:=Qci Qbq n h g
theorem Gc{h0 N:Nat}{k:List Kf}{c:Code}{c':Cf}{k':List Kf}{env env':Env}{H H':Qc}{Q:QC}(n:Nat)(h:Qh4 tyX h0 N n (.code c) k env H=some (c',k',env',H'))(g:Hd prog h0 N c' k' env' H' Q):TC prog h0 N c env H (kq prog h0 N k Q):=Qci Qbq n h g
theorem Go{h0 N:Nat}{k:List Kf}{all:Array Oper}{l:List Oper}{c':Cf}{k':List Kf}{env env':Env}{H H':Qc}{Q:QC}(n:Nat)(h:Qh4 tyX h0 N n (.ops all l) k env H=some (c',k',env',H'))(g:Hd prog h0 N c' k' env' H' Q):WO prog h0 N all l env H (kq prog h0 N k Q):=Qci Qbq n h g
theorem Gx{h0 N:Nat}{k:List Kf}{x:AEx}{c':Cf}{k':List Kf}{env env':Env}{H H':Qc}{Q:QC}(n:Nat)(h:Qh4 tyX h0 N n (.out x) k env H=some (c',k',env',H'))(g:Hd prog h0 N c' k' env' H' Q):kq prog h0 N k Q x env H:=Qci Qbq n h g
theorem D{N m:Nat}{l r r':List Oper}{ds:List Nat}{env:Env}{H:Qc}{K:List Oper->Env->Qc->Prop}{xs xs':List A}(n:Nat)(h:QgR tyX N m l ds env H n xs.length r xs=some (r',xs'))(k:DS prog N m l ds env H K r' xs'):DS prog N m l ds env H K r xs:=Qd4 Qbq n _ rfl h k
def tyZ:TyZ:={sl:=[(32,3,1),(96,137,3),(38,101,2),(39,135,4),(40,99,5),(41,139,2),(42,237,4),(43,239,3),(44,74,4),(97,249,3),(357,5,1),(45,144,8),(140,142,4),(285,317,1),(22,198,3),(23,32,1),(66,88,1),(88,146,4),(27,68,3),(26,149,2),(89,78,5),(57,87,2),(51,65,2)],fn:=[166,274,235,169,167,171,173,175,177,168,170,172,174,176,236,226,147,179,188,242,278,241,184,244,279,243,191,180,178,238,276,237,181,240,277,239,183,182,203,256,202,193,246,280,245,185,248,281,247,196,250,282,249,186,252,283,251,199,187,189,190,116,192,194,195,197,198,201,297,284,253,293,254,294,286,285,200,204,205,118,117,112,113,114,115,134,87,86,257,208,206,207,209,119,211,224,137,120,121,122,71,72,136,91,138,140,141,139,88,142,225,89,143,144,145,90,59,106,74,44,33,46,69,34,40,146,148,95,96,85,60,55,54,56,57,75,62,130,80,76,79,45,25,47,49,48,31,32,16,18,12,22,20,14,37,68,38,99,100,101,63,102,64,65,66,84,35,53,10,15,11,21,24,29,28]}
theorem QdT:QcB prog tyZ:=
  ⟨yc ⟨runUnderlying32,sizeOf3⟩ (yc ⟨runUnderlying96,sizeOf137⟩ (yc ⟨runUnderlying38,sizeOf101⟩ (yc ⟨runUnderlying39,sizeOf135⟩ (yc ⟨runUnderlying40,sizeOf99⟩ (yc ⟨runUnderlying41,sizeOf139⟩ (yc ⟨runUnderlying42,sizeOf237⟩ (yc ⟨runUnderlying43,sizeOf239⟩ (yc ⟨runUnderlying44,sizeOf74⟩ (yc ⟨runUnderlying97,sizeOf249⟩ (yc ⟨runUnderlying357,sizeOf5⟩ (yc ⟨runUnderlying45,sizeOf144⟩ (yc ⟨runUnderlying140,sizeOf142⟩ (yc ⟨runUnderlying285,sizeOf317⟩ (yc ⟨runUnderlying22,sizeOf198⟩ (yc ⟨runUnderlying23,sizeOf32⟩ (yc ⟨runUnderlying66,sizeOf88⟩ (yc ⟨runUnderlying88,sizeOf146⟩ (yc ⟨runUnderlying27,sizeOf68⟩ (yc ⟨runUnderlying26,sizeOf149⟩ (yc ⟨runUnderlying89,sizeOf78⟩ (yc ⟨runUnderlying57,sizeOf87⟩ (yc ⟨runUnderlying51,sizeOf65⟩ (List.forall_mem_nil _))))))))))))))))))))))),
   yc call166 (yc call274 (yc call235 (yc call169 (yc call167 (yc call171 (yc call173 (yc call175 (yc call177 (yc call168 (yc call170 (yc call172 (yc call174 (yc call176 (yc call236 (yc call226 (yc call147 (yc call179 (yc call188 (yc call242 (yc call278 (yc call241 (yc call184 (yc call244 (yc call279 (yc call243 (yc call191 (yc call180 (yc call178 (yc call238 (yc call276 (yc call237 (yc call181 (yc call240 (yc call277 (yc call239 (yc call183 (yc call182 (yc call203 (yc call256 (yc call202 (yc call193 (yc call246 (yc call280 (yc call245 (yc call185 (yc call248 (yc call281 (yc call247 (yc call196 (yc call250 (yc call282 (yc call249 (yc call186 (yc call252 (yc call283 (yc call251 (yc call199 (yc call187 (yc call189 (yc call190 (yc call116 (yc call192 (yc call194 (yc call195 (yc call197 (yc call198 (yc call201 (yc call297 (yc call284 (yc call253 (yc call293 (yc call254 (yc call294 (yc call286 (yc call285 (yc call200 (yc call204 (yc call205 (yc call118 (yc call117 (yc call112 (yc call113 (yc call114 (yc call115 (yc call134 (yc call87 (yc call86 (yc call257 (yc call208 (yc call206 (yc call207 (yc call209 (yc call119 (yc call211 (yc call224 (yc call137 (yc call120 (yc call121 (yc call122 (yc call71 (yc call72 (yc call136 (yc call91 (yc call138 (yc call140 (yc call141 (yc call139 (yc call88 (yc call142 (yc call225 (yc call89 (yc call143 (yc call144 (yc call145 (yc call90 (yc call59 (yc call106 (yc call74 (yc call44 (yc call33 (yc call46 (yc call69 (yc call34 (yc call40 (yc call146 (yc call148 (yc call95 (yc call96 (yc call85 (yc call60 (yc call55 (yc call54 (yc call56 (yc call57 (yc call75 (yc call62 (yc call130 (yc call80 (yc call76 (yc call79 (yc call45 (yc call25 (yc call47 (yc call49 (yc call48 (yc call31 (yc call32 (yc call16 (yc call18 (yc call12 (yc call22 (yc call20 (yc call14 (yc call37 (yc call68 (yc call38 (yc call99 (yc call100 (yc call101 (yc call63 (yc call102 (yc call64 (yc call65 (yc call66 (yc call84 (yc call35 (yc call53 (yc call10 (yc call15 (yc call11 (yc call21 (yc call24 (yc call29 (yc call28 (List.forall_mem_nil _)))))))))))))))))))))))))))))))))))))))))))))))))))))))))))))))))))))))))))))))))))))))))))))))))))))))))))))))))))))))))))))))))))))))))))))))))))))))))))))))))))))))))))))))⟩
theorem Iz{h0 N:Nat}{all:Array Oper}{o:Oper}{l:List Oper}{env:Env}{H:Qc}{Q:QC}{d:Nat}{α:Type}{e:α->List A}{t et k:Nat}{L:List α}{kk:IntKind}{i:Int}{v:α}(h:idx L i=some v)(q:ixB o env=some (d,t,k,L.map e,kk,i))(g:WO prog h0 N all l (up env d (.rp (e v))) H Q)(ht:QbP tyZ.sl t=some (et,k):=by exact rfl)(hg:Y1 all o env=some true:=by exact rfl)(hN:Nat.blt d N=true:=by exact rfl):WO prog h0 N all (o::l) env H Q:=Izz QdT h q g ht hg hN
theorem IzE{h0 N:Nat}{all:Array Oper}{o:Oper}{l:List Oper}{env:Env}{H:Qc}{Q:QC}{d:Nat}{α:Type}{e:α->List A}{t et k:Nat}{L:List α}{kk:IntKind}{i:Int}{v:α}{cs:List A}(h:idx L i=some v)(he:e v=cs)(q:ixB o env=some (d,t,k,L.map e,kk,i))(g:WO prog h0 N all l (up env d (.rp cs)) H Q)(ht:QbP tyZ.sl t=some (et,k):=by exact rfl)(hg:Y1 all o env=some true:=by exact rfl)(hN:Nat.blt d N=true:=by exact rfl):WO prog h0 N all (o::l) env H Q:=Ize QdT h he q g ht hg hN
theorem Lm{h0 N:Nat}{all:Array Oper}{o:Oper}{l:List Oper}{env:Env}{H:Qc}{Q:QC}{d:Nat}{α:Type}{e:α->List A}{t et k k':Nat}{L:List α}(q:lnB o env=some (d,t,.mk (.rsl k (L.map e))))(g:WO prog h0 N all l (up env d (I L.length)) H Q)(ht:QbP tyZ.sl t=some (et,k'):=by exact rfl)(hg:Y1 all o env=some true:=by exact rfl)(hN:Nat.blt d N=true:=by exact rfl):WO prog h0 N all (o::l) env H Q:=Lmz QdT q g ht hg hN
theorem Cz{h0 N:Nat}{all:Array Oper}{o:Oper}{l:List Oper}{env:Env}{H:Qc}{Q:QC}{d:Nat}{β γ:Type}{F:Option β}{F':β->Option γ}{r:γ}{f:Nat}{args argsc:List A}{w:β->A}{Hc:Qc}(π:List Nat)(h:F.bind F'=some r)(hC:∀v,F=some v->C prog f argsc Hc (RQ w (λ_=>Hc) v))(hop:Qe9 tyZ o env=some (d,f,args))(g:∀v,F=some v->F' v=some r->WO prog h0 N all l (up env d (w v)) H Q)(hv:∀v,Qh3 (w v)=some (.mk (w v)):=by exact λ_=>rfl)(hargs:args=Qaa (rho π H.length) argsc:=by exact rfl)(hH:π.map (λp=>H[p]?)=(Hc.map (QZ (rho π H.length))).map some:=by exact rfl)(hπ:π.Nodup:=by decide)(hg:Y1 all o env=some true:=by exact rfl)(hN:Nat.blt d N=true:=by exact rfl)(hh:Nat.ble h0 H.length=true:=by exact rfl):WO prog h0 N all (o::l) env H Q:=Czz QdT π h hC hop g hv hargs hH hπ hg hN hh
theorem Cb{h0 N:Nat}{all:Array Oper}{o:Oper}{l:List Oper}{env:Env}{H:Qc}{Q:QC}{d:Nat}{β γ:Type}{F:Option β}{F':β->Option γ}{r:γ}{f:Nat}{args argsc:List A}{w:β->A}(h:F.bind F'=some r)(hC:∀v,F=some v->C prog f argsc [] (RQ w Ze v))(hop:Qe9 tyZ o env=some (d,f,args))(hL:Qa3 H args argsc)(g:∀v,F=some v->F' v=some r->WO prog h0 N all l (up env d (w v)) H Q)(hv:∀v,Yb (w v)=true:=by exact λ_=>rfl)(hg:Y1 all o env=some true:=by exact rfl)(hN:Nat.blt d N=true:=by exact rfl):WO prog h0 N all (o::l) env H Q:=Cbz QdT h hC hop hL g hv hg hN
theorem Dz{N m:Nat}{o:Oper}{l ll:List Oper}{ds:List Nat}{xs:List A}{env:Env}{H:Qc}{K:List Oper->Env->Qc->Prop}{d:Nat}{β γ:Type}{F:Option β}{F':β->Option γ}{r:γ}{f:Nat}{args argsc:List A}{w:β->A}{Hc:Qc}(π:List Nat)(h:F.bind F'=some r)(hC:∀v,F=some v->C prog f argsc Hc (RQ w (λ_=>Hc) v))(hop:Qe9 tyZ o (Yi (Qh o) 0 ds xs env)=some (d,f,args))(g:∀v,F=some v->F' v=some r->DS prog N m ll ds env H K l (xs++[w v]))(hv:∀v,Qh3 (w v)=some (.mk (w v)):=by exact λ_=>rfl)(hargs:args=Qaa (rho π H.length) argsc:=by exact rfl)(hH:π.map (λp=>H[p]?)=(Hc.map (QZ (rho π H.length))).map some:=by exact rfl)(hπ:π.Nodup:=by decide)(hg:Y1 ll.toArray o (Yi (Qh o) 0 ds xs env)=some true:=by exact rfl)(hN:Nat.blt d N=true:=by exact rfl)(hx:Nat.blt xs.length m=true:=by exact rfl):DS prog N m ll ds env H K (o::l) xs:=DzZ QdT π h hC hop g hv hargs hH hπ hg hN hx
theorem DSs{h0 N id:Nat}{l:List Oper}{env:Env}{H:Qc}{Q:QC}(m:Nat)(hc:Go.Sw.draw0 l m N (Qal m 0 l)=true)(h:DS prog N m l (Qal m 0 l) env H (λr e H=>WO prog h0 N l.toArray r e H Q) l [])(h0B:Nat.ble h0 H.length=true:=by exact rfl):TC prog h0 N (.region id l.toArray true) env H Q:=QmQ (k:=[]) m draws hc h0B h
theorem Da{N m:Nat}{cat:List Nat}{l r r':List Oper}{ds:List Nat}{env:Env}{H:Qc}{K:List Oper->Env->Qc->Prop}{xs xs':List A}(n:Nat)(h:QgS tyX N m cat l ds env H n xs.length r xs=some (r',xs'))(k:DA prog N m cat l ds env H K r' xs'):DA prog N m cat l ds env H K r xs:=Qd7 Qbq n _ rfl h k
theorem Db{N m:Nat}{cat:List Nat}{l r r':List Oper}{ds:List Nat}{env:Env}{H H1:Qc}{K:List Oper->Env->Qc->Prop}{xs xs':List A}(n:Nat)(h:Qd6 tyX N cat l ds env H1 n xs.length r xs=some (r',xs'))(k:DB prog N m cat l ds env H H1 K r' xs'):DB prog N m cat l ds env H H1 K r xs:=Qbx Qbq n _ rfl h k
theorem Dk{N m n:Nat}{bs:List Nat}{cat:Kat}{l r r':List Oper}{ds:List Nat}{env:Env}{X:Qc}{Hs Hs':List Qc}{K:List Oper->Env->Qc->Prop}{xs xs':List A}(k:Nat)(h:Qd5 tyX N m cat l ds env n k xs.length Hs.length Hs X r xs=some (Hs',r',xs'))(g:DK prog N m bs cat l ds env n K Hs' X r' xs'):DK prog N m bs cat l ds env n K Hs X r xs:=Qbw Qbq k _ _ rfl rfl h g
theorem DKs{h0 N id:Nat}{l:List Oper}{env:Env}{H:Qc}{Q:QC}(m:Nat)(bs:List Nat)(cat:Kat)(hc:Qdp l m N (Qal m 0 l) (hsK cat) (rqK bs cat) (msK bs) (plK cat)=true)(h:DK prog N m bs cat l (Qal m 0 l) env H.length (λr e H=>WO prog h0 N l.toArray r e H Q) [] H l [])(hcl:Nat.beq cat.length m=true:=by exact rfl)(h0B:Nat.ble h0 H.length=true:=by exact rfl):TC prog h0 N (.region id l.toArray true) env H Q:=QmR m bs cat draws hc hcl h0B h
theorem DAs{h0 N id:Nat}{l:List Oper}{env:Env}{H:Qc}{Q:QC}(m b:Nat)(cat:List Nat)(hc:Qdp l m N (Qal m 0 l) (hsC cat) (rqC b cat) [[],[b]] (plC cat)=true)(h:DA prog N m cat l (Qal m 0 l) env H (λr e H=>WO prog h0 N l.toArray r e H Q) l [])(hcl:Nat.beq cat.length m=true:=by exact rfl)(h0B:Nat.ble h0 H.length=true:=by exact rfl):TC prog h0 N (.region id l.toArray true) env H Q:=QmS m b cat draws hc hcl h0B h
theorem Cd{h0 N:Nat}{all:Array Oper}{o:Oper}{l:List Oper}{env:Env}{H:Qc}{Q:QC}{d:Nat}{β γ:Type}{F:Option β}{F':β->Option γ}{r:γ}{f:Nat}{args argsc:List A}{w:β->A}{Hc:Qc}{Hr:β->Qc}(π:List Nat)(h:F.bind F'=some r)(hC:∀v,F=some v->C prog f argsc Hc (RQ w Hr v))(hop:Qe9 tyZ o env=some (d,f,args))(g:∀v,F=some v->F' v=some r->WO prog h0 N all l (up env d (Yx (rho π H.length) (w v))) (Yg H π ((Hr v).map (QZ (rho π H.length)))) Q)(hargs:args=Qaa (rho π H.length) argsc:=by exact rfl)(hH:π.map (λp=>H[p]?)=(Hc.map (QZ (rho π H.length))).map some:=by exact rfl)(hπ:π.Nodup:=by decide)(hg:Y1 all o env=some true:=by exact rfl)(hN:Nat.blt d N=true:=by exact rfl)(hh:Nat.ble h0 H.length=true:=by exact rfl):WO prog h0 N all (o::l) env H Q:=Cdz QdT π h hC hop g hargs hH hπ hg hN hh
theorem v0{N:Nat}{l:List Oper}{ds:List Nat}{xs:List A}{env0:Env}{hB hE i:Nat}{H:Qc}{x:A}(hx:xs[i]?=some x)(h:QiR tyT N l ds xs env0 H i=some x):Jo prog N l ds xs env0 hB hE i H H:=vQ tyOK hx h
theorem ov{N:Nat}{l:List Oper}{ds:List Nat}{xs:List A}{env0:Env}{i c:Nat}{H:Qc}{x:A}(k:Oq prog N l ds xs env0 H (i+1) c)(hx:xs[i]?=some x:=by exact rfl)(h:QiR tyT N l ds xs env0 H i=some x:=by exact rfl):Oq prog N l ds xs env0 H i (c+1):=.c (vQ tyOK hx h) k
theorem Gy0{T:Type}{X:Ctx T}{st:YSt T}{h0 N:Nat}{c:Code}{c':Cf}{k':List Kf}{env env':Env}{H H':Qc}{Q:Yq T}(n:Nat)(h:QjH tyX h0 N n (.code c) [] env H=some (c',k',env',H'))(g:HdY X prog h0 N c' k' env' H' st Q):TCy X prog h0 N c env H st Q:=QdB Qbq n h g
theorem Gyo{T:Type}{X:Ctx T}{st:YSt T}{h0 N:Nat}{k:List Kf}{all:Array Oper}{l:List Oper}{c':Cf}{k':List Kf}{env env':Env}{H H':Qc}{Q:Yq T}(n:Nat)(h:QjH tyX h0 N n (.ops all l) k env H=some (c',k',env',H'))(g:HdY X prog h0 N c' k' env' H' st Q):WOy X prog h0 N all l env H st (kqY X prog h0 N k Q):=QdB Qbq n h g
theorem Gyx{T:Type}{X:Ctx T}{st:YSt T}{h0 N:Nat}{k:List Kf}{x:AEx}{c':Cf}{k':List Kf}{env env':Env}{H H':Qc}{Q:Yq T}(n:Nat)(h:QjH tyX h0 N n (.out x) k env H=some (c',k',env',H'))(g:HdY X prog h0 N c' k' env' H' st Q):kqY X prog h0 N k Q x env H st:=QdB Qbq n h g
theorem DSy{T:Type}{X:Ctx T}{st:YSt T}{h0 N id:Nat}{l:List Oper}{env:Env}{H:Qc}{Q:Yq T}(m:Nat)(hc:Go.Sw.draw0 l m N (Qal m 0 l)=true)(h:DS prog N m l (Qal m 0 l) env H (λr e H=>WOy X prog h0 N l.toArray r e H st Q) l [])(h0B:Nat.ble h0 H.length=true:=by exact rfl):TCy X prog h0 N (.region id l.toArray true) env H st Q:=QkK m draws hc h0B h
def lay_contains_275_ren:Go.Shelf.Ren:=⟨λ|144=>275|143=>292|219=>296|217=>298|225=>299|224=>300|267=>301|266=>302|314=>303|n=>n,λ|9=>9|4=>4|3=>3|5=>5|46=>172|146=>219|51=>218|n=>n,λ|1=>0|n=>n⟩
theorem Qc4:Go.Proofs.Lays.n144 prog lay_contains_275_ren:={
  mixed:=by kernel_rfl
  f143:=func292.trans (congrArg some (by kernel_rfl))
  f144:=func275.trans (congrArg some (by kernel_rfl))
  f217:=func298.trans (congrArg some (by kernel_rfl))
  f219:=func296.trans (congrArg some (by kernel_rfl))
  f224:=func300.trans (congrArg some (by kernel_rfl))
  f225:=func299.trans (congrArg some (by kernel_rfl))
  f266:=func302.trans (congrArg some (by kernel_rfl))
  f267:=func301.trans (congrArg some (by kernel_rfl))
  f314:=func303.trans (congrArg some (by kernel_rfl))
  t3:=underlying3
  a3:=isAgg3
  z3:=sizeOf3
  v3:=zeroValue3
  t4:=underlying4
  a4:=isAgg4
  z4:=sizeOf4
  v4:=zeroValue4
  t5:=underlying5
  a5:=isAgg5
  z5:=sizeOf5
  v5:=zeroValue5
  t9:=underlying9
  a9:=isAgg9
  z9:=sizeOf9
  v9:=zeroValue9
  t46:=underlying172
  a46:=isAgg172
  z46:=sizeOf172
  v46:=zeroValue172
  t51:=underlying218
  a51:=isAgg218
  z51:=sizeOf218
  v51:=zeroValue218
  t146:=underlying219
  a146:=isAgg219
  z146:=sizeOf219
  v146:=zeroValue219
  g1:=by kernel_rfl}
def lay_sortI_124_ren:Go.Shelf.Ren:=⟨λ|189=>124|125=>128|257=>213|128=>222|129=>223|294=>258|295=>259|296=>260|297=>261|298=>262|299=>263|216=>264|300=>265|301=>266|328=>287|329=>268|330=>269|331=>288|332=>289|215=>134|343=>295|n=>n,λ|28=>32|3=>3|46=>172|0=>0|51=>218|53=>221|4=>4|183=>294|182=>293|131=>122|5=>5|9=>9|218=>330|222=>334|228=>351|229=>202|n=>n,λ|n=>n⟩
theorem QbS:Go.Proofs.Lays.n189 prog lay_sortI_124_ren:={
  mixed:=by kernel_rfl
  f125:=func128.trans (congrArg some (by kernel_rfl))
  f128:=func222.trans (congrArg some (by kernel_rfl))
  f129:=func223.trans (congrArg some (by kernel_rfl))
  f189:=func124.trans (congrArg some (by kernel_rfl))
  f215:=func134.trans (congrArg some (by kernel_rfl))
  f216:=func264.trans (congrArg some (by kernel_rfl))
  f257:=func213.trans (congrArg some (by kernel_rfl))
  f294:=func258.trans (congrArg some (by kernel_rfl))
  f295:=func259.trans (congrArg some (by kernel_rfl))
  f296:=func260.trans (congrArg some (by kernel_rfl))
  f297:=func261.trans (congrArg some (by kernel_rfl))
  f298:=func262.trans (congrArg some (by kernel_rfl))
  f299:=func263.trans (congrArg some (by kernel_rfl))
  f300:=func265.trans (congrArg some (by kernel_rfl))
  f301:=func266.trans (congrArg some (by kernel_rfl))
  f328:=func287.trans (congrArg some (by kernel_rfl))
  f329:=func268.trans (congrArg some (by kernel_rfl))
  f330:=func269.trans (congrArg some (by kernel_rfl))
  f331:=func288.trans (congrArg some (by kernel_rfl))
  f332:=func289.trans (congrArg some (by kernel_rfl))
  f343:=func295.trans (congrArg some (by kernel_rfl))
  t0:=underlying0
  a0:=isAgg0
  z0:=sizeOf0
  v0:=zeroValue0
  t3:=underlying3
  a3:=isAgg3
  z3:=sizeOf3
  v3:=zeroValue3
  t4:=underlying4
  a4:=isAgg4
  z4:=sizeOf4
  v4:=zeroValue4
  t5:=underlying5
  a5:=isAgg5
  z5:=sizeOf5
  v5:=zeroValue5
  t9:=underlying9
  a9:=isAgg9
  z9:=sizeOf9
  v9:=zeroValue9
  t28:=underlying32
  a28:=isAgg32
  z28:=sizeOf32
  v28:=zeroValue32
  t46:=underlying172
  a46:=isAgg172
  z46:=sizeOf172
  v46:=zeroValue172
  t51:=underlying218
  a51:=isAgg218
  z51:=sizeOf218
  v51:=zeroValue218
  t53:=underlying221
  a53:=isAgg221
  z53:=sizeOf221
  v53:=zeroValue221
  t131:=underlying122
  a131:=isAgg122
  z131:=sizeOf122
  v131:=zeroValue122
  t182:=underlying293
  a182:=isAgg293
  z182:=sizeOf293
  v182:=zeroValue293
  t183:=underlying294
  a183:=isAgg294
  z183:=sizeOf294
  v183:=zeroValue294
  t218:=underlying330
  a218:=isAgg330
  z218:=sizeOf330
  v218:=zeroValue330
  t222:=underlying334
  a222:=isAgg334
  z222:=sizeOf334
  v222:=zeroValue334
  t228:=underlying351
  a228:=isAgg351
  z228:=sizeOf351
  v228:=zeroValue351
  t229:=underlying202
  a229:=isAgg202
  z229:=sizeOf202
  v229:=zeroValue202}
def lay_sortK_77_ren:Go.Shelf.Ren:=⟨λ|6=>77|15=>128|14=>127|28=>222|29=>223|20=>214|21=>215|22=>216|23=>217|24=>218|25=>219|26=>220|27=>221|46=>267|47=>268|48=>269|49=>270|50=>271|57=>290|n=>n,λ|22=>162|24=>167|25=>169|3=>3|39=>172|0=>0|53=>218|55=>221|4=>4|46=>294|45=>293|50=>122|5=>5|9=>9|66=>330|70=>334|76=>351|77=>202|n=>n,λ|n=>n⟩
theorem Qgb:Go.Proofs.SlLaysF0.n6 prog lay_sortK_77_ren:={
  mixed:=by kernel_rfl
  f6:=⟨f77.name,by decide,func77.trans (congrArg some (by kernel_rfl))⟩
  f14:=⟨f127.name,by decide,func127.trans (congrArg some (by kernel_rfl))⟩
  f15:=func128.trans (congrArg some (by kernel_rfl))
  f20:=⟨f214.name,by decide,func214.trans (congrArg some (by kernel_rfl))⟩
  f21:=⟨f215.name,by decide,func215.trans (congrArg some (by kernel_rfl))⟩
  f22:=⟨f216.name,by decide,func216.trans (congrArg some (by kernel_rfl))⟩
  f23:=⟨f217.name,by decide,func217.trans (congrArg some (by kernel_rfl))⟩
  f24:=⟨f218.name,by decide,func218.trans (congrArg some (by kernel_rfl))⟩
  f25:=⟨f219.name,by decide,func219.trans (congrArg some (by kernel_rfl))⟩
  f26:=⟨f220.name,by decide,func220.trans (congrArg some (by kernel_rfl))⟩
  f27:=⟨f221.name,by decide,func221.trans (congrArg some (by kernel_rfl))⟩
  f28:=func222.trans (congrArg some (by kernel_rfl))
  f29:=func223.trans (congrArg some (by kernel_rfl))
  f46:=⟨f267.name,by decide,func267.trans (congrArg some (by kernel_rfl))⟩
  f47:=func268.trans (congrArg some (by kernel_rfl))
  f48:=func269.trans (congrArg some (by kernel_rfl))
  f49:=⟨f270.name,by decide,func270.trans (congrArg some (by kernel_rfl))⟩
  f50:=⟨f271.name,by decide,func271.trans (congrArg some (by kernel_rfl))⟩
  f57:=⟨f290.name,by decide,func290.trans (congrArg some (by kernel_rfl))⟩
  t0:=underlying0
  a0:=isAgg0
  z0:=sizeOf0
  v0:=zeroValue0
  t3:=underlying3
  a3:=isAgg3
  z3:=sizeOf3
  v3:=zeroValue3
  t4:=underlying4
  a4:=isAgg4
  z4:=sizeOf4
  v4:=zeroValue4
  t5:=underlying5
  a5:=isAgg5
  z5:=sizeOf5
  v5:=zeroValue5
  t9:=underlying9
  a9:=isAgg9
  z9:=sizeOf9
  v9:=zeroValue9
  t22:=underlying162
  a22:=isAgg162
  z22:=sizeOf162
  v22:=zeroValue162
  t25:=underlying169
  a25:=isAgg169
  z25:=sizeOf169
  v25:=zeroValue169
  t39:=underlying172
  a39:=isAgg172
  z39:=sizeOf172
  v39:=zeroValue172
  t45:=underlying293
  a45:=isAgg293
  z45:=sizeOf293
  v45:=zeroValue293
  t46:=underlying294
  a46:=isAgg294
  z46:=sizeOf294
  v46:=zeroValue294
  t50:=underlying122
  a50:=isAgg122
  z50:=sizeOf122
  v50:=zeroValue122
  t53:=underlying218
  a53:=isAgg218
  z53:=sizeOf218
  v53:=zeroValue218
  t55:=underlying221
  a55:=isAgg221
  z55:=sizeOf221
  v55:=zeroValue221
  t66:=underlying330
  a66:=isAgg330
  z66:=sizeOf330
  v66:=zeroValue330
  t70:=underlying334
  a70:=isAgg334
  z70:=sizeOf334
  v70:=zeroValue334
  t76:=underlying351
  a76:=isAgg351
  z76:=sizeOf351
  v76:=zeroValue351
  t77:=underlying202
  a77:=isAgg202
  z77:=sizeOf202
  v77:=zeroValue202}
end Go.Sw
