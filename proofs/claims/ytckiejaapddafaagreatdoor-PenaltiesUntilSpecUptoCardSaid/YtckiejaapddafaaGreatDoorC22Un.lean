/- Until agrees with the reference. -/
import Derived.Test.YtckiejaapddafaaGreatDoorQ22Un
set_option linter.unusedVariables false
set_option linter.unusedSimpArgs false
namespace Go.Sw
theorem QfV(x:List Penalty)(p:Int)(hl:x.length<=1048576):Ev (λn=>F_z n x p) (untF x p):=by
 unfold F_z;refine Ea (v:=untF x p) (Qcn x (untS p) (0,0,false) (λs i=>(s.1,s.2.1,s.2.2,(i:Int))) (λs=>s) (by omega) rfl (λi y s ha _=>?_) ?_) (QY _)
 .unfold F_ga;simp only[ha.lt,Vk,ha.ix,XH,ha.nx];refine Ea (v:=untS p s y) ?_ (QY _);unfold untS;cases decide (y.Position<=p)with
  |false=>exact QY _
  |true=>cases s.2.2<;>exact QY _
 .unfold F_ga;simp only[end_,Vl];exact QY _
theorem law_PenaltiesUntilSpec(x:List Penalty)(p:Int)(a:x.length<=1048576/\ ∀y∈x,Penalty.wf y)(b:Qc1 .i64 p):∃n,F_ao n x p=some true:=by
 refine Ev.ex ?_;unfold F_ao;refine Ea (Ev.const Qkz) ?_;simp only[Bool.not_true,Vl];cases decide (500<(x.length:Int))with
 |true=>exact QY _
 |false=>
  refine Ev.ff (Ea (QiY x p a.1) (Ea (QfV x p a.1) ?_));simp only[beq_self_eq_true];exact QY _
end Go.Sw
