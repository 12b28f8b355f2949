/- Standing and Deadline match the specification. -/
import Derived.Test.YtbhpipneolcmkaaGreatDoorQ21St
set_option linter.unusedVariables false
set_option linter.unusedSimpArgs false
namespace Go.Sw
theorem law_ProtestsStandingSpec(c:Course)(l:List Fact)(p:Protest)(k:Int)(h:Course.wf c)(hl:l.length<=1048576/\ ∀f∈l,Fact.wf f)(B:Protest.wf p)(z:Qp .i64 k):∃n,F_fn n c l p k=some true:=by
 have w:=Qkm h;have q:=Qlm h;obtain⟨j,r⟩:=Qpo h;obtain⟨b,t,fb⟩:=QmL c w q j r;refine Ev.ex ?_;unfold F_fn;refine Ea (Ez Qql) ?_;simp only[Xh,Vm];refine Ea (v:= !b|| !decide ((l.length:Int)<=12)) (Ea t (Ep λ_=>Ea (v:=()) (Qa _) (Qa _))) ?_;cases m:(!b|| !decide ((l.length:Int)<=12))with
 |true=>exact Qa _
 |false=>
  rw[XV,Bool.not_eq_false',Bool.not_eq_false']at m;obtain⟨u,d⟩:=m;have y:l.length<=12:=by have:=Vs d;omega
  obtain⟨e,s,a⟩:=QjW c w q (fb u) j r;simp only[Vm];refine Ea (QdT [k,1,2,p.Case] (λ_=>false) (λ_=>false) (by simp) (λi x g=>?_) ?_) ?_
  .unfold F_ku;simp only[g.lt,Vl,g.ix,XH,g.nx];refine Ea (QjT e c l x (by omega) s) (Ea (Qge e c l x (by omega) a) ?_);refine Ea (v:=false) ?_ (Qa _);rw[Qld,Qld];refine Ye (Ye (Ea (QjS e c l _ (by omega) s) (Ea (Qgb e c l _ (by omega) a) ?_)));rw[Qld];exact Qa _
  .unfold F_ku;simp only[Yu,Vm];exact Qa _
  .exact Qa _
end Go.Sw
