/- Cases agrees with the specification. -/
import Derived.Test.YtdlojdpflfdgcaaGreatDoorQ22Cs
set_option linter.unusedVariables false
set_option linter.unusedSimpArgs false
namespace Go.Sw
theorem law_PenaltiesCasesSpec(c:Course)(l:List Fact)(a:Int)(g:Course.wf c)(hl:l.length<=1048576/\ ∀f∈l,Fact.wf f)(q:Qq .i64 a):∃n,F_ek n c l a=some true:=by
 obtain⟨b,j,fb⟩:=QoQ c g;refine Ev.ex ?_;unfold F_ek;refine Ea (Ez Qqo) (Yw (Ea (QoA l j) ?_));cases e:(b&&decide ((l.length:Int)<=14))with
 |false=>exact Qa _
 |true=>
  simp only[XT,Vk]at e;obtain⟨d,h⟩:=e;obtain⟨m,i⟩:=fb d;have k:=ref22 c g m;obtain⟨r,p⟩:=Qk3 (courseE c) c l a;refine Yw (Ea (QoF _ c l a (by omega) i) (Ea (QmW _ c l a (by omega) k) (Ea (Ea (QmU _ _ (by omega)) ?_) (Qa _))));rw[YH rfl];refine Qkd (Ea (QmT _ _ (by omega)) ?_);rw[YH rfl];exact Qa _
end Go.Sw
