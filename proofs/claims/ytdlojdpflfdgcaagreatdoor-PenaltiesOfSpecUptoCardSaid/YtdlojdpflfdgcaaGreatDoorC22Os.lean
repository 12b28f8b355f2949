/- Of and Extra agree with the specification. -/
import Derived.Test.YtdlojdpflfdgcaaGreatDoorQ22Os
set_option linter.unusedVariables false
set_option linter.unusedSimpArgs false
namespace Go.Sw
theorem CH(c:AE)(l:AA AC)(a:Int)(d:AE.wf c)(hl:l.length<=1048576/\ ∀f∈l,AC.wf f)(t:Qp .i64 a):∃n,Rm n c l a=some true:=by
 obtain⟨b,r,fb⟩:=wn c d;refine Ev.ex ?_;unfold Rm;refine Ea (EA uo) (Yc (Ea (wX l r) ?_));cases g:(b&&decide ((l.length:Int)<=14))with
 |false=>exact Qa _
 |true=>
  simp only[XU,Vm]at g;obtain⟨e,k⟩:=g;obtain⟨m,p⟩:=fb e;have q:=TP c d m;have j:=vZ (lU d) (lN d);have s:=vi (AV c) c l a;have h:=VQ _ c l a (by omega) p j;have i:=vw c l a (by omega) q j;refine Yc (Ea (Ea h (Ea i (Ea (xu _ _ (by omega)) ?_))) (Qa _));rw[Yb rfl];refine Ot (Ea (v:=N4 (NI (AV c) c l a)) ?_ (Ea (v:=N4 (NI (AV c) c l a)) ?_ ?_))
  .unfold M0;exact Ea h (Ea (oy _ (by omega)) (Qa _))
  .unfold Rc;exact Ea i (Ea (oy _ (by omega)) (Qa _))
  .rw[beq_self_eq_true];exact Qa _
end Go.Sw
