/- Shorter forms still, for the texts of a claim. -/
import Derived.Test.YtkjlhfabbbomjaaGreatDoorSxC
set_option linter.unusedVariables false
set_option linter.unusedSectionVars false
namespace Go.Sw
theorem Z.{u} {α : Sort u} {a : α} : a = a := rfl
section
variable {P : Program} {h0 N : Nat} {all : Array Oper} {env : Env} {H H' : Heap} {Q : Post} {l : List Oper} {o : Oper} {d : Nat}
theorem aV (x : A) (H : Heap) {x' : A} {H' : Heap} (hx : x' = x) (hH : H' = H) (k : WO P h0 N all l (up env d x) H Q) : WO P h0 N all l (up env d x') H' Q := by subst hx; subst hH; exact k
theorem vX (x : A) (hop : OpV P o env H x) (k : WO P h0 N all l (up env d x) H Q) (hg : wantedA all o env true := by exact rfl) (hd : o.dst = some d := by exact rfl) (hN : Nat.blt d N = true := by exact rfl) : WO P h0 N all (o :: l) env H Q :=
 WO.opV hg hd hN hop k
theorem OB {l : List Oper} {ds : List Nat} {xs : List A} {env0 : Env} {i : Nat} (e : Env) (d : Nat) {o : Oper} {x : A} (ho : l[i]? = some o) (hd : o.dst = some d) (hx : xs[i]? = some x) (hs : Sb (afters o) (befs l i) ds xs env0 e)
  (h : WO P H.length N l.toArray [o] e H (Post1 (up e d x) H')) : ∀ p ∈ [(H, H')], OblAt P N l ds xs env0 i p.1 p.2 := Ob.stC (OblAt.mk o e d x ho hd hx hs h) Ob.st0
theorem Wp : WO P h0 N all [] env H (Post1 env H) := WO.nil Post1.mk
end
end Go.Sw
