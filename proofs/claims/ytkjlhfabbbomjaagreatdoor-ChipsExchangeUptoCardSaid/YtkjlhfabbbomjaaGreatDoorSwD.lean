/- A call by its contract inside a region. -/
import Derived.Test.YtkjlhfabbbomjaaGreatDoorSwC
set_option linter.unusedVariables false
set_option linter.unusedSectionVars false
set_option linter.unusedSimpArgs false
namespace Go.Sw
def rho (π : List Nat) (n i : Nat) : Nat :=
 match π[i]? with
 | some p => p
 | none => n + (i - π.length)
def setAll : Heap → List Nat → List Blk → Heap
 | H, [], xs => H ++ xs
 | H, p :: π, x :: xs => setAll (H.set p x) π xs
 | H, _ :: _, [] => H
theorem setAll_length : ∀ (π : List Nat) (H : Heap) (xs : List Blk), π.length ≤ xs.length → (setAll H π xs).length = H.length + (xs.length - π.length)
 | [], H, xs, _ => by simp [setAll]
 | p :: π, H, [], h => by simp at h
 | p :: π, H, x :: xs, h => by
  simp only [List.length_cons] at h
  simp only [setAll, setAll_length π (H.set p x) xs (by omega), List.length_set, List.length_cons]
  omega
theorem setAll_old : ∀ (π : List Nat) (H : Heap) (xs : List Blk) (i : Nat), i < H.length → i ∉ π → (setAll H π xs)[i]? = H[i]?
 | [], H, xs, i, hi, _ => by simp [setAll, List.getElem?_append_left hi]
 | p :: π, H, [], i, hi, h => by simp [setAll]
 | p :: π, H, x :: xs, i, hi, h => by
  simp only [List.mem_cons, not_or] at h
  simp only [setAll]
  rw [setAll_old π (H.set p x) xs i (by simpa using hi) h.2, List.getElem?_set_ne (fun e => h.1 e.symm)]
theorem setAll_rho : ∀ (π : List Nat) (H : Heap) (xs : List Blk) (j : Nat), π.length ≤ xs.length → (∀ p ∈ π, p < H.length) → π.Nodup →
  (setAll H π xs)[rho π H.length j]? = xs[j]?
 | [], H, xs, j, _, _, _ => by
  simp only [setAll, rho, List.getElem?_nil, List.length_nil, Nat.sub_zero]
  rw [List.getElem?_append_right (by omega)]
  congr 1; omega
 | p :: π, H, [], j, h, _, _ => by simp at h
 | p :: π, H, x :: xs, j, h, hp, hn => by
  simp only [List.length_cons] at h
  have hn' := List.nodup_cons.1 hn
  simp only [setAll]
  cases j with
  | zero =>
   simp only [rho, List.getElem?_cons_zero]
   rw [setAll_old π _ xs p (by simpa using hp p (by simp)) hn'.1]
   rw [List.getElem?_set_self (hp p (by simp))]
  | succ j =>
   have ih := setAll_rho π (H.set p x) xs j (by omega) (fun q hq => by simpa using hp q (by simp [hq])) hn'.2
   rw [List.length_set] at ih
   have e : rho (p :: π) H.length (j + 1) = rho π H.length j := by
    simp only [rho, List.getElem?_cons_succ, List.length_cons]
    cases π[j]? with
    | none => simp only []; congr 1; omega
    | some q => rfl
   rw [e, ih]; simp
theorem rho_cases (π : List Nat) (n i : Nat) (hi : n ≤ i ∨ i ∈ π) : ∃ j, i = rho π n j := by
 rcases hi with hi | hi
 ·refine ⟨π.length + (i - n), ?_⟩
  have : π[π.length + (i - n)]? = none := List.getElem?_eq_none (by omega)
  simp only [rho, this]; omega
 ·obtain ⟨j, hj, rfl⟩ := List.mem_iff_getElem.1 hi
  exact ⟨j, by simp [rho, List.getElem?_eq_getElem hj]⟩
def sigOf (σ : Sig) (π : List Nat) : Sig := π.map fun p => (σ[p]?).getD none
theorem sig_rho {σ τ : Sig} {π : List Nat} {n : Nat} (hn : σ.length = n) (hp : ∀ p ∈ π, p < n) (j : Nat) : (σ ++ τ)[rho π n j]? = (sigOf σ π ++ τ)[j]? := by
 rcases Nat.lt_or_ge j π.length with h | h
 ·have hm : π[j] ∈ π := List.getElem_mem h
  have hlt := hp _ hm
  have e : rho π n j = π[j] := by simp [rho, List.getElem?_eq_getElem h]
  rw [e, List.getElem?_append_left (by omega), List.getElem?_append_left (by simpa [sigOf] using h)]
  simp [sigOf, List.getElem?_eq_getElem h, List.getElem?_eq_getElem (show π[j] < σ.length by omega)]
 ·have e : rho π n j = n + (j - π.length) := by
   simp [rho, List.getElem?_eq_none h]
  rw [e, List.getElem?_append_right (by omega), List.getElem?_append_right (by simpa [sigOf] using h)]
  simp [sigOf, hn]
def OpC (P : Program) (o : Oper) (env : Env) (H : Heap) (f : FuncId) (args : List A) : Prop :=
 ∀ fr ro σ N a w, Rel fr ro σ H env N a w → ∃ vals : List Value, (execOp a.eval o).run P w = .ok (.enter f vals.toArray) w ∧ LR ro σ w args vals
theorem mem_of_map_some {π : List Nat} {H : Heap} {Hc : List Blk} (hH : π.map (fun p => H[p]?) = Hc.map some) {p : Nat} (hp : p ∈ π) : p < H.length := by
 have : H[p]? ∈ π.map (fun p => H[p]?) := List.mem_map_of_mem hp
 rw [hH] at this
 obtain ⟨x, _, hx⟩ := List.mem_map.1 this
 rcases Nat.lt_or_ge p H.length with h | h
 ·exact h
 ·rw [List.getElem?_eq_none h] at hx; simp at hx
theorem WO.call {P : Program} {h0 N : Nat} {all : Array Oper} {o : Oper} {l : List Oper} {env : Env} {H : Heap} {Q : Post} {d : Option Nat} {f : FuncId}
  {args argsc : List A} {Hc : Heap} {Qr : A → Heap → Prop} (π : List Nat) (hh : h0 ≤ H.length) (hg : wantedA all o env true) (hd : o.dst = d) (hN : ∀ x, d = some x → x < N)
  (hop : OpC P o env H f args) (hargs : args = renL (rho π H.length) argsc) (hH : π.map (fun p => H[p]?) = (Hc.map (renB (rho π H.length))).map some) (hπ : π.Nodup)
  (hC : C P f argsc Hc Qr)
  (k : ∀ r H1, Qr r H1 → WO P h0 N all l (match d with | some d => up env d (renA (rho π H.length) r) | none => env) (setAll H π (H1.map (renB (rho π H.length)))) Q) :
  WO P h0 N all (o :: l) env H Q := by
 intro rd fr ro σ a w r hrd
 obtain ⟨vals, h1, h2⟩ := hop fr ro σ N a w r
 refine wpL_enter (wanted_of hg r) h1 ?_
 have hp : ∀ p ∈ π, p < H.length := fun p q => mem_of_map_some hH q
 have hσl := r.sim.len
 have hHc : ∀ (j p : Nat), π[j]? = some p → H[p]? = (Hc[j]?).map (renB (rho π H.length)) := by
  intro j p hj
  have := congrArg (fun l => l[j]?) hH
  simp only [List.getElem?_map, hj, Option.map_some] at this
  cases e : Hc[j]? with
  | none => rw [e] at this; simp at this
  | some x => rw [e] at this; simpa using this
 have hlen : π.length = Hc.length := by simpa using congrArg List.length hH
 have hσc : ∀ j : Nat, σ[rho π H.length j]? = (sigOf σ π)[j]? := by
  intro j
  have := sig_rho (τ := []) hσl hp j
  simpa using this
 let frc : Nat → Prop := fun b => fr b ∨ ∃ i x, σ[i]? = some (some b) ∧ H[i]? = some x ∧ x.live = true ∧ i ∉ π
 have hπj : ∀ (j b : Nat), (sigOf σ π)[j]? = some (some b) → ∃ p, π[j]? = some p ∧ σ[p]? = some (some b) := by
  intro j b hj
  simp only [sigOf, List.getElem?_map] at hj
  cases e : π[j]? with
  | none => rw [e] at hj; simp at hj
  | some p =>
   rw [e] at hj
   simp at hj
   refine ⟨p, rfl, ?_⟩
   cases e2 : σ[p]? with
   | none => rw [e2] at hj; simp at hj
   | some s => rw [e2] at hj; simp at hj; rw [hj]
 have hsim : Sim frc ro (sigOf σ π) Hc w := by
  refine ⟨by simp [sigOf, hlen], r.sim.roOk, ?_, ?_, ?_, ?_, ?_⟩
  ·rintro b (hb | ⟨i, x, q1, q2, q3, q4⟩)
   ·exact r.sim.frLt b hb
   ·exact (r.sim.own i b x q1 q2 q3).1
  ·rintro b hb (hf | ⟨i, x, q1, q2, q3, q4⟩)
   ·exact r.sim.roFr b hb hf
   ·exact (r.sim.own i b x q1 q2 q3).2.1 hb
  ·intro j b x q1 q2 q3
   obtain ⟨p, e1, e2⟩ := hπj j b q1
   have e3 : H[p]? = some (renB (rho π H.length) x) := by rw [hHc j p e1, q2]; rfl
   obtain ⟨o1, o2, o3⟩ := r.sim.own p b _ e2 e3 (by rw [renB_live]; exact q3)
   refine ⟨o1, o2, ?_⟩
   rintro (hf | ⟨i, y, y1, y2, y3, y4⟩)
   ·exact o3 hf
   ·have := r.sim.inj i p b _ _ y1 e2 y2 e3 y3 (by rw [renB_live]; exact q3)
    subst this
    exact y4 (List.mem_of_getElem? e1)
  ·intro i j b x y q1 q2 q3 q4 q5 q6
   obtain ⟨p, e1, e2⟩ := hπj i b q1
   obtain ⟨p', e1', e2'⟩ := hπj j b q2
   have e3 : H[p]? = some (renB (rho π H.length) x) := by rw [hHc i p e1, q3]; rfl
   have e3' : H[p']? = some (renB (rho π H.length) y) := by rw [hHc j p' e1', q4]; rfl
   have := r.sim.inj p p' b _ _ e2 e2' e3 e3' (by rw [renB_live]; exact q5) (by rw [renB_live]; exact q6)
   subst this
   have hi : i < π.length := by
    rcases Nat.lt_or_ge i π.length with q | q
    ·exact q
    ·rw [List.getElem?_eq_none q] at e1; simp at e1
   have hj : j < π.length := by
    rcases Nat.lt_or_ge j π.length with q | q
    ·exact q
    ·rw [List.getElem?_eq_none q] at e1'; simp at e1'
   rw [List.getElem?_eq_getElem hi] at e1
   rw [List.getElem?_eq_getElem hj] at e1'
   have heq := (Option.some.inj e1).trans (Option.some.inj e1').symm
   rcases Nat.lt_trichotomy i j with q | q | q
   ·exact (List.pairwise_iff_getElem.1 hπ i j hi hj q heq).elim
   ·exact q
   ·exact (List.pairwise_iff_getElem.1 hπ j i hj hi q heq.symm).elim
  ·intro j s x q1 q2
   have hj : j < π.length := by
    rcases Nat.lt_or_ge j π.length with q | q
    ·exact q
    ·rw [List.getElem?_eq_none (by simpa [sigOf] using q)] at q1; simp at q1
   have e1 : π[j]? = some π[j] := List.getElem?_eq_getElem hj
   have e3 : H[π[j]]? = some (renB (rho π H.length) x) := by rw [hHc j _ e1, q2]; rfl
   have e2 : σ[π[j]]? = some s := by
    have := hσc j
    rw [q1] at this
    simpa [rho, e1] using this
   exact (BR.ren hσc).1 (r.sim.blk _ s _ e2 e3)
 have hargs' : LR ro (sigOf σ π) w argsc vals := (LR.ren hσc).1 (hargs ▸ h2)
 refine Calls.mono (hC frc ro (sigOf σ π) vals w hsim hargs') ?_
 rintro e w' ⟨v, rr, H1, ro', τ, rfl, hq, sc, hv, ev⟩
 have hσ' : ∀ j : Nat, (σ ++ τ)[rho π H.length j]? = (sigOf σ π ++ τ)[j]? := fun j => sig_rho hσl hp j
 have hH1 : H1.length = π.length + τ.length := by rw [← sc.len]; simp [sigOf]
 have hle : π.length ≤ (H1.map (renB (rho π H.length))).length := by simp; omega
 have evf : Evolve fr ro w ro' w' := ⟨ev.sub, ev.keepRo, fun b q => ev.keepFr b (.inl q), ev.size, ev.shape, ev.os, ev.tape, ev.output, ev.drawn⟩
 have hnew : ∀ j, (setAll H π (H1.map (renB (rho π H.length))))[rho π H.length j]? = (H1[j]?).map (renB (rho π H.length)) := by
  intro j
  rw [setAll_rho π H _ j hle hp hπ]; simp
 have hold : ∀ i, i < H.length → i ∉ π → (setAll H π (H1.map (renB (rho π H.length))))[i]? = H[i]? := fun i => setAll_old π H _ i
 have hcase : ∀ i : Nat, (∃ j, i = rho π H.length j) ∨ (i < H.length ∧ i ∉ π) := by
  intro i
  by_cases q : H.length ≤ i ∨ i ∈ π
  ·exact .inl (rho_cases π H.length i q)
  ·simp only [not_or] at q; exact .inr ⟨by omega, q.2⟩
 have hfrold : ∀ i b x, i < H.length → i ∉ π → σ[i]? = some (some b) → H[i]? = some x → x.live = true → frc b := fun i b x q1 q2 q3 q4 q5 => .inr ⟨i, x, q3, q4, q5, q2⟩
 have simF : Sim fr ro' (σ ++ τ) (setAll H π (H1.map (renB (rho π H.length)))) w' := by
  refine ⟨?_, sc.roOk, fun b q => sc.frLt b (.inl q), fun b q q' => sc.roFr b q (.inl q'), ?_, ?_, ?_⟩
  ·rw [setAll_length _ _ _ hle]; simp [hσl, hH1]
  ·intro i b x q1 q2 q3
   rcases hcase i with ⟨j, rfl⟩ | ⟨c1, c2⟩
   ·rw [hσ'] at q1
    rw [hnew] at q2
    cases e : H1[j]? with
    | none => rw [e] at q2; simp at q2
    | some y =>
     rw [e] at q2; simp at q2; subst q2
     obtain ⟨o1, o2, o3⟩ := sc.own j b y q1 e (by rw [renB_live] at q3; exact q3)
     exact ⟨o1, o2, fun q => o3 (.inl q)⟩
   ·rw [hold i c1 c2] at q2
    rw [List.getElem?_append_left (by omega)] at q1
    obtain ⟨o1, o2, o3⟩ := r.sim.own i b x q1 q2 q3
    exact ⟨Nat.lt_of_lt_of_le o1 ev.size, fun q => sc.roFr b q (hfrold i b x c1 c2 q1 q2 q3), o3⟩
  ·intro i i' b x y q1 q2 q3 q4 q5 q6
   have mixed : ∀ (i i' : Nat) (x y : Blk), (∃ j, i = rho π H.length j) → (i' < H.length ∧ i' ∉ π) → (σ ++ τ)[i]? = some (some b) → (σ ++ τ)[i']? = some (some b) →
     (setAll H π (H1.map (renB (rho π H.length))))[i]? = some x → (setAll H π (H1.map (renB (rho π H.length))))[i']? = some y → x.live = true → y.live = true → False := by
    rintro i i' x y ⟨j, rfl⟩ ⟨c1, c2⟩ q1 q2 q3 q4 q5 q6
    rw [hσ'] at q1
    rw [hnew] at q3
    rw [hold i' c1 c2] at q4
    rw [List.getElem?_append_left (by omega)] at q2
    cases e : H1[j]? with
    | none => rw [e] at q3; simp at q3
    | some z =>
     rw [e] at q3; simp at q3; subst q3
     exact (sc.own j b z q1 e (by rw [renB_live] at q5; exact q5)).2.2 (hfrold i' b y c1 c2 q2 q4 q6)
   rcases hcase i with ci | ci <;> rcases hcase i' with ci' | ci'
   ·obtain ⟨j, rfl⟩ := ci
    obtain ⟨j', rfl⟩ := ci'
    rw [hσ'] at q1 q2
    rw [hnew] at q3 q4
    cases e : H1[j]? with
    | none => rw [e] at q3; simp at q3
    | some z =>
     cases e' : H1[j']? with
     | none => rw [e'] at q4; simp at q4
     | some z' =>
      rw [e] at q3; simp at q3; subst q3
      rw [e'] at q4; simp at q4; subst q4
      rw [sc.inj j j' b z z' q1 q2 e e' (by rw [renB_live] at q5; exact q5) (by rw [renB_live] at q6; exact q6)]
   ·exact (mixed i i' x y ci ci' q1 q2 q3 q4 q5 q6).elim
   ·exact (mixed i' i y x ci' ci q2 q1 q4 q3 q6 q5).elim
   ·rw [hold i ci.1 ci.2] at q3
    rw [hold i' ci'.1 ci'.2] at q4
    rw [List.getElem?_append_left (by omega)] at q1 q2
    exact r.sim.inj i i' b x y q1 q2 q3 q4 q5 q6
  ·intro i s x q1 q2
   rcases hcase i with ⟨j, rfl⟩ | ⟨c1, c2⟩
   ·rw [hσ'] at q1
    rw [hnew] at q2
    cases e : H1[j]? with
    | none => rw [e] at q2; simp at q2
    | some y =>
     rw [e] at q2; simp at q2; subst q2
     exact (BR.ren hσ').2 (sc.blk j s y q1 e)
   ·rw [hold i c1 c2] at q2
    rw [List.getElem?_append_left (by omega)] at q1
    refine BR.keep (evf.ext σ τ) ?_ (r.sim.blk i s x q1 q2)
    rintro b rfl hl
    exact ev.keepFr b (hfrold i b x c1 c2 q1 q2 hl)
 have hvr : VR ro' (σ ++ τ) w' (renA (rho π H.length) rr) v := (VR.ren hσ').2 hv
 have hk := k rr H1 hq
 cases d with
 | none =>
  simp only [hd, Act.put]
  have r' : Rel fr ro' (σ ++ τ) (setAll H π (H1.map (renB (rho π H.length)))) env N a w' := ⟨simF, fun s => (r.env s).mono (evf.ext σ τ), r.size, r.defers.keep evf⟩
  exact ⟨_, rfl, wpL_mono (fun e a w q => q.step evf (take_append_sig (by omega))) _ _ _ (hk rd fr ro' (σ ++ τ) _ w' r' (hrd.to evf fun _ q => q))⟩
 | some d =>
  simp only [hd, Act.put]
  have hdN := hN d rfl
  have r' : Rel fr ro' (σ ++ τ) (setAll H π (H1.map (renB (rho π H.length)))) (up env d (renA (rho π H.length) rr)) N { a with tmps := a.tmps.setIfInBounds d v } w' :=
   ⟨simF, VR.up (fr := fr) (fun s => (r.env s).mono (evf.ext σ τ)) (by rw [r.size]; exact hdN) hvr, by simpa using r.size, r.defers.keep evf⟩
  exact ⟨_, rfl, wpL_mono (fun e a w q => q.step evf (take_append_sig (by omega))) _ _ _ (hk rd fr ro' (σ ++ τ) _ w' r' (hrd.to evf fun _ q => q))⟩
end Go.Sw
