/- Calls' operations, states looked at anew, slice literals, cuts. -/
import Derived.Test.YtkjlhfabbbomjaaGreatDoorSwG
set_option linter.unusedVariables false
set_option linter.unusedSectionVars false
set_option linter.unusedSimpArgs false
namespace Go.Sw
section
variable {P : Program} {o : Oper} {env : Env} {H : Heap}
theorem OpC.fn {c : Call} {f : FuncId} {xs : List Operand} {ts : Array TypeId} {args : List A} (hcall : ∀ (a : Array Value) (w : World), (callFunc f a).run P w = .ok (.enter f a) w) (ho : o.op = .call c)
  (hc : c = { callee := .value (.func f), args := xs.toArray, argTypes := ts }) (hx : xs.map (opA env) = args) : OpC P o env H f args := by
 intro fr ro σ N a w r
 refine ⟨xs.map a.eval, ?_, hx ▸ argsA_ok r xs⟩
 subst hc
 have e : a.eval (.func f) = .func (.func f) #[] #[] := rfl
 generalize a.eval = ρ at *
 simp only [execOp, ho, resolve, e, Deferred.ofValue, invoke, Sem.run_bind, Sem.run_pure, Result.andThen, hcall]
 simp
theorem OpC.clo {c : Call} {f : FuncId} {x : Operand} {xs : List Operand} {ts : Array TypeId} {args vf vc : List A} (hcall : ∀ (a : Array Value) (w : World), (callFunc f a).run P w = .ok (.enter f a) w) (ho : o.op = .call c)
  (hc : c = { callee := .value x, args := xs.toArray, argTypes := ts }) (hf : opA env x = .fn (.func f) vf vc) (hx : vf ++ (xs.map (opA env) ++ vc) = args) : OpC P o env H f args := by
 intro fr ro σ N a w r
 have h1 := opA_ok r x
 rw [hf] at h1
 obtain ⟨l, l', h1, h2, h3⟩ := h1
 refine ⟨l ++ (xs.map a.eval ++ l'), ?_, hx ▸ h2.append ((argsA_ok r xs).append h3)⟩
 subst hc
 generalize a.eval = ρ at *
 simp only [execOp, ho, resolve, h1, Deferred.ofValue, invoke, Sem.run_bind, Sem.run_pure, Result.andThen, hcall]
 simp
def EnvLe (ρ : Nat → Nat) (env : Env) : Env → Prop
 | [] => True
 | (s, a) :: r => lk env s = renA ρ a ∧ EnvLe ρ env r
theorem EnvLe.ok {ro : Nat → Prop} {σ σ' : Sig} {w : World} {ρ : Nat → Nat} (h : ∀ i : Nat, σ[ρ i]? = σ'[i]?) {t : Array Value} (r : ∀ s, VR ro σ w (lk env s) (t.getD s undef)) :
  ∀ {env' : Env}, EnvLe ρ env env' → ∀ s, VR ro σ' w (lk env' s) (t.getD s undef)
 | [], _, s => trivial
 | (d, a) :: e, ⟨h1, h2⟩, s => by
  simp only [lk]
  by_cases q : s = d
  ·subst q
   rw [Nat.beq_refl]
   have := r s
   rw [h1] at this
   exact (VR.ren h).1 this
  ·have : Nat.beq s d = false := by
    rw [Bool.eq_false_iff]; intro q'; exact q (Nat.eq_of_beq_eq_true q')
   rw [this]
   exact EnvLe.ok h r h2 s
theorem Sim.sub {fr ro : Nat → Prop} {σ : Sig} {w : World} {π : List Nat} {H' : Heap} (s : Sim fr ro σ H w) (hH : π.map (fun p => H[p]?) = (H'.map (renB (rho π H.length))).map some) (hπ : π.Nodup) :
  Sim fr ro (sigOf σ π) H' w ∧ ∀ j : Nat, σ[rho π H.length j]? = (sigOf σ π)[j]? := by
 have hp : ∀ p ∈ π, p < H.length := fun p q => mem_of_map_some hH q
 have hσl := s.len
 have hHc : ∀ (j p : Nat), π[j]? = some p → H[p]? = (H'[j]?).map (renB (rho π H.length)) := by
  intro j p hj
  have := congrArg (fun l => l[j]?) hH
  simp only [List.getElem?_map, hj, Option.map_some] at this
  cases e : H'[j]? with
  | none => rw [e] at this; simp at this
  | some x => rw [e] at this; simpa using this
 have hlen : π.length = H'.length := by simpa using congrArg List.length hH
 have hσc : ∀ j : Nat, σ[rho π H.length j]? = (sigOf σ π)[j]? := by
  intro j
  have := sig_rho (τ := []) hσl hp j
  simpa using this
 have hπj : ∀ (j b : Nat), (sigOf σ π)[j]? = some (some b) → ∃ p, π[j]? = some p ∧ σ[p]? = some (some b) := by
  intro j b hj
  simp only [sigOf, List.getElem?_map] at hj
  cases e : π[j]? with
  | none => rw [e] at hj; simp at hj
  | some p =>
   rw [e] at hj
   simp at hj
   refine ⟨p, rfl, ?_⟩
   cases e2 : σ[p]? with
   | none => rw [e2] at hj; simp at hj
   | some s => rw [e2] at hj; simp at hj; rw [hj]
 refine ⟨⟨by simp [sigOf, hlen], s.roOk, s.frLt, s.roFr, ?_, ?_, ?_⟩, hσc⟩
 ·intro j b x q1 q2 q3
  obtain ⟨p, e1, e2⟩ := hπj j b q1
  have e3 : H[p]? = some (renB (rho π H.length) x) := by rw [hHc j p e1, q2]; rfl
  exact s.own p b _ e2 e3 (by rw [renB_live]; exact q3)
 ·intro i j b x y q1 q2 q3 q4 q5 q6
  obtain ⟨p, e1, e2⟩ := hπj i b q1
  obtain ⟨p', e1', e2'⟩ := hπj j b q2
  have e3 : H[p]? = some (renB (rho π H.length) x) := by rw [hHc i p e1, q3]; rfl
  have e3' : H[p']? = some (renB (rho π H.length) y) := by rw [hHc j p' e1', q4]; rfl
  have := s.inj p p' b _ _ e2 e2' e3 e3' (by rw [renB_live]; exact q5) (by rw [renB_live]; exact q6)
  subst this
  have hi : i < π.length := (List.getElem?_eq_some_iff.1 e1).1
  have hj : j < π.length := (List.getElem?_eq_some_iff.1 e1').1
  rw [List.getElem?_eq_getElem hi] at e1
  rw [List.getElem?_eq_getElem hj] at e1'
  have heq := (Option.some.inj e1).trans (Option.some.inj e1').symm
  rcases Nat.lt_trichotomy i j with q | q | q
  ·exact (List.pairwise_iff_getElem.1 hπ i j hi hj q heq).elim
  ·exact q
  ·exact (List.pairwise_iff_getElem.1 hπ j i hj hi q heq.symm).elim
 ·intro j y x q1 q2
  have hj : j < π.length := by
   rcases Nat.lt_or_ge j π.length with q | q
   ·exact q
   ·rw [List.getElem?_eq_none (by simpa [sigOf] using q)] at q1; simp at q1
  have e1 : π[j]? = some π[j] := List.getElem?_eq_getElem hj
  have e3 : H[π[j]]? = some (renB (rho π H.length) x) := by rw [hHc j _ e1, q2]; rfl
  have e2 : σ[π[j]]? = some y := by
   have := hσc j
   rw [q1] at this
   simpa [rho, e1] using this
  exact (BR.ren hσc).1 (s.blk _ y _ e2 e3)
theorem Le.ren {h0 : Nat} {env' : Env} {H' : Heap} (π : List Nat) (hpre : π.take h0 = List.range h0) (hH : π.map (fun p => H[p]?) = (H'.map (renB (rho π H.length))).map some) (hπ : π.Nodup)
  (hE : EnvLe (rho π H.length) env env') : Le h0 env H env' H' := by
 intro fr ro σ N a w r
 obtain ⟨s1, hσ⟩ := r.sim.sub hH hπ
 refine ⟨ro, sigOf σ π, ⟨s1, EnvLe.ok hσ r.env hE, r.size, r.defers⟩, fun _ q => q, ?_⟩
 have hl := r.sim.len
 have hp : ∀ p ∈ π, p < H.length := fun p q => mem_of_map_some hH q
 unfold sigOf
 rw [← List.map_take, hpre]
 apply List.ext_getElem?
 intro i
 rcases Nat.lt_or_ge i h0 with q | q
 ·have hm : i ∈ π := List.mem_of_mem_take (i := h0) (by rw [hpre]; exact List.mem_range.2 q)
  have hlt : i < σ.length := by rw [hl]; exact hp i hm
  rw [List.getElem?_map, List.getElem?_take, if_pos q, List.getElem?_range q]
  simp [List.getElem?_eq_getElem hlt]
 ·rw [List.getElem?_eq_none (by simpa using q), List.getElem?_take, if_neg (by omega)]
theorem Le.phantom {h0 s k t : Nat} (hh : h0 ≤ H.length) (hs : lk env s = .nils) : Le h0 env H (up env s (.osl H.length 0 0 k)) (H ++ [.row t k []]) := by
 intro fr ro σ N a w r
 refine ⟨ro, σ ++ [none], ⟨r.sim.phantom t k, ?_, r.size, r.defers⟩, fun _ q => q, take_append_sig (by rw [r.sim.len]; exact hh)⟩
 have ext : Ext ro σ w ro (σ ++ [none]) w := ⟨fun _ q => q, fun _ _ => rfl, fun _ _ q => q, fun _ _ h => sig_append h⟩
 intro s'
 simp only [lk]
 by_cases q : s' = s
 ·subst q
  rw [Nat.beq_refl]
  have := r.env s'
  rw [hs] at this
  exact .inl ⟨rfl, this⟩
 ·have : Nat.beq s' s = false := by
   rw [Bool.eq_false_iff]; intro q'; exact q (Nat.eq_of_beq_eq_true q')
  rw [this]
  exact (r.env s').mono ext
theorem Le.freeze {h0 s i n k t : Nat} {es : List (List A)} (hi : h0 ≤ i) (hs : lk env s = .osl i 0 n k) (hH : H[i]? = some (.row t k es)) (hn : es.length = n) : Le h0 env H (up env s (.rsl k es)) (H.set i .dead) := by
 intro fr ro σ N a w r
 subst hn
 let ro' : Nat → Prop := fun b => ro b ∨ σ[i]? = some (some b)
 have hown : ∀ b, σ[i]? = some (some b) → b < w.heap.size ∧ ¬ ro b ∧ ¬ fr b := fun b h => r.sim.own i b _ h hH rfl
 have ext : Ext ro σ w ro' σ w := ⟨fun _ q => .inl q, fun _ _ => rfl, fun _ _ q => q, fun _ _ q => q⟩
 have hcase : ∀ (j : Nat) (v : Blk), (H.set i .dead)[j]? = some v → v ≠ .dead → j ≠ i ∧ H[j]? = some v := by
  intro j v h hv
  by_cases e : j = i
  ·subst e
   rw [List.getElem?_set] at h
   simp only [if_true] at h
   split at h
   ·cases h; exact absurd rfl hv
   ·simp at h
  ·rw [List.getElem?_set_ne (fun q => e q.symm)] at h; exact ⟨e, h⟩
 refine ⟨ro', σ, ⟨⟨by rw [List.length_set]; exact r.sim.len, r.sim.roOk.to (fun _ q => .inl q) (fun _ _ => rfl) ?_, r.sim.frLt, ?_, ?_, ?_, ?_⟩, ?_, r.size, r.defers⟩, fun _ q => .inl q, rfl⟩
 ·rintro b (q | q)
  ·exact r.sim.roLt b q
  ·exact (hown b q).1
 ·rintro b (q | q)
  ·exact r.sim.roFr b q
  ·exact (hown b q).2.2
 ·intro j b v h1 h2 h3
  obtain ⟨e, h2⟩ := hcase j v h2 (Blk.nd h3)
  obtain ⟨p1, p2, p3⟩ := r.sim.own j b v h1 h2 h3
  refine ⟨p1, ?_, p3⟩
  rintro (q | q)
  ·exact p2 q
  ·exact e (r.sim.inj j i b v _ h1 q h2 hH h3 rfl)
 ·intro j j' b v v' h1 h2 h3 h4 h5 h6
  exact r.sim.inj j j' b v v' h1 h2 (hcase j v h3 (Blk.nd h5)).2 (hcase j' v' h4 (Blk.nd h6)).2 h5 h6
 ·intro j y v h1 h2
  by_cases hv : v ≠ .dead
  ·exact (r.sim.blk j y v h1 (hcase j v h2 hv).2).keep ext fun _ _ _ => rfl
  ·obtain rfl : v = .dead := Classical.not_not.1 hv
   trivial
 ·intro s'
  simp only [lk]
  by_cases q : s' = s
  ·subst q
   rw [Nat.beq_refl]
   have h := r.env s'
   rw [hs] at h
   rcases h with ⟨h0, h⟩ | ⟨b, p, cap, t', m, h1, h, h2, h3, h4, h5⟩
   ·have : es = [] := List.length_eq_zero_iff.1 h0
    subst this
    exact ⟨none, 0, h, Nat.le_refl _, .inl rfl⟩
   ·refine ⟨_, cap, h, h3, ?_⟩
    by_cases he : es = []
    ·exact .inl he
    ·right
     have hc : 0 < cap := Nat.lt_of_lt_of_le (List.length_pos_iff.2 he) h3
     obtain rfl := h2 hc
     obtain ⟨l, q1, q2⟩ := r.sim.blk i _ _ h1 hH
     refine ⟨b, 0, by simp, .inr h1, ?_⟩
     have := RL.toRR (pre := []) (by simpa using q1) q2
     exact this.keep ⟨fun _ q => .inl q, fun _ _ => rfl, fun _ _ q => q, fun _ _ q => q⟩ rfl
  ·have : Nat.beq s' s = false := by
    rw [Bool.eq_false_iff]; intro q'; exact q (Nat.eq_of_beq_eq_true q')
   rw [this]
   exact (r.env s').mono ext
mutual
def scalarA : A → Bool
 | .bool _ => true
 | .int _ _ => true
 | .str _ => true
 | .tup vs => scalarL vs
 | _ => false
def scalarL : List A → Bool
 | [] => true
 | a :: r => scalarA a && scalarL r
end
mutual
theorem VR.scalar {ro ro' : Nat → Prop} {σ σ' : Sig} {w w' : World} : ∀ {a : A} {v : Value}, scalarA a = true → VR ro σ w a v → VR ro' σ' w' a v
 | .bool _, _, _, h => h
 | .int _ _, _, _, h => h
 | .str _, _, _, h => h
 | .tup vs, v, hs, h => by
  simp only [VR, scalarA] at h hs ⊢
  obtain ⟨l, h1, h2⟩ := h
  exact ⟨l, h1, LR.scalar hs h2⟩
 | .any, _, hs, _ => by simp [scalarA] at hs
 | .nilp, _, hs, _ => by simp [scalarA] at hs
 | .ptr _ _, _, hs, _ => by simp [scalarA] at hs
 | .rp _, _, hs, _ => by simp [scalarA] at hs
 | .nils, _, hs, _ => by simp [scalarA] at hs
 | .rsl _ _, _, hs, _ => by simp [scalarA] at hs
 | .osl _ _ _ _, _, hs, _ => by simp [scalarA] at hs
 | .agg _, _, hs, _ => by simp [scalarA] at hs
 | .fn _ _ _, _, hs, _ => by simp [scalarA] at hs
 | .nilf, _, hs, _ => by simp [scalarA] at hs
 | .iface _ _, _, hs, _ => by simp [scalarA] at hs
 | .nilif, _, hs, _ => by simp [scalarA] at hs
 | .map _, _, hs, _ => by simp [scalarA] at hs
 | .nilm, _, hs, _ => by simp [scalarA] at hs
theorem LR.scalar {ro ro' : Nat → Prop} {σ σ' : Sig} {w w' : World} : ∀ {as : List A} {l : List Value}, scalarL as = true → LR ro σ w as l → LR ro' σ' w' as l
 | [], _, _, h => h
 | a :: r, l, hs, h => by
  simp only [LR, scalarL, Bool.and_eq_true] at h hs ⊢
  obtain ⟨v, l', h1, h2, h3⟩ := h
  exact ⟨v, l', h1, VR.scalar hs.1 h2, LR.scalar hs.2 h3⟩
end
def Look (H : Heap) : A → A → Prop := fun a a' => (a' = a ∧ dataA a = true) ∨ ∃ i n k t es, a = .osl i 0 n k ∧ H[i]? = some (.row t k es) ∧ es.length = n ∧ a' = .rsl k es
def LookL (H : Heap) : List A → List A → Prop
 | [], [] => True
 | a :: as, b :: bs => Look H a b ∧ LookL H as bs
 | _, _ => False
theorem WO.callB {h0 N : Nat} {Q : Post} {all : Array Oper} {l : List Oper} {d : Nat} {f : FuncId} {args argsc : List A} {Qr : A → Heap → Prop} (hop : OpC P o env H f args) (hv : LookL H args argsc) (hC : C P f argsc [] Qr)
  (hsc : ∀ r H1, Qr r H1 → scalarA r = true) (k : ∀ r H1, Qr r H1 → WO P h0 N all l (up env d r) H Q) (hg : wantedA all o env true := by exact rfl) (hd : o.dst = some d := by exact rfl) (hN : Nat.blt d N = true := by exact rfl) : WO P h0 N all (o :: l) env H Q := by
 intro rd fr ro σ a w r hrd
 obtain ⟨vals, h1, h2⟩ := hop fr ro σ N a w r
 refine wpL_enter (wanted_of hg r) h1 ?_
 let roc : Nat → Prop := fun b => ro b ∨ ∃ (i : Nat) (x : Blk), σ[i]? = some (some b) ∧ H[i]? = some x ∧ x.live = true
 have hsim : Sim fr roc [] [] w := by
  refine ⟨rfl, r.sim.roOk.to (fun _ q => .inl q) (fun _ _ => rfl) ?_, r.sim.frLt, ?_, by simp, by simp, by simp⟩
  ·rintro b (q | ⟨i, x, q1, q2, q3⟩)
   ·exact r.sim.roLt b q
   ·exact (r.sim.own i b x q1 q2 q3).1
  ·rintro b (q | ⟨i, x, q1, q2, q3⟩)
   ·exact r.sim.roFr b q
   ·exact (r.sim.own i b x q1 q2 q3).2.2
 have hlook : ∀ (as bs : List A) (l : List Value), LookL H as bs → LR ro σ w as l → LR roc [] w bs l := by
  intro as
  induction as with
  | nil =>
   intro bs l hl h
   cases bs with
   | nil => exact h
   | cons b bs => exact hl.elim
  | cons x as ih =>
   intro bs l hl h
   cases bs with
   | nil => exact hl.elim
   | cons y bs =>
    obtain ⟨hx, hl⟩ := hl
    obtain ⟨v, l', rfl, hv, h⟩ := h
    refine ⟨v, l', rfl, ?_, ih bs l' hl h⟩
    rcases hx with ⟨rfl, hx⟩ | ⟨i, n, k, t, es, rfl, hH, hn, rfl⟩
    ·exact (hv.data (σ' := []) hx).mono ⟨fun _ q => .inl q, fun _ _ => rfl, fun _ _ q => q, fun _ _ q => q⟩
    ·subst hn
     rcases hv with ⟨h0, h⟩ | ⟨b, p, cap, t', m, h1, h, h2, h3, h4, h5⟩
     ·have : es = [] := List.length_eq_zero_iff.1 h0
      subst this
      exact ⟨none, 0, h, Nat.le_refl _, .inl rfl⟩
     ·refine ⟨_, cap, h, h3, ?_⟩
      by_cases he : es = []
      ·exact .inl he
      ·right
       have hc : 0 < cap := Nat.lt_of_lt_of_le (List.length_pos_iff.2 he) h3
       obtain rfl := h2 hc
       obtain ⟨l, q1, q2⟩ := r.sim.blk i _ _ h1 hH
       refine ⟨b, 0, by simp, .inr ⟨i, _, h1, hH, rfl⟩, ?_⟩
       have := RL.toRR (pre := []) (by simpa using q1) q2
       exact this.keep ⟨fun _ q => .inl q, fun _ _ => rfl, fun _ _ q => q, fun _ _ q => q⟩ rfl
 refine Calls.mono (hC fr roc [] vals w hsim (hlook _ _ _ hv h2)) ?_
 rintro e w' ⟨v, rr, H1, ro', τ, rfl, hq, sc, hvr, ev⟩
 have hown : ∀ (i b : Nat) (x : Blk), σ[i]? = some (some b) → H[i]? = some x → x.live = true → w'.heap[b]? = w.heap[b]? := fun i b x q1 q2 q3 => ev.keepRo b (.inr ⟨i, x, q1, q2, q3⟩)
 have evf : Evolve fr ro w ro w' := ⟨fun _ q => q, fun b q => ev.keepRo b (.inl q), ev.keepFr, ev.size, ev.shape, ev.os, ev.tape, ev.output, ev.drawn⟩
 have simF : Sim fr ro σ H w' := by
  refine ⟨r.sim.len, r.sim.roOk.to (fun _ q => q) evf.keepRo (fun b q => Nat.lt_of_lt_of_le (r.sim.roLt b q) ev.size), fun b q => Nat.lt_of_lt_of_le (r.sim.frLt b q) ev.size, r.sim.roFr, ?_, r.sim.inj, ?_⟩
  ·intro i b x q1 q2 q3
   obtain ⟨p1, p2, p3⟩ := r.sim.own i b x q1 q2 q3
   exact ⟨Nat.lt_of_lt_of_le p1 ev.size, p2, p3⟩
  ·intro i y x q1 q2
   refine (r.sim.blk i y x q1 q2).keep (evf.ext0 σ) ?_
   rintro b rfl hl
   exact hown i b x q1 q2 hl
 have hk := k rr H1 hq
 have hdN : d < N := by simpa using hN
 simp only [hd, Act.put]
 have r' : Rel fr ro σ H (up env d rr) N { a with tmps := a.tmps.setIfInBounds d v } w' :=
  ⟨simF, VR.up (fr := fr) (fun s => (r.env s).mono (evf.ext0 σ)) (by rw [r.size]; exact hdN) (hvr.scalar (hsc _ _ hq)), by simpa using r.size, r.defers.keep evf⟩
 exact ⟨_, rfl, wpL_mono (fun e a w q => q.step evf rfl) _ _ _ (hk rd fr ro σ _ w' r' (hrd.to evf fun _ q => q))⟩
end
end Go.Sw
