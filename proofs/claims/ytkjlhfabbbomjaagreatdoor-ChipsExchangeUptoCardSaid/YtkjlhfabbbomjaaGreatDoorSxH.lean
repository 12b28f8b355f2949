/- Ranges over functions. -/
import Derived.Test.YtkjlhfabbbomjaaGreatDoorSxG
import Derived.RangeFuncNested
set_option linter.unusedVariables false
set_option linter.unusedSectionVars false
set_option linter.unusedSimpArgs false
namespace Go.Sw
theorem Sim.part {fr ro : Nat → Prop} {σ : Sig} {H : Heap} {w : World} (s0 : Sim fr ro σ H w) {π : List Nat} {Hc : Heap} (hH : π.map (fun p => H[p]?) = (Hc.map (renB (rho π H.length))).map some) (hπ : π.Nodup) :
  Sim (fun b => fr b ∨ ∃ i x, σ[i]? = some (some b) ∧ H[i]? = some x ∧ x.live = true ∧ i ∉ π) ro (sigOf σ π) Hc w ∧ ∀ j : Nat, σ[rho π H.length j]? = (sigOf σ π)[j]? := by
 have hp : ∀ p ∈ π, p < H.length := fun p q => mem_of_map_some hH q
 have hσl := s0.len
 have hHc : ∀ (j p : Nat), π[j]? = some p → H[p]? = (Hc[j]?).map (renB (rho π H.length)) := by
  intro j p hj
  have := congrArg (fun l => l[j]?) hH
  simp only [List.getElem?_map, hj, Option.map_some] at this
  cases e : Hc[j]? with
  | none => rw [e] at this; simp at this
  | some x => rw [e] at this; simpa using this
 have hlen : π.length = Hc.length := by simpa using congrArg List.length hH
 have hσc : ∀ j : Nat, σ[rho π H.length j]? = (sigOf σ π)[j]? := by
  intro j
  have := sig_rho (τ := []) hσl hp j
  simpa using this
 have hπj : ∀ (j b : Nat), (sigOf σ π)[j]? = some (some b) → ∃ p, π[j]? = some p ∧ σ[p]? = some (some b) := by
  intro j b hj
  simp only [sigOf, List.getElem?_map] at hj
  cases e : π[j]? with
  | none => rw [e] at hj; simp at hj
  | some p =>
   rw [e] at hj
   simp at hj
   refine ⟨p, rfl, ?_⟩
   cases e2 : σ[p]? with
   | none => rw [e2] at hj; simp at hj
   | some s => rw [e2] at hj; simp at hj; rw [hj]
 refine ⟨?_, hσc⟩
 ·refine ⟨by simp [sigOf, hlen], s0.roOk, ?_, ?_, ?_, ?_, ?_⟩
  ·rintro b (hb | ⟨i, x, q1, q2, q3, q4⟩)
   ·exact s0.frLt b hb
   ·exact (s0.own i b x q1 q2 q3).1
  ·rintro b hb (hf | ⟨i, x, q1, q2, q3, q4⟩)
   ·exact s0.roFr b hb hf
   ·exact (s0.own i b x q1 q2 q3).2.1 hb
  ·intro j b x q1 q2 q3
   obtain ⟨p, e1, e2⟩ := hπj j b q1
   have e3 : H[p]? = some (renB (rho π H.length) x) := by rw [hHc j p e1, q2]; rfl
   obtain ⟨o1, o2, o3⟩ := s0.own p b _ e2 e3 (by rw [renB_live]; exact q3)
   refine ⟨o1, o2, ?_⟩
   rintro (hf | ⟨i, y, y1, y2, y3, y4⟩)
   ·exact o3 hf
   ·have := s0.inj i p b _ _ y1 e2 y2 e3 y3 (by rw [renB_live]; exact q3)
    subst this
    exact y4 (List.mem_of_getElem? e1)
  ·intro i j b x y q1 q2 q3 q4 q5 q6
   obtain ⟨p, e1, e2⟩ := hπj i b q1
   obtain ⟨p', e1', e2'⟩ := hπj j b q2
   have e3 : H[p]? = some (renB (rho π H.length) x) := by rw [hHc i p e1, q3]; rfl
   have e3' : H[p']? = some (renB (rho π H.length) y) := by rw [hHc j p' e1', q4]; rfl
   have := s0.inj p p' b _ _ e2 e2' e3 e3' (by rw [renB_live]; exact q5) (by rw [renB_live]; exact q6)
   subst this
   have hi : i < π.length := by
    rcases Nat.lt_or_ge i π.length with q | q
    ·exact q
    ·rw [List.getElem?_eq_none q] at e1; simp at e1
   have hj : j < π.length := by
    rcases Nat.lt_or_ge j π.length with q | q
    ·exact q
    ·rw [List.getElem?_eq_none q] at e1'; simp at e1'
   rw [List.getElem?_eq_getElem hi] at e1
   rw [List.getElem?_eq_getElem hj] at e1'
   have heq := (Option.some.inj e1).trans (Option.some.inj e1').symm
   rcases Nat.lt_trichotomy i j with q | q | q
   ·exact (List.pairwise_iff_getElem.1 hπ i j hi hj q heq).elim
   ·exact q
   ·exact (List.pairwise_iff_getElem.1 hπ j i hj hi q heq.symm).elim
  ·intro j s x q1 q2
   have hj : j < π.length := by
    rcases Nat.lt_or_ge j π.length with q | q
    ·exact q
    ·rw [List.getElem?_eq_none (by simpa [sigOf] using q)] at q1; simp at q1
   have e1 : π[j]? = some π[j] := List.getElem?_eq_getElem hj
   have e3 : H[π[j]]? = some (renB (rho π H.length) x) := by rw [hHc j _ e1, q2]; rfl
   have e2 : σ[π[j]]? = some s := by
    have := hσc j
    rw [q1] at this
    simpa [rho, e1] using this
   exact (BR.ren hσc).1 (s0.blk _ s _ e2 e3)
theorem Sim.frames {fr fr' ro : Nat → Prop} {σ : Sig} {H : Heap} {w : World} (s : Sim fr ro σ H w) (lt : ∀ b, fr' b → b < w.heap.size) (hro : ∀ b, ro b → ¬ fr' b) (own : ∀ (i b : Nat) (x : Blk), σ[i]? = some (some b) → H[i]? = some x → x.live = true → ¬ fr' b) : Sim fr' ro σ H w :=
 ⟨s.len, s.roOk, lt, hro, fun i b x q1 q2 q3 => ⟨(s.own i b x q1 q2 q3).1, (s.own i b x q1 q2 q3).2.1, own i b x q1 q2 q3⟩, s.inj, s.blk⟩
def kill1 (H : Heap) (p : Nat) : Heap := match H[p]? with
 | some x => bif x.live then H.set p .dead else H
 | none => H
def killB : Heap → List Nat → Heap
 | H, [] => H
 | H, p :: π => killB (kill1 H p) π
theorem kill1_cases (H : Heap) (p : Nat) : (kill1 H p = H ∧ ∀ x, H[p]? = some x → x.live = false) ∨ kill1 H p = H.set p .dead := by
 unfold kill1
 cases h : H[p]? with
 | none => exact .inl ⟨rfl, fun x q => by cases q⟩
 | some x =>
  cases q : x.live with
  | false => exact .inl ⟨by simp [q], fun y hy => by cases hy; exact q⟩
  | true => exact .inr (by simp [q])
theorem kill_get : ∀ (π : List Nat) (H : Heap) (i : Nat) (x : Blk), (killB H π)[i]? = some x → x = .dead ∨ (H[i]? = some x ∧ (x.live = true → i ∉ π))
 | [], H, i, x, h => .inr ⟨h, fun _ => by simp⟩
 | p :: π, H, i, x, h => by
  rcases kill_get π _ i x h with h | ⟨h1, h2⟩
  ·exact .inl h
  ·rcases kill1_cases H p with ⟨e, hl⟩ | e
   ·rw [e] at h1
    refine .inr ⟨h1, fun hx => ?_⟩
    simp only [List.mem_cons, not_or]
    refine ⟨fun q => ?_, h2 hx⟩
    subst q
    have := hl x h1
    rw [this] at hx; cases hx
   ·rw [e] at h1
    by_cases q : p = i
    ·subst q
     rw [List.getElem?_set] at h1
     simp at h1
     exact .inl h1.2.symm
    ·rw [List.getElem?_set_ne q] at h1
     exact .inr ⟨h1, fun hx => by simp only [List.mem_cons, not_or]; exact ⟨fun r => q r.symm, h2 hx⟩⟩
theorem Sim.killL {fr ro : Nat → Prop} {σ : Sig} {w : World} : ∀ (π : List Nat) {H : Heap} (s : Sim fr ro σ H w), Sim fr ro σ (killB H π) w
 | [], _, s => s
 | p :: π, H, s => by
  rw [killB]
  rcases kill1_cases H p with h | h
  ·rw [h.1]; exact Sim.killL π s
  ·rw [h]; exact Sim.killL π (s.kill p)
theorem Sim.put {fr ro : Nat → Prop} {σ : Sig} {H : Heap} {w : World} (s : Sim fr ro σ H w) {b : Nat} {obj : Obj} (hf : fr b) (hsh : w.shape? b = none) :
  Sim fr ro σ H (w.putObj b obj) ∧ Evolve (fun c => c ≠ b) ro w ro (w.putObj b obj) := by
 have hne : ∀ c, c ≠ b → (w.putObj b obj).heap[c]? = w.heap[c]? := fun c hc => World.putObj_heap_other hc
 have hsz : (w.putObj b obj).heap.size = w.heap.size := by simp
 have hrb : ∀ c, ro c → c ≠ b := fun c q e => s.roFr c q (e ▸ hf)
 have ev : Evolve (fun c => c ≠ b) ro w ro (w.putObj b obj) := by
  refine ⟨fun _ q => q, fun c q => hne c (hrb c q), fun c q => hne c q, by rw [hsz]; exact Nat.le_refl _, fun c x q => ?_, rfl, rfl, rfl, Nat.le_refl _⟩
  by_cases e : c = b
  ·subst e; rw [hsh] at q; cases q
  ·unfold World.shape? at q ⊢; rw [hne c e]; exact q
 have hext : Ext ro σ w ro σ (w.putObj b obj) := by have := ev.ext σ []; simpa using this
 refine ⟨⟨s.len, s.roOk.to (fun _ q => q) ev.keepRo (fun c q => by rw [hsz]; exact s.roLt c q), fun c q => by rw [hsz]; exact s.frLt c q, s.roFr, fun i c x q1 q2 q3 => ?_, s.inj, fun i y x q1 q2 => ?_⟩, ev⟩
 ·obtain ⟨p1, p2, p3⟩ := s.own i c x q1 q2 q3
  exact ⟨by rw [hsz]; exact p1, p2, p3⟩
 ·refine (s.blk i y x q1 q2).keep hext ?_
  rintro c rfl hl
  exact hne c (fun e => (s.own i c x q1 q2 hl).2.2 (e ▸ hf))
theorem shape_loop {w : World} {l : Nat} {r : Loop} (h : w.heap[l]? = some (.loop r)) : w.shape? l = none := by
 unfold World.shape?; rw [h]
structure Fix where
 fr : Nat → Prop
 ro : Nat → Prop
 σ : Sig
 w : World
 h1 : Nat
 env : Env
 tmps : Array Value
 ds1 : List Deferred
 l : Nat
 rc : LoopState → Option Code → Loop
 fr1 : Nat → Prop
structure Fix.Ok (D : Fix) : Prop where
 sub : ∀ b, D.fr b → D.fr1 b
 l1 : D.fr1 D.l
 lf : ¬ D.fr D.l
 len : D.σ.length = D.h1
structure RJ (D : Fix) (ro1 : Nat → Prop) (σ1 : Sig) (H : Heap) (st : LoopState) (pe : Option Code) (g : Nat → Prop) (W : World) : Prop where
 sim : Sim D.fr1 ro1 σ1 H W
 env : ∀ t, VR ro1 D.σ W (lk D.env t) (D.tmps.getD t undef)
 sig : σ1.take D.h1 = D.σ
 ev : Evolve D.fr D.ro D.w ro1 W
 marks : Marks D.fr1 D.ds1 W
 rc : W.heap[D.l]? = some (.loop (D.rc st pe))
 roG : ∀ b, ro1 b → D.ro b ∨ g b
 frG : ∀ b, D.fr1 b → g b
 own : ∀ (i b : Nat) (x : Blk), σ1[i]? = some (some b) → H[i]? = some x → x.live = true → g b
 lt : ∀ b, g b → b < W.heap.size
theorem sig_of_take {σ σ1 : Sig} {h1 : Nat} (h : σ1.take h1 = σ) {i b : Nat} (q : σ[i]? = some (some b)) : σ1[i]? = some (some b) := by
 subst h
 rw [List.getElem?_take] at q
 split at q
 ·exact q
 ·cases q
section
variable {D : Fix} {ro1 : Nat → Prop} {σ1 : Sig} {H : Heap} {st : LoopState} {pe : Option Code} {g : Nat → Prop} {W : World}
theorem RJ.step (hD : D.Ok) (j : RJ D ro1 σ1 H st pe g W) {ro' : Nat → Prop} {W' : World} (e : Evolve g D.ro W ro' W') : RJ D ro1 σ1 H st pe g W' := by
 have hro : ∀ b, ro1 b → W'.heap[b]? = W.heap[b]? := fun b q => (j.roG b q).elim (e.keepRo b) (e.keepFr b)
 have ev : Evolve D.fr1 ro1 W ro1 W' := ⟨fun _ q => q, hro, fun b q => e.keepFr b (j.frG b q), e.size, e.shape, e.os, e.tape, e.output, e.drawn⟩
 have hext : ∀ σ, Ext ro1 σ W ro1 σ W' := fun σ => by have := ev.ext σ []; simpa using this
 refine ⟨⟨j.sim.len, j.sim.roOk.to (fun _ q => q) hro (fun b q => Nat.lt_of_lt_of_le (j.sim.roLt b q) e.size), fun b q => Nat.lt_of_lt_of_le (j.sim.frLt b q) e.size, j.sim.roFr, fun i b x q1 q2 q3 => ?_, j.sim.inj, fun i z x q1 q2 => ?_⟩,
  fun t => (j.env t).mono (hext _), j.sig, j.ev.trans (ev.frMono hD.sub), j.marks.keep ev, (ev.keepFr _ hD.l1).trans j.rc, j.roG, j.frG, j.own, fun b q => Nat.lt_of_lt_of_le (j.lt b q) e.size⟩
 ·obtain ⟨p1, p2⟩ := j.sim.own i b x q1 q2 q3
  exact ⟨Nat.lt_of_lt_of_le p1 e.size, p2⟩
 ·refine (j.sim.blk i z x q1 q2).keep (hext _) ?_
  rintro b rfl hl
  exact e.keepFr b (j.own i b x q1 q2 hl)
theorem RJ.up {g' : Nat → Prop} (j : RJ D ro1 σ1 H st pe g W) (h : ∀ b, g b → g' b) (hl : ∀ b, g' b → b < W.heap.size) : RJ D ro1 σ1 H st pe g' W :=
 { j with roG := fun b q => (j.roG b q).imp id (h b), frG := fun b q => h b (j.frG b q), own := fun i b x q1 q2 q3 => h b (j.own i b x q1 q2 q3), lt := hl }
def FrB (D : Fix) (ro1 g : Nat → Prop) (W : World) : Nat → Prop := fun b => (D.fr1 b ∨ (¬ g b ∧ ¬ ro1 b)) ∧ b < W.heap.size
theorem RJ.simB (j : RJ D ro1 σ1 H st pe g W) : Sim (FrB D ro1 g W) ro1 σ1 H W := by
 refine j.sim.frames (fun b q => q.2) (fun b q r => ?_) (fun i b x q1 q2 q3 r => ?_)
 ·rcases r.1 with r | r
  ·exact j.sim.roFr b q r
  ·exact r.2 q
 ·rcases r.1 with r | r
  ·exact (j.sim.own i b x q1 q2 q3).2.2 r
  ·exact r.1 (j.own i b x q1 q2 q3)
theorem RJ.fin (hD : D.Ok) (j : RJ D ro1 σ1 H st pe g W) {fr3 ro' : Nat → Prop} {σ' : Sig} {H' : Heap} {W' : World} {st' : LoopState} {pe' : Option Code}
  (ev : Evolve (fun b => FrB D ro1 g W b ∧ b ≠ D.l) ro1 W ro' W') (s : Sim fr3 ro' σ' H' W') (hs : ∀ b, FrB D ro1 g W b → fr3 b) (hσ : σ'.take D.h1 = σ1.take D.h1) (hr : W'.heap[D.l]? = some (.loop (D.rc st' pe'))) :
  RJ D ro' σ' H' st' pe' (fun b => g b ∨ (W.heap.size ≤ b ∧ b < W'.heap.size)) W' ∧ RoundK g (fun b => g b ∨ (W.heap.size ≤ b ∧ b < W'.heap.size)) W W' := by
 have h1B : ∀ b, D.fr1 b → FrB D ro1 g W b := fun b q => ⟨.inl q, j.sim.frLt b q⟩
 have hll : W.shape? D.l = none := shape_loop j.rc
 have evf : Evolve D.fr ro1 W ro' W' := ev.frMono fun b q => ⟨h1B b (hD.sub b q), fun e => hD.lf (e ▸ q)⟩
 have hext : Ext ro1 D.σ W ro' D.σ W' := ev.ext0 D.σ
 have hW : ∀ b, b < W.heap.size → b < W'.heap.size := fun b q => Nat.lt_of_lt_of_le q ev.size
 have hown : ∀ b, b < W.heap.size → ¬ FrB D ro1 g W b → g b ∨ ro1 b := by
  intro b hb hn
  by_cases q1 : g b
  ·exact .inl q1
  ·by_cases q2 : ro1 b
   ·exact .inr q2
   ·exact absurd ⟨.inr ⟨q1, q2⟩, hb⟩ hn
 refine ⟨⟨s.frames (fun b q => hW b (j.sim.frLt b q)) (fun b q r => s.roFr b q (hs b (h1B b r))) (fun i b x q1 q2 q3 r => (s.own i b x q1 q2 q3).2.2 (hs b (h1B b r))),
  fun t => (j.env t).mono hext, hσ.trans j.sig, j.ev.trans evf, ⟨j.marks.1, fun d hd => ?_⟩, hr, fun b q => ?_, fun b q => .inl (j.frG b q), fun i b x q1 q2 q3 => ?_, fun b q => q.elim (fun q => hW b (j.lt b q)) (fun q => q.2)⟩,
  ⟨fun b q => .inl q, fun b q => q.imp id (fun q => q.1), fun b q => q.elim (fun q => hW b (j.lt b q)) (fun q => q.2), fun b q1 q2 => .inr ⟨q1, q2⟩, fun b q1 q2 => ?_, ev.size, ev.shape, ev.os, ev.tape, ev.output, ev.drawn⟩⟩
 ·obtain ⟨B, e1, e2, e3⟩ := j.marks.2 d hd
  refine ⟨B, e1, e2, (ev.keepFr B ⟨h1B B e2, fun e => ?_⟩).trans e3⟩
  subst e
  rw [j.rc] at e3; cases e3
 ·rcases Nat.lt_or_ge b W.heap.size with hb | hb
  ·rcases hown b hb (fun r => s.roFr b q (hs b r)) with r | r
   ·exact .inr (.inl r)
   ·exact (j.roG b r).imp id .inl
  ·exact .inr (.inr ⟨hb, s.roLt b q⟩)
 ·obtain ⟨o1, o2, o3⟩ := s.own i b x q1 q2 q3
  rcases Nat.lt_or_ge b W.heap.size with hb | hb
  ·rcases hown b hb (fun r => o3 (hs b r)) with r | r
   ·exact .inl r
   ·exact absurd (ev.sub b r) o2
  ·exact .inr ⟨hb, o1⟩
 ·by_cases r : ro1 b
  ·exact ev.keepRo b r
  ·exact ev.keepFr b ⟨⟨.inr ⟨q2, r⟩, q1⟩, fun e => q2 (j.frG b (e ▸ hD.l1))⟩
end
def upPs : List Nat → List A → Env → Env
 | p :: ps, a :: zs, env => upPs ps zs (up env p a)
 | _, _, env => env
def setT : List Nat → List Value → Array Value → Array Value
 | p :: ps, v :: vs, t => setT ps vs (t.setIfInBounds p v)
 | _, _, t => t
theorem setT_size : ∀ (ps : List Nat) (vs : List Value) (t : Array Value), (setT ps vs t).size = t.size
 | [], _, _ => rfl
 | _ :: _, [], _ => rfl
 | p :: ps, v :: vs, t => by simp [setT, setT_size ps]
theorem setT_fold : ∀ (ps : List Nat) (vs : List Value) (t : Array Value), (ps.toArray.zip vs.toArray).foldl (fun t (p, v) => t.setIfInBounds p v) t = setT ps vs t
 | [], vs, t => by rw [← Array.foldl_toList, Array.toList_zip]; rfl
 | p :: ps, [], t => by rw [← Array.foldl_toList, Array.toList_zip]; rfl
 | p :: ps, v :: vs, t => by
  have := setT_fold ps vs (t.setIfInBounds p v)
  rw [← Array.foldl_toList, Array.toList_zip] at this ⊢
  exact this
theorem upPs_ok {ro : Nat → Prop} {σ : Sig} {w : World} : ∀ (ps : List Nat) (zs : List A) (env : Env) (t : Array Value), sclL zs = true → (∀ p ∈ ps, p < t.size) → (∀ s, VR ro σ w (lk env s) (t.getD s undef)) →
  ∀ s, VR ro σ w (lk (upPs ps zs env) s) ((setT ps (valL zs) t).getD s undef)
 | [], _, _, _, _, _, h => h
 | p :: ps, [], _, _, _, _, h => h
 | p :: ps, a :: zs, env, t, hs, hp, h => by
  have hs' : sclA a = true ∧ sclL zs = true := by simpa [sclL] using hs
  have h1 := VR.up (fr := fun _ => False) (a := { tmps := t, defers := [] }) h (hp p (by simp)) (VR.ofVal (ro := ro) (σ := σ) (w := w) hs'.1)
  exact upPs_ok ps zs (up env p a) (t.setIfInBounds p (valA a)) hs'.2 (fun q hq => by simpa using hp q (by simp [hq])) h1
def RoundP (h1 : Nat) (env : Env) (Q : Post) (K : Heap → Prop) : Post
 | .normal, env', H' => ∃ H2, Le h1 env' H' [] H2 ∧ K H2
 | .exit id, env', H' => ∃ H2, Le h1 env' H' [] H2 ∧ Q (.exit id) env H2
 | .ret, env', H' => ∃ H2, Le h1 env' H' [] H2 ∧ Q .ret env H2
def Jump (Q : Post) (env : Env) (c : Code) (H : Heap) : Prop := (∃ id, c = .exit id ∧ Q (.exit id) env H) ∨ (c = .ret ∧ Q .ret env H)
section
variable {D : Fix} {ro1 : Nat → Prop} {σ1 : Sig} {H : Heap} {g : Nat → Prop} {W : World} {P : Program} {N : Nat} {Q : Post} {K : Heap → Prop}
theorem RJ.round {fn : FuncId} {ps : List Nat} {assign body : Code} {df : Nat} {cs : List A} (hD : D.Ok) (hrc : D.rc = fun st pe => { state := st, pending := pe, fn := fn, tmps := D.tmps, params := ps.toArray, assign := assign, body := body, defers := df })
  (hN : D.tmps.size = N) (hps : ∀ p ∈ ps, p < N) (hlen : cs.length = ps.length) (hscl : sclL cs = true) (j : RJ D ro1 σ1 H .ready none g W)
  (h : TC P D.h1 N assign (upPs ps cs D.env) H fun e env1 H1 => e = .normal ∧ TC P D.h1 N body env1 H1 (RoundP D.h1 D.env Q K)) :
  YieldAt Fence.wide 0 P D.l (valL cs).toArray W fun e W' => ∃ g', RoundK g g' W W' ∧ ((e = .returned (.bool true) ∧ ∃ H2 ro2 σ2, K H2 ∧ RJ D ro2 σ2 H2 .ready none g' W') ∨
   (e = .returned (.bool false) ∧ ∃ H2 c ro2 σ2, Jump Q D.env c H2 ∧ RJ D ro2 σ2 H2 .done (some c) g' W')) := by
 have hvl : (valL cs).length = cs.length := by
  clear hlen hscl h
  induction cs with
  | nil => rfl
  | cons a zs ih => simp [valL, ih]
 have hl1 : ∀ b, D.fr1 b → FrB D ro1 g W b := fun b q => ⟨.inl q, j.sim.frLt b q⟩
 have hlB := hl1 _ hD.l1
 have hr0 := j.rc
 have hy := run_yield (P := P) (r := D.rc .ready none) (args := (valL cs).toArray) hr0 (by rw [hrc]; simp [hvl, hlen])
 refine ⟨fn, setT ps (valL cs) D.tmps, assign, body, ?_, ?_⟩
 ·rw [hy, hrc]; simp only []; rw [← setT_fold]
 ·refine roundIn_of_wpIn trivial ?_
  show Code.wpIn (WF (some D.l)) 0 P _ _ _ _
  have henv : ∀ s, VR ro1 σ1 W (lk D.env s) (D.tmps.getD s undef) := fun s => (j.env s).mono ⟨fun _ q => q, fun _ _ => rfl, fun _ _ q => q, fun i b q => sig_of_take j.sig q⟩
  have rd1 : RdOk (some D.l) (FrB D ro1 g W) W := fun l e => by cases e; exact ⟨hlB, _, hr0⟩
  have w1 := h (some D.l) (FrB D ro1 g W) ro1 σ1 { tmps := setT ps (valL cs) D.tmps, defers := [] } W ⟨j.simB, upPs_ok ps cs D.env D.tmps hscl (by rw [hN]; exact hps) henv, by simp [setT_size, hN], List.nodup_nil, fun d hd => by cases hd⟩ rd1
  refine Code.wpIn_mono ?_ w1
  rintro e a1 w1 ⟨x1, env1, H1, ro2, σ2, fr2, h1, ⟨rfl, h2⟩, h3, h4, h5, h6⟩
  cases e with
  | normal =>
   have hr1 : w1.heap[D.l]? = some (.loop (D.rc .ready none)) := (h4.keepFr _ hlB).trans hr0
   refine ⟨_, run_beginRound hr1 (by rw [hrc]), ?_⟩
   obtain ⟨s2, ev2⟩ := h3.sim.put (obj := .loop { D.rc .ready none with state := .busy }) (h6.sub _ hlB) (shape_loop hr1)
   have hsz1 : D.l < w1.heap.size := by rw [Array.getElem?_eq_some_iff] at hr1; exact hr1.1
   have hr2 : (w1.putObj D.l (.loop { D.rc .ready none with state := .busy })).heap[D.l]? = some (.loop { D.rc .ready none with state := .busy }) := World.putObj_heap_same hsz1
   generalize hw2 : w1.putObj D.l (.loop { D.rc .ready none with state := .busy }) = w2 at *
   have hmk : Marks fr2 a1.defers w2 := by
    refine ⟨h3.defers.1, fun d hd => ?_⟩
    obtain ⟨B, e1, e2, e3⟩ := h3.defers.2 d hd
    refine ⟨B, e1, e2, (ev2.keepFr B (fun e => ?_)).trans e3⟩
    subst e; rw [hr1] at e3; cases e3
   have r2 : Rel fr2 ro2 σ2 H1 env1 N a1 w2 := ⟨s2, fun s => (h3.env s).mono (ev2.ext0 σ2), h3.size, hmk⟩
   have hl2 : fr2 D.l := h6.sub _ hlB
   refine Code.wpIn_mono ?_ (h2 (some D.l) fr2 ro2 σ2 a1 w2 r2 (fun l e => by cases e; exact ⟨hl2, _, hr2⟩))
   rintro e a3 w3 ⟨x3, env3, H3, ro3, σ3, fr3, g1, g2, g3, g4, g5, g6⟩
   have hr3 : w3.heap[D.l]? = some (.loop { D.rc .ready none with state := .busy }) := (g4.keepFr _ hl2).trans hr2
   have key : ∀ (H2 : Heap) (jump : Option Code), Le D.h1 env3 H3 [] H2 → ∃ v w4, (Instr.endRound D.l jump).run P w3 = .ok v w4 ∧ v = .bool jump.isNone ∧ ∃ g', RoundK g g' W w4 ∧ ∃ ro4 σ4, RJ D ro4 σ4 H2 (if jump.isNone then .ready else .done) jump g' w4 := by
    intro H2 jump hle
    obtain ⟨ro4, σ4, r4, s4, t4⟩ := hle fr3 ro3 σ3 N a3 w3 g3
    refine ⟨_, _, run_endRound jump hr3, rfl, ?_⟩
    have hl3 : fr3 D.l := g6.sub _ hl2
    obtain ⟨s5, ev5⟩ := r4.sim.put (obj := .loop { { D.rc .ready none with state := .busy } with state := if jump.isNone then .ready else .done, pending := jump }) hl3 (shape_loop hr3)
    have hsz3 : D.l < w3.heap.size := by rw [Array.getElem?_eq_some_iff] at hr3; exact hr3.1
    have hr4 := World.putObj_heap_same (w := w3) (r := D.l) (o := .loop { { D.rc .ready none with state := .busy } with state := if jump.isNone then .ready else .done, pending := jump }) hsz3
    have e1 : Evolve (fun b => FrB D ro1 g W b ∧ b ≠ D.l) ro1 W ro2 w1 := h4.frMono fun b q => q.1
    have e2 : Evolve (fun b => FrB D ro1 g W b ∧ b ≠ D.l) ro2 w1 ro2 w2 := ev2.frMono fun b q => q.2
    have e3 : Evolve (fun b => FrB D ro1 g W b ∧ b ≠ D.l) ro2 w2 ro3 w3 := g4.frMono fun b q => h6.sub b q.1
    have e4 : Evolve (fun b => FrB D ro1 g W b ∧ b ≠ D.l) ro3 w3 ro4 w3 := Evolve.same s4
    have e5 := (((e1.trans e2).trans e3).trans e4).trans (ev5.frMono fun b (q : FrB D ro1 g W b ∧ b ≠ D.l) => q.2)
    obtain ⟨q1, q2⟩ := j.fin hD e5 s5 (fun b q => g6.sub b (h6.sub b q)) (by rw [t4, g5, h5]) (st' := if jump.isNone then .ready else .done) (pe' := jump) (by rw [hr4, hrc])
    exact ⟨_, q2, ro4, σ4, q1⟩
   cases e with
   | normal =>
    obtain rfl : x3 = .normal := g1
    obtain ⟨H2, hle, hK⟩ := g2
    obtain ⟨v, w4, k1, rfl, g', k2, ro4, σ4, k3⟩ := key H2 none hle
    exact ⟨_, w4, k1, g', k2, .inl ⟨rfl, H2, ro4, σ4, hK, k3⟩⟩
   | exit id =>
    obtain rfl : x3 = .exit id := g1
    obtain ⟨H2, hle, hK⟩ := g2
    obtain ⟨v, w4, k1, rfl, g', k2, ro4, σ4, k3⟩ := key H2 (some (.exit id)) hle
    exact ⟨_, w4, k1, g', k2, .inr ⟨rfl, H2, _, ro4, σ4, .inl ⟨id, rfl, hK⟩, k3⟩⟩
   | ret =>
    obtain rfl : x3 = .ret := g1
    obtain ⟨H2, hle, hK⟩ := g2
    obtain ⟨v, w4, k1, rfl, g', k2, ro4, σ4, k3⟩ := key H2 (some .ret) hle
    exact ⟨_, w4, k1, g', k2, .inr ⟨rfl, H2, _, ro4, σ4, .inr ⟨rfl, hK⟩, k3⟩⟩
   | _ => exact g1.elim
  | exit id => cases h1
  | ret => cases h1
  | _ => exact h1.elim
end
theorem Sim.beside {fr ro : Nat → Prop} {σ : Sig} {H : Heap} {w w1 : World} (s : Sim fr ro σ H w) (ev : Evolve fr ro w ro w1) (hold : ∀ b, b < w.heap.size → w1.heap[b]? = w.heap[b]?) : Sim (fun b => fr b ∨ (w.heap.size ≤ b ∧ b < w1.heap.size)) ro σ H w1 := by
 have hext : Ext ro σ w ro σ w1 := ev.ext0 σ
 refine ⟨s.len, s.roOk.to (fun _ q => q) ev.keepRo (fun b q => Nat.lt_of_lt_of_le (s.roLt b q) ev.size), fun b q => q.elim (fun q => Nat.lt_of_lt_of_le (s.frLt b q) ev.size) (fun q => q.2), fun b q r => ?_, fun i b x q1 q2 q3 => ?_, s.inj, fun i z x q1 q2 => ?_⟩
 ·rcases r with r | r
  ·exact s.roFr b q r
  ·have := s.roLt b q; omega
 ·obtain ⟨p1, p2, p3⟩ := s.own i b x q1 q2 q3
  refine ⟨Nat.lt_of_lt_of_le p1 ev.size, p2, fun r => ?_⟩
  rcases r with r | r
  ·exact p3 r
  ·omega
 ·refine (s.blk i z x q1 q2).keep hext ?_
  rintro b rfl hl
  exact hold b (s.own i b x q1 q2 hl).1
theorem alloc_old {w : World} {o : Obj} {b : Nat} (hb : b < w.heap.size) : (w.alloc o).heap[b]? = w.heap[b]? := by
 show (w.heap.push o)[b]? = _
 rw [Array.getElem?_push, if_neg (by omega)]
theorem enter_ok {P : Program} {fn : FuncId} {tmps : Array Value} {ps : Array Tmp} {assign body : Code} {rd : Option Nat} {fr ro : Nat → Prop} {w : World} (hrd : RdOk rd fr w) (hro : ∀ b, ro b → b < w.heap.size) (hfr : ∀ b, fr b → b < w.heap.size) :
  ∃ l mark w1 df, (Instr.enterLoop fn tmps ps assign body rd).run P w = .ok (l, mark) w1 ∧ w.heap.size ≤ l ∧ l < w1.heap.size ∧ w1.heap[l]? = some (.loop { state := .ready, pending := none, fn := fn, tmps := tmps, params := ps, assign := assign, body := body, defers := df }) ∧
   (∀ b, b < w.heap.size → w1.heap[b]? = w.heap[b]?) ∧ mark.Nodup ∧ (∀ d ∈ mark, ∃ D, d = { target := .collected D, args := #[] } ∧ w.heap.size ≤ D ∧ D < w1.heap.size ∧ w1.heap[D]? = some (.deferred (some []))) ∧ Evolve fr ro w ro w1 := by
 have evo : ∀ w1 : World, (∀ b, b < w.heap.size → w1.heap[b]? = w.heap[b]?) → w.heap.size ≤ w1.heap.size → w1.os = w.os → w1.tape = w.tape → w1.output = w.output → w1.drawn = w.drawn → Evolve fr ro w ro w1 := by
  intro w1 h1 h2 h3 h4 h5 h6
  refine ⟨fun _ q => q, fun b q => h1 b (hro b q), fun b q => h1 b (hfr b q), h2, fun b x q => ?_, h3, h4, h5, by rw [h6]; exact Nat.le_refl _⟩
  have hb : b < w.heap.size := by
   rcases Nat.lt_or_ge b w.heap.size with z | z
   ·exact z
   ·unfold World.shape? at q; rw [Array.getElem?_eq_none (by simpa using z)] at q; cases q
  unfold World.shape? at q ⊢; rw [h1 b hb]; exact q
 cases rd with
 | none =>
  have hold : ∀ b, b < w.heap.size → ((w.alloc (.deferred (some []))).alloc (.loop { state := .ready, pending := none, fn := fn, tmps := tmps, params := ps, assign := assign, body := body, defers := w.heap.size })).heap[b]? = w.heap[b]? := fun b hb =>
   (alloc_old (by simp; omega)).trans (alloc_old hb)
  refine ⟨_, _, _, w.heap.size, run_enterLoop_outer fn tmps ps assign body, by omega, by simp, ?_, hold, by simp, ?_, evo _ hold (by simp; omega) rfl rfl rfl rfl⟩
  ·have := World.alloc_heap_new (w.alloc (.deferred (some []))) (.loop { state := .ready, pending := none, fn := fn, tmps := tmps, params := ps, assign := assign, body := body, defers := w.heap.size })
   rwa [World.size_alloc] at this
  ·intro d hd
   obtain rfl := List.mem_singleton.1 hd
   exact ⟨_, rfl, Nat.le_refl _, by simp; omega, (alloc_old (by simp)).trans (World.alloc_heap_new w _)⟩
 | some l0 =>
  obtain ⟨_, r0, h0⟩ := hrd l0 rfl
  have hold : ∀ b, b < w.heap.size → (w.alloc (.loop { state := .ready, pending := none, fn := fn, tmps := tmps, params := ps, assign := assign, body := body, defers := r0.defers })).heap[b]? = w.heap[b]? := fun b hb => alloc_old hb
  exact ⟨_, _, _, r0.defers, run_enterLoop_inner h0 fn tmps ps assign body, Nat.le_refl _, by simp, World.alloc_heap_new w _, hold, List.nodup_nil, (fun d hd => absurd hd List.not_mem_nil), evo _ hold (by simp) rfl rfl rfl rfl⟩
theorem TC.rangeFunc {P : Program} {h0 N : Nat} {gop : Operand} {ps : List Nat} {assign body : Code} {env : Env} {H : Heap} {Q : Post} {f : FuncId} {caps capc : List A} {Hc : Heap} {T S : Type} {enc : T → List A} {nx : List T → T → List T → Prop} {xs : List T}
  (π : List Nat) (Hp : S → Heap) (V : S → List T → Prop) (s0 : S) (hh : h0 ≤ H.length) (hg : opA env gop = .fn (.func f) [] caps) (hargs : caps = renL (rho π H.length) capc) (hH : π.map (fun p => H[p]?) = (Hc.map (renB (rho π H.length))).map some) (hπ : π.Nodup)
  (hps : (ps.all fun p => Nat.blt p N) = true) (eg : ∀ args w, (callFunc f args).run P w = .ok (.enter f args) w) (hseq : SeqC P f capc Hc enc nx xs) (hscl : ∀ x, sclL (enc x) = true) (hlen : ∀ x, (enc x).length = ps.length)
  (hle : Le H.length env (killB H π) env (Hp s0)) (hV : V s0 xs)
  (hbody : ∀ s l x rem, V s l → nx l x rem → TC P H.length N assign (upPs ps (enc x) env) (Hp s) fun e env1 H1 => e = .normal ∧ TC P H.length N body env1 H1 (RoundP H.length env Q fun H2 => ∃ s', V s' rem ∧ H2 = Hp s'))
  (hdone : ∀ s, V s [] → Q .normal env (Hp s)) : TC P h0 N (.rangeFunc gop ps.toArray assign body) env H Q := by
 intro rd fr ro σ a w r hrd
 have hv := opA_ok r gop
 rw [hg] at hv
 obtain ⟨l1, capv, hv, hl1, hcap⟩ := hv
 obtain rfl : l1 = [] := hl1
 refine wpIn_rangeFunc ?_
 intro fn hfn
 obtain ⟨l, mark, w1, df, he, hl, hl', hrec, hold, hmn, hmk, ev1⟩ := enter_ok (P := P) (fn := fn) (tmps := a.tmps) (ps := ps.toArray) (assign := assign) (body := body) (ro := ro) hrd r.sim.roLt r.sim.frLt
 have s1 := r.sim.beside ev1 hold
 let D : Fix := ⟨fr, ro, σ, w, H.length, env, a.tmps, mark ++ a.defers, l, (fun st pe => { state := st, pending := pe, fn := fn, tmps := a.tmps, params := ps.toArray, assign := assign, body := body, defers := df }), (fun b => fr b ∨ (w.heap.size ≤ b ∧ b < w1.heap.size))⟩
 have hfrl : ¬ fr l := fun q => by have := r.sim.frLt l q; omega
 have hD : D.Ok := ⟨fun b q => .inl q, .inr ⟨hl, hl'⟩, hfrl, r.sim.len⟩
 have hmarks : Marks D.fr1 (mark ++ a.defers) w1 := by
  refine ⟨List.nodup_append.2 ⟨hmn, r.defers.1, fun d hd d' hd' e => ?_⟩, fun d hd => ?_⟩
  ·subst e
   obtain ⟨B, e1, e2, _⟩ := hmk d hd
   obtain ⟨B', e1', e2', _⟩ := r.defers.2 d hd'
   rw [e1] at e1'
   have : B = B' := by simpa using e1'
   subst this
   have := r.sim.frLt B e2'
   omega
  ·rcases List.mem_append.1 hd with hd | hd
   ·obtain ⟨B, e1, e2, e3, e4⟩ := hmk d hd
    exact ⟨B, e1, .inr ⟨e2, e3⟩, e4⟩
   ·obtain ⟨B, e1, e2, e3⟩ := (r.defers.keep ev1).2 d hd
    exact ⟨B, e1, .inl e2, e3⟩
 obtain ⟨sp, hσc⟩ := s1.part hH hπ
 have hcapc : LR ro (sigOf σ π) w1 capc capv := (LR.ren hσc).1 (hargs ▸ hcap.mono (ev1.ext0 σ))
 let frX : Nat → Prop := fun b => D.fr1 b ∨ ∃ (j : Nat) (x : Blk), (sigOf σ π)[j]? = some (some b) ∧ Hc[j]? = some x ∧ x.live = true
 have sX : Sim frX ro σ (killB H π) w1 := by
  refine (Sim.killL π s1).frames (fun b q => ?_) (fun b q r => ?_) (fun i b x q1 q2 q3 r => ?_)
  ·rcases q with q | ⟨j, x, q1, q2, q3⟩
   ·exact s1.frLt b q
   ·exact (sp.own j b x q1 q2 q3).1
  ·rcases r with r | ⟨j, x, q1, q2, q3⟩
   ·exact s1.roFr b q r
   ·exact (sp.own j b x q1 q2 q3).2.1 q
  ·rcases kill_get _ _ _ _ q2 with rfl | ⟨q2, hi⟩
   ·cases q3
   ·rcases r with r | ⟨j, y, p1, p2, p3⟩
    ·exact (s1.own i b x q1 q2 q3).2.2 r
    ·exact (sp.own j b y p1 p2 p3).2.2 (.inr ⟨i, x, q1, q2, q3, hi q3⟩)
 have rX : Rel frX ro σ (killB H π) env N { a with defers := mark ++ a.defers } w1 :=
  ⟨sX, fun s => (r.env s).mono (ev1.ext0 σ), r.size, hmarks.1, fun d hd => let ⟨B, e1, e2, e3⟩ := hmarks.2 d hd; ⟨B, e1, .inl e2, e3⟩⟩
 obtain ⟨ro', σ', r', hsub, htk⟩ := hle frX ro σ N _ w1 rX
 have hσt : σ.take H.length = σ := by rw [← r.sim.len, List.take_length]
 let g0 : Nat → Prop := fun b => D.fr1 b ∨ (ro' b ∧ ¬ ro b) ∨ ∃ (i : Nat) (x : Blk), σ'[i]? = some (some b) ∧ (Hp s0)[i]? = some x ∧ x.live = true
 have j0 : RJ D ro' σ' (Hp s0) .ready none g0 w1 := by
  refine ⟨r'.sim.frMono fun b q => .inl q, fun t => (r.env t).mono ⟨hsub, ev1.keepRo, ev1.shape, fun _ _ q => q⟩, htk.trans hσt, ev1.trans (Evolve.same hsub), hmarks, hrec, fun b q => ?_, fun b q => .inl q, fun i b x q1 q2 q3 => .inr (.inr ⟨i, x, q1, q2, q3⟩), fun b q => ?_⟩
  ·by_cases z : ro b
   ·exact .inl z
   ·exact .inr (.inr (.inl ⟨q, z⟩))
  ·rcases q with q | q | ⟨i, x, q1, q2, q3⟩
   ·exact s1.frLt b q
   ·exact r'.sim.roLt b q.1
   ·exact (r'.sim.own i b x q1 q2 q3).1
 have sI : Sim g0 ro (sigOf σ π) Hc w1 := by
  refine sp.frames (fun b q => j0.lt b q) (fun b q z => ?_) (fun j b x q1 q2 q3 z => ?_)
  ·rcases z with z | z | ⟨i, x, q1, q2, q3⟩
   ·exact s1.roFr b q z
   ·exact z.2 q
   ·exact (r'.sim.own i b x q1 q2 q3).2.1 (hsub b q)
  ·have hX : frX b := .inr ⟨j, x, q1, q2, q3⟩
   rcases z with z | z | ⟨i, y, p1, p2, p3⟩
   ·exact (sp.own j b x q1 q2 q3).2.2 (.inl z)
   ·exact r'.sim.roFr b z.1 hX
   ·exact (r'.sim.own i b y p1 p2 p3).2.2 hX
 let X : Ctx T := { l := l, J := fun rem g W => ∃ s ro1 σ1, V s rem ∧ RJ D ro1 σ1 (Hp s) .ready none g W, Jx := fun _ g W => ∃ H2 c ro1 σ1, Jump Q env c H2 ∧ RJ D ro1 σ1 H2 .done (some c) g W, enc := enc, nx := nx, ro0 := ro }
 have hpsN : ∀ p ∈ ps, p < N := fun p hp => by simpa using List.all_eq_true.1 hps p hp
 have hX : X.ok P := by
  refine ⟨⟨fun rem g W W' ro' ⟨s, ro1, σ1, h1, h2⟩ he => ⟨s, ro1, σ1, h1, h2.step hD he⟩, fun rem g g' W ⟨s, ro1, σ1, h1, h2⟩ hg hl => ⟨s, ro1, σ1, h1, h2.up hg hl⟩⟩,
   ⟨fun rem g W W' ro' ⟨H2, c, ro1, σ1, h1, h2⟩ he => ⟨H2, c, ro1, σ1, h1, h2.step hD he⟩, fun rem g g' W ⟨H2, c, ro1, σ1, h1, h2⟩ hg hl => ⟨H2, c, ro1, σ1, h1, h2.up hg hl⟩⟩, hscl, ?_⟩
  rintro lr x rem g W hnx ⟨s, ro1, σ1, h1, h2⟩
  obtain ⟨fn', tm, as', bd', y1, y2⟩ := RJ.round (D := D) (Q := Q) (K := fun H2 => ∃ s', V s' rem ∧ H2 = Hp s') hD rfl r.size hpsN (hlen x) (hscl x) h2 (hbody s lr x rem h1 hnx)
  refine ⟨fn', tm, as', bd', y1, RoundIn.mono y2 ?_⟩
  rintro e W' ⟨g', k1, k2⟩
  refine ⟨g', k1, ?_⟩
  rcases k2 with ⟨rfl, H2, ro2, σ2, ⟨s', hs', rfl⟩, k3⟩ | ⟨rfl, H2, c, ro2, σ2, k3, k4⟩
  ·exact .inl ⟨rfl, s', ro2, σ2, hs', k3⟩
  ·exact .inr ⟨rfl, H2, c, ro2, σ2, k3, k4⟩
 have hres : ∀ (ev : Operand → Value), ev gop = .func (.func f) #[] capv.toArray → ev (.const (.func (.yield l) #[] #[])) = .func (.yield l) #[] #[] → (resolve ev (rangeCall gop l) 0).run P w1 = .ok { target := .fn (.func f) capv.toArray, args := #[.func (.yield l) #[] #[]] } w1 := by
  intro ev h1 h2
  simp [resolve, go_sem, h1, h2]
 refine ⟨l, mark, w1, { target := .fn (.func f) capv.toArray, args := #[.func (.yield l) #[] #[]] }, w1, f, #[.func (.yield l) #[] #[]] ++ capv.toArray, w1, he, hres a.eval hv rfl, fun _ _ => trivial, by simp [invoke, go_sem, eg], fun h => by simp [WF, Fence.wide] at h, ?_⟩
 refine WF.calls.2 ?_
 have hcall := hseq X rfl rfl hX g0 (sigOf σ π) w1 capv sI hcapc ⟨s0, ro', σ', hV, j0⟩
 have eargs : (#[.func (.yield l) #[] #[]] ++ capv.toArray : Array Value) = ((Value.func (.yield X.l) #[] #[] :: capv)).toArray := by simp [X]
 rw [eargs]
 refine Calls.mono hcall ?_
 rintro e W' ⟨⟨v, rfl⟩, g2, hg2, hend⟩
 have fin : ∀ (H2 : Heap) (st : LoopState) (pe : Option Code) (ro2 : Nat → Prop) (σ2 : Sig), st ≠ .busy → RJ D ro2 σ2 H2 st pe g2 W' → ∃ w4, (Instr.endLoop l).run P W' = .ok pe w4 ∧ Rel D.fr1 ro2 σ2 H2 env N { a with defers := mark ++ a.defers } w4 ∧ Evolve fr ro w ro2 w4 := by
  intro H2 st pe ro2 σ2 hst j
  refine ⟨_, run_endLoop j.rc (by exact hst), ?_⟩
  obtain ⟨s5, ev5⟩ := j.sim.put (obj := .loop { (D.rc st pe) with state := .exhausted }) hD.l1 (shape_loop j.rc)
  have hr := j.rc
  refine ⟨⟨s5, fun t => ((j.env t).mono ⟨fun _ q => q, fun _ _ => rfl, fun _ _ q => q, fun i b q => sig_of_take j.sig q⟩).mono (ev5.ext0 σ2), r.size, j.marks.1, fun d hd => ?_⟩, j.ev.trans (ev5.frMono fun b q e => hfrl (by have e' : b = l := e; rw [← e']; exact q))⟩
  obtain ⟨B, e1, e2, e3⟩ := j.marks.2 d hd
  refine ⟨B, e1, e2, (ev5.keepFr B (fun e => ?_)).trans e3⟩
  subst e; rw [hr] at e3; cases e3
 have hgr : Grow fr w a.defers D.fr1 (mark ++ a.defers) := by
  refine ⟨fun b q => .inl q, fun b q => q.imp id (fun q => q.1), fun d hd => ?_⟩
  rcases List.mem_append.1 hd with hd | hd
  ·obtain ⟨B, e1, e2, _⟩ := hmk d hd
   exact .inr ⟨B, e1, e2⟩
  ·exact .inl hd
 have hts : ∀ {σ2 : Sig}, σ2.take H.length = σ → σ2.take h0 = σ.take h0 := by
  intro σ2 h
  have := congrArg (List.take h0) h
  rwa [List.take_take, Nat.min_eq_left hh] at this
 rcases hend with ⟨s, ro2, σ2, h1, h2⟩ | ⟨rem, H2, c, ro2, σ2, h1, h2⟩
 ·obtain ⟨w4, f1, f2, f3⟩ := fin _ _ _ ro2 σ2 (by intro e; cases e) h2
  exact ⟨none, w4, f1, .normal, env, _, ro2, σ2, _, rfl, hdone s h1, f2, f3, hts h2.sig, hgr⟩
 ·obtain ⟨w4, f1, f2, f3⟩ := fin _ _ _ ro2 σ2 (by intro e; cases e) h2
  refine ⟨some c, w4, f1, ?_⟩
  have hc : TC P h0 N c env H2 Q := by
   rcases h1 with ⟨id, rfl, h1⟩ | ⟨rfl, h1⟩
   ·exact TC.exit h1
   ·exact TC.ret h1
  exact Code.wpIn_mono (fun e a w q => q.grow f3 (hts h2.sig) hgr) (hc rd D.fr1 ro2 σ2 _ w4 f2 (hrd.to f3 fun b q => .inl q))
end Go.Sw
