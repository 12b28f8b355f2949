/- Contracts of functions over abstract states, calls by contract, loops. -/
import Derived.Test.YtkjlhfabbbomjaaGreatDoorSwB
import Derived.RangeFuncLeaves
import Derived.RangeFuncRecord
set_option linter.unusedVariables false
set_option linter.unusedSectionVars false
set_option linter.unusedSimpArgs false
namespace Go.Sw
mutual
def renA (ρ : Nat → Nat) : A → A
 | .ptr i off => .ptr (ρ i) off
 | .osl i o n k => .osl (ρ i) o n k
 | .agg cs => .agg (renL ρ cs)
 | .fn f a c => .fn f (renL ρ a) (renL ρ c)
 | .iface t v => .iface t (renA ρ v)
 | .map i => .map (ρ i)
 | .tup vs => .tup (renL ρ vs)
 | a => a
def renL (ρ : Nat → Nat) : List A → List A
 | [] => []
 | a :: r => renA ρ a :: renL ρ r
end
def renE (ρ : Nat → Nat) : List (List A) → List (List A)
 | [] => []
 | a :: r => renL ρ a :: renE ρ r
def renB (ρ : Nat → Nat) : Blk → Blk
 | .cells t cs => .cells t (renL ρ cs)
 | .rowr t k es => .rowr t k (renE ρ es)
 | .ents t b1 b2 es => .ents t (ρ b1) (ρ b2) es
 | b => b
theorem renE_ents (ρ : Nat → Nat) (b1 b2 : Nat) : ∀ (es : List Ent), renE ρ (es.map (eC b1 b2)) = es.map (eC (ρ b1) (ρ b2))
 | [] => rfl
 | e :: es => by
  have := renE_ents ρ b1 b2 es
  simp only [List.map_cons, renE, this]
  congr 1
  cases h : e.fl <;> simp [eC, renL, renA, h]
theorem renB_live (ρ : Nat → Nat) (x : Blk) : (renB ρ x).live = x.live := by cases x <;> rfl
section
variable {ro : Nat → Prop} {σ σ' : Sig} {w : World} {ρ : Nat → Nat} (h : ∀ i : Nat, σ[ρ i]? = σ'[i]?)
include h
mutual
theorem VR.ren : ∀ {a : A} {v : Value}, VR ro σ w (renA ρ a) v ↔ VR ro σ' w a v
 | .any, _ => by simp only [renA, VR]
 | .bool b, v => by simp only [renA, VR]
 | .int k n, v => by simp only [renA, VR]
 | .str s, v => by simp only [renA, VR]
 | .nilp, v => by simp only [renA, VR]
 | .ptr i off, v => by simp only [renA, VR, h]
 | .rp cs, v => by simp only [renA, VR]
 | .nils, v => by simp only [renA, VR]
 | .rsl k es, v => by simp only [renA, VR]
 | .osl i o n k, v => by simp only [renA, VR, h]
 | .agg cs, v => by simp only [renA, VR]; exact exists_congr fun l => and_congr_right fun _ => LR.ren
 | .fn f a c, v => by simp only [renA, VR]; exact exists_congr fun l => exists_congr fun l' => and_congr_right fun _ => and_congr LR.ren LR.ren
 | .nilf, v => by simp only [renA, VR]
 | .iface t a, v => by simp only [renA, VR]; exact exists_congr fun l => and_congr_right fun _ => VR.ren
 | .nilif, v => by simp only [renA, VR]
 | .map i, v => by simp only [renA, VR, h]
 | .nilm, v => by simp only [renA, VR]
 | .tup vs, v => by simp only [renA, VR]; exact exists_congr fun l => and_congr_right fun _ => LR.ren
theorem LR.ren : ∀ {as : List A} {l : List Value}, LR ro σ w (renL ρ as) l ↔ LR ro σ' w as l
 | [], l => by simp only [renL, LR]
 | a :: r, l => by
  simp only [renL, LR]
  exact exists_congr fun v => exists_congr fun l' => and_congr_right fun _ => and_congr VR.ren LR.ren
end
theorem renL_length : ∀ (cs : List A), (renL ρ cs).length = cs.length
 | [] => rfl
 | a :: r => by simp [renL, renL_length r]
theorem RL.ren {k : Nat} : ∀ {es : List (List A)} {l : List Value}, RL ro σ w k (renE ρ es) l ↔ RL ro σ' w k es l
 | [], l => by simp only [renE, RL]
 | a :: r, l => by
  simp only [renE, RL, renL_length h]
  exact exists_congr fun l1 => exists_congr fun l2 => and_congr_right fun _ => and_congr_right fun _ => and_congr (and_congr_left fun _ => LR.ren h) RL.ren
theorem BR.ren {x : Blk} {s : Option Nat} : BR ro σ w (renB ρ x) s ↔ BR ro σ' w x s := by
 cases x with
 | cells t cs =>
  cases s with
  | none => exact Iff.rfl
  | some b => simp only [renB, BR]; exact exists_congr fun l => and_congr_right fun _ => and_congr_left fun _ => LR.ren h
 | rowr t k es =>
  cases s with
  | none => exact Iff.rfl
  | some b => simp only [renB, BR]; exact exists_congr fun l => and_congr_right fun _ => RL.ren h
 | ents t b1 b2 es =>
  cases s with
  | none => exact Iff.rfl
  | some b =>
   simp only [renB, BR]
   refine exists_congr fun l => and_congr_right fun _ => ?_
   rw [← renE_ents]
   exact RL.ren h
 | _ => cases s <;> exact Iff.rfl
end
def C (P : Program) (f : FuncId) (args : List A) (H : Heap) (Q : A → Heap → Prop) : Prop :=
 ∀ fr ro σ vals w, Sim fr ro σ H w → LR ro σ w args vals → Calls P f vals.toArray w fun e w' =>
  ∃ v r H' ro' τ, e = .returned v ∧ Q r H' ∧ Sim fr ro' (σ ++ τ) H' w' ∧ VR ro' (σ ++ τ) w' r v ∧ Evolve fr ro w ro' w'
theorem C.mono {P : Program} {f : FuncId} {args : List A} {H : Heap} {Q Q' : A → Heap → Prop} (h : C P f args H Q) (hq : ∀ r H, Q r H → Q' r H) : C P f args H Q' :=
 fun fr ro σ vals w s l => (h fr ro σ vals w s l).mono fun e w' ⟨v, r, H', ro', τ, h1, h2, h3⟩ => ⟨v, r, H', ro', τ, h1, hq _ _ h2, h3⟩
def envOf : Nat → List A → Env
 | _, [] => []
 | i, a :: r => (i, a) :: envOf (i + 1) r
theorem lk_envOf {ro : Nat → Prop} {σ : Sig} {w : World} : ∀ {args : List A} {vals : List Value} {i : Nat} (pre : List Value), pre.length = i → LR ro σ w args vals → ∀ rest : Array Value,
  ∀ s, VR ro σ w (lk (envOf i args) s) (((pre ++ vals).toArray ++ rest).getD s undef)
 | [], vals, i, pre, hp, hl, rest, s => trivial
 | a :: r, vals, i, pre, hp, hl, rest, s => by
  simp only [LR] at hl
  obtain ⟨v, l', rfl, h1, h2⟩ := hl
  simp only [envOf, lk]
  by_cases e : s = i
  ·subst e
   rw [Nat.beq_refl]
   have : ((pre ++ v :: l').toArray ++ rest).getD s undef = v := by
    subst hp
    simp [Array.getD_eq_getD_getElem?, Array.getElem?_append]
   rw [this]; exact h1
  ·have : Nat.beq s i = false := by
    rw [Bool.eq_false_iff]; intro q; exact e (Nat.eq_of_beq_eq_true q)
   rw [this]
   have := lk_envOf (i := i + 1) (pre ++ [v]) (by simp [hp]) h2 rest s
   simpa using this
def ResOK (P : Program) (fn : Func) (env : Env) (H : Heap) (r : A) : Prop :=
 ∀ fr ro σ N a w, Rel fr ro σ H env N a w → ∃ v, (results fn a.tmps).run P w = .ok v w ∧ VR ro σ w r v
def RetPost (P : Program) (h0 : Nat) (fn : Func) (Q : A → Heap → Prop) : Post
 | .normal, env, H => ∃ env' H' r, Le h0 env H env' H' ∧ ResOK P fn env' H' r ∧ Q r H'
 | .ret, env, H => ∃ env' H' r, Le h0 env H env' H' ∧ ResOK P fn env' H' r ∧ Q r H'
 | .exit _, _, _ => False
theorem LR.length {ro : Nat → Prop} {σ : Sig} {w : World} : ∀ {as : List A} {l : List Value}, LR ro σ w as l → l.length = as.length
 | [], l, h => by simp only [LR] at h; simp [h]
 | a :: r, l, h => by
  simp only [LR] at h
  obtain ⟨v, l', rfl, _, h2⟩ := h
  simp [h2.length]
theorem Sim.turn {fr ro : Nat → Prop} {σ : Sig} {H : Heap} {w : World} (s : Sim fr ro σ H w) {b : Nat} {obj : Obj} (hro : ¬ ro b) (hfr : ¬ fr b) (ho : ∀ (i : Nat) (x : Blk), σ[i]? = some (some b) → H[i]? = some x → x.live = true → False)
  (hsh : ∀ y, w.shape? b = some y → (w.putObj b obj).shape? b = some y) : Sim fr ro σ H (w.putObj b obj) ∧ Evolve fr ro w ro (w.putObj b obj) := by
 have hne : ∀ c, c ≠ b → (w.putObj b obj).heap[c]? = w.heap[c]? := fun c hc => World.putObj_heap_other hc
 have hsz : (w.putObj b obj).heap.size = w.heap.size := by simp
 have ev : Evolve fr ro w ro (w.putObj b obj) := by
  refine ⟨fun _ q => q, fun c q => hne c (fun e => hro (e ▸ q)), fun c q => hne c (fun e => hfr (e ▸ q)), by rw [hsz]; exact Nat.le_refl _, fun c x q => ?_, rfl, rfl, rfl, Nat.le_refl _⟩
  by_cases e : c = b
  ·subst e; exact hsh x q
  ·unfold World.shape? at q ⊢; rw [hne c e]; exact q
 have hext : Ext ro σ w ro σ (w.putObj b obj) := by have := ev.ext σ []; simpa using this
 refine ⟨⟨s.len, s.roOk.to (fun _ q => q) ev.keepRo (fun c q => by rw [hsz]; exact s.roLt c q), fun c q => by rw [hsz]; exact s.frLt c q, s.roFr, fun i c x q1 q2 q3 => ?_, s.inj, fun i y x q1 q2 => ?_⟩, ev⟩
 ·obtain ⟨p1, p2, p3⟩ := s.own i c x q1 q2 q3
  exact ⟨by rw [hsz]; exact p1, p2, p3⟩
 ·refine (s.blk i y x q1 q2).keep hext ?_
  rintro c rfl hl
  exact hne c (fun e => ho i x (e ▸ q1) q2 hl)
theorem leaves_marks {P : Program} {fn : Func} {tmps : Array Value} {R : Ending → World → Prop} {fr ro : Nat → Prop} {σ : Sig} {H : Heap} :
  ∀ (ds : List Deferred) (w : World), ds.Nodup → (∀ d ∈ ds, ∃ D, d = { target := .collected D, args := #[] } ∧ ¬ ro D ∧ ¬ fr D ∧ (∀ (i : Nat) (x : Blk), σ[i]? = some (some D) → H[i]? = some x → x.live = true → False) ∧ w.heap[D]? = some (.deferred (some []))) →
  Sim fr ro σ H w → (∀ w', Sim fr ro σ H w' → Evolve fr ro w ro w' → ∃ v, (results fn tmps).run P w' = .ok v w' ∧ R (.returned v) w') → LeavesInM Fence.wide 0 P fn tmps R ds .returning w
 | [], w, _, _, s, hk => by
  obtain ⟨v, h1, h2⟩ := hk w s (Evolve.refl _ _ _)
  exact ⟨v, h1, h2⟩
 | d :: ds, w, hn, hd, s, hk => by
  obtain ⟨D, rfl, h1, h2, h3, h4⟩ := hd d (by simp)
  obtain ⟨n1, n2⟩ := List.nodup_cons.1 hn
  obtain ⟨s', ev⟩ := s.turn (obj := .deferred none) h1 h2 h3 (fun y q => by unfold World.shape? at q; rw [h4] at q; simp at q)
  refine ⟨(by intro e; cases e), .inl ⟨D, _, rfl, run_takeDeferred h4, ?_⟩⟩
  refine leaves_marks ds _ n2 (fun d' q => ?_) s' (fun w' q1 q2 => hk w' q1 (ev.trans q2))
  obtain ⟨D', rfl, g1, g2, g3, g4⟩ := hd d' (by simp [q])
  refine ⟨D', rfl, g1, g2, g3, (World.putObj_heap_other (fun e => ?_)).trans g4⟩
  subst e
  exact n1 q
theorem C.of_body {P : Program} {f : FuncId} {fn : Func} {c : Code} {N : Nat} {args : List A} {H : Heap} {Q : A → Heap → Prop}
  (hf : P.funcs[f]? = some fn) (hb : fn.body = some c) (hN : fn.ntmps = N) (hA : Nat.ble args.length N = true)
  (h : TC P H.length N c (envOf 0 args) H (RetPost P H.length fn Q)) : C P f args H Q := by
 intro fr ro σ vals w hs hl
 have hlen := hl.length
 have hA' : args.length ≤ N := by simpa using hA
 refine (callsIn_wide (n := 0)).1 (callsIn_of_wp_marks hf hb trivial (Code.wpIn_mono ?_ (h none fr ro σ _ w ⟨hs, ?_, ?_, List.nodup_nil, fun d hd => by cases hd⟩ RdOk.none)))
 ·rintro e a' w' ⟨x, env1, H1, ro1, σ1, fr1, h1, h2, h3, h4, h5, h6⟩
  have key : (∃ env' H' r, Le H.length env1 H1 env' H' ∧ ResOK P fn env' H' r ∧ Q r H') → LeavesInM Fence.wide 0 P fn a'.tmps (fun e w' =>
    ∃ v' r H' ro' τ, e = .returned v' ∧ Q r H' ∧ Sim fr ro' (σ ++ τ) H' w' ∧ VR ro' (σ ++ τ) w' r v' ∧ Evolve fr ro w ro' w') a'.defers .returning w' := by
   rintro ⟨env', H', r, hle, hr, hq⟩
   obtain ⟨ro', σ', h3', hsub, ht⟩ := hle fr1 ro1 σ1 N a' w' h3
   have hσ : σ' = σ ++ σ'.drop H.length := by
    have e1 : σ'.take H.length = σ := by rw [ht, h5, List.take_of_length_le (by rw [hs.len]; exact Nat.le_refl _)]
    conv => lhs; rw [← List.take_append_drop H.length σ', e1]
   have s1 : Sim fr ro' σ' H' w' := h3'.sim.frMono h6.sub
   refine leaves_marks (ro := ro') (fr := fr) (σ := σ') (H := H') a'.defers w' h3'.defers.1 (fun d hd => ?_) s1 (fun w2 s2 ev2 => ?_)
   ·obtain ⟨D, rfl, g1, g2⟩ := h3'.defers.2 d hd
    refine ⟨D, rfl, fun q => h3'.sim.roFr D q g1, fun q => ?_, fun i x q1 q2 q3 => (h3'.sim.own i D x q1 q2 q3).2.2 g1, g2⟩
    rcases h6.ds _ hd with q' | ⟨D', e, q'⟩
    ·cases q'
    ·have : D = D' := by simpa using e
     subst this
     have := hs.frLt D q
     omega
   ·have hr2 : Rel fr ro' σ' H' env' N { a' with defers := [] } w2 := ⟨s2, fun s => (h3'.env s).mono (by have := ev2.ext σ' []; simpa using this), h3'.size, List.nodup_nil, fun d hd => by cases hd⟩
    obtain ⟨v, e1, e2⟩ := hr fr ro' σ' N _ w2 hr2
    exact ⟨v, e1, v, r, H', ro', σ'.drop H.length, rfl, hq, hσ ▸ s2, hσ ▸ e2, (h4.trans (Evolve.same hsub)).trans ev2⟩
  cases e with
  | normal =>
   obtain rfl : x = .normal := h1
   exact key h2
  | ret =>
   obtain rfl : x = .ret := h1
   exact key h2
  | exit id =>
   obtain rfl : x = .exit id := h1
   exact h2.elim
  | _ => exact h1.elim
 ·intro s
  have := lk_envOf (i := 0) [] rfl hl (Array.replicate (fn.ntmps - vals.toArray.size) undef) s
  simpa using this
 ·simp [hN, hlen]; omega
section
variable {P : Program} {fn : Func} {env : Env} {H : Heap}
theorem ResOK.nil (h : fn.results = #[]) : ResOK P fn env H (.tup []) :=
 fun fr ro σ N a w r => ⟨.tuple #[], by simp [results, h, go_sem], [], rfl, rfl⟩
theorem ResOK.one {t : Nat} {x : A} (h : fn.results = #[.tmp t]) (hx : lk env t = x) : ResOK P fn env H x :=
 fun fr ro σ N a w r => ⟨a.tmps.getD t undef, by simp [results, h, go_sem], hx ▸ r.env t⟩
theorem ResOK.two {t u : Nat} {x y : A} (h : fn.results = #[.tmp t, .tmp u]) (hx : lk env t = x) (hy : lk env u = y) : ResOK P fn env H (.tup [x, y]) :=
 fun fr ro σ N a w r => ⟨.tuple #[a.tmps.getD t undef, a.tmps.getD u undef], by simp [results, h, go_sem],
  [_, _], rfl, _, _, rfl, hx ▸ r.env t, _, _, rfl, hy ▸ r.env u, rfl⟩
end
inductive Ctl (S B : Type) where
 | cont (s : S)
 | done (b : B)
 deriving DecidableEq
def iter {S B : Type} (step : S → Option (Ctl S B)) : Nat → S → Option B
 | 0, _ => none
 | n + 1, s => match step s with
  | some (.cont s') => iter step n s'
  | some (.done b) => some b
  | none => none
def LoopPost {S B : Type} (I : S → Env → Heap → Prop) (d : Ctl S B) (Q : Post) : Post
 | .normal, env, H => ∃ s, d = .cont s ∧ I s env H
 | .exit id, env, H => (∃ b, d = .done b) ∧ Q (.exit id) env H
 | .ret, env, H => (∃ b, d = .done b) ∧ Q .ret env H
theorem TC.loop0 {P : Program} {h0 N : Nat} {c : Code} {S B : Type} {step : S → Option (Ctl S B)} {I : S → Env → Heap → Prop} {Q : Post} {b0 : B}
  (body : ∀ s d env H, I s env H → step s = some d → (∀ b, d = .done b → b = b0) → TC P h0 N c env H (LoopPost I d Q))
  {m : Nat} {s0 : S} (h : iter step m s0 = some b0) {env : Env} {H : Heap} (hI : I s0 env H) : TC P h0 N (.loop c) env H Q := by
 intro rd fr ro σ a w r hrd b k cs hro hb hr
 have key : ∀ m s env H fr1 ro1 σ1 a1 w1, iter step m s = some b0 → I s env H → Rel fr1 ro1 σ1 H env N a1 w1 → Evolve fr ro w ro1 w1 → σ1.take h0 = σ.take h0 → Grow fr w a.defers fr1 a1.defers →
   ∃ e a' w', PostW h0 fr ro σ w N a.defers Q e a' w' ∧ ArrivesIn (Machine.fenced P (WF rd)) P (lone (b.atR a1 (.code c :: .inLoop c :: k)) cs w1) b k cs e a' w' := by
  intro m
  induction m with
  | zero => intro s env H fr1 ro1 σ1 a1 w1 hit; simp [iter] at hit
  | succ m ih =>
   intro s env H fr1 ro1 σ1 a1 w1 hit hI r1 ev1 t1 g1
   simp only [iter] at hit
   cases hs : step s with
   | none => rw [hs] at hit; simp at hit
   | some d =>
    rw [hs] at hit
    have hd : ∀ b, d = .done b → b = b0 := by
     rintro b rfl; simpa using hit
    obtain ⟨e, a', w', hq, harr⟩ := body s d env H hI hs hd rd fr1 ro1 σ1 a1 w1 r1 (hrd.to ev1 g1.sub) b (.inLoop c :: k) cs hro hb hr
    obtain ⟨x, env', H', ro', σ', fr', q1, q2, q3, q4, q5, q6⟩ := hq
    have ev2 := ev1.trans (q4.frMono g1.sub)
    have g2 := g1.trans ev1.size q6
    have hp : ∀ x, Q x env' H' → ExR e x → PostW h0 fr ro σ w N a.defers Q e a' w' := fun x q q' => ⟨x, env', H', ro', σ', fr', q', q, q3, ev2, q5.trans t1, g2⟩
    cases e with
    | normal =>
     obtain rfl : x = .normal := q1
     obtain ⟨s', rfl, q2⟩ := q2
     obtain ⟨e2, a2, w2, hq2, harr2⟩ := ih s' env' H' fr' ro' σ' a' w' hit q2 q3 ev2 (q5.trans t1) g2
     exact ⟨e2, a2, w2, hq2, .of_steps (StepsIn.trans harr (.one (fenced_calm hb hr rfl) stepR_inLoop)) harr2⟩
    | exit id =>
     obtain rfl : x = .exit id := q1
     exact ⟨_, a', w', hp _ q2.2 rfl, .pass (x := .inLoop c) rfl (fun _ _ => .inl (by simp)) harr⟩
    | ret =>
     obtain rfl : x = .ret := q1
     exact ⟨_, a', w', hp _ q2.2 rfl, .pass (x := .inLoop c) rfl (fun _ _ => .inl (by simp)) harr⟩
    | _ => exact q1.elim
 obtain ⟨e, a', w', hq, harr⟩ := key m s0 env H fr ro σ a w h hI r (Evolve.refl _ _ _) rfl (Grow.refl _ _ _)
 exact ⟨e, a', w', hq, .of_steps (.one (fenced_calm hb hr rfl) stepR_loop) harr⟩
theorem TC.loop {P : Program} {h0 N : Nat} {c : Code} {S B : Type} {step : S → Option (Ctl S B)} (E : S → Env) (Hp : S → Heap) {Q : Post}
  {m : Nat} {s0 : S} {b0 : B} (h : iter step m s0 = some b0) {env : Env} {H : Heap} (hI : Le h0 env H (E s0) (Hp s0))
  (body : ∀ s d, step s = some d → (∀ b, d = .done b → b = b0) → TC P h0 N c (E s) (Hp s) (LoopPost (fun s env H => Le h0 env H (E s) (Hp s)) d Q)) : TC P h0 N (.loop c) env H Q :=
 TC.loop0 (I := fun s env H => Le h0 env H (E s) (Hp s)) (fun s d env H hI hs hd => TC.le hI (body s d hs hd)) h hI
end Go.Sw
