/- Iterators: code that yields, seen from within. -/
import Derived.Test.YtkjlhfabbbomjaaGreatDoorSxF
import Derived.RangeFuncIn
import Derived.RangeFuncSeq
set_option linter.unusedVariables false
set_option linter.unusedSectionVars false
set_option linter.unusedSimpArgs false
namespace Go.Sw
structure RoundK (g g' : Nat → Prop) (W W' : World) : Prop where
 sub : ∀ b, g b → g' b
 new : ∀ b, g' b → g b ∨ W.heap.size ≤ b
 lt : ∀ b, g' b → b < W'.heap.size
 all : ∀ b, W.heap.size ≤ b → b < W'.heap.size → g' b
 keep : ∀ b, b < W.heap.size → ¬ g b → W'.heap[b]? = W.heap[b]?
 size : W.heap.size ≤ W'.heap.size
 shape : ∀ b x, W.shape? b = some x → W'.shape? b = some x
 os : W'.os = W.os
 tape : W'.tape = W.tape
 output : W'.output = W.output
 drawn : W.drawn ≤ W'.drawn
abbrev Jv (T : Type) := List T → (Nat → Prop) → World → Prop
structure Bides {T : Type} (ro0 : Nat → Prop) (J : Jv T) : Prop where
 ev : ∀ rem g W W' ro', J rem g W → Evolve g ro0 W ro' W' → J rem g W'
 up : ∀ rem g g' W, J rem g W → (∀ b, g b → g' b) → (∀ b, g' b → b < W.heap.size) → J rem g' W
theorem Sim.round {fr g g' ro : Nat → Prop} {σ : Sig} {H : Heap} {W W' : World} (s : Sim fr ro σ H W) (hgf : ∀ b, g b → fr b) (k : RoundK g g' W W') : Sim (fun b => fr b ∨ g' b) ro σ H W' ∧ Evolve (fun b => b < W.heap.size ∧ ¬ g b) ro W ro W' := by
 have hro : ∀ b, ro b → W'.heap[b]? = W.heap[b]? := fun b q => k.keep b (s.roLt b q) (fun r => s.roFr b q (hgf b r))
 have hext : Ext ro σ W ro σ W' := by
  have ev : Evolve (fun _ => False) ro W ro W' := ⟨fun _ q => q, hro, fun _ q => q.elim, k.size, k.shape, k.os, k.tape, k.output, k.drawn⟩
  have := ev.ext σ []
  simpa using this
 refine ⟨⟨s.len, s.roOk.to (fun _ q => q) hro (fun b q => Nat.lt_of_lt_of_le (s.roLt b q) k.size), fun b q => q.elim (fun q => Nat.lt_of_lt_of_le (s.frLt b q) k.size) (k.lt b), fun b q r => ?_, fun i b x q1 q2 q3 => ?_, s.inj, fun i y x q1 q2 => ?_⟩, ⟨fun _ q => q, hro, fun b q => k.keep b q.1 q.2, k.size, k.shape, k.os, k.tape, k.output, k.drawn⟩⟩
 ·rcases r with r | r
  ·exact s.roFr b q r
  ·rcases k.new b r with q' | q'
   ·exact s.roFr b q (hgf b q')
   ·have := s.roLt b q; omega
 ·obtain ⟨p1, p2, p3⟩ := s.own i b x q1 q2 q3
  refine ⟨Nat.lt_of_lt_of_le p1 k.size, p2, fun r => ?_⟩
  rcases r with r | r
  ·exact p3 r
  ·rcases k.new b r with q' | q'
   ·exact p3 (hgf b q')
   ·omega
 ·refine (s.blk i y x q1 q2).keep hext ?_
  rintro b rfl hl
  obtain ⟨p1, p2, p3⟩ := s.own i b x q1 q2 hl
  exact k.keep b p1 (fun r => p3 (hgf b r))
def RoundQ {T : Type} (J Jx : Jv T) (g : Nat → Prop) (W1 : World) (rem : List T) : Ending → World → Prop := fun e W' =>
 ∃ g', RoundK g g' W1 W' ∧ ((e = .returned (.bool true) ∧ J rem g' W') ∨ (e = .returned (.bool false) ∧ Jx rem g' W'))
structure Ctx (T : Type) where
 l : Nat
 J : Jv T
 Jx : Jv T
 enc : T → List A
 nx : List T → T → List T → Prop
 ro0 : Nat → Prop
structure Ctx.ok {T : Type} (X : Ctx T) (P : Program) : Prop where
 b : Bides X.ro0 X.J
 bx : Bides X.ro0 X.Jx
 scl : ∀ x, sclL (X.enc x) = true
 round : ∀ l x rem g W1, X.nx l x rem → X.J l g W1 → YieldAt Fence.wide 0 P X.l (valL (X.enc x)).toArray W1 (RoundQ X.J X.Jx g W1 rem)
def SeqC {T : Type} (P : Program) (f : FuncId) (caps : List A) (H : Heap) (enc : T → List A) (nx : List T → T → List T → Prop) (xs : List T) : Prop :=
 ∀ (X : Ctx T), X.enc = enc → X.nx = nx → X.ok P → ∀ fr σ w capv, Sim fr X.ro0 σ H w → LR X.ro0 σ w caps capv → X.J xs fr w →
  Calls P f ((Value.func (.yield X.l) #[] #[] :: capv)).toArray w fun e W' => (∃ v, e = .returned v) ∧ ∃ g, (∀ b, fr b → g b) ∧ ((X.J [] g W') ∨ (∃ rem, X.Jx rem g W'))
inductive YSt (T : Type) where
 | on (rem : List T)
 | off (rem : List T)
def Ctx.at {T : Type} (X : Ctx T) : YSt T → (Nat → Prop) → World → Prop
 | .on rem => X.J rem
 | .off rem => X.Jx rem
theorem Evolve.roMono {fr ro ro0 ro' : Nat → Prop} {w w' : World} (h : Evolve fr ro w ro' w') (s : ∀ b, ro0 b → ro b) : Evolve fr ro0 w ro' w' :=
 ⟨fun b q => h.sub b (s b q), fun b q => h.keepRo b (s b q), h.keepFr, h.size, h.shape, h.os, h.tape, h.output, h.drawn⟩
theorem Ctx.ok.ev {T : Type} {X : Ctx T} {P : Program} (h : X.ok P) {st : YSt T} {g ro ro' : Nat → Prop} {W W' : World} (hs : ∀ b, X.ro0 b → ro b) (hj : X.at st g W) (he : Evolve g ro W ro' W') : X.at st g W' := by
 cases st with
 | on rem => exact h.b.ev rem g W W' ro' hj (he.roMono hs)
 | off rem => exact h.bx.ev rem g W W' ro' hj (he.roMono hs)
theorem Ctx.ok.up {T : Type} {X : Ctx T} {P : Program} (h : X.ok P) {st : YSt T} {g g' : Nat → Prop} {W : World} (hj : X.at st g W) (hg : ∀ b, g b → g' b) (hl : ∀ b, g' b → b < W.heap.size) : X.at st g' W := by
 cases st with
 | on rem => exact h.b.up rem g g' W hj hg hl
 | off rem => exact h.bx.up rem g g' W hj hg hl
abbrev PostT (T : Type) := AEx → Env → Heap → YSt T → Prop
structure In (g fr : Nat → Prop) (ds : List Deferred) : Prop where
 sub : ∀ b, g b → fr b
 beside : ∀ D, ({ target := .collected D, args := #[] } : Deferred) ∈ ds → ¬ g D
def PostY {T : Type} (X : Ctx T) (h0 : Nat) (fr ro : Nat → Prop) (σ : Sig) (w : World) (N : Nat) (ds : List Deferred) (Q : PostT T) : Exit → Act → World → Prop :=
 fun e a' w' => ∃ x env' H' st ro' σ' fr' g', ExR e x ∧ Q x env' H' st ∧ Rel fr' ro' σ' H' env' N a' w' ∧ (X.at st g' w' ∧ In g' fr' a'.defers) ∧ (∀ b, ro b → ro' b) ∧ w.heap.size ≤ w'.heap.size ∧ σ'.take h0 = σ.take h0 ∧ Grow fr w ds fr' a'.defers
theorem PostY.grow {T : Type} {X : Ctx T} {h0 : Nat} {fr fr1 ro ro1 : Nat → Prop} {σ σ1 : Sig} {w w1 : World} {N : Nat} {ds ds1 : List Deferred} {Q : PostT T} {e : Exit} {a' : Act} {w' : World}
  (h : PostY X h0 fr1 ro1 σ1 w1 N ds1 Q e a' w') (hr : ∀ b, ro b → ro1 b) (hz : w.heap.size ≤ w1.heap.size) (hs : σ1.take h0 = σ.take h0) (hg : Grow fr w ds fr1 ds1) : PostY X h0 fr ro σ w N ds Q e a' w' := by
 obtain ⟨x, env', H', st, ro', σ', fr', g', h1, h2, h3, h4, h5, h6, h7, h8⟩ := h
 exact ⟨x, env', H', st, ro', σ', fr', g', h1, h2, h3, h4, fun b q => h5 b (hr b q), Nat.le_trans hz h6, h7.trans hs, hg.trans hz h8⟩
def TCy {T : Type} (X : Ctx T) (P : Program) (h0 N : Nat) (c : Code) (env : Env) (H : Heap) (st : YSt T) (Q : PostT T) : Prop :=
 X.ok P → ∀ rd fr ro σ a w g, Rel fr ro σ H env N a w → (∀ b, X.ro0 b → ro b) → X.at st g w ∧ In g fr a.defers → rd = none → c.wpIn (WF rd) 0 P (PostY X h0 fr ro σ w N a.defers Q) a w
def WOy {T : Type} (X : Ctx T) (P : Program) (h0 N : Nat) (all : Array Oper) (l : List Oper) (env : Env) (H : Heap) (st : YSt T) (Q : PostT T) : Prop :=
 X.ok P → ∀ rd fr ro σ a w g, Rel fr ro σ H env N a w → (∀ b, X.ro0 b → ro b) → X.at st g w ∧ In g fr a.defers → rd = none → wpL P rd all (PostY X h0 fr ro σ w N a.defers Q) l a w
theorem In.later {fr fr' g : Nat → Prop} {w : World} {ds ds' : List Deferred} (h : In g fr ds) (hl : ∀ b, fr b → b < w.heap.size) (hg : Grow fr w ds fr' ds') : In g fr' ds' := by
 refine ⟨fun b q => hg.sub b (h.sub b q), fun D hD q => ?_⟩
 rcases hg.ds _ hD with r | ⟨D', e, r⟩
 ·exact h.beside D r q
 ·have : D = D' := by simpa using e
  subst this
  have := hl D (h.sub D q)
  omega
section
variable {T : Type} {X : Ctx T} {P : Program} {h0 N : Nat} {c c' : Code} {env : Env} {H : Heap} {st : YSt T} {Q : PostT T}
theorem PostW.toY {fr ro : Nat → Prop} {σ : Sig} {w : World} {ds : List Deferred} {e : Exit} {a' : Act} {w' : World} (hX : X.ok P) (h : PostW h0 fr ro σ w N ds (fun x env H => Q x env H st) e a' w') (hs : ∀ b, X.ro0 b → ro b) {g : Nat → Prop} (hl : ∀ b, fr b → b < w.heap.size) (hj : X.at st g w ∧ In g fr ds) :
  PostY X h0 fr ro σ w N ds Q e a' w' := by
 obtain ⟨x, env', H', ro', σ', fr', h1, h2, h3, h4, h5, h6⟩ := h
 exact ⟨x, env', H', st, ro', σ', fr', g, h1, h2, h3, ⟨hX.ev hs hj.1 (h4.frMono hj.2.sub), hj.2.later hl h6⟩, h4.sub, h4.size, h5, h6⟩
theorem TCy.lift (h : TC P h0 N c env H (fun x env H => Q x env H st)) : TCy X P h0 N c env H st Q :=
 fun hX rd fr ro σ a w g r hs hj hrd => Code.wpIn_mono (fun e a' w' q => PostW.toY hX q hs r.sim.frLt hj) (h rd fr ro σ a w r (hrd ▸ RdOk.none))
def SeqY (X : Ctx T) (P : Program) (h0 N : Nat) (c : Code) (Q : PostT T) : PostT T
 | .normal, env, H, st => TCy X P h0 N c env H st Q
 | .exit id, env, H, st => Q (.exit id) env H st
 | .ret, env, H, st => Q .ret env H st
theorem TCy.seq (h : TCy X P h0 N c env H st (SeqY X P h0 N c' Q)) : TCy X P h0 N (.seq c c') env H st Q := by
 intro hX rd fr ro σ a w g r hs hj hrd
 refine wpIn_seq (Code.wpIn_mono ?_ (h hX rd fr ro σ a w g r hs hj hrd))
 rintro e a' w' ⟨x, env', H', st', ro', σ', fr', g', h1, h2, h3, h4, h5, h6, h7, h8⟩
 cases e with
 | normal =>
  obtain rfl : x = .normal := h1
  exact Code.wpIn_mono (fun e a w q => q.grow h5 h6 h7 h8) (h2 hX rd fr' ro' σ' a' w' g' h3 (fun b q => h5 b (hs b q)) h4 hrd)
 | exit id =>
  obtain rfl : x = .exit id := h1
  exact ⟨_, env', H', st', ro', σ', fr', g', rfl, h2, h3, h4, h5, h6, h7, h8⟩
 | ret =>
  obtain rfl : x = .ret := h1
  exact ⟨_, env', H', st', ro', σ', fr', g', rfl, h2, h3, h4, h5, h6, h7, h8⟩
 | _ => exact h1.elim
theorem TCy.region {id : Nat} {l : List Oper} (h : WOy X P h0 N l.toArray l env H st Q) : TCy X P h0 N (.region id l.toArray false) env H st Q :=
 fun hX rd fr ro σ a w g r hs hj hrd => wpIn_region_lit (h hX rd fr ro σ a w g r hs hj hrd)
theorem TCy.cond {x : Operand} {t : Bool} (hx : opA env x = .bool t) (ht : t = true → TCy X P h0 N c env H st Q) (hf : t = false → TCy X P h0 N c' env H st Q) : TCy X P h0 N (.cond x c c') env H st Q := by
 intro hX rd fr ro σ a w g r hs hj hrd
 have hv := opA_ok r x
 rw [hx] at hv
 exact wpIn_cond_split hv (fun e => ht e hX rd fr ro σ a w g r hs hj hrd) (fun e => hf e hX rd fr ro σ a w g r hs hj hrd)
theorem WOy.nil {all : Array Oper} (h : Q .normal env H st) : WOy X P h0 N all [] env H st Q :=
 fun hX rd fr ro σ a w g r hs hj hrd => ⟨_, env, H, st, ro, σ, fr, g, rfl, h, r, hj, fun _ q => q, Nat.le_refl _, rfl, Grow.refl _ _ _⟩
end
theorem uponIn_imp {P : Program} {rd : Option Nat} {o : Oper} {a : Act} {K K' : Act → World → Prop} {Q Q' : Exit → Act → World → Prop} (hk : ∀ a w, K a w → K' a w) (hp : ∀ ch a w, Q (.panic ch) a w → Q' (.panic ch) a w) (ho : ∀ a w, Q .outgrown a w → Q' .outgrown a w)
  {r : Result Next} (h : o.uponIn (WF rd) 0 P a K Q r) : o.uponIn (WF rd) 0 P a K' Q' r := by
 cases r with
 | ok x w =>
  cases x with
  | value v => exact hk _ _ h
  | skip => exact hk _ _ h
  | defer d => exact hk _ _ h
  | enter f args =>
   refine ⟨h.1, CallsIn.mono h.2 ?_⟩
   intro e w' q
   cases e with
   | returned v => exact hk _ _ q
   | panicked c => exact hp _ _ _ q
   | outgrown => obtain ⟨a, w, q⟩ := q; exact ⟨a, w, ho _ _ q⟩
  | row r args => exact ⟨h.1, RowsIn.mono h.2 fun v w' q => hk _ _ q⟩
  | round l f tmps assign body =>
   refine ⟨h.1, RoundIn.mono h.2 ?_⟩
   intro e w' q
   cases e with
   | returned v => exact hk _ _ q
   | panicked c => exact hp _ _ _ q
   | outgrown => obtain ⟨a, w, q⟩ := q; exact ⟨a, w, ho _ _ q⟩
  | _ => exact h
 | halt x w =>
  cases x with
  | panic v => exact hp _ _ _ h
  | _ => exact h
section
variable {T : Type} {X : Ctx T} {P : Program} {h0 N : Nat} {env : Env} {H : Heap} {st : YSt T} {Q : PostT T}
theorem WOy.step {all : Array Oper} {o : Oper} {rest : List Oper} (h : WO P h0 N all [o] env H (fun x env' H' => x = .normal ∧ WOy X P h0 N all rest env' H' st Q)) : WOy X P h0 N all (o :: rest) env H st Q := by
 intro hX rd fr ro σ a w g r hs hj hrd
 have go : ∀ a' w', PostO h0 fr ro σ w N a.defers (fun x env' H' => x = .normal ∧ WOy X P h0 N all rest env' H' st Q) .normal a' w' → wpL P rd all (PostY X h0 fr ro σ w N a.defers Q) rest a' w' := by
  rintro a' w' ⟨x, env', H', ro', σ', fr', h1, ⟨_, h2⟩, h3, h4, h5, h6, h7⟩
  have hj' : X.at st g w' ∧ In g fr' a'.defers := ⟨hX.ev hs hj.1 (h4.frMono hj.2.sub), by rw [h6]; exact hj.2.later r.sim.frLt h7⟩
  have := h2 hX rd fr' ro' σ' a' w' g h3 (fun b q => h4.sub b (hs b q)) hj' hrd
  refine wpL_mono (fun e a2 w2 q => ?_) _ _ _ this
  exact q.grow h4.sub h4.size h5 (by rw [h6]; exact h7)
 have h' := h rd fr ro σ a w r (hrd ▸ RdOk.none)
 unfold wpL wpListIn at h' ⊢
 split
 ·rename_i hw
  rw [if_pos hw] at h'
  refine ⟨h'.1, uponIn_imp (fun a2 w2 q => ?_) (fun ch a2 w2 q => ?_) (fun a2 w2 q => ?_) h'.2⟩
  ·unfold wpListIn at q
   exact go a2 w2 q
  ·obtain ⟨x, _, _, _, _, _, q, _⟩ := q
   exact q.elim
  ·obtain ⟨x, _, _, _, _, _, q, _⟩ := q
   exact q.elim
 ·rename_i hw
  rw [if_neg hw] at h'
  refine ⟨h'.1, ?_⟩
  have q := h'.2
  unfold wpListIn at q
  exact go _ _ q
theorem WOy.yield {all : Array Oper} {o : Oper} {rest : List Oper} {d : Nat} {x : T} {lr rem : List T} (hnx : X.nx lr x rem) (hg : wantedA all o env true) (hd : o.dst = some d) (hN : Nat.blt d N = true)
  (hop : ∀ fr ro σ a w, Rel fr ro σ H env N a w → (execOp a.eval o).run P w = (Instr.yield X.l (valL (X.enc x)).toArray).run P w)
  (k : ∀ b : Bool, WOy X P h0 N all rest (up env d (.bool b)) H (bif b then .on rem else .off rem) Q) : WOy X P h0 N all (o :: rest) env H (.on lr) Q := by
 intro hX rd fr ro σ a w g r hs hj hrd
 obtain ⟨fn, tmps, assign, body, h1, h2⟩ := hX.round lr x rem g w hnx hj.1
 have h3 := (hop fr ro σ a w r).trans h1
 unfold wpL wpListIn
 rw [if_pos (wanted_of hg r)]
 refine ⟨fun _ _ => trivial, ?_⟩
 rw [semAt_ok h3 (fun d e => by cases e)]
 refine ⟨fun h => by simp [WF, Fence.wide] at h, ?_⟩
 refine RoundIn.mono (F := WF rd) (n := 0) h2 ?_
 rintro e w' ⟨g', hk, hb⟩
 obtain ⟨s', ev⟩ := r.sim.round hj.2.sub hk
 have hdN : d < N := by simpa using hN
 have hext : Ext ro σ w ro σ w' := by have := ev.ext σ []; simpa using this
 have fin : ∀ b : Bool, X.at (bif b then .on rem else .off rem) g' w' → wpL P rd all (PostY X h0 fr ro σ w N a.defers Q) rest (a.put o.dst (.bool b)) w' := by
  intro b hb
  have hm : Marks (fun b => fr b ∨ g' b) a.defers w' := by
   refine ⟨r.defers.1, fun d hd => ?_⟩
   obtain ⟨D, rfl, q1, q2⟩ := r.defers.2 d hd
   exact ⟨D, rfl, .inl q1, (hk.keep D (r.sim.frLt D q1) (hj.2.beside D hd)).trans q2⟩
  have hi : In g' (fun b => fr b ∨ g' b) a.defers := by
   refine ⟨fun b q => .inr q, fun D hD q => ?_⟩
   rcases hk.new D q with q' | q'
   ·exact hj.2.beside D hD q'
   ·obtain ⟨D', e, q1, _⟩ := r.defers.2 _ hD
    have : D = D' := by simpa using e
    subst this
    have := r.sim.frLt D q1
    omega
  have r' : Rel (fun b => fr b ∨ g' b) ro σ H (up env d (.bool b)) N { a with tmps := a.tmps.setIfInBounds d (.bool b) } w' :=
   ⟨s', VR.up (fr := fr) (fun s => (r.env s).mono hext) (by rw [r.size]; exact hdN) rfl, by simpa using r.size, hm⟩
  have := k b hX rd _ ro σ _ w' g' r' hs ⟨hb, hi⟩ hrd
  simp only [hd, Act.put]
  refine wpL_mono (fun e a2 w2 q => q.grow (fun _ q => q) hk.size rfl ⟨fun _ q => .inl q, fun b q => ?_, fun _ q => .inl q⟩) _ _ _ this
  rcases q with q | q
  ·exact .inl q
  ·rcases hk.new b q with q | q
   ·exact .inl (hj.2.sub b q)
   ·exact .inr q
 rcases hb with ⟨rfl, hb⟩ | ⟨rfl, hb⟩
 ·exact fin true hb
 ·exact fin false hb
end
def EndY {T : Type} : PostT T := fun x env H st => (x = .normal ∨ x = .ret) ∧ (st = .on [] ∨ ∃ rem, st = .off rem)
theorem SeqC.of_body {T : Type} {P : Program} {f : FuncId} {fn : Func} {c : Code} {N : Nat} {caps : List A} {H : Heap} {enc : T → List A} {nx : List T → T → List T → Prop} {xs : List T}
  (hf : P.funcs[f]? = some fn) (hb : fn.body = some c) (hN : fn.ntmps = N) (hA : Nat.ble (caps.length + 1) N = true) (hR : fn.results = #[])
  (h : ∀ X : Ctx T, X.enc = enc → X.nx = nx → TCy X P H.length N c (envOf 0 (.fn (.yield X.l) [] [] :: caps)) H (.on xs) EndY) : SeqC P f caps H enc nx xs := by
 intro X hE hNx hX fr σ w capv hs hl hj
 have hl2 : LR X.ro0 σ w (.fn (.yield X.l) [] [] :: caps) (Value.func (.yield X.l) #[] #[] :: capv) := ⟨_, _, rfl, ⟨[], [], rfl, rfl, rfl⟩, hl⟩
 have hlen := hl2.length
 have hA' : caps.length + 1 ≤ N := by simpa using hA
 refine (callsIn_wide (n := 0)).1 (callsIn_of_wp_marks hf hb trivial (Code.wpIn_mono ?_ (h X hE hNx hX none fr X.ro0 σ _ w fr ⟨hs, ?_, ?_, List.nodup_nil, fun d hd => by cases hd⟩ (fun _ q => q) ⟨hj, fun _ q => q, fun D hD => by cases hD⟩ rfl)))
 ·rintro e a' w' ⟨x, env1, H1, st, ro1, σ1, fr1, g1, h1, ⟨h2, h2'⟩, h3, ⟨h4, hin⟩, h5, h6, h7, h8⟩
  have key : LeavesInM Fence.wide 0 P fn a'.tmps (fun e W' => (∃ v, e = .returned v) ∧ ∃ g, (∀ b, fr b → g b) ∧ ((X.J [] g W') ∨ (∃ rem, X.Jx rem g W'))) a'.defers .returning w' := by
   refine leaves_marks (ro := ro1) (fr := g1) (σ := σ1) (H := H1) a'.defers w' h3.defers.1 (fun d hd => ?_) (h3.sim.frMono hin.sub) (fun w2 s2 ev2 => ?_)
   ·obtain ⟨D, rfl, q1, q2⟩ := h3.defers.2 d hd
    exact ⟨D, rfl, fun q => h3.sim.roFr D q q1, hin.beside D hd, fun i x r1 r2 r3 => (h3.sim.own i D x r1 r2 r3).2.2 q1, q2⟩
   ·refine ⟨.tuple #[], by simp [results, hR, go_sem], ⟨_, rfl⟩, fun b => g1 b ∨ fr b, fun b q => .inr q, ?_⟩
    have h9 := hX.up (hX.ev h5 h4 ev2) (g' := fun b => g1 b ∨ fr b) (fun b q => .inl q) (fun b q => Nat.lt_of_lt_of_le (h3.sim.frLt b (q.elim (hin.sub b) (h8.sub b))) ev2.size)
    rcases h2' with rfl | ⟨rem, rfl⟩
    ·exact .inl h9
    ·exact .inr ⟨rem, h9⟩
  cases e with
  | normal => exact key
  | ret => exact key
  | exit id =>
   obtain rfl : x = .exit id := h1
   rcases h2 with q | q <;> cases q
  | _ => exact h1.elim
 ·intro s
  have := lk_envOf (i := 0) [] rfl hl2 (Array.replicate (fn.ntmps - (Value.func (.yield X.l) #[] #[] :: capv).toArray.size) undef) s
  simpa using this
 ·simp only [List.length_cons] at hlen
  simp [hN]; omega
section
variable {T : Type} {X : Ctx T} {P : Program} {h0 N : Nat} {c c' : Code} {env : Env} {H : Heap} {st : YSt T} {Q Q' : PostT T}
theorem TCy.mono (h : TCy X P h0 N c env H st Q) (hq : ∀ x env H st, Q x env H st → Q' x env H st) : TCy X P h0 N c env H st Q' := by
 intro hX rd fr ro σ a w g r hs hj hrd
 refine Code.wpIn_mono ?_ (h hX rd fr ro σ a w g r hs hj hrd)
 rintro e a' w' ⟨x, env', H', st', ro', σ', fr', g', h1, h2, h3⟩
 exact ⟨x, env', H', st', ro', σ', fr', g', h1, hq _ _ _ _ h2, h3⟩
theorem TCy.skip (h : Q .normal env H st) : TCy X P h0 N .skip env H st Q := TCy.lift (TC.skip h)
theorem TCy.ret (h : Q .ret env H st) : TCy X P h0 N .ret env H st Q := TCy.lift (TC.ret h)
theorem TCy.exit {id : Nat} (h : Q (.exit id) env H st) : TCy X P h0 N (.exit id) env H st Q := TCy.lift (TC.exit h)
def BloY (id : Nat) (Q : PostT T) : PostT T
 | .normal, env, H, st => Q .normal env H st
 | .exit id', env, H, st => bif Nat.beq id' id then Q .normal env H st else Q (.exit id') env H st
 | .ret, env, H, st => Q .ret env H st
theorem TCy.block {id : Nat} (h : TCy X P h0 N c env H st (BloY id Q)) : TCy X P h0 N (.block id c) env H st Q := by
 intro hX rd fr ro σ a w g r hs hj hrd
 refine wpIn_block (Code.wpIn_mono ?_ (h hX rd fr ro σ a w g r hs hj hrd))
 rintro e a' w' ⟨x, env', H', st', ro', σ', fr', g', h1, h2, h3⟩
 cases e with
 | normal =>
  obtain rfl : x = .normal := h1
  exact ⟨_, env', H', st', ro', σ', fr', g', rfl, h2, h3⟩
 | exit id' =>
  obtain rfl : x = .exit id' := h1
  show Exit.inBlock id _ _ _ _
  unfold Exit.inBlock
  simp only [BloY] at h2
  by_cases q : id' = id
  ·subst q
   rw [Nat.beq_refl, cond_true] at h2
   simp only [if_true]
   exact ⟨.normal, env', H', st', ro', σ', fr', g', rfl, h2, h3⟩
  ·have hb : Nat.beq id' id = false := by
    cases e : Nat.beq id' id with
    | false => rfl
    | true => exact absurd (Nat.eq_of_beq_eq_true e) q
   rw [hb, cond_false] at h2
   simp only [q, if_false]
   exact ⟨.exit id', env', H', st', ro', σ', fr', g', rfl, h2, h3⟩
 | ret =>
  obtain rfl : x = .ret := h1
  exact ⟨_, env', H', st', ro', σ', fr', g', rfl, h2, h3⟩
 | _ => exact h1.elim
end
section
variable {T : Type} {X : Ctx T} {P : Program} {h0 N : Nat} {c : Code} {env : Env} {H : Heap} {st : YSt T} {Q : PostT T}
def LoopPostY (I : Env → Heap → YSt T → Prop) (Q : PostT T) : PostT T
 | .normal, env, H, st => I env H st
 | .exit id, env, H, st => Q (.exit id) env H st
 | .ret, env, H, st => Q .ret env H st
theorem TCy.loopI {I : Nat → Env → Heap → YSt T → Prop} (body : ∀ n env H st, I n env H st → TCy X P h0 N c env H st (LoopPostY (fun env H st => ∃ n', n' < n ∧ I n' env H st) Q)) {n : Nat} (hI : I n env H st) : TCy X P h0 N (.loop c) env H st Q := by
 intro hX rd fr ro σ a w g r hs hj hrd b k cs hro hb hr
 have key : ∀ m n env H st fr1 ro1 σ1 a1 w1 g1, n < m → I n env H st → Rel fr1 ro1 σ1 H env N a1 w1 → (∀ b, ro b → ro1 b) → w.heap.size ≤ w1.heap.size → σ1.take h0 = σ.take h0 → Grow fr w a.defers fr1 a1.defers → X.at st g1 w1 ∧ In g1 fr1 a1.defers →
   ∃ e a' w', PostY X h0 fr ro σ w N a.defers Q e a' w' ∧ ArrivesIn (Machine.fenced P (WF rd)) P (lone (b.atR a1 (.code c :: .inLoop c :: k)) cs w1) b k cs e a' w' := by
  intro m
  induction m with
  | zero => intro n env H st fr1 ro1 σ1 a1 w1 g1 hn; exact absurd hn (Nat.not_lt_zero _)
  | succ m ih =>
   intro n env H st fr1 ro1 σ1 a1 w1 g1 hn hI r1 s1 z1 t1 gr1 j1
   obtain ⟨e, a', w', hq, harr⟩ := body n env H st hI hX rd fr1 ro1 σ1 a1 w1 g1 r1 (fun b q => s1 b (hs b q)) j1 hrd b (.inLoop c :: k) cs hro hb hr
   obtain ⟨x, env', H', st', ro', σ', fr', g', q1, q2, q3, q4, q5, q6, q7, q8⟩ := hq
   have s2 := fun b q => q5 b (s1 b q)
   have gr2 := gr1.trans z1 q8
   have hp : ∀ x, Q x env' H' st' → ExR e x → PostY X h0 fr ro σ w N a.defers Q e a' w' := fun x q q' => ⟨x, env', H', st', ro', σ', fr', g', q', q, q3, q4, s2, Nat.le_trans z1 q6, q7.trans t1, gr2⟩
   cases e with
   | normal =>
    obtain rfl : x = .normal := q1
    obtain ⟨n', hn', q2⟩ := q2
    obtain ⟨e2, a2, w2, hq2, harr2⟩ := ih n' env' H' st' fr' ro' σ' a' w' g' (by omega) q2 q3 s2 (Nat.le_trans z1 q6) (q7.trans t1) gr2 q4
    exact ⟨e2, a2, w2, hq2, .of_steps (StepsIn.trans harr (.one (fenced_calm hb hr rfl) stepR_inLoop)) harr2⟩
   | exit id =>
    obtain rfl : x = .exit id := q1
    exact ⟨_, a', w', hp _ q2 rfl, .pass (x := .inLoop c) rfl (fun _ _ => .inl (by simp)) harr⟩
   | ret =>
    obtain rfl : x = .ret := q1
    exact ⟨_, a', w', hp _ q2 rfl, .pass (x := .inLoop c) rfl (fun _ _ => .inl (by simp)) harr⟩
   | _ => exact q1.elim
 obtain ⟨e, a', w', hq, harr⟩ := key (n + 1) n env H st fr ro σ a w g (Nat.lt_succ_self _) hI r (fun _ q => q) (Nat.le_refl _) rfl (Grow.refl _ _ _) hj
 exact ⟨e, a', w', hq, .of_steps (.one (fenced_calm hb hr rfl) stepR_loop) harr⟩
end
end Go.Sw
