/- Judgements on code over abstract states: TC (code), WO (the operations of a region), C (a call), and the rules of control. -/
import Derived.Test.YtkjlhfabbbomjaaGreatDoorSwA
import Derived.TacticsIn
import Derived.OrdersIn
set_option linter.unusedVariables false
set_option linter.unusedSectionVars false
set_option linter.unusedSimpArgs false
namespace Go.Sw
abbrev Env := List (Nat × A)
def lk : Env → Nat → A
 | [], _ => .any
 | (d, a) :: r, s => bif Nat.beq s d then a else lk r s
abbrev up (env : Env) (d : Nat) (a : A) : Env := (d, a) :: env
inductive AEx where
 | normal | exit (id : Nat) | ret
abbrev Post := AEx → Env → Heap → Prop
def Marks (fr : Nat → Prop) (ds : List Deferred) (w : World) : Prop := ds.Nodup ∧ ∀ d ∈ ds, ∃ D, d = { target := .collected D, args := #[] } ∧ fr D ∧ w.heap[D]? = some (.deferred (some []))
theorem Marks.keep {fr ro ro' : Nat → Prop} {ds : List Deferred} {w w' : World} (h : Marks fr ds w) (k : Evolve fr ro w ro' w') : Marks fr ds w' := by
 refine ⟨h.1, fun d hd => ?_⟩
 obtain ⟨D, h1, h2, h3⟩ := h.2 d hd
 exact ⟨D, h1, h2, (k.keepFr D h2).trans h3⟩
structure Grow (fr : Nat → Prop) (w : World) (ds : List Deferred) (fr' : Nat → Prop) (ds' : List Deferred) : Prop where
 sub : ∀ b, fr b → fr' b
 new : ∀ b, fr' b → fr b ∨ w.heap.size ≤ b
 ds : ∀ d ∈ ds', d ∈ ds ∨ ∃ D, d = { target := .collected D, args := #[] } ∧ w.heap.size ≤ D
theorem Grow.refl (fr : Nat → Prop) (w : World) (ds : List Deferred) : Grow fr w ds fr ds := ⟨fun _ h => h, fun _ h => .inl h, fun _ h => .inl h⟩
theorem Grow.trans {fr fr1 fr2 : Nat → Prop} {w w1 : World} {ds ds1 ds2 : List Deferred} (h : Grow fr w ds fr1 ds1) (hs : w.heap.size ≤ w1.heap.size) (k : Grow fr1 w1 ds1 fr2 ds2) : Grow fr w ds fr2 ds2 := by
 refine ⟨fun b q => k.sub b (h.sub b q), fun b q => ?_, fun d q => ?_⟩
 ·rcases k.new b q with q | q
  ·exact h.new b q
  ·exact .inr (Nat.le_trans hs q)
 ·rcases k.ds d q with q | ⟨D, q1, q2⟩
  ·exact h.ds d q
  ·exact .inr ⟨D, q1, Nat.le_trans hs q2⟩
theorem Evolve.frMono {fr fr' ro ro' : Nat → Prop} {w w' : World} (h : Evolve fr' ro w ro' w') (s : ∀ b, fr b → fr' b) : Evolve fr ro w ro' w' :=
 ⟨h.sub, h.keepRo, fun b q => h.keepFr b (s b q), h.size, h.shape, h.os, h.tape, h.output, h.drawn⟩
theorem Sim.frMono {fr fr' ro : Nat → Prop} {σ : Sig} {H : Heap} {w : World} (h : Sim fr' ro σ H w) (s : ∀ b, fr b → fr' b) : Sim fr ro σ H w :=
 ⟨h.len, h.roOk, fun b q => h.frLt b (s b q), fun b q r => h.roFr b q (s b r), fun i b x q1 q2 q3 => let ⟨a, b', c⟩ := h.own i b x q1 q2 q3; ⟨a, b', fun q => c (s b q)⟩, h.inj, h.blk⟩
structure Rel (fr ro : Nat → Prop) (σ : Sig) (H : Heap) (env : Env) (N : Nat) (a : Act) (w : World) : Prop where
 sim : Sim fr ro σ H w
 env : ∀ s, VR ro σ w (lk env s) (a.tmps.getD s undef)
 size : a.tmps.size = N
 defers : Marks fr a.defers w
def RdOk (rd : Option Nat) (fr : Nat → Prop) (w : World) : Prop := ∀ l, rd = some l → fr l ∧ ∃ r, w.heap[l]? = some (.loop r)
theorem RdOk.none {fr : Nat → Prop} {w : World} : RdOk none fr w := fun l e => by cases e
theorem RdOk.to {rd : Option Nat} {fr fr' ro ro' : Nat → Prop} {w w' : World} (h : RdOk rd fr w) (k : Evolve fr ro w ro' w') (s : ∀ b, fr b → fr' b) : RdOk rd fr' w' := fun l e => by
 obtain ⟨h1, r, h2⟩ := h l e
 exact ⟨s l h1, r, (k.keepFr l h1).trans h2⟩
def ExR : Exit → AEx → Prop
 | .normal, x => x = .normal
 | .exit id, x => x = .exit id
 | .ret, x => x = .ret
 | _, _ => False
def PostW (h0 : Nat) (fr ro : Nat → Prop) (σ : Sig) (w : World) (N : Nat) (ds : List Deferred) (Q : Post) : Exit → Act → World → Prop :=
 fun e a' w' => ∃ x env' H' ro' σ' fr', ExR e x ∧ Q x env' H' ∧ Rel fr' ro' σ' H' env' N a' w' ∧ Evolve fr ro w ro' w' ∧ σ'.take h0 = σ.take h0 ∧ Grow fr w ds fr' a'.defers
theorem PostW.grow {h0 : Nat} {fr fr1 ro ro1 : Nat → Prop} {σ σ1 : Sig} {w w1 : World} {N : Nat} {ds ds1 : List Deferred} {Q : Post} {e : Exit} {a' : Act} {w' : World}
  (h : PostW h0 fr1 ro1 σ1 w1 N ds1 Q e a' w') (he : Evolve fr ro w ro1 w1) (hs : σ1.take h0 = σ.take h0) (hg : Grow fr w ds fr1 ds1) : PostW h0 fr ro σ w N ds Q e a' w' := by
 obtain ⟨x, env', H', ro', σ', fr', h1, h2, h3, h4, h5, h6⟩ := h
 exact ⟨x, env', H', ro', σ', fr', h1, h2, h3, he.trans (h4.frMono hg.sub), h5.trans hs, hg.trans he.size h6⟩
theorem PostW.step {h0 : Nat} {fr ro ro1 : Nat → Prop} {σ σ1 : Sig} {w w1 : World} {N : Nat} {ds : List Deferred} {Q : Post} {e : Exit} {a' : Act} {w' : World}
  (h : PostW h0 fr ro1 σ1 w1 N ds Q e a' w') (he : Evolve fr ro w ro1 w1) (hs : σ1.take h0 = σ.take h0) : PostW h0 fr ro σ w N ds Q e a' w' := h.grow he hs (Grow.refl _ _ _)
theorem PostW.mono {h0 : Nat} {fr ro : Nat → Prop} {σ : Sig} {w : World} {N : Nat} {ds : List Deferred} {Q Q' : Post} {e : Exit} {a' : Act} {w' : World}
  (h : PostW h0 fr ro σ w N ds Q e a' w') (hq : ∀ x env H, Q x env H → Q' x env H) : PostW h0 fr ro σ w N ds Q' e a' w' := by
 obtain ⟨x, env', H', ro', σ', fr', h1, h2, h3⟩ := h
 exact ⟨x, env', H', ro', σ', fr', h1, hq _ _ _ h2, h3⟩
def PostO (h0 : Nat) (fr ro : Nat → Prop) (σ : Sig) (w : World) (N : Nat) (ds : List Deferred) (Q : Post) : Exit → Act → World → Prop :=
 fun e a' w' => ∃ x env' H' ro' σ' fr', ExR e x ∧ Q x env' H' ∧ Rel fr' ro' σ' H' env' N a' w' ∧ Evolve fr ro w ro' w' ∧ σ'.take h0 = σ.take h0 ∧ a'.defers = ds ∧ Grow fr w ds fr' ds
theorem PostO.grow {h0 : Nat} {fr fr1 ro ro1 : Nat → Prop} {σ σ1 : Sig} {w w1 : World} {N : Nat} {ds : List Deferred} {Q : Post} {e : Exit} {a' : Act} {w' : World}
  (h : PostO h0 fr1 ro1 σ1 w1 N ds Q e a' w') (he : Evolve fr ro w ro1 w1) (hs : σ1.take h0 = σ.take h0) (hg : Grow fr w ds fr1 ds) : PostO h0 fr ro σ w N ds Q e a' w' := by
 obtain ⟨x, env', H', ro', σ', fr', h1, h2, h3, h4, h5, h6, h7⟩ := h
 exact ⟨x, env', H', ro', σ', fr', h1, h2, h3, he.trans (h4.frMono hg.sub), h5.trans hs, h6, hg.trans he.size h7⟩
theorem PostO.step {h0 : Nat} {fr ro ro1 : Nat → Prop} {σ σ1 : Sig} {w w1 : World} {N : Nat} {ds : List Deferred} {Q : Post} {e : Exit} {a' : Act} {w' : World}
  (h : PostO h0 fr ro1 σ1 w1 N ds Q e a' w') (he : Evolve fr ro w ro1 w1) (hs : σ1.take h0 = σ.take h0) : PostO h0 fr ro σ w N ds Q e a' w' := h.grow he hs (Grow.refl _ _ _)
theorem PostO.mono {h0 : Nat} {fr ro : Nat → Prop} {σ : Sig} {w : World} {N : Nat} {ds : List Deferred} {Q Q' : Post} {e : Exit} {a' : Act} {w' : World}
  (h : PostO h0 fr ro σ w N ds Q e a' w') (hq : ∀ x env H, Q x env H → Q' x env H) : PostO h0 fr ro σ w N ds Q' e a' w' := by
 obtain ⟨x, env', H', ro', σ', fr', h1, h2, h3⟩ := h
 exact ⟨x, env', H', ro', σ', fr', h1, hq _ _ _ h2, h3⟩
theorem PostO.postW {h0 : Nat} {fr ro : Nat → Prop} {σ : Sig} {w : World} {N : Nat} {ds : List Deferred} {Q : Post} {e : Exit} {a' : Act} {w' : World}
  (h : PostO h0 fr ro σ w N ds Q e a' w') : PostW h0 fr ro σ w N ds Q e a' w' := by
 obtain ⟨x, env', H', ro', σ', fr', h1, h2, h3, h4, h5, h6, h7⟩ := h
 exact ⟨x, env', H', ro', σ', fr', h1, h2, h3, h4, h5, by rw [h6]; exact h7⟩
def WF (rd : Option Nat) : Fence := { Fence.wide with round := rd }
theorem WF.calls {rd : Option Nat} {P : Program} {f : FuncId} {args : Array Value} {w : World} {R : Ending → World → Prop} : CallsIn (WF rd) 0 P f args w R ↔ Calls P f args w R := callsIn_wide
abbrev wpL (P : Program) (rd : Option Nat) (ops : Array Oper) (Q : Exit → Act → World → Prop) : List Oper → Act → World → Prop := wpListIn (WF rd) 0 P ops Q
def TC (P : Program) (h0 N : Nat) (c : Code) (env : Env) (H : Heap) (Q : Post) : Prop :=
 ∀ rd fr ro σ a w, Rel fr ro σ H env N a w → RdOk rd fr w → c.wpIn (WF rd) 0 P (PostW h0 fr ro σ w N a.defers Q) a w
def WO (P : Program) (h0 N : Nat) (all : Array Oper) (l : List Oper) (env : Env) (H : Heap) (Q : Post) : Prop :=
 ∀ rd fr ro σ a w, Rel fr ro σ H env N a w → RdOk rd fr w → wpL P rd all (PostO h0 fr ro σ w N a.defers Q) l a w
def Le (h0 : Nat) (env : Env) (H : Heap) (env' : Env) (H' : Heap) : Prop :=
 ∀ fr ro σ N a w, Rel fr ro σ H env N a w → ∃ ro' σ', Rel fr ro' σ' H' env' N a w ∧ (∀ b, ro b → ro' b) ∧ σ'.take h0 = σ.take h0
theorem Le.refl (h0 : Nat) (env : Env) (H : Heap) : Le h0 env H env H := fun fr ro σ N a w h => ⟨ro, σ, h, fun _ q => q, rfl⟩
theorem Le.trans {h0 : Nat} {e1 e2 e3 : Env} {H1 H2 H3 : Heap} (h : Le h0 e1 H1 e2 H2) (k : Le h0 e2 H2 e3 H3) : Le h0 e1 H1 e3 H3 := by
 intro fr ro σ N a w r
 obtain ⟨ro1, σ1, r1, s1, t1⟩ := h fr ro σ N a w r
 obtain ⟨ro2, σ2, r2, s2, t2⟩ := k fr ro1 σ1 N a w r1
 exact ⟨ro2, σ2, r2, fun b q => s2 _ (s1 _ q), t2.trans t1⟩
theorem Evolve.same {fr ro ro' : Nat → Prop} {w : World} (h : ∀ b, ro b → ro' b) : Evolve fr ro w ro' w :=
 ⟨h, fun _ _ => rfl, fun _ _ => rfl, Nat.le_refl _, fun _ _ h => h, rfl, rfl, rfl, Nat.le_refl _⟩
theorem wpL_mono {P : Program} {rd : Option Nat} {ops : Array Oper} {Q Q' : Exit → Act → World → Prop} (hq : ∀ e a w, Q e a w → Q' e a w) :
  ∀ (l : List Oper) (a : Act) (w : World), wpL P rd ops Q l a w → wpL P rd ops Q' l a w
 | [], a, w, h => hq _ _ _ h
 | o :: l, a, w, h => by
  unfold wpL wpListIn at h ⊢
  split
  ·rename_i hw
   rw [if_pos hw] at h
   obtain ⟨h1, h2⟩ := h
   refine ⟨h1, ?_⟩
   revert h2
   generalize (o.semAt (WF rd).round a.eval).run P w = r
   intro h2
   have hk := fun a w => wpL_mono (P := P) (rd := rd) (ops := ops) hq l a w
   cases r with
   | ok x w =>
    cases x with
    | value v => exact hk _ _ h2
    | skip => exact hk _ _ h2
    | defer d => exact hk _ _ h2
    | enter f args =>
     refine ⟨h2.1, CallsIn.mono h2.2 ?_⟩
     intro e w' q
     cases e with
     | returned v => exact hk _ _ q
     | panicked c => exact hq _ _ _ q
     | outgrown => obtain ⟨a, w, q⟩ := q; exact ⟨a, w, hq _ _ _ q⟩
    | row r args => exact ⟨h2.1, RowsIn.mono h2.2 fun v w' q => hk _ _ q⟩
    | round l f tmps assign body =>
     refine ⟨h2.1, RoundIn.mono h2.2 ?_⟩
     intro e w' q
     cases e with
     | returned v => exact hk _ _ q
     | panicked c => exact hq _ _ _ q
     | outgrown => obtain ⟨a, w, q⟩ := q; exact ⟨a, w, hq _ _ _ q⟩
    | _ => exact h2
   | halt x w =>
    cases x with
    | panic v => exact hq _ _ _ h2
    | _ => exact h2
  ·rename_i hw
   rw [if_neg hw] at h
   exact ⟨h.1, wpL_mono hq l _ _ h.2⟩
theorem semAt_ok {P : Program} {o : Oper} {a : Act} {w w' : World} {x : Next} {rd : Option Nat} (h : (execOp a.eval o).run P w = .ok x w') (hx : ∀ d, x ≠ .defer d) : (o.semAt (WF rd).round a.eval).run P w = .ok x w' := by
 cases e : o.op with
 | defer c =>
  exfalso
  have : execOp a.eval o = (do pure (.defer (← resolve a.eval c o.type))) := by simp [execOp, e]
  rw [this] at h
  simp only [Sem.run_bind] at h
  generalize (resolve a.eval c o.type).run P w = r at h
  cases r with
  | ok d w2 => simp [Result.andThen, go_sem] at h; exact hx _ h.1.symm
  | halt x w2 => simp [Result.andThen] at h
 | _ => rw [Oper.semAt_eq _ _ _ (by rw [e]; intro c q; cases q)]; exact h
theorem wpL_value {P : Program} {rd : Option Nat} {ops : Array Oper} {Q : Exit → Act → World → Prop} {o : Oper} {l : List Oper} {a : Act} {w w' : World} {v : Value} (hw : Region.wanted o (yielded ops a.tmps) = true)
  (h : (execOp a.eval o).run P w = .ok (.value v) w') (k : wpL P rd ops Q l (a.put o.dst v) w') : wpL P rd ops Q (o :: l) a w := by
 unfold wpL wpListIn
 rw [if_pos hw]
 exact ⟨fun _ _ => trivial, by rw [semAt_ok h (fun d e => by cases e)]; exact k⟩
theorem wpL_skip {P : Program} {rd : Option Nat} {ops : Array Oper} {Q : Exit → Act → World → Prop} {o : Oper} {l : List Oper} {a : Act} {w w' : World} (hw : Region.wanted o (yielded ops a.tmps) = true)
  (h : (execOp a.eval o).run P w = .ok .skip w') (k : wpL P rd ops Q l (a.put o.dst undef) w') : wpL P rd ops Q (o :: l) a w := by
 unfold wpL wpListIn
 rw [if_pos hw]
 exact ⟨fun _ _ => trivial, by rw [semAt_ok h (fun d e => by cases e)]; exact k⟩
theorem wpL_enter {P : Program} {rd : Option Nat} {ops : Array Oper} {Q : Exit → Act → World → Prop} {o : Oper} {l : List Oper} {a : Act} {w w' : World} {f : FuncId} {args : Array Value} (hw : Region.wanted o (yielded ops a.tmps) = true)
  (h : (execOp a.eval o).run P w = .ok (.enter f args) w') (k : Calls P f args w' fun e w'' => ∃ v, e = .returned v ∧ wpL P rd ops Q l (a.put o.dst v) w'') : wpL P rd ops Q (o :: l) a w := by
 unfold wpL wpListIn
 rw [if_pos hw]
 refine ⟨fun _ _ => trivial, ?_⟩
 rw [semAt_ok h (fun d e => by cases e)]
 refine ⟨fun h => by simp [WF, Fence.wide] at h, WF.calls.2 (Calls.mono k ?_)⟩
 rintro e w'' ⟨v, rfl, q⟩
 exact q
section
variable {P : Program} {h0 N : Nat} {env env' : Env} {H H' : Heap} {Q Q' : Post} {c c' : Code}
theorem TC.mono (h : TC P h0 N c env H Q) (hq : ∀ x env H, Q x env H → Q' x env H) : TC P h0 N c env H Q' :=
 fun rd fr ro σ a w r hrd => Code.wpIn_mono (fun e a w q => q.mono hq) (h rd fr ro σ a w r hrd)
theorem TC.le (hle : Le h0 env H env' H') (h : TC P h0 N c env' H' Q) : TC P h0 N c env H Q := by
 intro rd fr ro σ a w r hrd
 obtain ⟨ro', σ', r', s, t⟩ := hle fr ro σ N a w r
 exact Code.wpIn_mono (fun e a w q => q.step (Evolve.same s) t) (h rd fr ro' σ' a w r' hrd)
theorem WO.le {all : Array Oper} {l : List Oper} (hle : Le h0 env H env' H') (h : WO P h0 N all l env' H' Q) : WO P h0 N all l env H Q := by
 intro rd fr ro σ a w r hrd
 obtain ⟨ro', σ', r', s, t⟩ := hle fr ro σ N a w r
 exact wpL_mono (fun e a w q => q.step (Evolve.same s) t) _ _ _ (h rd fr ro' σ' a w r' hrd)
theorem WO.mono {all : Array Oper} {l : List Oper} (h : WO P h0 N all l env H Q) (hq : ∀ x env H, Q x env H → Q' x env H) : WO P h0 N all l env H Q' :=
 fun rd fr ro σ a w r hrd => wpL_mono (fun e a w q => q.mono hq) _ _ _ (h rd fr ro σ a w r hrd)
def Seq (P : Program) (h0 N : Nat) (c : Code) (Q : Post) : Post
 | .normal, env, H => TC P h0 N c env H Q
 | .exit id, env, H => Q (.exit id) env H
 | .ret, env, H => Q .ret env H
def Blo (id : Nat) (Q : Post) : Post
 | .normal, env, H => Q .normal env H
 | .exit id', env, H => bif Nat.beq id' id then Q .normal env H else Q (.exit id') env H
 | .ret, env, H => Q .ret env H
theorem TC.seq (h : TC P h0 N c env H (Seq P h0 N c' Q)) : TC P h0 N (.seq c c') env H Q := by
 intro rd fr ro σ a w r hrd
 refine wpIn_seq (Code.wpIn_mono ?_ (h rd fr ro σ a w r hrd))
 rintro e a' w' ⟨x, env', H', ro', σ', fr', h1, h2, h3, h4, h5, h6⟩
 cases e with
 | normal =>
  obtain rfl : x = .normal := h1
  exact Code.wpIn_mono (fun e a w q => q.grow h4 h5 h6) (h2 rd fr' ro' σ' a' w' h3 (hrd.to h4 h6.sub))
 | exit id =>
  obtain rfl : x = .exit id := h1
  exact ⟨_, env', H', ro', σ', fr', rfl, h2, h3, h4, h5, h6⟩
 | ret =>
  obtain rfl : x = .ret := h1
  exact ⟨_, env', H', ro', σ', fr', rfl, h2, h3, h4, h5, h6⟩
 | _ => exact h1.elim
theorem TC.skip (h : Q .normal env H) : TC P h0 N .skip env H Q :=
 fun rd fr ro σ a w r hrd => wpIn_skip ⟨_, env, H, ro, σ, fr, rfl, h, r, Evolve.refl _ _ _, rfl, Grow.refl _ _ _⟩
theorem TC.ret (h : Q .ret env H) : TC P h0 N .ret env H Q :=
 fun rd fr ro σ a w r hrd => wpIn_ret ⟨_, env, H, ro, σ, fr, rfl, h, r, Evolve.refl _ _ _, rfl, Grow.refl _ _ _⟩
theorem TC.exit {id : Nat} (h : Q (.exit id) env H) : TC P h0 N (.exit id) env H Q :=
 fun rd fr ro σ a w r hrd => wpIn_exit ⟨_, env, H, ro, σ, fr, rfl, h, r, Evolve.refl _ _ _, rfl, Grow.refl _ _ _⟩
theorem TC.block {id : Nat} (h : TC P h0 N c env H (Blo id Q)) : TC P h0 N (.block id c) env H Q := by
 intro rd fr ro σ a w r hrd
 refine wpIn_block (Code.wpIn_mono ?_ (h rd fr ro σ a w r hrd))
 rintro e a' w' ⟨x, env', H', ro', σ', fr', h1, h2, h3, h4, h5, h6⟩
 cases e with
 | normal =>
  obtain rfl : x = .normal := h1
  exact ⟨_, env', H', ro', σ', fr', rfl, h2, h3, h4, h5, h6⟩
 | exit id' =>
  obtain rfl : x = .exit id' := h1
  simp only [Exit.inBlock]
  simp only [Blo] at h2
  by_cases e : id' = id
  ·subst e
   rw [if_pos rfl]
   rw [Nat.beq_refl] at h2
   exact ⟨_, env', H', ro', σ', fr', rfl, h2, h3, h4, h5, h6⟩
  ·rw [if_neg e]
   have : Nat.beq id' id = false := by
    rw [Bool.eq_false_iff]; intro q; exact e (Nat.eq_of_beq_eq_true q)
   rw [this] at h2
   exact ⟨_, env', H', ro', σ', fr', rfl, h2, h3, h4, h5, h6⟩
 | ret =>
  obtain rfl : x = .ret := h1
  exact ⟨_, env', H', ro', σ', fr', rfl, h2, h3, h4, h5, h6⟩
 | _ => exact h1.elim
def opA (env : Env) : Operand → A
 | .tmp t => lk env t
 | .const (.bool b) => .bool b
 | .const (.int k n) => .int k n
 | .const (.string s) => .str s.data.toList
 | .const (.pointer none) => .nilp
 | .const (.slice none 0 0) => .nils
 | .const (.map none) => .nilm
 | .const .nilFunc => .nilf
 | .const .nilIface => .nilif
 | .func f => .fn (.func f) [] []
 | _ => .any
theorem opA_ok {fr ro : Nat → Prop} {σ : Sig} {a : Act} {w : World} (r : Rel fr ro σ H env N a w) (x : Operand) : VR ro σ w (opA env x) (a.eval x) := by
 cases x with
 | tmp t => exact r.env t
 | const v =>
  cases v with
  | slice a n k =>
   cases a with
   | none =>
    cases n with
    | zero => cases k with
     | zero => rfl
     | succ k => trivial
    | succ n => trivial
   | some a => trivial
  | pointer p => cases p with
   | none => rfl
   | some p => trivial
  | map p => cases p with
   | none => rfl
   | some p => trivial
  | string s => simp [opA, VR, Act.eval]
  | _ => first | trivial | rfl | simp [opA, VR, Act.eval]
 | global g => trivial
 | func f => exact ⟨[], [], rfl, rfl, rfl⟩
theorem TC.cond {x : Operand} {t : Bool} (hx : opA env x = .bool t) (ht : t = true → TC P h0 N c env H Q) (hf : t = false → TC P h0 N c' env H Q) :
  TC P h0 N (.cond x c c') env H Q := by
 intro rd fr ro σ a w r hrd
 have hv := opA_ok r x
 rw [hx] at hv
 exact wpIn_cond_split hv (fun e => ht e rd fr ro σ a w r hrd) (fun e => hf e rd fr ro σ a w r hrd)
theorem getD_set {t : Array Value} {d s : Nat} {v : Value} (hd : d < t.size) : (t.setIfInBounds d v).getD s undef = if s = d then v else t.getD s undef := by
 simp only [Array.getD_eq_getD_getElem?, Array.getElem?_setIfInBounds]
 by_cases e : s = d
 ·subst e; simp [hd]
 ·rw [if_neg (fun q => e q.symm), if_neg e]
theorem VR.up {fr ro : Nat → Prop} {σ : Sig} {a : Act} {w : World} (r : ∀ s, VR ro σ w (lk env s) (a.tmps.getD s undef)) {d : Nat} (hd : d < a.tmps.size) {x : A} {v : Value} (hv : VR ro σ w x v) :
  ∀ s, VR ro σ w (lk (up env d x) s) ((a.tmps.setIfInBounds d v).getD s undef) := by
 intro s
 rw [getD_set hd]
 simp only [up, lk]
 by_cases e : s = d
 ·subst e; rw [Nat.beq_refl, if_pos rfl]; exact hv
 ·have : Nat.beq s d = false := by
   rw [Bool.eq_false_iff]; intro q; exact e (Nat.eq_of_beq_eq_true q)
  rw [this, if_neg e]; exact r s
def wantedA (all : Array Oper) (o : Oper) (env : Env) (b : Bool) : Prop :=
 match o.guard with
 | none => b = true
 | some (j, c) => ∃ d, (all[j]?).bind (·.dst) = some d ∧ ((∃ x, lk env d = .bool x ∧ b = (x == c)) ∨ (lk env d = .tup [] ∧ b = false))
theorem wanted_of {all : Array Oper} {o : Oper} {b : Bool} (h : wantedA all o env b) {fr ro : Nat → Prop} {σ : Sig} {a : Act} {w : World} (r : Rel fr ro σ H env N a w) :
  Region.wanted o (yielded all a.tmps) = b := by
 unfold wantedA at h
 unfold Region.wanted
 cases hg : o.guard with
 | none => rw [hg] at h; exact h.symm
 | some g =>
  obtain ⟨j, c⟩ := g
  rw [hg] at h
  obtain ⟨d, h1, ⟨x, h2, h3⟩ | ⟨h2, h3⟩⟩ := h
  ·have hv := r.env d
   rw [h2] at hv
   simp only [VR] at hv
   have hd : a.tmps[d]? = some (.bool x) := by
    rw [Array.getD_eq_getD_getElem?] at hv
    cases e : a.tmps[d]? with
    | none => rw [e] at hv; simp [undef] at hv
    | some y => rw [e] at hv; simp at hv; rw [hv]
   simp only [yielded, h1, Option.bind_some, hd, h3]
   cases x <;> cases c <;> rfl
  ·have hv := r.env d
   rw [h2] at hv
   obtain ⟨l, hv, hl⟩ := hv
   rw [Array.getD_eq_getD_getElem?] at hv
   subst h3
   simp only [yielded, h1, Option.bind_some]
   cases e : a.tmps[d]? with
   | none => cases c <;> rfl
   | some y => rw [e] at hv; simp at hv; subst hv; cases c <;> rfl
def OpV (P : Program) (o : Oper) (env : Env) (H : Heap) (x : A) : Prop :=
 ∀ fr ro σ N a w, Rel fr ro σ H env N a w → ∃ v, (execOp a.eval o).run P w = .ok (.value v) w ∧ VR ro σ w x v
def OpH (P : Program) (o : Oper) (env : Env) (H : Heap) (x : A) (H' : Heap) : Prop :=
 ∀ fr ro σ N a w, Rel fr ro σ H env N a w → ∃ v w' ro' τ, (execOp a.eval o).run P w = .ok (.value v) w' ∧ VR ro' (σ ++ τ) w' x v ∧
  Sim fr ro' (σ ++ τ) H' w' ∧ Evolve fr ro w ro' w'
def OpU (P : Program) (o : Oper) (env : Env) (H : Heap) (H' : Heap) : Prop :=
 ∀ fr ro σ N a w, Rel fr ro σ H env N a w → ∃ w' ro' τ, (execOp a.eval o).run P w = .ok .skip w' ∧
  Sim fr ro' (σ ++ τ) H' w' ∧ Evolve fr ro w ro' w'
theorem WO.nil {all : Array Oper} (h : Q .normal env H) : WO P h0 N all [] env H Q :=
 fun rd fr ro σ a w r hrd => ⟨_, env, H, ro, σ, fr, rfl, h, r, Evolve.refl _ _ _, rfl, rfl, Grow.refl _ _ _⟩
theorem take_append_sig {σ τ : Sig} {h0 : Nat} (h : h0 ≤ σ.length) : (σ ++ τ).take h0 = σ.take h0 := by
 rw [List.take_append_of_le_length h]
theorem WO.opH {all : Array Oper} {o : Oper} {l : List Oper} {d : Nat} {x : A} (hh : h0 ≤ H.length) (hg : wantedA all o env true) (hd : o.dst = some d) (hN : Nat.blt d N = true)
  (hop : OpH P o env H x H') (k : WO P h0 N all l (up env d x) H' Q) : WO P h0 N all (o :: l) env H Q := by
 intro rd fr ro σ a w r hrd
 obtain ⟨v, w', ro', τ, h1, h2, h3, h4⟩ := hop fr ro σ N a w r
 refine wpL_value (wanted_of hg r) h1 ?_
 simp only [hd, Act.put]
 have hdN : d < N := by simpa using hN
 have r' : Rel fr ro' (σ ++ τ) H' (up env d x) N { a with tmps := a.tmps.setIfInBounds d v } w' :=
  ⟨h3, VR.up (fr := fr) (fun s => (r.env s).mono (h4.ext σ τ)) (by rw [r.size]; exact hdN) h2, by simpa using r.size, r.defers.keep h4⟩
 refine wpL_mono (fun e a w q => q.step h4 (take_append_sig ?_)) _ _ _ (k rd fr ro' (σ ++ τ) _ w' r' (hrd.to h4 fun _ q => q))
 rw [r.sim.len]; exact hh
theorem WO.opV {all : Array Oper} {o : Oper} {l : List Oper} {d : Nat} {x : A} (hg : wantedA all o env true) (hd : o.dst = some d) (hN : Nat.blt d N = true)
  (hop : OpV P o env H x) (k : WO P h0 N all l (up env d x) H Q) : WO P h0 N all (o :: l) env H Q := by
 intro rd fr ro σ a w r hrd
 obtain ⟨v, h1, h2⟩ := hop fr ro σ N a w r
 refine wpL_value (wanted_of hg r) h1 ?_
 simp only [hd, Act.put]
 have hdN : d < N := by simpa using hN
 exact k rd fr ro σ { a with tmps := a.tmps.setIfInBounds d v } w ⟨r.sim, VR.up (fr := fr) r.env (by rw [r.size]; exact hdN) h2, by simpa using r.size, r.defers⟩ hrd
theorem WO.opU {all : Array Oper} {o : Oper} {l : List Oper} (hh : h0 ≤ H.length) (hg : wantedA all o env true) (hd : o.dst = none)
  (hop : OpU P o env H H') (k : WO P h0 N all l env H' Q) : WO P h0 N all (o :: l) env H Q := by
 intro rd fr ro σ a w r hrd
 obtain ⟨w', ro', τ, h1, h3, h4⟩ := hop fr ro σ N a w r
 refine wpL_skip (wanted_of hg r) h1 ?_
 simp only [hd, Act.put]
 have r' : Rel fr ro' (σ ++ τ) H' env N a w' := ⟨h3, fun s => (r.env s).mono (h4.ext σ τ), r.size, r.defers.keep h4⟩
 refine wpL_mono (fun e a w q => q.step h4 (take_append_sig ?_)) _ _ _ (k rd fr ro' (σ ++ τ) _ w' r' (hrd.to h4 fun _ q => q))
 rw [r.sim.len]; exact hh
theorem WO.skip {all : Array Oper} {o : Oper} {l : List Oper} {d : Nat} (hg : wantedA all o env false) (hd : o.dst = some d) (hN : Nat.blt d N = true)
  (k : WO P h0 N all l (up env d (.tup [])) H Q) : WO P h0 N all (o :: l) env H Q := by
 intro rd fr ro σ a w r hrd
 unfold wpL wpListIn
 rw [wanted_of hg r, if_neg (by simp)]
 refine ⟨fun _ _ => trivial, ?_⟩
 simp only [hd, Act.put]
 have hdN : d < N := by simpa using hN
 exact k rd fr ro σ { a with tmps := a.tmps.setIfInBounds d undef } w ⟨r.sim, VR.up (fr := fr) r.env (by rw [r.size]; exact hdN) ⟨[], rfl, rfl⟩, by simpa using r.size, r.defers⟩ hrd
theorem TC.region {id : Nat} {l : List Oper} (h : WO P h0 N l.toArray l env H Q) : TC P h0 N (.region id l.toArray false) env H Q :=
 fun rd fr ro σ a w r hrd => Code.wpIn_mono (fun e a w q => q.postW) (wpIn_region_lit (h rd fr ro σ a w r hrd))
end
end Go.Sw
