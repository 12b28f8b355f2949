/- Judgements on code over abstract states: TC (code), WO (the operations of a region), C (a call), and the rules of control. -/
import Derived.Test.YtjikdlekkmifhaaGreatSwA
set_option linter.unusedVariables false
set_option linter.unusedSectionVars false
set_option linter.unusedSimpArgs false
namespace Go.Sw
abbrev Env := List (Nat × A)
def lk : Env → Nat → A
 | [], _ => .any
 | (d, a) :: r, s => bif Nat.beq s d then a else lk r s
abbrev up (env : Env) (d : Nat) (a : A) : Env := (d, a) :: env
inductive AEx where
 | normal | exit (id : Nat) | ret
abbrev Post := AEx → Env → Heap → Prop
structure Rel (fr ro : Nat → Prop) (σ : Sig) (H : Heap) (env : Env) (N : Nat) (a : Act) (w : World) : Prop where
 sim : Sim fr ro σ H w
 env : ∀ s, VR ro σ w (lk env s) (a.tmps.getD s undef)
 size : a.tmps.size = N
 defers : a.defers = []
def ExR : Exit → AEx → Prop
 | .normal, x => x = .normal
 | .exit id, x => x = .exit id
 | .ret, x => x = .ret
 | _, _ => False
def PostW (h0 : Nat) (fr ro : Nat → Prop) (σ : Sig) (w : World) (N : Nat) (Q : Post) : Exit → Act → World → Prop :=
 fun e a' w' => ∃ x env' H' ro' σ', ExR e x ∧ Q x env' H' ∧ Rel fr ro' σ' H' env' N a' w' ∧ Evolve fr ro w ro' w' ∧ σ'.take h0 = σ.take h0
theorem PostW.step {h0 : Nat} {fr ro ro1 : Nat → Prop} {σ σ1 : Sig} {w w1 : World} {N : Nat} {Q : Post} {e : Exit} {a' : Act} {w' : World}
  (h : PostW h0 fr ro1 σ1 w1 N Q e a' w') (he : Evolve fr ro w ro1 w1) (hs : σ1.take h0 = σ.take h0) : PostW h0 fr ro σ w N Q e a' w' := by
 obtain ⟨x, env', H', ro', σ', h1, h2, h3, h4, h5⟩ := h
 exact ⟨x, env', H', ro', σ', h1, h2, h3, he.trans h4, h5.trans hs⟩
theorem PostW.mono {h0 : Nat} {fr ro : Nat → Prop} {σ : Sig} {w : World} {N : Nat} {Q Q' : Post} {e : Exit} {a' : Act} {w' : World}
  (h : PostW h0 fr ro σ w N Q e a' w') (hq : ∀ x env H, Q x env H → Q' x env H) : PostW h0 fr ro σ w N Q' e a' w' := by
 obtain ⟨x, env', H', ro', σ', h1, h2, h3⟩ := h
 exact ⟨x, env', H', ro', σ', h1, hq _ _ _ h2, h3⟩
def TC (P : Program) (h0 N : Nat) (c : Code) (env : Env) (H : Heap) (Q : Post) : Prop :=
 ∀ fr ro σ a w, Rel fr ro σ H env N a w → c.wp P (PostW h0 fr ro σ w N Q) a w
def WO (P : Program) (h0 N : Nat) (all : Array Oper) (l : List Oper) (env : Env) (H : Heap) (Q : Post) : Prop :=
 ∀ fr ro σ a w, Rel fr ro σ H env N a w → wpList P all (PostW h0 fr ro σ w N Q) l a w
def Le (h0 : Nat) (env : Env) (H : Heap) (env' : Env) (H' : Heap) : Prop :=
 ∀ fr ro σ N a w, Rel fr ro σ H env N a w → ∃ ro' σ', Rel fr ro' σ' H' env' N a w ∧ (∀ b, ro b → ro' b) ∧ σ'.take h0 = σ.take h0
theorem Le.refl (h0 : Nat) (env : Env) (H : Heap) : Le h0 env H env H := fun fr ro σ N a w h => ⟨ro, σ, h, fun _ q => q, rfl⟩
theorem Le.trans {h0 : Nat} {e1 e2 e3 : Env} {H1 H2 H3 : Heap} (h : Le h0 e1 H1 e2 H2) (k : Le h0 e2 H2 e3 H3) : Le h0 e1 H1 e3 H3 := by
 intro fr ro σ N a w r
 obtain ⟨ro1, σ1, r1, s1, t1⟩ := h fr ro σ N a w r
 obtain ⟨ro2, σ2, r2, s2, t2⟩ := k fr ro1 σ1 N a w r1
 exact ⟨ro2, σ2, r2, fun b q => s2 _ (s1 _ q), t2.trans t1⟩
theorem Evolve.same {fr ro ro' : Nat → Prop} {w : World} (h : ∀ b, ro b → ro' b) : Evolve fr ro w ro' w :=
 ⟨h, fun _ _ => rfl, fun _ _ => rfl, Nat.le_refl _, fun _ _ h => h, rfl, rfl, rfl, Nat.le_refl _⟩
theorem upon_mono' {P : Program} {o : Oper} {a : Act} {K K' : Act → World → Prop} {Q Q' : Exit → Act → World → Prop} (hk : ∀ a w, K a w → K' a w)
  (hq : ∀ e a w, Q e a w → Q' e a w) (r : Result Next) (h : o.upon P a K Q r) : o.upon P a K' Q' r := by
 cases r with
 | ok x w =>
  cases x with
  | value v => exact hk _ _ h
  | skip => exact hk _ _ h
  | defer d => exact hk _ _ h
  | enter f args =>
   refine Calls.mono h ?_
   intro e w' q
   cases e with
   | returned v => exact hk _ _ q
   | panicked c => exact hq _ _ _ q
   | outgrown => obtain ⟨a, w, q⟩ := q; exact ⟨a, w, hq _ _ _ q⟩
  | row r args => exact Rows.mono h fun v w' q => hk _ _ q
  | _ => exact h
 | halt x w =>
  cases x with
  | panic v => exact hq _ _ _ h
  | _ => exact h
theorem wpList_mono' {P : Program} {ops : Array Oper} {Q Q' : Exit → Act → World → Prop} (hq : ∀ e a w, Q e a w → Q' e a w) :
  ∀ (l : List Oper) (a : Act) (w : World), wpList P ops Q l a w → wpList P ops Q' l a w
 | [], a, w, h => hq _ _ _ h
 | o :: l, a, w, h => by
  unfold wpList at h ⊢
  split
  ·rename_i hw
   rw [if_pos hw] at h
   rcases h with h | ⟨h, a', w', h'⟩
   ·exact .inl (upon_mono' (fun a w q => wpList_mono' hq l a w q) hq _ h)
   ·exact .inr ⟨h, a', w', hq _ _ _ h'⟩
  ·rename_i hw
   rw [if_neg hw] at h
   exact wpList_mono' hq l _ _ h
section
variable {P : Program} {h0 N : Nat} {env env' : Env} {H H' : Heap} {Q Q' : Post} {c c' : Code}
theorem TC.mono (h : TC P h0 N c env H Q) (hq : ∀ x env H, Q x env H → Q' x env H) : TC P h0 N c env H Q' :=
 fun fr ro σ a w r => Code.wp_mono (fun e a w q => q.mono hq) (h fr ro σ a w r)
theorem TC.le (hle : Le h0 env H env' H') (h : TC P h0 N c env' H' Q) : TC P h0 N c env H Q := by
 intro fr ro σ a w r
 obtain ⟨ro', σ', r', s, t⟩ := hle fr ro σ N a w r
 exact Code.wp_mono (fun e a w q => q.step (Evolve.same s) t) (h fr ro' σ' a w r')
theorem WO.le {all : Array Oper} {l : List Oper} (hle : Le h0 env H env' H') (h : WO P h0 N all l env' H' Q) : WO P h0 N all l env H Q := by
 intro fr ro σ a w r
 obtain ⟨ro', σ', r', s, t⟩ := hle fr ro σ N a w r
 exact wpList_mono' (fun e a w q => q.step (Evolve.same s) t) _ _ _ (h fr ro' σ' a w r')
theorem WO.mono {all : Array Oper} {l : List Oper} (h : WO P h0 N all l env H Q) (hq : ∀ x env H, Q x env H → Q' x env H) : WO P h0 N all l env H Q' :=
 fun fr ro σ a w r => wpList_mono' (fun e a w q => q.mono hq) _ _ _ (h fr ro σ a w r)
def Seq (P : Program) (h0 N : Nat) (c : Code) (Q : Post) : Post
 | .normal, env, H => TC P h0 N c env H Q
 | .exit id, env, H => Q (.exit id) env H
 | .ret, env, H => Q .ret env H
def Blo (id : Nat) (Q : Post) : Post
 | .normal, env, H => Q .normal env H
 | .exit id', env, H => bif Nat.beq id' id then Q .normal env H else Q (.exit id') env H
 | .ret, env, H => Q .ret env H
theorem TC.seq (h : TC P h0 N c env H (Seq P h0 N c' Q)) : TC P h0 N (.seq c c') env H Q := by
 intro fr ro σ a w r
 refine wp_seq (Code.wp_mono ?_ (h fr ro σ a w r))
 rintro e a' w' ⟨x, env', H', ro', σ', h1, h2, h3, h4, h5⟩
 cases e with
 | normal =>
  obtain rfl : x = .normal := h1
  exact Code.wp_mono (fun e a w q => q.step h4 h5) (h2 fr ro' σ' a' w' h3)
 | exit id =>
  obtain rfl : x = .exit id := h1
  exact ⟨_, env', H', ro', σ', rfl, h2, h3, h4, h5⟩
 | ret =>
  obtain rfl : x = .ret := h1
  exact ⟨_, env', H', ro', σ', rfl, h2, h3, h4, h5⟩
 | _ => exact h1.elim
theorem TC.skip (h : Q .normal env H) : TC P h0 N .skip env H Q :=
 fun fr ro σ a w r => wp_skip ⟨_, env, H, ro, σ, rfl, h, r, Evolve.refl _ _ _, rfl⟩
theorem TC.ret (h : Q .ret env H) : TC P h0 N .ret env H Q :=
 fun fr ro σ a w r => wp_ret ⟨_, env, H, ro, σ, rfl, h, r, Evolve.refl _ _ _, rfl⟩
theorem TC.exit {id : Nat} (h : Q (.exit id) env H) : TC P h0 N (.exit id) env H Q :=
 fun fr ro σ a w r => wp_exit ⟨_, env, H, ro, σ, rfl, h, r, Evolve.refl _ _ _, rfl⟩
theorem TC.block {id : Nat} (h : TC P h0 N c env H (Blo id Q)) : TC P h0 N (.block id c) env H Q := by
 intro fr ro σ a w r
 refine wp_block (Code.wp_mono ?_ (h fr ro σ a w r))
 rintro e a' w' ⟨x, env', H', ro', σ', h1, h2, h3, h4, h5⟩
 cases e with
 | normal =>
  obtain rfl : x = .normal := h1
  exact ⟨_, env', H', ro', σ', rfl, h2, h3, h4, h5⟩
 | exit id' =>
  obtain rfl : x = .exit id' := h1
  simp only [Exit.inBlock]
  simp only [Blo] at h2
  by_cases e : id' = id
  ·subst e
   rw [if_pos rfl]
   rw [Nat.beq_refl] at h2
   exact ⟨_, env', H', ro', σ', rfl, h2, h3, h4, h5⟩
  ·rw [if_neg e]
   have : Nat.beq id' id = false := by
    rw [Bool.eq_false_iff]; intro q; exact e (Nat.eq_of_beq_eq_true q)
   rw [this] at h2
   exact ⟨_, env', H', ro', σ', rfl, h2, h3, h4, h5⟩
 | ret =>
  obtain rfl : x = .ret := h1
  exact ⟨_, env', H', ro', σ', rfl, h2, h3, h4, h5⟩
 | _ => exact h1.elim
def opA (env : Env) : Operand → A
 | .tmp t => lk env t
 | .const (.bool b) => .bool b
 | .const (.int k n) => .int k n
 | .const (.string s) => .str s.data.toList
 | .const (.pointer none) => .nilp
 | .const (.slice none 0 0) => .nils
 | .const (.map none) => .nilm
 | .const .nilFunc => .nilf
 | .const .nilIface => .nilif
 | .func f => .fn (.func f) [] []
 | _ => .any
theorem opA_ok {fr ro : Nat → Prop} {σ : Sig} {a : Act} {w : World} (r : Rel fr ro σ H env N a w) (x : Operand) : VR ro σ w (opA env x) (a.eval x) := by
 cases x with
 | tmp t => exact r.env t
 | const v =>
  cases v with
  | slice a n k =>
   cases a with
   | none =>
    cases n with
    | zero => cases k with
     | zero => rfl
     | succ k => trivial
    | succ n => trivial
   | some a => trivial
  | pointer p => cases p with
   | none => rfl
   | some p => trivial
  | map p => cases p with
   | none => rfl
   | some p => trivial
  | string s => simp [opA, VR, Act.eval]
  | _ => first | trivial | rfl | simp [opA, VR, Act.eval]
 | global g => trivial
 | func f => exact ⟨[], [], rfl, rfl, rfl⟩
theorem TC.cond {x : Operand} {t : Bool} (hx : opA env x = .bool t) (ht : t = true → TC P h0 N c env H Q) (hf : t = false → TC P h0 N c' env H Q) :
  TC P h0 N (.cond x c c') env H Q := by
 intro fr ro σ a w r
 have hv := opA_ok r x
 rw [hx] at hv
 exact wp_cond_split hv (fun e => ht e fr ro σ a w r) (fun e => hf e fr ro σ a w r)
theorem getD_set {t : Array Value} {d s : Nat} {v : Value} (hd : d < t.size) : (t.setIfInBounds d v).getD s undef = if s = d then v else t.getD s undef := by
 simp only [Array.getD_eq_getD_getElem?, Array.getElem?_setIfInBounds]
 by_cases e : s = d
 ·subst e; simp [hd]
 ·rw [if_neg (fun q => e q.symm), if_neg e]
theorem VR.up {fr ro : Nat → Prop} {σ : Sig} {a : Act} {w : World} (r : ∀ s, VR ro σ w (lk env s) (a.tmps.getD s undef)) {d : Nat} (hd : d < a.tmps.size) {x : A} {v : Value} (hv : VR ro σ w x v) :
  ∀ s, VR ro σ w (lk (up env d x) s) ((a.tmps.setIfInBounds d v).getD s undef) := by
 intro s
 rw [getD_set hd]
 simp only [up, lk]
 by_cases e : s = d
 ·subst e; rw [Nat.beq_refl, if_pos rfl]; exact hv
 ·have : Nat.beq s d = false := by
   rw [Bool.eq_false_iff]; intro q; exact e (Nat.eq_of_beq_eq_true q)
  rw [this, if_neg e]; exact r s
def wantedA (all : Array Oper) (o : Oper) (env : Env) (b : Bool) : Prop :=
 match o.guard with
 | none => b = true
 | some (j, c) => ∃ d, (all[j]?).bind (·.dst) = some d ∧ ((∃ x, lk env d = .bool x ∧ b = (x == c)) ∨ (lk env d = .tup [] ∧ b = false))
theorem wanted_of {all : Array Oper} {o : Oper} {b : Bool} (h : wantedA all o env b) {fr ro : Nat → Prop} {σ : Sig} {a : Act} {w : World} (r : Rel fr ro σ H env N a w) :
  Region.wanted o (yielded all a.tmps) = b := by
 unfold wantedA at h
 unfold Region.wanted
 cases hg : o.guard with
 | none => rw [hg] at h; exact h.symm
 | some g =>
  obtain ⟨j, c⟩ := g
  rw [hg] at h
  obtain ⟨d, h1, ⟨x, h2, h3⟩ | ⟨h2, h3⟩⟩ := h
  ·have hv := r.env d
   rw [h2] at hv
   simp only [VR] at hv
   have hd : a.tmps[d]? = some (.bool x) := by
    rw [Array.getD_eq_getD_getElem?] at hv
    cases e : a.tmps[d]? with
    | none => rw [e] at hv; simp [undef] at hv
    | some y => rw [e] at hv; simp at hv; rw [hv]
   simp only [yielded, h1, Option.bind_some, hd, h3]
   cases x <;> cases c <;> rfl
  ·have hv := r.env d
   rw [h2] at hv
   obtain ⟨l, hv, hl⟩ := hv
   rw [Array.getD_eq_getD_getElem?] at hv
   subst h3
   simp only [yielded, h1, Option.bind_some]
   cases e : a.tmps[d]? with
   | none => cases c <;> rfl
   | some y => rw [e] at hv; simp at hv; subst hv; cases c <;> rfl
def OpV (P : Program) (o : Oper) (env : Env) (H : Heap) (x : A) : Prop :=
 ∀ fr ro σ N a w, Rel fr ro σ H env N a w → ∃ v, (execOp a.eval o).run P w = .ok (.value v) w ∧ VR ro σ w x v
def OpH (P : Program) (o : Oper) (env : Env) (H : Heap) (x : A) (H' : Heap) : Prop :=
 ∀ fr ro σ N a w, Rel fr ro σ H env N a w → ∃ v w' ro' τ, (execOp a.eval o).run P w = .ok (.value v) w' ∧ VR ro' (σ ++ τ) w' x v ∧
  Sim fr ro' (σ ++ τ) H' w' ∧ Evolve fr ro w ro' w'
def OpU (P : Program) (o : Oper) (env : Env) (H : Heap) (H' : Heap) : Prop :=
 ∀ fr ro σ N a w, Rel fr ro σ H env N a w → ∃ w' ro' τ, (execOp a.eval o).run P w = .ok .skip w' ∧
  Sim fr ro' (σ ++ τ) H' w' ∧ Evolve fr ro w ro' w'
theorem WO.nil {all : Array Oper} (h : Q .normal env H) : WO P h0 N all [] env H Q :=
 fun fr ro σ a w r => ⟨_, env, H, ro, σ, rfl, h, r, Evolve.refl _ _ _, rfl⟩
theorem take_append_sig {σ τ : Sig} {h0 : Nat} (h : h0 ≤ σ.length) : (σ ++ τ).take h0 = σ.take h0 := by
 rw [List.take_append_of_le_length h]
theorem WO.opH {all : Array Oper} {o : Oper} {l : List Oper} {d : Nat} {x : A} (hh : h0 ≤ H.length) (hg : wantedA all o env true) (hd : o.dst = some d) (hN : Nat.blt d N = true)
  (hop : OpH P o env H x H') (k : WO P h0 N all l (up env d x) H' Q) : WO P h0 N all (o :: l) env H Q := by
 intro fr ro σ a w r
 obtain ⟨v, w', ro', τ, h1, h2, h3, h4⟩ := hop fr ro σ N a w r
 unfold wpList
 rw [wanted_of hg r, if_pos rfl]
 left
 unfold Oper.wp
 rw [h1]
 simp only [Oper.upon, hd, Act.put]
 have hdN : d < N := by simpa using hN
 have r' : Rel fr ro' (σ ++ τ) H' (up env d x) N { a with tmps := a.tmps.setIfInBounds d v } w' :=
  ⟨h3, VR.up (fr := fr) (fun s => (r.env s).mono (h4.ext σ τ)) (by rw [r.size]; exact hdN) h2, by simpa using r.size, r.defers⟩
 refine wpList_mono' (fun e a w q => q.step h4 (take_append_sig ?_)) _ _ _ (k fr ro' (σ ++ τ) _ w' r')
 rw [r.sim.len]; exact hh
theorem WO.opV {all : Array Oper} {o : Oper} {l : List Oper} {d : Nat} {x : A} (hg : wantedA all o env true) (hd : o.dst = some d) (hN : Nat.blt d N = true)
  (hop : OpV P o env H x) (k : WO P h0 N all l (up env d x) H Q) : WO P h0 N all (o :: l) env H Q := by
 intro fr ro σ a w r
 obtain ⟨v, h1, h2⟩ := hop fr ro σ N a w r
 unfold wpList
 rw [wanted_of hg r, if_pos rfl]
 left
 unfold Oper.wp
 rw [h1]
 simp only [Oper.upon, hd, Act.put]
 have hdN : d < N := by simpa using hN
 exact k fr ro σ _ w ⟨r.sim, VR.up (fr := fr) r.env (by rw [r.size]; exact hdN) h2, by simpa using r.size, r.defers⟩
theorem WO.opU {all : Array Oper} {o : Oper} {l : List Oper} (hh : h0 ≤ H.length) (hg : wantedA all o env true) (hd : o.dst = none)
  (hop : OpU P o env H H') (k : WO P h0 N all l env H' Q) : WO P h0 N all (o :: l) env H Q := by
 intro fr ro σ a w r
 obtain ⟨w', ro', τ, h1, h3, h4⟩ := hop fr ro σ N a w r
 unfold wpList
 rw [wanted_of hg r, if_pos rfl]
 left
 unfold Oper.wp
 rw [h1]
 simp only [Oper.upon, hd, Act.put]
 have r' : Rel fr ro' (σ ++ τ) H' env N a w' := ⟨h3, fun s => (r.env s).mono (h4.ext σ τ), r.size, r.defers⟩
 refine wpList_mono' (fun e a w q => q.step h4 (take_append_sig ?_)) _ _ _ (k fr ro' (σ ++ τ) _ w' r')
 rw [r.sim.len]; exact hh
theorem WO.opN {all : Array Oper} {o : Oper} {l : List Oper} {x : A} (hh : h0 ≤ H.length) (hg : wantedA all o env true) (hd : o.dst = none)
  (hop : OpH P o env H x H') (k : WO P h0 N all l env H' Q) : WO P h0 N all (o :: l) env H Q := by
 intro fr ro σ a w r
 obtain ⟨v, w', ro', τ, h1, h2, h3, h4⟩ := hop fr ro σ N a w r
 unfold wpList
 rw [wanted_of hg r, if_pos rfl]
 left
 unfold Oper.wp
 rw [h1]
 simp only [Oper.upon, hd, Act.put]
 have r' : Rel fr ro' (σ ++ τ) H' env N a w' := ⟨h3, fun s => (r.env s).mono (h4.ext σ τ), r.size, r.defers⟩
 refine wpList_mono' (fun e a w q => q.step h4 (take_append_sig ?_)) _ _ _ (k fr ro' (σ ++ τ) _ w' r')
 rw [r.sim.len]; exact hh
theorem WO.skip {all : Array Oper} {o : Oper} {l : List Oper} {d : Nat} (hg : wantedA all o env false) (hd : o.dst = some d) (hN : Nat.blt d N = true)
  (k : WO P h0 N all l (up env d (.tup [])) H Q) : WO P h0 N all (o :: l) env H Q := by
 intro fr ro σ a w r
 unfold wpList
 rw [wanted_of hg r, if_neg (by simp)]
 simp only [hd, Act.put]
 have hdN : d < N := by simpa using hN
 exact k fr ro σ _ w ⟨r.sim, VR.up (fr := fr) r.env (by rw [r.size]; exact hdN) ⟨[], rfl, rfl⟩, by simpa using r.size, r.defers⟩
theorem TC.region {id : Nat} {l : List Oper} (h : WO P h0 N l.toArray l env H Q) : TC P h0 N (.region id l.toArray false) env H Q :=
 fun fr ro σ a w r => wp_region_lit (h fr ro σ a w r)
end
end Go.Sw
