/- Struct literals; more operations. -/
import Derived.Test.YtkjlhfabbbomjaaGreatDoorSwL
set_option linter.unusedVariables false
set_option linter.unusedSectionVars false
set_option linter.unusedSimpArgs false
namespace Go.Sw
inductive PL (P : Program) : List Field → List (Nat × Nat) → Prop
 | nil : PL P [] []
 | cons {f : Field} {n : Nat} {fs : List Field} {pl : List (Nat × Nat)} (h : ∀ w, (sizeOf f.type).run P w = .ok n w) (k : PL P fs pl) : PL P (f :: fs) ((f.offset, n) :: pl)
theorem PL.run {P : Program} {fs : List Field} {pl : List (Nat × Nat)} (h : PL P fs pl) : ∀ w, (fs.mapM fun f => (do pure (f.offset, ← sizeOf f.type) : Sem (Nat × Nat))).run P w = .ok pl w := by
 induction h with
 | nil => intro w; rfl
 | cons h _ ih =>
  intro w
  rw [List.mapM_cons]
  simp only [Sem.run_bind, h, Result.andThen, Sem.run_pure, ih]
structure Places (P : Program) (t : TypeId) (pl : List (Nat × Nat)) : Prop where
 un : ∃ fs : List Field, (∀ w, (underlying t).run P w = .ok (.struct fs.toArray) w) ∧ PL P fs pl
section
variable {P : Program} {o : Oper} {env : Env} {H : Heap}
def fillE (env : Env) (pl : List (Nat × Nat)) : List A → List (Nat × Operand) → Option (List A)
 | cs, [] => some cs
 | cs, (i, x) :: r => match pl[i]? with
  | none => none
  | some (off, size) => bif knownA (opA env x) && Nat.beq (cellsA (opA env x)).length size && Nat.ble (off + size) cs.length then fillE env pl (splice cs off (cellsA (opA env x))) r else none
theorem fillE_ok {fr ro : Nat → Prop} {σ : Sig} {N : Nat} {a : Act} {w : World} (r : Rel fr ro σ H env N a w) {pl : List (Nat × Nat)} : ∀ (parts : List (Nat × Operand)) (cs : List A) (l : List Value) (cs' : List A),
  LR ro σ w cs l → fillE env pl cs parts = some cs' →
  ∃ l', Instr.fill (pl.toArray[·]?) l.toArray (parts.map fun p => (p.1, a.eval p.2)) = some l'.toArray ∧ LR ro σ w cs' l'
 | [], cs, l, cs', h, q => by
  cases q
  exact ⟨l, rfl, h⟩
 | (i, x) :: rest, cs, l, cs', h, q => by
  unfold fillE at q
  cases hp : pl[i]? with
  | none => rw [hp] at q; cases q
  | some p =>
   obtain ⟨off, size⟩ := p
   rw [hp] at q
   simp only at q
   cases hc : (knownA (opA env x) && Nat.beq (cellsA (opA env x)).length size && Nat.ble (off + size) cs.length) with
   | false => rw [hc] at q; cases q
   | true =>
    rw [hc] at q
    simp only [Bool.and_eq_true] at hc
    obtain ⟨⟨c1, c2⟩, c3⟩ := hc
    obtain ⟨m, q1, q2⟩ := (opA_ok r x).cells c1
    have hm : m.length = size := by rw [q2.length]; exact Nat.eq_of_beq_eq_true c2
    have hl : l.length = cs.length := h.length
    obtain ⟨l', e1, e2⟩ := fillE_ok r rest _ (splice l off m) cs' (h.splice off q2) q
    refine ⟨l', ?_, e2⟩
    rw [List.map_cons, fill_cons (off := off) (size := size) (by simpa using hp) q1 hm (by rw [hl]; exact Nat.le_of_ble_eq_true c3)]
    exact e1
theorem OpV.build {t : TypeId} {z : Value} {zs cs : List A} {pl : List (Nat × Nat)} {parts : List (Nat × Operand)} (hz : ∀ w, (zeroValue t).run P w = .ok z w) (hv : ZR (.agg zs) z) (hp : Places P t pl)
  (ho : o.op = .build t parts.toArray := by exact rfl) (hf : fillE env pl zs parts = some cs := by exact rfl) : OpV P o env H (.agg cs) := by
 intro fr ro σ N a w r
 obtain ⟨fs, h1, h2⟩ := hp.un
 obtain ⟨l, rfl, h4⟩ := hv ro σ w
 obtain ⟨l', e1, e2⟩ := fillE_ok r parts zs l cs h4 hf
 refine ⟨.agg l'.toArray, ?_, l', rfl, e2⟩
 generalize hρ : a.eval = ρ at *
 have h3 := h2.run w
 simp only [execOp, ho, Instr.build, Sem.run_bind, hz, Result.andThen, h1, List.map_toArray, List.mapM_toArray, Sem.run_map, h3, Value.cells, e1, Sem.run_pure]
end
def nz (n : Int) : Option Unit := bif n == 0 then none else some ()
theorem nz_ok {n : Int} {u : Unit} (h : nz n = some u) : n ≠ 0 := by
 rintro rfl
 simp [nz] at h
section
variable {P : Program} {o : Oper} {env : Env} {H : Heap}
theorem OpV.nilChk {x : Operand} {a : A} (ho : o.op = .nilCheck x) (hx : opA env x = a := by exact rfl) (hk : (match a with | .ptr _ _ => true | .rp _ => true | _ => false) = true := by exact rfl) : OpV P o env H a := by
 intro fr ro σ N ac w r
 have h := opA_ok r x
 rw [hx] at h
 cases a <;> first | (cases hk; done) | skip
 ·obtain ⟨b, h1, h2⟩ := h
  refine ⟨_, ?_, b, h1, rfl⟩
  generalize ac.eval = ρ at *
  simp [execOp, ho, h2, go_sem]
 ·obtain ⟨b, off, h1, h2⟩ := h
  refine ⟨_, ?_, b, off, rfl, h2⟩
  generalize ac.eval = ρ at *
  simp [execOp, ho, h1, go_sem]
end
mutual
def FzA (i k : Nat) (es : List (List A)) : A → A → Prop
 | .agg as, b => ∃ bs, b = .agg bs ∧ FzL i k es as bs
 | .fn f x c, b => ∃ x' c', b = .fn f x' c' ∧ FzL i k es x x' ∧ FzL i k es c c'
 | .iface t a, b => ∃ a', b = .iface t a' ∧ FzA i k es a a'
 | .tup as, b => ∃ bs, b = .tup bs ∧ FzL i k es as bs
 | .osl j o n k', b => b = .osl j o n k' ∨ (j = i ∧ o = 0 ∧ k' = k ∧ n = es.length ∧ b = .rsl k es)
 | .nils, b => b = .nils ∨ ∃ k', b = .rsl k' []
 | a, b => b = a
def FzL (i k : Nat) (es : List (List A)) : List A → List A → Prop
 | [], b => b = []
 | a :: as, b => ∃ a' as', b = a' :: as' ∧ FzA i k es a a' ∧ FzL i k es as as'
end
mutual
theorem FzA.refl {i k : Nat} {es : List (List A)} : ∀ a : A, FzA i k es a a
 | .agg as => ⟨as, rfl, FzL.refl as⟩
 | .fn _ x c => ⟨x, c, rfl, FzL.refl x, FzL.refl c⟩
 | .iface _ a => ⟨a, rfl, FzA.refl a⟩
 | .tup as => ⟨as, rfl, FzL.refl as⟩
 | .osl _ _ _ _ => .inl rfl
 | .nils => .inl rfl
 | .any => rfl
 | .bool _ => rfl
 | .int _ _ => rfl
 | .str _ => rfl
 | .nilp => rfl
 | .ptr _ _ => rfl
 | .rp _ => rfl
 | .rsl _ _ => rfl
 | .nilf => rfl
 | .nilif => rfl
 | .map _ => rfl
 | .nilm => rfl
theorem FzL.refl {i k : Nat} {es : List (List A)} : ∀ as : List A, FzL i k es as as
 | [] => rfl
 | a :: as => ⟨a, as, rfl, FzA.refl a, FzL.refl as⟩
end
theorem FzA.agg {i k : Nat} {es : List (List A)} {as bs : List A} (h : FzL i k es as bs) : FzA i k es (.agg as) (.agg bs) := ⟨bs, rfl, h⟩
theorem FzA.tup {i k : Nat} {es : List (List A)} {as bs : List A} (h : FzL i k es as bs) : FzA i k es (.tup as) (.tup bs) := ⟨bs, rfl, h⟩
theorem FzA.iface {i k : Nat} {es : List (List A)} {t : Nat} {a b : A} (h : FzA i k es a b) : FzA i k es (.iface t a) (.iface t b) := ⟨b, rfl, h⟩
theorem FzA.own {i k n : Nat} {es : List (List A)} (hn : n = es.length) : FzA i k es (.osl i 0 n k) (.rsl k es) := .inr ⟨rfl, rfl, rfl, hn, rfl⟩
theorem FzA.nil {i k k' : Nat} {es : List (List A)} : FzA i k es .nils (.rsl k' []) := .inr ⟨k', rfl⟩
theorem FzL.cons {i k : Nat} {es : List (List A)} {a b : A} {as bs : List A} (h : FzA i k es a b) (q : FzL i k es as bs) : FzL i k es (a :: as) (b :: bs) := ⟨b, bs, rfl, h, q⟩
mutual
theorem FzA.vr {i k : Nat} {es : List (List A)} {ro ro' : Nat → Prop} {σ : Sig} {w : World} (ext : Ext ro σ w ro' σ w)
  (hf : ∀ v, VR ro σ w (.osl i 0 es.length k) v → VR ro' σ w (.rsl k es) v) : ∀ (a b : A) (v : Value), FzA i k es a b → VR ro σ w a v → VR ro' σ w b v
 | .agg as, b, v, h, q => by
  obtain ⟨bs, rfl, h⟩ := h
  obtain ⟨l, rfl, q⟩ := q
  exact ⟨l, rfl, FzL.vr ext hf as bs l h q⟩
 | .fn f x c, b, v, h, q => by
  obtain ⟨x', c', rfl, h1, h2⟩ := h
  obtain ⟨l, l', rfl, q1, q2⟩ := q
  exact ⟨l, l', rfl, FzL.vr ext hf x x' l h1 q1, FzL.vr ext hf c c' l' h2 q2⟩
 | .iface t a, b, v, h, q => by
  obtain ⟨a', rfl, h⟩ := h
  obtain ⟨x, rfl, q⟩ := q
  exact ⟨x, rfl, FzA.vr ext hf a a' x h q⟩
 | .tup as, b, v, h, q => by
  obtain ⟨bs, rfl, h⟩ := h
  obtain ⟨l, rfl, q⟩ := q
  exact ⟨l, rfl, FzL.vr ext hf as bs l h q⟩
 | .osl j o n k', b, v, h, q => by
  rcases h with rfl | ⟨rfl, rfl, rfl, rfl, rfl⟩
  ·exact q.mono ext
  ·exact hf v q
 | .nils, b, v, h, q => by
  rcases h with rfl | ⟨k', rfl⟩
  ·exact q
  ·obtain rfl : v = .slice none 0 0 := q
   exact ⟨none, 0, rfl, Nat.le_refl _, .inl rfl⟩
 | .any, b, v, h, q => by obtain rfl : b = _ := h; trivial
 | .bool _, b, v, h, q => by obtain rfl : b = _ := h; exact q
 | .int _ _, b, v, h, q => by obtain rfl : b = _ := h; exact q
 | .str _, b, v, h, q => by obtain rfl : b = _ := h; exact q
 | .nilp, b, v, h, q => by obtain rfl : b = _ := h; exact q
 | .ptr _ _, b, v, h, q => by obtain rfl : b = _ := h; exact q.mono ext
 | .rp _, b, v, h, q => by obtain rfl : b = _ := h; exact q.mono ext
 | .rsl _ _, b, v, h, q => by obtain rfl : b = _ := h; exact q.mono ext
 | .nilf, b, v, h, q => by obtain rfl : b = _ := h; exact q
 | .nilif, b, v, h, q => by obtain rfl : b = _ := h; exact q
 | .map _, b, v, h, q => by obtain rfl : b = _ := h; exact q.mono ext
 | .nilm, b, v, h, q => by obtain rfl : b = _ := h; exact q
theorem FzL.vr {i k : Nat} {es : List (List A)} {ro ro' : Nat → Prop} {σ : Sig} {w : World} (ext : Ext ro σ w ro' σ w)
  (hf : ∀ v, VR ro σ w (.osl i 0 es.length k) v → VR ro' σ w (.rsl k es) v) : ∀ (as bs : List A) (l : List Value), FzL i k es as bs → LR ro σ w as l → LR ro' σ w bs l
 | [], bs, l, h, q => by obtain rfl : bs = [] := h; exact q
 | a :: as, bs, l, h, q => by
  obtain ⟨a', as', rfl, h1, h2⟩ := h
  obtain ⟨v, l', rfl, q1, q2⟩ := q
  exact ⟨v, l', rfl, FzA.vr ext hf a a' v h1 q1, FzL.vr ext hf as as' l' h2 q2⟩
end
def FzB (i k : Nat) (es : List (List A)) (x y : Blk) : Prop := y = x ∨ ∃ t cs cs', x = .cells t cs ∧ y = .cells t cs' ∧ FzL i k es cs cs'
def FzH (i k : Nat) (es : List (List A)) : Heap → Heap → Prop
 | [], h => h = []
 | x :: r, h => ∃ y r', h = y :: r' ∧ FzB i k es x y ∧ FzH i k es r r'
def FzOv (i k : Nat) (es : List (List A)) (env : Env) : Env → Prop
 | [] => True
 | (s, a) :: r => FzA i k es (lk env s) a ∧ FzOv i k es env r
theorem FzH.nil {i k : Nat} {es : List (List A)} : FzH i k es [] [] := rfl
theorem FzH.keep {i k : Nat} {es : List (List A)} {x : Blk} {r r' : Heap} (h : FzH i k es r r') : FzH i k es (x :: r) (x :: r') := ⟨x, r', rfl, .inl rfl, h⟩
theorem FzH.cells {i k t : Nat} {es : List (List A)} {cs cs' : List A} {r r' : Heap} (q : FzL i k es cs cs') (h : FzH i k es r r') : FzH i k es (.cells t cs :: r) (.cells t cs' :: r') := ⟨_, r', rfl, .inr ⟨t, cs, cs', rfl, rfl, q⟩, h⟩
theorem FzH.get {i k : Nat} {es : List (List A)} : ∀ {H H' : Heap}, FzH i k es H H' → ∀ (j : Nat) (y : Blk), H'[j]? = some y → ∃ x, H[j]? = some x ∧ FzB i k es x y
 | [], _, h, j, y, q => by obtain rfl : _ = [] := h; simp at q
 | x :: r, _, h, j, y, q => by
  obtain ⟨y', r', rfl, h1, h2⟩ := h
  cases j with
  | zero => simp at q; subst q; exact ⟨x, rfl, h1⟩
  | succ j => simp at q; obtain ⟨x', p1, p2⟩ := h2.get j y q; exact ⟨x', by simpa using p1, p2⟩
theorem FzH.len {i k : Nat} {es : List (List A)} : ∀ {H H' : Heap}, FzH i k es H H' → H'.length = H.length
 | [], _, h => by obtain rfl : _ = [] := h; rfl
 | x :: r, _, h => by obtain ⟨y', r', rfl, h1, h2⟩ := h; simp [h2.len]
theorem FzB.live {i k : Nat} {es : List (List A)} {x y : Blk} (h : FzB i k es x y) : y.live = x.live := by
 rcases h with rfl | ⟨t, cs, cs', rfl, rfl, _⟩ <;> rfl
theorem Le.fz {env : Env} {H H' : Heap} {h0 i k t : Nat} {es : List (List A)} (ov : Env) (hi : Nat.ble h0 i = true) (hH : H[i]? = some (.row t k es)) (hov : FzOv i k es env ov) (hHv : FzH i k es (H.set i .dead) H') : Le h0 env H (ov ++ env) H' := by
 intro fr ro σ N a w r
 let ro' : Nat → Prop := fun b => ro b ∨ σ[i]? = some (some b)
 have hown : ∀ b, σ[i]? = some (some b) → b < w.heap.size ∧ ¬ ro b ∧ ¬ fr b := fun b h => r.sim.own i b _ h hH rfl
 have ext : Ext ro σ w ro' σ w := ⟨fun _ q => .inl q, fun _ _ => rfl, fun _ _ q => q, fun _ _ q => q⟩
 have hf : ∀ v, VR ro σ w (.osl i 0 es.length k) v → VR ro' σ w (.rsl k es) v := by
  intro v h
  rcases h with ⟨h0, h⟩ | ⟨b, p, cap, t', m, h1, h, h2, h3, h4, h5⟩
  ·have : es = [] := List.length_eq_zero_iff.1 h0
   subst this
   exact ⟨none, 0, h, Nat.le_refl _, .inl rfl⟩
  ·refine ⟨_, cap, h, h3, ?_⟩
   by_cases he : es = []
   ·exact .inl he
   ·right
    have hc : 0 < cap := Nat.lt_of_lt_of_le (List.length_pos_iff.2 he) h3
    obtain rfl := h2 hc
    obtain ⟨l, q1, q2⟩ := r.sim.blk i _ _ h1 hH
    refine ⟨b, 0, by simp, .inr h1, ?_⟩
    have := RL.toRR (pre := []) (by simpa using q1) q2
    exact this.keep ⟨fun _ q => .inl q, fun _ _ => rfl, fun _ _ q => q, fun _ _ q => q⟩ rfl
 have hcase : ∀ (j : Nat) (y : Blk), H'[j]? = some y → y ≠ .dead → j ≠ i ∧ ∃ x, H[j]? = some x ∧ FzB i k es x y := by
  intro j y h hv
  obtain ⟨x, h1, h2⟩ := hHv.get j y h
  by_cases e : j = i
  ·subst e
   rw [List.getElem?_set] at h1
   simp only [if_true] at h1
   split at h1
   ·cases h1; rcases h2 with rfl | ⟨_, _, _, q, _, _⟩
    ·exact absurd rfl hv
    ·cases q
   ·simp at h1
  ·rw [List.getElem?_set_ne (fun q => e q.symm)] at h1; exact ⟨e, x, h1, h2⟩
 refine ⟨ro', σ, ⟨⟨by rw [hHv.len, List.length_set]; exact r.sim.len, r.sim.roOk.to (fun _ q => .inl q) (fun _ _ => rfl) ?_, r.sim.frLt, ?_, ?_, ?_, ?_⟩, ?_, r.size, r.defers⟩, fun _ q => .inl q, rfl⟩
 ·rintro b (q | q)
  ·exact r.sim.roLt b q
  ·exact (hown b q).1
 ·rintro b (q | q)
  ·exact r.sim.roFr b q
  ·exact (hown b q).2.2
 ·intro j b v h1 h2 h3
  obtain ⟨e, x, h2, hb⟩ := hcase j v h2 (Blk.nd h3)
  have hx : x.live = true := by rw [← hb.live]; exact h3
  obtain ⟨p1, p2, p3⟩ := r.sim.own j b x h1 h2 hx
  refine ⟨p1, ?_, p3⟩
  rintro (q | q)
  ·exact p2 q
  ·exact e (r.sim.inj j i b x _ h1 q h2 hH hx rfl)
 ·intro j j' b v v' h1 h2 h3 h4 h5 h6
  obtain ⟨_, x, p1, p2⟩ := hcase j v h3 (Blk.nd h5)
  obtain ⟨_, x', p1', p2'⟩ := hcase j' v' h4 (Blk.nd h6)
  exact r.sim.inj j j' b x x' h1 h2 p1 p1' (by rw [← p2.live]; exact h5) (by rw [← p2'.live]; exact h6)
 ·intro j s v h1 h2
  by_cases hv : v ≠ .dead
  ·obtain ⟨_, x, p1, p2⟩ := hcase j v h2 hv
   have hb := r.sim.blk j s x h1 p1
   rcases p2 with rfl | ⟨t, cs, cs', rfl, rfl, q⟩
   ·exact hb.keep ext fun _ _ _ => rfl
   ·cases s with
    | none => exact hb.elim
    | some b =>
     obtain ⟨l, e1, e2, e3⟩ := hb
     exact ⟨l, e1, FzL.vr ext hf cs cs' l q e2, e3⟩
  ·obtain rfl : v = .dead := Classical.not_not.1 hv
   trivial
 ·intro s
  induction ov with
  | nil => exact (r.env s).mono ext
  | cons p ov ih =>
   obtain ⟨s1, a1⟩ := p
   obtain ⟨g1, g2⟩ := hov
   simp only [List.cons_append, lk]
   cases q : Nat.beq s s1 with
   | true =>
    obtain rfl := Nat.eq_of_beq_eq_true q
    exact FzA.vr ext hf _ _ _ g1 (r.env s)
   | false => exact ih g2
theorem FzOv.nil {i k : Nat} {es : List (List A)} {env : Env} : FzOv i k es env [] := trivial
theorem FzOv.cons {i k s : Nat} {es : List (List A)} {env : Env} {a b : A} {r : Env} (h : lk env s = a) (q : FzA i k es a b) (g : FzOv i k es env r) : FzOv i k es env ((s, b) :: r) := ⟨h ▸ q, g⟩
def ResAt (P : Program) (env : Env) (H : Heap) (l : ResultVar) (x : A) : Prop :=
 ∀ fr ro σ N a w, Rel fr ro σ H env N a w → ∃ v, ((match l with
  | .tmp t => pure (a.tmps.getD t undef)
  | .cell b t => do loadVar t (← asAddr (a.tmps.getD b undef)) : Sem Value)).run P w = .ok v w ∧ VR ro σ w x v
def ResL (P : Program) (env : Env) (H : Heap) : List ResultVar → List A → Prop
 | [], xs => xs = []
 | l :: ls, xs => ∃ x xs', xs = x :: xs' ∧ ResAt P env H l x ∧ ResL P env H ls xs'
section
variable {P : Program} {fn : Func} {env : Env} {H : Heap}
theorem ResAt.tmp {t : Nat} {x : A} (hx : lk env t = x := by exact rfl) : ResAt P env H (.tmp t) x :=
 fun fr ro σ N a w r => ⟨a.tmps.getD t undef, rfl, hx ▸ r.env t⟩
theorem ResAt.cell {b t : Nat} {p x : A} {cs : List A} (ha : ∀ w, (isAgg t).run P w = .ok false w) (hp : Pts H p (x :: cs)) (hx : lk env b = p := by exact rfl) : ResAt P env H (.cell b t) x := by
 intro fr ro σ N a w r
 have h1 := r.env b
 rw [hx] at h1
 obtain ⟨b', off, h2, ⟨y, h3, _, h4⟩, _⟩ := hp fr ro σ w _ r.sim h1
 refine ⟨y, ?_, h4⟩
 simp only [h2]
 simp [asAddr, loadVar, ha, Go.load, Sem.run, h3, go_sem]
theorem ResAt.cellA {b t n : Nat} {p : A} {cs : List A} (ha : ∀ w, (isAgg t).run P w = .ok true w) (hs : ∀ w, (sizeOf t).run P w = .ok n w) (hp : Pts H p cs) (hx : lk env b = p := by exact rfl) (hl : (cs.take n).length = n := by exact rfl) :
  ResAt P env H (.cell b t) (.agg (cs.take n)) := by
 intro fr ro σ N a w r
 have h1 := r.env b
 rw [hx] at h1
 obtain ⟨b', off, h2, h3⟩ := hp fr ro σ w _ r.sim h1
 obtain ⟨l, q1, _, q2⟩ := run_loadCellsFrom (P := P) (cs := cs.take n) (off := off) 0 (by simpa using h3.take n)
 have q2 := q2 w #[] rfl
 rw [hl] at q2
 refine ⟨.agg l.toArray, ?_, l, rfl, q1⟩
 simp only [h2]
 simp [asAddr, loadVar, ha, hs, loadCells, q2, go_sem]
theorem ResAt.cellB {b t n i T : Nat} {cs : List A} (ha : ∀ w, (isAgg t).run P w = .ok true w) (hs : ∀ w, (sizeOf t).run P w = .ok n w) (hx : lk env b = .ptr i 0) (hH : H[i]? = some (.cells T cs)) (hl : cs.length = n) :
  ResAt P env H (.cell b t) (.agg cs) := by
 have := ResAt.cellA (b := b) (p := .ptr i 0) ha hs (Pts.cells (off := 0) hH rfl) hx (by subst hl; simp)
 subst hl
 simpa using this
theorem ResL.nil : ResL P env H [] [] := rfl
theorem ResL.cons {l : ResultVar} {ls : List ResultVar} {x : A} {xs : List A} (h : ResAt P env H l x) (k : ResL P env H ls xs) : ResL P env H (l :: ls) (x :: xs) := ⟨x, xs, rfl, h, k⟩
theorem ResL.run {fr ro : Nat → Prop} {σ : Sig} {N : Nat} {a : Act} {w : World} (r : Rel fr ro σ H env N a w) : ∀ {ls : List ResultVar} {xs : List A}, ResL P env H ls xs →
  ∃ vs : List Value, (ls.mapM fun l => (match l with
   | .tmp t => pure (a.tmps.getD t undef)
   | .cell b t => do loadVar t (← asAddr (a.tmps.getD b undef)) : Sem Value)).run P w = .ok vs w ∧ LR ro σ w xs vs
 | [], _, h => by obtain rfl : _ = [] := h; exact ⟨[], rfl, rfl⟩
 | l :: ls, _, h => by
  obtain ⟨x, xs, rfl, h1, h2⟩ := h
  obtain ⟨v, e1, e2⟩ := h1 fr ro σ N a w r
  obtain ⟨vs, e3, e4⟩ := ResL.run r h2
  refine ⟨v :: vs, ?_, v, vs, rfl, e2, e4⟩
  rw [List.mapM_cons]
  simp only [Sem.run_bind, e1, Result.andThen, e3, Sem.run_pure]
theorem ResOK.many {ls : List ResultVar} {xs : List A} (h : fn.results = ls.toArray) (hn : Nat.beq ls.length 1 = false) (k : ResL P env H ls xs) : ResOK P fn env H (.tup xs) := by
 intro fr ro σ N a w r
 obtain ⟨vs, e1, e2⟩ := k.run r
 have hlen : ¬ vs.length = 1 := by
  have : ∀ {ls : List ResultVar} {xs : List A}, ResL P env H ls xs → xs.length = ls.length := by
   intro ls
   induction ls with
   | nil => intro xs h; obtain rfl : xs = [] := h; rfl
   | cons l ls ih => intro xs h; obtain ⟨x, xs', rfl, _, h2⟩ := h; simp [ih h2]
  rw [e2.length, this k]
  intro q; rw [q] at hn; cases hn
 refine ⟨.tuple vs.toArray, ?_, vs, rfl, e2⟩
 unfold results
 rw [h]
 rw [List.mapM_toArray, Sem.run_bind, Sem.run_map]
 erw [e1]
 simp [Result.andThen, hlen, Sem.run_pure]
theorem ResOK.single {l : ResultVar} {x : A} (h : fn.results = #[l]) (k : ResAt P env H l x) : ResOK P fn env H x := by
 intro fr ro σ N a w r
 obtain ⟨vs, e1, e2⟩ := (ResL.cons k ResL.nil).run r
 obtain ⟨v, _, rfl, e2, rfl⟩ := e2
 refine ⟨v, ?_, e2⟩
 unfold results
 rw [h, show #[l] = [l].toArray from rfl]
 rw [List.mapM_toArray, Sem.run_bind, Sem.run_map]
 erw [e1]
 rfl
end
end Go.Sw
