/- Literals, cuts, make, copy, min and max over abstract states. -/
import Derived.Test.YtkjlhfabbbomjaaGreatDoorSwH
set_option linter.unusedVariables false
set_option linter.unusedSectionVars false
set_option linter.unusedSimpArgs false
namespace Go.Sw
section
variable {P : Program} {o : Oper} {env : Env} {H : Heap}
theorem foldl_set {α : Type} : ∀ (vs : List α) (off i : Nat) (l : List α), off + i + vs.length ≤ l.length →
  (vs.zipIdx i).foldl (fun (cs : Array α) (x : α × Nat) => cs.setIfInBounds (off + x.2) x.1) l.toArray = (splice l (off + i) vs).toArray
 | [], off, i, l, h => by simp [splice]
 | v :: vs, off, i, l, h => by
  simp only [List.length_cons] at h
  rw [List.zipIdx_cons, List.foldl_cons]
  have e1 : l.toArray.setIfInBounds (off + i) v = (splice l (off + i) [v]).toArray := by
   have : l.toArray.setIfInBounds (off + i) v = (l.set (off + i) v).toArray := by simp
   rw [this]
   congr 1
   rw [List.set_eq_take_append_cons_drop, if_pos (by omega)]
   simp [splice]
  rw [e1, foldl_set vs off (i + 1) _ (by rw [splice_length (by simp; omega)]; omega)]
  congr 1
  have hlen : (l.take (off + i)).length = off + i := by simp; omega
  unfold splice
  rw [List.append_assoc (l.take (off + i))]
  have e3 : off + (i + 1) = (l.take (off + i)).length + 1 := by omega
  have e5 : (l.take (off + i) ++ ([v] ++ l.drop (off + i + [v].length))).take ((l.take (off + i)).length + 1) = l.take (off + i) ++ [v] := by
   rw [List.take_length_add_append]; simp
  have e6 : (l.take (off + i) ++ ([v] ++ l.drop (off + i + [v].length))).drop ((l.take (off + i)).length + 1 + vs.length) = l.drop (off + i + (v :: vs).length) := by
   rw [show (l.take (off + i)).length + 1 + vs.length = (l.take (off + i)).length + (1 + vs.length) from by omega, List.drop_length_add_append]
   simp [Nat.add_comm 1]
   congr 1; omega
  rw [e3, e5, e6]; simp
theorem fill_cons {place : Nat → Option (Nat × Nat)} {l : List Value} {i off size : Nat} {v : Value} {m : List Value} {rest : List (Nat × Value)} (hp : place i = some (off, size)) (hm : v.cells = m.toArray) (hs : m.length = size)
  (hl : off + size ≤ l.length) : Instr.fill place l.toArray ((i, v) :: rest) = Instr.fill place (splice l off m).toArray rest := by
 have hsz : v.cells.size = size := by rw [hm]; simpa using hs
 rw [Instr.fill]
 simp only [hp]
 rw [if_neg (by simp [hsz]; omega), hm]
 congr 1
 have := foldl_set m off 0 l (by omega)
 rw [Nat.add_zero] at this
 rw [← this]
 simp [Array.foldl_toList]
def mkParts : Nat → List Operand → List (Nat × Operand)
 | _, [] => []
 | i, x :: xs => (i, x) :: mkParts (i + 1) xs
def partCells (env : Env) (xs : List Operand) : List (List A) := xs.map fun x => cellsA (opA env x)
theorem fill_row {fr ro : Nat → Prop} {σ : Sig} {N : Nat} {a : Act} {w : World} (r : Rel fr ro σ H env N a w) {k : Nat} : ∀ (xs : List Operand) (j : Nat) (pre rest : List Value), pre.length = j * k → rest.length = xs.length * k →
  (xs.all fun x => knownA (opA env x)) = true → allK k (partCells env xs) →
  ∃ l, Instr.fill (fun i => some (i * k, k)) (pre ++ rest).toArray ((mkParts j xs).map fun p => (p.1, a.eval p.2)) = some (pre ++ l).toArray ∧ LR ro σ w (partCells env xs).flatten l
 | [], j, pre, rest, h1, h2, _, _ => by
  have : rest = [] := List.length_eq_zero_iff.1 (by simpa using h2)
  subst this
  exact ⟨[], rfl, rfl⟩
 | x :: xs, j, pre, rest, h1, h2, h3, h4 => by
  simp only [List.all_cons, Bool.and_eq_true] at h3
  obtain ⟨hk1, hk2⟩ := h4
  obtain ⟨m, q1, q2⟩ := (opA_ok r x).cells h3.1
  have hm : m.length = k := by rw [q2.length]; exact hk1
  simp only [List.length_cons, Nat.succ_mul] at h2
  simp only [mkParts, List.map_cons]
  rw [fill_cons (off := j * k) (size := k) rfl q1 hm (by simp; omega)]
  have e : splice (pre ++ rest) (j * k) m = (pre ++ m) ++ rest.drop k := by
   unfold splice
   rw [← h1, List.take_left, List.drop_length_add_append, hm]
  rw [e]
  obtain ⟨l, p1, p2⟩ := fill_row r xs (j + 1) (pre ++ m) (rest.drop k) (by simp [h1, hm, Nat.succ_mul]) (by simp; omega) h3.2 hk2
  refine ⟨m ++ l, ?_, ?_⟩
  ·rw [p1]; simp
  ·show LR ro σ w ((cellsA (opA env x)) ++ (partCells env xs).flatten) (m ++ l)
   exact q2.append p2
theorem run_buildSlice {fr ro : Nat → Prop} {σ : Sig} {N : Nat} {a : Act} {w : World} (r : Rel fr ro σ H env N a w) {T e k n : Nat} {xs : List Operand} (E : ElemTy P T e k) (hn : xs.length = n) (hsz : Nat.ble (n * k) 16777216 = true)
  (h3 : (xs.all fun x => knownA (opA env x)) = true) (h4 : allK k (partCells env xs)) :
  ∃ l, (Instr.buildSlice T n (((mkParts 0 xs).map fun p => (p.1, a.eval p.2)).toArray)).run P w = .ok (.slice (some ⟨w.heap.size, 0, none⟩) n n) (w.alloc (.cells l.toArray e)) ∧ LR ro σ w (partCells env xs).flatten l := by
 obtain ⟨z, hz, hzk⟩ := E.zero
 have hsz' : n * k ≤ 16777216 := by simpa using hsz
 have hnr : ∀ (c : Array Value) (W : World), (newRow e c).run P W = .ok ⟨W.heap.size, 0, none⟩ (W.alloc (.cells c e)) := fun c W => rfl
 unfold Instr.buildSlice
 by_cases h0 : n * k = 0
 ·obtain ⟨l, p1, p2⟩ := fill_row r (k := k) xs 0 [] [] (by simp) (by rw [hn]; simpa using h0.symm) h3 h4
  refine ⟨l, ?_, p2⟩
  simp only [Sem.run_bind, E.sl, Result.andThen, E.size, h0]
  simp only [Nat.not_lt_zero, gt_iff_lt, if_false, if_true, Sem.run_pure, Sem.run_ite, Result.andThen]
  have e0 : Array.range 0 = #[] := rfl
  simp at p1
  simp [e0, p1, hnr]
 ·obtain ⟨l, p1, p2⟩ := fill_row r (k := k) xs 0 [] ((Array.range (n * k)).map (fun i => z.cells[i % z.cells.size]!)).toList (by simp) (by rw [hn]; simp) h3 h4
  refine ⟨l, ?_, p2⟩
  simp only [Sem.run_bind, E.sl, Result.andThen, E.size, if_neg h0, Sem.run_ite, hz, Sem.run_pure]
  rw [if_neg (by omega)]
  simp only [List.nil_append] at p1
  rw [Array.toArray_toList] at p1
  simp only [p1, Sem.run_bind, hnr, Result.andThen, Sem.run_pure]
theorem exec_buildSlice {T n : Nat} {xs : List Operand} (ho : o.op = .buildSlice T n (mkParts 0 xs).toArray) (ρ : Operand → Value) {v : Value} {w w' : World}
  (h : (Instr.buildSlice T n (((mkParts 0 xs).map fun p => (p.1, ρ p.2)).toArray)).run P w = .ok v w') : (execOp ρ o).run P w = .ok (.value v) w' := by
 simp only [execOp, ho, Sem.run_bind, List.map_toArray, h, Result.andThen, Sem.run_pure]
theorem OpH.lit {T e k n : Nat} {xs : List Operand} {es : List (List A)} (E : ElemTy P T e k) (ho : o.op = .buildSlice T n (mkParts 0 xs).toArray) (hn : xs.length = n) (hsz : Nat.ble (n * k) 16777216 = true)
  (hk : (xs.all fun x => knownA (opA env x)) = true) (hes : partCells env xs = es) (h4 : allK k es) (hp : es.flatten.all plainA = true) (hd : dataL es.flatten = true) :
  OpH P o env H (.osl H.length 0 n k) (H ++ [.row e k es]) := by
 intro fr ro σ N a w r
 subst hes
 obtain ⟨l, h1, h2⟩ := run_buildSlice r E hn hsz hk h4
 have h2' : LR ro [] w (partCells env xs).flatten l := h2.data hd
 obtain ⟨s1, e1⟩ := LR.toRow (T := e) (rest := []) r.sim h4 h2' (h2.plain hp)
 rw [List.append_nil] at s1 e1
 have hl : l.length = n * k := by rw [h2.length, allK_length h4]; simp [partCells, hn]
 refine ⟨_, _, ro, [some w.heap.size], exec_buildSlice ho a.eval h1, .inr ⟨w.heap.size, 0, n, e, l.length, ?_, rfl, fun _ => by simp, Nat.le_refl _, ?_, by rw [hl, Nat.zero_add]; exact Nat.le_refl _⟩, s1, e1⟩
 ·rw [← r.sim.len]; simp
 ·unfold World.shape?; rw [alloc_new]; simp
theorem OpH.litr {T e k n : Nat} {xs : List Operand} {es : List (List A)} (E : ElemTy P T e k) (ho : o.op = .buildSlice T n (mkParts 0 xs).toArray) (hn : xs.length = n) (hsz : Nat.ble (n * k) 16777216 = true)
  (hk : (xs.all fun x => knownA (opA env x)) = true) (hes : partCells env xs = es) (h4 : allK k es) (hp : es.flatten.all plainA = true) :
  OpH P o env H (.osl H.length 0 n k) (H ++ [.rowr e k es]) := by
 intro fr ro σ N a w r
 subst hes
 obtain ⟨l, h1, h2⟩ := run_buildSlice r E hn hsz hk h4
 have s1 := r.sim.allocRowr (t := e) (rest := []) h4 h2 (h2.plain hp)
 rw [List.append_nil] at s1
 have hl : l.length = n * k := by rw [h2.length, allK_length h4]; simp [partCells, hn]
 refine ⟨_, _, ro, [some w.heap.size], exec_buildSlice ho a.eval h1, .inr ⟨w.heap.size, 0, n, e, l.length, ?_, rfl, fun _ => by simp, Nat.le_refl _, ?_, by rw [hl, Nat.zero_add]; exact Nat.le_refl _⟩, s1, Evolve.alloc _ r.sim.roLt r.sim.frLt⟩
 ·rw [← r.sim.len]; simp
 ·unfold World.shape?; rw [alloc_new]; simp
theorem run_sliceBound {n : Int} {y : Nat} {c : BoundsCode} {w : World} (h0 : 0 ≤ n) (h1 : n ≤ y) : (Instr.sliceBound (.int .i64 n) y c).run P w = .ok n.toNat w := by
 simp [Instr.sliceBound, asIntOf, h0, h1, go_sem]
theorem run_cut {T e : Nat} {k : Nat} {w : World} (E1 : ∀ w, (underlying T).run P w = .ok (.slice e) w) (E2 : ∀ w, (sizeOf e).run P w = .ok k w) {ad : Option Addr} {n cap : Nat} {lo hi : Option Value} {l h : Nat} (hcap : n ≤ cap)
  (hlo : lo = none ∧ l = 0 ∨ ∃ z : Int, lo = some (.int .i64 z) ∧ 0 ≤ z ∧ z.toNat = l) (hhi : hi = none ∧ h = n ∨ ∃ z : Int, hi = some (.int .i64 z) ∧ 0 ≤ z ∧ z.toNat = h) (hlh : l ≤ h) (hh : h ≤ n) :
  (Instr.sliceAt T (.slice ad n cap) lo hi none).run P w = .ok (.slice (if cap = l then ad else ad.map (·.add (l * k))) (h - l) (cap - l)) w := by
 have h2 : (Instr.sliceBounds true n cap lo hi none).run P w = .ok (l, h, cap) w := by
  rcases hlo with ⟨rfl, rfl⟩ | ⟨z, rfl, z0, rfl⟩ <;> rcases hhi with ⟨rfl, rfl⟩ | ⟨y, rfl, y0, rfl⟩
  ·simp [Instr.sliceBounds, go_sem]
  ·simp only [Instr.sliceBounds, Sem.run_bind, Sem.run_pure, Result.andThen, run_sliceBound y0 (show y ≤ (cap : Int) by omega)]
  ·simp only [Instr.sliceBounds, Sem.run_bind, Sem.run_pure, Result.andThen, run_sliceBound z0 (show z ≤ (h : Int) by omega)]
  ·simp only [Instr.sliceBounds, Sem.run_bind, Sem.run_pure, Result.andThen, run_sliceBound y0 (show y ≤ (cap : Int) by omega), run_sliceBound z0 (show z ≤ (y.toNat : Int) by omega)]
 simp only [Instr.sliceAt, Sem.run_bind, E1, Result.andThen, Instr.slice, h2, E2, Sem.run_pure]
theorem opt_eval {fr ro : Nat → Prop} {σ : Sig} {N : Nat} {a : Act} {w : World} (r : Rel fr ro σ H env N a w) {x : Option Operand} {l d : Nat} (h : x = none ∧ l = d ∨ ∃ y, ∃ z : Int, x = some y ∧ opA env y = .int .i64 z ∧ 0 ≤ z ∧ z.toNat = l) :
  x.map a.eval = none ∧ l = d ∨ ∃ z : Int, x.map a.eval = some (.int .i64 z) ∧ 0 ≤ z ∧ z.toNat = l := by
 rcases h with ⟨rfl, rfl⟩ | ⟨y, z, rfl, h1, h2, h3⟩
 ·exact .inl ⟨rfl, rfl⟩
 ·exact .inr ⟨z, by simp [opA_int r h1], h2, h3⟩
theorem OpV.cutN {T e k : Nat} {x : Operand} {lo hi : Option Operand} {l h : Nat} (E1 : ∀ w, (underlying T).run P w = .ok (.slice e) w) (E2 : ∀ w, (sizeOf e).run P w = .ok k w) (ho : o.op = .slice T x lo hi none)
  (hx : opA env x = .nils) (hlo : lo = none ∧ l = 0 ∨ ∃ y, ∃ z : Int, lo = some y ∧ opA env y = .int .i64 z ∧ 0 ≤ z ∧ z.toNat = l)
  (hhi : hi = none ∧ h = 0 ∨ ∃ y, ∃ z : Int, hi = some y ∧ opA env y = .int .i64 z ∧ 0 ≤ z ∧ z.toNat = h) (hlh : l ≤ h) (hh : h ≤ 0) : OpV P o env H .nils := by
 intro fr ro σ N a w r
 have h1 := opA_ok r x
 rw [hx] at h1
 simp only [VR] at h1
 have hrun := run_cut (P := P) (w := w) E1 E2 (ad := none) (Nat.le_refl 0) (opt_eval r hlo) (opt_eval r hhi) hlh hh
 refine ⟨_, by simp only [execOp, ho, h1, Sem.run_bind, hrun, Result.andThen, Sem.run_pure, Option.map_none]; rfl, ?_⟩
 obtain rfl : h = 0 := by omega
 obtain rfl : l = 0 := by omega
 simp [VR]
theorem OpV.max {c : Call} {x y : Operand} {k : IntKind} {m n : Int} (ho : o.op = .call c) (hc : c = { callee := .builtin .max, args := #[x, y], argTypes := c.argTypes }) (hx : opA env x = .int k m) (hy : opA env y = .int k n) :
  OpV P o env H (.int k (if m < n then n else m)) := by
 intro fr ro σ N a w r
 have h1 := opA_int r hx
 have h2 := opA_int r hy
 refine ⟨_, ?_, rfl⟩
 generalize a.eval = ρ at *
 have hc1 : c.callee = .builtin .max := by rw [hc]
 have hc2 : c.args = #[x, y] := by rw [hc]
 simp only [execOp, ho, resolve, hc1, hc2, invoke, Go.builtin, Sem.run_bind, Sem.run_pure, Result.andThen]
 simp [Builtin.max_, Builtin.max2, h1, h2, go_sem]
theorem OpV.min {c : Call} {x y : Operand} {k : IntKind} {m n : Int} (ho : o.op = .call c) (hc : c = { callee := .builtin .min, args := #[x, y], argTypes := c.argTypes }) (hx : opA env x = .int k m) (hy : opA env y = .int k n) :
  OpV P o env H (.int k (if n < m then n else m)) := by
 intro fr ro σ N a w r
 have h1 := opA_int r hx
 have h2 := opA_int r hy
 refine ⟨_, ?_, rfl⟩
 generalize a.eval = ρ at *
 have hc1 : c.callee = .builtin .min := by rw [hc]
 have hc2 : c.args = #[x, y] := by rw [hc]
 simp only [execOp, ho, resolve, hc1, hc2, invoke, Go.builtin, Sem.run_bind, Sem.run_pure, Result.andThen]
 simp [Builtin.min_, Builtin.min2, h1, h2, go_sem]
end
end Go.Sw
