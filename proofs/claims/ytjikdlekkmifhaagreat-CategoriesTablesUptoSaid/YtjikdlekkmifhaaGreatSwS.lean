/- make of slices. -/
import Derived.Test.YtjikdlekkmifhaaGreatSwR
set_option linter.unusedVariables false
set_option linter.unusedSectionVars false
set_option linter.unusedSimpArgs false
namespace Go.Sw
def mk {α : Type} (n : Int) (z : α) : Option (List α) := bif decide (0 ≤ n) && decide (n ≤ 4294967296) then some (List.replicate n.toNat z) else none
theorem mk_ok {α : Type} {n : Int} {z : α} {l : List α} (h : mk n z = some l) : 0 ≤ n ∧ n ≤ 4294967296 ∧ List.replicate n.toNat z = l := by
 unfold mk at h
 cases q : (decide (0 ≤ n) && decide (n ≤ 4294967296)) with
 | true => rw [q] at h; simp at q; exact ⟨q.1, q.2, Option.some.inj h⟩
 | false => rw [q] at h; cases h
theorem range_rep {α : Type} [Inhabited α] (zl : List α) (k : Nat) (hk : zl.length = k) (h0 : 0 < k) : ∀ n, (List.range (n * k)).map (fun i => zl.toArray[i % zl.toArray.size]!) = (List.replicate n zl).flatten
 | 0 => by simp
 | n + 1 => by
  rw [Nat.succ_mul, List.range_add, List.map_append, range_rep zl k hk h0 n, List.replicate_succ', List.flatten_append]
  congr 1
  simp only [List.flatten_cons, List.flatten_nil, List.append_nil, List.map_map]
  apply List.ext_getElem
  ·simp [hk]
  ·intro i h1 h2
   simp only [List.length_map, List.length_range] at h1
   simp only [List.getElem_map, List.getElem_range, Function.comp, List.size_toArray, hk]
   rw [Nat.mul_comm, Nat.mul_add_mod, Nat.mod_eq_of_lt h1]
   simp [hk, h1]
section
variable {P : Program} {o : Oper} {env : Env} {H : Heap} {ro : Nat → Prop} {σ : Sig} {w : World}
theorem LR.replicate {as : List A} {l : List Value} (h : LR ro σ w as l) : ∀ n, LR ro σ w (List.replicate n as).flatten (List.replicate n l).flatten
 | 0 => rfl
 | n + 1 => by
  rw [List.replicate_succ, List.replicate_succ]
  exact h.append (LR.replicate h n)
theorem OpH.mkS {α : Type} {e : α → List A} {T et k : Nat} {x y : Operand} {kx ky : IntKind} {n : Int} {zv : α} {l : List α} {z : Value} {a : A} (hm : mk n zv = some l) (E : ElemTy P T et k) (hz : ∀ w, (zeroValue et).run P w = .ok z w) (hza : ZR a z)
  (hk : knownA a = true) (hc : cellsA a = e zv) (hp : (cellsA a).all plainA = true) (hlen : Nat.beq (e zv).length k = true)
  (ho : o.op = .makeSlice T x y := by exact rfl) (hx : opA env x = .int kx n := by exact rfl) (hy : opA env y = .int ky n := by exact rfl) :
  OpH P o env H (.osl H.length 0 l.length k) (H ++ [.row et k (l.map e)]) := by
 intro fr ro σ N act w r
 obtain ⟨n0, n1, hl⟩ := mk_ok hm
 have h1 := opA_ok r x
 rw [hx] at h1
 have h2 := opA_ok r y
 rw [hy] at h2
 have h1' : act.eval x = .int kx n := h1
 have h2' : act.eval y = .int ky n := h2
 obtain ⟨i, hi, hib⟩ := E.bytes
 obtain ⟨zl, c1, c2⟩ := (hza ro [] w).cells hk
 have hzl : zl.length = k := by
  rw [c2.length, hc]; exact Nat.eq_of_beq_eq_true hlen
 have hrow : (if n.toNat * k = 0 then (#[] : Array Value) else zl.toArray) = zl.toArray ∨ n.toNat * k = 0 := by
  by_cases q : n.toNat * k = 0
  ·exact .inr q
  ·exact .inl (if_neg q)
 have hcells : ∀ (ZZ : Array Value), (ZZ = zl.toArray ∨ n.toNat * k = 0) → (Array.range (n.toNat * k)).map (fun j => ZZ[j % ZZ.size]!) = ((List.replicate n.toNat zl).flatten).toArray := by
  intro ZZ hZ
  by_cases q : n.toNat * k = 0
  ·rw [q]
   have : (List.replicate n.toNat zl).flatten = [] := by
    apply List.length_eq_zero_iff.1
    simp [hzl, q]
   rw [this]; simp
  ·obtain rfl : ZZ = zl.toArray := hZ.resolve_right q
   have hk0 : 0 < k := by
    rcases Nat.eq_zero_or_pos k with h | h
    ·rw [h, Nat.mul_zero] at q; exact absurd rfl q
    ·exact h
   rw [← range_rep zl k hzl hk0 n.toNat]
   simp [List.map_toArray, ← List.toArray_range]
 have hrl := c2.replicate n.toNat
 have hal : allK k (List.replicate n.toNat (e zv)) := by
  have : ∀ m, allK k (List.replicate m (e zv)) := by
   intro m
   induction m with
   | zero => trivial
   | succ m ih => exact ⟨Nat.eq_of_beq_eq_true hlen, ih⟩
  exact this _
 have hplain : ∀ v ∈ (List.replicate n.toNat zl).flatten, plainV v := by
  intro v hv
  obtain ⟨m, hm, hv⟩ := List.mem_flatten.1 hv
  rw [List.eq_of_mem_replicate hm] at hv
  exact c2.plain hp v hv
 rw [hc] at hrl
 have hs := r.sim.allocRow (t := et) (rest := []) hal hrl hplain
 rw [List.append_nil] at hs
 have hmap : l.map e = List.replicate n.toNat (e zv) := by rw [← hl, List.map_replicate]
 have hll : l.length = n.toNat := by rw [← hl]; simp
 have hsh : (w.alloc (.cells ((List.replicate n.toNat zl).flatten).toArray et)).shape? w.heap.size = some (et, n.toNat * k) := by
  unfold World.shape?
  rw [alloc_new]
  simp [hzl]
 refine ⟨.slice (some ⟨w.heap.size, 0, none⟩) n.toNat n.toNat, w.alloc (.cells ((List.replicate n.toNat zl).flatten).toArray et), ro, [some w.heap.size], ?_, ?_, hmap ▸ hs, Evolve.alloc _ r.sim.roLt r.sim.frLt⟩
 ·have hw : IntKind.i64.wrap n = n := by
   unfold IntKind.wrap
   simp [IntKind.bits, IntKind.signed]
   omega
  have har : ∀ (x : Nat) (W : World), (askRoom x).run P W = .ok () W := by
   intro x W; unfold askRoom; split <;> rfl
  have hnr : ∀ (c : Array Value) (W : World), (newRow et c).run P W = .ok ⟨W.heap.size, 0, none⟩ (W.alloc (.cells c et)) := fun c W => rfl
  have hb1 : ¬ (n < 0) := by omega
  have hb2 : ¬ ((i.bytes : Int) * n > 2 ^ 48) := by
   have h1 : (i.bytes : Int) * n ≤ 4096 * 4294967296 := Int.mul_le_mul (by omega) n1 n0 (by omega)
   omega
  have hrun : (Instr.makeSlice T (.int kx n) (.int ky n)).run P w = .ok (.slice (some ⟨w.heap.size, 0, none⟩) n.toNat n.toNat) (w.alloc (.cells ((List.replicate n.toNat zl).flatten).toArray et)) := by
   have hge : ¬ (n > n) := by omega
   have hai : ∀ (k : IntKind) (m : Int) (W : World), (asInt (.int k m)).run P W = .ok m W := fun k m W => rfl
   unfold Instr.makeSlice
   simp only [Sem.run_bind, E.sl, E.size, hi, Result.andThen, hai, Sem.run_pure, hw, har, Sem.run_ite]
   rw [if_neg (by simp [hb1, hb2]; omega)]
   by_cases q : n.toNat * k = 0
   ·simp only [q, if_true, Sem.run_pure]
    have := hcells #[] (.inr q)
    rw [q] at this
    simp only [this, hnr]
   ·simp only [q, if_false, hz, Sem.run_pure, c1, hcells zl.toArray (.inl rfl), hnr]
  generalize act.eval = ρ at *
  simp only [execOp, ho, h1', h2', Sem.run_bind, hrun, Result.andThen]
  rfl
 ·right
  refine ⟨w.heap.size, 0, n.toNat, et, n.toNat * k, ?_, by rw [hll], fun _ => by simp, by rw [hll]; exact Nat.le_refl _, hsh, by simp⟩
  rw [← r.sim.len]; simp
end
end Go.Sw
