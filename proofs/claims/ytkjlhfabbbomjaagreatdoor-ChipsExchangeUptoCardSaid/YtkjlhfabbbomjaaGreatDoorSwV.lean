/- Rows that are read-only from the first; nil slices as arguments. -/
import Derived.Test.YtkjlhfabbbomjaaGreatDoorSwU
set_option linter.unusedVariables false
set_option linter.unusedSectionVars false
set_option linter.unusedSimpArgs false
namespace Go.Sw
section
variable {P : Program} {o : Oper} {env : Env} {H : Heap} {fr ro : Nat → Prop} {σ : Sig} {w : World}
theorem Sim.addRo (s : Sim fr ro σ H w) {b : Nat} (hb : b < w.heap.size) (hf : ¬ fr b) (ho : ∀ (i : Nat) (x : Blk), σ[i]? = some (some b) → H[i]? = some x → x.live = true → False) : Sim fr (fun c => ro c ∨ c = b) σ H w := by
 refine ⟨s.len, s.roOk.to (fun _ q => .inl q) (fun _ _ => rfl) ?_, s.frLt, ?_, ?_, s.inj, ?_⟩
 ·rintro c (q | rfl)
  ·exact s.roLt c q
  ·exact hb
 ·rintro c (q | rfl)
  ·exact s.roFr c q
  ·exact hf
 ·intro i c x h1 h2 h3
  obtain ⟨p1, p2, p3⟩ := s.own i c x h1 h2 h3
  refine ⟨p1, ?_, p3⟩
  rintro (q | rfl)
  ·exact p2 q
  ·exact ho i x h1 h2 h3
 ·intro i y x h1 h2
  exact (s.blk i y x h1 h2).keep ⟨fun _ q => .inl q, fun _ _ => rfl, fun _ _ q => q, fun _ _ q => q⟩ fun _ _ _ => rfl
theorem OpH.litR {T e k n : Nat} {xs : List Operand} {es : List (List A)} (E : ElemTy P T e k) (ho : o.op = .buildSlice T n (mkParts 0 xs).toArray) (hn : xs.length = n) (hsz : Nat.ble (n * k) 16777216 = true)
  (hk : (xs.all fun x => knownA (opA env x)) = true) (hes : partCells env xs = es) (h4 : allK k es) (hp : es.flatten.all plainA = true) (hd : dataL es.flatten = true) :
  OpH P o env H (.rsl k es) H := by
 intro fr ro σ N a w r
 subst hes
 obtain ⟨l, h1, h2⟩ := run_buildSlice r E hn hsz hk h4
 have h2' : LR ro [] w (partCells env xs).flatten l := h2.data hd
 have hold : ∀ b, b < w.heap.size → (w.alloc (.cells l.toArray e)).heap[b]? = w.heap[b]? := fun b hb => alloc_heap _ _ b hb
 have hsz1 : w.heap.size ≤ (w.alloc (.cells l.toArray e)).heap.size := by rw [alloc_size]; omega
 have s1 := r.sim.grown hold hsz1
 have ev1 : Evolve fr ro w ro (w.alloc (.cells l.toArray e)) := Evolve.alloc _ r.sim.roLt r.sim.frLt
 have s2 := s1.addRo (b := w.heap.size) (by rw [alloc_size]; omega) (fun q => Nat.lt_irrefl _ (r.sim.frLt _ q)) (fun i x p1 p2 p3 => Nat.lt_irrefl _ (r.sim.own i _ x p1 p2 p3).1)
 have hrl : RL ro [] (w.alloc (.cells l.toArray e)) k (partCells env xs) l := by
  have := RL.of_flat (rest := []) h4 (h2'.mono (ev1.ext0 [])) (h2.plain hp)
  rwa [List.append_nil] at this
 have hlen : (partCells env xs).length = n := by simp [partCells, hn]
 refine ⟨_, _, fun c => ro c ∨ c = w.heap.size, [], exec_buildSlice ho a.eval h1, ?_, by simpa using s2, ev1.trans (Evolve.same fun _ q => .inl q)⟩
 refine ⟨some ⟨w.heap.size, 0, none⟩, n, by rw [hlen], by rw [hlen]; exact Nat.le_refl _, .inr ⟨w.heap.size, 0, rfl, .inr rfl, ?_⟩⟩
 have hnew : (w.alloc (.cells l.toArray e)).heap[w.heap.size]? = some (.cells (([] : List Value) ++ l).toArray e (0, 0)) := alloc_new _ _
 have := RL.toRR (pre := []) hnew hrl
 exact this.keep ⟨fun _ q => .inl q, fun _ _ => rfl, fun _ _ q => q, fun _ _ q => q⟩ rfl
end
inductive NilL : List A → List A → Prop
 | nil : NilL [] []
 | eq {a : A} {l m : List A} (h : NilL l m) : NilL (a :: l) (a :: m)
 | nl {k : Nat} {l m : List A} (h : NilL l m) : NilL (.nils :: l) (.rsl k [] :: m)
theorem LR.nils {ro : Nat → Prop} {σ : Sig} {w : World} {l1 bs : List A} (h : NilL l1 bs) : ∀ {l : List Value}, LR ro σ w l1 l → LR ro σ w bs l := by
 induction h with
 | nil => intro l h; exact h
 | eq _ ih => rintro l ⟨v, l', e, h1, h2⟩; exact ⟨v, l', e, h1, ih h2⟩
 | nl _ ih => rintro l ⟨v, l', e, h1, h2⟩; exact ⟨v, l', e, ⟨none, 0, h1, Nat.le_refl _, .inl rfl⟩, ih h2⟩
theorem C.nils {P : Program} {f : FuncId} {l1 bs : List A} {H : Heap} {Q : A → Heap → Prop} (hl : NilL l1 bs) (h : C P f bs H Q) : C P f l1 H Q :=
 fun fr ro σ vals w s l => h fr ro σ vals w s (LR.nils hl l)
end Go.Sw
