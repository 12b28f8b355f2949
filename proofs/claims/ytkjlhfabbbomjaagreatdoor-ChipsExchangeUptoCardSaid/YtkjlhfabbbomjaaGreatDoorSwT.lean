/- Sorting by a comparison: slices.SortFunc at structs, over the kit's own contract. -/
import Derived.Test.YtkjlhfabbbomjaaGreatDoorSwS
import Derived.Shelf.SlSortCmp.NoneTotal
set_option linter.unusedVariables false
set_option linter.unusedSectionVars false
set_option linter.unusedSimpArgs false
namespace Go.Sw
open Go.Sort Go.Proofs Go.Shelf
section
variable {α : Type}
def ins (lt : α → α → Bool) (x : α) : List α → List α
 | [] => [x]
 | y :: l => bif lt y x then y :: ins lt x l else x :: y :: l
def isort (lt : α → α → Bool) : List α → List α
 | [] => []
 | x :: l => ins lt x (isort lt l)
theorem ins_perm (lt : α → α → Bool) (x : α) : ∀ l, (ins lt x l).Perm (x :: l)
 | [] => .refl _
 | y :: l => by
  unfold ins
  cases lt y x
  ·exact .refl _
  ·exact ((ins_perm lt x l).cons y).trans (List.Perm.swap _ _ _)
theorem isort_perm (lt : α → α → Bool) : ∀ l, (isort lt l).Perm l
 | [] => .refl _
 | x :: l => (ins_perm lt x _).trans ((isort_perm lt l).cons x)
structure SwoOn (lt : α → α → Bool) (l : List α) : Prop where
 irrefl : ∀ x ∈ l, lt x x = false
 trans : ∀ x ∈ l, ∀ y ∈ l, ∀ z ∈ l, lt x y = true → lt y z = true → lt x z = true
 ntrans : ∀ x ∈ l, ∀ y ∈ l, ∀ z ∈ l, lt x y = false → lt y z = false → lt x z = false
theorem SwoOn.mono {lt : α → α → Bool} {l m : List α} (h : SwoOn lt l) (hm : ∀ x ∈ m, x ∈ l) : SwoOn lt m :=
 ⟨fun x hx => h.irrefl x (hm x hx), fun x hx y hy z hz => h.trans x (hm x hx) y (hm y hy) z (hm z hz), fun x hx y hy z hz => h.ntrans x (hm x hx) y (hm y hy) z (hm z hz)⟩
theorem SwoOn.asymm {lt : α → α → Bool} {l : List α} (h : SwoOn lt l) {x y : α} (hx : x ∈ l) (hy : y ∈ l) (hxy : lt x y = true) : lt y x = false := by
 cases q : lt y x
 ·rfl
 ·rw [← h.irrefl x hx, h.trans x hx y hy x hx hxy q]
theorem ins_sorted {lt : α → α → Bool} {x : α} : ∀ {l : List α}, SwoOn lt (x :: l) → l.Pairwise (fun a b => lt b a = false) → (ins lt x l).Pairwise (fun a b => lt b a = false)
 | [], _, _ => by simp [ins]
 | y :: l, h, hp => by
  obtain ⟨h1, h2⟩ := List.pairwise_cons.1 hp
  unfold ins
  cases q : lt y x
  ·refine List.pairwise_cons.2 ⟨fun z hz => ?_, hp⟩
   rcases List.mem_cons.1 hz with rfl | hz
   ·exact q
   ·exact h.ntrans z (by simp [hz]) y (by simp) x (by simp) (h1 z hz) q
  ·refine List.pairwise_cons.2 ⟨fun z hz => ?_, ins_sorted (h.mono (by intro z hz; rcases List.mem_cons.1 hz with rfl | hz <;> simp [*])) h2⟩
   rcases List.mem_cons.1 ((ins_perm lt x l).mem_iff.1 hz) with rfl | hz
   ·exact h.asymm (by simp) (by simp) q
   ·exact h1 z hz
theorem isort_sorted {lt : α → α → Bool} : ∀ {l : List α}, SwoOn lt l → (isort lt l).Pairwise (fun a b => lt b a = false)
 | [], _ => by simp [isort]
 | x :: l, h => ins_sorted (h.mono (by
   intro z hz
   rcases List.mem_cons.1 hz with rfl | hz
   ·simp
   ·exact List.mem_cons_of_mem _ ((isort_perm lt l).mem_iff.1 hz))) (isort_sorted (h.mono fun z hz => List.mem_cons_of_mem _ hz))
theorem sorted_one {lt : α → α → Bool} : ∀ {l m : List α}, l.Perm m → (∀ x ∈ l, ∀ y ∈ l, lt x y = false → lt y x = false → x = y) → l.Pairwise (fun a b => lt b a = false) → m.Pairwise (fun a b => lt b a = false) → l = m
 | [], m, h, _, _, _ => by rw [List.nil_perm.1 h]
 | x :: l, [], h, _, _, _ => by have := h.length_eq; simp at this
 | x :: l, y :: m, h, ha, hl, hm => by
  obtain ⟨l1, l2⟩ := List.pairwise_cons.1 hl
  obtain ⟨m1, m2⟩ := List.pairwise_cons.1 hm
  have hy : y ∈ x :: l := h.mem_iff.2 (by simp)
  have hx : x ∈ y :: m := h.mem_iff.1 (by simp)
  have hxy : x = y := by
   rcases List.mem_cons.1 hy with e | hy'
   ·exact e.symm
   ·rcases List.mem_cons.1 hx with e | hx'
    ·exact e
    ·exact ha x (by simp) y (by simp [hy']) (m1 x hx') (l1 y hy')
  subst hxy
  rw [sorted_one ((List.perm_cons x).1 h) (fun a ha' b hb' => ha a (by simp [ha']) b (by simp [hb'])) l2 m2]
def ltO (cf : α → α → Option Int) (x y : α) : Bool := match cf x y with
 | some c => decide (c < 0)
 | none => false
def cmpOk [DecidableEq α] (cf : α → α → Option Int) (l : List α) : Bool :=
 l.all fun x => !ltO cf x x && l.all fun y => (cf x y).isSome && (ltO cf x y || ltO cf y x || decide (x = y)) && l.all fun z => (!ltO cf x y || !ltO cf y z || ltO cf x z) && (ltO cf x y || ltO cf y z || !ltO cf x z)
def sortF [DecidableEq α] (cf : α → α → Option Int) (l : List α) : Option (List α) := bif Nat.ble l.length lenMax && cmpOk cf l then some (isort (ltO cf) l) else none
theorem sortF_ok [DecidableEq α] {cf : α → α → Option Int} {l l' : List α} (h : sortF cf l = some l') :
  l.length ≤ lenMax ∧ (∀ x ∈ l, ∀ y ∈ l, ∃ c, cf x y = some c) ∧ SwoOn (ltO cf) l ∧ (∀ x ∈ l, ∀ y ∈ l, ltO cf x y = false → ltO cf y x = false → x = y) ∧ isort (ltO cf) l = l' := by
 unfold sortF at h
 cases q0 : Nat.ble l.length lenMax with
 | false => rw [q0] at h; cases h
 | true =>
 rw [q0, Bool.true_and] at h
 cases q : cmpOk cf l with
 | false => rw [q] at h; cases h
 | true =>
  rw [q] at h
  refine ⟨Nat.le_of_ble_eq_true q0, ?_⟩
  unfold cmpOk at q
  simp only [List.all_eq_true, Bool.and_eq_true, Bool.not_eq_true', Bool.or_eq_true, decide_eq_true_eq] at q
  refine ⟨fun x hx y hy => Option.isSome_iff_exists.1 ((q x hx).2 y hy).1.1, ⟨fun x hx => (q x hx).1, fun x hx y hy z hz h1 h2 => ?_, fun x hx y hy z hz h1 h2 => ?_⟩, fun x hx y hy h1 h2 => ?_, Option.some.inj h⟩
  ·rcases (((q x hx).2 y hy).2 z hz).1 with (h3 | h3) | h3
   ·rw [h1] at h3; cases h3
   ·rw [h2] at h3; cases h3
   ·exact h3
  ·rcases (((q x hx).2 y hy).2 z hz).2 with (h3 | h3) | h3
   ·rw [h1] at h3; cases h3
   ·rw [h2] at h3; cases h3
   ·exact h3
  ·rcases ((q x hx).2 y hy).1.2 with (h3 | h3) | h3
   ·rw [h1] at h3; cases h3
   ·rw [h2] at h3; cases h3
   ·exact h3
theorem sortF_len [DecidableEq α] {cf : α → α → Option Int} {l l' : List α} (h : sortF cf l = some l') : l.length = l'.length := by
 rw [← (sortF_ok h).2.2.2.2]; exact (isort_perm _ _).length_eq.symm
theorem Le.ov1 {h0 : Nat} {env : Env} {H : Heap} {s : Nat} {a a' : A} (h : lk env s = a) (e : a = a') : Le h0 env H (up env s a') H := by
 intro fr ro σ N act w r
 refine ⟨ro, σ, ⟨r.sim, fun s' => ?_, r.size, r.defers⟩, fun _ q => q, rfl⟩
 subst e
 have : lk (up env s a) s' = lk env s' := by
  simp only [lk]
  cases q : Nat.beq s' s with
  | true => rw [Nat.eq_of_beq_eq_true q, h]; rfl
  | false => rfl
 rw [this]; exact r.env s'
end
section
variable {fr ro : Nat → Prop} {σ : Sig} {H : Heap} {w w' : World}
theorem ext_of_heap (hh : ∀ b, b < w.heap.size → w'.heap[b]? = w.heap[b]?) (hro : ∀ b, ro b → b < w.heap.size) (σ : Sig) : Ext ro σ w ro σ w' :=
 ⟨fun _ q => q, fun b hb => hh b (hro b hb), fun b x hx => by unfold World.shape? at hx ⊢; rw [hh b (shape_lt hx)]; exact hx, fun _ _ q => q⟩
theorem Sim.grown (s : Sim fr ro σ H w) (hh : ∀ b, b < w.heap.size → w'.heap[b]? = w.heap[b]?) (hs : w.heap.size ≤ w'.heap.size) : Sim fr ro σ H w' := by
 refine ⟨s.len, s.roOk.to (fun _ q => q) (fun b q => hh b (s.roLt b q)) (fun b h => Nat.lt_of_lt_of_le (s.roLt b h) hs), fun b h => Nat.lt_of_lt_of_le (s.frLt b h) hs, s.roFr, fun i b x h1 h2 h3 => ?_, s.inj, fun i y x h1 h2 => ?_⟩
 ·obtain ⟨p, q⟩ := s.own i b x h1 h2 h3
  exact ⟨Nat.lt_of_lt_of_le p hs, q⟩
 ·refine (s.blk i y x h1 h2).keep (ext_of_heap hh s.roLt σ) ?_
  rintro b rfl hl
  exact hh b (s.own i b x h1 h2 hl).1
theorem Evolve.grown (hh : ∀ b, b < w.heap.size → w'.heap[b]? = w.heap[b]?) (hs : w.heap.size ≤ w'.heap.size) (s : Sim fr ro σ H w) (ho : w'.os = w.os) (ht : w'.tape = w.tape) (hu : w'.output = w.output) (hd : w.drawn ≤ w'.drawn) : Evolve fr ro w ro w' :=
 ⟨fun _ q => q, fun b h => hh b (s.roLt b h), fun b h => hh b (s.frLt b h), hs, (ext_of_heap hh s.roLt σ).shape, ho, ht, hu, hd⟩
theorem grow_of (hh : ∀ b, b < w.heap.size → w'.heap[b]? = w.heap[b]?) (hs : w.heap.size ≤ w'.heap.size) (ho : w'.os = w.os) (ht : w'.tape = w.tape) (hu : w'.output = w.output) (hd : w.drawn ≤ w'.drawn) :
  ∃ q os', w' = grow (w.drewN q) os' := by
 refine ⟨w'.drawn - w.drawn, w'.heap.extract w.heap.size w'.heap.size, ?_⟩
 obtain ⟨h', t', d', o', u'⟩ := w'
 simp only at hh hs ho ht hu hd
 subst ho ht hu
 unfold grow World.drewN
 have e1 : h' = w.heap ++ h'.extract w.heap.size h'.size := by
  apply Array.ext_getElem?
  intro i
  rw [Array.getElem?_append]
  split
  ·rename_i hi; exact hh i hi
  ·rename_i hi
   rw [Array.getElem?_extract]
   split
   ·rename_i hj
    congr 1; omega
   ·rename_i hj
    rw [Array.getElem?_eq_none]; omega
 have e2 : d' = w.drawn + (d' - w.drawn) := by omega
 rw [← e1, ← e2]
end
end Go.Sw
