/- slices.Sort at ints: the contract over abstract states. -/
import Derived.Test.YtkjlhfabbbomjaaGreatDoorSwZ
import Derived.Shelf.Sort.Plain
import Derived.Shelf.Slices.In.SortNone
import Derived.Shelf.Slices.CompactI
set_option linter.unusedVariables false
set_option linter.unusedSectionVars false
set_option linter.unusedSimpArgs false
namespace Go.Sw
open Go.Sort Go.Proofs Go.Shelf
def ltI (x y : Int) : Bool := decide (x < y)
def sortI (l : List Int) : Option (List Int) := bif Nat.ble l.length lenMax then some (isort ltI l) else none
theorem sortI_ok {l l' : List Int} (h : sortI l = some l') : l.length ≤ lenMax ∧ isort ltI l = l' := by
 unfold sortI at h
 cases e : Nat.ble l.length lenMax with
 | false => rw [e] at h; simp at h
 | true => rw [e] at h; exact ⟨Nat.le_of_ble_eq_true e, Option.some.inj h⟩
theorem sortI_len {l l' : List Int} (h : sortI l = some l') : l.length = l'.length := by
 rw [← (sortI_ok h).2]; exact (isort_perm _ _).length_eq.symm
theorem ltI_swo (l : List Int) : SwoOn ltI l :=
 ⟨fun x _ => by simp [ltI], fun x _ y _ z _ a b => by simp [ltI] at *; omega, fun x _ y _ z _ a b => by simp [ltI] at *; omega⟩
theorem mergeSort_isort (l : List Int) : (l.mergeSort fun x y => decide (x ≤ y)) = isort ltI l := by
 refine sorted_one (lt := ltI) ?_ ?_ ?_ (isort_sorted (ltI_swo l))
 ·exact (List.mergeSort_perm _ _).trans (isort_perm _ _).symm
 ·intro x _ y _ a b; simp [ltI] at *; omega
 ·refine (List.pairwise_mergeSort (le := fun x y => decide (x ≤ y)) ?_ ?_ l).imp ?_
  ·intro a b c; simp; omega
  ·intro a b; simp; omega
  ·intro a b; simp [ltI]
theorem RL.ints {ro : Nat → Prop} {σ : Sig} {w : World} : ∀ {l : List Int} {lv : List Value}, RL ro σ w 1 (l.map fun x => [A.int .i64 x]) lv → ∃ rest, lv = l.map (Value.int .i64) ++ rest
 | [], lv, _ => ⟨lv, rfl⟩
 | x :: l, lv, h => by
  obtain ⟨l1, l2, rfl, h1, ⟨h2, h3⟩, h4⟩ := h
  obtain ⟨rest, rfl⟩ := RL.ints (l := l) h4
  obtain ⟨v, r, rfl, hv, hr⟩ := h2
  cases (show r = [] from hr)
  exact ⟨rest, by rw [show v = .int .i64 x from hv]; simp⟩
theorem RL.of_ints {ro : Nat → Prop} {σ : Sig} {w : World} : ∀ (l : List Int) (rest : List Value), RL ro σ w 1 (l.map fun x => [A.int .i64 x]) (l.map (Value.int .i64) ++ rest)
 | [], _ => trivial
 | x :: l, rest => ⟨[.int .i64 x], l.map (Value.int .i64) ++ rest, by simp, rfl, ⟨⟨_, _, rfl, rfl, rfl⟩, by simp [plainV]⟩, RL.of_ints l rest⟩
theorem C.sortI {P : Program} {ρ : Ren} (L : Lays.n189 P ρ) {t : Nat} {l l' : List Int} (hs : sortI l = some l') :
  C P (ρ.f 189) [.osl 0 0 l.length 1] [.row t 1 (l.map fun x => [A.int .i64 x])] (fun a H => a = .tup [] ∧ H = [.row t 1 (l'.map fun x => [A.int .i64 x])]) := by
 intro fr ro σ vals w s hv
 obtain ⟨vs, r1, rfl, hvs, hr⟩ := hv
 cases (show r1 = [] from hr)
 obtain ⟨hmax, hl'⟩ := sortI_ok hs
 have none_case : ∀ (ad : Option Addr) (c : Nat), vs = .slice ad 0 c → l = [] →
   Calls P (ρ.f 189) [vs].toArray w fun e w' => ∃ v r H' ro' τ, e = .returned v ∧ (r = .tup [] ∧ H' = [.row t 1 (l'.map fun x => [A.int .i64 x])]) ∧ Sim fr ro' (σ ++ τ) H' w' ∧ VR ro' (σ ++ τ) w' r v ∧ Evolve fr ro w ro' w' := by
  rintro ad c rfl rfl
  have hl0 : l' = [] := by rw [← hl']; rfl
  subst hl0
  refine (Any.slices_Sort_int_none L ad c w).mono ?_
  rintro e w' ⟨rfl, rfl⟩
  exact ⟨_, _, _, ro, [], rfl, ⟨rfl, rfl⟩, by simpa using s, ⟨[], rfl, rfl⟩, Evolve.refl _ _ _⟩
 rcases hvs with ⟨h0, rfl⟩ | ⟨b, p, cp, t', m, q1, rfl, q2, q3, q4, q5⟩
 ·exact none_case none 0 rfl (List.length_eq_zero_iff.1 h0)
 ·by_cases hl0 : l = []
  ·subst hl0
   exact none_case _ cp rfl rfl
  ·have hlp : 0 < l.length := List.length_pos_iff.2 hl0
   obtain rfl := q2 (Nat.lt_of_lt_of_le hlp q3)
   obtain ⟨lv, e1, e2⟩ := s.blk 0 _ _ q1 rfl
   obtain ⟨hb, hbro, hbfr⟩ := s.own 0 b _ q1 rfl rfl
   obtain ⟨rest, rfl⟩ := RL.ints e2
   have hH : Holds (Value.int .i64) w b 0 l.toArray := by
    intro j hj
    simp only [List.size_toArray] at hj
    constructor
    ·unfold World.cell?
     simp only [e1, Option.isSome_none, Bool.false_eq_true, if_false, Nat.zero_add]
     rw [toArr_get, List.getElem?_append_left (by simpa using hj)]
     simp [hj]
    ·unfold World.frozen?
     simp only [e1]
     simp
   have hcon := Any.slices_Sort_int L b 0 cp l w hH hb (by unfold lenMax at hmax; omega)
   rw [mergeSort_isort, hl'] at hcon
   simp only [Nat.zero_mul] at hcon ⊢
   refine hcon.mono ?_
   rintro e w' ⟨rfl, n, os, rfl⟩
   have hll : l.length = l'.length := sortI_len hs
   generalize hW : grow (putRow (Value.int .i64) (Sort.ahead w n) b 0 l'.toArray) os = W
   have hheap : W.heap = w.heap.setIfInBounds b (.cells ((l'.map (Value.int .i64) ++ rest)).toArray t (0, 0)) ++ os := by
    rw [← hW]
    show (w.heap.modify b _) ++ os = _
    rw [modify_eq e1]
    simp only [onCells]
    congr 3
    unfold putCells
    apply Array.ext_getElem?
    intro i
    simp only [Array.getElem?_mapIdx, toArr_get, Nat.zero_le, true_and, Nat.zero_add, Nat.sub_zero, List.size_toArray]
    by_cases hi : i < l'.length
    ·rw [List.getElem?_append_left (by simpa [hll] using hi), List.getElem?_append_left (by simpa using hi)]
     simp [hi, hll]
    ·rw [List.getElem?_append_right (by simp; omega), List.getElem?_append_right (by simp; omega)]
     simp only [List.length_map, hll]
     cases (rest[i - l'.length]?) with
     | none => rfl
     | some v => exact congrArg some (if_neg hi)
   have g1 : ∀ c, c < w.heap.size → c ≠ b → W.heap[c]? = w.heap[c]? := by
    intro c hc hcb
    rw [hheap, Array.getElem?_append_left (by simpa using hc), Array.getElem?_setIfInBounds, if_neg (fun q => hcb q.symm)]
   have g2 : W.heap[b]? = some (.cells ((l'.map (Value.int .i64) ++ rest)).toArray t (0, 0)) := by
    rw [hheap, Array.getElem?_append_left (by simpa using hb), Array.getElem?_setIfInBounds, if_pos rfl, if_pos hb]
   have g3 : w.heap.size ≤ W.heap.size := by rw [hheap]; simp
   have hshape : ∀ c y, w.shape? c = some y → W.shape? c = some y := by
    intro c y hy
    by_cases hc : c = b
    ·subst hc
     unfold World.shape? at hy ⊢
     rw [e1] at hy
     rw [g2]
     simp only [Option.some.injEq] at hy ⊢
     rw [← hy]
     simp [hll]
    ·unfold World.shape? at hy ⊢
     rw [g1 c (shape_lt hy) hc]; exact hy
   have hos : W.os = w.os := by rw [← hW]; rfl
   have htp : W.tape = w.tape := by rw [← hW]; rfl
   have hou : W.output = w.output := by rw [← hW]; rfl
   have hdr : w.drawn ≤ W.drawn := by rw [← hW]; exact Nat.le_add_right _ _
   have hev : Evolve fr ro w ro W :=
    ⟨fun _ q => q, fun c hc => g1 c (s.roLt c hc) (fun q => hbro (q ▸ hc)), fun c hc => g1 c (s.frLt c hc) (fun q => hbfr (q ▸ hc)), g3, hshape, hos, htp, hou, hdr⟩
   have hlen1 : σ.length = 1 := s.len
   have hsim : Sim fr ro σ [.row t 1 (l'.map fun x => [A.int .i64 x])] W := by
    have i0 : ∀ {i : Nat} {x : Blk}, ([.row t 1 (l'.map fun x => [A.int .i64 x])] : Heap)[i]? = some x → i = 0 ∧ x = .row t 1 (l'.map fun x => [A.int .i64 x]) := by
     intro i x h
     cases i with
     | zero => simp at h; exact ⟨rfl, h.symm⟩
     | succ i => simp at h
    refine ⟨hlen1, s.roOk.to (fun _ q => q) hev.keepRo (fun c hc => Nat.lt_of_lt_of_le (s.roLt c hc) g3), fun c hc => Nat.lt_of_lt_of_le (s.frLt c hc) g3, s.roFr, fun i c x h1 h2 h3 => ?_, fun i j c x y h1 h2 h3 h4 _ _ => ?_, fun i y x h1 h2 => ?_⟩
    ·obtain ⟨rfl, rfl⟩ := i0 h2
     obtain ⟨p1, p2⟩ := s.own 0 c _ h1 rfl rfl
     exact ⟨Nat.lt_of_lt_of_le p1 g3, p2⟩
    ·rw [(i0 h3).1, (i0 h4).1]
    ·obtain ⟨rfl, rfl⟩ := i0 h2
     rw [q1] at h1
     cases h1
     exact ⟨_, g2, RL.of_ints l' rest⟩
   exact ⟨_, _, _, ro, [], rfl, ⟨rfl, rfl⟩, by simpa using hsim, ⟨[], rfl, rfl⟩, hev⟩
section
variable {P : Program} {o : Oper} {env : Env} {H : Heap} {α : Type} {e : α → List A} {T et k b t : Nat} {x y : Operand}
end
end Go.Sw
