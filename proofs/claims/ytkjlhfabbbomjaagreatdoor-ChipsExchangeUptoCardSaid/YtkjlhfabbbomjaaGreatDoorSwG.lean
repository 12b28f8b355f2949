/- Slices over abstract states: append, literals, cuts. -/
import Derived.Test.YtkjlhfabbbomjaaGreatDoorSwF
set_option linter.unusedVariables false
set_option linter.unusedSectionVars false
set_option linter.unusedSimpArgs false
namespace Go.Sw
section
variable {P : Program} {o : Oper} {env : Env} {H : Heap} {fr ro : Nat → Prop} {σ : Sig} {w : World}
theorem Ext.heap {w' : World} (h : w'.heap = w.heap) : Ext ro σ w ro σ w' :=
 ⟨fun _ q => q, fun b _ => by rw [h], fun b x q => by unfold World.shape? at q ⊢; rw [h]; exact q, fun _ _ q => q⟩
theorem Sim.heap {w' : World} (s : Sim fr ro σ H w) (h : w'.heap = w.heap) : Sim fr ro σ H w' :=
 ⟨s.len, s.roOk.to (fun _ q => q) (fun b _ => by rw [h]) (fun b q => by rw [h]; exact s.roLt b q), fun b q => by rw [h]; exact s.frLt b q, s.roFr, fun i b x q1 q2 q3 => by rw [h]; exact s.own i b x q1 q2 q3, s.inj,
  fun i y x q1 q2 => (s.blk i y x q1 q2).keep (Ext.heap h) fun b _ _ => by rw [h]⟩
theorem Evolve.heap {w' : World} (h : w'.heap = w.heap) (ho : w'.os = w.os) (ht : w'.tape = w.tape) (hu : w'.output = w.output) (hd : w.drawn ≤ w'.drawn) : Evolve fr ro w ro w' :=
 ⟨fun _ q => q, fun b _ => by rw [h], fun b _ => by rw [h], by rw [h]; exact Nat.le_refl _, fun b x q => by unfold World.shape? at q ⊢; rw [h]; exact q, ho, ht, hu, hd⟩
theorem Sim.moved (s : Sim fr ro σ H w) {i : Nat} {x : Blk} {y : Option Nat} (hH : H[i]? = some x) (hσ : σ[i]? = some y) : Sim fr ro (σ ++ [y]) (H.set i .dead ++ [x]) w := by
 have hl := s.len
 have hi : i < H.length := (List.getElem?_eq_some_iff.1 hH).1
 have hcase : ∀ (j : Nat) (z : Option Nat) (v : Blk), (σ ++ [y])[j]? = some z → (H.set i .dead ++ [x])[j]? = some v → v ≠ .dead →
   (j < σ.length ∧ j ≠ i ∧ σ[j]? = some z ∧ H[j]? = some v) ∨ (j = σ.length ∧ z = y ∧ v = x) := by
  intro j z v h1 h2 h3
  rcases Nat.lt_trichotomy j σ.length with q | q | q
  ·rw [List.getElem?_append_left q] at h1
   rw [List.getElem?_append_left (by rw [List.length_set]; omega)] at h2
   by_cases e : j = i
   ·subst e; rw [List.getElem?_set_self hi] at h2; cases h2; exact absurd rfl h3
   ·rw [List.getElem?_set_ne (fun q => e q.symm)] at h2; exact .inl ⟨q, e, h1, h2⟩
  ·subst q
   have e1 : (σ ++ [y])[σ.length]? = some y := by simp
   have e2 : (H.set i .dead ++ [x])[σ.length]? = some x := by rw [hl, show H.length = (H.set i .dead).length from by simp]; simp
   rw [e1] at h1; rw [e2] at h2; cases h1; cases h2
   exact .inr ⟨rfl, rfl, rfl⟩
  ·rw [List.getElem?_eq_none (by simp; omega)] at h1; simp at h1
 have hσ' : ∀ (j : Nat) (b : Nat), σ[j]? = some (some b) → (σ ++ [y])[j]? = some (some b) := fun j b h => sig_append h
 have ext : Ext ro σ w ro (σ ++ [y]) w := ⟨fun _ q => q, fun _ _ => rfl, fun _ _ q => q, hσ'⟩
 refine ⟨by simp [hl], s.roOk, s.frLt, s.roFr, ?_, ?_, ?_⟩
 ·intro j b v h1 h2 h3
  rcases hcase j _ v h1 h2 (Blk.nd h3) with ⟨_, _, q1, q2⟩ | ⟨_, e1, rfl⟩
  ·exact s.own j b v q1 q2 h3
  ·subst e1; exact s.own i b v hσ hH h3
 ·intro j j' b v v' h1 h2 h3 h4 h5 h6
  rcases hcase j _ v h1 h3 (Blk.nd h5) with ⟨_, n1, q1, q2⟩ | ⟨r1, e1, r2⟩ <;> rcases hcase j' _ v' h2 h4 (Blk.nd h6) with ⟨_, n1', q1', q2'⟩ | ⟨r1', e1', r2'⟩
  ·exact s.inj j j' b v v' q1 q1' q2 q2' h5 h6
  ·subst e1' r2'; exact (n1 (s.inj j i b v v' q1 hσ q2 hH h5 h6)).elim
  ·subst e1 r2; exact (n1' (s.inj j' i b v' v q1' hσ q2' hH h6 h5)).elim
  ·rw [r1, r1']
 ·intro j z v h1 h2
  by_cases hv : v ≠ .dead
  ·rcases hcase j z v h1 h2 hv with ⟨_, _, q1, q2⟩ | ⟨_, rfl, rfl⟩
   ·exact (s.blk j z v q1 q2).keep ext fun _ _ _ => rfl
   ·exact (s.blk i _ _ hσ hH).keep ext fun _ _ _ => rfl
  ·obtain rfl : v = .dead := Classical.not_not.1 hv
   trivial
def Src (P : Program) (H : Heap) (x : A) (k : Nat) (es : List (List A)) : Prop :=
 ∀ fr ro σ w v, Sim fr ro σ H w → VR ro σ w x v → (∃ a c, v = .slice a es.length c) ∧ allK k es ∧
  ∃ l, (∀ w' : World, w'.heap = w.heap → (Builtin.firstCells k es.length v).run P w' = .ok l.toArray w') ∧ LR ro [] w es.flatten l ∧ ∀ v ∈ l, plainV v
theorem RR.flat {b k : Nat} : ∀ {es : List (List A)} {off : Nat}, RR ro σ w b k es off → CR ro σ w b es.flatten off ∧ allK k es ∧ es.flatten.length = es.length * k
 | [], off, _ => ⟨trivial, trivial, by simp⟩
 | c :: es, off, ⟨h1, h2, h3⟩ => by
  obtain ⟨q1, q2, q3⟩ := RR.flat h3
  refine ⟨?_, ⟨h1, q2⟩, by simp [q3, h1, Nat.succ_mul, Nat.add_comm]⟩
  rw [List.flatten_cons]
  have : ∀ (c : List A) (off : Nat) (d : List A), CR ro σ w b c off → CR ro σ w b d (off + c.length) → CR ro σ w b (c ++ d) off := by
   intro c
   induction c with
   | nil => intro off d _ h; simpa using h
   | cons x c ih => intro off d ⟨h1, h2⟩ h; exact ⟨h1, ih (off + 1) d h2 (by rw [Nat.add_assoc, Nat.add_comm 1]; simpa using h)⟩
  exact this c off _ h2 (by rw [h1]; exact q1)
theorem run_first {b off k n c : Nat} {cs : List A} (h : CR ro σ w b cs off) (hn : cs.length = n * k) :
  ∃ l, (∀ w' : World, w'.heap = w.heap → (Builtin.firstCells k n (.slice (some ⟨b, off, none⟩) n c)).run P w' = .ok l.toArray w') ∧ LR ro σ w cs l ∧ ∀ v ∈ l, plainV v := by
 obtain ⟨l, q1, q2, q3⟩ := run_loadCellsFrom (P := P) (cs := cs) (off := off) 0 (by simpa using h)
 refine ⟨l, fun w' hw => ?_, q1, q2⟩
 rw [hn] at q3
 simp only [Builtin.firstCells, loadCells]
 simpa using q3 w' #[] hw
theorem run_first0 {k c : Nat} {a : Option Addr} : (Builtin.firstCells k 0 (.slice a 0 c)).run P w = .ok #[] w := by
 cases a <;> simp [Builtin.firstCells, loadCells, loadCellsFrom, go_sem]
theorem Src.rsl {k : Nat} {es : List (List A)} : Src P H (.rsl k es) k es := by
 intro fr ro σ w v s ⟨a, c, h1, h2, h3⟩
 subst h1
 refine ⟨⟨a, c, rfl⟩, ?_⟩
 rcases h3 with rfl | ⟨b, off, rfl, h4, h5⟩
 ·exact ⟨trivial, [], fun _ _ => run_first0, rfl, by simp⟩
 ·obtain ⟨q1, q2, q3⟩ := h5.flat
  exact ⟨q2, run_first q1 q3⟩
theorem Src.nils {k : Nat} : Src P H .nils k [] := by
 intro fr ro σ w v s h
 simp only [VR] at h
 subst h
 exact ⟨⟨none, 0, rfl⟩, trivial, [], fun _ _ => run_first0, rfl, by simp⟩
theorem RR.drop {b k : Nat} : ∀ (n : Nat) {es : List (List A)} {off : Nat}, RR ro σ w b k es off → RR ro σ w b k (es.drop n) (off + n * k)
 | 0, _, _, h => by simpa using h
 | n + 1, [], _, _ => trivial
 | n + 1, c :: es, off, ⟨h1, h2, h3⟩ => by
  have := RR.drop n h3
  rw [show off + (n + 1) * k = off + k + n * k from by rw [Nat.succ_mul]; omega]; exact this
theorem RR.take {b k : Nat} : ∀ (n : Nat) {es : List (List A)} {off : Nat}, RR ro σ w b k es off → RR ro σ w b k (es.take n) off
 | 0, _, _, h => trivial
 | n + 1, [], _, _ => trivial
 | n + 1, c :: es, off, ⟨h1, h2, h3⟩ => ⟨h1, h2, RR.take n h3⟩
theorem Src.osl {i s n k t : Nat} {es es' : List (List A)} (hH : H[i]? = some (.row t k es)) (he : (es.drop s).take n = es') (hn : s + n ≤ es.length) : Src P H (.osl i s n k) k es' := by
 intro fr ro σ w v sm h
 have hl : es'.length = n := by rw [← he]; simp; omega
 rcases h with ⟨rfl, rfl⟩ | ⟨b, p, cap, t', m, h1, rfl, h2, h3, h4, h5⟩
 ·have e : es' = [] := List.length_eq_zero_iff.1 hl
  subst e
  exact ⟨⟨none, 0, rfl⟩, trivial, [], fun _ _ => run_first0, rfl, by simp⟩
 ·rw [hl]
  refine ⟨⟨_, cap, rfl⟩, ?_⟩
  obtain ⟨l, q1, q2⟩ := sm.blk i _ _ h1 hH
  have hr := ((RL.toRR (pre := []) (by simpa using q1) q2).drop s).take n
  rw [he] at hr
  by_cases hc : 0 < cap
  ·obtain rfl := h2 hc
   obtain ⟨q1, q2, q3⟩ := hr.flat
   refine ⟨q2, ?_⟩
   have := run_first (P := P) (n := n) (c := cap) q1 (by rw [q3, hl])
   simpa using this
  ·obtain rfl : n = 0 := by omega
   have e : es' = [] := List.length_eq_zero_iff.1 hl
   subst e
   exact ⟨trivial, [], fun _ _ => run_first0, rfl, by simp⟩
def lenMax : Nat := 4294967296
theorem nextslicecap_le (n c : Nat) (h : c < n) : Builtin.nextslicecap n c ≤ 4 * n + 1000 := by
 unfold Builtin.nextslicecap
 split
 ·omega
 ·split
  ·omega
  ·have key : ∀ (r c : Nat), c ≤ 2 * n + 400 → Builtin.growBy n r c ≤ 4 * n + 1000 := by
    intro r
    induction r with
    | zero => intro c hc; simp [Builtin.growBy]; omega
    | succ r ih =>
     intro c hc
     simp only [Builtin.growBy]
     split
     ·omega
     ·exact ih _ (by omega)
   exact key 4 c (by omega)
structure ElemTy (P : Program) (T e k : Nat) : Prop where
 sl : ∀ w, (underlying T).run P w = .ok (.slice e) w
 size : ∀ w, (sizeOf e).run P w = .ok k w
 zero : ∃ z, (∀ w, (zeroValue e).run P w = .ok z w) ∧ z.cells.size = k
 bytes : ∃ i, (∀ w, (typeInfo e).run P w = .ok i w) ∧ i.bytes ≤ 4096
theorem LR.toRow {T k : Nat} {es : List (List A)} {l rest : List Value} (s : Sim fr ro σ H w) (hk : allK k es) (h : LR ro [] w es.flatten l) (hp : ∀ v ∈ l, plainV v) :
  Sim fr ro (σ ++ [some w.heap.size]) (H ++ [.row T k es]) (w.alloc (.cells (l ++ rest).toArray T)) ∧ Evolve fr ro w ro (w.alloc (.cells (l ++ rest).toArray T)) :=
 ⟨s.allocRow hk h hp, Evolve.alloc _ s.roLt s.frLt⟩
theorem allK_length {k : Nat} : ∀ {es : List (List A)}, allK k es → es.flatten.length = es.length * k
 | [], _ => by simp
 | c :: es, ⟨h1, h2⟩ => by simp [allK_length h2, h1, Nat.succ_mul, Nat.add_comm]
theorem allK_append {k : Nat} : ∀ {es fs : List (List A)}, allK k es → allK k fs → allK k (es ++ fs)
 | [], _, _, h => h
 | c :: es, _, ⟨h1, h2⟩, h => ⟨h1, allK_append h2 h⟩
theorem allK_take {k : Nat} : ∀ {es : List (List A)} (n : Nat), allK k es → allK k (es.take n)
 | _, 0, _ => trivial
 | [], n + 1, _ => trivial
 | c :: es, n + 1, ⟨h1, h2⟩ => ⟨h1, allK_take n h2⟩
theorem RL.allK {k : Nat} : ∀ {es : List (List A)} {l : List Value}, RL ro σ w k es l → allK k es
 | [], _, _ => trivial
 | c :: es, l, ⟨l1, l2, h1, h2, h3, h4⟩ => ⟨h2, RL.allK h4⟩
theorem RL.app {k : Nat} : ∀ {n : Nat} {es fs : List (List A)} {l m : List Value}, RL ro σ w k es l → n ≤ es.length → Sw.allK k fs → LR ro σ w fs.flatten m → (∀ v ∈ m, plainV v) →
  RL ro σ w k (es.take n ++ fs) (Sw.splice l (n * k) m)
 | 0, es, fs, l, m, h, hn, hk, hm, hp => by
  simp only [List.take_zero, List.nil_append, Nat.zero_mul]
  unfold Sw.splice
  simp only [List.take_zero, List.nil_append]
  exact RL.of_flat hk hm hp
 | n + 1, [], fs, l, m, h, hn, hk, hm, hp => by simp at hn
 | n + 1, c :: es, fs, l, m, ⟨l1, l2, h1, h2, h3, h4⟩, hn, hk, hm, hp => by
  subst h1
  have hl1 := h3.1.length
  refine ⟨l1, Sw.splice l2 (n * k) m, ?_, h2, h3, RL.app h4 (by simpa using hn) hk hm hp⟩
  have e1 : (n + 1) * k = l1.length + n * k := by rw [Nat.succ_mul]; omega
  unfold Sw.splice
  rw [e1, List.take_length_add_append, show l1.length + n * k + m.length = l1.length + (n * k + m.length) from by omega, List.drop_length_add_append]
  simp
theorem run_grow {T T' e e' k need cap : Nat} {t : TypeId} (E : ElemTy P T e k) (hd : ∀ w, (underlying T').run P w = .ok (.slice e') w) {ad : Option Addr} {n m c : Nat} {ax : Option Addr}
  (hneed : need = n + m) (hcap : cap < need) (hmax : need ≤ lenMax) {old new : List Value}
  (hn : ∀ w' : World, w'.heap = w.heap → (Builtin.firstCells k m (.slice ax m c)).run P w' = .ok new.toArray w') (ho : ∀ w' : World, w'.heap = w.heap → (Builtin.firstCells k n (.slice ad n cap)).run P w' = .ok old.toArray w') :
  ∃ (rest : List Value) (nc : Nat), need ≤ nc ∧ rest.length = (nc - need) * k ∧ (Builtin.append_ #[T, T'] t #[.slice ad n cap, .slice ax m c]).run P w =
   .ok (.slice (some ⟨w.heap.size, 0, none⟩) need nc) (({ w with drawn := w.drawn + 1 } : World).alloc (.cells ((old ++ new) ++ rest).toArray e)) := by
 obtain ⟨z, hz, hzk⟩ := E.zero
 obtain ⟨i, hi, hb⟩ := E.bytes
 let nc := need + w.tape w.drawn (.appendCap need cap e) % (2 ^ 63 - need)
 refine ⟨(Builtin.zeroCells z.cells (nc - need)).toList, nc, Nat.le_add_right _ _, by simp [Builtin.zeroCells, hzk], ?_⟩
 have hcapn : ¬ (need ≤ cap) := by omega
 have h1 : ¬ ((need : Int) > IntKind.i64.max ∧ (False ∨ i.bytes = 0)) := by
  rintro ⟨q, _⟩
  have : IntKind.i64.max = 9223372036854775807 := by decide
  rw [this] at q; unfold lenMax at hmax; omega
 have h2 : ¬ (Builtin.nextslicecap need cap * i.bytes > 2 ^ 48) := by
  have := nextslicecap_le need cap hcap
  have h3 : Builtin.nextslicecap need cap * i.bytes ≤ (4 * need + 1000) * 4096 := Nat.mul_le_mul this hb
  unfold lenMax at hmax
  omega
 generalize hF : Builtin.firstCells = F at hn ho
 unfold Builtin.append_
 rw [hF]
 have hch : ∀ W : World, (choose (.appendCap need cap e)).run P W = .ok (need + W.tape W.drawn (.appendCap need cap e) % (2 ^ 63 - need)) { W with drawn := W.drawn + 1 } := by
  intro W; simp [choose, Sem.run, Question.forced, Question.cut]
 have har : ∀ (x : Nat) (W : World), (askRoom x).run P W = .ok () W := by
  intro x W; unfold askRoom; split <;> rfl
 have hnr : ∀ (c : Array Value) (W : World), (newRow e c).run P W = .ok ⟨W.heap.size, 0, none⟩ (W.alloc (.cells c e)) := fun c W => rfl
 subst hneed
 simp only [not_and, false_or] at h1
 have h3 : ¬ (((n + m : Nat) : Int) > IntKind.i64.max ∧ (False ∨ i.bytes = 0)) := by simpa using h1
 simp only [List.getElem?_toArray, List.getElem?_cons_zero, List.getElem?_cons_succ, Sem.run_bind, E.sl, E.size, hd, hi, hz, Result.andThen, Builtin.lenOf, Sem.run_pure, Bool.false_eq_true, if_false, Sem.run_ite,
  Bool.not_false, if_true, if_neg hcapn, if_neg h3, if_neg h2, hch, har]
 have e1 := ho { w with drawn := w.drawn + 1 } rfl
 have e2 := hn { w with drawn := w.drawn + 1 } rfl
 simp only [e1, e2, hnr]
 have e3 : old.toArray ++ new.toArray ++ Builtin.zeroCells z.cells (nc - (n + m)) = ((old ++ new) ++ (Builtin.zeroCells z.cells (nc - (n + m))).toList).toArray := by
  apply Array.toList_inj.1; simp
 rw [← e3]
theorem run_fits {T T' e e' k cap : Nat} {t : TypeId} (E : ElemTy P T e k) (hd : ∀ w, (underlying T').run P w = .ok (.slice e') w) {ad : Option Addr} {n m c : Nat} {ax : Option Addr}
  (hcap : n + m ≤ cap) {new : List Value} (hn : (Builtin.firstCells k m (.slice ax m c)).run P w = .ok new.toArray w) :
  (Builtin.append_ #[T, T'] t #[.slice ad n cap, .slice ax m c]).run P w =
   match ad with
   | some a => (do storeCells (a.add (n * k)) new; pure (Value.slice ad (n + m) cap) : Sem Value).run P w
   | none => .ok (.slice ad (n + m) cap) w := by
 generalize hF : Builtin.firstCells = F at hn
 unfold Builtin.append_
 rw [hF]
 simp only [List.getElem?_toArray, List.getElem?_cons_zero, List.getElem?_cons_succ, Sem.run_bind, E.sl, E.size, hd, Result.andThen, Builtin.lenOf, Sem.run_pure, Bool.false_eq_true, if_false, Sem.run_ite,
  Bool.not_false, if_true, if_pos hcap, hn]
 cases ad with
 | none => rfl
 | some a => simp only [Sem.run_bind, Result.andThen, Sem.run_pure]
theorem Sim.weaken (s : Sim fr ro σ H w) {i : Nat} {x x' : Blk} (hH : H[i]? = some x) (hl : x.live = true) (hbr : ∀ y, BR ro σ w x y → BR ro σ w x' y) : Sim fr ro σ (H.set i x') w := by
 have hi : i < H.length := (List.getElem?_eq_some_iff.1 hH).1
 have hHi : (H.set i x')[i]? = some x' := List.getElem?_set_self hi
 have hHj : ∀ j, j ≠ i → (H.set i x')[j]? = H[j]? := fun j hj => List.getElem?_set_ne (fun q => hj q.symm)
 have hcase : ∀ (j : Nat) (v : Blk), (H.set i x')[j]? = some v → (j = i ∧ v = x') ∨ (j ≠ i ∧ H[j]? = some v) := by
  intro j v h
  by_cases e : j = i
  ·subst e; rw [hHi] at h; cases h; exact .inl ⟨rfl, rfl⟩
  ·rw [hHj j e] at h; exact .inr ⟨e, h⟩
 have hx : ∀ (j : Nat) (v : Blk), (H.set i x')[j]? = some v → v.live = true → ∃ v', H[j]? = some v' ∧ v'.live = true := by
  intro j v h hv
  rcases hcase j v h with ⟨rfl, rfl⟩ | ⟨_, h⟩
  ·exact ⟨x, hH, hl⟩
  ·exact ⟨v, h, hv⟩
 refine ⟨by rw [List.length_set]; exact s.len, s.roOk, s.frLt, s.roFr, ?_, ?_, ?_⟩
 ·intro j b v h1 h2 h3
  obtain ⟨v', q1, q2⟩ := hx j v h2 h3
  exact s.own j b v' h1 q1 q2
 ·intro j j' b v v' h1 h2 h3 h4 h5 h6
  obtain ⟨u, q1, q2⟩ := hx j v h3 h5
  obtain ⟨u', q1', q2'⟩ := hx j' v' h4 h6
  exact s.inj j j' b u u' h1 h2 q1 q1' q2 q2'
 ·intro j y v h1 h2
  rcases hcase j v h2 with ⟨rfl, rfl⟩ | ⟨_, h⟩
  ·exact hbr y (s.blk j y x h1 hH)
  ·exact s.blk j y v h1 h
theorem RL.take {k : Nat} : ∀ (n : Nat) {es : List (List A)} {l : List Value}, RL ro σ w k es l → RL ro σ w k (es.take n) l
 | 0, _, _, _ => trivial
 | n + 1, [], _, _ => trivial
 | n + 1, c :: es, l, ⟨l1, l2, h1, h2, h3, h4⟩ => ⟨l1, l2, h1, h2, h3, RL.take n h4⟩
theorem exec_append {c : Call} {T T' : TypeId} {x y : Operand} (ho : o.op = .call c) (hc : c = { callee := .builtin .append, args := #[x, y], argTypes := #[T, T'] }) (ρ : Operand → Value) {v : Value} {w' : World}
  (h : (Builtin.append_ #[T, T'] o.type #[ρ x, ρ y]).run P w = .ok v w') : (execOp ρ o).run P w = .ok (.value v) w' := by
 subst hc
 simp only [execOp, ho, resolve, invoke, Go.builtin, Sem.run_bind, Sem.run_pure, Result.andThen]
 simp only [List.map_toArray, List.map_cons, List.map_nil, h]
theorem Sim.phantom (s : Sim fr ro σ H w) (t k : Nat) : Sim fr ro (σ ++ [none]) (H ++ [.row t k []]) w := by
 have hlen := s.len
 have hlt : ∀ (i b : Nat), (σ ++ [none])[i]? = some (some b) → i < σ.length := by
  intro i b g1
  rcases Nat.lt_or_ge i σ.length with q | q
  ·exact q
  ·rw [List.getElem?_append_right q] at g1
   cases hi : i - σ.length with
   | zero => rw [hi] at g1; simp at g1
   | succ j => rw [hi] at g1; simp at g1
 refine ⟨by simp [hlen], s.roOk, s.frLt, s.roFr, ?_, ?_, ?_⟩
 ·intro i b z g1 g2 g3
  have q := hlt i b g1
  rw [List.getElem?_append_left q] at g1
  rw [List.getElem?_append_left (by omega)] at g2
  exact s.own i b z g1 g2 g3
 ·intro i j b z z' g1 g2 g3 g4 g5 g6
  have p1 := hlt i b g1
  have p2 := hlt j b g2
  rw [List.getElem?_append_left p1] at g1
  rw [List.getElem?_append_left p2] at g2
  rw [List.getElem?_append_left (by omega)] at g3 g4
  exact s.inj i j b z z' g1 g2 g3 g4 g5 g6
 ·intro i y z g1 g2
  have ext : Ext ro σ w ro (σ ++ [none]) w := ⟨fun _ q => q, fun _ _ => rfl, fun _ _ q => q, fun _ _ h => sig_append h⟩
  rcases Nat.lt_trichotomy i σ.length with q | q | q
  ·rw [List.getElem?_append_left q] at g1
   rw [List.getElem?_append_left (by omega)] at g2
   exact (s.blk i y z g1 g2).keep ext fun _ _ _ => rfl
  ·subst q
   have e1 : (σ ++ [none])[σ.length]? = some none := by simp
   have e2 : (H ++ [Blk.row t k []])[σ.length]? = some (.row t k []) := by rw [hlen]; simp
   rw [e1] at g1; rw [e2] at g2; cases g1; cases g2; rfl
  ·rw [List.getElem?_eq_none (by simp; omega)] at g1; simp at g1
theorem Sim.kill (s : Sim fr ro σ H w) (i : Nat) : Sim fr ro σ (H.set i .dead) w := by
 have hcase : ∀ (j : Nat) (v : Blk), (H.set i .dead)[j]? = some v → v ≠ .dead → H[j]? = some v := by
  intro j v h hv
  by_cases e : j = i
  ·subst e
   rw [List.getElem?_set] at h
   simp only [if_true] at h
   split at h
   ·cases h; exact absurd rfl hv
   ·simp at h
  ·rw [List.getElem?_set_ne (fun q => e q.symm)] at h; exact h
 refine ⟨by rw [List.length_set]; exact s.len, s.roOk, s.frLt, s.roFr, ?_, ?_, ?_⟩
 ·intro j b v h1 h2 h3; exact s.own j b v h1 (hcase j v h2 (Blk.nd h3)) h3
 ·intro j j' b v v' h1 h2 h3 h4 h5 h6; exact s.inj j j' b v v' h1 h2 (hcase j v h3 (Blk.nd h5)) (hcase j' v' h4 (Blk.nd h6)) h5 h6
 ·intro j y v h1 h2
  by_cases hv : v ≠ .dead
  ·exact s.blk j y v h1 (hcase j v h2 hv)
  ·obtain rfl : v = .dead := Classical.not_not.1 hv
   trivial
theorem grown {c : Call} {T T' e e' k n m cap cx : Nat} {x y : Operand} {es fs : List (List A)} {a : Act} {ad ax : Option Addr} {old new : List Value} (E : ElemTy P T e k) (hd : ∀ w, (underlying T').run P w = .ok (.slice e') w) (ho : o.op = .call c)
  (hc : c = { callee := .builtin .append, args := #[x, y], argTypes := #[T, T'] }) (h1 : a.eval x = .slice ad n cap) (h2 : a.eval y = .slice ax m cx) (s : Sim fr ro σ H w) (hcap : cap < n + m) (hmax : n + m ≤ lenMax)
  (hold : ∀ w' : World, w'.heap = w.heap → (Builtin.firstCells k n (.slice ad n cap)).run P w' = .ok old.toArray w') (hnew : ∀ w' : World, w'.heap = w.heap → (Builtin.firstCells k m (.slice ax m cx)).run P w' = .ok new.toArray w')
  (ho1 : LR ro [] w es.flatten old) (ho2 : ∀ v ∈ old, plainV v) (ho3 : allK k es) (hn1 : LR ro [] w fs.flatten new) (hn2 : ∀ v ∈ new, plainV v) (hn3 : allK k fs) (hes : es.length = n) (hfs : fs.length = m) :
  ∃ v w' ro' τ, (execOp a.eval o).run P w = .ok (.value v) w' ∧ VR ro' (σ ++ τ) w' (.osl H.length 0 (n + m) k) v ∧ Sim fr ro' (σ ++ τ) (H ++ [.row e k (es ++ fs)]) w' ∧ Evolve fr ro w ro' w' := by
 obtain ⟨rest, nc, hnc, hrl, hrun⟩ := run_grow (t := o.type) E hd rfl hcap hmax hnew hold
 let w0 : World := { w with drawn := w.drawn + 1 }
 have s0 : Sim fr ro σ H w0 := s.heap rfl
 have e0 : Evolve fr ro w ro w0 := Evolve.heap rfl rfl rfl rfl (Nat.le_succ _)
 have hfl : LR ro [] w0 (es ++ fs).flatten (old ++ new) := by
  rw [List.flatten_append]
  exact (ho1.append hn1).mono (Ext.heap (w := w) (w' := w0) rfl)
 obtain ⟨s1, e1⟩ := LR.toRow (T := e) (rest := rest) s0 (allK_append ho3 hn3) hfl (fun v hv => by rcases List.mem_append.1 hv with q | q; exact ho2 v q; exact hn2 v q)
 have hexec : (execOp a.eval o).run P w = .ok (.value _) _ := exec_append ho hc a.eval (by rw [h1, h2]; exact hrun)
 refine ⟨_, _, ro, [some w.heap.size], hexec, .inr ⟨w.heap.size, 0, nc, e, (old ++ new ++ rest).length, ?_, rfl, fun _ => by simp, hnc, ?_, ?_⟩, s1, e0.trans e1⟩
 ·rw [← s.len]; simp
 ·have := alloc_new w0 (.cells ((old ++ new) ++ rest).toArray e)
  unfold World.shape?
  rw [show w.heap.size = w0.heap.size from rfl, this]; simp
 ·have q1 := ho1.length
  have q2 := hn1.length
  rw [allK_length ho3] at q1
  rw [allK_length hn3] at q2
  simp only [List.length_append, hrl, q1, q2, hes, hfs, Nat.zero_add]
  rw [← Nat.add_mul, ← Nat.add_mul]
  exact Nat.mul_le_mul_right k (by omega)
theorem OpH.appendNil {c : Call} {T T' e e' k : Nat} {x y : Operand} {ya : A} {fs : List (List A)} (E : ElemTy P T e k) (hd : ∀ w, (underlying T').run P w = .ok (.slice e') w) (ho : o.op = .call c)
  (hc : c = { callee := .builtin .append, args := #[x, y], argTypes := #[T, T'] }) (hx : opA env x = .nils) (hy : opA env y = ya) (hs : Src P H ya k fs) (hmax : fs.length ≤ lenMax) :
  OpH P o env H (.osl H.length 0 fs.length k) (H ++ [.row e k fs]) := by
 intro fr ro σ N a w r
 have h1 := opA_ok r x
 rw [hx] at h1
 simp only [VR] at h1
 have h2 := opA_ok r y
 rw [hy] at h2
 obtain ⟨⟨ay, cy, e1⟩, q2, l, q3, q4, q5⟩ := hs fr ro σ w _ r.sim h2
 rw [e1] at q3
 by_cases hm : fs.length = 0
 ·have efs : fs = [] := List.length_eq_zero_iff.1 hm
  subst efs
  refine ⟨.slice none 0 0, w, ro, [none], ?_, .inl ⟨rfl, rfl⟩, r.sim.phantom e k, Evolve.refl _ _ _⟩
  refine exec_append ho hc _ ?_
  rw [h1, e1]
  have := run_fits (t := o.type) E hd (ad := none) (n := 0) (m := 0) (cap := 0) (c := cy) (ax := ay) (Nat.le_refl 0) (q3 w rfl)
  simpa using this
 ·have := grown (es := []) (old := []) E hd ho hc h1 e1 r.sim (by omega) (by omega) (fun _ _ => run_first0) q3 rfl (by simp) trivial q4 q5 q2 rfl rfl
  simpa using this
theorem OpH.appendO {c : Call} {T T' e e' k i n : Nat} {x y : Operand} {ya : A} {es fs gs : List (List A)} (E : ElemTy P T e k) (hd : ∀ w, (underlying T').run P w = .ok (.slice e') w) (ho : o.op = .call c)
  (hc : c = { callee := .builtin .append, args := #[x, y], argTypes := #[T, T'] }) (hx : opA env x = .osl i 0 n k) (hH : H[i]? = some (.row e k es)) (hn : n ≤ es.length) (hy : opA env y = ya) (hs : Src P H ya k fs) (hmax : n + fs.length ≤ lenMax)
  (hg : es.take n ++ fs = gs) : OpH P o env H (.osl H.length 0 (n + fs.length) k) (H.set i .dead ++ [.row e k gs]) := by
 intro fr ro σ N a w r
 subst hg
 have h1 := opA_ok r x
 rw [hx] at h1
 have h2 := opA_ok r y
 rw [hy] at h2
 obtain ⟨⟨ay, cy, e1⟩, q2, l, q3, q4, q5⟩ := hs fr ro σ w _ r.sim h2
 rw [e1] at q3
 have hlt : i < H.length := (List.getElem?_eq_some_iff.1 hH).1
 have hkl : (H.set i .dead).length = H.length := List.length_set
 obtain ⟨s, hσ⟩ : ∃ s, σ[i]? = some s := ⟨_, List.getElem?_eq_getElem (by rw [r.sim.len]; exact hlt)⟩
 rcases h1 with ⟨rfl, h1⟩ | ⟨b, p, cap, t', mm, h3, h1, h4, h5, h6, h7⟩
 ·
  by_cases hm : fs.length = 0
  ·have efs : fs = [] := List.length_eq_zero_iff.1 hm
   subst efs
   refine ⟨.slice none 0 0, w, ro, [none], ?_, .inl ⟨rfl, rfl⟩, (r.sim.kill i).phantom e k, Evolve.refl _ _ _⟩
   refine exec_append ho hc _ ?_
   rw [h1, e1]
   have := run_fits (t := o.type) E hd (ad := none) (n := 0) (m := 0) (cap := 0) (c := cy) (ax := ay) (Nat.le_refl 0) (q3 w rfl)
   simpa using this
  ·have := grown (es := []) (old := []) E hd ho hc h1 e1 (r.sim.kill i) (by omega) hmax (fun _ _ => run_first0) q3 rfl (by simp) trivial q4 q5 q2 rfl rfl
   rw [hkl] at this
   simpa using this
 ·have hblk := r.sim.blk i _ _ h3 hH
  obtain ⟨lb, g1, g2⟩ := hblk
  have htk : (es.take n).length = n := by simp; omega
  obtain ⟨old, o1, o2, o3⟩ : ∃ old : List Value, (∀ w' : World, w'.heap = w.heap → (Builtin.firstCells k n (.slice (some ⟨b, p, none⟩) n cap)).run P w' = .ok old.toArray w') ∧ LR ro [] w (es.take n).flatten old ∧ ∀ v ∈ old, plainV v := by
   have hsrc : Src P H (.osl i 0 n k) k (es.take n) := Src.osl hH (by simp) (by omega)
   obtain ⟨_, _, l', z1, z2, z3⟩ := hsrc fr ro σ w (.slice (some ⟨b, p, none⟩) n cap) r.sim (.inr ⟨b, p, cap, t', mm, h3, rfl, h4, h5, h6, h7⟩)
   rw [htk] at z1
   exact ⟨l', z1, z2, z3⟩
  by_cases hcap : n + fs.length ≤ cap
  ·have hrun := run_fits (t := o.type) E hd (ad := some ⟨b, p, none⟩) (n := n) (m := fs.length) (cap := cap) (c := cy) (ax := ay) hcap (q3 w rfl)
   have hll : l.length = fs.length * k := by rw [q4.length, allK_length q2]
   by_cases hm : fs.length = 0
   ·have efs : fs = [] := List.length_eq_zero_iff.1 hm
    subst efs
    have el : l = [] := List.length_eq_zero_iff.1 (by rw [hll]; simp)
    subst el
    have sw := (r.sim.weaken (x' := .row e k (es.take n)) hH rfl (by
     intro y hy
     cases y with
     | none => simp only [BR] at hy ⊢; subst hy; simp
     | some y => obtain ⟨lb, g1, g2⟩ := hy; exact ⟨lb, g1, g2.take n⟩))
    have sm := sw.moved (i := i) (List.getElem?_set_self hlt) h3
    rw [List.set_set] at sm
    refine ⟨.slice (some ⟨b, p, none⟩) n cap, w, ro, [some b], ?_, .inr ⟨b, p, cap, t', mm, ?_, by simp, h4, by simpa using h5, h6, h7⟩, by simpa using sm, Evolve.refl _ _ _⟩
    ·refine exec_append ho hc _ ?_
     rw [h1, e1]
     simpa [storeCells, go_sem] using hrun
    ·rw [← r.sim.len]; simp
   ·obtain rfl : p = 0 * k := h4 (by omega)
    have hsz : (n + fs.length) * k ≤ lb.length := by
     have : w.shape? b = some (e, lb.length) := by unfold World.shape?; rw [g1]; simp
     rw [this] at h6
     cases h6
     exact Nat.le_trans (Nat.mul_le_mul_right k hcap) (by simpa using h7)
    rw [Nat.add_mul] at hsz
    have hst := run_storeCells (P := P) (vs := l) (n * k) 0 g1 (by rw [hll]; simpa using hsz) q5
    have hset := r.sim.set (x' := .row e k (es.take n ++ fs)) (obj := .cells (splice lb (n * k) l).toArray e (0, 0)) h3 hH rfl
     (fun y hy => shape_set g1 (splice_length (by rw [hll]; exact hsz)) y hy)
     (fun ex hex => ⟨_, hex, (g2.app hn q2 q4 q5).mono ex.nil⟩)
    have sm := hset.1.moved (i := i) (List.getElem?_set_self hlt) h3
    rw [List.set_set] at sm
    refine ⟨.slice (some ⟨b, 0 * k, none⟩) (n + fs.length) cap, _, ro, [some b], ?_, .inr ⟨b, 0 * k, cap, t', mm, ?_, rfl, h4, hcap, ?_, h7⟩, sm, hset.2⟩
    ·refine exec_append ho hc _ ?_
     rw [h1, e1, hrun]
     simp only [addr_add, Nat.zero_mul, Nat.zero_add, Sem.run_bind, hst, Result.andThen, Sem.run_pure]
     simp
    ·rw [← r.sim.len]; simp
    ·exact hset.2.shape _ _ h6
  ·have := grown (es := es.take n) (old := old) (fs := fs) E hd ho hc h1 e1 (r.sim.kill i) (by omega) hmax o1 q3 o2 o3 (allK_take n g2.allK) q4 q5 q2 htk rfl
   rw [hkl] at this
   exact this
end
end Go.Sw
