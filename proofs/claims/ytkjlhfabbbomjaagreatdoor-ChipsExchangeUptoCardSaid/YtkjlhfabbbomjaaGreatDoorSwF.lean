/- The single operations over abstract states: those that make blocks or write into blocks of the call's own. -/
import Derived.Test.YtkjlhfabbbomjaaGreatDoorSwE
import Derived.Laws.World
set_option linter.unusedVariables false
set_option linter.unusedSectionVars false
set_option linter.unusedSimpArgs false
namespace Go.Sw
mutual
def dataA : A → Bool
 | .ptr _ _ => false
 | .osl _ _ _ _ => false
 | .map _ => false
 | .agg cs => dataL cs
 | .fn _ a c => dataL a && dataL c
 | .iface _ v => dataA v
 | .tup vs => dataL vs
 | _ => true
def dataL : List A → Bool
 | [] => true
 | a :: r => dataA a && dataL r
end
mutual
theorem VR.data {ro : Nat → Prop} {σ σ' : Sig} {w : World} : ∀ {a : A} {v : Value}, dataA a = true → VR ro σ w a v → VR ro σ' w a v
 | .any, _, _, _ => trivial
 | .bool b, v, _, q => q
 | .int k n, v, _, q => q
 | .str s, v, _, q => q
 | .nilp, v, _, q => q
 | .ptr i off, v, d, q => by simp [dataA] at d
 | .rp cs, v, _, q => q
 | .nils, v, _, q => q
 | .rsl k es, v, _, q => q
 | .osl i o n k, v, d, q => by simp [dataA] at d
 | .agg cs, v, d, q => by
  simp only [VR, dataA] at q d ⊢
  obtain ⟨l, h1, h2⟩ := q
  exact ⟨l, h1, LR.data d h2⟩
 | .fn f a c, v, d, q => by
  simp only [VR, dataA, Bool.and_eq_true] at q d ⊢
  obtain ⟨l, l', h1, h2, h3⟩ := q
  exact ⟨l, l', h1, LR.data d.1 h2, LR.data d.2 h3⟩
 | .nilf, v, _, q => q
 | .iface t a, v, d, q => by
  simp only [VR, dataA] at q d ⊢
  obtain ⟨x, h1, h2⟩ := q
  exact ⟨x, h1, VR.data d h2⟩
 | .nilif, v, _, q => q
 | .map i, v, d, q => by simp [dataA] at d
 | .nilm, v, _, q => q
 | .tup vs, v, d, q => by
  simp only [VR, dataA] at q d ⊢
  obtain ⟨l, h1, h2⟩ := q
  exact ⟨l, h1, LR.data d h2⟩
theorem LR.data {ro : Nat → Prop} {σ σ' : Sig} {w : World} : ∀ {as : List A} {l : List Value}, dataL as = true → LR ro σ w as l → LR ro σ' w as l
 | [], _, _, q => q
 | a :: r, l, d, q => by
  simp only [LR, dataL, Bool.and_eq_true] at q d ⊢
  obtain ⟨v, l', h1, h2, h3⟩ := q
  exact ⟨v, l', h1, VR.data d.1 h2, LR.data d.2 h3⟩
end
def plainA : A → Bool
 | .any | .agg _ | .tup _ => false
 | _ => true
def cellsA : A → List A
 | .agg cs => cs
 | a => [a]
def knownA : A → Bool
 | .any => false
 | _ => true
theorem VR.plain {ro : Nat → Prop} {σ : Sig} {w : World} {a : A} {v : Value} (hp : plainA a = true) (h : VR ro σ w a v) : plainV v := by
 cases a <;> first | (simp [plainA] at hp; done) | skip
 case rsl k es => obtain ⟨ad, c, rfl, _⟩ := h; trivial
 case osl => rcases h with ⟨_, rfl⟩ | ⟨_, _, _, _, _, _, rfl, _⟩ <;> trivial
 case fn => obtain ⟨_, _, rfl, _⟩ := h; trivial
 case iface => obtain ⟨_, rfl, _⟩ := h; trivial
 case ptr => obtain ⟨_, _, rfl⟩ := h; trivial
 case rp => obtain ⟨_, _, rfl, _⟩ := h; trivial
 case map => obtain ⟨_, _, rfl⟩ := h; trivial
 all_goals (simp only [VR] at h; subst h; trivial)
theorem VR.cells {ro : Nat → Prop} {σ : Sig} {w : World} {a : A} {v : Value} (hp : knownA a = true) (h : VR ro σ w a v) : ∃ l : List Value, v.cells = l.toArray ∧ LR ro σ w (cellsA a) l := by
 cases a
 case any => simp [knownA] at hp
 case agg cs => obtain ⟨l, rfl, h⟩ := h; exact ⟨l, rfl, h⟩
 case tup cs => obtain ⟨l, rfl, h⟩ := h; exact ⟨[.tuple l.toArray], rfl, _, _, rfl, ⟨l, rfl, h⟩, rfl⟩
 all_goals
  have hv := h.plain rfl
  refine ⟨[v], ?_, v, [], rfl, h, rfl⟩
  cases v <;> first | rfl | exact hv.elim
theorem LR.plain {ro : Nat → Prop} {σ : Sig} {w : World} : ∀ {as : List A} {l : List Value}, as.all plainA = true → LR ro σ w as l → ∀ v ∈ l, plainV v
 | [], l, _, h => by cases (show l = [] from h); simp
 | a :: as, l, hp, ⟨v, l', h1, h2, h3⟩ => by
  subst h1
  simp only [List.all_cons, Bool.and_eq_true] at hp
  intro x hx
  rcases List.mem_cons.1 hx with rfl | hx
  ·exact h2.plain hp.1
  ·exact LR.plain hp.2 h3 x hx
theorem alloc_heap (w : World) (obj : Obj) (b : Nat) (hb : b < w.heap.size) : (w.alloc obj).heap[b]? = w.heap[b]? := by
 show (w.heap.push obj)[b]? = _
 rw [Array.getElem?_push, if_neg (by omega)]
theorem alloc_new (w : World) (obj : Obj) : (w.alloc obj).heap[w.heap.size]? = some obj := by
 show (w.heap.push obj)[w.heap.size]? = _
 simp
theorem alloc_size (w : World) (obj : Obj) : (w.alloc obj).heap.size = w.heap.size + 1 := by
 show (w.heap.push obj).size = _
 simp
theorem shape_lt {w : World} {b : Nat} {x : TypeId × Nat} (h : w.shape? b = some x) : b < w.heap.size := by
 unfold World.shape? at h
 rcases Nat.lt_or_ge b w.heap.size with q | q
 ·exact q
 ·rw [Array.getElem?_eq_none q] at h; simp at h
theorem Evolve.alloc {fr ro : Nat → Prop} {w : World} (obj : Obj) (hro : ∀ b, ro b → b < w.heap.size) (hfr : ∀ b, fr b → b < w.heap.size) : Evolve fr ro w ro (w.alloc obj) :=
 ⟨fun _ h => h, fun b h => alloc_heap w obj b (hro b h), fun b h => alloc_heap w obj b (hfr b h), by rw [alloc_size]; omega,
  fun b x h => by unfold World.shape? at h ⊢; rw [alloc_heap w obj b (shape_lt h)]; exact h, rfl, rfl, rfl, Nat.le_refl _⟩
section
variable {P : Program} {o : Oper} {env : Env} {H : Heap} {fr ro : Nat → Prop} {σ : Sig} {w : World}
theorem Sim.alloc (s : Sim fr ro σ H w) {obj : Obj} {x : Blk} (hb : BR ro (σ ++ [some w.heap.size]) (w.alloc obj) x (some w.heap.size)) :
  Sim fr ro (σ ++ [some w.heap.size]) (H ++ [x]) (w.alloc obj) := by
 have ev : Evolve fr ro w ro (w.alloc obj) := Evolve.alloc obj s.roLt s.frLt
 have hl := s.len
 have hcase : ∀ (i : Nat) (y : Option Nat), (σ ++ [some w.heap.size])[i]? = some y → (i < σ.length ∧ σ[i]? = some y) ∨ (i = σ.length ∧ y = some w.heap.size) := by
  intro i y h
  rcases Nat.lt_trichotomy i σ.length with q | q | q
  ·rw [List.getElem?_append_left q] at h; exact .inl ⟨q, h⟩
  ·subst q; simp at h; exact .inr ⟨rfl, h.symm⟩
  ·rw [List.getElem?_eq_none (by simp; omega)] at h; simp at h
 have hH : ∀ i : Nat, i < σ.length → (H ++ [x])[i]? = H[i]? := fun i hi => List.getElem?_append_left (by omega)
 have hx : (H ++ [x])[σ.length]? = some x := by rw [hl]; simp
 refine ⟨by simp [hl], s.roOk.to (fun _ q => q) ev.keepRo (fun b h => ?_), fun b h => ?_, s.roFr, ?_, ?_, ?_⟩
 ·rw [alloc_size]; have := s.roLt b h; omega
 ·rw [alloc_size]; have := s.frLt b h; omega
 ·intro i b y h1 h2 h3
  rw [alloc_size]
  rcases hcase i _ h1 with ⟨q, h1⟩ | ⟨rfl, e1⟩
  ·rw [hH i q] at h2
   obtain ⟨a, b, c⟩ := s.own i b y h1 h2 h3
   exact ⟨by omega, b, c⟩
  ·cases e1
   exact ⟨by omega, fun q => by have := s.roLt _ q; omega, fun q => by have := s.frLt _ q; omega⟩
 ·intro i j b y z h1 h2 h3 h4 h5 h6
  rcases hcase i _ h1 with ⟨q, h1⟩ | ⟨rfl, e1⟩ <;> rcases hcase j _ h2 with ⟨q', h2⟩ | ⟨rfl, e2⟩
  ·rw [hH i q] at h3
   rw [hH j q'] at h4
   exact s.inj i j b y z h1 h2 h3 h4 h5 h6
  ·cases e2
   rw [hH i q] at h3
   have := (s.own i _ y h1 h3 h5).1
   omega
  ·cases e1
   rw [hH j q'] at h4
   have := (s.own j _ z h2 h4 h6).1
   omega
  ·rfl
 ·intro i y z h1 h2
  rcases hcase i _ h1 with ⟨q, h1⟩ | ⟨rfl, e1⟩
  ·rw [hH i q] at h2
   refine (s.blk i y z h1 h2).keep (ev.ext σ _) ?_
   rintro b rfl hl
   exact alloc_heap w obj b (s.own i b z h1 h2 hl).1
  ·rw [hx] at h2; cases h2; subst e1; exact hb
theorem Sim.allocCells (s : Sim fr ro σ H w) {t : Nat} {cs : List A} {l : List Value} (h : LR ro σ w cs l) (hp : ∀ v ∈ l, plainV v) :
  Sim fr ro (σ ++ [some w.heap.size]) (H ++ [.cells t cs]) (w.alloc (.cells l.toArray t)) :=
 s.alloc ⟨l, alloc_new _ _, h.mono ((Evolve.alloc (fr := fr) _ s.roLt s.frLt).ext σ _), hp⟩
theorem LR.split {ro : Nat → Prop} {σ : Sig} {w : World} : ∀ {as bs : List A} {l : List Value}, LR ro σ w (as ++ bs) l → ∃ l1 l2, l = l1 ++ l2 ∧ LR ro σ w as l1 ∧ LR ro σ w bs l2
 | [], bs, l, h => ⟨[], l, rfl, rfl, h⟩
 | a :: as, bs, l, ⟨v, l', h1, h2, h3⟩ => by
  obtain ⟨l1, l2, e, q1, q2⟩ := LR.split h3
  subst h1 e
  exact ⟨v :: l1, l2, rfl, ⟨v, l1, rfl, h2, q1⟩, q2⟩
def allK (k : Nat) : List (List A) → Prop
 | [] => True
 | c :: es => c.length = k ∧ allK k es
theorem RL.of_flat {k : Nat} : ∀ {es : List (List A)} {l rest : List Value}, allK k es → LR ro σ w es.flatten l → (∀ v ∈ l, plainV v) → RL ro σ w k es (l ++ rest)
 | [], _, _, _, _, _ => trivial
 | c :: es, l, rest, ⟨h1, h2⟩, h, hp => by
  rw [List.flatten_cons] at h
  obtain ⟨l1, l2, rfl, q1, q2⟩ := LR.split h
  exact ⟨l1, l2 ++ rest, by simp, h1, ⟨q1, fun v hv => hp v (by simp [hv])⟩, RL.of_flat h2 q2 (fun v hv => hp v (by simp [hv]))⟩
theorem Sim.allocRow (s : Sim fr ro σ H w) {t k : Nat} {es : List (List A)} {l rest : List Value} (hk : allK k es) (h : LR ro [] w es.flatten l) (hp : ∀ v ∈ l, plainV v) :
  Sim fr ro (σ ++ [some w.heap.size]) (H ++ [.row t k es]) (w.alloc (.cells (l ++ rest).toArray t)) :=
 s.alloc ⟨l ++ rest, alloc_new _ _, (RL.of_flat hk h hp).mono ((Evolve.alloc (fr := fr) _ s.roLt s.frLt).ext0 [])⟩
theorem Sim.allocRowr (s : Sim fr ro σ H w) {t k : Nat} {es : List (List A)} {l rest : List Value} (hk : allK k es) (h : LR ro σ w es.flatten l) (hp : ∀ v ∈ l, plainV v) :
  Sim fr ro (σ ++ [some w.heap.size]) (H ++ [.rowr t k es]) (w.alloc (.cells (l ++ rest).toArray t)) :=
 s.alloc ⟨l ++ rest, alloc_new _ _, (RL.of_flat hk h hp).mono ((Evolve.alloc (fr := fr) _ s.roLt s.frLt).ext σ _)⟩
theorem OpH.box {t : Nat} {x : Operand} {v : A} {cs : List A} (ho : o.op = .box t x) (hx : opA env x = v) (hk : knownA v = true) (hcs : cellsA v = cs) (hpl : cs.all plainA = true) :
  OpH P o env H (.ptr H.length 0) (H ++ [.cells t cs]) := by
 intro fr ro σ N a w r
 have h1 := opA_ok r x
 rw [hx] at h1
 obtain ⟨l, h2, h3⟩ := h1.cells hk
 subst hcs
 refine ⟨.pointer (some ⟨w.heap.size, 0, none⟩), w.alloc (.cells l.toArray t), ro, [some w.heap.size], ?_, ⟨w.heap.size, ?_, rfl⟩, r.sim.allocCells h3 (h3.plain hpl), Evolve.alloc _ r.sim.roLt r.sim.frLt⟩
 ·generalize a.eval = ρ at *
  have e : (newVar t (ρ x)).run P w = .ok ⟨w.heap.size, 0, none⟩ (w.alloc (.cells l.toArray t)) := by
   unfold newVar; rw [h2]; rfl
  simp only [execOp, ho, Instr.box, Sem.run_bind, e]
  rfl
 ·rw [← r.sim.len]; simp
theorem OpH.alloc {t : Nat} {z : Value} {v : A} {cs : List A} (ho : o.op = .alloc t) (hz : ∀ w, (zeroValue t).run P w = .ok z w) (hv : opA [] (.const z) = v ∨ ∃ l : List Value, z = .agg l.toArray ∧ l.map (fun x => opA [] (.const x)) = cellsA v ∧ ∃ c, v = .agg c) (hk : knownA v = true) (hcs : cellsA v = cs) (hpl : cs.all plainA = true) :
  OpH P o env H (.ptr H.length 0) (H ++ [.cells t cs]) := by
 intro fr ro σ N a w r
 have hz' : VR ro σ w v z := by
  rcases hv with rfl | ⟨l, rfl, h, c, rfl⟩
  ·exact opA_ok (env := []) (a := { a with }) (N := N) (H := H) ⟨r.sim, fun s => trivial, r.size, r.defers⟩ (.const z)
  ·refine ⟨l, rfl, ?_⟩
   have : ∀ l : List Value, LR ro σ w (l.map fun x => opA [] (.const x)) l := by
    intro l
    induction l with
    | nil => rfl
    | cons y l ih => exact ⟨y, l, rfl, opA_ok (env := []) (a := { a with }) (N := N) (H := H) ⟨r.sim, fun s => trivial, r.size, r.defers⟩ (.const y), ih⟩
   have := this l
   rw [h] at this; exact this
 obtain ⟨l, h2, h3⟩ := hz'.cells hk
 subst hcs
 refine ⟨.pointer (some ⟨w.heap.size, 0, none⟩), w.alloc (.cells l.toArray t), ro, [some w.heap.size], ?_, ⟨w.heap.size, ?_, rfl⟩, r.sim.allocCells h3 (h3.plain hpl), Evolve.alloc _ r.sim.roLt r.sim.frLt⟩
 ·generalize a.eval = ρ at *
  have e : (newVar t z).run P w = .ok ⟨w.heap.size, 0, none⟩ (w.alloc (.cells l.toArray t)) := by
   unfold newVar; rw [h2]; rfl
  simp only [execOp, ho, Instr.alloc, Sem.run_bind, hz, Result.andThen, e]
  rfl
 ·rw [← r.sim.len]; simp
theorem Sim.set (s : Sim fr ro σ H w) {i b : Nat} {x x' : Blk} {obj : Obj} (hσ : σ[i]? = some (some b)) (hH : H[i]? = some x) (hl : x.live = true)
  (hsh : ∀ y, w.shape? b = some y → ({ w with heap := w.heap.setIfInBounds b obj } : World).shape? b = some y)
  (hbr : Ext ro σ w ro σ { w with heap := w.heap.setIfInBounds b obj } → ({ w with heap := w.heap.setIfInBounds b obj } : World).heap[b]? = some obj → BR ro σ { w with heap := w.heap.setIfInBounds b obj } x' (some b)) :
  Sim fr ro σ (H.set i x') { w with heap := w.heap.setIfInBounds b obj } ∧ Evolve fr ro w ro { w with heap := w.heap.setIfInBounds b obj } := by
 obtain ⟨hb, hbro, hbfr⟩ := s.own i b x hσ hH hl
 have hne : ∀ c, c ≠ b → ({ w with heap := w.heap.setIfInBounds b obj } : World).heap[c]? = w.heap[c]? := by
  intro c hc
  show (w.heap.setIfInBounds b obj)[c]? = _
  rw [Array.getElem?_setIfInBounds, if_neg (fun q => hc q.symm)]
 have heq : ({ w with heap := w.heap.setIfInBounds b obj } : World).heap[b]? = some obj := by
  show (w.heap.setIfInBounds b obj)[b]? = _
  rw [Array.getElem?_setIfInBounds, if_pos rfl, if_pos hb]
 have hsz : ({ w with heap := w.heap.setIfInBounds b obj } : World).heap.size = w.heap.size := by simp
 have ev : Evolve fr ro w ro { w with heap := w.heap.setIfInBounds b obj } :=
  ⟨fun _ h => h, fun c h => hne c (fun q => hbro (q ▸ h)), fun c h => hne c (fun q => hbfr (q ▸ h)), by rw [hsz]; exact Nat.le_refl _, by
   intro c y h
   by_cases q : c = b
   ·subst q; exact hsh y h
   ·unfold World.shape? at h ⊢; rw [hne c q]; exact h, rfl, rfl, rfl, Nat.le_refl _⟩
 have hi : i < H.length := (List.getElem?_eq_some_iff.1 hH).1
 have hHi : (H.set i x')[i]? = some x' := List.getElem?_set_self hi
 have hHj : ∀ j, j ≠ i → (H.set i x')[j]? = H[j]? := fun j hj => List.getElem?_set_ne (fun q => hj q.symm)
 have hbr' := hbr (ev.ext0 σ) heq
 refine ⟨⟨by rw [List.length_set]; exact s.len, s.roOk.to (fun _ q => q) ev.keepRo (fun c h => by rw [hsz]; exact s.roLt c h), fun c h => by rw [hsz]; exact s.frLt c h, s.roFr, ?_, ?_, ?_⟩, ev⟩
 ·intro j c y h1 h2 h3
  rw [hsz]
  by_cases q : j = i
  ·subst q
   rw [hσ] at h1; cases h1
   exact ⟨hb, hbro, hbfr⟩
  ·rw [hHj j q] at h2; exact s.own j c y h1 h2 h3
 ·intro j j' c y z h1 h2 h3 h4 h5 h6
  by_cases q : j = i
  ·subst q
   rw [hσ] at h1; cases h1
   by_cases q' : j' = j
   ·exact q'.symm
   ·rw [hHj j' q'] at h4
    exact s.inj j j' _ x z hσ h2 hH h4 hl h6
  ·rw [hHj j q] at h3
   by_cases q' : j' = i
   ·subst q'
    rw [hσ] at h2; cases h2
    exact s.inj j j' _ y x h1 hσ h3 hH h5 hl
   ·rw [hHj j' q'] at h4
    exact s.inj j j' c y z h1 h2 h3 h4 h5 h6
 ·intro j y z h1 h2
  by_cases q : j = i
  ·subst q
   rw [hHi] at h2; cases h2
   rw [hσ] at h1; cases h1
   exact hbr'
  ·rw [hHj j q] at h2
   refine (s.blk j y z h1 h2).keep (ev.ext0 σ) ?_
   rintro c rfl hlz
   exact hne c (fun e => q (s.inj j i b z x (e ▸ h1) hσ h2 hH hlz hl))
def splice {α : Type} (l : List α) (o : Nat) (vs : List α) : List α := l.take o ++ vs ++ l.drop (o + vs.length)
theorem splice_length {α : Type} {l : List α} {o : Nat} {vs : List α} (h : o + vs.length ≤ l.length) : (splice l o vs).length = l.length := by
 simp [splice]; omega
theorem modify_eq {h : Array Obj} {b : Nat} {f : Obj → Obj} {x : Obj} (hb : h[b]? = some x) : h.modify b f = h.setIfInBounds b (f x) := by
 apply Array.ext_getElem?
 intro i
 rw [Array.getElem?_modify, Array.getElem?_setIfInBounds]
 by_cases e : b = i
 ·subst e
  obtain ⟨hlt, he⟩ := Array.getElem?_eq_some_iff.1 hb
  simp [he, hlt]
 ·simp [e]
theorem run_storeCells {b t : Nat} : ∀ {vs l : List Value} {w : World} (off i : Nat), w.heap[b]? = some (.cells l.toArray t (0, 0)) → off + i + vs.length ≤ l.length → (∀ v ∈ vs, plainV v) →
  (storeCells ⟨b, off, none⟩ vs i).run P w = .ok () { w with heap := w.heap.setIfInBounds b (.cells (splice l (off + i) vs).toArray t (0, 0)) }
 | [], l, w, off, i, hb, hl, hp => by
  have e : w.heap.setIfInBounds b (.cells (splice l (off + i) []).toArray t (0, 0)) = w.heap := by
   apply Array.ext_getElem?
   intro j
   rw [Array.getElem?_setIfInBounds]
   by_cases q : b = j
   ·subst q
    obtain ⟨hlt, he⟩ := Array.getElem?_eq_some_iff.1 hb
    simp [hlt, splice, he]
   ·rw [if_neg q]
  rw [e]
  simp [storeCells, go_sem]
 | v :: vs, l, w, off, i, hb, hl, hp => by
  simp only [List.length_cons] at hl
  have hv := hp v (by simp)
  have hc : w.cell? ⟨b, off + i, none⟩ = some l[off + i] := by
   simp [World.cell?, hb]
  have hfz : w.frozen? ⟨b, off + i, none⟩ = false := by
   simp [World.frozen?, hb]
  have hset : w.setCell ⟨b, off + i, none⟩ v = { w with heap := w.heap.setIfInBounds b (.cells (splice l (off + i) [v]).toArray t (0, 0)) } := by
   unfold World.setCell
   rw [modify_eq hb]
   simp only [Option.isSome_none, Bool.false_eq_true, if_false]
   congr 3
   have : l.toArray.setIfInBounds (off + i) v = (l.set (off + i) v).toArray := by simp
   rw [this]
   congr 1
   rw [List.set_eq_take_append_cons_drop, if_pos (by omega)]
   simp [splice]
  have hlt : b < w.heap.size := by
   rcases Nat.lt_or_ge b w.heap.size with q | q
   ·exact q
   ·rw [Array.getElem?_eq_none q] at hb; simp at hb
  have ih := run_storeCells (vs := vs) (l := splice l (off + i) [v]) (w := { w with heap := w.heap.setIfInBounds b (.cells (splice l (off + i) [v]).toArray t (0, 0)) }) off (i + 1)
   (by show (w.heap.setIfInBounds b _)[b]? = _; rw [Array.getElem?_setIfInBounds, if_pos rfl, if_pos hlt])
   (by rw [splice_length (by simp; omega)]; omega) (fun x hx => hp x (by simp [hx]))
  have e2 : splice (splice l (off + i) [v]) (off + (i + 1)) vs = splice l (off + i) (v :: vs) := by
   have hlen : (l.take (off + i)).length = off + i := by simp; omega
   unfold splice
   rw [List.append_assoc (l.take (off + i))]
   have e3 : off + (i + 1) = (l.take (off + i)).length + 1 := by omega
   have e5 : (l.take (off + i) ++ ([v] ++ l.drop (off + i + [v].length))).take ((l.take (off + i)).length + 1) = l.take (off + i) ++ [v] := by
    rw [List.take_length_add_append]; simp
   have e6 : (l.take (off + i) ++ ([v] ++ l.drop (off + i + [v].length))).drop ((l.take (off + i)).length + 1 + vs.length) = l.drop (off + i + (v :: vs).length) := by
    rw [show (l.take (off + i)).length + 1 + vs.length = (l.take (off + i)).length + (1 + vs.length) from by omega, List.drop_length_add_append]
    simp [Nat.add_comm 1]
    congr 1; omega
   rw [e3, e5, e6]; simp
  have e4 : (w.heap.setIfInBounds b (.cells (splice l (off + i) [v]).toArray t (0, 0))).setIfInBounds b (.cells (splice (splice l (off + i) [v]) (off + (i + 1)) vs).toArray t (0, 0)) =
    w.heap.setIfInBounds b (.cells (splice l (off + i) (v :: vs)).toArray t (0, 0)) := by
   rw [e2, Array.setIfInBounds_setIfInBounds]
  rw [e4] at ih
  have hst : (Go.store ⟨b, off + i, none⟩ v).run P w = .ok () { w with heap := w.heap.setIfInBounds b (.cells (splice l (off + i) [v]).toArray t (0, 0)) } := by
   rw [← hset]
   cases v <;> first | exact hv.elim | simp [Go.store, Sem.run, hc, hfz, go_sem]
  simp only [storeCells, addr_add, Sem.run_bind, hst]
  exact ih
theorem shape_set {w : World} {b t : Nat} {l l' : List Value} (hb : w.heap[b]? = some (.cells l.toArray t (0, 0))) (hl : l'.length = l.length) (y : TypeId × Nat) (h : w.shape? b = some y) :
  ({ w with heap := w.heap.setIfInBounds b (.cells l'.toArray t (0, 0)) } : World).shape? b = some y := by
 have hlt : b < w.heap.size := by
  rcases Nat.lt_or_ge b w.heap.size with q | q
  ·exact q
  ·rw [Array.getElem?_eq_none q] at hb; simp at hb
 unfold World.shape? at h ⊢
 rw [hb] at h
 simp at h
 subst h
 show (match (w.heap.setIfInBounds b (.cells l'.toArray t (0, 0)))[b]? with | some (.cells c elem _) => some (elem, c.size) | _ => none) = _
 rw [Array.getElem?_setIfInBounds, if_pos rfl, if_pos hlt]
 simp [hl]
theorem LR.splice {ro : Nat → Prop} {σ : Sig} {w : World} {as vs : List A} {l m : List Value} (off : Nat) (h : LR ro σ w as l) (k : LR ro σ w vs m) : LR ro σ w (Sw.splice as off vs) (Sw.splice l off m) := by
 unfold Sw.splice
 rw [k.length]
 exact ((h.take off).append k).append (h.drop _)
theorem mem_splice {l m : List Value} {off : Nat} (h : ∀ v ∈ l, plainV v) (k : ∀ v ∈ m, plainV v) : ∀ v ∈ Sw.splice l off m, plainV v := by
 intro v hv
 simp only [Sw.splice, List.mem_append] at hv
 rcases hv with (hv | hv) | hv
 ·exact h v (List.mem_of_mem_take hv)
 ·exact k v hv
 ·exact h v (List.mem_of_mem_drop hv)
theorem OpU.store {t n i off T : Nat} {x y : Operand} {cs vs cs' : List A} {v : A} (ho : o.op = .store t x y) (hx : opA env x = .ptr i off) (hH : H[i]? = some (.cells T cs)) (hs : ∀ w, (sizeOf t).run P w = .ok n w)
  (hy : opA env y = v) (hk : knownA v = true) (hv : cellsA v = vs) (hn : vs.length = n) (hp : vs.all plainA = true) (hoff : Nat.ble (off + n) cs.length = true) (hcs : splice cs off vs = cs') :
  OpU P o env H (H.set i (.cells T cs')) := by
 intro fr ro σ N a w r
 have h1 := opA_ok r x
 rw [hx] at h1
 obtain ⟨b, h1, h2⟩ := h1
 have h3 := opA_ok r y
 rw [hy] at h3
 obtain ⟨m, h4, h5⟩ := h3.cells hk
 rw [hv] at h5
 obtain ⟨l, q1, q2, q3⟩ := r.sim.blk i _ _ h1 hH
 have hoff' : off + n ≤ cs.length := by simpa using hoff
 have hm : m.length = n := by rw [h5.length, hn]
 have hrun := run_storeCells (P := P) (vs := m) off 0 q1 (by rw [q2.length, hm]; omega) (h5.plain hp)
 have hset := r.sim.set (x' := .cells T cs') (obj := .cells (splice l off m).toArray T (0, 0)) h1 hH rfl
  (fun y hy => shape_set q1 (splice_length (by rw [q2.length, hm]; omega)) y hy)
  (fun e he => ⟨_, he, hcs ▸ (q2.splice off h5).mono e, mem_splice q3 (h5.plain hp)⟩)
 refine ⟨_, ro, [], ?_, by simpa using hset.1, hset.2⟩
 generalize a.eval = ρ at *
 have hsz : (ρ y).cells.size = n := by rw [h4]; simp [hm]
 have hst : (storeVar t ⟨b, off, none⟩ (ρ y)).run P w = .ok () { w with heap := w.heap.setIfInBounds b (.cells (splice l off m).toArray T (0, 0)) } := by
  unfold storeVar
  rw [Sem.run_bind, hs]
  simp only [Result.andThen]
  rw [if_neg (by simp [hsz]), h4]
  simpa using hrun
 simp only [execOp, ho, h2, Instr.storeAt, Instr.sureAddr, pure_bind, Sem.run_bind, hst]
 rfl
theorem RL.splice {ro : Nat → Prop} {σ : Sig} {w : World} {k : Nat} : ∀ {e : Nat} {es : List (List A)} {l m : List Value} {c c' : List A} {f : Nat}, RL ro σ w k es l → es[e]? = some c → LR ro σ w c' m → (∀ v ∈ m, plainV v) → f + c'.length ≤ k →
  RL ro σ w k (es.set e (Sw.splice c f c')) (Sw.splice l (e * k + f) m)
 | _, [], _, _, _, _, _, _, h, _, _, _ => by simp at h
 | 0, c0 :: es, l, m, c, c', f, ⟨l1, l2, h1, h2, h3, h4⟩, hc, hm, hp, hf => by
  simp at hc; subst hc h1
  have hl1 := h3.1.length
  refine ⟨Sw.splice l1 f m, l2, ?_, ?_, ⟨h3.1.splice f hm, mem_splice h3.2 hp⟩, h4⟩
  ·unfold Sw.splice
   simp only [Nat.zero_mul, Nat.zero_add, List.append_assoc]
   rw [List.take_append_of_le_length (by omega), List.drop_append_of_le_length (by rw [hm.length]; omega)]
  ·rw [splice_length (by omega)]; exact h2
 | e + 1, c0 :: es, l, m, c, c', f, ⟨l1, l2, h1, h2, h3, h4⟩, hc, hm, hp, hf => by
  subst h1
  have hl1 := h3.1.length
  refine ⟨l1, Sw.splice l2 (e * k + f) m, ?_, h2, h3, RL.splice h4 (by simpa using hc) hm hp hf⟩
  have e1 : (e + 1) * k + f = l1.length + (e * k + f) := by rw [Nat.succ_mul]; omega
  unfold Sw.splice
  rw [e1, List.take_length_add_append, show l1.length + (e * k + f) + m.length = l1.length + (e * k + f + m.length) from by omega, List.drop_length_add_append]
  simp
theorem RL.length {ro : Nat → Prop} {σ : Sig} {w : World} {k : Nat} : ∀ {es : List (List A)} {l : List Value}, RL ro σ w k es l → es.length * k ≤ l.length
 | [], l, _ => by simp
 | c :: es, l, ⟨l1, l2, h1, h2, h3, h4⟩ => by
  subst h1
  have := RL.length h4
  have := h3.1.length
  simp only [List.length_cons, List.length_append, Nat.succ_mul]; omega
theorem OpU.storeRow {t n i off T k e f : Nat} {x y : Operand} {es es' : List (List A)} {c vs c' : List A} {v : A} (ho : o.op = .store t x y) (hx : opA env x = .ptr i off) (hH : H[i]? = some (.row T k es)) (hs : ∀ w, (sizeOf t).run P w = .ok n w)
  (hoff : off = e * k + f) (hc : es[e]? = some c) (hy : opA env y = v) (hk : knownA v = true) (hv : cellsA v = vs) (hn : vs.length = n) (hp : vs.all plainA = true) (hd : dataL vs = true) (hf : Nat.ble (f + n) k = true)
  (hcs : splice c f vs = c') (hes : es.set e c' = es') :
  OpU P o env H (H.set i (.row T k es')) := by
 intro fr ro σ N a w r
 have h1 := opA_ok r x
 rw [hx] at h1
 obtain ⟨b, h1, h2⟩ := h1
 have h3 := opA_ok r y
 rw [hy] at h3
 obtain ⟨m, h4, h5⟩ := h3.cells hk
 rw [hv] at h5
 obtain ⟨l, q1, q2⟩ := r.sim.blk i _ _ h1 hH
 have hf' : f + n ≤ k := by simpa using hf
 have hm : m.length = n := by rw [h5.length, hn]
 have he : e < es.length := (List.getElem?_eq_some_iff.1 hc).1
 have hlen : off + n ≤ l.length := by
  have := q2.length
  have h6 : (e + 1) * k ≤ es.length * k := Nat.mul_le_mul_right k he
  rw [Nat.succ_mul] at h6
  omega
 have hrun := run_storeCells (P := P) (vs := m) off 0 q1 (by omega) (h5.plain hp)
 have hset := r.sim.set (x' := .row T k es') (obj := .cells (splice l off m).toArray T (0, 0)) h1 hH rfl
  (fun y hy => shape_set q1 (splice_length (by omega)) y hy)
  (fun ex hex => ⟨_, hex, by
   subst hes hcs hoff
   exact (q2.splice hc (h5.data hd) (h5.plain hp) (by rw [hn]; exact hf')).mono ex.nil⟩)
 refine ⟨_, ro, [], ?_, by simpa using hset.1, hset.2⟩
 generalize a.eval = ρ at *
 have hsz : (ρ y).cells.size = n := by rw [h4]; simp [hm]
 have hst : (storeVar t ⟨b, off, none⟩ (ρ y)).run P w = .ok () { w with heap := w.heap.setIfInBounds b (.cells (splice l off m).toArray T (0, 0)) } := by
  unfold storeVar
  rw [Sem.run_bind, hs]
  simp only [Result.andThen]
  rw [if_neg (by simp [hsz]), h4]
  simpa using hrun
 simp only [execOp, ho, h2, Instr.storeAt, Instr.sureAddr, pure_bind, Sem.run_bind, hst]
 rfl
end
end Go.Sw
