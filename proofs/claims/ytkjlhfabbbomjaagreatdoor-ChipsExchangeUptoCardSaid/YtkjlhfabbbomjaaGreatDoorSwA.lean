/- Abstract values, blocks and the relation to the model's values and worlds: definitions and that they are kept as the world grows. -/
import Derived.Test.YtkjlhfabbbomjaaGreatDoorSw0
set_option linter.unusedVariables false
namespace Go.Sw
inductive A where
 | any
 | bool (b : Bool)
 | int (k : IntKind) (n : Int)
 | str (s : List UInt8)
 | nilp
 | ptr (i off : Nat)
 | rp (cs : List A)
 | nils
 | rsl (k : Nat) (es : List (List A))
 | osl (i o n k : Nat)
 | agg (cs : List A)
 | fn (f : Fn) (first cap : List A)
 | nilf
 | iface (t : Nat) (v : A)
 | nilif
 | map (i : Nat)
 | nilm
 | tup (vs : List A)
abbrev Sig := List (Option Nat)
def plainV : Value → Prop
 | .agg _ | .tuple _ => False
 | _ => True
mutual
def VR (ro : Nat → Prop) (σ : Sig) (w : World) : A → Value → Prop
 | .any, _ => True
 | .bool b, v => v = .bool b
 | .int k n, v => v = .int k n
 | .str s, v => v = .string ⟨s.toArray⟩
 | .nilp, v => v = .pointer none
 | .ptr i off, v => ∃ b, σ[i]? = some (some b) ∧ v = .pointer (some ⟨b, off, none⟩)
 | .rp cs, v => ∃ b off, v = .pointer (some ⟨b, off, none⟩) ∧ ro b ∧ CR ro [] w b cs off
 | .nils, v => v = .slice none 0 0
 | .rsl k es, v => ∃ a cap, v = .slice a es.length cap ∧ es.length ≤ cap ∧
   (es = [] ∨ ∃ b off, a = some ⟨b, off, none⟩ ∧ ro b ∧ RR ro [] w b k es off)
 | .osl i o n k, v => (n = 0 ∧ v = .slice none 0 0) ∨
   ∃ b p cap t m, σ[i]? = some (some b) ∧ v = .slice (some ⟨b, p, none⟩) n cap ∧ (0 < cap → p = o * k) ∧ n ≤ cap ∧ w.shape? b = some (t, m) ∧ (o + cap) * k ≤ m
 | .agg cs, v => ∃ l : List Value, v = .agg l.toArray ∧ LR ro σ w cs l
 | .fn f first cap, v => ∃ l l' : List Value, v = .func f l.toArray l'.toArray ∧ LR ro σ w first l ∧ LR ro σ w cap l'
 | .nilf, v => v = .nilFunc
 | .iface t a, v => ∃ x, v = .iface t x ∧ VR ro σ w a x
 | .nilif, v => v = .nilIface
 | .map i, v => ∃ b, σ[i]? = some (some b) ∧ v = .map (some b)
 | .nilm, v => v = .map none
 | .tup vs, v => ∃ l : List Value, v = .tuple l.toArray ∧ LR ro σ w vs l
def CR (ro : Nat → Prop) (σ : Sig) (w : World) (b : Nat) : List A → Nat → Prop
 | [], _ => True
 | a :: r, off => (∃ v, w.cell? ⟨b, off, none⟩ = some v ∧ plainV v ∧ VR ro σ w a v) ∧ CR ro σ w b r (off + 1)
def RR (ro : Nat → Prop) (σ : Sig) (w : World) (b k : Nat) : List (List A) → Nat → Prop
 | [], _ => True
 | cs :: r, off => cs.length = k ∧ CR ro σ w b cs off ∧ RR ro σ w b k r (off + k)
def LR (ro : Nat → Prop) (σ : Sig) (w : World) : List A → List Value → Prop
 | [], l => l = []
 | a :: r, l => ∃ v l', l = v :: l' ∧ VR ro σ w a v ∧ LR ro σ w r l'
end
structure Ext (ro : Nat → Prop) (σ : Sig) (w : World) (ro' : Nat → Prop) (σ' : Sig) (w' : World) : Prop where
 sub : ∀ b, ro b → ro' b
 keep : ∀ b, ro b → w'.heap[b]? = w.heap[b]?
 shape : ∀ b x, w.shape? b = some x → w'.shape? b = some x
 sig : ∀ (i b : Nat), σ[i]? = some (some b) → σ'[i]? = some (some b)
theorem cell_keep {w w' : World} {b off : Nat} (h : w'.heap[b]? = w.heap[b]?) : w'.cell? ⟨b, off, none⟩ = w.cell? ⟨b, off, none⟩ := by
 simp only [World.cell?, h]
theorem Ext.nil {ro ro' : Nat → Prop} {σ σ' : Sig} {w w' : World} (h : Ext ro σ w ro' σ' w') : Ext ro [] w ro' [] w' :=
 ⟨h.sub, h.keep, h.shape, fun _ _ q => q⟩
mutual
theorem VR.mono {ro ro' : Nat → Prop} {w w' : World} : ∀ {a : A} {σ σ' : Sig} {v : Value}, Ext ro σ w ro' σ' w' → VR ro σ w a v → VR ro' σ' w' a v
 | .any, _, _, _, h, _ => trivial
 | .bool b, _, _, v, h, q => q
 | .int k n, _, _, v, h, q => q
 | .str s, _, _, v, h, q => q
 | .nilp, _, _, v, h, q => q
 | .ptr i off, _, _, v, h, q => by
  simp only [VR] at q ⊢
  obtain ⟨b, h1, h2⟩ := q
  exact ⟨b, h.sig _ _ h1, h2⟩
 | .rp cs, _, _, v, h, q => by
  simp only [VR] at q ⊢
  obtain ⟨b, off, h1, h2, h3⟩ := q
  exact ⟨b, off, h1, h.sub _ h2, CR.mono h.nil h2 h3⟩
 | .nils, _, _, v, h, q => q
 | .rsl k es, _, _, v, h, q => by
  simp only [VR] at q ⊢
  obtain ⟨a, cap, h1, h2, h3⟩ := q
  refine ⟨a, cap, h1, h2, ?_⟩
  rcases h3 with h3 | ⟨b, off, h4, h5, h6⟩
  ·exact .inl h3
  ·exact .inr ⟨b, off, h4, h.sub _ h5, RR.mono h.nil h5 h6⟩
 | .osl i o n k, _, _, v, h, q => by
  simp only [VR] at q ⊢
  rcases q with q | ⟨b, p, cap, t, m, h1, h2, h6, h3, h4, h5⟩
  ·exact .inl q
  ·exact .inr ⟨b, p, cap, t, m, h.sig _ _ h1, h2, h6, h3, h.shape _ _ h4, h5⟩
 | .agg cs, _, _, v, h, q => by
  simp only [VR] at q ⊢
  obtain ⟨l, h1, h2⟩ := q
  exact ⟨l, h1, LR.mono h h2⟩
 | .fn f a c, _, _, v, h, q => by
  simp only [VR] at q ⊢
  obtain ⟨l, l', h1, h2, h3⟩ := q
  exact ⟨l, l', h1, LR.mono h h2, LR.mono h h3⟩
 | .nilf, _, _, v, h, q => q
 | .iface t a, _, _, v, h, q => by
  simp only [VR] at q ⊢
  obtain ⟨x, h1, h2⟩ := q
  exact ⟨x, h1, VR.mono h h2⟩
 | .nilif, _, _, v, h, q => q
 | .map i, _, _, v, h, q => by
  simp only [VR] at q ⊢
  obtain ⟨b, h1, h2⟩ := q
  exact ⟨b, h.sig _ _ h1, h2⟩
 | .nilm, _, _, v, h, q => q
 | .tup vs, _, _, v, h, q => by
  simp only [VR] at q ⊢
  obtain ⟨l, h1, h2⟩ := q
  exact ⟨l, h1, LR.mono h h2⟩
theorem CR.mono {ro ro' : Nat → Prop} {w w' : World} : ∀ {cs : List A} {σ σ' : Sig} {b off : Nat}, Ext ro σ w ro' σ' w' → ro b → CR ro σ w b cs off → CR ro' σ' w' b cs off
 | [], _, _, _, _, _, _, _ => trivial
 | a :: r, _, _, b, off, h, hb, q => by
  simp only [CR] at q ⊢
  obtain ⟨⟨v, h1, hp, h2⟩, h3⟩ := q
  exact ⟨⟨v, by rw [cell_keep (h.keep _ hb)]; exact h1, hp, VR.mono h h2⟩, CR.mono h hb h3⟩
theorem RR.mono {ro ro' : Nat → Prop} {w w' : World} : ∀ {es : List (List A)} {σ σ' : Sig} {b k off : Nat}, Ext ro σ w ro' σ' w' → ro b → RR ro σ w b k es off → RR ro' σ' w' b k es off
 | [], _, _, _, _, _, _, _, _ => trivial
 | cs :: r, _, _, b, k, off, h, hb, q => by
  simp only [RR] at q ⊢
  obtain ⟨h1, h2, h3⟩ := q
  exact ⟨h1, CR.mono h hb h2, RR.mono h hb h3⟩
theorem LR.mono {ro ro' : Nat → Prop} {w w' : World} : ∀ {as : List A} {σ σ' : Sig} {l : List Value}, Ext ro σ w ro' σ' w' → LR ro σ w as l → LR ro' σ' w' as l
 | [], _, _, _, h, q => q
 | a :: r, _, _, l, h, q => by
  simp only [LR] at q ⊢
  obtain ⟨v, l', h1, h2, h3⟩ := q
  exact ⟨v, l', h1, VR.mono h h2, LR.mono h h3⟩
end
structure Ent where
 fl : Bool
 off : Nat
 lo : Int
 hi : Int
def eC (b1 b2 : Nat) (e : Ent) : List A := [.ptr (bif e.fl then b2 else b1) e.off, .int .i64 e.lo, .int .i64 e.hi]
inductive Blk where
 | dead
 | cells (t : Nat) (cs : List A)
 | row (t k : Nat) (es : List (List A))
 | rowr (t k : Nat) (es : List (List A))
 | map (es : List (A × A))
 | iter (cur : Option (A × A)) (es : List (A × A))
 | fmap (es : List (A × A))
 | ents (t b1 b2 : Nat) (es : List Ent)
def Blk.live : Blk → Bool
 | .dead => false
 | .fmap _ => false
 | _ => true
theorem Blk.nd {x : Blk} (h : x.live = true) : x ≠ .dead := by rintro rfl; cases h
abbrev Heap := List Blk
def ER (ro : Nat → Prop) (σ : Sig) (w : World) : List (A × A) → List MapEntry → Prop
 | [], l => l = []
 | x :: r, l => ∃ e l', l = e :: l' ∧ VR ro σ w x.1 e.key ∧ VR ro σ w x.2 e.val ∧ ER ro σ w r l'
def ItR (ro : Nat → Prop) (w : World) (b : Nat) (cur : Option (A × A)) (es : List (A × A)) : Prop :=
 (es = [] ∧ cur = none ∧ w.heap[b]? = some (.mapIter none 0 #[] 0)) ∨
 ∃ m l clock seen left, w.heap[b]? = some (.mapIter (some m) clock seen clock) ∧ ro m ∧ w.heap[m]? = some (.map l clock) ∧ (∀ e ∈ l.toList, e.born < clock) ∧ (l.toList.map (·.born)).Nodup ∧
  (left : List MapEntry).Perm (l.toList.filter fun e => !seen.contains e.born) ∧ ER ro [] w es left ∧
  (∀ x, cur = some x → ∃ e ∈ l.toList, seen.back? = some e.born ∧ VR ro [] w x.1 e.key ∧ VR ro [] w x.2 e.val)
def RL (ro : Nat → Prop) (σ : Sig) (w : World) (k : Nat) : List (List A) → List Value → Prop
 | [], _ => True
 | c :: es, l => ∃ l1 l2, l = l1 ++ l2 ∧ c.length = k ∧ (LR ro σ w c l1 ∧ ∀ v ∈ l1, plainV v) ∧ RL ro σ w k es l2
theorem RL.mono {ro ro' : Nat → Prop} {σ σ' : Sig} {w w' : World} (h : Ext ro σ w ro' σ' w') {k : Nat} : ∀ {es : List (List A)} {l : List Value}, RL ro σ w k es l → RL ro' σ' w' k es l
 | [], _, _ => trivial
 | c :: es, l, ⟨l1, l2, h1, h2, h3, h4⟩ => ⟨l1, l2, h1, h2, ⟨h3.1.mono h, h3.2⟩, RL.mono h h4⟩
def BR (ro : Nat → Prop) (σ : Sig) (w : World) : Blk → Option Nat → Prop
 | .dead, _ => True
 | .cells t cs, some b => ∃ l : List Value, w.heap[b]? = some (.cells l.toArray t (0, 0)) ∧ LR ro σ w cs l ∧ ∀ v ∈ l, plainV v
 | .row t k es, some b => ∃ l : List Value, w.heap[b]? = some (.cells l.toArray t (0, 0)) ∧ RL ro [] w k es l
 | .rowr t k es, some b => ∃ l : List Value, w.heap[b]? = some (.cells l.toArray t (0, 0)) ∧ RL ro σ w k es l
 | .row _ _ es, none => es = []
 | .ents t b1 b2 es, some b => ∃ l : List Value, w.heap[b]? = some (.cells l.toArray t (0, 0)) ∧ RL ro σ w 3 (es.map (eC b1 b2)) l
 | .ents _ _ _ es, none => es = []
 | .map es, some b => ∃ l clock, w.heap[b]? = some (.map l clock) ∧ ER ro [] w es l.toList ∧
   (∀ e ∈ l.toList, e.born < clock) ∧ (l.toList.map (·.born)).Nodup ∧ (l.toList.map (·.key)).Nodup
 | .iter cur es, some b => ItR ro w b cur es
 | .fmap es, some b => ro b ∧ ∃ l clock, w.heap[b]? = some (.map l clock) ∧ ER ro [] w es l.toList ∧
   (∀ e ∈ l.toList, e.born < clock) ∧ (l.toList.map (·.born)).Nodup ∧ (l.toList.map (·.key)).Nodup
 | _, none => False
structure RoOk (ro : Nat → Prop) (w : World) : Prop where
 lt : ∀ b, ro b → b < w.heap.size
 g : ∀ b, b < nG → ro b
 gp : GP w
theorem RoOk.to {ro ro' : Nat → Prop} {w w' : World} (h : RoOk ro w) (sub : ∀ b, ro b → ro' b) (keep : ∀ b, ro b → w'.heap[b]? = w.heap[b]?) (lt : ∀ b, ro' b → b < w'.heap.size) : RoOk ro' w' :=
 ⟨lt, fun b hb => sub b (h.g b hb), h.gp.keep fun b hb => keep b (h.g b hb)⟩
structure Sim (fr ro : Nat → Prop) (σ : Sig) (H : Heap) (w : World) : Prop where
 len : σ.length = H.length
 roOk : RoOk ro w
 frLt : ∀ b, fr b → b < w.heap.size
 roFr : ∀ b, ro b → ¬ fr b
 own : ∀ (i b : Nat) (blk : Blk), σ[i]? = some (some b) → H[i]? = some blk → blk.live = true → b < w.heap.size ∧ ¬ ro b ∧ ¬ fr b
 inj : ∀ (i j b : Nat) (x y : Blk), σ[i]? = some (some b) → σ[j]? = some (some b) → H[i]? = some x → H[j]? = some y → x.live = true → y.live = true → i = j
 blk : ∀ (i : Nat) (s : Option Nat) (x : Blk), σ[i]? = some s → H[i]? = some x → BR ro σ w x s
theorem Sim.roLt {fr ro : Nat → Prop} {σ : Sig} {H : Heap} {w : World} (s : Sim fr ro σ H w) : ∀ b, ro b → b < w.heap.size := s.roOk.lt
structure Evolve (fr ro : Nat → Prop) (w : World) (ro' : Nat → Prop) (w' : World) : Prop where
 sub : ∀ b, ro b → ro' b
 keepRo : ∀ b, ro b → w'.heap[b]? = w.heap[b]?
 keepFr : ∀ b, fr b → w'.heap[b]? = w.heap[b]?
 size : w.heap.size ≤ w'.heap.size
 shape : ∀ b x, w.shape? b = some x → w'.shape? b = some x
 os : w'.os = w.os
 tape : w'.tape = w.tape
 output : w'.output = w.output
 drawn : w.drawn ≤ w'.drawn
theorem Evolve.refl (fr ro : Nat → Prop) (w : World) : Evolve fr ro w ro w :=
 ⟨fun _ h => h, fun _ _ => rfl, fun _ _ => rfl, Nat.le_refl _, fun _ _ h => h, rfl, rfl, rfl, Nat.le_refl _⟩
theorem Evolve.trans {fr ro ro1 ro2 : Nat → Prop} {w w1 w2 : World} (h : Evolve fr ro w ro1 w1) (k : Evolve fr ro1 w1 ro2 w2) : Evolve fr ro w ro2 w2 :=
 ⟨fun b q => k.sub _ (h.sub _ q), fun b q => (k.keepRo _ (h.sub _ q)).trans (h.keepRo _ q), fun b q => (k.keepFr _ q).trans (h.keepFr _ q),
  Nat.le_trans h.size k.size, fun b x q => k.shape _ _ (h.shape _ _ q), k.os.trans h.os, k.tape.trans h.tape, k.output.trans h.output, Nat.le_trans h.drawn k.drawn⟩
theorem sig_append {σ τ : Sig} {i b : Nat} (h : σ[i]? = some (some b)) : (σ ++ τ)[i]? = some (some b) := by
 have hi : i < σ.length := by
  rcases Nat.lt_or_ge i σ.length with q | q
  ·exact q
  ·simp [List.getElem?_eq_none q] at h
 rw [List.getElem?_append_left hi]; exact h
theorem Evolve.ext {fr ro ro' : Nat → Prop} {w w' : World} (h : Evolve fr ro w ro' w') (σ τ : Sig) : Ext ro σ w ro' (σ ++ τ) w' :=
 ⟨h.sub, h.keepRo, h.shape, fun _ _ => sig_append⟩
theorem Evolve.ext0 {fr ro ro' : Nat → Prop} {w w' : World} (h : Evolve fr ro w ro' w') (σ : Sig) : Ext ro σ w ro' σ w' :=
 ⟨h.sub, h.keepRo, h.shape, fun _ _ q => q⟩
theorem ER.mono {ro ro' : Nat → Prop} {σ σ' : Sig} {w w' : World} (h : Ext ro σ w ro' σ' w') : ∀ {es : List (A × A)} {l : List MapEntry}, ER ro σ w es l → ER ro' σ' w' es l
 | [], _, q => q
 | x :: r, l, q => by
  simp only [ER] at q ⊢
  obtain ⟨e, l', h1, h2, h3, h4⟩ := q
  exact ⟨e, l', h1, h2.mono h, h3.mono h, ER.mono h h4⟩
theorem ItR.keep {ro ro' : Nat → Prop} {σ σ' : Sig} {w w' : World} (h : Ext ro σ w ro' σ' w') {b : Nat} (hb : w'.heap[b]? = w.heap[b]?) {cur : Option (A × A)} {es : List (A × A)}
  (q : ItR ro w b cur es) : ItR ro' w' b cur es := by
 rcases q with ⟨h1, h2, h3⟩ | ⟨m, l, clock, seen, left, h1, h2, h3, h4, h5, h6, h7, h8⟩
 ·exact .inl ⟨h1, h2, by rw [hb]; exact h3⟩
 ·refine .inr ⟨m, l, clock, seen, left, by rw [hb]; exact h1, h.sub _ h2, by rw [h.keep _ h2]; exact h3, h4, h5, h6, h7.mono h.nil, fun x hx => ?_⟩
  obtain ⟨e, he, q1, q2, q3⟩ := h8 x hx
  exact ⟨e, he, q1, q2.mono h.nil, q3.mono h.nil⟩
theorem CR.keep {ro ro' : Nat → Prop} {σ σ' : Sig} {w w' : World} (h : Ext ro σ w ro' σ' w') {b : Nat} (hb : w'.heap[b]? = w.heap[b]?) :
  ∀ {cs : List A} {off : Nat}, CR ro σ w b cs off → CR ro' σ' w' b cs off
 | [], _, _ => trivial
 | a :: r, off, q => by
  simp only [CR] at q ⊢
  obtain ⟨⟨v, h1, hp, h2⟩, h3⟩ := q
  exact ⟨⟨v, by rw [cell_keep hb]; exact h1, hp, h2.mono h⟩, CR.keep h hb h3⟩
theorem RR.keep {ro ro' : Nat → Prop} {σ σ' : Sig} {w w' : World} (h : Ext ro σ w ro' σ' w') {b : Nat} (hb : w'.heap[b]? = w.heap[b]?) {k : Nat} :
  ∀ {es : List (List A)} {off : Nat}, RR ro σ w b k es off → RR ro' σ' w' b k es off
 | [], _, _ => trivial
 | cs :: r, off, q => by
  simp only [RR] at q ⊢
  obtain ⟨h1, h2, h3⟩ := q
  exact ⟨h1, CR.keep h hb h2, RR.keep h hb h3⟩
theorem BR.keep {ro ro' : Nat → Prop} {σ σ' : Sig} {w w' : World} (h : Ext ro σ w ro' σ' w') {x : Blk} {s : Option Nat}
  (hb : ∀ b, s = some b → x.live = true → w'.heap[b]? = w.heap[b]?) (q : BR ro σ w x s) : BR ro' σ' w' x s := by
 cases x with
 | dead => trivial
 | cells t cs =>
  cases s with
  | none => exact q
  | some b =>
   obtain ⟨l, h1, h2, h3⟩ := q
   exact ⟨l, by rw [hb b rfl rfl]; exact h1, h2.mono h, h3⟩
 | row t k es =>
  cases s with
  | none => exact q
  | some b =>
   obtain ⟨l, h1, h2⟩ := q
   exact ⟨l, by rw [hb b rfl rfl]; exact h1, h2.mono h.nil⟩
 | rowr t k es =>
  cases s with
  | none => exact q.elim
  | some b =>
   obtain ⟨l, h1, h2⟩ := q
   exact ⟨l, by rw [hb b rfl rfl]; exact h1, h2.mono h⟩
 | ents t b1 b2 es =>
  cases s with
  | none => exact q
  | some b =>
   obtain ⟨l, h1, h2⟩ := q
   exact ⟨l, by rw [hb b rfl rfl]; exact h1, h2.mono h⟩
 | map es =>
  cases s with
  | none => exact q
  | some b =>
   obtain ⟨l, c, h1, h2, h3⟩ := q
   exact ⟨l, c, by rw [hb b rfl rfl]; exact h1, h2.mono h.nil, h3⟩
 | iter cur es =>
  cases s with
  | none => exact q
  | some b => exact ItR.keep h (hb b rfl rfl) q
 | fmap es =>
  cases s with
  | none => exact q
  | some b =>
   obtain ⟨h0, l, c, h1, h2, h3⟩ := q
   exact ⟨h.sub b h0, l, c, by rw [h.keep b h0]; exact h1, h2.mono h.nil, h3⟩
end Go.Sw
