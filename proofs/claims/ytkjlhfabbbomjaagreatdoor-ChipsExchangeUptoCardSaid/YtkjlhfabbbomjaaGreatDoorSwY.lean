/- Strings joined; strings.Contains; arrays as rows. -/
import Derived.Test.YtkjlhfabbbomjaaGreatDoorSwX
import Derived.Shelf.Strings.Search3
set_option linter.unusedVariables false
set_option linter.unusedSectionVars false
set_option linter.unusedSimpArgs false
namespace Go.Sw
open Go.Proofs Go.Shelf
def cat (a b : List UInt8) : Option (List UInt8) := bif Nat.ble (a.length + b.length) 4294967296 then some (a ++ b) else none
theorem cat_ok {a b r : List UInt8} (h : cat a b = some r) : a.length + b.length ≤ 4294967296 ∧ a ++ b = r := by
 unfold cat at h
 cases q : Nat.ble (a.length + b.length) 4294967296 with
 | true => rw [q] at h; exact ⟨Nat.le_of_ble_eq_true q, Option.some.inj h⟩
 | false => rw [q] at h; cases h
def hasSub (s t : List UInt8) : Option Bool := bif Nat.blt s.length 4294967281 then some (Lib.contains s t) else none
section
variable {P : Program} {o : Oper} {env : Env} {H : Heap}
theorem OpV.strAdd {t u : TypeId} {x y : Operand} {p q r : List UInt8} (hr : cat p q = some r) (ho : o.op = .binOp .add t x y u := by exact rfl) (hx : opA env x = .str p := by exact rfl) (hy : opA env y = .str q := by exact rfl) : OpV P o env H (.str r) := by
 intro fr ro σ N a w rr
 obtain ⟨h1, h2⟩ := cat_ok hr
 have e1 := opA_ok rr x
 rw [hx] at e1
 have e2 := opA_ok rr y
 rw [hy] at e2
 have e1' : a.eval x = .string ⟨p.toArray⟩ := e1
 have e2' : a.eval y = .string ⟨q.toArray⟩ := e2
 have hs : (⟨p.toArray⟩ : ByteArray) ++ ⟨q.toArray⟩ = ⟨r.toArray⟩ := by
  rw [← h2]
  apply ByteArray.ext
  simp
 refine ⟨.string ⟨r.toArray⟩, ?_, rfl⟩
 have hlen : ¬ ((((⟨p.toArray⟩ : ByteArray).size + (⟨q.toArray⟩ : ByteArray).size : Nat) : Int) > IntKind.i64.max) := by
  have : IntKind.i64.max = 9223372036854775807 := by decide
  rw [this]
  simp only [ByteArray.size, List.size_toArray]
  omega
 generalize a.eval = ρ at *
 have hg : (eqGuard BinOp.add t x y (.string ⟨p.toArray⟩) (.string ⟨q.toArray⟩)).run P w = .ok () w := by simp [eqGuard]
 simp only [execOp, ho, e1', e2', binOp_string_add, Op.stringOp, if_neg hlen, hs, Sem.run_bind, Sem.run_pure, Result.andThen, hg]
def idxA {α : Type} (n : Nat) (l : List α) (i : Int) : Option α := bif Nat.beq l.length n then idx l i else none
theorem idxA_ok {α : Type} {n : Nat} {l : List α} {i : Int} {x : α} (h : idxA n l i = some x) : l.length = n ∧ idx l i = some x := by
 unfold idxA at h
 cases q : Nat.beq l.length n with
 | true => rw [q] at h; exact ⟨Nat.eq_of_beq_eq_true q, h⟩
 | false => rw [q] at h; cases h
def arr {α : Type} (n : Nat) (l : List α) : Option (List α) := bif Nat.beq l.length n then some l else none
theorem arr_ok {α : Type} {n : Nat} {l l' : List α} (h : arr n l = some l') : l.length = n ∧ l = l' := by
 unfold arr at h
 cases q : Nat.beq l.length n with
 | true => rw [q] at h; exact ⟨Nat.eq_of_beq_eq_true q, Option.some.inj h⟩
 | false => rw [q] at h; cases h
theorem arr_len {α : Type} {n : Nat} {l l' : List α} (h : arr n l = some l') : l'.length = n := (arr_ok h).2 ▸ (arr_ok h).1
section
variable {α : Type} {e : α → List A} {t et k n b : Nat} {x y : Operand} {l : List α}
theorem OpV.ixArr {i : Int} {v : α} {kk : IntKind} (h : idxA n l i = some v) (ht : ∀ w, (underlying t).run P w = .ok (.array n et) w) (hs : ∀ w, (sizeOf et).run P w = .ok k w) (hn1 : Nat.ble 2 n = true)
  (ho : o.op = .indexAddr t x y := by exact rfl) (hx : opA env x = .ptr b 0 := by exact rfl) (hy : opA env y = .int kk i := by exact rfl) : OpV P o env H (.ptr b (i.toNat * k)) := by
 intro fr ro σ N a w r
 obtain ⟨hl, hi⟩ := idxA_ok h
 obtain ⟨i0, i1⟩ := idx_ok hi
 have hlt : i.toNat < l.length := (List.getElem?_eq_some_iff.1 i1).1
 have h1 := opA_ok r x
 rw [hx] at h1
 obtain ⟨bb, h1, h2⟩ := h1
 have h3 := opA_ok r y
 rw [hy] at h3
 have h3' : a.eval y = .int kk i := h3
 refine ⟨.pointer (some ⟨bb, i.toNat * k, none⟩), ?_, bb, h1, rfl⟩
 have hr : 0 ≤ i ∧ i < (n : Int) := by omega
 have hadd : (⟨bb, 0, none⟩ : Addr).add (i.toNat * k) = ⟨bb, i.toNat * k, none⟩ := by
  unfold Addr.add
  split
  ·rename_i q; rw [q]
  ·simp
 generalize a.eval = ρ at *
 simp [execOp, ho, h2, h3', Instr.indexAt, asIntOf, ht, hs, Instr.sureAddr, hr, hadd, go_sem, Result.andThen]
theorem Pts.arr {cs : List A} (hH : H[b]? = some (.row t k (l.map e)) := by exact rfl) (hcs : (l.map e).flatten = cs := by exact rfl) : Pts H (.ptr b 0) cs := by
 intro fr ro σ w v s h
 obtain ⟨bb, h1, h2⟩ := h
 obtain ⟨lv, q1, q2⟩ := s.blk b _ _ h1 hH
 refine ⟨bb, 0, h2, ?_⟩
 have := (RR.flat (RL.toRR (pre := []) (by simpa using q1) q2)).1
 subst hcs
 exact this.lift
theorem flat_len (hk : ∀ x, (e x).length = k) (L : List α) : (L.map e).flatten.length = L.length * k := by
 induction L with
 | nil => simp
 | cons c L ih => simp only [List.map_cons, List.flatten_cons, List.length_append, hk c, ih, List.length_cons, Nat.succ_mul]; omega
theorem OpV.loadArr {n2 : Nat} {l' : List α} (h : arr n l = some l') (hk : ∀ x, (e x).length = k) (hnk : n * k = n2) (ha : ∀ w, (isAgg t).run P w = .ok true w) (hs : ∀ w, (sizeOf t).run P w = .ok n2 w) {T : Nat}
  (ho : o.op = .load t x := by exact rfl) (hx : opA env x = .ptr b 0 := by exact rfl) (hH : H[b]? = some (.row T k (l.map e)) := by exact rfl) : OpV P o env H (.agg (l'.map e).flatten) := by
 obtain ⟨h1, rfl⟩ := arr_ok h
 have hl := flat_len hk l
 rw [h1, hnk] at hl
 exact OpV.loadA ho ha hs hx (Pts.arr hH rfl) (List.take_of_length_le (by omega)) hl
theorem ResAt.arr {r : Nat} {n2 T : Nat} (hl : l.length = n) (hk : ∀ x, (e x).length = k) (hnk : n * k = n2) (ha : ∀ w, (isAgg t).run P w = .ok true w) (hs : ∀ w, (sizeOf t).run P w = .ok n2 w)
  (hx : lk env r = .ptr b 0 := by exact rfl) (hH : H[b]? = some (.row T k (l.map e)) := by exact rfl) : ResAt P env H (.cell r t) (.agg (l.map e).flatten) := by
 have hf := flat_len hk l
 rw [hl, hnk] at hf
 have := ResAt.cellA (b := r) (p := .ptr b 0) (n := n2) ha hs (Pts.arr hH rfl) hx (by rw [List.take_of_length_le (by omega)]; exact hf)
 rwa [List.take_of_length_le (by omega)] at this
theorem allK_rep {c : List A} {k : Nat} (h : c.length = k) : ∀ n, allK k (List.replicate n c)
 | 0 => trivial
 | n + 1 => ⟨h, allK_rep h n⟩
theorem OpH.allocArr {vs : Array Value} {z : α} (hz : ∀ w, (zeroValue t).run P w = .ok (.agg vs) w) (hv : (valL (List.replicate n (e z)).flatten).toArray = vs) (hs : sclL (List.replicate n (e z)).flatten = true) (hp : (List.replicate n (e z)).flatten.all plainA = true) (hk : Nat.beq (e z).length k = true)
  (ho : o.op = .alloc t := by exact rfl) : OpH P o env H (.ptr H.length 0) (H ++ [.row t k ((List.replicate n z).map e)]) := by
 intro fr ro σ N a w r
 have hl : LR ro [] w (List.replicate n (e z)).flatten (valL (List.replicate n (e z)).flatten) := LR.ofVal hs
 have hsim := r.sim.allocRow (t := t) (rest := []) (allK_rep (Nat.eq_of_beq_eq_true hk) n) hl (hl.plain hp)
 rw [List.append_nil] at hsim
 have hm : (List.replicate n z).map e = List.replicate n (e z) := List.map_replicate
 refine ⟨.pointer (some ⟨w.heap.size, 0, none⟩), w.alloc (.cells (valL (List.replicate n (e z)).flatten).toArray t), ro, [some w.heap.size], ?_, ⟨w.heap.size, ?_, rfl⟩, hm ▸ hsim, Evolve.alloc _ r.sim.roLt r.sim.frLt⟩
 ·generalize a.eval = ρ at *
  have e1 : (newVar t (.agg vs)).run P w = .ok ⟨w.heap.size, 0, none⟩ (w.alloc (.cells vs t)) := rfl
  rw [hv]
  simp only [execOp, ho, Instr.alloc, Sem.run_bind, hz, Result.andThen, e1]
  rfl
 ·rw [← r.sim.len]; simp
theorem OpU.storeArr {T n2 : Nat} {l' : List α} {vs : List A} (h : l.length = n) (h' : l'.length = n) (hk : ∀ x, (e x).length = k) (hnk : n * k = n2) (hs : ∀ w, (sizeOf t).run P w = .ok n2 w)
  (hp : ∀ x, (e x).all plainA = true) (hd : ∀ x, dataL (e x) = true) (hvs : (l'.map e).flatten = vs)
  (ho : o.op = .store t x y := by exact rfl) (hx : opA env x = .ptr b 0 := by exact rfl) (hH : H[b]? = some (.row T k (l.map e)) := by exact rfl) (hy : opA env y = .agg vs := by exact rfl) :
  OpU P o env H (H.set b (.row T k (l'.map e))) := by
 intro fr ro σ N a w r
 subst hvs
 have h1 := opA_ok r x
 rw [hx] at h1
 obtain ⟨bb, h1, h2⟩ := h1
 have h3 := opA_ok r y
 rw [hy] at h3
 obtain ⟨m, h4, h5⟩ := h3
 obtain ⟨lv, q1, q2⟩ := r.sim.blk b _ _ h1 hH
 have hal : ∀ (L : List α), allK k (L.map e) := by
  intro L
  induction L with
  | nil => trivial
  | cons c L ih => exact ⟨hk c, ih⟩
 have hfl : (l'.map e).flatten.length = n2 := by rw [allK_length (hal l'), List.length_map, h', hnk]
 have hm : m.length = n2 := by rw [h5.length, hfl]
 have hpl : ∀ L : List α, (L.map e).flatten.all plainA = true := by
  intro L
  induction L with
  | nil => rfl
  | cons c L ih => simp only [List.map_cons, List.flatten_cons, List.all_append, hp c, ih, Bool.and_self]
 have hdt : ∀ cs ds : List A, dataL cs = true → dataL ds = true → dataL (cs ++ ds) = true := by
  intro cs
  induction cs with
  | nil => intro ds _ h; exact h
  | cons c cs ih =>
   intro ds h1 h2
   simp only [dataL, Bool.and_eq_true, List.cons_append] at h1 ⊢
   exact ⟨h1.1, ih ds h1.2 h2⟩
 have hdl : ∀ L : List α, dataL (L.map e).flatten = true := by
  intro L
  induction L with
  | nil => rfl
  | cons c L ih => simp only [List.map_cons, List.flatten_cons]; exact hdt _ _ (hd c) ih
 have hlen : n2 ≤ lv.length := by
  have := q2.length
  rw [List.length_map, h, hnk] at this
  exact this
 have hrun := run_storeCells (P := P) (vs := m) 0 0 q1 (by omega) (h5.plain (hpl l'))
 have hspl : splice lv 0 m = m ++ lv.drop n2 := by unfold splice; simp [hm]
 have hset := r.sim.set (x' := .row T k (l'.map e)) (obj := .cells (splice lv 0 m).toArray T (0, 0)) h1 hH rfl
  (fun y hy => shape_set q1 (splice_length (by omega)) y hy)
  (fun ex hex => by
   have hx := (h5.data (hdl l')).mono ex.nil
   rw [hspl] at hx hex ⊢
   exact ⟨_, hex, RL.of_flat (hal l') hx (h5.plain (hpl l'))⟩)
 refine ⟨_, ro, [], ?_, by simpa using hset.1, hset.2⟩
 generalize a.eval = ρ at *
 have hsz : (ρ y).cells.size = n2 := by rw [h4]; simp [Value.cells, hm]
 have hst : (storeVar t ⟨bb, 0, none⟩ (ρ y)).run P w = .ok () { w with heap := w.heap.setIfInBounds bb (.cells (splice lv 0 m).toArray T (0, 0)) } := by
  unfold storeVar
  rw [Sem.run_bind, hs]
  simp only [Result.andThen]
  rw [if_neg (by simp [hsz]), h4]
  have ec : (Value.agg m.toArray).cells.toList = m := by simp [Value.cells]
  rw [ec]
  simpa using hrun
 simp only [execOp, ho, h2, Instr.storeAt, Instr.sureAddr, pure_bind, Sem.run_bind, hst]
 rfl
end
end
theorem C.contains {P : Program} {ρ : Ren} (L : Lays.n144 P ρ) (hg : ρ.g 1 = gMax) {s t : List UInt8} {r : Bool} (h : hasSub s t = some r) : C P (ρ.f 144) [.str s, .str t] [] (fun a H => a = .bool r ∧ H = []) := by
 unfold hasSub at h
 cases q : Nat.blt s.length 4294967281 with
 | false => rw [q] at h; cases h
 | true =>
  rw [q] at h
  obtain rfl := Option.some.inj h
  intro fr ro σ vals w sim hv
  obtain ⟨v1, l1, rfl, h1, v2, l2, rfl, h2, h3⟩ := hv
  cases (show l2 = [] from h3)
  obtain ⟨m, hm⟩ := sim.roOk.gp.max
  have e1 : v1 = .string ⟨s.toArray⟩ := h1
  have e2 : v2 = .string ⟨t.toArray⟩ := h2
  subst e1 e2
  have hs : s.length < 4294967281 := by simpa using q
  refine (Any.strings_Contains L ⟨s.toArray⟩ ⟨t.toArray⟩ m w (by simpa [ByteArray.size] using hs) (by rw [hg]; exact hm)).mono ?_
  rintro e w' ⟨rfl, rfl⟩
  exact ⟨_, _, _, ro, [], rfl, ⟨rfl, rfl⟩, by simpa using sim, rfl, Evolve.refl _ _ _⟩
section
variable {P : Program} {o : Oper} {env : Env} {H : Heap} {fr ro : Nat → Prop} {σ : Sig} {w : World}
theorem Sim.touch (s : Sim fr ro σ H w) {b : Nat} {obj : Obj} (hro : ¬ ro b) (hfr : ¬ fr b) (ho : ∀ (i : Nat) (x : Blk), σ[i]? = some (some b) → H[i]? = some x → x.live = true → False)
  (hsh : ∀ y, w.shape? b = some y → ({ w with heap := w.heap.setIfInBounds b obj } : World).shape? b = some y) :
  Sim fr ro σ H { w with heap := w.heap.setIfInBounds b obj } ∧ Evolve fr ro w ro { w with heap := w.heap.setIfInBounds b obj } := by
 have hne : ∀ c, c ≠ b → ({ w with heap := w.heap.setIfInBounds b obj } : World).heap[c]? = w.heap[c]? := by
  intro c hc
  show (w.heap.setIfInBounds b obj)[c]? = _
  rw [Array.getElem?_setIfInBounds, if_neg (fun q => hc q.symm)]
 have hsz : ({ w with heap := w.heap.setIfInBounds b obj } : World).heap.size = w.heap.size := by simp
 have ev : Evolve fr ro w ro { w with heap := w.heap.setIfInBounds b obj } :=
  ⟨fun _ h => h, fun c h => hne c (fun q => hro (q ▸ h)), fun c h => hne c (fun q => hfr (q ▸ h)), by rw [hsz]; exact Nat.le_refl _, by
   intro c y h
   by_cases q : c = b
   ·subst q; exact hsh y h
   ·unfold World.shape? at h ⊢; rw [hne c q]; exact h, rfl, rfl, rfl, Nat.le_refl _⟩
 refine ⟨⟨s.len, s.roOk.to (fun _ q => q) ev.keepRo (fun c h => by rw [hsz]; exact s.roLt c h), fun c h => by rw [hsz]; exact s.frLt c h, s.roFr, ?_, s.inj, ?_⟩, ev⟩
 ·intro i c x h1 h2 h3
  rw [hsz]; exact s.own i c x h1 h2 h3
 ·intro i y x h1 h2
  refine (s.blk i y x h1 h2).keep (ev.ext0 σ) ?_
  rintro c rfl hl
  exact hne c (fun q => by subst q; exact ho i x h1 h2 hl)
theorem OpH.convB {T E i n t : Nat} {x : Operand} {es : List (List A)} (ht : P.underlying T = some (.slice E)) (hE : P.underlying E = some (.int .u8)) (hn : es.length = n) (h0 : Nat.blt 0 n = true)
  (ho : o.op = .convert T T x := by exact rfl) (hx : opA env x = .osl i 0 n 1 := by exact rfl) (hH : H[i]? = some (.row t 1 es) := by exact rfl) :
  OpH P o env H (.rsl 1 es) (H.set i .dead) := by
 intro fr ro σ N a w r
 subst hn
 have h1 := opA_ok r x
 rw [hx] at h1
 rcases h1 with ⟨hz, _⟩ | ⟨b, p, cap, t', m, h1, h2, h6, h3, h4, h5⟩
 ·rw [hz] at h0; simp at h0
 ·have hpos : 0 < es.length := by simpa using h0
  obtain rfl := h6 (by omega)
  obtain ⟨hb, hbro, hbfr⟩ := r.sim.own i b _ h1 hH rfl
  obtain ⟨l, q1, q2⟩ := r.sim.blk i _ _ h1 hH
  have s1 := r.sim.kill i
  have hnone : ∀ (j : Nat) (y : Blk), σ[j]? = some (some b) → (H.set i .dead)[j]? = some y → y.live = true → False := by
   intro j y g1 g2 g3
   by_cases q : j = i
   ·subst q
    rw [List.getElem?_set] at g2
    simp only [if_true] at g2
    split at g2
    ·cases g2; simp [Blk.live] at g3
    ·simp at g2
   ·rw [List.getElem?_set_ne (fun z => q z.symm)] at g2
    exact q (r.sim.inj j i b y _ g1 h1 g2 hH g3 rfl)
  let fz : Nat × Nat := (l.length, l.length + 1)
  have hsh : ∀ y, w.shape? b = some y → ({ w with heap := w.heap.setIfInBounds b (.cells l.toArray t fz) } : World).shape? b = some y := by
   intro y hy
   unfold World.shape? at hy ⊢
   rw [q1] at hy
   have e : (w.heap.setIfInBounds b (.cells l.toArray t fz))[b]? = some (.cells l.toArray t fz) := by rw [Array.getElem?_setIfInBounds, if_pos rfl, if_pos hb]
   simp only [e]
   exact hy
  obtain ⟨s2, ev2⟩ := s1.touch (obj := .cells l.toArray t fz) hbro hbfr hnone hsh
  have s3 := s2.addRo (b := b) (by simpa using hb) hbfr hnone
  have hheap : ({ w with heap := w.heap.setIfInBounds b (.cells l.toArray t fz) } : World).heap[b]? = some (.cells (([] : List Value) ++ l).toArray t fz) := by
   show (w.heap.setIfInBounds b _)[b]? = _
   rw [Array.getElem?_setIfInBounds, if_pos rfl, if_pos hb]; rfl
  have ext2 : Ext ro [] w ro [] { w with heap := w.heap.setIfInBounds b (.cells l.toArray t fz) } := ev2.ext0 []
  refine ⟨.slice (some ⟨b, 0 * 1, none⟩) es.length cap, _, fun c => ro c ∨ c = b, [], ?_, ?_, by simpa using s3, ev2.trans (Evolve.same fun _ q => .inl q)⟩
  ·have hf : w.freeze ⟨b, l.length, none⟩ 1 = { w with heap := w.heap.setIfInBounds b (.cells l.toArray t fz) } := by
    unfold World.freeze
    simp only [Nat.one_ne_zero, if_false]
    rw [modify_eq q1]
    rfl
   have hms : (markStringish ⟨b, 0 * 1, none⟩).run P w = .ok () { w with heap := w.heap.setIfInBounds b (.cells l.toArray t fz) } := by
    rw [← hf]
    unfold markStringish
    simp [shape, freeze, Sem.run, World.shape?, q1, Result.andThen]
   have hu : ∀ w, (underlying T).run P w = .ok (.slice E) w := run_underlying ht
   have hu2 : ∀ w, (underlying E).run P w = .ok (.int .u8) w := run_underlying hE
   generalize a.eval = ρ at *
   simp only [execOp, ho, h2, convert, Sem.run_bind, hu, hu2, Result.andThen, beq_self_eq_true, hms, Sem.run_pure]
  ·refine ⟨some ⟨b, 0 * 1, none⟩, cap, rfl, h3, .inr ⟨b, 0 * 1, rfl, .inr rfl, ?_⟩⟩
   have := RL.toRR (pre := []) hheap (q2.mono ext2)
   exact (by simpa using this : RR ro [] _ b 1 es (0 * 1)).keep ⟨fun _ q => .inl q, fun _ _ => rfl, fun _ _ q => q, fun _ _ q => q⟩ rfl
end
mutual
theorem renA_data (ρ : Nat → Nat) : ∀ {a : A}, dataA a = true → renA ρ a = a
 | .any, _ => rfl
 | .bool _, _ => rfl
 | .int _ _, _ => rfl
 | .str _, _ => rfl
 | .nilp, _ => rfl
 | .ptr _ _, h => by simp [dataA] at h
 | .rp _, _ => rfl
 | .nils, _ => rfl
 | .rsl _ _, _ => rfl
 | .osl _ _ _ _, h => by simp [dataA] at h
 | .agg cs, h => by simp only [dataA] at h; simp only [renA, renL_data ρ h]
 | .fn f a c, h => by simp only [dataA, Bool.and_eq_true] at h; simp only [renA, renL_data ρ h.1, renL_data ρ h.2]
 | .nilf, _ => rfl
 | .iface t a, h => by simp only [dataA] at h; simp only [renA, renA_data ρ h]
 | .nilif, _ => rfl
 | .map _, h => by simp [dataA] at h
 | .nilm, _ => rfl
 | .tup vs, h => by simp only [dataA] at h; simp only [renA, renL_data ρ h]
theorem renL_data (ρ : Nat → Nat) : ∀ {l : List A}, dataL l = true → renL ρ l = l
 | [], _ => rfl
 | a :: l, h => by simp only [dataL, Bool.and_eq_true] at h; simp only [renL, renA_data ρ h.1, renL_data ρ h.2]
end
theorem flat_data {α : Type} {e : α → List A} (hd : ∀ x, dataL (e x) = true) : ∀ L : List α, dataL (L.map e).flatten = true
 | [] => rfl
 | c :: L => by
  have hdt : ∀ cs ds : List A, dataL cs = true → dataL ds = true → dataL (cs ++ ds) = true := by
   intro cs
   induction cs with
   | nil => intro ds _ h; exact h
   | cons c cs ih =>
    intro ds h1 h2
    simp only [dataL, Bool.and_eq_true, List.cons_append] at h1 ⊢
    exact ⟨h1.1, ih ds h1.2 h2⟩
  simp only [List.map_cons, List.flatten_cons]; exact hdt _ _ (hd c) (flat_data hd L)
theorem ren_arr {α : Type} {e : α → List A} (hd : ∀ x, dataL (e x) = true) (ρ : Nat → Nat) (l : List α) : renA ρ (.agg (l.map e).flatten) = .agg (l.map e).flatten :=
 renA_data ρ (by simp only [dataA]; exact flat_data hd l)
end Go.Sw
