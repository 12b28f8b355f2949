/- Rows of places with bounds. -/
import Derived.Test.YtkjlhfabbbomjaaGreatDoorSxI
set_option linter.unusedVariables false
set_option linter.unusedSectionVars false
set_option linter.unusedSimpArgs false
namespace Go.Sw
section
variable {P : Program} {o : Oper} {env : Env} {H : Heap} {fr ro : Nat → Prop} {σ : Sig} {w : World}
theorem Le.toEnts {h0 i t b1 b2 : Nat} {es : List (List A)} {l : List Ent} (hH : H[i]? = some (.rowr t 3 es)) (he : l.map (eC b1 b2) = es) : Le h0 env H env (H.set i (.ents t b1 b2 l)) := by
 subst he
 intro fr ro σ N a w r
 refine ⟨ro, σ, ⟨r.sim.weaken (x' := .ents t b1 b2 l) hH rfl ?_, r.env, r.size, r.defers⟩, fun _ q => q, rfl⟩
 intro y h
 cases y with
 | none => exact h.elim
 | some b => exact h
theorem eC_allK {b1 b2 : Nat} : ∀ (l : List Ent), allK 3 (l.map (eC b1 b2))
 | [] => trivial
 | e :: l => ⟨rfl, eC_allK l⟩
theorem Sim.phantomE (s : Sim fr ro σ H w) (t b1 b2 : Nat) : Sim fr ro (σ ++ [none]) (H ++ [.ents t b1 b2 []]) w := by
 have ext : Ext ro σ w ro (σ ++ [none]) w := ⟨fun _ q => q, fun _ _ => rfl, fun _ _ q => q, fun _ _ h => sig_append h⟩
 have hl := s.len
 have hcase : ∀ (j : Nat) (v : Blk), (H ++ [Blk.ents t b1 b2 []])[j]? = some v → (j < H.length ∧ H[j]? = some v) ∨ (j = H.length ∧ v = .ents t b1 b2 []) := by
  intro j v h
  rcases Nat.lt_trichotomy j H.length with q | q | q
  ·rw [List.getElem?_append_left q] at h; exact .inl ⟨q, h⟩
  ·subst q; simp at h; exact .inr ⟨rfl, h.symm⟩
  ·rw [List.getElem?_eq_none (by simp; omega)] at h; cases h
 have hσ : ∀ (j : Nat) (z : Option Nat), (σ ++ [none])[j]? = some z → (j < σ.length ∧ σ[j]? = some z) ∨ (j = σ.length ∧ z = none) := by
  intro j z h
  rcases Nat.lt_trichotomy j σ.length with q | q | q
  ·rw [List.getElem?_append_left q] at h; exact .inl ⟨q, h⟩
  ·subst q; simp at h; exact .inr ⟨rfl, h.symm⟩
  ·rw [List.getElem?_eq_none (by simp; omega)] at h; cases h
 refine ⟨by simp [hl], s.roOk, s.frLt, s.roFr, fun i b x q1 q2 q3 => ?_, fun i j b x y q1 q2 q3 q4 q5 q6 => ?_, fun i z x q1 q2 => ?_⟩
 ·rcases hσ i _ q1 with ⟨r1, r2⟩ | ⟨_, r⟩
  ·rcases hcase i x q2 with ⟨_, r3⟩ | ⟨r3, _⟩
   ·exact s.own i b x r2 r3 q3
   ·omega
  ·cases r
 ·rcases hσ i _ q1 with ⟨r1, r2⟩ | ⟨_, r⟩
  ·rcases hσ j _ q2 with ⟨r1', r2'⟩ | ⟨_, r⟩
   ·rcases hcase i x q3 with ⟨_, r3⟩ | ⟨r3, _⟩
    ·rcases hcase j y q4 with ⟨_, r4⟩ | ⟨r4, _⟩
     ·exact s.inj i j b x y r2 r2' r3 r4 q5 q6
     ·omega
    ·omega
   ·cases r
  ·cases r
 ·rcases hσ i _ q1 with ⟨r1, r2⟩ | ⟨r1, rfl⟩
  ·rcases hcase i x q2 with ⟨_, r3⟩ | ⟨r3, _⟩
   ·exact (s.blk i z x r2 r3).keep ext fun _ _ _ => rfl
   ·omega
  ·rcases hcase i x q2 with ⟨r3, _⟩ | ⟨_, rfl⟩
   ·omega
   ·rfl
theorem Le.phantomE {h0 i m t T b1 b2 : Nat} {cs : List A} (hh : Nat.ble h0 H.length = true) (hH : H[i]? = some (.cells T cs)) (hm : cs[m]? = some .nils) :
  Le h0 env H env (H.set i (.cells T (cs.set m (.osl H.length 0 0 3))) ++ [.ents t b1 b2 []]) := by
 intro fr ro σ N a w r
 have hh' : h0 ≤ H.length := Nat.le_of_ble_eq_true hh
 have hi : i < H.length := (List.getElem?_eq_some_iff.1 hH).1
 have ext : Ext ro σ w ro (σ ++ [none]) w := ⟨fun _ q => q, fun _ _ => rfl, fun _ _ q => q, fun _ _ h => sig_append h⟩
 have s := r.sim.phantomE t b1 b2
 have hi' : (H ++ [Blk.ents t b1 b2 []])[i]? = some (.cells T cs) := by rw [List.getElem?_append_left hi]; exact hH
 have e0 : H.set i (.cells T (cs.set m (.osl H.length 0 0 3))) ++ [.ents t b1 b2 []] = (H ++ [Blk.ents t b1 b2 []]).set i (.cells T (cs.set m (.osl H.length 0 0 3))) := by
  rw [List.set_append_left _ _ hi]
 rw [e0]
 refine ⟨ro, σ ++ [none], ⟨s.weaken hi' rfl ?_, fun q => (r.env q).mono ext, r.size, r.defers⟩, fun _ q => q, take_append_sig (by rw [r.sim.len]; exact hh')⟩
 intro y h
 cases y with
 | none => exact h
 | some b =>
  obtain ⟨l, g1, g2, g3⟩ := h
  refine ⟨l, g1, ?_, g3⟩
  clear g1 g3 hi' e0 hH
  induction cs generalizing m l with
  | nil => cases hm
  | cons c cs ih =>
   obtain ⟨v, l', rfl, q1, q2⟩ := g2
   cases m with
   | zero =>
    simp at hm
    subst hm
    exact ⟨v, l', rfl, .inl ⟨rfl, q1⟩, q2⟩
   | succ m => exact ⟨v, l', rfl, q1, ih (by simpa using hm) l' q2⟩
theorem Le.anyC {h0 i m T : Nat} {cs : List A} (hH : H[i]? = some (.cells T cs)) : Le h0 env H env (H.set i (.cells T (cs.set m .any))) := by
 intro fr ro σ N a w r
 refine ⟨ro, σ, ⟨r.sim.weaken hH rfl ?_, r.env, r.size, r.defers⟩, fun _ q => q, rfl⟩
 intro y h
 cases y with
 | none => exact h
 | some b =>
  obtain ⟨l, g1, g2, g3⟩ := h
  refine ⟨l, g1, ?_, g3⟩
  clear g1 g3 hH
  induction cs generalizing m l with
  | nil => exact g2
  | cons c cs ih =>
   obtain ⟨v, l', rfl, q1, q2⟩ := g2
   cases m with
   | zero => exact ⟨v, l', rfl, trivial, q2⟩
   | succ m => exact ⟨v, l', rfl, q1, ih l' q2⟩
theorem srcE {j m t b1 b2 : Nat} {l : List Ent} {v : Value} (s : Sim fr ro σ H w) (hH : H[j]? = some (.ents t b1 b2 l)) (hm : l.length = m) (h : VR ro σ w (.osl j 0 m 3) v) :
  (∃ a c, v = .slice a m c) ∧ ∃ vs : List Value, (∀ w' : World, w'.heap = w.heap → (Builtin.firstCells 3 m v).run P w' = .ok vs.toArray w') ∧ LR ro σ w (l.map (eC b1 b2)).flatten vs ∧ ∀ v ∈ vs, plainV v := by
 rcases h with ⟨rfl, rfl⟩ | ⟨b, p, cap, t', mm, h1, rfl, h2, h3, h4, h5⟩
 ·have : l = [] := List.length_eq_zero_iff.1 hm
  subst this
  exact ⟨⟨none, 0, rfl⟩, [], fun _ _ => run_first0, rfl, by simp⟩
 ·refine ⟨⟨_, cap, rfl⟩, ?_⟩
  obtain ⟨lb, q1, q2⟩ := s.blk j _ _ h1 hH
  have hr := RL.toRR (pre := []) (by simpa using q1) q2
  by_cases hc : 0 < cap
  ·obtain rfl := h2 hc
   obtain ⟨r1, r2, r3⟩ := hr.flat
   have := run_first (P := P) (k := 3) (n := m) (c := cap) r1 (by rw [r3]; simp [hm])
   simpa using this
  ·obtain rfl : m = 0 := by omega
   have : l = [] := List.length_eq_zero_iff.1 hm
   subst this
   exact ⟨[], fun _ _ => run_first0, rfl, by simp⟩
theorem OpH.appE {c : Call} {T T' t e' i j n m b1 b2 : Nat} {x y : Operand} {l1 l2 : List Ent} (E : ElemTy P T t 3) (hd : ∀ w, (underlying T').run P w = .ok (.slice e') w) (hmax : Nat.ble (l1.length + l2.length) lenMax = true) (hn0 : Nat.blt 0 n = true)
  (ho : o.op = .call c := by exact rfl) (hc : c = { callee := .builtin .append, args := #[x, y], argTypes := #[T, T'] } := by exact rfl) (hx : opA env x = .osl i 0 n 3 := by exact rfl) (hH : H[i]? = some (.ents t b1 b2 l1) := by exact rfl) (hn : l1.length = n := by exact rfl)
  (hy : opA env y = .osl j 0 m 3 := by exact rfl) (hHj : H[j]? = some (.ents t b1 b2 l2) := by exact rfl) (hm : l2.length = m := by exact rfl) :
  OpH P o env H (.osl H.length 0 (l1 ++ l2).length 3) (H.set i .dead ++ [.ents t b1 b2 (l1 ++ l2)]) := by
 intro fr ro σ N a w r
 have hmax' := Nat.le_of_ble_eq_true hmax
 have hn0' : 0 < n := by simpa using hn0
 have h1 := opA_ok r x
 rw [hx] at h1
 have h2 := opA_ok r y
 rw [hy] at h2
 obtain ⟨⟨ay, cy, e1⟩, vs, q3, q4, q5⟩ := srcE (P := P) r.sim hHj hm h2
 rw [e1] at q3
 obtain ⟨_, old, o1, o2, o3⟩ := srcE (P := P) r.sim hH hn h1
 have hlt : i < H.length := (List.getElem?_eq_some_iff.1 hH).1
 have hkl : (H.set i .dead).length = H.length := List.length_set
 rw [List.length_append, hn, hm]
 rcases h1 with ⟨q, _⟩ | ⟨b, p, cap, t', mm, h3, h1, h4, h5, h6, h7⟩
 ·omega
 have hblk := r.sim.blk i _ _ h3 hH
 obtain ⟨lb, g1, g2⟩ := hblk
 have hll : vs.length = m * 3 := by rw [q4.length, allK_length (eC_allK l2)]; simp [hm]
 have hol : old.length = n * 3 := by rw [o2.length, allK_length (eC_allK l1)]; simp [hn]
 rw [h1] at o1
 by_cases hcap : n + m ≤ cap
 ·obtain rfl : p = 0 * 3 := h4 (by omega)
  have hrun := run_fits (t := o.type) E hd (ad := some ⟨b, 0 * 3, none⟩) (n := n) (m := m) (cap := cap) (c := cy) (ax := ay) hcap (q3 w rfl)
  have hsz : (n + m) * 3 ≤ lb.length := by
   have : w.shape? b = some (t, lb.length) := by unfold World.shape?; rw [g1]; simp
   rw [this] at h6
   cases h6
   exact Nat.le_trans (Nat.mul_le_mul_right 3 hcap) (by simpa using h7)
  rw [Nat.add_mul] at hsz
  have hst := run_storeCells (P := P) (vs := vs) (n * 3) 0 g1 (by rw [hll]; simpa using hsz) q5
  have hset := r.sim.set (x' := .ents t b1 b2 (l1 ++ l2)) (obj := .cells (splice lb (n * 3) vs).toArray t (0, 0)) h3 hH rfl
   (fun y hy => shape_set g1 (splice_length (by rw [hll]; exact hsz)) y hy)
   (fun ex hex => ⟨_, hex, by
    have := (g2.app (n := n) (by simp [hn]) (eC_allK l2) q4 q5).mono ex
    rw [List.take_of_length_le (by simp [hn])] at this
    rw [List.map_append]; exact this⟩)
  have sm := hset.1.moved (i := i) (List.getElem?_set_self hlt) h3
  rw [List.set_set] at sm
  refine ⟨.slice (some ⟨b, 0 * 3, none⟩) (n + m) cap, _, ro, [some b], ?_, .inr ⟨b, 0 * 3, cap, t', mm, ?_, rfl, h4, hcap, ?_, h7⟩, sm, hset.2⟩
  ·refine exec_append ho hc _ ?_
   rw [h1, e1, hrun]
   simp only [addr_add, Nat.zero_mul, Nat.zero_add, Sem.run_bind, hst, Result.andThen, Sem.run_pure]
   simp
  ·rw [← r.sim.len]; simp
  ·exact hset.2.shape _ _ h6
 ·obtain ⟨rest, nc, hnc, hrl, hrun⟩ := run_grow (t := o.type) E hd rfl (by omega) (by omega) q3 o1
  let w0 : World := { w with drawn := w.drawn + 1 }
  have s0 : Sim fr ro σ (H.set i .dead) w0 := (r.sim.kill i).heap rfl
  have e0 : Evolve fr ro w ro w0 := Evolve.heap rfl rfl rfl rfl (Nat.le_succ _)
  have hfl : LR ro σ w0 ((l1 ++ l2).map (eC b1 b2)).flatten (old ++ vs) := by
   rw [List.map_append, List.flatten_append]
   exact (o2.append q4).mono (Ext.heap (w := w) (w' := w0) rfl)
  have hpl : ∀ v ∈ old ++ vs, plainV v := fun v hv => by rcases List.mem_append.1 hv with q | q; exact o3 v q; exact q5 v q
  have s1 := s0.alloc (x := .ents t b1 b2 (l1 ++ l2)) (obj := .cells ((old ++ vs) ++ rest).toArray t) ⟨(old ++ vs) ++ rest, alloc_new _ _, (RL.of_flat (eC_allK _) hfl hpl).mono ((Evolve.alloc (fr := fr) _ s0.roLt s0.frLt).ext σ _)⟩
  have e1' : Evolve fr ro w0 ro (w0.alloc (.cells ((old ++ vs) ++ rest).toArray t)) := Evolve.alloc _ s0.roLt s0.frLt
  refine ⟨_, _, ro, [some w.heap.size], exec_append ho hc a.eval (by rw [h1, e1]; exact hrun), .inr ⟨w.heap.size, 0, nc, t, (old ++ vs ++ rest).length, ?_, rfl, fun _ => by simp, hnc, ?_, ?_⟩, s1, e0.trans e1'⟩
  ·rw [← r.sim.len]; simp
  ·have := alloc_new w0 (.cells ((old ++ vs) ++ rest).toArray t)
   unfold World.shape?
   rw [show w.heap.size = w0.heap.size from rfl, this]; simp
  ·simp only [List.length_append, hrl, hol, hll, Nat.zero_add]
   omega
theorem OpH.appE' {c : Call} {T T' t e' i j n m b1 b2 : Nat} {x y : Operand} {l1 l2 r : List Ent} (h : app l1 l2 = some r) (E : ElemTy P T t 3) (hd : ∀ w, (underlying T').run P w = .ok (.slice e') w) (hn0 : Nat.blt 0 n = true)
  (ho : o.op = .call c := by exact rfl) (hc : c = { callee := .builtin .append, args := #[x, y], argTypes := #[T, T'] } := by exact rfl) (hx : opA env x = .osl i 0 n 3 := by exact rfl) (hH : H[i]? = some (.ents t b1 b2 l1) := by exact rfl) (hn : l1.length = n := by exact rfl)
  (hy : opA env y = .osl j 0 m 3 := by exact rfl) (hHj : H[j]? = some (.ents t b1 b2 l2) := by exact rfl) (hm : l2.length = m := by exact rfl) :
  OpH P o env H (.osl H.length 0 r.length 3) (H.set i .dead ++ [.ents t b1 b2 r]) := by
 obtain ⟨h1, rfl⟩ := app_ok h
 exact OpH.appE E hd (Nat.ble_eq_true_of_le h1) hn0 ho hc hx hH hn hy hHj hm
theorem Pts.ents {i off t e f b1 b2 : Nat} {l : List Ent} {x : Ent} {cs' : List A} (he : l[e]? = some x) (hH : H[i]? = some (.ents t b1 b2 l) := by exact rfl) (ho : off = e * 3 + f := by exact rfl) (hcs : (eC b1 b2 x).drop f = cs' := by exact rfl) : Pts H (.ptr i off) cs' := by
 intro fr ro σ w v s h
 obtain ⟨b, h1, h2⟩ := h
 obtain ⟨lb, q1, q2⟩ := s.blk i _ _ h1 hH
 have he' : (l.map (eC b1 b2))[e]? = some (eC b1 b2 x) := by rw [List.getElem?_map, he]; rfl
 have := ((RL.toRR (pre := []) (by simpa using q1) q2).get e he').2.drop f
 refine ⟨b, off, h2, ?_⟩
 rw [← hcs, ho]
 simpa using this
def getE (cs : List A) (s : Int) (e : Ent) : Option Int := bif e.fl then (bif e.off == 0 then some s else none) else match cs[e.off]? with
 | some (.int .i64 v) => some v
 | _ => none
def putE {F : Type} (put : F → Nat → Int → Option F) (x : F) (s : Int) (e : Ent) (v : Int) : Option (F × Int) :=
 bif e.fl then (bif e.off == 0 then some (x, v) else none) else (put x e.off v).map fun y => (y, s)
abbrev entP (b1 b2 : Nat) (e : Ent) : A := .ptr (bif e.fl then b2 else b1) e.off
theorem drop_get {l : List A} {i : Nat} {a : A} (h : l[i]? = some a) : ∃ r, l.drop i = a :: r := by
 obtain ⟨hi, rfl⟩ := List.getElem?_eq_some_iff.1 h
 exact ⟨_, List.drop_eq_getElem_cons hi⟩
theorem OpV.loadE {t b1 b2 T1 T2 : Nat} {x : Operand} {e : Ent} {cs : List A} {s v : Int} (h : getE cs s e = some v) (ha : ∀ w, (isAgg t).run P w = .ok false w) (ho : o.op = .load t x := by exact rfl) (hx : opA env x = entP b1 b2 e := by exact rfl)
  (h1 : H[b1]? = some (.cells T1 cs) := by exact rfl) (h2 : H[b2]? = some (.cells T2 [.int .i64 s]) := by exact rfl) : OpV P o env H (.int .i64 v) := by
 unfold getE at h
 unfold entP at hx
 cases hf : e.fl with
 | true =>
  rw [hf] at h hx
  simp only [cond_true] at h hx
  cases he : e.off == 0 with
  | false => rw [he] at h; cases h
  | true =>
   rw [he] at h
   have e0 : e.off = 0 := by simpa using he
   rw [e0] at hx
   have hv : s = v := by simpa using h
   subst hv
   exact OpV.load ho ha hx (Pts.cells (cs' := [.int .i64 s]) h2 rfl)
 | false =>
  rw [hf] at h hx
  simp only [cond_false] at h hx
  cases hg : cs[e.off]? with
  | none => rw [hg] at h; cases h
  | some a =>
   rw [hg] at h
   obtain ⟨r, hr⟩ := drop_get hg
   cases a with
   | int k n =>
    cases k <;> first | (cases h; exact OpV.load ho ha hx (Pts.cells h1 hr)) | cases h
   | _ => cases h
theorem splice_one {l : List A} {i : Nat} {a : A} (h : i < l.length) : splice l i [a] = l.set i a := by
 unfold splice
 rw [List.set_eq_take_append_cons_drop, if_pos h]
 simp
theorem set_same {i : Nat} {b : Blk} (h : H[i]? = some b) : H.set i b = H := by
 apply List.ext_getElem?
 intro j
 rw [List.getElem?_set]
 by_cases e : i = j
 ·subst e
  rw [if_pos rfl, if_pos (List.getElem?_eq_some_iff.1 h).1, h]
 ·rw [if_neg e]
theorem OpU.storeE {F : Type} {c : F → List A} {put : F → Nat → Int → Option F} {t b1 b2 T1 T2 : Nat} {x y : Operand} {e : Ent} {f f' : F} {s s' v : Int} (h : putE put f s e v = some (f', s')) (hput : ∀ x o v y, put x o v = some y → c y = (c x).set o (.int .i64 v) ∧ o < (c x).length)
  (hs : ∀ w, (sizeOf t).run P w = .ok 1 w) (ho : o.op = .store t x y := by exact rfl) (hx : opA env x = entP b1 b2 e := by exact rfl) (h1 : H[b1]? = some (.cells T1 (c f)) := by exact rfl) (h2 : H[b2]? = some (.cells T2 [.int .i64 s]) := by exact rfl) (hy : opA env y = .int .i64 v := by exact rfl)
  (hb : Nat.beq b1 b2 = false := by exact rfl) : OpU P o env H ((H.set b1 (.cells T1 (c f'))).set b2 (.cells T2 [.int .i64 s'])) := by
 have hne : b1 ≠ b2 := fun q => by subst q; rw [Nat.beq_refl] at hb; cases hb
 unfold putE at h
 unfold entP at hx
 cases hf : e.fl with
 | true =>
  rw [hf] at h hx
  simp only [cond_true] at h hx
  cases he : e.off == 0 with
  | false => rw [he] at h; cases h
  | true =>
   rw [he] at h
   have e0 : e.off = 0 := by simpa using he
   rw [e0] at hx
   obtain ⟨rfl, rfl⟩ : f = f' ∧ v = s' := by simpa using h
   rw [set_same h1]
   exact OpU.store (cs := [.int .i64 s]) (vs := [.int .i64 v]) (cs' := [.int .i64 v]) (v := .int .i64 v) ho hx h2 hs hy rfl rfl rfl rfl rfl rfl
 | false =>
  rw [hf] at h hx
  simp only [cond_false] at h hx
  cases hp : put f e.off v with
  | none => rw [hp] at h; cases h
  | some g =>
   rw [hp] at h
   obtain ⟨rfl, rfl⟩ : g = f' ∧ s = s' := by simpa using h
   obtain ⟨q1, q2⟩ := hput _ _ _ _ hp
   have e2 : (H.set b1 (.cells T1 (c g)))[b2]? = some (.cells T2 [.int .i64 s]) := by rw [List.getElem?_set_ne hne]; exact h2
   rw [set_same e2]
   exact OpU.store (cs := c f) (vs := [.int .i64 v]) (cs' := c g) (v := .int .i64 v) ho hx h1 hs hy rfl rfl rfl rfl (Nat.ble_eq_true_of_le q2) (by rw [splice_one q2, q1])
end
section
variable {P : Program} {h0 N : Nat} {A B C : Code} {env : Env} {H : Heap} {Q : Post}
theorem TC.cut3E {S B1 : Type} {b : Ctl S B1} (Eb : S → Env) (Hb : S → Heap) (h : TC P h0 N A env H (Seq P h0 N B (CutEP h0 b Eb Hb (Seq P h0 N C Q)))) (k : ∀ s env H, b = .cont s → Le h0 env H (Eb s) (Hb s) → Seq P h0 N C Q .normal env H) : TC P h0 N (.seq A (.seq B C)) env H Q := by
 refine TC.seq (h.mono fun x env' H' q => ?_)
 cases x with
 | normal => exact TC.seq (TC.cutE Eb Hb q k)
 | exit id => exact q
 | ret => exact q
end
end Go.Sw
