/- Short forms of the rules, for generated walks; rules on typed lists. -/
import Derived.Test.YtkjlhfabbbomjaaGreatDoorSwJ
set_option linter.unusedVariables false
set_option linter.unusedSectionVars false
set_option linter.unusedSimpArgs false
namespace Go.Sw
section
variable {P : Program} {h0 N : Nat} {env : Env} {H H' : Heap} {Q : Post} {all : Array Oper} {o : Oper} {l : List Oper} {d : Nat} {x : A}
theorem vV (hop : OpV P o env H x) (k : WO P h0 N all l (up env d x) H Q) (hg : wantedA all o env true := by exact rfl) (hd : o.dst = some d := by exact rfl) (hN : Nat.blt d N = true := by exact rfl) : WO P h0 N all (o :: l) env H Q :=
 WO.opV hg hd hN hop k
theorem vH (hop : OpH P o env H x H') (k : WO P h0 N all l (up env d x) H' Q) (hg : wantedA all o env true := by exact rfl) (hd : o.dst = some d := by exact rfl) (hN : Nat.blt d N = true := by exact rfl) (hh : Nat.ble h0 H.length = true := by exact rfl) : WO P h0 N all (o :: l) env H Q :=
 WO.opH (Nat.le_of_ble_eq_true hh) hg hd hN hop k
theorem vU (hop : OpU P o env H H') (k : WO P h0 N all l env H' Q) (hg : wantedA all o env true := by exact rfl) (hd : o.dst = none := by exact rfl) (hh : Nat.ble h0 H.length = true := by exact rfl) : WO P h0 N all (o :: l) env H Q :=
 WO.opU (Nat.le_of_ble_eq_true hh) hg hd hop k
theorem gT {j s : Nat} {c x : Bool} (hx : x = c) (hg : o.guard = some (j, c) := by exact rfl) (hs : (all[j]?).bind (·.dst) = some s := by exact rfl) (hl : lk env s = .bool x := by exact rfl) : wantedA all o env true := by
 unfold wantedA
 rw [hg]
 exact ⟨s, hs, .inl ⟨x, hl, by subst hx; cases x <;> rfl⟩⟩
theorem gF {j s : Nat} {c x : Bool} (hx : x = !c) (hg : o.guard = some (j, c) := by exact rfl) (hs : (all[j]?).bind (·.dst) = some s := by exact rfl) (hl : lk env s = .bool x := by exact rfl) : wantedA all o env false := by
 unfold wantedA
 rw [hg]
 exact ⟨s, hs, .inl ⟨x, hl, by subst hx; cases c <;> rfl⟩⟩
theorem gU {j s : Nat} {c : Bool} (hg : o.guard = some (j, c) := by exact rfl) (hs : (all[j]?).bind (·.dst) = some s := by exact rfl) (hl : lk env s = .tup [] := by exact rfl) : wantedA all o env false := by
 unfold wantedA
 rw [hg]
 exact ⟨s, hs, .inr ⟨hl, rfl⟩⟩
theorem WO.atV {x x' : A} (hx : x' = x) (hH : H' = H) (k : WO P h0 N all l (up env d x) H Q) : WO P h0 N all l (up env d x') H' Q := by subst hx; subst hH; exact k
theorem WO.atH (hH : H' = H) (k : WO P h0 N all l env H Q) : WO P h0 N all l env H' Q := by subst hH; exact k
theorem WO.callD {f : FuncId} {args argsc : List A} {Hc : Heap} {Qr : A → Heap → Prop} (π : List Nat) (hop : OpC P o env H f args) (hC : C P f argsc Hc Qr)
  (k : ∀ r H1, Qr r H1 → WO P h0 N all l (up env d (renA (rho π H.length) r)) (setAll H π (H1.map (renB (rho π H.length)))) Q)
  (hargs : args = renL (rho π H.length) argsc := by exact rfl) (hH : π.map (fun p => H[p]?) = (Hc.map (renB (rho π H.length))).map some := by exact rfl) (hπ : π.Nodup := by decide)
  (hg : wantedA all o env true := by exact rfl) (hd : o.dst = some d := by exact rfl) (hN : Nat.blt d N = true := by exact rfl) (hh : Nat.ble h0 H.length = true := by exact rfl) : WO P h0 N all (o :: l) env H Q :=
 WO.call (d := some d) π (Nat.le_of_ble_eq_true hh) hg hd (fun x hx => by cases hx; simpa using hN) hop hargs hH hπ hC k
end
section
variable {P : Program} {o : Oper} {env : Env} {H : Heap} {α : Type} {e : α → List A}
theorem OpV.lenM {c : Call} {t et k : Nat} {x : Operand} {l : List α} (ht : ∀ w, (underlying t).run P w = .ok (.slice et) w) (ho : o.op = .call c := by exact rfl) (hc : c = { callee := .builtin .len, args := #[x], argTypes := #[t] } := by exact rfl)
  (hx : opA env x = .rsl k (l.map e) := by exact rfl) : OpV P o env H (.int .i64 l.length) := by
 have := OpV.lenR (H := H) ho hc ht hx
 rwa [List.length_map] at this
theorem OpV.ixM {t et k : Nat} {x y : Operand} {l : List α} {kk : IntKind} {i : Int} {v : α} (h : idx l i = some v) (ht : ∀ w, (underlying t).run P w = .ok (.slice et) w) (hs : ∀ w, (sizeOf et).run P w = .ok k w)
  (ho : o.op = .indexAddr t x y := by exact rfl) (hx : opA env x = .rsl k (l.map e) := by exact rfl) (hy : opA env y = .int kk i := by exact rfl) : OpV P o env H (.rp (e v)) :=
 OpV.ixR ho ht hs hx hy (idx_ok h).1 (map_get (idx_ok h).2)
theorem OpV.ixW {t et k b n : Nat} {x y : Operand} {l : List α} {kk : IntKind} {i : Int} {v : α} (h : idx l i = some v) (hn : l.length = n) (ht : ∀ w, (underlying t).run P w = .ok (.slice et) w) (hs : ∀ w, (sizeOf et).run P w = .ok k w)
  (ho : o.op = .indexAddr t x y := by exact rfl) (hx : opA env x = .osl b 0 n k := by exact rfl) (hy : opA env y = .int kk i := by exact rfl) : OpV P o env H (.ptr b (i.toNat * k)) := by
 have := idx_ok h
 have hlt : i.toNat < l.length := (List.getElem?_eq_some_iff.1 this.2).1
 have h2 := OpV.ixO (H := H) ho ht hs hx hy this.1 (by omega)
 rwa [Nat.zero_mul, Nat.zero_add] at h2
theorem Pts.ofRow {b t k f : Nat} {l : List α} {i : Int} {v : α} {cs' : List A} (h : idx l i = some v) (hH : H[b]? = some (.row t k (l.map e)) := by exact rfl) (hcs : (e v).drop f = cs' := by exact rfl) : Pts H (.ptr b (i.toNat * k + f)) cs' :=
 Pts.row hH rfl (map_get (idx_ok h).2) hcs
theorem Pts.ofRow0 {b t k : Nat} {l : List α} {i : Int} {v : α} {cs' : List A} (h : idx l i = some v) (hH : H[b]? = some (.row t k (l.map e)) := by exact rfl) (hcs : e v = cs' := by exact rfl) : Pts H (.ptr b (i.toNat * k)) cs' :=
 Pts.row (f := 0) hH rfl (map_get (idx_ok h).2) hcs
theorem OpH.appN {c : Call} {T T' et et' k : Nat} {x y : Operand} {ya : A} {m r : List α} (h : app [] m = some r) (E : ElemTy P T et k) (hd : ∀ w, (underlying T').run P w = .ok (.slice et') w) (hs : Src P H ya k (m.map e))
  (ho : o.op = .call c := by exact rfl) (hc : c = { callee := .builtin .append, args := #[x, y], argTypes := #[T, T'] } := by exact rfl) (hx : opA env x = .nils := by exact rfl) (hy : opA env y = ya := by exact rfl) :
  OpH P o env H (.osl H.length 0 r.length k) (H ++ [.row et k (r.map e)]) := by
 obtain ⟨h1, rfl⟩ := app_ok h
 have := OpH.appendNil E hd ho hc hx hy hs (by simpa using h1)
 simpa using this
theorem OpH.appO {c : Call} {T T' et et' k i n : Nat} {x y : Operand} {ya : A} {l m r : List α} (h : app l m = some r) (E : ElemTy P T et k) (hd : ∀ w, (underlying T').run P w = .ok (.slice et') w) (hs : Src P H ya k (m.map e))
  (hn : l.length = n := by exact rfl) (ho : o.op = .call c := by exact rfl) (hc : c = { callee := .builtin .append, args := #[x, y], argTypes := #[T, T'] } := by exact rfl) (hx : opA env x = .osl i 0 n k := by exact rfl)
  (hH : H[i]? = some (.row et k (l.map e)) := by exact rfl) (hy : opA env y = ya := by exact rfl) :
  OpH P o env H (.osl H.length 0 r.length k) (H.set i .dead ++ [.row et k (r.map e)]) := by
 obtain ⟨h1, rfl⟩ := app_ok h
 subst hn
 have := OpH.appendO E hd ho hc hx hH (by simp) hy hs (by simpa using h1) (gs := (l ++ m).map e) (by rw [List.take_of_length_le (by simp)]; simp)
 simpa using this
theorem Src.rM {k : Nat} {l : List α} : Src P H (.rsl k (l.map e)) k (l.map e) := Src.rsl
theorem Src.oM {i n k t : Nat} {l : List α} (hH : H[i]? = some (.row t k (l.map e)) := by exact rfl) (hn : l.length = n := by exact rfl) : Src P H (.osl i 0 n k) k (l.map e) :=
 Src.osl hH (by subst hn; rw [List.drop_zero, List.take_of_length_le (by simp)]) (by simp [hn])
theorem OpU.setW {t n b T k f : Nat} {x y : Operand} {l l' : List α} {i : Int} {v v' : α} {vs : List A} {a : A} {off : Nat} (h : idx l i = some v) (hl : setI l i v' = some l') (hs : ∀ w, (sizeOf t).run P w = .ok n w) (hoff : off = i.toNat * k + f) (hcs : splice (e v) f vs = e v')
  (ho : o.op = .store t x y := by exact rfl) (hx : opA env x = .ptr b off := by exact rfl) (hH : H[b]? = some (.row T k (l.map e)) := by exact rfl)
  (hy : opA env y = a := by exact rfl) (hk : knownA a = true := by exact rfl) (hv : cellsA a = vs := by exact rfl) (hn : vs.length = n := by exact rfl) (hp : vs.all plainA = true := by exact rfl) (hd : dataL vs = true := by exact rfl) (hf : Nat.ble (f + n) k = true := by exact rfl) :
  OpU P o env H (H.set b (.row T k (l'.map e))) := by
 refine OpU.storeRow ho hx hH hs hoff (map_get (idx_ok h).2) hy hk hv hn hp hd hf hcs ?_
 unfold setI at hl
 cases q : (decide (0 ≤ i) && decide (i < (l.length : Int))) with
 | false => rw [q] at hl; simp at hl
 | true => rw [q] at hl; rw [← Option.some.inj hl, List.map_set]
end
def ZR (a : A) (v : Value) : Prop := ∀ ro σ w, VR ro σ w a v
def ZL (as : List A) (l : List Value) : Prop := ∀ ro σ w, LR ro σ w as l
theorem ZR.int {k : IntKind} {n : Int} : ZR (.int k n) (.int k n) := fun _ _ _ => rfl
theorem ZR.bool {b : Bool} : ZR (.bool b) (.bool b) := fun _ _ _ => rfl
theorem ZR.str : ZR (.str []) (.string ⟨#[]⟩) := fun _ _ _ => rfl
theorem ZR.rsl {α : Type} {k : Nat} {e : α → List A} : ZR (.rsl k (List.map e [])) (.slice none 0 0) := fun _ _ _ => ⟨none, 0, rfl, Nat.le_refl _, .inl rfl⟩
theorem ZR.nils : ZR .nils (.slice none 0 0) := fun _ _ _ => rfl
theorem ZR.nilp : ZR .nilp (.pointer none) := fun _ _ _ => rfl
theorem ZR.nilf : ZR .nilf .nilFunc := fun _ _ _ => rfl
theorem ZR.nilm : ZR .nilm (.map none) := fun _ _ _ => rfl
theorem ZL.nil : ZL [] [] := fun _ _ _ => rfl
theorem ZL.cons {a : A} {v : Value} {as : List A} {l : List Value} (h : ZR a v) (k : ZL as l) : ZL (a :: as) (v :: l) := fun ro σ w => ⟨v, l, rfl, h ro σ w, k ro σ w⟩
theorem ZR.agg {as : List A} {l : List Value} (h : ZL as l) : ZR (.agg as) (.agg l.toArray) := fun ro σ w => ⟨l, rfl, h ro σ w⟩
section
variable {P : Program} {o : Oper} {env : Env} {H : Heap}
theorem OpH.allocZ {t : Nat} {z : Value} {v : A} {cs : List A} (hz : ∀ w, (zeroValue t).run P w = .ok z w) (hv : ZR v z) (ho : o.op = .alloc t := by exact rfl) (hk : knownA v = true := by exact rfl) (hcs : cellsA v = cs := by exact rfl) (hpl : cs.all plainA = true := by exact rfl) :
  OpH P o env H (.ptr H.length 0) (H ++ [.cells t cs]) := by
 intro fr ro σ N a w r
 obtain ⟨l, h2, h3⟩ := (hv ro σ w).cells hk
 subst hcs
 refine ⟨.pointer (some ⟨w.heap.size, 0, none⟩), w.alloc (.cells l.toArray t), ro, [some w.heap.size], ?_, ⟨w.heap.size, ?_, rfl⟩, r.sim.allocCells h3 (h3.plain hpl), Evolve.alloc _ r.sim.roLt r.sim.frLt⟩
 ·generalize a.eval = ρ at *
  have e : (newVar t z).run P w = .ok ⟨w.heap.size, 0, none⟩ (w.alloc (.cells l.toArray t)) := by
   unfold newVar; rw [h2]; rfl
  simp only [execOp, ho, Instr.alloc, Sem.run_bind, hz, Result.andThen, e]
  rfl
 ·rw [← r.sim.len]; simp
theorem equal_bool {t : TypeId} {p q : Bool} {w : World} (ht : ∀ w, (underlying t).run P w = .ok .bool w) : (Op.equal t (.bool p) (.bool q)).run P w = .ok (p == q) w := by
 have k : ∀ d, (Op.equalIn (d + 1) t (.bool p) (.bool q)).run P w = .ok (p == q) w := by
  intro d
  simp [Op.equalIn, ht, go_sem]
 exact k 9999
theorem OpV.boolNe {t u : TypeId} {x y : Operand} {p q : Bool} (ht : ∀ w, (underlying t).run P w = .ok .bool w) (ho : o.op = .binOp .neq t x y u := by exact rfl) (hx : opA env x = .bool p := by exact rfl) (hy : opA env y = .bool q := by exact rfl) : OpV P o env H (.bool (p != q)) := by
 intro fr ro σ N a w r
 have h1 := opA_bool r hx
 have h2 := opA_bool r hy
 refine ⟨_, ?_, rfl⟩
 generalize a.eval = ρ at *
 simp [execOp, ho, h1, h2, Go.binOp, eqGuard, equal_bool ht, go_sem, bne]
theorem OpV.strIdx {t : TypeId} {x y : Operand} {s : List UInt8} {k : IntKind} {i : Int} {c : UInt8} (h : idx s i = some c) (ht : ∀ w, (underlying t).run P w = .ok .string w) (ho : o.op = .index t x y := by exact rfl) (hx : opA env x = .str s := by exact rfl) (hy : opA env y = .int k i := by exact rfl) :
  OpV P o env H (.int .u8 c.toNat) := OpV.strIx ho ht hx hy (idx_ok h).1 (idx_ok h).2
theorem OpV.lenOM {c : Call} {t et i n k : Nat} {x : Operand} (ht : ∀ w, (underlying t).run P w = .ok (.slice et) w) (ho : o.op = .call c := by exact rfl) (hc : c = { callee := .builtin .len, args := #[x], argTypes := #[t] } := by exact rfl)
  (hx : opA env x = .osl i 0 n k := by exact rfl) : OpV P o env H (.int .i64 n) := OpV.lenO ho hc ht hx
end
def encI (k : IntKind) (n : Int) : List A := [.int k n]
def encB (b : Bool) : List A := [.bool b]
def encS (s : List UInt8) : List A := [.str s]
def encL {α : Type} (k : Nat) (e : α → List A) (l : List α) : List A := [.rsl k (l.map e)]
end Go.Sw
