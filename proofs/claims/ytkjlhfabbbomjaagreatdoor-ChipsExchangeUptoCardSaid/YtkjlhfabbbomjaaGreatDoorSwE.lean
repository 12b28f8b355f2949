/- The single operations over abstract states: those that turn nothing. -/
import Derived.Test.YtkjlhfabbbomjaaGreatDoorSwD
import Derived.Laws.Strings
set_option linter.unusedVariables false
set_option linter.unusedSectionVars false
set_option linter.unusedSimpArgs false
namespace Go.Sw
section
variable {P : Program} {o : Oper} {env : Env} {H : Heap}
theorem opA_int {fr ro : Nat → Prop} {σ : Sig} {N : Nat} {a : Act} {w : World} (r : Rel fr ro σ H env N a w) {x : Operand} {k : IntKind} {n : Int} (h : opA env x = .int k n) : a.eval x = .int k n := by
 have := opA_ok r x
 rw [h] at this; exact this
theorem opA_bool {fr ro : Nat → Prop} {σ : Sig} {N : Nat} {a : Act} {w : World} (r : Rel fr ro σ H env N a w) {x : Operand} {b : Bool} (h : opA env x = .bool b) : a.eval x = .bool b := by
 have := opA_ok r x
 rw [h] at this; exact this
theorem opA_str {fr ro : Nat → Prop} {σ : Sig} {N : Nat} {a : Act} {w : World} (r : Rel fr ro σ H env N a w) {x : Operand} {s : List UInt8} (h : opA env x = .str s) : a.eval x = .string ⟨s.toArray⟩ := by
 have := opA_ok r x
 rw [h] at this; exact this
theorem OpV.move {x : Operand} {v : A} (ho : o.op = .move x) (hx : opA env x = v) : OpV P o env H v :=
 fun fr ro σ N a w r => ⟨a.eval x, by simp [execOp, ho, go_sem], hx ▸ opA_ok r x⟩
theorem OpV.assign {x : Operand} {v : A} (ho : o.op = .assign x) (hx : opA env x = v) : OpV P o env H v :=
 fun fr ro σ N a w r => ⟨a.eval x, by simp [execOp, ho, go_sem], hx ▸ opA_ok r x⟩
theorem OpV.pick {c x y : Operand} {b : Bool} {v : A} (ho : o.op = .pick c x y) (hc : opA env c = .bool b) (hx : (if b then opA env x else opA env y) = v) : OpV P o env H v := by
 intro fr ro σ N a w r
 have hv := opA_bool r hc
 refine ⟨if b then a.eval x else a.eval y, by generalize a.eval = ρ at *; simp [execOp, ho, hv, asBool, go_sem], ?_⟩
 subst hx
 cases b
 ·exact opA_ok r y
 ·exact opA_ok r x
theorem OpV.add {t u : TypeId} {x y : Operand} {k : IntKind} {m n : Int} (ho : o.op = .binOp .add t x y u) (hx : opA env x = .int k m) (hy : opA env y = .int k n) : OpV P o env H (.int k (k.wrap (m + n))) := by
 intro fr ro σ N a w r
 have h1 := opA_int r hx
 have h2 := opA_int r hy
 refine ⟨_, ?_, rfl⟩
 generalize a.eval = ρ at *
 simp [execOp, ho, h1, h2, Go.binOp, eqGuard, Op.intArith, go_sem]
theorem OpV.sub {t u : TypeId} {x y : Operand} {k : IntKind} {m n : Int} (ho : o.op = .binOp .sub t x y u) (hx : opA env x = .int k m) (hy : opA env y = .int k n) : OpV P o env H (.int k (k.wrap (m - n))) := by
 intro fr ro σ N a w r
 have h1 := opA_int r hx
 have h2 := opA_int r hy
 refine ⟨_, ?_, rfl⟩
 generalize a.eval = ρ at *
 simp [execOp, ho, h1, h2, Go.binOp, eqGuard, Op.intArith, go_sem]
theorem OpV.mul {t u : TypeId} {x y : Operand} {k : IntKind} {m n : Int} (ho : o.op = .binOp .mul t x y u) (hx : opA env x = .int k m) (hy : opA env y = .int k n) : OpV P o env H (.int k (k.wrap (m * n))) := by
 intro fr ro σ N a w r
 have h1 := opA_int r hx
 have h2 := opA_int r hy
 refine ⟨_, ?_, rfl⟩
 generalize a.eval = ρ at *
 simp [execOp, ho, h1, h2, Go.binOp, eqGuard, Op.intArith, go_sem]
theorem OpV.cmp {op : BinOp} {t u : TypeId} {x y : Operand} {k : IntKind} {m n : Int} {f : Int → Int → Bool} (ho : o.op = .binOp op t x y u) (hx : opA env x = .int k m) (hy : opA env y = .int k n)
  (hop : op = .eql ∧ f = (fun a b => a == b) ∨ op = .neq ∧ f = (fun a b => a != b) ∨ op = .lss ∧ f = (fun a b => decide (a < b)) ∨ op = .leq ∧ f = (fun a b => decide (a ≤ b)) ∨
   op = .gtr ∧ f = (fun a b => decide (b < a)) ∨ op = .geq ∧ f = (fun a b => decide (b ≤ a))) : OpV P o env H (.bool (f m n)) := by
 intro fr ro σ N a w r
 have h1 := opA_int r hx
 have h2 := opA_int r hy
 refine ⟨_, ?_, rfl⟩
 generalize a.eval = ρ at *
 rcases hop with ⟨rfl, rfl⟩ | ⟨rfl, rfl⟩ | ⟨rfl, rfl⟩ | ⟨rfl, rfl⟩ | ⟨rfl, rfl⟩ | ⟨rfl, rfl⟩ <;> simp [execOp, ho, h1, h2, Go.binOp, eqGuard, Op.intCmp, go_sem]
theorem OpV.eql {t u : TypeId} {x y : Operand} {k : IntKind} {m n : Int} (ho : o.op = .binOp .eql t x y u) (hx : opA env x = .int k m) (hy : opA env y = .int k n) : OpV P o env H (.bool (m == n)) :=
 OpV.cmp (f := fun a b => a == b) ho hx hy (by simp)
theorem OpV.neq {t u : TypeId} {x y : Operand} {k : IntKind} {m n : Int} (ho : o.op = .binOp .neq t x y u) (hx : opA env x = .int k m) (hy : opA env y = .int k n) : OpV P o env H (.bool (m != n)) :=
 OpV.cmp (f := fun a b => a != b) ho hx hy (by simp)
theorem OpV.lss {t u : TypeId} {x y : Operand} {k : IntKind} {m n : Int} (ho : o.op = .binOp .lss t x y u) (hx : opA env x = .int k m) (hy : opA env y = .int k n) : OpV P o env H (.bool (decide (m < n))) :=
 OpV.cmp (f := fun a b => decide (a < b)) ho hx hy (by simp)
theorem OpV.leq {t u : TypeId} {x y : Operand} {k : IntKind} {m n : Int} (ho : o.op = .binOp .leq t x y u) (hx : opA env x = .int k m) (hy : opA env y = .int k n) : OpV P o env H (.bool (decide (m ≤ n))) :=
 OpV.cmp (f := fun a b => decide (a ≤ b)) ho hx hy (by simp)
theorem OpV.gtr {t u : TypeId} {x y : Operand} {k : IntKind} {m n : Int} (ho : o.op = .binOp .gtr t x y u) (hx : opA env x = .int k m) (hy : opA env y = .int k n) : OpV P o env H (.bool (decide (n < m))) :=
 OpV.cmp (f := fun a b => decide (b < a)) ho hx hy (by simp)
theorem OpV.geq {t u : TypeId} {x y : Operand} {k : IntKind} {m n : Int} (ho : o.op = .binOp .geq t x y u) (hx : opA env x = .int k m) (hy : opA env y = .int k n) : OpV P o env H (.bool (decide (n ≤ m))) :=
 OpV.cmp (f := fun a b => decide (b ≤ a)) ho hx hy (by simp)
theorem OpV.rem {t u : TypeId} {x y : Operand} {k : IntKind} {m n : Int} (ho : o.op = .binOp .rem t x y u) (hx : opA env x = .int k m) (hy : opA env y = .int k n) (hn : n ≠ 0) : OpV P o env H (.int k (m.tmod n)) := by
 intro fr ro σ N a w r
 have h1 := opA_int r hx
 have h2 := opA_int r hy
 exact ⟨_, by generalize a.eval = ρ at *; simp [execOp, ho, h1, h2, Go.binOp, eqGuard, Op.intDiv, hn, go_sem], rfl⟩
theorem OpV.not {t : TypeId} {x : Operand} {b : Bool} (ho : o.op = .unOp .not t x) (hx : opA env x = .bool b) : OpV P o env H (.bool !b) := by
 intro fr ro σ N a w r
 have h1 := opA_bool r hx
 exact ⟨_, by generalize a.eval = ρ at *; simp [execOp, ho, h1, Op.unary, go_sem], rfl⟩
theorem OpV.neg {t : TypeId} {x : Operand} {k : IntKind} {n : Int} (ho : o.op = .unOp .neg t x) (hx : opA env x = .int k n) : OpV P o env H (.int k (k.wrap (0 - n))) := by
 intro fr ro σ N a w r
 have h1 := opA_int r hx
 exact ⟨_, by generalize a.eval = ρ at *; simp [execOp, ho, h1, Op.unary, Op.intArith, go_sem], rfl⟩
theorem OpV.conv {s t : TypeId} {x : Operand} {k k' : IntKind} {n : Int} {ds : TypeDesc} (ho : o.op = .convert s t x) (hs : ∀ w, (underlying s).run P w = .ok ds w) (ht : ∀ w, (underlying t).run P w = .ok (.int k) w)
  (hx : opA env x = .int k' n) : OpV P o env H (.int k (k.wrap n)) := by
 intro fr ro σ N a w r
 have h1 := opA_int r hx
 refine ⟨_, ?_, rfl⟩
 generalize a.eval = ρ at *
 cases ds <;> simp [execOp, ho, h1, convert, hs, ht, Conv.intToInt, go_sem]
theorem OpV.strOp {op : BinOp} {t u : TypeId} {x y : Operand} {p q : List UInt8} {f : List UInt8 → List UInt8 → Bool} (ho : o.op = .binOp op t x y u) (hx : opA env x = .str p) (hy : opA env y = .str q)
  (hop : op = .eql ∧ f = (fun a b => a == b) ∨ op = .neq ∧ f = (fun a b => a != b) ∨ op = .lss ∧ f = Op.bytesLess ∨ op = .geq ∧ f = (fun a b => !Op.bytesLess a b) ∨
   op = .leq ∧ f = (fun a b => Op.bytesLess a b || a == b) ∨ op = .gtr ∧ f = (fun a b => !(Op.bytesLess a b || a == b))) : OpV P o env H (.bool (f p q)) := by
 intro fr ro σ N a w r
 have h1 := opA_str r hx
 have h2 := opA_str r hy
 refine ⟨_, ?_, rfl⟩
 generalize a.eval = ρ at *
 have e1 : (⟨p.toArray⟩ : ByteArray).toList = p := by rw [Go.ByteArray.toList_eq]
 have e2 : (⟨q.toArray⟩ : ByteArray).toList = q := by rw [Go.ByteArray.toList_eq]
 rcases hop with ⟨rfl, rfl⟩ | ⟨rfl, rfl⟩ | ⟨rfl, rfl⟩ | ⟨rfl, rfl⟩ | ⟨rfl, rfl⟩ | ⟨rfl, rfl⟩ <;> simp [execOp, ho, h1, h2, Go.binOp, eqGuard, Op.stringOp, e1, e2, go_sem, bne]
theorem OpV.strEq {t u : TypeId} {x y : Operand} {p q : List UInt8} (ho : o.op = .binOp .eql t x y u) (hx : opA env x = .str p) (hy : opA env y = .str q) : OpV P o env H (.bool (p == q)) :=
 OpV.strOp (f := fun a b => a == b) ho hx hy (by simp)
theorem OpV.strNe {t u : TypeId} {x y : Operand} {p q : List UInt8} (ho : o.op = .binOp .neq t x y u) (hx : opA env x = .str p) (hy : opA env y = .str q) : OpV P o env H (.bool (p != q)) :=
 OpV.strOp (f := fun a b => a != b) ho hx hy (by simp)
theorem OpV.strLt {t u : TypeId} {x y : Operand} {p q : List UInt8} (ho : o.op = .binOp .lss t x y u) (hx : opA env x = .str p) (hy : opA env y = .str q) : OpV P o env H (.bool (Op.bytesLess p q)) :=
 OpV.strOp ho hx hy (by simp)
theorem OpV.strIx {t : TypeId} {x y : Operand} {s : List UInt8} {k : IntKind} {n : Int} {c : UInt8} (ho : o.op = .index t x y) (ht : ∀ w, (underlying t).run P w = .ok .string w) (hx : opA env x = .str s) (hy : opA env y = .int k n)
  (h0 : 0 ≤ n) (hc : s[n.toNat]? = some c) : OpV P o env H (.int .u8 c.toNat) := by
 intro fr ro σ N a w r
 have h1 := opA_str r hx
 have h2 := opA_int r hy
 have hc' : (⟨s.toArray⟩ : ByteArray)[n.toNat]? = some c := by
  obtain ⟨hlt, he⟩ := List.getElem?_eq_some_iff.1 hc
  have hsz : (⟨s.toArray⟩ : ByteArray).size = s.length := by simp [ByteArray.size]
  rw [getElem?_pos _ _ (by rw [hsz]; exact hlt)]
  show some (s.toArray[n.toNat]'(by simpa using hlt)) = some c
  simp [he]
 refine ⟨_, ?_, rfl⟩
 generalize a.eval = ρ at *
 simp [execOp, ho, h1, h2, Instr.index, asIntOf, ht, h0, hc', go_sem]
theorem OpV.lenStr {c : Call} {t : TypeId} {x : Operand} {s : List UInt8} (ho : o.op = .call c) (hc : c = { callee := .builtin .len, args := #[x], argTypes := #[t] }) (ht : ∀ w, (underlying t).run P w = .ok .string w)
  (hx : opA env x = .str s) : OpV P o env H (.int .i64 s.length) := by
 intro fr ro σ N a w r
 have h1 := opA_str r hx
 refine ⟨_, ?_, rfl⟩
 generalize a.eval = ρ at *
 subst hc
 simp [execOp, ho, h1, resolve, invoke, Go.builtin, Builtin.len_, ht, goInt, go_sem]
 rfl
theorem OpV.lenR {c : Call} {t e : TypeId} {x : Operand} {k : Nat} {es : List (List A)} (ho : o.op = .call c) (hc : c = { callee := .builtin .len, args := #[x], argTypes := #[t] }) (ht : ∀ w, (underlying t).run P w = .ok (.slice e) w)
  (hx : opA env x = .rsl k es) : OpV P o env H (.int .i64 es.length) := by
 intro fr ro σ N a w r
 have h1 := opA_ok r x
 rw [hx] at h1
 obtain ⟨ad, cap, h1, _⟩ := h1
 refine ⟨_, ?_, rfl⟩
 generalize a.eval = ρ at *
 subst hc
 simp [execOp, ho, h1, resolve, invoke, Go.builtin, Builtin.len_, ht, goInt, go_sem]
theorem OpV.lenO {c : Call} {t e : TypeId} {x : Operand} {i s n k : Nat} (ho : o.op = .call c) (hc : c = { callee := .builtin .len, args := #[x], argTypes := #[t] }) (ht : ∀ w, (underlying t).run P w = .ok (.slice e) w)
  (hx : opA env x = .osl i s n k) : OpV P o env H (.int .i64 n) := by
 intro fr ro σ N a w r
 have h1 := opA_ok r x
 rw [hx] at h1
 refine ⟨_, ?_, rfl⟩
 generalize a.eval = ρ at *
 subst hc
 rcases h1 with ⟨rfl, h1⟩ | ⟨b, p, cap, t', m, _, h1, _⟩ <;>
 simp [execOp, ho, h1, resolve, invoke, Go.builtin, Builtin.len_, ht, goInt, go_sem]
structure FieldAt (P : Program) (T f off n : Nat) : Prop where
 h : ∃ fs fd, (∀ w, (underlying T).run P w = .ok (.struct fs) w) ∧ fs[f]? = some fd ∧ fd.offset = off ∧ (∀ w, (sizeOf fd.type).run P w = .ok n w) ∧ n ≠ 0
theorem addr_add (b off n : Nat) : (⟨b, off, none⟩ : Addr).add n = ⟨b, off + n, none⟩ := by
 unfold Addr.add
 split
 ·rename_i h; simp [h]
 ·rfl
theorem run_fieldAt {T f off n b p : Nat} (hf : FieldAt P T f off n) (w : World) : (Instr.fieldAt T (.pointer (some ⟨b, p, none⟩)) f).run P w = .ok (.pointer (some ⟨b, p + off, none⟩)) w := by
 obtain ⟨fs, fd, h1, h2, rfl, h4, h5⟩ := hf.h
 simp [Instr.fieldAt, h1, h2, Instr.sureAddr, fieldPlace, h4, h5, addr_add, go_sem]
theorem OpV.fieldP {T f off n i p : Nat} {x : Operand} (hf : FieldAt P T f off n) (ho : o.op = .fieldAddr T x f) (hx : opA env x = .ptr i p) : OpV P o env H (.ptr i (p + off)) := by
 intro fr ro σ N a w r
 have h1 := opA_ok r x
 rw [hx] at h1
 obtain ⟨b, h1, h2⟩ := h1
 refine ⟨.pointer (some ⟨b, p + off, none⟩), ?_, b, h1, rfl⟩
 generalize a.eval = ρ at *
 simp only [execOp, ho, h2, Sem.run_bind, run_fieldAt hf]
 rfl
theorem CR.drop {ro : Nat → Prop} {σ : Sig} {w : World} {b : Nat} : ∀ (n : Nat) {cs : List A} {off : Nat}, CR ro σ w b cs off → CR ro σ w b (cs.drop n) (off + n)
 | 0, _, _, h => h
 | n + 1, [], _, h => trivial
 | n + 1, c :: cs, off, h => by
  have := CR.drop n h.2
  rw [List.drop_succ_cons]
  rw [show off + (n + 1) = off + 1 + n from by omega]; exact this
theorem CR.take {ro : Nat → Prop} {σ : Sig} {w : World} {b : Nat} : ∀ (n : Nat) {cs : List A} {off : Nat}, CR ro σ w b cs off → CR ro σ w b (cs.take n) off
 | 0, _, _, h => trivial
 | n + 1, [], _, h => trivial
 | n + 1, c :: cs, off, h => ⟨h.1, CR.take n h.2⟩
theorem OpV.fieldR {T f off n : Nat} {x : Operand} {cs cs' : List A} (hf : FieldAt P T f off n) (ho : o.op = .fieldAddr T x f) (hx : opA env x = .rp cs) (hcs : cs.drop off = cs') : OpV P o env H (.rp cs') := by
 intro fr ro σ N a w r
 have h1 := opA_ok r x
 rw [hx] at h1
 obtain ⟨b, p, h1, h2, h3⟩ := h1
 refine ⟨.pointer (some ⟨b, p + off, none⟩), ?_, b, p + off, rfl, h2, hcs ▸ h3.drop off⟩
 generalize a.eval = ρ at *
 simp only [execOp, ho, h1, Sem.run_bind, run_fieldAt hf]
 rfl
theorem RR.get {ro : Nat → Prop} {σ : Sig} {w : World} {b k : Nat} : ∀ (n : Nat) {es : List (List A)} {off : Nat} {c : List A}, RR ro σ w b k es off → es[n]? = some c → c.length = k ∧ CR ro σ w b c (off + n * k)
 | n, [], _, _, h, hc => by simp at hc
 | 0, e :: es, off, c, h, hc => by
  simp at hc; subst hc
  exact ⟨h.1, by simpa using h.2.1⟩
 | n + 1, e :: es, off, c, h, hc => by
  have := RR.get n h.2.2 (by simpa using hc)
  refine ⟨this.1, ?_⟩
  rw [show off + (n + 1) * k = off + k + n * k from by rw [Nat.succ_mul]; omega]; exact this.2
theorem OpV.ixR {t e : TypeId} {x y : Operand} {k : Nat} {es : List (List A)} {kk : IntKind} {n : Int} {c : List A} (ho : o.op = .indexAddr t x y) (ht : ∀ w, (underlying t).run P w = .ok (.slice e) w)
  (hs : ∀ w, (sizeOf e).run P w = .ok k w) (hx : opA env x = .rsl k es) (hy : opA env y = .int kk n) (h0 : 0 ≤ n) (hc : es[n.toNat]? = some c) : OpV P o env H (.rp c) := by
 intro fr ro σ N a w r
 have h1 := opA_ok r x
 rw [hx] at h1
 have h2 := opA_int r hy
 obtain ⟨ad, cap, h1, h3, h4⟩ := h1
 have hlt : n.toNat < es.length := (List.getElem?_eq_some_iff.1 hc).1
 rcases h4 with rfl | ⟨b, off, rfl, h5, h6⟩
 ·simp at hlt
 have hn : n < es.length := by omega
 refine ⟨.pointer (some ⟨b, off + n.toNat * k, none⟩), ?_, b, off + n.toNat * k, rfl, h5, (h6.get n.toNat hc).2⟩
 generalize a.eval = ρ at *
 simp [execOp, ho, h1, h2, Instr.indexAt, asIntOf, ht, hs, h0, hn, addr_add, go_sem]
theorem OpV.ixO {t e : TypeId} {x y : Operand} {i s m k : Nat} {kk : IntKind} {n : Int} (ho : o.op = .indexAddr t x y) (ht : ∀ w, (underlying t).run P w = .ok (.slice e) w)
  (hs : ∀ w, (sizeOf e).run P w = .ok k w) (hx : opA env x = .osl i s m k) (hy : opA env y = .int kk n) (h0 : 0 ≤ n) (hc : n < m) : OpV P o env H (.ptr i (s * k + n.toNat * k)) := by
 intro fr ro σ N a w r
 have h1 := opA_ok r x
 rw [hx] at h1
 have h2 := opA_int r hy
 rcases h1 with ⟨rfl, _⟩ | ⟨b, p, cap, t', m', h3, h1, h4, h5, _⟩
 ·omega
 obtain rfl := h4 (by omega)
 refine ⟨.pointer (some ⟨b, s * k + n.toNat * k, none⟩), ?_, b, h3, rfl⟩
 generalize a.eval = ρ at *
 simp [execOp, ho, h1, h2, Instr.indexAt, asIntOf, ht, hs, h0, hc, addr_add, go_sem]
def Pts (H : Heap) (p : A) (cs : List A) : Prop :=
 ∀ fr ro σ w v, Sim fr ro σ H w → VR ro σ w p v → ∃ b off, v = .pointer (some ⟨b, off, none⟩) ∧ CR ro σ w b cs off
theorem VR.lift {ro : Nat → Prop} {σ : Sig} {w : World} {a : A} {v : Value} (h : VR ro [] w a v) : VR ro σ w a v :=
 h.mono ⟨fun _ q => q, fun _ _ => rfl, fun _ _ q => q, fun i b q => by simp at q⟩
theorem CR.lift {ro : Nat → Prop} {σ : Sig} {w : World} {b : Nat} : ∀ {cs : List A} {off : Nat}, CR ro [] w b cs off → CR ro σ w b cs off
 | [], _, _ => trivial
 | c :: cs, off, ⟨⟨v, h1, hp, h2⟩, h3⟩ => ⟨⟨v, h1, hp, h2.lift⟩, CR.lift h3⟩
theorem Pts.rp {cs : List A} : Pts H (.rp cs) cs := fun fr ro σ w v s ⟨b, off, h1, h2, h3⟩ => ⟨b, off, h1, h3.lift⟩
theorem LR.cells {ro : Nat → Prop} {σ : Sig} {w : World} {b t : Nat} {fz : Nat × Nat} {pre l : List Value} (hb : w.heap[b]? = some (.cells (pre ++ l).toArray t fz)) (hpl : ∀ v ∈ l, plainV v) :
  ∀ {cs : List A}, LR ro σ w cs l → CR ro σ w b cs pre.length := by
 induction l generalizing pre with
 | nil =>
  intro cs h
  cases cs with
  | nil => trivial
  | cons c cs => obtain ⟨v, l', h, _⟩ := h; cases h
 | cons v l ih =>
  intro cs h
  cases cs with
  | nil => trivial
  | cons c cs =>
   obtain ⟨v', l', h1, h2, h3⟩ := h
   cases h1
   refine ⟨⟨v, by simp [World.cell?, hb], hpl v (by simp), h2⟩, ?_⟩
   have := ih (pre := pre ++ [v]) (by simpa using hb) (fun x hx => hpl x (by simp [hx])) h3
   simpa using this
theorem Pts.cells {i off t : Nat} {cs cs' : List A} (hH : H[i]? = some (.cells t cs)) (hcs : cs.drop off = cs') : Pts H (.ptr i off) cs' := by
 intro fr ro σ w v s h
 obtain ⟨b, h1, h2⟩ := h
 obtain ⟨l, q1, q2, q3⟩ := s.blk i _ _ h1 hH
 have := LR.cells (pre := []) (by simpa using q1) q3 q2
 refine ⟨b, off, h2, hcs ▸ ?_⟩
 have := this.drop off
 simpa using this
theorem LR.get {ro : Nat → Prop} {σ : Sig} {w : World} : ∀ {as : List A} {l : List Value} (i : Nat) {a : A}, LR ro σ w as l → as[i]? = some a → ∃ v, l[i]? = some v ∧ VR ro σ w a v
 | [], l, i, a, h, ha => by simp at ha
 | x :: as, l, 0, a, ⟨v, l', h1, h2, h3⟩, ha => by
  simp at ha; subst ha h1
  exact ⟨v, rfl, h2⟩
 | x :: as, l, i + 1, a, ⟨v, l', h1, h2, h3⟩, ha => by
  subst h1
  obtain ⟨v', q1, q2⟩ := LR.get i h3 (by simpa using ha)
  exact ⟨v', by simpa using q1, q2⟩
theorem LR.drop {ro : Nat → Prop} {σ : Sig} {w : World} : ∀ (n : Nat) {as : List A} {l : List Value}, LR ro σ w as l → LR ro σ w (as.drop n) (l.drop n)
 | 0, as, l, h => h
 | n + 1, [], l, h => by cases (show l = [] from h); rfl
 | n + 1, a :: as, l, ⟨v, l', h1, h2, h3⟩ => by subst h1; exact LR.drop n h3
theorem LR.take {ro : Nat → Prop} {σ : Sig} {w : World} : ∀ (n : Nat) {as : List A} {l : List Value}, LR ro σ w as l → LR ro σ w (as.take n) (l.take n)
 | 0, as, l, h => rfl
 | n + 1, [], l, h => by cases (show l = [] from h); rfl
 | n + 1, a :: as, l, ⟨v, l', h1, h2, h3⟩ => by subst h1; exact ⟨v, l'.take n, rfl, h2, LR.take n h3⟩
theorem LR.append {ro : Nat → Prop} {σ : Sig} {w : World} : ∀ {as : List A} {l : List Value} {bs : List A} {m : List Value}, LR ro σ w as l → LR ro σ w bs m → LR ro σ w (as ++ bs) (l ++ m)
 | [], l, bs, m, h, k => by cases (show l = [] from h); exact k
 | a :: as, l, bs, m, ⟨v, l', h1, h2, h3⟩, k => by subst h1; exact ⟨v, l' ++ m, rfl, h2, LR.append h3 k⟩
theorem LR.toCR {ro : Nat → Prop} {σ : Sig} {w : World} {b t : Nat} {fz : Nat × Nat} : ∀ {cs : List A} {pre l post : List Value}, w.heap[b]? = some (.cells (pre ++ (l ++ post)).toArray t fz) → (∀ v ∈ l, plainV v) →
  LR ro σ w cs l → CR ro σ w b cs pre.length
 | [], _, _, _, _, _, _ => trivial
 | c :: cs, pre, l, post, hb, hpl, ⟨v, l', h1, h2, h3⟩ => by
  subst h1
  refine ⟨⟨v, by simp [World.cell?, hb], hpl v (by simp), h2⟩, ?_⟩
  have := LR.toCR (pre := pre ++ [v]) (l := l') (post := post) (by simpa using hb) (fun x hx => hpl x (by simp [hx])) h3
  simpa using this
theorem RL.toRR {ro : Nat → Prop} {σ : Sig} {w : World} {b t k : Nat} {fz : Nat × Nat} : ∀ {es : List (List A)} {pre l : List Value}, w.heap[b]? = some (.cells (pre ++ l).toArray t fz) →
  RL ro σ w k es l → RR ro σ w b k es pre.length
 | [], _, _, _, _ => trivial
 | c :: es, pre, l, hb, ⟨l1, l2, h1, h2, h3, h4⟩ => by
  subst h1
  refine ⟨h2, LR.toCR hb h3.2 h3.1, ?_⟩
  have hl := h3.1.length
  have := RL.toRR (pre := pre ++ l1) (l := l2) (by simpa using hb) h4
  simpa [hl, h2] using this
theorem Pts.row {i off t k e f : Nat} {es : List (List A)} {c cs' : List A} (hH : H[i]? = some (.row t k es)) (ho : off = e * k + f) (he : es[e]? = some c) (hcs : c.drop f = cs') : Pts H (.ptr i off) cs' := by
 intro fr ro σ w v s h
 obtain ⟨b, h1, h2⟩ := h
 obtain ⟨l, q1, q2⟩ := s.blk i _ _ h1 hH
 have := ((RL.toRR (pre := []) (by simpa using q1) q2).get e he).2.drop f
 refine ⟨b, off, h2, ?_⟩
 subst ho hcs
 simpa using this.lift
theorem Pts.rowr {i off t k e f : Nat} {es : List (List A)} {c cs' : List A} (hH : H[i]? = some (.rowr t k es)) (ho : off = e * k + f) (he : es[e]? = some c) (hcs : c.drop f = cs') : Pts H (.ptr i off) cs' := by
 intro fr ro σ w v s h
 obtain ⟨b, h1, h2⟩ := h
 obtain ⟨l, q1, q2⟩ := s.blk i _ _ h1 hH
 have := ((RL.toRR (pre := []) (by simpa using q1) q2).get e he).2.drop f
 refine ⟨b, off, h2, ?_⟩
 subst ho hcs
 simpa using this
theorem cell_heap {w w' : World} (h : w'.heap = w.heap) (a : Addr) : w'.cell? a = w.cell? a := by unfold World.cell?; rw [h]
theorem run_loadCellsFrom {ro : Nat → Prop} {σ : Sig} {w : World} {b off : Nat} : ∀ {cs : List A} (i : Nat), CR ro σ w b cs (off + i) →
  ∃ l, LR ro σ w cs l ∧ (∀ v ∈ l, plainV v) ∧ ∀ (w' : World) (acc : Array Value), w'.heap = w.heap → (loadCellsFrom ⟨b, off, none⟩ i cs.length acc).run P w' = .ok (acc ++ l.toArray) w'
 | [], i, h => ⟨[], rfl, by simp, fun w' acc _ => by simp [loadCellsFrom, go_sem]⟩
 | c :: cs, i, ⟨⟨v, h1, hp, h2⟩, h3⟩ => by
  obtain ⟨l, q1, qp, q2⟩ := run_loadCellsFrom (cs := cs) (i + 1) (by rw [← Nat.add_assoc]; exact h3)
  refine ⟨v :: l, ⟨v, l, rfl, h2, q1⟩, by simpa using ⟨hp, qp⟩, fun w' acc hw => ?_⟩
  have h1' : w'.cell? ⟨b, off + i, none⟩ = some v := by rw [cell_heap hw]; exact h1
  have := q2 w' (acc.push v) hw
  simp [loadCellsFrom, Go.load, Sem.run, addr_add, h1', this, go_sem]
theorem OpV.loadA {t n : Nat} {x : Operand} {p : A} {cs vs : List A} (ho : o.op = .load t x) (ha : ∀ w, (isAgg t).run P w = .ok true w) (hs : ∀ w, (sizeOf t).run P w = .ok n w) (hx : opA env x = p) (hp : Pts H p cs)
  (hn : cs.take n = vs) (hl : vs.length = n) : OpV P o env H (.agg vs) := by
 intro fr ro σ N a w r
 have h1 := opA_ok r x
 rw [hx] at h1
 obtain ⟨b, off, h2, h3⟩ := hp fr ro σ w _ r.sim h1
 subst hn
 obtain ⟨l, q1, _, q2⟩ := run_loadCellsFrom (P := P) (cs := cs.take n) (off := off) 0 (by simpa using h3.take n)
 have q2 := q2 w #[] rfl
 rw [hl] at q2
 refine ⟨.agg l.toArray, ?_, l, rfl, q1⟩
 generalize a.eval = ρ at *
 simp [execOp, ho, h2, Instr.loadAt, Instr.sureAddr, loadVar, ha, hs, loadCells, q2, go_sem]
theorem OpV.load {t : Nat} {x : Operand} {p v : A} {cs : List A} (ho : o.op = .load t x) (ha : ∀ w, (isAgg t).run P w = .ok false w) (hx : opA env x = p) (hp : Pts H p (v :: cs)) : OpV P o env H v := by
 intro fr ro σ N a w r
 have h1 := opA_ok r x
 rw [hx] at h1
 obtain ⟨b, off, h2, ⟨y, h3, _, h4⟩, _⟩ := hp fr ro σ w _ r.sim h1
 refine ⟨y, ?_, h4⟩
 generalize a.eval = ρ at *
 simp [execOp, ho, h2, Instr.loadAt, Instr.sureAddr, loadVar, ha, Go.load, Sem.run, h3, go_sem]
theorem OpV.extract {x : Operand} {vs : List A} {i : Nat} {v : A} (ho : o.op = .extract x i) (hx : opA env x = .tup vs) (hv : vs[i]? = some v) : OpV P o env H v := by
 intro fr ro σ N a w r
 have h1 := opA_ok r x
 rw [hx] at h1
 obtain ⟨l, h1, h2⟩ := h1
 obtain ⟨y, h3, h4⟩ := h2.get i hv
 refine ⟨y, ?_, h4⟩
 generalize a.eval = ρ at *
 simp [execOp, ho, h1, Instr.extract, h3, go_sem]
theorem argsA_ok {fr ro : Nat → Prop} {σ : Sig} {N : Nat} {a : Act} {w : World} (r : Rel fr ro σ H env N a w) : ∀ (l : List Operand), LR ro σ w (l.map (opA env)) (l.map a.eval)
 | [] => rfl
 | x :: l => ⟨_, _, rfl, opA_ok r x, argsA_ok r l⟩
theorem OpV.makeFunc {f : Fn} {first cap : List Operand} {vf vc : List A} (ho : o.op = .makeFunc f first.toArray cap.toArray) (h1 : first.map (opA env) = vf) (h2 : cap.map (opA env) = vc) : OpV P o env H (.fn f vf vc) := by
 intro fr ro σ N a w r
 refine ⟨.func f (first.map a.eval).toArray (cap.map a.eval).toArray, ?_, _, _, rfl, h1 ▸ argsA_ok r first, h2 ▸ argsA_ok r cap⟩
 generalize a.eval = ρ at *
 simp [execOp, ho, Instr.makeFunc, go_sem]
theorem OpV.mkIface {t : TypeId} {x : Operand} {v : A} {d : TypeDesc} (ho : o.op = .makeInterface t x) (ht : ∀ w, (underlying t).run P w = .ok d w) (hd : ∀ m, d ≠ .interface m) (hx : opA env x = v) : OpV P o env H (.iface t v) := by
 intro fr ro σ N a w r
 have h1 := opA_ok r x
 rw [hx] at h1
 refine ⟨.iface t (a.eval x), ?_, _, rfl, h1⟩
 generalize a.eval = ρ at *
 cases d <;> first | (simp [execOp, ho, Instr.makeInterface, ht, go_sem]; done) | exact (hd _ rfl).elim
end
end Go.Sw
