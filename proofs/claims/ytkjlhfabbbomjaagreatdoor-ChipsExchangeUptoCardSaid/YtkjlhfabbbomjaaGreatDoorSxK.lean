/- Arrays built in place, bits, nil slices in variables. -/
import Derived.Test.YtkjlhfabbbomjaaGreatDoorSxJ
import Derived.Lib.Bytealg
import Derived.Laws.Externs
set_option linter.unusedVariables false
set_option linter.unusedSectionVars false
set_option linter.unusedSimpArgs false
namespace Go.Sw
section
variable {P : Program} {o : Oper} {env : Env} {H : Heap}
theorem fill_congr {f g : Nat → Option (Nat × Nat)} : ∀ (parts : List (Nat × Value)) (cs : Array Value), (∀ p ∈ parts, f p.1 = g p.1) → Instr.fill f cs parts = Instr.fill g cs parts
 | [], cs, _ => rfl
 | (i, v) :: rest, cs, h => by
  unfold Instr.fill
  rw [h (i, v) (by simp)]
  have ih := fun cs => fill_congr rest cs (fun p hp => h p (by simp [hp]))
  cases g i with
  | none => rfl
  | some p =>
   obtain ⟨off, size⟩ := p
   simp only
   split
   ·rfl
   ·exact ih _
theorem OpV.buildArr {t e n k : Nat} {z : Value} {zs cs : List A} {parts : List (Nat × Operand)} (hz : ∀ w, (zeroValue t).run P w = .ok z w) (hv : ZR (.agg zs) z) (ht : ∀ w, (underlying t).run P w = .ok (.array n e) w) (hs : ∀ w, (sizeOf e).run P w = .ok k w)
  (hb : (parts.all fun p => Nat.blt p.1 n) = true) (ho : o.op = .build t parts.toArray := by exact rfl) (hf : fillE env ((List.range n).map fun i => (i * k, k)) zs parts = some cs := by exact rfl) : OpV P o env H (.agg cs) := by
 intro fr ro σ N a w r
 obtain ⟨l, rfl, h4⟩ := hv ro σ w
 obtain ⟨l', e1, e2⟩ := fillE_ok r parts zs l cs h4 hf
 refine ⟨.agg l'.toArray, ?_, l', rfl, e2⟩
 have e3 : Instr.fill (fun i => some (i * k, k)) l.toArray (parts.map fun p => (p.1, a.eval p.2)) = some l'.toArray := by
  rw [← e1]
  refine fill_congr _ _ ?_
  intro p hp
  obtain ⟨q, hq, rfl⟩ := List.mem_map.1 hp
  have hlt : q.1 < n := by simpa using List.all_eq_true.1 hb q hq
  simp [hlt]
 generalize hρ : a.eval = ρ at *
 simp only [execOp, ho, Instr.build, Sem.run_bind, hz, Result.andThen, ht, hs, List.map_toArray, Sem.run_pure, Value.cells, e3]
def andI (k : IntKind) (m n : Int) : Int := k.wrap (BitVec.ofInt k.bits m &&& BitVec.ofInt k.bits n).toNat
def orI (k : IntKind) (m n : Int) : Int := k.wrap (BitVec.ofInt k.bits m ||| BitVec.ofInt k.bits n).toNat
def xorI (k : IntKind) (m n : Int) : Int := k.wrap (BitVec.ofInt k.bits m ^^^ BitVec.ofInt k.bits n).toNat
def shlI (k : IntKind) (m n : Int) : Int := k.wrap (m * 2 ^ (min n.toNat k.bits))
def shrI (k : IntKind) (m n : Int) : Int := m.fdiv (2 ^ (min n.toNat k.bits))
theorem OpV.and {t u : TypeId} {x y : Operand} {k : IntKind} {m n : Int} (ho : o.op = .binOp .and t x y u) (hx : opA env x = .int k m) (hy : opA env y = .int k n) : OpV P o env H (.int k (andI k m n)) := by
 intro fr ro σ N a w r
 have h1 := opA_int r hx
 have h2 := opA_int r hy
 refine ⟨_, ?_, rfl⟩
 generalize a.eval = ρ at *
 simp [execOp, ho, h1, h2, Go.binOp, eqGuard, Op.intBits, go_sem, andI]
theorem OpV.or {t u : TypeId} {x y : Operand} {k : IntKind} {m n : Int} (ho : o.op = .binOp .or t x y u) (hx : opA env x = .int k m) (hy : opA env y = .int k n) : OpV P o env H (.int k (orI k m n)) := by
 intro fr ro σ N a w r
 have h1 := opA_int r hx
 have h2 := opA_int r hy
 refine ⟨_, ?_, rfl⟩
 generalize a.eval = ρ at *
 simp [execOp, ho, h1, h2, Go.binOp, eqGuard, Op.intBits, go_sem, orI]
theorem OpV.xor {t u : TypeId} {x y : Operand} {k : IntKind} {m n : Int} (ho : o.op = .binOp .xor t x y u) (hx : opA env x = .int k m) (hy : opA env y = .int k n) : OpV P o env H (.int k (xorI k m n)) := by
 intro fr ro σ N a w r
 have h1 := opA_int r hx
 have h2 := opA_int r hy
 refine ⟨_, ?_, rfl⟩
 generalize a.eval = ρ at *
 simp [execOp, ho, h1, h2, Go.binOp, eqGuard, Op.intBits, go_sem, xorI]
theorem OpV.shl {t u : TypeId} {x y : Operand} {k k' : IntKind} {m n : Int} (ho : o.op = .binOp .shl t x y u) (hx : opA env x = .int k m) (hy : opA env y = .int k' n) (hn : 0 ≤ n) : OpV P o env H (.int k (shlI k m n)) := by
 intro fr ro σ N a w r
 have h1 := opA_int r hx
 have h2 := opA_int r hy
 refine ⟨_, ?_, rfl⟩
 generalize a.eval = ρ at *
 simp [execOp, ho, h1, h2, Go.binOp, eqGuard, Op.shift, go_sem, shlI, Int.not_lt.2 hn]
theorem OpV.shr {t u : TypeId} {x y : Operand} {k k' : IntKind} {m n : Int} (ho : o.op = .binOp .shr t x y u) (hx : opA env x = .int k m) (hy : opA env y = .int k' n) (hn : 0 ≤ n) : OpV P o env H (.int k (shrI k m n)) := by
 intro fr ro σ N a w r
 have h1 := opA_int r hx
 have h2 := opA_int r hy
 refine ⟨_, ?_, rfl⟩
 generalize a.eval = ρ at *
 simp [execOp, ho, h1, h2, Go.binOp, eqGuard, Op.shift, go_sem, shrI, Int.not_lt.2 hn]
theorem Le.phantomR {h0 i m t k T : Nat} {cs : List A} (hh : Nat.ble h0 H.length = true) (hH : H[i]? = some (.cells T cs)) (hm : cs[m]? = some .nils) :
  Le h0 env H env (H.set i (.cells T (cs.set m (.osl H.length 0 0 k))) ++ [.row t k []]) := by
 intro fr ro σ N a w r
 have hh' : h0 ≤ H.length := Nat.le_of_ble_eq_true hh
 have hi : i < H.length := (List.getElem?_eq_some_iff.1 hH).1
 have ext : Ext ro σ w ro (σ ++ [none]) w := ⟨fun _ q => q, fun _ _ => rfl, fun _ _ q => q, fun _ _ h => sig_append h⟩
 have s := r.sim.phantom t k
 have hi' : (H ++ [Blk.row t k []])[i]? = some (.cells T cs) := by rw [List.getElem?_append_left hi]; exact hH
 have e0 : H.set i (.cells T (cs.set m (.osl H.length 0 0 k))) ++ [.row t k []] = (H ++ [Blk.row t k []]).set i (.cells T (cs.set m (.osl H.length 0 0 k))) := by
  rw [List.set_append_left _ _ hi]
 rw [e0]
 refine ⟨ro, σ ++ [none], ⟨s.weaken hi' rfl ?_, fun q => (r.env q).mono ext, r.size, r.defers⟩, fun _ q => q, take_append_sig (by rw [r.sim.len]; exact hh')⟩
 intro y h
 cases y with
 | none => exact h
 | some b =>
  obtain ⟨l, g1, g2, g3⟩ := h
  refine ⟨l, g1, ?_, g3⟩
  clear g1 g3 hi' e0 hH
  induction cs generalizing m l with
  | nil => cases hm
  | cons c cs ih =>
   obtain ⟨v, l', rfl, q1, q2⟩ := g2
   cases m with
   | zero =>
    simp at hm
    subst hm
    exact ⟨v, l', rfl, .inl ⟨rfl, q1⟩, q2⟩
   | succ m => exact ⟨v, l', rfl, q1, ih (by simpa using hm) l' q2⟩
theorem Le.moved1 {h0 i s o' n k : Nat} {x : Blk} (hs : lk env s = .osl i o' n k) (hH : H[i]? = some x) (hh : Nat.ble h0 H.length = true) : Le h0 env H (up env s (.osl H.length o' n k)) (H.set i .dead ++ [x]) := by
 intro fr ro σ N a w r
 have hi : i < σ.length := by rw [r.sim.len]; exact (List.getElem?_eq_some_iff.1 hH).1
 have hσ : σ[i]? = some σ[i] := List.getElem?_eq_getElem hi
 have ext : Ext ro σ w ro (σ ++ [σ[i]]) w := ⟨fun _ q => q, fun _ _ => rfl, fun _ _ q => q, fun _ _ h => sig_append h⟩
 refine ⟨ro, σ ++ [σ[i]], ⟨r.sim.moved hH hσ, ?_, r.size, r.defers⟩, fun _ q => q, take_append_sig (by rw [r.sim.len]; exact Nat.le_of_ble_eq_true hh)⟩
 intro s'
 simp only [lk]
 by_cases q : s' = s
 ·subst q
  rw [Nat.beq_refl]
  have := r.env s'
  rw [hs] at this
  rcases this with h | ⟨b, p, cap, t, m, h1, h2⟩
  ·exact .inl h
  ·refine .inr ⟨b, p, cap, t, m, ?_, h2⟩
   rw [h1] at hσ
   rw [← r.sim.len]
   simpa using hσ.symm
 ·have : Nat.beq s' s = false := by
   rw [Bool.eq_false_iff]; intro q'; exact q (Nat.eq_of_beq_eq_true q')
  rw [this]
  exact (r.env s').mono ext
def byteOf (n : Int) : UInt8 := n.toNat.toUInt8
def SrcB (P : Program) (H : Heap) (x : A) (l : List Int) : Prop :=
 ∀ fr ro σ w v, Sim fr ro σ H w → VR ro σ w x v → (∃ a c, v = .slice a 0 c ∧ l = []) ∨ ∃ b off c, v = .slice (some ⟨b, off, none⟩) l.length c ∧ (l = [] ∨ CR ro σ w b (l.map fun n => A.int .u8 n) off)
theorem flat_u8 : ∀ (l : List Int), (l.map (fun n => [A.int .u8 n])).flatten = l.map fun n => A.int .u8 n
 | [] => rfl
 | n :: l => by simp [flat_u8 l]
theorem SrcB.nils : SrcB P H .nils [] := fun fr ro σ w v s h => .inl ⟨none, 0, h, rfl⟩
theorem SrcB.row {i t n : Nat} {l : List Int} (hH : H[i]? = some (.row t 1 (l.map fun n => [A.int .u8 n])) := by exact rfl) (hn : l.length = n := by exact rfl) : SrcB P H (.osl i 0 n 1) l := by
 intro fr ro σ w v s h
 rcases h with ⟨rfl, rfl⟩ | ⟨b, p, cap, t', m, h1, rfl, h2, h3, h4, h5⟩
 ·exact .inl ⟨none, 0, rfl, List.length_eq_zero_iff.1 hn⟩
 ·refine .inr ⟨b, p, cap, by rw [hn], ?_⟩
  by_cases hl : l = []
  ·exact .inl hl
  ·have : 0 < cap := by have := List.length_pos_iff.2 hl; omega
   obtain rfl := h2 this
   obtain ⟨lb, q1, q2⟩ := s.blk i _ _ h1 hH
   have hr := (RL.toRR (pre := []) (by simpa using q1) q2).flat.1
   rw [flat_u8] at hr
   exact .inr (by simpa using hr.lift)
theorem SrcB.rsl {l : List Int} : SrcB P H (.rsl 1 (l.map fun n => [A.int .u8 n])) l := by
 intro fr ro σ w v s ⟨a, c, h1, h2, h3⟩
 subst h1
 rw [List.length_map] at *
 rcases h3 with h3 | ⟨b, off, rfl, h4, h5⟩
 ·have : l = [] := List.map_eq_nil_iff.1 h3
  subst this
  exact .inl ⟨a, c, by simp, rfl⟩
 ·have hr := h5.flat.1
  rw [flat_u8] at hr
  exact .inr ⟨b, off, c, rfl, .inr hr.lift⟩
theorem run_loadBytes {ro : Nat → Prop} {σ : Sig} {w : World} {b : Nat} : ∀ (l : List Int) (off : Nat) (acc : ByteArray), CR ro σ w b (l.map fun n => A.int .u8 n) off → (Extern.Bytes.loadBytes ⟨b, off, none⟩ l.length acc).run P w = .ok ⟨acc.data ++ (l.map byteOf).toArray⟩ w
 | [], off, acc, _ => by simp [Extern.Bytes.loadBytes, go_sem]
 | n :: l, off, acc, ⟨⟨v, h1, hp, h2⟩, h3⟩ => by
  have h2' : v = .int .u8 n := h2
  subst h2'
  have ih := run_loadBytes l (off + 1) (acc.push n.toNat.toUInt8) h3
  have hl : (Go.load ⟨b, off, none⟩).run P w = .ok (.int .u8 n) w := by simp [Go.load, Sem.run, h1]
  simp only [List.length_cons, Extern.Bytes.loadBytes, Sem.run_bind, hl, Result.andThen]
  have ha : (⟨b, off, none⟩ : Addr).add 1 = ⟨b, off + 1, none⟩ := by simp [addr_add]
  rw [ha, ih]
  simp [byteOf, ByteArray.push]
theorem run_bytesOf {fr ro : Nat → Prop} {σ : Sig} {w : World} {x : A} {l : List Int} {v : Value} (h : SrcB P H x l) (s : Sim fr ro σ H w) (hv : VR ro σ w x v) : (Extern.Bytes.bytesOf v).run P w = .ok ⟨(l.map byteOf).toArray⟩ w := by
 rcases h fr ro σ w v s hv with ⟨a, c, rfl, rfl⟩ | ⟨b, off, c, rfl, hc⟩
 ·cases a with
  | none => simp [Extern.Bytes.bytesOf, go_sem]; rfl
  | some a => simp [Extern.Bytes.bytesOf, Extern.Bytes.loadBytes, go_sem]; rfl
 ·rcases hc with rfl | hc
  ·simp [Extern.Bytes.bytesOf, Extern.Bytes.loadBytes, go_sem]; rfl
  ·have := run_loadBytes (P := P) l off .empty hc
   simp only [Extern.Bytes.bytesOf, this]
   congr 2
   simp [ByteArray.empty, ByteArray.emptyWithCapacity]
   rfl
def cmpB (l m : List Int) : Int := Lib.compareBytes (l.map byteOf) (m.map byteOf)
theorem OpV.cmpB {c : Call} {f : FuncId} {fn : Func} {x y : Operand} {ts : Array TypeId} {ax ay : A} {l m : List Int} (hf : P.funcs[f]? = some fn) (hname : (fn.name == "runtime.NumGoroutine") = false) (hb : fn.body.isNone = true) (hn : Extern.findNext fn = none) (he : Extern.find fn = some Extern.BytealgCompare.compare)
  (h1 : SrcB P H ax l) (h2 : SrcB P H ay m) (ho : o.op = .call c := by exact rfl) (hc : c = { callee := .value (.func f), args := #[x, y], argTypes := ts } := by exact rfl) (hx : opA env x = ax := by exact rfl) (hy : opA env y = ay := by exact rfl) : OpV P o env H (.int .i64 (cmpB l m)) := by
 intro fr ro σ N a w r
 have v1 := opA_ok r x
 rw [hx] at v1
 have v2 := opA_ok r y
 rw [hy] at v2
 have e1 := run_bytesOf h1 r.sim v1
 have e2 := run_bytesOf h2 r.sim v2
 refine ⟨.int .i64 (Sw.cmpB l m), ?_, rfl⟩
 subst hc
 have e : a.eval (.func f) = .func (.func f) #[] #[] := rfl
 have e3 : (callFunc f #[a.eval x, a.eval y]).run P w = .ok (.value (.int .i64 (Sw.cmpB l m))) w := by
  rw [run_callFunc_extern hf hname hb hn he]
  have h5 : Sem.run P (Extern.BytealgCompare.compare #[a.eval x, a.eval y]) w = .ok (.int .i64 (Sw.cmpB l m)) w := by
   change Sem.run P (do pure (goInt (Extern.BytealgCompare.cmp (← Extern.Bytes.bytesOf (a.eval x)) (← Extern.Bytes.bytesOf (a.eval y))))) w = _
   simp only [Sem.run_bind, e1, e2, Result.andThen, Sem.run_pure, Lib.cmp_eq]
   rfl
  rw [h5]; rfl
 generalize a.eval = ρ at *
 simp only [execOp, ho, resolve, e, Deferred.ofValue, invoke, Sem.run_bind, Sem.run_pure, Result.andThen]
 simpa using e3
theorem OpV.ixArrC {t et n k b off j : Nat} {x y : Operand} {i : Int} {kk : IntKind} (hij : (i == (j : Int)) = true) (hj : Nat.blt j n = true) (ht : ∀ w, (underlying t).run P w = .ok (.array n et) w) (hs : ∀ w, (sizeOf et).run P w = .ok k w) (hn1 : Nat.ble 2 n = true)
  (ho : o.op = .indexAddr t x y := by exact rfl) (hx : opA env x = .ptr b off := by exact rfl) (hy : opA env y = .int kk i := by exact rfl) : OpV P o env H (.ptr b (off + j * k)) := by
 intro fr ro σ N a w r
 have h1 := opA_ok r x
 rw [hx] at h1
 obtain ⟨bb, h1, h2⟩ := h1
 have h3 := opA_ok r y
 rw [hy] at h3
 have h3' : a.eval y = .int kk i := h3
 have hi : i = (j : Int) := by simpa using hij
 have hjn : j < n := by simpa using hj
 have hn2 : 2 ≤ n := Nat.le_of_ble_eq_true hn1
 subst hi
 refine ⟨.pointer (some ⟨bb, off + j * k, none⟩), ?_, bb, h1, rfl⟩
 have hr : 0 ≤ (j : Int) ∧ (j : Int) < (n : Int) := by omega
 have hadd : (⟨bb, off, none⟩ : Addr).add ((j : Int).toNat * k) = ⟨bb, off + j * k, none⟩ := by
  unfold Addr.add
  split
  ·rename_i q; simp at q; simp [q]
  ·simp
 generalize a.eval = ρ at *
 simp [execOp, ho, h2, h3', Instr.indexAt, asIntOf, ht, hs, Instr.sureAddr, hr, hadd, go_sem, Result.andThen, hjn]
end
end Go.Sw
