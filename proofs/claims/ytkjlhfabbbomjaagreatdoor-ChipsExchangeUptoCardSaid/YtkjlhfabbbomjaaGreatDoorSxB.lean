/- Short forms of the rules, for long walks. -/
import Derived.Test.YtkjlhfabbbomjaaGreatDoorSxA
set_option linter.unusedVariables false
set_option linter.unusedSectionVars false
set_option linter.unusedSimpArgs false
namespace Go.Sw
inductive Bx where
 | mk (a : A)
def lkB : Env → Nat → Bx
 | [], _ => .mk .any
 | (d, a) :: r, s => bif Nat.beq s d then .mk a else lkB r s
theorem lkB_ok : ∀ {env : Env} {s : Nat} {a : A}, lkB env s = .mk a → lk env s = a
 | [], s, a, h => by cases h; rfl
 | (d, b) :: r, s, a, h => by
  unfold lkB at h
  unfold lk
  cases q : Nat.beq s d with
  | true => rw [q] at h; cases h; rfl
  | false => rw [q] at h; exact lkB_ok h
def opB (env : Env) : Operand → Bx
 | .tmp t => lkB env t
 | .const (.bool b) => .mk (.bool b)
 | .const (.int k n) => .mk (.int k n)
 | .const (.string s) => .mk (.str s.data.toList)
 | .const (.pointer none) => .mk .nilp
 | .const (.slice none 0 0) => .mk .nils
 | .const (.map none) => .mk .nilm
 | .const .nilFunc => .mk .nilf
 | .const .nilIface => .mk .nilif
 | .func f => .mk (.fn (.func f) [] [])
 | _ => .mk .any
theorem opB_ok {env : Env} {x : Operand} {a : A} (h : opB env x = .mk a) : opA env x = a := by
 cases x with
 | tmp t => exact lkB_ok h
 | const v =>
  cases v with
  | slice b n k => cases b with
   | none => cases n with
    | zero => cases k <;> (cases h; rfl)
    | succ n => cases h; rfl
   | some b => cases h; rfl
  | pointer p => cases p <;> (cases h; rfl)
  | map p => cases p <;> (cases h; rfl)
  | _ => cases h; rfl
 | global g => cases h; rfl
 | func f => cases h; rfl
def getB {α : Type} : List α → Nat → Option α
 | [], _ => none
 | a :: _, 0 => some a
 | _ :: r, n + 1 => getB r n
theorem getB_eq {α : Type} : ∀ (l : List α) (n : Nat), getB l n = l[n]?
 | [], n => by simp [getB]
 | a :: r, 0 => rfl
 | a :: r, n + 1 => by simp [getB, getB_eq r n]
def arB : BinOp → IntKind → Int → Int → Option A
 | .add, k, m, n => some (.int k (k.wrap (m + n)))
 | .sub, k, m, n => some (.int k (k.wrap (m - n)))
 | .mul, k, m, n => some (.int k (k.wrap (m * n)))
 | .eql, _, m, n => some (.bool (m == n))
 | .neq, _, m, n => some (.bool (m != n))
 | .lss, _, m, n => some (.bool (decide (m < n)))
 | .leq, _, m, n => some (.bool (decide (m ≤ n)))
 | .gtr, _, m, n => some (.bool (decide (n < m)))
 | .geq, _, m, n => some (.bool (decide (n ≤ m)))
 | _, _, _, _ => none
def srB : BinOp → List UInt8 → List UInt8 → Option A
 | .eql, p, q => some (.bool (p == q))
 | .neq, p, q => some (.bool (p != q))
 | .lss, p, q => some (.bool (Op.bytesLess p q))
 | _, _, _ => none
def biB (b : BinOp) : Bx → Bx → Option A
 | .mk (.int k m), .mk (.int k' n) => if k = k' then arB b k m n else none
 | .mk (.str p), .mk (.str q) => srB b p q
 | _, _ => none
def unB : UnOp → Bx → Option A
 | .not, .mk (.bool b) => some (.bool !b)
 | .neg, .mk (.int k n) => some (.int k (k.wrap (0 - n)))
 | _, _ => none
def exB : Bx → Nat → Option A
 | .mk (.tup vs), i => getB vs i
 | _, _ => none
def nlB : Bx → Option A
 | .mk (.ptr i j) => some (.ptr i j)
 | .mk (.rp cs) => some (.rp cs)
 | _ => none
def piB : Bx → Bx → Bx → Option A
 | .mk (.bool true), .mk a, _ => some a
 | .mk (.bool false), _, .mk a => some a
 | _, _, _ => none
def svB (env : Env) : Op → Option A
 | .move x => match opB env x with | .mk a => some a
 | .assign x => match opB env x with | .mk a => some a
 | .nilCheck x => nlB (opB env x)
 | .extract x i => exB (opB env x) i
 | .unOp u _ x => unB u (opB env x)
 | .pick c x y => piB (opB env c) (opB env x) (opB env y)
 | .binOp b _ x y _ => biB b (opB env x) (opB env y)
 | _ => none
def pr (d : Nat) : Option A → Option (Nat × A)
 | some a => some (d, a)
 | none => none
def stB (o : Oper) (env : Env) : Option (Nat × A) :=
 match o.dst with
 | some d => pr d (svB env o.op)
 | none => none
section
variable {P : Program} {h0 N : Nat} {all : Array Oper} {o : Oper} {l : List Oper} {env : Env} {H H' : Heap} {Q : Post} {d : Nat} {x : A}
theorem svB_ok {p : Op} (ho : o.op = p) (h : svB env p = some x) : OpV P o env H x := by
 unfold svB at h
 split at h
 ·rename_i y
  cases q : opB env y with | mk a => rw [q] at h; cases h; exact OpV.move ho (opB_ok q)
 ·rename_i y
  cases q : opB env y with | mk a => rw [q] at h; cases h; exact OpV.assign ho (opB_ok q)
 ·rename_i y
  unfold nlB at h
  split at h
  ·rename_i i j q; cases h; exact OpV.nilChk ho (opB_ok q) rfl
  ·rename_i cs q; cases h; exact OpV.nilChk ho (opB_ok q) rfl
  ·cases h
 ·rename_i y i
  unfold exB at h
  split at h
  ·rename_i vs _ q; rw [getB_eq] at h; exact OpV.extract ho (opB_ok q) h
  ·cases h
 ·rename_i u t y
  unfold unB at h
  split at h
  ·rename_i b q; cases h; exact OpV.not ho (opB_ok q)
  ·rename_i k n q; cases h; exact OpV.neg ho (opB_ok q)
  ·cases h
 ·rename_i c y z
  unfold piB at h
  split at h
  ·rename_i a _ q1 q2; cases h; exact OpV.pick ho (opB_ok q1) (by rw [if_pos rfl]; exact opB_ok q2)
  ·rename_i a q1 q2; cases h; exact OpV.pick ho (opB_ok q1) (by rw [if_neg (by decide)]; exact opB_ok q2)
  ·cases h
 ·rename_i b t y z u
  unfold biB at h
  split at h
  ·rename_i k m k' n q1 q2
   split at h
   ·rename_i e
    subst e
    have h1 := opB_ok q1
    have h2 := opB_ok q2
    unfold arB at h
    split at h
    ·cases h; exact OpV.add ho h1 h2
    ·cases h; exact OpV.sub ho h1 h2
    ·cases h; exact OpV.mul ho h1 h2
    ·cases h; exact OpV.eql ho h1 h2
    ·cases h; exact OpV.neq ho h1 h2
    ·cases h; exact OpV.lss ho h1 h2
    ·cases h; exact OpV.leq ho h1 h2
    ·cases h; exact OpV.gtr ho h1 h2
    ·cases h; exact OpV.geq ho h1 h2
    ·cases h
   ·cases h
  ·rename_i p q q1 q2
   have h1 := opB_ok q1
   have h2 := opB_ok q2
   unfold srB at h
   split at h
   ·cases h; exact OpV.strEq ho h1 h2
   ·cases h; exact OpV.strNe ho h1 h2
   ·cases h; exact OpV.strLt ho h1 h2
   ·cases h
  ·cases h
 ·cases h
theorem stB_ok (h : stB o env = some (d, x)) : o.dst = some d ∧ OpV P o env H x := by
 unfold stB at h
 split at h
 ·rename_i d' q
  cases e : svB env o.op with
  | none => rw [e] at h; cases h
  | some a => rw [e] at h; cases h; exact ⟨q, svB_ok rfl e⟩
 ·cases h
theorem S (e : stB o env = some (d, x)) (k : WO P h0 N all l (up env d x) H Q) (hg : wantedA all o env true := by exact rfl) (hN : Nat.blt d N = true := by exact rfl) : WO P h0 N all (o :: l) env H Q :=
 WO.opV hg (stB_ok (P := P) (H := H) e).1 hN (stB_ok e).2 k
theorem Sg (hg : wantedA all o env true) (e : stB o env = some (d, x)) (k : WO P h0 N all l (up env d x) H Q) (hN : Nat.blt d N = true := by exact rfl) : WO P h0 N all (o :: l) env H Q :=
 WO.opV hg (stB_ok (P := P) (H := H) e).1 hN (stB_ok e).2 k
theorem K (hg : wantedA all o env false) (hd : o.dst = some d) (k : WO P h0 N all l (up env d (.tup [])) H Q) (hN : Nat.blt d N = true := by exact rfl) : WO P h0 N all (o :: l) env H Q :=
 WO.skip hg hd hN k
theorem KF {j s : Nat} {c y : Bool} (hx : y = !c) (hd : o.dst = some d) (k : WO P h0 N all l (up env d (.tup [])) H Q) (hN : Nat.blt d N = true := by exact rfl) (hg : o.guard = some (j, c) := by exact rfl) (hs : (all[j]?).bind (·.dst) = some s := by exact rfl) (hl : lk env s = .bool y := by exact rfl) : WO P h0 N all (o :: l) env H Q :=
 WO.skip (gF hx hg hs hl) hd hN k
theorem KU {j s : Nat} {c : Bool} (hd : o.dst = some d) (k : WO P h0 N all l (up env d (.tup [])) H Q) (hN : Nat.blt d N = true := by exact rfl) (hg : o.guard = some (j, c) := by exact rfl) (hs : (all[j]?).bind (·.dst) = some s := by exact rfl) (hl : lk env s = .tup [] := by exact rfl) : WO P h0 N all (o :: l) env H Q :=
 WO.skip (gU hg hs hl) hd hN k
def p2B (v : Bool) : Bx → Bx → Bx → Option (Bool × A)
 | .mk (.bool b), .mk a, .mk a' => match v with | true => some (b, a) | false => some (b, a')
 | _, _, _ => none
def pr2 (d : Nat) : Option (Bool × A) → Option (Nat × Bool × A)
 | some a => some (d, a)
 | none => none
def pkB (v : Bool) (o : Oper) (env : Env) : Option (Nat × Bool × A) :=
 match o.dst, o.op with
 | some d, .pick c x y => pr2 d (p2B v (opB env c) (opB env x) (opB env y))
 | _, _ => none
theorem p2B_ok {v b : Bool} {p q r : Bx} (h : p2B v p q r = some (b, x)) : ∃ a a', p = .mk (.bool b) ∧ q = .mk a ∧ r = .mk a' ∧ (bif v then a else a') = x := by
 obtain ⟨p⟩ := p
 obtain ⟨q⟩ := q
 obtain ⟨r⟩ := r
 cases p <;> first | (cases h; done) | skip
 cases v <;> cases h <;> exact ⟨_, _, rfl, rfl, rfl, rfl⟩
theorem pkB_ok {v b : Bool} (h : pkB v o env = some (d, b, x)) (hb : b = v) : o.dst = some d ∧ OpV P o env H x := by
 unfold pkB at h
 split at h
 ·rename_i d' c y z q1 q2
  cases e : p2B v (opB env c) (opB env y) (opB env z) with
  | none => rw [e] at h; cases h
  | some s =>
   rw [e] at h; cases h
   obtain ⟨a, a', e1, e2, e3, e4⟩ := p2B_ok e
   refine ⟨q1, OpV.pick q2 (opB_ok e1) ?_⟩
   rw [opB_ok e2, opB_ok e3, hb]
   cases v <;> exact e4
 ·cases h
theorem Pk {v b : Bool} (hb : b = v) (e : pkB v o env = some (d, b, x)) (k : WO P h0 N all l (up env d x) H Q) (hg : wantedA all o env true := by exact rfl) (hN : Nat.blt d N = true := by exact rfl) : WO P h0 N all (o :: l) env H Q :=
 WO.opV hg (pkB_ok (P := P) (H := H) e hb).1 hN (pkB_ok e hb).2 k
theorem Pkg {v b : Bool} (hg : wantedA all o env true) (hb : b = v) (e : pkB v o env = some (d, b, x)) (k : WO P h0 N all l (up env d x) H Q) (hN : Nat.blt d N = true := by exact rfl) : WO P h0 N all (o :: l) env H Q :=
 WO.opV hg (pkB_ok (P := P) (H := H) e hb).1 hN (pkB_ok e hb).2 k
def fpB (o : Oper) (env : Env) : Option (Nat × Nat × Nat × Nat × Nat) :=
 match o.dst, o.op with
 | some d, .fieldAddr T x f => match opB env x with
  | .mk (.ptr i p) => some (d, T, f, i, p)
  | _ => none
 | _, _ => none
theorem fpB_ok {T f off n i p : Nat} (hf : FieldAt P T f off n) (h : fpB o env = some (d, T, f, i, p)) : o.dst = some d ∧ OpV P o env H (.ptr i (p + off)) := by
 unfold fpB at h
 split at h
 ·rename_i q1 q2
  split at h
  ·rename_i q3; cases h; exact ⟨q1, OpV.fieldP hf q2 (opB_ok q3)⟩
  ·cases h
 ·cases h
theorem Fp {T f off n i p : Nat} (hf : FieldAt P T f off n) (e : fpB o env = some (d, T, f, i, p)) (k : WO P h0 N all l (up env d (.ptr i (p + off))) H Q) (hg : wantedA all o env true := by exact rfl) (hN : Nat.blt d N = true := by exact rfl) : WO P h0 N all (o :: l) env H Q :=
 WO.opV hg (fpB_ok (H := H) hf e).1 hN (fpB_ok hf e).2 k
theorem Fpg {T f off n i p : Nat} (hg : wantedA all o env true) (hf : FieldAt P T f off n) (e : fpB o env = some (d, T, f, i, p)) (k : WO P h0 N all l (up env d (.ptr i (p + off))) H Q) (hN : Nat.blt d N = true := by exact rfl) : WO P h0 N all (o :: l) env H Q :=
 WO.opV hg (fpB_ok (H := H) hf e).1 hN (fpB_ok hf e).2 k
inductive Lx where
 | mk (l : List A)
def dropB : Nat → List A → Lx
 | 0, l => .mk l
 | n + 1, _ :: r => dropB n r
 | _ + 1, [] => .mk []
theorem dropB_ok : ∀ {n : Nat} {l r : List A}, dropB n l = .mk r → l.drop n = r
 | 0, l, r, h => by cases h; rfl
 | n + 1, a :: l, r, h => by rw [List.drop_succ_cons]; exact dropB_ok h
 | n + 1, [], r, h => by cases h; rfl
def frB (off : Nat) (o : Oper) (env : Env) : Option (Nat × Nat × Nat × List A) :=
 match o.dst, o.op with
 | some d, .fieldAddr T x f => match opB env x with
  | .mk (.rp cs) => match dropB off cs with
   | .mk r => some (d, T, f, r)
  | _ => none
 | _, _ => none
theorem frB_ok {T f off n : Nat} {r : List A} (hf : FieldAt P T f off n) (h : frB off o env = some (d, T, f, r)) : o.dst = some d ∧ OpV P o env H (.rp r) := by
 unfold frB at h
 split at h
 ·rename_i q1 q2
  split at h
  ·rename_i cs q3
   cases q4 : dropB off cs with | mk r' => rw [q4] at h; cases h; exact ⟨q1, OpV.fieldR hf q2 (opB_ok q3) (dropB_ok q4)⟩
  ·cases h
 ·cases h
theorem Fr {T f off n : Nat} {r : List A} (hf : FieldAt P T f off n) (e : frB off o env = some (d, T, f, r)) (k : WO P h0 N all l (up env d (.rp r)) H Q) (hg : wantedA all o env true := by exact rfl) (hN : Nat.blt d N = true := by exact rfl) : WO P h0 N all (o :: l) env H Q :=
 WO.opV hg (frB_ok (H := H) hf e).1 hN (frB_ok hf e).2 k
theorem Frg {T f off n : Nat} {r : List A} (hg : wantedA all o env true) (hf : FieldAt P T f off n) (e : frB off o env = some (d, T, f, r)) (k : WO P h0 N all l (up env d (.rp r)) H Q) (hN : Nat.blt d N = true := by exact rfl) : WO P h0 N all (o :: l) env H Q :=
 WO.opV hg (frB_ok (H := H) hf e).1 hN (frB_ok hf e).2 k
def ctB : Option Blk → Nat → Option A
 | some (.cells _ cs), off => getB cs off
 | _, _ => none
def lvB (H : Heap) : Bx → Option A
 | .mk (.ptr i off) => ctB (getB H i) off
 | .mk (.rp (a :: _)) => some a
 | _ => none
def pr3 (d t : Nat) : Option A → Option (Nat × Nat × A)
 | some a => some (d, t, a)
 | none => none
def ldB (o : Oper) (env : Env) (H : Heap) : Option (Nat × Nat × A) :=
 match o.dst, o.op with
 | some d, .load t x => pr3 d t (lvB H (opB env x))
 | _, _ => none
theorem ldB_ok {t : Nat} (ha : ∀ w, (isAgg t).run P w = .ok false w) (h : ldB o env H = some (d, t, x)) : o.dst = some d ∧ OpV P o env H x := by
 unfold ldB at h
 split at h
 ·rename_i d' t' y q1 q2
  cases e : lvB H (opB env y) with
  | none => rw [e] at h; cases h
  | some a =>
   rw [e] at h; cases h
   refine ⟨q1, ?_⟩
   unfold lvB at e
   split at e
   ·rename_i i off q3
    unfold ctB at e
    split at e
    ·rename_i off nn T0 T cs q4
     rw [getB_eq] at e q4
     obtain ⟨cs', hc⟩ : ∃ cs', cs.drop off = x :: cs' := by
      have hlt := (List.getElem?_eq_some_iff.1 e).1
      refine ⟨cs.drop (off + 1), ?_⟩
      rw [List.drop_eq_getElem_cons hlt, (List.getElem?_eq_some_iff.1 e).2]
     exact OpV.load q2 ha (opB_ok q3) (Pts.cells q4 hc)
    ·cases e
   ·rename_i a r q3
    cases e
    exact OpV.load q2 ha (opB_ok q3) Pts.rp
   ·cases e
 ·cases h
theorem Ld {t : Nat} (ha : ∀ w, (isAgg t).run P w = .ok false w) (e : ldB o env H = some (d, t, x)) (k : WO P h0 N all l (up env d x) H Q) (hg : wantedA all o env true := by exact rfl) (hN : Nat.blt d N = true := by exact rfl) : WO P h0 N all (o :: l) env H Q :=
 WO.opV hg (ldB_ok ha e).1 hN (ldB_ok ha e).2 k
theorem Ldg {t : Nat} (hg : wantedA all o env true) (ha : ∀ w, (isAgg t).run P w = .ok false w) (e : ldB o env H = some (d, t, x)) (k : WO P h0 N all l (up env d x) H Q) (hN : Nat.blt d N = true := by exact rfl) : WO P h0 N all (o :: l) env H Q :=
 WO.opV hg (ldB_ok ha e).1 hN (ldB_ok ha e).2 k
def ixB (o : Oper) (env : Env) : Option (Nat × Nat × Nat × List (List A) × IntKind × Int) :=
 match o.dst, o.op with
 | some d, .indexAddr t x y => match opB env x, opB env y with
  | .mk (.rsl k es), .mk (.int kk i) => some (d, t, k, es, kk, i)
  | _, _ => none
 | _, _ => none
theorem Ix {α : Type} {e : α → List A} {t et k : Nat} {L : List α} {kk : IntKind} {i : Int} {v : α} (h : idx L i = some v) (ht : ∀ w, (underlying t).run P w = .ok (.slice et) w) (hs : ∀ w, (sizeOf et).run P w = .ok k w)
  (q : ixB o env = some (d, t, k, L.map e, kk, i)) (k : WO P h0 N all l (up env d (.rp (e v))) H Q) (hg : wantedA all o env true := by exact rfl) (hN : Nat.blt d N = true := by exact rfl) : WO P h0 N all (o :: l) env H Q := by
 unfold ixB at q
 split at q
 ·rename_i q1 q2
  split at q
  ·rename_i q3 q4
   simp only [Option.some.injEq, Prod.mk.injEq] at q
   obtain ⟨rfl, rfl, rfl, e1, rfl, rfl⟩ := q
   exact WO.opV hg q1 hN (OpV.ixM h ht hs q2 (by rw [opB_ok q3, e1]) (opB_ok q4)) k
  ·cases q
 ·cases q
def lnB (o : Oper) (env : Env) : Option (Nat × Nat × Bx) :=
 match o.dst, o.op with
 | some d, .call c => match c with
  | { callee := .builtin .len, args := ⟨[x]⟩, argTypes := ⟨[t]⟩ } => some (d, t, opB env x)
  | _ => none
 | _, _ => none
theorem lnB_ok {t : Nat} {b : Bx} (q : lnB o env = some (d, t, b)) : ∃ x, o.dst = some d ∧ o.op = .call { callee := .builtin .len, args := #[x], argTypes := #[t] } ∧ opB env x = b := by
 unfold lnB at q
 split at q
 ·rename_i q1 q2
  split at q
  ·cases q; exact ⟨_, q1, q2, rfl⟩
  ·cases q
 ·cases q
theorem LnM {α : Type} {e : α → List A} {t et k : Nat} {L : List α} (ht : ∀ w, (underlying t).run P w = .ok (.slice et) w) (q : lnB o env = some (d, t, .mk (.rsl k (L.map e))))
  (k : WO P h0 N all l (up env d (.int .i64 L.length)) H Q) (hg : wantedA all o env true := by exact rfl) (hN : Nat.blt d N = true := by exact rfl) : WO P h0 N all (o :: l) env H Q := by
 obtain ⟨x, q1, q2, q3⟩ := lnB_ok q
 exact WO.opV hg q1 hN (OpV.lenM ht q2 rfl (opB_ok q3)) k
theorem LnO {t et i n k : Nat} (ht : ∀ w, (underlying t).run P w = .ok (.slice et) w) (q : lnB o env = some (d, t, .mk (.osl i 0 n k)))
  (k : WO P h0 N all l (up env d (.int .i64 n)) H Q) (hg : wantedA all o env true := by exact rfl) (hN : Nat.blt d N = true := by exact rfl) : WO P h0 N all (o :: l) env H Q := by
 obtain ⟨x, q1, q2, q3⟩ := lnB_ok q
 exact WO.opV hg q1 hN (OpV.lenOM ht q2 rfl (opB_ok q3)) k
end
section
variable {P : Program} {h0 N : Nat} {all : Array Oper} {env env' : Env} {H H' : Heap} {Q : Post} {c c' : Code}
theorem Nx (h : TC P h0 N c env H Q) : WO P h0 N all [] env H (Seq P h0 N c Q) := WO.nil (seqN h)
theorem Rg {id : Nat} {l : List Oper} (h : WO P h0 N l.toArray l env H (Seq P h0 N c Q)) : TC P h0 N (.seq (.region id l.toArray false) c) env H Q := TC.seq (TC.region h)
theorem SkN (h : TC P h0 N c env H Q) : TC P h0 N .skip env H (Seq P h0 N c Q) := TC.skip (seqN h)
theorem RtR (h : Q .ret env H) : TC P h0 N .ret env H (Seq P h0 N c Q) := TC.ret (seqR h)
theorem ExX {id : Nat} (h : Q (.exit id) env H) : TC P h0 N (.exit id) env H (Seq P h0 N c Q) := TC.exit (seqX h)
theorem Oi {α : Type} {x y : α} (h : some x = some y) : x = y := Option.some.inj h
theorem Bd {α β : Type} {x : Option α} {f : α → Option β} {r : β} {G : Prop} (h : x.bind f = some r) (k : ∀ a, x = some a → f a = some r → G) : G := by
 obtain ⟨a, h1, h2⟩ := bnd h
 exact k a h1 h2
theorem If {α : Type} {c : Bool} {x y : Option α} {r : α} {G : Prop} (h : (bif c then x else y) = some r) (t : c = true → x = some r → G) (e : c = false → y = some r → G) : G := by
 cases c with
 | true => exact t rfl h
 | false => exact e rfl h
theorem Cn {α : Type} {x : Operand} {t : Bool} {p q : Option α} {r : α} (hx : opB env x = .mk (.bool t)) (h : (bif t then p else q) = some r) (ht : t = true → p = some r → TC P h0 N c env H Q) (hf : t = false → q = some r → TC P h0 N c' env H Q) : TC P h0 N (.cond x c c') env H Q :=
 TC.cond (opB_ok hx) (fun e => ht e (ifT e h)) (fun e => hf e (ifF e h))
theorem CnS {α : Type} {x : Operand} {t : Bool} {p q : Option α} {r : α} (hx : opB env x = .mk (.bool t)) (h : (bif t then p else q) = some r) (hf : t = false → q = some r → TC P h0 N c' env H Q) (ht : t = true → p = some r → TC P h0 N c env H Q) : TC P h0 N (.cond x c c') env H Q :=
 TC.cond (opB_ok hx) (fun e => ht e (ifT e h)) (fun e => hf e (ifF e h))
theorem CnT {x : Operand} {t : Bool} (h : t = true) (hx : opB env x = .mk (.bool t)) (ht : TC P h0 N c env H Q) : TC P h0 N (.cond x c c') env H Q := TC.condT (opB_ok hx) h ht
theorem CnF {x : Operand} {t : Bool} (h : t = false) (hx : opB env x = .mk (.bool t)) (hf : TC P h0 N c' env H Q) : TC P h0 N (.cond x c c') env H Q := TC.condF (opB_ok hx) h hf
theorem Lr (π : List Nat) (hpre : π.take h0 = List.range h0 := by exact rfl) (hH : π.map (fun p => H[p]?) = (H'.map (renB (rho π H.length))).map some := by exact rfl) (hπ : π.Nodup := by decide)
  (hE : EnvLe (rho π H.length) env env' := by (repeat' (first | exact trivial | refine ⟨rfl, ?_⟩))) : Le h0 env H env' H' := Le.ren π hpre hH hπ hE
end
end Go.Sw
