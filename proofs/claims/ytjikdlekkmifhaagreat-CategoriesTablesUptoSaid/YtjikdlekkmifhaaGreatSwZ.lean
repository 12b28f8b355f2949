/- Interface values: assertions, calls of methods; loops that are unrolled; entries of maps that are stepped. -/
import Derived.Test.YtjikdlekkmifhaaGreatSwY
import Derived.Lib.LazyBuf
set_option linter.unusedVariables false
set_option linter.unusedSectionVars false
set_option linter.unusedSimpArgs false
namespace Go.Sw
section
variable {P : Program} {o : Oper} {env : Env} {H : Heap}
theorem OpC.inv {c : Call} {f T : Nat} {x : Operand} {xs : List Operand} {ts : Array TypeId} {name : String} {v : A} {args : List A} (hcall : ∀ (a : Array Value) (w : World), (callFunc f a).run P w = .ok (.enter f a) w) (ho : o.op = .call c)
  (hc : c = { callee := .invoke x name, args := xs.toArray, argTypes := ts }) (hx : opA env x = .iface T v) (hargs : v :: xs.map (opA env) = args)
  (hm : ∀ (u : Value) (w : World), (method (P.types.size + Made.depth) T u name).run P w = .ok (f, u) w) : OpC P o env H f args := by
 intro fr ro σ N a w r
 have h1 := opA_ok r x
 rw [hx] at h1
 obtain ⟨u, h1, h2⟩ := h1
 refine ⟨u :: xs.map a.eval, ?_, hargs ▸ ⟨u, xs.map a.eval, rfl, h2, argsA_ok r xs⟩⟩
 subst hc
 generalize a.eval = ρ at *
 have e : (#[ρ x] ++ (xs.toArray.map ρ) : Array Value) = (.iface T u :: xs.map ρ).toArray := by rw [h1]; simp
 have hex : ((.iface T u :: xs.map ρ).toArray.extract 1 (.iface T u :: xs.map ρ).toArray.size : Array Value) = (xs.map ρ).toArray := by
  simp [List.take_of_length_le]
 have hcm : ∀ l : Array Value, (callMethod (.iface T u) name l).run P w = .ok (.enter f (#[u] ++ l)) w := by
  intro l
  simp only [callMethod, Sem.run_bind, run_program, Result.andThen, hm, hcall]
 simp only [execOp, ho, resolve, e, invoke, Sem.run_bind, Sem.run_pure, Result.andThen]
 simp only [List.getElem?_toArray, List.getElem?_cons_zero, hex, hcm]
 simp
theorem OpV.taT {T I : Nat} {x : Operand} {v : A} {d : TypeDesc} (ht : ∀ w, (underlying T).run P w = .ok d w) (hd : ∀ m, d ≠ .interface m) (ho : o.op = .typeAssert x I T true := by exact rfl) (hx : opA env x = .iface T v := by exact rfl) :
  OpV P o env H (.tup [v, .bool true]) := by
 intro fr ro σ N a w r
 have h1 := opA_ok r x
 rw [hx] at h1
 obtain ⟨u, h1, h2⟩ := h1
 refine ⟨.tuple #[u, .bool true], ?_, [u, .bool true], rfl, _, _, rfl, h2, _, _, rfl, rfl, rfl⟩
 generalize a.eval = ρ at *
 cases d <;> first | (simp [execOp, ho, h1, Instr.typeAssert, ht, go_sem]; done) | exact (hd _ rfl).elim
theorem OpV.taF {T T' I : Nat} {x : Operand} {v z : A} {zv : Value} {d : TypeDesc} (ht : ∀ w, (underlying T).run P w = .ok d w) (hd : ∀ m, d ≠ .interface m) (hne : Nat.beq T' T = false) (hz : ∀ w, (zeroValue T).run P w = .ok zv w) (hzr : ZR z zv)
  (ho : o.op = .typeAssert x I T true := by exact rfl) (hx : opA env x = .iface T' v := by exact rfl) :
  OpV P o env H (.tup [z, .bool false]) := by
 intro fr ro σ N a w r
 have h1 := opA_ok r x
 rw [hx] at h1
 obtain ⟨u, h1, h2⟩ := h1
 have hn : T' ≠ T := fun q => by rw [q, Nat.beq_refl] at hne; cases hne
 refine ⟨.tuple #[zv, .bool false], ?_, [zv, .bool false], rfl, _, _, rfl, hzr _ _ _, _, _, rfl, rfl, rfl⟩
 generalize a.eval = ρ at *
 cases d <;> first | (simp [execOp, ho, h1, Instr.typeAssert, ht, hn, hz, go_sem]; done) | exact (hd _ rfl).elim
end
def TL (P : Program) (h0 N : Nat) (c : Code) (env : Env) (H : Heap) (Q : Post) : Prop :=
 ∀ fr ro σ a w, Rel fr ro σ H env N a w → ∀ b k cs, ∃ e a' w', PostW h0 fr ro σ w N Q e a' w' ∧ Arrives P (lone (b.at a (.code c :: .inLoop c :: k)) cs w) b k cs e a' w'
def UnrP (P : Program) (h0 N : Nat) (c : Code) (Q : Post) : Post
 | .normal, env, H => TL P h0 N c env H Q
 | .exit id, env, H => Q (.exit id) env H
 | .ret, env, H => Q .ret env H
section
variable {P : Program} {h0 N : Nat} {c : Code} {env : Env} {H : Heap} {Q : Post}
theorem TC.loopU (h : TL P h0 N c env H Q) : TC P h0 N (.loop c) env H Q := by
 intro fr ro σ a w r b k cs
 obtain ⟨e, a', w', hq, harr⟩ := h fr ro σ a w r b k cs
 exact ⟨e, a', w', hq, .of_steps (.one step_loop) harr⟩
theorem TL.round (h : TC P h0 N c env H (UnrP P h0 N c Q)) : TL P h0 N c env H Q := by
 intro fr ro σ a w r b k cs
 obtain ⟨e, a', w', hq, harr⟩ := h fr ro σ a w r b (.inLoop c :: k) cs
 obtain ⟨x, env', H', ro', σ', q1, q2, q3, q4, q5⟩ := hq
 have hp : ∀ x, Q x env' H' → ExR e x → PostW h0 fr ro σ w N Q e a' w' := fun x q q' => ⟨x, env', H', ro', σ', q', q, q3, q4, q5⟩
 cases e with
 | normal =>
  obtain rfl : x = .normal := q1
  obtain ⟨e2, a2, w2, hq2, harr2⟩ := q2 fr ro' σ' a' w' q3 b k cs
  exact ⟨e2, a2, w2, hq2.step q4 q5, .of_steps (Steps.trans harr (.one step_inLoop)) harr2⟩
 | exit id =>
  obtain rfl : x = .exit id := q1
  exact ⟨_, a', w', hp _ q2 rfl, .pass (x := .inLoop c) rfl (fun _ _ => .inl (by simp)) harr⟩
 | ret =>
  obtain rfl : x = .ret := q1
  exact ⟨_, a', w', hp _ q2 rfl, .pass (x := .inLoop c) rfl (fun _ _ => .inl (by simp)) harr⟩
 | _ => exact q1.elim
theorem unrN (h : TC P h0 N c env H (UnrP P h0 N c Q)) : UnrP P h0 N c Q .normal env H := TL.round h
theorem unrX {id : Nat} (h : Q (.exit id) env H) : UnrP P h0 N c Q (.exit id) env H := h
theorem unrR (h : Q .ret env H) : UnrP P h0 N c Q .ret env H := h
theorem TC.unroll (h : TC P h0 N c env H (UnrP P h0 N c Q)) : TC P h0 N (.loop c) env H Q := TC.loopU (TL.round h)
end
section
variable {P : Program} {o : Oper} {env : Env} {H : Heap}
theorem OpV.ixL {t et k b n j : Nat} {x y : Operand} {kk : IntKind} {i : Int} (hj : Nat.blt j n = true) (hi : i = (j : Int)) (ht : ∀ w, (underlying t).run P w = .ok (.slice et) w) (hs : ∀ w, (sizeOf et).run P w = .ok k w)
  (ho : o.op = .indexAddr t x y := by exact rfl) (hx : opA env x = .osl b 0 n k := by exact rfl) (hy : opA env y = .int kk i := by exact rfl) : OpV P o env H (.ptr b (j * k)) := by
 subst hi
 have h2 := OpV.ixO (H := H) ho ht hs hx hy (by omega) (by simpa using hj)
 rwa [Int.toNat_natCast, Nat.zero_mul, Nat.zero_add] at h2
theorem Pts.rowrL {b t k e f off : Nat} {es : List (List A)} {c cs' : List A} (ho : off = e * k + f) (hH : H[b]? = some (.rowr t k es) := by exact rfl) (he : es[e]? = some c := by exact rfl) (hcs : c.drop f = cs' := by exact rfl) : Pts H (.ptr b off) cs' :=
 Pts.rowr hH ho he hcs
end
theorem RL.prefix_ {ro : Nat → Prop} {σ : Sig} {w : World} {k : Nat} : ∀ {es : List (List A)} {l l' : List Value}, RL ro σ w k es l → l.take (es.length * k) = l'.take (es.length * k) → RL ro σ w k es l'
 | [], _, _, _, _ => trivial
 | c :: es, l, l', h, hp => by
  obtain ⟨l1, l2, rfl, h1, h2, h3⟩ := h
  have hl1 : l1.length = k := by rw [h2.1.length]; exact h1
  have e1 : l'.take k = l1 := by
   have := congrArg (List.take k) hp
   simp only [List.take_take, List.length_cons, Nat.succ_mul] at this
   rw [Nat.min_eq_left (by omega)] at this
   rw [← this, ← hl1]; simp
  refine ⟨l1, l'.drop k, by rw [← e1, List.take_append_drop], h1, h2, RL.prefix_ h3 ?_⟩
  have := congrArg (List.drop k) hp
  simp only [List.length_cons, Nat.succ_mul, List.drop_take] at this
  rw [show es.length * k + k - k = es.length * k by omega] at this
  rw [← this, ← hl1]
  simp
section
variable {P : Program} {o : Oper} {env : Env} {H : Heap}
theorem OpH.clearTail {c : Call} {T et k b s n t : Nat} {x : Operand} {es es' : List (List A)} {z : Value} (ht : P.underlying T = some (.slice et)) (hz : ∀ w, (zeroValue et).run P w = .ok z w) (hzk : z.cells.size = k) (hzp : ∀ v ∈ z.cells, plainV v)
  (hes : es.take s = es') (hb : s + n = es.length) (ho : o.op = .call c := by exact rfl) (hc : c = { callee := .builtin .clear, args := #[x], argTypes := #[T] } := by exact rfl)
  (hx : opA env x = .osl b s n k := by exact rfl) (hH : H[b]? = some (.row t k es) := by exact rfl) : OpH P o env H (.tup []) (H.set b (.row t k es')) := by
 intro fr ro σ N a w r
 subst hes hc
 have hu : ∀ w, (underlying T).run P w = .ok (.slice et) w := run_underlying ht
 have h1 := opA_ok r x
 rw [hx] at h1
 have hweak : Sim fr ro σ (H.set b (.row t k (es.take s))) w := by
  refine r.sim.weaken hH rfl ?_
  intro y hy
  cases y with
  | none => rw [show es = [] from hy]; simp [BR]
  | some bb => obtain ⟨l, g1, g2⟩ := hy; exact ⟨l, g1, RL.take s g2⟩
 have still : ∀ v, a.eval x = v → (Builtin.clear_ #[T] o.type #[v]).run P w = .ok (.tuple #[]) w →
   ∃ v w' ro' τ, (execOp a.eval o).run P w = .ok (.value v) w' ∧ VR ro' (σ ++ τ) w' (.tup []) v ∧ Sim fr ro' (σ ++ τ) (H.set b (.row t k (es.take s))) w' ∧ Evolve fr ro w ro' w' := by
  intro v hv hrun
  refine ⟨.tuple #[], w, ro, [], ?_, ⟨[], rfl, rfl⟩, by simpa using hweak, Evolve.refl _ _ _⟩
  generalize a.eval = ρ at *
  simp only [execOp, ho, resolve, Sem.run_bind, Sem.run_pure, Result.andThen, invoke, builtin, List.map_toArray, List.map_cons, List.map_nil, hv, hrun]
 rcases h1 with ⟨hn, h1⟩ | ⟨bb, p, cap, t', m, h1, h2, h3, h4, h5, h6⟩
 ·refine still _ h1 ?_
  simp [Builtin.clear_, hu, Result.andThen]
 ·by_cases hn : n = 0
  ·subst hn
   refine still _ h2 ?_
   simp [Builtin.clear_, hu, Result.andThen]
  ·obtain rfl := h3 (by omega)
   obtain ⟨l, q1, q2⟩ := r.sim.blk b _ _ h1 hH
   have hlen := q2.length
   let vs := (Builtin.zeroCells z.cells n).toList
   have hvl : vs.length = n * k := by simp [vs, Builtin.zeroCells, hzk]
   have hvp : ∀ v ∈ vs, plainV v := by
    intro v hv
    simp only [vs, Builtin.zeroCells, Array.toList_map, List.mem_map, Array.toList_range, List.mem_range] at hv
    obtain ⟨i, hi, rfl⟩ := hv
    have hpos : 0 < z.cells.size := by
     rcases Nat.eq_zero_or_pos z.cells.size with q | q
     ·rw [q, Nat.mul_zero] at hi; omega
     ·exact q
    have hlt : i % z.cells.size < z.cells.size := Nat.mod_lt _ hpos
    rw [getElem!_pos z.cells _ hlt]
    exact hzp _ (Array.getElem_mem hlt)
   have hsk : s * k + n * k = es.length * k := by rw [← Nat.add_mul, hb]
   have hrun := run_storeCells (P := P) (vs := vs) (s * k) 0 q1 (by omega) hvp
   have hset := r.sim.set (x' := .row t k (es.take s)) (obj := .cells (splice l (s * k) vs).toArray t (0, 0)) h1 hH rfl
    (fun y hy => shape_set q1 (splice_length (by omega)) y hy)
    (fun ex hex => ⟨_, hex, by
     refine (RL.prefix_ (RL.take s q2) ?_).mono ex.nil
     have hl : (es.take s).length * k ≤ s * k := Nat.mul_le_mul_right k (by simp; omega)
     have hl2 : (es.take s).length * k ≤ (l.take (s * k)).length := by rw [List.length_take (i := s * k), Nat.min_eq_left (by omega)]; exact hl
     have e := List.take_append_of_le_length (l₂ := vs ++ l.drop (s * k + vs.length)) hl2
     unfold splice
     rw [List.append_assoc, e, List.take_take, Nat.min_eq_left hl]⟩)
   refine ⟨.tuple #[], _, ro, [], ?_, ⟨[], rfl, rfl⟩, by simpa using hset.1, hset.2⟩
   have hcl : (Builtin.clear_ #[T] o.type #[.slice (some ⟨bb, s * k, none⟩) n cap]).run P w = .ok (.tuple #[]) { w with heap := w.heap.setIfInBounds bb (.cells (splice l (s * k) vs).toArray t (0, 0)) } := by
    obtain ⟨n', rfl⟩ : ∃ n', n = n' + 1 := ⟨n - 1, by omega⟩
    simp only [Nat.add_zero] at hrun
    simp only [Builtin.clear_, List.getElem?_toArray, List.getElem?_cons_zero, Sem.run_bind, hu, hz, Result.andThen, hrun, Sem.run_pure, vs]
   generalize a.eval = ρ at *
   simp only [execOp, ho, resolve, Sem.run_bind, Sem.run_pure, Result.andThen, invoke, builtin, List.map_toArray, List.map_cons, List.map_nil, h2, hcl]
end
def isNil {α R : Type} [DecidableEq R] (l : List α) (x y : Option R) : Option R := bif l.isEmpty then (bif decide (x = y) then x else none) else y
theorem isNil_ok {α R : Type} [DecidableEq R] {l : List α} {x y : Option R} {r : R} (h : isNil l x y = some r) (b : Bool) (hb : l ≠ [] → b = false) : (b = true → x = some r) ∧ (b = false → y = some r) := by
 unfold isNil at h
 cases q : l.isEmpty with
 | true =>
  rw [q] at h
  by_cases hxy : x = y
  ·subst hxy
   simp at h
   exact ⟨fun _ => h, fun _ => h⟩
  ·simp [hxy] at h
 | false =>
  rw [q] at h
  have hl : l ≠ [] := by rintro rfl; cases q
  refine ⟨fun e => ?_, fun _ => h⟩
  rw [hb hl] at e
  cases e
section
variable {P : Program} {o : Oper} {env : Env} {H : Heap} {h0 N : Nat} {Q : Post}
theorem OpE.nilEq {α : Type} {e : α → List A} {T E k : Nat} {u : TypeId} {x : Operand} {l : List α} (ht : P.underlying T = some (.slice E)) (ho : o.op = .binOp .eql T x (.const (.slice none 0 0)) u) (hx : opA env x = .rsl k (l.map e)) :
  OpE P o env H (fun v H' => ∃ b : Bool, v = .bool b ∧ (l ≠ [] → b = false) ∧ H' = H) := by
 intro fr ro σ N a w r
 have h1 := opA_ok r x
 rw [hx] at h1
 obtain ⟨ad, cap, h1, h2, h3⟩ := h1
 refine ⟨.bool ad.isNone, H, .bool ad.isNone, w, ro, [], ⟨ad.isNone, rfl, fun hl => ?_, rfl⟩, ?_, rfl, by simpa using r.sim, Evolve.refl _ _ _⟩
 ·rcases h3 with h3 | ⟨b, off, h3, _⟩
  ·exact absurd (List.map_eq_nil_iff.1 h3) hl
  ·rw [h3]; rfl
 ·have e0 : a.eval (.const (.slice none 0 0)) = .slice none 0 0 := rfl
  generalize a.eval = ρ at *
  have hg : (eqGuard .eql T x (.const (.slice none 0 0)) (.slice ad (l.map e).length cap) (.slice none 0 0)).run P w = .ok () w := by simp [eqGuard]
  simp only [execOp, ho, h1, e0, Sem.run_bind, hg, Result.andThen, Go.run_eql_slice_nil w T E ad _ cap ht, Sem.run_pure]
theorem WO.nilEq {α : Type} {e : α → List A} {T E k d : Nat} {u : TypeId} {x : Operand} {l : List α} {all : Array Oper} {L : List Oper} (ht : P.underlying T = some (.slice E)) (hx : opA env x = .rsl k (l.map e))
  (k1 : ∀ b : Bool, (l ≠ [] → b = false) → WO P h0 N all L (up env d (.bool b)) H Q)
  (ho : o.op = .binOp .eql T x (.const (.slice none 0 0)) u := by exact rfl) (hg : wantedA all o env true := by exact rfl) (hd : o.dst = some d := by exact rfl) (hN : Nat.blt d N = true := by exact rfl) (hh : Nat.ble h0 H.length = true := by exact rfl) : WO P h0 N all (o :: L) env H Q := by
 refine WO.opE (Nat.le_of_ble_eq_true hh) hg hd hN (OpE.nilEq ht ho hx) ?_
 rintro v H' ⟨b, rfl, hb, rfl⟩
 exact k1 b hb
end
theorem slc0 {α : Type} {l x : List α} {i : Int} (h : slc l 0 i = some x) : 0 ≤ i ∧ i.toNat ≤ l.length ∧ l.take i.toNat = x ∧ x.length = i.toNat := by
 obtain ⟨_, h1, h2, h3⟩ := slc_ok h
 have h4 : l.take i.toNat = x := by simpa using h3
 exact ⟨h1, by omega, h4, by rw [← h4, List.length_take]; omega⟩
section
variable {P : Program} {o : Oper} {env : Env} {H : Heap} {α : Type} {e : α → List A} {T et k b t : Nat} {x y : Operand} {l l' : List α} {i : Int}
theorem OpV.cutSuf (h : slc l 0 i = some l') (E1 : ∀ w, (underlying T).run P w = .ok (.slice et) w) (E2 : ∀ w, (sizeOf et).run P w = .ok k w) (ho : o.op = .slice T x (some y) none none := by exact rfl)
  (hx : opA env x = .osl b 0 l.length k := by exact rfl) (hy : opA env y = .int .i64 i := by exact rfl) : OpV P o env H (.osl b (0 + i.toNat) (l.length - i.toNat) k) := by
 obtain ⟨h1, h2, _, _⟩ := slc0 h
 exact OpV.cutO E1 E2 ho hx (.inr ⟨y, i, rfl, hy, h1, rfl⟩) (.inl ⟨rfl, rfl⟩) h2 (Nat.le_refl _)
theorem OpV.cutPre (h : slc l 0 i = some l') (E1 : ∀ w, (underlying T).run P w = .ok (.slice et) w) (E2 : ∀ w, (sizeOf et).run P w = .ok k w) (ho : o.op = .slice T x none (some y) none := by exact rfl)
  (hx : opA env x = .osl b 0 l.length k := by exact rfl) (hy : opA env y = .int .i64 i := by exact rfl) : OpV P o env H (.osl b 0 l'.length k) := by
 obtain ⟨h1, h2, _, h4⟩ := slc0 h
 have := OpV.cutO (H := H) E1 E2 ho hx (.inl ⟨rfl, rfl⟩) (.inr ⟨y, i, rfl, hy, h1, rfl⟩) (Nat.zero_le _) h2
 rw [h4]
 simpa using this
theorem OpH.clearT {c : Call} {z : Value} (h : slc l 0 i = some l') (ht : P.underlying T = some (.slice et)) (hz : ∀ w, (zeroValue et).run P w = .ok z w) (hzk : z.cells.size = k) (hzp : ∀ v ∈ z.cells, plainV v) (ho : o.op = .call c := by exact rfl) (hc : c = { callee := .builtin .clear, args := #[x], argTypes := #[T] } := by exact rfl)
  (hx : opA env x = .osl b (0 + i.toNat) (l.length - i.toNat) k := by exact rfl) (hH : H[b]? = some (.row t k (l.map e)) := by exact rfl) : OpH P o env H (.tup []) (H.set b (.row t k (l'.map e))) := by
 obtain ⟨h1, h2, h3, h4⟩ := slc0 h
 refine OpH.clearTail ht hz hzk hzp ?_ ?_ ho hc hx hH
 ·rw [Nat.zero_add, ← h3, List.map_take]
 ·rw [List.length_map]; omega
end
end Go.Sw
