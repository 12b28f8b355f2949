/- Interface values: assertions, calls of methods; loops that are unrolled; entries of maps that are stepped. -/
import Derived.Test.YtkjlhfabbbomjaaGreatDoorSwY
import Derived.Lib.LazyBuf
set_option linter.unusedVariables false
set_option linter.unusedSectionVars false
set_option linter.unusedSimpArgs false
namespace Go.Sw
section
variable {P : Program} {o : Oper} {env : Env} {H : Heap}
theorem OpC.inv {c : Call} {f T : Nat} {x : Operand} {xs : List Operand} {ts : Array TypeId} {name : String} {v : A} {args : List A} (hcall : ∀ (a : Array Value) (w : World), (callFunc f a).run P w = .ok (.enter f a) w) (ho : o.op = .call c)
  (hc : c = { callee := .invoke x name, args := xs.toArray, argTypes := ts }) (hx : opA env x = .iface T v) (hargs : v :: xs.map (opA env) = args)
  (hm : ∀ (u : Value) (w : World), (method (P.types.size + Made.depth) T u name).run P w = .ok (f, u) w) : OpC P o env H f args := by
 intro fr ro σ N a w r
 have h1 := opA_ok r x
 rw [hx] at h1
 obtain ⟨u, h1, h2⟩ := h1
 refine ⟨u :: xs.map a.eval, ?_, hargs ▸ ⟨u, xs.map a.eval, rfl, h2, argsA_ok r xs⟩⟩
 subst hc
 generalize a.eval = ρ at *
 have e : (#[ρ x] ++ (xs.toArray.map ρ) : Array Value) = (.iface T u :: xs.map ρ).toArray := by rw [h1]; simp
 have hex : ((.iface T u :: xs.map ρ).toArray.extract 1 (.iface T u :: xs.map ρ).toArray.size : Array Value) = (xs.map ρ).toArray := by
  simp [List.take_of_length_le]
 have hcm : ∀ l : Array Value, (callMethod (.iface T u) name l).run P w = .ok (.enter f (#[u] ++ l)) w := by
  intro l
  simp only [callMethod, Sem.run_bind, run_program, Result.andThen, hm, hcall]
 simp only [execOp, ho, resolve, e, invoke, Sem.run_bind, Sem.run_pure, Result.andThen]
 simp only [List.getElem?_toArray, List.getElem?_cons_zero, hex, hcm]
 simp
theorem OpV.taT {T I : Nat} {x : Operand} {v : A} {d : TypeDesc} (ht : ∀ w, (underlying T).run P w = .ok d w) (hd : ∀ m, d ≠ .interface m) (ho : o.op = .typeAssert x I T true := by exact rfl) (hx : opA env x = .iface T v := by exact rfl) :
  OpV P o env H (.tup [v, .bool true]) := by
 intro fr ro σ N a w r
 have h1 := opA_ok r x
 rw [hx] at h1
 obtain ⟨u, h1, h2⟩ := h1
 refine ⟨.tuple #[u, .bool true], ?_, [u, .bool true], rfl, _, _, rfl, h2, _, _, rfl, rfl, rfl⟩
 generalize a.eval = ρ at *
 cases d <;> first | (simp [execOp, ho, h1, Instr.typeAssert, ht, go_sem]; done) | exact (hd _ rfl).elim
theorem OpV.taF {T T' I : Nat} {x : Operand} {v z : A} {zv : Value} {d : TypeDesc} (ht : ∀ w, (underlying T).run P w = .ok d w) (hd : ∀ m, d ≠ .interface m) (hne : Nat.beq T' T = false) (hz : ∀ w, (zeroValue T).run P w = .ok zv w) (hzr : ZR z zv)
  (ho : o.op = .typeAssert x I T true := by exact rfl) (hx : opA env x = .iface T' v := by exact rfl) :
  OpV P o env H (.tup [z, .bool false]) := by
 intro fr ro σ N a w r
 have h1 := opA_ok r x
 rw [hx] at h1
 obtain ⟨u, h1, h2⟩ := h1
 have hn : T' ≠ T := fun q => by rw [q, Nat.beq_refl] at hne; cases hne
 refine ⟨.tuple #[zv, .bool false], ?_, [zv, .bool false], rfl, _, _, rfl, hzr _ _ _, _, _, rfl, rfl, rfl⟩
 generalize a.eval = ρ at *
 cases d <;> first | (simp [execOp, ho, h1, Instr.typeAssert, ht, hn, hz, go_sem]; done) | exact (hd _ rfl).elim
end
def TL (P : Program) (h0 N : Nat) (c : Code) (env : Env) (H : Heap) (Q : Post) : Prop :=
 ∀ rd fr ro σ a w, Rel fr ro σ H env N a w → RdOk rd fr w → ∀ (b : Frame) (k : List Item) (cs : List Frame), b.roundOf = (WF rd).round → (WF rd).fn b.fn → (WF rd).room (cs.length + 1 + 0) → ∃ e a' w', PostW h0 fr ro σ w N a.defers Q e a' w' ∧ ArrivesIn (Machine.fenced P (WF rd)) P (lone (b.atR a (.code c :: .inLoop c :: k)) cs w) b k cs e a' w'
def UnrP (P : Program) (h0 N : Nat) (c : Code) (Q : Post) : Post
 | .normal, env, H => TL P h0 N c env H Q
 | .exit id, env, H => Q (.exit id) env H
 | .ret, env, H => Q .ret env H
section
variable {P : Program} {h0 N : Nat} {c : Code} {env : Env} {H : Heap} {Q : Post}
theorem TL.round (h : TC P h0 N c env H (UnrP P h0 N c Q)) : TL P h0 N c env H Q := by
 intro rd fr ro σ a w r hrd b k cs hro hb hr
 obtain ⟨e, a', w', hq, harr⟩ := h rd fr ro σ a w r hrd b (.inLoop c :: k) cs hro hb hr
 obtain ⟨x, env', H', ro', σ', fr', q1, q2, q3, q4, q5, q6⟩ := hq
 have hp : ∀ x, Q x env' H' → ExR e x → PostW h0 fr ro σ w N a.defers Q e a' w' := fun x q q' => ⟨x, env', H', ro', σ', fr', q', q, q3, q4, q5, q6⟩
 cases e with
 | normal =>
  obtain rfl : x = .normal := q1
  obtain ⟨e2, a2, w2, hq2, harr2⟩ := q2 rd fr' ro' σ' a' w' q3 (hrd.to q4 q6.sub) b k cs hro hb hr
  exact ⟨e2, a2, w2, hq2.grow q4 q5 q6, .of_steps (StepsIn.trans harr (.one (fenced_calm hb hr rfl) stepR_inLoop)) harr2⟩
 | exit id =>
  obtain rfl : x = .exit id := q1
  exact ⟨_, a', w', hp _ q2 rfl, .pass (x := .inLoop c) rfl (fun _ _ => .inl (by simp)) harr⟩
 | ret =>
  obtain rfl : x = .ret := q1
  exact ⟨_, a', w', hp _ q2 rfl, .pass (x := .inLoop c) rfl (fun _ _ => .inl (by simp)) harr⟩
 | _ => exact q1.elim
end
section
variable {P : Program} {o : Oper} {env : Env} {H : Heap}
end
section
variable {P : Program} {o : Oper} {env : Env} {H : Heap}
end
section
variable {P : Program} {o : Oper} {env : Env} {H : Heap} {h0 N : Nat} {Q : Post}
end
section
variable {P : Program} {o : Oper} {env : Env} {H : Heap} {α : Type} {e : α → List A} {T et k b t : Nat} {x y : Operand} {l l' : List α} {i : Int}
end
end Go.Sw
