/- The operations on maps; make of slices. -/
import Derived.Test.YtkjlhfabbbomjaaGreatDoorSwO
set_option linter.unusedVariables false
set_option linter.unusedSectionVars false
set_option linter.unusedSimpArgs false
namespace Go.Sw
open Go.MapKept
section
variable {P : Program} {o : Oper} {env : Env} {H : Heap}
theorem OpH.mkMap {T : Nat} (ho : o.op = .makeMap T none := by exact rfl) : OpH P o env H (.map H.length) (H ++ [.map []]) := by
 intro fr ro σ N a w r
 refine ⟨.map (some w.heap.size), w.alloc (.map #[] 0), ro, [some w.heap.size], ?_, ⟨w.heap.size, ?_, rfl⟩, r.sim.alloc ⟨#[], 0, alloc_new _ _, rfl, by simp, by simp, by simp⟩, Evolve.alloc _ r.sim.roLt r.sim.frLt⟩
 ·generalize a.eval = ρ at *
  simp only [execOp, ho, Instr.makeMap, Option.map_none, Sem.run_bind]
  rfl
 ·rw [← r.sim.len]; simp
section
variable {T kt et : Nat} {α β : Type} [DecidableEq α] {ek : α → A} {ev : β → A} {x y : Operand} {i : Nat} {l : List (α × β)} {k : α} {z0 : β} {z : Value}
theorem run_lookup (K : KeyTy P kt ek) {ro : Nat → Prop} {w : World} (hT : P.underlying T = some (.map kt et)) (hz : ∀ w, (zeroValue et).run P w = .ok z w) (hzr : ZR (ev z0) z) {b clock : Nat} {es : Array MapEntry}
  (hb : w.heap[b]? = some (.map es clock)) (he : ER ro [] w (menc ek ev l) es.toList) (hn : (es.toList.map (·.key)).Nodup) :
  ∃ v, (∀ ck, (Instr.lookup T (.map (some b)) (valA (ek k)) ck).run P w = .ok (if ck then .tuple #[v, .bool (mhas l k)] else v) w) ∧ VR ro [] w (ev (mgetD l k z0)) v := by
 obtain ⟨f1, f2⟩ := ER.find K he k hn
 rcases K.find w k es.toList (ER.keyed K he) with ⟨h1, h2⟩ | ⟨j, e, h1, h2, h3⟩
 ·obtain ⟨g1, g2⟩ := f1 h2
  refine ⟨z, fun ck => ?_, ?_⟩
  ·simp only [Instr.lookup, Sem.run_bind, run_underlying hT, Result.andThen, MapKept.run_getObj_map hb, Sem.run_pure, K.check, h1, hz, g2]
  ·rw [mgetD, g1]; exact hzr _ _ _
 ·obtain ⟨g1, v, g2, g3⟩ := f2 j e h2 h3
  refine ⟨e.val, fun ck => ?_, ?_⟩
  ·simp only [Instr.lookup, Sem.run_bind, run_underlying hT, Result.andThen, MapKept.run_getObj_map hb, Sem.run_pure, K.check, h1, g1]
  ·rw [mgetD, g2]; exact g3
theorem OpV.look {zv : β} (K : KeyTy P kt ek) (hm : some (mgetD l k z0) = some zv) (hT : P.underlying T = some (.map kt et)) (hz : ∀ w, (zeroValue et).run P w = .ok z w) (hzr : ZR (ev z0) z)
  (ho : o.op = .lookup T x y false := by exact rfl) (hx : opA env x = .map i := by exact rfl) (hH : H[i]? = some (.map (menc ek ev l)) := by exact rfl) (hy : opA env y = ek k := by exact rfl) : OpV P o env H (ev zv) := by
 obtain rfl := Option.some.inj hm
 intro fr ro σ N a w r
 have h1 := opA_ok r x
 rw [hx] at h1
 obtain ⟨b, q1, q2⟩ := h1
 have h2 := opA_ok r y
 rw [hy] at h2
 have h3 := VR.val (K.scl _) h2
 obtain ⟨es, clock, p1, p2, p3, p4, p5⟩ := r.sim.blk i _ _ q1 hH
 obtain ⟨v, e1, e2⟩ := run_lookup (T := T) (z0 := z0) (k := k) K hT hz hzr p1 p2 p5
 refine ⟨v, ?_, e2.mono ⟨fun _ q => q, fun _ _ => rfl, fun _ _ q => q, fun j c q => by simp at q⟩⟩
 have := e1 false
 simp only [execOp, ho, q2, h3, Sem.run_bind, this, Result.andThen]
 rfl
theorem OpV.lookOk {zv : β} (K : KeyTy P kt ek) (hm : some (mgetD l k z0) = some zv) (hT : P.underlying T = some (.map kt et)) (hz : ∀ w, (zeroValue et).run P w = .ok z w) (hzr : ZR (ev z0) z)
  (ho : o.op = .lookup T x y true := by exact rfl) (hx : opA env x = .map i := by exact rfl) (hH : H[i]? = some (.map (menc ek ev l)) := by exact rfl) (hy : opA env y = ek k := by exact rfl) : OpV P o env H (.tup [ev zv, .bool (mhas l k)]) := by
 obtain rfl := Option.some.inj hm
 intro fr ro σ N a w r
 have h1 := opA_ok r x
 rw [hx] at h1
 obtain ⟨b, q1, q2⟩ := h1
 have h2 := opA_ok r y
 rw [hy] at h2
 have h3 := VR.val (K.scl _) h2
 obtain ⟨es, clock, p1, p2, p3, p4, p5⟩ := r.sim.blk i _ _ q1 hH
 obtain ⟨v, e1, e2⟩ := run_lookup (T := T) (z0 := z0) (k := k) K hT hz hzr p1 p2 p5
 refine ⟨.tuple #[v, .bool (mhas l k)], ?_, [v, .bool (mhas l k)], rfl, v, _, rfl, e2.mono ⟨fun _ q => q, fun _ _ => rfl, fun _ _ q => q, fun j c q => by simp at q⟩, _, _, rfl, rfl, rfl⟩
 have := e1 true
 simp only [execOp, ho, q2, h3, Sem.run_bind, this, Result.andThen]
 rfl
theorem OpV.lookF {zv : β} (K : KeyTy P kt ek) (hm : some (mgetD l k z0) = some zv) (hT : P.underlying T = some (.map kt et)) (hz : ∀ w, (zeroValue et).run P w = .ok z w) (hzr : ZR (ev z0) z)
  (ho : o.op = .lookup T x y false := by exact rfl) (hx : opA env x = .map i := by exact rfl) (hH : H[i]? = some (.fmap (menc ek ev l)) := by exact rfl) (hy : opA env y = ek k := by exact rfl) : OpV P o env H (ev zv) := by
 obtain rfl := Option.some.inj hm
 intro fr ro σ N a w r
 have h1 := opA_ok r x
 rw [hx] at h1
 obtain ⟨b, q1, q2⟩ := h1
 have h2 := opA_ok r y
 rw [hy] at h2
 have h3 := VR.val (K.scl _) h2
 obtain ⟨_, es, clock, p1, p2, p3, p4, p5⟩ := r.sim.blk i _ _ q1 hH
 obtain ⟨v, e1, e2⟩ := run_lookup (T := T) (z0 := z0) (k := k) K hT hz hzr p1 p2 p5
 refine ⟨v, ?_, e2.mono ⟨fun _ q => q, fun _ _ => rfl, fun _ _ q => q, fun j c q => by simp at q⟩⟩
 have := e1 false
 simp only [execOp, ho, q2, h3, Sem.run_bind, this, Result.andThen]
 rfl
theorem ER.append {ro : Nat → Prop} {σ : Sig} {w : World} : ∀ {l m : List (A × A)} {es fs : List MapEntry}, ER ro σ w l es → ER ro σ w m fs → ER ro σ w (l ++ m) (es ++ fs)
 | [], m, es, fs, h, k => by cases (show es = [] from h); exact k
 | p :: l, m, es, fs, h, k => by
  obtain ⟨e, l', rfl, h1, h2, h3⟩ := h
  exact ⟨e, l' ++ fs, rfl, h1, h2, ER.append h3 k⟩
theorem ER.put (K : KeyTy P kt ek) {ro : Nat → Prop} {w w' : World} {v : β} {val : Value} (hx : Ext ro [] w ro [] w') (hv : VR ro [] w (ev v) val) : ∀ {l : List (α × β)} {es : List MapEntry} {j : Nat} {e : MapEntry}, ER ro [] w (menc ek ev l) es →
  (es.map (·.key)).Nodup → es[j]? = some e → e.key = valA (ek k) →
  ER ro [] w' (menc ek ev (l.map fun p => bif decide (p.1 = k) then (p.1, v) else p)) (es.modify j fun e => { e with key := valA (ek k), val := val })
 | [], es, j, e, h, hn, he, hk => by cases (show es = [] from h); simp at he
 | p :: l, es, j, e, h, hn, he, hk => by
  obtain ⟨e0, l', rfl, h1, h2, h3⟩ := h
  have hk0 : e0.key = valA (ek p.1) := VR.val (K.scl _) h1
  simp only [List.map_cons, List.nodup_cons] at hn
  cases j with
  | zero =>
   simp only [List.getElem?_cons_zero, Option.some.injEq] at he
   subst he
   have hp : p.1 = k := K.inj _ _ (hk0.symm.trans hk)
   simp only [List.modify_zero_cons]
   have e1 : menc ek ev ((p :: l).map fun p => bif decide (p.1 = k) then (p.1, v) else p) = (ek p.1, ev v) :: menc ek ev l := by
    simp only [menc, List.map_cons, hp, decide_true, cond_true, List.map_map, List.cons.injEq, true_and]
    apply List.map_congr_left
    intro q hq
    have : q.1 ≠ k := by
     intro e
     refine hn.1 ?_
     rw [ER.keys K h3]
     exact List.mem_map.2 ⟨q, hq, by rw [e, ← hp, hk0]⟩
    simp [this]
   rw [e1]
   refine ⟨_, l', rfl, ?_, hv.mono hx, h3.mono hx⟩
   show VR ro [] w' (ek p.1) (valA (ek k))
   rw [← hp]; exact VR.ofVal (K.scl _)
  | succ j =>
   simp only [List.getElem?_cons_succ] at he
   have hp : p.1 ≠ k := by
    intro q
    refine hn.1 (List.mem_map.2 ⟨e, List.mem_of_getElem? he, ?_⟩)
    rw [hk, hk0, q]
   simp only [List.modify_succ_cons]
   have e1 : menc ek ev ((p :: l).map fun p => bif decide (p.1 = k) then (p.1, v) else p) = (ek p.1, ev p.2) :: menc ek ev (l.map fun p => bif decide (p.1 = k) then (p.1, v) else p) := by
    simp [menc, hp]
   rw [e1]
   exact ⟨_, _, rfl, h1.mono hx, h2.mono hx, ER.put K hx hv h3 hn.2 he hk⟩
theorem OpU.mput {m : List (α × β)} (K : KeyTy P kt ek) {v : β} {zz : Operand} (hm : some (mset l k v) = some m) (hd : dataA (ev v) = true) (hT : P.underlying T = some (.map kt et))
  (ho : o.op = .mapUpdate T x y zz := by exact rfl) (hx : opA env x = .map i := by exact rfl) (hH : H[i]? = some (.map (menc ek ev l)) := by exact rfl) (hy : opA env y = ek k := by exact rfl) (hv : opA env zz = ev v := by exact rfl) :
  OpU P o env H (H.set i (.map (menc ek ev m))) := by
 obtain rfl := Option.some.inj hm
 intro fr ro σ N a w r
 have h1 := opA_ok r x
 rw [hx] at h1
 obtain ⟨b, q1, q2⟩ := h1
 have h2 := opA_ok r y
 rw [hy] at h2
 have h3 := VR.val (K.scl _) h2
 have h4 := opA_ok r zz
 rw [hv] at h4
 have h4' : VR ro [] w (ev v) (a.eval zz) := VR.data hd h4
 obtain ⟨es, clock, p1, p2, p3, p4, p5⟩ := r.sim.blk i _ _ q1 hH
 obtain ⟨f1, f2⟩ := ER.find K p2 k p5
 have hsh : ∀ (obj : Obj) y, w.shape? b = some y → ({ w with heap := w.heap.setIfInBounds b obj } : World).shape? b = some y := by
  intro obj y hy
  unfold World.shape? at hy
  rw [p1] at hy
  simp at hy
 rcases K.find w k es.toList (ER.keyed K p2) with ⟨g1, g2⟩ | ⟨j, e, g1, g2, g3⟩
 ·obtain ⟨u1, u2⟩ := f1 g2
  have hl : mset l k v = l ++ [(k, v)] := by
   unfold mset
   rw [show (l.any fun p => decide (p.1 = k)) = false from u2]; rfl
  have hset := r.sim.set (x' := .map (menc ek ev (mset l k v))) (obj := .map (es.push { key := valA (ek k), val := a.eval zz, born := clock }) (clock + 1)) q1 hH rfl (hsh _)
   (fun e he => ⟨_, _, he, by
    rw [hl, menc, List.map_append, Array.toList_push]
    exact (p2.mono ⟨e.sub, e.keep, e.shape, fun _ _ q => q⟩).append ⟨_, _, rfl, VR.ofVal (K.scl _), h4'.mono ⟨e.sub, e.keep, e.shape, fun _ _ q => q⟩, rfl⟩, by
    rw [Array.toList_push]
    intro e he
    rcases List.mem_append.1 he with q | q
    ·exact Nat.lt_succ_of_lt (p3 e q)
    ·simp at q; subst q; exact Nat.lt_succ_self _, by
    rw [Array.toList_push, List.map_append]
    refine List.nodup_append.2 ⟨p4, by simp, ?_⟩
    intro c hc d hd
    simp at hd
    subst hd
    obtain ⟨e, he, rfl⟩ := List.mem_map.1 hc
    exact Nat.ne_of_lt (p3 e he), by
    rw [Array.toList_push, List.map_append]
    refine List.nodup_append.2 ⟨p5, by simp, ?_⟩
    intro c hc d hd
    simp at hd
    subst hd
    obtain ⟨e, he, rfl⟩ := List.mem_map.1 hc
    exact g2 e he⟩)
  refine ⟨_, ro, [], ?_, by simpa using hset.1, hset.2⟩
  simp only [execOp, ho, q2, h3, Sem.run_bind, Instr.mapUpdate, run_underlying hT, Result.andThen, MapKept.run_getObj_map p1, K.check, g1, MapKept.run_setObj_map _ p1]
  rfl
 ·obtain ⟨u1, u2⟩ := f2 j e g2 g3
  have hl : mset l k v = l.map fun p => bif decide (p.1 = k) then (p.1, v) else p := by
   unfold mset
   rw [show (l.any fun p => decide (p.1 = k)) = true from u1]; rfl
  have hj : es[j]? = some e := by rw [← g2]; simp
  have hmod : (es.modify j fun e => { e with key := valA (ek k), val := a.eval zz }).toList = es.toList.modify j fun e => { e with key := valA (ek k), val := a.eval zz } := by simp
  have hmap : ∀ {γ : Type} (f : MapEntry → γ), (∀ e', es.toList[j]? = some e' → f { e' with key := valA (ek k), val := a.eval zz } = f e') → (es.toList.modify j fun e => { e with key := valA (ek k), val := a.eval zz }).map f = es.toList.map f := by
   intro γ f hf
   apply List.ext_getElem?
   intro n
   rw [List.getElem?_map, List.getElem?_map, List.getElem?_modify]
   by_cases hn : j = n
   ·subst hn
    cases q : es.toList[j]? with
    | none => rfl
    | some e' => simp [hf e' q]
   ·simp [hn]
  have hset := r.sim.set (x' := .map (menc ek ev (mset l k v))) (obj := .map (es.modify j fun e => { e with key := valA (ek k), val := a.eval zz }) clock) q1 hH rfl (hsh _)
   (fun e0 he => ⟨_, _, he, by
    rw [hl, hmod]
    exact ER.put K ⟨e0.sub, e0.keep, e0.shape, fun _ _ q => q⟩ h4' p2 p5 g2 g3, by
    rw [hmod]
    intro e' he'
    have : e'.born ∈ (es.toList.modify j fun e => { e with key := valA (ek k), val := a.eval zz }).map (·.born) := List.mem_map_of_mem he'
    rw [hmap (·.born) (fun _ _ => rfl)] at this
    obtain ⟨e2, h, h'⟩ := List.mem_map.1 this
    rw [← h']; exact p3 e2 h, by
    rw [hmod, hmap (·.born) (fun _ _ => rfl)]; exact p4, by
    rw [hmod, hmap (·.key) (fun e' he' => by rw [g2] at he'; cases he'; exact g3.symm)]; exact p5⟩)
  refine ⟨_, ro, [], ?_, by simpa using hset.1, hset.2⟩
  have hstay := K.stays w k
  simp only [execOp, ho, q2, h3, Sem.run_bind, Instr.mapUpdate, run_underlying hT, Result.andThen, MapKept.run_getObj_map p1, K.check, g1, hj, Option.map_some, Option.getD_some, g3, hstay, MapKept.run_setObj_map _ p1]
  rfl
theorem ER.length {ro : Nat → Prop} {σ : Sig} {w : World} : ∀ {l : List (A × A)} {es : List MapEntry}, ER ro σ w l es → es.length = l.length
 | [], es, h => by cases (show es = [] from h); rfl
 | p :: l, es, h => by
  obtain ⟨e, l', rfl, _, _, h3⟩ := h
  simp [ER.length h3]
theorem OpV.lenMap {c : Call} {n : Int} (hT : P.underlying T = some (.map kt et)) (hn : (l.length : Int) = n) (ho : o.op = .call c := by exact rfl) (hc : c = { callee := .builtin .len, args := #[x], argTypes := #[T] } := by exact rfl)
  (hx : opA env x = .map i := by exact rfl) (hH : H[i]? = some (.map (menc ek ev l)) := by exact rfl) : OpV P o env H (.int .i64 n) := by
 intro fr ro σ N a w r
 have h1 := opA_ok r x
 rw [hx] at h1
 obtain ⟨b, q1, q2⟩ := h1
 obtain ⟨es, clock, p1, p2, p3, p4, p5⟩ := r.sim.blk i _ _ q1 hH
 have hl := p2.length
 refine ⟨.int .i64 n, ?_, rfl⟩
 have hn' : goInt es.size = .int .i64 n := by
  have : es.size = l.length := by rw [← Array.length_toList, hl]; simp [menc]
  rw [this, ← hn]; rfl
 subst hc
 have q2' := q2
 generalize a.eval = ρ at *
 rw [← hn']
 simp [execOp, ho, q2, resolve, invoke, Go.builtin, Builtin.len_, run_underlying hT, MapKept.run_getObj_map p1, go_sem]
end
end
end Go.Sw
