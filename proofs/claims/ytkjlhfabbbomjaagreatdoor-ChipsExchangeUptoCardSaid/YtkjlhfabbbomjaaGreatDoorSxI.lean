/- The library's iterators: maps.Keys, slices.AppendSeq, slices.Collect, where the order is anyone's. -/
import Derived.Test.YtkjlhfabbbomjaaGreatDoorSxH
set_option linter.unusedVariables false
set_option linter.unusedSectionVars false
set_option linter.unusedSimpArgs false
namespace Go.Sw
theorem Le.phantomC {h0 i k t T : Nat} {env : Env} {H : Heap} (hh : Nat.ble h0 H.length = true) (hH : H[i]? = some (.cells T [.nils])) : Le h0 env H env (H.set i (.cells T [.osl H.length 0 0 k]) ++ [.row t k []]) := by
 intro fr ro σ N a w r
 have hh' : h0 ≤ H.length := Nat.le_of_ble_eq_true hh
 have hi : i < H.length := (List.getElem?_eq_some_iff.1 hH).1
 have ext : Ext ro σ w ro (σ ++ [none]) w := ⟨fun _ q => q, fun _ _ => rfl, fun _ _ q => q, fun _ _ h => sig_append h⟩
 have s := r.sim.phantom t k
 have hi' : (H ++ [Blk.row t k []])[i]? = some (.cells T [.nils]) := by rw [List.getElem?_append_left hi]; exact hH
 have e0 : H.set i (.cells T [.osl H.length 0 0 k]) ++ [.row t k []] = (H ++ [Blk.row t k []]).set i (.cells T [.osl H.length 0 0 k]) := by
  rw [List.set_append_left _ _ hi]
 have hcase : ∀ (j : Nat) (v : Blk), ((H ++ [Blk.row t k []]).set i (.cells T [.osl H.length 0 0 k]))[j]? = some v → (j = i ∧ v = .cells T [.osl H.length 0 0 k]) ∨ (j ≠ i ∧ (H ++ [Blk.row t k []])[j]? = some v) := by
  intro j v h
  by_cases e : j = i
  ·subst e
   rw [List.getElem?_set_self (by simp; omega)] at h
   exact .inl ⟨rfl, by simpa using h.symm⟩
  ·rw [List.getElem?_set_ne (fun q => e q.symm)] at h
   exact .inr ⟨e, h⟩
 have hcase2 : ∀ (j : Nat) (v : Blk), ((H ++ [Blk.row t k []]).set i (.cells T [.osl H.length 0 0 k]))[j]? = some v → v.live = true → ∃ v', (H ++ [Blk.row t k []])[j]? = some v' ∧ v'.live = true := by
  intro j v h hv
  rcases hcase j v h with ⟨rfl, rfl⟩ | ⟨_, h⟩
  ·exact ⟨_, hi', rfl⟩
  ·exact ⟨v, h, hv⟩
 refine ⟨ro, σ ++ [none], ⟨?_, fun q => (r.env q).mono ext, r.size, r.defers⟩, fun _ q => q, take_append_sig (by rw [r.sim.len]; exact hh')⟩
 rw [e0]
 refine ⟨by rw [List.length_set]; exact s.len, s.roOk, s.frLt, s.roFr, fun j b v q1 q2 q3 => ?_, fun j j' b v v' q1 q2 q3 q4 q5 q6 => ?_, fun j y v q1 q2 => ?_⟩
 ·obtain ⟨v', g1, g2⟩ := hcase2 j v q2 q3
  exact s.own j b v' q1 g1 g2
 ·obtain ⟨x, g1, g2⟩ := hcase2 j v q3 q5
  obtain ⟨x', g1', g2'⟩ := hcase2 j' v' q4 q6
  exact s.inj j j' b x x' q1 q2 g1 g1' g2 g2'
 ·rcases hcase j v q2 with ⟨rfl, rfl⟩ | ⟨_, h⟩
  ·have := s.blk j y _ q1 hi'
   cases y with
   | none => exact this
   | some b =>
    obtain ⟨l, g1, ⟨v1, l1, rfl, g2, g3⟩, g4⟩ := this
    refine ⟨_, g1, ⟨v1, l1, rfl, .inl ⟨rfl, g2⟩, ?_⟩, g4⟩
    obtain rfl : l1 = [] := g3
    rfl
  ·exact s.blk j y v q1 h
theorem Le.shut {h0 i : Nat} {env : Env} {H : Heap} {es : List (A × A)} (hH : H[i]? = some (.map es)) : Le h0 env H env (H.set i (.fmap es)) := by
 intro fr ro σ N a w r
 have hs : ∃ s, σ[i]? = some s := by
  have : i < σ.length := by rw [r.sim.len]; exact (List.getElem?_eq_some_iff.1 hH).1
  exact ⟨_, List.getElem?_eq_getElem this⟩
 obtain ⟨s, hs⟩ := hs
 cases s with
 | none => exact (r.sim.blk i _ _ hs hH).elim
 | some b =>
  refine ⟨_, σ, ⟨r.sim.shutMap hs hH, fun q => (r.env q).mono ⟨fun _ q => .inl q, fun _ _ => rfl, fun _ _ q => q, fun _ _ q => q⟩, r.size, r.defers⟩, fun _ q => .inl q, rfl⟩
def anyN {T : Type} (l : List T) (x : T) (rem : List T) : Prop := l.Perm (x :: rem)
def apBody (ts te : Nat) (ld : Op) : Code := .block 1 (.region 3 #[{ dst := some 8, op := .load ts (.tmp 2), type := ts, pos := "iter.go:52", after := #[], guard := none }, { dst := some 9, op := ld, type := te, pos := "iter.go:52", after := #[], guard := none },
 { dst := some 10, op := .buildSlice ts 1 #[(0, .tmp 9)], type := ts, pos := "iter.go:52", after := #[{ on := 1, ground := .data }], guard := none },
 { dst := some 11, op := .call { callee := .builtin .append, args := #[.tmp 8, .tmp 10], argTypes := #[ts, ts] }, type := ts, pos := "iter.go:52", after := #[{ on := 0, ground := .data }, { on := 2, ground := .data }], guard := none },
 { dst := none, op := .store ts (.tmp 2) (.tmp 11), type := 0, pos := "iter.go:52", after := #[{ on := 3, ground := .data }, { on := 3, ground := .chain }, { on := 0, ground := .phase }, { on := 1, ground := .phase }, { on := 2, ground := .phase }, { on := 3, ground := .phase }], guard := none }] false)
def apCode (ts tq te : Nat) (asg : Code) (ld : Op) : Code := (Code.region 0 #[{ dst := some 2, op := .box ts (.tmp 0), type := 0, pos := "iter.go:50", after := #[], guard := none }, { dst := some 4, op := .assign (.const (.slice none 0 0)), type := ts, pos := "iter.go:50", after := #[], guard := none }] false).seq
 (((Code.region 1 #[{ dst := some 6, op := .move (.tmp 1), type := tq, pos := "iter.go:51", after := #[], guard := none }] false).seq (.block 0 (.rangeFunc (.tmp 6) #[7] asg (apBody ts te ld)))).seq
  ((Code.region 4 #[{ dst := some 12, op := .load ts (.tmp 2), type := ts, pos := "iter.go:54", after := #[], guard := none }, { dst := some 4, op := .assign (.tmp 12), type := ts, pos := "iter.go:54", after := #[{ on := 0, ground := .data }, { on := 0, ground := .phase }], guard := none }] false).seq .ret))
def apAsgS (te : Nat) : Code := .region 2 #[{ dst := some 5, op := .assign (.tmp 7), type := te, pos := "iter.go:51", after := #[], guard := none }] false
def apAsgA (te : Nat) : Code := .region 2 #[{ dst := some 5, op := .alloc te, type := 0, pos := "iter.go:51", after := #[], guard := none }, { dst := none, op := .store te (.tmp 5) (.tmp 7), type := 0, pos := "iter.go:51", after := #[{ on := 0, ground := .data }, { on := 0, ground := .phase }], guard := none }] false
section
variable {P : Program} {T : Type} {ts tq te k tm : Nat} {g : FuncId} {es : List (A × A)} {e : T → List A} {ea : T → A} {xs : List T}
abbrev apH (ts te k tm : Nat) (es : List (A × A)) (e : T → List A) (done : List T) : Heap := [.dead, .fmap es, .cells ts [.osl 3 0 done.length k], .row te k (done.map e)]
abbrev apE (g : FuncId) : Env := [(6, .fn (.func g) [] [.ptr 0 0]), (4, .nils), (2, .ptr 2 0), (0, .nils), (1, .fn (.func g) [] [.ptr 0 0])]
theorem apRound {N : Nat} (hN : N = 13) {done : List T} {x : T} {env : Env} {H : Heap} {K : Heap → Prop} {ld : Op} (E : ElemTy P ts te k) (ha : ∀ w, (isAgg ts).run P w = .ok false w) (hz : ∀ w, (sizeOf ts).run P w = .ok 1 w) (hb : app done [x] = some (done ++ [x]))
  (hk : (e x).length = k) (hka : Nat.ble k 16777216 = true) (hkn : knownA (ea x) = true) (hcs : cellsA (ea x) = e x) (hpl : (e x).all plainA = true) (hd : dataL (e x) = true) (hL : Nat.ble 3 H.length = true)
  (h2 : lk env 2 = .ptr 2 0) (hc : H[2]? = some (.cells ts [.osl 3 0 done.length k])) (hr : H[3]? = some (.row te k (done.map e)))
  (hld : ∀ env', (∀ s, s ≠ 8 → lk env' s = lk env s) → ∀ pos, OpV P { dst := some 9, op := ld, type := te, pos := pos, after := #[], guard := none } env' H (ea x))
  (hK : ∀ env', ∃ H2, Le 3 env' (((((H ++ [Blk.row te k [e x]]).set 3 .dead) ++ [Blk.row te k ((done ++ [x]).map e)]).set 2 (.cells ts [.osl (H.length + 1) 0 (done ++ [x]).length k]))) [] H2 ∧ K H2) {env0 : Env} {Q : Post} :
  TC P 3 N (apBody ts te ld) env H (RoundP 3 env0 Q K) := by
 subst hN
 have hL' : 3 ≤ H.length := Nat.le_of_ble_eq_true hL
 have h3 : 3 < H.length := (List.getElem?_eq_some_iff.1 hr).1
 refine TC.block (TC.region ?_)
 refine WO.opV rfl rfl rfl (OpV.load (v := .osl 3 0 done.length k) (cs := []) rfl ha h2 (Pts.cells hc rfl)) ?_
 refine WO.opV rfl rfl rfl (x := ea x) ?_ ?_
 ·refine hld _ (fun s hs => ?_) _
  simp only [up, lk]
  have : Nat.beq s 8 = false := by
   rw [Bool.eq_false_iff]
   intro q
   exact hs (Nat.eq_of_beq_eq_true q)
  rw [this]; rfl
 refine WO.opH (by omega) rfl rfl rfl (OpH.lit (xs := [.tmp 9]) (es := [e x]) E rfl rfl (by simpa using hka) ?_ ?_ ⟨hk, trivial⟩ (by simpa using hpl) (by simpa using hd)) ?_
 ·simp [opA, lk, up, hkn]
 ·simp [partCells, opA, lk, up, hcs]
 refine WO.opH (x := .osl (H.length + 1) 0 (done ++ [x]).length k) (H' := ((H ++ [Blk.row te k [e x]]).set 3 .dead) ++ [Blk.row te k ((done ++ [x]).map e)]) (by simp; omega) rfl rfl rfl ?_ ?_
 ·have := OpH.appO (P := P) (o := { dst := some 11, op := .call { callee := .builtin .append, args := #[.tmp 8, .tmp 10], argTypes := #[ts, ts] }, type := ts, pos := "iter.go:52", after := #[{ on := 0, ground := .data }, { on := 2, ground := .data }], guard := none })
   (env := up (up (up env 8 (.osl 3 0 done.length k)) 9 (ea x)) 10 (.osl H.length 0 1 k)) (H := H ++ [Blk.row te k [e x]]) (x := .tmp 8) (y := .tmp 10) (e := e) (m := [x]) (i := 3) (n := done.length) (ya := .osl H.length 0 1 k) hb E E.sl (Src.oM (t := te) (by simp) rfl) rfl rfl rfl rfl (by rw [List.getElem?_append_left h3]; exact hr) rfl
  simpa using this
 refine WO.opU (by simp; omega) rfl rfl (OpU.store (i := 2) (off := 0) (T := ts) (n := 1) (cs := [.osl 3 0 done.length k]) (vs := [.osl (H.length + 1) 0 (done ++ [x]).length k]) (cs' := [.osl (H.length + 1) 0 (done ++ [x]).length k]) (v := .osl (H.length + 1) 0 (done ++ [x]).length k) rfl ?_ ?_ hz rfl rfl rfl rfl rfl rfl rfl) ?_
 ·exact h2
 ·have h2l : 2 < H.length := by omega
  rw [List.getElem?_append_left (by simp; omega), List.getElem?_set_ne (by decide), List.getElem?_append_left h2l]; exact hc
 ·refine WO.nil ?_
  exact hK _
theorem app_perm {xs done l rem : List T} {x : T} (hl : Nat.ble xs.length lenMax = true) (hV : (done ++ l).Perm xs) (hn : l.Perm (x :: rem)) : app done [x] = some (done ++ [x]) ∧ ((done ++ [x]) ++ rem).Perm xs := by
 have h1 := hV.length_eq
 have h2 := hn.length_eq
 have h3 := Nat.le_of_ble_eq_true hl
 simp at h1 h2
 refine ⟨?_, ?_⟩
 ·unfold app
  have : Nat.ble (done.length + [x].length) lenMax = true := Nat.ble_eq_true_of_le (by simp; omega)
  rw [this]; rfl
 ·refine List.Perm.trans ?_ hV
  simp only [List.append_assoc, List.singleton_append]
  exact (List.Perm.append_left done hn).symm
theorem C.appSeqS {fA : FuncId} {fn : Func} (hf : P.funcs[fA]? = some fn) (hb : fn.body = some (apCode ts tq te (apAsgS te) (.move (.tmp 5)))) (hN : fn.ntmps = 13) (hR : fn.results = #[.tmp 4]) (E : ElemTy P ts te 1) (ha : ∀ w, (isAgg ts).run P w = .ok false w) (hz : ∀ w, (sizeOf ts).run P w = .ok 1 w)
  (eg : ∀ args w, (callFunc g args).run P w = .ok (.enter g args) w) (hseq : SeqC P g [.ptr 0 0] [.cells tm [.map 1], .fmap es] (fun x => [ea x]) anyN xs) (hl : Nat.ble xs.length lenMax = true)
  (hs : ∀ x, sclA (ea x) = true) (hkn : ∀ x, knownA (ea x) = true) (hcs : ∀ x, cellsA (ea x) = [ea x]) (hpl : ∀ x, plainA (ea x) = true) (hd : ∀ x, dataA (ea x) = true) :
  C P fA [.nils, .fn (.func g) [] [.ptr 0 0]] [.cells tm [.map 1], .fmap es] (fun r H1 => ∃ p : List T, p.Perm xs ∧ r = .osl 2 0 p.length 1 ∧ H1 = [.dead, .fmap es, .row te 1 (p.map fun x => [ea x])]) := by
 refine C.of_body hf hb hN rfl ?_
 refine TC.seq (TC.region ?_)
 refine WO.opH (Nat.le_of_ble_eq_true rfl) rfl rfl rfl (OpH.box (v := .nils) (cs := [.nils]) rfl rfl rfl rfl rfl) ?_
 refine WO.opV rfl rfl rfl (OpV.assign (v := .nils) rfl rfl) ?_
 refine WO.nil ?_
 refine TC.seq (TC.seq (TC.region ?_))
 refine WO.opV rfl rfl rfl (OpV.move (v := .fn (.func g) [] [.ptr 0 0]) rfl rfl) ?_
 refine WO.nil ?_
 refine TC.block ?_
 refine TC.rangeFunc (env := apE g) (ps := [7]) (S := List T) [0, 1] (apH ts te 1 tm es (fun x => [ea x])) (fun done l => (done ++ l).Perm xs) [] (Nat.le_of_ble_eq_true rfl) rfl rfl rfl (by decide) rfl eg hseq (fun x => by simp [sclL, hs x]) (fun x => rfl) ?_ (List.Perm.refl _) ?_ ?_
 ·exact Le.phantomC (h0 := 3) (i := 2) (t := te) (k := 1) (H := [.dead, .fmap es, .cells ts [.nils]]) rfl rfl
 ·intro done l x rem hV hn
  obtain ⟨h1, h2⟩ := app_perm hl hV hn
  refine TC.region (WO.opV rfl rfl rfl (OpV.assign (v := ea x) rfl rfl) (WO.nil ⟨rfl, ?_⟩))
  refine apRound (ea := ea) rfl E ha hz h1 rfl rfl (hkn x) (hcs x) (by simp [hpl x]) (by simp [dataL, hd x]) rfl rfl rfl rfl ?_ ?_
  ·intro env' he pos
   exact OpV.move rfl (by show lk env' 5 = ea x; rw [he 5 (by decide)]; rfl)
  ·intro env'
   exact ⟨_, Lr (H' := apH ts te 1 tm es (fun x => [ea x]) (done ++ [x])) [0, 1, 2, 5], _, h2, rfl⟩
 ·intro done hV
  rw [List.append_nil] at hV
  refine TC.seq (TC.region ?_)
  refine WO.opV rfl rfl rfl (OpV.load (v := .osl 3 0 done.length 1) (cs := []) rfl ha rfl (Pts.cells rfl rfl)) ?_
  refine WO.opV rfl rfl rfl (OpV.assign (v := .osl 3 0 done.length 1) rfl rfl) ?_
  refine WO.nil ?_
  refine TC.ret ?_
  exact ⟨[(4, .osl 2 0 done.length 1)], [.dead, .fmap es, .row te 1 (done.map fun x => [ea x])], _, Lr [0, 1, 3], ResOK.one hR rfl, done, hV, rfl, rfl⟩
theorem C.appSeqA {fA : FuncId} {fn : Func} {z : Value} {zv : A} {cs0 : List A} (hf : P.funcs[fA]? = some fn) (hb : fn.body = some (apCode ts tq te (apAsgA te) (.load te (.tmp 5)))) (hN : fn.ntmps = 13) (hR : fn.results = #[.tmp 4]) (E : ElemTy P ts te k) (ha : ∀ w, (isAgg ts).run P w = .ok false w) (hz : ∀ w, (sizeOf ts).run P w = .ok 1 w)
  (hae : ∀ w, (isAgg te).run P w = .ok true w) (hz0 : ∀ w, (zeroValue te).run P w = .ok z w) (hzr : ZR zv z) (hzk : knownA zv = true) (hzc : cellsA zv = cs0) (hzp : cs0.all plainA = true) (hzl : cs0.length = k)
  (eg : ∀ args w, (callFunc g args).run P w = .ok (.enter g args) w) (hseq : SeqC P g [.ptr 0 0] [.cells tm [.map 1], .fmap es] (fun x => [.agg (e x)]) anyN xs) (hl : Nat.ble xs.length lenMax = true) (hka : Nat.ble k 16777216 = true)
  (hs : ∀ x, sclA (.agg (e x)) = true) (hk : ∀ x, (e x).length = k) (hkn : ∀ x, knownA (.agg (e x)) = true) (hcs : ∀ x, cellsA (.agg (e x)) = e x) (hpl : ∀ x, (e x).all plainA = true) (hd : ∀ x, dataL (e x) = true) :
  C P fA [.nils, .fn (.func g) [] [.ptr 0 0]] [.cells tm [.map 1], .fmap es] (fun r H1 => ∃ p : List T, p.Perm xs ∧ r = .osl 2 0 p.length k ∧ H1 = [.dead, .fmap es, .row te k (p.map e)]) := by
 refine C.of_body hf hb hN rfl ?_
 refine TC.seq (TC.region ?_)
 refine WO.opH (Nat.le_of_ble_eq_true rfl) rfl rfl rfl (OpH.box (v := .nils) (cs := [.nils]) rfl rfl rfl rfl rfl) ?_
 refine WO.opV rfl rfl rfl (OpV.assign (v := .nils) rfl rfl) ?_
 refine WO.nil ?_
 refine TC.seq (TC.seq (TC.region ?_))
 refine WO.opV rfl rfl rfl (OpV.move (v := .fn (.func g) [] [.ptr 0 0]) rfl rfl) ?_
 refine WO.nil ?_
 refine TC.block ?_
 refine TC.rangeFunc (env := apE g) (ps := [7]) (S := List T) [0, 1] (apH ts te k tm es e) (fun done l => (done ++ l).Perm xs) [] (Nat.le_of_ble_eq_true rfl) rfl rfl rfl (by decide) rfl eg hseq (fun x => by simp [sclL, hs x]) (fun x => rfl) ?_ (List.Perm.refl _) ?_ ?_
 ·exact Le.phantomC (h0 := 3) (i := 2) (t := te) (k := k) (H := [.dead, .fmap es, .cells ts [.nils]]) rfl rfl
 ·intro done l x rem hV hn
  obtain ⟨h1, h2⟩ := app_perm hl hV hn
  refine TC.region (WO.opH (Nat.le_of_ble_eq_true rfl) rfl rfl rfl (OpH.allocZ hz0 hzr rfl hzk hzc hzp) ?_)
  refine WO.opU (Nat.le_of_ble_eq_true rfl) rfl rfl (OpU.store (i := 4) (off := 0) (T := te) (n := k) (cs := cs0) (vs := e x) (cs' := e x) (v := .agg (e x)) rfl rfl rfl E.size rfl (hkn x) (hcs x) (hk x) (hpl x) (by simp [hzl]) (by simp [splice, hzl, hk x])) ?_
  refine WO.nil ⟨rfl, ?_⟩
  refine apRound (ea := fun x => .agg (e x)) rfl E ha hz h1 (hk x) hka (hkn x) (hcs x) (hpl x) (hd x) rfl rfl rfl rfl ?_ ?_
  ·intro env' he pos
   exact OpV.loadA (cs := e x) rfl hae E.size (by show lk env' 5 = .ptr 4 0; rw [he 5 (by decide)]; rfl) (Pts.cells (cs := e x) rfl rfl) (by rw [← hk x, List.take_length]) (hk x)
  ·intro env'
   exact ⟨_, Lr (H' := apH ts te k tm es e (done ++ [x])) [0, 1, 2, 6], _, h2, rfl⟩
 ·intro done hV
  rw [List.append_nil] at hV
  refine TC.seq (TC.region ?_)
  refine WO.opV rfl rfl rfl (OpV.load (v := .osl 3 0 done.length k) (cs := []) rfl ha rfl (Pts.cells rfl rfl)) ?_
  refine WO.opV rfl rfl rfl (OpV.assign (v := .osl 3 0 done.length k) rfl rfl) ?_
  refine WO.nil ?_
  refine TC.ret ?_
  exact ⟨[(4, .osl 2 0 done.length k)], [.dead, .fmap es, .row te k (done.map e)], _, Lr [0, 1, 3], ResOK.one hR rfl, done, hV, rfl, rfl⟩
end
theorem TCy.le {T : Type} {X : Ctx T} {P : Program} {h0 N : Nat} {c : Code} {env env' : Env} {H H' : Heap} {st : YSt T} {Q : PostT T} (hle : Le h0 env H env' H') (h : TCy X P h0 N c env' H' st Q) : TCy X P h0 N c env H st Q := by
 intro hX rd fr ro σ a w g r hs hj hrd
 obtain ⟨ro', σ', r', s, t⟩ := hle fr ro σ N a w r
 exact Code.wpIn_mono (fun e a w q => q.grow s (Nat.le_refl _) t (Grow.refl _ _ _)) (h hX rd fr ro' σ' a w g r' (fun b q => s b (hs b q)) hj hrd)
theorem yield_op {P : Program} {o : Oper} {env : Env} {H : Heap} {y z : Operand} {l : Nat} {a : A} {ta : Array TypeId} (ho : o.op = .call { callee := .value y, args := #[z], argTypes := ta }) (hy : opA env y = .fn (.yield l) [] []) (hz : opA env z = a) (hs : sclA a = true) {N : Nat} :
  ∀ fr ro σ act w, Rel fr ro σ H env N act w → (execOp act.eval o).run P w = (Instr.yield l (valL [a]).toArray).run P w := by
 intro fr ro σ act w r
 have h1 := opA_ok r y
 rw [hy] at h1
 obtain ⟨l1, l2, h1, e1, e2⟩ := h1
 obtain rfl : l1 = [] := e1
 obtain rfl : l2 = [] := e2
 have h2 := opA_ok r z
 rw [hz] at h2
 have h3 := VR.val hs h2
 generalize act.eval = ev at *
 simp [execOp, ho, resolve, invoke, go_sem, h1, h3, valL]
def kyCode (tm tb ty tk : Nat) (asg : Array Oper) (ld : Op) : Code :=
 (Code.region 0 #[{ dst := some 4, op := .load tm (.tmp 1), type := tm, pos := "iter.go:27", after := #[], guard := none }, { dst := some 5, op := .range tm (.tmp 4), type := 0, pos := "iter.go:27", after := #[{ on := 0, ground := .data }], guard := none }] false).seq
 (.block 0 (Code.loop ((Code.region 1 #[{ dst := some 6, op := .next (.tmp 5) false, type := 0, pos := "iter.go:27", after := #[], guard := none }, { dst := some 7, op := .extract (.tmp 6) 0, type := tb, pos := "iter.go:27", after := #[{ on := 0, ground := .data }], guard := none }] false).seq
  ((Code.cond (.tmp 7) .skip (.exit 0)).seq (.block 1 ((Code.region 2 asg false).seq
   ((Code.region 3 #[{ dst := some 10, op := .move (.tmp 0), type := ty, pos := "iter.go:28", after := #[], guard := none }, { dst := some 11, op := ld, type := tk, pos := "iter.go:28", after := #[], guard := none },
    { dst := some 12, op := .call { callee := .value (.tmp 10), args := #[.tmp 11], argTypes := #[tk] }, type := tb, pos := "iter.go:28", after := #[{ on := 0, ground := .data }, { on := 1, ground := .data }], guard := none },
    { dst := some 13, op := .unOp .not tb (.tmp 12), type := tb, pos := "iter.go:28", after := #[{ on := 2, ground := .data }], guard := none }] false).seq (.cond (.tmp 13) .ret .skip))))))))
def kyAsgS (tk : Nat) : Array Oper := #[{ dst := some 8, op := .entry (.tmp 5), type := 0, pos := "iter.go:27", after := #[], guard := none }, { dst := some 9, op := .extract (.tmp 8) 0, type := tk, pos := "iter.go:27", after := #[{ on := 0, ground := .data }], guard := none },
 { dst := some 3, op := .assign (.tmp 9), type := tk, pos := "iter.go:27", after := #[{ on := 1, ground := .data }, { on := 0, ground := .phase }, { on := 1, ground := .phase }], guard := none }]
def kyAsgA (tk : Nat) : Array Oper := #[{ dst := some 8, op := .entry (.tmp 5), type := 0, pos := "iter.go:27", after := #[], guard := none }, { dst := some 9, op := .extract (.tmp 8) 0, type := tk, pos := "iter.go:27", after := #[{ on := 0, ground := .data }], guard := none },
 { dst := some 3, op := .alloc tk, type := 0, pos := "iter.go:27", after := #[], guard := none },
 { dst := none, op := .store tk (.tmp 3) (.tmp 9), type := 0, pos := "iter.go:27", after := #[{ on := 2, ground := .data }, { on := 1, ground := .data }, { on := 0, ground := .phase }, { on := 1, ground := .phase }, { on := 2, ground := .phase }], guard := none }]
section
variable {P : Program} {K V : Type} {tm tb ty tk kt et : Nat} {ek : K → A} {ev : V → A} {m : List (K × V)} {T : Type}
abbrev kyE (l : Nat) : Env := [(0, .fn (.yield l) [] []), (1, .ptr 0 0), (5, .ptr 2 0)]
abbrev kyH (tm : Nat) (ek : K → A) (ev : V → A) (m l : List (K × V)) : Heap := [.cells tm [.map 1], .fmap (menc ek ev m), .iter none (menc ek ev l)]
theorem keys_core {g : FuncId} {fn : Func} {asg : Array Oper} {ld : Op} (hf : P.funcs[g]? = some fn) (hb : fn.body = some (kyCode tm tb ty tk asg ld)) (hN : fn.ntmps = 14) (hR : fn.results = #[]) (ha : ∀ w, (isAgg tm).run P w = .ok false w) (hT : P.underlying tm = some (.map kt et)) (hs : ∀ x, sclA (ek x) = true)
  (round : ∀ (X : Ctx K) (e : K × V) (l : List (K × V)) (env : Env) (H : Heap) (st : YSt K) (Q : PostT K), lk env 0 = .fn (.yield X.l) [] [] → lk env 1 = .ptr 0 0 → lk env 5 = .ptr 2 0 → H = [.cells tm [.map 1], .fmap (menc ek ev m), .iter (some (ek e.1, ev e.2)) (menc ek ev l)] →
   (∀ env' H', lk env' 0 = .fn (.yield X.l) [] [] → lk env' 1 = .ptr 0 0 → lk env' 5 = .ptr 2 0 → (∀ env2 b, lk env2 0 = .fn (.yield X.l) [] [] → lk env2 1 = .ptr 0 0 → lk env2 5 = .ptr 2 0 → Le 2 (up (up env2 12 (.bool b)) 13 (.bool (!b))) H' (kyE X.l) (kyH tm ek ev m l)) →
    (∀ pos env2, (∀ s, s ≠ 10 → lk env2 s = lk env' s) → OpV P { dst := some 11, op := ld, type := tk, pos := pos, after := #[], guard := none } env2 H' (ek e.1)) → Nat.ble 2 H'.length = true → Q .normal env' H' st) →
   TCy X P 2 14 (.region 2 asg false) env H st Q) :
  SeqC P g [.ptr 0 0] [.cells tm [.map 1], .fmap (menc ek ev m)] (fun x => [ek x]) anyN (m.map Prod.fst) := by
 refine SeqC.of_body hf hb hN rfl hR ?_
 intro X hE hNx
 refine TCy.seq (TCy.lift (TC.region ?_))
 refine WO.opV rfl rfl rfl (OpV.load (v := .map 1) (cs := []) rfl ha rfl (Pts.cells rfl rfl)) ?_
 refine WO.opH (Nat.le_of_ble_eq_true rfl) rfl rfl rfl (OpH.rangeF hT) ?_
 refine WO.nil ?_
 refine TCy.block ?_
 refine TCy.loopI (I := fun n env H st => ∃ l : List (K × V), l.length = n ∧ st = .on (l.map Prod.fst) ∧ Le 2 env H (kyE X.l) (kyH tm ek ev m l)) ?_ ⟨m, rfl, rfl, Lr [0, 1, 2]⟩
 rintro n env H st ⟨l, hn, rfl, hle⟩
 refine TCy.le hle ?_
 refine TCy.seq (TCy.lift (TC.region ?_))
 refine WO.opE (Nat.le_of_ble_eq_true rfl) rfl rfl rfl (OpE.next rfl rfl rfl) ?_
 rintro v H' (⟨h1, rfl, rfl⟩ | ⟨e', es', h1, rfl, rfl⟩)
 ·have hl : l = [] := List.map_eq_nil_iff.1 h1
  subst hl
  refine WO.opV rfl rfl rfl (OpV.extract (v := .bool false) rfl rfl rfl) ?_
  refine WO.nil ?_
  refine TCy.seq (TCy.cond (t := false) rfl (fun e => by cases e) (fun _ => ?_))
  exact TCy.exit ⟨.inl rfl, .inl rfl⟩
 ·obtain ⟨l1, q1, q2⟩ := perm_lift h1 rfl
  cases l1 with
  | nil => cases q2
  | cons e l' =>
   simp only [List.map_cons, List.cons.injEq] at q2
   obtain ⟨rfl, rfl⟩ := q2
   have hlen : l'.length < n := by rw [← hn, ← q1.length_eq]; simp
   refine WO.opV rfl rfl rfl (OpV.extract (v := .bool true) rfl rfl rfl) ?_
   refine WO.nil ?_
   refine TCy.seq (TCy.cond (t := true) rfl (fun _ => ?_) (fun e => by cases e))
   refine TCy.skip ?_
   refine TCy.block ?_
   refine TCy.seq (round X e l' _ _ _ _ rfl rfl rfl rfl ?_)
   intro env' H' g0 g1 g5 hfin hld hL
   refine TCy.seq (TCy.region ?_)
   refine WOy.step (WO.opV rfl rfl rfl (OpV.move (v := .fn (.yield X.l) [] []) rfl g0) (WO.nil ⟨rfl, ?_⟩))
   refine WOy.step (WO.opV rfl rfl rfl (x := ek e.1) (hld _ _ fun s q => ?_) (WO.nil ⟨rfl, ?_⟩))
   ·simp only [up, lk]
    have : Nat.beq s 10 = false := by rw [Bool.eq_false_iff]; intro z; exact q (Nat.eq_of_beq_eq_true z)
    rw [this]; rfl
   refine WOy.yield (x := e.1) (rem := l'.map Prod.fst) ?_ rfl rfl rfl ?_ ?_
   ·rw [hNx]; exact q1.symm.map Prod.fst
   ·rw [hE]
    refine yield_op (y := .tmp 10) (z := .tmp 11) (l := X.l) (a := ek e.1) rfl ?_ ?_ (hs _)
    ·rfl
    ·rfl
   ·intro b
    refine WOy.step (WO.opV rfl rfl rfl (OpV.not (b := b) rfl rfl) (WO.nil ⟨rfl, ?_⟩))
    refine WOy.nil ?_
    refine TCy.cond (t := !b) rfl (fun q => ?_) (fun q => ?_)
    ·obtain rfl : b = false := by simpa using q
     exact TCy.ret ⟨.inr rfl, .inr ⟨_, rfl⟩⟩
    ·obtain rfl : b = true := by simpa using q
     refine TCy.skip ?_
     exact ⟨_, hlen, l', rfl, rfl, hfin _ true g0 g1 g5⟩
theorem SeqC.keysS {g : FuncId} {fn : Func} (hf : P.funcs[g]? = some fn) (hb : fn.body = some (kyCode tm tb ty tk (kyAsgS tk) (.move (.tmp 3)))) (hN : fn.ntmps = 14) (hR : fn.results = #[]) (ha : ∀ w, (isAgg tm).run P w = .ok false w) (hT : P.underlying tm = some (.map kt et)) (hs : ∀ x, sclA (ek x) = true) :
  SeqC P g [.ptr 0 0] [.cells tm [.map 1], .fmap (menc ek ev m)] (fun x => [ek x]) anyN (m.map Prod.fst) := by
 refine keys_core (et := et) (kt := kt) hf hb hN hR ha hT hs ?_
 intro X e l env H st Q g0 g1 g5 hH hk
 subst hH
 refine TCy.lift (TC.region ?_)
 refine WO.opV rfl rfl rfl (OpV.entry (e := (ek e.1, ev e.2)) rfl g5 rfl) ?_
 refine WO.opV rfl rfl rfl (OpV.extract (v := ek e.1) rfl rfl rfl) ?_
 refine WO.opV rfl rfl rfl (OpV.assign (v := ek e.1) rfl rfl) ?_
 refine WO.nil ?_
 refine hk _ _ g0 g1 g5 ?_ ?_ rfl
 ·intro env2 b e0 e1 e5
  exact Le.trans (Le.forget (i := 2) (es := menc ek ev l) rfl rfl) (Lr [0, 1, 2] (hE := ⟨e0, e1, e5, trivial⟩))
 ·intro pos env2 he
  exact OpV.move rfl (by show lk env2 3 = _; rw [he 3 (by decide)]; rfl)
theorem SeqC.keysA {g : FuncId} {fn : Func} {e : K → List A} {z : Value} {zv : A} {cs0 : List A} {k : Nat} (hf : P.funcs[g]? = some fn) (hb : fn.body = some (kyCode tm tb ty tk (kyAsgA tk) (.load tk (.tmp 3)))) (hN : fn.ntmps = 14) (hR : fn.results = #[]) (ha : ∀ w, (isAgg tm).run P w = .ok false w) (hT : P.underlying tm = some (.map kt et))
  (hs : ∀ x, sclA (.agg (e x)) = true) (hae : ∀ w, (isAgg tk).run P w = .ok true w) (hz0 : ∀ w, (zeroValue tk).run P w = .ok z w) (hsz : ∀ w, (sizeOf tk).run P w = .ok k w) (hzr : ZR zv z) (hzk : knownA zv = true) (hzc : cellsA zv = cs0) (hzp : cs0.all plainA = true) (hzl : cs0.length = k)
  (hk : ∀ x, (e x).length = k) (hkn : ∀ x, knownA (.agg (e x)) = true) (hcs : ∀ x, cellsA (.agg (e x)) = e x) (hpl : ∀ x, (e x).all plainA = true) :
  SeqC P g [.ptr 0 0] [.cells tm [.map 1], .fmap (menc (fun x => .agg (e x)) ev m)] (fun x => [.agg (e x)]) anyN (m.map Prod.fst) := by
 refine keys_core (ek := fun x => .agg (e x)) (et := et) (kt := kt) hf hb hN hR ha hT hs ?_
 intro X y l env H st Q g0 g1 g5 hH hc
 subst hH
 refine TCy.lift (TC.region ?_)
 refine WO.opV rfl rfl rfl (OpV.entry (e := (.agg (e y.1), ev y.2)) rfl g5 rfl) ?_
 refine WO.opV rfl rfl rfl (OpV.extract (v := .agg (e y.1)) rfl rfl rfl) ?_
 refine WO.opH (Nat.le_of_ble_eq_true rfl) rfl rfl rfl (OpH.allocZ hz0 hzr rfl hzk hzc hzp) ?_
 refine WO.opU (Nat.le_of_ble_eq_true rfl) rfl rfl (OpU.store (i := 3) (off := 0) (T := tk) (n := k) (cs := cs0) (vs := e y.1) (cs' := e y.1) (v := .agg (e y.1)) rfl rfl rfl hsz rfl (hkn _) (hcs _) (hk _) (hpl _) (by simp [hzl]) (by simp [splice, hzl, hk])) ?_
 refine WO.nil ?_
 refine hc _ _ g0 g1 g5 ?_ ?_ rfl
 ·intro env2 b e0 e1 e5
  exact Le.trans (Le.forget (i := 2) (es := menc (fun x => .agg (e x)) ev l) rfl rfl) (Lr [0, 1, 2] (hE := ⟨e0, e1, e5, trivial⟩))
 ·intro pos env2 he
  exact OpV.loadA (cs := e y.1) rfl hae hsz (by show lk env2 3 = .ptr 3 0; rw [he 3 (by decide)]; rfl) (Pts.cells (cs := e y.1) rfl rfl) (by rw [← hk y.1, List.take_length]) (hk _)
end
def coCode (ts tq fA : Nat) : Code := (Code.region 0 #[{ dst := some 2, op := .assign (.const (.slice none 0 0)), type := ts, pos := "iter.go:59", after := #[], guard := none }] false).seq
 ((Code.region 1 #[{ dst := some 3, op := .move (.tmp 0), type := tq, pos := "iter.go:60", after := #[], guard := none },
  { dst := some 4, op := .call { callee := .value (.func fA), args := #[.const (.slice none 0 0), .tmp 3], argTypes := #[ts, tq] }, type := ts, pos := "iter.go:60", after := #[{ on := 0, ground := .data }], guard := none },
  { dst := some 2, op := .assign (.tmp 4), type := ts, pos := "iter.go:60", after := #[{ on := 1, ground := .data }, { on := 1, ground := .chain }, { on := 0, ground := .phase }, { on := 1, ground := .phase }], guard := none }] false).seq .ret)
theorem C.collect {P : Program} {T : Type} {ts tq te k tm : Nat} {g : FuncId} {es : List (A × A)} {e : T → List A} {xs : List T} {fC fA : FuncId} {fn : Func} (hf : P.funcs[fC]? = some fn) (hb : fn.body = some (coCode ts tq fA)) (hN : fn.ntmps = 5) (hR : fn.results = #[.tmp 2])
  (hop : ∀ (env : Env) (H : Heap), lk env 3 = .fn (.func g) [] [.ptr 0 0] → OpC P { dst := some 4, op := .call { callee := .value (.func fA), args := #[.const (.slice none 0 0), .tmp 3], argTypes := #[ts, tq] }, type := ts, pos := "iter.go:60", after := #[{ on := 0, ground := .data }], guard := none } env H fA [.nils, .fn (.func g) [] [.ptr 0 0]])
  (hC : C P fA [.nils, .fn (.func g) [] [.ptr 0 0]] [.cells tm [.map 1], .fmap es] (fun r H1 => ∃ p : List T, p.Perm xs ∧ r = .osl 2 0 p.length k ∧ H1 = [.dead, .fmap es, .row te k (p.map e)])) :
  C P fC [.fn (.func g) [] [.ptr 0 0]] [.cells tm [.map 1], .fmap es] (fun r H1 => ∃ p : List T, p.Perm xs ∧ r = .osl 2 0 p.length k ∧ H1 = [.dead, .fmap es, .row te k (p.map e)]) := by
 refine C.of_body hf hb hN rfl ?_
 refine TC.seq (TC.region ?_)
 refine WO.opV rfl rfl rfl (OpV.assign (v := .nils) rfl rfl) ?_
 refine WO.nil ?_
 refine TC.seq (TC.region ?_)
 refine WO.opV rfl rfl rfl (OpV.move (v := .fn (.func g) [] [.ptr 0 0]) rfl rfl) ?_
 refine WO.call (d := some 4) [0, 1] (Nat.le_of_ble_eq_true rfl) rfl rfl (fun x h => by cases h; decide) (hop _ _ rfl) rfl rfl (by decide) hC ?_
 rintro r H1 ⟨p, hp, rfl, rfl⟩
 refine WO.opV rfl rfl rfl (OpV.assign (v := .osl 2 0 p.length k) rfl rfl) ?_
 refine WO.nil ?_
 refine TC.ret ?_
 exact ⟨[(2, .osl 2 0 p.length k)], [.dead, .fmap es, .row te k (p.map e)], _, Lr [0, 1, 2], ResOK.one hR rfl, p, hp, rfl, rfl⟩
def anyK {K R : Type} [DecidableEq R] (l : List K) (k : List K → Option R) : Option R := bif Nat.ble l.length lenMax then anyP k l else none
theorem anyK_ok {K R : Type} [DecidableEq R] {l : List K} {k : List K → Option R} {r : R} (h : anyK l k = some r) : Nat.ble l.length lenMax = true ∧ ∀ p, p.Perm l → k p = some r := by
 unfold anyK at h
 cases q : Nat.ble l.length lenMax with
 | true => rw [q] at h; exact ⟨rfl, anyP_ok h⟩
 | false => rw [q] at h; cases h
end Go.Sw
