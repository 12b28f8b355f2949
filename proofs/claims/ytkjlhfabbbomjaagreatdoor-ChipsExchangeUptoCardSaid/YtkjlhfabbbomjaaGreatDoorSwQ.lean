/- Ways through maps; operations that may end in several ways. -/
import Derived.Test.YtkjlhfabbbomjaaGreatDoorSwP
import Derived.Maps.RangeRun
set_option linter.unusedVariables false
set_option linter.unusedSectionVars false
set_option linter.unusedSimpArgs false
namespace Go.Sw
open Go.ChangeMaps (setBlock)
section
variable {P : Program} {o : Oper} {env : Env} {H : Heap} {h0 N : Nat} {Q : Post}
def OpE (P : Program) (o : Oper) (env : Env) (H : Heap) (K : A → Heap → Prop) : Prop :=
 ∀ fr ro σ N a w, Rel fr ro σ H env N a w → ∃ x H' v w' ro' τ, K x H' ∧ (execOp a.eval o).run P w = .ok (.value v) w' ∧ VR ro' (σ ++ τ) w' x v ∧
  Sim fr ro' (σ ++ τ) H' w' ∧ Evolve fr ro w ro' w'
theorem WO.opE {all : Array Oper} {l : List Oper} {d : Nat} {K : A → Heap → Prop} (hh : h0 ≤ H.length) (hg : wantedA all o env true) (hd : o.dst = some d) (hN : Nat.blt d N = true)
  (hop : OpE P o env H K) (k : ∀ x H', K x H' → WO P h0 N all l (up env d x) H' Q) : WO P h0 N all (o :: l) env H Q := by
 intro rd fr ro σ a w r hrd
 obtain ⟨x, H', v, w', ro', τ, hK, h1, h2, h3, h4⟩ := hop fr ro σ N a w r
 refine wpL_value (wanted_of hg r) h1 ?_
 simp only [hd, Act.put]
 have hdN : d < N := by simpa using hN
 have r' : Rel fr ro' (σ ++ τ) H' (up env d x) N { a with tmps := a.tmps.setIfInBounds d v } w' :=
  ⟨h3, VR.up (fr := fr) (fun s => (r.env s).mono (h4.ext σ τ)) (by rw [r.size]; exact hdN) h2, by simpa using r.size, r.defers.keep h4⟩
 refine wpL_mono (fun e a w q => q.step h4 (take_append_sig ?_)) _ _ _ (k x H' hK rd fr ro' (σ ++ τ) _ w' r' (hrd.to h4 fun _ q => q))
 rw [r.sim.len]; exact hh
theorem Sim.shutMap {fr ro : Nat → Prop} {σ : Sig} {w : World} (s : Sim fr ro σ H w) {i b : Nat} {es : List (A × A)} (hσ : σ[i]? = some (some b)) (hH : H[i]? = some (.map es)) :
  Sim fr (fun c => ro c ∨ c = b) σ (H.set i (.fmap es)) w := by
 have hown : b < w.heap.size ∧ ¬ ro b ∧ ¬ fr b := s.own i b _ hσ hH rfl
 have ext : Ext ro σ w (fun c => ro c ∨ c = b) σ w := ⟨fun _ q => .inl q, fun _ _ => rfl, fun _ _ q => q, fun _ _ q => q⟩
 have hcase : ∀ (j : Nat) (v : Blk), (H.set i (.fmap es))[j]? = some v → v.live = true → j ≠ i ∧ H[j]? = some v := by
  intro j v h hv
  by_cases e : j = i
  ·subst e
   rw [List.getElem?_set] at h
   simp only [if_true] at h
   split at h
   ·cases h; simp [Blk.live] at hv
   ·simp at h
  ·rw [List.getElem?_set_ne (fun q => e q.symm)] at h; exact ⟨e, h⟩
 refine ⟨by rw [List.length_set]; exact s.len, s.roOk.to (fun _ q => .inl q) (fun _ _ => rfl) ?_, s.frLt, ?_, ?_, ?_, ?_⟩
 ·rintro c (q | rfl)
  ·exact s.roLt c q
  ·exact hown.1
 ·rintro c (q | rfl)
  ·exact s.roFr c q
  ·exact hown.2.2
 ·intro j c v h1 h2 h3
  obtain ⟨e, h2⟩ := hcase j v h2 h3
  obtain ⟨p1, p2, p3⟩ := s.own j c v h1 h2 h3
  refine ⟨p1, ?_, p3⟩
  rintro (q | rfl)
  ·exact p2 q
  ·exact e (s.inj j i c v _ h1 hσ h2 hH h3 rfl)
 ·intro j j' c v v' h1 h2 h3 h4 h5 h6
  exact s.inj j j' c v v' h1 h2 (hcase j v h3 h5).2 (hcase j' v' h4 h6).2 h5 h6
 ·intro j y v h1 h2
  by_cases e : j = i
  ·subst e
   rw [hσ] at h1
   cases h1
   rw [List.getElem?_set] at h2
   simp only [if_true] at h2
   split at h2
   ·cases h2
    obtain ⟨l, clock, p1, p2, p3⟩ := s.blk j _ _ hσ hH
    exact ⟨.inr rfl, l, clock, p1, p2.mono ext.nil, p3⟩
   ·simp at h2
  ·rw [List.getElem?_set_ne (fun q => e q.symm)] at h2
   exact (s.blk j y v h1 h2).keep ext fun _ _ _ => rfl
section
variable {T kt et i : Nat} {x : Operand} {es : List (A × A)}
theorem OpH.range (hT : P.underlying T = some (.map kt et)) (ho : o.op = .range T x := by exact rfl) (hx : opA env x = .map i := by exact rfl) (hH : H[i]? = some (.map es) := by exact rfl) :
  OpH P o env H (.ptr H.length 0) (H.set i (.fmap es) ++ [.iter none es]) := by
 intro fr ro σ N a w r
 have h1 := opA_ok r x
 rw [hx] at h1
 obtain ⟨b, q1, q2⟩ := h1
 obtain ⟨l, clock, p1, p2, p3, p4, p5⟩ := r.sim.blk i _ _ q1 hH
 have hb := (r.sim.own i b _ q1 hH rfl).1
 have s1 := r.sim.shutMap q1 hH
 have ev1 : Evolve fr ro w (fun c => ro c ∨ c = b) w := Evolve.same (fun _ q => .inl q)
 have ev2 : Evolve fr (fun c => ro c ∨ c = b) w (fun c => ro c ∨ c = b) (w.alloc (.mapIter (some b) clock #[] clock)) := Evolve.alloc _ s1.roLt s1.frLt
 have ext0 : Ext ro [] w (fun c => ro c ∨ c = b) [] (w.alloc (.mapIter (some b) clock #[] clock)) := (ev1.trans ev2).ext0 []
 refine ⟨.pointer (some ⟨w.heap.size, 0, none⟩), w.alloc (.mapIter (some b) clock #[] clock), _, [some w.heap.size], ?_, ⟨w.heap.size, ?_, rfl⟩,
  s1.alloc (.inr ⟨b, l, clock, #[], l.toList, alloc_new _ _, .inr rfl, by rw [alloc_heap _ _ _ hb]; exact p1, p3, p4, ?_, p2.mono ext0, fun _ h => by cases h⟩), ev1.trans ev2⟩
 ·generalize a.eval = ρ at *
  simp only [execOp, ho, q2, Instr.range, Sem.run_bind, run_underlying hT, Result.andThen, MapKept.run_getObj_map p1]
  rfl
 ·rw [← r.sim.len]; simp
 ·have : l.toList.filter (fun e => !(#[] : Array Nat).contains e.born) = l.toList := by rw [List.filter_eq_self]; intro e _; simp
  rw [this]
theorem OpH.rangeF (hT : P.underlying T = some (.map kt et)) (ho : o.op = .range T x := by exact rfl) (hx : opA env x = .map i := by exact rfl) (hH : H[i]? = some (.fmap es) := by exact rfl) :
  OpH P o env H (.ptr H.length 0) (H ++ [.iter none es]) := by
 intro fr ro σ N a w r
 have h1 := opA_ok r x
 rw [hx] at h1
 obtain ⟨b, q1, q2⟩ := h1
 obtain ⟨hrb, l, clock, p1, p2, p3, p4, p5⟩ := r.sim.blk i _ _ q1 hH
 have hb := r.sim.roLt b hrb
 have ev2 : Evolve fr ro w ro (w.alloc (.mapIter (some b) clock #[] clock)) := Evolve.alloc _ r.sim.roLt r.sim.frLt
 have ext0 : Ext ro [] w ro [] (w.alloc (.mapIter (some b) clock #[] clock)) := ev2.ext0 []
 refine ⟨.pointer (some ⟨w.heap.size, 0, none⟩), w.alloc (.mapIter (some b) clock #[] clock), _, [some w.heap.size], ?_, ⟨w.heap.size, ?_, rfl⟩,
  r.sim.alloc (.inr ⟨b, l, clock, #[], l.toList, alloc_new _ _, hrb, by rw [alloc_heap _ _ _ hb]; exact p1, p3, p4, ?_, p2.mono ext0, fun _ h => by cases h⟩), ev2⟩
 ·generalize a.eval = ρ at *
  simp only [execOp, ho, q2, Instr.range, Sem.run_bind, run_underlying hT, Result.andThen, MapKept.run_getObj_map p1]
  rfl
 ·rw [← r.sim.len]; simp
 ·have : l.toList.filter (fun e => !(#[] : Array Nat).contains e.born) = l.toList := by rw [List.filter_eq_self]; intro e _; simp
  rw [this]
theorem ER.mem {ro : Nat → Prop} {σ : Sig} {w : World} : ∀ {es : List (A × A)} {l : List MapEntry}, ER ro σ w es l → ∀ e ∈ l, ∃ x es' l', (x :: es').Perm es ∧ (e :: l').Perm l ∧ VR ro σ w x.1 e.key ∧ VR ro σ w x.2 e.val ∧ ER ro σ w es' l'
 | [], l, h, e, he => by cases (show l = [] from h); cases he
 | y :: es, l, h, e, he => by
  obtain ⟨e0, l', rfl, h1, h2, h3⟩ := h
  rcases List.mem_cons.1 he with rfl | he
  ·exact ⟨y, es, l', .refl _, .refl _, h1, h2, h3⟩
  ·obtain ⟨x, es', l'', p1, p2, v1, v2, h4⟩ := ER.mem h3 e he
   exact ⟨x, y :: es', e0 :: l'', (List.Perm.swap _ _ _).trans (p1.cons _), (List.Perm.swap _ _ _).trans (p2.cons _), v1, v2, ⟨e0, l'', rfl, h1, h2, h4⟩⟩
theorem born_inj : ∀ {l : List MapEntry}, (l.map (·.born)).Nodup → ∀ a ∈ l, ∀ b ∈ l, a.born = b.born → a = b
 | [], _, a, ha, _, _, _ => by cases ha
 | c :: l, hn, a, ha, b, hb, hab => by
  simp only [List.map_cons, List.nodup_cons] at hn
  rcases List.mem_cons.1 ha with ea | ha' <;> rcases List.mem_cons.1 hb with eb | hb'
  ·rw [ea, eb]
  ·subst ea; exact absurd (List.mem_map.2 ⟨b, hb', hab.symm⟩) hn.1
  ·subst eb; exact absurd (List.mem_map.2 ⟨a, ha', hab⟩) hn.1
  ·exact born_inj hn.2 a ha' b hb' hab
def NextK (H : Heap) (i : Nat) (cur : Option (A × A)) (es : List (A × A)) (v : A) (H' : Heap) : Prop :=
 (es = [] ∧ v = .tup [.bool false] ∧ H' = H) ∨ ∃ e es', (e :: es').Perm es ∧ v = .tup [.bool true, e.1, e.2] ∧ H' = H.set i (.iter (some e) es')
theorem OpE.next {cur : Option (A × A)} (ho : o.op = .next x false := by exact rfl) (hx : opA env x = .ptr i 0 := by exact rfl) (hH : H[i]? = some (.iter cur es) := by exact rfl) :
  OpE P o env H (NextK H i cur es) := by
 intro fr ro σ N a w r
 have h1 := opA_ok r x
 rw [hx] at h1
 obtain ⟨b, q1, q2⟩ := h1
 have hstay : ∀ (v : Value) (w1 : World), w1.heap = w.heap → w1.os = w.os → w1.tape = w.tape → w1.output = w.output → w.drawn ≤ w1.drawn → Sim fr ro (σ ++ []) H w1 ∧ Evolve fr ro w ro w1 := by
  intro v w1 e1 e2 e3 e4 e5
  exact ⟨by simpa using r.sim.heap e1, Evolve.heap e1 e2 e3 e4 e5⟩
 rcases r.sim.blk i _ _ q1 hH with ⟨rfl, rfl, p⟩ | ⟨m, l, clock, seen, left, p1, p2, p3, p4, p5, p6, p7, p8⟩
 ·refine ⟨_, _, .tuple #[.bool false], w, ro, [], .inl ⟨rfl, rfl, rfl⟩, ?_, ⟨_, rfl, _, _, rfl, rfl, rfl⟩, hstay (.bool false) w rfl rfl rfl rfl (Nat.le_refl _)⟩
  generalize a.eval = ρ at *
  simp only [execOp, ho, q2, Instr.next, Sem.run_bind, getObj, Sem.run, p, Result.andThen]
  rfl
 ·have hleft : (leftOf l seen).toList = l.toList.filter fun e => !seen.contains e.born := by simp [leftOf]
  have hperm : left.Perm (leftOf l seen).toList := by rw [hleft]; exact p6
  rcases run_next_at (P := P) w o.type b m clock clock seen l clock p1 p3 p4 (Nat.le_refl _) with ⟨g1, g2⟩ | ⟨e, g1, w1, g2, g3⟩
  ·have hl0 : left = [] := by
    have : left.length = 0 := by rw [hperm.length_eq]; simpa using g1
    exact List.length_eq_zero_iff.1 this
   subst hl0
   have hes : es = [] := by
    have := p7.length
    simp only [List.length_nil] at this
    exact List.length_eq_zero_iff.1 this.symm
   refine ⟨_, _, .tuple #[.bool false], w, ro, [], .inl ⟨hes, rfl, rfl⟩, ?_, ⟨_, rfl, _, _, rfl, rfl, rfl⟩, hstay (.bool false) w rfl rfl rfl rfl (Nat.le_refl _)⟩
   generalize a.eval = ρ at *
   simp only [execOp, ho, q2, Sem.run_bind, g2, Result.andThen]
   rfl
  ·have he : e ∈ left := hperm.mem_iff.2 g1
   have hel : e ∈ l.toList := by rw [hleft] at g1; exact (List.mem_filter.1 g1).1
   obtain ⟨y, es', l', k1, k2, v1, v2, k3⟩ := p7.mem e he
   have hw1 : w1.heap = w.heap ∧ w1.os = w.os ∧ w1.tape = w.tape ∧ w1.output = w.output ∧ w.drawn ≤ w1.drawn := by
    rcases g2 with rfl | rfl
    ·exact ⟨rfl, rfl, rfl, rfl, Nat.le_refl _⟩
    ·exact ⟨rfl, rfl, rfl, rfl, Nat.le_succ _⟩
   obtain ⟨s1, ev1⟩ := hstay (.bool false) w1 hw1.1 hw1.2.1 hw1.2.2.1 hw1.2.2.2.1 hw1.2.2.2.2
   rw [List.append_nil] at s1
   have hbm : b ≠ m := by
    rintro rfl
    rw [p1] at p3; cases p3
   have hset := s1.set (x' := .iter (some y) es') (obj := .mapIter (some m) clock (seen.push e.born) clock) q1 hH rfl
    (fun z hz => by
     unfold World.shape? at hz
     rw [hw1.1, p1] at hz
     simp at hz)
    (fun x0 he0 => .inr ⟨m, l, clock, seen.push e.born, l', he0, x0.sub _ p2, by
      show (w1.heap.setIfInBounds b _)[m]? = _
      rw [Array.getElem?_setIfInBounds, if_neg hbm, hw1.1]; exact p3, p4, p5, by
      have hnd : (l.toList.filter fun e => !seen.contains e.born).Nodup := by
       have : l.toList.Nodup := List.Pairwise.of_map _ (fun a b h q => h (congrArg _ q)) p5
       exact this.filter _
      have hp : (e :: l').Perm (l.toList.filter fun e => !seen.contains e.born) := k2.trans p6
      have hnd2 : (e :: l').Nodup := hp.nodup_iff.2 hnd
      have e1 : (l.toList.filter fun e' => !(seen.push e.born).contains e'.born) = (l.toList.filter fun e => !seen.contains e.born).filter fun e' => !decide (e'.born = e.born) := by
       rw [List.filter_filter]
       apply List.filter_congr
       intro z _
       simp [Array.contains_push, Bool.and_comm]
      rw [e1]
      have h2 := hp.filter (fun e' => !decide (e'.born = e.born))
      have e2 : (e :: l').filter (fun e' => !decide (e'.born = e.born)) = l' := by
       rw [List.filter_cons_of_neg (by simp), List.filter_eq_self]
       intro z hz
       have hzl : z ∈ l.toList := (List.mem_filter.1 (hp.mem_iff.1 (List.mem_cons_of_mem _ hz))).1
       simp only [Bool.not_eq_true', decide_eq_false_iff_not]
       intro hb
       have : z = e := by
        exact born_inj p5 z hzl e hel hb
       subst this
       exact (List.nodup_cons.1 hnd2).1 hz
      rw [e2] at h2
      exact h2, by
      have x1 : Ext ro [] w ro [] w1 := ev1.ext0 []
      exact (k3.mono x1).mono ⟨x0.sub, x0.keep, x0.shape, fun _ _ q => q⟩, by
      intro z hz
      cases hz
      have x1 : Ext ro [] w ro [] w1 := ev1.ext0 []
      exact ⟨e, hel, by simp, (v1.mono x1).mono ⟨x0.sub, x0.keep, x0.shape, fun _ _ q => q⟩, (v2.mono x1).mono ⟨x0.sub, x0.keep, x0.shape, fun _ _ q => q⟩⟩⟩)
   have evt := ev1.trans hset.2
   have xt : Ext ro [] w ro [] { w1 with heap := w1.heap.setIfInBounds b (.mapIter (some m) clock (seen.push e.born) clock) } := evt.ext0 []
   refine ⟨_, _, .tuple #[.bool true, e.key, e.val], _, ro, [], .inr ⟨y, es', k1, rfl, rfl⟩, ?_,
    ⟨[.bool true, e.key, e.val], rfl, _, _, rfl, rfl, _, _, rfl, (v1.mono xt).mono ⟨fun _ q => q, fun _ _ => rfl, fun _ _ q => q, fun j c q => by simp at q⟩, _, _, rfl, (v2.mono xt).mono ⟨fun _ q => q, fun _ _ => rfl, fun _ _ q => q, fun j c q => by simp at q⟩, rfl⟩, by simpa using hset.1, evt⟩
   generalize a.eval = ρ at *
   simp only [execOp, ho, q2, Sem.run_bind, g3, Result.andThen, setBlock]
   rfl
theorem OpV.entry {e : A × A} (ho : o.op = .entry x := by exact rfl) (hx : opA env x = .ptr i 0 := by exact rfl) (hH : H[i]? = some (.iter (some e) es) := by exact rfl) : OpV P o env H (.tup [e.1, e.2]) := by
 intro fr ro σ N a w r
 have h1 := opA_ok r x
 rw [hx] at h1
 obtain ⟨b, q1, q2⟩ := h1
 rcases r.sim.blk i _ _ q1 hH with ⟨_, h, _⟩ | ⟨m, l, clock, seen, left, p1, p2, p3, p4, p5, p6, p7, p8⟩
 ·cases h
 ·obtain ⟨f, hf, hs, v1, v2⟩ := p8 e rfl
  refine ⟨.tuple #[f.key, f.val], ?_, [f.key, f.val], rfl, _, _, rfl, v1.mono ⟨fun _ q => q, fun _ _ => rfl, fun _ _ q => q, fun j c q => by simp at q⟩, _, _, rfl, v2.mono ⟨fun _ q => q, fun _ _ => rfl, fun _ _ q => q, fun j c q => by simp at q⟩, rfl⟩
  have hfd : l.find? (·.born == f.born) = some f := by rw [← Array.find?_toList]; exact find_born f l.toList p5 hf
  generalize a.eval = ρ at *
  simp only [execOp, ho, q2, Instr.entry, getObj, Sem.run_bind, Sem.run, p1, p3, Result.andThen, hs, bne_self_eq_false, Bool.false_eq_true, if_false, hfd]
  rfl
end
end
end Go.Sw
