/- slices.SortFunc at structs: the contract over abstract states. -/
import Derived.Test.YtkjlhfabbbomjaaGreatDoorSwT
set_option linter.unusedVariables false
set_option linter.unusedSectionVars false
set_option linter.unusedSimpArgs false
namespace Go.Sw
open Go.Sort Go.Proofs Go.Shelf
theorem flatten_get {α : Type} {k : Nat} : ∀ (vs : List (List α)) (j : Nat), (∀ v ∈ vs, v.length = k) → j < vs.length * k → vs.flatten[j]? = (vs[j / k]?).bind fun v => v[j % k]?
 | [], j, _, h => by simp at h
 | v :: vs, j, hk, h => by
  have hv := hk v (by simp)
  have k0 : 0 < k := by
   rcases Nat.eq_zero_or_pos k with q | q
   ·subst q; simp at h
   ·exact q
  rw [List.flatten_cons]
  by_cases q : j < k
  ·rw [List.getElem?_append_left (by omega), Nat.div_eq_of_lt q, Nat.mod_eq_of_lt q]
   simp
  ·rw [List.getElem?_append_right (by omega), hv, flatten_get vs (j - k) (fun v hv => hk v (by simp [hv])) (by simp [Nat.succ_mul] at h; omega)]
   have e1 : j / k = (j - k) / k + 1 := by rw [Nat.div_eq_sub_div k0 (by omega)]
   have e2 : j % k = (j - k) % k := Nat.mod_eq_sub_mod (by omega)
   rw [e1, e2, List.getElem?_cons_succ]
theorem flatten_len {α : Type} {k : Nat} : ∀ (vs : List (List α)), (∀ v ∈ vs, v.length = k) → vs.flatten.length = vs.length * k
 | [], _ => by simp
 | v :: vs, h => by rw [List.flatten_cons, List.length_append, flatten_len vs (fun v hv => h v (by simp [hv])), h v (by simp), List.length_cons, Nat.succ_mul]; omega
theorem toArr_get {α : Type} (F : List α) (j : Nat) : F.toArray[j]? = F[j]? := by simp
theorem get_some {α : Type} [Inhabited α] (F : List α) (j : Nat) (h : j < F.length) : F[j]? = some (F.toArray[j]!) := by simp [h]
theorem flatK_eq {β : Type} [Inhabited β] {enc : β → List Value} {k : Nat} (hk : ∀ x, (enc x).length = k) (d : Array β) : flatK enc k d = ((d.toList.map enc).flatten).toArray := by
 have hl : ∀ v ∈ d.toList.map enc, v.length = k := by
  intro v hv
  obtain ⟨x, _, rfl⟩ := List.mem_map.1 hv
  exact hk x
 apply Array.ext_getElem?
 intro t
 rw [toArr_get ((d.toList.map enc).flatten) t]
 by_cases h : t < d.size * k
 ·rw [flatten_get _ t hl (by simpa using h)]
  have k0 : 0 < k := by
   rcases Nat.eq_zero_or_pos k with q | q
   ·subst q; simp at h
   ·exact q
  have h1 : t / k < d.size := Nat.div_lt_of_lt_mul (by rw [Nat.mul_comm]; exact h)
  have h2 : t % k < k := Nat.mod_lt _ k0
  have h3 : t < (flatK enc k d).size := by simpa using h
  have e := get_flatK enc k d t h
  rw [getElem!_pos (flatK enc k d) t h3] at e
  rw [Array.getElem?_eq_getElem h3, e]
  simp [h1]
  rw [List.getElem?_eq_getElem (by rw [hk]; exact h2)]
  rfl
 ·have e : (d.toList.map enc).flatten.length = d.size * k := by rw [flatten_len _ hl]; simp
  rw [Array.getElem?_eq_none (by simpa using h), List.getElem?_eq_none (by rw [e]; omega)]
section
variable {ro : Nat → Prop} {σ : Sig} {w : World} {T : Type} {enc : T → List A} {k : Nat}
theorem RL.parts : ∀ {l : List T} {lv : List Value}, RL ro σ w k (l.map enc) lv →
  ∃ (ps : List (T × List Value)) (rest : List Value), ps.map (·.1) = l ∧ lv = (ps.map (·.2)).flatten ++ rest ∧ ∀ p ∈ ps, p.2.length = k ∧ LR ro σ w (enc p.1) p.2 ∧ ∀ v ∈ p.2, plainV v
 | [], lv, _ => ⟨[], lv, rfl, rfl, by simp⟩
 | x :: l, lv, h => by
  obtain ⟨l1, l2, rfl, h1, ⟨h2, h3⟩, h4⟩ := h
  obtain ⟨ps, rest, e1, rfl, h5⟩ := RL.parts (l := l) h4
  refine ⟨(x, l1) :: ps, rest, by simp [e1], by simp, ?_⟩
  intro p hp
  rcases List.mem_cons.1 hp with rfl | hp
  ·exact ⟨by rw [h2.length]; exact h1, h2, h3⟩
  ·exact h5 p hp
theorem RL.of_parts (hk : ∀ x : T, (enc x).length = k) : ∀ {ps : List (T × List Value)} {rest : List Value}, (∀ p ∈ ps, LR ro σ w (enc p.1) p.2 ∧ ∀ v ∈ p.2, plainV v) → RL ro σ w k ((ps.map (·.1)).map enc) ((ps.map (·.2)).flatten ++ rest)
 | [], _, _ => trivial
 | p :: ps, rest, h => by
  refine ⟨p.2, (ps.map (·.2)).flatten ++ rest, by simp, hk _, h p (by simp), RL.of_parts hk fun q hq => h q (by simp [hq])⟩
end
structure Elt (ro : Nat → Prop) (w : World) {T : Type} (enc : T → List A) (k : Nat) (l : List T) where
 x : T
 vs : List Value
 mem : x ∈ l
 len : vs.length = k
 rel : LR ro [] w (enc x) vs
 plain : ∀ v ∈ vs, plainV v
theorem plain_one {v : Value} (h : plainV v) : v.oneCell' = true := by cases v <;> first | rfl | exact h.elim
theorem C.sortK {P : Program} {ρ : Ren} (L : SlLaysF0.n6 P ρ) {T : Type} [DecidableEq T] {enc : T → List A} {k t g : Nat} {cap : List A} {l l' : List T} {cf : T → T → Option Int} (hs : sortF cf l = some l')
  (hcmp : ∀ x y c, cf x y = some c → C P g ([.agg (enc x), .agg (enc y)] ++ cap) [] (fun a H => a = .int .i64 c ∧ H = []))
  (aE : ∀ w, (isAgg (ρ.t 24)).run P w = .ok true w) (zE : ∀ w, (Go.sizeOf (ρ.t 24)).run P w = .ok k w) (eg : ∀ args w, (callFunc g args).run P w = .ok (.enter g args) w)
  (hk : ∀ x, (enc x).length = k) (hd : dataL cap = true) :
  C P (ρ.f 6) [.osl 0 0 l.length k, .fn (.func g) [] cap] [.row t k (l.map enc)] (fun a H => a = .tup [] ∧ H = [.row t k (l'.map enc)]) := by
 intro fr ro σ vals w s hv
 obtain ⟨vs, r1, rfl, hvs, vf, r2, rfl, hvf, hr⟩ := hv
 cases (show r2 = [] from hr)
 obtain ⟨lf, lc, rfl, h1, hcap⟩ := hvf
 cases (show lf = [] from h1)
 have hcap' : LR ro [] w cap lc := LR.data hd hcap
 obtain ⟨hmax, hall, hswo, hanti, hl'⟩ := sortF_ok hs
 have none_case : ∀ (ad : Option Addr) (c : Nat), vs = .slice ad 0 c → l = [] →
   Calls P (ρ.f 6) [vs, .func (.func g) #[] lc.toArray].toArray w fun e w' => ∃ v r H' ro' τ, e = .returned v ∧ (r = .tup [] ∧ H' = [.row t k (l'.map enc)]) ∧ Sim fr ro' (σ ++ τ) H' w' ∧ VR ro' (σ ++ τ) w' r v ∧ Evolve fr ro w ro' w' := by
  rintro ad c rfl rfl
  have hl0 : l' = [] := by rw [← hl']; rfl
  subst hl0
  refine (AnyF.slices_SortFunc_none L ad c (.func (.func g) #[] lc.toArray) w).mono ?_
  rintro e w' ⟨rfl, rfl⟩
  exact ⟨_, _, _, ro, [], rfl, ⟨rfl, rfl⟩, by simpa using s, ⟨[], rfl, rfl⟩, Evolve.refl _ _ _⟩
 rcases hvs with ⟨h0, rfl⟩ | ⟨b, p, cp, t', m, q1, rfl, q2, q3, q4, q5⟩
 ·exact none_case none 0 rfl (List.length_eq_zero_iff.1 h0)
 ·by_cases hl0 : l = []
  ·subst hl0
   exact none_case _ cp rfl rfl
  ·have hlp : 0 < l.length := List.length_pos_iff.2 hl0
   obtain rfl := q2 (Nat.lt_of_lt_of_le hlp q3)
   obtain ⟨lv, e1, e2⟩ := s.blk 0 _ _ q1 rfl
   obtain ⟨hb, hbro, hbfr⟩ := s.own 0 b _ q1 rfl rfl
   obtain ⟨ps, rest, hps, rfl, hpp⟩ := RL.parts e2
   let α := Elt ro w enc k l
   have hmem : ∀ p ∈ ps, p.1 ∈ l := fun p hp => by rw [← hps]; exact List.mem_map_of_mem hp
   let ds : List α := ps.attach.map fun p => ⟨p.1.1, p.1.2, hmem _ p.2, (hpp _ p.2).1, (hpp _ p.2).2.1, (hpp _ p.2).2.2⟩
   have hat : ∀ {γ : Type} (f : T × List Value → γ), ps.attach.map (fun p => f p.1) = ps.map f := fun f => by simp
   have hdsx : ds.map (·.x) = l := by
    show (ps.attach.map _).map _ = _
    rw [List.map_map]
    exact (hat (·.1)).trans hps
   have hdsv : ds.map (·.vs) = ps.map (·.2) := by
    show (ps.attach.map _).map _ = _
    rw [List.map_map]
    exact hat (·.2)
   have hdl : ds.length = l.length := by rw [← hdsx]; simp
   have hds0 : ds ≠ [] := by intro q; rw [q] at hdl; simp at hdl; omega
   let inh : Inhabited α := ⟨ds.head hds0⟩
   let enc' : α → List Value := fun a => a.vs
   let cf' : α → α → Int := fun x y => (cf x.x y.x).getD 0
   have hlt : ∀ x y : α, ltOf cf' x y = ltO cf x.x y.x := by
    intro x y
    obtain ⟨c, hc⟩ := hall x.x x.mem y.x y.mem
    simp only [ltOf, ltO, cf', hc, Option.getD_some]
   have hO : SWO (ltOf cf') := ⟨fun x => by rw [hlt]; exact hswo.irrefl _ x.mem, fun x y z a b => by rw [hlt] at *; exact hswo.trans _ x.mem _ y.mem _ z.mem a b,
    fun x y z a b => by rw [hlt] at *; exact hswo.ntrans _ x.mem _ y.mem _ z.mem a b⟩
   have hk' : ∀ x : α, (enc' x).length = k := fun x => x.len
   have hflat : flatK enc' k ds.toArray = ((ps.map (·.2)).flatten).toArray := by
    rw [flatK_eq hk']
    show ((ds.map fun a => a.vs).flatten).toArray = _
    rw [hdsv]
   have hpl : ∀ v ∈ ps.map (·.2), v.length = k := by
    intro v hv
    obtain ⟨p, hp, rfl⟩ := List.mem_map.1 hv
    exact (hpp p hp).1
   have hflen : (ps.map (·.2)).flatten.length = ds.length * k := by rw [flatten_len _ hpl, ← hdsv]; simp
   have hH : HoldsK enc' k w b (0 * k) ds.toArray := by
    intro j hj
    rw [hflat] at hj ⊢
    simp only [List.size_toArray] at hj
    constructor
    ·unfold World.cell?
     simp only [e1, Option.isSome_none, Bool.false_eq_true, if_false, Nat.zero_mul, Nat.zero_add]
     rw [toArr_get, List.getElem?_append_left hj]
     exact get_some _ _ hj
    ·unfold World.frozen?
     simp only [e1]
     simp
   have hheap : ∀ (d' : Array α), d'.size = ds.toArray.size → (putRowK enc' k w b (0 * k) d').heap = w.heap.setIfInBounds b (.cells (((d'.toList.map enc').flatten ++ rest)).toArray t (0, 0)) := by
    intro d' hd'
    have hl2 : (d'.toList.map enc').flatten.length = (ps.map (·.2)).flatten.length := by
     rw [flatten_len _ (k := k) (by intro v hv; obtain ⟨x, _, rfl⟩ := List.mem_map.1 hv; exact hk' x), hflen]
     simp at hd' ⊢
     rw [hd']
    unfold putRowK putRow mapBlock
    show w.heap.modify b _ = _
    rw [modify_eq e1]
    simp only [onCells]
    congr 2
    rw [flatK_eq hk']
    unfold putCells
    apply Array.ext_getElem?
    intro i
    simp only [Array.getElem?_mapIdx, toArr_get, Nat.zero_mul, Nat.zero_le, true_and, Nat.zero_add, Nat.sub_zero, List.size_toArray, id_eq]
    by_cases hi : i < (d'.toList.map enc').flatten.length
    ·rw [List.getElem?_append_left hi, List.getElem?_append_left (by rw [← hl2]; exact hi), List.getElem?_eq_getElem (by rw [← hl2]; exact hi), get_some _ _ hi]
     exact congrArg some (if_pos hi)
    ·rw [List.getElem?_append_right (by omega), List.getElem?_append_right (by omega), hl2]
     cases (rest[i - (ps.map (·.2)).flatten.length]?) with
     | none => rfl
     | some v =>
      rw [← hl2]
      exact congrArg some (if_neg hi)
   have hbig : ∀ (m : Nat) (os : Array Obj) (d' : Array α), d'.size = ds.toArray.size →
     (∀ c, c < w.heap.size → c ≠ b → (sortWorldK enc' k w b (0 * k) m d' os).heap[c]? = w.heap[c]?) ∧ (sortWorldK enc' k w b (0 * k) m d' os).heap[b]? = some (.cells (((d'.toList.map enc').flatten ++ rest)).toArray t (0, 0)) ∧
     w.heap.size ≤ (sortWorldK enc' k w b (0 * k) m d' os).heap.size := by
    intro m os d' hd'
    have e : (sortWorldK enc' k w b (0 * k) m d' os).heap = w.heap.setIfInBounds b (.cells (((d'.toList.map enc').flatten ++ rest)).toArray t (0, 0)) ++ os := by
     rw [← hheap d' hd']; rfl
    rw [e]
    refine ⟨fun c hc hcb => ?_, ?_, by simp⟩
    ·rw [Array.getElem?_append_left (by simpa using hc), Array.getElem?_setIfInBounds, if_neg (fun q => hcb q.symm)]
    ·rw [Array.getElem?_append_left (by simpa using hb), Array.getElem?_setIfInBounds, if_pos rfl, if_pos hb]
   have hshape : ∀ (m : Nat) (os : Array Obj) (d' : Array α), d'.size = ds.toArray.size → ∀ c y, w.shape? c = some y → (sortWorldK enc' k w b (0 * k) m d' os).shape? c = some y := by
    intro m os d' hd' c y hy
    obtain ⟨g1, g2, g3⟩ := hbig m os d' hd'
    by_cases hc : c = b
    ·subst hc
     unfold World.shape? at hy ⊢
     rw [e1] at hy
     rw [g2]
     simp only [Option.some.injEq] at hy ⊢
     rw [← hy]
     congr 1
     simp only [List.size_toArray, List.length_append]
     rw [flatten_len _ (k := k) (by intro v hv; obtain ⟨x, _, rfl⟩ := List.mem_map.1 hv; exact hk' x), hflen]
     simp at hd' ⊢
     rw [hd']
    ·unfold World.shape? at hy ⊢
     rw [g1 c (shape_lt hy) hc]; exact hy
   have hext : ∀ (m : Nat) (os : Array Obj) (d' : Array α), d'.size = ds.toArray.size → ∀ τ, Ext ro τ w ro τ (sortWorldK enc' k w b (0 * k) m d' os) := by
    intro m os d' hd' τ
    obtain ⟨g1, g2, g3⟩ := hbig m os d' hd'
    exact ⟨fun _ q => q, fun c hc => g1 c (s.roLt c hc) (fun q => hbro (q ▸ hc)), hshape m os d' hd', fun _ _ q => q⟩
   have hcl : CmpLays P g lc.toArray enc' k cf' b (0 * k) ds.toArray.size w := by
    intro m os dk hdk x y
    obtain ⟨c, hc⟩ := hall x.x x.mem y.x y.mem
    have hext' := hext m os dk hdk []
    have hcc := hcmp _ _ _ hc
    generalize hW : sortWorldK enc' k w b (0 * k) m dk os = W at *
    have hWs : w.heap.size ≤ W.heap.size := by rw [← hW]; exact (hbig m os dk hdk).2.2
    have sW : Sim (fun c => c < W.heap.size ∧ ¬ ro c) ro [] [] W :=
     ⟨rfl, s.roOk.to (fun _ q => q) hext'.keep (fun c hc => Nat.lt_of_lt_of_le (s.roLt c hc) hWs), fun c hc => hc.1, fun c hc hf => hf.2 hc, fun i b x h => by simp at h, fun i j b x y h => by simp at h, fun i y x h => by simp at h⟩
    have hargs : LR ro [] W ([.agg (enc x.x), .agg (enc y.x)] ++ cap) ([.agg x.vs.toArray, .agg y.vs.toArray] ++ lc) :=
     LR.append (show LR ro [] W [A.agg (enc x.x), A.agg (enc y.x)] [Value.agg x.vs.toArray, Value.agg y.vs.toArray] from ⟨_, _, rfl, ⟨x.vs, rfl, x.rel.mono hext'⟩, _, _, rfl, ⟨y.vs, rfl, y.rel.mono hext'⟩, rfl⟩) (hcap'.mono hext')
    have hcalls := hcc _ ro [] _ W sW hargs
    have hca : (([Value.agg x.vs.toArray, Value.agg y.vs.toArray] ++ lc).toArray : Array Value) = #[Value.agg (enc' x).toArray, Value.agg (enc' y).toArray] ++ lc.toArray := by simp [enc']
    rw [hca] at hcalls
    refine hcalls.mono ?_
    rintro e w' ⟨v, r, H', ro', τ, rfl, ⟨rfl, rfl⟩, s', hr', ev⟩
    refine ⟨?_, ?_⟩
    ·rw [show v = .int .i64 c from hr']
     simp only [cf', hc, Option.getD_some]
    ·refine grow_of (fun c hc => ?_) ev.size ev.os ev.tape ev.output ev.drawn
     by_cases hro : ro c
     ·exact ev.keepRo c hro
     ·exact ev.keepFr c ⟨hc, hro⟩
   have hsz : ds.toArray.size = l.length := by simpa using hdl
   have hcon := AnyQ.slices_SortFunc L k aE zE enc' hk' (fun x v hv => plain_one (x.plain v hv)) cf' hO g lc.toArray b (0 * k) cp ds.toArray w eg hcl hH hb (by rw [hsz]; unfold lenMax at hmax; omega)
   rw [hsz] at hcon
   refine hcon.mono ?_
   rintro e w' ⟨rfl, d', n, os, hperm, hsort, rfl⟩
   have hd' : d'.size = ds.toArray.size := hperm.1
   obtain ⟨g1, g2, g3⟩ := hbig n os d' hd'
   have hp' : d'.toList.Perm ds := by
    have h := hperm.2.2
    have x1 : d'.extract 0 l.length = d' := by rw [← hsz, ← hd']; exact Array.extract_size
    have x2 : ds.toArray.extract 0 l.length = ds.toArray := by rw [← hsz]; exact Array.extract_size
    rw [x1, x2] at h
    simpa using h
   have hres : d'.toList.map (·.x) = l' := by
    rw [← hl']
    refine sorted_one (lt := ltO cf) ?_ ?_ ?_ (isort_sorted hswo)
    ·exact ((hp'.map (·.x)).trans (by rw [hdsx])).trans (isort_perm _ _).symm
    ·intro x hx y hy
     have hx' : x ∈ l := by rw [← hdsx]; exact (hp'.map (·.x)).mem_iff.1 hx
     have hy' : y ∈ l := by rw [← hdsx]; exact (hp'.map (·.x)).mem_iff.1 hy
     exact hanti x hx' y hy'
    ·rw [List.pairwise_iff_getElem]
     intro i j hi hj hij
     simp only [List.length_map] at hi hj
     simp only [List.getElem_map]
     rw [← hlt]
     have := hsort i j (Nat.zero_le _) hij (by rw [← hsz, ← hd']; simpa using hj)
     rw [getElem!_pos d' j (by simpa using hj), getElem!_pos d' i (by simpa using hi)] at this
     simpa using this
   have hrl : RL ro [] (sortWorldK enc' k w b (0 * k) n d' os) k (l'.map enc) ((d'.toList.map enc').flatten ++ rest) := by
    have e3 : d'.toList.map enc' = (d'.toList.map fun a => (a.x, a.vs)).map (·.2) := by simp [enc']
    have e4 : l' = (d'.toList.map fun a => (a.x, a.vs)).map (·.1) := by rw [← hres]; simp
    rw [e3, e4]
    refine RL.of_parts hk ?_
    intro p hp
    obtain ⟨a, _, rfl⟩ := List.mem_map.1 hp
    exact ⟨a.rel.mono (hext n os d' hd' []), a.plain⟩
   have hev : Evolve fr ro w ro (sortWorldK enc' k w b (0 * k) n d' os) :=
    ⟨fun _ q => q, fun c hc => g1 c (s.roLt c hc) (fun q => hbro (q ▸ hc)), fun c hc => g1 c (s.frLt c hc) (fun q => hbfr (q ▸ hc)), g3, hshape n os d' hd', rfl, rfl, rfl, Nat.le_add_right _ _⟩
   have hlen1 : σ.length = 1 := s.len
   have hsim : Sim fr ro σ [.row t k (l'.map enc)] (sortWorldK enc' k w b (0 * k) n d' os) := by
    have i0 : ∀ {i : Nat} {x : Blk}, ([.row t k (l'.map enc)] : Heap)[i]? = some x → i = 0 ∧ x = .row t k (l'.map enc) := by
     intro i x h
     cases i with
     | zero => simp at h; exact ⟨rfl, h.symm⟩
     | succ i => simp at h
    refine ⟨hlen1, s.roOk.to (fun _ q => q) hev.keepRo (fun c hc => Nat.lt_of_lt_of_le (s.roLt c hc) g3), fun c hc => Nat.lt_of_lt_of_le (s.frLt c hc) g3, s.roFr, fun i c x h1 h2 h3 => ?_, fun i j c x y h1 h2 h3 h4 _ _ => ?_, fun i y x h1 h2 => ?_⟩
    ·obtain ⟨rfl, rfl⟩ := i0 h2
     obtain ⟨p1, p2⟩ := s.own 0 c _ h1 rfl rfl
     exact ⟨Nat.lt_of_lt_of_le p1 g3, p2⟩
    ·rw [(i0 h3).1, (i0 h4).1]
    ·obtain ⟨rfl, rfl⟩ := i0 h2
     rw [q1] at h1
     cases h1
     exact ⟨_, g2, hrl⟩
   exact ⟨_, _, _, ro, [], rfl, ⟨rfl, rfl⟩, by simpa using hsim, ⟨[], rfl, rfl⟩, hev⟩
end Go.Sw
