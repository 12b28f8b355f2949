/- Routes, limits: typing.Course and the reference's Course, in plain Lean. -/
import Derived.Test.YtjikdlekkmifhaaGreatPTv
set_option linter.unusedVariables false
set_option linter.unusedSimpArgs false
namespace Go.Sw
mutual
def hP : Part → Nat
 | ⟨_, _, ps⟩ => bif ps.isEmpty then 0 else 1 + hPs ps
def hPs : List Part → Nat
 | [] => 0
 | p :: r => max (hP p) (hPs r)
end
theorem hP_eq (p : Part) : hP p = bif p.Parts.isEmpty then 0 else 1 + hPs p.Parts := by cases p; rfl
theorem hPs_mem {p : Part} : ∀ {l : List Part}, p ∈ l → hP p ≤ hPs l
 | q :: r, h => by
  simp only [hPs]
  rcases List.mem_cons.1 h with rfl | h
  ·omega
  ·have := hPs_mem h; omega
theorem lenI_eq0 {α : Type} (l : List α) : ((l.length : Int) == 0) = l.isEmpty := by
 cases l <;> simp
 omega
theorem szPs_len : ∀ l : List Part, l.length ≤ szPs l
 | [] => Nat.le_refl _
 | p :: r => by have := szPs_len r; rw [szPs, szP_eq, List.length_cons]; omega
theorem ev_refDepth : ∀ (m : Nat) (l : List Part) (k : Nat), szPs l ≤ m → k ≤ 17 → l.length ≤ 1048576 → (∀ x ∈ l, Part.wf x) → Ev (fun n => F_l n l (k : Int)) ((min (hPs l) k : Nat) : Int) := by
 intro m
 induction m using Nat.strongRecOn with
 | _ m ih =>
 intro l k hm hk hl hw
 refine Ev.succ ?_
 show Ev (fun n => B_l (F_l n) n l (k : Int)) _
 unfold B_l
 have loop : ∀ (r : List Part) (i : Nat) (a : Nat), l.drop i = r → i ≤ l.length → a ≤ k → EvI (fun n => F_ay n l (k : Int) (F_l n)) ((a : Int), (i : Int)) ((max a (min (hPs r) k) : Nat) : Int) := by
  intro r
  induction r with
  | nil =>
   intro i a hr hi ha
   refine EvI.done ?_
   unfold F_ay
   simp only [end_drop hr hi, cond_false, Option.bind_some]
   refine (Ev.pure _).eq ?_
   simp [hPs]
  | cons p r ihr =>
   intro i a hr hi ha0
   obtain ⟨ha, hr'⟩ := At.of_drop (by omega) hr
   obtain ⟨w1, w2⟩ := Part.wf_parts (hw p ha.mem)
   by_cases hk0 : 0 < k
   ·have e1 : IntKind.i64.wrap ((k : Int) - 1) = ((k - 1 : Nat) : Int) := by rw [wrap64 (by omega) (by omega)]; omega
    have hs := szPs_mem ha.mem
    rw [szP_eq] at hs
    have step : Ev (fun n => F_ay n l (k : Int) (F_l n) ((a : Int), (i : Int))) (.cont (((max a (min (hP p) k) : Nat) : Int), ((i + 1 : Nat) : Int))) := by
     unfold F_ay
     simp only [ha.lt, cond_true, decT (show (0 : Int) < (k : Int) by omega), Option.bind_some, ha.ix, ha.nx, e1, bne, lenI_eq0]
     rw [hP_eq]
     cases hp : p.Parts.isEmpty with
     | true =>
      simp only [Bool.not_true, cond_false, Option.bind_some, cond_true, Nat.zero_min, Nat.max_zero]
      exact Ev.pure _
     | false =>
      simp only [Bool.not_false, cond_true, cond_false]
      refine Ev.bind (Ev.bind (ih (szPs p.Parts) (by omega) p.Parts (k - 1) (Nat.le_refl _) (by omega) w1 w2) (Ev.pure _)) ((Ev.pure _).eq ?_)
      have e2 : IntKind.i64.wrap (1 + ((min (hPs p.Parts) (k - 1) : Nat) : Int)) = ((1 + min (hPs p.Parts) (k - 1) : Nat) : Int) := by rw [wrap64 (by omega) (by omega)]; omega
      rw [e2]
      congr 2
      split <;> omega
    refine (EvI.cont step (ihr (i + 1) _ hr' (by have := ha.lt'; omega) (by omega))).eq ?_
    rw [hPs]
    omega
   ·have : k = 0 := by omega
    subst this
    refine EvI.done ?_
    unfold F_ay
    simp only [ha.lt, cond_true, decF (show ¬ (0 : Int) < ((0 : Nat) : Int) by omega), Option.bind_some, cond_false]
    have e0 : max a (min (hPs (p :: r)) 0) = a := by omega
    rw [e0]
    exact Ev.pure _
 refine Ev.bind ((loop l 0 0 rfl (Nat.zero_le _) (Nat.zero_le _)).ev) ((Ev.pure _).eq ?_)
 omega
theorem ev_refCount : ∀ (m : Nat) (l : List Part), szPs l ≤ m → l.length ≤ 1048576 → (∀ x ∈ l, Part.wf x) → Ev (fun n => F_o n l) ((min (szPs l) 257 : Nat) : Int) := by
 intro m
 induction m using Nat.strongRecOn with
 | _ m ih =>
 intro l hm hl hw
 refine Ev.succ ?_
 show Ev (fun n => B_o (F_o n) n l) _
 unfold B_o
 have loop : ∀ (r : List Part) (i : Nat) (a : Nat), l.drop i = r → i ≤ l.length → a ≤ 1048576 → ∃ b : Nat, EvI (fun n => F_ej n l (F_o n)) ((a : Int), (i : Int)) (b : Int) ∧ min b 257 = min (a + (szPs r - r.length)) 257 := by
  intro r
  induction r with
  | nil =>
   intro i a hr hi _
   refine ⟨a, EvI.done ?_, by simp [szPs]⟩
   unfold F_ej
   simp only [end_drop hr hi, cond_false, Option.bind_some]
   exact Ev.pure _
  | cons p r ihr =>
   intro i a hr hi ha0
   obtain ⟨ha, hr'⟩ := At.of_drop (by omega) hr
   obtain ⟨w1, w2⟩ := Part.wf_parts (hw p ha.mem)
   have hs := szPs_mem ha.mem
   rw [szP_eq] at hs
   have hr2 := szPs_len r
   by_cases hlim : a ≤ 256
   ·obtain ⟨b, p1, p2⟩ := ihr (i + 1) (a + min (szPs p.Parts) 257) hr' (by have := ha.lt'; omega) (by omega)
    refine ⟨b, EvI.cont ?_ p1, ?_⟩
    ·unfold F_ej
     simp only [ha.lt, cond_true, decT (show (a : Int) ≤ 256 by omega), Option.bind_some, ha.ix, ha.nx]
     refine Ev.bind (ih (szPs p.Parts) (by omega) p.Parts (Nat.le_refl _) w1 w2) ((Ev.pure _).eq ?_)
     rw [wrap64 (by omega) (by omega)]
     congr 2
     all_goals omega
    ·rw [p2, szPs, szP_eq, List.length_cons]
     omega
   ·refine ⟨a, EvI.done ?_, by omega⟩
    unfold F_ej
    simp only [ha.lt, cond_true, decF (show ¬ (a : Int) ≤ 256 by omega), Option.bind_some, cond_false]
    exact Ev.pure _
 obtain ⟨b, p1, p2⟩ := loop l 0 l.length rfl (Nat.zero_le _) hl
 refine Ev.bind p1.ev ((Ev.pure _).eq ?_)
 have := szPs_len l
 split <;> omega
theorem ev_depth : ∀ (m : Nat) (l : List Part) (k : Nat), szPs l ≤ m → hPs l ≤ k → k ≤ 17 → szPs l ≤ 256 → (∀ x ∈ l, Part.wf x) → Ev (fun n => F_s n l (k : Int)) ((hPs l : Int), (szPs l : Int)) := by
 intro m
 induction m using Nat.strongRecOn with
 | _ m ih =>
 intro l k hm hk hk17 hs256 hw
 have hlen := szPs_len l
 refine Ev.succ ?_
 show Ev (fun n => B_s (F_s n) n l (k : Int)) _
 unfold B_s
 have loop : ∀ (r : List Part) (i : Nat) (a b : Nat), l.drop i = r → i ≤ l.length → a ≤ 17 → b + (szPs r - r.length) ≤ 256 → EvI (fun n => F_dv n l (k : Int) (F_s n)) ((a : Int), (b : Int), (i : Int)) (((max a (hPs r) : Nat) : Int), ((b + (szPs r - r.length) : Nat) : Int)) := by
  intro r
  induction r with
  | nil =>
   intro i a b hr hi _ _
   refine EvI.done ?_
   unfold F_dv
   simp only [end_drop hr hi, cond_false, Option.bind_some]
   refine (Ev.pure _).eq ?_
   simp [hPs, szPs]
  | cons p r ihr =>
   intro i a b hr hi ha0 hb0
   obtain ⟨ha, hr'⟩ := At.of_drop (by omega) hr
   obtain ⟨w1, w2⟩ := Part.wf_parts (hw p ha.mem)
   have hs := szPs_mem ha.mem
   have hh := hPs_mem ha.mem
   rw [szP_eq] at hs
   have hr2 := szPs_len r
   rw [szPs, szP_eq, List.length_cons] at hb0
   have step : Ev (fun n => F_dv n l (k : Int) (F_s n) ((a : Int), (b : Int), (i : Int))) (.cont (((max a (hP p) : Nat) : Int), ((b + szPs p.Parts : Nat) : Int), ((i + 1 : Nat) : Int))) := by
    unfold F_dv
    simp only [ha.lt, cond_true, ha.ix, Option.bind_some, ha.nx, lenI_eq0]
    rw [hP_eq] at hh ⊢
    cases hp : p.Parts.isEmpty with
    | true =>
     have e0 : p.Parts = [] := by simpa using hp
     simp only [cond_true, Option.bind_some]
     rw [e0]
     simp only [szPs, Nat.add_zero, Nat.max_zero]
     exact Ev.pure _
    | false =>
     rw [hp] at hh
     simp only [cond_false] at hh ⊢
     have hk0 : 0 < k := by omega
     have e1 : IntKind.i64.wrap ((k : Int) - 1) = ((k - 1 : Nat) : Int) := by rw [wrap64 (by omega) (by omega)]; omega
     have e2 : ((k : Int) == 0) = false := beq_false_of_ne (by omega)
     rw [e2, decF (show ¬ (256 : Int) < (b : Int) by omega), e1]
     simp only [cond_false, Option.bind_some]
     refine Ev.bind (Ev.bind (ih (szPs p.Parts) (by omega) p.Parts (k - 1) (Nat.le_refl _) (by omega) (by omega) (by omega) w2) (Ev.pure _)) ((Ev.pure _).eq ?_)
     have e3 : IntKind.i64.wrap ((hPs p.Parts : Int) + 1) = ((hPs p.Parts + 1 : Nat) : Int) := wrap_succ (by omega)
     have e4 : IntKind.i64.wrap ((b : Int) + (szPs p.Parts : Int)) = ((b + szPs p.Parts : Nat) : Int) := by rw [wrap64 (by omega) (by omega)]; omega
     simp only [e3, e4]
     congr 2
     split <;> omega
   refine (EvI.cont step (ihr (i + 1) _ _ hr' (by have := ha.lt'; omega) (by omega) (by omega))).eq ?_
   rw [hPs, szPs, szP_eq, List.length_cons]
   congr 1 <;> omega
 refine Ev.bind ((loop l 0 0 l.length rfl (Nat.zero_le _) (by omega) (by omega)).ev) ((Ev.pure _).eq ?_)
 congr 1 <;> omega
def repS : Nat → List Int → List Int → List Int
 | 0, out, _ => out
 | k + 1, out, lap => if 256 < out.length then out else repS k (out ++ lap) lap
mutual
def lapS : Part → List Int
 | ⟨m, laps, ps⟩ => bif decide (0 < laps) then expS [] ps else [m]
def expS : List Int → List Part → List Int
 | out, [] => out
 | out, p :: r => expS (repS (p.Laps.toNat + (bif decide (0 < p.Laps) then 0 else 1)) out (lapS p)) r
end
theorem lapS_eq (p : Part) : lapS p = bif decide (0 < p.Laps) then expS [] p.Parts else [p.Mat] := by cases p; rfl
theorem repS_big {k : Nat} {out lap : List Int} (h : 256 < out.length) : repS k out lap = out := by
 cases k with
 | zero => rfl
 | succ k => rw [repS, if_pos h]
theorem expS_big : ∀ (l : List Part) {out : List Int}, 256 < out.length → expS out l = out
 | [], out, h => by rw [expS]
 | p :: r, out, h => by rw [expS, repS_big h]; exact expS_big r h
theorem repS_len : ∀ (k : Nat) (out lap : List Int), (repS k out lap).length ≤ max out.length (256 + lap.length)
 | 0, out, lap => by rw [repS]; omega
 | k + 1, out, lap => by
  rw [repS]
  split
  ·omega
  ·have := repS_len k (out ++ lap) lap
   rw [List.length_append] at this
   omega
theorem expS_len : ∀ (m : Nat) (l : List Part) (out : List Int), szPs l ≤ m → (expS out l).length ≤ max out.length (256 + 257 * szPs l) := by
 intro m
 induction m using Nat.strongRecOn with
 | _ m ih =>
 intro l
 have lapL : ∀ p ∈ l, szPs l ≤ m → (lapS p).length ≤ 257 * szP p := by
  intro p hp hm
  have hs := szPs_mem hp
  rw [lapS_eq, szP_eq] at *
  cases decide (0 < p.Laps) with
  | true =>
   have := ih (szPs p.Parts) (by omega) p.Parts [] (Nat.le_refl _)
   simp only [cond_true, List.length_nil] at this ⊢
   omega
  | false => simp; omega
 have gen : ∀ (r : List Part) (out : List Int), (∀ p ∈ r, (lapS p).length ≤ 257 * szP p) → (expS out r).length ≤ max out.length (256 + 257 * szPs r) := by
  intro r
  induction r with
  | nil => intro out _; rw [expS]; omega
  | cons p r ihr =>
   intro out hl
   rw [expS, szPs]
   have h1 := ihr (repS (p.Laps.toNat + (bif decide (0 < p.Laps) then 0 else 1)) out (lapS p)) fun q hq => hl q (by simp [hq])
   have h2 := repS_len (p.Laps.toNat + (bif decide (0 < p.Laps) then 0 else 1)) out (lapS p)
   have h3 := hl p (by simp)
   omega
 intro out hm
 exact gen l out fun p hp => lapL p hp hm
theorem lapS_len (p : Part) : (lapS p).length ≤ 257 * szP p := by
 rw [lapS_eq, szP_eq]
 cases decide (0 < p.Laps) with
 | true =>
  have := expS_len _ p.Parts [] (Nat.le_refl _)
  simp only [cond_true, List.length_nil] at this ⊢
  omega
 | false => simp; omega
theorem ev_expand (kk : Int) : ∀ (m : Nat) (l : List Part), szPs l ≤ m → szPs l ≤ 256 → l.length ≤ 1048576 → (∀ x ∈ l, Part.wf x) → partsS kk l = true → Ev (fun n => F_r n l) (expS [] l) := by
 intro m
 induction m using Nat.strongRecOn with
 | _ m ih =>
 intro l hm hs256 hl hw hv
 rw [partsS_eq, List.all_eq_true] at hv
 refine Ev.succ ?_
 show Ev (fun n => B_r (F_r n) n l) _
 unfold B_r
 have inner : ∀ (p : Part) (lap : List Int) (hp : p.Laps = 0 ∨ 0 < p.Laps ∧ p.Laps ≤ 64) (hlap : lap.length ≤ 100000) (j : Nat) (k : Nat) (out : List Int), j + k = p.Laps.toNat + (bif decide (0 < p.Laps) then 0 else 1) → out.length ≤ 200000 →
   ∃ res : Ctl (List Int) (Ctl ((List Int) × Int) (Ctl (List Int) (List Int))), EvI (fun n => F_fi n p lap) (out, (j : Int)) res ∧
    (res = .cont (repS k out lap) ∨ (256 < (repS k out lap).length ∧ res = .done (.done (.done (repS k out lap))))) := by
  intro p lap hp hlap j k
  induction k generalizing j with
  | zero =>
   intro out hj _
   refine ⟨_, EvI.done (b := .cont out) ?_, .inl rfl⟩
   unfold F_fi
   have : ¬ ((j : Int) < if p.Laps < 1 then 1 else p.Laps) := by
    rcases hp with h | ⟨h, h'⟩
    ·rw [h] at hj ⊢; simp at hj ⊢; omega
    ·rw [decT h] at hj; simp at hj; rw [if_neg (by omega)]; omega
   rw [decF this]
   exact Ev.pure _
  | succ k ihk =>
   intro out hj hout
   have hlt : ((j : Int) < if p.Laps < 1 then 1 else p.Laps) := by
    rcases hp with h | ⟨h, h'⟩
    ·rw [h] at hj ⊢; simp at hj ⊢; omega
    ·rw [decT h] at hj; simp at hj; rw [if_neg (by omega)]; omega
   have hj64 : j ≤ 64 := by
    rcases hp with h | ⟨h, h'⟩
    ·rw [h] at hj; simp at hj; omega
    ·rw [decT h] at hj; simp at hj; omega
   by_cases hb : 256 < out.length
   ·refine ⟨_, EvI.done (b := .done (.done (.done out))) ?_, .inr ⟨by rw [repS_big hb]; exact hb, by rw [repS_big hb]⟩⟩
    unfold F_fi
    rw [decT hlt, decT (show (256 : Int) < (out.length : Int) by omega)]
    exact Ev.pure _
   ·obtain ⟨res, p1, p2⟩ := ihk (j + 1) (out ++ lap) (by omega) (by rw [List.length_append]; omega)
    refine ⟨res, EvI.cont ?_ p1, by rw [repS, if_neg hb]; exact p2⟩
    unfold F_fi
    rw [decT hlt, decF (show ¬ (256 : Int) < (out.length : Int) by omega)]
    refine Ev.tt (Ev.ff (Ev.bind0 (app_some out lap (by omega)) ?_))
    rw [wrap_succ (by omega)]
    exact Ev.pure _
 have loop : ∀ (r : List Part) (i : Nat) (out : List Int), l.drop i = r → i ≤ l.length → out.length ≤ 100000 →
   ∃ res : Ctl (List Int) (List Int), EvI (fun n => F_dq n l (F_r n)) (out, (i : Int)) res ∧ (res = .cont (expS out r) ∨ res = .done (expS out r)) := by
  intro r
  induction r with
  | nil =>
   intro i out hr hi _
   refine ⟨.cont out, EvI.done ?_, .inl (by rw [expS])⟩
   unfold F_dq
   simp only [end_drop hr hi, cond_false]
   exact Ev.pure _
  | cons p r ihr =>
   intro i out hr hi hout
   obtain ⟨ha, hr'⟩ := At.of_drop (by omega) hr
   have hlt := ha.lt'
   have hs := szPs_mem ha.mem
   obtain ⟨w1, w2⟩ := Part.wf_parts (hw p ha.mem)
   have hp := hv p ha.mem
   rw [partS_eq] at hp
   have hlaps : p.Laps = 0 ∨ 0 < p.Laps ∧ p.Laps ≤ 64 := by
    cases h0 : (p.Laps == 0) with
    | true => exact .inl (by simpa using h0)
    | false =>
     rw [h0] at hp
     simp only [cond_false, inR, Bool.and_eq_true, decide_eq_true_eq] at hp
     exact .inr ⟨by omega, by omega⟩
   have hll := lapS_len p
   have hb : Ev (fun n => ((bif decide (0 < p.Laps) then (F_r n p.Parts).bind fun r62 => some r62 else some [p.Mat]) : Option (List Int))) (lapS p) := by
    rw [lapS_eq]
    refine Ev.bif (fun h => ?_) (fun _ => Ev.pure _)
    rw [szP_eq] at hs
    refine Ev.bind (ih (szPs p.Parts) (by omega) p.Parts (Nat.le_refl _) (by omega) w1 w2 ?_) (Ev.pure _)
    have : (p.Laps == 0) = false := by
     simp only [decide_eq_true_eq] at h
     exact beq_false_of_ne (by omega)
    rw [this] at hp
    simp only [cond_false, Bool.and_eq_true] at hp
    exact hp.2.2.2
   obtain ⟨res, p1, p2⟩ := inner p (lapS p) hlaps (by omega) 0 _ out (Nat.zero_add _) (by omega)
   rw [expS]
   rcases p2 with rfl | ⟨hbig, rfl⟩
   ·obtain ⟨res2, q1, q2⟩ := ihr (i + 1) (repS (p.Laps.toNat + (bif decide (0 < p.Laps) then 0 else 1)) out (lapS p)) hr' (by omega) (by
     have := repS_len (p.Laps.toNat + (bif decide (0 < p.Laps) then 0 else 1)) out (lapS p)
     omega)
    refine ⟨res2, EvI.cont ?_ q1, q2⟩
    unfold F_dq
    simp only [ha.lt, cond_true, ha.ix, Option.bind_some, ha.nx]
    exact Ev.bind hb (Ev.bind p1.ev (Ev.pure _))
   ·refine ⟨.done (repS (p.Laps.toNat + (bif decide (0 < p.Laps) then 0 else 1)) out (lapS p)), EvI.done ?_, .inr (by rw [expS_big r hbig])⟩
    unfold F_dq
    simp only [ha.lt, cond_true, ha.ix, Option.bind_some, ha.nx]
    exact Ev.bind hb (Ev.bind p1.ev (Ev.pure _))
 obtain ⟨res, p1, p2⟩ := loop l 0 [] rfl (Nat.zero_le _) (by simp)
 rcases p2 with rfl | rfl
 ·exact Ev.bind p1.ev (Ev.pure _)
 ·exact Ev.bind p1.ev (Ev.pure _)
theorem ev_refExpand (kk : Int) : ∀ (m : Nat) (l : List Part), szPs l ≤ m → szPs l ≤ 256 → l.length ≤ 1048576 → (∀ x ∈ l, Part.wf x) → partsS kk l = true → Ev (fun n => F_v n l) (expS [] l) := by
 intro m
 induction m using Nat.strongRecOn with
 | _ m ih =>
 intro l hm hs256 hl hw hv
 rw [partsS_eq, List.all_eq_true] at hv
 refine Ev.succ ?_
 show Ev (fun n => B_v (F_v n) n l) _
 unfold B_v
 have inner : ∀ (p : Part) (i : Nat) (ha : At l i p) (o0 : List Int) (lap : List Int) (hp : 0 < p.Laps ∧ p.Laps ≤ 64) (hlap : lap.length ≤ 100000) (j : Nat) (k : Nat) (out : List Int), j + k = p.Laps.toNat → out.length ≤ 200000 →
   EvI (fun n => F_eb n l (o0, (i : Int)) lap) (out, (j : Int)) (repS k out lap) := by
  intro p i ha o0 lap hp hlap j k
  induction k generalizing j with
  | zero =>
   intro out hj _
   refine EvI.done ?_
   unfold F_eb
   simp only [ha.ix, Option.bind_some]
   rw [decF (show ¬ (j : Int) < p.Laps by omega)]
   exact Ev.pure _
  | succ k ihk =>
   intro out hj hout
   by_cases hb : 256 < out.length
   ·refine EvI.done ?_
    rw [repS_big hb]
    unfold F_eb
    simp only [ha.ix, Option.bind_some]
    rw [decT (show (j : Int) < p.Laps by omega), decF (show ¬ (out.length : Int) ≤ 256 by omega)]
    exact Ev.pure _
   ·rw [repS, if_neg hb]
    refine EvI.cont ?_ (ihk (j + 1) (out ++ lap) (by omega) (by rw [List.length_append]; omega))
    unfold F_eb
    simp only [ha.ix, Option.bind_some]
    rw [decT (show (j : Int) < p.Laps by omega), decT (show (out.length : Int) ≤ 256 by omega)]
    simp only [cond_true, Option.bind_some]
    refine Ev.bind0 (app_some out lap (by omega)) ?_
    rw [wrap_succ (by omega)]
    exact Ev.pure _
 have loop : ∀ (r : List Part) (i : Nat) (out : List Int), l.drop i = r → i ≤ l.length → out.length ≤ 100000 →
   EvI (fun n => F_ff n l (F_v n)) (out, (i : Int)) (expS out r) := by
  intro r
  induction r with
  | nil =>
   intro i out hr hi _
   refine EvI.done ?_
   rw [expS]
   unfold F_ff
   simp only [end_drop hr hi, cond_false, Option.bind_some]
   exact Ev.pure _
  | cons p r ihr =>
   intro i out hr hi hout
   obtain ⟨ha, hr'⟩ := At.of_drop (by omega) hr
   have hlt := ha.lt'
   have hs := szPs_mem ha.mem
   by_cases hb : 256 < out.length
   ·rw [expS_big _ hb]
    refine EvI.done ?_
    unfold F_ff
    simp only [ha.lt, cond_true, decF (show ¬ (out.length : Int) ≤ 256 by omega), Option.bind_some, cond_false]
    exact Ev.pure _
   obtain ⟨w1, w2⟩ := Part.wf_parts (hw p ha.mem)
   have hp := hv p ha.mem
   rw [partS_eq] at hp
   have hll := lapS_len p
   rw [expS]
   refine EvI.cont ?_ (ihr (i + 1) _ hr' (by omega) (by
    have := repS_len (p.Laps.toNat + (bif decide (0 < p.Laps) then 0 else 1)) out (lapS p)
    omega))
   unfold F_ff
   simp only [ha.lt, cond_true, decT (show (out.length : Int) ≤ 256 by omega), Option.bind_some, ha.ix, ha.nx]
   cases h0 : (p.Laps == 0) with
   | true =>
    have e0 : p.Laps = 0 := by simpa using h0
    simp only [cond_true]
    refine Ev.bind (Ev.bind0 (app_some out [p.Mat] (by simp; omega)) (Ev.pure _)) ((Ev.pure _).eq ?_)
    rw [lapS_eq, e0]
    simp [repS, hb]
   | false =>
    rw [h0] at hp
    simp only [cond_false, Bool.and_eq_true, inR, decide_eq_true_eq] at hp
    have hlaps : 0 < p.Laps ∧ p.Laps ≤ 64 := ⟨by omega, by omega⟩
    simp only [cond_false]
    rw [szP_eq] at hs
    refine Ev.bind (Ev.bind (ih (szPs p.Parts) (by omega) p.Parts (Nat.le_refl _) (by omega) w1 w2 hp.2.2.2) (Ev.bind ?_ (Ev.pure _))) (Ev.pure _)
    have hL := lapS_eq p
    rw [decT hlaps.1, cond_true] at hL
    have := (inner p i ha out (expS [] p.Parts) hlaps (by rw [← hL]; rw [szP_eq] at hll; omega) 0 p.Laps.toNat out (by omega) (by omega)).ev
    rw [← hL] at this ⊢
    rw [decT hlaps.1]
    exact this
 exact Ev.bind (loop l 0 [] rfl (Nat.zero_le _) (by simp)).ev (Ev.pure _)
end Go.Sw
