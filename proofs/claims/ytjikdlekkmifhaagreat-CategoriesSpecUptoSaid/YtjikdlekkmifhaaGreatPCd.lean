/- What a well-formed course is, for the plain laws. -/
import Derived.Test.YtjikdlekkmifhaaGreatPCc
set_option linter.unusedVariables false
set_option linter.unusedSimpArgs false
namespace Go.Sw
theorem CourseOk.of {c : Course} (h : Course.wf c) : CourseOk c := by
 obtain ⟨h1, ⟨h2, k2⟩, ⟨h3, k3⟩, ⟨h4, k4⟩, ⟨h5, k5⟩, ⟨h6, k6⟩, ⟨h7, k7⟩, ⟨h8, k8⟩, _⟩ := h
 exact ⟨h1, h2, fun x hx => (k2 x hx).1, h3, h4, fun x hx => (k4 x hx).1, fun x hx => (k4 x hx).2.2.2.1.1, h5, fun x hx => (k5 x hx).1, h6, fun x hx => (k6 x hx).1, h7, fun x hx => (k7 x hx).1, h8⟩
theorem PartsOk.of {c : Course} (h : Course.wf c) : PartsOk c := by
 obtain ⟨_, _, _, ⟨h4, k4⟩, _⟩ := h
 exact ⟨fun d hd => (k4 d hd).2.1.1, fun d hd => (k4 d hd).2.1.2⟩
theorem ties_of {c : Course} (h : Course.wf c) : c.Ties.length ≤ 1048576 ∧ ∀ x ∈ c.Ties, Step.wf x := by
 obtain ⟨_, _, _, _, _, _, _, _, h9, _⟩ := h
 exact h9
theorem few_law {c : Course} {st : List Starter} (w0 : Course.wf c) (w1 : st.length ≤ 1048576) {rest : Nat → Option Bool}
  (h : CourseOk c → PartsOk c → FewOk c → c.Distances.length ≤ 10 → c.Categories.length ≤ 40 → st.length ≤ 20 → Ev rest true) :
  Ev (fun n => ((F_ar n c).bind fun r8 => (bif (!r8) then some true else (F_aq n c st).bind fun r10 => some (!r10)) : Option Bool).bind fun b6 => (bif b6 then some true else rest n)) true := by
 have w := CourseOk.of w0
 have q := PartsOk.of w0
 obtain ⟨t1, t2⟩ := ties_of w0
 obtain ⟨b, p1, p2⟩ := ev_FewCourse c w q t1 t2
 refine Ev.bind (Ev.bind p1 (Ev.or fun _ => Ev.bind (ev_Few29 c st) (Ev.pure _))) ?_
 cases b with
 | false => exact Ev.pure _
 | true =>
  cases hf : few29 c st with
  | false => exact Ev.pure _
  | true =>
   unfold few29 at hf
   simp only [Bool.and_eq_true, decide_eq_true_eq] at hf
   exact Ev.ff (h w q (p2 rfl) (by omega) (by omega) (by omega))
end Go.Sw
