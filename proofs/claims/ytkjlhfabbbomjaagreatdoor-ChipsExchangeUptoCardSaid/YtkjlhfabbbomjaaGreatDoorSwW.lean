/- Reading the arguments of a statement: data laid in memory as typed values. -/
import Derived.Test.YtkjlhfabbbomjaaGreatDoorSwV
import Derived.Below
import GoSem.ClaimChange
set_option linter.unusedVariables false
set_option linter.unusedSectionVars false
set_option linter.unusedSimpArgs false
namespace Go.Sw
def IsInt (k : IntKind) (n : Int) : Prop := k.min ≤ n ∧ n ≤ k.max
def allOf (w : World) : Nat → Prop := fun b => b < w.heap.size
structure Meas {H : Type} (μ : DataW H → Nat) : Prop where
 str : ∀ bytes, bytes.length ≤ μ (.lit (.string bytes))
 sl : ∀ e s, e.length ≤ μ (.slice e s)
 sle : ∀ e s, ∀ d ∈ e, μ d ≤ μ (.slice e s)
 ag : ∀ ps, ∀ d ∈ ps, μ d ≤ μ (.agg ps)
def RB (P : Program) (n : Nat) (t : TypeId) (T : Type) (e : T → List A) (wf : T → Prop) : Prop :=
 ∀ (H : Type) (enc : TypeId × Value → H) (w : World) (base : Nat) (spare : Nat → Bool) (held : Bool) (m : Nat) (cs : List Value) d, m < n → DataW.trod enc P w base spare held m t cs = some d →
  ∀ μ : DataW H → Nat, Meas μ → μ d.1 ≤ 1048576 → ∃ x : T, wf x ∧ LR (allOf w) [] w (e x) cs ∧ ∀ v ∈ cs, plainV v
section
variable {P : Program} {n : Nat} {t : TypeId} {T : Type} {e : T → List A} {wf : T → Prop}
theorem RB.down (h : RB P (n + 1) t T e wf) : RB P n t T e wf := fun H enc w base spare held m cs d hm => h H enc w base spare held m cs d (Nat.lt_succ_of_lt hm)
theorem RB.conv {T' : Type} {e' : T' → List A} {wf' : T' → Prop} (h : RB P n t T e wf) (g : T → T') (he : ∀ x, e' (g x) = e x) (hw : ∀ x, wf x → wf' (g x)) : RB P n t T' e' wf' := by
 intro H enc w base spare held m cs d hm hd μ hμ hwt
 obtain ⟨x, h1, h2, h3⟩ := h H enc w base spare held m cs d hm hd μ hμ hwt
 exact ⟨g x, hw x h1, by rw [he]; exact h2, h3⟩
theorem RB.int {k : IntKind} (hu : P.underlying t = some (.int k)) : RB P n t Int (encI k) (IsInt k) := by
 intro H enc w base spare held m cs d hm hd μ hμ hwt
 cases m with
 | zero => simp [DataW.trod] at hd
 | succ m =>
  rcases cs with _ | ⟨v, _ | ⟨v2, r⟩⟩
  ·simp [DataW.trod, hu] at hd
  ·cases v <;> simp [DataW.trod, hu] at hd
   rename_i k' n'
   obtain ⟨⟨rfl, hw⟩, _⟩ := hd
   refine ⟨n', ?_, ⟨_, _, rfl, rfl, rfl⟩, by simp [plainV]⟩
   simpa [Lit.wf, IsInt] using hw
  ·simp [DataW.trod, hu] at hd
theorem RB.bool (hu : P.underlying t = some .bool) : RB P n t Bool encB (fun _ => True) := by
 intro H enc w base spare held m cs d hm hd μ hμ hwt
 cases m with
 | zero => simp [DataW.trod] at hd
 | succ m =>
  rcases cs with _ | ⟨v, _ | ⟨v2, r⟩⟩
  ·simp [DataW.trod, hu] at hd
  ·cases v <;> simp [DataW.trod, hu] at hd
   rename_i b
   exact ⟨b, trivial, ⟨_, _, rfl, rfl, rfl⟩, by simp [plainV]⟩
  ·simp [DataW.trod, hu] at hd
theorem RB.string (hu : P.underlying t = some .string) : RB P n t (List UInt8) encS (fun s => s.length ≤ 1048576) := by
 intro H enc w base spare held m cs d hm hd μ hμ hwt
 cases m with
 | zero => simp [DataW.trod] at hd
 | succ m =>
  rcases cs with _ | ⟨v, _ | ⟨v2, r⟩⟩
  ·simp [DataW.trod, hu] at hd
  ·cases v <;> simp [DataW.trod, hu] at hd
   rename_i s
   obtain ⟨_, rfl⟩ := hd
   exact ⟨s.data.toList, Nat.le_trans (hμ.str _) hwt, ⟨_, _, rfl, rfl, rfl⟩, by simp [plainV]⟩
  ·simp [DataW.trod, hu] at hd
theorem mapM_range {α : Type} {f : Nat → Option α} : ∀ {n : Nat} {l : List α}, (List.range n).mapM f = some l → l.length = n ∧ ∀ i, i < n → ∃ y, f i = some y ∧ l[i]? = some y
 | 0, l, h => by simp at h; subst h; exact ⟨rfl, fun i hi => absurd hi (Nat.not_lt_zero _)⟩
 | n + 1, l, h => by
  rw [List.range_succ, List.mapM_append] at h
  cases h1 : (List.range n).mapM f with
  | none => simp [h1] at h
  | some l1 =>
   cases h2 : f n with
   | none => simp [h1, h2] at h
   | some y =>
    simp [h1, h2] at h
    subst h
    obtain ⟨e1, e2⟩ := mapM_range h1
    refine ⟨by simp [e1], fun i hi => ?_⟩
    rcases Nat.lt_succ_iff_lt_or_eq.1 hi with q | rfl
    ·obtain ⟨z, z1, z2⟩ := e2 i q
     exact ⟨z, z1, by rw [List.getElem?_append_left (by omega)]; exact z2⟩
    ·exact ⟨y, h2, by rw [List.getElem?_append_right (by omega)]; simp [e1]⟩
theorem CR.of_cells {w : World} {ro : Nat → Prop} {b : Nat} : ∀ {cs : List A} {l : List Value} {off : Nat}, LR ro [] w cs l → (∀ v ∈ l, plainV v) → (∀ i, i < l.length → w.cell? ⟨b, off + i, none⟩ = l[i]?) → CR ro [] w b cs off
 | [], _, _, _, _, _ => trivial
 | a :: cs, l, off, h, hp, hc => by
  obtain ⟨v, l', rfl, h1, h2⟩ := h
  refine ⟨⟨v, by simpa using hc 0 (by simp), hp v (by simp), h1⟩, CR.of_cells h2 (fun v hv => hp v (by simp [hv])) fun i hi => ?_⟩
  have := hc (i + 1) (by simpa using hi)
  rw [show off + 1 + i = off + (i + 1) by omega, this]
  simp
theorem RB.slice {E : TypeId} {k : Nat} {s : TypeId} (hu : P.underlying s = some (.slice E)) (hk : P.cellsOf E = k) (h0 : Nat.blt 0 k = true) (hl : ∀ x, (e x).length = k) (h : RB P n E T e wf) :
  RB P (n + 1) s (List T) (encL k e) (fun l => l.length ≤ 1048576 ∧ ∀ x ∈ l, wf x) := by
 intro H enc w base spare held m cs d hm hd μ hμ hwt
 have k0 : 0 < k := by simpa using h0
 cases m with
 | zero => simp [DataW.trod] at hd
 | succ m =>
  rcases cs with _ | ⟨v, _ | ⟨v2, r⟩⟩
  ·simp [DataW.trod, hu] at hd
  ·cases v <;> try (simp [DataW.trod, hu] at hd; done)
   rename_i a len cap
   cases a with
   | none =>
    rcases len with _ | len
    ·rcases cap with _ | cap
     ·refine ⟨[], ⟨by simp, by simp⟩, ⟨_, _, rfl, ⟨none, 0, rfl, Nat.le_refl _, .inl rfl⟩, rfl⟩, by simp [plainV]⟩
     ·simp [DataW.trod, hu] at hd
    ·simp [DataW.trod, hu] at hd
   | some a =>
    simp only [DataW.trod, hu] at hd
    split at hd
    ·rename_i hc
     obtain ⟨c1, c2, c3⟩ := hc
     cases hm1 : (List.range len).mapM (fun i => (w.cells? base (a.add (i * P.cellsOf E)) (P.cellsOf E)).bind (DataW.trod enc P w base spare held m E)) with
     | none => rw [hm1] at hd; cases hd
     | some elems =>
      rw [hm1] at hd
      simp only [Option.bind_some, Option.map_eq_some_iff] at hd
      obtain ⟨rest, _, rfl⟩ := hd
      have hlen0 : elems.length ≤ 1048576 := by
       have h1 := hμ.sl (elems.map (·.1)) (rest.map (·.1))
       rw [List.length_map] at h1
       exact Nat.le_trans h1 hwt
      have hwA : ∀ y ∈ elems, μ y.1 ≤ 1048576 := fun y hy => Nat.le_trans (hμ.sle _ (rest.map (·.1)) _ (List.mem_map_of_mem hy)) hwt
      obtain ⟨e1, e2⟩ := mapM_range hm1
      have raw : ∀ i, i < len → ∃ (x : T) (l : List Value), wf x ∧ LR (allOf w) [] w (e x) l ∧ (∀ v ∈ l, plainV v) ∧ l.length = k ∧ ∀ j, j < k → w.cell? ((a.add (i * k)).add j) = l[j]? := by
       intro i hi
       obtain ⟨y, y1, y2⟩ := e2 i hi
       rw [hk] at y1
       cases hcs : w.cells? base (a.add (i * k)) k with
       | none => rw [hcs] at y1; cases y1
       | some l =>
        rw [hcs] at y1
        obtain ⟨x, x1, x2, x3⟩ := h H enc w base spare held m l y (by omega) y1 μ hμ (hwA y (List.mem_of_getElem? y2))
        refine ⟨x, l, x1, x2, x3, by rw [x2.length]; exact hl x, fun j hj => ?_⟩
        unfold World.cells? at hcs
        split at hcs
        ·obtain ⟨_, z2⟩ := mapM_range hcs
         obtain ⟨v, v1, v2⟩ := z2 j hj
         rw [v2, ← v1]
        ·cases hcs
      by_cases hlen : len = 0
      ·subst hlen
       exact ⟨[], ⟨by simp, by simp⟩, ⟨_, _, rfl, ⟨some a, cap, rfl, Nat.zero_le _, .inl rfl⟩, rfl⟩, by simp [plainV]⟩
      ·have first : a.spot = none ∧ a.block < w.heap.size := by
        obtain ⟨x', l, p1, p2, p3, p4, p5⟩ := raw 0 (by omega)
        have h5 := p5 0 k0
        have hl0 : l[0]? = some l[0] := List.getElem?_eq_getElem (by omega)
        have ea : (a.add (0 * k)).add 0 = a := by simp [Addr.add]
        rw [hl0, ea] at h5
        unfold World.cell? at h5
        split at h5
        ·rename_i hh
         constructor
         ·cases q : a.spot with
          | none => rfl
          | some z => simp [q] at h5
         ·exact (Array.getElem?_eq_some_iff.1 hh).1
        ·cases h5
       obtain ⟨hsp, hb⟩ := first
       have hadd : ∀ n, a.add n = ⟨a.block, a.off + n, none⟩ := by
        intro n
        cases a
        simp only at hsp
        subst hsp
        unfold Addr.add
        split
        ·rename_i q; subst q; rfl
        ·rfl
       have hadd2 : ∀ (b o n : Nat), (⟨b, o, none⟩ : Addr).add n = ⟨b, o + n, none⟩ := by
        intro b o n
        unfold Addr.add
        split
        ·rename_i q; subst q; rfl
        ·rfl
       have pick : ∀ q i, len - i = q → i ≤ len → ∃ xs : List T, xs.length = len - i ∧ (∀ x ∈ xs, wf x) ∧ RR (allOf w) [] w a.block k (xs.map e) (a.off + i * k) := by
        intro q
        induction q with
        | zero => intro i hq hi; exact ⟨[], by simp [hq], by simp, trivial⟩
        | succ q ih =>
         intro i hq hi
         obtain ⟨xs, w1, w2, w4⟩ := ih (i + 1) (by omega) (by omega)
         obtain ⟨x, l, p1, p2, p3, p4, p5⟩ := raw i (by omega)
         refine ⟨x :: xs, by simp [w1]; omega, by intro y hy; rcases List.mem_cons.1 hy with rfl | hy; exact p1; exact w2 y hy, hl x, ?_, ?_⟩
         ·refine CR.of_cells p2 p3 fun j hj => ?_
          have h5 := p5 j (by omega)
          rw [hadd, hadd2] at h5
          exact h5
         ·rw [Nat.succ_mul, ← Nat.add_assoc] at w4
          exact w4
       obtain ⟨xs, w1, w2, w4⟩ := pick len 0 (by omega) (Nat.zero_le _)
       rw [Nat.zero_mul, Nat.add_zero] at w4
       rw [Nat.sub_zero] at w1
       refine ⟨xs, ⟨by rw [w1, ← e1]; exact hlen0, w2⟩, ⟨_, _, rfl, ⟨some a, cap, by simp [w1], by simp [w1]; exact c2, .inr ⟨a.block, a.off, ?_, hb, w4⟩⟩, rfl⟩, by simp [plainV]⟩
       cases a
       simp only at hsp
       subst hsp; rfl
    ·cases hd
  ·simp [DataW.trod, hu] at hd
def RF (P : Program) (n : Nat) (fs : List Field) (off L : Nat) (T : Type) (e : T → List A) (wf : T → Prop) : Prop :=
 ∀ (H : Type) (enc : TypeId × Value → H) (w : World) (base : Nat) (spare : Nat → Bool) (held : Bool) (m : Nat) (cs : List Value) ds, m < n → cs.length = L →
  fs.mapM (fun f => DataW.trod enc P w base spare held m f.type ((cs.drop f.offset).take (P.cellsOf f.type))) = some ds →
  ∀ μ : DataW H → Nat, Meas μ → (∀ y ∈ ds, μ y.1 ≤ 1048576) → ∃ x : T, wf x ∧ LR (allOf w) [] w (e x) (cs.drop off) ∧ ∀ v ∈ cs.drop off, plainV v
theorem RF.nil {L : Nat} : RF P n [] L L Unit (fun _ => []) (fun _ => True) := by
 intro H enc w base spare held m cs ds hm hl hd μ hμ hwt
 have : cs.drop L = [] := List.drop_eq_nil_of_le (by omega)
 rw [this]
 exact ⟨(), trivial, rfl, by simp⟩
theorem RF.cons {f : Field} {fs : List Field} {off L k : Nat} {T2 : Type} {e2 : T2 → List A} {wf2 : T2 → Prop} (ho : f.offset = off) (hk : P.cellsOf f.type = k) (h : RB P n f.type T e wf) (r : RF P n fs (off + k) L T2 e2 wf2) :
  RF P n (f :: fs) off L (T × T2) (fun p => e p.1 ++ e2 p.2) (fun p => wf p.1 ∧ wf2 p.2) := by
 intro H enc w base spare held m cs ds hm hl hd μ hμ hwt
 rw [List.mapM_cons] at hd
 cases h1 : DataW.trod enc P w base spare held m f.type ((cs.drop f.offset).take (P.cellsOf f.type)) with
 | none => simp [h1] at hd
 | some d =>
  cases h2 : fs.mapM (fun f => DataW.trod enc P w base spare held m f.type ((cs.drop f.offset).take (P.cellsOf f.type))) with
  | none => simp [h1, h2] at hd
  | some ds' =>
   have hds : ds = d :: ds' := by
    rw [h1, h2] at hd
    exact (Option.some.inj hd).symm
   subst hds
   rw [ho, hk] at h1
   obtain ⟨x, x1, x2, x3⟩ := h H enc w base spare held m _ d hm h1 μ hμ (hwt d (by simp))
   obtain ⟨y, y1, y2, y3⟩ := r H enc w base spare held m cs ds' hm hl h2 μ hμ (fun y hy => hwt y (by simp [hy]))
   have hsp : cs.drop off = (cs.drop off).take k ++ cs.drop (off + k) := by rw [← List.drop_drop, List.take_append_drop]
   refine ⟨(x, y), ⟨x1, y1⟩, by rw [hsp]; exact x2.append y2, ?_⟩
   rw [hsp]
   intro v hv
   rcases List.mem_append.1 hv with q | q
   ·exact x3 v q
   ·exact y3 v q
theorem RB.struct {fs : Array Field} {L : Nat} (hu : P.underlying t = some (.struct fs)) (hL : P.cellsOf t = L) (h : RF P n fs.toList 0 L T e wf) : RB P (n + 1) t T e wf := by
 intro H enc w base spare held m cs d hm hd μ hμ hwt
 cases m with
 | zero => simp [DataW.trod] at hd
 | succ m =>
  unfold DataW.trod at hd
  simp only [hu] at hd
  split at hd
  ·rename_i hc
   cases h1 : fs.toList.mapM (fun f => DataW.trod enc P w base spare held m f.type ((cs.drop f.offset).take (P.cellsOf f.type))) with
   | none => rw [h1] at hd; cases hd
   | some ds =>
    rw [h1] at hd
    simp only [Option.map_some, Option.some.injEq] at hd
    subst hd
    have := h H enc w base spare held m cs ds (by omega) (by rw [hc, hL]) h1 μ hμ (fun y hy => Nat.le_trans (hμ.ag _ _ (List.mem_map_of_mem hy)) hwt)
    simpa using this
  ·cases hd
end
theorem C.law {P : Program} {f : FuncId} {args : List A} {W : World} {vals : List Value} (h : C P f args [] (fun a H => a = .bool true ∧ H = [])) (hl : LR (allOf W) [] W args vals) (hgp : GP W) :
  Calls P f vals.toArray W fun e W' => e = .returned (.bool true) ∧ Go.RowKit.Below W.heap.size W W' := by
 have s : Sim (fun _ => False) (allOf W) [] [] W :=
  ⟨rfl, ⟨fun _ h => h, fun b hb => hgp.size b hb, hgp⟩, fun _ h => h.elim, fun _ _ h => h, fun i b x h => by simp at h, fun i j b x y h => by simp at h, fun i y x h => by simp at h⟩
 refine (h _ _ _ _ W s hl).mono ?_
 rintro e W' ⟨v, r, H', ro', τ, rfl, ⟨rfl, rfl⟩, _, hv, ev⟩
 exact ⟨by rw [show v = .bool true from hv], ⟨ev.os, ev.tape, ev.output, ev.size, fun k hk => ev.keepRo k hk⟩⟩
theorem readSlice {P : Program} {W : World} {t : TypeId} {a : Option Addr} {len cap : Nat} {T : Type} {e : T → List A} {k : Nat} {wf : List T → Prop} {H : Type} {enc : TypeId × Value → H} {base : Nat} {spare : Nat → Bool} {held : Bool} {d : DataW H} {ps : List MemPlace}
  (h : ∀ n, RB P n t (List T) (encL k e) wf) (ht : DataW.Trod enc P W base spare held t (.slice a len cap) d ps) {μ : DataW H → Nat} (hμ : Meas μ) (hwt : μ d ≤ 1048576) : ∃ x : List T, wf x ∧ VR (allOf W) [] W (.rsl k (x.map e)) (.slice a len cap) := by
 obtain ⟨m, hm⟩ := ht
 obtain ⟨x, h1, ⟨v, l', h2, h3, h4⟩, _⟩ := h (m + 1) H enc W base spare held m _ _ (Nat.lt_succ_self _) hm μ hμ hwt
 refine ⟨x, h1, ?_⟩
 have : (Value.slice a len cap).cells.toList = [.slice a len cap] := rfl
 rw [this] at h2
 cases h2
 exact h3
theorem shaped_int {P : Program} {W : World} (h : W.ShapedOpen P) {g t u : Nat} {z : Value} (hg : Nat.blt g P.globals.size = true) (h1 : (((begin P (fun _ _ => 0) default).world.heap[g]?).bind Obj.row?) = some (#[z], t))
  (hb : P.buildable t = true) (hc : P.cellTypes P.depth t = some [u]) (hu : P.underlying u = some (.int .i64)) : ∃ m : Int, W.cell? ⟨g, 0, none⟩ = some (.int .i64 m) := by
 obtain ⟨cs, e1, e2, e3⟩ := h.1 g _ _ (by simpa using hg) h1
 obtain ⟨ts, f1, _, f2⟩ := e3 hb
 rw [hc] at f1
 cases f1
 have hs : cs.size = 1 := e2
 have hc0 : cs[0]? = some cs[0] := Array.getElem?_eq_getElem (by omega)
 obtain ⟨u', g1, g2⟩ := f2 0 _ hc0
 simp at g1
 subst g1
 unfold Cell.ok at g2
 rw [hu] at g2
 cases hv : cs[0] <;> rw [hv] at g2 <;> simp at g2
 rename_i k n
 obtain ⟨rfl, _⟩ := g2
 refine ⟨n, ?_⟩
 simp only [World.cell?, e1]
 rw [hc0, hv]
 rfl
end Go.Sw
