import Derived.Test.YtmaeahbcmjpfpaaGreatW23OfB
import Derived.Test.YtmaeahbcmjpfpaaGreatL3
set_option linter.unusedVariables false
set_option linter.unusedSimpArgs false
set_option maxRecDepth 100000
set_option maxHeartbeats 4000000
namespace Go.Sw
open Option renaming some→AC
open Bool renaming false→AD,true→AE
open List renaming length→AI
open Go renaming Oper→AM
open Go.Proofs Tryz
section
variable {h0 N m n d id t et k f : Nat} {all : Array AM} {o : AM} {l r r' ll : AA AM} {ds : AA Nat} {env env' env0 : Env} {H H' H1 X : Qb} {Q : Qx} {α : Type} {e : α -> AA A} {L : AA α} {kk : IntKind} {i : Int} {v : α} {args argsc : AA A} {Hc : Qb} {π : AA Nat}
theorem CgU {β γ : Type} {x : AB β} {f : β -> AB γ} {r : γ} [EncA β] {s : Nat} {sel ks : AA Nat} {E' : β -> Env} {Hb : β -> Qb} {k : AA Kf} {c c2 : Code} (h : x.bind f = AC r) (hx : L5 x) (hs : cW c = AC s) (h1 : dA H ixL = AC sel) (h2 : rP s env = AC ks) (hc : ∀ b, Lf sel ks [(s, EncA.e b)] [] env H = AC (E' b, Hb b)) (g1 : ∀ b, x = AC b -> TC prog h0 N c env H (kq prog h0 N [] (I0 h0 b E' Hb (kq prog h0 N (.seq c2 :: k) Q)))) (g2 : ∀ b, f b = AC r -> TC prog h0 N c2 (E' b) (Hb b) (kq prog h0 N k Q)) : TC prog h0 N c env H (kq prog h0 N (.seq c2 :: k) Q) := Bd h fun b h3 h4 => Cg b sel ks _ _ hc (g1 b h3) (g2 b h4)
theorem CgV {β γ : Type} {x : AB β} {f : β -> AB γ} {r : γ} [EncS β] {sel ks vs : AA Nat} {E' : β -> Env} {Hb : β -> Qb} {k : AA Kf} {c c2 : Code} (h : x.bind f = AC r) (hx : L5 x) (hv : dg env c2 k c = AC (vs, ks)) (hl : ∀ b : β, Nat.beq (AI vs) (AI (EncS.e b)) = AE) (h1 : dA H ixL = AC sel) (hc : ∀ b, Lf sel ks (Ni vs (EncS.e b)) [] env H = AC (E' b, Hb b)) (g1 : ∀ b, x = AC b -> TC prog h0 N c env H (kq prog h0 N [] (I0 h0 b E' Hb (kq prog h0 N (.seq c2 :: k) Q)))) (g2 : ∀ b, f b = AC r -> TC prog h0 N c2 (E' b) (Hb b) (kq prog h0 N k Q)) : TC prog h0 N c env H (kq prog h0 N (.seq c2 :: k) Q) := Bd h fun b h3 h4 => Cg b sel ks _ _ hc (g1 b h3) (g2 b h4)
theorem CgW {S B γ : Type} {x : AB (CJ S B)} {f : CJ S B -> AB γ} {r : γ} [EncS S] {sel ks vs : AA Nat} {E' : S -> Env} {Hb : S -> Qb} {k : AA Kf} {c c2 : Code} (h : x.bind f = AC r) (hx : L5 x) (hv : dg env c2 k c = AC (vs, ks)) (hl : ∀ b : S, Nat.beq (AI vs) (AI (EncS.e b)) = AE) (h1 : dA H ixL = AC sel) (hc : ∀ s, Lf sel ks (Ni vs (EncS.e s)) [] env H = AC (E' s, Hb s)) (g1 : ∀ b, f b = AC r -> x = AC b -> TC prog h0 N c env H (kq prog h0 N [] (Ku h0 b E' Hb (kq prog h0 N (.seq c2 :: k) Q)))) (g2 : ∀ b s, b = CJ.k s -> f b = AC r -> TC prog h0 N c2 (E' s) (Hb s) (kq prog h0 N k Q)) : TC prog h0 N c env H (kq prog h0 N (.seq c2 :: k) Q) := Bd h fun b h3 h4 => Hz (b := b) sel ks _ _ hc (g1 b h4 h3) fun s e => g2 b s e h4
theorem fh {S S' B γ : Type} [EncS S] {step : S -> AB (CJ S (CJ S' B))} {m : Nat} {s0 : S} {f : CJ S' B -> AB γ} {r : γ} {sel ks vs : AA Nat} {E1 : S' -> Env} {H1 : S' -> Qb} {E2 : S -> Env} {H2 : S -> Qb} {k : AA Kf} {id : Nat} {c c2 : Code}
    (h : (iter step m s0).bind f = AC r) (hv : kH c env = AC (vs, ks)) (hs : dA H ixL = AC sel) (hl : ∀ b : S, Nat.beq (AI vs) (AI (EncS.e b)) = AE) (hc1 : ∀ s, Lf sel ks [] [] env H = AC (E1 s, H1 s)) (hc2 : ∀ s, Lf sel ks (Ni vs (EncS.e s)) [] env H = AC (E2 s, H2 s)) (hI : Le h0 env H (E2 s0) (H2 s0))
    (g : ∀ b s, b = CJ.k s -> f b = AC r -> TC prog h0 N c2 (E1 s) (H1 s) (kq prog h0 N k Q))
    (body : ∀ b, f b = AC r -> ∀ s d, step s = AC d -> (∀ b', d = .d b' -> b' = b) -> TC prog h0 N c (E2 s) (H2 s) (kq prog h0 N [] (Y9 (fun s env H => Le h0 env H (E2 s) (H2 s)) d (kq prog h0 N [.blo id] (Ku h0 b E1 H1 (kq prog h0 N (.seq c2 :: k) Q)))))) :
    TC prog h0 N (.block id (.loop c)) env H (kq prog h0 N (.seq c2 :: k) Q) := Bd h fun b h3 h4 => Hz (b := b) sel ks _ _ hc1 (TC.block (Lp sel ks _ _ h3 hc2 hI (body b h4))) fun s e => g b s e h4
theorem DrU {id : Nat} (hm : kP l = AC m) (hc : Go.Sw.draw0 l m N (Ji m 0 l) = AE) (h0B : Nat.ble h0 (AI H) = AE) (g : DS prog N m l (Ji m 0 l) env H (fun r e H => WO prog h0 N l.toArray r e H Q) l []) : TC prog h0 N (.region id l.toArray AE) env H Q := GX m hc g h0B
end
instance : LookT prog 294 (fun x => A.agg (Uk.c x)) (A.bool) AD := ⟨_, _, _, QpW, underlying294, zeroValue4, ZR.bool⟩
instance : LookT prog 120 I (A.int .i64) 0 := ⟨_, _, _, YY, underlying120, zeroValue3, ZR.int⟩
instance : LookT prog 326 I (A.bool) AD := ⟨_, _, _, YY, underlying326, zeroValue4, ZR.bool⟩
instance : LookT prog 425 A.str (A.bool) AD := ⟨_, _, _, cX, underlying425, zeroValue4, ZR.bool⟩
theorem M1 {N i : Nat} {l : AA AM} {ds : AA Nat} {xs : AA A} {env0 : Env} {hB hE : Nat} {s : AA (Qb × Qb)} {r : AA (AA (Qb × Qb))} (k : FP Tryz.prog N l ds xs env0 hB hE (i + 1) r) (h : ∀ p ∈ s, Y0 Tryz.prog N l ds xs env0 hB hE i p.1 p.2 := by repeat' first | exact QV | refine Ql (v0 rfl rfl) ?_) : FP Tryz.prog N l ds xs env0 hB hE i (s :: r) := .cons h k
theorem GV.k {i k : Nat} {es : AA (AA A)} {a : A} {x y : AA A} (q : GV i k es x y) : GV i k es (a :: x) (a :: y) := .cons (.refl _) q
theorem Kc {β : Type} {F : AB β} {f : FuncId} {args : AA A} {H : Qb} {w : β -> A} {H1 : β -> Qb} [h : Kp prog F f args H w H1] : ∀ r, F = AC r -> C prog f args H (RQ w H1 r) := h.c
end Go.Sw
