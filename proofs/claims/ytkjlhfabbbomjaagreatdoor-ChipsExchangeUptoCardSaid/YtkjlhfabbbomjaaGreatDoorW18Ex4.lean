/- What the functions compute that ChipsExchange reaches, and that their calls refine it (part 4 of 5). -/
import Derived.Test.YtkjlhfabbbomjaaGreatDoorW18Ex3
set_option linter.unusedVariables false
set_option linter.unusedSimpArgs false
set_option maxRecDepth 100000
set_option maxHeartbeats 4000000
namespace Go.Sw
open Go.Proofs Tryz
def F_ft (n : Nat) (a1 : Fact) (b2 : Int) (l74 : List Ent) (r75 : List Ent) (s102 : (List Int) × Fact × Int × Int) : Option (Ctl ((List Int) × Fact × Int × Int) (Ctl ((List Int) × Fact × Int) ((List Int) × Bool))) :=
  (bif decide (s102.2.2.2 < (l74.length : Int)) then (idx l74 s102.2.2.2).bind fun e106 => (getE (Fact.c a1) b2 e106).bind fun x107 => (bif decide (x107 < e106.lo) then some (.done (.done ([], false))) else (getE (Fact.c a1) b2 e106).bind fun x109 => (bif decide (e106.hi < x109) then some (.done (.done ([], false))) else (idx r75 s102.2.2.2).bind fun e111 => (getE (Fact.c a1) b2 e106).bind fun x112 => (putE Fact.put s102.2.1 s102.2.2.1 e111 x112).bind fun q113 => (getE (Fact.c a1) b2 e106).bind fun x114 => (app s102.1 [x114]).bind fun l115 => some (.cont (l115, q113.1, q113.2, IntKind.i64.wrap (s102.2.2.2 + 1))))) else some (.done (.cont (s102.1, s102.2.1, s102.2.2.1))))
def F_v (n : Nat) (a1 : Fact) : Option ((List Int) × Bool) :=
  ((bif a1.Appeal.Suspends then some 1 else some 0) : Option Int).bind fun b2 => ((F_z n a1 b2).bind fun r40 => (match r40 with | .c0 x42 => ((F_c n).bind fun r56 => some (.cont ([⟨false, 4, 1, 9999⟩, ⟨false, 5, 0, 7⟩, ⟨false, 6, 0, 31⟩, ⟨false, 7, (-1099511627776), 1099511627776⟩, ⟨false, 8, 0, 120⟩, ⟨false, 9, 0, 1048576⟩, ⟨false, 10, 0, 9999⟩, ⟨false, 11, 0, 1048576⟩] : List Ent))) | .c1 x43 => ((F_c n).bind fun r57 => some (.cont ([⟨false, 12, 0, 39⟩, ⟨false, 13, 0, 255⟩, ⟨false, 14, 0, 1048576⟩, ⟨false, 15, (-1099511627776), 1099511627776⟩] : List Ent))) | .c2 x44 => ((F_c n).bind fun r58 => some (.cont ([⟨false, 16, 0, 39⟩, ⟨false, 17, 0, 255⟩, ⟨false, 18, (-1099511627776), 1099511627776⟩, ⟨false, 19, (-1099511627776), 1099511627776⟩, ⟨false, 20, 0, 1099511627776⟩] : List Ent))) | .c3 x45 => ((F_em n a1).bind fun r59 => (bif (!(decide (a1.Sync.Min ≤ a1.Sync.Max))) then some (.done ([], false)) else some (.cont ([⟨false, 21, 0, 39⟩, ⟨false, 22, 0, 255⟩, ⟨false, 23, (-1099511627776), 1099511627776⟩, ⟨false, 24, 0, 39⟩, ⟨false, 25, 0, 255⟩, ⟨false, 26, (-1099511627776), 1099511627776⟩, ⟨false, 27, (-1099511627776), 1099511627776⟩, ⟨false, 28, (-1099511627776), 1099511627776⟩] : List Ent)))) | .c4 x46 => ((F_cz n a1).bind fun r61 => (bif (!(decide (a1.Hand.Lo ≤ a1.Hand.Hi))) then some (.done ([], false)) else some (.cont ([⟨false, 29, 1, 9999⟩, ⟨false, 30, 0, 255⟩, ⟨false, 31, (-1099511627776), 1099511627776⟩, ⟨false, 32, (-1099511627776), 1099511627776⟩] : List Ent)))) | .c5 x47 => ((F_ef n a1).bind fun r63 => (bif (!(decide (a1.Silence.Lo ≤ a1.Silence.Hi))) then some (.done ([], false)) else some (.cont ([⟨false, 33, 0, 39⟩, ⟨false, 34, 0, 255⟩, ⟨false, 35, (-1099511627776), 1099511627776⟩, ⟨false, 36, (-1099511627776), 1099511627776⟩] : List Ent)))) | .c6 x48 => ((F_en n a1).bind fun r65 => (bif (!(decide (a1.Pair.A < a1.Pair.B))) then some (.done ([], false)) else some (.cont ([⟨false, 37, 1, 9999⟩, ⟨false, 38, 1, 9999⟩] : List Ent)))) | .c7 x49 => ((F_c n).bind fun r67 => some (.cont ([⟨false, 39, 1, 1048576⟩, ⟨false, 40, 1, 9999⟩, ⟨false, 41, 0, 31⟩, ⟨false, 42, 0, 255⟩] : List Ent))) | .c8 x50 => ((F_c n).bind fun r68 => some (.cont ([⟨false, 43, 1, 1048576⟩, ⟨false, 44, 0, 9999⟩, ⟨false, 45, 0, 1125899906842624⟩, ⟨false, 46, 0, 1⟩] : List Ent))) | .c9 x51 => ((F_c n).bind fun r69 => some (.cont ([⟨false, 47, 1, 1048576⟩, ⟨false, 48, 1, 2⟩, ⟨false, 49, 1, 5⟩, ⟨false, 50, x51.1, x51.2.1⟩, ⟨false, 51, x51.2.2.1, x51.2.2.2.1⟩, ⟨false, 52, x51.2.2.2.2.1, x51.2.2.2.2.2⟩] : List Ent))) | .c10 x52 => ((F_c n).bind fun r70 => some (.cont ([⟨false, 53, 1, 1048576⟩, ⟨true, 0, 0, 1⟩] : List Ent))) | .c11 x53 => ((F_c n).bind fun r71 => some (.cont [])) | .c12 x54 => ((F_c n).bind fun r72 => some (.cont ([⟨false, 55, 0, 31⟩, ⟨false, 56, 1, 1048576⟩] : List Ent))) | .c13 x55 => (some (.done ([], false)))) : Option (Ctl (List Ent) ((List Int) × Bool))).bind fun b38 => match b38 with | .cont sb38 => ((F_ae n a1).bind fun r73 => (app ([⟨false, 3, 1, 13⟩, ⟨false, 0, 0, 31⟩, ⟨false, 1, 1, 1048576⟩, ⟨false, 2, 0, 1099511627776⟩] : List Ent) sb38).bind fun l74 => (F_ct n ({ Crew := 0, No := 0, At := 0, Kind := 0, Starter := { Bib := 0, Distance := 0, Wave := 0, Slot := 0, Age := 0, Chip := 0, Team := 0, Lot := 0 : Starter }, Read := { Mat := 0, Epoch := 0, Chip := 0, Local := 0 : Read }, Beacon := { Mat := 0, Epoch := 0, Local := 0, True := 0, Err := 0 : Beacon }, Sync := { MatA := 0, EpochA := 0, LocalA := 0, MatB := 0, EpochB := 0, LocalB := 0, Min := 0, Max := 0 : Sync }, Hand := { Bib := 0, Position := 0, Lo := 0, Hi := 0 : Hand }, Silence := { Mat := 0, Epoch := 0, Lo := 0, Hi := 0 : Silence }, Pair := { A := 0, B := 0 : Pair }, Report := { Case := 0, Bib := 0, Offence := 0, Position := 0 : Report }, Protest := { Case := 0, By := 0, Fee := 0, Form := 0 : Protest }, Ruling := { Case := 0, Instance := 0, Kind := a1.Ruling.Kind, Bib := 0, Position := 0, Amount := 0 : Ruling }, Appeal := { Case := 0, Suspends := false : Appeal }, Void := { Crew := 0, No := 0 : Ref } : Fact }) 0 a1).bind fun r75 => (iter (F_ft n a1 b2 l74 r75) n ([], { Crew := 0, No := 0, At := 0, Kind := a1.Kind, Starter := { Bib := 0, Distance := 0, Wave := 0, Slot := 0, Age := 0, Chip := 0, Team := 0, Lot := 0 : Starter }, Read := { Mat := 0, Epoch := 0, Chip := 0, Local := 0 : Read }, Beacon := { Mat := 0, Epoch := 0, Local := 0, True := 0, Err := 0 : Beacon }, Sync := { MatA := 0, EpochA := 0, LocalA := 0, MatB := 0, EpochB := 0, LocalB := 0, Min := 0, Max := 0 : Sync }, Hand := { Bib := 0, Position := 0, Lo := 0, Hi := 0 : Hand }, Silence := { Mat := 0, Epoch := 0, Lo := 0, Hi := 0 : Silence }, Pair := { A := 0, B := 0 : Pair }, Report := { Case := 0, Bib := 0, Offence := 0, Position := 0 : Report }, Protest := { Case := 0, By := 0, Fee := 0, Form := 0 : Protest }, Ruling := { Case := 0, Instance := 0, Kind := a1.Ruling.Kind, Bib := 0, Position := 0, Amount := 0 : Ruling }, Appeal := { Case := 0, Suspends := false : Appeal }, Void := { Crew := 0, No := 0 : Ref } : Fact }, 0, 0) : Option (Ctl ((List Int) × Fact × Int) ((List Int) × Bool))).bind fun b99 => match b99 with | .cont sb99 => (((bif (a1.Kind != 10) then some ({ Crew := sb99.2.1.Crew, No := sb99.2.1.No, At := sb99.2.1.At, Kind := sb99.2.1.Kind, Starter := sb99.2.1.Starter, Read := sb99.2.1.Read, Beacon := sb99.2.1.Beacon, Sync := sb99.2.1.Sync, Hand := sb99.2.1.Hand, Silence := sb99.2.1.Silence, Pair := sb99.2.1.Pair, Report := sb99.2.1.Report, Protest := sb99.2.1.Protest, Ruling := { Case := sb99.2.1.Ruling.Case, Instance := sb99.2.1.Ruling.Instance, Kind := 0, Bib := sb99.2.1.Ruling.Bib, Position := sb99.2.1.Ruling.Position, Amount := sb99.2.1.Ruling.Amount : Ruling }, Appeal := sb99.2.1.Appeal, Void := sb99.2.1.Void : Fact }) else some sb99.2.1) : Option Fact).bind fun b117 => some (sb99.1, (({ Crew := b117.Crew, No := b117.No, At := b117.At, Kind := b117.Kind, Starter := b117.Starter, Read := b117.Read, Beacon := b117.Beacon, Sync := b117.Sync, Hand := b117.Hand, Silence := b117.Silence, Pair := b117.Pair, Report := b117.Report, Protest := b117.Protest, Ruling := b117.Ruling, Appeal := { Case := b117.Appeal.Case, Suspends := (sb99.2.2 == 1) : Appeal }, Void := b117.Void : Fact }) == a1))) | .done sb99 => some sb99) | .done sb38 => some sb38
theorem k_v (n : Nat) (a1 : Fact) (r : (List Int) × Bool) (h : F_v n a1 = some r) :
    C prog 49 [.agg (Fact.c a1)] [] (fun a H => a = .tup [.osl 0 0 r.1.length 1, .bool r.2] ∧ H = [.row 3 1 (List.map (encI .i64) r.1)]) := by
 refine C.of_body func49 Z Z Z ?_
 refine Rg ?_
 refine vH (OpH.box Z Z Z Z Z) ?_
 refine aV (.ptr 0 0) [.cells 81 (Fact.c a1)] Z Z ?_
 refine S Z (S Z (Nx (Rg ?_)))
 refine vH (OpH.allocZ (v := (.int .i64 0)) zeroValue3 ZR.int) ?_
 refine aV (.ptr 1 0) [_, .cells 3 [.int .i64 0]] Z Z ?_
 refine vU (OpU.store Z Z Z sizeOf3 Z Z Z Z Z Z Z) ?_
 refine WO.atH (H := [_, _]) Z ?_
 refine Nx (TC.seq (Rg (Fp fa_81_14 Z (Fp fa_77_1 Z (Ld isAgg4 Z (Nx (Bd h fun b2 h3 h => ?_)))))))
 refine TC.cut ([(1, .ptr 0 0), (2, .nils), (4, .ptr 1 0)]) ([.cells 81 (Fact.c a1), .cells 3 [.int .i64 b2]]) ?_ (fun env H hle => ?_)
 ·refine Cn Z h3 (fun hc4 h3 => ?_) (fun hc4 h3 => ?_)
  ·refine TC.region ?_
   refine vU (OpU.store Z Z Z sizeOf3 Z Z Z Z Z Z Z) ?_
   refine WO.atH (H := [_, .cells 3 [.int .i64 1]]) Z ?_
   refine WO.nil ?_
   obtain rfl := Oi h3
   exact cutN (Lr [0, 1])
  refine TC.skip ?_
  obtain rfl := Oi h3
  exact cutN (Lr [0, 1])
 refine seqN (TC.le hle (Rg ?_))
 refine vX (.agg (Fact.c a1)) (OpV.loadA Z isAgg81 sizeOf81 Z (Pts.cells Z Z) Z Z) ?_
 refine vH (OpH.allocZ (v := (.agg [.int .i64 0, .int .i64 0, .int .i64 0, .int .i64 0, .int .i64 0, .int .i64 0, .int .i64 0, .int .i64 0, .int .i64 0, .int .i64 0, .int .i64 0, .int .i64 0, .int .i64 0, .int .i64 0, .int .i64 0, .int .i64 0, .int .i64 0, .int .i64 0, .int .i64 0, .int .i64 0, .int .i64 0, .int .i64 0, .int .i64 0, .int .i64 0, .int .i64 0, .int .i64 0, .int .i64 0, .int .i64 0, .int .i64 0, .int .i64 0, .int .i64 0, .int .i64 0, .int .i64 0, .int .i64 0, .int .i64 0, .int .i64 0, .int .i64 0, .int .i64 0, .int .i64 0, .int .i64 0, .int .i64 0, .int .i64 0, .int .i64 0, .int .i64 0, .int .i64 0, .int .i64 0, .int .i64 0, .int .i64 0, .int .i64 0, .int .i64 0, .int .i64 0, .int .i64 0, .int .i64 0, .int .i64 0, .bool false, .int .i64 0, .int .i64 0])) zeroValue81 (ZR.agg (ZL.cons ZR.int (ZL.cons ZR.int (ZL.cons ZR.int (ZL.cons ZR.int (ZL.cons ZR.int (ZL.cons ZR.int (ZL.cons ZR.int (ZL.cons ZR.int (ZL.cons ZR.int (ZL.cons ZR.int (ZL.cons ZR.int (ZL.cons ZR.int (ZL.cons ZR.int (ZL.cons ZR.int (ZL.cons ZR.int (ZL.cons ZR.int (ZL.cons ZR.int (ZL.cons ZR.int (ZL.cons ZR.int (ZL.cons ZR.int (ZL.cons ZR.int (ZL.cons ZR.int (ZL.cons ZR.int (ZL.cons ZR.int (ZL.cons ZR.int (ZL.cons ZR.int (ZL.cons ZR.int (ZL.cons ZR.int (ZL.cons ZR.int (ZL.cons ZR.int (ZL.cons ZR.int (ZL.cons ZR.int (ZL.cons ZR.int (ZL.cons ZR.int (ZL.cons ZR.int (ZL.cons ZR.int (ZL.cons ZR.int (ZL.cons ZR.int (ZL.cons ZR.int (ZL.cons ZR.int (ZL.cons ZR.int (ZL.cons ZR.int (ZL.cons ZR.int (ZL.cons ZR.int (ZL.cons ZR.int (ZL.cons ZR.int (ZL.cons ZR.int (ZL.cons ZR.int (ZL.cons ZR.int (ZL.cons ZR.int (ZL.cons ZR.int (ZL.cons ZR.int (ZL.cons ZR.int (ZL.cons ZR.int (ZL.cons ZR.bool (ZL.cons ZR.int (ZL.cons ZR.int ZL.nil))))))))))))))))))))))))))))))))))))))))))))))))))))))))))) ?_
 refine aV (.ptr 2 0) [_, _, .cells 81 [.int .i64 0, .int .i64 0, .int .i64 0, .int .i64 0, .int .i64 0, .int .i64 0, .int .i64 0, .int .i64 0, .int .i64 0, .int .i64 0, .int .i64 0, .int .i64 0, .int .i64 0, .int .i64 0, .int .i64 0, .int .i64 0, .int .i64 0, .int .i64 0, .int .i64 0, .int .i64 0, .int .i64 0, .int .i64 0, .int .i64 0, .int .i64 0, .int .i64 0, .int .i64 0, .int .i64 0, .int .i64 0, .int .i64 0, .int .i64 0, .int .i64 0, .int .i64 0, .int .i64 0, .int .i64 0, .int .i64 0, .int .i64 0, .int .i64 0, .int .i64 0, .int .i64 0, .int .i64 0, .int .i64 0, .int .i64 0, .int .i64 0, .int .i64 0, .int .i64 0, .int .i64 0, .int .i64 0, .int .i64 0, .int .i64 0, .int .i64 0, .int .i64 0, .int .i64 0, .int .i64 0, .int .i64 0, .bool false, .int .i64 0, .int .i64 0]] Z Z ?_
 refine vU (OpU.store Z Z Z sizeOf81 Z Z Z Z Z Z Z) ?_
 refine WO.atH (H := [_, _, .cells 81 (Fact.c a1)]) Z ?_
 refine Nx (Bd h fun b38 h39 h => ?_)
 refine TC.cut3E (b := b38) (fun sb38 => [(1, .ptr 0 0), (2, .nils), (5, .ptr 1 0), (6, .ptr 2 0)]) (fun sb38 => [.cells 81 (Fact.c a1), .cells 81 (Fact.c a1), .cells 171 [.osl 3 0 sb38.length 3, .any], .ents 181 1 4 sb38, .cells 3 [.int .i64 b2]]) ?_ (fun sb38 env H hb hle => ?_)
 ·refine TC.region (Bd h39 fun r40 hr40 h39 => ?_)
  refine WO.callD [2, 1] (OpC.fn call82 Z Z Z) (k_z _ _ _ _ hr40) ?_
  intro ra rH h41
  rcases r40 with x42 | x43 | x44 | x45 | x46 | x47 | x48 | x49 | x50 | x51 | x52 | x53 | x54 | x55
  ·obtain ⟨rfl, rfl⟩ := h41
   refine aV (.tup [.agg [.osl 3 0 8 3, .fn (.func 144) [] []], .bool true]) [.cells 81 (Fact.c a1), .cells 3 [.int .i64 b2], .cells 81 (Fact.c a1), .rowr 181 3 [[.ptr 2 4, .int .i64 1, .int .i64 9999], [.ptr 2 5, .int .i64 0, .int .i64 7], [.ptr 2 6, .int .i64 0, .int .i64 31], [.ptr 2 7, .int .i64 (-1099511627776), .int .i64 1099511627776], [.ptr 2 8, .int .i64 0, .int .i64 120], [.ptr 2 9, .int .i64 0, .int .i64 1048576], [.ptr 2 10, .int .i64 0, .int .i64 9999], [.ptr 2 11, .int .i64 0, .int .i64 1048576]], .cells 171 [.osl 3 0 8 3, .fn (.func 144) [] []]] Z Z ?_
   refine WO.le (Le.toEnts (i := 3) (b1 := 2) (b2 := 1) (l := [⟨false, 4, 1, 9999⟩, ⟨false, 5, 0, 7⟩, ⟨false, 6, 0, 31⟩, ⟨false, 7, (-1099511627776), 1099511627776⟩, ⟨false, 8, 0, 120⟩, ⟨false, 9, 0, 1048576⟩, ⟨false, 10, 0, 9999⟩, ⟨false, 11, 0, 1048576⟩]) Z Z) ?_
   refine WO.atH (H := [.cells 81 (Fact.c a1), .cells 3 [.int .i64 b2], .cells 81 (Fact.c a1), .ents 181 2 1 ([⟨false, 4, 1, 9999⟩, ⟨false, 5, 0, 7⟩, ⟨false, 6, 0, 31⟩, ⟨false, 7, (-1099511627776), 1099511627776⟩, ⟨false, 8, 0, 120⟩, ⟨false, 9, 0, 1048576⟩, ⟨false, 10, 0, 9999⟩, ⟨false, 11, 0, 1048576⟩] : List Ent), .cells 171 [.osl 3 0 8 3, .fn (.func 144) [] []]]) Z ?_
   refine S Z (S Z (S Z ?_))
   refine vH (OpH.allocZ (v := (.agg [.nils, .nilf])) zeroValue171 (ZR.agg (ZL.cons ZR.nils (ZL.cons ZR.nilf ZL.nil)))) ?_
   refine aV (.ptr 5 0) [_, _, _, _, _, .cells 171 [.nils, .nilf]] Z Z ?_
   refine vU (OpU.store Z Z Z sizeOf171 Z Z Z Z Z Z Z) ?_
   refine WO.atH (H := [_, _, _, _, _, .cells 171 [.osl 3 0 (([⟨false, 4, 1, 9999⟩, ⟨false, 5, 0, 7⟩, ⟨false, 6, 0, 31⟩, ⟨false, 7, (-1099511627776), 1099511627776⟩, ⟨false, 8, 0, 120⟩, ⟨false, 9, 0, 1048576⟩, ⟨false, 10, 0, 9999⟩, ⟨false, 11, 0, 1048576⟩] : List Ent).length) 3, .fn (.func 144) [] []]]) Z ?_
   refine S Z (Nx (Rg (S Z (S Z (S Z (Fpg (gT Z) fa_171_1 Z (Ldg (gT Z) isAgg35 Z (Bd h39 fun r56 hr56 h39 => ?_))))))))
   refine WO.callD [] (OpC.clo call144 Z Z Z Z) (k_c _ _ hr56) ?_ (hg := (gT Z))
   rintro _ _ ⟨rfl, rfl⟩
   refine aV (.bool true) [_, _, _, _, _, _] Z Z ?_
   refine Sg (gT Z) Z (S Z (Nx (CnF Z Z (TC.skip ?_))))
   obtain rfl := Oi h39
   refine cutEN Z ?_
   refine Le.trans (Le.anyC (i := 5) (m := 1) Z) ?_
   exact Lr [0, 2, 5, 3, 1]
  ·obtain ⟨rfl, rfl⟩ := h41
   refine aV (.tup [.agg [.osl 3 0 4 3, .fn (.func 144) [] []], .bool true]) [.cells 81 (Fact.c a1), .cells 3 [.int .i64 b2], .cells 81 (Fact.c a1), .rowr 181 3 [[.ptr 2 12, .int .i64 0, .int .i64 39], [.ptr 2 13, .int .i64 0, .int .i64 255], [.ptr 2 14, .int .i64 0, .int .i64 1048576], [.ptr 2 15, .int .i64 (-1099511627776), .int .i64 1099511627776]], .cells 171 [.osl 3 0 4 3, .fn (.func 144) [] []]] Z Z ?_
   refine WO.le (Le.toEnts (i := 3) (b1 := 2) (b2 := 1) (l := [⟨false, 12, 0, 39⟩, ⟨false, 13, 0, 255⟩, ⟨false, 14, 0, 1048576⟩, ⟨false, 15, (-1099511627776), 1099511627776⟩]) Z Z) ?_
   refine WO.atH (H := [.cells 81 (Fact.c a1), .cells 3 [.int .i64 b2], .cells 81 (Fact.c a1), .ents 181 2 1 ([⟨false, 12, 0, 39⟩, ⟨false, 13, 0, 255⟩, ⟨false, 14, 0, 1048576⟩, ⟨false, 15, (-1099511627776), 1099511627776⟩] : List Ent), .cells 171 [.osl 3 0 4 3, .fn (.func 144) [] []]]) Z ?_
   refine S Z (S Z (S Z ?_))
   refine vH (OpH.allocZ (v := (.agg [.nils, .nilf])) zeroValue171 (ZR.agg (ZL.cons ZR.nils (ZL.cons ZR.nilf ZL.nil)))) ?_
   refine aV (.ptr 5 0) [_, _, _, _, _, .cells 171 [.nils, .nilf]] Z Z ?_
   refine vU (OpU.store Z Z Z sizeOf171 Z Z Z Z Z Z Z) ?_
   refine WO.atH (H := [_, _, _, _, _, .cells 171 [.osl 3 0 (([⟨false, 12, 0, 39⟩, ⟨false, 13, 0, 255⟩, ⟨false, 14, 0, 1048576⟩, ⟨false, 15, (-1099511627776), 1099511627776⟩] : List Ent).length) 3, .fn (.func 144) [] []]]) Z ?_
   refine S Z (Nx (Rg (S Z (S Z (S Z (Fpg (gT Z) fa_171_1 Z (Ldg (gT Z) isAgg35 Z (Bd h39 fun r57 hr57 h39 => ?_))))))))
   refine WO.callD [] (OpC.clo call144 Z Z Z Z) (k_c _ _ hr57) ?_ (hg := (gT Z))
   rintro _ _ ⟨rfl, rfl⟩
   refine aV (.bool true) [_, _, _, _, _, _] Z Z ?_
   refine Sg (gT Z) Z (S Z (Nx (CnF Z Z (TC.skip ?_))))
   obtain rfl := Oi h39
   refine cutEN Z ?_
   refine Le.trans (Le.anyC (i := 5) (m := 1) Z) ?_
   exact Lr [0, 2, 5, 3, 1]
  ·obtain ⟨rfl, rfl⟩ := h41
   refine aV (.tup [.agg [.osl 3 0 5 3, .fn (.func 144) [] []], .bool true]) [.cells 81 (Fact.c a1), .cells 3 [.int .i64 b2], .cells 81 (Fact.c a1), .rowr 181 3 [[.ptr 2 16, .int .i64 0, .int .i64 39], [.ptr 2 17, .int .i64 0, .int .i64 255], [.ptr 2 18, .int .i64 (-1099511627776), .int .i64 1099511627776], [.ptr 2 19, .int .i64 (-1099511627776), .int .i64 1099511627776], [.ptr 2 20, .int .i64 0, .int .i64 1099511627776]], .cells 171 [.osl 3 0 5 3, .fn (.func 144) [] []]] Z Z ?_
   refine WO.le (Le.toEnts (i := 3) (b1 := 2) (b2 := 1) (l := [⟨false, 16, 0, 39⟩, ⟨false, 17, 0, 255⟩, ⟨false, 18, (-1099511627776), 1099511627776⟩, ⟨false, 19, (-1099511627776), 1099511627776⟩, ⟨false, 20, 0, 1099511627776⟩]) Z Z) ?_
   refine WO.atH (H := [.cells 81 (Fact.c a1), .cells 3 [.int .i64 b2], .cells 81 (Fact.c a1), .ents 181 2 1 ([⟨false, 16, 0, 39⟩, ⟨false, 17, 0, 255⟩, ⟨false, 18, (-1099511627776), 1099511627776⟩, ⟨false, 19, (-1099511627776), 1099511627776⟩, ⟨false, 20, 0, 1099511627776⟩] : List Ent), .cells 171 [.osl 3 0 5 3, .fn (.func 144) [] []]]) Z ?_
   refine S Z (S Z (S Z ?_))
   refine vH (OpH.allocZ (v := (.agg [.nils, .nilf])) zeroValue171 (ZR.agg (ZL.cons ZR.nils (ZL.cons ZR.nilf ZL.nil)))) ?_
   refine aV (.ptr 5 0) [_, _, _, _, _, .cells 171 [.nils, .nilf]] Z Z ?_
   refine vU (OpU.store Z Z Z sizeOf171 Z Z Z Z Z Z Z) ?_
   refine WO.atH (H := [_, _, _, _, _, .cells 171 [.osl 3 0 (([⟨false, 16, 0, 39⟩, ⟨false, 17, 0, 255⟩, ⟨false, 18, (-1099511627776), 1099511627776⟩, ⟨false, 19, (-1099511627776), 1099511627776⟩, ⟨false, 20, 0, 1099511627776⟩] : List Ent).length) 3, .fn (.func 144) [] []]]) Z ?_
   refine S Z (Nx (Rg (S Z (S Z (S Z (Fpg (gT Z) fa_171_1 Z (Ldg (gT Z) isAgg35 Z (Bd h39 fun r58 hr58 h39 => ?_))))))))
   refine WO.callD [] (OpC.clo call144 Z Z Z Z) (k_c _ _ hr58) ?_ (hg := (gT Z))
   rintro _ _ ⟨rfl, rfl⟩
   refine aV (.bool true) [_, _, _, _, _, _] Z Z ?_
   refine Sg (gT Z) Z (S Z (Nx (CnF Z Z (TC.skip ?_))))
   obtain rfl := Oi h39
   refine cutEN Z ?_
   refine Le.trans (Le.anyC (i := 5) (m := 1) Z) ?_
   exact Lr [0, 2, 5, 3, 1]
  ·obtain ⟨rfl, rfl⟩ := h41
   refine aV (.tup [.agg [.osl 3 0 8 3, .fn (.func 145) [] [.ptr 4 0]], .bool true]) [.cells 81 (Fact.c a1), .cells 3 [.int .i64 b2], .cells 81 (Fact.c a1), .rowr 181 3 [[.ptr 2 21, .int .i64 0, .int .i64 39], [.ptr 2 22, .int .i64 0, .int .i64 255], [.ptr 2 23, .int .i64 (-1099511627776), .int .i64 1099511627776], [.ptr 2 24, .int .i64 0, .int .i64 39], [.ptr 2 25, .int .i64 0, .int .i64 255], [.ptr 2 26, .int .i64 (-1099511627776), .int .i64 1099511627776], [.ptr 2 27, .int .i64 (-1099511627776), .int .i64 1099511627776], [.ptr 2 28, .int .i64 (-1099511627776), .int .i64 1099511627776]], .cells 238 [.ptr 2 21], .cells 171 [.osl 3 0 8 3, .fn (.func 145) [] [.ptr 4 0]]] Z Z ?_
   refine WO.le (Le.toEnts (i := 3) (b1 := 2) (b2 := 1) (l := [⟨false, 21, 0, 39⟩, ⟨false, 22, 0, 255⟩, ⟨false, 23, (-1099511627776), 1099511627776⟩, ⟨false, 24, 0, 39⟩, ⟨false, 25, 0, 255⟩, ⟨false, 26, (-1099511627776), 1099511627776⟩, ⟨false, 27, (-1099511627776), 1099511627776⟩, ⟨false, 28, (-1099511627776), 1099511627776⟩]) Z Z) ?_
   refine WO.atH (H := [.cells 81 (Fact.c a1), .cells 3 [.int .i64 b2], .cells 81 (Fact.c a1), .ents 181 2 1 ([⟨false, 21, 0, 39⟩, ⟨false, 22, 0, 255⟩, ⟨false, 23, (-1099511627776), 1099511627776⟩, ⟨false, 24, 0, 39⟩, ⟨false, 25, 0, 255⟩, ⟨false, 26, (-1099511627776), 1099511627776⟩, ⟨false, 27, (-1099511627776), 1099511627776⟩, ⟨false, 28, (-1099511627776), 1099511627776⟩] : List Ent), .cells 238 [.ptr 2 21], .cells 171 [.osl 3 0 8 3, .fn (.func 145) [] [.ptr 4 0]]]) Z ?_
   refine S Z (S Z (S Z ?_))
   refine vH (OpH.allocZ (v := (.agg [.nils, .nilf])) zeroValue171 (ZR.agg (ZL.cons ZR.nils (ZL.cons ZR.nilf ZL.nil)))) ?_
   refine aV (.ptr 6 0) [_, _, _, _, _, _, .cells 171 [.nils, .nilf]] Z Z ?_
   refine vU (OpU.store Z Z Z sizeOf171 Z Z Z Z Z Z Z) ?_
   refine WO.atH (H := [_, _, _, _, _, _, .cells 171 [.osl 3 0 (([⟨false, 21, 0, 39⟩, ⟨false, 22, 0, 255⟩, ⟨false, 23, (-1099511627776), 1099511627776⟩, ⟨false, 24, 0, 39⟩, ⟨false, 25, 0, 255⟩, ⟨false, 26, (-1099511627776), 1099511627776⟩, ⟨false, 27, (-1099511627776), 1099511627776⟩, ⟨false, 28, (-1099511627776), 1099511627776⟩] : List Ent).length) 3, .fn (.func 145) [] [.ptr 4 0]]]) Z ?_
   refine S Z (Nx (Rg (S Z (S Z (S Z (Fpg (gT Z) fa_171_1 Z (Ldg (gT Z) isAgg35 Z (Bd h39 fun r59 hr59 h39 => ?_))))))))
   refine WO.callD [4, 2] (OpC.clo call145 Z Z Z Z) (k_em _ _ _ hr59) ?_ (hg := (gT Z))
   rintro _ _ ⟨rfl, rfl⟩
   refine aV (.bool (decide (a1.Sync.Min ≤ a1.Sync.Max))) [_, _, _, _, _, _, _] Z Z ?_
   refine Sg (gT Z) Z (S Z (Nx (Cn Z h39 (fun hc60 h39 => ?_) (fun hc60 h39 => ?_))))
   ·refine Rg (S Z (S Z (Nx (TC.ret ?_))))
    obtain rfl := Oi h39
    refine cutER (seqR ?_)
    obtain rfl := Oi h
    refine ⟨[(2, _), (3, _)], _, _, ?_, ResOK.two Z Z Z, Z, Z⟩
    refine Le.trans (Le.phantom (s := 2) (k := 1) (t := 3) (Nat.le_of_ble_eq_true Z) Z) ?_
    exact Lr [7]
   refine TC.skip ?_
   obtain rfl := Oi h39
   refine cutEN Z ?_
   refine Le.trans (Le.anyC (i := 6) (m := 1) Z) ?_
   exact Lr [0, 2, 6, 3, 1]
  ·obtain ⟨rfl, rfl⟩ := h41
   refine aV (.tup [.agg [.osl 3 0 4 3, .fn (.func 146) [] [.ptr 4 0]], .bool true]) [.cells 81 (Fact.c a1), .cells 3 [.int .i64 b2], .cells 81 (Fact.c a1), .rowr 181 3 [[.ptr 2 29, .int .i64 1, .int .i64 9999], [.ptr 2 30, .int .i64 0, .int .i64 255], [.ptr 2 31, .int .i64 (-1099511627776), .int .i64 1099511627776], [.ptr 2 32, .int .i64 (-1099511627776), .int .i64 1099511627776]], .cells 239 [.ptr 2 29], .cells 171 [.osl 3 0 4 3, .fn (.func 146) [] [.ptr 4 0]]] Z Z ?_
   refine WO.le (Le.toEnts (i := 3) (b1 := 2) (b2 := 1) (l := [⟨false, 29, 1, 9999⟩, ⟨false, 30, 0, 255⟩, ⟨false, 31, (-1099511627776), 1099511627776⟩, ⟨false, 32, (-1099511627776), 1099511627776⟩]) Z Z) ?_
   refine WO.atH (H := [.cells 81 (Fact.c a1), .cells 3 [.int .i64 b2], .cells 81 (Fact.c a1), .ents 181 2 1 ([⟨false, 29, 1, 9999⟩, ⟨false, 30, 0, 255⟩, ⟨false, 31, (-1099511627776), 1099511627776⟩, ⟨false, 32, (-1099511627776), 1099511627776⟩] : List Ent), .cells 239 [.ptr 2 29], .cells 171 [.osl 3 0 4 3, .fn (.func 146) [] [.ptr 4 0]]]) Z ?_
   refine S Z (S Z (S Z ?_))
   refine vH (OpH.allocZ (v := (.agg [.nils, .nilf])) zeroValue171 (ZR.agg (ZL.cons ZR.nils (ZL.cons ZR.nilf ZL.nil)))) ?_
   refine aV (.ptr 6 0) [_, _, _, _, _, _, .cells 171 [.nils, .nilf]] Z Z ?_
   refine vU (OpU.store Z Z Z sizeOf171 Z Z Z Z Z Z Z) ?_
   refine WO.atH (H := [_, _, _, _, _, _, .cells 171 [.osl 3 0 (([⟨false, 29, 1, 9999⟩, ⟨false, 30, 0, 255⟩, ⟨false, 31, (-1099511627776), 1099511627776⟩, ⟨false, 32, (-1099511627776), 1099511627776⟩] : List Ent).length) 3, .fn (.func 146) [] [.ptr 4 0]]]) Z ?_
   refine S Z (Nx (Rg (S Z (S Z (S Z (Fpg (gT Z) fa_171_1 Z (Ldg (gT Z) isAgg35 Z (Bd h39 fun r61 hr61 h39 => ?_))))))))
   refine WO.callD [4, 2] (OpC.clo call146 Z Z Z Z) (k_cz _ _ _ hr61) ?_ (hg := (gT Z))
   rintro _ _ ⟨rfl, rfl⟩
   refine aV (.bool (decide (a1.Hand.Lo ≤ a1.Hand.Hi))) [_, _, _, _, _, _, _] Z Z ?_
   refine Sg (gT Z) Z (S Z (Nx (Cn Z h39 (fun hc62 h39 => ?_) (fun hc62 h39 => ?_))))
   ·refine Rg (S Z (S Z (Nx (TC.ret ?_))))
    obtain rfl := Oi h39
    refine cutER (seqR ?_)
    obtain rfl := Oi h
    refine ⟨[(2, _), (3, _)], _, _, ?_, ResOK.two Z Z Z, Z, Z⟩
    refine Le.trans (Le.phantom (s := 2) (k := 1) (t := 3) (Nat.le_of_ble_eq_true Z) Z) ?_
    exact Lr [7]
   refine TC.skip ?_
   obtain rfl := Oi h39
   refine cutEN Z ?_
   refine Le.trans (Le.anyC (i := 6) (m := 1) Z) ?_
   exact Lr [0, 2, 6, 3, 1]
  ·obtain ⟨rfl, rfl⟩ := h41
   refine aV (.tup [.agg [.osl 3 0 4 3, .fn (.func 147) [] [.ptr 4 0]], .bool true]) [.cells 81 (Fact.c a1), .cells 3 [.int .i64 b2], .cells 81 (Fact.c a1), .rowr 181 3 [[.ptr 2 33, .int .i64 0, .int .i64 39], [.ptr 2 34, .int .i64 0, .int .i64 255], [.ptr 2 35, .int .i64 (-1099511627776), .int .i64 1099511627776], [.ptr 2 36, .int .i64 (-1099511627776), .int .i64 1099511627776]], .cells 240 [.ptr 2 33], .cells 171 [.osl 3 0 4 3, .fn (.func 147) [] [.ptr 4 0]]] Z Z ?_
   refine WO.le (Le.toEnts (i := 3) (b1 := 2) (b2 := 1) (l := [⟨false, 33, 0, 39⟩, ⟨false, 34, 0, 255⟩, ⟨false, 35, (-1099511627776), 1099511627776⟩, ⟨false, 36, (-1099511627776), 1099511627776⟩]) Z Z) ?_
   refine WO.atH (H := [.cells 81 (Fact.c a1), .cells 3 [.int .i64 b2], .cells 81 (Fact.c a1), .ents 181 2 1 ([⟨false, 33, 0, 39⟩, ⟨false, 34, 0, 255⟩, ⟨false, 35, (-1099511627776), 1099511627776⟩, ⟨false, 36, (-1099511627776), 1099511627776⟩] : List Ent), .cells 240 [.ptr 2 33], .cells 171 [.osl 3 0 4 3, .fn (.func 147) [] [.ptr 4 0]]]) Z ?_
   refine S Z (S Z (S Z ?_))
   refine vH (OpH.allocZ (v := (.agg [.nils, .nilf])) zeroValue171 (ZR.agg (ZL.cons ZR.nils (ZL.cons ZR.nilf ZL.nil)))) ?_
   refine aV (.ptr 6 0) [_, _, _, _, _, _, .cells 171 [.nils, .nilf]] Z Z ?_
   refine vU (OpU.store Z Z Z sizeOf171 Z Z Z Z Z Z Z) ?_
   refine WO.atH (H := [_, _, _, _, _, _, .cells 171 [.osl 3 0 (([⟨false, 33, 0, 39⟩, ⟨false, 34, 0, 255⟩, ⟨false, 35, (-1099511627776), 1099511627776⟩, ⟨false, 36, (-1099511627776), 1099511627776⟩] : List Ent).length) 3, .fn (.func 147) [] [.ptr 4 0]]]) Z ?_
   refine S Z (Nx (Rg (S Z (S Z (S Z (Fpg (gT Z) fa_171_1 Z (Ldg (gT Z) isAgg35 Z (Bd h39 fun r63 hr63 h39 => ?_))))))))
   refine WO.callD [4, 2] (OpC.clo call147 Z Z Z Z) (k_ef _ _ _ hr63) ?_ (hg := (gT Z))
   rintro _ _ ⟨rfl, rfl⟩
   refine aV (.bool (decide (a1.Silence.Lo ≤ a1.Silence.Hi))) [_, _, _, _, _, _, _] Z Z ?_
   refine Sg (gT Z) Z (S Z (Nx (Cn Z h39 (fun hc64 h39 => ?_) (fun hc64 h39 => ?_))))
   ·refine Rg (S Z (S Z (Nx (TC.ret ?_))))
    obtain rfl := Oi h39
    refine cutER (seqR ?_)
    obtain rfl := Oi h
    refine ⟨[(2, _), (3, _)], _, _, ?_, ResOK.two Z Z Z, Z, Z⟩
    refine Le.trans (Le.phantom (s := 2) (k := 1) (t := 3) (Nat.le_of_ble_eq_true Z) Z) ?_
    exact Lr [7]
   refine TC.skip ?_
   obtain rfl := Oi h39
   refine cutEN Z ?_
   refine Le.trans (Le.anyC (i := 6) (m := 1) Z) ?_
   exact Lr [0, 2, 6, 3, 1]
  ·obtain ⟨rfl, rfl⟩ := h41
   refine aV (.tup [.agg [.osl 3 0 2 3, .fn (.func 148) [] [.ptr 4 0]], .bool true]) [.cells 81 (Fact.c a1), .cells 3 [.int .i64 b2], .cells 81 (Fact.c a1), .rowr 181 3 [[.ptr 2 37, .int .i64 1, .int .i64 9999], [.ptr 2 38, .int .i64 1, .int .i64 9999]], .cells 241 [.ptr 2 37], .cells 171 [.osl 3 0 2 3, .fn (.func 148) [] [.ptr 4 0]]] Z Z ?_
   refine WO.le (Le.toEnts (i := 3) (b1 := 2) (b2 := 1) (l := [⟨false, 37, 1, 9999⟩, ⟨false, 38, 1, 9999⟩]) Z Z) ?_
   refine WO.atH (H := [.cells 81 (Fact.c a1), .cells 3 [.int .i64 b2], .cells 81 (Fact.c a1), .ents 181 2 1 ([⟨false, 37, 1, 9999⟩, ⟨false, 38, 1, 9999⟩] : List Ent), .cells 241 [.ptr 2 37], .cells 171 [.osl 3 0 2 3, .fn (.func 148) [] [.ptr 4 0]]]) Z ?_
   refine S Z (S Z (S Z ?_))
   refine vH (OpH.allocZ (v := (.agg [.nils, .nilf])) zeroValue171 (ZR.agg (ZL.cons ZR.nils (ZL.cons ZR.nilf ZL.nil)))) ?_
   refine aV (.ptr 6 0) [_, _, _, _, _, _, .cells 171 [.nils, .nilf]] Z Z ?_
   refine vU (OpU.store Z Z Z sizeOf171 Z Z Z Z Z Z Z) ?_
   refine WO.atH (H := [_, _, _, _, _, _, .cells 171 [.osl 3 0 (([⟨false, 37, 1, 9999⟩, ⟨false, 38, 1, 9999⟩] : List Ent).length) 3, .fn (.func 148) [] [.ptr 4 0]]]) Z ?_
   refine S Z (Nx (Rg (S Z (S Z (S Z (Fpg (gT Z) fa_171_1 Z (Ldg (gT Z) isAgg35 Z (Bd h39 fun r65 hr65 h39 => ?_))))))))
   refine WO.callD [4, 2] (OpC.clo call148 Z Z Z Z) (k_en _ _ _ hr65) ?_ (hg := (gT Z))
   rintro _ _ ⟨rfl, rfl⟩
   refine aV (.bool (decide (a1.Pair.A < a1.Pair.B))) [_, _, _, _, _, _, _] Z Z ?_
   refine Sg (gT Z) Z (S Z (Nx (Cn Z h39 (fun hc66 h39 => ?_) (fun hc66 h39 => ?_))))
   ·refine Rg (S Z (S Z (Nx (TC.ret ?_))))
    obtain rfl := Oi h39
    refine cutER (seqR ?_)
    obtain rfl := Oi h
    refine ⟨[(2, _), (3, _)], _, _, ?_, ResOK.two Z Z Z, Z, Z⟩
    refine Le.trans (Le.phantom (s := 2) (k := 1) (t := 3) (Nat.le_of_ble_eq_true Z) Z) ?_
    exact Lr [7]
   refine TC.skip ?_
   obtain rfl := Oi h39
   refine cutEN Z ?_
   refine Le.trans (Le.anyC (i := 6) (m := 1) Z) ?_
   exact Lr [0, 2, 6, 3, 1]
  ·obtain ⟨rfl, rfl⟩ := h41
   refine aV (.tup [.agg [.osl 3 0 4 3, .fn (.func 144) [] []], .bool true]) [.cells 81 (Fact.c a1), .cells 3 [.int .i64 b2], .cells 81 (Fact.c a1), .rowr 181 3 [[.ptr 2 39, .int .i64 1, .int .i64 1048576], [.ptr 2 40, .int .i64 1, .int .i64 9999], [.ptr 2 41, .int .i64 0, .int .i64 31], [.ptr 2 42, .int .i64 0, .int .i64 255]], .cells 171 [.osl 3 0 4 3, .fn (.func 144) [] []]] Z Z ?_
   refine WO.le (Le.toEnts (i := 3) (b1 := 2) (b2 := 1) (l := [⟨false, 39, 1, 1048576⟩, ⟨false, 40, 1, 9999⟩, ⟨false, 41, 0, 31⟩, ⟨false, 42, 0, 255⟩]) Z Z) ?_
   refine WO.atH (H := [.cells 81 (Fact.c a1), .cells 3 [.int .i64 b2], .cells 81 (Fact.c a1), .ents 181 2 1 ([⟨false, 39, 1, 1048576⟩, ⟨false, 40, 1, 9999⟩, ⟨false, 41, 0, 31⟩, ⟨false, 42, 0, 255⟩] : List Ent), .cells 171 [.osl 3 0 4 3, .fn (.func 144) [] []]]) Z ?_
   refine S Z (S Z (S Z ?_))
   refine vH (OpH.allocZ (v := (.agg [.nils, .nilf])) zeroValue171 (ZR.agg (ZL.cons ZR.nils (ZL.cons ZR.nilf ZL.nil)))) ?_
   refine aV (.ptr 5 0) [_, _, _, _, _, .cells 171 [.nils, .nilf]] Z Z ?_
   refine vU (OpU.store Z Z Z sizeOf171 Z Z Z Z Z Z Z) ?_
   refine WO.atH (H := [_, _, _, _, _, .cells 171 [.osl 3 0 (([⟨false, 39, 1, 1048576⟩, ⟨false, 40, 1, 9999⟩, ⟨false, 41, 0, 31⟩, ⟨false, 42, 0, 255⟩] : List Ent).length) 3, .fn (.func 144) [] []]]) Z ?_
   refine S Z (Nx (Rg (S Z (S Z (S Z (Fpg (gT Z) fa_171_1 Z (Ldg (gT Z) isAgg35 Z (Bd h39 fun r67 hr67 h39 => ?_))))))))
   refine WO.callD [] (OpC.clo call144 Z Z Z Z) (k_c _ _ hr67) ?_ (hg := (gT Z))
   rintro _ _ ⟨rfl, rfl⟩
   refine aV (.bool true) [_, _, _, _, _, _] Z Z ?_
   refine Sg (gT Z) Z (S Z (Nx (CnF Z Z (TC.skip ?_))))
   obtain rfl := Oi h39
   refine cutEN Z ?_
   refine Le.trans (Le.anyC (i := 5) (m := 1) Z) ?_
   exact Lr [0, 2, 5, 3, 1]
  ·obtain ⟨rfl, rfl⟩ := h41
   refine aV (.tup [.agg [.osl 3 0 4 3, .fn (.func 144) [] []], .bool true]) [.cells 81 (Fact.c a1), .cells 3 [.int .i64 b2], .cells 81 (Fact.c a1), .rowr 181 3 [[.ptr 2 43, .int .i64 1, .int .i64 1048576], [.ptr 2 44, .int .i64 0, .int .i64 9999], [.ptr 2 45, .int .i64 0, .int .i64 1125899906842624], [.ptr 2 46, .int .i64 0, .int .i64 1]], .cells 171 [.osl 3 0 4 3, .fn (.func 144) [] []]] Z Z ?_
   refine WO.le (Le.toEnts (i := 3) (b1 := 2) (b2 := 1) (l := [⟨false, 43, 1, 1048576⟩, ⟨false, 44, 0, 9999⟩, ⟨false, 45, 0, 1125899906842624⟩, ⟨false, 46, 0, 1⟩]) Z Z) ?_
   refine WO.atH (H := [.cells 81 (Fact.c a1), .cells 3 [.int .i64 b2], .cells 81 (Fact.c a1), .ents 181 2 1 ([⟨false, 43, 1, 1048576⟩, ⟨false, 44, 0, 9999⟩, ⟨false, 45, 0, 1125899906842624⟩, ⟨false, 46, 0, 1⟩] : List Ent), .cells 171 [.osl 3 0 4 3, .fn (.func 144) [] []]]) Z ?_
   refine S Z (S Z (S Z ?_))
   refine vH (OpH.allocZ (v := (.agg [.nils, .nilf])) zeroValue171 (ZR.agg (ZL.cons ZR.nils (ZL.cons ZR.nilf ZL.nil)))) ?_
   refine aV (.ptr 5 0) [_, _, _, _, _, .cells 171 [.nils, .nilf]] Z Z ?_
   refine vU (OpU.store Z Z Z sizeOf171 Z Z Z Z Z Z Z) ?_
   refine WO.atH (H := [_, _, _, _, _, .cells 171 [.osl 3 0 (([⟨false, 43, 1, 1048576⟩, ⟨false, 44, 0, 9999⟩, ⟨false, 45, 0, 1125899906842624⟩, ⟨false, 46, 0, 1⟩] : List Ent).length) 3, .fn (.func 144) [] []]]) Z ?_
   refine S Z (Nx (Rg (S Z (S Z (S Z (Fpg (gT Z) fa_171_1 Z (Ldg (gT Z) isAgg35 Z (Bd h39 fun r68 hr68 h39 => ?_))))))))
   refine WO.callD [] (OpC.clo call144 Z Z Z Z) (k_c _ _ hr68) ?_ (hg := (gT Z))
   rintro _ _ ⟨rfl, rfl⟩
   refine aV (.bool true) [_, _, _, _, _, _] Z Z ?_
   refine Sg (gT Z) Z (S Z (Nx (CnF Z Z (TC.skip ?_))))
   obtain rfl := Oi h39
   refine cutEN Z ?_
   refine Le.trans (Le.anyC (i := 5) (m := 1) Z) ?_
   exact Lr [0, 2, 5, 3, 1]
  ·obtain ⟨rfl, rfl⟩ := h41
   refine aV (.tup [.agg [.osl 3 0 6 3, .fn (.func 144) [] []], .bool true]) [.cells 81 (Fact.c a1), .cells 3 [.int .i64 b2], .cells 81 (Fact.c a1), .rowr 181 3 [[.ptr 2 47, .int .i64 1, .int .i64 1048576], [.ptr 2 48, .int .i64 1, .int .i64 2], [.ptr 2 49, .int .i64 1, .int .i64 5], [.ptr 2 50, .int .i64 x51.1, .int .i64 x51.2.1], [.ptr 2 51, .int .i64 x51.2.2.1, .int .i64 x51.2.2.2.1], [.ptr 2 52, .int .i64 x51.2.2.2.2.1, .int .i64 x51.2.2.2.2.2]], .cells 171 [.osl 3 0 6 3, .fn (.func 144) [] []]] Z Z ?_
   refine WO.le (Le.toEnts (i := 3) (b1 := 2) (b2 := 1) (l := [⟨false, 47, 1, 1048576⟩, ⟨false, 48, 1, 2⟩, ⟨false, 49, 1, 5⟩, ⟨false, 50, x51.1, x51.2.1⟩, ⟨false, 51, x51.2.2.1, x51.2.2.2.1⟩, ⟨false, 52, x51.2.2.2.2.1, x51.2.2.2.2.2⟩]) Z Z) ?_
   refine WO.atH (H := [.cells 81 (Fact.c a1), .cells 3 [.int .i64 b2], .cells 81 (Fact.c a1), .ents 181 2 1 ([⟨false, 47, 1, 1048576⟩, ⟨false, 48, 1, 2⟩, ⟨false, 49, 1, 5⟩, ⟨false, 50, x51.1, x51.2.1⟩, ⟨false, 51, x51.2.2.1, x51.2.2.2.1⟩, ⟨false, 52, x51.2.2.2.2.1, x51.2.2.2.2.2⟩] : List Ent), .cells 171 [.osl 3 0 6 3, .fn (.func 144) [] []]]) Z ?_
   refine S Z (S Z (S Z ?_))
   refine vH (OpH.allocZ (v := (.agg [.nils, .nilf])) zeroValue171 (ZR.agg (ZL.cons ZR.nils (ZL.cons ZR.nilf ZL.nil)))) ?_
   refine aV (.ptr 5 0) [_, _, _, _, _, .cells 171 [.nils, .nilf]] Z Z ?_
   refine vU (OpU.store Z Z Z sizeOf171 Z Z Z Z Z Z Z) ?_
   refine WO.atH (H := [_, _, _, _, _, .cells 171 [.osl 3 0 (([⟨false, 47, 1, 1048576⟩, ⟨false, 48, 1, 2⟩, ⟨false, 49, 1, 5⟩, ⟨false, 50, x51.1, x51.2.1⟩, ⟨false, 51, x51.2.2.1, x51.2.2.2.1⟩, ⟨false, 52, x51.2.2.2.2.1, x51.2.2.2.2.2⟩] : List Ent).length) 3, .fn (.func 144) [] []]]) Z ?_
   refine S Z (Nx (Rg (S Z (S Z (S Z (Fpg (gT Z) fa_171_1 Z (Ldg (gT Z) isAgg35 Z (Bd h39 fun r69 hr69 h39 => ?_))))))))
   refine WO.callD [] (OpC.clo call144 Z Z Z Z) (k_c _ _ hr69) ?_ (hg := (gT Z))
   rintro _ _ ⟨rfl, rfl⟩
   refine aV (.bool true) [_, _, _, _, _, _] Z Z ?_
   refine Sg (gT Z) Z (S Z (Nx (CnF Z Z (TC.skip ?_))))
   obtain rfl := Oi h39
   refine cutEN Z ?_
   refine Le.trans (Le.anyC (i := 5) (m := 1) Z) ?_
   exact Lr [0, 2, 5, 3, 1]
  ·obtain ⟨rfl, rfl⟩ := h41
   refine aV (.tup [.agg [.osl 3 0 2 3, .fn (.func 144) [] []], .bool true]) [.cells 81 (Fact.c a1), .cells 3 [.int .i64 b2], .cells 81 (Fact.c a1), .rowr 181 3 [[.ptr 2 53, .int .i64 1, .int .i64 1048576], [.ptr 1 0, .int .i64 0, .int .i64 1]], .cells 171 [.osl 3 0 2 3, .fn (.func 144) [] []]] Z Z ?_
   refine WO.le (Le.toEnts (i := 3) (b1 := 2) (b2 := 1) (l := [⟨false, 53, 1, 1048576⟩, ⟨true, 0, 0, 1⟩]) Z Z) ?_
   refine WO.atH (H := [.cells 81 (Fact.c a1), .cells 3 [.int .i64 b2], .cells 81 (Fact.c a1), .ents 181 2 1 ([⟨false, 53, 1, 1048576⟩, ⟨true, 0, 0, 1⟩] : List Ent), .cells 171 [.osl 3 0 2 3, .fn (.func 144) [] []]]) Z ?_
   refine S Z (S Z (S Z ?_))
   refine vH (OpH.allocZ (v := (.agg [.nils, .nilf])) zeroValue171 (ZR.agg (ZL.cons ZR.nils (ZL.cons ZR.nilf ZL.nil)))) ?_
   refine aV (.ptr 5 0) [_, _, _, _, _, .cells 171 [.nils, .nilf]] Z Z ?_
   refine vU (OpU.store Z Z Z sizeOf171 Z Z Z Z Z Z Z) ?_
   refine WO.atH (H := [_, _, _, _, _, .cells 171 [.osl 3 0 (([⟨false, 53, 1, 1048576⟩, ⟨true, 0, 0, 1⟩] : List Ent).length) 3, .fn (.func 144) [] []]]) Z ?_
   refine S Z (Nx (Rg (S Z (S Z (S Z (Fpg (gT Z) fa_171_1 Z (Ldg (gT Z) isAgg35 Z (Bd h39 fun r70 hr70 h39 => ?_))))))))
   refine WO.callD [] (OpC.clo call144 Z Z Z Z) (k_c _ _ hr70) ?_ (hg := (gT Z))
   rintro _ _ ⟨rfl, rfl⟩
   refine aV (.bool true) [_, _, _, _, _, _] Z Z ?_
   refine Sg (gT Z) Z (S Z (Nx (CnF Z Z (TC.skip ?_))))
   obtain rfl := Oi h39
   refine cutEN Z ?_
   refine Le.trans (Le.anyC (i := 5) (m := 1) Z) ?_
   exact Lr [0, 2, 5, 3, 1]
  ·obtain ⟨rfl, rfl⟩ := h41
   refine aV (.tup [.agg [.nils, .fn (.func 144) [] []], .bool true]) [.cells 81 (Fact.c a1), .cells 3 [.int .i64 b2], .cells 81 (Fact.c a1), .cells 171 [.nils, .fn (.func 144) [] []]] Z Z ?_
   refine S Z (S Z (S Z ?_))
   refine vH (OpH.allocZ (v := (.agg [.nils, .nilf])) zeroValue171 (ZR.agg (ZL.cons ZR.nils (ZL.cons ZR.nilf ZL.nil)))) ?_
   refine aV (.ptr 4 0) [_, _, _, _, .cells 171 [.nils, .nilf]] Z Z ?_
   refine vU (OpU.store Z Z Z sizeOf171 Z Z Z Z Z Z Z) ?_
   refine WO.atH (H := [_, _, _, _, .cells 171 [.nils, .fn (.func 144) [] []]]) Z ?_
   refine S Z (Nx (Rg (S Z (S Z (S Z (Fpg (gT Z) fa_171_1 Z (Ldg (gT Z) isAgg35 Z (Bd h39 fun r71 hr71 h39 => ?_))))))))
   refine WO.callD [] (OpC.clo call144 Z Z Z Z) (k_c _ _ hr71) ?_ (hg := (gT Z))
   rintro _ _ ⟨rfl, rfl⟩
   refine aV (.bool true) [_, _, _, _, _] Z Z ?_
   refine Sg (gT Z) Z (S Z (Nx (CnF Z Z (TC.skip ?_))))
   obtain rfl := Oi h39
   refine cutEN Z ?_
   refine Le.trans (Le.anyC (i := 4) (m := 1) Z) ?_
   refine Le.trans (Le.phantomE (i := 4) (m := 0) (t := 181) (b1 := 2) (b2 := 1) Z Z Z) ?_
   exact Lr [0, 2, 4, 5, 1]
  ·obtain ⟨rfl, rfl⟩ := h41
   refine aV (.tup [.agg [.osl 3 0 2 3, .fn (.func 144) [] []], .bool true]) [.cells 81 (Fact.c a1), .cells 3 [.int .i64 b2], .cells 81 (Fact.c a1), .rowr 181 3 [[.ptr 2 55, .int .i64 0, .int .i64 31], [.ptr 2 56, .int .i64 1, .int .i64 1048576]], .cells 171 [.osl 3 0 2 3, .fn (.func 144) [] []]] Z Z ?_
   refine WO.le (Le.toEnts (i := 3) (b1 := 2) (b2 := 1) (l := [⟨false, 55, 0, 31⟩, ⟨false, 56, 1, 1048576⟩]) Z Z) ?_
   refine WO.atH (H := [.cells 81 (Fact.c a1), .cells 3 [.int .i64 b2], .cells 81 (Fact.c a1), .ents 181 2 1 ([⟨false, 55, 0, 31⟩, ⟨false, 56, 1, 1048576⟩] : List Ent), .cells 171 [.osl 3 0 2 3, .fn (.func 144) [] []]]) Z ?_
   refine S Z (S Z (S Z ?_))
   refine vH (OpH.allocZ (v := (.agg [.nils, .nilf])) zeroValue171 (ZR.agg (ZL.cons ZR.nils (ZL.cons ZR.nilf ZL.nil)))) ?_
   refine aV (.ptr 5 0) [_, _, _, _, _, .cells 171 [.nils, .nilf]] Z Z ?_
   refine vU (OpU.store Z Z Z sizeOf171 Z Z Z Z Z Z Z) ?_
   refine WO.atH (H := [_, _, _, _, _, .cells 171 [.osl 3 0 (([⟨false, 55, 0, 31⟩, ⟨false, 56, 1, 1048576⟩] : List Ent).length) 3, .fn (.func 144) [] []]]) Z ?_
   refine S Z (Nx (Rg (S Z (S Z (S Z (Fpg (gT Z) fa_171_1 Z (Ldg (gT Z) isAgg35 Z (Bd h39 fun r72 hr72 h39 => ?_))))))))
   refine WO.callD [] (OpC.clo call144 Z Z Z Z) (k_c _ _ hr72) ?_ (hg := (gT Z))
   rintro _ _ ⟨rfl, rfl⟩
   refine aV (.bool true) [_, _, _, _, _, _] Z Z ?_
   refine Sg (gT Z) Z (S Z (Nx (CnF Z Z (TC.skip ?_))))
   obtain rfl := Oi h39
   refine cutEN Z ?_
   refine Le.trans (Le.anyC (i := 5) (m := 1) Z) ?_
   exact Lr [0, 2, 5, 3, 1]
  ·obtain ⟨rfl, rfl⟩ := h41
   refine aV (.tup [.agg [.nils, .nilf], .bool false]) [.cells 81 (Fact.c a1), .cells 3 [.int .i64 b2], .cells 81 (Fact.c a1), .cells 171 [.nils, .nilf]] Z Z ?_
   refine S Z (S Z (S Z ?_))
   refine vH (OpH.allocZ (v := (.agg [.nils, .nilf])) zeroValue171 (ZR.agg (ZL.cons ZR.nils (ZL.cons ZR.nilf ZL.nil)))) ?_
   refine aV (.ptr 4 0) [_, _, _, _, .cells 171 [.nils, .nilf]] Z Z ?_
   refine vU (OpU.store Z Z Z sizeOf171 Z Z Z Z Z Z Z) ?_
   refine WO.atH (H := [_, _, _, _, _]) Z ?_
   refine S Z (Nx (Rg (S Z (S Z (S Z (KF Z Z (KF Z Z (KF Z Z (KF Z Z (S Z (Nx (CnT Z Z (Rg (S Z (S Z (Nx (TC.ret ?_)))))))))))))))))
   obtain rfl := Oi h39
   refine cutER (seqR ?_)
   obtain rfl := Oi h
   refine ⟨[(2, _), (3, _)], _, _, ?_, ResOK.two Z Z Z, Z, Z⟩
   refine Le.trans (Le.phantom (s := 2) (k := 1) (t := 3) (Nat.le_of_ble_eq_true Z) Z) ?_
   exact Lr [5]
 subst hb
 refine seqN (TC.le hle (Rg ?_))
 refine vH (OpH.allocZ (v := (.agg [.int .i64 0, .int .i64 0, .int .i64 0, .int .i64 0, .int .i64 0, .int .i64 0, .int .i64 0, .int .i64 0, .int .i64 0, .int .i64 0, .int .i64 0, .int .i64 0, .int .i64 0, .int .i64 0, .int .i64 0, .int .i64 0, .int .i64 0, .int .i64 0, .int .i64 0, .int .i64 0, .int .i64 0, .int .i64 0, .int .i64 0, .int .i64 0, .int .i64 0, .int .i64 0, .int .i64 0, .int .i64 0, .int .i64 0, .int .i64 0, .int .i64 0, .int .i64 0, .int .i64 0, .int .i64 0, .int .i64 0, .int .i64 0, .int .i64 0, .int .i64 0, .int .i64 0, .int .i64 0, .int .i64 0, .int .i64 0, .int .i64 0, .int .i64 0, .int .i64 0, .int .i64 0, .int .i64 0, .int .i64 0, .int .i64 0, .int .i64 0, .int .i64 0, .int .i64 0, .int .i64 0, .int .i64 0, .bool false, .int .i64 0, .int .i64 0])) zeroValue81 (ZR.agg (ZL.cons ZR.int (ZL.cons ZR.int (ZL.cons ZR.int (ZL.cons ZR.int (ZL.cons ZR.int (ZL.cons ZR.int (ZL.cons ZR.int (ZL.cons ZR.int (ZL.cons ZR.int (ZL.cons ZR.int (ZL.cons ZR.int (ZL.cons ZR.int (ZL.cons ZR.int (ZL.cons ZR.int (ZL.cons ZR.int (ZL.cons ZR.int (ZL.cons ZR.int (ZL.cons ZR.int (ZL.cons ZR.int (ZL.cons ZR.int (ZL.cons ZR.int (ZL.cons ZR.int (ZL.cons ZR.int (ZL.cons ZR.int (ZL.cons ZR.int (ZL.cons ZR.int (ZL.cons ZR.int (ZL.cons ZR.int (ZL.cons ZR.int (ZL.cons ZR.int (ZL.cons ZR.int (ZL.cons ZR.int (ZL.cons ZR.int (ZL.cons ZR.int (ZL.cons ZR.int (ZL.cons ZR.int (ZL.cons ZR.int (ZL.cons ZR.int (ZL.cons ZR.int (ZL.cons ZR.int (ZL.cons ZR.int (ZL.cons ZR.int (ZL.cons ZR.int (ZL.cons ZR.int (ZL.cons ZR.int (ZL.cons ZR.int (ZL.cons ZR.int (ZL.cons ZR.int (ZL.cons ZR.int (ZL.cons ZR.int (ZL.cons ZR.int (ZL.cons ZR.int (ZL.cons ZR.int (ZL.cons ZR.int (ZL.cons ZR.bool (ZL.cons ZR.int (ZL.cons ZR.int ZL.nil))))))))))))))))))))))))))))))))))))))))))))))))))))))))))) ?_
 refine aV (.ptr 5 0) [_, _, _, _, _, .cells 81 [.int .i64 0, .int .i64 0, .int .i64 0, .int .i64 0, .int .i64 0, .int .i64 0, .int .i64 0, .int .i64 0, .int .i64 0, .int .i64 0, .int .i64 0, .int .i64 0, .int .i64 0, .int .i64 0, .int .i64 0, .int .i64 0, .int .i64 0, .int .i64 0, .int .i64 0, .int .i64 0, .int .i64 0, .int .i64 0, .int .i64 0, .int .i64 0, .int .i64 0, .int .i64 0, .int .i64 0, .int .i64 0, .int .i64 0, .int .i64 0, .int .i64 0, .int .i64 0, .int .i64 0, .int .i64 0, .int .i64 0, .int .i64 0, .int .i64 0, .int .i64 0, .int .i64 0, .int .i64 0, .int .i64 0, .int .i64 0, .int .i64 0, .int .i64 0, .int .i64 0, .int .i64 0, .int .i64 0, .int .i64 0, .int .i64 0, .int .i64 0, .int .i64 0, .int .i64 0, .int .i64 0, .int .i64 0, .bool false, .int .i64 0, .int .i64 0]] Z Z ?_
 refine Nx (Rg ?_)
 refine vX (.fn (.func 83) [] [.ptr 0 0]) (OpV.makeFunc (first := []) (cap := [.tmp 1]) Z Z Z) ?_
 refine S Z (Nx (TC.seq ?_))
 obtain ⟨r73, hr73, h⟩ := bnd h
 refine TC.draws 3 0 [31, 32, 33] [true, false, false] [[], [], []] [[], [0]] [[(0, 1)], [(0, 0), (1, 1)], [(0, 0), (1, 1)]] [.osl 6 0 4 3, .ptr 2 0, .osl 3 0 sb38.length 3] [[.cells 81 (Fact.c a1), .cells 81 (Fact.c a1), .cells 171 [.osl 3 0 sb38.length 3, .any], .ents 181 1 4 sb38, .cells 3 [.int .i64 b2], .cells 81 [.int .i64 0, .int .i64 0, .int .i64 0, .int .i64 0, .int .i64 0, .int .i64 0, .int .i64 0, .int .i64 0, .int .i64 0, .int .i64 0, .int .i64 0, .int .i64 0, .int .i64 0, .int .i64 0, .int .i64 0, .int .i64 0, .int .i64 0, .int .i64 0, .int .i64 0, .int .i64 0, .int .i64 0, .int .i64 0, .int .i64 0, .int .i64 0, .int .i64 0, .int .i64 0, .int .i64 0, .int .i64 0, .int .i64 0, .int .i64 0, .int .i64 0, .int .i64 0, .int .i64 0, .int .i64 0, .int .i64 0, .int .i64 0, .int .i64 0, .int .i64 0, .int .i64 0, .int .i64 0, .int .i64 0, .int .i64 0, .int .i64 0, .int .i64 0, .int .i64 0, .int .i64 0, .int .i64 0, .int .i64 0, .int .i64 0, .int .i64 0, .int .i64 0, .int .i64 0, .int .i64 0, .int .i64 0, .bool false, .int .i64 0, .int .i64 0]], [.cells 81 (Fact.c a1), .cells 81 (Fact.c a1), .cells 171 [.osl 3 0 sb38.length 3, .any], .ents 181 1 4 sb38, .cells 3 [.int .i64 b2], .cells 81 [.int .i64 0, .int .i64 0, .int .i64 0, .int .i64 0, .int .i64 0, .int .i64 0, .int .i64 0, .int .i64 0, .int .i64 0, .int .i64 0, .int .i64 0, .int .i64 0, .int .i64 0, .int .i64 0, .int .i64 0, .int .i64 0, .int .i64 0, .int .i64 0, .int .i64 0, .int .i64 0, .int .i64 0, .int .i64 0, .int .i64 0, .int .i64 0, .int .i64 0, .int .i64 0, .int .i64 0, .int .i64 0, .int .i64 0, .int .i64 0, .int .i64 0, .int .i64 0, .int .i64 0, .int .i64 0, .int .i64 0, .int .i64 0, .int .i64 0, .int .i64 0, .int .i64 0, .int .i64 0, .int .i64 0, .int .i64 0, .int .i64 0, .int .i64 0, .int .i64 0, .int .i64 0, .int .i64 0, .int .i64 0, .int .i64 0, .int .i64 0, .int .i64 0, .int .i64 0, .int .i64 0, .int .i64 0, .bool false, .int .i64 0, .int .i64 0], .rowr 181 3 [[.ptr 1 3, .int .i64 1, .int .i64 13], [.ptr 1 0, .int .i64 0, .int .i64 31], [.ptr 1 1, .int .i64 1, .int .i64 1048576], [.ptr 1 2, .int .i64 0, .int .i64 1099511627776]]]] ([.cells 81 (Fact.c a1), .cells 81 (Fact.c a1), .cells 171 [.osl 3 0 sb38.length 3, .any], .ents 181 1 4 sb38, .cells 3 [.int .i64 b2], .cells 81 [.int .i64 0, .int .i64 0, .int .i64 0, .int .i64 0, .int .i64 0, .int .i64 0, .int .i64 0, .int .i64 0, .int .i64 0, .int .i64 0, .int .i64 0, .int .i64 0, .int .i64 0, .int .i64 0, .int .i64 0, .int .i64 0, .int .i64 0, .int .i64 0, .int .i64 0, .int .i64 0, .int .i64 0, .int .i64 0, .int .i64 0, .int .i64 0, .int .i64 0, .int .i64 0, .int .i64 0, .int .i64 0, .int .i64 0, .int .i64 0, .int .i64 0, .int .i64 0, .int .i64 0, .int .i64 0, .int .i64 0, .int .i64 0, .int .i64 0, .int .i64 0, .int .i64 0, .int .i64 0, .int .i64 0, .int .i64 0, .int .i64 0, .int .i64 0, .int .i64 0, .int .i64 0, .int .i64 0, .int .i64 0, .int .i64 0, .int .i64 0, .int .i64 0, .int .i64 0, .int .i64 0, .int .i64 0, .bool false, .int .i64 0, .int .i64 0], .rowr 181 3 [[.ptr 1 3, .int .i64 1, .int .i64 13], [.ptr 1 0, .int .i64 0, .int .i64 31], [.ptr 1 1, .int .i64 1, .int .i64 1048576], [.ptr 1 2, .int .i64 0, .int .i64 1099511627776]]]) draws Z Z Z Z Z Z Z ?_ Z ?_
 ·refine OblM.cons ?_ (OblM.cons ?_ (OblM.cons ?_ (OblM.nil)))
  ·refine OblM.stC ?_ (OblM.st0)
   ·refine Om1 Z (sO 5 sN) ?_
    refine WO.callD [1] (OpC.fn call84 Z Z Z) (k_ae _ _ _ hr73) ?_
    rintro _ _ ⟨rfl, rfl⟩
    refine aV (.osl 6 0 4 3) [_, _, _, _, _, _, .rowr 181 3 [[.ptr 1 3, .int .i64 1, .int .i64 13], [.ptr 1 0, .int .i64 0, .int .i64 31], [.ptr 1 1, .int .i64 1, .int .i64 1048576], [.ptr 1 2, .int .i64 0, .int .i64 1099511627776]]] Z Z ?_
    exact Wp
  ·refine OblM.stC ?_ (OblM.stC ?_ (OblM.st0))
   ·refine Om Z (sO 6 sN) ?_
    exact Fp fa_171_0 Z Wp
   ·refine Om Z (sO 6 sN) ?_
    exact Fp fa_171_0 Z Wp
  ·refine OblM.stC ?_ (OblM.stC ?_ (OblM.st0))
   ·refine Om Z (sD 1 sN) ?_
    exact Ld isAgg169 Z Wp
   ·refine Om Z (sD 1 sN) ?_
    exact Ld isAgg169 Z Wp
 refine WO.le (Le.toEnts (i := 6) (b1 := 1) (b2 := 4) (l := [⟨false, 3, 1, 13⟩, ⟨false, 0, 0, 31⟩, ⟨false, 1, 1, 1048576⟩, ⟨false, 2, 0, 1099511627776⟩]) Z Z) ?_
 refine WO.atH (H := [.cells 81 (Fact.c a1), .cells 81 (Fact.c a1), .cells 171 [.osl 3 0 sb38.length 3, .any], .ents 181 1 4 sb38, .cells 3 [.int .i64 b2], .cells 81 [.int .i64 0, .int .i64 0, .int .i64 0, .int .i64 0, .int .i64 0, .int .i64 0, .int .i64 0, .int .i64 0, .int .i64 0, .int .i64 0, .int .i64 0, .int .i64 0, .int .i64 0, .int .i64 0, .int .i64 0, .int .i64 0, .int .i64 0, .int .i64 0, .int .i64 0, .int .i64 0, .int .i64 0, .int .i64 0, .int .i64 0, .int .i64 0, .int .i64 0, .int .i64 0, .int .i64 0, .int .i64 0, .int .i64 0, .int .i64 0, .int .i64 0, .int .i64 0, .int .i64 0, .int .i64 0, .int .i64 0, .int .i64 0, .int .i64 0, .int .i64 0, .int .i64 0, .int .i64 0, .int .i64 0, .int .i64 0, .int .i64 0, .int .i64 0, .int .i64 0, .int .i64 0, .int .i64 0, .int .i64 0, .int .i64 0, .int .i64 0, .int .i64 0, .int .i64 0, .int .i64 0, .int .i64 0, .bool false, .int .i64 0, .int .i64 0], .ents 181 1 4 ([⟨false, 3, 1, 13⟩, ⟨false, 0, 0, 31⟩, ⟨false, 1, 1, 1048576⟩, ⟨false, 2, 0, 1099511627776⟩] : List Ent)]) Z ?_
 refine Bd h fun l74 hl74 h => ?_
 refine vH (OpH.appE' (i := 6) (j := 3) hl74 el_169 runUnderlying169 Z) ?_
 refine aV (.osl 7 0 l74.length 3) [_, _, _, _, _, _, .dead, .ents 181 1 4 l74] Z Z ?_
 refine S Z (Nx (Rg ?_))
 refine vH (OpH.allocZ (v := (.int .i64 0)) zeroValue3 ZR.int) ?_
 refine aV (.ptr 8 0) [_, _, _, _, _, _, _, _, .cells 3 [.int .i64 0]] Z Z ?_
 refine vU (OpU.store Z Z Z sizeOf3 Z Z Z Z Z Z Z) ?_
 refine WO.atH (H := [_, _, _, _, _, _, _, _, _]) Z ?_
 refine Nx (Rg (Fp fa_81_13 Z (Fp fa_75_2 Z (Ld isAgg3 Z (Fp fa_81_13 Z (Fp fa_75_2 Z ?_))))))
 refine vU (OpU.store Z Z Z sizeOf3 Z Z Z Z Z Z Z) ?_
 refine WO.atH (H := [_, _, _, _, _, .cells 81 [.int .i64 0, .int .i64 0, .int .i64 0, .int .i64 0, .int .i64 0, .int .i64 0, .int .i64 0, .int .i64 0, .int .i64 0, .int .i64 0, .int .i64 0, .int .i64 0, .int .i64 0, .int .i64 0, .int .i64 0, .int .i64 0, .int .i64 0, .int .i64 0, .int .i64 0, .int .i64 0, .int .i64 0, .int .i64 0, .int .i64 0, .int .i64 0, .int .i64 0, .int .i64 0, .int .i64 0, .int .i64 0, .int .i64 0, .int .i64 0, .int .i64 0, .int .i64 0, .int .i64 0, .int .i64 0, .int .i64 0, .int .i64 0, .int .i64 0, .int .i64 0, .int .i64 0, .int .i64 0, .int .i64 0, .int .i64 0, .int .i64 0, .int .i64 0, .int .i64 0, .int .i64 0, .int .i64 0, .int .i64 0, .int .i64 0, .int .i64 a1.Ruling.Kind, .int .i64 0, .int .i64 0, .int .i64 0, .int .i64 0, .bool false, .int .i64 0, .int .i64 0], _, _, _]) Z ?_
 refine Nx (Rg (S Z (Bd h fun r75 hr75 h => ?_)))
 refine WO.callD [5, 8, 0] (OpC.clo call83 Z Z Z Z) (k_ct _ _ _ _ _ hr75) ?_
 rintro _ _ ⟨rfl, rfl⟩
 refine aV (.osl 9 0 r75.length 3) [_, _, _, _, _, .cells 81 [.int .i64 0, .int .i64 0, .int .i64 0, .int .i64 a1.Kind, .int .i64 0, .int .i64 0, .int .i64 0, .int .i64 0, .int .i64 0, .int .i64 0, .int .i64 0, .int .i64 0, .int .i64 0, .int .i64 0, .int .i64 0, .int .i64 0, .int .i64 0, .int .i64 0, .int .i64 0, .int .i64 0, .int .i64 0, .int .i64 0, .int .i64 0, .int .i64 0, .int .i64 0, .int .i64 0, .int .i64 0, .int .i64 0, .int .i64 0, .int .i64 0, .int .i64 0, .int .i64 0, .int .i64 0, .int .i64 0, .int .i64 0, .int .i64 0, .int .i64 0, .int .i64 0, .int .i64 0, .int .i64 0, .int .i64 0, .int .i64 0, .int .i64 0, .int .i64 0, .int .i64 0, .int .i64 0, .int .i64 0, .int .i64 0, .int .i64 0, .int .i64 a1.Ruling.Kind, .int .i64 0, .int .i64 0, .int .i64 0, .int .i64 0, .bool false, .int .i64 0, .int .i64 0], _, _, _, .ents 181 5 8 r75] Z Z ?_
 refine S Z (Nx (TC.seq (Rg (S Z (LnO runUnderlying169 Z (S Z (Nx (Bd h fun b99 h100 h => ?_))))))))
 refine TC.cutE (b := b99) (fun sb99 => [(1, .ptr 0 0), (2, .osl 1 0 sb99.1.length 1), (7, .ptr 2 0), (10, .ptr 3 0)]) (fun sb99 => [.cells 81 (Fact.c a1), .row 3 1 (List.map (encI .i64) sb99.1), .cells 81 (Fact.c sb99.2.1), .cells 3 [.int .i64 sb99.2.2]]) ?_ (fun sb99 env H hbe hle => ?_)
 ·refine TC.block ?_
  refine TC.loop (E := fun s102 => [(1, .ptr 0 0), (2, .osl 1 0 s102.1.length 1), (7, .ptr 2 0), (10, .ptr 3 0), (11, .osl 4 0 r75.length 3), (42, .osl 5 0 l74.length 3), (43, .int .i64 (l74.length : Int)), (44, .int .i64 s102.2.2.2)]) (Hp := fun s102 => [.cells 81 (Fact.c a1), .row 3 1 (List.map (encI .i64) s102.1), .cells 81 (Fact.c s102.2.1), .cells 3 [.int .i64 s102.2.2.1], .ents 181 2 3 r75, .ents 181 6 7 l74, .cells 81 (Fact.c a1), .cells 3 [.int .i64 b2]]) h100 ?_ ?_
  ·refine Le.trans (Le.phantom (s := 2) (k := 1) (t := 3) (Nat.le_of_ble_eq_true Z) Z) ?_
   exact Lr [0, 10, 5, 8, 9, 7, 1, 4]
  intro s102 d103 h104 hb101
  refine Rg (S Z (Nx (TC.seq (CnS Z h104 (fun hc105 h104 => ?_) (fun hc105 h104 => ?_)))))
  ·refine ExX (loopX h104 ?_)
   obtain rfl := hb101 _ (Oi h104).symm
   exact bloE (cutEN Z (Lr [0, 1, 2, 3]))
  refine SkN (TC.seq (TC.block (Rg (S Z (Bd h104 fun e106 he106 h104 => ?_)))))
  refine vX (.ptr 5 (Int.toNat s102.2.2.2 * 3)) (OpV.ixW he106 Z runUnderlying169 sizeOf181) ?_
  refine vX (.agg [entP 6 7 e106, .int .i64 e106.lo, .int .i64 e106.hi]) (OpV.loadA Z isAgg181 sizeOf181 Z (Pts.ents (f := 0) (idx_ok he106).2) Z Z) ?_
  refine vH (OpH.allocZ (v := (.agg [.nilp, .int .i64 0, .int .i64 0])) zeroValue181 (ZR.agg (ZL.cons ZR.nilp (ZL.cons ZR.int (ZL.cons ZR.int ZL.nil))))) ?_
  refine aV (.ptr 8 0) [_, _, _, _, _, _, _, _, .cells 181 [.nilp, .int .i64 0, .int .i64 0]] Z Z ?_
  refine S Z ?_
  refine vU (OpU.store Z Z Z sizeOf181 Z Z Z Z Z Z Z) ?_
  refine WO.atH (H := [_, _, _, _, _, _, _, _, .cells 181 [entP 6 7 e106, .int .i64 e106.lo, .int .i64 e106.hi]]) Z ?_
  refine Nx (TC.seq (TC.seq ?_))
  obtain ⟨x107, hx107, h104⟩ := bnd h104
  refine If h104 (fun hg108 h104 => ?_) (fun hg108 h104 => ?_)
  ·refine TC.draw0 16 [49, 50, 51, 52, 53, 54, 55, 56, 57, 58, 59, 60, 61, 62, 63, 64] [.ptr 8 0, entP 6 7 e106, entP 6 7 e106, .int .i64 x107, .ptr 8 1, .ptr 8 1, .int .i64 e106.lo, .bool (decide (x107 < e106.lo)), .bool (decide (x107 < e106.lo)), .tup [], .tup [], .tup [], .tup [], .tup [], .tup [], .tup []] draws Z Z Z ?_ ?_
   ·refine Oq.c ?_ (Oq.c ?_ (Oq.c ?_ (Oq.c ?_ (Oq.c ?_ (Oq.c ?_ (Oq.c ?_ (Oq.c ?_ (Oq.c ?_ (Oq.c ?_ (Oq.c ?_ (Oq.c ?_ (Oq.c ?_ (Oq.c ?_ (Oq.c ?_ (Oq.c ?_ (Oq.n))))))))))))))))
    ·refine Om Z (sO 13 sN) ?_
     exact Fp fa_181_0 Z Wp
    ·refine Om Z (sD 0 sN) ?_
     exact Ld isAgg175 Z Wp
    ·refine Om Z (sD 1 sN) ?_
     exact S Z Wp
    ·refine Om Z (sD 2 sN) ?_
     refine vX (.int .i64 x107) (OpV.loadE hx107 isAgg3) ?_
     exact Wp
    ·refine Om Z (sO 13 sN) ?_
     exact Fp fa_181_1 Z Wp
    ·refine Om Z (sD 4 sN) ?_
     exact Fp fa_179_0 Z Wp
    ·refine Om Z (sD 5 sN) ?_
     exact Ld isAgg3 Z Wp
    ·refine Om Z (sD 3 (sD 6 sN)) ?_
     exact S Z Wp
    ·refine Om Z (sD 7 sN) ?_
     exact S Z Wp
    ·refine Om Z (sO 13 (sD 8 sN)) ?_
     exact K (gF hg108) Z Wp
    ·refine Om Z (sD 8 (sD 9 sN)) ?_
     exact K (gF hg108) Z Wp
    ·refine Om Z (sD 8 (sD 10 sN)) ?_
     exact K (gF hg108) Z Wp
    ·refine Om Z (sD 8 (sD 11 sN)) ?_
     exact K (gF hg108) Z Wp
    ·refine Om Z (sO 13 (sD 8 sN)) ?_
     exact K (gF hg108) Z Wp
    ·refine Om Z (sD 8 (sD 13 sN)) ?_
     exact K (gF hg108) Z Wp
    ·refine Om Z (sD 8 (sD 14 sN)) ?_
     exact K (gF hg108) Z Wp
   refine KF hg108 Z (Pk hg108 Z (Nx (CnT Z Z (Rg (S Z (S Z (Nx (RtR (bloR (seqR (loopR h104 ?_)))))))))))
   obtain rfl := hb101 _ (Oi h104).symm
   refine bloR (cutER (seqR ?_))
   obtain rfl := Oi h
   refine ⟨[(2, _), (3, _)], _, _, ?_, ResOK.two Z Z Z, Z, Z⟩
   refine Le.trans (Le.phantom (s := 2) (k := 1) (t := 3) (Nat.le_of_ble_eq_true Z) Z) ?_
   exact Lr [9]
  ·obtain ⟨x109, hx109, h104⟩ := bnd h104
   refine TC.draw0 16 [49, 50, 51, 52, 53, 54, 55, 56, 57, 58, 59, 60, 61, 62, 63, 64] [.ptr 8 0, entP 6 7 e106, entP 6 7 e106, .int .i64 x107, .ptr 8 1, .ptr 8 1, .int .i64 e106.lo, .bool (decide (x107 < e106.lo)), .bool (decide (x107 < e106.lo)), .ptr 8 0, entP 6 7 e106, entP 6 7 e106, .int .i64 x109, .ptr 8 1, .ptr 8 2, .int .i64 e106.hi] draws Z Z Z ?_ ?_
   ·refine Oq.c ?_ (Oq.c ?_ (Oq.c ?_ (Oq.c ?_ (Oq.c ?_ (Oq.c ?_ (Oq.c ?_ (Oq.c ?_ (Oq.c ?_ (Oq.c ?_ (Oq.c ?_ (Oq.c ?_ (Oq.c ?_ (Oq.c ?_ (Oq.c ?_ (Oq.c ?_ (Oq.n))))))))))))))))
    ·refine Om Z (sO 13 sN) ?_
     exact Fp fa_181_0 Z Wp
    ·refine Om Z (sD 0 sN) ?_
     exact Ld isAgg175 Z Wp
    ·refine Om Z (sD 1 sN) ?_
     exact S Z Wp
    ·refine Om Z (sD 2 sN) ?_
     refine vX (.int .i64 x107) (OpV.loadE hx107 isAgg3) ?_
     exact Wp
    ·refine Om Z (sO 13 sN) ?_
     exact Fp fa_181_1 Z Wp
    ·refine Om Z (sD 4 sN) ?_
     exact Fp fa_179_0 Z Wp
    ·refine Om Z (sD 5 sN) ?_
     exact Ld isAgg3 Z Wp
    ·refine Om Z (sD 3 (sD 6 sN)) ?_
     exact S Z Wp
    ·refine Om Z (sD 7 sN) ?_
     exact S Z Wp
    ·refine Om Z (sO 13 (sD 8 sN)) ?_
     exact Fpg (gT hg108) fa_181_0 Z Wp
    ·refine Om Z (sD 8 (sD 9 sN)) ?_
     exact Ldg (gT hg108) isAgg175 Z Wp
    ·refine Om Z (sD 8 (sD 10 sN)) ?_
     exact Sg (gT hg108) Z Wp
    ·refine Om Z (sD 8 (sD 11 sN)) ?_
     refine vX (.int .i64 x109) (OpV.loadE hx109 isAgg3) ?_ (gT hg108)
     exact Wp
    ·refine Om Z (sO 13 (sD 8 sN)) ?_
     exact Fpg (gT hg108) fa_181_1 Z Wp
    ·refine Om Z (sD 8 (sD 13 sN)) ?_
     exact Fpg (gT hg108) fa_179_1 Z Wp
    ·refine Om Z (sD 8 (sD 14 sN)) ?_
     exact Ldg (gT hg108) isAgg3 Z Wp
   refine Sg (gT hg108) Z (Pk hg108 Z (Nx (Cn Z h104 (fun hc110 h104 => ?_) (fun hc110 h104 => ?_))))
   ·refine Rg (S Z (S Z (Nx (RtR (bloR (seqR (loopR h104 ?_)))))))
    obtain rfl := hb101 _ (Oi h104).symm
    refine bloR (cutER (seqR ?_))
    obtain rfl := Oi h
    refine ⟨[(2, _), (3, _)], _, _, ?_, ResOK.two Z Z Z, Z, Z⟩
    refine Le.trans (Le.phantom (s := 2) (k := 1) (t := 3) (Nat.le_of_ble_eq_true Z) Z) ?_
    exact Lr [9]
   refine SkN (TC.seq ?_)
   obtain ⟨e111, he111, h104⟩ := bnd h104
   obtain ⟨x112, hx112, h104⟩ := bnd h104
   refine TC.draw0 9 [67, 68, 69, 70, 71, 72, 73, 74, 75] [.osl 4 0 r75.length 3, .int .i64 s102.2.2.2, .ptr 4 (Int.toNat s102.2.2.2 * 3), .ptr 4 (Int.toNat s102.2.2.2 * 3), entP 2 3 e111, .ptr 8 0, entP 6 7 e106, entP 6 7 e106, .int .i64 x112] draws Z Z Z ?_ ?_
   ·refine Oq.c ?_ (Oq.c ?_ (Oq.c ?_ (Oq.c ?_ (Oq.c ?_ (Oq.c ?_ (Oq.c ?_ (Oq.c ?_ (Oq.c ?_ (Oq.n)))))))))
    ·refine Om Z (sO 11 sN) ?_
     exact S Z Wp
    ·refine Om Z (sO 12 sN) ?_
     exact S Z Wp
    ·refine Om Z (sD 0 (sD 1 sN)) ?_
     refine vX (.ptr 4 (Int.toNat s102.2.2.2 * 3)) (OpV.ixW he111 Z runUnderlying169 sizeOf181) ?_
     exact Wp
    ·refine Om Z (sD 2 sN) ?_
     exact Fp fa_181_0 Z Wp
    ·refine Om Z (sD 3 sN) ?_
     refine vX (entP 2 3 e111) (OpV.load Z isAgg175 Z (Pts.ents (f := 0) (idx_ok he111).2)) ?_
     exact Wp
    ·refine Om Z (sO 13 sN) ?_
     exact Fp fa_181_0 Z Wp
    ·refine Om Z (sD 5 sN) ?_
     exact Ld isAgg175 Z Wp
    ·refine Om Z (sD 6 sN) ?_
     exact S Z Wp
    ·refine Om Z (sD 7 sN) ?_
     refine vX (.int .i64 x112) (OpV.loadE hx112 isAgg3) ?_
     exact Wp
   refine S Z (Bd h104 fun q113 hq113 h104 => ?_)
   refine vU (OpU.storeE (c := Fact.c) (f := s102.2.1) (f' := q113.1) (s' := q113.2) hq113 put_81 sizeOf3) ?_
   refine WO.atH (H := [_, _, .cells 81 (Fact.c q113.1), .cells 3 [.int .i64 q113.2], _, _, _, _, _]) Z ?_
   refine Nx (TC.region (S Z (Fp fa_181_0 Z (Ld isAgg175 Z (S Z (Bd h104 fun x114 hx114 h104 => ?_))))))
   refine vX (.int .i64 x114) (OpV.loadE hx114 isAgg3) ?_
   refine vH (OpH.lit (xs := [.tmp 81]) (es := List.map (encI .i64) [x114]) el_48 Z Z Z Z Z ⟨Z, trivial⟩ Z Z) ?_
   refine aV (.osl 9 0 ([x114].length) 1) [_, _, _, _, _, _, _, _, _, .row 3 1 (List.map (encI .i64) [x114])] Z Z ?_
   refine Bd h104 fun l115 hl115 h104 => ?_
   refine vH (OpH.appO (e := (encI .i64)) hl115 el_48 runUnderlying48 (Src.oM (i := 9))) ?_
   refine aV (.osl 10 0 l115.length 1) [_, .dead, _, _, _, _, _, _, _, _, .row 3 1 (List.map (encI .i64) l115)] Z Z ?_
   exact S Z (WO.nil (bloN (seqN (TC.region (S Z (S Z (WO.nil (loopN h104 (Lr [0, 10, 2, 3, 4, 5, 6, 7])))))))))
 subst hbe
 refine seqN (TC.le hle (TC.seq (Rg (Fp fa_81_3 Z (Ld isAgg3 Z (S Z (Nx (Bd h fun b117 h118 h => ?_))))))))
 refine TC.cut ([(1, .ptr 0 0), (2, .osl 1 0 sb99.1.length 1), (7, .ptr 2 0), (10, .ptr 3 0)]) ([.cells 81 (Fact.c a1), .row 3 1 (List.map (encI .i64) sb99.1), .cells 81 (Fact.c b117), .cells 3 [.int .i64 sb99.2.2]]) ?_ (fun env H hle => ?_)
 ·refine Cn Z h118 (fun hc119 h118 => ?_) (fun hc119 h118 => ?_)
  ·refine TC.region (Fp fa_81_13 Z (Fp fa_75_2 Z ?_))
   refine vU (OpU.store Z Z Z sizeOf3 Z Z Z Z Z Z Z) ?_
   refine WO.atH (H := [_, _, .cells 81 (Fact.c ({ Crew := sb99.2.1.Crew, No := sb99.2.1.No, At := sb99.2.1.At, Kind := sb99.2.1.Kind, Starter := sb99.2.1.Starter, Read := sb99.2.1.Read, Beacon := sb99.2.1.Beacon, Sync := sb99.2.1.Sync, Hand := sb99.2.1.Hand, Silence := sb99.2.1.Silence, Pair := sb99.2.1.Pair, Report := sb99.2.1.Report, Protest := sb99.2.1.Protest, Ruling := { Case := sb99.2.1.Ruling.Case, Instance := sb99.2.1.Ruling.Instance, Kind := 0, Bib := sb99.2.1.Ruling.Bib, Position := sb99.2.1.Ruling.Position, Amount := sb99.2.1.Ruling.Amount : Ruling }, Appeal := sb99.2.1.Appeal, Void := sb99.2.1.Void : Fact })), _]) Z ?_
   refine WO.nil ?_
   obtain rfl := Oi h118
   exact cutN (Lr [0, 1, 2, 3])
  refine TC.skip ?_
  obtain rfl := Oi h118
  exact cutN (Lr [0, 1, 2, 3])
 refine seqN (TC.le hle (Rg (Ld isAgg3 Z (S Z (Fp fa_81_14 Z (Fp fa_77_1 Z ?_))))))
 refine vU (OpU.store Z Z Z sizeOf4 Z Z Z Z Z Z Z) ?_
 refine WO.atH (H := [_, _, .cells 81 (Fact.c ({ Crew := b117.Crew, No := b117.No, At := b117.At, Kind := b117.Kind, Starter := b117.Starter, Read := b117.Read, Beacon := b117.Beacon, Sync := b117.Sync, Hand := b117.Hand, Silence := b117.Silence, Pair := b117.Pair, Report := b117.Report, Protest := b117.Protest, Ruling := b117.Ruling, Appeal := { Case := b117.Appeal.Case, Suspends := (sb99.2.2 == 1) : Appeal }, Void := b117.Void : Fact })), _]) Z ?_
 refine Nx (TC.seq ?_)
 refine TC.draw0 5 [94, 95, 96, 97, 2] [.osl 1 0 sb99.1.length 1, .agg (Fact.c ({ Crew := b117.Crew, No := b117.No, At := b117.At, Kind := b117.Kind, Starter := b117.Starter, Read := b117.Read, Beacon := b117.Beacon, Sync := b117.Sync, Hand := b117.Hand, Silence := b117.Silence, Pair := b117.Pair, Report := b117.Report, Protest := b117.Protest, Ruling := b117.Ruling, Appeal := { Case := b117.Appeal.Case, Suspends := (sb99.2.2 == 1) : Appeal }, Void := b117.Void : Fact })), .agg (Fact.c a1), .bool (({ Crew := b117.Crew, No := b117.No, At := b117.At, Kind := b117.Kind, Starter := b117.Starter, Read := b117.Read, Beacon := b117.Beacon, Sync := b117.Sync, Hand := b117.Hand, Silence := b117.Silence, Pair := b117.Pair, Report := b117.Report, Protest := b117.Protest, Ruling := b117.Ruling, Appeal := { Case := b117.Appeal.Case, Suspends := (sb99.2.2 == 1) : Appeal }, Void := b117.Void : Fact }) == a1), .osl 1 0 sb99.1.length 1] draws Z Z Z ?_ ?_
 ·refine Oq.c ?_ (Oq.c ?_ (Oq.c ?_ (Oq.c ?_ (Oq.c ?_ (Oq.n)))))
  ·refine Om Z (sP 4 sN) ?_
   exact S Z Wp
  ·refine Om Z (sO 7 sN) ?_
   refine vX (.agg (Fact.c ({ Crew := b117.Crew, No := b117.No, At := b117.At, Kind := b117.Kind, Starter := b117.Starter, Read := b117.Read, Beacon := b117.Beacon, Sync := b117.Sync, Hand := b117.Hand, Silence := b117.Silence, Pair := b117.Pair, Report := b117.Report, Protest := b117.Protest, Ruling := b117.Ruling, Appeal := { Case := b117.Appeal.Case, Suspends := (sb99.2.2 == 1) : Appeal }, Void := b117.Void : Fact }))) (OpV.loadA Z isAgg81 sizeOf81 Z (Pts.cells Z Z) Z Z) ?_
   exact Wp
  ·refine Om Z (sO 1 sN) ?_
   refine vX (.agg (Fact.c a1)) (OpV.loadA Z isAgg81 sizeOf81 Z (Pts.cells Z Z) Z Z) ?_
   exact Wp
  ·refine Om Z (sD 1 (sD 2 sN)) ?_
   refine vX (.bool (({ Crew := b117.Crew, No := b117.No, At := b117.At, Kind := b117.Kind, Starter := b117.Starter, Read := b117.Read, Beacon := b117.Beacon, Sync := b117.Sync, Hand := b117.Hand, Silence := b117.Silence, Pair := b117.Pair, Report := b117.Report, Protest := b117.Protest, Ruling := b117.Ruling, Appeal := { Case := b117.Appeal.Case, Suspends := (sb99.2.2 == 1) : Appeal }, Void := b117.Void : Fact }) == a1)) (OpV.aggEq (p := { Crew := b117.Crew, No := b117.No, At := b117.At, Kind := b117.Kind, Starter := b117.Starter, Read := b117.Read, Beacon := b117.Beacon, Sync := b117.Sync, Hand := b117.Hand, Silence := b117.Silence, Pair := b117.Pair, Report := b117.Report, Protest := b117.Protest, Ruling := b117.Ruling, Appeal := { Case := b117.Appeal.Case, Suspends := (sb99.2.2 == 1) : Appeal }, Void := b117.Void : Fact }) (q := a1) eqd_81 Z Z) ?_
   exact Wp
  ·refine Om Z (sD 0 sN) ?_
   exact S Z Wp
 refine S Z (Nx (TC.ret ?_))
 obtain rfl := Oi h
 refine ⟨[(2, _), (3, _)], _, _, ?_, ResOK.two Z Z Z, Z, Z⟩
 exact Lr [1]
def F_af (n : Nat) (a1 : Fact) : Option Int :=
  (F_v n a1).bind fun r1 => (bif (!r1.2) then some 120 else some 0)
theorem k_af (n : Nat) (a1 : Fact) (r : Int) (h : F_af n a1 = some r) :
    C prog 26 [.agg (Fact.c a1)] [] (fun a H => a = .int .i64 r ∧ H = []) := by
 refine C.of_body func26 Z Z Z ?_
 refine Rg ?_
 refine vH (OpH.box Z Z Z Z Z) ?_
 refine aV (.ptr 0 0) [.cells 81 (Fact.c a1)] Z Z ?_
 refine S Z (Nx (TC.seq (Rg ?_)))
 refine vX (.agg (Fact.c a1)) (OpV.loadA Z isAgg81 sizeOf81 Z (Pts.cells Z Z) Z Z) ?_
 refine Bd h fun r1 hr1 h => ?_
 refine WO.callD [] (OpC.fn call49 Z Z Z) (k_v _ _ _ hr1) ?_
 rintro _ _ ⟨rfl, rfl⟩
 refine aV (.tup [.osl 1 0 r1.1.length 1, .bool r1.2]) [_, .row 3 1 (List.map (encI .i64) r1.1)] Z Z ?_
 refine S Z (S Z (S Z (S Z (S Z (Nx (Rg (S Z (S Z (Nx (Cn Z h (fun hc2 h => ?_) (fun hc2 h => ?_)))))))))))
 ·refine Rg (S Z (Nx (RtR ?_)))
  obtain rfl := Oi h
  refine ⟨[(2, _)], _, _, ?_, ResOK.one Z Z, Z, Z⟩
  exact Lr []
 refine SkN (Rg (S Z (Nx (TC.ret ?_))))
 obtain rfl := Oi h
 refine ⟨[(2, _)], _, _, ?_, ResOK.one Z Z, Z, Z⟩
 exact Lr []
def F_y (n : Nat) (a1 : Int) : Option Unit :=
  some ()
theorem k_y (n : Nat) (a1 : Int) (r : Unit) (h : F_y n a1 = some r) :
    C prog 67 [.int .i64 a1] [] (fun a H => a = .bool (a1 != a1) ∧ H = []) := by
 refine C.of_body func67 Z Z Z ?_
 refine Rg (S Z (Nx (Rg (S Z (S Z (S Z (S Z (Nx (TC.ret ?_)))))))))
 obtain rfl := Oi h
 refine ⟨[(2, _)], _, _, ?_, ResOK.one Z Z, Z, Z⟩
 exact Lr []
def F_e (n : Nat) (a1 : Int) (a2 : Int) : Option Int :=
  (F_y n a1).bind fun r1 => (F_y n a2).bind fun r2 => (bif (a1 != a1) then (bif (a2 != a2) then some 0 else some (-1)) else (bif (a2 != a2) then some 1 else (bif decide (a1 < a2) then some (-1) else (bif decide (a2 < a1) then some 1 else some 0))))
theorem k_e (n : Nat) (a1 : Int) (a2 : Int) (r : Int) (h : F_e n a1 a2 = some r) :
    C prog 41 [.int .i64 a1, .int .i64 a2] [] (fun a H => a = .int .i64 r ∧ H = []) := by
 refine C.of_body func41 Z Z Z ?_
 refine Rg (S Z (Nx (Rg (S Z (Bd h fun r1 hr1 h => ?_)))))
 refine WO.callD [] (OpC.fn call67 Z Z Z) (k_y _ _ _ hr1) ?_
 rintro _ _ ⟨rfl, rfl⟩
 refine aV (.bool (a1 != a1)) [] Z Z ?_
 refine S Z (Nx (Rg (S Z (Bd h fun r2 hr2 h => ?_))))
 refine WO.callD [] (OpC.fn call67 Z Z Z) (k_y _ _ _ hr2) ?_
 rintro _ _ ⟨rfl, rfl⟩
 refine aV (.bool (a2 != a2)) [] Z Z ?_
 refine S Z (Nx (TC.seq (Rg (S Z (Nx (Cn Z h (fun hc3 h => ?_) (fun hc3 h => ?_)))))))
 ·refine TC.seq (Rg (S Z (Nx (Cn Z h (fun hc4 h => ?_) (fun hc4 h => ?_)))))
  ·refine Rg (S Z (Nx (RtR (seqR ?_))))
   obtain rfl := Oi h
   refine ⟨[(4, _)], _, _, ?_, ResOK.one Z Z, Z, Z⟩
   exact Lr []
  refine SkN (Rg (S Z (Nx (RtR ?_))))
  obtain rfl := Oi h
  refine ⟨[(4, _)], _, _, ?_, ResOK.one Z Z, Z, Z⟩
  exact Lr []
 refine SkN (TC.seq (Rg (S Z (Nx (Cn Z h (fun hc5 h => ?_) (fun hc5 h => ?_))))))
 ·refine Rg (S Z (Nx (RtR ?_)))
  obtain rfl := Oi h
  refine ⟨[(4, _)], _, _, ?_, ResOK.one Z Z, Z, Z⟩
  exact Lr []
 refine SkN (TC.seq (Rg (S Z (S Z (S Z (Nx (Cn Z h (fun hc6 h => ?_) (fun hc6 h => ?_))))))))
 ·refine Rg (S Z (Nx (RtR ?_)))
  obtain rfl := Oi h
  refine ⟨[(4, _)], _, _, ?_, ResOK.one Z Z, Z, Z⟩
  exact Lr []
 refine SkN (TC.seq (Rg (S Z (S Z (S Z (Nx (Cn Z h (fun hc7 h => ?_) (fun hc7 h => ?_))))))))
 ·refine Rg (S Z (Nx (RtR ?_)))
  obtain rfl := Oi h
  refine ⟨[(4, _)], _, _, ?_, ResOK.one Z Z, Z, Z⟩
  exact Lr []
 refine SkN (Rg (S Z (Nx (TC.ret ?_))))
 obtain rfl := Oi h
 refine ⟨[(4, _)], _, _, ?_, ResOK.one Z Z, Z, Z⟩
 exact Lr []
def F_ew (n : Nat) (a1 : List Int) (s11 : Int) : Option (Ctl Int (Ctl Unit Int)) :=
  (bif decide (s11 < (a1.length : Int)) then (idx a1 s11).bind fun x15 => (bif (x15 != 0) then some (.done (.done x15)) else some (.cont (IntKind.i64.wrap (s11 + 1)))) else some (.done (.cont ())))
def F_w (n : Nat) (a1 : List Int) : Option Int :=
  (iter (F_ew n a1) n 0 : Option (Ctl Unit Int)).bind fun b8 => match b8 with | .cont sb8 => (some 0) | .done sb8 => some sb8
theorem k_w (n : Nat) (a1 : List Int) (r : Int) (h : F_w n a1 = some r) :
    C prog 40 [.rsl 1 (List.map (encI .i64) a1)] [] (fun a H => a = .int .i64 r ∧ H = []) := by
 refine C.of_body func40 Z Z Z ?_
 refine Rg (S Z (Nx (Rg (S Z (Nx (TC.seq (Rg (S Z (LnM runUnderlying48 Z (S Z (Nx (Bd h fun b8 h9 h => ?_))))))))))))
 refine TC.cutE (b := b8) (fun sb8 => [(3, .int .i64 0)]) (fun sb8 => []) ?_ (fun sb8 env H hbe hle => ?_)
 ·refine TC.block ?_
  refine TC.loop (E := fun s11 => [(3, .int .i64 0), (6, .rsl 1 (List.map (encI .i64) a1)), (7, .int .i64 (a1.length : Int)), (8, .int .i64 s11)]) (Hp := fun s11 => []) h9 ?_ ?_
  ·exact Lr []
  intro s11 d12 h13 hb10
  refine Rg (S Z (Nx (TC.seq (CnS Z h13 (fun hc14 h13 => ?_) (fun hc14 h13 => ?_)))))
  ·refine ExX (loopX h13 ?_)
   obtain rfl := hb10 _ (Oi h13).symm
   exact bloE (cutEN Z (Lr []))
  refine SkN (TC.seq (TC.block (Rg (Bd h13 fun x15 hx15 h13 => Ix hx15 runUnderlying48 sizeOf3 Z (Ld isAgg3 Z (S Z (Nx (Rg (S Z (S Z (S Z (Nx (Cn Z h13 (fun hc16 h13 => ?_) (fun hc16 h13 => ?_))))))))))))))
  ·refine Rg (S Z (S Z (Nx (TC.ret (bloR (seqR (loopR h13 ?_)))))))
   obtain rfl := hb10 _ (Oi h13).symm
   refine bloR (cutER (seqR ?_))
   obtain rfl := Oi h
   refine ⟨[(2, _)], _, _, ?_, ResOK.one Z Z, Z, Z⟩
   exact Lr []
  exact TC.skip (bloN (seqN (TC.region (S Z (S Z (WO.nil (loopN h13 (Lr []))))))))
 subst hbe
 refine seqN (TC.le hle (Rg (S Z (S Z (Nx (TC.ret ?_))))))
 obtain rfl := Oi h
 refine ⟨[(2, _)], _, _, ?_, ResOK.one Z Z, Z, Z⟩
 exact Lr []
def F_eq (n : Nat) (a1 : Value) (rec137 : Value → Option (Int × Bool)) (s47 : Int × Int) : Option (Ctl (Int × Int) (Ctl Int (Int × Bool))) :=
  (bif decide (s47.2 < (a1.L.length : Int)) then (idx a1.L s47.2).bind fun x51 => (rec137 x51).bind fun r52 => (bif (!r52.2) then some (.done (.done (0, false))) else some (.cont ((if s47.1 < r52.1 then r52.1 else s47.1), IntKind.i64.wrap (s47.2 + 1)))) else some (.done (.cont s47.1)))
def B_m (rec137 : Value → Option (Int × Bool)) (n : Nat) (a1 : Value) : Option (Int × Bool) :=
  ((bif (a1.S == []) then (bif (a1.N == 0) then (arr 4 (List.replicate 4 false)).bind fun l16 => (arr 4 ([false, ((a1.L.length : Int) == 0), ((a1.L.length : Int) == 0), (a1.S == [])] : List Bool)).bind fun l17 => some l17 else (arr 4 (List.replicate 4 false)).bind fun l18 => (arr 4 ([false, ((a1.L.length : Int) == 0), false, false] : List Bool)).bind fun l19 => some l19) else (bif (a1.N == 0) then (arr 4 (List.replicate 4 false)).bind fun l21 => (arr 4 ([false, false, ((a1.L.length : Int) == 0), (a1.S == [])] : List Bool)).bind fun l22 => some l22 else (arr 4 (List.replicate 4 false)).bind fun l23 => (arr 4 ([false, false, false, false] : List Bool)).bind fun l24 => some l24)) : Option (List Bool)).bind fun b12 => ((bif decide (a1.Kind < 1) then some true else (bif decide (3 < a1.Kind) then some true else (idxA 4 b12 a1.Kind).bind fun x32 => some (!x32))) : Option Bool).bind fun b28 => (bif b28 then some (0, false) else (bif decide (a1.Kind < 3) then some (0, true) else (iter (F_eq n a1 rec137) n (0, 0) : Option (Ctl Int (Int × Bool))).bind fun b44 => match b44 with | .cont sb44 => (some (IntKind.i64.wrap (sb44 + 1), true)) | .done sb44 => some sb44))
theorem okB_codec_formed (rec137 : Value → Option (Int × Bool)) (hrec137 : ∀ (a1 : Value) (r : Int × Bool), rec137 a1 = some r → C prog 200 [.agg (Value.c a1)] [] (fun a H => a = .tup [.int .i64 r.1, .bool r.2] ∧ H = [])) (n : Nat) (a1 : Value) (r : Int × Bool) (h : B_m rec137 n a1 = some r) :
    C prog 200 [.agg (Value.c a1)] [] (fun a H => a = .tup [.int .i64 r.1, .bool r.2] ∧ H = []) := by
 refine C.of_body func200 Z Z Z ?_
 refine Rg ?_
 refine vH (OpH.box Z Z Z Z Z) ?_
 refine aV (.ptr 0 0) [.cells 184 (Value.c a1)] Z Z ?_
 refine S Z (S Z (Nx (TC.seq (Bd h fun b12 h13 h => ?_))))
 refine TC.cut ([(1, .ptr 0 0), (2, .int .i64 0), (4, .ptr 1 0)]) ([.cells 184 (Value.c a1), .row 314 1 (List.map encB b12)]) ?_ (fun env H hle => ?_)
 ·refine TC.region (Fp fa_184_2 Z (Ld isAgg9 Z ?_))
  refine vX (.bool (a1.S == [])) (OpV.strEq Z Z Z ) ?_
  refine S Z (If h13 (fun hg14 h13 => ?_) (fun hg14 h13 => ?_))
  ·refine Fpg (gT hg14) fa_184_3 Z (Ldg (gT hg14) isAgg182 Z ?_)
   refine vX (.int .i64 (a1.L.length : Int)) (OpV.lenM (e := Value.enc) (l := a1.L) runUnderlying182) ?_ (gT hg14)
   refine Sg (gT hg14) Z (Pk hg14 Z (Fp fa_184_1 Z (Ld isAgg3 Z (S Z (S Z (If h13 (fun hg15 h13 => ?_) (fun hg15 h13 => ?_)))))))
   ·refine Fpg (gT hg15) fa_184_3 Z (Ldg (gT hg15) isAgg182 Z ?_)
    refine vX (.int .i64 (a1.L.length : Int)) (OpV.lenM (e := Value.enc) (l := a1.L) runUnderlying182) ?_ (gT hg15)
    refine Sg (gT hg15) Z (Pk hg15 Z (Fp fa_184_1 Z (Ld isAgg3 Z (S Z (S Z (Fpg (gT hg15) fa_184_2 Z (Ldg (gT hg15) isAgg9 Z ?_)))))))
    refine vX (.bool (a1.S == [])) (OpV.strEq Z Z Z ) ?_ (gT hg15)
    refine Pk hg15 Z ?_
    refine vV (x := (.agg (List.flatten (List.map encB ([false, ((a1.L.length : Int) == 0), ((a1.L.length : Int) == 0), (a1.S == [])] : List Bool))))) (OpV.buildArr (n := 4) (k := 1) (zs := [.bool false, .bool false, .bool false, .bool false]) zeroValue314 (ZR.agg (ZL.cons ZR.bool (ZL.cons ZR.bool (ZL.cons ZR.bool (ZL.cons ZR.bool ZL.nil))))) runUnderlying314 sizeOf4 Z) ?_
    refine vH (OpH.allocArr (n := 4) (k := 1) (e := encB) (z := false) zeroValue314 (by kernel_rfl) (by kernel_rfl) (by kernel_rfl) Z) ?_
    refine aV (.ptr 1 0) [_, .row 314 1 (List.map encB (List.replicate 4 false))] Z Z ?_
    refine Bd h13 fun l16 hl16 h13 => Bd h13 fun l17 hl17 h13 => ?_
    obtain ⟨hll16, rfl⟩ := arr_ok hl16
    refine vU (OpU.storeArr (e := encB) (l := (List.replicate 4 false)) (l' := l17) hll16 (arr_len hl17) (fun _ => rfl) Z sizeOf314 (fun _ => rfl) (fun _ => rfl) (congrArg (fun l => List.flatten (List.map encB l)) (arr_ok hl17).2.symm)) ?_
    refine WO.atH (H := [_, .row 314 1 (List.map encB l17)]) Z ?_
    refine WO.nil ?_
    obtain rfl := Oi h13
    exact cutN (Lr [0, 1])
   ·refine KF hg15 Z (KF hg15 Z (KF hg15 Z (KF hg15 Z (Pk hg15 Z (Fp fa_184_1 Z (Ld isAgg3 Z (S Z (S Z (KF hg15 Z (KF hg15 Z (KF hg15 Z (Pk hg15 Z ?_))))))))))))
    refine vV (x := (.agg (List.flatten (List.map encB ([false, ((a1.L.length : Int) == 0), false, false] : List Bool))))) (OpV.buildArr (n := 4) (k := 1) (zs := [.bool false, .bool false, .bool false, .bool false]) zeroValue314 (ZR.agg (ZL.cons ZR.bool (ZL.cons ZR.bool (ZL.cons ZR.bool (ZL.cons ZR.bool ZL.nil))))) runUnderlying314 sizeOf4 Z) ?_
    refine vH (OpH.allocArr (n := 4) (k := 1) (e := encB) (z := false) zeroValue314 (by kernel_rfl) (by kernel_rfl) (by kernel_rfl) Z) ?_
    refine aV (.ptr 1 0) [_, .row 314 1 (List.map encB (List.replicate 4 false))] Z Z ?_
    refine Bd h13 fun l18 hl18 h13 => Bd h13 fun l19 hl19 h13 => ?_
    obtain ⟨hll18, rfl⟩ := arr_ok hl18
    refine vU (OpU.storeArr (e := encB) (l := (List.replicate 4 false)) (l' := l19) hll18 (arr_len hl19) (fun _ => rfl) Z sizeOf314 (fun _ => rfl) (fun _ => rfl) (congrArg (fun l => List.flatten (List.map encB l)) (arr_ok hl19).2.symm)) ?_
    refine WO.atH (H := [_, .row 314 1 (List.map encB l19)]) Z ?_
    refine WO.nil ?_
    obtain rfl := Oi h13
    exact cutN (Lr [0, 1])
  ·refine KF hg14 Z (KF hg14 Z (KF hg14 Z (KF hg14 Z (Pk hg14 Z (Fp fa_184_1 Z (Ld isAgg3 Z (S Z (S Z (If h13 (fun hg20 h13 => ?_) (fun hg20 h13 => ?_))))))))))
   ·refine Fpg (gT hg20) fa_184_3 Z (Ldg (gT hg20) isAgg182 Z ?_)
    refine vX (.int .i64 (a1.L.length : Int)) (OpV.lenM (e := Value.enc) (l := a1.L) runUnderlying182) ?_ (gT hg20)
    refine Sg (gT hg20) Z (Pk hg20 Z (Fp fa_184_1 Z (Ld isAgg3 Z (S Z (S Z (Fpg (gT hg20) fa_184_2 Z (Ldg (gT hg20) isAgg9 Z ?_)))))))
    refine vX (.bool (a1.S == [])) (OpV.strEq Z Z Z ) ?_ (gT hg20)
    refine Pk hg20 Z ?_
    refine vV (x := (.agg (List.flatten (List.map encB ([false, false, ((a1.L.length : Int) == 0), (a1.S == [])] : List Bool))))) (OpV.buildArr (n := 4) (k := 1) (zs := [.bool false, .bool false, .bool false, .bool false]) zeroValue314 (ZR.agg (ZL.cons ZR.bool (ZL.cons ZR.bool (ZL.cons ZR.bool (ZL.cons ZR.bool ZL.nil))))) runUnderlying314 sizeOf4 Z) ?_
    refine vH (OpH.allocArr (n := 4) (k := 1) (e := encB) (z := false) zeroValue314 (by kernel_rfl) (by kernel_rfl) (by kernel_rfl) Z) ?_
    refine aV (.ptr 1 0) [_, .row 314 1 (List.map encB (List.replicate 4 false))] Z Z ?_
    refine Bd h13 fun l21 hl21 h13 => Bd h13 fun l22 hl22 h13 => ?_
    obtain ⟨hll21, rfl⟩ := arr_ok hl21
    refine vU (OpU.storeArr (e := encB) (l := (List.replicate 4 false)) (l' := l22) hll21 (arr_len hl22) (fun _ => rfl) Z sizeOf314 (fun _ => rfl) (fun _ => rfl) (congrArg (fun l => List.flatten (List.map encB l)) (arr_ok hl22).2.symm)) ?_
    refine WO.atH (H := [_, .row 314 1 (List.map encB l22)]) Z ?_
    refine WO.nil ?_
    obtain rfl := Oi h13
    exact cutN (Lr [0, 1])
   ·refine KF hg20 Z (KF hg20 Z (KF hg20 Z (KF hg20 Z (Pk hg20 Z (Fp fa_184_1 Z (Ld isAgg3 Z (S Z (S Z (KF hg20 Z (KF hg20 Z (KF hg20 Z (Pk hg20 Z ?_))))))))))))
    refine vX (.agg (List.flatten (List.map encB ([false, false, false, false] : List Bool)))) (OpV.buildArr (n := 4) (k := 1) (zs := [.bool false, .bool false, .bool false, .bool false]) zeroValue314 (ZR.agg (ZL.cons ZR.bool (ZL.cons ZR.bool (ZL.cons ZR.bool (ZL.cons ZR.bool ZL.nil))))) runUnderlying314 sizeOf4 Z) ?_
    refine vH (OpH.allocArr (n := 4) (k := 1) (e := encB) (z := false) zeroValue314 (by kernel_rfl) (by kernel_rfl) (by kernel_rfl) Z) ?_
    refine aV (.ptr 1 0) [_, .row 314 1 (List.map encB (List.replicate 4 false))] Z Z ?_
    refine Bd h13 fun l23 hl23 h13 => Bd h13 fun l24 hl24 h13 => ?_
    obtain ⟨hll23, rfl⟩ := arr_ok hl23
    refine vU (OpU.storeArr (e := encB) (l := (List.replicate 4 false)) (l' := l24) hll23 (arr_len hl24) (fun _ => rfl) Z sizeOf314 (fun _ => rfl) (fun _ => rfl) (congrArg (fun l => List.flatten (List.map encB l)) (arr_ok hl24).2.symm)) ?_
    refine WO.atH (H := [_, .row 314 1 (List.map encB l24)]) Z ?_
    refine WO.nil ?_
    obtain rfl := Oi h13
    exact cutN (Lr [0, 1])
 refine seqN (TC.le hle (TC.seq (TC.seq (Bd h fun b28 h29 h => ?_))))
 refine TC.cut ([(1, .ptr 0 0), (2, .int .i64 0), (50, .bool b28)]) ([.cells 184 (Value.c a1)]) ?_ (fun env H hle => ?_)
 ·refine TC.region (Fp fa_184_0 Z (Ld isAgg3 Z (S Z (S Z (If h29 (fun hg30 h29 => ?_) (fun hg30 h29 => ?_))))))
  ·refine KF hg30 Z (KF hg30 Z (KF hg30 Z (Pk hg30 Z (S Z (KF Z Z (KF Z Z (KF Z Z (KF Z Z (KF Z Z (S Z (WO.nil ?_)))))))))))
   obtain rfl := Oi h29
   exact cutN (Lr [0])
  ·refine Fpg (gT hg30) fa_184_0 Z (Ldg (gT hg30) isAgg3 Z (Sg (gT hg30) Z (Pk hg30 Z (S Z (If h29 (fun hg31 h29 => ?_) (fun hg31 h29 => ?_))))))
   ·refine KF hg31 Z (KF hg31 Z (KF hg31 Z (KF hg31 Z (KF hg31 Z (Pk hg31 Z (WO.nil ?_))))))
    obtain rfl := Oi h29
    exact cutN (Lr [0])
   ·refine Fpg (gT hg31) fa_184_0 Z (Ldg (gT hg31) isAgg3 Z (Bd h29 fun x32 hx32 h29 => ?_))
    refine vX (.ptr 1 (Int.toNat a1.Kind * 1)) (OpV.ixArr (n := 4) (k := 1) (l := b12) hx32 runUnderlying314 sizeOf4 Z) ?_ (gT hg31)
    refine vX (.bool x32) (OpV.load Z isAgg4 Z (Pts.ofRow0 (idxA_ok hx32).2)) ?_ (gT hg31)
    refine Sg (gT hg31) Z (Pk hg31 Z (WO.nil ?_))
    obtain rfl := Oi h29
    exact cutN (Lr [0])
 refine seqN (TC.le hle (Cn Z h (fun hc33 h => ?_) (fun hc33 h => ?_)))
 ·refine Rg (S Z (S Z (Nx (RtR ?_))))
  obtain rfl := Oi h
  refine ⟨[(2, _), (3, _)], _, _, ?_, ResOK.two Z Z Z, Z, Z⟩
  exact Lr []
 refine SkN (TC.seq (Rg (Fp fa_184_0 Z (Ld isAgg3 Z (S Z (Nx (Cn Z h (fun hc34 h => ?_) (fun hc34 h => ?_))))))))
 ·refine Rg (S Z (S Z (Nx (RtR ?_))))
  obtain rfl := Oi h
  refine ⟨[(2, _), (3, _)], _, _, ?_, ResOK.two Z Z Z, Z, Z⟩
  exact Lr []
 refine SkN (TC.seq (Rg (Fp fa_184_3 Z (Ld isAgg182 Z (LnM runUnderlying182 Z (S Z (Nx (Bd h fun b44 h45 h => ?_))))))))
 refine TC.cutE (b := b44) (fun sb44 => [(2, .int .i64 sb44)]) (fun sb44 => []) ?_ (fun sb44 env H hbe hle => ?_)
 ·refine TC.block ?_
  refine TC.loop (E := fun s47 => [(2, .int .i64 s47.1), (55, .rsl 4 (List.map Value.enc a1.L)), (56, .int .i64 (a1.L.length : Int)), (57, .int .i64 s47.2)]) (Hp := fun s47 => []) h45 ?_ ?_
  ·exact Lr []
  intro s47 d48 h49 hb46
  refine Rg (S Z (Nx (TC.seq (CnS Z h49 (fun hc50 h49 => ?_) (fun hc50 h49 => ?_)))))
  ·refine ExX (loopX h49 ?_)
   obtain rfl := hb46 _ (Oi h49).symm
   exact bloE (cutEN Z (Lr []))
  refine SkN (TC.seq (TC.block (Rg (Bd h49 fun x51 hx51 h49 => ?_))))
  refine vX (.rp [.int .i64 x51.Kind, .int .i64 x51.N, .str x51.S, .rsl 4 (List.map Value.enc x51.L)]) (OpV.ixME (e := Value.enc) hx51 (Value.enc_eq x51) runUnderlying182 sizeOf184) ?_
  refine vX (.agg (Value.c x51)) (OpV.loadA Z isAgg184 sizeOf184 Z Pts.rp Z Z) ?_
  refine vH (OpH.allocZ (v := (.agg [.int .i64 0, .int .i64 0, .str [], .rsl 4 (List.map Value.enc [])])) zeroValue184 (ZR.agg (ZL.cons ZR.int (ZL.cons ZR.int (ZL.cons ZR.str (ZL.cons ZR.rsl ZL.nil)))))) ?_
  refine aV (.ptr 0 0) [.cells 184 [.int .i64 0, .int .i64 0, .str [], .rsl 4 (List.map Value.enc [])]] Z Z ?_
  refine vU (OpU.store Z Z Z sizeOf184 Z Z Z Z Z Z Z) ?_
  refine WO.atH (H := [.cells 184 (Value.c x51)]) Z ?_
  refine Nx (Rg ?_)
  refine vX (.agg (Value.c x51)) (OpV.loadA Z isAgg184 sizeOf184 Z (Pts.cells Z Z) Z Z) ?_
  refine Bd h49 fun r52 hr52 h49 => ?_
  refine WO.callD [] (OpC.fn call200 Z Z Z) (hrec137 _ _ hr52) ?_
  rintro _ _ ⟨rfl, rfl⟩
  refine aV (.tup [.int .i64 r52.1, .bool r52.2]) [_] Z Z ?_
  refine S Z (S Z (S Z (S Z (S Z (Nx (TC.seq (Rg (S Z (S Z (Nx (Cn Z h49 (fun hc53 h49 => ?_) (fun hc53 h49 => ?_))))))))))))
  ·refine Rg (S Z (S Z (Nx (RtR (bloR (seqR (loopR h49 ?_)))))))
   obtain rfl := hb46 _ (Oi h49).symm
   refine bloR (cutER (seqR ?_))
   obtain rfl := Oi h
   refine ⟨[(2, _), (3, _)], _, _, ?_, ResOK.two Z Z Z, Z, Z⟩
   exact Lr []
  refine SkN (TC.region (S Z (S Z ?_)))
  refine vX (.int .i64 (if s47.1 < r52.1 then r52.1 else s47.1)) (OpV.max Z Z Z Z) ?_
  exact S Z (WO.nil (bloN (seqN (TC.region (S Z (S Z (WO.nil (loopN h49 (Lr [])))))))))
 subst hbe
 refine seqN (TC.le hle (Rg (S Z (S Z (S Z (S Z (Nx (TC.ret ?_))))))))
 obtain rfl := Oi h
 refine ⟨[(2, _), (3, _)], _, _, ?_, ResOK.two Z Z Z, Z, Z⟩
 exact Lr []
def F_m : Nat → Value → Option (Int × Bool)
  | 0 => fun _ => none
  | n + 1 => B_m (F_m n) n
theorem k_m (n : Nat) : ∀ (a1 : Value) (r : Int × Bool), F_m n a1 = some r → C prog 200 [.agg (Value.c a1)] [] (fun a H => a = .tup [.int .i64 r.1, .bool r.2] ∧ H = []) := by
  induction n with
  | zero => intro a1 r h; cases h
  | succ n ih => intro a1 r h; exact okB_codec_formed _ ih n a1 r h
def F_dk (n : Nat) (a1 : Value) : Option Int :=
  (F_m n a1).bind fun r1 => (bif (!r1.2) then some 1 else (bif decide (16 < r1.1) then some 2 else some 0))
theorem k_dk (n : Nat) (a1 : Value) (r : Int) (h : F_dk n a1 = some r) :
    C prog 149 [.agg (Value.c a1)] [] (fun a H => a = .int .i64 r ∧ H = []) := by
 refine C.of_body func149 Z Z Z ?_
 refine Rg ?_
 refine vH (OpH.box Z Z Z Z Z) ?_
 refine aV (.ptr 0 0) [.cells 184 (Value.c a1)] Z Z ?_
 refine S Z (Nx (Rg ?_))
 refine vX (.agg (Value.c a1)) (OpV.loadA Z isAgg184 sizeOf184 Z (Pts.cells Z Z) Z Z) ?_
 refine Bd h fun r1 hr1 h => ?_
 refine WO.callD [] (OpC.fn call200 Z Z Z) (k_m _ _ _ hr1) ?_
 rintro _ _ ⟨rfl, rfl⟩
 refine aV (.tup [.int .i64 r1.1, .bool r1.2]) [_] Z Z ?_
 refine S Z (S Z (S Z (S Z (S Z (Nx (TC.seq (TC.block (Rg (S Z (S Z (S Z (Nx (Cn Z h (fun hc2 h => ?_) (fun hc2 h => ?_))))))))))))))
 ·refine Rg (S Z (Nx (TC.ret (bloR (seqR ?_)))))
  obtain rfl := Oi h
  refine ⟨[(2, _)], _, _, ?_, ResOK.one Z Z, Z, Z⟩
  exact Lr []
 refine Rg (S Z (S Z (S Z (Nx (Cn Z h (fun hc3 h => ?_) (fun hc3 h => ?_))))))
 ·refine Rg (S Z (Nx (TC.ret (bloR (seqR ?_)))))
  obtain rfl := Oi h
  refine ⟨[(2, _)], _, _, ?_, ResOK.one Z Z, Z, Z⟩
  exact Lr []
 refine TC.skip (bloN (seqN (Rg (S Z (Nx (TC.ret ?_))))))
 obtain rfl := Oi h
 refine ⟨[(2, _)], _, _, ?_, ResOK.one Z Z, Z, Z⟩
 exact Lr []
def F_ak (n : Nat) : Option Unit :=
  some ()
theorem k_ak (n : Nat) (r : Unit) (h : F_ak n = some r) :
    C prog 150 [] [] (fun a H => a = .ptr 0 0 ∧ H = [.cells 284 [.nilf, .fn (.func 201) [] [], .fn (.func 204) [] [], .fn (.func 205) [] [.ptr 1 0]], .cells 249 [.ptr 0 0]]) := by
 refine C.of_body func150 Z Z Z ?_
 refine Rg (S Z (Nx (Rg ?_)))
 refine vX (.agg [.nilf, .nilf, .nilf, .nilf]) (OpV.buildArr (n := 4) (k := 1) (parts := []) (zs := [.nilf, .nilf, .nilf, .nilf]) zeroValue284 (ZR.agg (ZL.cons ZR.nilf (ZL.cons ZR.nilf (ZL.cons ZR.nilf (ZL.cons ZR.nilf ZL.nil))))) runUnderlying284 sizeOf248 Z) ?_
 refine vH (OpH.box Z Z Z Z Z) ?_
 refine aV (.ptr 0 0) [.cells 284 [.nilf, .nilf, .nilf, .nilf]] Z Z ?_
 refine vH (OpH.allocZ (v := .nilp) zeroValue249 ZR.nilp) ?_
 refine aV (.ptr 1 0) [_, .cells 249 [.nilp]] Z Z ?_
 refine vU (OpU.store Z Z Z sizeOf249 Z Z Z Z Z Z Z) ?_
 refine WO.atH (H := [_, .cells 249 [.ptr 0 0]]) Z ?_
 refine Nx (Rg (Ld isAgg249 Z (S Z ?_)))
 refine vX (.ptr 0 1) (OpV.ixArrC (i := 1) (n := 4) (k := 1) (j := 1) (by decide) Z runUnderlying284 sizeOf248 Z) ?_
 refine Fp fa_248_0 Z ?_
 refine vU (OpU.store Z Z Z sizeOf246 Z Z Z Z Z Z Z) ?_
 refine WO.atH (H := [.cells 284 [.nilf, .fn (.func 201) [] [], .nilf, .nilf], _]) Z ?_
 refine Nx (Rg (Ld isAgg249 Z (S Z ?_)))
 refine vX (.ptr 0 2) (OpV.ixArrC (i := 2) (n := 4) (k := 1) (j := 2) (by decide) Z runUnderlying284 sizeOf248 Z) ?_
 refine Fp fa_248_0 Z ?_
 refine vU (OpU.store Z Z Z sizeOf246 Z Z Z Z Z Z Z) ?_
 refine WO.atH (H := [.cells 284 [.nilf, .fn (.func 201) [] [], .fn (.func 204) [] [], .nilf], _]) Z ?_
 refine Nx (Rg (Ld isAgg249 Z ?_))
 refine vX (.fn (.func 205) [] [.ptr 1 0]) (OpV.makeFunc (first := []) (cap := [.tmp 1]) Z Z Z) ?_
 refine S Z ?_
 refine vX (.ptr 0 3) (OpV.ixArrC (i := 3) (n := 4) (k := 1) (j := 3) (by decide) Z runUnderlying284 sizeOf248 Z) ?_
 refine Fp fa_248_0 Z ?_
 refine vU (OpU.store Z Z Z sizeOf246 Z Z Z Z Z Z Z) ?_
 refine WO.atH (H := [.cells 284 [.nilf, .fn (.func 201) [] [], .fn (.func 204) [] [], .fn (.func 205) [] [.ptr 1 0]], _]) Z ?_
 refine Nx (Rg (Ld isAgg249 Z (S Z (Nx (TC.ret ?_)))))
 obtain rfl := Oi h
 refine ⟨[(0, _)], _, _, ?_, ResOK.one Z Z, Z, Z⟩
 exact Lr [0, 1]
def F_ac (n : Nat) (a1 : Int) : Option Unit :=
  some ()
theorem k_ac (n : Nat) (a1 : Int) (r : Unit) (h : F_ac n a1 = some r) :
    C prog 203 [.int .i64 a1] [] (fun a H => a = .int .u64 (xorI .u64 (shlI .u64 (IntKind.u64.wrap a1) 1) (IntKind.u64.wrap (shrI .i64 a1 63))) ∧ H = []) := by
 refine C.of_body func203 Z Z Z ?_
 refine Rg (S Z (Nx (Rg (S Z ?_))))
 refine vX (.int .u64 (IntKind.u64.wrap a1)) (OpV.conv Z runUnderlying3 runUnderlying281 Z) ?_
 refine vX (.int .u64 (shlI .u64 (IntKind.u64.wrap a1) 1)) (OpV.shl Z Z Z (by decide)) ?_
 refine S Z ?_
 refine vX (.int .i64 (shrI .i64 a1 63)) (OpV.shr Z Z Z (by decide)) ?_
 refine vX (.int .u64 (IntKind.u64.wrap (shrI .i64 a1 63))) (OpV.conv Z runUnderlying3 runUnderlying281 Z) ?_
 refine vX (.int .u64 (xorI .u64 (shlI .u64 (IntKind.u64.wrap a1) 1) (IntKind.u64.wrap (shrI .i64 a1 63)))) (OpV.xor Z Z Z) ?_
 refine S Z (Nx (TC.ret ?_))
 obtain rfl := Oi h
 refine ⟨[(2, _)], _, _, ?_, ResOK.one Z Z, Z, Z⟩
 exact Lr []
def F_fp (n : Nat) (s9 : (List Int) × Int) : Option (Ctl ((List Int) × Int) ((List Int) × Int)) :=
  (bif decide (128 ≤ s9.2) then (app s9.1 [orI .u8 (IntKind.u8.wrap s9.2) 128]).bind fun l13 => some (.cont (l13, shrI .u64 s9.2 7)) else some (.done (s9.1, s9.2)))
def F_h (n : Nat) (a1 : List Int) (a2 : Int) : Option (List Int) :=
  (iter (F_fp n) n (a1, a2) : Option ((List Int) × Int)).bind fun b6 => (app b6.1 [IntKind.u8.wrap b6.2]).bind fun l14 => some l14
theorem k_h (n : Nat) (a1 : List Int) (a2 : Int) (r : List Int) (h : F_h n a1 a2 = some r) :
    C prog 202 [.osl 0 0 a1.length 1, .int .u64 a2] [.row 5 1 (List.map (encI .u8) a1)] (fun a H => a = .osl 1 0 r.length 1 ∧ H = [.dead, .row 5 1 (List.map (encI .u8) r)]) := by
 refine C.of_body func202 Z Z Z ?_
 refine Rg (S Z (Nx (TC.seq (Bd h fun b6 h7 h => ?_))))
 refine TC.cut ([(0, .osl 1 0 b6.1.length 1), (1, .int .u64 b6.2)]) ([.dead, .row 5 1 (List.map (encI .u8) b6.1)]) ?_ (fun env H hle => ?_)
 ·refine TC.block ?_
  refine TC.loop (E := fun s9 => [(0, .osl 1 0 s9.1.length 1), (1, .int .u64 s9.2)]) (Hp := fun s9 => [.dead, .row 5 1 (List.map (encI .u8) s9.1)]) h7 ?_ ?_
  ·refine Le.trans (Le.moved1 (s := 0) (i := 0) Z Z Z) ?_
   exact Lr [0, 1]
  intro s9 d10 h11 hb8
  refine TC.seq (Rg (S Z (S Z (Nx (CnS Z h11 (fun hc12 h11 => ?_) (fun hc12 h11 => ?_))))))
  ·refine ExX (loopX h11 ?_)
   obtain rfl := hb8 _ (Oi h11).symm
   exact bloE (cutN (Lr [0, 1]))
  refine SkN (TC.seq (TC.block (TC.region (S Z (S Z ?_)))))
  refine vX (.int .u8 (IntKind.u8.wrap s9.2)) (OpV.conv Z runUnderlying281 runUnderlying5 Z) ?_
  refine vX (.int .u8 (orI .u8 (IntKind.u8.wrap s9.2) 128)) (OpV.or Z Z Z) ?_
  refine vH (OpH.lit (xs := [.tmp 12]) (es := List.map (encI .u8) [orI .u8 (IntKind.u8.wrap s9.2) 128]) el_118 Z Z Z Z Z ⟨Z, trivial⟩ Z Z) ?_
  refine aV (.osl 2 0 ([orI .u8 (IntKind.u8.wrap s9.2) 128].length) 1) [_, _, .row 5 1 (List.map (encI .u8) [orI .u8 (IntKind.u8.wrap s9.2) 128])] Z Z ?_
  refine Bd h11 fun l13 hl13 h11 => ?_
  refine vH (OpH.appO (e := (encI .u8)) hl13 el_118 runUnderlying118 (Src.oM (i := 2))) ?_
  refine aV (.osl 3 0 l13.length 1) [_, .dead, _, .row 5 1 (List.map (encI .u8) l13)] Z Z ?_
  refine S Z (WO.nil (bloN (seqN (TC.region (S Z ?_)))))
  refine vX (.int .u64 (shrI .u64 s9.2 7)) (OpV.shr Z Z Z (by decide)) ?_
  exact S Z (WO.nil (loopN h11 (Lr [0, 3])))
 refine seqN (TC.le hle (Rg (S Z (S Z ?_))))
 refine vX (.int .u8 (IntKind.u8.wrap b6.2)) (OpV.conv Z runUnderlying281 runUnderlying5 Z) ?_
 refine vH (OpH.lit (xs := [.tmp 17]) (es := List.map (encI .u8) [IntKind.u8.wrap b6.2]) el_118 Z Z Z Z Z ⟨Z, trivial⟩ Z Z) ?_
 refine aV (.osl 2 0 ([IntKind.u8.wrap b6.2].length) 1) [_, _, .row 5 1 (List.map (encI .u8) [IntKind.u8.wrap b6.2])] Z Z ?_
 refine Bd h fun l14 hl14 h => ?_
 refine vH (OpH.appO (e := (encI .u8)) hl14 el_118 runUnderlying118 (Src.oM (i := 2))) ?_
 refine aV (.osl 3 0 l14.length 1) [_, .dead, _, .row 5 1 (List.map (encI .u8) l14)] Z Z ?_
 refine S Z (Nx (TC.ret ?_))
 obtain rfl := Oi h
 refine ⟨[(4, _)], _, _, ?_, ResOK.one Z Z, Z, Z⟩
 exact Lr [0, 3]
def F_do (n : Nat) (a1 : Value) : Option (List Int) :=
  (app [] [1]).bind fun l1 => (F_ac n a1.N).bind fun r2 => (F_h n l1 (xorI .u64 (shlI .u64 (IntKind.u64.wrap a1.N) 1) (IntKind.u64.wrap (shrI .i64 a1.N 63)))).bind fun r3 => some r3
theorem k_do (n : Nat) (a1 : Value) (r : List Int) (h : F_do n a1 = some r) :
    C prog 201 [.nils, .agg (Value.c a1)] [] (fun a H => a = .osl 0 0 r.length 1 ∧ H = [.row 5 1 (List.map (encI .u8) r)]) := by
 refine C.of_body func201 Z Z Z ?_
 refine Rg ?_
 refine vH (OpH.box Z Z Z Z Z) ?_
 refine aV (.ptr 0 0) [.cells 184 (Value.c a1)] Z Z ?_
 refine S Z (Nx (TC.seq ?_))
 obtain ⟨l1, hl1, h⟩ := bnd h
 refine TC.draws 5 0 [5, 6, 7, 8, 9] [false, false, true, false, false] [[], [], [], [], []] [[], [2]] [[(0, 0), (1, 1)], [(0, 0), (1, 1)], [(0, 1)], [(0, 0), (1, 1)], [(0, 0), (1, 1)]] [.nils, .rsl 1 (List.map (encI .u8) [1]), .osl 1 0 l1.length 1, .ptr 0 1, .int .i64 a1.N] [[.cells 184 (Value.c a1)], [.cells 184 (Value.c a1), .row 5 1 (List.map (encI .u8) l1)]] ([.cells 184 (Value.c a1), .row 5 1 (List.map (encI .u8) l1)]) draws Z Z Z Z Z Z Z ?_ Z ?_
 ·refine OblM.cons ?_ (OblM.cons ?_ (OblM.cons ?_ (OblM.cons ?_ (OblM.cons ?_ (OblM.nil)))))
  ·refine OblM.stC ?_ (OblM.stC ?_ (OblM.st0))
   ·refine Om Z (sO 0 sN) ?_
    exact S Z Wp
   ·refine Om Z (sO 0 sN) ?_
    exact S Z Wp
  ·refine OblM.stC ?_ (OblM.stC ?_ (OblM.st0))
   ·refine Om Z sN ?_
    refine vH (OpH.litR (xs := [.const (.int .u8 1)]) (es := List.map (encI .u8) [1]) el_118 Z Z Z Z Z ⟨Z, trivial⟩ Z Z) ?_
    refine aV (.rsl 1 (List.map (encI .u8) [1])) [_] Z Z ?_
    exact Wp
   ·refine Om Z sN ?_
    refine vH (OpH.litR (xs := [.const (.int .u8 1)]) (es := List.map (encI .u8) [1]) el_118 Z Z Z Z Z ⟨Z, trivial⟩ Z Z) ?_
    refine aV (.rsl 1 (List.map (encI .u8) [1])) [_, _] Z Z ?_
    exact Wp
  ·refine OblM.stC ?_ (OblM.st0)
   ·refine Om1 Z (sD 0 (sD 1 sN)) ?_
    refine vH (OpH.appN (e := (encI .u8)) hl1 el_118 runUnderlying118 Src.rM) ?_
    refine aV (.osl 1 0 l1.length 1) [_, .row 5 1 (List.map (encI .u8) l1)] Z Z ?_
    exact Wp
  ·refine OblM.stC ?_ (OblM.stC ?_ (OblM.st0))
   ·refine Om Z (sO 3 sN) ?_
    exact Fp fa_184_1 Z Wp
   ·refine Om Z (sO 3 sN) ?_
    exact Fp fa_184_1 Z Wp
  ·refine OblM.stC ?_ (OblM.stC ?_ (OblM.st0))
   ·refine Om Z (sD 3 sN) ?_
    exact Ld isAgg3 Z Wp
   ·refine Om Z (sD 3 sN) ?_
    exact Ld isAgg3 Z Wp
 refine Bd h fun r2 hr2 h => ?_
 refine WO.callD [] (OpC.fn call203 Z Z Z) (k_ac _ _ _ hr2) ?_
 rintro _ _ ⟨rfl, rfl⟩
 refine aV (.int .u64 (xorI .u64 (shlI .u64 (IntKind.u64.wrap a1.N) 1) (IntKind.u64.wrap (shrI .i64 a1.N 63)))) [_, _] Z Z ?_
 refine Bd h fun r3 hr3 h => ?_
 refine WO.callD [1] (OpC.fn call202 Z Z Z) (k_h _ _ _ _ hr3) ?_
 rintro _ _ ⟨rfl, rfl⟩
 refine aV (.osl 2 0 r3.length 1) [_, .dead, .row 5 1 (List.map (encI .u8) r3)] Z Z ?_
 refine S Z (Nx (TC.ret ?_))
 obtain rfl := Oi h
 refine ⟨[(4, _)], _, _, ?_, ResOK.one Z Z, Z, Z⟩
 exact Lr [2]
def F_t (n : Nat) (a1 : List Int) (a2 : Value) : Option (List Int) :=
  (app a1 [1]).bind fun l1 => (F_ac n a2.N).bind fun r2 => (F_h n l1 (xorI .u64 (shlI .u64 (IntKind.u64.wrap a2.N) 1) (IntKind.u64.wrap (shrI .i64 a2.N 63)))).bind fun r3 => some r3
theorem k_t (n : Nat) (a1 : List Int) (a2 : Value) (r : List Int) (h : F_t n a1 a2 = some r) :
    C prog 201 [.osl 0 0 a1.length 1, .agg (Value.c a2)] [.row 5 1 (List.map (encI .u8) a1)] (fun a H => a = .osl 1 0 r.length 1 ∧ H = [.dead, .row 5 1 (List.map (encI .u8) r)]) := by
 refine C.of_body func201 Z Z Z ?_
 refine Rg ?_
 refine vH (OpH.box Z Z Z Z Z) ?_
 refine aV (.ptr 1 0) [_, .cells 184 (Value.c a2)] Z Z ?_
 refine S Z (Nx (TC.seq ?_))
 obtain ⟨l1, hl1, h⟩ := bnd h
 refine TC.draws 5 0 [5, 6, 7, 8, 9] [false, false, true, false, false] [[], [], [], [], []] [[], [2]] [[(0, 0), (1, 1)], [(0, 0), (1, 1)], [(0, 1)], [(0, 0), (1, 1)], [(0, 0), (1, 1)]] [.osl 0 0 a1.length 1, .rsl 1 (List.map (encI .u8) [1]), .osl 2 0 l1.length 1, .ptr 1 1, .int .i64 a2.N] [[.row 5 1 (List.map (encI .u8) a1), .cells 184 (Value.c a2)], [.dead, .cells 184 (Value.c a2), .row 5 1 (List.map (encI .u8) l1)]] ([.dead, .cells 184 (Value.c a2), .row 5 1 (List.map (encI .u8) l1)]) draws Z Z Z Z Z Z Z ?_ Z ?_
 ·refine OblM.cons ?_ (OblM.cons ?_ (OblM.cons ?_ (OblM.cons ?_ (OblM.cons ?_ (OblM.nil)))))
  ·refine OblM.stC ?_ (OblM.stC ?_ (OblM.st0))
   ·refine Om Z (sO 0 sN) ?_
    exact S Z Wp
   ·refine Om Z (sO 0 sN) ?_
    exact S Z Wp
  ·refine OblM.stC ?_ (OblM.stC ?_ (OblM.st0))
   ·refine Om Z sN ?_
    refine vH (OpH.litR (xs := [.const (.int .u8 1)]) (es := List.map (encI .u8) [1]) el_118 Z Z Z Z Z ⟨Z, trivial⟩ Z Z) ?_
    refine aV (.rsl 1 (List.map (encI .u8) [1])) [_, _] Z Z ?_
    exact Wp
   ·refine Om Z sN ?_
    refine vH (OpH.litR (xs := [.const (.int .u8 1)]) (es := List.map (encI .u8) [1]) el_118 Z Z Z Z Z ⟨Z, trivial⟩ Z Z) ?_
    refine aV (.rsl 1 (List.map (encI .u8) [1])) [_, _, _] Z Z ?_
    exact Wp
  ·refine OblM.stC ?_ (OblM.st0)
   ·refine Om1 Z (sD 0 (sD 1 sN)) ?_
    refine vH (OpH.appO (e := (encI .u8)) hl1 el_118 runUnderlying118 Src.rM) ?_
    refine aV (.osl 2 0 l1.length 1) [.dead, _, .row 5 1 (List.map (encI .u8) l1)] Z Z ?_
    exact Wp
  ·refine OblM.stC ?_ (OblM.stC ?_ (OblM.st0))
   ·refine Om Z (sO 3 sN) ?_
    exact Fp fa_184_1 Z Wp
   ·refine Om Z (sO 3 sN) ?_
    exact Fp fa_184_1 Z Wp
  ·refine OblM.stC ?_ (OblM.stC ?_ (OblM.st0))
   ·refine Om Z (sD 3 sN) ?_
    exact Ld isAgg3 Z Wp
   ·refine Om Z (sD 3 sN) ?_
    exact Ld isAgg3 Z Wp
 refine Bd h fun r2 hr2 h => ?_
 refine WO.callD [] (OpC.fn call203 Z Z Z) (k_ac _ _ _ hr2) ?_
 rintro _ _ ⟨rfl, rfl⟩
 refine aV (.int .u64 (xorI .u64 (shlI .u64 (IntKind.u64.wrap a2.N) 1) (IntKind.u64.wrap (shrI .i64 a2.N 63)))) [_, _, _] Z Z ?_
 refine Bd h fun r3 hr3 h => ?_
 refine WO.callD [2] (OpC.fn call202 Z Z Z) (k_h _ _ _ _ hr3) ?_
 rintro _ _ ⟨rfl, rfl⟩
 refine aV (.osl 3 0 r3.length 1) [_, _, .dead, .row 5 1 (List.map (encI .u8) r3)] Z Z ?_
 refine S Z (Nx (TC.ret ?_))
 obtain rfl := Oi h
 refine ⟨[(4, _)], _, _, ?_, ResOK.one Z Z, Z, Z⟩
 exact Lr [0, 3]
def F_gb (n : Nat) (a2 : Value) (rec146 : (List Int) → Value → Option (List Int)) (s23 : (List Int) × Int) : Option (Ctl ((List Int) × Int) (List Int)) :=
  (bif decide (s23.2 < (a2.L.length : Int)) then (idx a2.L s23.2).bind fun x27 => (bif (x27.Kind == 0) then none else (bif (x27.Kind == 1) then (F_t n s23.1 x27).bind fun r30 => some (.cont (r30, IntKind.i64.wrap (s23.2 + 1))) else (bif (x27.Kind == 2) then none else (bif (x27.Kind == 3) then (rec146 s23.1 x27).bind fun r33 => some (.cont (r33, IntKind.i64.wrap (s23.2 + 1))) else none)))) else some (.done s23.1))
def B_r (rec146 : (List Int) → Value → Option (List Int)) (n : Nat) (a1 : List Int) (a2 : Value) : Option (List Int) :=
  (app a1 [3]).bind fun l1 => (F_h n l1 (IntKind.u64.wrap (a2.L.length : Int))).bind fun r2 => (iter (F_gb n a2 rec146) n (r2, 0) : Option (List Int)).bind fun b20 => some b20
theorem okB_codec_newWriter_3_mqk (rec146 : (List Int) → Value → Option (List Int)) (hrec146 : ∀ (a1 : List Int) (a2 : Value) (r : List Int), rec146 a1 a2 = some r → C prog 205 [.osl 0 0 a1.length 1, .agg (Value.c a2), .ptr 1 0] [.row 5 1 (List.map (encI .u8) a1), .cells 249 [.ptr 2 0], .cells 284 [.nilf, .fn (.func 201) [] [], .fn (.func 204) [] [], .fn (.func 205) [] [.ptr 1 0]]] (fun a H => a = .osl 3 0 r.length 1 ∧ H = [.dead, .cells 249 [.ptr 2 0], .cells 284 [.nilf, .fn (.func 201) [] [], .fn (.func 204) [] [], .fn (.func 205) [] [.ptr 1 0]], .row 5 1 (List.map (encI .u8) r)])) (n : Nat) (a1 : List Int) (a2 : Value) (r : List Int) (h : B_r rec146 n a1 a2 = some r) :
    C prog 205 [.osl 0 0 a1.length 1, .agg (Value.c a2), .ptr 1 0] [.row 5 1 (List.map (encI .u8) a1), .cells 249 [.ptr 2 0], .cells 284 [.nilf, .fn (.func 201) [] [], .fn (.func 204) [] [], .fn (.func 205) [] [.ptr 1 0]]] (fun a H => a = .osl 3 0 r.length 1 ∧ H = [.dead, .cells 249 [.ptr 2 0], .cells 284 [.nilf, .fn (.func 201) [] [], .fn (.func 204) [] [], .fn (.func 205) [] [.ptr 1 0]], .row 5 1 (List.map (encI .u8) r)]) := by
 refine C.of_body func205 Z Z Z ?_
 refine Rg ?_
 refine vH (OpH.box Z Z Z Z Z) ?_
 refine aV (.ptr 3 0) [_, _, _, .cells 184 (Value.c a2)] Z Z ?_
 refine S Z (Nx (TC.seq ?_))
 obtain ⟨l1, hl1, h⟩ := bnd h
 refine TC.draws 7 0 [8, 9, 10, 11, 12, 13, 14] [false, false, true, false, false, false, false] [[], [], [], [], [], [], []] [[], [2]] [[(0, 0), (1, 1)], [(0, 0), (1, 1)], [(0, 1)], [(0, 0), (1, 1)], [(0, 0), (1, 1)], [(0, 0), (1, 1)], [(0, 0), (1, 1)]] [.osl 0 0 a1.length 1, .rsl 1 (List.map (encI .u8) [3]), .osl 4 0 l1.length 1, .ptr 3 3, .rsl 4 (List.map Value.enc a2.L), .int .i64 (a2.L.length : Int), .int .u64 (IntKind.u64.wrap (a2.L.length : Int))] [[.row 5 1 (List.map (encI .u8) a1), .cells 249 [.ptr 2 0], .cells 284 [.nilf, .fn (.func 201) [] [], .fn (.func 204) [] [], .fn (.func 205) [] [.ptr 1 0]], .cells 184 (Value.c a2)], [.dead, .cells 249 [.ptr 2 0], .cells 284 [.nilf, .fn (.func 201) [] [], .fn (.func 204) [] [], .fn (.func 205) [] [.ptr 1 0]], .cells 184 (Value.c a2), .row 5 1 (List.map (encI .u8) l1)]] ([.dead, .cells 249 [.ptr 2 0], .cells 284 [.nilf, .fn (.func 201) [] [], .fn (.func 204) [] [], .fn (.func 205) [] [.ptr 1 0]], .cells 184 (Value.c a2), .row 5 1 (List.map (encI .u8) l1)]) draws Z Z Z Z Z Z Z ?_ Z ?_
 ·refine OblM.cons ?_ (OblM.cons ?_ (OblM.cons ?_ (OblM.cons ?_ (OblM.cons ?_ (OblM.cons ?_ (OblM.cons ?_ (OblM.nil)))))))
  ·refine OblM.stC ?_ (OblM.stC ?_ (OblM.st0))
   ·refine Om Z (sO 0 sN) ?_
    exact S Z Wp
   ·refine Om Z (sO 0 sN) ?_
    exact S Z Wp
  ·refine OblM.stC ?_ (OblM.stC ?_ (OblM.st0))
   ·refine Om Z sN ?_
    refine vH (OpH.litR (xs := [.const (.int .u8 3)]) (es := List.map (encI .u8) [3]) el_118 Z Z Z Z Z ⟨Z, trivial⟩ Z Z) ?_
    refine aV (.rsl 1 (List.map (encI .u8) [3])) [_, _, _, _] Z Z ?_
    exact Wp
   ·refine Om Z sN ?_
    refine vH (OpH.litR (xs := [.const (.int .u8 3)]) (es := List.map (encI .u8) [3]) el_118 Z Z Z Z Z ⟨Z, trivial⟩ Z Z) ?_
    refine aV (.rsl 1 (List.map (encI .u8) [3])) [_, _, _, _, _] Z Z ?_
    exact Wp
  ·refine OblM.stC ?_ (OblM.st0)
   ·refine Om1 Z (sD 0 (sD 1 sN)) ?_
    refine vH (OpH.appO (e := (encI .u8)) hl1 el_118 runUnderlying118 Src.rM) ?_
    refine aV (.osl 4 0 l1.length 1) [.dead, _, _, _, .row 5 1 (List.map (encI .u8) l1)] Z Z ?_
    exact Wp
  ·refine OblM.stC ?_ (OblM.stC ?_ (OblM.st0))
   ·refine Om Z (sO 4 sN) ?_
    exact Fp fa_184_3 Z Wp
   ·refine Om Z (sO 4 sN) ?_
    exact Fp fa_184_3 Z Wp
  ·refine OblM.stC ?_ (OblM.stC ?_ (OblM.st0))
   ·refine Om Z (sD 3 sN) ?_
    exact Ld isAgg182 Z Wp
   ·refine Om Z (sD 3 sN) ?_
    exact Ld isAgg182 Z Wp
  ·refine OblM.stC ?_ (OblM.stC ?_ (OblM.st0))
   ·refine Om Z (sD 4 sN) ?_
    exact LnM runUnderlying182 Z Wp
   ·refine Om Z (sD 4 sN) ?_
    exact LnM runUnderlying182 Z Wp
  ·refine OblM.stC ?_ (OblM.stC ?_ (OblM.st0))
   ·refine Om Z (sD 5 sN) ?_
    refine vX (.int .u64 (IntKind.u64.wrap (a2.L.length : Int))) (OpV.conv Z runUnderlying3 runUnderlying281 Z) ?_
    exact Wp
   ·refine Om Z (sD 5 sN) ?_
    refine vX (.int .u64 (IntKind.u64.wrap (a2.L.length : Int))) (OpV.conv Z runUnderlying3 runUnderlying281 Z) ?_
    exact Wp
 refine Bd h fun r2 hr2 h => ?_
 refine WO.callD [4] (OpC.fn call202 Z Z Z) (k_h _ _ _ _ hr2) ?_
 rintro _ _ ⟨rfl, rfl⟩
 refine aV (.osl 5 0 r2.length 1) [_, _, _, _, .dead, .row 5 1 (List.map (encI .u8) r2)] Z Z ?_
 refine S Z (Nx (TC.seq (Rg (Fp fa_184_3 Z (Ld isAgg182 Z (LnM runUnderlying182 Z (S Z (Nx (Bd h fun b20 h21 h => ?_)))))))))
 refine TC.cut ([(0, .osl 3 0 b20.length 1)]) ([.dead, .cells 249 [.ptr 2 0], .cells 284 [.nilf, .fn (.func 201) [] [], .fn (.func 204) [] [], .fn (.func 205) [] [.ptr 1 0]], .row 5 1 (List.map (encI .u8) b20)]) ?_ (fun env H hle => ?_)
 ·refine TC.block ?_
  refine TC.loop (E := fun s23 => [(0, .osl 3 0 s23.1.length 1), (2, .ptr 1 0), (17, .rsl 4 (List.map Value.enc a2.L)), (18, .int .i64 (a2.L.length : Int)), (19, .int .i64 s23.2)]) (Hp := fun s23 => [.dead, .cells 249 [.ptr 2 0], .cells 284 [.nilf, .fn (.func 201) [] [], .fn (.func 204) [] [], .fn (.func 205) [] [.ptr 1 0]], .row 5 1 (List.map (encI .u8) s23.1)]) h21 ?_ ?_
  ·exact Lr [0, 1, 2, 5]
  intro s23 d24 h25 hb22
  refine Rg (S Z (Nx (TC.seq (CnS Z h25 (fun hc26 h25 => ?_) (fun hc26 h25 => ?_)))))
  ·refine ExX (loopX h25 ?_)
   obtain rfl := hb22 _ (Oi h25).symm
   exact bloE (cutN (Lr [0, 1, 2, 3]))
  refine SkN (TC.seq (TC.block (Rg (Bd h25 fun x27 hx27 h25 => ?_))))
  refine vX (.rp [.int .i64 x27.Kind, .int .i64 x27.N, .str x27.S, .rsl 4 (List.map Value.enc x27.L)]) (OpV.ixME (e := Value.enc) hx27 (Value.enc_eq x27) runUnderlying182 sizeOf184) ?_
  refine vX (.agg (Value.c x27)) (OpV.loadA Z isAgg184 sizeOf184 Z Pts.rp Z Z) ?_
  refine vH (OpH.allocZ (v := (.agg [.int .i64 0, .int .i64 0, .str [], .rsl 4 (List.map Value.enc [])])) zeroValue184 (ZR.agg (ZL.cons ZR.int (ZL.cons ZR.int (ZL.cons ZR.str (ZL.cons ZR.rsl ZL.nil)))))) ?_
  refine aV (.ptr 4 0) [_, _, _, _, .cells 184 [.int .i64 0, .int .i64 0, .str [], .rsl 4 (List.map Value.enc [])]] Z Z ?_
  refine vU (OpU.store Z Z Z sizeOf184 Z Z Z Z Z Z Z) ?_
  refine WO.atH (H := [_, _, _, _, .cells 184 (Value.c x27)]) Z ?_
  refine Nx ?_
  refine If h25 (fun hg28 h25 => ?_) (fun hg28 h25 => ?_)
  ·cases h25
  ·refine If h25 (fun hg29 h25 => ?_) (fun hg29 h25 => ?_)
   ·refine TC.draw0 9 [23, 24, 25, 26, 27, 28, 29, 30, 31] [.ptr 2 0, .ptr 4 0, .int .i64 x27.Kind, .ptr 2 0, .ptr 2 1, .ptr 2 1, .fn (.func 201) [] [], .osl 3 0 s23.1.length 1, .agg (Value.c x27)] draws Z Z Z ?_ ?_
    ·refine Oq.c ?_ (Oq.c ?_ (Oq.c ?_ (Oq.c ?_ (Oq.c ?_ (Oq.c ?_ (Oq.c ?_ (Oq.c ?_ (Oq.c ?_ (Oq.n)))))))))
     ·refine Om Z (sO 2 sN) ?_
      exact Ld isAgg249 Z Wp
     ·refine Om Z (sO 7 sN) ?_
      exact Fp fa_184_0 Z Wp
     ·refine Om Z (sD 1 sN) ?_
      exact Ld isAgg3 Z Wp
     ·refine Om Z (sD 0 sN) ?_
      exact S Z Wp
     ·refine Om Z (sD 2 (sD 3 sN)) ?_
      refine vX (.ptr 2 1) (OpV.ixArrC (i := x27.Kind) (n := 4) (k := 1) (j := 1) hg29 Z runUnderlying284 sizeOf248 Z) ?_
      exact Wp
     ·refine Om Z (sD 4 sN) ?_
      exact Fp fa_248_0 Z Wp
     ·refine Om Z (sD 5 sN) ?_
      exact Ld isAgg246 Z Wp
     ·refine Om Z (sO 0 sN) ?_
      exact S Z Wp
     ·refine Om Z (sO 7 sN) ?_
      refine vX (.agg (Value.c x27)) (OpV.loadA Z isAgg184 sizeOf184 Z (Pts.cells Z Z) Z Z) ?_
      exact Wp
    refine Bd h25 fun r30 hr30 h25 => ?_
    refine WO.callD [3] (OpC.clo call201 Z Z Z Z) (k_t _ _ _ _ hr30) ?_
    rintro _ _ ⟨rfl, rfl⟩
    refine aV (.osl 5 0 r30.length 1) [_, _, _, .dead, _, .row 5 1 (List.map (encI .u8) r30)] Z Z ?_
    exact S Z (WO.nil (bloN (seqN (TC.region (S Z (S Z (WO.nil (loopN h25 (Lr [0, 1, 2, 5])))))))))
   ·refine If h25 (fun hg31 h25 => ?_) (fun hg31 h25 => ?_)
    ·cases h25
    ·refine If h25 (fun hg32 h25 => ?_) (fun hg32 h25 => ?_)
     ·refine TC.draw0 9 [23, 24, 25, 26, 27, 28, 29, 30, 31] [.ptr 2 0, .ptr 4 0, .int .i64 x27.Kind, .ptr 2 0, .ptr 2 3, .ptr 2 3, .fn (.func 205) [] [.ptr 1 0], .osl 3 0 s23.1.length 1, .agg (Value.c x27)] draws Z Z Z ?_ ?_
      ·refine Oq.c ?_ (Oq.c ?_ (Oq.c ?_ (Oq.c ?_ (Oq.c ?_ (Oq.c ?_ (Oq.c ?_ (Oq.c ?_ (Oq.c ?_ (Oq.n)))))))))
       ·refine Om Z (sO 2 sN) ?_
        exact Ld isAgg249 Z Wp
       ·refine Om Z (sO 7 sN) ?_
        exact Fp fa_184_0 Z Wp
       ·refine Om Z (sD 1 sN) ?_
        exact Ld isAgg3 Z Wp
       ·refine Om Z (sD 0 sN) ?_
        exact S Z Wp
       ·refine Om Z (sD 2 (sD 3 sN)) ?_
        refine vX (.ptr 2 3) (OpV.ixArrC (i := x27.Kind) (n := 4) (k := 1) (j := 3) hg32 Z runUnderlying284 sizeOf248 Z) ?_
        exact Wp
       ·refine Om Z (sD 4 sN) ?_
        exact Fp fa_248_0 Z Wp
       ·refine Om Z (sD 5 sN) ?_
        exact Ld isAgg246 Z Wp
       ·refine Om Z (sO 0 sN) ?_
        exact S Z Wp
       ·refine Om Z (sO 7 sN) ?_
        refine vX (.agg (Value.c x27)) (OpV.loadA Z isAgg184 sizeOf184 Z (Pts.cells Z Z) Z Z) ?_
        exact Wp
      refine Bd h25 fun r33 hr33 h25 => ?_
      refine WO.callD [3, 1, 2] (OpC.clo call205 Z Z Z Z) (hrec146 _ _ _ hr33) ?_
      rintro _ _ ⟨rfl, rfl⟩
      refine aV (.osl 5 0 r33.length 1) [_, _, _, .dead, _, .row 5 1 (List.map (encI .u8) r33)] Z Z ?_
      exact S Z (WO.nil (bloN (seqN (TC.region (S Z (S Z (WO.nil (loopN h25 (Lr [0, 1, 2, 5])))))))))
     ·cases h25
 refine seqN (TC.le hle (Rg (S Z (S Z (Nx (TC.ret ?_))))))
 obtain rfl := Oi h
 refine ⟨[(5, _)], _, _, ?_, ResOK.one Z Z, Z, Z⟩
 exact Lr [0, 1, 2, 3]
def F_r : Nat → (List Int) → Value → Option (List Int)
  | 0 => fun _ _ => none
  | n + 1 => B_r (F_r n) n
theorem k_r (n : Nat) : ∀ (a1 : List Int) (a2 : Value) (r : List Int), F_r n a1 a2 = some r → C prog 205 [.osl 0 0 a1.length 1, .agg (Value.c a2), .ptr 1 0] [.row 5 1 (List.map (encI .u8) a1), .cells 249 [.ptr 2 0], .cells 284 [.nilf, .fn (.func 201) [] [], .fn (.func 204) [] [], .fn (.func 205) [] [.ptr 1 0]]] (fun a H => a = .osl 3 0 r.length 1 ∧ H = [.dead, .cells 249 [.ptr 2 0], .cells 284 [.nilf, .fn (.func 201) [] [], .fn (.func 204) [] [], .fn (.func 205) [] [.ptr 1 0]], .row 5 1 (List.map (encI .u8) r)]) := by
  induction n with
  | zero => intro a1 a2 r h; cases h
  | succ n ih => intro a1 a2 r h; exact okB_codec_newWriter_3_mqk _ ih n a1 a2 r h
def F_fg (n : Nat) (a1 : Value) (s23 : (List Int) × Int) : Option (Ctl ((List Int) × Int) (List Int)) :=
  (bif decide (s23.2 < (a1.L.length : Int)) then (idx a1.L s23.2).bind fun x27 => (bif (x27.Kind == 0) then none else (bif (x27.Kind == 1) then (F_t n s23.1 x27).bind fun r30 => some (.cont (r30, IntKind.i64.wrap (s23.2 + 1))) else (bif (x27.Kind == 2) then none else (bif (x27.Kind == 3) then (F_r n s23.1 x27).bind fun r33 => some (.cont (r33, IntKind.i64.wrap (s23.2 + 1))) else none)))) else some (.done s23.1))
def F_ck (n : Nat) (a1 : Value) : Option (List Int) :=
  (app [] [3]).bind fun l1 => (F_h n l1 (IntKind.u64.wrap (a1.L.length : Int))).bind fun r2 => (iter (F_fg n a1) n (r2, 0) : Option (List Int)).bind fun b20 => some b20
theorem k_ck (n : Nat) (a1 : Value) (r : List Int) (h : F_ck n a1 = some r) :
    C prog 205 [.nils, .agg (Value.c a1), .ptr 0 0] [.cells 249 [.ptr 1 0], .cells 284 [.nilf, .fn (.func 201) [] [], .fn (.func 204) [] [], .fn (.func 205) [] [.ptr 0 0]]] (fun a H => a = .osl 2 0 r.length 1 ∧ H = [.cells 249 [.ptr 1 0], .cells 284 [.nilf, .fn (.func 201) [] [], .fn (.func 204) [] [], .fn (.func 205) [] [.ptr 0 0]], .row 5 1 (List.map (encI .u8) r)]) := by
 refine C.of_body func205 Z Z Z ?_
 refine Rg ?_
 refine vH (OpH.box Z Z Z Z Z) ?_
 refine aV (.ptr 2 0) [_, _, .cells 184 (Value.c a1)] Z Z ?_
 refine S Z (Nx (TC.seq ?_))
 obtain ⟨l1, hl1, h⟩ := bnd h
 refine TC.draws 7 0 [8, 9, 10, 11, 12, 13, 14] [false, false, true, false, false, false, false] [[], [], [], [], [], [], []] [[], [2]] [[(0, 0), (1, 1)], [(0, 0), (1, 1)], [(0, 1)], [(0, 0), (1, 1)], [(0, 0), (1, 1)], [(0, 0), (1, 1)], [(0, 0), (1, 1)]] [.nils, .rsl 1 (List.map (encI .u8) [3]), .osl 3 0 l1.length 1, .ptr 2 3, .rsl 4 (List.map Value.enc a1.L), .int .i64 (a1.L.length : Int), .int .u64 (IntKind.u64.wrap (a1.L.length : Int))] [[.cells 249 [.ptr 1 0], .cells 284 [.nilf, .fn (.func 201) [] [], .fn (.func 204) [] [], .fn (.func 205) [] [.ptr 0 0]], .cells 184 (Value.c a1)], [.cells 249 [.ptr 1 0], .cells 284 [.nilf, .fn (.func 201) [] [], .fn (.func 204) [] [], .fn (.func 205) [] [.ptr 0 0]], .cells 184 (Value.c a1), .row 5 1 (List.map (encI .u8) l1)]] ([.cells 249 [.ptr 1 0], .cells 284 [.nilf, .fn (.func 201) [] [], .fn (.func 204) [] [], .fn (.func 205) [] [.ptr 0 0]], .cells 184 (Value.c a1), .row 5 1 (List.map (encI .u8) l1)]) draws Z Z Z Z Z Z Z ?_ Z ?_
 ·refine OblM.cons ?_ (OblM.cons ?_ (OblM.cons ?_ (OblM.cons ?_ (OblM.cons ?_ (OblM.cons ?_ (OblM.cons ?_ (OblM.nil)))))))
  ·refine OblM.stC ?_ (OblM.stC ?_ (OblM.st0))
   ·refine Om Z (sO 0 sN) ?_
    exact S Z Wp
   ·refine Om Z (sO 0 sN) ?_
    exact S Z Wp
  ·refine OblM.stC ?_ (OblM.stC ?_ (OblM.st0))
   ·refine Om Z sN ?_
    refine vH (OpH.litR (xs := [.const (.int .u8 3)]) (es := List.map (encI .u8) [3]) el_118 Z Z Z Z Z ⟨Z, trivial⟩ Z Z) ?_
    refine aV (.rsl 1 (List.map (encI .u8) [3])) [_, _, _] Z Z ?_
    exact Wp
   ·refine Om Z sN ?_
    refine vH (OpH.litR (xs := [.const (.int .u8 3)]) (es := List.map (encI .u8) [3]) el_118 Z Z Z Z Z ⟨Z, trivial⟩ Z Z) ?_
    refine aV (.rsl 1 (List.map (encI .u8) [3])) [_, _, _, _] Z Z ?_
    exact Wp
  ·refine OblM.stC ?_ (OblM.st0)
   ·refine Om1 Z (sD 0 (sD 1 sN)) ?_
    refine vH (OpH.appN (e := (encI .u8)) hl1 el_118 runUnderlying118 Src.rM) ?_
    refine aV (.osl 3 0 l1.length 1) [_, _, _, .row 5 1 (List.map (encI .u8) l1)] Z Z ?_
    exact Wp
  ·refine OblM.stC ?_ (OblM.stC ?_ (OblM.st0))
   ·refine Om Z (sO 4 sN) ?_
    exact Fp fa_184_3 Z Wp
   ·refine Om Z (sO 4 sN) ?_
    exact Fp fa_184_3 Z Wp
  ·refine OblM.stC ?_ (OblM.stC ?_ (OblM.st0))
   ·refine Om Z (sD 3 sN) ?_
    exact Ld isAgg182 Z Wp
   ·refine Om Z (sD 3 sN) ?_
    exact Ld isAgg182 Z Wp
  ·refine OblM.stC ?_ (OblM.stC ?_ (OblM.st0))
   ·refine Om Z (sD 4 sN) ?_
    exact LnM runUnderlying182 Z Wp
   ·refine Om Z (sD 4 sN) ?_
    exact LnM runUnderlying182 Z Wp
  ·refine OblM.stC ?_ (OblM.stC ?_ (OblM.st0))
   ·refine Om Z (sD 5 sN) ?_
    refine vX (.int .u64 (IntKind.u64.wrap (a1.L.length : Int))) (OpV.conv Z runUnderlying3 runUnderlying281 Z) ?_
    exact Wp
   ·refine Om Z (sD 5 sN) ?_
    refine vX (.int .u64 (IntKind.u64.wrap (a1.L.length : Int))) (OpV.conv Z runUnderlying3 runUnderlying281 Z) ?_
    exact Wp
 refine Bd h fun r2 hr2 h => ?_
 refine WO.callD [3] (OpC.fn call202 Z Z Z) (k_h _ _ _ _ hr2) ?_
 rintro _ _ ⟨rfl, rfl⟩
 refine aV (.osl 4 0 r2.length 1) [_, _, _, .dead, .row 5 1 (List.map (encI .u8) r2)] Z Z ?_
 refine S Z (Nx (TC.seq (Rg (Fp fa_184_3 Z (Ld isAgg182 Z (LnM runUnderlying182 Z (S Z (Nx (Bd h fun b20 h21 h => ?_)))))))))
 refine TC.cut ([(0, .osl 2 0 b20.length 1)]) ([.cells 249 [.ptr 1 0], .cells 284 [.nilf, .fn (.func 201) [] [], .fn (.func 204) [] [], .fn (.func 205) [] [.ptr 0 0]], .row 5 1 (List.map (encI .u8) b20)]) ?_ (fun env H hle => ?_)
 ·refine TC.block ?_
  refine TC.loop (E := fun s23 => [(0, .osl 2 0 s23.1.length 1), (2, .ptr 0 0), (17, .rsl 4 (List.map Value.enc a1.L)), (18, .int .i64 (a1.L.length : Int)), (19, .int .i64 s23.2)]) (Hp := fun s23 => [.cells 249 [.ptr 1 0], .cells 284 [.nilf, .fn (.func 201) [] [], .fn (.func 204) [] [], .fn (.func 205) [] [.ptr 0 0]], .row 5 1 (List.map (encI .u8) s23.1)]) h21 ?_ ?_
  ·exact Lr [0, 1, 4]
  intro s23 d24 h25 hb22
  refine Rg (S Z (Nx (TC.seq (CnS Z h25 (fun hc26 h25 => ?_) (fun hc26 h25 => ?_)))))
  ·refine ExX (loopX h25 ?_)
   obtain rfl := hb22 _ (Oi h25).symm
   exact bloE (cutN (Lr [0, 1, 2]))
  refine SkN (TC.seq (TC.block (Rg (Bd h25 fun x27 hx27 h25 => ?_))))
  refine vX (.rp [.int .i64 x27.Kind, .int .i64 x27.N, .str x27.S, .rsl 4 (List.map Value.enc x27.L)]) (OpV.ixME (e := Value.enc) hx27 (Value.enc_eq x27) runUnderlying182 sizeOf184) ?_
  refine vX (.agg (Value.c x27)) (OpV.loadA Z isAgg184 sizeOf184 Z Pts.rp Z Z) ?_
  refine vH (OpH.allocZ (v := (.agg [.int .i64 0, .int .i64 0, .str [], .rsl 4 (List.map Value.enc [])])) zeroValue184 (ZR.agg (ZL.cons ZR.int (ZL.cons ZR.int (ZL.cons ZR.str (ZL.cons ZR.rsl ZL.nil)))))) ?_
  refine aV (.ptr 3 0) [_, _, _, .cells 184 [.int .i64 0, .int .i64 0, .str [], .rsl 4 (List.map Value.enc [])]] Z Z ?_
  refine vU (OpU.store Z Z Z sizeOf184 Z Z Z Z Z Z Z) ?_
  refine WO.atH (H := [_, _, _, .cells 184 (Value.c x27)]) Z ?_
  refine Nx ?_
  refine If h25 (fun hg28 h25 => ?_) (fun hg28 h25 => ?_)
  ·cases h25
  ·refine If h25 (fun hg29 h25 => ?_) (fun hg29 h25 => ?_)
   ·refine TC.draw0 9 [23, 24, 25, 26, 27, 28, 29, 30, 31] [.ptr 1 0, .ptr 3 0, .int .i64 x27.Kind, .ptr 1 0, .ptr 1 1, .ptr 1 1, .fn (.func 201) [] [], .osl 2 0 s23.1.length 1, .agg (Value.c x27)] draws Z Z Z ?_ ?_
    ·refine Oq.c ?_ (Oq.c ?_ (Oq.c ?_ (Oq.c ?_ (Oq.c ?_ (Oq.c ?_ (Oq.c ?_ (Oq.c ?_ (Oq.c ?_ (Oq.n)))))))))
     ·refine Om Z (sO 2 sN) ?_
      exact Ld isAgg249 Z Wp
     ·refine Om Z (sO 7 sN) ?_
      exact Fp fa_184_0 Z Wp
     ·refine Om Z (sD 1 sN) ?_
      exact Ld isAgg3 Z Wp
     ·refine Om Z (sD 0 sN) ?_
      exact S Z Wp
     ·refine Om Z (sD 2 (sD 3 sN)) ?_
      refine vX (.ptr 1 1) (OpV.ixArrC (i := x27.Kind) (n := 4) (k := 1) (j := 1) hg29 Z runUnderlying284 sizeOf248 Z) ?_
      exact Wp
     ·refine Om Z (sD 4 sN) ?_
      exact Fp fa_248_0 Z Wp
     ·refine Om Z (sD 5 sN) ?_
      exact Ld isAgg246 Z Wp
     ·refine Om Z (sO 0 sN) ?_
      exact S Z Wp
     ·refine Om Z (sO 7 sN) ?_
      refine vX (.agg (Value.c x27)) (OpV.loadA Z isAgg184 sizeOf184 Z (Pts.cells Z Z) Z Z) ?_
      exact Wp
    refine Bd h25 fun r30 hr30 h25 => ?_
    refine WO.callD [2] (OpC.clo call201 Z Z Z Z) (k_t _ _ _ _ hr30) ?_
    rintro _ _ ⟨rfl, rfl⟩
    refine aV (.osl 4 0 r30.length 1) [_, _, .dead, _, .row 5 1 (List.map (encI .u8) r30)] Z Z ?_
    exact S Z (WO.nil (bloN (seqN (TC.region (S Z (S Z (WO.nil (loopN h25 (Lr [0, 1, 4])))))))))
   ·refine If h25 (fun hg31 h25 => ?_) (fun hg31 h25 => ?_)
    ·cases h25
    ·refine If h25 (fun hg32 h25 => ?_) (fun hg32 h25 => ?_)
     ·refine TC.draw0 9 [23, 24, 25, 26, 27, 28, 29, 30, 31] [.ptr 1 0, .ptr 3 0, .int .i64 x27.Kind, .ptr 1 0, .ptr 1 3, .ptr 1 3, .fn (.func 205) [] [.ptr 0 0], .osl 2 0 s23.1.length 1, .agg (Value.c x27)] draws Z Z Z ?_ ?_
      ·refine Oq.c ?_ (Oq.c ?_ (Oq.c ?_ (Oq.c ?_ (Oq.c ?_ (Oq.c ?_ (Oq.c ?_ (Oq.c ?_ (Oq.c ?_ (Oq.n)))))))))
       ·refine Om Z (sO 2 sN) ?_
        exact Ld isAgg249 Z Wp
       ·refine Om Z (sO 7 sN) ?_
        exact Fp fa_184_0 Z Wp
       ·refine Om Z (sD 1 sN) ?_
        exact Ld isAgg3 Z Wp
       ·refine Om Z (sD 0 sN) ?_
        exact S Z Wp
       ·refine Om Z (sD 2 (sD 3 sN)) ?_
        refine vX (.ptr 1 3) (OpV.ixArrC (i := x27.Kind) (n := 4) (k := 1) (j := 3) hg32 Z runUnderlying284 sizeOf248 Z) ?_
        exact Wp
       ·refine Om Z (sD 4 sN) ?_
        exact Fp fa_248_0 Z Wp
       ·refine Om Z (sD 5 sN) ?_
        exact Ld isAgg246 Z Wp
       ·refine Om Z (sO 0 sN) ?_
        exact S Z Wp
       ·refine Om Z (sO 7 sN) ?_
        refine vX (.agg (Value.c x27)) (OpV.loadA Z isAgg184 sizeOf184 Z (Pts.cells Z Z) Z Z) ?_
        exact Wp
      refine Bd h25 fun r33 hr33 h25 => ?_
      refine WO.callD [2, 0, 1] (OpC.clo call205 Z Z Z Z) (k_r _ _ _ _ hr33) ?_
      rintro _ _ ⟨rfl, rfl⟩
      refine aV (.osl 4 0 r33.length 1) [_, _, .dead, _, .row 5 1 (List.map (encI .u8) r33)] Z Z ?_
      exact S Z (WO.nil (bloN (seqN (TC.region (S Z (S Z (WO.nil (loopN h25 (Lr [0, 1, 4])))))))))
     ·cases h25
 refine seqN (TC.le hle (Rg (S Z (S Z (Nx (TC.ret ?_))))))
 obtain rfl := Oi h
 refine ⟨[(5, _)], _, _, ?_, ResOK.one Z Z, Z, Z⟩
 exact Lr [0, 1, 2]
def F_dv (n : Nat) (a1 : Value) : Option ((List Int) × Int) :=
  (F_dk n a1).bind fun r1 => (bif (r1 != 0) then some ([], r1) else (F_ak n).bind fun r3 => (bif (a1.Kind == 0) then none else (bif (a1.Kind == 1) then (F_do n a1).bind fun r6 => some (r6, 0) else (bif (a1.Kind == 2) then none else (bif (a1.Kind == 3) then (F_ck n a1).bind fun r9 => some (r9, 0) else none)))))
theorem k_dv (n : Nat) (a1 : Value) (r : (List Int) × Int) (h : F_dv n a1 = some r) :
    C prog 85 [.agg (Value.c a1)] [] (fun a H => a = .tup [.osl 0 0 r.1.length 1, .int .i64 r.2] ∧ H = [.row 5 1 (List.map (encI .u8) r.1)]) := by
 refine C.of_body func85 Z Z Z ?_
 refine Rg ?_
 refine vH (OpH.box Z Z Z Z Z) ?_
 refine aV (.ptr 0 0) [.cells 184 (Value.c a1)] Z Z ?_
 refine S Z (S Z (Nx (TC.seq (Rg ?_))))
 refine vX (.agg (Value.c a1)) (OpV.loadA Z isAgg184 sizeOf184 Z (Pts.cells Z Z) Z Z) ?_
 refine Bd h fun r1 hr1 h => ?_
 refine WO.callD [] (OpC.fn call149 Z Z Z) (k_dk _ _ _ hr1) ?_
 rintro _ _ ⟨rfl, rfl⟩
 refine aV (.int .i64 r1) [_] Z Z ?_
 refine S Z (Nx (Rg (S Z (S Z (Nx (Cn Z h (fun hc2 h => ?_) (fun hc2 h => ?_)))))))
 ·refine Rg (S Z (S Z (S Z (Nx (RtR ?_)))))
  obtain rfl := Oi h
  refine ⟨[(2, _), (3, _)], _, _, ?_, ResOK.two Z Z Z, Z, Z⟩
  refine Le.trans (Le.phantom (s := 2) (k := 1) (t := 5) (Nat.le_of_ble_eq_true Z) Z) ?_
  exact Lr [1]
 refine SkN (TC.seq ?_)
 obtain ⟨r3, hr3, h⟩ := bnd h
 refine If h (fun hg4 h => ?_) (fun hg4 h => ?_)
 ·cases h
 ·refine If h (fun hg5 h => ?_) (fun hg5 h => ?_)
  ·refine TC.draws 8 0 [10, 11, 12, 13, 14, 15, 16, 17] [true, false, false, false, false, false, false, false] [[], [], [], [0], [0], [0], [0], []] [[], [0]] [[(0, 1)], [(0, 0), (1, 1)], [(0, 0), (1, 1)], [(1, 1)], [(1, 1)], [(1, 1)], [(1, 1)], [(0, 0), (1, 1)]] [.ptr 1 0, .ptr 0 0, .int .i64 a1.Kind, .ptr 1 0, .ptr 1 1, .ptr 1 1, .fn (.func 201) [] [], .agg (Value.c a1)] [[.cells 184 (Value.c a1)], [.cells 184 (Value.c a1), .cells 284 [.nilf, .fn (.func 201) [] [], .fn (.func 204) [] [], .fn (.func 205) [] [.ptr 2 0]], .cells 249 [.ptr 1 0]]] ([.cells 184 (Value.c a1), .cells 284 [.nilf, .fn (.func 201) [] [], .fn (.func 204) [] [], .fn (.func 205) [] [.ptr 2 0]], .cells 249 [.ptr 1 0]]) draws Z Z Z Z Z Z Z ?_ Z ?_
   ·refine OblM.cons ?_ (OblM.cons ?_ (OblM.cons ?_ (OblM.cons ?_ (OblM.cons ?_ (OblM.cons ?_ (OblM.cons ?_ (OblM.cons ?_ (OblM.nil))))))))
    ·refine OblM.stC ?_ (OblM.st0)
     ·refine Om1 Z sN ?_
      refine WO.callD [] (OpC.fn call150 Z Z Z) (k_ak _ _ hr3) ?_
      rintro _ _ ⟨rfl, rfl⟩
      refine aV (.ptr 1 0) [_, .cells 284 [.nilf, .fn (.func 201) [] [], .fn (.func 204) [] [], .fn (.func 205) [] [.ptr 2 0]], .cells 249 [.ptr 1 0]] Z Z ?_
      exact Wp
    ·refine OblM.stC ?_ (OblM.stC ?_ (OblM.st0))
     ·refine Om Z (sO 1 sN) ?_
      exact Fp fa_184_0 Z Wp
     ·refine Om Z (sO 1 sN) ?_
      exact Fp fa_184_0 Z Wp
    ·refine OblM.stC ?_ (OblM.stC ?_ (OblM.st0))
     ·refine Om Z (sD 1 sN) ?_
      exact Ld isAgg3 Z Wp
     ·refine Om Z (sD 1 sN) ?_
      exact Ld isAgg3 Z Wp
    ·refine OblM.stC ?_ (OblM.st0)
     ·refine Om Z (sD 0 sN) ?_
      exact S Z Wp
    ·refine OblM.stC ?_ (OblM.st0)
     ·refine Om Z (sD 2 (sD 3 sN)) ?_
      refine vX (.ptr 1 1) (OpV.ixArrC (i := a1.Kind) (n := 4) (k := 1) (j := 1) hg5 Z runUnderlying284 sizeOf248 Z) ?_
      exact Wp
    ·refine OblM.stC ?_ (OblM.st0)
     ·refine Om Z (sD 4 sN) ?_
      exact Fp fa_248_0 Z Wp
    ·refine OblM.stC ?_ (OblM.st0)
     ·refine Om Z (sD 5 sN) ?_
      exact Ld isAgg246 Z Wp
    ·refine OblM.stC ?_ (OblM.stC ?_ (OblM.st0))
     ·refine Om Z (sO 1 sN) ?_
      refine vX (.agg (Value.c a1)) (OpV.loadA Z isAgg184 sizeOf184 Z (Pts.cells Z Z) Z Z) ?_
      exact Wp
     ·refine Om Z (sO 1 sN) ?_
      refine vX (.agg (Value.c a1)) (OpV.loadA Z isAgg184 sizeOf184 Z (Pts.cells Z Z) Z Z) ?_
      exact Wp
   refine Bd h fun r6 hr6 h => ?_
   refine WO.callD [] (OpC.clo call201 Z Z Z Z) (k_do _ _ _ hr6) ?_
   rintro _ _ ⟨rfl, rfl⟩
   refine aV (.osl 3 0 r6.length 1) [_, _, _, .row 5 1 (List.map (encI .u8) r6)] Z Z ?_
   refine S Z (S Z (Nx (TC.ret ?_)))
   obtain rfl := Oi h
   refine ⟨[(2, _), (3, _)], _, _, ?_, ResOK.two Z Z Z, Z, Z⟩
   exact Lr [3]
  ·refine If h (fun hg7 h => ?_) (fun hg7 h => ?_)
   ·cases h
   ·refine If h (fun hg8 h => ?_) (fun hg8 h => ?_)
    ·refine TC.draws 8 0 [10, 11, 12, 13, 14, 15, 16, 17] [true, false, false, false, false, false, false, false] [[], [], [], [0], [0], [0], [0], []] [[], [0]] [[(0, 1)], [(0, 0), (1, 1)], [(0, 0), (1, 1)], [(1, 1)], [(1, 1)], [(1, 1)], [(1, 1)], [(0, 0), (1, 1)]] [.ptr 1 0, .ptr 0 0, .int .i64 a1.Kind, .ptr 1 0, .ptr 1 3, .ptr 1 3, .fn (.func 205) [] [.ptr 2 0], .agg (Value.c a1)] [[.cells 184 (Value.c a1)], [.cells 184 (Value.c a1), .cells 284 [.nilf, .fn (.func 201) [] [], .fn (.func 204) [] [], .fn (.func 205) [] [.ptr 2 0]], .cells 249 [.ptr 1 0]]] ([.cells 184 (Value.c a1), .cells 284 [.nilf, .fn (.func 201) [] [], .fn (.func 204) [] [], .fn (.func 205) [] [.ptr 2 0]], .cells 249 [.ptr 1 0]]) draws Z Z Z Z Z Z Z ?_ Z ?_
     ·refine OblM.cons ?_ (OblM.cons ?_ (OblM.cons ?_ (OblM.cons ?_ (OblM.cons ?_ (OblM.cons ?_ (OblM.cons ?_ (OblM.cons ?_ (OblM.nil))))))))
      ·refine OblM.stC ?_ (OblM.st0)
       ·refine Om1 Z sN ?_
        refine WO.callD [] (OpC.fn call150 Z Z Z) (k_ak _ _ hr3) ?_
        rintro _ _ ⟨rfl, rfl⟩
        refine aV (.ptr 1 0) [_, .cells 284 [.nilf, .fn (.func 201) [] [], .fn (.func 204) [] [], .fn (.func 205) [] [.ptr 2 0]], .cells 249 [.ptr 1 0]] Z Z ?_
        exact Wp
      ·refine OblM.stC ?_ (OblM.stC ?_ (OblM.st0))
       ·refine Om Z (sO 1 sN) ?_
        exact Fp fa_184_0 Z Wp
       ·refine Om Z (sO 1 sN) ?_
        exact Fp fa_184_0 Z Wp
      ·refine OblM.stC ?_ (OblM.stC ?_ (OblM.st0))
       ·refine Om Z (sD 1 sN) ?_
        exact Ld isAgg3 Z Wp
       ·refine Om Z (sD 1 sN) ?_
        exact Ld isAgg3 Z Wp
      ·refine OblM.stC ?_ (OblM.st0)
       ·refine Om Z (sD 0 sN) ?_
        exact S Z Wp
      ·refine OblM.stC ?_ (OblM.st0)
       ·refine Om Z (sD 2 (sD 3 sN)) ?_
        refine vX (.ptr 1 3) (OpV.ixArrC (i := a1.Kind) (n := 4) (k := 1) (j := 3) hg8 Z runUnderlying284 sizeOf248 Z) ?_
        exact Wp
      ·refine OblM.stC ?_ (OblM.st0)
       ·refine Om Z (sD 4 sN) ?_
        exact Fp fa_248_0 Z Wp
      ·refine OblM.stC ?_ (OblM.st0)
       ·refine Om Z (sD 5 sN) ?_
        exact Ld isAgg246 Z Wp
      ·refine OblM.stC ?_ (OblM.stC ?_ (OblM.st0))
       ·refine Om Z (sO 1 sN) ?_
        refine vX (.agg (Value.c a1)) (OpV.loadA Z isAgg184 sizeOf184 Z (Pts.cells Z Z) Z Z) ?_
        exact Wp
       ·refine Om Z (sO 1 sN) ?_
        refine vX (.agg (Value.c a1)) (OpV.loadA Z isAgg184 sizeOf184 Z (Pts.cells Z Z) Z Z) ?_
        exact Wp
     refine Bd h fun r9 hr9 h => ?_
     refine WO.callD [2, 1] (OpC.clo call205 Z Z Z Z) (k_ck _ _ _ hr9) ?_
     rintro _ _ ⟨rfl, rfl⟩
     refine aV (.osl 3 0 r9.length 1) [_, _, _, .row 5 1 (List.map (encI .u8) r9)] Z Z ?_
     refine S Z (S Z (Nx (TC.ret ?_)))
     obtain rfl := Oi h
     refine ⟨[(2, _), (3, _)], _, _, ?_, ResOK.two Z Z Z, Z, Z⟩
     exact Lr [3]
    ·cases h
def F_fb (n : Nat) (r1 : (List Int) × Bool) (s13 : (List Value) × Int) : Option (Ctl ((List Value) × Int) (List Value)) :=
  (bif decide (s13.2 < (r1.1.length : Int)) then (idx r1.1 s13.2).bind fun x17 => (app s13.1 [{ Kind := 1, N := x17, S := [], L := [] : Value }]).bind fun l18 => some (.cont (l18, IntKind.i64.wrap (s13.2 + 1))) else some (.done s13.1))
def F_ad (n : Nat) (a1 : Fact) : Option ((List Int) × Int) :=
  (F_v n a1).bind fun r1 => (bif (!r1.2) then some ([], 120) else (iter (F_fb n r1) n ([], 0) : Option (List Value)).bind fun b10 => (F_dv n ({ Kind := 3, N := 0, S := [], L := b10 : Value })).bind fun r19 => some (r19.1, r19.2))
theorem k_ad (n : Nat) (a1 : Fact) (r : (List Int) × Int) (h : F_ad n a1 = some r) :
    C prog 50 [.agg (Fact.c a1)] [] (fun a H => a = .tup [.osl 0 0 r.1.length 1, .int .i64 r.2] ∧ H = [.row 5 1 (List.map (encI .u8) r.1)]) := by
 refine C.of_body func50 Z Z Z ?_
 refine Rg ?_
 refine vH (OpH.box Z Z Z Z Z) ?_
 refine aV (.ptr 0 0) [.cells 81 (Fact.c a1)] Z Z ?_
 refine S Z (S Z (Nx (Rg ?_)))
 refine vX (.agg (Fact.c a1)) (OpV.loadA Z isAgg81 sizeOf81 Z (Pts.cells Z Z) Z Z) ?_
 refine Bd h fun r1 hr1 h => ?_
 refine WO.callD [] (OpC.fn call49 Z Z Z) (k_v _ _ _ hr1) ?_
 rintro _ _ ⟨rfl, rfl⟩
 refine aV (.tup [.osl 1 0 r1.1.length 1, .bool r1.2]) [_, .row 3 1 (List.map (encI .i64) r1.1)] Z Z ?_
 refine S Z (S Z (S Z (S Z (S Z (Nx (TC.seq (Rg (S Z (S Z (Nx (Cn Z h (fun hc2 h => ?_) (fun hc2 h => ?_))))))))))))
 ·refine Rg (S Z (S Z (Nx (RtR ?_))))
  obtain rfl := Oi h
  refine ⟨[(2, _), (3, _)], _, _, ?_, ResOK.two Z Z Z, Z, Z⟩
  refine Le.trans (Le.phantom (s := 2) (k := 1) (t := 5) (Nat.le_of_ble_eq_true Z) Z) ?_
  exact Lr [2]
 refine SkN (Rg ?_)
 refine vX (.agg [.int .i64 3, .int .i64 0, .str [], .nils]) (OpV.build (zs := [.int .i64 0, .int .i64 0, .str [], .nils]) zeroValue184 (ZR.agg (ZL.cons ZR.int (ZL.cons ZR.int (ZL.cons ZR.str (ZL.cons ZR.nils ZL.nil))))) pl_184) ?_
 refine vH (OpH.allocZ (v := (.agg [.int .i64 0, .int .i64 0, .str [], .nils])) zeroValue184 (ZR.agg (ZL.cons ZR.int (ZL.cons ZR.int (ZL.cons ZR.str (ZL.cons ZR.nils ZL.nil)))))) ?_
 refine aV (.ptr 2 0) [_, _, .cells 184 [.int .i64 0, .int .i64 0, .str [], .nils]] Z Z ?_
 refine vU (OpU.store Z Z Z sizeOf184 Z Z Z Z Z Z Z) ?_
 refine WO.atH (H := [_, _, .cells 184 [.int .i64 3, .int .i64 0, .str [], .nils]]) Z ?_
 refine Nx (TC.seq (Rg (S Z (LnO runUnderlying48 Z (S Z (Nx (Bd h fun b10 h11 h => ?_)))))))
 refine TC.cut ([(6, .ptr 0 0)]) ([.cells 184 [.int .i64 3, .int .i64 0, .str [], .osl 1 0 b10.length 4], .row 184 4 (List.map Value.enc b10)]) ?_ (fun env H hle => ?_)
 ·refine TC.block ?_
  refine TC.loop (E := fun s13 => [(6, .ptr 0 0), (17, .osl 2 0 r1.1.length 1), (18, .int .i64 (r1.1.length : Int)), (19, .int .i64 s13.2)]) (Hp := fun s13 => [.cells 184 [.int .i64 3, .int .i64 0, .str [], .osl 1 0 s13.1.length 4], .row 184 4 (List.map Value.enc s13.1), .row 3 1 (List.map (encI .i64) r1.1)]) h11 ?_ ?_
  ·refine Le.trans (Le.phantomR (i := 2) (m := 3) (t := 184) (k := 4) Z Z Z) ?_
   exact Lr [2, 3, 1]
  intro s13 d14 h15 hb12
  refine Rg (S Z (Nx (TC.seq (CnS Z h15 (fun hc16 h15 => ?_) (fun hc16 h15 => ?_)))))
  ·refine ExX (loopX h15 ?_)
   obtain rfl := hb12 _ (Oi h15).symm
   exact bloE (cutN (Lr [0, 1]))
  refine SkN (TC.seq (TC.block (Rg (Bd h15 fun x17 hx17 h15 => ?_))))
  refine vX (.ptr 2 (Int.toNat s13.2 * 1)) (OpV.ixW hx17 Z runUnderlying48 sizeOf3) ?_
  refine vX (.int .i64 x17) (OpV.load Z isAgg3 Z (Pts.ofRow0 hx17)) ?_
  refine S Z (Nx (TC.region (Fp fa_184_3 Z (Ld isAgg182 Z (S Z ?_)))))
  refine vX (.agg [.int .i64 1, .int .i64 x17, .str [], .rsl 4 (List.map Value.enc [])]) (OpV.build (zs := [.int .i64 0, .int .i64 0, .str [], .rsl 4 (List.map Value.enc [])]) zeroValue184 (ZR.agg (ZL.cons ZR.int (ZL.cons ZR.int (ZL.cons ZR.str (ZL.cons ZR.rsl ZL.nil))))) pl_184) ?_
  refine vH (OpH.lit (xs := [.tmp 26]) (es := List.map Value.enc [{ Kind := 1, N := x17, S := [], L := [] : Value }]) el_182 Z Z Z Z Z ⟨Z, trivial⟩ Z Z) ?_
  refine aV (.osl 3 0 ([{ Kind := 1, N := x17, S := [], L := [] : Value }].length) 4) [_, _, _, .row 184 4 (List.map Value.enc [{ Kind := 1, N := x17, S := [], L := [] : Value }])] Z Z ?_
  refine Bd h15 fun l18 hl18 h15 => ?_
  refine vH (OpH.appO (e := Value.enc) hl18 el_182 runUnderlying182 (Src.oM (i := 3))) ?_
  refine aV (.osl 4 0 l18.length 4) [_, .dead, _, _, .row 184 4 (List.map Value.enc l18)] Z Z ?_
  refine Fp fa_184_3 Z ?_
  refine vU (OpU.store Z Z Z sizeOf182 Z Z Z Z Z Z Z) ?_
  refine WO.atH (H := [.cells 184 [.int .i64 3, .int .i64 0, .str [], .osl 4 0 l18.length 4], _, _, _, _]) Z ?_
  exact WO.nil (bloN (seqN (TC.region (S Z (S Z (WO.nil (loopN h15 (Lr [0, 4, 2]))))))))
 refine seqN (TC.le hle (Rg ?_))
 refine vX (.agg [.int .i64 3, .int .i64 0, .str [], .osl 1 0 b10.length 4]) (OpV.loadA Z isAgg184 sizeOf184 Z (Pts.cells Z Z) Z Z) ?_
 refine WO.le (Le.fz [(31, _)] Z Z (FzOv.cons Z (FzA.agg (FzL.cons (FzA.refl _) (FzL.cons (FzA.refl _) (FzL.cons (FzA.refl _) (FzL.cons (FzA.own (List.length_map ..).symm) (FzL.refl _)))))) FzOv.nil) (FzH.cells (FzL.cons (FzA.refl _) (FzL.cons (FzA.refl _) (FzL.cons (FzA.refl _) (FzL.cons (FzA.own (List.length_map ..).symm) (FzL.refl _))))) (FzH.keep (FzH.nil)))) ?_
 refine Bd h fun r19 hr19 h => ?_
 refine WO.callD [] (OpC.fn call85 Z Z Z) (k_dv _ _ _ hr19) ?_
 rintro _ _ ⟨rfl, rfl⟩
 refine aV (.tup [.osl 2 0 r19.1.length 1, .int .i64 r19.2]) [.cells 184 [.int .i64 3, .int .i64 0, .str [], .rsl 4 (List.map Value.enc b10)], .dead, .row 5 1 (List.map (encI .u8) r19.1)] Z Z ?_
 refine S Z (S Z (S Z (S Z (Nx (TC.ret ?_)))))
 obtain rfl := Oi h
 refine ⟨[(2, _), (3, _)], _, _, ?_, ResOK.two Z Z Z, Z, Z⟩
 exact Lr [2]
def F_bf (n : Nat) (a1 : List Int) (a2 : List Int) : Option Unit :=
  some ()
theorem k_bf (n : Nat) (a1 : List Int) (a2 : List Int) (r : Unit) (h : F_bf n a1 a2 = some r) :
    C prog 51 [.rsl 1 (List.map (encI .u8) a1), .rsl 1 (List.map (encI .u8) a2)] [] (fun a H => a = .int .i64 (cmpB a1 a2) ∧ H = []) := by
 refine C.of_body func51 Z Z Z ?_
 refine Rg (S Z (Nx (Rg (S Z (S Z ?_)))))
 refine vX (.int .i64 (cmpB a1 a2)) (OpV.cmpB (l := a1) (m := a2) func86 (by kernel_rfl) (by kernel_rfl) (by kernel_rfl) (by kernel_rfl) SrcB.rsl SrcB.rsl) ?_
 refine S Z (Nx (TC.ret ?_))
 obtain rfl := Oi h
 refine ⟨[(4, _)], _, _, ?_, ResOK.one Z Z, Z, Z⟩
 exact Lr []
def F_co (n : Nat) (a1 : Fact) (a2 : Fact) : Option Int :=
  (F_e n a1.At a2.At).bind fun r1 => (F_e n a1.Crew a2.Crew).bind fun r2 => (F_e n a1.No a2.No).bind fun r3 => (F_w n [r1, r2, r3]).bind fun r4 => (bif (r4 != 0) then some r4 else (F_ad n a1).bind fun r6 => (F_ad n a2).bind fun r7 => (F_bf n r6.1 r7.1).bind fun r8 => some (cmpB r6.1 r7.1))
theorem k_co (n : Nat) (a1 : Fact) (a2 : Fact) (r : Int) (h : F_co n a1 a2 = some r) :
    C prog 27 [.agg (Fact.c a1), .agg (Fact.c a2)] [] (fun a H => a = .int .i64 r ∧ H = []) := by
 refine C.of_body func27 Z Z Z ?_
 refine Rg ?_
 refine vH (OpH.box Z Z Z Z Z) ?_
 refine aV (.ptr 0 0) [.cells 81 (Fact.c a1)] Z Z ?_
 refine vH (OpH.box Z Z Z Z Z) ?_
 refine aV (.ptr 1 0) [_, .cells 81 (Fact.c a2)] Z Z ?_
 refine S Z (Nx (TC.seq (TC.seq ?_)))
 obtain ⟨r1, hr1, h⟩ := bnd h
 obtain ⟨r2, hr2, h⟩ := bnd h
 refine TC.draw0 14 [10, 11, 12, 13, 14, 15, 16, 17, 18, 19, 20, 21, 22, 23] [.ptr 0 2, .int .i64 a1.At, .ptr 1 2, .int .i64 a2.At, .int .i64 r1, .ptr 0 0, .int .i64 a1.Crew, .ptr 1 0, .int .i64 a2.Crew, .int .i64 r2, .ptr 0 1, .int .i64 a1.No, .ptr 1 1, .int .i64 a2.No] draws Z Z Z ?_ ?_
 ·refine Oq.c ?_ (Oq.c ?_ (Oq.c ?_ (Oq.c ?_ (Oq.c ?_ (Oq.c ?_ (Oq.c ?_ (Oq.c ?_ (Oq.c ?_ (Oq.c ?_ (Oq.c ?_ (Oq.c ?_ (Oq.c ?_ (Oq.c ?_ (Oq.n))))))))))))))
  ·refine Om Z (sO 2 sN) ?_
   exact Fp fa_81_2 Z Wp
  ·refine Om Z (sD 0 sN) ?_
   exact Ld isAgg3 Z Wp
  ·refine Om Z (sO 3 sN) ?_
   exact Fp fa_81_2 Z Wp
  ·refine Om Z (sD 2 sN) ?_
   exact Ld isAgg3 Z Wp
  ·refine Om Z (sD 1 (sD 3 sN)) ?_
   refine WO.callD [] (OpC.fn call41 Z Z Z) (k_e _ _ _ _ hr1) ?_
   rintro _ _ ⟨rfl, rfl⟩
   refine aV (.int .i64 r1) [_, _] Z Z ?_
   exact Wp
  ·refine Om Z (sO 2 sN) ?_
   exact Fp fa_81_0 Z Wp
  ·refine Om Z (sD 5 sN) ?_
   exact Ld isAgg3 Z Wp
  ·refine Om Z (sO 3 sN) ?_
   exact Fp fa_81_0 Z Wp
  ·refine Om Z (sD 7 sN) ?_
   exact Ld isAgg3 Z Wp
  ·refine Om Z (sD 6 (sD 8 sN)) ?_
   refine WO.callD [] (OpC.fn call41 Z Z Z) (k_e _ _ _ _ hr2) ?_
   rintro _ _ ⟨rfl, rfl⟩
   refine aV (.int .i64 r2) [_, _] Z Z ?_
   exact Wp
  ·refine Om Z (sO 2 sN) ?_
   exact Fp fa_81_1 Z Wp
  ·refine Om Z (sD 10 sN) ?_
   exact Ld isAgg3 Z Wp
  ·refine Om Z (sO 3 sN) ?_
   exact Fp fa_81_1 Z Wp
  ·refine Om Z (sD 12 sN) ?_
   exact Ld isAgg3 Z Wp
 refine Bd h fun r3 hr3 h => ?_
 refine WO.callD [] (OpC.fn call41 Z Z Z) (k_e _ _ _ _ hr3) ?_
 rintro _ _ ⟨rfl, rfl⟩
 refine aV (.int .i64 r3) [_, _] Z Z ?_
 refine vH (OpH.litR (xs := [.tmp 14, .tmp 19, .tmp 24]) (es := List.map (encI .i64) [r1, r2, r3]) el_48 Z Z Z Z Z ⟨Z, Z, Z, trivial⟩ Z Z) ?_
 refine aV (.rsl 1 (List.map (encI .i64) [r1, r2, r3])) [_, _] Z Z ?_
 refine Bd h fun r4 hr4 h => ?_
 refine WO.callD [] (OpC.fn call40 Z Z Z) (k_w _ _ _ hr4) ?_
 rintro _ _ ⟨rfl, rfl⟩
 refine aV (.int .i64 r4) [_, _] Z Z ?_
 refine S Z (Nx (Rg (S Z (S Z (Nx (Cn Z h (fun hc5 h => ?_) (fun hc5 h => ?_)))))))
 ·refine Rg (S Z (S Z (Nx (RtR ?_))))
  obtain rfl := Oi h
  refine ⟨[(4, _)], _, _, ?_, ResOK.one Z Z, Z, Z⟩
  exact Lr []
 refine SkN (Rg ?_)
 refine vX (.agg (Fact.c a1)) (OpV.loadA Z isAgg81 sizeOf81 Z (Pts.cells Z Z) Z Z) ?_
 refine Bd h fun r6 hr6 h => ?_
 refine WO.callD [] (OpC.fn call50 Z Z Z) (k_ad _ _ _ hr6) ?_
 rintro _ _ ⟨rfl, rfl⟩
 refine aV (.tup [.osl 2 0 r6.1.length 1, .int .i64 r6.2]) [_, _, .row 5 1 (List.map (encI .u8) r6.1)] Z Z ?_
 refine S Z (S Z (S Z (S Z (S Z (Nx (Rg ?_))))))
 refine vX (.agg (Fact.c a2)) (OpV.loadA Z isAgg81 sizeOf81 Z (Pts.cells Z Z) Z Z) ?_
 refine Bd h fun r7 hr7 h => ?_
 refine WO.callD [] (OpC.fn call50 Z Z Z) (k_ad _ _ _ hr7) ?_
 rintro _ _ ⟨rfl, rfl⟩
 refine aV (.tup [.osl 3 0 r7.1.length 1, .int .i64 r7.2]) [_, _, _, .row 5 1 (List.map (encI .u8) r7.1)] Z Z ?_
 refine S Z (S Z (S Z (S Z (S Z (Nx (Rg (S Z (S Z (Bd h fun r8 hr8 h => ?_)))))))))
 refine WO.callB (OpC.fn call51 rfl rfl rfl) (LookL.cons rfl (.inr ⟨_, _, _, _, _, rfl, rfl, List.length_map .., rfl⟩) (LookL.cons rfl (.inr ⟨_, _, _, _, _, rfl, rfl, List.length_map .., rfl⟩) LookL.nil)) (k_bf _ _ _ _ hr8) (by rintro _ _ ⟨rfl, rfl⟩; rfl) ?_
 rintro _ _ ⟨rfl, rfl⟩
 refine aV (.int .i64 (cmpB r6.1 r7.1)) [_, _, _, _] Z Z ?_
 refine S Z (Nx (TC.ret ?_))
 obtain rfl := Oi h
 refine ⟨[(4, _)], _, _, ?_, ResOK.one Z Z, Z, Z⟩
 exact Lr []
def F_bj (n : Nat) (a1 : List (Int × Fact)) : Option Unit :=
  some ()
theorem k_bj (n : Nat) (a1 : List (Int × Fact)) (r : Unit) (h : F_bj n a1 = some r) :
    C prog 61 [.map 0] [.map (menc (fun x => A.int .i64 x) (fun x => A.agg (Fact.c x)) a1)] (fun a H => a = .fn (.func 129) [] [.ptr 1 0] ∧ H = [.map (menc (fun x => A.int .i64 x) (fun x => A.agg (Fact.c x)) a1), .cells 98 [.map 0]]) := by
 refine C.of_body func61 Z Z Z ?_
 refine Rg ?_
 refine vH (OpH.box Z Z Z Z Z) ?_
 refine aV (.ptr 1 0) [_, .cells 98 [.map 0]] Z Z ?_
 refine S Z (Nx (Rg ?_))
 refine vX (.fn (.func 129) [] [.ptr 1 0]) (OpV.makeFunc (first := []) (cap := [.tmp 1]) Z Z Z) ?_
 refine S Z (Nx (TC.ret ?_))
 obtain rfl := Oi h
 refine ⟨[(2, _)], _, _, ?_, ResOK.one Z Z, Z, Z⟩
 exact Lr [0, 1]
def F_bt (n : Nat) (a1 : List (Int × Fact)) : Option (List Int) :=
  anyK (List.map Prod.fst a1) fun p1 => (sortI p1).bind fun l4 => some l4
theorem k_bt (n : Nat) (a1 : List (Int × Fact)) (r : List Int) (h : F_bt n a1 = some r) :
    C prog 60 [.fn (.func 129) [] [.ptr 0 0]] [.cells 98 [.map 1], .map (menc (fun x => A.int .i64 x) (fun x => A.agg (Fact.c x)) a1)] (fun a H => a = .osl 2 0 r.length 1 ∧ H = [.dead, .fmap (menc (fun x => A.int .i64 x) (fun x => A.agg (Fact.c x)) a1), .row 3 1 (List.map (encI .i64) r)]) := by
 refine C.of_body func60 Z Z Z ?_
 refine Rg (S Z (Nx (Rg (S Z ?_))))
 refine WO.le (Le.shut (i := 1) Z) ?_
 refine WO.atH (H := [.cells 98 [.map 1], .fmap (menc (fun x => A.int .i64 x) (fun x => A.agg (Fact.c x)) a1)]) Z ?_
 obtain ⟨h3, h⟩ := anyK_ok h
 refine WO.callD [0, 1] (OpC.fn call127 Z Z Z) (okc_127 _ h3) ?_
 rintro _ _ ⟨p1, h2, rfl, rfl⟩
 have h := h p1 h2
 refine aV (.osl 2 0 p1.length 1) [.dead, .fmap (menc (fun x => A.int .i64 x) (fun x => A.agg (Fact.c x)) a1), .row 3 1 (List.map (encI .i64) p1)] Z Z ?_
 refine S Z (Nx (Rg (S Z (Bd h fun l4 hl4 h => ?_))))
 refine WO.callD [2] (OpC.fn call128 Z Z Z) (C.sortI lay_sortI_128 hl4) ?_
 rintro _ _ ⟨rfl, rfl⟩
 refine WO.atV (x := .tup []) (H := [.dead, .fmap (menc (fun x => A.int .i64 x) (fun x => A.agg (Fact.c x)) a1), .row 3 1 (List.map (encI .i64) l4)]) Z Z ?_
 refine WO.le (Le.ov1 (s := 3) Z (congrArg (fun n => A.osl 2 0 n 1) (sortI_len hl4))) ?_
 refine WO.le (Le.ov1 (s := 5) Z (congrArg (fun n => A.osl 2 0 n 1) (sortI_len hl4))) ?_
 refine WO.le (Le.ov1 (s := 6) Z (congrArg (fun n => A.osl 2 0 n 1) (sortI_len hl4))) ?_
 refine Nx (Rg (S Z (S Z (Nx (TC.ret ?_)))))
 obtain rfl := Oi h
 refine ⟨[(2, _)], _, _, ?_, ResOK.one Z Z, Z, Z⟩
 exact Lr [0, 1, 2]
def F_gg (n : Nat) (a1 : List (Int × Fact)) (r2 : List Int) (s15 : (List Fact) × Int) : Option (Ctl ((List Fact) × Int) (List Fact)) :=
  (bif decide (s15.2 < (r2.length : Int)) then (idx r2 s15.2).bind fun x19 => (some (mgetD a1 x19 ({ Crew := 0, No := 0, At := 0, Kind := 0, Starter := { Bib := 0, Distance := 0, Wave := 0, Slot := 0, Age := 0, Chip := 0, Team := 0, Lot := 0 : Starter }, Read := { Mat := 0, Epoch := 0, Chip := 0, Local := 0 : Read }, Beacon := { Mat := 0, Epoch := 0, Local := 0, True := 0, Err := 0 : Beacon }, Sync := { MatA := 0, EpochA := 0, LocalA := 0, MatB := 0, EpochB := 0, LocalB := 0, Min := 0, Max := 0 : Sync }, Hand := { Bib := 0, Position := 0, Lo := 0, Hi := 0 : Hand }, Silence := { Mat := 0, Epoch := 0, Lo := 0, Hi := 0 : Silence }, Pair := { A := 0, B := 0 : Pair }, Report := { Case := 0, Bib := 0, Offence := 0, Position := 0 : Report }, Protest := { Case := 0, By := 0, Fee := 0, Form := 0 : Protest }, Ruling := { Case := 0, Instance := 0, Kind := 0, Bib := 0, Position := 0, Amount := 0 : Ruling }, Appeal := { Case := 0, Suspends := false : Appeal }, Void := { Crew := 0, No := 0 : Ref } : Fact }))).bind fun v20 => (app s15.1 [v20]).bind fun l21 => some (.cont (l21, IntKind.i64.wrap (s15.2 + 1))) else some (.done s15.1))
def F_ce (n : Nat) (a1 : List (Int × Fact)) : Option (List Fact) :=
  (F_bj n a1).bind fun r1 => (F_bt n a1).bind fun r2 => (iter (F_gg n a1 r2) n ([], 0) : Option (List Fact)).bind fun b12 => some b12
theorem k_ce (n : Nat) (a1 : List (Int × Fact)) (r : List Fact) (h : F_ce n a1 = some r) :
    C prog 34 [.map 0] [.map (menc (fun x => A.int .i64 x) (fun x => A.agg (Fact.c x)) a1)] (fun a H => a = .osl 1 0 r.length 57 ∧ H = [.fmap (menc (fun x => A.int .i64 x) (fun x => A.agg (Fact.c x)) a1), .row 81 57 (List.map Fact.c r)]) := by
 refine C.of_body func34 Z Z Z ?_
 refine Rg (S Z (Nx (TC.seq (Rg (S Z (Bd h fun r1 hr1 h => ?_))))))
 refine WO.callD [0] (OpC.fn call61 Z Z Z) (k_bj _ _ _ hr1) ?_
 rintro _ _ ⟨rfl, rfl⟩
 refine aV (.fn (.func 129) [] [.ptr 1 0]) [_, .cells 98 [.map 0]] Z Z ?_
 refine Bd h fun r2 hr2 h => ?_
 refine WO.callD [1, 0] (OpC.fn call60 Z Z Z) (k_bt _ _ _ hr2) ?_
 rintro _ _ ⟨rfl, rfl⟩
 refine aV (.osl 2 0 r2.length 1) [.fmap (menc (fun x => A.int .i64 x) (fun x => A.agg (Fact.c x)) a1), .dead, .row 3 1 (List.map (encI .i64) r2)] Z Z ?_
 refine LnO runUnderlying48 Z (S Z (Nx (Bd h fun b12 h13 h => ?_)))
 refine TC.cut ([(2, .osl 1 0 b12.length 57)]) ([.fmap (menc (fun x => A.int .i64 x) (fun x => A.agg (Fact.c x)) a1), .row 81 57 (List.map Fact.c b12)]) ?_ (fun env H hle => ?_)
 ·refine TC.block ?_
  refine TC.loop (E := fun s15 => [(0, .map 0), (2, .osl 1 0 s15.1.length 57), (7, .osl 2 0 r2.length 1), (8, .int .i64 (r2.length : Int)), (9, .int .i64 s15.2)]) (Hp := fun s15 => [.fmap (menc (fun x => A.int .i64 x) (fun x => A.agg (Fact.c x)) a1), .row 81 57 (List.map Fact.c s15.1), .row 3 1 (List.map (encI .i64) r2)]) h13 ?_ ?_
  ·refine Le.trans (Le.phantom (s := 2) (k := 57) (t := 81) (Nat.le_of_ble_eq_true Z) Z) ?_
   exact Lr [0, 3, 2]
  intro s15 d16 h17 hb14
  refine Rg (S Z (Nx (TC.seq (CnS Z h17 (fun hc18 h17 => ?_) (fun hc18 h17 => ?_)))))
  ·refine ExX (loopX h17 ?_)
   obtain rfl := hb14 _ (Oi h17).symm
   exact bloE (cutN (Lr [0, 1]))
  refine SkN (TC.seq (TC.block (Rg (Bd h17 fun x19 hx19 h17 => ?_))))
  refine vX (.ptr 2 (Int.toNat s15.2 * 1)) (OpV.ixW hx19 Z runUnderlying48 sizeOf3) ?_
  refine vX (.int .i64 x19) (OpV.load Z isAgg3 Z (Pts.ofRow0 hx19)) ?_
  refine S Z (Nx (TC.region (S Z (S Z (S Z (Bd h17 fun v20 hv20 h17 => ?_))))))
  refine vX (.agg (Fact.c v20)) (OpV.lookF (ev := (fun x => A.agg (Fact.c x))) (z0 := ({ Crew := 0, No := 0, At := 0, Kind := 0, Starter := { Bib := 0, Distance := 0, Wave := 0, Slot := 0, Age := 0, Chip := 0, Team := 0, Lot := 0 : Starter }, Read := { Mat := 0, Epoch := 0, Chip := 0, Local := 0 : Read }, Beacon := { Mat := 0, Epoch := 0, Local := 0, True := 0, Err := 0 : Beacon }, Sync := { MatA := 0, EpochA := 0, LocalA := 0, MatB := 0, EpochB := 0, LocalB := 0, Min := 0, Max := 0 : Sync }, Hand := { Bib := 0, Position := 0, Lo := 0, Hi := 0 : Hand }, Silence := { Mat := 0, Epoch := 0, Lo := 0, Hi := 0 : Silence }, Pair := { A := 0, B := 0 : Pair }, Report := { Case := 0, Bib := 0, Offence := 0, Position := 0 : Report }, Protest := { Case := 0, By := 0, Fee := 0, Form := 0 : Protest }, Ruling := { Case := 0, Instance := 0, Kind := 0, Bib := 0, Position := 0, Amount := 0 : Ruling }, Appeal := { Case := 0, Suspends := false : Appeal }, Void := { Crew := 0, No := 0 : Ref } : Fact })) (k := x19) (l := a1) key_3 hv20 underlying98 zeroValue81 (ZR.agg (ZL.cons ZR.int (ZL.cons ZR.int (ZL.cons ZR.int (ZL.cons ZR.int (ZL.cons ZR.int (ZL.cons ZR.int (ZL.cons ZR.int (ZL.cons ZR.int (ZL.cons ZR.int (ZL.cons ZR.int (ZL.cons ZR.int (ZL.cons ZR.int (ZL.cons ZR.int (ZL.cons ZR.int (ZL.cons ZR.int (ZL.cons ZR.int (ZL.cons ZR.int (ZL.cons ZR.int (ZL.cons ZR.int (ZL.cons ZR.int (ZL.cons ZR.int (ZL.cons ZR.int (ZL.cons ZR.int (ZL.cons ZR.int (ZL.cons ZR.int (ZL.cons ZR.int (ZL.cons ZR.int (ZL.cons ZR.int (ZL.cons ZR.int (ZL.cons ZR.int (ZL.cons ZR.int (ZL.cons ZR.int (ZL.cons ZR.int (ZL.cons ZR.int (ZL.cons ZR.int (ZL.cons ZR.int (ZL.cons ZR.int (ZL.cons ZR.int (ZL.cons ZR.int (ZL.cons ZR.int (ZL.cons ZR.int (ZL.cons ZR.int (ZL.cons ZR.int (ZL.cons ZR.int (ZL.cons ZR.int (ZL.cons ZR.int (ZL.cons ZR.int (ZL.cons ZR.int (ZL.cons ZR.int (ZL.cons ZR.int (ZL.cons ZR.int (ZL.cons ZR.int (ZL.cons ZR.int (ZL.cons ZR.int (ZL.cons ZR.bool (ZL.cons ZR.int (ZL.cons ZR.int ZL.nil))))))))))))))))))))))))))))))))))))))))))))))))))))))))))) ?_
  refine vH (OpH.lit (xs := [.tmp 16]) (es := List.map Fact.c [v20]) el_34 Z Z Z Z Z ⟨Z, trivial⟩ Z Z) ?_
  refine aV (.osl 3 0 ([v20].length) 57) [_, _, _, .row 81 57 (List.map Fact.c [v20])] Z Z ?_
  refine Bd h17 fun l21 hl21 h17 => ?_
  refine vH (OpH.appO (e := Fact.c) hl21 el_34 runUnderlying34 (Src.oM (i := 3))) ?_
  refine aV (.osl 4 0 l21.length 57) [_, .dead, _, _, .row 81 57 (List.map Fact.c l21)] Z Z ?_
  exact S Z (WO.nil (bloN (seqN (TC.region (S Z (S Z (WO.nil (loopN h17 (Lr [0, 4, 2])))))))))
 refine seqN (TC.le hle (Rg (S Z (S Z (Nx (TC.ret ?_))))))
 obtain rfl := Oi h
 refine ⟨[(2, _)], _, _, ?_, ResOK.one Z Z, Z, Z⟩
 exact Lr [0, 1]
def F_ge (n : Nat) (a1 : Course) (a2 : List Fact) (s113 : (List (Int × Fact)) × Int) : Option (Ctl ((List (Int × Fact)) × Int) (List (Int × Fact))) :=
  (bif decide (s113.2 < (a2.length : Int)) then ((idx a2 s113.2).bind fun x144 => ((bif (x144.Kind != 1) then some true else (F_af n x144).bind fun r152 => (bif (r152 != 0) then some true else (bif decide ((a1.Distances.length : Int) ≤ x144.Starter.Distance) then some true else some (decide ((a1.Waves.length : Int) ≤ x144.Starter.Wave))))) : Option Bool).bind fun b149 => (bif b149 then some s113.1 else (some (mgetD s113.1 x144.Starter.Bib ({ Crew := 0, No := 0, At := 0, Kind := 0, Starter := { Bib := 0, Distance := 0, Wave := 0, Slot := 0, Age := 0, Chip := 0, Team := 0, Lot := 0 : Starter }, Read := { Mat := 0, Epoch := 0, Chip := 0, Local := 0 : Read }, Beacon := { Mat := 0, Epoch := 0, Local := 0, True := 0, Err := 0 : Beacon }, Sync := { MatA := 0, EpochA := 0, LocalA := 0, MatB := 0, EpochB := 0, LocalB := 0, Min := 0, Max := 0 : Sync }, Hand := { Bib := 0, Position := 0, Lo := 0, Hi := 0 : Hand }, Silence := { Mat := 0, Epoch := 0, Lo := 0, Hi := 0 : Silence }, Pair := { A := 0, B := 0 : Pair }, Report := { Case := 0, Bib := 0, Offence := 0, Position := 0 : Report }, Protest := { Case := 0, By := 0, Fee := 0, Form := 0 : Protest }, Ruling := { Case := 0, Instance := 0, Kind := 0, Bib := 0, Position := 0, Amount := 0 : Ruling }, Appeal := { Case := 0, Suspends := false : Appeal }, Void := { Crew := 0, No := 0 : Ref } : Fact }))).bind fun v156 => ((bif (!(mhas s113.1 x144.Starter.Bib)) then some true else (F_co n x144 v156).bind fun r162 => some (decide (r162 < 0))) : Option Bool).bind fun b159 => ((bif b159 then (some (mset s113.1 x144.Starter.Bib x144)).bind fun m168 => some m168 else some s113.1) : Option (List (Int × Fact))).bind fun b165 => some b165) : Option (List (Int × Fact))).bind fun b142 => some (.cont (b142, IntKind.i64.wrap (s113.2 + 1))) else some (.done s113.1))
def F_fh (n : Nat) (r170 : List Fact) (s187 : (List Starter) × (List (Int × Bool)) × Int) : Option (Ctl ((List Starter) × (List (Int × Bool)) × Int) (Ctl (List Starter) ((List Starter) × Int))) :=
  (bif decide (s187.2.2 < (r170.length : Int)) then (idx r170 s187.2.2).bind fun x191 => (some (mgetD s187.2.1 x191.Starter.Chip false)).bind fun v192 => (bif v192 then some (.done (.done ([], 180))) else (some (mset s187.2.1 x191.Starter.Chip true)).bind fun m194 => (app s187.1 [x191.Starter]).bind fun l195 => some (.cont (l195, m194, IntKind.i64.wrap (s187.2.2 + 1)))) else some (.done (.cont s187.1)))
def F_aa (n : Nat) (a1 : Course) (a2 : List Fact) : Option ((List Starter) × Int) :=
  (F_an n a1).bind fun r1 => (bif (r1 != 0) then some ([], r1) else (iter (F_ge n a1 a2) n ([], 0) : Option (List (Int × Fact))).bind fun b110 => (bif decide (4000 < (b110.length : Int)) then some ([], 2) else (F_ce n b110).bind fun r170 => (iter (F_fh n r170) n ([], [], 0) : Option (Ctl (List Starter) ((List Starter) × Int))).bind fun b184 => match b184 with | .cont sb184 => (some (sb184, 0)) | .done sb184 => some sb184))
theorem k_aa (n : Nat) (a1 : Course) (a2 : List Fact) (r : (List Starter) × Int) (h : F_aa n a1 a2 = some r) :
    C prog 13 [.agg (Course.c a1), .rsl 57 (List.map Fact.c a2)] [] (fun a H => a = .tup [.osl 0 0 r.1.length 8, .int .i64 r.2] ∧ H = [.row 50 8 (List.map Starter.c r.1)]) := by
 refine C.of_body func13 Z Z Z ?_
 refine Rg ?_
 refine vH (OpH.box Z Z Z Z Z) ?_
 refine aV (.ptr 0 0) [.cells 33 (Course.c a1)] Z Z ?_
 refine S Z (S Z (Nx (TC.seq (Rg ?_))))
 refine vX (.agg (Course.c a1)) (OpV.loadA Z isAgg33 sizeOf33 Z (Pts.cells Z Z) Z Z) ?_
 refine Bd h fun r1 hr1 h => ?_
 refine WO.callD [] (OpC.fn call33 Z Z Z) (k_an _ _ _ hr1) ?_
 rintro _ _ ⟨rfl, rfl⟩
 refine aV (.int .i64 r1) [_] Z Z ?_
 refine S Z (Nx (Rg (S Z (S Z (Nx (Cn Z h (fun hc2 h => ?_) (fun hc2 h => ?_)))))))
 ·refine Rg (S Z (S Z (S Z (Nx (RtR ?_)))))
  obtain rfl := Oi h
  refine ⟨[(4, _), (5, _)], _, _, ?_, ResOK.two Z Z Z, Z, Z⟩
  refine Le.trans (Le.phantom (s := 4) (k := 8) (t := 50) (Nat.le_of_ble_eq_true Z) Z) ?_
  exact Lr [1]
 refine SkN (Rg ?_)
 refine vH OpH.mkMap ?_
 refine aV (.map 1) [_, .map (menc (fun x => A.int .i64 x) (fun x => A.agg (Fact.c x)) [])] Z Z ?_
 refine S Z (Nx (TC.seq (Rg (S Z (LnM runUnderlying34 Z (S Z (Nx (Bd h fun b110 h111 h => ?_))))))))
 refine TC.cut ([(4, .nils), (7, .map 0)]) ([.map (menc (fun x => A.int .i64 x) (fun x => A.agg (Fact.c x)) b110)]) ?_ (fun env H hle => ?_)
 ·refine TC.block ?_
  refine TC.loop (E := fun s113 => [(2, .ptr 0 0), (4, .nils), (7, .map 1), (22, .rsl 57 (List.map Fact.c a2)), (23, .int .i64 (a2.length : Int)), (24, .int .i64 s113.2)]) (Hp := fun s113 => [.cells 33 (Course.c a1), .map (menc (fun x => A.int .i64 x) (fun x => A.agg (Fact.c x)) s113.1)]) h111 ?_ ?_
  ·exact Lr [0, 1]
  intro s113 d114 h115 hb112
  refine Rg (S Z (Nx (TC.seq (CnS Z h115 (fun hc116 h115 => ?_) (fun hc116 h115 => ?_)))))
  ·refine ExX (loopX h115 ?_)
   obtain rfl := hb112 _ (Oi h115).symm
   exact bloE (cutN (Lr [1]))
  refine SkN (TC.seq (Bd h115 fun b142 h143 h115 => ?_))
  refine TC.cut ([(2, .ptr 0 0), (4, .nils), (7, .map 1), (22, .rsl 57 (List.map Fact.c a2)), (23, .int .i64 (a2.length : Int)), (24, .int .i64 s113.2)]) ([.cells 33 (Course.c a1), .map (menc (fun x => A.int .i64 x) (fun x => A.agg (Fact.c x)) b142)]) ?_ (fun env H hle => ?_)
  ·refine TC.block (Rg (Bd h143 fun x144 hx144 h143 => Ix hx144 runUnderlying34 sizeOf81 Z ?_))
   refine vX (.agg (Fact.c x144)) (OpV.loadA Z isAgg81 sizeOf81 Z Pts.rp Z Z) ?_
   refine vH (OpH.allocZ (v := (.agg [.int .i64 0, .int .i64 0, .int .i64 0, .int .i64 0, .int .i64 0, .int .i64 0, .int .i64 0, .int .i64 0, .int .i64 0, .int .i64 0, .int .i64 0, .int .i64 0, .int .i64 0, .int .i64 0, .int .i64 0, .int .i64 0, .int .i64 0, .int .i64 0, .int .i64 0, .int .i64 0, .int .i64 0, .int .i64 0, .int .i64 0, .int .i64 0, .int .i64 0, .int .i64 0, .int .i64 0, .int .i64 0, .int .i64 0, .int .i64 0, .int .i64 0, .int .i64 0, .int .i64 0, .int .i64 0, .int .i64 0, .int .i64 0, .int .i64 0, .int .i64 0, .int .i64 0, .int .i64 0, .int .i64 0, .int .i64 0, .int .i64 0, .int .i64 0, .int .i64 0, .int .i64 0, .int .i64 0, .int .i64 0, .int .i64 0, .int .i64 0, .int .i64 0, .int .i64 0, .int .i64 0, .int .i64 0, .bool false, .int .i64 0, .int .i64 0])) zeroValue81 (ZR.agg (ZL.cons ZR.int (ZL.cons ZR.int (ZL.cons ZR.int (ZL.cons ZR.int (ZL.cons ZR.int (ZL.cons ZR.int (ZL.cons ZR.int (ZL.cons ZR.int (ZL.cons ZR.int (ZL.cons ZR.int (ZL.cons ZR.int (ZL.cons ZR.int (ZL.cons ZR.int (ZL.cons ZR.int (ZL.cons ZR.int (ZL.cons ZR.int (ZL.cons ZR.int (ZL.cons ZR.int (ZL.cons ZR.int (ZL.cons ZR.int (ZL.cons ZR.int (ZL.cons ZR.int (ZL.cons ZR.int (ZL.cons ZR.int (ZL.cons ZR.int (ZL.cons ZR.int (ZL.cons ZR.int (ZL.cons ZR.int (ZL.cons ZR.int (ZL.cons ZR.int (ZL.cons ZR.int (ZL.cons ZR.int (ZL.cons ZR.int (ZL.cons ZR.int (ZL.cons ZR.int (ZL.cons ZR.int (ZL.cons ZR.int (ZL.cons ZR.int (ZL.cons ZR.int (ZL.cons ZR.int (ZL.cons ZR.int (ZL.cons ZR.int (ZL.cons ZR.int (ZL.cons ZR.int (ZL.cons ZR.int (ZL.cons ZR.int (ZL.cons ZR.int (ZL.cons ZR.int (ZL.cons ZR.int (ZL.cons ZR.int (ZL.cons ZR.int (ZL.cons ZR.int (ZL.cons ZR.int (ZL.cons ZR.int (ZL.cons ZR.bool (ZL.cons ZR.int (ZL.cons ZR.int ZL.nil))))))))))))))))))))))))))))))))))))))))))))))))))))))))))) ?_
   refine aV (.ptr 2 0) [_, _, .cells 81 [.int .i64 0, .int .i64 0, .int .i64 0, .int .i64 0, .int .i64 0, .int .i64 0, .int .i64 0, .int .i64 0, .int .i64 0, .int .i64 0, .int .i64 0, .int .i64 0, .int .i64 0, .int .i64 0, .int .i64 0, .int .i64 0, .int .i64 0, .int .i64 0, .int .i64 0, .int .i64 0, .int .i64 0, .int .i64 0, .int .i64 0, .int .i64 0, .int .i64 0, .int .i64 0, .int .i64 0, .int .i64 0, .int .i64 0, .int .i64 0, .int .i64 0, .int .i64 0, .int .i64 0, .int .i64 0, .int .i64 0, .int .i64 0, .int .i64 0, .int .i64 0, .int .i64 0, .int .i64 0, .int .i64 0, .int .i64 0, .int .i64 0, .int .i64 0, .int .i64 0, .int .i64 0, .int .i64 0, .int .i64 0, .int .i64 0, .int .i64 0, .int .i64 0, .int .i64 0, .int .i64 0, .int .i64 0, .bool false, .int .i64 0, .int .i64 0]] Z Z ?_
   refine vU (OpU.store Z Z Z sizeOf81 Z Z Z Z Z Z Z) ?_
   refine WO.atH (H := [_, _, .cells 81 (Fact.c x144)]) Z ?_
   refine Nx (Rg (Fp fa_81_4 Z ?_))
   refine vX (.agg (Starter.c x144.Starter)) (OpV.loadA Z isAgg50 sizeOf50 Z (Pts.cells Z Z) Z Z) ?_
   refine vH (OpH.allocZ (v := (.agg [.int .i64 0, .int .i64 0, .int .i64 0, .int .i64 0, .int .i64 0, .int .i64 0, .int .i64 0, .int .i64 0])) zeroValue50 (ZR.agg (ZL.cons ZR.int (ZL.cons ZR.int (ZL.cons ZR.int (ZL.cons ZR.int (ZL.cons ZR.int (ZL.cons ZR.int (ZL.cons ZR.int (ZL.cons ZR.int ZL.nil)))))))))) ?_
   refine aV (.ptr 3 0) [_, _, _, .cells 50 [.int .i64 0, .int .i64 0, .int .i64 0, .int .i64 0, .int .i64 0, .int .i64 0, .int .i64 0, .int .i64 0]] Z Z ?_
   refine vU (OpU.store Z Z Z sizeOf50 Z Z Z Z Z Z Z) ?_
   refine WO.atH (H := [_, _, _, .cells 50 (Starter.c x144.Starter)]) Z ?_
   refine Nx (TC.seq (TC.seq (Bd h143 fun b149 h150 h143 => ?_)))
   refine TC.cut ([(2, .ptr 0 0), (4, .nils), (7, .map 1), (9, .ptr 2 0), (10, .ptr 3 0), (22, .rsl 57 (List.map Fact.c a2)), (23, .int .i64 (a2.length : Int)), (24, .int .i64 s113.2), (53, .bool b149)]) ([.cells 33 (Course.c a1), .map (menc (fun x => A.int .i64 x) (fun x => A.agg (Fact.c x)) s113.1), .cells 81 (Fact.c x144), .cells 50 (Starter.c x144.Starter)]) ?_ (fun env H hle => ?_)
   ·refine TC.region (Fp fa_81_3 Z (Ld isAgg3 Z (S Z (S Z (If h150 (fun hg151 h150 => ?_) (fun hg151 h150 => ?_))))))
    ·refine KF hg151 Z (KF hg151 Z (KF hg151 Z (Pk hg151 Z (S Z (KF Z Z (KF Z Z (KF Z Z (KF Z Z (KF Z Z (KF Z Z (S Z (S Z (KF Z Z (KF Z Z (KF Z Z (KF Z Z (KF Z Z (KF Z Z (S Z (WO.nil ?_))))))))))))))))))))
     obtain rfl := Oi h150
     exact cutN (Lr [0, 1, 2, 3])
    ·refine vX (.agg (Fact.c x144)) (OpV.loadA Z isAgg81 sizeOf81 Z (Pts.cells Z Z) Z Z) ?_ (gT hg151)
     refine Bd h150 fun r152 hr152 h150 => ?_
     refine WO.callD [] (OpC.fn call26 Z Z Z) (k_af _ _ _ hr152) ?_ (hg := (gT hg151))
     rintro _ _ ⟨rfl, rfl⟩
     refine aV (.int .i64 r152) [_, _, _, _] Z Z ?_
     refine Sg (gT hg151) Z (Pk hg151 Z (S Z (If h150 (fun hg153 h150 => ?_) (fun hg153 h150 => ?_))))
     ·refine KF hg153 Z (KF hg153 Z (KF hg153 Z (KF hg153 Z (KF hg153 Z (KF hg153 Z (Pk hg153 Z (S Z (KF Z Z (KF Z Z (KF Z Z (KF Z Z (KF Z Z (KF Z Z (S Z (WO.nil ?_)))))))))))))))
      obtain rfl := Oi h150
      exact cutN (Lr [0, 1, 2, 3])
     ·refine Fpg (gT hg153) fa_50_1 Z (Ldg (gT hg153) isAgg3 Z (Fpg (gT hg153) fa_33_3 Z (Ldg (gT hg153) isAgg24 Z ?_)))
      refine vX (.int .i64 (a1.Distances.length : Int)) (OpV.lenM (e := Distance.c) (l := a1.Distances) runUnderlying24) ?_ (gT hg153)
      refine Sg (gT hg153) Z (Pk hg153 Z (S Z (If h150 (fun hg154 h150 => ?_) (fun hg154 h150 => ?_))))
      ·refine KF hg154 Z (KF hg154 Z (KF hg154 Z (KF hg154 Z (KF hg154 Z (KF hg154 Z (Pk hg154 Z (WO.nil ?_)))))))
       obtain rfl := Oi h150
       exact cutN (Lr [0, 1, 2, 3])
      ·refine Fpg (gT hg154) fa_50_2 Z (Ldg (gT hg154) isAgg3 Z (Fpg (gT hg154) fa_33_4 Z (Ldg (gT hg154) isAgg25 Z ?_)))
       refine vX (.int .i64 (a1.Waves.length : Int)) (OpV.lenM (e := Wave.c) (l := a1.Waves) runUnderlying25) ?_ (gT hg154)
       refine Sg (gT hg154) Z (Pk hg154 Z (WO.nil ?_))
       obtain rfl := Oi h150
       exact cutN (Lr [0, 1, 2, 3])
   refine seqN (TC.le hle (Cn Z h143 (fun hc155 h143 => ?_) (fun hc155 h143 => ?_)))
   ·refine ExX (bloE ?_)
    obtain rfl := Oi h143
    exact cutN (Lr [0, 1])
   refine SkN (Rg (S Z (Fp fa_50_0 Z (Ld isAgg3 Z (Bd h143 fun v156 hv156 h143 => ?_)))))
   refine vX (.tup [.agg (Fact.c v156), .bool (mhas s113.1 x144.Starter.Bib)]) (OpV.lookOk (ev := (fun x => A.agg (Fact.c x))) (z0 := ({ Crew := 0, No := 0, At := 0, Kind := 0, Starter := { Bib := 0, Distance := 0, Wave := 0, Slot := 0, Age := 0, Chip := 0, Team := 0, Lot := 0 : Starter }, Read := { Mat := 0, Epoch := 0, Chip := 0, Local := 0 : Read }, Beacon := { Mat := 0, Epoch := 0, Local := 0, True := 0, Err := 0 : Beacon }, Sync := { MatA := 0, EpochA := 0, LocalA := 0, MatB := 0, EpochB := 0, LocalB := 0, Min := 0, Max := 0 : Sync }, Hand := { Bib := 0, Position := 0, Lo := 0, Hi := 0 : Hand }, Silence := { Mat := 0, Epoch := 0, Lo := 0, Hi := 0 : Silence }, Pair := { A := 0, B := 0 : Pair }, Report := { Case := 0, Bib := 0, Offence := 0, Position := 0 : Report }, Protest := { Case := 0, By := 0, Fee := 0, Form := 0 : Protest }, Ruling := { Case := 0, Instance := 0, Kind := 0, Bib := 0, Position := 0, Amount := 0 : Ruling }, Appeal := { Case := 0, Suspends := false : Appeal }, Void := { Crew := 0, No := 0 : Ref } : Fact })) (k := x144.Starter.Bib) (l := s113.1) key_3 hv156 underlying98 zeroValue81 (ZR.agg (ZL.cons ZR.int (ZL.cons ZR.int (ZL.cons ZR.int (ZL.cons ZR.int (ZL.cons ZR.int (ZL.cons ZR.int (ZL.cons ZR.int (ZL.cons ZR.int (ZL.cons ZR.int (ZL.cons ZR.int (ZL.cons ZR.int (ZL.cons ZR.int (ZL.cons ZR.int (ZL.cons ZR.int (ZL.cons ZR.int (ZL.cons ZR.int (ZL.cons ZR.int (ZL.cons ZR.int (ZL.cons ZR.int (ZL.cons ZR.int (ZL.cons ZR.int (ZL.cons ZR.int (ZL.cons ZR.int (ZL.cons ZR.int (ZL.cons ZR.int (ZL.cons ZR.int (ZL.cons ZR.int (ZL.cons ZR.int (ZL.cons ZR.int (ZL.cons ZR.int (ZL.cons ZR.int (ZL.cons ZR.int (ZL.cons ZR.int (ZL.cons ZR.int (ZL.cons ZR.int (ZL.cons ZR.int (ZL.cons ZR.int (ZL.cons ZR.int (ZL.cons ZR.int (ZL.cons ZR.int (ZL.cons ZR.int (ZL.cons ZR.int (ZL.cons ZR.int (ZL.cons ZR.int (ZL.cons ZR.int (ZL.cons ZR.int (ZL.cons ZR.int (ZL.cons ZR.int (ZL.cons ZR.int (ZL.cons ZR.int (ZL.cons ZR.int (ZL.cons ZR.int (ZL.cons ZR.int (ZL.cons ZR.int (ZL.cons ZR.bool (ZL.cons ZR.int (ZL.cons ZR.int ZL.nil))))))))))))))))))))))))))))))))))))))))))))))))))))))))))) ?_
   refine S Z (S Z (S Z ?_))
   refine vH (OpH.allocZ (v := (.agg [.int .i64 0, .int .i64 0, .int .i64 0, .int .i64 0, .int .i64 0, .int .i64 0, .int .i64 0, .int .i64 0, .int .i64 0, .int .i64 0, .int .i64 0, .int .i64 0, .int .i64 0, .int .i64 0, .int .i64 0, .int .i64 0, .int .i64 0, .int .i64 0, .int .i64 0, .int .i64 0, .int .i64 0, .int .i64 0, .int .i64 0, .int .i64 0, .int .i64 0, .int .i64 0, .int .i64 0, .int .i64 0, .int .i64 0, .int .i64 0, .int .i64 0, .int .i64 0, .int .i64 0, .int .i64 0, .int .i64 0, .int .i64 0, .int .i64 0, .int .i64 0, .int .i64 0, .int .i64 0, .int .i64 0, .int .i64 0, .int .i64 0, .int .i64 0, .int .i64 0, .int .i64 0, .int .i64 0, .int .i64 0, .int .i64 0, .int .i64 0, .int .i64 0, .int .i64 0, .int .i64 0, .int .i64 0, .bool false, .int .i64 0, .int .i64 0])) zeroValue81 (ZR.agg (ZL.cons ZR.int (ZL.cons ZR.int (ZL.cons ZR.int (ZL.cons ZR.int (ZL.cons ZR.int (ZL.cons ZR.int (ZL.cons ZR.int (ZL.cons ZR.int (ZL.cons ZR.int (ZL.cons ZR.int (ZL.cons ZR.int (ZL.cons ZR.int (ZL.cons ZR.int (ZL.cons ZR.int (ZL.cons ZR.int (ZL.cons ZR.int (ZL.cons ZR.int (ZL.cons ZR.int (ZL.cons ZR.int (ZL.cons ZR.int (ZL.cons ZR.int (ZL.cons ZR.int (ZL.cons ZR.int (ZL.cons ZR.int (ZL.cons ZR.int (ZL.cons ZR.int (ZL.cons ZR.int (ZL.cons ZR.int (ZL.cons ZR.int (ZL.cons ZR.int (ZL.cons ZR.int (ZL.cons ZR.int (ZL.cons ZR.int (ZL.cons ZR.int (ZL.cons ZR.int (ZL.cons ZR.int (ZL.cons ZR.int (ZL.cons ZR.int (ZL.cons ZR.int (ZL.cons ZR.int (ZL.cons ZR.int (ZL.cons ZR.int (ZL.cons ZR.int (ZL.cons ZR.int (ZL.cons ZR.int (ZL.cons ZR.int (ZL.cons ZR.int (ZL.cons ZR.int (ZL.cons ZR.int (ZL.cons ZR.int (ZL.cons ZR.int (ZL.cons ZR.int (ZL.cons ZR.int (ZL.cons ZR.int (ZL.cons ZR.bool (ZL.cons ZR.int (ZL.cons ZR.int ZL.nil))))))))))))))))))))))))))))))))))))))))))))))))))))))))))) ?_
   refine aV (.ptr 4 0) [_, _, _, _, .cells 81 [.int .i64 0, .int .i64 0, .int .i64 0, .int .i64 0, .int .i64 0, .int .i64 0, .int .i64 0, .int .i64 0, .int .i64 0, .int .i64 0, .int .i64 0, .int .i64 0, .int .i64 0, .int .i64 0, .int .i64 0, .int .i64 0, .int .i64 0, .int .i64 0, .int .i64 0, .int .i64 0, .int .i64 0, .int .i64 0, .int .i64 0, .int .i64 0, .int .i64 0, .int .i64 0, .int .i64 0, .int .i64 0, .int .i64 0, .int .i64 0, .int .i64 0, .int .i64 0, .int .i64 0, .int .i64 0, .int .i64 0, .int .i64 0, .int .i64 0, .int .i64 0, .int .i64 0, .int .i64 0, .int .i64 0, .int .i64 0, .int .i64 0, .int .i64 0, .int .i64 0, .int .i64 0, .int .i64 0, .int .i64 0, .int .i64 0, .int .i64 0, .int .i64 0, .int .i64 0, .int .i64 0, .int .i64 0, .bool false, .int .i64 0, .int .i64 0]] Z Z ?_
   refine vU (OpU.store Z Z Z sizeOf81 Z Z Z Z Z Z Z) ?_
   refine WO.atH (H := [_, _, _, _, .cells 81 (Fact.c v156)]) Z ?_
   refine S Z (Nx (TC.seq (Bd h143 fun b159 h160 h143 => ?_)))
   refine TC.cut ([(2, .ptr 0 0), (4, .nils), (7, .map 1), (9, .ptr 2 0), (10, .ptr 3 0), (22, .rsl 57 (List.map Fact.c a2)), (23, .int .i64 (a2.length : Int)), (24, .int .i64 s113.2), (68, .bool b159)]) ([.cells 33 (Course.c a1), .map (menc (fun x => A.int .i64 x) (fun x => A.agg (Fact.c x)) s113.1), .cells 81 (Fact.c x144), .cells 50 (Starter.c x144.Starter)]) ?_ (fun env H hle => ?_)
   ·refine TC.region (S Z (S Z (S Z (If h160 (fun hg161 h160 => ?_) (fun hg161 h160 => ?_)))))
    ·refine KF hg161 Z (KF hg161 Z (KF hg161 Z (KF hg161 Z (Pk hg161 Z (WO.nil ?_)))))
     obtain rfl := Oi h160
     exact cutN (Lr [0, 1, 2, 3])
    ·refine vX (.agg (Fact.c x144)) (OpV.loadA Z isAgg81 sizeOf81 Z (Pts.cells Z Z) Z Z) ?_ (gT hg161)
     refine vX (.agg (Fact.c v156)) (OpV.loadA Z isAgg81 sizeOf81 Z (Pts.cells Z Z) Z Z) ?_ (gT hg161)
     refine Bd h160 fun r162 hr162 h160 => ?_
     refine WO.callD [] (OpC.fn call27 Z Z Z) (k_co _ _ _ _ hr162) ?_ (hg := (gT hg161))
     rintro _ _ ⟨rfl, rfl⟩
     refine aV (.int .i64 r162) [_, _, _, _, _] Z Z ?_
     refine Sg (gT hg161) Z (Pk hg161 Z (WO.nil ?_))
     obtain rfl := Oi h160
     exact cutN (Lr [0, 1, 2, 3])
   refine seqN (TC.le hle (Bd h143 fun b165 h166 h143 => ?_))
   refine TC.cut ([(2, .ptr 0 0), (4, .nils), (7, .map 1), (22, .rsl 57 (List.map Fact.c a2)), (23, .int .i64 (a2.length : Int)), (24, .int .i64 s113.2)]) ([.cells 33 (Course.c a1), .map (menc (fun x => A.int .i64 x) (fun x => A.agg (Fact.c x)) b165)]) ?_ (fun env H hle => ?_)
   ·refine Cn Z h166 (fun hc167 h166 => ?_) (fun hc167 h166 => ?_)
    ·refine TC.region (S Z (Fp fa_50_0 Z (Ld isAgg3 Z ?_)))
     refine vX (.agg (Fact.c x144)) (OpV.loadA Z isAgg81 sizeOf81 Z (Pts.cells Z Z) Z Z) ?_
     refine Bd h166 fun m168 hm168 h166 => ?_
     refine vU (OpU.mput (ev := (fun x => A.agg (Fact.c x))) (k := x144.Starter.Bib) (v := x144) (l := s113.1) key_3 hm168 Z underlying98) ?_
     refine WO.atH (H := [_, .map (menc (fun x => A.int .i64 x) (fun x => A.agg (Fact.c x)) m168), _, _]) Z ?_
     refine WO.nil ?_
     obtain rfl := Oi h166
     exact cutN (Lr [0, 1])
    refine TC.skip ?_
    obtain rfl := Oi h166
    exact cutN (Lr [0, 1])
   refine bloN ?_
   obtain rfl := Oi h143
   exact cutN (Le.trans hle (Lr [0, 1]))
  exact seqN (TC.le hle (TC.region (S Z (S Z (WO.nil (loopN h115 (Lr [0, 1])))))))
 refine seqN (TC.le hle (TC.seq (Rg (S Z ?_))))
 refine vX (.int .i64 (b110.length : Int)) (OpV.lenMap (l := b110) underlying98 Z) ?_
 refine S Z (Nx (Cn Z h (fun hc169 h => ?_) (fun hc169 h => ?_)))
 ·refine Rg (S Z (S Z (Nx (RtR ?_))))
  obtain rfl := Oi h
  refine ⟨[(4, _), (5, _)], _, _, ?_, ResOK.two Z Z Z, Z, Z⟩
  refine Le.trans (Le.phantom (s := 4) (k := 8) (t := 50) (Nat.le_of_ble_eq_true Z) Z) ?_
  exact Lr [1]
 refine SkN (Rg ?_)
 refine vH OpH.mkMap ?_
 refine aV (.map 1) [_, .map (menc (fun x => A.int .i64 x) A.bool [])] Z Z ?_
 refine S Z (Nx (TC.seq (Rg (S Z (Bd h fun r170 hr170 h => ?_)))))
 refine WO.callD [0] (OpC.fn call34 Z Z Z) (k_ce _ _ _ hr170) ?_
 rintro _ _ ⟨rfl, rfl⟩
 refine aV (.osl 2 0 r170.length 57) [.fmap (menc (fun x => A.int .i64 x) (fun x => A.agg (Fact.c x)) b110), _, .row 81 57 (List.map Fact.c r170)] Z Z ?_
 refine LnO runUnderlying34 Z (S Z (Nx (Bd h fun b184 h185 h => ?_)))
 refine TC.cutE (b := b184) (fun sb184 => [(4, .osl 0 0 sb184.length 8)]) (fun sb184 => [.row 50 8 (List.map Starter.c sb184)]) ?_ (fun sb184 env H hbe hle => ?_)
 ·refine TC.block ?_
  refine TC.loop (E := fun s187 => [(4, .osl 0 0 s187.1.length 8), (13, .map 1), (79, .osl 2 0 r170.length 57), (80, .int .i64 (r170.length : Int)), (81, .int .i64 s187.2.2)]) (Hp := fun s187 => [.row 50 8 (List.map Starter.c s187.1), .map (menc (fun x => A.int .i64 x) A.bool s187.2.1), .row 81 57 (List.map Fact.c r170)]) h185 ?_ ?_
  ·refine Le.trans (Le.phantom (s := 4) (k := 8) (t := 50) (Nat.le_of_ble_eq_true Z) Z) ?_
   exact Lr [3, 1, 2]
  intro s187 d188 h189 hb186
  refine Rg (S Z (Nx (TC.seq (CnS Z h189 (fun hc190 h189 => ?_) (fun hc190 h189 => ?_)))))
  ·refine ExX (loopX h189 ?_)
   obtain rfl := hb186 _ (Oi h189).symm
   exact bloE (cutEN Z (Lr [0]))
  refine SkN (TC.seq (TC.block (Rg (Bd h189 fun x191 hx191 h189 => ?_))))
  refine vX (.ptr 2 (Int.toNat s187.2.2 * 57)) (OpV.ixW hx191 Z runUnderlying34 sizeOf81) ?_
  refine vX (.agg (Fact.c x191)) (OpV.loadA Z isAgg81 sizeOf81 Z (Pts.ofRow0 hx191) Z Z) ?_
  refine vH (OpH.allocZ (v := (.agg [.int .i64 0, .int .i64 0, .int .i64 0, .int .i64 0, .int .i64 0, .int .i64 0, .int .i64 0, .int .i64 0, .int .i64 0, .int .i64 0, .int .i64 0, .int .i64 0, .int .i64 0, .int .i64 0, .int .i64 0, .int .i64 0, .int .i64 0, .int .i64 0, .int .i64 0, .int .i64 0, .int .i64 0, .int .i64 0, .int .i64 0, .int .i64 0, .int .i64 0, .int .i64 0, .int .i64 0, .int .i64 0, .int .i64 0, .int .i64 0, .int .i64 0, .int .i64 0, .int .i64 0, .int .i64 0, .int .i64 0, .int .i64 0, .int .i64 0, .int .i64 0, .int .i64 0, .int .i64 0, .int .i64 0, .int .i64 0, .int .i64 0, .int .i64 0, .int .i64 0, .int .i64 0, .int .i64 0, .int .i64 0, .int .i64 0, .int .i64 0, .int .i64 0, .int .i64 0, .int .i64 0, .int .i64 0, .bool false, .int .i64 0, .int .i64 0])) zeroValue81 (ZR.agg (ZL.cons ZR.int (ZL.cons ZR.int (ZL.cons ZR.int (ZL.cons ZR.int (ZL.cons ZR.int (ZL.cons ZR.int (ZL.cons ZR.int (ZL.cons ZR.int (ZL.cons ZR.int (ZL.cons ZR.int (ZL.cons ZR.int (ZL.cons ZR.int (ZL.cons ZR.int (ZL.cons ZR.int (ZL.cons ZR.int (ZL.cons ZR.int (ZL.cons ZR.int (ZL.cons ZR.int (ZL.cons ZR.int (ZL.cons ZR.int (ZL.cons ZR.int (ZL.cons ZR.int (ZL.cons ZR.int (ZL.cons ZR.int (ZL.cons ZR.int (ZL.cons ZR.int (ZL.cons ZR.int (ZL.cons ZR.int (ZL.cons ZR.int (ZL.cons ZR.int (ZL.cons ZR.int (ZL.cons ZR.int (ZL.cons ZR.int (ZL.cons ZR.int (ZL.cons ZR.int (ZL.cons ZR.int (ZL.cons ZR.int (ZL.cons ZR.int (ZL.cons ZR.int (ZL.cons ZR.int (ZL.cons ZR.int (ZL.cons ZR.int (ZL.cons ZR.int (ZL.cons ZR.int (ZL.cons ZR.int (ZL.cons ZR.int (ZL.cons ZR.int (ZL.cons ZR.int (ZL.cons ZR.int (ZL.cons ZR.int (ZL.cons ZR.int (ZL.cons ZR.int (ZL.cons ZR.int (ZL.cons ZR.int (ZL.cons ZR.bool (ZL.cons ZR.int (ZL.cons ZR.int ZL.nil))))))))))))))))))))))))))))))))))))))))))))))))))))))))))) ?_
  refine aV (.ptr 3 0) [_, _, _, .cells 81 [.int .i64 0, .int .i64 0, .int .i64 0, .int .i64 0, .int .i64 0, .int .i64 0, .int .i64 0, .int .i64 0, .int .i64 0, .int .i64 0, .int .i64 0, .int .i64 0, .int .i64 0, .int .i64 0, .int .i64 0, .int .i64 0, .int .i64 0, .int .i64 0, .int .i64 0, .int .i64 0, .int .i64 0, .int .i64 0, .int .i64 0, .int .i64 0, .int .i64 0, .int .i64 0, .int .i64 0, .int .i64 0, .int .i64 0, .int .i64 0, .int .i64 0, .int .i64 0, .int .i64 0, .int .i64 0, .int .i64 0, .int .i64 0, .int .i64 0, .int .i64 0, .int .i64 0, .int .i64 0, .int .i64 0, .int .i64 0, .int .i64 0, .int .i64 0, .int .i64 0, .int .i64 0, .int .i64 0, .int .i64 0, .int .i64 0, .int .i64 0, .int .i64 0, .int .i64 0, .int .i64 0, .int .i64 0, .bool false, .int .i64 0, .int .i64 0]] Z Z ?_
  refine vU (OpU.store Z Z Z sizeOf81 Z Z Z Z Z Z Z) ?_
  refine WO.atH (H := [_, _, _, .cells 81 (Fact.c x191)]) Z ?_
  refine Nx (TC.seq (Rg (S Z (Fp fa_81_4 Z (Fp fa_50_5 Z (Ld isAgg3 Z (Bd h189 fun v192 hv192 h189 => ?_)))))))
  refine vX (.bool v192) (OpV.look (ev := A.bool) (z0 := false) (k := x191.Starter.Chip) (l := s187.2.1) key_3 hv192 underlying57 zeroValue4 ZR.bool) ?_
  refine Nx (Cn Z h189 (fun hc193 h189 => ?_) (fun hc193 h189 => ?_))
  ·refine Rg (S Z (S Z (Nx (RtR (bloR (seqR (loopR h189 ?_)))))))
   obtain rfl := hb186 _ (Oi h189).symm
   refine bloR (cutER (seqR ?_))
   obtain rfl := Oi h
   refine ⟨[(4, _), (5, _)], _, _, ?_, ResOK.two Z Z Z, Z, Z⟩
   refine Le.trans (Le.phantom (s := 4) (k := 8) (t := 50) (Nat.le_of_ble_eq_true Z) Z) ?_
   exact Lr [4]
  refine SkN (Rg (S Z (Fp fa_81_4 Z (Fp fa_50_5 Z (Ld isAgg3 Z (Bd h189 fun m194 hm194 h189 => ?_))))))
  refine vU (OpU.mput (ev := A.bool) (k := x191.Starter.Chip) (v := true) (l := s187.2.1) key_3 hm194 Z underlying57) ?_
  refine WO.atH (H := [_, .map (menc (fun x => A.int .i64 x) A.bool m194), _, _]) Z ?_
  refine Nx (TC.region (S Z (Fp fa_81_4 Z ?_)))
  refine vX (.agg (Starter.c x191.Starter)) (OpV.loadA Z isAgg50 sizeOf50 Z (Pts.cells Z Z) Z Z) ?_
  refine vH (OpH.lit (xs := [.tmp 96]) (es := List.map Starter.c [x191.Starter]) el_38 Z Z Z Z Z ⟨Z, trivial⟩ Z Z) ?_
  refine aV (.osl 4 0 ([x191.Starter].length) 8) [_, _, _, _, .row 50 8 (List.map Starter.c [x191.Starter])] Z Z ?_
  refine Bd h189 fun l195 hl195 h189 => ?_
  refine vH (OpH.appO (e := Starter.c) hl195 el_38 runUnderlying38 (Src.oM (i := 4))) ?_
  refine aV (.osl 5 0 l195.length 8) [.dead, _, _, _, _, .row 50 8 (List.map Starter.c l195)] Z Z ?_
  exact S Z (WO.nil (bloN (seqN (TC.region (S Z (S Z (WO.nil (loopN h189 (Lr [5, 1, 2])))))))))
 subst hbe
 refine seqN (TC.le hle (Rg (S Z (S Z (S Z (Nx (TC.ret ?_)))))))
 obtain rfl := Oi h
 refine ⟨[(4, _), (5, _)], _, _, ?_, ResOK.two Z Z Z, Z, Z⟩
 exact Lr [0]
def F_dq (n : Nat) (a1 : List (Pair × Bool)) : Option Unit :=
  some ()
theorem k_dq (n : Nat) (a1 : List (Pair × Bool)) (r : Unit) (h : F_dq n a1 = some r) :
    C prog 38 [.map 0] [.map (menc (fun x => A.agg (Pair.c x)) A.bool a1)] (fun a H => a = .fn (.func 66) [] [.ptr 1 0] ∧ H = [.map (menc (fun x => A.agg (Pair.c x)) A.bool a1), .cells 103 [.map 0]]) := by
 refine C.of_body func38 Z Z Z ?_
 refine Rg ?_
 refine vH (OpH.box Z Z Z Z Z) ?_
 refine aV (.ptr 1 0) [_, .cells 103 [.map 0]] Z Z ?_
 refine S Z (Nx (Rg ?_))
 refine vX (.fn (.func 66) [] [.ptr 1 0]) (OpV.makeFunc (first := []) (cap := [.tmp 1]) Z Z Z) ?_
 refine S Z (Nx (TC.ret ?_))
 obtain rfl := Oi h
 refine ⟨[(2, _)], _, _, ?_, ResOK.one Z Z, Z, Z⟩
 exact Lr [0, 1]
def F_di (n : Nat) (a1 : Pair) (a2 : Pair) : Option Int :=
  (F_e n a1.A a2.A).bind fun r1 => (F_e n a1.B a2.B).bind fun r2 => (F_w n [r1, r2]).bind fun r3 => some r3
theorem k_di (n : Nat) (a1 : Pair) (a2 : Pair) (r : Int) (h : F_di n a1 a2 = some r) :
    C prog 39 [.agg (Pair.c a1), .agg (Pair.c a2)] [] (fun a H => a = .int .i64 r ∧ H = []) := by
 refine C.of_body func39 Z Z Z ?_
 refine Rg ?_
 refine vH (OpH.box Z Z Z Z Z) ?_
 refine aV (.ptr 0 0) [.cells 59 (Pair.c a1)] Z Z ?_
 refine vH (OpH.box Z Z Z Z Z) ?_
 refine aV (.ptr 1 0) [_, .cells 59 (Pair.c a2)] Z Z ?_
 refine S Z (Nx (TC.seq ?_))
 obtain ⟨r1, hr1, h⟩ := bnd h
 refine TC.draw0 9 [5, 6, 7, 8, 9, 10, 11, 12, 13] [.ptr 0 0, .int .i64 a1.A, .ptr 1 0, .int .i64 a2.A, .int .i64 r1, .ptr 0 1, .int .i64 a1.B, .ptr 1 1, .int .i64 a2.B] draws Z Z Z ?_ ?_
 ·refine Oq.c ?_ (Oq.c ?_ (Oq.c ?_ (Oq.c ?_ (Oq.c ?_ (Oq.c ?_ (Oq.c ?_ (Oq.c ?_ (Oq.c ?_ (Oq.n)))))))))
  ·refine Om Z (sO 2 sN) ?_
   exact Fp fa_59_0 Z Wp
  ·refine Om Z (sD 0 sN) ?_
   exact Ld isAgg3 Z Wp
  ·refine Om Z (sO 3 sN) ?_
   exact Fp fa_59_0 Z Wp
  ·refine Om Z (sD 2 sN) ?_
   exact Ld isAgg3 Z Wp
  ·refine Om Z (sD 1 (sD 3 sN)) ?_
   refine WO.callD [] (OpC.fn call41 Z Z Z) (k_e _ _ _ _ hr1) ?_
   rintro _ _ ⟨rfl, rfl⟩
   refine aV (.int .i64 r1) [_, _] Z Z ?_
   exact Wp
  ·refine Om Z (sO 2 sN) ?_
   exact Fp fa_59_1 Z Wp
  ·refine Om Z (sD 5 sN) ?_
   exact Ld isAgg3 Z Wp
  ·refine Om Z (sO 3 sN) ?_
   exact Fp fa_59_1 Z Wp
  ·refine Om Z (sD 7 sN) ?_
   exact Ld isAgg3 Z Wp
 refine Bd h fun r2 hr2 h => ?_
 refine WO.callD [] (OpC.fn call41 Z Z Z) (k_e _ _ _ _ hr2) ?_
 rintro _ _ ⟨rfl, rfl⟩
 refine aV (.int .i64 r2) [_, _] Z Z ?_
 refine vH (OpH.litR (xs := [.tmp 9, .tmp 14]) (es := List.map (encI .i64) [r1, r2]) el_48 Z Z Z Z Z ⟨Z, Z, trivial⟩ Z Z) ?_
 refine aV (.rsl 1 (List.map (encI .i64) [r1, r2])) [_, _] Z Z ?_
 refine Bd h fun r3 hr3 h => ?_
 refine WO.callD [] (OpC.fn call40 Z Z Z) (k_w _ _ _ hr3) ?_
 rintro _ _ ⟨rfl, rfl⟩
 refine aV (.int .i64 r3) [_, _] Z Z ?_
 refine S Z (Nx (TC.ret ?_))
 obtain rfl := Oi h
 refine ⟨[(4, _)], _, _, ?_, ResOK.one Z Z, Z, Z⟩
 exact Lr []
def F_bk (n : Nat) (a1 : List (Pair × Bool)) : Option (List Pair) :=
  anyK (List.map Prod.fst a1) fun p1 => (sortF (fun x y => F_di n x y) p1).bind fun l4 => some l4
theorem k_bk (n : Nat) (a1 : List (Pair × Bool)) (r : List Pair) (h : F_bk n a1 = some r) :
    C prog 37 [.fn (.func 66) [] [.ptr 0 0], .fn (.func 39) [] []] [.cells 103 [.map 1], .map (menc (fun x => A.agg (Pair.c x)) A.bool a1)] (fun a H => a = .osl 2 0 r.length 2 ∧ H = [.dead, .fmap (menc (fun x => A.agg (Pair.c x)) A.bool a1), .row 59 2 (List.map Pair.c r)]) := by
 refine C.of_body func37 Z Z Z ?_
 refine Rg (S Z (Nx (Rg (S Z ?_))))
 refine WO.le (Le.shut (i := 1) Z) ?_
 refine WO.atH (H := [.cells 103 [.map 1], .fmap (menc (fun x => A.agg (Pair.c x)) A.bool a1)]) Z ?_
 obtain ⟨h3, h⟩ := anyK_ok h
 refine WO.callD [0, 1] (OpC.fn call64 Z Z Z) (okc_64 _ h3) ?_
 rintro _ _ ⟨p1, h2, rfl, rfl⟩
 have h := h p1 h2
 refine aV (.osl 2 0 p1.length 2) [.dead, .fmap (menc (fun x => A.agg (Pair.c x)) A.bool a1), .row 59 2 (List.map Pair.c p1)] Z Z ?_
 refine S Z (Nx (Rg (S Z (S Z (Bd h fun l4 hl4 h => ?_)))))
 refine WO.callD [2] (OpC.fn call65 Z Z Z) (C.sortK (enc := Pair.c) lay_sortK_65 hl4 (fun x y c h => k_di n x y c h) isAgg59 sizeOf59 call39 (fun _ => rfl) Z) ?_
 rintro _ _ ⟨rfl, rfl⟩
 refine WO.atV (x := .tup []) (H := [.dead, .fmap (menc (fun x => A.agg (Pair.c x)) A.bool a1), .row 59 2 (List.map Pair.c l4)]) Z Z ?_
 refine WO.le (Le.ov1 (s := 5) Z (congrArg (fun n => A.osl 2 0 n 2) (sortF_len hl4))) ?_
 refine WO.le (Le.ov1 (s := 7) Z (congrArg (fun n => A.osl 2 0 n 2) (sortF_len hl4))) ?_
 refine WO.le (Le.ov1 (s := 8) Z (congrArg (fun n => A.osl 2 0 n 2) (sortF_len hl4))) ?_
 refine Nx (Rg (S Z (S Z (Nx (TC.ret ?_)))))
 obtain rfl := Oi h
 refine ⟨[(4, _)], _, _, ?_, ResOK.one Z Z, Z, Z⟩
 exact Lr [0, 1, 2]
end Go.Sw
