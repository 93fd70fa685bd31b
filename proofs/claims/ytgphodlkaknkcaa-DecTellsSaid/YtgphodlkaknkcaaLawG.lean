/-
  casuistlaw02.of, awake.
-/
import Derived.Test.YtgphodlkaknkcaaLawM
import Derived.Test.YtgphodlkaknkcaaDecZ
namespace Go.Proofs.Ytgphodlkaknkcaa
open Go.RowKit
set_option linter.unusedVariables false
set_option linter.unusedSimpArgs false
set_option maxRecDepth 100000

theorem c_Of02 {n : Nat} {z e : Int} (hz : z = (n : Int)) (hn : n < 18446744073709551616) : HasC Try.prog 30 [.v (.int .u64 z), .v (.int .i64 e)] (fun y => y = dDec false n e) := by
  refine HasC.of [] (fn := Try.f30) tyOk mixed (fun args w => Try.call30 args w) Try.func30 rfl (by kernel_rfl) (Nat.le_of_ble_eq_true rfl) (⟨_, rfl⟩) ?_
  refine vc_seqr rfl ?_
  refine vcI_q 1 (by kernel_rfl) ?_
  refine vcI_end 9 [(0, .d (.v (.int .u64 z))), (1, Ia e), (4, .p 4 0)] [(4, [Bv false, .v (.int .u64 0), .v (.int .u64 0), Iv 0])] (by kernel_rfl) (by kernel_rfl) (by kernel_rfl) ?_
  refine vc_seqr rfl ?_
  refine vcI_q 1 (by kernel_rfl) ?_
  refine vcI_call (f := 33) (ds := [.v (.int .u64 z)]) (dst := (some 6)) (by kernel_rfl) (cw_OfI hz hn) ?_
  rintro _ rfl
  refine vcI_q 3 (by kernel_rfl) ?_
  refine vcI_end 9 [(4, .p 4 0)] [(4, [Bv false, Hw n, Lw n, Iv e])] (by kernel_rfl) (by kernel_rfl) (by kernel_rfl) ?_
  refine vc_ret ?_
  refine ret_1 (d := .agg [.v (.bool false), .v (.int .u64 (hiW (n))), .v (.int .u64 (loW (n))), .v (.int .i64 e)]) (by kernel_rfl) ?_
  rfl

theorem c_WholeIs {s : Bool} {A : Nat} {e v : Int} (hw : isW s A e v) (hv : inI v) (hA : A < B128) (h1 : -10000000000000000 ≤ e) (h2 : e ≤ 10000000000000000) : HasC Try.prog 27 [dDec s A e] (fun y => y = .tup [.v (.int .i64 v), .v (.bool true)]) :=
  (c_Whole hA h1 h2).mono fun y ⟨z, ok, h1, h2, h3⟩ => by
    cases ok with
    | false => exact absurd hv ((h3 rfl).2 v hw)
    | true => rw [h1, isW_fn (h2 rfl).1 hw]
theorem whole_2500 : isW false 25 2 2500 := isW_val (s := false) (A := 25) (p := 25) (i := 2) (j := 0) (e := 2) (by decide) (by decide)
theorem add_15 : addT false 15 (-1) false 250 (-2) = (false, 400, -2, true) := by
  have h : sumT false 15 (-1) false 250 (-2) = (false, 400, -2) := by decide
  rw [addT, h]
  exact fitU_own (N := 400) (by decide) (by decide) (by decide)
theorem mul_120 : mulT (false, 120, -2, true) (false, 3, 0, true) = (false, 360, -2, true) := fitT_own' (by decide) (by decide) (by decide) (by decide)
theorem sub_1 : addT false 1 0 (!false && decide (100 ≠ 0)) 100 (-2) = (false, 0, -2, true) := by
  have h : sumT false 1 0 true 100 (-2) = (false, 0, -2) := by decide
  show addT false 1 0 true 100 (-2) = _
  rw [addT, h]
  exact fitU_own (N := 0) (by decide) (by decide) (by decide)
theorem add_most : addT false 9999999999999999999999999999999999 0 false 5 (-1) = (false, 10 ^ (33 : Int).toNat, 1, true) := by
  have h : sumT false 9999999999999999999999999999999999 0 false 5 (-1) = (false, 99999999999999999999999999999999995, -1) := by decide
  have hnd : nd 99999999999999999999999999999999995 = 35 := by
    have h1 := nd_le 35 99999999999999999999999999999999995 (by decide)
    have h2 : 34 < nd 99999999999999999999999999999999995 := nd_gt (by decide)
    omega
  have hk : fitKU 99999999999999999999999999999999995 (-1) = 1 := by unfold fitKU; rw [hnd]; decide
  have hu : upB 1 false 99999999999999999999999999999999995 false 1 = true := by
    rw [upB_iff]
    have hL : lastD 99999999999999999999999999999999995 1 = 5 := by decide
    rw [hL]
    exact .inl ⟨rfl, .inr ⟨rfl, .inr (by decide)⟩⟩
  have hc : cutQ 1 false 99999999999999999999999999999999995 false 1 = E34 := by
    unfold cutQ
    rw [hu]
    decide
  have hq : cutQ 1 false E34 false 1 = 10 ^ (33 : Int).toNat := by
    rcases cut_two 1 false E34 1 false with h1 | ⟨h1, h2⟩
    · rw [h1]; decide
    · rcases h2 with h2 | h2
      · exact absurd (by decide) h2
      · cases h2
  rw [addT, h]
  show fitU 1 false 99999999999999999999999999999999995 (-1) false = _
  rw [fitU, hk, hc, fit2N, if_pos (Nat.le_refl _), fit2E, if_pos (Nat.le_refl _), hq, fitE, if_neg (by decide)]
  have hd : fitD (10 ^ (33 : Int).toNat) (-1 + ((1 : Nat) : Int) + 1) = 0 := by unfold fitD; omega
  rw [hd, if_neg (by decide)]
  decide
theorem c_less1 : HasC Try.prog 32 [dU (10 ^ (34 : Int).toNat), .agg [.v (.int .u64 0), .v (.int .u64 1)]] (fun y => y = .tup [dU 9999999999999999999999999999999999, .v (.int .u64 0)]) := by
  rw [← dU_1']
  refine (cw_Sub (a := 10 ^ (34 : Int).toNat) (b := 1) (by decide) (by decide)).mono fun y hy => ?_
  rw [hy, show (10 ^ (34 : Int).toNat + B128 - 1) % B128 = 9999999999999999999999999999999999 by decide, show lackN (10 ^ (34 : Int).toNat) 1 = 0 by decide]
  rfl
theorem cmp_10 : cmpZ false 10 (-1) false 1 0 = 0 := by decide

set_option maxHeartbeats 1600000 in
theorem c_awake02  : HasC Try.prog 8 [] (fun y => y = .v (.bool true)) := by
  refine HasC.of [] (fn := Try.f8) tyOk mixed (fun args w => Try.call8 args w) Try.func8 rfl (by kernel_rfl) (Nat.le_of_ble_eq_true rfl) (⟨_, rfl⟩) ?_
  refine vc_seqr rfl ?_
  refine vcI_q 1 (by kernel_rfl) ?_
  refine vcI_end 105 [(0, Ba false)] [] (by kernel_rfl) (by kernel_rfl) (by kernel_rfl) ?_
  refine vc_seqr rfl ?_
  refine vcI_call (f := 30) (ds := [.v (.int .u64 15), .v (.int .i64 (-1))]) (dst := (some 18)) (by kernel_rfl) (c_Of02 (n := 15) rfl (by decide)) ?_
  rintro _ rfl
  refine vcI_call (f := 30) (ds := [.v (.int .u64 250), .v (.int .i64 (-2))]) (dst := (some 19)) (by kernel_rfl) (c_Of02 (n := 250) rfl (by decide)) ?_
  rintro _ rfl
  refine vcI_call (f := 11) (ds := [.agg [.v (.bool false), .v (.int .u64 (hiW (15))), .v (.int .u64 (loW (15))), .v (.int .i64 (-1))], .agg [.v (.bool false), .v (.int .u64 (hiW (250))), .v (.int .u64 (loW (250))), .v (.int .i64 (-2))]]) (dst := (some 20)) (by kernel_rfl) (fit_as (c_decAdd (by decide) (by decide) (by decide) (by decide) (by decide) (by decide)) add_15) ?_
  rintro _ rfl
  refine vcI_q 6 (by kernel_rfl) ?_
  refine vcI_end 105 [(0, Ba false), (1, .p 1 0), (2, Ba true)] [(1, [Bv false, Hw 400, Lw 400, Iv (-2)])] (by kernel_rfl) (by kernel_rfl) (by kernel_rfl) ?_
  refine vc_seqr rfl ?_
  refine vcI_call (f := 30) (ds := [.v (.int .u64 120), .v (.int .i64 (-2))]) (dst := (some 24)) (by kernel_rfl) (c_Of02 (n := 120) rfl (by decide)) ?_
  rintro _ rfl
  refine vcI_call (f := 30) (ds := [.v (.int .u64 3), .v (.int .i64 0)]) (dst := (some 25)) (by kernel_rfl) (c_Of02 (n := 3) rfl (by decide)) ?_
  rintro _ rfl
  refine vcI_call (f := 13) (ds := [.agg [.v (.bool false), .v (.int .u64 (hiW (120))), .v (.int .u64 (loW (120))), .v (.int .i64 (-2))], .agg [.v (.bool false), .v (.int .u64 (hiW (3))), .v (.int .u64 (loW (3))), .v (.int .i64 0)]]) (dst := (some 26)) (by kernel_rfl) (c_decMulA mul_120 (by decide) (by decide) (by decide) (by decide) (by decide) (by decide)) ?_
  rintro _ rfl
  refine vcI_q 6 (by kernel_rfl) ?_
  refine vcI_end 105 [(0, Ba false), (1, .p 1 0), (2, Ba true), (3, .p 3 0), (4, Ba true)] [(1, [Bv false, Hw 400, Lw 400, Iv (-2)]), (3, [Bv false, Hw 360, Lw 360, Iv (-2)])] (by kernel_rfl) (by kernel_rfl) (by kernel_rfl) ?_
  refine vc_seqr rfl ?_
  refine vcI_call (f := 31) (ds := [.v (.int .i64 34)]) (dst := (some 30)) (by kernel_rfl) (cw_Ten (k := 34) (by decide) (by decide)) ?_
  rintro _ rfl
  refine vcI_q 6 (by kernel_rfl) ?_
  refine vcI_end 105 [(0, Ba false), (1, .p 1 0), (2, Ba true), (3, .p 3 0), (4, Ba true), (5, .p 5 0)] [(1, [Bv false, Hw 400, Lw 400, Iv (-2)]), (3, [Bv false, Hw 360, Lw 360, Iv (-2)]), (5, [Hw (10 ^ (34 : Int).toNat), Lw (10 ^ (34 : Int).toNat)])] (by kernel_rfl) (by kernel_rfl) (by kernel_rfl) ?_
  refine vc_seqr rfl ?_
  refine vcI_q 1 (by kernel_rfl) ?_
  refine vcI_call (f := 33) (ds := [.v (.int .u64 1)]) (dst := (some 35)) (by kernel_rfl) (cw_Of 1) ?_
  rintro _ rfl
  refine vcI_call (f := 32) (ds := [.agg [.v (.int .u64 (hiW (10 ^ (34 : Int).toNat))), .v (.int .u64 (loW (10 ^ (34 : Int).toNat)))], .agg [.v (.int .u64 0), .v (.int .u64 1)]]) (dst := (some 36)) (by kernel_rfl) (c_less1) ?_
  rintro _ rfl
  refine vcI_q 6 (by kernel_rfl) ?_
  refine vcI_end 105 [(0, Ba false), (1, .p 1 0), (2, Ba true), (3, .p 3 0), (4, Ba true), (5, .p 5 0), (7, .p 7 0)] [(1, [Bv false, Hw 400, Lw 400, Iv (-2)]), (3, [Bv false, Hw 360, Lw 360, Iv (-2)]), (5, [Hw (10 ^ (34 : Int).toNat), Lw (10 ^ (34 : Int).toNat)]), (7, [Hw 9999999999999999999999999999999999, Lw 9999999999999999999999999999999999])] (by kernel_rfl) (by kernel_rfl) (by kernel_rfl) ?_
  refine vc_seqr rfl ?_
  refine vcI_q 2 (by kernel_rfl) ?_
  refine vcI_call (f := 30) (ds := [.v (.int .u64 5), .v (.int .i64 (-1))]) (dst := (some 42)) (by kernel_rfl) (c_Of02 (n := 5) rfl (by decide)) ?_
  rintro _ rfl
  refine vcI_call (f := 11) (ds := [.agg [.v (.bool false), .v (.int .u64 (hiW (9999999999999999999999999999999999))), .v (.int .u64 (loW (9999999999999999999999999999999999))), .v (.int .i64 0)], .agg [.v (.bool false), .v (.int .u64 (hiW (5))), .v (.int .u64 (loW (5))), .v (.int .i64 (-1))]]) (dst := (some 43)) (by kernel_rfl) (fit_as (c_decAdd (by decide) (by decide) (by decide) (by decide) (by decide) (by decide)) add_most) ?_
  rintro _ rfl
  refine vcI_q 6 (by kernel_rfl) ?_
  refine vcI_end 105 [(0, Ba false), (1, .p 1 0), (2, Ba true), (3, .p 3 0), (4, Ba true), (5, .p 5 0), (7, .p 7 0), (9, .p 9 0), (10, Ba true)] [(1, [Bv false, Hw 400, Lw 400, Iv (-2)]), (3, [Bv false, Hw 360, Lw 360, Iv (-2)]), (5, [Hw (10 ^ (34 : Int).toNat), Lw (10 ^ (34 : Int).toNat)]), (7, [Hw 9999999999999999999999999999999999, Lw 9999999999999999999999999999999999]), (9, [Bv false, Hw (10 ^ (33 : Int).toNat), Lw (10 ^ (33 : Int).toNat), Iv 1])] (by kernel_rfl) (by kernel_rfl) (by kernel_rfl) ?_
  refine vc_seqr rfl ?_
  refine vcI_call (f := 31) (ds := [.v (.int .i64 33)]) (dst := (some 47)) (by kernel_rfl) (cw_Ten (k := 33) (by decide) (by decide)) ?_
  rintro _ rfl
  refine vcI_q 6 (by kernel_rfl) ?_
  refine vcI_end 105 [(0, Ba false), (1, .p 1 0), (2, Ba true), (3, .p 3 0), (4, Ba true), (5, .p 5 0), (7, .p 7 0), (9, .p 9 0), (10, Ba true), (11, .p 11 0)] [(1, [Bv false, Hw 400, Lw 400, Iv (-2)]), (3, [Bv false, Hw 360, Lw 360, Iv (-2)]), (5, [Hw (10 ^ (34 : Int).toNat), Lw (10 ^ (34 : Int).toNat)]), (7, [Hw 9999999999999999999999999999999999, Lw 9999999999999999999999999999999999]), (9, [Bv false, Hw (10 ^ (33 : Int).toNat), Lw (10 ^ (33 : Int).toNat), Iv 1]), (11, [Hw (10 ^ (33 : Int).toNat), Lw (10 ^ (33 : Int).toNat)])] (by kernel_rfl) (by kernel_rfl) (by kernel_rfl) ?_
  refine vc_seqr rfl ?_
  refine vcI_call (f := 30) (ds := [.v (.int .u64 1), .v (.int .i64 0)]) (dst := (some 51)) (by kernel_rfl) (c_Of02 (n := 1) rfl (by decide)) ?_
  rintro _ rfl
  refine vcI_call (f := 30) (ds := [.v (.int .u64 100), .v (.int .i64 (-2))]) (dst := (some 52)) (by kernel_rfl) (c_Of02 (n := 100) rfl (by decide)) ?_
  rintro _ rfl
  refine vcI_call (f := 12) (ds := [.agg [.v (.bool false), .v (.int .u64 (hiW (1))), .v (.int .u64 (loW (1))), .v (.int .i64 0)], .agg [.v (.bool false), .v (.int .u64 (hiW (100))), .v (.int .u64 (loW (100))), .v (.int .i64 (-2))]]) (dst := (some 53)) (by kernel_rfl) (fit_as (c_decSub (by decide) (by decide) (by decide) (by decide) (by decide) (by decide)) sub_1) ?_
  rintro _ rfl
  refine vcI_q 6 (by kernel_rfl) ?_
  refine vcI_end 105 [(0, Ba false), (1, .p 1 0), (2, Ba true), (3, .p 3 0), (4, Ba true), (5, .p 5 0), (7, .p 7 0), (9, .p 9 0), (10, Ba true), (11, .p 11 0), (13, .p 13 0), (14, Ba true)] [(1, [Bv false, Hw 400, Lw 400, Iv (-2)]), (3, [Bv false, Hw 360, Lw 360, Iv (-2)]), (5, [Hw (10 ^ (34 : Int).toNat), Lw (10 ^ (34 : Int).toNat)]), (7, [Hw 9999999999999999999999999999999999, Lw 9999999999999999999999999999999999]), (9, [Bv false, Hw (10 ^ (33 : Int).toNat), Lw (10 ^ (33 : Int).toNat), Iv 1]), (11, [Hw (10 ^ (33 : Int).toNat), Lw (10 ^ (33 : Int).toNat)]), (13, [Bv false, Hw 0, Lw 0, Iv (-2)])] (by kernel_rfl) (by kernel_rfl) (by kernel_rfl) ?_
  refine vc_seqr rfl ?_
  refine vcI_call (f := 30) (ds := [.v (.int .u64 25), .v (.int .i64 2)]) (dst := (some 57)) (by kernel_rfl) (c_Of02 (n := 25) rfl (by decide)) ?_
  rintro _ rfl
  refine vcI_call (f := 27) (ds := [.agg [.v (.bool false), .v (.int .u64 (hiW (25))), .v (.int .u64 (loW (25))), .v (.int .i64 2)]]) (dst := (some 58)) (by kernel_rfl) (c_WholeIs whole_2500 (by unfold inI; decide) (by decide) (by decide) (by decide)) ?_
  rintro _ rfl
  refine vcI_q 5 (by kernel_rfl) ?_
  refine vcI_end 105 [(0, Ba false), (1, .p 1 0), (2, Ba true), (3, .p 3 0), (4, Ba true), (5, .p 5 0), (7, .p 7 0), (9, .p 9 0), (10, Ba true), (11, .p 11 0), (13, .p 13 0), (14, Ba true), (15, Ia 2500), (16, Ba true)] [(1, [Bv false, Hw 400, Lw 400, Iv (-2)]), (3, [Bv false, Hw 360, Lw 360, Iv (-2)]), (5, [Hw (10 ^ (34 : Int).toNat), Lw (10 ^ (34 : Int).toNat)]), (7, [Hw 9999999999999999999999999999999999, Lw 9999999999999999999999999999999999]), (9, [Bv false, Hw (10 ^ (33 : Int).toNat), Lw (10 ^ (33 : Int).toNat), Iv 1]), (11, [Hw (10 ^ (33 : Int).toNat), Lw (10 ^ (33 : Int).toNat)]), (13, [Bv false, Hw 0, Lw 0, Iv (-2)])] (by kernel_rfl) (by kernel_rfl) (by kernel_rfl) ?_
  refine vc_seqr rfl ?_
  refine vcI_q 3 (by kernel_rfl) ?_
  refine vcI_call (f := 30) (ds := [.v (.int .u64 400), .v (.int .i64 (-2))]) (dst := (some 64)) (by kernel_rfl) (c_Of02 (n := 400) rfl (by decide)) ?_
  rintro _ rfl
  refine vcI_bin (op := .eql) (t := 28) (a := .agg #[.bool false, .int .u64 (hiW (400)), .int .u64 (loW (400)), .int .i64 (-2)]) (b := .agg #[.bool false, .int .u64 (hiW (400)), .int .u64 (loW (400)), .int .i64 (-2)]) (dst := (some 65)) (by kernel_rfl) ?_
  intro c65 hc65
  try simp only [Array.mk.injEq, List.cons.injEq, Value.int.injEq, Value.bool.injEq, Value.string.injEq, true_and, and_true] at hc65
  refine vcI_q 2 (by kernel_rfl) ?_
  obtain rfl : c65 = true := hc65.2 (trivial)
  refine vcI_q 4 (by kernel_rfl) ?_
  refine vcI_call (f := 30) (ds := [.v (.int .u64 360), .v (.int .i64 (-2))]) (dst := (some 72)) (by kernel_rfl) (c_Of02 (n := 360) rfl (by decide)) ?_
  rintro _ rfl
  refine vcI_bin (op := .eql) (t := 28) (a := .agg #[.bool false, .int .u64 (hiW (360)), .int .u64 (loW (360)), .int .i64 (-2)]) (b := .agg #[.bool false, .int .u64 (hiW (360)), .int .u64 (loW (360)), .int .i64 (-2)]) (dst := (some 73)) (by kernel_rfl) ?_
  intro c73 hc73
  try simp only [Array.mk.injEq, List.cons.injEq, Value.int.injEq, Value.bool.injEq, Value.string.injEq, true_and, and_true] at hc73
  refine vcI_q 2 (by kernel_rfl) ?_
  obtain rfl : c73 = true := hc73.2 (trivial)
  refine vcI_q 6 (by kernel_rfl) ?_
  refine vcI_bin (op := .eql) (t := 28) (a := .agg #[.bool false, .int .u64 (hiW (10 ^ (33 : Int).toNat)), .int .u64 (loW (10 ^ (33 : Int).toNat)), .int .i64 1]) (b := .agg #[.bool false, .int .u64 (hiW (10 ^ (33 : Int).toNat)), .int .u64 (loW (10 ^ (33 : Int).toNat)), .int .i64 1]) (dst := (some 82)) (by kernel_rfl) ?_
  intro c82 hc82
  try simp only [Array.mk.injEq, List.cons.injEq, Value.int.injEq, Value.bool.injEq, Value.string.injEq, true_and, and_true] at hc82
  refine vcI_q 2 (by kernel_rfl) ?_
  obtain rfl : c82 = true := hc82.2 (trivial)
  refine vcI_q 4 (by kernel_rfl) ?_
  refine vcI_call (f := 30) (ds := [.v (.int .u64 0), .v (.int .i64 (-2))]) (dst := (some 89)) (by kernel_rfl) (c_Of02 (n := 0) rfl (by decide)) ?_
  rintro _ rfl
  refine vcI_bin (op := .eql) (t := 28) (a := .agg #[.bool false, .int .u64 (hiW (0)), .int .u64 (loW (0)), .int .i64 (-2)]) (b := .agg #[.bool false, .int .u64 (hiW (0)), .int .u64 (loW (0)), .int .i64 (-2)]) (dst := (some 90)) (by kernel_rfl) ?_
  intro c90 hc90
  try simp only [Array.mk.injEq, List.cons.injEq, Value.int.injEq, Value.bool.injEq, Value.string.injEq, true_and, and_true] at hc90
  refine vcI_q 2 (by kernel_rfl) ?_
  obtain rfl : c90 = true := hc90.2 (trivial)
  refine vcI_call (f := 30) (ds := [.v (.int .u64 10), .v (.int .i64 (-1))]) (dst := (some 93)) (by kernel_rfl) (c_Of02 (n := 10) rfl (by decide)) ?_
  rintro _ rfl
  refine vcI_call (f := 30) (ds := [.v (.int .u64 1), .v (.int .i64 0)]) (dst := (some 94)) (by kernel_rfl) (c_Of02 (n := 1) rfl (by decide)) ?_
  rintro _ rfl
  refine vcI_call (f := 18) (ds := [.agg [.v (.bool false), .v (.int .u64 (hiW (10))), .v (.int .u64 (loW (10))), .v (.int .i64 (-1))], .agg [.v (.bool false), .v (.int .u64 (hiW (1))), .v (.int .u64 (loW (1))), .v (.int .i64 0)]]) (dst := (some 95)) (by kernel_rfl) (c_decCmp (by decide) (by decide) (by decide) (by decide) (by decide) (by decide)) ?_
  rintro _ rfl
  refine vcI_bin (op := .eql) (t := 3) (a := .int .i64 (cmpZ false 10 (-1) false 1 0)) (b := .int .i64 0) (dst := (some 96)) (by kernel_rfl) ?_
  intro c96 hc96
  refine vcI_q 2 (by kernel_rfl) ?_
  obtain rfl : c96 = true := hc96.2 (cmp_10)
  refine vcI_q 4 (by kernel_rfl) ?_
  refine vcI_bin (op := .eql) (t := 3) (a := .int .i64 2500) (b := .int .i64 2500) (dst := (some 103)) (by kernel_rfl) ?_
  intro c103 hc103
  refine vcI_q 2 (by kernel_rfl) ?_
  refine vcI_end 105 [(0, Ba c103), (1, .p 1 0), (3, .p 3 0), (5, .p 5 0), (7, .p 7 0), (9, .p 9 0), (11, .p 11 0), (13, .p 13 0)] [(1, [Bv false, Hw 400, Lw 400, Iv (-2)]), (3, [Bv false, Hw 360, Lw 360, Iv (-2)]), (5, [Hw (10 ^ (34 : Int).toNat), Lw (10 ^ (34 : Int).toNat)]), (7, [Hw 9999999999999999999999999999999999, Lw 9999999999999999999999999999999999]), (9, [Bv false, Hw (10 ^ (33 : Int).toNat), Lw (10 ^ (33 : Int).toNat), Iv 1]), (11, [Hw (10 ^ (33 : Int).toNat), Lw (10 ^ (33 : Int).toNat)]), (13, [Bv false, Hw 0, Lw 0, Iv (-2)])] (by kernel_rfl) (by kernel_rfl) (by kernel_rfl) ?_
  refine vc_ret ?_
  refine ret_1 (d := .v (.bool c103)) (by kernel_rfl) ?_
  rw [hc103.2 rfl]

end Go.Proofs.Ytgphodlkaknkcaa
