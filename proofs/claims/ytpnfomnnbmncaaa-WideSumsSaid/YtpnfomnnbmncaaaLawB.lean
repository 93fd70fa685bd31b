/-
  casuistlaw01's examples, and its law of products.
-/
import Derived.Test.YtpnfomnnbmncaaaLawA
namespace Go.Proofs.Ytpnfomnnbmncaaa
open Go.RowKit
set_option linter.unusedVariables false
set_option linter.unusedSimpArgs false
set_option maxRecDepth 100000

theorem top_lt : B128 - 1 < B128 := by decide
theorem dU_top : dU (B128 - 1) = .agg [.v (.int .u64 18446744073709551615), .v (.int .u64 18446744073709551615)] := by kernel_rfl
theorem cw_MulT : HasC Try.prog 10 [.agg [.v (.int .u64 18446744073709551615), .v (.int .u64 18446744073709551615)], .agg [.v (.int .u64 18446744073709551615), .v (.int .u64 18446744073709551615)]] (fun y => y = .tup [.agg [.v (.int .u64 18446744073709551615), .v (.int .u64 18446744073709551614)], .agg [.v (.int .u64 0), .v (.int .u64 1)]]) := by
  rw [← dU_top]
  refine (cw_Mul top_lt top_lt).mono fun y hy => ?_
  rw [hy]
  kernel_rfl
theorem dU_1 : dU 1 = .agg [.v (.int .u64 0), .v (.int .u64 1)] := by kernel_rfl
theorem dU_3 : dU 3 = .agg [.v (.int .u64 0), .v (.int .u64 3)] := by kernel_rfl
theorem dU_10 : dU 10 = .agg [.v (.int .u64 0), .v (.int .u64 10)] := by kernel_rfl
theorem cw_DivT : HasC Try.prog 20 [.agg [.v (.int .u64 0), .v (.int .u64 1)], .agg [.v (.int .u64 0), .v (.int .u64 0)], .agg [.v (.int .u64 0), .v (.int .u64 3)]] (fun y => y = .tup [.agg [.v (.int .u64 6148914691236517205), .v (.int .u64 6148914691236517205)], .agg [.v (.int .u64 0), .v (.int .u64 1)], .v (.bool true)]) := by
  rw [← dU_3, ← dU_0, ← dU_1]
  refine (cw_Div_yes (by decide) (by decide) (by decide) (by decide)).mono fun y hy => ?_
  rw [hy]
  kernel_rfl
theorem cw_RootT : HasC Try.prog 25 [.agg [.v (.int .u64 0), .v (.int .u64 0)], .agg [.v (.int .u64 0), .v (.int .u64 10)]] (fun y => y = .tup [.agg [.v (.int .u64 0), .v (.int .u64 3)], .v (.bool false)]) := by
  rw [← dU_3, ← dU_0, ← dU_10]
  refine (cw_Root (h := 0) (l := 10) (by decide) (by decide)).mono fun y ⟨r, b, hy, h1, h2, h3, h4⟩ => ?_
  have hr : r = 3 := by
    rcases Nat.lt_or_ge r 3 with h | h
    · have := Nat.mul_le_mul (show r + 1 ≤ 3 by omega) (show r + 1 ≤ 3 by omega)
      omega
    · rcases Nat.lt_or_ge 3 r with h' | h'
      · have := Nat.mul_le_mul (show 4 ≤ r by omega) (show 4 ≤ r by omega)
        omega
      · omega
  subst hr
  have hb : b = false := bff h1 (by decide)
  rw [hy, hb]
theorem cw_TenT : HasC Try.prog 32 [.v (.int .i64 38)] (fun y => y = .tup [dU (10 ^ 38), .v (.bool true)]) := cw_Ten (by decide) (by decide)
theorem cw_DigitsT : HasC Try.prog 39 [.agg [.v (.int .u64 0), .v (.int .u64 0)], dU (10 ^ 38)] (fun y => y = .v (.int .i64 39)) := by
  rw [← dU_0]
  refine (cw_Digits (h := 0) (l := 10 ^ 38) (by decide) (by decide)).mono fun y hy => ?_
  rw [hy, Nat.zero_mul, Nat.zero_add, nd_pow]
  rfl

set_option maxHeartbeats 1600000 in
theorem c_awake  : HasC Try.prog 9 [] (fun y => y = .v (.bool true)) := by
  refine HasC.of [] (fn := Try.f9) tyOk mixed (fun args w => Try.call9 args w) Try.func9 rfl (by kernel_rfl) (Nat.le_of_ble_eq_true rfl) (⟨_, rfl⟩) ?_
  refine vc_seqr rfl ?_
  refine vcI_q 1 (by kernel_rfl) ?_
  refine vcI_end 73 [(0, .d (.v (.bool false)))] [] (by kernel_rfl) (by kernel_rfl) (by kernel_rfl) ?_
  refine vc_seqr rfl ?_
  refine vcI_q 2 (by kernel_rfl) ?_
  refine vcI_call (f := 10) (ds := [.agg [.v (.int .u64 18446744073709551615), .v (.int .u64 18446744073709551615)], .agg [.v (.int .u64 18446744073709551615), .v (.int .u64 18446744073709551615)]]) (dst := (some 13)) (by kernel_rfl) (cw_MulT) ?_
  rintro _ rfl
  refine vcI_q 7 (by kernel_rfl) ?_
  refine vcI_end 73 [(0, .d (.v (.bool false))), (1, .p 1 0), (2, .p 2 0)] [(1, [.v (.int .u64 18446744073709551615), .v (.int .u64 18446744073709551614)]), (2, [.v (.int .u64 0), .v (.int .u64 1)])] (by kernel_rfl) (by kernel_rfl) (by kernel_rfl) ?_
  refine vc_seqr rfl ?_
  refine vcI_call (f := 19) (ds := [.v (.int .u64 1)]) (dst := (some 17)) (by kernel_rfl) (cw_Of 1) ?_
  rintro _ rfl
  refine vcI_q 1 (by kernel_rfl) ?_
  refine vcI_call (f := 19) (ds := [.v (.int .u64 3)]) (dst := (some 19)) (by kernel_rfl) (cw_Of 3) ?_
  rintro _ rfl
  refine vcI_call (f := 20) (ds := [.agg [.v (.int .u64 0), .v (.int .u64 1)], .agg [.v (.int .u64 0), .v (.int .u64 0)], .agg [.v (.int .u64 0), .v (.int .u64 3)]]) (dst := (some 20)) (by kernel_rfl) (cw_DivT) ?_
  rintro _ rfl
  refine vcI_q 9 (by kernel_rfl) ?_
  refine vcI_end 73 [(0, .d (.v (.bool false))), (1, .p 1 0), (2, .p 2 0), (3, .p 3 0), (4, .p 4 0), (5, .d (.v (.bool true)))] [(1, [.v (.int .u64 18446744073709551615), .v (.int .u64 18446744073709551614)]), (2, [.v (.int .u64 0), .v (.int .u64 1)]), (3, [.v (.int .u64 6148914691236517205), .v (.int .u64 6148914691236517205)]), (4, [.v (.int .u64 0), .v (.int .u64 1)])] (by kernel_rfl) (by kernel_rfl) (by kernel_rfl) ?_
  refine vc_seqr rfl ?_
  refine vcI_call (f := 32) (ds := [.v (.int .i64 38)]) (dst := (some 25)) (by kernel_rfl) (cw_TenT) ?_
  rintro _ rfl
  refine vcI_q 6 (by kernel_rfl) ?_
  refine vcI_end 73 [(0, .d (.v (.bool false))), (1, .p 1 0), (2, .p 2 0), (3, .p 3 0), (4, .p 4 0), (5, .d (.v (.bool true))), (6, .p 6 0), (7, .d (.v (.bool true)))] [(1, [.v (.int .u64 18446744073709551615), .v (.int .u64 18446744073709551614)]), (2, [.v (.int .u64 0), .v (.int .u64 1)]), (3, [.v (.int .u64 6148914691236517205), .v (.int .u64 6148914691236517205)]), (4, [.v (.int .u64 0), .v (.int .u64 1)]), (6, [.v (.int .u64 (hiW (10 ^ 38))), .v (.int .u64 (loW (10 ^ 38)))])] (by kernel_rfl) (by kernel_rfl) (by kernel_rfl) ?_
  refine vc_seqr rfl ?_
  refine vcI_q 1 (by kernel_rfl) ?_
  refine vcI_call (f := 19) (ds := [.v (.int .u64 10)]) (dst := (some 30)) (by kernel_rfl) (cw_Of 10) ?_
  rintro _ rfl
  refine vcI_call (f := 25) (ds := [.agg [.v (.int .u64 0), .v (.int .u64 0)], .agg [.v (.int .u64 0), .v (.int .u64 10)]]) (dst := (some 31)) (by kernel_rfl) (cw_RootT) ?_
  rintro _ rfl
  refine vcI_q 6 (by kernel_rfl) ?_
  refine vcI_end 73 [(0, .d (.v (.bool false))), (1, .p 1 0), (2, .p 2 0), (3, .p 3 0), (4, .p 4 0), (5, .d (.v (.bool true))), (6, .p 6 0), (7, .d (.v (.bool true))), (8, .p 8 0), (9, .d (.v (.bool false)))] [(1, [.v (.int .u64 18446744073709551615), .v (.int .u64 18446744073709551614)]), (2, [.v (.int .u64 0), .v (.int .u64 1)]), (3, [.v (.int .u64 6148914691236517205), .v (.int .u64 6148914691236517205)]), (4, [.v (.int .u64 0), .v (.int .u64 1)]), (6, [.v (.int .u64 (hiW (10 ^ 38))), .v (.int .u64 (loW (10 ^ 38)))]), (8, [.v (.int .u64 0), .v (.int .u64 3)])] (by kernel_rfl) (by kernel_rfl) (by kernel_rfl) ?_
  refine vc_seqr rfl ?_
  refine vcI_q 2 (by kernel_rfl) ?_
  refine vcI_bin (op := .eql) (t := 24) (a := .agg #[.int .u64 18446744073709551615, .int .u64 18446744073709551614]) (b := .agg #[.int .u64 18446744073709551615, .int .u64 18446744073709551614]) (dst := (some 36)) (by kernel_rfl) ?_
  intro c36 hc36
  simp only [Array.mk.injEq, List.cons.injEq, Value.int.injEq, Value.bool.injEq, Value.string.injEq, true_and, and_true] at hc36
  refine vcI_q 1 (by kernel_rfl) ?_
  obtain rfl : c36 = true := hc36.2 (trivial)
  refine vcI_q 1 (by kernel_rfl) ?_
  refine vcI_call (f := 19) (ds := [.v (.int .u64 1)]) (dst := (some 39)) (by kernel_rfl) (cw_Of 1) ?_
  rintro _ rfl
  refine vcI_bin (op := .eql) (t := 24) (a := .agg #[.int .u64 0, .int .u64 1]) (b := .agg #[.int .u64 0, .int .u64 1]) (dst := (some 40)) (by kernel_rfl) ?_
  intro c40 hc40
  simp only [Array.mk.injEq, List.cons.injEq, Value.int.injEq, Value.bool.injEq, Value.string.injEq, true_and, and_true] at hc40
  refine vcI_q 2 (by kernel_rfl) ?_
  obtain rfl : c40 = true := hc40.2 (trivial)
  refine vcI_q 5 (by kernel_rfl) ?_
  refine vcI_bin (op := .eql) (t := 24) (a := .agg #[.int .u64 6148914691236517205, .int .u64 6148914691236517205]) (b := .agg #[.int .u64 6148914691236517205, .int .u64 6148914691236517205]) (dst := (some 48)) (by kernel_rfl) ?_
  intro c48 hc48
  simp only [Array.mk.injEq, List.cons.injEq, Value.int.injEq, Value.bool.injEq, Value.string.injEq, true_and, and_true] at hc48
  refine vcI_q 2 (by kernel_rfl) ?_
  obtain rfl : c48 = true := hc48.2 (trivial)
  refine vcI_q 1 (by kernel_rfl) ?_
  refine vcI_call (f := 19) (ds := [.v (.int .u64 1)]) (dst := (some 52)) (by kernel_rfl) (cw_Of 1) ?_
  rintro _ rfl
  refine vcI_bin (op := .eql) (t := 24) (a := .agg #[.int .u64 0, .int .u64 1]) (b := .agg #[.int .u64 0, .int .u64 1]) (dst := (some 53)) (by kernel_rfl) ?_
  intro c53 hc53
  simp only [Array.mk.injEq, List.cons.injEq, Value.int.injEq, Value.bool.injEq, Value.string.injEq, true_and, and_true] at hc53
  refine vcI_q 2 (by kernel_rfl) ?_
  obtain rfl : c53 = true := hc53.2 (trivial)
  refine vcI_q 5 (by kernel_rfl) ?_
  refine vcI_call (f := 39) (ds := [.agg [.v (.int .u64 0), .v (.int .u64 0)], .agg [.v (.int .u64 (hiW (10 ^ 38))), .v (.int .u64 (loW (10 ^ 38)))]]) (dst := (some 61)) (by kernel_rfl) (cw_DigitsT) ?_
  rintro _ rfl
  refine vcI_bin (op := .eql) (t := 3) (a := .int .i64 39) (b := .int .i64 39) (dst := (some 62)) (by kernel_rfl) ?_
  intro c62 hc62
  refine vcI_q 2 (by kernel_rfl) ?_
  obtain rfl : c62 = true := hc62.2 (rfl)
  refine vcI_q 1 (by kernel_rfl) ?_
  refine vcI_call (f := 19) (ds := [.v (.int .u64 3)]) (dst := (some 66)) (by kernel_rfl) (cw_Of 3) ?_
  rintro _ rfl
  refine vcI_bin (op := .eql) (t := 24) (a := .agg #[.int .u64 0, .int .u64 3]) (b := .agg #[.int .u64 0, .int .u64 3]) (dst := (some 67)) (by kernel_rfl) ?_
  intro c67 hc67
  simp only [Array.mk.injEq, List.cons.injEq, Value.int.injEq, Value.bool.injEq, Value.string.injEq, true_and, and_true] at hc67
  refine vcI_q 2 (by kernel_rfl) ?_
  obtain rfl : c67 = true := hc67.2 (trivial)
  refine vcI_q 1 (by kernel_rfl) ?_
  refine vcI_un (op := .not) (a := .bool false) (dst := (some 71)) (by kernel_rfl) ?_
  intro c71 hc71
  refine vcI_q 2 (by kernel_rfl) ?_
  refine vcI_end 73 [(0, .d (.v (.bool c71))), (1, .p 1 0), (2, .p 2 0), (3, .p 3 0), (4, .p 4 0), (6, .p 6 0), (8, .p 8 0)] [(1, [.v (.int .u64 18446744073709551615), .v (.int .u64 18446744073709551614)]), (2, [.v (.int .u64 0), .v (.int .u64 1)]), (3, [.v (.int .u64 6148914691236517205), .v (.int .u64 6148914691236517205)]), (4, [.v (.int .u64 0), .v (.int .u64 1)]), (6, [.v (.int .u64 (hiW (10 ^ 38))), .v (.int .u64 (loW (10 ^ 38)))]), (8, [.v (.int .u64 0), .v (.int .u64 3)])] (by kernel_rfl) (by kernel_rfl) (by kernel_rfl) ?_
  refine vc_ret ?_
  refine ret_1 (d := .v (.bool c71)) (by kernel_rfl) ?_
  rw [hc71.2 rfl]

set_option maxHeartbeats 3200000 in
theorem c_WideMuls {a b x : Nat} (ha : a < B128) (hb : b < B128) (hx : x < 18446744073709551616) : HasC Try.prog 3 [.agg [.v (.int .u64 (hiW (a))), .v (.int .u64 (loW (a)))], .agg [.v (.int .u64 (hiW (b))), .v (.int .u64 (loW (b)))], .v (.int .u64 ((x : Int)))] (fun y => y = .v (.bool true)) := by
  refine HasC.of [] (fn := Try.f3) tyOk mixed (fun args w => Try.call3 args w) Try.func3 rfl (by kernel_rfl) (Nat.le_of_ble_eq_true rfl) (⟨_, rfl⟩) ?_
  refine vc_seqr rfl ?_
  refine vcI_q 3 (by kernel_rfl) ?_
  refine vcI_end 55 [(2, .d (.v (.int .u64 ((x : Int))))), (3, .p 3 0), (4, .p 4 0), (6, .d (.v (.bool false)))] [(3, [.v (.int .u64 (hiW (a))), .v (.int .u64 (loW (a)))]), (4, [.v (.int .u64 (hiW (b))), .v (.int .u64 (loW (b)))])] (by kernel_rfl) (by kernel_rfl) (by kernel_rfl) ?_
  refine vc_seq ?_
  refine vc_seqr rfl ?_
  refine vcI_call (f := 9) (ds := []) (dst := (some 11)) (by kernel_rfl) (c_awake) ?_
  rintro _ rfl
  refine vcI_un (op := .not) (a := .bool true) (dst := (some 12)) (by kernel_rfl) ?_
  intro c12 hc12
  refine vcI_end 55 [(2, .d (.v (.int .u64 ((x : Int))))), (3, .p 3 0), (4, .p 4 0), (6, .d (.v (.bool false))), (12, .d (.v (.bool c12)))] [(3, [.v (.int .u64 (hiW (a))), .v (.int .u64 (loW (a)))]), (4, [.v (.int .u64 (hiW (b))), .v (.int .u64 (loW (b)))])] (by kernel_rfl) (by kernel_rfl) (by kernel_rfl) ?_
  obtain rfl : c12 = false := bff hc12 (by simp)
  refine vc_condf (by kernel_rfl) ?_
  refine vc_skip ?_
  refine seq_n ?_
  refine vc_seqr rfl ?_
  refine vcI_q 2 (by kernel_rfl) ?_
  refine vcI_call (f := 10) (ds := [.agg [.v (.int .u64 (hiW (a))), .v (.int .u64 (loW (a)))], .agg [.v (.int .u64 (hiW (b))), .v (.int .u64 (loW (b)))]]) (dst := (some 16)) (by kernel_rfl) (cw_Mul ha hb) ?_
  rintro _ rfl
  refine vcI_q 7 (by kernel_rfl) ?_
  refine vcI_end 55 [(2, .d (.v (.int .u64 ((x : Int))))), (3, .p 3 0), (4, .p 4 0), (6, .d (.v (.bool false))), (7, .p 7 0), (8, .p 8 0), (12, .d (.v (.bool false)))] [(3, [.v (.int .u64 (hiW (a))), .v (.int .u64 (loW (a)))]), (4, [.v (.int .u64 (hiW (b))), .v (.int .u64 (loW (b)))]), (7, [.v (.int .u64 (hiW (a * b / B128))), .v (.int .u64 (loW (a * b / B128)))]), (8, [.v (.int .u64 (hiW (a * b % B128))), .v (.int .u64 (loW (a * b % B128)))])] (by kernel_rfl) (by kernel_rfl) (by kernel_rfl) ?_
  refine vc_seqr rfl ?_
  refine vcI_q 2 (by kernel_rfl) ?_
  refine vcI_call (f := 11) (ds := [.agg [.v (.int .u64 (hiW (a))), .v (.int .u64 (loW (a)))], .v (.int .u64 ((x : Int)))]) (dst := (some 22)) (by kernel_rfl) (cw_MulWord ha hx) ?_
  rintro _ rfl
  have hB : 0 < B128 := by decide
  have hp : a * b / B128 < B128 := Nat.div_lt_of_lt_mul (Nat.mul_lt_mul'' ha hb)
  have hq := mod_lt128 (a * b)
  have hr : a * x / B128 < 18446744073709551616 := Nat.div_lt_of_lt_mul (Nat.mul_lt_mul'' ha hx)
  have hs := mod_lt128 (a * x)
  have na := nd_U ha; have nb := nd_U hb; have nx := nd_word hx
  refine vcI_q 6 (by kernel_rfl) ?_
  refine vcI_end 55 [(2, .d (.v (.int .u64 ((x : Int))))), (3, .p 3 0), (4, .p 4 0), (6, .d (.v (.bool false))), (7, .p 7 0), (8, .p 8 0), (9, .d (.v (.int .u64 (((a * x / B128 : Nat) : Int))))), (10, .p 10 0), (12, .d (.v (.bool false)))] [(3, [.v (.int .u64 (hiW (a))), .v (.int .u64 (loW (a)))]), (4, [.v (.int .u64 (hiW (b))), .v (.int .u64 (loW (b)))]), (7, [.v (.int .u64 (hiW (a * b / B128))), .v (.int .u64 (loW (a * b / B128)))]), (8, [.v (.int .u64 (hiW (a * b % B128))), .v (.int .u64 (loW (a * b % B128)))]), (10, [.v (.int .u64 (hiW (a * x % B128))), .v (.int .u64 (loW (a * x % B128)))])] (by kernel_rfl) (by kernel_rfl) (by kernel_rfl) ?_
  refine vc_seqr rfl ?_
  refine vcI_q 2 (by kernel_rfl) ?_
  refine vcI_call (f := 13) (ds := [.agg [.v (.int .u64 (hiW (a * b / B128))), .v (.int .u64 (loW (a * b / B128)))], .agg [.v (.int .u64 (hiW (a * b % B128))), .v (.int .u64 (loW (a * b % B128)))]]) (dst := (some 27)) (by kernel_rfl) (c_Two hp hq) ?_
  rintro _ rfl
  refine vcI_q 1 (by kernel_rfl) ?_
  refine vcI_call (f := 15) (ds := [.agg [.v (.int .u64 (hiW (a))), .v (.int .u64 (loW (a)))]]) (dst := (some 29)) (by kernel_rfl) (c_N ha) ?_
  rintro _ rfl
  refine vcI_q 1 (by kernel_rfl) ?_
  refine vcI_call (f := 15) (ds := [.agg [.v (.int .u64 (hiW (b))), .v (.int .u64 (loW (b)))]]) (dst := (some 31)) (by kernel_rfl) (c_N hb) ?_
  rintro _ rfl
  refine vcI_call (f := 14) (ds := [.sl (nd (a)) (dg (digs (a))), .sl (nd (b)) (dg (digs (b)))]) (dst := (some 32)) (by kernel_rfl) (c_Mul (a := a) (b := b) (by omega) (by omega)) ?_
  rintro _ rfl
  refine vcI_call (f := 12) (ds := [.sl (nd (a * b / B128 * B128 + a * b % B128)) (dg (digs (a * b / B128 * B128 + a * b % B128))), .sl (nd (a * b)) (dg (digs (a * b)))]) (dst := (some 33)) (by kernel_rfl) (c_sameT (Nat.div_add_mod' (a * b) B128) (by have := nd_U2 hp hq; omega)) ?_
  rintro _ rfl
  refine vcI_q 2 (by kernel_rfl) ?_
  refine vcI_call (f := 15) (ds := [.agg [.v (.int .u64 (hiW (a * x % B128))), .v (.int .u64 (loW (a * x % B128)))]]) (dst := (some 36)) (by kernel_rfl) (c_N hs) ?_
  rintro _ rfl
  refine vcI_q 1 (by kernel_rfl) ?_
  refine vcI_call (f := 17) (ds := [.v (.int .u64 (((a * x / B128 : Nat) : Int))), .v (.int .i64 128)]) (dst := (some 38)) (by kernel_rfl) (c_over (k := 128) hr (by decide)) ?_
  rintro _ rfl
  refine vcI_call (f := 16) (ds := [.sl (nd (a * x % B128)) (dg (digs (a * x % B128))), .sl (nd (a * x / B128 * 2 ^ 128)) (dg (digs (a * x / B128 * 2 ^ 128)))]) (dst := (some 39)) (by kernel_rfl) (c_Add (a := a * x % B128) (b := a * x / B128 * 2 ^ 128) (by have := nd_U hs; omega) (by have := nd_mul (a * x / B128) (2 ^ 128); have := nd_word hr; have := nd_two 128; omega)) ?_
  rintro _ rfl
  refine vcI_q 1 (by kernel_rfl) ?_
  refine vcI_call (f := 15) (ds := [.agg [.v (.int .u64 (hiW (a))), .v (.int .u64 (loW (a)))]]) (dst := (some 41)) (by kernel_rfl) (c_N ha) ?_
  rintro _ rfl
  refine vcI_q 2 (by kernel_rfl) ?_
  refine vcI_call (f := 18) (ds := [.sl 1 [.v (.int .u64 ((x : Int)))]]) (dst := (some 44)) (by kernel_rfl) (c_Word hx) ?_
  rintro _ rfl
  refine vcI_call (f := 14) (ds := [.sl (nd (a)) (dg (digs (a))), .sl (nd (x)) (dg (digs (x)))]) (dst := (some 45)) (by kernel_rfl) (c_Mul (a := a) (b := x) (by omega) (by omega)) ?_
  rintro _ rfl
  refine vcI_call (f := 12) (ds := [.sl (nd (a * x % B128 + a * x / B128 * 2 ^ 128)) (dg (digs (a * x % B128 + a * x / B128 * 2 ^ 128))), .sl (nd (a * x)) (dg (digs (a * x)))]) (dst := (some 46)) (by kernel_rfl) (c_sameT (show a * x % B128 + a * x / B128 * 2 ^ 128 = a * x from by rw [Nat.add_comm]; exact Nat.div_add_mod' (a * x) B128) (by rw [show a * x % B128 + a * x / B128 * 2 ^ 128 = a * x from by rw [Nat.add_comm]; exact Nat.div_add_mod' (a * x) B128]; have := nd_mul a x; omega)) ?_
  rintro _ rfl
  refine vcI_q 3 (by kernel_rfl) ?_
  refine vcI_call (f := 19) (ds := [.v (.int .u64 ((x : Int)))]) (dst := (some 50)) (by kernel_rfl) (cw_Of (x : Int)) ?_
  rintro _ rfl
  refine vcI_q 2 (by kernel_rfl) ?_
  refine vcI_bin (op := .eql) (t := 24) (a := .agg #[.int .u64 0, .int .u64 ((x : Int))]) (b := .agg #[.int .u64 0, .int .u64 ((x : Int))]) (dst := (some 53)) (by kernel_rfl) ?_
  intro c53 hc53
  simp only [Array.mk.injEq, List.cons.injEq, Value.int.injEq, Value.bool.injEq, Value.string.injEq, true_and, and_true] at hc53
  refine vcI_q 2 (by kernel_rfl) ?_
  refine vcI_end 55 [(2, .d (.v (.int .u64 ((x : Int))))), (3, .p 3 0), (4, .p 4 0), (6, .d (.v (.bool c53))), (7, .p 7 0), (8, .p 8 0), (10, .p 10 0), (12, .d (.v (.bool false)))] [(3, [.v (.int .u64 (hiW (a))), .v (.int .u64 (loW (a)))]), (4, [.v (.int .u64 (hiW (b))), .v (.int .u64 (loW (b)))]), (7, [.v (.int .u64 (hiW (a * b / B128))), .v (.int .u64 (loW (a * b / B128)))]), (8, [.v (.int .u64 (hiW (a * b % B128))), .v (.int .u64 (loW (a * b % B128)))]), (10, [.v (.int .u64 (hiW (a * x % B128))), .v (.int .u64 (loW (a * x % B128)))])] (by kernel_rfl) (by kernel_rfl) (by kernel_rfl) ?_
  refine vc_ret ?_
  refine ret_1 (d := .v (.bool c53)) (by kernel_rfl) ?_
  rw [hc53.2 trivial]

end Go.Proofs.Ytpnfomnnbmncaaa
