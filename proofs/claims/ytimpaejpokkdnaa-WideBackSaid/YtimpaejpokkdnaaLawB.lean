/-
  casuistlaw01's examples, and its law of products.
-/
import Derived.Test.YtimpaejpokkdnaaLawA
namespace Go.Proofs.Ytimpaejpokkdnaa
open Go.RowKit
set_option linter.unusedVariables false
set_option linter.unusedSimpArgs false
set_option maxRecDepth 100000

theorem top_lt : B128 - 1 < B128 := by decide
theorem dU_top : dU (B128 - 1) = .agg [.v (.int .u64 18446744073709551615), .v (.int .u64 18446744073709551615)] := by kernel_rfl
theorem cw_MulT : HasC Try.prog 23 [.agg [.v (.int .u64 18446744073709551615), .v (.int .u64 18446744073709551615)], .agg [.v (.int .u64 18446744073709551615), .v (.int .u64 18446744073709551615)]] (fun y => y = .tup [.agg [.v (.int .u64 18446744073709551615), .v (.int .u64 18446744073709551614)], .agg [.v (.int .u64 0), .v (.int .u64 1)]]) := by
  rw [← dU_top]
  refine (cw_Mul top_lt top_lt).mono fun y hy => ?_
  rw [hy]
  kernel_rfl
theorem dU_1 : dU 1 = .agg [.v (.int .u64 0), .v (.int .u64 1)] := by kernel_rfl
theorem dU_3 : dU 3 = .agg [.v (.int .u64 0), .v (.int .u64 3)] := by kernel_rfl
theorem dU_10 : dU 10 = .agg [.v (.int .u64 0), .v (.int .u64 10)] := by kernel_rfl
theorem cw_DivT : HasC Try.prog 21 [.agg [.v (.int .u64 0), .v (.int .u64 1)], .agg [.v (.int .u64 0), .v (.int .u64 0)], .agg [.v (.int .u64 0), .v (.int .u64 3)]] (fun y => y = .tup [.agg [.v (.int .u64 6148914691236517205), .v (.int .u64 6148914691236517205)], .agg [.v (.int .u64 0), .v (.int .u64 1)], .v (.bool true)]) := by
  rw [← dU_3, ← dU_0, ← dU_1]
  refine (cw_Div_yes (by decide) (by decide) (by decide) (by decide)).mono fun y hy => ?_
  rw [hy]
  kernel_rfl
theorem cw_RootT : HasC Try.prog 26 [.agg [.v (.int .u64 0), .v (.int .u64 0)], .agg [.v (.int .u64 0), .v (.int .u64 10)]] (fun y => y = .tup [.agg [.v (.int .u64 0), .v (.int .u64 3)], .v (.bool false)]) := by
  rw [← dU_3, ← dU_0, ← dU_10]
  refine (cw_Root (h := 0) (l := 10) (by decide) (by decide)).mono fun y ⟨r, b, hy, h1, h2, h3, h4⟩ => ?_
  have hr : r = 3 := by
    rcases Nat.lt_or_ge r 3 with h | h
    · have := Nat.mul_le_mul (show r + 1 ≤ 3 by omega) (show r + 1 ≤ 3 by omega)
      omega
    · rcases Nat.lt_or_ge 3 r with h' | h'
      · have := Nat.mul_le_mul (show 4 ≤ r by omega) (show 4 ≤ r by omega)
        omega
      · omega
  subst hr
  have hb : b = false := bff h1 (by decide)
  rw [hy, hb]
theorem cw_TenT : HasC Try.prog 6 [.v (.int .i64 38)] (fun y => y = .tup [dU (10 ^ 38), .v (.bool true)]) := cw_Ten (by decide) (by decide)
theorem cw_DigitsT : HasC Try.prog 17 [.agg [.v (.int .u64 0), .v (.int .u64 0)], dU (10 ^ 38)] (fun y => y = .v (.int .i64 39)) := by
  rw [← dU_0]
  refine (cw_Digits (h := 0) (l := 10 ^ 38) (by decide) (by decide)).mono fun y hy => ?_
  rw [hy, Nat.zero_mul, Nat.zero_add, nd_pow]
  rfl

set_option maxHeartbeats 1600000 in
theorem c_awake  : HasC Try.prog 5 [] (fun y => y = .v (.bool true)) := by
  refine HasC.of [] (fn := Try.f5) tyOk mixed (fun args w => Try.call5 args w) Try.func5 rfl (by kernel_rfl) (Nat.le_of_ble_eq_true rfl) (⟨_, rfl⟩) ?_
  refine vc_seqr rfl (iQ 1 (iE 73 [(0, Ba false)] [] ?_))
  refine vc_seqr rfl (iQ 2 (iC 23 [.agg [Uv 18446744073709551615, Uv 18446744073709551615], .agg [Uv 18446744073709551615, Uv 18446744073709551615]] (some 13) (cw_MulT) ?_))
  rintro _ rfl
  refine iQ 7 (iE 73 [(0, Ba false), (1, .p 1 0), (2, .p 2 0)] [(1, [Uv 18446744073709551615, Uv 18446744073709551614]), (2, [Uv 0, Uv 1])] ?_)
  refine vc_seqr rfl (iC 25 [Uv 1] (some 17) (cw_Of 1) ?_)
  rintro _ rfl
  refine iQ 1 (iC 25 [Uv 3] (some 19) (cw_Of 3) ?_)
  rintro _ rfl
  refine iC 21 [.agg [Uv 0, Uv 1], .agg [Uv 0, Uv 0], .agg [Uv 0, Uv 3]] (some 20) (cw_DivT) ?_
  rintro _ rfl
  refine iQ 9 (iE 73 [(0, Ba false), (1, .p 1 0), (2, .p 2 0), (3, .p 3 0), (4, .p 4 0), (5, Ba true)] [(1, [Uv 18446744073709551615, Uv 18446744073709551614]), (2, [Uv 0, Uv 1]), (3, [Uv 6148914691236517205, Uv 6148914691236517205]), (4, [Uv 0, Uv 1])] ?_)
  refine vc_seqr rfl (iC 6 [Iv 38] (some 25) (cw_TenT) ?_)
  rintro _ rfl
  refine iQ 6 (iE 73 [(0, Ba false), (1, .p 1 0), (2, .p 2 0), (3, .p 3 0), (4, .p 4 0), (5, Ba true), (6, .p 6 0), (7, Ba true)] [(1, [Uv 18446744073709551615, Uv 18446744073709551614]), (2, [Uv 0, Uv 1]), (3, [Uv 6148914691236517205, Uv 6148914691236517205]), (4, [Uv 0, Uv 1]), (6, [Hw (10 ^ 38), Lw (10 ^ 38)])] ?_)
  refine vc_seqr rfl (iQ 1 (iC 25 [Uv 10] (some 30) (cw_Of 10) ?_))
  rintro _ rfl
  refine iC 26 [.agg [Uv 0, Uv 0], .agg [Uv 0, Uv 10]] (some 31) (cw_RootT) ?_
  rintro _ rfl
  refine iQ 6 (iE 73 [(0, Ba false), (1, .p 1 0), (2, .p 2 0), (3, .p 3 0), (4, .p 4 0), (5, Ba true), (6, .p 6 0), (7, Ba true), (8, .p 8 0), (9, Ba false)] [(1, [Uv 18446744073709551615, Uv 18446744073709551614]), (2, [Uv 0, Uv 1]), (3, [Uv 6148914691236517205, Uv 6148914691236517205]), (4, [Uv 0, Uv 1]), (6, [Hw (10 ^ 38), Lw (10 ^ 38)]), (8, [Uv 0, Uv 3])] ?_)
  refine vc_seqr rfl (iQ 2 (iB .eql 24 (.agg #[.int .u64 18446744073709551615, .int .u64 18446744073709551614]) (.agg #[.int .u64 18446744073709551615, .int .u64 18446744073709551614]) (some 36) ?_))
  intro c36 hc36
  try simp only [Array.mk.injEq, List.cons.injEq, Value.int.injEq, Value.bool.injEq, Value.string.injEq, true_and, and_true] at hc36
  refine iQ 1 ?_
  obtain rfl : c36 = true := hc36.2 (trivial)
  refine iQ 1 (iC 25 [Uv 1] (some 39) (cw_Of 1) ?_)
  rintro _ rfl
  refine iB .eql 24 (.agg #[.int .u64 0, .int .u64 1]) (.agg #[.int .u64 0, .int .u64 1]) (some 40) ?_
  intro c40 hc40
  try simp only [Array.mk.injEq, List.cons.injEq, Value.int.injEq, Value.bool.injEq, Value.string.injEq, true_and, and_true] at hc40
  refine iQ 2 ?_
  obtain rfl : c40 = true := hc40.2 (trivial)
  refine iQ 5 (iB .eql 24 (.agg #[.int .u64 6148914691236517205, .int .u64 6148914691236517205]) (.agg #[.int .u64 6148914691236517205, .int .u64 6148914691236517205]) (some 48) ?_)
  intro c48 hc48
  try simp only [Array.mk.injEq, List.cons.injEq, Value.int.injEq, Value.bool.injEq, Value.string.injEq, true_and, and_true] at hc48
  refine iQ 2 ?_
  obtain rfl : c48 = true := hc48.2 (trivial)
  refine iQ 1 (iC 25 [Uv 1] (some 52) (cw_Of 1) ?_)
  rintro _ rfl
  refine iB .eql 24 (.agg #[.int .u64 0, .int .u64 1]) (.agg #[.int .u64 0, .int .u64 1]) (some 53) ?_
  intro c53 hc53
  try simp only [Array.mk.injEq, List.cons.injEq, Value.int.injEq, Value.bool.injEq, Value.string.injEq, true_and, and_true] at hc53
  refine iQ 2 ?_
  obtain rfl : c53 = true := hc53.2 (trivial)
  refine iQ 5 (iC 17 [.agg [Uv 0, Uv 0], .agg [Hw (10 ^ 38), Lw (10 ^ 38)]] (some 61) (cw_DigitsT) ?_)
  rintro _ rfl
  refine iB .eql 3 (.int .i64 39) (.int .i64 39) (some 62) ?_
  intro c62 hc62
  refine iQ 2 ?_
  obtain rfl : c62 = true := hc62.2 (rfl)
  refine iQ 1 (iC 25 [Uv 3] (some 66) (cw_Of 3) ?_)
  rintro _ rfl
  refine iB .eql 24 (.agg #[.int .u64 0, .int .u64 3]) (.agg #[.int .u64 0, .int .u64 3]) (some 67) ?_
  intro c67 hc67
  try simp only [Array.mk.injEq, List.cons.injEq, Value.int.injEq, Value.bool.injEq, Value.string.injEq, true_and, and_true] at hc67
  refine iQ 2 ?_
  obtain rfl : c67 = true := hc67.2 (trivial)
  refine iQ 1 (iU .not (.bool false) (some 71) ?_)
  intro c71 hc71
  refine iQ 2 (iE 73 [(0, Ba c71), (1, .p 1 0), (2, .p 2 0), (3, .p 3 0), (4, .p 4 0), (6, .p 6 0), (8, .p 8 0)] [(1, [Uv 18446744073709551615, Uv 18446744073709551614]), (2, [Uv 0, Uv 1]), (3, [Uv 6148914691236517205, Uv 6148914691236517205]), (4, [Uv 0, Uv 1]), (6, [Hw (10 ^ 38), Lw (10 ^ 38)]), (8, [Uv 0, Uv 3])] ?_)
  refine vc_ret (iR (Bv c71) ?_)
  rw [hc71.2 rfl]

end Go.Proofs.Ytimpaejpokkdnaa
