/-
  The laws of round on whole numbers: each says yes.
-/
import Derived.Test.YtfjcblmmfkgkoaaLawJ
namespace Go.Proofs.Ytfjcblmmfkgkoaa
open Go.RowKit
set_option linter.unusedVariables false
set_option linter.unusedSimpArgs false
set_option maxRecDepth 100000

theorem tm_range {a z : Int} {n : Nat} (h : z = a.tmod n) (h0 : 0 < n) : -(n : Int) < z ∧ z < n := by
  have h1 := Int.tmod_lt_of_pos a (show (0 : Int) < n by omega)
  have h2 := Int.lt_tmod_of_pos a (show (0 : Int) < n by omega)
  omega
theorem fmod_stay {a b r : Int} (hb : b ≠ 0) (hr : r = a.tmod b) (h : r = 0 ∨ (r < 0 ↔ b < 0)) : r = a.fmod b := by
  rw [hr, Int.fmod_eq_emod, Int.tmod_eq_emod]
  rw [Int.tmod_eq_emod] at hr
  have h1 := Int.emod_nonneg a hb
  have h2 := Int.emod_lt a hb
  have h3 : b ∣ a ↔ a % b = 0 := Int.dvd_iff_emod_eq_zero
  generalize a % b = e at *
  simp only [h3] at hr ⊢
  split at hr <;> split <;> split <;> omega
theorem fmod_step {a b r : Int} (hb : b ≠ 0) (hr : r = a.tmod b) (h0 : r ≠ 0) (h : ¬ (r < 0 ↔ b < 0)) : r + b = a.fmod b := by
  rw [hr, Int.fmod_eq_emod, Int.tmod_eq_emod]
  rw [Int.tmod_eq_emod] at hr
  have h1 := Int.emod_nonneg a hb
  have h2 := Int.emod_lt a hb
  have h3 : b ∣ a ↔ a % b = 0 := Int.dvd_iff_emod_eq_zero
  generalize a % b = e at *
  simp only [h3] at hr ⊢
  split at hr <;> split <;> split <;> omega
theorem fmod_small {a b : Int} {n : Int} (hb : b ≠ 0) (h1 : -n < b) (h2 : b < n) : -n < a.fmod b ∧ a.fmod b < n := by
  rw [Int.fmod_eq_emod]
  have h1 := Int.emod_nonneg a hb
  have h2 := Int.emod_lt a hb
  split <;> omega
theorem cmp_ints {g : Bool} {k : Nat} {v w : Int} (h : sgnV g k = v) (hw : w = v) : cmpZ g k 0 (decide (w < 0)) w.natAbs 0 = 0 := by
  rw [cmpZ_any (E := 0) (Int.le_refl _) (Int.le_refl _), cmpI_eq, V_own, V_own, sgnV_abs', h, hw]

set_option maxHeartbeats 3200000 in
theorem c_RoundModulo {g : Bool} {n : Nat} {e p q : Int} (hp0 : -2147483648 ≤ p) (hp1 : p ≤ 2147483647) (hq0 : -2147483648 ≤ q) (hq1 : q ≤ 2147483647) (hn : n < B128) : HasC Try.prog 6 [.v (.int .i32 p), .v (.int .i32 q), .agg [.v (.bool g), .v (.int .u64 (hiW (n))), .v (.int .u64 (loW (n))), .v (.int .i64 e)]] (fun y => y = .v (.bool true)) := by
  refine HasC.of [] (fn := Try.f6) tyOk mixed (fun args w => Try.call6 args w) Try.func6 rfl (by kernel_rfl) (Nat.le_of_ble_eq_true rfl) (⟨_, rfl⟩) ?_
  refine vc_seqr rfl ?_
  refine vcI_q 2 (by kernel_rfl) ?_
  refine vcI_end 121 [(0, .d (.v (.int .i32 p))), (1, .d (.v (.int .i32 q))), (5, .p 5 0), (6, Ba false)] [(5, [Bv g, Hw n, Lw n, Iv e])] (by kernel_rfl) (by kernel_rfl) (by kernel_rfl) ?_
  refine vc_seq ?_
  refine vc_seqr rfl ?_
  refine vcI_call (f := 14) (ds := []) (dst := (some 23)) (by kernel_rfl) (c_awake04) ?_
  rintro _ rfl
  refine vcI_un (op := .not) (a := .bool true) (dst := (some 24)) (by kernel_rfl) ?_
  refine all_false ((by simp)) ?_
  refine vcI_end 121 [(0, .d (.v (.int .i32 p))), (1, .d (.v (.int .i32 q))), (5, .p 5 0), (6, Ba false), (24, Ba false)] [(5, [Bv g, Hw n, Lw n, Iv e])] (by kernel_rfl) (by kernel_rfl) (by kernel_rfl) ?_
  refine vc_condf (by kernel_rfl) ?_
  refine vc_skip ?_
  refine seq_n ?_
  refine vc_seqr rfl ?_
  refine vcI_q 1 (by kernel_rfl) ?_
  refine vcI_conv (t := 21) (t' := 3) (a := .int .i32 p) (dst := (some 26)) (by kernel_rfl) ?_
  intro z26 hz26
  first | (replace hz26 := hz26.i64 (by omega)) | skip
  refine vcI_bin (op := .rem) (t := 3) (a := .int .i64 z26) (b := .int .i64 100000000) (dst := (some 27)) (by kernel_rfl) ?_
  refine And.intro (by omega) ?_
  intro z27 hz27
  have h27 := tm_range (n := 100000000) hz27 (by decide)
  refine vcI_q 1 (by kernel_rfl) ?_
  refine vcI_conv (t := 21) (t' := 3) (a := .int .i32 q) (dst := (some 29)) (by kernel_rfl) ?_
  intro z29 hz29
  first | (replace hz29 := hz29.i64 (by omega)) | skip
  refine vcI_bin (op := .rem) (t := 3) (a := .int .i64 z29) (b := .int .i64 100000000) (dst := (some 30)) (by kernel_rfl) ?_
  refine And.intro (by omega) ?_
  intro z30 hz30
  have h30 := tm_range (n := 100000000) hz30 (by decide)
  refine vcI_q 2 (by kernel_rfl) ?_
  refine vcI_end 121 [(5, .p 5 0), (6, Ba false), (7, Ia z27), (8, Ia z30), (24, Ba false)] [(5, [Bv g, Hw n, Lw n, Iv e])] (by kernel_rfl) (by kernel_rfl) (by kernel_rfl) ?_
  refine vc_seqr rfl ?_
  refine vcI_q 1 (by kernel_rfl) ?_
  refine vcI_call (f := 26) (ds := [.v (.int .i64 z27)]) (dst := (some 32)) (by kernel_rfl) (c_Int (x := z27) (by omega) (by omega)) ?_
  rintro _ rfl
  refine vcI_q 1 (by kernel_rfl) ?_
  refine vcI_call (f := 26) (ds := [.v (.int .i64 z30)]) (dst := (some 34)) (by kernel_rfl) (c_Int (x := z30) (by omega) (by omega)) ?_
  rintro _ rfl
  have haE : z27.natAbs < E34 := by unfold E34; omega
  have hbE : z30.natAbs < E34 := by unfold E34; omega
  refine vcI_q 4 (by kernel_rfl) ?_
  refine vcI_end 121 [(5, .p 5 0), (6, Ba false), (7, Ia z27), (8, Ia z30), (9, .p 9 0), (10, .p 10 0), (24, Ba false)] [(5, [Bv g, Hw n, Lw n, Iv e]), (9, [Bv (decide (z27 < 0)), Hw z27.natAbs, Lw z27.natAbs, Iv 0]), (10, [Bv (decide (z30 < 0)), Hw z30.natAbs, Lw z30.natAbs, Iv 0])] (by kernel_rfl) (by kernel_rfl) (by kernel_rfl) ?_
  refine vc_seqr rfl ?_
  refine vcI_q 2 (by kernel_rfl) ?_
  refine vcI_call (f := 27) (ds := [.agg [.v (.bool (decide (z27 < 0))), .v (.int .u64 (hiW (z27.natAbs))), .v (.int .u64 (loW (z27.natAbs))), .v (.int .i64 0)], .agg [.v (.bool (decide (z30 < 0))), .v (.int .u64 (hiW (z30.natAbs))), .v (.int .u64 (loW (z30.natAbs))), .v (.int .i64 0)]]) (dst := (some 38)) (by kernel_rfl) (dfit_ex (c_Modulo haE hbE (by decide) (by decide) (by decide) (by decide))) ?_
  rintro _ ⟨g1, k, z, ok, rfl, hT⟩
  refine vcI_q 6 (by kernel_rfl) ?_
  refine vcI_end 121 [(5, .p 5 0), (6, Ba false), (7, Ia z27), (8, Ia z30), (9, .p 9 0), (10, .p 10 0), (11, .p 11 0), (12, Ba ok), (24, Ba false)] [(5, [Bv g, Hw n, Lw n, Iv e]), (9, [Bv (decide (z27 < 0)), Hw z27.natAbs, Lw z27.natAbs, Iv 0]), (10, [Bv (decide (z30 < 0)), Hw z30.natAbs, Lw z30.natAbs, Iv 0]), (11, [Bv g1, Hw k, Lw k, Iv z])] (by kernel_rfl) (by kernel_rfl) (by kernel_rfl) ?_
  refine vc_seq ?_
  refine vc_seqr rfl ?_
  refine vcI_q 1 (by kernel_rfl) ?_
  refine vcI_bin (op := .eql) (t := 3) (a := .int .i64 z30) (b := .int .i64 0) (dst := (some 42)) (by kernel_rfl) ?_
  intro c42 hc42
  refine vcI_end 121 [(5, .p 5 0), (6, Ba false), (7, Ia z27), (8, Ia z30), (9, .p 9 0), (10, .p 10 0), (11, .p 11 0), (12, Ba ok), (24, Ba false), (42, Ba c42)] [(5, [Bv g, Hw n, Lw n, Iv e]), (9, [Bv (decide (z27 < 0)), Hw z27.natAbs, Lw z27.natAbs, Iv 0]), (10, [Bv (decide (z30 < 0)), Hw z30.natAbs, Lw z30.natAbs, Iv 0]), (11, [Bv g1, Hw k, Lw k, Iv z])] (by kernel_rfl) (by kernel_rfl) (by kernel_rfl) ?_
  cases c42
  · replace hc42 := bf hc42
    refine vc_condf (by kernel_rfl) ?_
    refine vc_skip ?_
    refine seq_n ?_
    refine vc_seqr rfl ?_
    refine vcI_q 2 (by kernel_rfl) ?_
    refine vcI_bin (op := .rem) (t := 3) (a := .int .i64 z27) (b := .int .i64 z30) (dst := (some 52)) (by kernel_rfl) ?_
    refine And.intro (hc42) ?_
    intro z52 hz52
    obtain ⟨g2, k2, m1, m2, m3⟩ := mod_int (x := z27) (y := z30) (by omega) (by omega) hc42
    obtain ⟨q1, q2, q3, q4⟩ := T4.inj4 (hT.symm.trans m1)
    have hfs := fmod_small (a := z27) (n := 100000000) hc42 (by omega) (by omega)
    refine vcI_q 1 (by kernel_rfl) ?_
    refine vcI_end 121 [(5, .p 5 0), (6, Ba false), (7, Ia z27), (8, Ia z30), (9, .p 9 0), (10, .p 10 0), (11, .p 11 0), (12, Ba ok), (13, Ia z52), (24, Ba false), (42, Ba false)] [(5, [Bv g, Hw n, Lw n, Iv e]), (9, [Bv (decide (z27 < 0)), Hw z27.natAbs, Lw z27.natAbs, Iv 0]), (10, [Bv (decide (z30 < 0)), Hw z30.natAbs, Lw z30.natAbs, Iv 0]), (11, [Bv g1, Hw k, Lw k, Iv z])] (by kernel_rfl) (by kernel_rfl) (by kernel_rfl) ?_
    refine vc_mid 121 (fun (vcx : Int × Bool) => match vcx with | (want, vb61) => [(5, .p 5 0), (6, Ba false), (7, Ia z27), (8, Ia z30), (9, .p 9 0), (10, .p 10 0), (11, .p 11 0), (12, Ba ok), (13, Ia want), (24, Ba false), (42, Ba false), (61, Ba vb61)]) (fun (vcx : Int × Bool) => match vcx with | (want, vb61) => [(5, [Bv g, Hw n, Lw n, Iv e]), (9, [Bv (decide (z27 < 0)), Hw z27.natAbs, Lw z27.natAbs, Iv 0]), (10, [Bv (decide (z30 < 0)), Hw z30.natAbs, Lw z30.natAbs, Iv 0]), (11, [Bv g1, Hw k, Lw k, Iv z])]) (fun (vcx : Int × Bool) => match vcx with | (want, vb61) => want = z27.fmod z30) ?_ ?_
    · rintro ⟨want, vb61⟩ hinv
      simp only at hinv
      have hok : ¬ (ok = false) := by rw [q4]; simp
      refine vc_seq ?_
      refine vc_seqr rfl ?_
      refine vcI_q 1 (by kernel_rfl) ?_
      refine vcI_un (op := .not) (a := .bool ok) (dst := (some 66)) (by kernel_rfl) ?_
      refine all_false (hok) ?_
      refine vcI_q 3 (by kernel_rfl) ?_
      refine vcI_call (f := 26) (ds := [.v (.int .i64 want)]) (dst := (some 70)) (by kernel_rfl) (c_Int (x := want) (by omega) (by omega)) ?_
      rintro _ rfl
      have hwE : want.natAbs < E34 := by unfold E34; omega
      refine vcI_call (f := 25) (ds := [.agg [.v (.bool g1), .v (.int .u64 (hiW (k))), .v (.int .u64 (loW (k))), .v (.int .i64 z)], .agg [.v (.bool (decide (want < 0))), .v (.int .u64 (hiW (want.natAbs))), .v (.int .u64 (loW (want.natAbs))), .v (.int .i64 0)]]) (dst := (some 71)) (by kernel_rfl) (c_decCmp (by rw [q2]; exact m3) hwE (by omega) (by omega) (by decide) (by decide)) ?_
      rintro _ rfl
      refine vcI_bin (op := .neq) (t := 3) (a := .int .i64 (cmpZ g1 k z (decide (want < 0)) want.natAbs 0)) (b := .int .i64 0) (dst := (some 72)) (by kernel_rfl) ?_
      refine all_false ((by rw [Decidable.not_not, q1, q2, q3]; exact cmp_ints m2 hinv)) ?_
      refine vcI_q 1 (by kernel_rfl) ?_
      refine vcI_end 121 [(5, .p 5 0), (6, Ba false), (7, Ia z27), (8, Ia z30), (9, .p 9 0), (10, .p 10 0), (11, .p 11 0), (12, Ba ok), (13, Ia want), (24, Ba false), (42, Ba false), (61, Ba vb61), (73, Ba false)] [(5, [Bv g, Hw n, Lw n, Iv e]), (9, [Bv (decide (z27 < 0)), Hw z27.natAbs, Lw z27.natAbs, Iv 0]), (10, [Bv (decide (z30 < 0)), Hw z30.natAbs, Lw z30.natAbs, Iv 0]), (11, [Bv g1, Hw k, Lw k, Iv z])] (by kernel_rfl) (by kernel_rfl) (by kernel_rfl) ?_
      refine vc_condf (by kernel_rfl) ?_
      refine vc_skip ?_
      refine seq_n ?_
      refine vc_seqr rfl ?_
      refine vcI_q 1 (by kernel_rfl) ?_
      refine vcI_call (f := 15) (ds := [.agg [.v (.bool g), .v (.int .u64 (hiW (n))), .v (.int .u64 (loW (n))), .v (.int .i64 e)]]) (dst := (some 75)) (by kernel_rfl) (c_Make hn) ?_
      rintro _ ⟨s, a, x, rfl, ha, hx, hy, hs⟩
      refine vcI_q 2 (by kernel_rfl) ?_
      refine vcI_end 121 [(6, Ba false), (7, Ia z27), (8, Ia z30), (9, .p 9 0), (10, .p 10 0), (11, .p 11 0), (12, Ba ok), (13, Ia want), (14, .p 14 0), (24, Ba false), (42, Ba false), (61, Ba vb61), (73, Ba false)] [(9, [Bv (decide (z27 < 0)), Hw z27.natAbs, Lw z27.natAbs, Iv 0]), (10, [Bv (decide (z30 < 0)), Hw z30.natAbs, Lw z30.natAbs, Iv 0]), (11, [Bv g1, Hw k, Lw k, Iv z]), (14, [Bv s, Hw a, Lw a, Iv x])] (by kernel_rfl) (by kernel_rfl) (by kernel_rfl) ?_
      refine vc_seqr rfl ?_
      refine vcI_q 2 (by kernel_rfl) ?_
      refine vcI_call (f := 28) (ds := [.agg [.v (.bool s), .v (.int .u64 (hiW (a))), .v (.int .u64 (loW (a))), .v (.int .i64 x)], .agg [.v (.bool (decide (z30 < 0))), .v (.int .u64 (hiW (z30.natAbs))), .v (.int .u64 (loW (z30.natAbs))), .v (.int .i64 0)]]) (dst := (some 79)) (by kernel_rfl) (dfit_ex (c_qDiv ha hbE (by omega) (by omega) (by omega) (by omega))) ?_
      rintro _ ⟨g3, k3, x3, ok3, rfl, hD⟩
      obtain ⟨r1, r2, r3, r4⟩ := qdiv_range hD
      obtain ⟨w1, w2, w3, w4⟩ := whole_range (m := 6) r1 r4 r3
      obtain ⟨tw, htw⟩ : ∃ tw, wholeT 6 g3 k3 x3 = tw := ⟨_, rfl⟩
      rw [htw] at w1 w2 w3 w4
      obtain ⟨gw, kw, xw⟩ := tw
      simp only at w1 w2 w3 w4
      refine vcI_q 6 (by kernel_rfl) ?_
      refine vcI_end 121 [(6, Ba false), (7, Ia z27), (8, Ia z30), (9, .p 9 0), (10, .p 10 0), (11, .p 11 0), (12, Ba ok), (13, Ia want), (14, .p 14 0), (15, .p 15 0), (16, Ba ok3), (24, Ba false), (42, Ba false), (61, Ba vb61), (73, Ba false)] [(9, [Bv (decide (z27 < 0)), Hw z27.natAbs, Lw z27.natAbs, Iv 0]), (10, [Bv (decide (z30 < 0)), Hw z30.natAbs, Lw z30.natAbs, Iv 0]), (11, [Bv g1, Hw k, Lw k, Iv z]), (14, [Bv s, Hw a, Lw a, Iv x]), (15, [Bv g3, Hw k3, Lw k3, Iv x3])] (by kernel_rfl) (by kernel_rfl) (by kernel_rfl) ?_
      refine vc_seqr rfl ?_
      refine vcI_q 2 (by kernel_rfl) ?_
      refine vcI_call (f := 30) (ds := [.agg [.v (.bool g3), .v (.int .u64 (hiW (k3))), .v (.int .u64 (loW (k3))), .v (.int .i64 x3)]]) (dst := (some 85)) (by kernel_rfl) (fit3_as (c_Floor r1 r4 r2 r3) htw) ?_
      rintro _ rfl
      refine vcI_call (f := 29) (ds := [.agg [.v (.bool (decide (z30 < 0))), .v (.int .u64 (hiW (z30.natAbs))), .v (.int .u64 (loW (z30.natAbs))), .v (.int .i64 0)], .agg [.v (.bool gw), .v (.int .u64 (hiW (kw))), .v (.int .u64 (loW (kw))), .v (.int .i64 xw)]]) (dst := (some 86)) (by kernel_rfl) (c_decMulT (o1 := true) (o2 := true) (Nat.lt_trans hbE e34_lt) (Nat.lt_trans w1 e34_lt) (by omega) (by omega) (by omega) (by omega)) ?_
      rintro _ ⟨g4, k4, x4, ok4, rfl, hM⟩
      obtain ⟨m1', m2', m3', m4'⟩ := mul_range hM
      refine vcI_q 6 (by kernel_rfl) ?_
      refine vcI_end 121 [(6, Ba false), (7, Ia z27), (8, Ia z30), (9, .p 9 0), (10, .p 10 0), (11, .p 11 0), (12, Ba ok), (13, Ia want), (14, .p 14 0), (15, .p 15 0), (16, Ba ok3), (17, .p 17 0), (18, Ba ok4), (24, Ba false), (42, Ba false), (61, Ba vb61), (73, Ba false)] [(9, [Bv (decide (z27 < 0)), Hw z27.natAbs, Lw z27.natAbs, Iv 0]), (10, [Bv (decide (z30 < 0)), Hw z30.natAbs, Lw z30.natAbs, Iv 0]), (11, [Bv g1, Hw k, Lw k, Iv z]), (14, [Bv s, Hw a, Lw a, Iv x]), (15, [Bv g3, Hw k3, Lw k3, Iv x3]), (17, [Bv g4, Hw k4, Lw k4, Iv x4])] (by kernel_rfl) (by kernel_rfl) (by kernel_rfl) ?_
      refine vc_seqr rfl ?_
      refine vcI_q 2 (by kernel_rfl) ?_
      refine vcI_call (f := 31) (ds := [.agg [.v (.bool s), .v (.int .u64 (hiW (a))), .v (.int .u64 (loW (a))), .v (.int .i64 x)], .agg [.v (.bool g4), .v (.int .u64 (hiW (k4))), .v (.int .u64 (loW (k4))), .v (.int .i64 x4)]]) (dst := (some 92)) (by kernel_rfl) (dfit_ex (c_decSub ha m1' (by omega) (by omega) (by omega) (by omega))) ?_
      rintro _ ⟨g5, k5, x5, ok5, rfl, hS⟩
      refine vcI_q 6 (by kernel_rfl) ?_
      refine vcI_end 121 [(6, Ba false), (7, Ia z27), (8, Ia z30), (9, .p 9 0), (10, .p 10 0), (11, .p 11 0), (12, Ba ok), (13, Ia want), (14, .p 14 0), (15, .p 15 0), (16, Ba ok3), (17, .p 17 0), (18, Ba ok4), (19, .p 19 0), (20, Ba ok5), (24, Ba false), (42, Ba false), (61, Ba vb61), (73, Ba false)] [(9, [Bv (decide (z27 < 0)), Hw z27.natAbs, Lw z27.natAbs, Iv 0]), (10, [Bv (decide (z30 < 0)), Hw z30.natAbs, Lw z30.natAbs, Iv 0]), (11, [Bv g1, Hw k, Lw k, Iv z]), (14, [Bv s, Hw a, Lw a, Iv x]), (15, [Bv g3, Hw k3, Lw k3, Iv x3]), (17, [Bv g4, Hw k4, Lw k4, Iv x4]), (19, [Bv g5, Hw k5, Lw k5, Iv x5])] (by kernel_rfl) (by kernel_rfl) (by kernel_rfl) ?_
      refine vc_seqr rfl ?_
      refine vcI_q 2 (by kernel_rfl) ?_
      refine vcI_call (f := 27) (ds := [.agg [.v (.bool s), .v (.int .u64 (hiW (a))), .v (.int .u64 (loW (a))), .v (.int .i64 x)], .agg [.v (.bool (decide (z30 < 0))), .v (.int .u64 (hiW (z30.natAbs))), .v (.int .u64 (loW (z30.natAbs))), .v (.int .i64 0)]]) (dst := (some 98)) (by kernel_rfl) (dfit_ex (c_Modulo ha hbE hx hy (by decide) (by decide))) ?_
      rintro _ ⟨g6, k6, x6, ok6, rfl, hR⟩
      refine vcI_q 6 (by kernel_rfl) ?_
      refine vcI_end 121 [(6, Ba false), (7, Ia z27), (8, Ia z30), (9, .p 9 0), (10, .p 10 0), (11, .p 11 0), (12, Ba ok), (13, Ia want), (14, .p 14 0), (15, .p 15 0), (16, Ba ok3), (17, .p 17 0), (18, Ba ok4), (19, .p 19 0), (20, Ba ok5), (21, .p 21 0), (22, Ba ok6), (24, Ba false), (42, Ba false), (61, Ba vb61), (73, Ba false)] [(9, [Bv (decide (z27 < 0)), Hw z27.natAbs, Lw z27.natAbs, Iv 0]), (10, [Bv (decide (z30 < 0)), Hw z30.natAbs, Lw z30.natAbs, Iv 0]), (11, [Bv g1, Hw k, Lw k, Iv z]), (14, [Bv s, Hw a, Lw a, Iv x]), (15, [Bv g3, Hw k3, Lw k3, Iv x3]), (17, [Bv g4, Hw k4, Lw k4, Iv x4]), (19, [Bv g5, Hw k5, Lw k5, Iv x5]), (21, [Bv g6, Hw k6, Lw k6, Iv x6])] (by kernel_rfl) (by kernel_rfl) (by kernel_rfl) ?_
      refine vc_seqr rfl ?_
      refine vcI_q 1 (by kernel_rfl) ?_
      refine vcI_un (op := .not) (a := .bool ok3) (dst := (some 102)) (by kernel_rfl) ?_
      intro c102 hc102
      refine vcI_q 1 (by kernel_rfl) ?_
      cases c102
      · replace hc102 := bf hc102
        refine vcI_q 1 (by kernel_rfl) ?_
        refine vcI_un (op := .not) (a := .bool ok4) (dst := (some 105)) (by kernel_rfl) ?_
        intro c105 hc105
        refine vcI_q 2 (by kernel_rfl) ?_
        cases c105
        · replace hc105 := bf hc105
          refine vcI_q 2 (by kernel_rfl) ?_
          refine vcI_bin (op := .eql) (t := 4) (a := .bool ok6) (b := .bool ok5) (dst := (some 110)) (by kernel_rfl) ?_
          have h3 : ok3 = true := by simpa using hc102
          have h4 : ok4 = true := by simpa using hc105
          have hD' := hD
          rw [h3] at hD'
          have hY := mod_yes (a := a) (x := x) hD' htw hM
          rw [h4, modM_yes, hS] at hY
          obtain ⟨e1, e2, e3, e4⟩ := T4.inj4 (hR.symm.trans hY)
          refine all_true (e4) ?_
          refine vcI_q 2 (by kernel_rfl) ?_
          refine vcI_un (op := .not) (a := .bool ok6) (dst := (some 113)) (by kernel_rfl) ?_
          intro c113 hc113
          refine vcI_q 1 (by kernel_rfl) ?_
          cases c113
          · replace hc113 := bf hc113
            refine vcI_q 2 (by kernel_rfl) ?_
            refine vcI_bin (op := .eql) (t := 28) (a := .agg #[.bool g6, .int .u64 (hiW (k6)), .int .u64 (loW (k6)), .int .i64 x6]) (b := .agg #[.bool g5, .int .u64 (hiW (k5)), .int .u64 (loW (k5)), .int .i64 x5]) (dst := (some 117)) (by kernel_rfl) ?_
            intro c117 hc117
            try simp only [Array.mk.injEq, List.cons.injEq, Value.int.injEq, Value.bool.injEq, Value.string.injEq, true_and, and_true] at hc117
            refine vcI_q 4 (by kernel_rfl) ?_
            refine vcI_end 121 [(6, Ba c117), (7, Ia z27), (8, Ia z30), (9, .p 9 0), (10, .p 10 0), (11, .p 11 0), (12, Ba ok), (13, Ia want), (14, .p 14 0), (15, .p 15 0), (17, .p 17 0), (19, .p 19 0), (21, .p 21 0), (24, Ba false), (42, Ba false), (61, Ba vb61), (73, Ba false)] [(9, [Bv (decide (z27 < 0)), Hw z27.natAbs, Lw z27.natAbs, Iv 0]), (10, [Bv (decide (z30 < 0)), Hw z30.natAbs, Lw z30.natAbs, Iv 0]), (11, [Bv g1, Hw k, Lw k, Iv z]), (14, [Bv s, Hw a, Lw a, Iv x]), (15, [Bv g3, Hw k3, Lw k3, Iv x3]), (17, [Bv g4, Hw k4, Lw k4, Iv x4]), (19, [Bv g5, Hw k5, Lw k5, Iv x5]), (21, [Bv g6, Hw k6, Lw k6, Iv x6])] (by kernel_rfl) (by kernel_rfl) (by kernel_rfl) ?_
            refine vc_ret ?_
            refine ret_1 (d := .v (.bool c117)) (by kernel_rfl) ?_
            rw [hc117.2 (dec_and e1 e2 e3)]
          · replace hc113 := bt hc113
            refine vcI_q 7 (by kernel_rfl) ?_
            refine vcI_end 121 [(6, Ba true), (7, Ia z27), (8, Ia z30), (9, .p 9 0), (10, .p 10 0), (11, .p 11 0), (12, Ba ok), (13, Ia want), (14, .p 14 0), (15, .p 15 0), (17, .p 17 0), (19, .p 19 0), (21, .p 21 0), (24, Ba false), (42, Ba false), (61, Ba vb61), (73, Ba false)] [(9, [Bv (decide (z27 < 0)), Hw z27.natAbs, Lw z27.natAbs, Iv 0]), (10, [Bv (decide (z30 < 0)), Hw z30.natAbs, Lw z30.natAbs, Iv 0]), (11, [Bv g1, Hw k, Lw k, Iv z]), (14, [Bv s, Hw a, Lw a, Iv x]), (15, [Bv g3, Hw k3, Lw k3, Iv x3]), (17, [Bv g4, Hw k4, Lw k4, Iv x4]), (19, [Bv g5, Hw k5, Lw k5, Iv x5]), (21, [Bv g6, Hw k6, Lw k6, Iv x6])] (by kernel_rfl) (by kernel_rfl) (by kernel_rfl) ?_
            refine vc_ret ?_
            refine ret_1 (d := .v (.bool true)) (by kernel_rfl) ?_
            rfl
        · replace hc105 := bt hc105
          refine vcI_q 14 (by kernel_rfl) ?_
          refine vcI_end 121 [(6, Ba true), (7, Ia z27), (8, Ia z30), (9, .p 9 0), (10, .p 10 0), (11, .p 11 0), (12, Ba ok), (13, Ia want), (14, .p 14 0), (15, .p 15 0), (17, .p 17 0), (19, .p 19 0), (21, .p 21 0), (24, Ba false), (42, Ba false), (61, Ba vb61), (73, Ba false)] [(9, [Bv (decide (z27 < 0)), Hw z27.natAbs, Lw z27.natAbs, Iv 0]), (10, [Bv (decide (z30 < 0)), Hw z30.natAbs, Lw z30.natAbs, Iv 0]), (11, [Bv g1, Hw k, Lw k, Iv z]), (14, [Bv s, Hw a, Lw a, Iv x]), (15, [Bv g3, Hw k3, Lw k3, Iv x3]), (17, [Bv g4, Hw k4, Lw k4, Iv x4]), (19, [Bv g5, Hw k5, Lw k5, Iv x5]), (21, [Bv g6, Hw k6, Lw k6, Iv x6])] (by kernel_rfl) (by kernel_rfl) (by kernel_rfl) ?_
          refine vc_ret ?_
          refine ret_1 (d := .v (.bool true)) (by kernel_rfl) ?_
          rfl
      · replace hc102 := bt hc102
        refine vcI_q 18 (by kernel_rfl) ?_
        refine vcI_end 121 [(6, Ba true), (7, Ia z27), (8, Ia z30), (9, .p 9 0), (10, .p 10 0), (11, .p 11 0), (12, Ba ok), (13, Ia want), (14, .p 14 0), (15, .p 15 0), (17, .p 17 0), (19, .p 19 0), (21, .p 21 0), (24, Ba false), (42, Ba false), (61, Ba vb61), (73, Ba false)] [(9, [Bv (decide (z27 < 0)), Hw z27.natAbs, Lw z27.natAbs, Iv 0]), (10, [Bv (decide (z30 < 0)), Hw z30.natAbs, Lw z30.natAbs, Iv 0]), (11, [Bv g1, Hw k, Lw k, Iv z]), (14, [Bv s, Hw a, Lw a, Iv x]), (15, [Bv g3, Hw k3, Lw k3, Iv x3]), (17, [Bv g4, Hw k4, Lw k4, Iv x4]), (19, [Bv g5, Hw k5, Lw k5, Iv x5]), (21, [Bv g6, Hw k6, Lw k6, Iv x6])] (by kernel_rfl) (by kernel_rfl) (by kernel_rfl) ?_
        refine vc_ret ?_
        refine ret_1 (d := .v (.bool true)) (by kernel_rfl) ?_
        rfl
    intro hmid
    refine vc_seqr rfl ?_
    refine vcI_q 1 (by kernel_rfl) ?_
    refine vcI_bin (op := .neq) (t := 3) (a := .int .i64 z52) (b := .int .i64 0) (dst := (some 54)) (by kernel_rfl) ?_
    intro c54 hc54
    refine vcI_q 1 (by kernel_rfl) ?_
    cases c54
    · replace hc54 := bf hc54
      refine vcI_q 6 (by kernel_rfl) ?_
      refine vcI_end 121 [(5, .p 5 0), (6, Ba false), (7, Ia z27), (8, Ia z30), (9, .p 9 0), (10, .p 10 0), (11, .p 11 0), (12, Ba ok), (13, Ia z52), (24, Ba false), (42, Ba false), (61, Ba false)] [(5, [Bv g, Hw n, Lw n, Iv e]), (9, [Bv (decide (z27 < 0)), Hw z27.natAbs, Lw z27.natAbs, Iv 0]), (10, [Bv (decide (z30 < 0)), Hw z30.natAbs, Lw z30.natAbs, Iv 0]), (11, [Bv g1, Hw k, Lw k, Iv z])] (by kernel_rfl) (by kernel_rfl) (by kernel_rfl) ?_
      refine vc_condf (by kernel_rfl) ?_
      refine vc_skip ?_
      refine mid_n hmid (z52, false) (fmod_stay hc42 hz52 (.inl (Decidable.not_not.1 hc54))) (by kernel_rfl)
    · replace hc54 := bt hc54
      refine vcI_q 1 (by kernel_rfl) ?_
      refine vcI_bin (op := .lss) (t := 3) (a := .int .i64 z52) (b := .int .i64 0) (dst := (some 57)) (by kernel_rfl) ?_
      intro c57 hc57
      refine vcI_q 1 (by kernel_rfl) ?_
      refine vcI_bin (op := .lss) (t := 3) (a := .int .i64 z30) (b := .int .i64 0) (dst := (some 59)) (by kernel_rfl) ?_
      intro c59 hc59
      refine vcI_bin (op := .neq) (t := 4) (a := .bool c57) (b := .bool c59) (dst := (some 60)) (by kernel_rfl) ?_
      intro c60 hc60
      refine vcI_q 1 (by kernel_rfl) ?_
      refine vcI_end 121 [(5, .p 5 0), (6, Ba false), (7, Ia z27), (8, Ia z30), (9, .p 9 0), (10, .p 10 0), (11, .p 11 0), (12, Ba ok), (13, Ia z52), (24, Ba false), (42, Ba false), (61, Ba c60)] [(5, [Bv g, Hw n, Lw n, Iv e]), (9, [Bv (decide (z27 < 0)), Hw z27.natAbs, Lw z27.natAbs, Iv 0]), (10, [Bv (decide (z30 < 0)), Hw z30.natAbs, Lw z30.natAbs, Iv 0]), (11, [Bv g1, Hw k, Lw k, Iv z])] (by kernel_rfl) (by kernel_rfl) (by kernel_rfl) ?_
      cases c60
      · replace hc60 := bf hc60
        refine vc_condf (by kernel_rfl) ?_
        refine vc_skip ?_
        refine mid_n hmid (z52, false) (fmod_stay hc42 hz52 (.inr (by rw [← hc57, ← hc59, Decidable.not_not.1 hc60]))) (by kernel_rfl)
      · replace hc60 := bt hc60
        have hst := fmod_step hc42 hz52 hc54 (fun k => hc60 (by rw [Bool.eq_iff_iff, hc57, hc59]; exact k))
        refine vc_condt (by kernel_rfl) ?_
        refine vc_reg rfl ?_
        refine vcI_q 2 (by kernel_rfl) ?_
        refine vcI_bin (op := .add) (t := 3) (a := .int .i64 z52) (b := .int .i64 z30) (dst := (some 64)) (by kernel_rfl) ?_
        intro z64 hz64
        first | (replace hz64 := hz64.i64 (by omega)) | skip
        refine vcI_q 1 (by kernel_rfl) ?_
        refine vcI_end 121 [(5, .p 5 0), (6, Ba false), (7, Ia z27), (8, Ia z30), (9, .p 9 0), (10, .p 10 0), (11, .p 11 0), (12, Ba ok), (13, Ia z64), (24, Ba false), (42, Ba false), (61, Ba true)] [(5, [Bv g, Hw n, Lw n, Iv e]), (9, [Bv (decide (z27 < 0)), Hw z27.natAbs, Lw z27.natAbs, Iv 0]), (10, [Bv (decide (z30 < 0)), Hw z30.natAbs, Lw z30.natAbs, Iv 0]), (11, [Bv g1, Hw k, Lw k, Iv z])] (by kernel_rfl) (by kernel_rfl) (by kernel_rfl) ?_
        refine mid_n hmid (z64, true) (by omega) (by kernel_rfl)
  · replace hc42 := bt hc42
    have hno : modT (decide (z27 < 0)) z27.natAbs 0 (decide (z30 < 0)) z30.natAbs 0 = (false, 0, 0, false) := mod_no (g := false) (k := 0) (z := 0) (by unfold qDivT; rw [if_pos (by omega)])
    obtain ⟨q1, q2, q3, q4⟩ := none4 (hno.symm.trans hT)
    refine vc_condt (by kernel_rfl) ?_
    refine vc_seqr rfl ?_
    refine vcI_q 1 (by kernel_rfl) ?_
    refine vcI_un (op := .not) (a := .bool ok) (dst := (some 44)) (by kernel_rfl) ?_
    refine all_true (q4) ?_
    refine vcI_q 3 (by kernel_rfl) ?_
    refine vcI_bin (op := .eql) (t := 28) (a := .agg #[.bool g1, .int .u64 (hiW (k)), .int .u64 (loW (k)), .int .i64 z]) (b := .agg #[.bool false, .int .u64 0, .int .u64 0, .int .i64 0]) (dst := (some 48)) (by kernel_rfl) ?_
    refine all_true ((none_eq q1 q2 q3)) ?_
    refine vcI_q 2 (by kernel_rfl) ?_
    refine vcI_end 121 [(5, .p 5 0), (6, Ba true), (7, Ia z27), (8, Ia z30), (9, .p 9 0), (10, .p 10 0), (11, .p 11 0), (12, Ba ok), (24, Ba false), (42, Ba true)] [(5, [Bv g, Hw n, Lw n, Iv e]), (9, [Bv (decide (z27 < 0)), Hw z27.natAbs, Lw z27.natAbs, Iv 0]), (10, [Bv (decide (z30 < 0)), Hw z30.natAbs, Lw z30.natAbs, Iv 0]), (11, [Bv g1, Hw k, Lw k, Iv z])] (by kernel_rfl) (by kernel_rfl) (by kernel_rfl) ?_
    refine vc_ret ?_
    refine seq_r ?_
    refine ret_1 (d := .v (.bool true)) (by kernel_rfl) ?_
    rfl

theorem par_int {x left : Int} {y : Int} (hy : y = x) (h : left = 0 ∨ left = 1) : parP (decide (x < 0)) x.natAbs 0 left (wholeT 6 (decide (x < 0)) x.natAbs 0) ↔ y % 2 = left := by
  subst hy
  rw [whole_own (by decide)]
  unfold parP
  have h0 : cmpZ (decide (y < 0)) y.natAbs 0 (decide (y < 0)) y.natAbs 0 = 0 := cmpI_eq.2 rfl
  constructor
  · rintro ⟨_, ⟨h1, h2⟩ | ⟨h1, h2⟩⟩
    · have : y.natAbs = 0 := by rcases h1 with h1 | h1; exact absurd h1 (by decide); exact h1
      omega
    · have h3 : (((y.natAbs % 2 : Nat)) : Int) = left := h2
      omega
  · intro h1
    refine ⟨h0, ?_⟩
    by_cases hz : y = 0
    · subst hz
      exact .inl ⟨.inr rfl, by omega⟩
    · refine .inr ⟨fun h2 => ?_, ?_⟩
      · rcases h2 with h2 | h2
        · exact absurd h2 (by decide)
        · omega
      · show ((y.natAbs % 2 : Nat) : Int) = left
        omega
theorem tm2 {p z : Int} (h : z = p.tmod 2) : z = 0 ↔ p % 2 = 0 := by
  have h3 : (2 : Int) ∣ p ↔ p % 2 = 0 := Int.dvd_iff_emod_eq_zero
  rw [h, Int.tmod_eq_emod]
  split <;> omega

set_option maxHeartbeats 1600000 in
theorem c_RoundParity {p : Int} (hp0 : -2147483648 ≤ p) (hp1 : p ≤ 2147483647) : HasC Try.prog 7 [.v (.int .i32 p)] (fun y => y = .v (.bool true)) := by
  refine HasC.of [] (fn := Try.f7) tyOk mixed (fun args w => Try.call7 args w) Try.func7 rfl (by kernel_rfl) (Nat.le_of_ble_eq_true rfl) (⟨_, rfl⟩) ?_
  refine vc_seqr rfl ?_
  refine vcI_q 1 (by kernel_rfl) ?_
  refine vcI_end 41 [(0, .d (.v (.int .i32 p))), (2, Ba false)] [] (by kernel_rfl) (by kernel_rfl) (by kernel_rfl) ?_
  refine vc_seq ?_
  refine vc_seqr rfl ?_
  refine vcI_call (f := 14) (ds := []) (dst := (some 5)) (by kernel_rfl) (c_awake04) ?_
  rintro _ rfl
  refine vcI_un (op := .not) (a := .bool true) (dst := (some 6)) (by kernel_rfl) ?_
  refine all_false ((by simp)) ?_
  refine vcI_end 41 [(0, .d (.v (.int .i32 p))), (2, Ba false), (6, Ba false)] [] (by kernel_rfl) (by kernel_rfl) (by kernel_rfl) ?_
  refine vc_condf (by kernel_rfl) ?_
  refine vc_skip ?_
  refine seq_n ?_
  refine vc_seqr rfl ?_
  refine vcI_q 1 (by kernel_rfl) ?_
  refine vcI_conv (t := 21) (t' := 3) (a := .int .i32 p) (dst := (some 8)) (by kernel_rfl) ?_
  intro z8 hz8
  first | (replace hz8 := hz8.i64 (by omega)) | skip
  refine vcI_call (f := 26) (ds := [.v (.int .i64 z8)]) (dst := (some 9)) (by kernel_rfl) (c_Int (x := z8) (by omega) (by omega)) ?_
  rintro _ rfl
  refine vcI_q 1 (by kernel_rfl) ?_
  refine vcI_conv (t := 21) (t' := 3) (a := .int .i32 p) (dst := (some 11)) (by kernel_rfl) ?_
  intro z11 hz11
  first | (replace hz11 := hz11.i64 (by omega)) | skip
  refine vcI_bin (op := .add) (t := 3) (a := .int .i64 z11) (b := .int .i64 1) (dst := (some 12)) (by kernel_rfl) ?_
  intro z12 hz12
  first | (replace hz12 := hz12.i64 (by omega)) | skip
  refine vcI_call (f := 26) (ds := [.v (.int .i64 z12)]) (dst := (some 13)) (by kernel_rfl) (c_Int (x := z12) (by omega) (by omega)) ?_
  rintro _ rfl
  have haE : z8.natAbs < E34 := by unfold E34; omega
  have hbE : z12.natAbs < E34 := by unfold E34; omega
  have ha0 : z8.natAbs = 0 → decide (z8 < 0) = false := fun h => by simp; omega
  have hb0 : z12.natAbs = 0 → decide (z12 < 0) = false := fun h => by simp; omega
  refine vcI_q 4 (by kernel_rfl) ?_
  refine vcI_end 41 [(0, .d (.v (.int .i32 p))), (2, Ba false), (3, .p 3 0), (4, .p 4 0), (6, Ba false)] [(3, [Bv (decide (z8 < 0)), Hw z8.natAbs, Lw z8.natAbs, Iv 0]), (4, [Bv (decide (z12 < 0)), Hw z12.natAbs, Lw z12.natAbs, Iv 0])] (by kernel_rfl) (by kernel_rfl) (by kernel_rfl) ?_
  refine vc_seqr rfl ?_
  refine vcI_q 1 (by kernel_rfl) ?_
  refine vcI_call (f := 23) (ds := [.agg [.v (.bool (decide (z8 < 0))), .v (.int .u64 (hiW (z8.natAbs))), .v (.int .u64 (loW (z8.natAbs))), .v (.int .i64 0)]]) (dst := (some 15)) (by kernel_rfl) (c_Even haE ha0 (by decide) (by decide)) ?_
  rintro _ ⟨b1, rfl, hb1⟩
  rw [par_int (y := z8) rfl (.inl rfl)] at hb1
  refine vcI_q 1 (by kernel_rfl) ?_
  refine vcI_bin (op := .rem) (t := 21) (a := .int .i32 p) (b := .int .i32 2) (dst := (some 17)) (by kernel_rfl) ?_
  refine And.intro (by omega) ?_
  intro z17 hz17
  have h17 := tm2 hz17
  refine vcI_bin (op := .eql) (t := 21) (a := .int .i32 z17) (b := .int .i32 0) (dst := (some 18)) (by kernel_rfl) ?_
  intro c18 hc18
  refine vcI_bin (op := .eql) (t := 4) (a := .bool b1) (b := .bool c18) (dst := (some 19)) (by kernel_rfl) ?_
  refine all_true ((by rw [Bool.eq_iff_iff, hb1, hc18]; omega)) ?_
  refine vcI_q 2 (by kernel_rfl) ?_
  refine vcI_call (f := 24) (ds := [.agg [.v (.bool (decide (z8 < 0))), .v (.int .u64 (hiW (z8.natAbs))), .v (.int .u64 (loW (z8.natAbs))), .v (.int .i64 0)]]) (dst := (some 22)) (by kernel_rfl) (c_Odd haE ha0 (by decide) (by decide)) ?_
  rintro _ ⟨b2, rfl, hb2⟩
  rw [par_int (y := z8) rfl (.inr rfl)] at hb2
  refine vcI_q 1 (by kernel_rfl) ?_
  refine vcI_call (f := 23) (ds := [.agg [.v (.bool (decide (z8 < 0))), .v (.int .u64 (hiW (z8.natAbs))), .v (.int .u64 (loW (z8.natAbs))), .v (.int .i64 0)]]) (dst := (some 24)) (by kernel_rfl) (c_Even haE ha0 (by decide) (by decide)) ?_
  rintro _ ⟨b3, rfl, hb3⟩
  rw [par_int (y := z8) rfl (.inl rfl)] at hb3
  refine vcI_bin (op := .neq) (t := 4) (a := .bool b2) (b := .bool b3) (dst := (some 25)) (by kernel_rfl) ?_
  refine all_true ((by rw [Ne, Bool.eq_iff_iff, hb2, hb3]; omega)) ?_
  refine vcI_q 3 (by kernel_rfl) ?_
  refine vcI_call (f := 24) (ds := [.agg [.v (.bool (decide (z12 < 0))), .v (.int .u64 (hiW (z12.natAbs))), .v (.int .u64 (loW (z12.natAbs))), .v (.int .i64 0)]]) (dst := (some 29)) (by kernel_rfl) (c_Odd hbE hb0 (by decide) (by decide)) ?_
  rintro _ ⟨b4, rfl, hb4⟩
  rw [par_int (y := z12) rfl (.inr rfl)] at hb4
  refine vcI_q 1 (by kernel_rfl) ?_
  refine vcI_call (f := 23) (ds := [.agg [.v (.bool (decide (z8 < 0))), .v (.int .u64 (hiW (z8.natAbs))), .v (.int .u64 (loW (z8.natAbs))), .v (.int .i64 0)]]) (dst := (some 31)) (by kernel_rfl) (c_Even haE ha0 (by decide) (by decide)) ?_
  rintro _ ⟨b5, rfl, hb5⟩
  rw [par_int (y := z8) rfl (.inl rfl)] at hb5
  refine vcI_bin (op := .eql) (t := 4) (a := .bool b4) (b := .bool b5) (dst := (some 32)) (by kernel_rfl) ?_
  refine all_true ((by rw [Bool.eq_iff_iff, hb4, hb5]; omega)) ?_
  refine vcI_q 3 (by kernel_rfl) ?_
  refine vcI_conv (t := 21) (t' := 3) (a := .int .i32 p) (dst := (some 36)) (by kernel_rfl) ?_
  intro z36 hz36
  first | (replace hz36 := hz36.i64 (by omega)) | skip
  refine vcI_bin (op := .mul) (t := 3) (a := .int .i64 2) (b := .int .i64 z36) (dst := (some 37)) (by kernel_rfl) ?_
  intro z37 hz37
  first | (replace hz37 := hz37.i64 (by omega)) | skip
  refine vcI_call (f := 26) (ds := [.v (.int .i64 z37)]) (dst := (some 38)) (by kernel_rfl) (c_Int (x := z37) (by omega) (by omega)) ?_
  rintro _ rfl
  have hcE : z37.natAbs < E34 := by unfold E34; omega
  have hc0 : z37.natAbs = 0 → decide (z37 < 0) = false := fun h => by simp; omega
  refine vcI_call (f := 23) (ds := [.agg [.v (.bool (decide (z37 < 0))), .v (.int .u64 (hiW (z37.natAbs))), .v (.int .u64 (loW (z37.natAbs))), .v (.int .i64 0)]]) (dst := (some 39)) (by kernel_rfl) (c_Even hcE hc0 (by decide) (by decide)) ?_
  rintro _ ⟨b6, rfl, hb6⟩
  rw [par_int (y := z37) rfl (.inl rfl)] at hb6
  refine vcI_q 2 (by kernel_rfl) ?_
  refine vcI_end 41 [(0, .d (.v (.int .i32 p))), (2, Ba b6), (3, .p 3 0), (4, .p 4 0), (6, Ba false)] [(3, [Bv (decide (z8 < 0)), Hw z8.natAbs, Lw z8.natAbs, Iv 0]), (4, [Bv (decide (z12 < 0)), Hw z12.natAbs, Lw z12.natAbs, Iv 0])] (by kernel_rfl) (by kernel_rfl) (by kernel_rfl) ?_
  refine vc_ret ?_
  refine ret_1 (d := .v (.bool b6)) (by kernel_rfl) ?_
  rw [hb6.2 (by omega)]

end Go.Proofs.Ytfjcblmmfkgkoaa
