/-
  The laws of durations' products and quotients: each says yes.
-/
import Derived.Test.YtfjcblmmfkgkoaaSpnB
namespace Go.Proofs.Ytfjcblmmfkgkoaa
open Go.RowKit
set_option linter.unusedVariables false
set_option linter.unusedSimpArgs false
set_option maxRecDepth 100000


theorem times_eq {n z z' : Int} {t : T4} {ok ok' : Bool} {g : Bool} {k : Nat} {x : Int} {o : Bool} (h : TimesIs n t z ok) (ht : t = (g, k, x, o)) (hm : mayN n) (h1 : o = true → SpanIs g k x z' ok') (h0 : o = false → z' = 0 ∧ ok' = false) : z = z' ∧ ok = ok' := by
  subst ht
  cases o with
  | true => exact (h.yes hm rfl).fn (h1 rfl)
  | false =>
    obtain ⟨a1, a2⟩ := h.no (.inr rfl)
    obtain ⟨b1, b2⟩ := h0 rfl
    exact ⟨a1.trans b1.symm, a2.trans b2.symm⟩

set_option maxHeartbeats 3200000 in
theorem c_SpanTimes {n e : Int} {g : Bool} {c : Nat} (hn0 : -9223372036854775808 ≤ n) (hn1 : n ≤ 9223372036854775807) (hc : c < B128) : HasC Try.prog 9 [.v (.int .i64 n), .agg [.v (.bool g), .v (.int .u64 (hiW (c))), .v (.int .u64 (loW (c))), .v (.int .i64 e)]] (fun y => y = .v (.bool true)) := by
  refine HasC.of [] (fn := Try.f9) tyOk mixed (fun args w => Try.call9 args w) Try.func9 rfl (by kernel_rfl) (Nat.le_of_ble_eq_true rfl) (⟨_, rfl⟩) ?_
  refine vc_seqr rfl (iQ 2 (iE 85 [(0, Ia n), (3, .p 3 0), (4, Ba false)] [(3, [Bv g, Hw c, Lw c, Iv e])] ?_))
  refine vc_seq (vc_seqr rfl (iC 35 [] (some 14) (c_awake10) ?_))
  rintro _ rfl
  refine iU .not (.bool true) (some 15) ?_
  refine all_false ((by simp)) ?_
  refine iE 85 [(0, Ia n), (3, .p 3 0), (4, Ba false), (15, Ba false)] [(3, [Bv g, Hw c, Lw c, Iv e])] ?_
  refine iF (vc_skip (seq_n (vc_seqr rfl (iQ 1 (iC 15 [.agg [Bv g, Hw c, Lw c, Iv e]] (some 17) (c_Make hc) ?_)))))
  rintro _ ⟨s, a, x, rfl, ha, hx, hy, hs⟩
  refine iQ 2 (iE 85 [(0, Ia n), (4, Ba false), (5, .p 5 0), (15, Ba false)] [(5, [Bv s, Hw a, Lw a, Iv x])] ?_)
  refine vc_seqr rfl (iQ 2 (iC 36 [Iv n, .agg [Bv s, Hw a, Lw a, Iv x]] (some 21) (c_Times hn0 hn1 ha hx hy) ?_))
  rintro _ ⟨z1, ok1, rfl, hT1⟩
  refine iQ 5 (iE 85 [(0, Ia n), (4, Ba false), (5, .p 5 0), (6, Ia z1), (7, Ba ok1), (15, Ba false)] [(5, [Bv s, Hw a, Lw a, Iv x])] ?_)
  refine vc_seqr rfl (iQ 2 (iC 37 [Iv n, .agg [Bv s, Hw a, Lw a, Iv x]] (some 27) (c_Over hn0 hn1 ha hx hy) ?_))
  rintro _ ⟨z2, ok2, rfl, hT2⟩
  have hnE : n.natAbs < E34 := by unfold E34; omega
  refine iQ 5 (iE 85 [(0, Ia n), (4, Ba false), (5, .p 5 0), (6, Ia z1), (7, Ba ok1), (8, Ia z2), (9, Ba ok2), (15, Ba false)] [(5, [Bv s, Hw a, Lw a, Iv x])] ?_)
  refine vc_seqr rfl (iQ 1 (iC 26 [Iv n] (some 32) (c_Int hn0 hn1) ?_))
  rintro _ rfl
  refine iQ 1 (iC 29 [.agg [Bv (decide (n < 0)), Hw n.natAbs, Lw n.natAbs, Iv 0], .agg [Bv s, Hw a, Lw a, Iv x]] (some 34) (c_decMulT (o1 := true) (o2 := true) (Nat.lt_trans hnE e34_lt) (Nat.lt_trans ha e34_lt) (by decide) (by decide) (by omega) (by omega)) ?_)
  rintro _ ⟨g3, k3, x3, o3, rfl, hM⟩
  obtain ⟨m1, m2, m3, m4⟩ := mul_range hM
  refine iQ 2 (iC 38 [.agg [Bv g3, Hw k3, Lw k3, Iv x3], Bv o3] (some 37) (c_lawWhole m1 m4 m2 m3) ?_)
  rintro _ ⟨z3, ok3, rfl, hL1, hL0⟩
  refine iQ 5 (iE 85 [(0, Ia n), (4, Ba false), (5, .p 5 0), (6, Ia z1), (7, Ba ok1), (8, Ia z2), (9, Ba ok2), (10, Ia z3), (11, Ba ok3), (15, Ba false)] [(5, [Bv s, Hw a, Lw a, Iv x])] ?_)
  refine vc_seqr rfl (iQ 1 (iC 26 [Iv n] (some 42) (c_Int hn0 hn1) ?_))
  rintro _ rfl
  refine iQ 1 (iC 28 [.agg [Bv (decide (n < 0)), Hw n.natAbs, Lw n.natAbs, Iv 0], .agg [Bv s, Hw a, Lw a, Iv x]] (some 44) (dfit_ex (c_qDiv hnE ha (by decide) (by decide) (by omega) (by omega))) ?_)
  rintro _ ⟨g4, k4, x4, o4, rfl, hD⟩
  obtain ⟨d1, d2, d3, d4⟩ := qdiv_range hD
  refine iQ 2 (iC 38 [.agg [Bv g4, Hw k4, Lw k4, Iv x4], Bv o4] (some 47) (c_lawWhole d1 d4 d2 d3) ?_)
  rintro _ ⟨z4, ok4, rfl, hR1, hR0⟩
  refine iQ 5 (iE 85 [(0, Ia n), (4, Ba false), (5, .p 5 0), (6, Ia z1), (7, Ba ok1), (8, Ia z2), (9, Ba ok2), (10, Ia z3), (11, Ba ok3), (12, Ia z4), (13, Ba ok4), (15, Ba false)] [(5, [Bv s, Hw a, Lw a, Iv x])] ?_)
  refine vc_seq (vc_seqr rfl (iQ 1 (iC 39 [Iv n] (some 51) (c_lawMay) ?_)))
  rintro _ ⟨p, rfl, hp⟩
  refine iU .not (.bool p) (some 52) ?_
  intro c52 hc52
  refine iE 85 [(0, Ia n), (4, Ba false), (5, .p 5 0), (6, Ia z1), (7, Ba ok1), (8, Ia z2), (9, Ba ok2), (10, Ia z3), (11, Ba ok3), (12, Ia z4), (13, Ba ok4), (15, Ba false), (52, Ba c52)] [(5, [Bv s, Hw a, Lw a, Iv x])] ?_
  cases c52
  · replace hc52 := bf hc52
    have hm : mayN n := hp.1 (by simpa using hc52)
    obtain ⟨q1, q2⟩ := times_eq hT1 hM hm hL1 hL0
    obtain ⟨q3, q4⟩ := times_eq hT2 hD hm hR1 hR0
    refine iF (vc_skip (seq_n (vc_seqr rfl (iQ 2 (iB .eql 4 (.bool ok1) (.bool ok3) (some 69) ?_)))))
    refine all_true (q2) ?_
    refine iQ 3 (iB .eql 3 (.int .i64 z1) (.int .i64 z3) (some 73) ?_)
    refine all_true (q1) ?_
    refine iQ 4 (iB .eql 4 (.bool ok2) (.bool ok4) (some 78) ?_)
    refine all_true (q4) ?_
    refine iQ 4 (iB .eql 3 (.int .i64 z2) (.int .i64 z4) (some 83) ?_)
    intro c83 hc83
    refine iQ 2 (iE 85 [(0, Ia n), (4, Ba c83), (5, .p 5 0), (6, Ia z1), (7, Ba ok1), (8, Ia z2), (9, Ba ok2), (15, Ba false), (52, Ba false)] [(5, [Bv s, Hw a, Lw a, Iv x])] ?_)
    refine vc_ret (iR (Bv c83) ?_)
    rw [hc83.2 q3]
  · replace hc52 := bt hc52
    have hm : ¬ mayN n := fun k => by rw [hp.2 k] at hc52; cases hc52
    obtain ⟨q1, q2⟩ := hT1.no (.inl hm)
    obtain ⟨q3, q4⟩ := hT2.no (.inl hm)
    refine iT (vc_seqr rfl (iQ 1 (iU .not (.bool ok1) (some 54) ?_)))
    refine all_true (q2) ?_
    refine iQ 2 (iU .not (.bool ok2) (some 57) ?_)
    refine all_true (q4) ?_
    refine iQ 3 (iB .eql 3 (.int .i64 z1) (.int .i64 0) (some 61) ?_)
    refine all_true (q1) ?_
    refine iQ 3 (iB .eql 3 (.int .i64 z2) (.int .i64 0) (some 65) ?_)
    intro c65 hc65
    refine iQ 2 (iE 85 [(0, Ia n), (4, Ba c65), (5, .p 5 0), (6, Ia z1), (7, Ba ok1), (8, Ia z2), (9, Ba ok2), (10, Ia z3), (11, Ba ok3), (12, Ia z4), (13, Ba ok4), (15, Ba false), (52, Ba true)] [(5, [Bv s, Hw a, Lw a, Iv x])] ?_)
    refine vc_ret (seq_r (iR (Bv c65) ?_))
    rw [hc65.2 q3]

theorem mul_int {n m : Int} (hn : n.natAbs ≤ 10000000000) (hm : m.natAbs ≤ 10000000000) : ∃ g k, mulT (decide (n < 0), n.natAbs, 0, true) (decide (m < 0), m.natAbs, 0, true) = (g, k, 0, true) ∧ sgnV g k = n * m ∧ k = n.natAbs * m.natAbs ∧ k < E34 := by
  have hE : n.natAbs * m.natAbs < E34 := Nat.lt_of_le_of_lt (Nat.mul_le_mul hn hm) (by decide)
  have hf : mulT (decide (n < 0), n.natAbs, 0, true) (decide (m < 0), m.natAbs, 0, true) = (if n.natAbs * m.natAbs = 0 then false else (decide (n < 0) != decide (m < 0)), n.natAbs * m.natAbs, 0, true) := fitT_own hE (show (-6176 : Int) ≤ 0 + 0 by decide) (show (0 : Int) + 0 ≤ 6111 by decide)
  refine ⟨_, _, hf, ?_, rfl, hE⟩
  have hsg : ∀ u : Bool, sgnV (if n.natAbs * m.natAbs = 0 then false else u) (n.natAbs * m.natAbs) = sgnV u (n.natAbs * m.natAbs) := fun u => by
    split
    · rename_i h; rw [h, sgnV_0, sgnV_0]
    · rfl
  rw [hsg, sgnV_mul2, sgnV_abs', sgnV_abs']
theorem tdiv_sign (x y : Int) : sgnV (decide (x < 0) != decide (y < 0)) (x.natAbs / y.natAbs) = x.tdiv y := by
  have pp : ∀ a b : Nat, ((a : Int)).tdiv (b : Int) = ((a / b : Nat) : Int) := fun a b => by rw [Int.tdiv_eq_ediv_of_nonneg (Int.natCast_nonneg _)]; rfl
  rcases Int.le_total 0 x with hx | hx <;> rcases Int.le_total 0 y with hy | hy
  · obtain ⟨a, rfl⟩ := Int.eq_ofNat_of_zero_le hx
    obtain ⟨b, rfl⟩ := Int.eq_ofNat_of_zero_le hy
    rw [pp]
    have e1 : decide ((a : Int) < 0) = false := decide_eq_false (by omega)
    have e2 : decide ((b : Int) < 0) = false := decide_eq_false (by omega)
    rw [e1, e2]
    rfl
  · obtain ⟨a, rfl⟩ := Int.eq_ofNat_of_zero_le hx
    obtain ⟨b, rfl⟩ : ∃ b : Nat, y = -(b : Int) := ⟨y.natAbs, by omega⟩
    rw [Int.tdiv_neg, pp]
    have e1 : decide ((a : Int) < 0) = false := decide_eq_false (by omega)
    rw [e1, Int.natAbs_neg]
    show sgnV (false != decide (-(b : Int) < 0)) (a / b) = -((a / b : Nat) : Int)
    by_cases hb : b = 0
    · subst hb; simp [sgnV]
    · have e2 : decide (-(b : Int) < 0) = true := decide_eq_true (by omega)
      rw [e2]
      rfl
  · obtain ⟨a, rfl⟩ : ∃ b : Nat, x = -(b : Int) := ⟨x.natAbs, by omega⟩
    obtain ⟨b, rfl⟩ := Int.eq_ofNat_of_zero_le hy
    rw [Int.neg_tdiv, pp]
    have e2 : decide ((b : Int) < 0) = false := decide_eq_false (by omega)
    rw [e2, Int.natAbs_neg]
    show sgnV (decide (-(a : Int) < 0) != false) (a / b) = -((a / b : Nat) : Int)
    by_cases ha : a = 0
    · subst ha; simp [sgnV]
    · have e1 : decide (-(a : Int) < 0) = true := decide_eq_true (by omega)
      rw [e1]
      rfl
  · obtain ⟨a, rfl⟩ : ∃ b : Nat, x = -(b : Int) := ⟨x.natAbs, by omega⟩
    obtain ⟨b, rfl⟩ : ∃ b : Nat, y = -(b : Int) := ⟨y.natAbs, by omega⟩
    rw [Int.neg_tdiv, Int.tdiv_neg, pp, Int.natAbs_neg, Int.natAbs_neg, Int.neg_neg]
    show sgnV (decide (-(a : Int) < 0) != decide (-(b : Int) < 0)) (a / b) = ((a / b : Nat) : Int)
    by_cases ha : a = 0
    · subst ha; simp [sgnV_0]
    · have e1 : decide (-(a : Int) < 0) = true := decide_eq_true (by omega)
      by_cases hb : b = 0
      · subst hb; simp [sgnV_0]
      · have e2 : decide (-(b : Int) < 0) = true := decide_eq_true (by omega)
        rw [e1, e2]
        rfl
theorem tdiv_small (x y : Int) : (x.tdiv y).natAbs ≤ x.natAbs := by
  rw [← tdiv_sign]
  have := Nat.div_le_self x.natAbs y.natAbs
  generalize x.natAbs / y.natAbs = q at *
  cases (decide (x < 0) != decide (y < 0))
  · show ((q : Int)).natAbs ≤ _
    omega
  · show (-(q : Int)).natAbs ≤ _
    omega
/-- The quotient of two whole numbers, towards 0, as a duration. -/
theorem over_int {n m : Int} (hn : n.natAbs < 10000000000) (hm : m.natAbs < 10000000000) (hm0 : m ≠ 0) : ∃ g k x, qDivT (decide (n < 0) != decide (m < 0)) n.natAbs m.natAbs (0 - 0) = (g, k, x, true) ∧ SpanIs g k x (n.tdiv m) true := by
  have hmay : mayN (n.tdiv m) := by
    have := tdiv_small n m
    unfold mayN
    omega
  by_cases h0 : n = 0
  · subst h0
    exact ⟨false, 0, 0, qdiv_zero (by omega) (by decide) (by decide), SpanIs.of (whole_own (by decide)) (by rw [Int.zero_tdiv]; rfl) hmay⟩
  · obtain ⟨d, hd⟩ : ∃ d, qDivT (decide (n < 0) != decide (m < 0)) n.natAbs m.natAbs (0 - 0) = d := ⟨_, rfl⟩
    obtain ⟨g, k, x, ok⟩ := d
    have hq := hd
    rw [show (0 : Int) - 0 = 0 from rfl] at hq
    have hs : n.natAbs = 0 → (decide (n < 0) != decide (m < 0)) = false := fun h => absurd h (by omega)
    obtain ⟨r1, _⟩ := quot_int hn hm hs (by omega) hq
    obtain ⟨g', w1, w2⟩ := quot_down hn hm hs (by omega) hq
    rw [r1] at hd
    exact ⟨g, k, x, hd, SpanIs.of w1 (by rw [w2, tdiv_sign]) hmay⟩
theorem shr1 {a z : Int} (h : ShrIs .i64 a 1 z) : z = a / 2 := by
  have e : z = a.fdiv 2 := h
  rw [e, Int.fdiv_eq_ediv_of_nonneg _ (by decide)]
theorem prod_small {a b : Int} (ha : a.natAbs ≤ 1073741824) (hb : b.natAbs ≤ 32768) : (a * b).natAbs ≤ 35184372088832 := by
  rw [Int.natAbs_mul]
  exact Nat.mul_le_mul ha hb

set_option maxHeartbeats 3200000 in
theorem c_SpanInts {a b : Int} (ha0 : -2147483648 ≤ a) (ha1 : a ≤ 2147483647) (hb0 : -32768 ≤ b) (hb1 : b ≤ 32767) : HasC Try.prog 10 [.v (.int .i32 a), .v (.int .i16 b)] (fun y => y = .v (.bool true)) := by
  refine HasC.of [] (fn := Try.f10) tyOk mixed (fun args w => Try.call10 args w) Try.func10 rfl (by kernel_rfl) (Nat.le_of_ble_eq_true rfl) (⟨_, rfl⟩) ?_
  refine vc_seqr rfl (iQ 1 (iE 90 [(0, .d (.v (.int .i32 a))), (1, .d (.v (.int .i16 b))), (4, Ba false)] [] ?_))
  refine vc_seq (vc_seqr rfl (iC 35 [] (some 15) (c_awake10) ?_))
  rintro _ rfl
  refine iU .not (.bool true) (some 16) ?_
  refine all_false ((by simp)) ?_
  refine iE 90 [(0, .d (.v (.int .i32 a))), (1, .d (.v (.int .i16 b))), (4, Ba false), (16, Ba false)] [] ?_
  refine iF (vc_skip (seq_n (vc_seqr rfl (iQ 1 (iV 21 3 (.int .i32 a) (some 18) ?_)))))
  intro z18 hz18
  try replace hz18 := hz18.i64 (by omega)
  refine iB .shr 3 (.int .i64 z18) (.int .u64 1) (some 19) ?_
  refine And.intro (by omega) ?_
  intro z19 hz19
  have h19 := shr1 hz19
  refine iQ 1 (iV 59 3 (.int .i16 b) (some 21) ?_)
  intro z21 hz21
  try replace hz21 := hz21.i64 (by omega)
  have h21 : z21 = b := by first | exact hz21 | exact hz21.i64 (by omega)
  have hnA : z19.natAbs ≤ 1073741824 := by omega
  have hmA : z21.natAbs ≤ 32768 := by omega
  have hnE : z19.natAbs < E34 := by unfold E34; omega
  have hmE : z21.natAbs < E34 := by unfold E34; omega
  have hmn : mayN z19 := by unfold mayN; omega
  have hpr := prod_small hnA hmA
  obtain ⟨g1, k1, e1, e2, e3, e4⟩ := mul_int (n := z19) (m := z21) (by omega) (by omega)
  refine iQ 2 (iE 90 [(4, Ba false), (5, Ia z19), (6, Ia z21), (16, Ba false)] [] ?_)
  refine vc_seqr rfl (iQ 2 (iC 26 [Iv z21] (some 25) (c_Int (x := z21) (by omega) (by omega)) ?_))
  rintro _ rfl
  refine iC 36 [Iv z19, .agg [Bv (decide (z21 < 0)), Hw z21.natAbs, Lw z21.natAbs, Iv 0]] (some 26) (c_TimesV (v := z19 * z21) e1 hmn (SpanIs.of (whole_own (by decide)) e2 (by unfold mayN; omega)) hmE (by decide) (by decide)) ?_
  rintro _ rfl
  refine iQ 5 (iE 90 [(4, Ba false), (5, Ia z19), (6, Ia z21), (7, Ia (z19 * z21)), (8, Ba true), (16, Ba false)] [] ?_)
  refine vc_seq (vc_seqr rfl (iQ 1 (iU .not (.bool true) (some 30) ?_)))
  refine all_false ((by simp)) ?_
  refine iQ 4 (iB .mul 3 (.int .i64 z19) (.int .i64 z21) (some 35) ?_)
  intro z35 hz35
  try replace hz35 := hz35.i64 (by omega)
  have h35 : z35 = z19 * z21 := by first | exact hz35 | exact hz35.i64 (by omega)
  refine iB .neq 3 (.int .i64 (z19 * z21)) (.int .i64 z35) (some 36) ?_
  refine all_false ((by rw [Ne, Decidable.not_not, h35])) ?_
  refine iQ 1 (iE 90 [(4, Ba false), (5, Ia z19), (6, Ia z21), (16, Ba false), (37, Ba false)] [] ?_)
  refine iF (vc_skip (seq_n (vc_seqr rfl (iQ 2 (iC 26 [Iv z21] (some 41) (c_Int (x := z21) (by omega) (by omega)) ?_)))))
  rintro _ rfl
  refine iC 37 [Iv z19, .agg [Bv (decide (z21 < 0)), Hw z21.natAbs, Lw z21.natAbs, Iv 0]] (some 42) (c_Over (by omega) (by omega) hmE (by decide) (by decide)) ?_
  rintro _ ⟨z2, ok2, rfl, hT2⟩
  refine iQ 5 (iE 90 [(4, Ba false), (5, Ia z19), (6, Ia z21), (9, Ia z2), (10, Ba ok2), (16, Ba false), (37, Ba false)] [] ?_)
  refine vc_seqr rfl (iQ 2 (iC 40 [Iv z19, Iv z21] (some 48) (dfit_ex (c_Ratio (a := z19) (b := z21) (by omega) (by omega) (by omega) (by omega))) ?_))
  rintro _ ⟨g3, k3, x3, ok3, rfl, hR⟩
  rw [ratT, if_pos ⟨hmn, by unfold mayN; omega⟩] at hR
  refine iQ 6 (iE 90 [(4, Ba false), (5, Ia z19), (6, Ia z21), (9, Ia z2), (10, Ba ok2), (11, .p 11 0), (12, Ba ok3), (16, Ba false), (37, Ba false)] [(11, [Bv g3, Hw k3, Lw k3, Iv x3])] ?_)
  refine vc_seq (vc_seqr rfl (iQ 1 (iB .eql 3 (.int .i64 z21) (.int .i64 0) (some 52) ?_)))
  intro c52 hc52
  refine iE 90 [(4, Ba false), (5, Ia z19), (6, Ia z21), (9, Ia z2), (10, Ba ok2), (11, .p 11 0), (12, Ba ok3), (16, Ba false), (37, Ba false), (52, Ba c52)] [(11, [Bv g3, Hw k3, Lw k3, Iv x3])] ?_
  cases c52
  · replace hc52 := bf hc52
    obtain ⟨g4, k4, x4, f1, f2⟩ := over_int (n := z19) (m := z21) (by omega) (by omega) hc52
    have hS := hT2.yes hmn (by rw [f1])
    rw [f1] at hS
    obtain ⟨q1, q2⟩ := hS.fn f2
    obtain ⟨q3, q4, q5, q6⟩ := T4.inj4 (hR.symm.trans f1)
    refine iF (vc_skip (seq_n (vc_seqr rfl (iQ 1 (iC 26 [Iv z19] (some 65) (c_Int (x := z19) (by omega) (by omega)) ?_)))))
    rintro _ rfl
    refine iQ 1 (iC 26 [Iv z21] (some 67) (c_Int (x := z21) (by omega) (by omega)) ?_)
    rintro _ rfl
    refine iC 28 [.agg [Bv (decide (z19 < 0)), Hw z19.natAbs, Lw z19.natAbs, Iv 0], .agg [Bv (decide (z21 < 0)), Hw z21.natAbs, Lw z21.natAbs, Iv 0]] (some 68) (fit_as (c_qDiv hnE hmE (by decide) (by decide) (by decide) (by decide)) f1) ?_
    rintro _ rfl
    have hok2 := tru q2
    refine iQ 6 (iE 90 [(4, Ba false), (5, Ia z19), (6, Ia z21), (9, Ia z2), (10, Ba ok2), (11, .p 11 0), (12, Ba ok3), (13, .p 13 0), (14, Ba true), (16, Ba false), (37, Ba false), (52, Ba false)] [(11, [Bv g3, Hw k3, Lw k3, Iv x3]), (13, [Bv g4, Hw k4, Lw k4, Iv x4])] ?_)
    refine vc_seqr rfl (iQ 2 ?_)
    obtain rfl : ok2 = true := hok2.2 (trivial)
    refine iQ 3 (iB .quo 3 (.int .i64 z19) (.int .i64 z21) (some 76) ?_)
    refine And.intro (hc52) ?_
    intro z76 hz76
    have h76 := hz76.i64 (by have := tdiv_small z19 z21; omega)
    refine iB .eql 3 (.int .i64 z2) (.int .i64 z76) (some 77) ?_
    refine all_true ((by rw [q1, h76])) ?_
    have hok3 := tru q6
    refine iQ 5 ?_
    obtain rfl : ok3 = true := hok3.2 (trivial)
    refine iQ 5 (iB .eql 28 (.agg #[.bool g3, .int .u64 (hiW (k3)), .int .u64 (loW (k3)), .int .i64 x3]) (.agg #[.bool g4, .int .u64 (hiW (k4)), .int .u64 (loW (k4)), .int .i64 x4]) (some 88) ?_)
    intro c88 hc88
    try simp only [Array.mk.injEq, List.cons.injEq, Value.int.injEq, Value.bool.injEq, Value.string.injEq, true_and, and_true] at hc88
    refine iQ 2 (iE 90 [(4, Ba c88), (5, Ia z19), (6, Ia z21), (9, Ia z2), (10, Ba true), (11, .p 11 0), (12, Ba true), (13, .p 13 0), (16, Ba false), (37, Ba false), (52, Ba false)] [(11, [Bv g3, Hw k3, Lw k3, Iv x3]), (13, [Bv g4, Hw k4, Lw k4, Iv x4])] ?_)
    refine vc_ret (iR (Bv c88) ?_)
    rw [hc88.2 (dec_and q3 q4 q5)]
  · replace hc52 := bt hc52
    have hno : qDivT (decide (z19 < 0) != decide (z21 < 0)) z19.natAbs z21.natAbs (0 - 0) = (false, 0, 0, false) := by unfold qDivT; rw [if_pos (by omega)]
    obtain ⟨q1, q2⟩ := hT2.no (.inr (by rw [hno]))
    obtain ⟨q3, q4, q5, q6⟩ := T4.inj4 (hR.symm.trans hno)
    refine iT (vc_seqr rfl (iQ 1 (iU .not (.bool ok2) (some 54) ?_)))
    refine all_true (q2) ?_
    refine iQ 2 (iU .not (.bool ok3) (some 57) ?_)
    refine all_true (q6) ?_
    refine iQ 3 (iB .eql 3 (.int .i64 z2) (.int .i64 0) (some 61) ?_)
    intro c61 hc61
    refine iQ 2 (iE 90 [(4, Ba c61), (5, Ia z19), (6, Ia z21), (9, Ia z2), (10, Ba ok2), (11, .p 11 0), (12, Ba ok3), (16, Ba false), (37, Ba false), (52, Ba true)] [(11, [Bv g3, Hw k3, Lw k3, Iv x3])] ?_)
    refine vc_ret (seq_r (iR (Bv c61) ?_))
    rw [hc61.2 q1]

end Go.Proofs.Ytfjcblmmfkgkoaa
