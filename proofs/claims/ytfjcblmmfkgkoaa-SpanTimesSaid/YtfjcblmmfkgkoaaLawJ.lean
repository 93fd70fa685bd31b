/-
  casuistlaw04: of, awake; what the reference cuts; the laws of round that ask the reference.
-/
import Derived.Test.YtfjcblmmfkgkoaaRndA
namespace Go.Proofs.Ytfjcblmmfkgkoaa
open Go.RowKit
set_option linter.unusedVariables false
set_option linter.unusedSimpArgs false
set_option maxRecDepth 100000

set_option maxHeartbeats 1600000 in
theorem c_rCutNeg {m e X : Int} {neg : Bool} {N : Nat} (hN : nd N ≤ 100000) (hX : X < 0) (he0 : -1000000000000000000 ≤ e) (he1 : e ≤ 1000000000000000000) : HasC Try.prog 18 [.agg [.v (.bool neg), .sl (nd (N)) (dg (digs (N))), .v (.int .i64 e)], .v (.bool false), .v (.int .i64 X), .v (.int .i64 m)] (fun y => y = dRD neg N e) := by
  refine HasC.of [] (fn := Try.f18) tyOk mixed (fun args w => Try.call18 args w) Try.func18 rfl (by kernel_rfl) (Nat.le_of_ble_eq_true rfl) (⟨_, rfl⟩) ?_
  refine vc_seqr rfl (iQ 2 (iE 52 [(1, Ba false), (2, Ia X), (3, Ia m), (4, .p 4 0), (8, .p 8 0)] [(4, [Bv neg, .sl (nd (N)) (dg (digs (N))), Iv e]), (8, [Bv false, .sl 0 [], Iv 0])] ?_))
  refine vc_seq (vc_seqr rfl (iQ 1 (iB .lss 3 (.int .i64 X) (.int .i64 0) (some 13) ?_)))
  intro c13 hc13
  refine iE 52 [(1, Ba false), (2, Ia X), (3, Ia m), (4, .p 4 0), (8, .p 8 0), (13, Ba c13)] [(4, [Bv neg, .sl (nd (N)) (dg (digs (N))), Iv e]), (8, [Bv false, .sl 0 [], Iv 0])] ?_
  obtain rfl : c13 = true := hc13.2 (hX)
  refine iT (vc_reg rfl (iQ 1 (iE 52 [(1, Ba false), (2, Ia 0), (3, Ia m), (4, .p 4 0), (8, .p 8 0), (13, Ba true)] [(4, [Bv neg, .sl (nd (N)) (dg (digs (N))), Iv e]), (8, [Bv false, .sl 0 [], Iv 0])] ?_)))
  refine seq_n (vc_seqr rfl (iQ 2 (iE 52 [(1, Ba false), (2, Ia 0), (3, Ia m), (4, .p 4 0), (8, .p 8 0), (9, Ia 0), (13, Ba true)] [(4, [Bv neg, .sl (nd (N)) (dg (digs (N))), Iv e]), (8, [Bv false, .sl 0 [], Iv 0])] ?_)))
  refine vc_mid 52 (fun (vcx : Nat × Bool) => match vcx with | (k, vb19) => [(1, Ba false), (2, Ia 0), (3, Ia m), (4, .p 4 0), (8, .p 8 0), (9, Ia ((k : Int))), (13, Ba true), (19, Ba vb19)]) (fun (vcx : Nat × Bool) => match vcx with | (k, vb19) => [(4, [Bv neg, .sl (nd (N)) (dg (digs (N))), Iv e]), (8, [Bv false, .sl 0 [], Iv 0])]) (fun (vcx : Nat × Bool) => match vcx with | (k, vb19) => k = min 0 (nd N)) ?_ ?_
  · rintro ⟨k, vb19⟩ hinv
    simp only at hinv
    have hlen : (digs N).length = nd N := rfl
    refine vc_seqr rfl (iQ 3 (vcI_sl (l := ((k : Int))) (u := (((nd (N) : Nat) : Int))) (n := (nd (N))) (cs := (dg (digs (N)))) (z := 1) (m := (((digs N).drop k).length)) (ds := (dg ((digs N).drop k))) (dst := (some 26)) (by kernel_rfl) (by omega) (by rw [List.length_drop]; omega) (part_drop rfl (by omega)) ?_))
    refine iC 62 [.sl (((digs N).drop k).length) (dg ((digs N).drop k))] (some 27) (c_TrimDrop (N := N) (n := 0) hinv (by omega)) ?_
    rintro _ rfl
    refine iQ 1 (iE 52 [(1, Ba false), (2, Ia 0), (3, Ia m), (4, .p 4 0), (8, .p 8 0), (9, Ia ((k : Int))), (10, .d (.sl (nd (N / 10 ^ 0)) (dg (digs (N / 10 ^ 0))))), (13, Ba true), (19, Ba vb19)] [(4, [Bv neg, .sl (nd (N)) (dg (digs (N))), Iv e]), (8, [Bv false, .sl 0 [], Iv 0])] ?_)
    refine vc_seqr rfl (iQ 3 (vcI_sl (l := 0) (u := ((k : Int))) (n := (nd (N))) (cs := (dg (digs (N)))) (z := 1) (m := (((digs N).take k).length)) (ds := (dg ((digs N).take k))) (dst := (some 31)) (by kernel_rfl) (by omega) (by rw [List.length_take]; omega) (part_take (by omega)) ?_))
    refine iC 62 [.sl (((digs N).take k).length) (dg ((digs N).take k))] (some 32) (c_TrimTake (N := N) (n := 0) hinv (by omega)) ?_
    rintro _ rfl
    have hq1 : nd (N / 10 ^ 0) ≤ 100000 := Nat.le_trans (nd_mono (Nat.div_le_self _ _)) hN
    have hq2 : nd (N % 10 ^ 0) ≤ 100000 := Nat.le_trans (nd_mono (Nat.mod_le _ _)) hN
    refine iQ 1 (iE 52 [(1, Ba false), (2, Ia 0), (3, Ia m), (4, .p 4 0), (8, .p 8 0), (9, Ia ((k : Int))), (10, .d (.sl (nd (N / 10 ^ 0)) (dg (digs (N / 10 ^ 0))))), (11, .d (.sl (nd (N % 10 ^ 0)) (dg (digs (N % 10 ^ 0))))), (13, Ba true), (19, Ba vb19)] [(4, [Bv neg, .sl (nd (N)) (dg (digs (N))), Iv e]), (8, [Bv false, .sl 0 [], Iv 0])] ?_)
    refine vc_seq (vc_seqr rfl (iQ 7 (iC 63 [Iv m, Bv neg, .sl (nd (N / 10 ^ 0)) (dg (digs (N / 10 ^ 0))), .sl (nd (N % 10 ^ 0)) (dg (digs (N % 10 ^ 0))), Iv 0, Bv false] (some 40) (c_rup (m := m) (neg := neg) (more := false) (n := 0) (Nat.mod_lt _ (Nat.pow_pos (show 0 < 10 by decide))) (by decide) (by omega) (by omega)) ?_)))
    rintro _ ⟨u, rfl, hu⟩
    rw [lastD_mod] at hu
    have hu' : upB m neg N false 0 = u := upB_eq (h := 0) (l := N / 10 ^ 0) (by simp) rfl (by simp [restP]) (by simp) hu
    have hu2 : u = false := by have h0 := cutQ_0 m neg N; unfold cutQ at h0; rw [hu', Nat.pow_zero, Nat.div_one] at h0; cases u with | false => rfl | true => exact absurd h0 (by simp)
    refine iE 52 [(2, Ia 0), (4, .p 4 0), (8, .p 8 0), (9, Ia ((k : Int))), (10, .d (.sl (nd (N / 10 ^ 0)) (dg (digs (N / 10 ^ 0))))), (13, Ba true), (19, Ba vb19), (40, Ba u)] [(4, [Bv neg, .sl (nd (N)) (dg (digs (N))), Iv e]), (8, [Bv false, .sl 0 [], Iv 0])] ?_
    cases u
    · replace hu := bf hu
      refine iF (vc_skip (seq_n (vc_seqr rfl (iQ 6 (iB .add 3 (.int .i64 e) (.int .i64 0) (some 50) ?_)))))
      intro z50 hz50
      try replace hz50 := hz50.i64 (by omega)
      refine iQ 2 (iE 52 [(2, Ia 0), (4, .p 4 0), (8, .p 8 0), (9, Ia ((k : Int))), (10, .d (.sl (nd (N / 10 ^ 0)) (dg (digs (N / 10 ^ 0))))), (13, Ba true), (19, Ba vb19), (40, Ba false)] [(4, [Bv neg, .sl (nd (N)) (dg (digs (N))), Iv e]), (8, [Bv neg, .sl (nd (N / 10 ^ 0)) (dg (digs (N / 10 ^ 0))), Iv z50])] ?_)
      refine vc_ret (iR (.agg [Bv neg, .sl (nd (N / 10 ^ 0)) (dg (digs (N / 10 ^ 0))), Iv z50]) ?_)
      rw [show N / 10 ^ 0 = N by rw [Nat.pow_zero, Nat.div_one], show z50 = e by omega]; rfl
    · replace hu := bt hu
      cases hu2
  intro hmid
  refine vc_seqr rfl (iQ 4 (iB .gtr 3 (.int .i64 0) (.int .i64 (((nd (N) : Nat) : Int))) (some 19) ?_))
  intro c19 hc19
  refine iE 52 [(1, Ba false), (2, Ia 0), (3, Ia m), (4, .p 4 0), (8, .p 8 0), (9, Ia 0), (13, Ba true), (19, Ba c19)] [(4, [Bv neg, .sl (nd (N)) (dg (digs (N))), Iv e]), (8, [Bv false, .sl 0 [], Iv 0])] ?_
  cases c19
  · replace hc19 := bf hc19
    refine iF (vc_skip ?_)
    refine mid_n hmid (0, false) (by omega) (by kernel_rfl)
  · replace hc19 := bt hc19
    refine iT (vc_reg rfl (iQ 4 (iE 52 [(1, Ba false), (2, Ia 0), (3, Ia m), (4, .p 4 0), (8, .p 8 0), (9, Ia (((nd (N) : Nat) : Int))), (13, Ba true), (19, Ba true)] [(4, [Bv neg, .sl (nd (N)) (dg (digs (N))), Iv e]), (8, [Bv false, .sl 0 [], Iv 0])] ?_)))
    refine mid_n hmid (nd N, true) (by omega) (by kernel_rfl)
theorem c_rCutN {m e X : Int} {neg : Bool} {N n : Nat} (hX : X.toNat = n) (hN : nd N ≤ 100000) (hX1 : X ≤ 80000) (he0 : -1000000000000000000 ≤ e) (he1 : e ≤ 1000000000000000000) :
    HasC Try.prog 18 [dRD neg N e, .v (.bool false), .v (.int .i64 X), .v (.int .i64 m)] (fun y => y = dRD neg (cutQ m neg N false n) (e + (n : Int))) := by
  subst hX
  by_cases h : X < 0
  · rw [show X.toNat = 0 by omega, cutQ_0, show e + ((0 : Nat) : Int) = e by omega]
    exact c_rCutNeg hN h he0 he1
  · obtain ⟨n, rfl⟩ := Int.eq_ofNat_of_zero_le (Int.not_lt.1 h)
    exact c_rCut hN (by omega) he0 he1
theorem c_LikeE {g g' : Bool} {n n' : Nat} {e e' : Int} (h1 : g' = g) (h2 : n' = n) (h3 : e' = e) (hn : n < B128) : HasC Try.prog 20 [dDec g n e, dRD g' n' e'] (fun y => y = .v (.bool true)) := by
  subst h1 h2 h3
  exact c_LikeT hn
theorem c_IntV {x : Int} {s : Bool} {n : Nat} (hs : decide (x < 0) = s) (hn : x.natAbs = n) (h0 : -9223372036854775808 ≤ x) (h1 : x ≤ 9223372036854775807) : HasC Try.prog 26 [.v (.int .i64 x)] (fun y => y = dDec s n 0) := by
  subst hs hn
  exact c_Int h0 h1

theorem c_Of04 {n : Nat} {z e : Int} (hz : z = (n : Int)) (hn : n < 18446744073709551616) : HasC Try.prog 53 [.v (.int .u64 z), .v (.int .i64 e)] (fun y => y = dDec false n e) := by
  refine HasC.of [] (fn := Try.f53) tyOk mixed (fun args w => Try.call53 args w) Try.func53 rfl (by kernel_rfl) (Nat.le_of_ble_eq_true rfl) (⟨_, rfl⟩) ?_
  refine vc_seqr rfl (iQ 1 (iE 9 [(0, .d (Uv z)), (1, Ia e), (4, .p 4 0)] [(4, [Bv false, Uv 0, Uv 0, Iv 0])] ?_))
  refine vc_seqr rfl (iQ 1 (iC 74 [Uv z] (some 6) (cw_OfI hz hn) ?_))
  rintro _ rfl
  refine iQ 3 (iE 9 [(4, .p 4 0)] [(4, [Bv false, Hw n, Lw n, Iv e])] ?_)
  refine vc_ret (iR (.agg [Bv false, Hw n, Lw n, Iv e]) ?_)
  rfl

theorem scale_2345 : scaleT 1 false 2345 (-3) 2 = (false, 234, -2, true) := by
  have hu : upB 1 false 2345 false 1 = false := by
    rw [← Bool.not_eq_true, upB_iff]
    have hL : lastD 2345 1 = 5 := by decide
    rw [hL]
    unfold UpP
    simp [restP]
  have hc : cutQ 1 false 2345 false (-(2 : Int) - -3).toNat = 234 := by
    show 2345 / 10 ^ 1 + (upB 1 false 2345 false 1).toNat = 234
    rw [hu]
    decide
  rw [scale_cut (by decide) (by decide) hc]
  rfl
theorem scale_15 : scaleT 4 false 15 (-1) 3 = (false, 1500, -3, true) := scale_up (by decide) (by decide) (by decide)
theorem cut_low {s : Bool} {N : Nat} (h : s = false ∨ N % 10 ^ 1 = 0) : cutQ 6 s N false 1 = N / 10 ^ 1 := by
  have hu : upB 6 s N false 1 = false := by
    rw [← Bool.not_eq_true, up_floor]
    rintro ⟨h1, h2 | h2⟩
    · rcases h with h | h
      · rw [h] at h1; cases h1
      · exact h2 h
    · cases h2
  unfold cutQ
  rw [hu]
  rfl
theorem floor_m15 : wholeT 6 true 15 (-1) = (true, 2, 0) := by
  have hu : upB 6 true 15 false 1 = true := up_floor.2 ⟨rfl, .inl (by decide)⟩
  have hc : cutQ 6 true 15 false (-(-1 : Int)).toNat = 2 := by
    show 15 / 10 ^ 1 + (upB 6 true 15 false 1).toNat = 2
    rw [hu]
    decide
  rw [whole_low (by decide) hc]
  rfl
theorem floor_20 : wholeT 6 false 20 (-1) = (false, 2, 0) := by
  rw [whole_low (by decide) (show cutQ 6 false 20 false (-(-1 : Int)).toNat = 2 from cut_low (.inl rfl))]
  rfl
theorem floor_15 : wholeT 6 false 15 (-1) = (false, 1, 0) := by
  rw [whole_low (by decide) (show cutQ 6 false 15 false (-(-1 : Int)).toNat = 1 from cut_low (.inl rfl))]
  rfl
theorem even_20 : parP false 20 (-1) 0 (wholeT 6 false 20 (-1)) := by
  rw [floor_20]
  exact ⟨by decide, .inr ⟨by decide, by decide⟩⟩
theorem odd_15 : ¬ parP false 15 (-1) 1 (wholeT 6 false 15 (-1)) := by
  rw [floor_15]
  exact fun h => absurd h.1 (by decide)

/-- Whole numbers by whole numbers. -/
theorem sgnV_abs' (x : Int) : sgnV (decide (x < 0)) x.natAbs = x := by
  unfold sgnV
  split
  · rename_i h
    have : x < 0 := by simpa using h
    omega
  · rename_i h
    have : ¬ x < 0 := by simpa using h
    omega
theorem sgnV_mul2 (t g : Bool) (b k : Nat) : sgnV (t != g) (b * k) = sgnV t b * sgnV g k := by
  cases t <;> cases g
  · show ((b * k : Nat) : Int) = (b : Int) * (k : Int)
    rw [Int.natCast_mul]
  · show -((b * k : Nat) : Int) = (b : Int) * -(k : Int)
    rw [Int.natCast_mul, Int.mul_neg]
  · show -((b * k : Nat) : Int) = -(b : Int) * (k : Int)
    rw [Int.natCast_mul, Int.neg_mul]
  · show ((b * k : Nat) : Int) = -(b : Int) * -(k : Int)
    rw [Int.natCast_mul, Int.neg_mul_neg]
theorem fdiv_sign {x y : Int} : Int.fdiv (sgnV (decide (x < 0) != decide (y < 0)) x.natAbs) (y.natAbs : Int) = Int.fdiv x y := by
  by_cases hy : y < 0
  · have e : sgnV (decide (x < 0) != decide (y < 0)) x.natAbs = -x := by
      have h1 := sgnV_abs' x
      have h2 := sgnV_turn (decide (x < 0)) x.natAbs
      have e1 : (decide (x < 0) != decide (y < 0)) = !decide (x < 0) := by simp [hy]
      rw [e1, h2, h1]
    rw [e, show (y.natAbs : Int) = -y by omega, Int.neg_fdiv_neg]
  · have e1 : (decide (x < 0) != decide (y < 0)) = decide (x < 0) := by simp [hy]
    rw [e1, sgnV_abs', show (y.natAbs : Int) = y by omega]
theorem mod_int {x y : Int} (hx : x.natAbs < 10000000000) (hy : y.natAbs < 10000000000) (hy0 : y ≠ 0) :
    ∃ g k, modT (decide (x < 0)) x.natAbs 0 (decide (y < 0)) y.natAbs 0 = (g, k, 0, true) ∧ sgnV g k = Int.fmod x y ∧ k < E34 := by
  obtain ⟨d, hd⟩ : ∃ d, qDivT (decide (x < 0) != decide (y < 0)) x.natAbs y.natAbs (0 - 0) = d := ⟨_, rfl⟩
  obtain ⟨g, k, z, ok⟩ := d
  by_cases hs : x.natAbs = 0
  · have hx0 : x = 0 := by omega
    subst hx0
    have hd' : qDivT (decide ((0 : Int) < 0) != decide (y < 0)) 0 y.natAbs (0 - 0) = (false, 0, 0, true) := qdiv_zero (by omega) (by decide) (by decide)
    have hm : mulT (decide (y < 0), y.natAbs, 0, true) (false, 0, 0, true) = (false, 0, 0, true) := by
      show fitT 1 _ (y.natAbs * 0) (0 + 0) false = _
      rw [Nat.mul_zero]
      exact fitT_zero (by decide) (by decide)
    refine ⟨false, 0, ?_, by rw [Int.zero_fmod]; rfl, by decide⟩
    show modT _ 0 0 _ _ 0 = _
    rw [mod_yes hd' (whole_own (by decide)) hm, modM_yes]
    exact add_neg (s := false) (a := 0) (fun _ => rfl) (by decide) (by decide)
  have hsx : x.natAbs = 0 → (decide (x < 0) != decide (y < 0)) = false := fun h => absurd h hs
  have hq := hd
  rw [show (0 : Int) - 0 = 0 from rfl] at hq
  obtain ⟨r1, _⟩ := quot_int hx hy hsx (by omega) hq
  obtain ⟨g1, k1, e1, e2, e3, e4⟩ := quot_floor hx hy hsx (by omega) hq
  rw [fdiv_sign] at e3
  have hkE : y.natAbs * k1 < E34 := Nat.lt_of_lt_of_le (Nat.mul_lt_mul'' hy (Nat.lt_succ_of_le e2)) (by decide)
  have hm : ∃ g2, mulT (decide (y < 0), y.natAbs, 0, true) (g1, k1, 0, true) = (g2, y.natAbs * k1, 0, true) ∧ sgnV g2 (y.natAbs * k1) = y * Int.fdiv x y := by
    have hf : mulT (decide (y < 0), y.natAbs, 0, true) (g1, k1, 0, true) = (if y.natAbs * k1 = 0 then false else (decide (y < 0) != g1), y.natAbs * k1, 0, true) := fitT_own hkE (show (-6176 : Int) ≤ 0 + 0 by decide) (show (0 : Int) + 0 ≤ 6111 by decide)
    refine ⟨_, hf, ?_⟩
    have hsg : ∀ u : Bool, sgnV (if y.natAbs * k1 = 0 then false else u) (y.natAbs * k1) = sgnV u (y.natAbs * k1) := fun u => by
      split
      · rename_i h; rw [h, sgnV_0, sgnV_0]
      · rfl
    rw [hsg, ← e3]
    have hyy := sgnV_abs' y
    rw [sgnV_mul2, hyy]
  obtain ⟨g2, hm1, hm2⟩ := hm
  rw [r1] at hd
  have hY := mod_yes (a := x.natAbs) (x := 0) hd e1 hm1
  have hle : y.natAbs * k1 + x.natAbs < E34 := by
    have : y.natAbs * k1 ≤ 10000000000 * 10000000000 := Nat.mul_le_mul (Nat.le_of_lt hy) e2
    unfold E34
    omega
  obtain ⟨g3, k3, f1, f2, f3, _⟩ := add_int (s := decide (x < 0)) (t := !g2 && decide (y.natAbs * k1 ≠ 0)) (A := x.natAbs) (B := y.natAbs * k1) (by omega)
  refine ⟨g3, k3, by rw [hY, modM_yes, f1], ?_, f3⟩
  rw [f2, sgnV_abs', sgnV_sgn, sgnV_turn, hm2, Int.fmod_def]
  omega
theorem mod_12 : modT true 12 0 false 5 0 = (false, 3, 0, true) := by
  obtain ⟨g, k, h1, h2, h3⟩ := mod_int (x := -12) (y := 5) (by decide) (by decide) (by decide)
  have h1' : modT true 12 0 false 5 0 = (g, k, 0, true) := h1
  have h2' : sgnV g k = 3 := h2
  unfold sgnV at h2'
  cases g with
  | true => simp at h2'; omega
  | false =>
    simp at h2'
    rw [h1', show k = 3 by omega]

set_option maxHeartbeats 1600000 in
theorem c_awake04  : HasC Try.prog 14 [] (fun y => y = .v (.bool true)) := by
  refine HasC.of [] (fn := Try.f14) tyOk mixed (fun args w => Try.call14 args w) Try.func14 rfl (by kernel_rfl) (Nat.le_of_ble_eq_true rfl) (⟨_, rfl⟩) ?_
  refine vc_seqr rfl (iQ 1 (iE 61 [(0, Ba false)] [] ?_))
  refine vc_seqr rfl (iC 53 [Uv 2345, Iv (-3)] (some 8) (c_Of04 (n := 2345) rfl (by decide)) ?_)
  rintro _ rfl
  refine iC 16 [.agg [Bv false, Hw 2345, Lw 2345, Iv (-3)], Iv 2, Iv 1] (some 9) (fit_as (c_Scale (m := 1) (by decide) (fun _ ↦ rfl) (by decide) (by decide) (by decide) (by decide)) scale_2345) ?_
  rintro _ rfl
  refine iQ 6 (iE 61 [(0, Ba false), (1, .p 1 0), (2, Ba true)] [(1, [Bv false, Hw 234, Lw 234, Iv (-2)])] ?_)
  refine vc_seqr rfl (iC 53 [Uv 15, Iv (-1)] (some 13) (c_Of04 (n := 15) rfl (by decide)) ?_)
  rintro _ rfl
  refine iC 16 [.agg [Bv false, Hw 15, Lw 15, Iv (-1)], Iv 3, Iv 4] (some 14) (fit_as (c_Scale (m := 4) (by decide) (fun _ ↦ rfl) (by decide) (by decide) (by decide) (by decide)) scale_15) ?_
  rintro _ rfl
  refine iQ 6 (iE 61 [(0, Ba false), (1, .p 1 0), (2, Ba true), (3, .p 3 0), (4, Ba true)] [(1, [Bv false, Hw 234, Lw 234, Iv (-2)]), (3, [Bv false, Hw 1500, Lw 1500, Iv (-3)])] ?_)
  refine vc_seqr rfl (iC 26 [Iv (-12)] (some 18) (c_IntV (s := true) (n := 12) (by decide) (by decide) (by decide) (by decide)) ?_)
  rintro _ rfl
  refine iC 26 [Iv 5] (some 19) (c_IntV (s := false) (n := 5) (by decide) (by decide) (by decide) (by decide)) ?_
  rintro _ rfl
  refine iC 27 [.agg [Bv true, Hw 12, Lw 12, Iv 0], .agg [Bv false, Hw 5, Lw 5, Iv 0]] (some 20) (fit_as (c_Modulo (by decide) (by decide) (by decide) (by decide) (by decide) (by decide)) mod_12) ?_
  rintro _ rfl
  refine iQ 6 (iE 61 [(0, Ba false), (1, .p 1 0), (2, Ba true), (3, .p 3 0), (4, Ba true), (5, .p 5 0), (6, Ba true)] [(1, [Bv false, Hw 234, Lw 234, Iv (-2)]), (3, [Bv false, Hw 1500, Lw 1500, Iv (-3)]), (5, [Bv false, Hw 3, Lw 3, Iv 0])] ?_)
  refine vc_seqr rfl (iQ 3 (iC 53 [Uv 234, Iv (-2)] (some 26) (c_Of04 (n := 234) rfl (by decide)) ?_))
  rintro _ rfl
  refine iB .eql 28 (.agg #[.bool false, .int .u64 (hiW (234)), .int .u64 (loW (234)), .int .i64 (-2)]) (.agg #[.bool false, .int .u64 (hiW (234)), .int .u64 (loW (234)), .int .i64 (-2)]) (some 27) ?_
  refine all_true (rfl) ?_
  refine iQ 6 (iC 53 [Uv 1500, Iv (-3)] (some 34) (c_Of04 (n := 1500) rfl (by decide)) ?_)
  rintro _ rfl
  refine iB .eql 28 (.agg #[.bool false, .int .u64 (hiW (1500)), .int .u64 (loW (1500)), .int .i64 (-3)]) (.agg #[.bool false, .int .u64 (hiW (1500)), .int .u64 (loW (1500)), .int .i64 (-3)]) (some 35) ?_
  refine all_true (rfl) ?_
  refine iQ 2 (iC 53 [Uv 15, Iv (-1)] (some 38) (c_Of04 (n := 15) rfl (by decide)) ?_)
  rintro _ rfl
  refine iC 34 [.agg [Bv false, Hw 15, Lw 15, Iv (-1)]] (some 39) (c_Neg (A := 15) (by decide)) ?_
  rintro _ rfl
  refine iC 30 [.agg [Bv true, Hw 15, Lw 15, Iv (-1)]] (some 40) (fit3_as (c_Floor (by decide) (by decide) (by decide) (by decide)) floor_m15) ?_
  rintro _ rfl
  refine iC 26 [Iv (-2)] (some 41) (c_IntV (s := true) (n := 2) (by decide) (by decide) (by decide) (by decide)) ?_
  rintro _ rfl
  refine iB .eql 28 (.agg #[.bool true, .int .u64 (hiW (2)), .int .u64 (loW (2)), .int .i64 0]) (.agg #[.bool true, .int .u64 (hiW (2)), .int .u64 (loW (2)), .int .i64 0]) (some 42) ?_
  refine all_true (rfl) ?_
  refine iQ 6 (iC 26 [Iv 3] (some 49) (c_IntV (s := false) (n := 3) (by decide) (by decide) (by decide) (by decide)) ?_)
  rintro _ rfl
  refine iB .eql 28 (.agg #[.bool false, .int .u64 (hiW (3)), .int .u64 (loW (3)), .int .i64 0]) (.agg #[.bool false, .int .u64 (hiW (3)), .int .u64 (loW (3)), .int .i64 0]) (some 50) ?_
  refine all_true (rfl) ?_
  refine iQ 2 (iC 53 [Uv 20, Iv (-1)] (some 53) (c_Of04 (n := 20) rfl (by decide)) ?_)
  rintro _ rfl
  refine iC 23 [.agg [Bv false, Hw 20, Lw 20, Iv (-1)]] (some 54) (c_Even (by decide) (fun _ ↦ rfl) (by decide) (by decide)) ?_
  rintro _ ⟨b1, rfl, hb1⟩
  refine iQ 2 ?_
  obtain rfl : b1 = true := hb1.2 (even_20)
  refine iC 53 [Uv 15, Iv (-1)] (some 57) (c_Of04 (n := 15) rfl (by decide)) ?_
  rintro _ rfl
  refine iC 24 [.agg [Bv false, Hw 15, Lw 15, Iv (-1)]] (some 58) (c_Odd (by decide) (fun _ ↦ rfl) (by decide) (by decide)) ?_
  rintro _ ⟨b2, rfl, hb2⟩
  refine iU .not (.bool b2) (some 59) ?_
  intro c59 hc59
  refine iQ 2 (iE 61 [(0, Ba c59), (1, .p 1 0), (3, .p 3 0), (5, .p 5 0)] [(1, [Bv false, Hw 234, Lw 234, Iv (-2)]), (3, [Bv false, Hw 1500, Lw 1500, Iv (-3)]), (5, [Bv false, Hw 3, Lw 3, Iv 0])] ?_)
  refine vc_ret (iR (Bv c59) ?_)
  rw [hc59.2 (bff hb2 odd_15)]

theorem nd_E34 {n : Nat} : n < E34 ↔ nd n ≤ 34 := ⟨fun h => nd_le 34 n h, fun h => Nat.lt_of_lt_of_le (lt_nd n) (Nat.pow_le_pow_right (by decide) h)⟩
theorem none_eq {g : Bool} {k : Nat} {z : Int} (h1 : g = false) (h2 : k = 0) (h3 : z = 0) : (#[Value.bool g, .int .u64 (hiW k), .int .u64 (loW k), .int .i64 z] : Array Value) = #[Value.bool false, .int .u64 0, .int .u64 0, .int .i64 0] := by
  subst h1 h2 h3
  rfl
theorem gt_dec {c : Bool} {Q : Nat} (h : c = true ↔ 0 < ((nd Q : Nat) : Int)) : c = decide (Q ≠ 0) := by
  have h0 := @nd_eq0 Q
  rw [Bool.eq_iff_iff, h, decide_eq_true_eq]
  omega
theorem tm_pos {a z n : Int} (h : z = a.tmod n) (h0 : 0 ≤ a) : z = a % n := by rw [h, Int.tmod_eq_emod_of_nonneg h0]
theorem dec_eq {g g' : Bool} {k k' : Nat} {z z' : Int} (h1 : g = g') (h2 : k = k') (h3 : z = z') : (#[Value.bool g, .int .u64 (hiW k), .int .u64 (loW k), .int .i64 z] : Array Value) = #[Value.bool g', .int .u64 (hiW k'), .int .u64 (loW k'), .int .i64 z'] := by
  subst h1 h2 h3
  rfl
theorem dec_and {g g' : Bool} {k k' : Nat} {z z' : Int} (h1 : g = g') (h2 : k = k') (h3 : z = z') : g = g' ∧ hiW k = hiW k' ∧ loW k = loW k' ∧ z = z' := by
  subst h1 h2 h3
  exact ⟨rfl, rfl, rfl, rfl⟩

end Go.Proofs.Ytfjcblmmfkgkoaa
