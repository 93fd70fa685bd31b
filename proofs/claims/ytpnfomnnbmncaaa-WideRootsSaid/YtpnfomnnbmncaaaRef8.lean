/-
  The contract of casuistref01's Div.
-/
import Derived.Test.YtpnfomnnbmncaaaRef7
import Derived.Deep.DeepMust
import Derived.Deep.DeepCutAuto
namespace Go.Proofs.Ytpnfomnnbmncaaa
open Go.RowKit
set_option linter.unusedVariables false

theorem dval_one (q : Nat) : dval [q] = q := by simp [dval]
theorem nd_ten (o : Nat) : nd (o * 10 ^ (1 : Int).toNat) ≤ nd o + 1 := by
  by_cases h0 : o = 0
  · rw [h0]; simp [nd_zero]
  · rw [nd_pos (show o * 10 ^ (1 : Int).toNat ≠ 0 by simp; omega)]
    have : o * 10 ^ (1 : Int).toNat / 10 = o := by simp
    rw [this]
    exact Nat.le_refl _

set_option maxHeartbeats 6400000 in
set_option maxRecDepth 100000 in
theorem ref_Div {v u : Value} {a b : Nat} {w : World} (hr : Row w v (digs a)) (hs : Row w u (digs b)) (ha : nd a ≤ 40000) (hb0 : 0 < b) :
    Calls Try.prog 23 #[v, u] w fun e w' => ∃ v1 v2, e = .returned (.tuple #[v1, v2]) ∧ Row w' v1 (digs (a / b)) ∧ Row w' v2 (digs (a % b)) ∧ Below w.heap.size w w' := by
  have e2 := nd_def a
  rcases hr.shape with ⟨rfl, hz⟩ | ⟨g, cap, rfl, hc1, hc2, hg, hcell⟩
  · have za : a = 0 := by have h := dval_digs a; rw [hz] at h; simpa [dval] using h.symm
    subst za
    clear e2 hz
    go_enter Try.func23, Try.ntmps23
    go_wp2_with fail
    refine wp_loop_rounds 1 ?_
    rw [rounds_succ]
    go_wp2_with fail
    go_returns
    exact ⟨_, _, rfl, by rw [Nat.zero_div, digs_zero]; exact Row.nil _, by rw [Nat.zero_mod, digs_zero]; exact Row.nil _, Below.refl _ _⟩
  · obtain ⟨L, hL⟩ : ∃ L, L = (digs a).length := ⟨_, rfl⟩
    have l1 : L ≤ 40000 := by omega
    have HCA : Hid (∀ i, i < L → w.cell? ⟨g, i, none⟩ = some (.int .i64 ((dig a i : Nat) : Int))) := fun i hi => by rw [hcell i (by omega), digs_get]
    have top := Lib.hid (show a / 10 ^ L = 0 from div_nd (by omega))
    have ndb := Lib.hid (show nd a ≤ L by omega)
    rw [← hL]
    unfold maxLen at hc2
    clear hcell hr e2 hL
    go_enter Try.func23, Try.ntmps23
    go_wp2_with fail
    go_loopw [6, 7, 8] (fun s6 s7 s8 wr => ∃ (j q r : Nat), j ≤ L ∧ s8 = .int .i64 ((j : Int) - 1) ∧ Row wr s6 (digs q) ∧ Row wr s7 (digs r) ∧ a / 10 ^ j = q * b + r ∧ r < b ∧ Below w.heap.size w wr) (fun _ _ s8 => fun _ => (intOf s8 + 1).toNat)
    case atStart => exact ⟨L, 0, 0, Nat.le_refl _, rfl, by rw [digs_zero]; exact Row.nil _, by rw [digs_zero]; exact Row.nil _, by rw [top.out]; omega, hb0, Below.refl _ _⟩
    case round =>
      obtain ⟨j, q, r, hj, rfl, hq, hrr, eq, hrb, HB_wr⟩ := hrel
      have EQ := Lib.hid eq; clear eq
      have HRB := Lib.hid hrb; clear hrb
      by_cases hj1 : 1 ≤ j
      · have ca := (HB_wr.cell (p := ⟨g, j - 1, none⟩) hg).trans (HCA.out (j - 1) (by omega))
        obtain ⟨d, hd⟩ : ∃ d, d = dig a (j - 1) := ⟨_, rfl⟩
        rw [← hd] at ca
        have d9 : d ≤ 9 := by have := dig_lt a (j - 1); omega
        have hnq : nd q ≤ 40000 := by
          have h1 : q ≤ a := by
            have h2 : q * 1 ≤ q * b := Nat.mul_le_mul_left _ hb0
            have h3 := EQ.out
            have h4 : a / 10 ^ j ≤ a := Nat.div_le_self _ _
            omega
          have := nd_mono h1; omega
        have hnr : nd r ≤ 40000 := by
          have h1 : r ≤ a := by
            have h3 := EQ.out
            have h4 : a / 10 ^ j ≤ a := Nat.div_le_self _ _
            omega
          have := nd_mono h1; omega
        have hnr2 := nd_ten r
        have hnq2 := nd_ten q
        have hnd : nd (dval [d]) ≤ 1 := by rw [dval_one]; exact nd_le _ _ (by omega)
        have eA := Lib.hid (show a / 10 ^ (j - 1) = q * 10 * b + (r * 10 + d) by
          obtain ⟨i, rfl⟩ : ∃ i, j = i + 1 := ⟨j - 1, by omega⟩
          rw [Nat.add_sub_cancel, dig_step a i, EQ.out]
          rw [Nat.add_sub_cancel] at hd
          rw [← hd, Nat.mul_right_comm]
          omega)
        have HD := Lib.hid hd; clear hd
        have jj1 : (0 : Int) ≤ (j : Int) - 1 := by omega
        have jj2 : (j : Int) - 1 < (L : Int) := by omega
        have hgw := Nat.lt_of_lt_of_le hg HB_wr.size
        have hne := Nat.ne_of_gt hgw
        have HZ_wr := HB_wr.size
        have hD1 : ∀ x ∈ [d], x < 10 := by intro x hx; have : x = d := by simpa using hx
                                           omega
        have hD2 : [d].length ≤ 1000000 := by simp
        go_upto_region 5 with fail
        go_cut [7] (fun s7 wx => Row wx s7 (digs (r * 10 + d)) ∧ Row wx u6 (digs q) ∧ Below w.heap.size w wx)
        case first =>
          go_region_held3 (fun w' => w'.cell? ⟨g, j - 1, none⟩ = some (.int .i64 (d : Int))) (go_keep) (first | (go_at_call 33; refine (ref_Shift (a := r) (by first | exact hrr | exact Row.alloc hrr _ | exact Row.drew (Row.alloc hrr _)) (by omega) (by omega) (by omega)).mono ?_; rintro e w1 ⟨v1, rfl, r1, hb1⟩; have qr1 : Row w1 u6 (digs q) := Row.below (by first | exact hq | exact Row.alloc hq _ | exact Row.drew hq | exact Row.drew (Row.alloc hq _)) hb1; have hB1 : Below w.heap.size w w1 := Below.trans (by go_grown) (hb1.mono (by go_size)); have hZ1 := hB1.size; have c1 := (hB1.cell (p := ⟨g, j - 1, none⟩) hg).trans (HCA.out (j - 1) (by omega)); rw [← HD.out] at c1; have g1 := Nat.ne_of_gt (Nat.lt_of_lt_of_le hg hB1.size)) | (go_at_call 44; go_must (refine (ref_Trim (ds := [d]) (by first | exact Row.one _ _ | exact Row.drew (Row.one _ _) | exact (Row.one _ _).below hb1 | exact (Row.drew (Row.one _ _)).below hb1) hD1 hD2).mono ?_; rintro e w2 ⟨v2, rfl, r2, hb2⟩; have qr2 : Row w2 u6 (digs q) := Row.below (by first | exact qr1 | exact Row.alloc qr1 _ | exact Row.drew qr1 | exact Row.drew (Row.alloc qr1 _)) hb2; have hB2 : Below w.heap.size w w2 := Below.trans (by go_grown) (hb2.mono (by go_size)); have hZ2 := hB2.size; have c2 := (hB2.cell (p := ⟨g, j - 1, none⟩) hg).trans (HCA.out (j - 1) (by omega)); rw [← HD.out] at c2; have r12 : Row w2 v1 (digs (r * 10 ^ (1 : Int).toNat)) := Row.below (by first | exact r1 | exact Row.alloc r1 _) hb2)) | (go_at_call 16; refine (ref_Add r12 r2 (by omega) (by omega)).mono ?_; rintro e w3 ⟨v3, rfl, r3, hb3⟩; have qr3 : Row w3 u6 (digs q) := Row.below (by first | exact qr2 | exact Row.alloc qr2 _ | exact Row.drew qr2 | exact Row.drew (Row.alloc qr2 _)) hb3; have hB3 : Below w.heap.size w w3 := Below.trans (by go_grown) (hb3.mono (by go_size)); have hZ3 := hB3.size; have c3 := (hB3.cell (p := ⟨g, j - 1, none⟩) hg).trans (HCA.out (j - 1) (by omega)); rw [← HD.out] at c3))
          all_goals
            go_wp2_with fail
            go_meet
            refine ⟨?_, qr3, hB3⟩
            have e : r * 10 ^ (1 : Int).toNat + dval [d] = r * 10 + d := by rw [dval_one]; simp
            rw [e] at r3
            exact r3
        case rest =>
        obtain ⟨hA, hq2, HB_wc⟩ := hcut
        clear ca hgw hne HZ_wr hq hrr HB_wr jj1 jj2 hD1 hD2
        go_wp2_with fail
        obtain ⟨wo, rfl⟩ : ∃ wo : World, wo = wc := ⟨_, rfl⟩
        have HZ_wo := HB_wc.size
        obtain ⟨A, hAe⟩ : ∃ A, A = r * 10 + d := ⟨_, rfl⟩
        rw [← hAe] at hA
        have hA10 : A < 10 * b := by have := HRB.out; omega
        have HA := Lib.hid hAe; clear hAe
        have HA10 := Lib.hid hA10; clear hA10
        go_loopw [7, 9] (fun s7 s9 wr => ∃ (n rr : Nat), s9 = .int .i64 n ∧ Row wr s7 (digs rr) ∧ Row wr u6 (digs q) ∧ A = n * b + rr ∧ n ≤ 9 ∧ Below w.heap.size w wr) (fun _ s9 => fun _ => (20 - intOf s9).toNat)
        case atStart => exact ⟨0, A, rfl, hA, hq2, by omega, by omega, HB_wc⟩
        case round =>
          obtain ⟨n, rr, rfl, hrr, hq3, eqi, hn9, HB_wr⟩ := hrel
          have EQI := Lib.hid eqi; clear eqi
          have hs3 : Row wr u (digs b) := hs.below HB_wr
          have HZ_wr := HB_wr.size
          by_cases hge : b ≤ rr
          · have hcm : decide (0 ≤ cmpN rr b) = true := by
              unfold cmpN; repeat' split
              all_goals first | rfl | omega
            have hnrr : nd rr ≤ 40001 := by
              have h1 : rr ≤ A := by have := EQI.out; omega
              have h2 := nd_mono h1
              rw [HA.out] at h2
              have h3 : nd (r * 10 + d) ≤ nd r + 1 := by
                apply nd_le
                have := lt_nd r
                rw [Nat.pow_succ]; omega
              omega
            have nx : Hid (A = (n + 1) * b + (rr - b) ∧ n + 1 ≤ 9) := by
              have h1 := EQI.out
              have h2 : (n + 1) * b = n * b + b := by rw [Nat.add_mul, Nat.one_mul]
              refine ⟨by omega, ?_⟩
              rcases Nat.lt_or_ge 9 (n + 1) with h | h
              · have h3 : 10 * b ≤ (n + 1) * b := Nat.mul_le_mul_right _ h
                have := HA10.out; omega
              · exact h
            go_wp2_with fail
            refine (ref_Cmp hrr hs3).mono ?_
            rintro e w4 ⟨rfl, hb4⟩
            have hB4 : Below w.heap.size w w4 := HB_wr.trans (hb4.mono HZ_wr)
            have hrr4 := hrr.below hb4
            have hs4 := hs3.below hb4
            have hq4 := hq3.below hb4
            clear hb4 hrr hs3 hq3
            go_wp2_with fail
            refine (ref_Sub hrr4 hs4 hge (by omega)).mono ?_
            rintro e w5 ⟨v5, rfl, r5, hb5⟩
            have hB5 : Below w.heap.size w w5 := hB4.trans (hb5.mono hB4.size)
            have hq5 := hq4.below hb5
            clear hb5 hq4
            go_wp2_with fail
            go_roundw
            case rel => exact ⟨n + 1, rr - b, by go_num, r5, hq5, nx.out.1, nx.out.2, hB5⟩
            case measure => simp [intOf]; omega
          · have hcm : decide (0 ≤ cmpN rr b) = false := by
              unfold cmpN; repeat' split
              all_goals first | rfl | omega
            have hD3 : ∀ x ∈ [n], x < 10 := by intro x hx; have : x = n := by simpa using hx
                                               omega
            have hD4 : [n].length ≤ 1000000 := by simp
            have hnn : nd (dval [n]) ≤ 1 := by rw [dval_one]; exact nd_le _ _ (by omega)
            go_wp2_with fail
            refine (ref_Cmp hrr hs3).mono ?_
            rintro e w4 ⟨rfl, hb4⟩
            have hB4 : Below w.heap.size w w4 := HB_wr.trans (hb4.mono HZ_wr)
            have hrr4 := hrr.below hb4
            have hq4 := hq3.below hb4
            clear hb4 hrr hs3 hq3
            go_wp2_with fail
            refine (ref_Shift (a := q) hq4 (by omega) (by omega) (by omega)).mono ?_
            rintro e w5 ⟨v5, rfl, r5, hb5⟩
            have hB5 : Below w.heap.size w w5 := hB4.trans (hb5.mono hB4.size)
            have hrr5 := hrr4.below hb5
            have hZ5 := hB5.size
            clear hb5 hrr4 hq4
            go_wp2_with fail
            refine (ref_Trim (ds := [n]) (Row.one _ _) hD3 hD4).mono ?_
            rintro e w6 ⟨v6, rfl, r6, hb6⟩
            have hB6 : Below w.heap.size w w6 := Below.trans (by go_grown) (hb6.mono (by go_size))
            have hrr6 : Row w6 u7 (digs rr) := Row.below (Row.alloc hrr5 _) hb6
            have r56 : Row w6 v5 (digs (q * 10 ^ (1 : Int).toNat)) := Row.below (Row.alloc r5 _) hb6
            have hZ6 := hB6.size
            clear hb6 hrr5 r5
            go_wp2_with fail
            refine (ref_Add r56 r6 (by omega) (by omega)).mono ?_
            rintro e w7 ⟨v7, rfl, r7, hb7⟩
            have hB7 : Below w.heap.size w w7 := hB6.trans (hb7.mono hZ6)
            have hrr7 : Row w7 u7 (digs rr) := hrr6.below hb7
            clear hb7 hrr6
            have eo : q * 10 ^ (1 : Int).toNat + dval [n] = q * 10 + n := by rw [dval_one]; simp
            rw [eo] at r7
            clear eo
            go_wp2_with fail
            go_roundw
            case rel =>
              refine ⟨j - 1, q * 10 + n, rr, by omega, by congr 1; omega, r7, hrr7, ?_, by omega, hB7⟩
              rw [eA.out, ← HA.out, EQI.out, Nat.add_mul]
              omega
            case measure => simp [intOf]; omega
      · obtain rfl : j = 0 := by omega
        have fin := EQ.out
        rw [Nat.pow_zero, Nat.div_one] at fin
        have f1 : a / b = q := by rw [fin, Nat.add_comm, Nat.add_mul_div_right _ _ hb0, Nat.div_eq_of_lt HRB.out]; omega
        have f2 : a % b = r := by rw [fin, Nat.add_comm, Nat.add_mul_mod_self_right, Nat.mod_eq_of_lt HRB.out]
        rw [← f1] at hq
        rw [← f2] at hrr
        clear fin f1 f2
        go_wp2_with fail
        go_returns
        exact ⟨_, _, rfl, hq, hrr, HB_wr⟩

end Go.Proofs.Ytpnfomnnbmncaaa
