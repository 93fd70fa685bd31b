/-
  The contract of casuistref01's Mul.
-/
import Derived.Test.YtpnfomnnbmncaaaRef5
namespace Go.Proofs.Ytpnfomnnbmncaaa
open Go.RowKit
set_option linter.unusedVariables false

theorem nd_mul (a b : Nat) : nd (a * b) ≤ nd a + nd b := by
  apply nd_le
  rw [Nat.pow_add]
  have h1 := lt_nd a
  have h2 := lt_nd b
  exact Nat.mul_lt_mul_of_lt_of_lt h1 h2

set_option maxHeartbeats 3200000 in
set_option maxRecDepth 100000 in
theorem ref_Mul {v u : Value} {a b : Nat} {w : World} (hr : Row w v (digs a)) (hs : Row w u (digs b)) (ha : nd a ≤ 40000) (hb : nd b ≤ 40000) :
    Calls Try.prog 14 #[v, u] w fun e w' => ∃ v', e = .returned v' ∧ Row w' v' (digs (a * b)) ∧ Below w.heap.size w w' := by
  have e2 := nd_def b
  rcases hs.shape with ⟨rfl, hz⟩ | ⟨g, cap, rfl, hc1, hc2, hg, hcell⟩
  · have zb : b = 0 := by have h := dval_digs b; rw [hz] at h; simpa [dval] using h.symm
    subst zb
    clear e2 hz
    go_enter Try.func14, Try.ntmps14
    go_wp2_with fail
    refine wp_loop_rounds 1 ?_
    rw [rounds_succ]
    go_wp2_with fail
    go_returns
    exact ⟨_, rfl, by rw [Nat.mul_zero, digs_zero]; exact Row.nil _, Below.refl _ _⟩
  · obtain ⟨L, hL⟩ : ∃ L, L = (digs b).length := ⟨_, rfl⟩
    have l1 : L ≤ 40000 := by omega
    have HCB : Hid (∀ i, i < L → w.cell? ⟨g, i, none⟩ = some (.int .i64 ((dig b i : Nat) : Int))) := fun i hi => by rw [hcell i (by omega), digs_get]
    have top := Lib.hid (show b / 10 ^ L = 0 from div_nd (by omega))
    rw [← hL]
    unfold maxLen at hc2
    clear hcell hs
    have e2' := Lib.hid e2; have HL := Lib.hid hL; clear e2 hL
    go_enter Try.func14, Try.ntmps14
    go_wp2_with fail
    go_loopw [5, 6] (fun s5 s6 wr => ∃ j : Nat, j ≤ L ∧ s6 = .int .i64 ((j : Int) - 1) ∧ Row wr s5 (digs (a * (b / 10 ^ j))) ∧ Below w.heap.size w wr) (fun _ s6 => fun _ => (intOf s6 + 1).toNat)
    case atStart => exact ⟨L, Nat.le_refl _, rfl, by rw [top.out, Nat.mul_zero, digs_zero]; exact Row.nil _, Below.refl _ _⟩
    case round =>
      obtain ⟨j, hj, rfl, ho, HB_wr⟩ := hrel
      by_cases hj1 : 1 ≤ j
      · have cb := (HB_wr.cell (p := ⟨g, j - 1, none⟩) hg).trans (HCB.out (j - 1) (by omega))
        have hra : Row wr v (digs a) := hr.below HB_wr
        obtain ⟨q, hq⟩ : ∃ q, q = dig b (j - 1) := ⟨_, rfl⟩
        rw [← hq] at cb
        have q9 : (q : Int) ≤ 9 := by have := dig_lt b (j - 1); omega
        have q0 : (0 : Int) ≤ (q : Int) := by omega
        obtain ⟨o, ho1⟩ : ∃ o, o = a * (b / 10 ^ j) := ⟨_, rfl⟩
        rw [← ho1] at ho
        have hno : nd o ≤ 80000 := by
          rw [ho1]
          have h1 := nd_mul a (b / 10 ^ j)
          have h2 : nd (b / 10 ^ j) ≤ nd b := nd_mono (Nat.div_le_self _ _)
          omega
        have hnq : nd (o * 10 ^ (1 : Int).toNat) ≤ 80001 := by
          have h1 := nd_mul o (10 ^ (1 : Int).toNat)
          have h2 : nd (10 ^ (1 : Int).toNat) ≤ 2 := nd_le _ _ (by decide)
          by_cases h0 : o = 0
          · rw [h0]; simp [nd_zero]
          · have : nd (o * 10 ^ (1 : Int).toNat) = nd (o * 10 ^ (1 : Int).toNat / 10) + 1 := nd_pos (by simp; omega)
            rw [this]; simp; omega
        have hns : nd (a * ((q : Nat) : Int).toNat + (0 : Int).toNat) ≤ 40001 := by
          have h1 := nd_mul a q
          have h2 : nd q ≤ 1 := nd_le _ _ (by omega)
          simp; omega
        have ev := Lib.hid (show o * 10 ^ (1 : Int).toNat + (a * ((q : Nat) : Int).toNat + (0 : Int).toNat) = a * (b / 10 ^ (j - 1)) by
          obtain ⟨i, rfl⟩ : ∃ i, j = i + 1 := ⟨j - 1, by omega⟩
          rw [ho1, hq, Nat.add_sub_cancel, dig_step b i, Nat.mul_add]
          simp
          rw [Nat.mul_assoc, Nat.mul_comm (b / 10 ^ (i + 1)) 10]
          omega)
        have HQ := Lib.hid hq; have HO := Lib.hid ho1; clear hq ho1
        have jj1 : (0 : Int) ≤ (j : Int) - 1 := by omega
        have jj2 : (j : Int) - 1 < (L : Int) := by omega
        have hgw := Nat.lt_of_lt_of_le hg HB_wr.size
        go_wp2_with fail
        go_region_held3 (fun w' => w'.cell? ⟨g, j - 1, none⟩ = some (.int .i64 (q : Int))) (go_keep) (first | (go_at_call 33; refine (ref_Shift (a := o) (by exact ho) (by omega) (by omega) (by omega)).mono ?_; rintro e w1 ⟨v1, rfl, r1, hb1⟩; have hB1 : Below w.heap.size w w1 := (HB_wr.drew).trans (hb1.mono HB_wr.size); have c1 := (hB1.cell (p := ⟨g, j - 1, none⟩) hg).trans (HCB.out (j - 1) (by omega)); rw [← HQ.out] at c1; have ra1 : Row w1 v (digs a) := hr.below hB1) | (go_at_call 42; refine (ref_Small ra1 (by omega) (by omega) (by omega) (by omega) (by omega)).mono ?_; rintro e w2 ⟨v2, rfl, r2, hb2⟩; have hB2 : Below w.heap.size w w2 := hB1.trans (hb2.mono hB1.size); have c2 := (hB2.cell (p := ⟨g, j - 1, none⟩) hg).trans (HCB.out (j - 1) (by omega)); rw [← HQ.out] at c2; have r12 := r1.below hb2) | (go_at_call 16; refine (ref_Add r12 r2 (by omega) (by omega)).mono ?_; rintro e w3 ⟨v3, rfl, r3, hb3⟩; have hB3 : Below w.heap.size w w3 := hB2.trans (hb3.mono hB2.size); have c3 := (hB3.cell (p := ⟨g, j - 1, none⟩) hg).trans (HCB.out (j - 1) (by omega)); rw [← HQ.out] at c3))
        rw [ev.out] at r3
        go_wp2_with fail
        go_roundw
        case rel => exact ⟨j - 1, by omega, by congr 1; omega, r3, hB3⟩
        case measure => simp [intOf]; omega
      · obtain rfl : j = 0 := by omega
        rw [Nat.pow_zero, Nat.div_one] at ho
        go_wp2_with fail
        go_returns
        exact ⟨_, rfl, ho, HB_wr⟩

end Go.Proofs.Ytpnfomnnbmncaaa
