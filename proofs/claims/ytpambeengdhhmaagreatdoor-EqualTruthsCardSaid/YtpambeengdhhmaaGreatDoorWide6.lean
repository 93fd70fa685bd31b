/-
  The contracts of package wide's powers of ten and of its count of digits, for all arguments.
-/
import Derived.Test.YtpambeengdhhmaaGreatDoorWide5
import Derived.Test.YtpambeengdhhmaaGreatDoorDig
namespace Go.Proofs.YtpambeengdhhmaaGreatDoor
open Go.RowKit
set_option linter.unusedVariables false

theorem wide_Ten_no {k : Int} (hk : k < 0 ∨ 38 < k) (w : World) :
    Calls Tryz.prog 148 #[.int .i64 k] w fun e w' => e = .returned (.tuple #[.agg #[.int .u64 0, .int .u64 0], .bool false]) ∧ Below w.heap.size w w' := by
  rcases hk with hk | hk
  · skip
    go_enter Tryz.func148, Tryz.ntmps148
    go_wp2_with fail
    (try simp only [Exit.inBlock, Exit.then])
    refine bodyPost_ret (v := ?_) ?_ rfl ?_
    rotate_left
    · simp only [results, Tryz.results148]
      go_simp
      exact rfl
    exact ⟨rfl, by go_grown⟩
  · have h0 : ¬ k < 0 := by omega
    go_enter Tryz.func148, Tryz.ntmps148
    go_wp2_with fail
    (try simp only [Exit.inBlock, Exit.then])
    refine bodyPost_ret (v := ?_) ?_ rfl ?_
    rotate_left
    · simp only [results, Tryz.results148]
      go_simp
      exact rfl
    exact ⟨rfl, by go_grown⟩

theorem pow10_lt {i : Nat} (h : i ≤ 38) : 10 ^ i < 340282366920938463463374607431768211456 := by
  have h1 : 10 ^ i ≤ 10 ^ 38 := Nat.pow_le_pow_right (by decide) h
  have h2 : 10 ^ 38 < 340282366920938463463374607431768211456 := by decide
  exact Nat.lt_of_le_of_lt h1 h2

set_option maxHeartbeats 800000 in
theorem wide_Ten {k : Int} (h0 : 0 ≤ k) (h1 : k ≤ 38) (w : World) :
    Calls Tryz.prog 148 #[.int .i64 k] w fun e w' => ∃ t1 t0 : Int, e = .returned (.tuple #[.agg #[.int .u64 t1, .int .u64 t0], .bool true]) ∧ IsU t1 t0 (10 ^ k.toNat) ∧ Below w.heap.size w w' := by
  have one : IsU 0 1 (10 ^ 0) := ⟨by omega, by omega, by omega, by omega, by simp⟩
  have ten : IsW (10 : Int) 10 := ⟨by omega, by omega, rfl⟩
  go_enter Tryz.func148, Tryz.ntmps148
  go_wp2_with fail
  refine (wide_Of _ _).mono ?_
  rintro e w1 ⟨rfl, hb_⟩
  have N_b2 : Blk w1 (w.heap.size) #[_, _] := Blk.below (by (repeat' (first | (with_reducible assumption) | (with_reducible refine Blk.new ?_; first | (with_reducible rfl) | (simp; done)) | (with_reducible refine Blk.alloc ?_ _) | (with_reducible refine Blk.drew ?_) | (with_reducible refine Blk.drewN ?_ _) | (with_reducible apply Blk.set2_0) | (with_reducible apply Blk.set2_1) | (with_reducible refine Blk.other ?_ _ ?_; rotate_left; focus (first | omega | (simp; done) | (simp; omega)))))) hb_
  have HB_w1 : Below w.heap.size w w1 := Below.trans (by go_grown) (hb_.mono (by go_size))
  have HZ_w1 : w.heap.size ≤ w1.heap.size := HB_w1.size
  clear hb_
  have K_b2 := N_b2
  clear N_b2
  obtain ⟨c_b2_0, c_b2_1, f_b2, z0_b2, z1_b2, z2_b2, z3_b2, z4_b2⟩ := blk2 K_b2
  go_wp2_with fail
  go_loopw [14] (fun i wr => ∃ (j : Nat) (a1 a0 : Int), (j : Int) ≤ k ∧ i = .int .i64 j ∧ IsU a1 a0 (10 ^ j) ∧ Blk wr w.heap.size #[.int .u64 0, .int .u64 0] ∧ Blk wr w1.heap.size #[.int .u64 a1, .int .u64 a0] ∧ Below w.heap.size w wr) (fun i _ => (k - intOf i).toNat)
  case atStart => exact ⟨0, 0, 1, by omega, rfl, one, (by (repeat' (first | (with_reducible assumption) | (with_reducible refine Blk.new ?_; first | (with_reducible rfl) | (simp; done)) | (with_reducible refine Blk.alloc ?_ _) | (with_reducible refine Blk.drew ?_) | (with_reducible refine Blk.drewN ?_ _) | (with_reducible apply Blk.set2_0) | (with_reducible apply Blk.set2_1) | (with_reducible refine Blk.other ?_ _ ?_; rotate_left; focus (first | omega | (simp; done) | (simp; omega)))))), (by (repeat' (first | (with_reducible assumption) | (with_reducible refine Blk.new ?_; first | (with_reducible rfl) | (simp; done)) | (with_reducible refine Blk.alloc ?_ _) | (with_reducible refine Blk.drew ?_) | (with_reducible refine Blk.drewN ?_ _) | (with_reducible apply Blk.set2_0) | (with_reducible apply Blk.set2_1) | (with_reducible refine Blk.other ?_ _ ?_; rotate_left; focus (first | omega | (simp; done) | (simp; omega)))))), by go_grown⟩
  case round =>
    clear c_b2_0 c_b2_1 f_b2 z1_b2 z2_b2 z3_b2 z4_b2 K_b2
    obtain ⟨j, a1, a0, hj, rfl, ua, K_b2, K_b4, HB_wr⟩ := hrel
    have HZ_wr := HB_wr.size
    have hne : w.heap.size ≠ w1.heap.size := by omega
    have hne' : w1.heap.size ≠ w.heap.size := by omega
    obtain ⟨c_b2_0, c_b2_1, f_b2, z0_b2, z1_b2, z2_b2, z3_b2, z4_b2⟩ := blk2 K_b2
    obtain ⟨c_b4_0, c_b4_1, f_b4, z0_b4, z1_b4, z2_b4, z3_b4, z4_b4⟩ := blk2 K_b4
    by_cases hlt : (j : Int) < k
    · go_wp2_with fail
      refine (wide_MulWord ua ten _).mono ?_
      rintro e w2 ⟨o, r1, r0, rfl, ur, _, hb_⟩
      have N_b2 : Blk w2 (w.heap.size) #[_, _] := Blk.below (by (repeat' (first | (with_reducible assumption) | (with_reducible refine Blk.new ?_; first | (with_reducible rfl) | (simp; done)) | (with_reducible refine Blk.alloc ?_ _) | (with_reducible refine Blk.drew ?_) | (with_reducible refine Blk.drewN ?_ _) | (with_reducible apply Blk.set2_0) | (with_reducible apply Blk.set2_1) | (with_reducible refine Blk.other ?_ _ ?_; rotate_left; focus (first | omega | (simp; done) | (simp; omega)))))) hb_
      have N_b4 : Blk w2 (w1.heap.size) #[_, _] := Blk.below (by (repeat' (first | (with_reducible assumption) | (with_reducible refine Blk.new ?_; first | (with_reducible rfl) | (simp; done)) | (with_reducible refine Blk.alloc ?_ _) | (with_reducible refine Blk.drew ?_) | (with_reducible refine Blk.drewN ?_ _) | (with_reducible apply Blk.set2_0) | (with_reducible apply Blk.set2_1) | (with_reducible refine Blk.other ?_ _ ?_; rotate_left; focus (first | omega | (simp; done) | (simp; omega)))))) hb_
      have HB_w2 : Below w.heap.size w w2 := Below.trans (by go_grown) (hb_.mono (by go_size))
      have HZ_w2 : w.heap.size ≤ w2.heap.size := HB_w2.size
      clear hb_
      clear c_b2_0 c_b2_1 f_b2 z1_b2 z2_b2 z3_b2 z4_b2 c_b4_0 c_b4_1 f_b4 z1_b4 z2_b4 z3_b4 z4_b4 K_b2 K_b4
      have K_b2 := N_b2
      clear N_b2
      have K_b4 := N_b4
      clear N_b4
      obtain ⟨c_b2_0, c_b2_1, f_b2, z0_b2, z1_b2, z2_b2, z3_b2, z4_b2⟩ := blk2 K_b2
      obtain ⟨c_b4_0, c_b4_1, f_b4, z0_b4, z1_b4, z2_b4, z3_b4, z4_b4⟩ := blk2 K_b4
      go_wp2_with fail
      go_roundw
      case rel =>
        refine ⟨j + 1, _, _, by omega, by go_num, ur.cast ?_, (by (repeat' (first | (with_reducible assumption) | (with_reducible refine Blk.new ?_; first | (with_reducible rfl) | (simp; done)) | (with_reducible refine Blk.alloc ?_ _) | (with_reducible refine Blk.drew ?_) | (with_reducible refine Blk.drewN ?_ _) | (with_reducible apply Blk.set2_0) | (with_reducible apply Blk.set2_1) | (with_reducible refine Blk.other ?_ _ ?_; rotate_left; focus (first | omega | (simp; done) | (simp; omega)))))), (by (repeat' (first | (with_reducible assumption) | (with_reducible refine Blk.new ?_; first | (with_reducible rfl) | (simp; done)) | (with_reducible refine Blk.alloc ?_ _) | (with_reducible refine Blk.drew ?_) | (with_reducible refine Blk.drewN ?_ _) | (with_reducible apply Blk.set2_0) | (with_reducible apply Blk.set2_1) | (with_reducible refine Blk.other ?_ _ ?_; rotate_left; focus (first | omega | (simp; done) | (simp; omega)))))), by go_grown⟩
        rw [← Nat.pow_succ]
        exact Nat.mod_eq_of_lt (pow10_lt (by omega))
      case measure => simp [intOf]; omega
    · go_wp2_with fail
      (try simp only [Exit.inBlock, Exit.then])
      refine bodyPost_ret (v := ?_) ?_ rfl ?_
      rotate_left
      · simp only [results, Tryz.results148]
        go_simp
        exact rfl
      exact ⟨_, _, rfl, ua.cast (by congr 1; omega), by go_grown⟩

end Go.Proofs.YtpambeengdhhmaaGreatDoor
