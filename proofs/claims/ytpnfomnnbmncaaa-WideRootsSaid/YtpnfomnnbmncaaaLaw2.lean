/-
  The contract of casuistlaw01.awake: the document's examples.
-/
import Derived.Test.YtpnfomnnbmncaaaLaw1
namespace Go.Proofs.Ytpnfomnnbmncaaa
open Go.RowKit
set_option linter.unusedVariables false

theorem IsU.lit {h l : Int} {n : Nat} (u : IsU h l n) {a b : Int} (v : IsU a b n) : h = a ∧ l = b := u.inj v
theorem nd_pow (k : Nat) : nd (10 ^ k) = k + 1 := by
  have h := nd_shift k (10 ^ k) (Nat.le_refl _)
  rw [Nat.div_self (Nat.pow_pos (by decide))] at h
  have h1 : nd 1 = nd (1 / 10) + 1 := nd_pos (show (1 : Nat) ≠ 0 by decide)
  have h2 : nd (1 / 10) = 0 := nd_zero
  omega

theorem digits39 {x1 x0 : Int} (ux : IsU x1 x0 (10 ^ (38 : Int).toNat)) (w : World) :
    Calls Try.prog 39 #[.agg #[.int .u64 0, .int .u64 0], .agg #[.int .u64 x1, .int .u64 x0]] w fun e w' => e = .returned (.int .i64 39) ∧ Below w.heap.size w w' := by
  have h := wide_Digits IsU.zero ux w
  have hnd : nd (0 * 340282366920938463463374607431768211456 + 10 ^ (38 : Int).toNat) = 39 := by rw [Nat.zero_mul, Nat.zero_add]; exact nd_pow 38
  rw [hnd] at h
  exact h

set_option maxHeartbeats 1600000 in
set_option maxRecDepth 100000 in
theorem law_awake (w : World) : Calls Try.prog 9 #[] w fun e w' => e = .returned (.bool true) ∧ Below w.heap.size w w' := by
  have utop : IsU 18446744073709551615 18446744073709551615 340282366920938463463374607431768211455 := ⟨by omega, by omega, by omega, by omega, by omega⟩
  have u1 : IsU 0 1 1 := ⟨by omega, by omega, by omega, by omega, by omega⟩
  have u3 : IsU 0 3 3 := ⟨by omega, by omega, by omega, by omega, by omega⟩
  have u10 : IsU 0 10 10 := ⟨by omega, by omega, by omega, by omega, by omega⟩
  have m1 : IsU 18446744073709551615 18446744073709551614 (340282366920938463463374607431768211455 * 340282366920938463463374607431768211455 / 340282366920938463463374607431768211456) := ⟨by omega, by omega, by omega, by omega, by omega⟩
  have m0 : IsU 0 1 (340282366920938463463374607431768211455 * 340282366920938463463374607431768211455 % 340282366920938463463374607431768211456) := ⟨by omega, by omega, by omega, by omega, by omega⟩
  have d1 : IsU 6148914691236517205 6148914691236517205 ((1 * 340282366920938463463374607431768211456 + 0) / 3) := ⟨by omega, by omega, by omega, by omega, by omega⟩
  have d0 : IsU 0 1 ((1 * 340282366920938463463374607431768211456 + 0) % 3) := ⟨by omega, by omega, by omega, by omega, by omega⟩
  have UT := Lib.hid utop; have U1 := Lib.hid u1; have U3 := Lib.hid u3; have U10 := Lib.hid u10
  have M1 := Lib.hid m1; have M0 := Lib.hid m0; have D1 := Lib.hid d1; have D0 := Lib.hid d0
  clear utop u1 u3 u10 m1 m0 d1 d0
  go_enter Try.func9, Try.ntmps9
  go_wp2_with fail
  refine (wide_Mul UT.out UT.out _).mono ?_
  rintro e w1 ⟨p1, p0, q1, q0, rfl, up, uq, hb_⟩
  have HB_w1 : Below w.heap.size w w1 := Below.trans (by go_grown) (hb_.mono (by go_size))
  have HZ_w1 : w.heap.size ≤ w1.heap.size := HB_w1.size
  clear hb_
  obtain ⟨rfl, rfl⟩ := up.lit M1.out
  obtain ⟨rfl, rfl⟩ := uq.lit M0.out
  clear up uq
  go_wp2_with fail
  refine (wide_Of 1 _).mono ?_
  rintro e w2 ⟨rfl, hb_⟩
  have N_b1 : Blk w2 (w1.heap.size) #[_, _] := Blk.below (by (repeat' (first | (with_reducible assumption) | (with_reducible refine Blk.new ?_; first | (with_reducible rfl) | (simp; done)) | (with_reducible refine Blk.alloc ?_ _) | (with_reducible refine Blk.drew ?_) | (with_reducible refine Blk.drewN ?_ _) | (with_reducible apply Blk.set2_0) | (with_reducible apply Blk.set2_1) | (with_reducible refine Blk.other ?_ _ ?_; rotate_left; focus (first | omega | (simp; done) | (simp; omega)))))) hb_
  have N_b2 : Blk w2 (w1.heap.size + 1) #[_, _] := Blk.below (by (repeat' (first | (with_reducible assumption) | (with_reducible refine Blk.new ?_; first | (with_reducible rfl) | (simp; done)) | (with_reducible refine Blk.alloc ?_ _) | (with_reducible refine Blk.drew ?_) | (with_reducible refine Blk.drewN ?_ _) | (with_reducible apply Blk.set2_0) | (with_reducible apply Blk.set2_1) | (with_reducible refine Blk.other ?_ _ ?_; rotate_left; focus (first | omega | (simp; done) | (simp; omega)))))) hb_
  have HB_w2 : Below w.heap.size w w2 := Below.trans (by go_grown) (hb_.mono (by go_size))
  have HZ_w2 : w.heap.size ≤ w2.heap.size := HB_w2.size
  clear hb_
  have K_b1 := N_b1
  clear N_b1
  have K_b2 := N_b2
  clear N_b2
  obtain ⟨c_b1_0, c_b1_1, f_b1, z0_b1, z1_b1, z2_b1, z3_b1, z4_b1⟩ := blk2 K_b1
  obtain ⟨c_b2_0, c_b2_1, f_b2, z0_b2, z1_b2, z2_b2, z3_b2, z4_b2⟩ := blk2 K_b2
  go_wp2_with fail
  refine (wide_Of 3 _).mono ?_
  rintro e w3 ⟨rfl, hb_⟩
  have N_b1 : Blk w3 (w1.heap.size) #[_, _] := Blk.below (by (repeat' (first | (with_reducible assumption) | (with_reducible refine Blk.new ?_; first | (with_reducible rfl) | (simp; done)) | (with_reducible refine Blk.alloc ?_ _) | (with_reducible refine Blk.drew ?_) | (with_reducible refine Blk.drewN ?_ _) | (with_reducible apply Blk.set2_0) | (with_reducible apply Blk.set2_1) | (with_reducible refine Blk.other ?_ _ ?_; rotate_left; focus (first | omega | (simp; done) | (simp; omega)))))) hb_
  have N_b2 : Blk w3 (w1.heap.size + 1) #[_, _] := Blk.below (by (repeat' (first | (with_reducible assumption) | (with_reducible refine Blk.new ?_; first | (with_reducible rfl) | (simp; done)) | (with_reducible refine Blk.alloc ?_ _) | (with_reducible refine Blk.drew ?_) | (with_reducible refine Blk.drewN ?_ _) | (with_reducible apply Blk.set2_0) | (with_reducible apply Blk.set2_1) | (with_reducible refine Blk.other ?_ _ ?_; rotate_left; focus (first | omega | (simp; done) | (simp; omega)))))) hb_
  have HB_w3 : Below w.heap.size w w3 := Below.trans (by go_grown) (hb_.mono (by go_size))
  have HZ_w3 : w.heap.size ≤ w3.heap.size := HB_w3.size
  clear hb_
  clear c_b1_0 c_b1_1 f_b1 z1_b1 z2_b1 z3_b1 z4_b1 c_b2_0 c_b2_1 f_b2 z1_b2 z2_b2 z3_b2 z4_b2 K_b1 K_b2
  have K_b1 := N_b1
  clear N_b1
  have K_b2 := N_b2
  clear N_b2
  obtain ⟨c_b1_0, c_b1_1, f_b1, z0_b1, z1_b1, z2_b1, z3_b1, z4_b1⟩ := blk2 K_b1
  obtain ⟨c_b2_0, c_b2_1, f_b2, z0_b2, z1_b2, z2_b2, z3_b2, z4_b2⟩ := blk2 K_b2
  go_wp2_with fail
  refine (wide_Div_yes U1.out IsU.zero U3.out (by decide) _).mono ?_
  rintro e w4 ⟨s1, s0, t1, t0, rfl, us, ut, hb_⟩
  have N_b1 : Blk w4 (w1.heap.size) #[_, _] := Blk.below (by (repeat' (first | (with_reducible assumption) | (with_reducible refine Blk.new ?_; first | (with_reducible rfl) | (simp; done)) | (with_reducible refine Blk.alloc ?_ _) | (with_reducible refine Blk.drew ?_) | (with_reducible refine Blk.drewN ?_ _) | (with_reducible apply Blk.set2_0) | (with_reducible apply Blk.set2_1) | (with_reducible refine Blk.other ?_ _ ?_; rotate_left; focus (first | omega | (simp; done) | (simp; omega)))))) hb_
  have N_b2 : Blk w4 (w1.heap.size + 1) #[_, _] := Blk.below (by (repeat' (first | (with_reducible assumption) | (with_reducible refine Blk.new ?_; first | (with_reducible rfl) | (simp; done)) | (with_reducible refine Blk.alloc ?_ _) | (with_reducible refine Blk.drew ?_) | (with_reducible refine Blk.drewN ?_ _) | (with_reducible apply Blk.set2_0) | (with_reducible apply Blk.set2_1) | (with_reducible refine Blk.other ?_ _ ?_; rotate_left; focus (first | omega | (simp; done) | (simp; omega)))))) hb_
  have HB_w4 : Below w.heap.size w w4 := Below.trans (by go_grown) (hb_.mono (by go_size))
  have HZ_w4 : w.heap.size ≤ w4.heap.size := HB_w4.size
  clear hb_
  clear c_b1_0 c_b1_1 f_b1 z1_b1 z2_b1 z3_b1 z4_b1 c_b2_0 c_b2_1 f_b2 z1_b2 z2_b2 z3_b2 z4_b2 K_b1 K_b2
  have K_b1 := N_b1
  clear N_b1
  have K_b2 := N_b2
  clear N_b2
  obtain ⟨c_b1_0, c_b1_1, f_b1, z0_b1, z1_b1, z2_b1, z3_b1, z4_b1⟩ := blk2 K_b1
  obtain ⟨c_b2_0, c_b2_1, f_b2, z0_b2, z1_b2, z2_b2, z3_b2, z4_b2⟩ := blk2 K_b2
  obtain ⟨rfl, rfl⟩ := us.lit D1.out
  obtain ⟨rfl, rfl⟩ := ut.lit D0.out
  clear us ut
  go_wp2_with fail
  refine (wide_Ten (by omega) (by omega) _).mono ?_
  rintro e w5 ⟨x1, x0, rfl, ux, hb_⟩
  have N_b1 : Blk w5 (w1.heap.size) #[_, _] := Blk.below (by (repeat' (first | (with_reducible assumption) | (with_reducible refine Blk.new ?_; first | (with_reducible rfl) | (simp; done)) | (with_reducible refine Blk.alloc ?_ _) | (with_reducible refine Blk.drew ?_) | (with_reducible refine Blk.drewN ?_ _) | (with_reducible apply Blk.set2_0) | (with_reducible apply Blk.set2_1) | (with_reducible refine Blk.other ?_ _ ?_; rotate_left; focus (first | omega | (simp; done) | (simp; omega)))))) hb_
  have N_b2 : Blk w5 (w1.heap.size + 1) #[_, _] := Blk.below (by (repeat' (first | (with_reducible assumption) | (with_reducible refine Blk.new ?_; first | (with_reducible rfl) | (simp; done)) | (with_reducible refine Blk.alloc ?_ _) | (with_reducible refine Blk.drew ?_) | (with_reducible refine Blk.drewN ?_ _) | (with_reducible apply Blk.set2_0) | (with_reducible apply Blk.set2_1) | (with_reducible refine Blk.other ?_ _ ?_; rotate_left; focus (first | omega | (simp; done) | (simp; omega)))))) hb_
  have N_b3 : Blk w5 (w4.heap.size) #[_, _] := Blk.below (by (repeat' (first | (with_reducible assumption) | (with_reducible refine Blk.new ?_; first | (with_reducible rfl) | (simp; done)) | (with_reducible refine Blk.alloc ?_ _) | (with_reducible refine Blk.drew ?_) | (with_reducible refine Blk.drewN ?_ _) | (with_reducible apply Blk.set2_0) | (with_reducible apply Blk.set2_1) | (with_reducible refine Blk.other ?_ _ ?_; rotate_left; focus (first | omega | (simp; done) | (simp; omega)))))) hb_
  have N_b4 : Blk w5 (w4.heap.size + 1) #[_, _] := Blk.below (by (repeat' (first | (with_reducible assumption) | (with_reducible refine Blk.new ?_; first | (with_reducible rfl) | (simp; done)) | (with_reducible refine Blk.alloc ?_ _) | (with_reducible refine Blk.drew ?_) | (with_reducible refine Blk.drewN ?_ _) | (with_reducible apply Blk.set2_0) | (with_reducible apply Blk.set2_1) | (with_reducible refine Blk.other ?_ _ ?_; rotate_left; focus (first | omega | (simp; done) | (simp; omega)))))) hb_
  have HB_w5 : Below w.heap.size w w5 := Below.trans (by go_grown) (hb_.mono (by go_size))
  have HZ_w5 : w.heap.size ≤ w5.heap.size := HB_w5.size
  clear hb_
  clear c_b1_0 c_b1_1 f_b1 z1_b1 z2_b1 z3_b1 z4_b1 c_b2_0 c_b2_1 f_b2 z1_b2 z2_b2 z3_b2 z4_b2 K_b1 K_b2
  have K_b1 := N_b1
  clear N_b1
  have K_b2 := N_b2
  clear N_b2
  have K_b3 := N_b3
  clear N_b3
  have K_b4 := N_b4
  clear N_b4
  obtain ⟨c_b1_0, c_b1_1, f_b1, z0_b1, z1_b1, z2_b1, z3_b1, z4_b1⟩ := blk2 K_b1
  obtain ⟨c_b2_0, c_b2_1, f_b2, z0_b2, z1_b2, z2_b2, z3_b2, z4_b2⟩ := blk2 K_b2
  obtain ⟨c_b3_0, c_b3_1, f_b3, z0_b3, z1_b3, z2_b3, z3_b3, z4_b3⟩ := blk2 K_b3
  obtain ⟨c_b4_0, c_b4_1, f_b4, z0_b4, z1_b4, z2_b4, z3_b4, z4_b4⟩ := blk2 K_b4
  go_wp2_with fail
  refine (wide_Of 10 _).mono ?_
  rintro e w6 ⟨rfl, hb_⟩
  have N_b1 : Blk w6 (w1.heap.size) #[_, _] := Blk.below (by (repeat' (first | (with_reducible assumption) | (with_reducible refine Blk.new ?_; first | (with_reducible rfl) | (simp; done)) | (with_reducible refine Blk.alloc ?_ _) | (with_reducible refine Blk.drew ?_) | (with_reducible refine Blk.drewN ?_ _) | (with_reducible apply Blk.set2_0) | (with_reducible apply Blk.set2_1) | (with_reducible refine Blk.other ?_ _ ?_; rotate_left; focus (first | omega | (simp; done) | (simp; omega)))))) hb_
  have N_b2 : Blk w6 (w1.heap.size + 1) #[_, _] := Blk.below (by (repeat' (first | (with_reducible assumption) | (with_reducible refine Blk.new ?_; first | (with_reducible rfl) | (simp; done)) | (with_reducible refine Blk.alloc ?_ _) | (with_reducible refine Blk.drew ?_) | (with_reducible refine Blk.drewN ?_ _) | (with_reducible apply Blk.set2_0) | (with_reducible apply Blk.set2_1) | (with_reducible refine Blk.other ?_ _ ?_; rotate_left; focus (first | omega | (simp; done) | (simp; omega)))))) hb_
  have N_b3 : Blk w6 (w4.heap.size) #[_, _] := Blk.below (by (repeat' (first | (with_reducible assumption) | (with_reducible refine Blk.new ?_; first | (with_reducible rfl) | (simp; done)) | (with_reducible refine Blk.alloc ?_ _) | (with_reducible refine Blk.drew ?_) | (with_reducible refine Blk.drewN ?_ _) | (with_reducible apply Blk.set2_0) | (with_reducible apply Blk.set2_1) | (with_reducible refine Blk.other ?_ _ ?_; rotate_left; focus (first | omega | (simp; done) | (simp; omega)))))) hb_
  have N_b4 : Blk w6 (w4.heap.size + 1) #[_, _] := Blk.below (by (repeat' (first | (with_reducible assumption) | (with_reducible refine Blk.new ?_; first | (with_reducible rfl) | (simp; done)) | (with_reducible refine Blk.alloc ?_ _) | (with_reducible refine Blk.drew ?_) | (with_reducible refine Blk.drewN ?_ _) | (with_reducible apply Blk.set2_0) | (with_reducible apply Blk.set2_1) | (with_reducible refine Blk.other ?_ _ ?_; rotate_left; focus (first | omega | (simp; done) | (simp; omega)))))) hb_
  have N_b6 : Blk w6 (w5.heap.size) #[_, _] := Blk.below (by (repeat' (first | (with_reducible assumption) | (with_reducible refine Blk.new ?_; first | (with_reducible rfl) | (simp; done)) | (with_reducible refine Blk.alloc ?_ _) | (with_reducible refine Blk.drew ?_) | (with_reducible refine Blk.drewN ?_ _) | (with_reducible apply Blk.set2_0) | (with_reducible apply Blk.set2_1) | (with_reducible refine Blk.other ?_ _ ?_; rotate_left; focus (first | omega | (simp; done) | (simp; omega)))))) hb_
  have HB_w6 : Below w.heap.size w w6 := Below.trans (by go_grown) (hb_.mono (by go_size))
  have HZ_w6 : w.heap.size ≤ w6.heap.size := HB_w6.size
  clear hb_
  clear c_b1_0 c_b1_1 f_b1 z1_b1 z2_b1 z3_b1 z4_b1 c_b2_0 c_b2_1 f_b2 z1_b2 z2_b2 z3_b2 z4_b2 c_b3_0 c_b3_1 f_b3 z1_b3 z2_b3 z3_b3 z4_b3 c_b4_0 c_b4_1 f_b4 z1_b4 z2_b4 z3_b4 z4_b4 K_b1 K_b2 K_b3 K_b4
  have K_b1 := N_b1
  clear N_b1
  have K_b2 := N_b2
  clear N_b2
  have K_b3 := N_b3
  clear N_b3
  have K_b4 := N_b4
  clear N_b4
  have K_b6 := N_b6
  clear N_b6
  obtain ⟨c_b1_0, c_b1_1, f_b1, z0_b1, z1_b1, z2_b1, z3_b1, z4_b1⟩ := blk2 K_b1
  obtain ⟨c_b2_0, c_b2_1, f_b2, z0_b2, z1_b2, z2_b2, z3_b2, z4_b2⟩ := blk2 K_b2
  obtain ⟨c_b3_0, c_b3_1, f_b3, z0_b3, z1_b3, z2_b3, z3_b3, z4_b3⟩ := blk2 K_b3
  obtain ⟨c_b4_0, c_b4_1, f_b4, z0_b4, z1_b4, z2_b4, z3_b4, z4_b4⟩ := blk2 K_b4
  obtain ⟨c_b6_0, c_b6_1, f_b6, z0_b6, z1_b6, z2_b6, z3_b6, z4_b6⟩ := blk2 K_b6
  go_wp2_with fail
  refine (wide_Root IsU.zero U10.out _).mono ?_
  rintro e w7 ⟨r, r1, r0, b, rfl, hb, ur, hr1, hr2, hb_⟩
  have N_b1 : Blk w7 (w1.heap.size) #[_, _] := Blk.below (by (repeat' (first | (with_reducible assumption) | (with_reducible refine Blk.new ?_; first | (with_reducible rfl) | (simp; done)) | (with_reducible refine Blk.alloc ?_ _) | (with_reducible refine Blk.drew ?_) | (with_reducible refine Blk.drewN ?_ _) | (with_reducible apply Blk.set2_0) | (with_reducible apply Blk.set2_1) | (with_reducible refine Blk.other ?_ _ ?_; rotate_left; focus (first | omega | (simp; done) | (simp; omega)))))) hb_
  have N_b2 : Blk w7 (w1.heap.size + 1) #[_, _] := Blk.below (by (repeat' (first | (with_reducible assumption) | (with_reducible refine Blk.new ?_; first | (with_reducible rfl) | (simp; done)) | (with_reducible refine Blk.alloc ?_ _) | (with_reducible refine Blk.drew ?_) | (with_reducible refine Blk.drewN ?_ _) | (with_reducible apply Blk.set2_0) | (with_reducible apply Blk.set2_1) | (with_reducible refine Blk.other ?_ _ ?_; rotate_left; focus (first | omega | (simp; done) | (simp; omega)))))) hb_
  have N_b3 : Blk w7 (w4.heap.size) #[_, _] := Blk.below (by (repeat' (first | (with_reducible assumption) | (with_reducible refine Blk.new ?_; first | (with_reducible rfl) | (simp; done)) | (with_reducible refine Blk.alloc ?_ _) | (with_reducible refine Blk.drew ?_) | (with_reducible refine Blk.drewN ?_ _) | (with_reducible apply Blk.set2_0) | (with_reducible apply Blk.set2_1) | (with_reducible refine Blk.other ?_ _ ?_; rotate_left; focus (first | omega | (simp; done) | (simp; omega)))))) hb_
  have N_b4 : Blk w7 (w4.heap.size + 1) #[_, _] := Blk.below (by (repeat' (first | (with_reducible assumption) | (with_reducible refine Blk.new ?_; first | (with_reducible rfl) | (simp; done)) | (with_reducible refine Blk.alloc ?_ _) | (with_reducible refine Blk.drew ?_) | (with_reducible refine Blk.drewN ?_ _) | (with_reducible apply Blk.set2_0) | (with_reducible apply Blk.set2_1) | (with_reducible refine Blk.other ?_ _ ?_; rotate_left; focus (first | omega | (simp; done) | (simp; omega)))))) hb_
  have N_b6 : Blk w7 (w5.heap.size) #[_, _] := Blk.below (by (repeat' (first | (with_reducible assumption) | (with_reducible refine Blk.new ?_; first | (with_reducible rfl) | (simp; done)) | (with_reducible refine Blk.alloc ?_ _) | (with_reducible refine Blk.drew ?_) | (with_reducible refine Blk.drewN ?_ _) | (with_reducible apply Blk.set2_0) | (with_reducible apply Blk.set2_1) | (with_reducible refine Blk.other ?_ _ ?_; rotate_left; focus (first | omega | (simp; done) | (simp; omega)))))) hb_
  have HB_w7 : Below w.heap.size w w7 := Below.trans (by go_grown) (hb_.mono (by go_size))
  have HZ_w7 : w.heap.size ≤ w7.heap.size := HB_w7.size
  clear hb_
  clear c_b1_0 c_b1_1 f_b1 z1_b1 z2_b1 z3_b1 z4_b1 c_b2_0 c_b2_1 f_b2 z1_b2 z2_b2 z3_b2 z4_b2 c_b3_0 c_b3_1 f_b3 z1_b3 z2_b3 z3_b3 z4_b3 c_b4_0 c_b4_1 f_b4 z1_b4 z2_b4 z3_b4 z4_b4 c_b6_0 c_b6_1 f_b6 z1_b6 z2_b6 z3_b6 z4_b6 K_b1 K_b2 K_b3 K_b4 K_b6
  have K_b1 := N_b1
  clear N_b1
  have K_b2 := N_b2
  clear N_b2
  have K_b3 := N_b3
  clear N_b3
  have K_b4 := N_b4
  clear N_b4
  have K_b6 := N_b6
  clear N_b6
  obtain ⟨c_b1_0, c_b1_1, f_b1, z0_b1, z1_b1, z2_b1, z3_b1, z4_b1⟩ := blk2 K_b1
  obtain ⟨c_b2_0, c_b2_1, f_b2, z0_b2, z1_b2, z2_b2, z3_b2, z4_b2⟩ := blk2 K_b2
  obtain ⟨c_b3_0, c_b3_1, f_b3, z0_b3, z1_b3, z2_b3, z3_b3, z4_b3⟩ := blk2 K_b3
  obtain ⟨c_b4_0, c_b4_1, f_b4, z0_b4, z1_b4, z2_b4, z3_b4, z4_b4⟩ := blk2 K_b4
  obtain ⟨c_b6_0, c_b6_1, f_b6, z0_b6, z1_b6, z2_b6, z3_b6, z4_b6⟩ := blk2 K_b6
  have hr3 : r = 3 := by
    have h1 : r ≤ 3 := by
      rcases Nat.lt_or_ge 3 r with h | h
      · have := Nat.mul_le_mul h h; omega
      · exact h
    have h2 : 3 ≤ r := by
      rcases Nat.lt_or_ge r 3 with h | h
      · have := Nat.mul_le_mul (show r + 1 ≤ 3 by omega) (show r + 1 ≤ 3 by omega); omega
      · exact h
    omega
  subst hr3
  obtain ⟨rfl, rfl⟩ := ur.lit U3.out
  obtain rfl : b = false := by
    cases b with
    | false => rfl
    | true => have := hb.1 rfl; omega
  have UX := Lib.hid ux
  clear ux ur hb hr1 hr2
  go_wp2_with fail
  have tok1 : True := trivial
  have tok2 : True := trivial
  have tok3 : True := trivial
  have tok4 : True := trivial
  go_region_held3 (fun w' => (w'.cell? ⟨w1.heap.size, 0, none⟩ = some (.int .u64 18446744073709551615) ∧ w'.cell? ⟨w1.heap.size, 1, none⟩ = some (.int .u64 18446744073709551614)) ∧ (w'.cell? ⟨w1.heap.size + 1, 0, none⟩ = some (.int .u64 0) ∧ w'.cell? ⟨w1.heap.size + 1, 1, none⟩ = some (.int .u64 1)) ∧ (w'.cell? ⟨w4.heap.size, 0, none⟩ = some (.int .u64 6148914691236517205) ∧ w'.cell? ⟨w4.heap.size, 1, none⟩ = some (.int .u64 6148914691236517205)) ∧ (w'.cell? ⟨w4.heap.size + 1, 0, none⟩ = some (.int .u64 0) ∧ w'.cell? ⟨w4.heap.size + 1, 1, none⟩ = some (.int .u64 1)) ∧ (w'.cell? ⟨w5.heap.size, 0, none⟩ = some (.int .u64 x1) ∧ w'.cell? ⟨w5.heap.size, 1, none⟩ = some (.int .u64 x0)) ∧ (w'.cell? ⟨w7.heap.size, 0, none⟩ = some (.int .u64 0) ∧ w'.cell? ⟨w7.heap.size, 1, none⟩ = some (.int .u64 3))) (first | (go_keep; done) | exact ⟨cells2 (by (repeat' (first | (with_reducible assumption) | (with_reducible refine Blk.new ?_; first | (with_reducible rfl) | (simp; done)) | (with_reducible refine Blk.alloc ?_ _) | (with_reducible refine Blk.drew ?_) | (with_reducible refine Blk.drewN ?_ _) | (with_reducible apply Blk.set2_0) | (with_reducible apply Blk.set2_1) | (with_reducible refine Blk.other ?_ _ ?_; rotate_left; focus (first | omega | (simp; done) | (simp; omega)))))), cells2 (by (repeat' (first | (with_reducible assumption) | (with_reducible refine Blk.new ?_; first | (with_reducible rfl) | (simp; done)) | (with_reducible refine Blk.alloc ?_ _) | (with_reducible refine Blk.drew ?_) | (with_reducible refine Blk.drewN ?_ _) | (with_reducible apply Blk.set2_0) | (with_reducible apply Blk.set2_1) | (with_reducible refine Blk.other ?_ _ ?_; rotate_left; focus (first | omega | (simp; done) | (simp; omega)))))), cells2 (by (repeat' (first | (with_reducible assumption) | (with_reducible refine Blk.new ?_; first | (with_reducible rfl) | (simp; done)) | (with_reducible refine Blk.alloc ?_ _) | (with_reducible refine Blk.drew ?_) | (with_reducible refine Blk.drewN ?_ _) | (with_reducible apply Blk.set2_0) | (with_reducible apply Blk.set2_1) | (with_reducible refine Blk.other ?_ _ ?_; rotate_left; focus (first | omega | (simp; done) | (simp; omega)))))), cells2 (by (repeat' (first | (with_reducible assumption) | (with_reducible refine Blk.new ?_; first | (with_reducible rfl) | (simp; done)) | (with_reducible refine Blk.alloc ?_ _) | (with_reducible refine Blk.drew ?_) | (with_reducible refine Blk.drewN ?_ _) | (with_reducible apply Blk.set2_0) | (with_reducible apply Blk.set2_1) | (with_reducible refine Blk.other ?_ _ ?_; rotate_left; focus (first | omega | (simp; done) | (simp; omega)))))), cells2 (by (repeat' (first | (with_reducible assumption) | (with_reducible refine Blk.new ?_; first | (with_reducible rfl) | (simp; done)) | (with_reducible refine Blk.alloc ?_ _) | (with_reducible refine Blk.drew ?_) | (with_reducible refine Blk.drewN ?_ _) | (with_reducible apply Blk.set2_0) | (with_reducible apply Blk.set2_1) | (with_reducible refine Blk.other ?_ _ ?_; rotate_left; focus (first | omega | (simp; done) | (simp; omega)))))), cells2 (by (repeat' (first | (with_reducible assumption) | (with_reducible refine Blk.new ?_; first | (with_reducible rfl) | (simp; done)) | (with_reducible refine Blk.alloc ?_ _) | (with_reducible refine Blk.drew ?_) | (with_reducible refine Blk.drewN ?_ _) | (with_reducible apply Blk.set2_0) | (with_reducible apply Blk.set2_1) | (with_reducible refine Blk.other ?_ _ ?_; rotate_left; focus (first | omega | (simp; done) | (simp; omega))))))⟩) (first | (go_at_call 19; have _t := tok1; clear tok1; refine (wide_Of 1 _).mono ?_; rintro e w8 ⟨rfl, hb_⟩; have N_b1 : Blk w8 (w1.heap.size) #[_, _] := Blk.below (by (repeat' (first | (with_reducible assumption) | (with_reducible refine Blk.new ?_; first | (with_reducible rfl) | (simp; done)) | (with_reducible refine Blk.alloc ?_ _) | (with_reducible refine Blk.drew ?_) | (with_reducible refine Blk.drewN ?_ _) | (with_reducible apply Blk.set2_0) | (with_reducible apply Blk.set2_1) | (with_reducible refine Blk.other ?_ _ ?_; rotate_left; focus (first | omega | (simp; done) | (simp; omega)))))) hb_; have N_b2 : Blk w8 (w1.heap.size + 1) #[_, _] := Blk.below (by (repeat' (first | (with_reducible assumption) | (with_reducible refine Blk.new ?_; first | (with_reducible rfl) | (simp; done)) | (with_reducible refine Blk.alloc ?_ _) | (with_reducible refine Blk.drew ?_) | (with_reducible refine Blk.drewN ?_ _) | (with_reducible apply Blk.set2_0) | (with_reducible apply Blk.set2_1) | (with_reducible refine Blk.other ?_ _ ?_; rotate_left; focus (first | omega | (simp; done) | (simp; omega)))))) hb_; have N_b3 : Blk w8 (w4.heap.size) #[_, _] := Blk.below (by (repeat' (first | (with_reducible assumption) | (with_reducible refine Blk.new ?_; first | (with_reducible rfl) | (simp; done)) | (with_reducible refine Blk.alloc ?_ _) | (with_reducible refine Blk.drew ?_) | (with_reducible refine Blk.drewN ?_ _) | (with_reducible apply Blk.set2_0) | (with_reducible apply Blk.set2_1) | (with_reducible refine Blk.other ?_ _ ?_; rotate_left; focus (first | omega | (simp; done) | (simp; omega)))))) hb_; have N_b4 : Blk w8 (w4.heap.size + 1) #[_, _] := Blk.below (by (repeat' (first | (with_reducible assumption) | (with_reducible refine Blk.new ?_; first | (with_reducible rfl) | (simp; done)) | (with_reducible refine Blk.alloc ?_ _) | (with_reducible refine Blk.drew ?_) | (with_reducible refine Blk.drewN ?_ _) | (with_reducible apply Blk.set2_0) | (with_reducible apply Blk.set2_1) | (with_reducible refine Blk.other ?_ _ ?_; rotate_left; focus (first | omega | (simp; done) | (simp; omega)))))) hb_; have N_b6 : Blk w8 (w5.heap.size) #[_, _] := Blk.below (by (repeat' (first | (with_reducible assumption) | (with_reducible refine Blk.new ?_; first | (with_reducible rfl) | (simp; done)) | (with_reducible refine Blk.alloc ?_ _) | (with_reducible refine Blk.drew ?_) | (with_reducible refine Blk.drewN ?_ _) | (with_reducible apply Blk.set2_0) | (with_reducible apply Blk.set2_1) | (with_reducible refine Blk.other ?_ _ ?_; rotate_left; focus (first | omega | (simp; done) | (simp; omega)))))) hb_; have N_b8 : Blk w8 (w7.heap.size) #[_, _] := Blk.below (by (repeat' (first | (with_reducible assumption) | (with_reducible refine Blk.new ?_; first | (with_reducible rfl) | (simp; done)) | (with_reducible refine Blk.alloc ?_ _) | (with_reducible refine Blk.drew ?_) | (with_reducible refine Blk.drewN ?_ _) | (with_reducible apply Blk.set2_0) | (with_reducible apply Blk.set2_1) | (with_reducible refine Blk.other ?_ _ ?_; rotate_left; focus (first | omega | (simp; done) | (simp; omega)))))) hb_; have HB_w8 : Below w.heap.size w w8 := Below.trans (by go_grown) (hb_.mono (by go_size)); have HZ_w8 : w.heap.size ≤ w8.heap.size := HB_w8.size; clear hb_; clear c_b1_0 c_b1_1 f_b1 z1_b1 z2_b1 z3_b1 z4_b1 c_b2_0 c_b2_1 f_b2 z1_b2 z2_b2 z3_b2 z4_b2 c_b3_0 c_b3_1 f_b3 z1_b3 z2_b3 z3_b3 z4_b3 c_b4_0 c_b4_1 f_b4 z1_b4 z2_b4 z3_b4 z4_b4 c_b6_0 c_b6_1 f_b6 z1_b6 z2_b6 z3_b6 z4_b6 K_b1 K_b2 K_b3 K_b4 K_b6; have K_b1 := N_b1; clear N_b1; have K_b2 := N_b2; clear N_b2; have K_b3 := N_b3; clear N_b3; have K_b4 := N_b4; clear N_b4; have K_b6 := N_b6; clear N_b6; have K_b8 := N_b8; clear N_b8; obtain ⟨c_b1_0, c_b1_1, f_b1, z0_b1, z1_b1, z2_b1, z3_b1, z4_b1⟩ := blk2 K_b1; obtain ⟨c_b2_0, c_b2_1, f_b2, z0_b2, z1_b2, z2_b2, z3_b2, z4_b2⟩ := blk2 K_b2; obtain ⟨c_b3_0, c_b3_1, f_b3, z0_b3, z1_b3, z2_b3, z3_b3, z4_b3⟩ := blk2 K_b3; obtain ⟨c_b4_0, c_b4_1, f_b4, z0_b4, z1_b4, z2_b4, z3_b4, z4_b4⟩ := blk2 K_b4; obtain ⟨c_b6_0, c_b6_1, f_b6, z0_b6, z1_b6, z2_b6, z3_b6, z4_b6⟩ := blk2 K_b6; obtain ⟨c_b8_0, c_b8_1, f_b8, z0_b8, z1_b8, z2_b8, z3_b8, z4_b8⟩ := blk2 K_b8) | (go_at_call 19; have _t := tok2; clear tok2; refine (wide_Of 1 _).mono ?_; rintro e w9 ⟨rfl, hb_⟩; have N_b1 : Blk w9 (w1.heap.size) #[_, _] := Blk.below (by (repeat' (first | (with_reducible assumption) | (with_reducible refine Blk.new ?_; first | (with_reducible rfl) | (simp; done)) | (with_reducible refine Blk.alloc ?_ _) | (with_reducible refine Blk.drew ?_) | (with_reducible refine Blk.drewN ?_ _) | (with_reducible apply Blk.set2_0) | (with_reducible apply Blk.set2_1) | (with_reducible refine Blk.other ?_ _ ?_; rotate_left; focus (first | omega | (simp; done) | (simp; omega)))))) hb_; have N_b2 : Blk w9 (w1.heap.size + 1) #[_, _] := Blk.below (by (repeat' (first | (with_reducible assumption) | (with_reducible refine Blk.new ?_; first | (with_reducible rfl) | (simp; done)) | (with_reducible refine Blk.alloc ?_ _) | (with_reducible refine Blk.drew ?_) | (with_reducible refine Blk.drewN ?_ _) | (with_reducible apply Blk.set2_0) | (with_reducible apply Blk.set2_1) | (with_reducible refine Blk.other ?_ _ ?_; rotate_left; focus (first | omega | (simp; done) | (simp; omega)))))) hb_; have N_b3 : Blk w9 (w4.heap.size) #[_, _] := Blk.below (by (repeat' (first | (with_reducible assumption) | (with_reducible refine Blk.new ?_; first | (with_reducible rfl) | (simp; done)) | (with_reducible refine Blk.alloc ?_ _) | (with_reducible refine Blk.drew ?_) | (with_reducible refine Blk.drewN ?_ _) | (with_reducible apply Blk.set2_0) | (with_reducible apply Blk.set2_1) | (with_reducible refine Blk.other ?_ _ ?_; rotate_left; focus (first | omega | (simp; done) | (simp; omega)))))) hb_; have N_b4 : Blk w9 (w4.heap.size + 1) #[_, _] := Blk.below (by (repeat' (first | (with_reducible assumption) | (with_reducible refine Blk.new ?_; first | (with_reducible rfl) | (simp; done)) | (with_reducible refine Blk.alloc ?_ _) | (with_reducible refine Blk.drew ?_) | (with_reducible refine Blk.drewN ?_ _) | (with_reducible apply Blk.set2_0) | (with_reducible apply Blk.set2_1) | (with_reducible refine Blk.other ?_ _ ?_; rotate_left; focus (first | omega | (simp; done) | (simp; omega)))))) hb_; have N_b6 : Blk w9 (w5.heap.size) #[_, _] := Blk.below (by (repeat' (first | (with_reducible assumption) | (with_reducible refine Blk.new ?_; first | (with_reducible rfl) | (simp; done)) | (with_reducible refine Blk.alloc ?_ _) | (with_reducible refine Blk.drew ?_) | (with_reducible refine Blk.drewN ?_ _) | (with_reducible apply Blk.set2_0) | (with_reducible apply Blk.set2_1) | (with_reducible refine Blk.other ?_ _ ?_; rotate_left; focus (first | omega | (simp; done) | (simp; omega)))))) hb_; have N_b8 : Blk w9 (w7.heap.size) #[_, _] := Blk.below (by (repeat' (first | (with_reducible assumption) | (with_reducible refine Blk.new ?_; first | (with_reducible rfl) | (simp; done)) | (with_reducible refine Blk.alloc ?_ _) | (with_reducible refine Blk.drew ?_) | (with_reducible refine Blk.drewN ?_ _) | (with_reducible apply Blk.set2_0) | (with_reducible apply Blk.set2_1) | (with_reducible refine Blk.other ?_ _ ?_; rotate_left; focus (first | omega | (simp; done) | (simp; omega)))))) hb_; have HB_w9 : Below w.heap.size w w9 := Below.trans (by go_grown) (hb_.mono (by go_size)); have HZ_w9 : w.heap.size ≤ w9.heap.size := HB_w9.size; clear hb_; clear c_b1_0 c_b1_1 f_b1 z1_b1 z2_b1 z3_b1 z4_b1 c_b2_0 c_b2_1 f_b2 z1_b2 z2_b2 z3_b2 z4_b2 c_b3_0 c_b3_1 f_b3 z1_b3 z2_b3 z3_b3 z4_b3 c_b4_0 c_b4_1 f_b4 z1_b4 z2_b4 z3_b4 z4_b4 c_b6_0 c_b6_1 f_b6 z1_b6 z2_b6 z3_b6 z4_b6 c_b8_0 c_b8_1 f_b8 z1_b8 z2_b8 z3_b8 z4_b8 K_b1 K_b2 K_b3 K_b4 K_b6 K_b8; have K_b1 := N_b1; clear N_b1; have K_b2 := N_b2; clear N_b2; have K_b3 := N_b3; clear N_b3; have K_b4 := N_b4; clear N_b4; have K_b6 := N_b6; clear N_b6; have K_b8 := N_b8; clear N_b8; obtain ⟨c_b1_0, c_b1_1, f_b1, z0_b1, z1_b1, z2_b1, z3_b1, z4_b1⟩ := blk2 K_b1; obtain ⟨c_b2_0, c_b2_1, f_b2, z0_b2, z1_b2, z2_b2, z3_b2, z4_b2⟩ := blk2 K_b2; obtain ⟨c_b3_0, c_b3_1, f_b3, z0_b3, z1_b3, z2_b3, z3_b3, z4_b3⟩ := blk2 K_b3; obtain ⟨c_b4_0, c_b4_1, f_b4, z0_b4, z1_b4, z2_b4, z3_b4, z4_b4⟩ := blk2 K_b4; obtain ⟨c_b6_0, c_b6_1, f_b6, z0_b6, z1_b6, z2_b6, z3_b6, z4_b6⟩ := blk2 K_b6; obtain ⟨c_b8_0, c_b8_1, f_b8, z0_b8, z1_b8, z2_b8, z3_b8, z4_b8⟩ := blk2 K_b8) | (go_at_call 39; have _t := tok3; clear tok3; refine (digits39 UX.out _).mono ?_; rintro e wa ⟨rfl, hb_⟩; have N_b1 : Blk wa (w1.heap.size) #[_, _] := Blk.below (by (repeat' (first | (with_reducible assumption) | (with_reducible refine Blk.new ?_; first | (with_reducible rfl) | (simp; done)) | (with_reducible refine Blk.alloc ?_ _) | (with_reducible refine Blk.drew ?_) | (with_reducible refine Blk.drewN ?_ _) | (with_reducible apply Blk.set2_0) | (with_reducible apply Blk.set2_1) | (with_reducible refine Blk.other ?_ _ ?_; rotate_left; focus (first | omega | (simp; done) | (simp; omega)))))) hb_; have N_b2 : Blk wa (w1.heap.size + 1) #[_, _] := Blk.below (by (repeat' (first | (with_reducible assumption) | (with_reducible refine Blk.new ?_; first | (with_reducible rfl) | (simp; done)) | (with_reducible refine Blk.alloc ?_ _) | (with_reducible refine Blk.drew ?_) | (with_reducible refine Blk.drewN ?_ _) | (with_reducible apply Blk.set2_0) | (with_reducible apply Blk.set2_1) | (with_reducible refine Blk.other ?_ _ ?_; rotate_left; focus (first | omega | (simp; done) | (simp; omega)))))) hb_; have N_b3 : Blk wa (w4.heap.size) #[_, _] := Blk.below (by (repeat' (first | (with_reducible assumption) | (with_reducible refine Blk.new ?_; first | (with_reducible rfl) | (simp; done)) | (with_reducible refine Blk.alloc ?_ _) | (with_reducible refine Blk.drew ?_) | (with_reducible refine Blk.drewN ?_ _) | (with_reducible apply Blk.set2_0) | (with_reducible apply Blk.set2_1) | (with_reducible refine Blk.other ?_ _ ?_; rotate_left; focus (first | omega | (simp; done) | (simp; omega)))))) hb_; have N_b4 : Blk wa (w4.heap.size + 1) #[_, _] := Blk.below (by (repeat' (first | (with_reducible assumption) | (with_reducible refine Blk.new ?_; first | (with_reducible rfl) | (simp; done)) | (with_reducible refine Blk.alloc ?_ _) | (with_reducible refine Blk.drew ?_) | (with_reducible refine Blk.drewN ?_ _) | (with_reducible apply Blk.set2_0) | (with_reducible apply Blk.set2_1) | (with_reducible refine Blk.other ?_ _ ?_; rotate_left; focus (first | omega | (simp; done) | (simp; omega)))))) hb_; have N_b6 : Blk wa (w5.heap.size) #[_, _] := Blk.below (by (repeat' (first | (with_reducible assumption) | (with_reducible refine Blk.new ?_; first | (with_reducible rfl) | (simp; done)) | (with_reducible refine Blk.alloc ?_ _) | (with_reducible refine Blk.drew ?_) | (with_reducible refine Blk.drewN ?_ _) | (with_reducible apply Blk.set2_0) | (with_reducible apply Blk.set2_1) | (with_reducible refine Blk.other ?_ _ ?_; rotate_left; focus (first | omega | (simp; done) | (simp; omega)))))) hb_; have N_b8 : Blk wa (w7.heap.size) #[_, _] := Blk.below (by (repeat' (first | (with_reducible assumption) | (with_reducible refine Blk.new ?_; first | (with_reducible rfl) | (simp; done)) | (with_reducible refine Blk.alloc ?_ _) | (with_reducible refine Blk.drew ?_) | (with_reducible refine Blk.drewN ?_ _) | (with_reducible apply Blk.set2_0) | (with_reducible apply Blk.set2_1) | (with_reducible refine Blk.other ?_ _ ?_; rotate_left; focus (first | omega | (simp; done) | (simp; omega)))))) hb_; have HB_wa : Below w.heap.size w wa := Below.trans (by go_grown) (hb_.mono (by go_size)); have HZ_wa : w.heap.size ≤ wa.heap.size := HB_wa.size; clear hb_; clear c_b1_0 c_b1_1 f_b1 z1_b1 z2_b1 z3_b1 z4_b1 c_b2_0 c_b2_1 f_b2 z1_b2 z2_b2 z3_b2 z4_b2 c_b3_0 c_b3_1 f_b3 z1_b3 z2_b3 z3_b3 z4_b3 c_b4_0 c_b4_1 f_b4 z1_b4 z2_b4 z3_b4 z4_b4 c_b6_0 c_b6_1 f_b6 z1_b6 z2_b6 z3_b6 z4_b6 c_b8_0 c_b8_1 f_b8 z1_b8 z2_b8 z3_b8 z4_b8 K_b1 K_b2 K_b3 K_b4 K_b6 K_b8; have K_b1 := N_b1; clear N_b1; have K_b2 := N_b2; clear N_b2; have K_b3 := N_b3; clear N_b3; have K_b4 := N_b4; clear N_b4; have K_b6 := N_b6; clear N_b6; have K_b8 := N_b8; clear N_b8; obtain ⟨c_b1_0, c_b1_1, f_b1, z0_b1, z1_b1, z2_b1, z3_b1, z4_b1⟩ := blk2 K_b1; obtain ⟨c_b2_0, c_b2_1, f_b2, z0_b2, z1_b2, z2_b2, z3_b2, z4_b2⟩ := blk2 K_b2; obtain ⟨c_b3_0, c_b3_1, f_b3, z0_b3, z1_b3, z2_b3, z3_b3, z4_b3⟩ := blk2 K_b3; obtain ⟨c_b4_0, c_b4_1, f_b4, z0_b4, z1_b4, z2_b4, z3_b4, z4_b4⟩ := blk2 K_b4; obtain ⟨c_b6_0, c_b6_1, f_b6, z0_b6, z1_b6, z2_b6, z3_b6, z4_b6⟩ := blk2 K_b6; obtain ⟨c_b8_0, c_b8_1, f_b8, z0_b8, z1_b8, z2_b8, z3_b8, z4_b8⟩ := blk2 K_b8) | (go_at_call 19; have _t := tok4; clear tok4; refine (wide_Of 3 _).mono ?_; rintro e wb ⟨rfl, hb_⟩; have N_b1 : Blk wb (w1.heap.size) #[_, _] := Blk.below (by (repeat' (first | (with_reducible assumption) | (with_reducible refine Blk.new ?_; first | (with_reducible rfl) | (simp; done)) | (with_reducible refine Blk.alloc ?_ _) | (with_reducible refine Blk.drew ?_) | (with_reducible refine Blk.drewN ?_ _) | (with_reducible apply Blk.set2_0) | (with_reducible apply Blk.set2_1) | (with_reducible refine Blk.other ?_ _ ?_; rotate_left; focus (first | omega | (simp; done) | (simp; omega)))))) hb_; have N_b2 : Blk wb (w1.heap.size + 1) #[_, _] := Blk.below (by (repeat' (first | (with_reducible assumption) | (with_reducible refine Blk.new ?_; first | (with_reducible rfl) | (simp; done)) | (with_reducible refine Blk.alloc ?_ _) | (with_reducible refine Blk.drew ?_) | (with_reducible refine Blk.drewN ?_ _) | (with_reducible apply Blk.set2_0) | (with_reducible apply Blk.set2_1) | (with_reducible refine Blk.other ?_ _ ?_; rotate_left; focus (first | omega | (simp; done) | (simp; omega)))))) hb_; have N_b3 : Blk wb (w4.heap.size) #[_, _] := Blk.below (by (repeat' (first | (with_reducible assumption) | (with_reducible refine Blk.new ?_; first | (with_reducible rfl) | (simp; done)) | (with_reducible refine Blk.alloc ?_ _) | (with_reducible refine Blk.drew ?_) | (with_reducible refine Blk.drewN ?_ _) | (with_reducible apply Blk.set2_0) | (with_reducible apply Blk.set2_1) | (with_reducible refine Blk.other ?_ _ ?_; rotate_left; focus (first | omega | (simp; done) | (simp; omega)))))) hb_; have N_b4 : Blk wb (w4.heap.size + 1) #[_, _] := Blk.below (by (repeat' (first | (with_reducible assumption) | (with_reducible refine Blk.new ?_; first | (with_reducible rfl) | (simp; done)) | (with_reducible refine Blk.alloc ?_ _) | (with_reducible refine Blk.drew ?_) | (with_reducible refine Blk.drewN ?_ _) | (with_reducible apply Blk.set2_0) | (with_reducible apply Blk.set2_1) | (with_reducible refine Blk.other ?_ _ ?_; rotate_left; focus (first | omega | (simp; done) | (simp; omega)))))) hb_; have N_b6 : Blk wb (w5.heap.size) #[_, _] := Blk.below (by (repeat' (first | (with_reducible assumption) | (with_reducible refine Blk.new ?_; first | (with_reducible rfl) | (simp; done)) | (with_reducible refine Blk.alloc ?_ _) | (with_reducible refine Blk.drew ?_) | (with_reducible refine Blk.drewN ?_ _) | (with_reducible apply Blk.set2_0) | (with_reducible apply Blk.set2_1) | (with_reducible refine Blk.other ?_ _ ?_; rotate_left; focus (first | omega | (simp; done) | (simp; omega)))))) hb_; have N_b8 : Blk wb (w7.heap.size) #[_, _] := Blk.below (by (repeat' (first | (with_reducible assumption) | (with_reducible refine Blk.new ?_; first | (with_reducible rfl) | (simp; done)) | (with_reducible refine Blk.alloc ?_ _) | (with_reducible refine Blk.drew ?_) | (with_reducible refine Blk.drewN ?_ _) | (with_reducible apply Blk.set2_0) | (with_reducible apply Blk.set2_1) | (with_reducible refine Blk.other ?_ _ ?_; rotate_left; focus (first | omega | (simp; done) | (simp; omega)))))) hb_; have HB_wb : Below w.heap.size w wb := Below.trans (by go_grown) (hb_.mono (by go_size)); have HZ_wb : w.heap.size ≤ wb.heap.size := HB_wb.size; clear hb_; clear c_b1_0 c_b1_1 f_b1 z1_b1 z2_b1 z3_b1 z4_b1 c_b2_0 c_b2_1 f_b2 z1_b2 z2_b2 z3_b2 z4_b2 c_b3_0 c_b3_1 f_b3 z1_b3 z2_b3 z3_b3 z4_b3 c_b4_0 c_b4_1 f_b4 z1_b4 z2_b4 z3_b4 z4_b4 c_b6_0 c_b6_1 f_b6 z1_b6 z2_b6 z3_b6 z4_b6 c_b8_0 c_b8_1 f_b8 z1_b8 z2_b8 z3_b8 z4_b8 K_b1 K_b2 K_b3 K_b4 K_b6 K_b8; have K_b1 := N_b1; clear N_b1; have K_b2 := N_b2; clear N_b2; have K_b3 := N_b3; clear N_b3; have K_b4 := N_b4; clear N_b4; have K_b6 := N_b6; clear N_b6; have K_b8 := N_b8; clear N_b8; obtain ⟨c_b1_0, c_b1_1, f_b1, z0_b1, z1_b1, z2_b1, z3_b1, z4_b1⟩ := blk2 K_b1; obtain ⟨c_b2_0, c_b2_1, f_b2, z0_b2, z1_b2, z2_b2, z3_b2, z4_b2⟩ := blk2 K_b2; obtain ⟨c_b3_0, c_b3_1, f_b3, z0_b3, z1_b3, z2_b3, z3_b3, z4_b3⟩ := blk2 K_b3; obtain ⟨c_b4_0, c_b4_1, f_b4, z0_b4, z1_b4, z2_b4, z3_b4, z4_b4⟩ := blk2 K_b4; obtain ⟨c_b6_0, c_b6_1, f_b6, z0_b6, z1_b6, z2_b6, z3_b6, z4_b6⟩ := blk2 K_b6; obtain ⟨c_b8_0, c_b8_1, f_b8, z0_b8, z1_b8, z2_b8, z3_b8, z4_b8⟩ := blk2 K_b8))
  all_goals
    go_wp2_with fail
    go_returns
    exact ⟨rfl, by go_grown⟩

end Go.Proofs.Ytpnfomnnbmncaaa
