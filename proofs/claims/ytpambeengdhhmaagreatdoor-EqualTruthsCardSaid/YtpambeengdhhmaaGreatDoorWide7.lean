/-
  The contract of package wide's count of digits, for all arguments.
-/
import Derived.Test.YtpambeengdhhmaaGreatDoorWide6
namespace Go.Proofs.YtpambeengdhhmaaGreatDoor
open Go.RowKit
set_option linter.unusedVariables false

theorem W4_pow : 115792089237316195423570985008687907853269984665640564039457584007913129639936 ≤ 10 ^ 78 := by decide

theorem nd_big {N : Nat} (h : 340282366920938463463374607431768211456 ≤ N) : nd N = 19 + nd (N / 10000000000000000000) := nd_shift 19 N (by omega)

set_option maxHeartbeats 800000 in
set_option maxRecDepth 100000 in
theorem wide_Digits {h1 h0 l1 l0 : Int} {h l : Nat} (hh : IsU h1 h0 h) (hl : IsU l1 l0 l) (w : World) :
    Calls Tryz.prog 100 #[.agg #[.int .u64 h1, .int .u64 h0], .agg #[.int .u64 l1, .int .u64 l0]] w fun e w' => e = .returned (.int .i64 (nd (h * 340282366920938463463374607431768211456 + l))) ∧ Below w.heap.size w w' := by
  have big : IsW (10000000000000000000 : Int) 10000000000000000000 := ⟨by omega, by omega, rfl⟩
  have ten : IsW (10 : Int) 10 := ⟨by omega, by omega, rfl⟩
  have bd : nd (h * 340282366920938463463374607431768211456 + l) ≤ 78 := by
    apply nd_le
    have := hh.lt; have := hl.lt
    refine Nat.lt_of_lt_of_le ?_ W4_pow
    omega
  obtain ⟨N, hN⟩ : ∃ N, N = nd (h * 340282366920938463463374607431768211456 + l) := ⟨_, rfl⟩
  rw [← hN] at bd ⊢
  have HN := Lib.hid hN; clear hN
  go_enter Tryz.func100, Tryz.ntmps100
  go_wp2_with fail
  go_loopw [5] (fun s5 wr => ∃ (n x y : Nat) (x1 x0 y1 y0 : Int), s5 = .int .i64 n ∧ IsU x1 x0 x ∧ IsU y1 y0 y ∧ N = n + nd (x * 340282366920938463463374607431768211456 + y) ∧ Blk wr w.heap.size #[.int .u64 x1, .int .u64 x0] ∧ Blk wr (w.heap.size + 1) #[.int .u64 y1, .int .u64 y0] ∧ Below w.heap.size w wr) (fun s5 _ => 100 - (intOf s5).toNat)
  case atStart => exact ⟨0, h, l, h1, h0, l1, l0, rfl, hh, hl, by rw [HN.out]; omega, (by (repeat' (first | (with_reducible assumption) | (with_reducible refine Blk.new ?_; first | (with_reducible rfl) | (simp; done)) | (with_reducible refine Blk.alloc ?_ _) | (with_reducible refine Blk.drew ?_) | (with_reducible refine Blk.drewN ?_ _) | (with_reducible apply Blk.set2_0) | (with_reducible apply Blk.set2_1) | (with_reducible refine Blk.other ?_ _ ?_; rotate_left; focus (first | omega | (simp; done) | (simp; omega)))))), (by (repeat' (first | (with_reducible assumption) | (with_reducible refine Blk.new ?_; first | (with_reducible rfl) | (simp; done)) | (with_reducible refine Blk.alloc ?_ _) | (with_reducible refine Blk.drew ?_) | (with_reducible refine Blk.drewN ?_ _) | (with_reducible apply Blk.set2_0) | (with_reducible apply Blk.set2_1) | (with_reducible refine Blk.other ?_ _ ?_; rotate_left; focus (first | omega | (simp; done) | (simp; omega)))))), by go_grown⟩
  case round =>
    obtain ⟨n, x, y, x1, x0, y1, y0, rfl, ux, uy, e, K_b2, K_b3, HB_wr⟩ := hrel
    have E := Lib.hid e
    have nb : n ≤ 78 := by omega
    have HZ_wr := HB_wr.size
    clear e
    obtain ⟨c_b2_0, c_b2_1, f_b2, z0_b2, z1_b2, z2_b2, z3_b2, z4_b2⟩ := blk2 K_b2
    obtain ⟨c_b3_0, c_b3_1, f_b3, z0_b3, z1_b3, z2_b3, z3_b3, z4_b3⟩ := blk2 K_b3
    by_cases hx : x = 0
    · have zx : zeroN x = true := zeroN_0 hx
      have HX := Lib.hid hx; clear hx
      go_wp2_with fail
      refine (wide_Zero ux _).mono ?_
      rintro e w1 ⟨rfl, hb_⟩
      have N_b2 : Blk w1 (w.heap.size) #[_, _] := Blk.below (by (repeat' (first | (with_reducible assumption) | (with_reducible refine Blk.new ?_; first | (with_reducible rfl) | (simp; done)) | (with_reducible refine Blk.alloc ?_ _) | (with_reducible refine Blk.drew ?_) | (with_reducible refine Blk.drewN ?_ _) | (with_reducible apply Blk.set2_0) | (with_reducible apply Blk.set2_1) | (with_reducible refine Blk.other ?_ _ ?_; rotate_left; focus (first | omega | (simp; done) | (simp; omega)))))) hb_
      have N_b3 : Blk w1 (w.heap.size + 1) #[_, _] := Blk.below (by (repeat' (first | (with_reducible assumption) | (with_reducible refine Blk.new ?_; first | (with_reducible rfl) | (simp; done)) | (with_reducible refine Blk.alloc ?_ _) | (with_reducible refine Blk.drew ?_) | (with_reducible refine Blk.drewN ?_ _) | (with_reducible apply Blk.set2_0) | (with_reducible apply Blk.set2_1) | (with_reducible refine Blk.other ?_ _ ?_; rotate_left; focus (first | omega | (simp; done) | (simp; omega)))))) hb_
      have HB_w1 : Below w.heap.size w w1 := Below.trans (by go_grown) (hb_.mono (by go_size))
      have HZ_w1 : w.heap.size ≤ w1.heap.size := HB_w1.size
      clear hb_
      clear c_b2_0 c_b2_1 f_b2 z1_b2 z2_b2 z3_b2 z4_b2 c_b3_0 c_b3_1 f_b3 z1_b3 z2_b3 z3_b3 z4_b3 K_b2 K_b3
      have K_b2 := N_b2
      clear N_b2
      have K_b3 := N_b3
      clear N_b3
      obtain ⟨c_b2_0, c_b2_1, f_b2, z0_b2, z1_b2, z2_b2, z3_b2, z4_b2⟩ := blk2 K_b2
      obtain ⟨c_b3_0, c_b3_1, f_b3, z0_b3, z1_b3, z2_b3, z3_b3, z4_b3⟩ := blk2 K_b3
      go_wp2_with fail
      go_loopw [5] (fun s5 wr => ∃ (n y : Nat) (y1 y0 : Int), s5 = .int .i64 n ∧ IsU y1 y0 y ∧ N = n + nd y ∧ Blk wr (w.heap.size + 1) #[.int .u64 y1, .int .u64 y0] ∧ Below w.heap.size w wr) (fun s5 _ => 100 - (intOf s5).toNat)
      case atStart => exact ⟨n, y, y1, y0, rfl, uy, by rw [E.out, HX.out]; simp, K_b3, HB_w1⟩
      case round =>
        clear E HX zx ux uy nb HB_wr HB_w1
        clear c_b2_0 c_b2_1 f_b2 z1_b2 z2_b2 z3_b2 z4_b2 c_b3_0 c_b3_1 f_b3 z1_b3 z2_b3 z3_b3 z4_b3 K_b2 K_b3
        obtain ⟨n, y, y1, y0, rfl, uy, e, K_b3, HB_wr⟩ := hrel
        have E := Lib.hid e
        have nb : n ≤ 78 := by omega
        have HZ_wr := HB_wr.size
        clear e
        obtain ⟨c_b3_0, c_b3_1, f_b3, z0_b3, z1_b3, z2_b3, z3_b3, z4_b3⟩ := blk2 K_b3
        by_cases hy : y = 0
        · have zy : zeroN y = true := zeroN_0 hy
          have HX := Lib.hid hy; clear hy
          go_wp2_with fail
          refine (wide_Zero uy _).mono ?_
          rintro e w2 ⟨rfl, hb_⟩
          have N_b3 : Blk w2 (w.heap.size + 1) #[_, _] := Blk.below (by (repeat' (first | (with_reducible assumption) | (with_reducible refine Blk.new ?_; first | (with_reducible rfl) | (simp; done)) | (with_reducible refine Blk.alloc ?_ _) | (with_reducible refine Blk.drew ?_) | (with_reducible refine Blk.drewN ?_ _) | (with_reducible apply Blk.set2_0) | (with_reducible apply Blk.set2_1) | (with_reducible refine Blk.other ?_ _ ?_; rotate_left; focus (first | omega | (simp; done) | (simp; omega)))))) hb_
          have HB_w2 : Below w.heap.size w w2 := Below.trans (by go_grown) (hb_.mono (by go_size))
          have HZ_w2 : w.heap.size ≤ w2.heap.size := HB_w2.size
          clear hb_
          clear c_b3_0 c_b3_1 f_b3 z1_b3 z2_b3 z3_b3 z4_b3 K_b3
          have K_b3 := N_b3
          clear N_b3
          obtain ⟨c_b3_0, c_b3_1, f_b3, z0_b3, z1_b3, z2_b3, z3_b3, z4_b3⟩ := blk2 K_b3
          go_wp2_with fail
          go_returns
          refine ⟨?_, by go_grown⟩
          have e := E.out
          rw [HX.out, nd_zero] at e
          rw [e]; rfl
        · have zy : zeroN y = false := zeroN_1 hy
          have E2 := Lib.hid (nd_pos hy)
          clear hy
          go_wp2_with fail
          refine (wide_Zero uy _).mono ?_
          rintro e w2 ⟨rfl, hb_⟩
          have N_b3 : Blk w2 (w.heap.size + 1) #[_, _] := Blk.below (by (repeat' (first | (with_reducible assumption) | (with_reducible refine Blk.new ?_; first | (with_reducible rfl) | (simp; done)) | (with_reducible refine Blk.alloc ?_ _) | (with_reducible refine Blk.drew ?_) | (with_reducible refine Blk.drewN ?_ _) | (with_reducible apply Blk.set2_0) | (with_reducible apply Blk.set2_1) | (with_reducible refine Blk.other ?_ _ ?_; rotate_left; focus (first | omega | (simp; done) | (simp; omega)))))) hb_
          have HB_w2 : Below w.heap.size w w2 := Below.trans (by go_grown) (hb_.mono (by go_size))
          have HZ_w2 : w.heap.size ≤ w2.heap.size := HB_w2.size
          clear hb_
          clear c_b3_0 c_b3_1 f_b3 z1_b3 z2_b3 z3_b3 z4_b3 K_b3
          have K_b3 := N_b3
          clear N_b3
          obtain ⟨c_b3_0, c_b3_1, f_b3, z0_b3, z1_b3, z2_b3, z3_b3, z4_b3⟩ := blk2 K_b3
          go_wp2_with fail
          refine (wide_DivWord IsU.zero uy ten (by decide) _).mono ?_
          rintro e w3 ⟨p1, p0, q1, q0, r, rfl, up, uq, ir, hb_⟩
          have N_b3 : Blk w3 (w.heap.size + 1) #[_, _] := Blk.below (by (repeat' (first | (with_reducible assumption) | (with_reducible refine Blk.new ?_; first | (with_reducible rfl) | (simp; done)) | (with_reducible refine Blk.alloc ?_ _) | (with_reducible refine Blk.drew ?_) | (with_reducible refine Blk.drewN ?_ _) | (with_reducible apply Blk.set2_0) | (with_reducible apply Blk.set2_1) | (with_reducible refine Blk.other ?_ _ ?_; rotate_left; focus (first | omega | (simp; done) | (simp; omega)))))) hb_
          have HB_w3 : Below w.heap.size w w3 := Below.trans (by go_grown) (hb_.mono (by go_size))
          have HZ_w3 : w.heap.size ≤ w3.heap.size := HB_w3.size
          clear hb_
          clear c_b3_0 c_b3_1 f_b3 z1_b3 z2_b3 z3_b3 z4_b3 K_b3
          have K_b3 := N_b3
          clear N_b3
          obtain ⟨c_b3_0, c_b3_1, f_b3, z0_b3, z1_b3, z2_b3, z3_b3, z4_b3⟩ := blk2 K_b3
          go_wp2_with fail
          go_roundw
          case rel =>
            have e := E.out; have e2 := E2.out; have lt := uy.lt
            exact ⟨n + 1, y / 10, _, _, by go_num, uq.cast (by omega), by omega, (by (repeat' (first | (with_reducible assumption) | (with_reducible refine Blk.new ?_; first | (with_reducible rfl) | (simp; done)) | (with_reducible refine Blk.alloc ?_ _) | (with_reducible refine Blk.drew ?_) | (with_reducible refine Blk.drewN ?_ _) | (with_reducible apply Blk.set2_0) | (with_reducible apply Blk.set2_1) | (with_reducible refine Blk.other ?_ _ ?_; rotate_left; focus (first | omega | (simp; done) | (simp; omega)))))), by go_grown⟩
          case measure => simp [intOf]; omega
    · have zx : zeroN x = false := zeroN_1 hx
      have E2 := Lib.hid (nd_big (N := x * 340282366920938463463374607431768211456 + y) (by omega))
      have nb2 : n ≤ 59 := by have := E.out; have := E2.out; omega
      clear hx
      go_wp2_with fail
      refine (wide_Zero ux _).mono ?_
      rintro e w1 ⟨rfl, hb_⟩
      have N_b2 : Blk w1 (w.heap.size) #[_, _] := Blk.below (by (repeat' (first | (with_reducible assumption) | (with_reducible refine Blk.new ?_; first | (with_reducible rfl) | (simp; done)) | (with_reducible refine Blk.alloc ?_ _) | (with_reducible refine Blk.drew ?_) | (with_reducible refine Blk.drewN ?_ _) | (with_reducible apply Blk.set2_0) | (with_reducible apply Blk.set2_1) | (with_reducible refine Blk.other ?_ _ ?_; rotate_left; focus (first | omega | (simp; done) | (simp; omega)))))) hb_
      have N_b3 : Blk w1 (w.heap.size + 1) #[_, _] := Blk.below (by (repeat' (first | (with_reducible assumption) | (with_reducible refine Blk.new ?_; first | (with_reducible rfl) | (simp; done)) | (with_reducible refine Blk.alloc ?_ _) | (with_reducible refine Blk.drew ?_) | (with_reducible refine Blk.drewN ?_ _) | (with_reducible apply Blk.set2_0) | (with_reducible apply Blk.set2_1) | (with_reducible refine Blk.other ?_ _ ?_; rotate_left; focus (first | omega | (simp; done) | (simp; omega)))))) hb_
      have HB_w1 : Below w.heap.size w w1 := Below.trans (by go_grown) (hb_.mono (by go_size))
      have HZ_w1 : w.heap.size ≤ w1.heap.size := HB_w1.size
      clear hb_
      clear c_b3_0 c_b3_1 f_b3 z1_b3 z2_b3 z3_b3 z4_b3 K_b3
      have K_b2 := N_b2
      clear N_b2
      have K_b3 := N_b3
      clear N_b3
      obtain ⟨c_b2_0, c_b2_1, f_b2, z0_b2, z1_b2, z2_b2, z3_b2, z4_b2⟩ := blk2 K_b2
      obtain ⟨c_b3_0, c_b3_1, f_b3, z0_b3, z1_b3, z2_b3, z3_b3, z4_b3⟩ := blk2 K_b3
      go_wp2_with fail
      refine (wide_DivWord ux uy big (by decide) _).mono ?_
      rintro e w2 ⟨p1, p0, q1, q0, r, rfl, up, uq, ir, hb_⟩
      have N_b2 : Blk w2 (w.heap.size) #[_, _] := Blk.below (by (repeat' (first | (with_reducible assumption) | (with_reducible refine Blk.new ?_; first | (with_reducible rfl) | (simp; done)) | (with_reducible refine Blk.alloc ?_ _) | (with_reducible refine Blk.drew ?_) | (with_reducible refine Blk.drewN ?_ _) | (with_reducible apply Blk.set2_0) | (with_reducible apply Blk.set2_1) | (with_reducible refine Blk.other ?_ _ ?_; rotate_left; focus (first | omega | (simp; done) | (simp; omega)))))) hb_
      have N_b3 : Blk w2 (w.heap.size + 1) #[_, _] := Blk.below (by (repeat' (first | (with_reducible assumption) | (with_reducible refine Blk.new ?_; first | (with_reducible rfl) | (simp; done)) | (with_reducible refine Blk.alloc ?_ _) | (with_reducible refine Blk.drew ?_) | (with_reducible refine Blk.drewN ?_ _) | (with_reducible apply Blk.set2_0) | (with_reducible apply Blk.set2_1) | (with_reducible refine Blk.other ?_ _ ?_; rotate_left; focus (first | omega | (simp; done) | (simp; omega)))))) hb_
      have HB_w2 : Below w.heap.size w w2 := Below.trans (by go_grown) (hb_.mono (by go_size))
      have HZ_w2 : w.heap.size ≤ w2.heap.size := HB_w2.size
      clear hb_
      clear c_b2_0 c_b2_1 f_b2 z1_b2 z2_b2 z3_b2 z4_b2 c_b3_0 c_b3_1 f_b3 z1_b3 z2_b3 z3_b3 z4_b3 K_b2 K_b3
      have K_b2 := N_b2
      clear N_b2
      have K_b3 := N_b3
      clear N_b3
      obtain ⟨c_b2_0, c_b2_1, f_b2, z0_b2, z1_b2, z2_b2, z3_b2, z4_b2⟩ := blk2 K_b2
      obtain ⟨c_b3_0, c_b3_1, f_b3, z0_b3, z1_b3, z2_b3, z3_b3, z4_b3⟩ := blk2 K_b3
      go_wp2_with fail
      go_roundw
      case rel =>
        have e := E.out; have e2 := E2.out
        refine ⟨n + 19, _, _, _, _, _, _, by go_num, up, uq, ?_, (by (repeat' (first | (with_reducible assumption) | (with_reducible refine Blk.new ?_; first | (with_reducible rfl) | (simp; done)) | (with_reducible refine Blk.alloc ?_ _) | (with_reducible refine Blk.drew ?_) | (with_reducible refine Blk.drewN ?_ _) | (with_reducible apply Blk.set2_0) | (with_reducible apply Blk.set2_1) | (with_reducible refine Blk.other ?_ _ ?_; rotate_left; focus (first | omega | (simp; done) | (simp; omega)))))), (by (repeat' (first | (with_reducible assumption) | (with_reducible refine Blk.new ?_; first | (with_reducible rfl) | (simp; done)) | (with_reducible refine Blk.alloc ?_ _) | (with_reducible refine Blk.drew ?_) | (with_reducible refine Blk.drewN ?_ _) | (with_reducible apply Blk.set2_0) | (with_reducible apply Blk.set2_1) | (with_reducible refine Blk.other ?_ _ ?_; rotate_left; focus (first | omega | (simp; done) | (simp; omega)))))), by go_grown⟩
        rw [Nat.div_add_mod']
        omega
      case measure => simp [intOf]; omega

end Go.Proofs.YtpambeengdhhmaaGreatDoor
