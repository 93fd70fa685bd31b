/-
  WideRoots: whatever the number of four words, its root's square is at most the number, that of one more is above it. For every input, without condition.
-/
import Derived.Test.YtpnfomnnbmncaaaLaw2
import Derived.Test.YtpnfomnnbmncaaaOpen
import Derived.Deep.DeepCutAuto
namespace Go.Proofs.Ytpnfomnnbmncaaa
open Go.ChangeShapes Go.WideShapes Go.ChangeAt Go.RowKit
open Go.ChangeMaps (open_string shut_string)
set_option linter.unusedVariables false

theorem roots_end {r h l : Nat} {o : Int} (io : IsW o ((r + 1) / 340282366920938463463374607431768211456)) (ho : ¬ o = 1) (hr : r < 340282366920938463463374607431768211456) (h2 : h * 340282366920938463463374607431768211456 + l < (r + 1) * (r + 1)) :
    0 < cmpN ((r + 1) % 340282366920938463463374607431768211456 * ((r + 1) % 340282366920938463463374607431768211456) / 340282366920938463463374607431768211456 * 340282366920938463463374607431768211456 + (r + 1) % 340282366920938463463374607431768211456 * ((r + 1) % 340282366920938463463374607431768211456) % 340282366920938463463374607431768211456) (h * 340282366920938463463374607431768211456 + l) := by
  obtain ⟨y1, y2, y3⟩ := io
  have hlt : r + 1 < 340282366920938463463374607431768211456 := by omega
  rw [Nat.mod_eq_of_lt hlt, Nat.div_add_mod']
  unfold cmpN; repeat' split
  all_goals omega

set_option maxHeartbeats 3200000 in
set_option maxRecDepth 100000 in
theorem walk_WideRoots {h1 h0 l1 l0 : Int} {h l : Nat} (hh : IsU h1 h0 h) (hl : IsU l1 l0 l) (w : World) :
    Calls Try.prog 5 #[.agg #[.int .u64 h1, .int .u64 h0], .agg #[.int .u64 l1, .int .u64 l0]] w fun e w' => e = .returned (.bool true) ∧ Below w.heap.size w w' := by
  have u1 := Lib.hid (show IsU 0 1 1 from ⟨by omega, by omega, by omega, by omega, by omega⟩)
  go_enter Try.func5, Try.ntmps5
  go_wp2_with fail
  refine (law_awake _).mono ?_
  rintro e w1 ⟨rfl, hb_⟩
  have N_b2 : Blk w1 (w.heap.size) #[_, _] := Blk.below (by (repeat' (first | (with_reducible assumption) | (with_reducible refine Blk.new ?_; first | (with_reducible rfl) | (simp; done)) | (with_reducible refine Blk.alloc ?_ _) | (with_reducible refine Blk.drew ?_) | (with_reducible refine Blk.drewN ?_ _) | (with_reducible apply Blk.set2_0) | (with_reducible apply Blk.set2_1) | (with_reducible refine Blk.other ?_ _ ?_; rotate_left; focus (first | omega | (simp; done) | (simp; omega)))))) hb_
  have N_b3 : Blk w1 (w.heap.size + 1) #[_, _] := Blk.below (by (repeat' (first | (with_reducible assumption) | (with_reducible refine Blk.new ?_; first | (with_reducible rfl) | (simp; done)) | (with_reducible refine Blk.alloc ?_ _) | (with_reducible refine Blk.drew ?_) | (with_reducible refine Blk.drewN ?_ _) | (with_reducible apply Blk.set2_0) | (with_reducible apply Blk.set2_1) | (with_reducible refine Blk.other ?_ _ ?_; rotate_left; focus (first | omega | (simp; done) | (simp; omega)))))) hb_
  have HB_w1 : Below w.heap.size w w1 := Below.trans (by go_grown) (hb_.mono (by go_size))
  have HZ_w1 : w.heap.size ≤ w1.heap.size := HB_w1.size
  clear hb_
  have K_b2 := N_b2
  clear N_b2
  have K_b3 := N_b3
  clear N_b3
  obtain ⟨c_b2_0, c_b2_1, f_b2, z0_b2, z1_b2, z2_b2, z3_b2, z4_b2⟩ := blk2 K_b2
  obtain ⟨c_b3_0, c_b3_1, f_b3, z0_b3, z1_b3, z2_b3, z3_b3, z4_b3⟩ := blk2 K_b3
  go_wp2_with fail
  refine (wide_Root hh hl _).mono ?_
  rintro e w2 ⟨r, r1, r0, b, rfl, hb, ur, hr1, hr2, hb_⟩
  have N_b2 : Blk w2 (w.heap.size) #[_, _] := Blk.below (by (repeat' (first | (with_reducible assumption) | (with_reducible refine Blk.new ?_; first | (with_reducible rfl) | (simp; done)) | (with_reducible refine Blk.alloc ?_ _) | (with_reducible refine Blk.drew ?_) | (with_reducible refine Blk.drewN ?_ _) | (with_reducible apply Blk.set2_0) | (with_reducible apply Blk.set2_1) | (with_reducible refine Blk.other ?_ _ ?_; rotate_left; focus (first | omega | (simp; done) | (simp; omega)))))) hb_
  have N_b3 : Blk w2 (w.heap.size + 1) #[_, _] := Blk.below (by (repeat' (first | (with_reducible assumption) | (with_reducible refine Blk.new ?_; first | (with_reducible rfl) | (simp; done)) | (with_reducible refine Blk.alloc ?_ _) | (with_reducible refine Blk.drew ?_) | (with_reducible refine Blk.drewN ?_ _) | (with_reducible apply Blk.set2_0) | (with_reducible apply Blk.set2_1) | (with_reducible refine Blk.other ?_ _ ?_; rotate_left; focus (first | omega | (simp; done) | (simp; omega)))))) hb_
  have HB_w2 : Below w.heap.size w w2 := Below.trans (by go_grown) (hb_.mono (by go_size))
  have HZ_w2 : w.heap.size ≤ w2.heap.size := HB_w2.size
  clear hb_
  clear c_b2_0 c_b2_1 f_b2 z1_b2 z2_b2 z3_b2 z4_b2 c_b3_0 c_b3_1 f_b3 z1_b3 z2_b3 z3_b3 z4_b3 K_b2 K_b3
  have K_b2 := N_b2
  clear N_b2
  have K_b3 := N_b3
  clear N_b3
  obtain ⟨c_b2_0, c_b2_1, f_b2, z0_b2, z1_b2, z2_b2, z3_b2, z4_b2⟩ := blk2 K_b2
  obtain ⟨c_b3_0, c_b3_1, f_b3, z0_b3, z1_b3, z2_b3, z3_b3, z4_b3⟩ := blk2 K_b3
  have HBB := Lib.hid hb; have HR1 := Lib.hid hr1; have HR2 := Lib.hid hr2
  clear hb hr1 hr2
  go_wp2_with fail
  refine (wide_Mul ur ur _).mono ?_
  rintro e w3 ⟨m1, m0, n1, n0, rfl, um, un, hb_⟩
  have N_b2 : Blk w3 (w.heap.size) #[_, _] := Blk.below (by (repeat' (first | (with_reducible assumption) | (with_reducible refine Blk.new ?_; first | (with_reducible rfl) | (simp; done)) | (with_reducible refine Blk.alloc ?_ _) | (with_reducible refine Blk.drew ?_) | (with_reducible refine Blk.drewN ?_ _) | (with_reducible apply Blk.set2_0) | (with_reducible apply Blk.set2_1) | (with_reducible refine Blk.other ?_ _ ?_; rotate_left; focus (first | omega | (simp; done) | (simp; omega)))))) hb_
  have N_b3 : Blk w3 (w.heap.size + 1) #[_, _] := Blk.below (by (repeat' (first | (with_reducible assumption) | (with_reducible refine Blk.new ?_; first | (with_reducible rfl) | (simp; done)) | (with_reducible refine Blk.alloc ?_ _) | (with_reducible refine Blk.drew ?_) | (with_reducible refine Blk.drewN ?_ _) | (with_reducible apply Blk.set2_0) | (with_reducible apply Blk.set2_1) | (with_reducible refine Blk.other ?_ _ ?_; rotate_left; focus (first | omega | (simp; done) | (simp; omega)))))) hb_
  have N_b5 : Blk w3 (w2.heap.size) #[_, _] := Blk.below (by (repeat' (first | (with_reducible assumption) | (with_reducible refine Blk.new ?_; first | (with_reducible rfl) | (simp; done)) | (with_reducible refine Blk.alloc ?_ _) | (with_reducible refine Blk.drew ?_) | (with_reducible refine Blk.drewN ?_ _) | (with_reducible apply Blk.set2_0) | (with_reducible apply Blk.set2_1) | (with_reducible refine Blk.other ?_ _ ?_; rotate_left; focus (first | omega | (simp; done) | (simp; omega)))))) hb_
  have HB_w3 : Below w.heap.size w w3 := Below.trans (by go_grown) (hb_.mono (by go_size))
  have HZ_w3 : w.heap.size ≤ w3.heap.size := HB_w3.size
  clear hb_
  clear c_b2_0 c_b2_1 f_b2 z1_b2 z2_b2 z3_b2 z4_b2 c_b3_0 c_b3_1 f_b3 z1_b3 z2_b3 z3_b3 z4_b3 K_b2 K_b3
  have K_b2 := N_b2
  clear N_b2
  have K_b3 := N_b3
  clear N_b3
  have K_b5 := N_b5
  clear N_b5
  obtain ⟨c_b2_0, c_b2_1, f_b2, z0_b2, z1_b2, z2_b2, z3_b2, z4_b2⟩ := blk2 K_b2
  obtain ⟨c_b3_0, c_b3_1, f_b3, z0_b3, z1_b3, z2_b3, z3_b3, z4_b3⟩ := blk2 K_b3
  obtain ⟨c_b5_0, c_b5_1, f_b5, z0_b5, z1_b5, z2_b5, z3_b5, z4_b5⟩ := blk2 K_b5
  obtain ⟨cm, ecm⟩ : ∃ cm : Int, cm = cmpN (r * r / 340282366920938463463374607431768211456 * 340282366920938463463374607431768211456 + r * r % 340282366920938463463374607431768211456) (h * 340282366920938463463374607431768211456 + l) := ⟨_, rfl⟩
  have hcm : cm ≤ 0 := by
    have := HR1.out
    rw [ecm, Nat.div_add_mod']
    unfold cmpN; repeat' split
    all_goals omega
  have HCM := Lib.hid ecm; clear ecm
  go_upto_region 5 with fail
  go_cut [42] (fun s42 wx => s42 = .bool false ∧ Blk wx w.heap.size #[.int .u64 h1, .int .u64 h0] ∧ Blk wx (w.heap.size + 1) #[.int .u64 l1, .int .u64 l0] ∧ Blk wx w2.heap.size #[.int .u64 r1, .int .u64 r0] ∧ Blk wx w3.heap.size #[.int .u64 m1, .int .u64 m0] ∧ Blk wx (w3.heap.size + 1) #[.int .u64 n1, .int .u64 n0] ∧ Below w.heap.size w wx)
  case first =>
    by_cases hN : r * r = h * 340282366920938463463374607431768211456 + l
    · obtain rfl : b = true := HBB.out.2 hN
      have e1 : r * r / 340282366920938463463374607431768211456 = h := by have := hl.lt; omega
      have e2 : r * r % 340282366920938463463374607431768211456 = l := by have := hl.lt; omega
      obtain ⟨rfl, rfl⟩ := (um.cast e1).inj hh
      obtain ⟨rfl, rfl⟩ := (un.cast e2).inj hl
      clear hN e1 e2
      go_wp2_with fail
      refine (wide_Cmp2 um un hh hl _).mono ?_
      rintro e w4 ⟨rfl, hb_⟩
      have N_b2 : Blk w4 (w.heap.size) #[_, _] := Blk.below (by (repeat' (first | (with_reducible assumption) | (with_reducible refine Blk.new ?_; first | (with_reducible rfl) | (simp; done)) | (with_reducible refine Blk.alloc ?_ _) | (with_reducible refine Blk.drew ?_) | (with_reducible refine Blk.drewN ?_ _) | (with_reducible apply Blk.set2_0) | (with_reducible apply Blk.set2_1) | (with_reducible refine Blk.other ?_ _ ?_; rotate_left; focus (first | omega | (simp; done) | (simp; omega)))))) hb_
      have N_b3 : Blk w4 (w.heap.size + 1) #[_, _] := Blk.below (by (repeat' (first | (with_reducible assumption) | (with_reducible refine Blk.new ?_; first | (with_reducible rfl) | (simp; done)) | (with_reducible refine Blk.alloc ?_ _) | (with_reducible refine Blk.drew ?_) | (with_reducible refine Blk.drewN ?_ _) | (with_reducible apply Blk.set2_0) | (with_reducible apply Blk.set2_1) | (with_reducible refine Blk.other ?_ _ ?_; rotate_left; focus (first | omega | (simp; done) | (simp; omega)))))) hb_
      have N_b5 : Blk w4 (w2.heap.size) #[_, _] := Blk.below (by (repeat' (first | (with_reducible assumption) | (with_reducible refine Blk.new ?_; first | (with_reducible rfl) | (simp; done)) | (with_reducible refine Blk.alloc ?_ _) | (with_reducible refine Blk.drew ?_) | (with_reducible refine Blk.drewN ?_ _) | (with_reducible apply Blk.set2_0) | (with_reducible apply Blk.set2_1) | (with_reducible refine Blk.other ?_ _ ?_; rotate_left; focus (first | omega | (simp; done) | (simp; omega)))))) hb_
      have N_b7 : Blk w4 (w3.heap.size) #[_, _] := Blk.below (by (repeat' (first | (with_reducible assumption) | (with_reducible refine Blk.new ?_; first | (with_reducible rfl) | (simp; done)) | (with_reducible refine Blk.alloc ?_ _) | (with_reducible refine Blk.drew ?_) | (with_reducible refine Blk.drewN ?_ _) | (with_reducible apply Blk.set2_0) | (with_reducible apply Blk.set2_1) | (with_reducible refine Blk.other ?_ _ ?_; rotate_left; focus (first | omega | (simp; done) | (simp; omega)))))) hb_
      have N_b8 : Blk w4 (w3.heap.size + 1) #[_, _] := Blk.below (by (repeat' (first | (with_reducible assumption) | (with_reducible refine Blk.new ?_; first | (with_reducible rfl) | (simp; done)) | (with_reducible refine Blk.alloc ?_ _) | (with_reducible refine Blk.drew ?_) | (with_reducible refine Blk.drewN ?_ _) | (with_reducible apply Blk.set2_0) | (with_reducible apply Blk.set2_1) | (with_reducible refine Blk.other ?_ _ ?_; rotate_left; focus (first | omega | (simp; done) | (simp; omega)))))) hb_
      have HB_w4 : Below w.heap.size w w4 := Below.trans (by go_grown) (hb_.mono (by go_size))
      have HZ_w4 : w.heap.size ≤ w4.heap.size := HB_w4.size
      clear hb_
      clear c_b2_0 c_b2_1 f_b2 z1_b2 z2_b2 z3_b2 z4_b2 c_b3_0 c_b3_1 f_b3 z1_b3 z2_b3 z3_b3 z4_b3 c_b5_0 c_b5_1 f_b5 z1_b5 z2_b5 z3_b5 z4_b5 K_b2 K_b3 K_b5
      have K_b2 := N_b2
      clear N_b2
      have K_b3 := N_b3
      clear N_b3
      have K_b5 := N_b5
      clear N_b5
      have K_b7 := N_b7
      clear N_b7
      have K_b8 := N_b8
      clear N_b8
      obtain ⟨c_b2_0, c_b2_1, f_b2, z0_b2, z1_b2, z2_b2, z3_b2, z4_b2⟩ := blk2 K_b2
      obtain ⟨c_b3_0, c_b3_1, f_b3, z0_b3, z1_b3, z2_b3, z3_b3, z4_b3⟩ := blk2 K_b3
      obtain ⟨c_b5_0, c_b5_1, f_b5, z0_b5, z1_b5, z2_b5, z3_b5, z4_b5⟩ := blk2 K_b5
      obtain ⟨c_b7_0, c_b7_1, f_b7, z0_b7, z1_b7, z2_b7, z3_b7, z4_b7⟩ := blk2 K_b7
      obtain ⟨c_b8_0, c_b8_1, f_b8, z0_b8, z1_b8, z2_b8, z3_b8, z4_b8⟩ := blk2 K_b8
      rw [← HCM.out]
      go_wp2_with fail
      go_meet
      exact ⟨congrArg Value.bool (decide_eq_false (by omega)), (by (repeat' (first | (with_reducible assumption) | (with_reducible refine Blk.new ?_; first | (with_reducible rfl) | (simp; done)) | (with_reducible refine Blk.alloc ?_ _) | (with_reducible refine Blk.drew ?_) | (with_reducible refine Blk.drewN ?_ _) | (with_reducible apply Blk.set2_0) | (with_reducible apply Blk.set2_1) | (with_reducible refine Blk.other ?_ _ ?_; rotate_left; focus (first | omega | (simp; done) | (simp; omega)))))), (by (repeat' (first | (with_reducible assumption) | (with_reducible refine Blk.new ?_; first | (with_reducible rfl) | (simp; done)) | (with_reducible refine Blk.alloc ?_ _) | (with_reducible refine Blk.drew ?_) | (with_reducible refine Blk.drewN ?_ _) | (with_reducible apply Blk.set2_0) | (with_reducible apply Blk.set2_1) | (with_reducible refine Blk.other ?_ _ ?_; rotate_left; focus (first | omega | (simp; done) | (simp; omega)))))), (by (repeat' (first | (with_reducible assumption) | (with_reducible refine Blk.new ?_; first | (with_reducible rfl) | (simp; done)) | (with_reducible refine Blk.alloc ?_ _) | (with_reducible refine Blk.drew ?_) | (with_reducible refine Blk.drewN ?_ _) | (with_reducible apply Blk.set2_0) | (with_reducible apply Blk.set2_1) | (with_reducible refine Blk.other ?_ _ ?_; rotate_left; focus (first | omega | (simp; done) | (simp; omega)))))), (by (repeat' (first | (with_reducible assumption) | (with_reducible refine Blk.new ?_; first | (with_reducible rfl) | (simp; done)) | (with_reducible refine Blk.alloc ?_ _) | (with_reducible refine Blk.drew ?_) | (with_reducible refine Blk.drewN ?_ _) | (with_reducible apply Blk.set2_0) | (with_reducible apply Blk.set2_1) | (with_reducible refine Blk.other ?_ _ ?_; rotate_left; focus (first | omega | (simp; done) | (simp; omega)))))), (by (repeat' (first | (with_reducible assumption) | (with_reducible refine Blk.new ?_; first | (with_reducible rfl) | (simp; done)) | (with_reducible refine Blk.alloc ?_ _) | (with_reducible refine Blk.drew ?_) | (with_reducible refine Blk.drewN ?_ _) | (with_reducible apply Blk.set2_0) | (with_reducible apply Blk.set2_1) | (with_reducible refine Blk.other ?_ _ ?_; rotate_left; focus (first | omega | (simp; done) | (simp; omega)))))), by go_grown⟩
    · obtain rfl : b = false := by
        cases b with
        | false => rfl
        | true => exact absurd (HBB.out.1 rfl) hN
      have hN' : ¬ (m1 = h1 ∧ m0 = h0 ∧ n1 = l1 ∧ n0 = l0) := by
        rintro ⟨rfl, rfl, rfl, rfl⟩
        apply hN
        rw [← um.fn hh, ← un.fn hl, Nat.div_add_mod']
      clear hN
      by_cases c1 : m1 = h1
      · subst c1
        by_cases c2 : m0 = h0
        · subst c2
          by_cases c3 : n1 = l1
          · subst c3
            have c4 : ¬ n0 = l0 := fun e => hN' ⟨rfl, rfl, rfl, e⟩
            have c4' : (n0 == l0) = false := by simpa using c4
            clear hN'
            go_wp2_with fail
            refine (wide_Cmp2 um un hh hl _).mono ?_
            rintro e w4 ⟨rfl, hb_⟩
            have N_b2 : Blk w4 (w.heap.size) #[_, _] := Blk.below (by (repeat' (first | (with_reducible assumption) | (with_reducible refine Blk.new ?_; first | (with_reducible rfl) | (simp; done)) | (with_reducible refine Blk.alloc ?_ _) | (with_reducible refine Blk.drew ?_) | (with_reducible refine Blk.drewN ?_ _) | (with_reducible apply Blk.set2_0) | (with_reducible apply Blk.set2_1) | (with_reducible refine Blk.other ?_ _ ?_; rotate_left; focus (first | omega | (simp; done) | (simp; omega)))))) hb_
            have N_b3 : Blk w4 (w.heap.size + 1) #[_, _] := Blk.below (by (repeat' (first | (with_reducible assumption) | (with_reducible refine Blk.new ?_; first | (with_reducible rfl) | (simp; done)) | (with_reducible refine Blk.alloc ?_ _) | (with_reducible refine Blk.drew ?_) | (with_reducible refine Blk.drewN ?_ _) | (with_reducible apply Blk.set2_0) | (with_reducible apply Blk.set2_1) | (with_reducible refine Blk.other ?_ _ ?_; rotate_left; focus (first | omega | (simp; done) | (simp; omega)))))) hb_
            have N_b5 : Blk w4 (w2.heap.size) #[_, _] := Blk.below (by (repeat' (first | (with_reducible assumption) | (with_reducible refine Blk.new ?_; first | (with_reducible rfl) | (simp; done)) | (with_reducible refine Blk.alloc ?_ _) | (with_reducible refine Blk.drew ?_) | (with_reducible refine Blk.drewN ?_ _) | (with_reducible apply Blk.set2_0) | (with_reducible apply Blk.set2_1) | (with_reducible refine Blk.other ?_ _ ?_; rotate_left; focus (first | omega | (simp; done) | (simp; omega)))))) hb_
            have N_b7 : Blk w4 (w3.heap.size) #[_, _] := Blk.below (by (repeat' (first | (with_reducible assumption) | (with_reducible refine Blk.new ?_; first | (with_reducible rfl) | (simp; done)) | (with_reducible refine Blk.alloc ?_ _) | (with_reducible refine Blk.drew ?_) | (with_reducible refine Blk.drewN ?_ _) | (with_reducible apply Blk.set2_0) | (with_reducible apply Blk.set2_1) | (with_reducible refine Blk.other ?_ _ ?_; rotate_left; focus (first | omega | (simp; done) | (simp; omega)))))) hb_
            have N_b8 : Blk w4 (w3.heap.size + 1) #[_, _] := Blk.below (by (repeat' (first | (with_reducible assumption) | (with_reducible refine Blk.new ?_; first | (with_reducible rfl) | (simp; done)) | (with_reducible refine Blk.alloc ?_ _) | (with_reducible refine Blk.drew ?_) | (with_reducible refine Blk.drewN ?_ _) | (with_reducible apply Blk.set2_0) | (with_reducible apply Blk.set2_1) | (with_reducible refine Blk.other ?_ _ ?_; rotate_left; focus (first | omega | (simp; done) | (simp; omega)))))) hb_
            have HB_w4 : Below w.heap.size w w4 := Below.trans (by go_grown) (hb_.mono (by go_size))
            have HZ_w4 : w.heap.size ≤ w4.heap.size := HB_w4.size
            clear hb_
            clear c_b2_0 c_b2_1 f_b2 z1_b2 z2_b2 z3_b2 z4_b2 c_b3_0 c_b3_1 f_b3 z1_b3 z2_b3 z3_b3 z4_b3 c_b5_0 c_b5_1 f_b5 z1_b5 z2_b5 z3_b5 z4_b5 K_b2 K_b3 K_b5
            have K_b2 := N_b2
            clear N_b2
            have K_b3 := N_b3
            clear N_b3
            have K_b5 := N_b5
            clear N_b5
            have K_b7 := N_b7
            clear N_b7
            have K_b8 := N_b8
            clear N_b8
            obtain ⟨c_b2_0, c_b2_1, f_b2, z0_b2, z1_b2, z2_b2, z3_b2, z4_b2⟩ := blk2 K_b2
            obtain ⟨c_b3_0, c_b3_1, f_b3, z0_b3, z1_b3, z2_b3, z3_b3, z4_b3⟩ := blk2 K_b3
            obtain ⟨c_b5_0, c_b5_1, f_b5, z0_b5, z1_b5, z2_b5, z3_b5, z4_b5⟩ := blk2 K_b5
            obtain ⟨c_b7_0, c_b7_1, f_b7, z0_b7, z1_b7, z2_b7, z3_b7, z4_b7⟩ := blk2 K_b7
            obtain ⟨c_b8_0, c_b8_1, f_b8, z0_b8, z1_b8, z2_b8, z3_b8, z4_b8⟩ := blk2 K_b8
            rw [← HCM.out]
            go_wp2_with fail
            go_meet
            exact ⟨congrArg Value.bool (decide_eq_false (by omega)), (by (repeat' (first | (with_reducible assumption) | (with_reducible refine Blk.new ?_; first | (with_reducible rfl) | (simp; done)) | (with_reducible refine Blk.alloc ?_ _) | (with_reducible refine Blk.drew ?_) | (with_reducible refine Blk.drewN ?_ _) | (with_reducible apply Blk.set2_0) | (with_reducible apply Blk.set2_1) | (with_reducible refine Blk.other ?_ _ ?_; rotate_left; focus (first | omega | (simp; done) | (simp; omega)))))), (by (repeat' (first | (with_reducible assumption) | (with_reducible refine Blk.new ?_; first | (with_reducible rfl) | (simp; done)) | (with_reducible refine Blk.alloc ?_ _) | (with_reducible refine Blk.drew ?_) | (with_reducible refine Blk.drewN ?_ _) | (with_reducible apply Blk.set2_0) | (with_reducible apply Blk.set2_1) | (with_reducible refine Blk.other ?_ _ ?_; rotate_left; focus (first | omega | (simp; done) | (simp; omega)))))), (by (repeat' (first | (with_reducible assumption) | (with_reducible refine Blk.new ?_; first | (with_reducible rfl) | (simp; done)) | (with_reducible refine Blk.alloc ?_ _) | (with_reducible refine Blk.drew ?_) | (with_reducible refine Blk.drewN ?_ _) | (with_reducible apply Blk.set2_0) | (with_reducible apply Blk.set2_1) | (with_reducible refine Blk.other ?_ _ ?_; rotate_left; focus (first | omega | (simp; done) | (simp; omega)))))), (by (repeat' (first | (with_reducible assumption) | (with_reducible refine Blk.new ?_; first | (with_reducible rfl) | (simp; done)) | (with_reducible refine Blk.alloc ?_ _) | (with_reducible refine Blk.drew ?_) | (with_reducible refine Blk.drewN ?_ _) | (with_reducible apply Blk.set2_0) | (with_reducible apply Blk.set2_1) | (with_reducible refine Blk.other ?_ _ ?_; rotate_left; focus (first | omega | (simp; done) | (simp; omega)))))), (by (repeat' (first | (with_reducible assumption) | (with_reducible refine Blk.new ?_; first | (with_reducible rfl) | (simp; done)) | (with_reducible refine Blk.alloc ?_ _) | (with_reducible refine Blk.drew ?_) | (with_reducible refine Blk.drewN ?_ _) | (with_reducible apply Blk.set2_0) | (with_reducible apply Blk.set2_1) | (with_reducible refine Blk.other ?_ _ ?_; rotate_left; focus (first | omega | (simp; done) | (simp; omega)))))), by go_grown⟩
          · have c3' : (n1 == l1) = false := by simpa using c3
            clear hN'
            go_wp2_with fail
            refine (wide_Cmp2 um un hh hl _).mono ?_
            rintro e w4 ⟨rfl, hb_⟩
            have N_b2 : Blk w4 (w.heap.size) #[_, _] := Blk.below (by (repeat' (first | (with_reducible assumption) | (with_reducible refine Blk.new ?_; first | (with_reducible rfl) | (simp; done)) | (with_reducible refine Blk.alloc ?_ _) | (with_reducible refine Blk.drew ?_) | (with_reducible refine Blk.drewN ?_ _) | (with_reducible apply Blk.set2_0) | (with_reducible apply Blk.set2_1) | (with_reducible refine Blk.other ?_ _ ?_; rotate_left; focus (first | omega | (simp; done) | (simp; omega)))))) hb_
            have N_b3 : Blk w4 (w.heap.size + 1) #[_, _] := Blk.below (by (repeat' (first | (with_reducible assumption) | (with_reducible refine Blk.new ?_; first | (with_reducible rfl) | (simp; done)) | (with_reducible refine Blk.alloc ?_ _) | (with_reducible refine Blk.drew ?_) | (with_reducible refine Blk.drewN ?_ _) | (with_reducible apply Blk.set2_0) | (with_reducible apply Blk.set2_1) | (with_reducible refine Blk.other ?_ _ ?_; rotate_left; focus (first | omega | (simp; done) | (simp; omega)))))) hb_
            have N_b5 : Blk w4 (w2.heap.size) #[_, _] := Blk.below (by (repeat' (first | (with_reducible assumption) | (with_reducible refine Blk.new ?_; first | (with_reducible rfl) | (simp; done)) | (with_reducible refine Blk.alloc ?_ _) | (with_reducible refine Blk.drew ?_) | (with_reducible refine Blk.drewN ?_ _) | (with_reducible apply Blk.set2_0) | (with_reducible apply Blk.set2_1) | (with_reducible refine Blk.other ?_ _ ?_; rotate_left; focus (first | omega | (simp; done) | (simp; omega)))))) hb_
            have N_b7 : Blk w4 (w3.heap.size) #[_, _] := Blk.below (by (repeat' (first | (with_reducible assumption) | (with_reducible refine Blk.new ?_; first | (with_reducible rfl) | (simp; done)) | (with_reducible refine Blk.alloc ?_ _) | (with_reducible refine Blk.drew ?_) | (with_reducible refine Blk.drewN ?_ _) | (with_reducible apply Blk.set2_0) | (with_reducible apply Blk.set2_1) | (with_reducible refine Blk.other ?_ _ ?_; rotate_left; focus (first | omega | (simp; done) | (simp; omega)))))) hb_
            have N_b8 : Blk w4 (w3.heap.size + 1) #[_, _] := Blk.below (by (repeat' (first | (with_reducible assumption) | (with_reducible refine Blk.new ?_; first | (with_reducible rfl) | (simp; done)) | (with_reducible refine Blk.alloc ?_ _) | (with_reducible refine Blk.drew ?_) | (with_reducible refine Blk.drewN ?_ _) | (with_reducible apply Blk.set2_0) | (with_reducible apply Blk.set2_1) | (with_reducible refine Blk.other ?_ _ ?_; rotate_left; focus (first | omega | (simp; done) | (simp; omega)))))) hb_
            have HB_w4 : Below w.heap.size w w4 := Below.trans (by go_grown) (hb_.mono (by go_size))
            have HZ_w4 : w.heap.size ≤ w4.heap.size := HB_w4.size
            clear hb_
            clear c_b2_0 c_b2_1 f_b2 z1_b2 z2_b2 z3_b2 z4_b2 c_b3_0 c_b3_1 f_b3 z1_b3 z2_b3 z3_b3 z4_b3 c_b5_0 c_b5_1 f_b5 z1_b5 z2_b5 z3_b5 z4_b5 K_b2 K_b3 K_b5
            have K_b2 := N_b2
            clear N_b2
            have K_b3 := N_b3
            clear N_b3
            have K_b5 := N_b5
            clear N_b5
            have K_b7 := N_b7
            clear N_b7
            have K_b8 := N_b8
            clear N_b8
            obtain ⟨c_b2_0, c_b2_1, f_b2, z0_b2, z1_b2, z2_b2, z3_b2, z4_b2⟩ := blk2 K_b2
            obtain ⟨c_b3_0, c_b3_1, f_b3, z0_b3, z1_b3, z2_b3, z3_b3, z4_b3⟩ := blk2 K_b3
            obtain ⟨c_b5_0, c_b5_1, f_b5, z0_b5, z1_b5, z2_b5, z3_b5, z4_b5⟩ := blk2 K_b5
            obtain ⟨c_b7_0, c_b7_1, f_b7, z0_b7, z1_b7, z2_b7, z3_b7, z4_b7⟩ := blk2 K_b7
            obtain ⟨c_b8_0, c_b8_1, f_b8, z0_b8, z1_b8, z2_b8, z3_b8, z4_b8⟩ := blk2 K_b8
            rw [← HCM.out]
            go_wp2_with fail
            go_meet
            exact ⟨congrArg Value.bool (decide_eq_false (by omega)), (by (repeat' (first | (with_reducible assumption) | (with_reducible refine Blk.new ?_; first | (with_reducible rfl) | (simp; done)) | (with_reducible refine Blk.alloc ?_ _) | (with_reducible refine Blk.drew ?_) | (with_reducible refine Blk.drewN ?_ _) | (with_reducible apply Blk.set2_0) | (with_reducible apply Blk.set2_1) | (with_reducible refine Blk.other ?_ _ ?_; rotate_left; focus (first | omega | (simp; done) | (simp; omega)))))), (by (repeat' (first | (with_reducible assumption) | (with_reducible refine Blk.new ?_; first | (with_reducible rfl) | (simp; done)) | (with_reducible refine Blk.alloc ?_ _) | (with_reducible refine Blk.drew ?_) | (with_reducible refine Blk.drewN ?_ _) | (with_reducible apply Blk.set2_0) | (with_reducible apply Blk.set2_1) | (with_reducible refine Blk.other ?_ _ ?_; rotate_left; focus (first | omega | (simp; done) | (simp; omega)))))), (by (repeat' (first | (with_reducible assumption) | (with_reducible refine Blk.new ?_; first | (with_reducible rfl) | (simp; done)) | (with_reducible refine Blk.alloc ?_ _) | (with_reducible refine Blk.drew ?_) | (with_reducible refine Blk.drewN ?_ _) | (with_reducible apply Blk.set2_0) | (with_reducible apply Blk.set2_1) | (with_reducible refine Blk.other ?_ _ ?_; rotate_left; focus (first | omega | (simp; done) | (simp; omega)))))), (by (repeat' (first | (with_reducible assumption) | (with_reducible refine Blk.new ?_; first | (with_reducible rfl) | (simp; done)) | (with_reducible refine Blk.alloc ?_ _) | (with_reducible refine Blk.drew ?_) | (with_reducible refine Blk.drewN ?_ _) | (with_reducible apply Blk.set2_0) | (with_reducible apply Blk.set2_1) | (with_reducible refine Blk.other ?_ _ ?_; rotate_left; focus (first | omega | (simp; done) | (simp; omega)))))), (by (repeat' (first | (with_reducible assumption) | (with_reducible refine Blk.new ?_; first | (with_reducible rfl) | (simp; done)) | (with_reducible refine Blk.alloc ?_ _) | (with_reducible refine Blk.drew ?_) | (with_reducible refine Blk.drewN ?_ _) | (with_reducible apply Blk.set2_0) | (with_reducible apply Blk.set2_1) | (with_reducible refine Blk.other ?_ _ ?_; rotate_left; focus (first | omega | (simp; done) | (simp; omega)))))), by go_grown⟩
        · have c2' : (m0 == h0) = false := by simpa using c2
          clear hN'
          go_wp2_with fail
          refine (wide_Cmp2 um un hh hl _).mono ?_
          rintro e w4 ⟨rfl, hb_⟩
          have N_b2 : Blk w4 (w.heap.size) #[_, _] := Blk.below (by (repeat' (first | (with_reducible assumption) | (with_reducible refine Blk.new ?_; first | (with_reducible rfl) | (simp; done)) | (with_reducible refine Blk.alloc ?_ _) | (with_reducible refine Blk.drew ?_) | (with_reducible refine Blk.drewN ?_ _) | (with_reducible apply Blk.set2_0) | (with_reducible apply Blk.set2_1) | (with_reducible refine Blk.other ?_ _ ?_; rotate_left; focus (first | omega | (simp; done) | (simp; omega)))))) hb_
          have N_b3 : Blk w4 (w.heap.size + 1) #[_, _] := Blk.below (by (repeat' (first | (with_reducible assumption) | (with_reducible refine Blk.new ?_; first | (with_reducible rfl) | (simp; done)) | (with_reducible refine Blk.alloc ?_ _) | (with_reducible refine Blk.drew ?_) | (with_reducible refine Blk.drewN ?_ _) | (with_reducible apply Blk.set2_0) | (with_reducible apply Blk.set2_1) | (with_reducible refine Blk.other ?_ _ ?_; rotate_left; focus (first | omega | (simp; done) | (simp; omega)))))) hb_
          have N_b5 : Blk w4 (w2.heap.size) #[_, _] := Blk.below (by (repeat' (first | (with_reducible assumption) | (with_reducible refine Blk.new ?_; first | (with_reducible rfl) | (simp; done)) | (with_reducible refine Blk.alloc ?_ _) | (with_reducible refine Blk.drew ?_) | (with_reducible refine Blk.drewN ?_ _) | (with_reducible apply Blk.set2_0) | (with_reducible apply Blk.set2_1) | (with_reducible refine Blk.other ?_ _ ?_; rotate_left; focus (first | omega | (simp; done) | (simp; omega)))))) hb_
          have N_b7 : Blk w4 (w3.heap.size) #[_, _] := Blk.below (by (repeat' (first | (with_reducible assumption) | (with_reducible refine Blk.new ?_; first | (with_reducible rfl) | (simp; done)) | (with_reducible refine Blk.alloc ?_ _) | (with_reducible refine Blk.drew ?_) | (with_reducible refine Blk.drewN ?_ _) | (with_reducible apply Blk.set2_0) | (with_reducible apply Blk.set2_1) | (with_reducible refine Blk.other ?_ _ ?_; rotate_left; focus (first | omega | (simp; done) | (simp; omega)))))) hb_
          have N_b8 : Blk w4 (w3.heap.size + 1) #[_, _] := Blk.below (by (repeat' (first | (with_reducible assumption) | (with_reducible refine Blk.new ?_; first | (with_reducible rfl) | (simp; done)) | (with_reducible refine Blk.alloc ?_ _) | (with_reducible refine Blk.drew ?_) | (with_reducible refine Blk.drewN ?_ _) | (with_reducible apply Blk.set2_0) | (with_reducible apply Blk.set2_1) | (with_reducible refine Blk.other ?_ _ ?_; rotate_left; focus (first | omega | (simp; done) | (simp; omega)))))) hb_
          have HB_w4 : Below w.heap.size w w4 := Below.trans (by go_grown) (hb_.mono (by go_size))
          have HZ_w4 : w.heap.size ≤ w4.heap.size := HB_w4.size
          clear hb_
          clear c_b2_0 c_b2_1 f_b2 z1_b2 z2_b2 z3_b2 z4_b2 c_b3_0 c_b3_1 f_b3 z1_b3 z2_b3 z3_b3 z4_b3 c_b5_0 c_b5_1 f_b5 z1_b5 z2_b5 z3_b5 z4_b5 K_b2 K_b3 K_b5
          have K_b2 := N_b2
          clear N_b2
          have K_b3 := N_b3
          clear N_b3
          have K_b5 := N_b5
          clear N_b5
          have K_b7 := N_b7
          clear N_b7
          have K_b8 := N_b8
          clear N_b8
          obtain ⟨c_b2_0, c_b2_1, f_b2, z0_b2, z1_b2, z2_b2, z3_b2, z4_b2⟩ := blk2 K_b2
          obtain ⟨c_b3_0, c_b3_1, f_b3, z0_b3, z1_b3, z2_b3, z3_b3, z4_b3⟩ := blk2 K_b3
          obtain ⟨c_b5_0, c_b5_1, f_b5, z0_b5, z1_b5, z2_b5, z3_b5, z4_b5⟩ := blk2 K_b5
          obtain ⟨c_b7_0, c_b7_1, f_b7, z0_b7, z1_b7, z2_b7, z3_b7, z4_b7⟩ := blk2 K_b7
          obtain ⟨c_b8_0, c_b8_1, f_b8, z0_b8, z1_b8, z2_b8, z3_b8, z4_b8⟩ := blk2 K_b8
          rw [← HCM.out]
          go_wp2_with fail
          go_meet
          exact ⟨congrArg Value.bool (decide_eq_false (by omega)), (by (repeat' (first | (with_reducible assumption) | (with_reducible refine Blk.new ?_; first | (with_reducible rfl) | (simp; done)) | (with_reducible refine Blk.alloc ?_ _) | (with_reducible refine Blk.drew ?_) | (with_reducible refine Blk.drewN ?_ _) | (with_reducible apply Blk.set2_0) | (with_reducible apply Blk.set2_1) | (with_reducible refine Blk.other ?_ _ ?_; rotate_left; focus (first | omega | (simp; done) | (simp; omega)))))), (by (repeat' (first | (with_reducible assumption) | (with_reducible refine Blk.new ?_; first | (with_reducible rfl) | (simp; done)) | (with_reducible refine Blk.alloc ?_ _) | (with_reducible refine Blk.drew ?_) | (with_reducible refine Blk.drewN ?_ _) | (with_reducible apply Blk.set2_0) | (with_reducible apply Blk.set2_1) | (with_reducible refine Blk.other ?_ _ ?_; rotate_left; focus (first | omega | (simp; done) | (simp; omega)))))), (by (repeat' (first | (with_reducible assumption) | (with_reducible refine Blk.new ?_; first | (with_reducible rfl) | (simp; done)) | (with_reducible refine Blk.alloc ?_ _) | (with_reducible refine Blk.drew ?_) | (with_reducible refine Blk.drewN ?_ _) | (with_reducible apply Blk.set2_0) | (with_reducible apply Blk.set2_1) | (with_reducible refine Blk.other ?_ _ ?_; rotate_left; focus (first | omega | (simp; done) | (simp; omega)))))), (by (repeat' (first | (with_reducible assumption) | (with_reducible refine Blk.new ?_; first | (with_reducible rfl) | (simp; done)) | (with_reducible refine Blk.alloc ?_ _) | (with_reducible refine Blk.drew ?_) | (with_reducible refine Blk.drewN ?_ _) | (with_reducible apply Blk.set2_0) | (with_reducible apply Blk.set2_1) | (with_reducible refine Blk.other ?_ _ ?_; rotate_left; focus (first | omega | (simp; done) | (simp; omega)))))), (by (repeat' (first | (with_reducible assumption) | (with_reducible refine Blk.new ?_; first | (with_reducible rfl) | (simp; done)) | (with_reducible refine Blk.alloc ?_ _) | (with_reducible refine Blk.drew ?_) | (with_reducible refine Blk.drewN ?_ _) | (with_reducible apply Blk.set2_0) | (with_reducible apply Blk.set2_1) | (with_reducible refine Blk.other ?_ _ ?_; rotate_left; focus (first | omega | (simp; done) | (simp; omega)))))), by go_grown⟩
      · have c1' : (m1 == h1) = false := by simpa using c1
        clear hN'
        go_wp2_with fail
        refine (wide_Cmp2 um un hh hl _).mono ?_
        rintro e w4 ⟨rfl, hb_⟩
        have N_b2 : Blk w4 (w.heap.size) #[_, _] := Blk.below (by (repeat' (first | (with_reducible assumption) | (with_reducible refine Blk.new ?_; first | (with_reducible rfl) | (simp; done)) | (with_reducible refine Blk.alloc ?_ _) | (with_reducible refine Blk.drew ?_) | (with_reducible refine Blk.drewN ?_ _) | (with_reducible apply Blk.set2_0) | (with_reducible apply Blk.set2_1) | (with_reducible refine Blk.other ?_ _ ?_; rotate_left; focus (first | omega | (simp; done) | (simp; omega)))))) hb_
        have N_b3 : Blk w4 (w.heap.size + 1) #[_, _] := Blk.below (by (repeat' (first | (with_reducible assumption) | (with_reducible refine Blk.new ?_; first | (with_reducible rfl) | (simp; done)) | (with_reducible refine Blk.alloc ?_ _) | (with_reducible refine Blk.drew ?_) | (with_reducible refine Blk.drewN ?_ _) | (with_reducible apply Blk.set2_0) | (with_reducible apply Blk.set2_1) | (with_reducible refine Blk.other ?_ _ ?_; rotate_left; focus (first | omega | (simp; done) | (simp; omega)))))) hb_
        have N_b5 : Blk w4 (w2.heap.size) #[_, _] := Blk.below (by (repeat' (first | (with_reducible assumption) | (with_reducible refine Blk.new ?_; first | (with_reducible rfl) | (simp; done)) | (with_reducible refine Blk.alloc ?_ _) | (with_reducible refine Blk.drew ?_) | (with_reducible refine Blk.drewN ?_ _) | (with_reducible apply Blk.set2_0) | (with_reducible apply Blk.set2_1) | (with_reducible refine Blk.other ?_ _ ?_; rotate_left; focus (first | omega | (simp; done) | (simp; omega)))))) hb_
        have N_b7 : Blk w4 (w3.heap.size) #[_, _] := Blk.below (by (repeat' (first | (with_reducible assumption) | (with_reducible refine Blk.new ?_; first | (with_reducible rfl) | (simp; done)) | (with_reducible refine Blk.alloc ?_ _) | (with_reducible refine Blk.drew ?_) | (with_reducible refine Blk.drewN ?_ _) | (with_reducible apply Blk.set2_0) | (with_reducible apply Blk.set2_1) | (with_reducible refine Blk.other ?_ _ ?_; rotate_left; focus (first | omega | (simp; done) | (simp; omega)))))) hb_
        have N_b8 : Blk w4 (w3.heap.size + 1) #[_, _] := Blk.below (by (repeat' (first | (with_reducible assumption) | (with_reducible refine Blk.new ?_; first | (with_reducible rfl) | (simp; done)) | (with_reducible refine Blk.alloc ?_ _) | (with_reducible refine Blk.drew ?_) | (with_reducible refine Blk.drewN ?_ _) | (with_reducible apply Blk.set2_0) | (with_reducible apply Blk.set2_1) | (with_reducible refine Blk.other ?_ _ ?_; rotate_left; focus (first | omega | (simp; done) | (simp; omega)))))) hb_
        have HB_w4 : Below w.heap.size w w4 := Below.trans (by go_grown) (hb_.mono (by go_size))
        have HZ_w4 : w.heap.size ≤ w4.heap.size := HB_w4.size
        clear hb_
        clear c_b2_0 c_b2_1 f_b2 z1_b2 z2_b2 z3_b2 z4_b2 c_b3_0 c_b3_1 f_b3 z1_b3 z2_b3 z3_b3 z4_b3 c_b5_0 c_b5_1 f_b5 z1_b5 z2_b5 z3_b5 z4_b5 K_b2 K_b3 K_b5
        have K_b2 := N_b2
        clear N_b2
        have K_b3 := N_b3
        clear N_b3
        have K_b5 := N_b5
        clear N_b5
        have K_b7 := N_b7
        clear N_b7
        have K_b8 := N_b8
        clear N_b8
        obtain ⟨c_b2_0, c_b2_1, f_b2, z0_b2, z1_b2, z2_b2, z3_b2, z4_b2⟩ := blk2 K_b2
        obtain ⟨c_b3_0, c_b3_1, f_b3, z0_b3, z1_b3, z2_b3, z3_b3, z4_b3⟩ := blk2 K_b3
        obtain ⟨c_b5_0, c_b5_1, f_b5, z0_b5, z1_b5, z2_b5, z3_b5, z4_b5⟩ := blk2 K_b5
        obtain ⟨c_b7_0, c_b7_1, f_b7, z0_b7, z1_b7, z2_b7, z3_b7, z4_b7⟩ := blk2 K_b7
        obtain ⟨c_b8_0, c_b8_1, f_b8, z0_b8, z1_b8, z2_b8, z3_b8, z4_b8⟩ := blk2 K_b8
        rw [← HCM.out]
        go_wp2_with fail
        go_meet
        exact ⟨congrArg Value.bool (decide_eq_false (by omega)), (by (repeat' (first | (with_reducible assumption) | (with_reducible refine Blk.new ?_; first | (with_reducible rfl) | (simp; done)) | (with_reducible refine Blk.alloc ?_ _) | (with_reducible refine Blk.drew ?_) | (with_reducible refine Blk.drewN ?_ _) | (with_reducible apply Blk.set2_0) | (with_reducible apply Blk.set2_1) | (with_reducible refine Blk.other ?_ _ ?_; rotate_left; focus (first | omega | (simp; done) | (simp; omega)))))), (by (repeat' (first | (with_reducible assumption) | (with_reducible refine Blk.new ?_; first | (with_reducible rfl) | (simp; done)) | (with_reducible refine Blk.alloc ?_ _) | (with_reducible refine Blk.drew ?_) | (with_reducible refine Blk.drewN ?_ _) | (with_reducible apply Blk.set2_0) | (with_reducible apply Blk.set2_1) | (with_reducible refine Blk.other ?_ _ ?_; rotate_left; focus (first | omega | (simp; done) | (simp; omega)))))), (by (repeat' (first | (with_reducible assumption) | (with_reducible refine Blk.new ?_; first | (with_reducible rfl) | (simp; done)) | (with_reducible refine Blk.alloc ?_ _) | (with_reducible refine Blk.drew ?_) | (with_reducible refine Blk.drewN ?_ _) | (with_reducible apply Blk.set2_0) | (with_reducible apply Blk.set2_1) | (with_reducible refine Blk.other ?_ _ ?_; rotate_left; focus (first | omega | (simp; done) | (simp; omega)))))), (by (repeat' (first | (with_reducible assumption) | (with_reducible refine Blk.new ?_; first | (with_reducible rfl) | (simp; done)) | (with_reducible refine Blk.alloc ?_ _) | (with_reducible refine Blk.drew ?_) | (with_reducible refine Blk.drewN ?_ _) | (with_reducible apply Blk.set2_0) | (with_reducible apply Blk.set2_1) | (with_reducible refine Blk.other ?_ _ ?_; rotate_left; focus (first | omega | (simp; done) | (simp; omega)))))), (by (repeat' (first | (with_reducible assumption) | (with_reducible refine Blk.new ?_; first | (with_reducible rfl) | (simp; done)) | (with_reducible refine Blk.alloc ?_ _) | (with_reducible refine Blk.drew ?_) | (with_reducible refine Blk.drewN ?_ _) | (with_reducible apply Blk.set2_0) | (with_reducible apply Blk.set2_1) | (with_reducible refine Blk.other ?_ _ ?_; rotate_left; focus (first | omega | (simp; done) | (simp; omega)))))), by go_grown⟩
  case rest =>
  clear c_b2_0 c_b2_1 f_b2 z1_b2 z2_b2 z3_b2 z4_b2 c_b3_0 c_b3_1 f_b3 z1_b3 z2_b3 z3_b3 z4_b3 c_b5_0 c_b5_1 f_b5 z1_b5 z2_b5 z3_b5 z4_b5 K_b2 K_b3 K_b5
  obtain ⟨rfl, K_b2, K_b3, K_b5, K_b7, K_b8, HB_wc⟩ := hcut
  have HZ_wc := HB_wc.size
  obtain ⟨c_b2_0, c_b2_1, f_b2, z0_b2, z1_b2, z2_b2, z3_b2, z4_b2⟩ := blk2 K_b2
  obtain ⟨c_b3_0, c_b3_1, f_b3, z0_b3, z1_b3, z2_b3, z3_b3, z4_b3⟩ := blk2 K_b3
  obtain ⟨c_b5_0, c_b5_1, f_b5, z0_b5, z1_b5, z2_b5, z3_b5, z4_b5⟩ := blk2 K_b5
  obtain ⟨c_b7_0, c_b7_1, f_b7, z0_b7, z1_b7, z2_b7, z3_b7, z4_b7⟩ := blk2 K_b7
  obtain ⟨c_b8_0, c_b8_1, f_b8, z0_b8, z1_b8, z2_b8, z3_b8, z4_b8⟩ := blk2 K_b8
  go_wp2_with fail
  go_cut [9, 10] (fun s9 s10 wx => ∃ (p : Nat) (s1 s0 o : Int), s9 = .pointer (some ⟨p, 0, none⟩) ∧ s10 = .int .u64 o ∧ IsU s1 s0 ((r + 1) % 340282366920938463463374607431768211456) ∧ IsW o ((r + 1) / 340282366920938463463374607431768211456) ∧ Blk wx w.heap.size #[.int .u64 h1, .int .u64 h0] ∧ Blk wx (w.heap.size + 1) #[.int .u64 l1, .int .u64 l0] ∧ Blk wx w3.heap.size #[.int .u64 m1, .int .u64 m0] ∧ Blk wx (w3.heap.size + 1) #[.int .u64 n1, .int .u64 n0] ∧ Blk wx p #[.int .u64 s1, .int .u64 s0] ∧ Below w.heap.size w wx)
  case first =>
    have tok1 : True := trivial
    have tok2 : True := trivial
    go_region_with (first | (go_at_call 19; have _t := tok1; clear tok1; refine (wide_Of 1 _).mono ?_; rintro e w5 ⟨rfl, hb_⟩; have N_b2 : Blk w5 (w.heap.size) #[_, _] := Blk.below (by (repeat' (first | (with_reducible assumption) | (with_reducible refine Blk.new ?_; first | (with_reducible rfl) | (simp; done)) | (with_reducible refine Blk.alloc ?_ _) | (with_reducible refine Blk.drew ?_) | (with_reducible refine Blk.drewN ?_ _) | (with_reducible apply Blk.set2_0) | (with_reducible apply Blk.set2_1) | (with_reducible refine Blk.other ?_ _ ?_; rotate_left; focus (first | omega | (simp; done) | (simp; omega)))))) hb_; have N_b3 : Blk w5 (w.heap.size + 1) #[_, _] := Blk.below (by (repeat' (first | (with_reducible assumption) | (with_reducible refine Blk.new ?_; first | (with_reducible rfl) | (simp; done)) | (with_reducible refine Blk.alloc ?_ _) | (with_reducible refine Blk.drew ?_) | (with_reducible refine Blk.drewN ?_ _) | (with_reducible apply Blk.set2_0) | (with_reducible apply Blk.set2_1) | (with_reducible refine Blk.other ?_ _ ?_; rotate_left; focus (first | omega | (simp; done) | (simp; omega)))))) hb_; have N_b5 : Blk w5 (w2.heap.size) #[_, _] := Blk.below (by (repeat' (first | (with_reducible assumption) | (with_reducible refine Blk.new ?_; first | (with_reducible rfl) | (simp; done)) | (with_reducible refine Blk.alloc ?_ _) | (with_reducible refine Blk.drew ?_) | (with_reducible refine Blk.drewN ?_ _) | (with_reducible apply Blk.set2_0) | (with_reducible apply Blk.set2_1) | (with_reducible refine Blk.other ?_ _ ?_; rotate_left; focus (first | omega | (simp; done) | (simp; omega)))))) hb_; have N_b7 : Blk w5 (w3.heap.size) #[_, _] := Blk.below (by (repeat' (first | (with_reducible assumption) | (with_reducible refine Blk.new ?_; first | (with_reducible rfl) | (simp; done)) | (with_reducible refine Blk.alloc ?_ _) | (with_reducible refine Blk.drew ?_) | (with_reducible refine Blk.drewN ?_ _) | (with_reducible apply Blk.set2_0) | (with_reducible apply Blk.set2_1) | (with_reducible refine Blk.other ?_ _ ?_; rotate_left; focus (first | omega | (simp; done) | (simp; omega)))))) hb_; have N_b8 : Blk w5 (w3.heap.size + 1) #[_, _] := Blk.below (by (repeat' (first | (with_reducible assumption) | (with_reducible refine Blk.new ?_; first | (with_reducible rfl) | (simp; done)) | (with_reducible refine Blk.alloc ?_ _) | (with_reducible refine Blk.drew ?_) | (with_reducible refine Blk.drewN ?_ _) | (with_reducible apply Blk.set2_0) | (with_reducible apply Blk.set2_1) | (with_reducible refine Blk.other ?_ _ ?_; rotate_left; focus (first | omega | (simp; done) | (simp; omega)))))) hb_; have N_ba : Blk w5 (wc.heap.size) #[_, _] := Blk.below (by (repeat' (first | (with_reducible assumption) | (with_reducible refine Blk.new ?_; first | (with_reducible rfl) | (simp; done)) | (with_reducible refine Blk.alloc ?_ _) | (with_reducible refine Blk.drew ?_) | (with_reducible refine Blk.drewN ?_ _) | (with_reducible apply Blk.set2_0) | (with_reducible apply Blk.set2_1) | (with_reducible refine Blk.other ?_ _ ?_; rotate_left; focus (first | omega | (simp; done) | (simp; omega)))))) hb_; have HB_w5 : Below w.heap.size w w5 := Below.trans (by go_grown) (hb_.mono (by go_size)); have HZ_w5 : w.heap.size ≤ w5.heap.size := HB_w5.size; clear hb_; clear c_b2_0 c_b2_1 f_b2 z1_b2 z2_b2 z3_b2 z4_b2 c_b3_0 c_b3_1 f_b3 z1_b3 z2_b3 z3_b3 z4_b3 c_b5_0 c_b5_1 f_b5 z1_b5 z2_b5 z3_b5 z4_b5 c_b7_0 c_b7_1 f_b7 z1_b7 z2_b7 z3_b7 z4_b7 c_b8_0 c_b8_1 f_b8 z1_b8 z2_b8 z3_b8 z4_b8 K_b2 K_b3 K_b5 K_b7 K_b8; have K_b2 := N_b2; clear N_b2; have K_b3 := N_b3; clear N_b3; have K_b5 := N_b5; clear N_b5; have K_b7 := N_b7; clear N_b7; have K_b8 := N_b8; clear N_b8; have K_ba := N_ba; clear N_ba; obtain ⟨c_b2_0, c_b2_1, f_b2, z0_b2, z1_b2, z2_b2, z3_b2, z4_b2⟩ := blk2 K_b2; obtain ⟨c_b3_0, c_b3_1, f_b3, z0_b3, z1_b3, z2_b3, z3_b3, z4_b3⟩ := blk2 K_b3; obtain ⟨c_b5_0, c_b5_1, f_b5, z0_b5, z1_b5, z2_b5, z3_b5, z4_b5⟩ := blk2 K_b5; obtain ⟨c_b7_0, c_b7_1, f_b7, z0_b7, z1_b7, z2_b7, z3_b7, z4_b7⟩ := blk2 K_b7; obtain ⟨c_b8_0, c_b8_1, f_b8, z0_b8, z1_b8, z2_b8, z3_b8, z4_b8⟩ := blk2 K_b8; obtain ⟨c_ba_0, c_ba_1, f_ba, z0_ba, z1_ba, z2_ba, z3_ba, z4_ba⟩ := blk2 K_ba) | (go_at_call 19; have _t := tok1; clear tok1; refine (wide_Of 1 _).mono ?_; rintro e w5 ⟨rfl, hb_⟩; have N_b2 : Blk w5 (w.heap.size) #[_, _] := Blk.below (by (repeat' (first | (with_reducible assumption) | (with_reducible refine Blk.new ?_; first | (with_reducible rfl) | (simp; done)) | (with_reducible refine Blk.alloc ?_ _) | (with_reducible refine Blk.drew ?_) | (with_reducible refine Blk.drewN ?_ _) | (with_reducible apply Blk.set2_0) | (with_reducible apply Blk.set2_1) | (with_reducible refine Blk.other ?_ _ ?_; rotate_left; focus (first | omega | (simp; done) | (simp; omega)))))) hb_; have N_b3 : Blk w5 (w.heap.size + 1) #[_, _] := Blk.below (by (repeat' (first | (with_reducible assumption) | (with_reducible refine Blk.new ?_; first | (with_reducible rfl) | (simp; done)) | (with_reducible refine Blk.alloc ?_ _) | (with_reducible refine Blk.drew ?_) | (with_reducible refine Blk.drewN ?_ _) | (with_reducible apply Blk.set2_0) | (with_reducible apply Blk.set2_1) | (with_reducible refine Blk.other ?_ _ ?_; rotate_left; focus (first | omega | (simp; done) | (simp; omega)))))) hb_; have N_b5 : Blk w5 (w2.heap.size) #[_, _] := Blk.below (by (repeat' (first | (with_reducible assumption) | (with_reducible refine Blk.new ?_; first | (with_reducible rfl) | (simp; done)) | (with_reducible refine Blk.alloc ?_ _) | (with_reducible refine Blk.drew ?_) | (with_reducible refine Blk.drewN ?_ _) | (with_reducible apply Blk.set2_0) | (with_reducible apply Blk.set2_1) | (with_reducible refine Blk.other ?_ _ ?_; rotate_left; focus (first | omega | (simp; done) | (simp; omega)))))) hb_; have N_b7 : Blk w5 (w3.heap.size) #[_, _] := Blk.below (by (repeat' (first | (with_reducible assumption) | (with_reducible refine Blk.new ?_; first | (with_reducible rfl) | (simp; done)) | (with_reducible refine Blk.alloc ?_ _) | (with_reducible refine Blk.drew ?_) | (with_reducible refine Blk.drewN ?_ _) | (with_reducible apply Blk.set2_0) | (with_reducible apply Blk.set2_1) | (with_reducible refine Blk.other ?_ _ ?_; rotate_left; focus (first | omega | (simp; done) | (simp; omega)))))) hb_; have N_b8 : Blk w5 (w3.heap.size + 1) #[_, _] := Blk.below (by (repeat' (first | (with_reducible assumption) | (with_reducible refine Blk.new ?_; first | (with_reducible rfl) | (simp; done)) | (with_reducible refine Blk.alloc ?_ _) | (with_reducible refine Blk.drew ?_) | (with_reducible refine Blk.drewN ?_ _) | (with_reducible apply Blk.set2_0) | (with_reducible apply Blk.set2_1) | (with_reducible refine Blk.other ?_ _ ?_; rotate_left; focus (first | omega | (simp; done) | (simp; omega)))))) hb_; have HB_w5 : Below w.heap.size w w5 := Below.trans (by go_grown) (hb_.mono (by go_size)); have HZ_w5 : w.heap.size ≤ w5.heap.size := HB_w5.size; clear hb_; clear c_b2_0 c_b2_1 f_b2 z1_b2 z2_b2 z3_b2 z4_b2 c_b3_0 c_b3_1 f_b3 z1_b3 z2_b3 z3_b3 z4_b3 c_b5_0 c_b5_1 f_b5 z1_b5 z2_b5 z3_b5 z4_b5 c_b7_0 c_b7_1 f_b7 z1_b7 z2_b7 z3_b7 z4_b7 c_b8_0 c_b8_1 f_b8 z1_b8 z2_b8 z3_b8 z4_b8 K_b2 K_b3 K_b5 K_b7 K_b8; have K_b2 := N_b2; clear N_b2; have K_b3 := N_b3; clear N_b3; have K_b5 := N_b5; clear N_b5; have K_b7 := N_b7; clear N_b7; have K_b8 := N_b8; clear N_b8; obtain ⟨c_b2_0, c_b2_1, f_b2, z0_b2, z1_b2, z2_b2, z3_b2, z4_b2⟩ := blk2 K_b2; obtain ⟨c_b3_0, c_b3_1, f_b3, z0_b3, z1_b3, z2_b3, z3_b3, z4_b3⟩ := blk2 K_b3; obtain ⟨c_b5_0, c_b5_1, f_b5, z0_b5, z1_b5, z2_b5, z3_b5, z4_b5⟩ := blk2 K_b5; obtain ⟨c_b7_0, c_b7_1, f_b7, z0_b7, z1_b7, z2_b7, z3_b7, z4_b7⟩ := blk2 K_b7; obtain ⟨c_b8_0, c_b8_1, f_b8, z0_b8, z1_b8, z2_b8, z3_b8, z4_b8⟩ := blk2 K_b8) | (go_at_call 27; have _t := tok2; clear tok2; refine (wide_Add ur u1.out _).mono ?_; rintro e w6 ⟨s1, s0, o, rfl, us, io, hb_⟩; have N_b2 : Blk w6 (w.heap.size) #[_, _] := Blk.below (by (repeat' (first | (with_reducible assumption) | (with_reducible refine Blk.new ?_; first | (with_reducible rfl) | (simp; done)) | (with_reducible refine Blk.alloc ?_ _) | (with_reducible refine Blk.drew ?_) | (with_reducible refine Blk.drewN ?_ _) | (with_reducible apply Blk.set2_0) | (with_reducible apply Blk.set2_1) | (with_reducible refine Blk.other ?_ _ ?_; rotate_left; focus (first | omega | (simp; done) | (simp; omega)))))) hb_; have N_b3 : Blk w6 (w.heap.size + 1) #[_, _] := Blk.below (by (repeat' (first | (with_reducible assumption) | (with_reducible refine Blk.new ?_; first | (with_reducible rfl) | (simp; done)) | (with_reducible refine Blk.alloc ?_ _) | (with_reducible refine Blk.drew ?_) | (with_reducible refine Blk.drewN ?_ _) | (with_reducible apply Blk.set2_0) | (with_reducible apply Blk.set2_1) | (with_reducible refine Blk.other ?_ _ ?_; rotate_left; focus (first | omega | (simp; done) | (simp; omega)))))) hb_; have N_b5 : Blk w6 (w2.heap.size) #[_, _] := Blk.below (by (repeat' (first | (with_reducible assumption) | (with_reducible refine Blk.new ?_; first | (with_reducible rfl) | (simp; done)) | (with_reducible refine Blk.alloc ?_ _) | (with_reducible refine Blk.drew ?_) | (with_reducible refine Blk.drewN ?_ _) | (with_reducible apply Blk.set2_0) | (with_reducible apply Blk.set2_1) | (with_reducible refine Blk.other ?_ _ ?_; rotate_left; focus (first | omega | (simp; done) | (simp; omega)))))) hb_; have N_b7 : Blk w6 (w3.heap.size) #[_, _] := Blk.below (by (repeat' (first | (with_reducible assumption) | (with_reducible refine Blk.new ?_; first | (with_reducible rfl) | (simp; done)) | (with_reducible refine Blk.alloc ?_ _) | (with_reducible refine Blk.drew ?_) | (with_reducible refine Blk.drewN ?_ _) | (with_reducible apply Blk.set2_0) | (with_reducible apply Blk.set2_1) | (with_reducible refine Blk.other ?_ _ ?_; rotate_left; focus (first | omega | (simp; done) | (simp; omega)))))) hb_; have N_b8 : Blk w6 (w3.heap.size + 1) #[_, _] := Blk.below (by (repeat' (first | (with_reducible assumption) | (with_reducible refine Blk.new ?_; first | (with_reducible rfl) | (simp; done)) | (with_reducible refine Blk.alloc ?_ _) | (with_reducible refine Blk.drew ?_) | (with_reducible refine Blk.drewN ?_ _) | (with_reducible apply Blk.set2_0) | (with_reducible apply Blk.set2_1) | (with_reducible refine Blk.other ?_ _ ?_; rotate_left; focus (first | omega | (simp; done) | (simp; omega)))))) hb_; have N_ba : Blk w6 (wc.heap.size) #[_, _] := Blk.below (by (repeat' (first | (with_reducible assumption) | (with_reducible refine Blk.new ?_; first | (with_reducible rfl) | (simp; done)) | (with_reducible refine Blk.alloc ?_ _) | (with_reducible refine Blk.drew ?_) | (with_reducible refine Blk.drewN ?_ _) | (with_reducible apply Blk.set2_0) | (with_reducible apply Blk.set2_1) | (with_reducible refine Blk.other ?_ _ ?_; rotate_left; focus (first | omega | (simp; done) | (simp; omega)))))) hb_; have HB_w6 : Below w.heap.size w w6 := Below.trans (by go_grown) (hb_.mono (by go_size)); have HZ_w6 : w.heap.size ≤ w6.heap.size := HB_w6.size; clear hb_; clear c_b2_0 c_b2_1 f_b2 z1_b2 z2_b2 z3_b2 z4_b2 c_b3_0 c_b3_1 f_b3 z1_b3 z2_b3 z3_b3 z4_b3 c_b5_0 c_b5_1 f_b5 z1_b5 z2_b5 z3_b5 z4_b5 c_b7_0 c_b7_1 f_b7 z1_b7 z2_b7 z3_b7 z4_b7 c_b8_0 c_b8_1 f_b8 z1_b8 z2_b8 z3_b8 z4_b8 K_b2 K_b3 K_b5 K_b7 K_b8; have K_b2 := N_b2; clear N_b2; have K_b3 := N_b3; clear N_b3; have K_b5 := N_b5; clear N_b5; have K_b7 := N_b7; clear N_b7; have K_b8 := N_b8; clear N_b8; have K_ba := N_ba; clear N_ba; obtain ⟨c_b2_0, c_b2_1, f_b2, z0_b2, z1_b2, z2_b2, z3_b2, z4_b2⟩ := blk2 K_b2; obtain ⟨c_b3_0, c_b3_1, f_b3, z0_b3, z1_b3, z2_b3, z3_b3, z4_b3⟩ := blk2 K_b3; obtain ⟨c_b5_0, c_b5_1, f_b5, z0_b5, z1_b5, z2_b5, z3_b5, z4_b5⟩ := blk2 K_b5; obtain ⟨c_b7_0, c_b7_1, f_b7, z0_b7, z1_b7, z2_b7, z3_b7, z4_b7⟩ := blk2 K_b7; obtain ⟨c_b8_0, c_b8_1, f_b8, z0_b8, z1_b8, z2_b8, z3_b8, z4_b8⟩ := blk2 K_b8; obtain ⟨c_ba_0, c_ba_1, f_ba, z0_ba, z1_ba, z2_ba, z3_ba, z4_ba⟩ := blk2 K_ba) | (go_at_call 27; have _t := tok2; clear tok2; refine (wide_Add ur u1.out _).mono ?_; rintro e w6 ⟨s1, s0, o, rfl, us, io, hb_⟩; have N_b2 : Blk w6 (w.heap.size) #[_, _] := Blk.below (by (repeat' (first | (with_reducible assumption) | (with_reducible refine Blk.new ?_; first | (with_reducible rfl) | (simp; done)) | (with_reducible refine Blk.alloc ?_ _) | (with_reducible refine Blk.drew ?_) | (with_reducible refine Blk.drewN ?_ _) | (with_reducible apply Blk.set2_0) | (with_reducible apply Blk.set2_1) | (with_reducible refine Blk.other ?_ _ ?_; rotate_left; focus (first | omega | (simp; done) | (simp; omega)))))) hb_; have N_b3 : Blk w6 (w.heap.size + 1) #[_, _] := Blk.below (by (repeat' (first | (with_reducible assumption) | (with_reducible refine Blk.new ?_; first | (with_reducible rfl) | (simp; done)) | (with_reducible refine Blk.alloc ?_ _) | (with_reducible refine Blk.drew ?_) | (with_reducible refine Blk.drewN ?_ _) | (with_reducible apply Blk.set2_0) | (with_reducible apply Blk.set2_1) | (with_reducible refine Blk.other ?_ _ ?_; rotate_left; focus (first | omega | (simp; done) | (simp; omega)))))) hb_; have N_b5 : Blk w6 (w2.heap.size) #[_, _] := Blk.below (by (repeat' (first | (with_reducible assumption) | (with_reducible refine Blk.new ?_; first | (with_reducible rfl) | (simp; done)) | (with_reducible refine Blk.alloc ?_ _) | (with_reducible refine Blk.drew ?_) | (with_reducible refine Blk.drewN ?_ _) | (with_reducible apply Blk.set2_0) | (with_reducible apply Blk.set2_1) | (with_reducible refine Blk.other ?_ _ ?_; rotate_left; focus (first | omega | (simp; done) | (simp; omega)))))) hb_; have N_b7 : Blk w6 (w3.heap.size) #[_, _] := Blk.below (by (repeat' (first | (with_reducible assumption) | (with_reducible refine Blk.new ?_; first | (with_reducible rfl) | (simp; done)) | (with_reducible refine Blk.alloc ?_ _) | (with_reducible refine Blk.drew ?_) | (with_reducible refine Blk.drewN ?_ _) | (with_reducible apply Blk.set2_0) | (with_reducible apply Blk.set2_1) | (with_reducible refine Blk.other ?_ _ ?_; rotate_left; focus (first | omega | (simp; done) | (simp; omega)))))) hb_; have N_b8 : Blk w6 (w3.heap.size + 1) #[_, _] := Blk.below (by (repeat' (first | (with_reducible assumption) | (with_reducible refine Blk.new ?_; first | (with_reducible rfl) | (simp; done)) | (with_reducible refine Blk.alloc ?_ _) | (with_reducible refine Blk.drew ?_) | (with_reducible refine Blk.drewN ?_ _) | (with_reducible apply Blk.set2_0) | (with_reducible apply Blk.set2_1) | (with_reducible refine Blk.other ?_ _ ?_; rotate_left; focus (first | omega | (simp; done) | (simp; omega)))))) hb_; have N_b9 : Blk w6 (w5.heap.size) #[_, _] := Blk.below (by (repeat' (first | (with_reducible assumption) | (with_reducible refine Blk.new ?_; first | (with_reducible rfl) | (simp; done)) | (with_reducible refine Blk.alloc ?_ _) | (with_reducible refine Blk.drew ?_) | (with_reducible refine Blk.drewN ?_ _) | (with_reducible apply Blk.set2_0) | (with_reducible apply Blk.set2_1) | (with_reducible refine Blk.other ?_ _ ?_; rotate_left; focus (first | omega | (simp; done) | (simp; omega)))))) hb_; have HB_w6 : Below w.heap.size w w6 := Below.trans (by go_grown) (hb_.mono (by go_size)); have HZ_w6 : w.heap.size ≤ w6.heap.size := HB_w6.size; clear hb_; clear c_b2_0 c_b2_1 f_b2 z1_b2 z2_b2 z3_b2 z4_b2 c_b3_0 c_b3_1 f_b3 z1_b3 z2_b3 z3_b3 z4_b3 c_b5_0 c_b5_1 f_b5 z1_b5 z2_b5 z3_b5 z4_b5 c_b7_0 c_b7_1 f_b7 z1_b7 z2_b7 z3_b7 z4_b7 c_b8_0 c_b8_1 f_b8 z1_b8 z2_b8 z3_b8 z4_b8 K_b2 K_b3 K_b5 K_b7 K_b8; have K_b2 := N_b2; clear N_b2; have K_b3 := N_b3; clear N_b3; have K_b5 := N_b5; clear N_b5; have K_b7 := N_b7; clear N_b7; have K_b8 := N_b8; clear N_b8; have K_b9 := N_b9; clear N_b9; obtain ⟨c_b2_0, c_b2_1, f_b2, z0_b2, z1_b2, z2_b2, z3_b2, z4_b2⟩ := blk2 K_b2; obtain ⟨c_b3_0, c_b3_1, f_b3, z0_b3, z1_b3, z2_b3, z3_b3, z4_b3⟩ := blk2 K_b3; obtain ⟨c_b5_0, c_b5_1, f_b5, z0_b5, z1_b5, z2_b5, z3_b5, z4_b5⟩ := blk2 K_b5; obtain ⟨c_b7_0, c_b7_1, f_b7, z0_b7, z1_b7, z2_b7, z3_b7, z4_b7⟩ := blk2 K_b7; obtain ⟨c_b8_0, c_b8_1, f_b8, z0_b8, z1_b8, z2_b8, z3_b8, z4_b8⟩ := blk2 K_b8; obtain ⟨c_b9_0, c_b9_1, f_b9, z0_b9, z1_b9, z2_b9, z3_b9, z4_b9⟩ := blk2 K_b9) | (go_at_call 27; have _t := tok2; clear tok2; refine (wide_Add ur u1.out _).mono ?_; rintro e w6 ⟨s1, s0, o, rfl, us, io, hb_⟩; have N_b2 : Blk w6 (w.heap.size) #[_, _] := Blk.below (by (repeat' (first | (with_reducible assumption) | (with_reducible refine Blk.new ?_; first | (with_reducible rfl) | (simp; done)) | (with_reducible refine Blk.alloc ?_ _) | (with_reducible refine Blk.drew ?_) | (with_reducible refine Blk.drewN ?_ _) | (with_reducible apply Blk.set2_0) | (with_reducible apply Blk.set2_1) | (with_reducible refine Blk.other ?_ _ ?_; rotate_left; focus (first | omega | (simp; done) | (simp; omega)))))) hb_; have N_b3 : Blk w6 (w.heap.size + 1) #[_, _] := Blk.below (by (repeat' (first | (with_reducible assumption) | (with_reducible refine Blk.new ?_; first | (with_reducible rfl) | (simp; done)) | (with_reducible refine Blk.alloc ?_ _) | (with_reducible refine Blk.drew ?_) | (with_reducible refine Blk.drewN ?_ _) | (with_reducible apply Blk.set2_0) | (with_reducible apply Blk.set2_1) | (with_reducible refine Blk.other ?_ _ ?_; rotate_left; focus (first | omega | (simp; done) | (simp; omega)))))) hb_; have N_b5 : Blk w6 (w2.heap.size) #[_, _] := Blk.below (by (repeat' (first | (with_reducible assumption) | (with_reducible refine Blk.new ?_; first | (with_reducible rfl) | (simp; done)) | (with_reducible refine Blk.alloc ?_ _) | (with_reducible refine Blk.drew ?_) | (with_reducible refine Blk.drewN ?_ _) | (with_reducible apply Blk.set2_0) | (with_reducible apply Blk.set2_1) | (with_reducible refine Blk.other ?_ _ ?_; rotate_left; focus (first | omega | (simp; done) | (simp; omega)))))) hb_; have N_b7 : Blk w6 (w3.heap.size) #[_, _] := Blk.below (by (repeat' (first | (with_reducible assumption) | (with_reducible refine Blk.new ?_; first | (with_reducible rfl) | (simp; done)) | (with_reducible refine Blk.alloc ?_ _) | (with_reducible refine Blk.drew ?_) | (with_reducible refine Blk.drewN ?_ _) | (with_reducible apply Blk.set2_0) | (with_reducible apply Blk.set2_1) | (with_reducible refine Blk.other ?_ _ ?_; rotate_left; focus (first | omega | (simp; done) | (simp; omega)))))) hb_; have N_b8 : Blk w6 (w3.heap.size + 1) #[_, _] := Blk.below (by (repeat' (first | (with_reducible assumption) | (with_reducible refine Blk.new ?_; first | (with_reducible rfl) | (simp; done)) | (with_reducible refine Blk.alloc ?_ _) | (with_reducible refine Blk.drew ?_) | (with_reducible refine Blk.drewN ?_ _) | (with_reducible apply Blk.set2_0) | (with_reducible apply Blk.set2_1) | (with_reducible refine Blk.other ?_ _ ?_; rotate_left; focus (first | omega | (simp; done) | (simp; omega)))))) hb_; have HB_w6 : Below w.heap.size w w6 := Below.trans (by go_grown) (hb_.mono (by go_size)); have HZ_w6 : w.heap.size ≤ w6.heap.size := HB_w6.size; clear hb_; clear c_b2_0 c_b2_1 f_b2 z1_b2 z2_b2 z3_b2 z4_b2 c_b3_0 c_b3_1 f_b3 z1_b3 z2_b3 z3_b3 z4_b3 c_b5_0 c_b5_1 f_b5 z1_b5 z2_b5 z3_b5 z4_b5 c_b7_0 c_b7_1 f_b7 z1_b7 z2_b7 z3_b7 z4_b7 c_b8_0 c_b8_1 f_b8 z1_b8 z2_b8 z3_b8 z4_b8 K_b2 K_b3 K_b5 K_b7 K_b8; have K_b2 := N_b2; clear N_b2; have K_b3 := N_b3; clear N_b3; have K_b5 := N_b5; clear N_b5; have K_b7 := N_b7; clear N_b7; have K_b8 := N_b8; clear N_b8; obtain ⟨c_b2_0, c_b2_1, f_b2, z0_b2, z1_b2, z2_b2, z3_b2, z4_b2⟩ := blk2 K_b2; obtain ⟨c_b3_0, c_b3_1, f_b3, z0_b3, z1_b3, z2_b3, z3_b3, z4_b3⟩ := blk2 K_b3; obtain ⟨c_b5_0, c_b5_1, f_b5, z0_b5, z1_b5, z2_b5, z3_b5, z4_b5⟩ := blk2 K_b5; obtain ⟨c_b7_0, c_b7_1, f_b7, z0_b7, z1_b7, z2_b7, z3_b7, z4_b7⟩ := blk2 K_b7; obtain ⟨c_b8_0, c_b8_1, f_b8, z0_b8, z1_b8, z2_b8, z3_b8, z4_b8⟩ := blk2 K_b8))
    all_goals
      go_wp2_with fail
      go_meet
      exact ⟨_, _, _, _, rfl, rfl, us, io, (by (repeat' (first | (with_reducible assumption) | (with_reducible refine Blk.new ?_; first | (with_reducible rfl) | (simp; done)) | (with_reducible refine Blk.alloc ?_ _) | (with_reducible refine Blk.drew ?_) | (with_reducible refine Blk.drewN ?_ _) | (with_reducible apply Blk.set2_0) | (with_reducible apply Blk.set2_1) | (with_reducible refine Blk.other ?_ _ ?_; rotate_left; focus (first | omega | (simp; done) | (simp; omega)))))), (by (repeat' (first | (with_reducible assumption) | (with_reducible refine Blk.new ?_; first | (with_reducible rfl) | (simp; done)) | (with_reducible refine Blk.alloc ?_ _) | (with_reducible refine Blk.drew ?_) | (with_reducible refine Blk.drewN ?_ _) | (with_reducible apply Blk.set2_0) | (with_reducible apply Blk.set2_1) | (with_reducible refine Blk.other ?_ _ ?_; rotate_left; focus (first | omega | (simp; done) | (simp; omega)))))), (by (repeat' (first | (with_reducible assumption) | (with_reducible refine Blk.new ?_; first | (with_reducible rfl) | (simp; done)) | (with_reducible refine Blk.alloc ?_ _) | (with_reducible refine Blk.drew ?_) | (with_reducible refine Blk.drewN ?_ _) | (with_reducible apply Blk.set2_0) | (with_reducible apply Blk.set2_1) | (with_reducible refine Blk.other ?_ _ ?_; rotate_left; focus (first | omega | (simp; done) | (simp; omega)))))), (by (repeat' (first | (with_reducible assumption) | (with_reducible refine Blk.new ?_; first | (with_reducible rfl) | (simp; done)) | (with_reducible refine Blk.alloc ?_ _) | (with_reducible refine Blk.drew ?_) | (with_reducible refine Blk.drewN ?_ _) | (with_reducible apply Blk.set2_0) | (with_reducible apply Blk.set2_1) | (with_reducible refine Blk.other ?_ _ ?_; rotate_left; focus (first | omega | (simp; done) | (simp; omega)))))), (by (repeat' (first | (with_reducible assumption) | (with_reducible refine Blk.new ?_; first | (with_reducible rfl) | (simp; done)) | (with_reducible refine Blk.alloc ?_ _) | (with_reducible refine Blk.drew ?_) | (with_reducible refine Blk.drewN ?_ _) | (with_reducible apply Blk.set2_0) | (with_reducible apply Blk.set2_1) | (with_reducible refine Blk.other ?_ _ ?_; rotate_left; focus (first | omega | (simp; done) | (simp; omega)))))), by go_grown⟩
  case rest =>
  clear c_b2_0 c_b2_1 f_b2 z1_b2 z2_b2 z3_b2 z4_b2 c_b3_0 c_b3_1 f_b3 z1_b3 z2_b3 z3_b3 z4_b3 c_b5_0 c_b5_1 f_b5 z1_b5 z2_b5 z3_b5 z4_b5 c_b7_0 c_b7_1 f_b7 z1_b7 z2_b7 z3_b7 z4_b7 c_b8_0 c_b8_1 f_b8 z1_b8 z2_b8 z3_b8 z4_b8 K_b2 K_b3 K_b5 K_b7 K_b8
  obtain ⟨p9, s1, s0, o, rfl, rfl, us, io, K_b2, K_b3, K_b7, K_b8, K_b9, HB_wd⟩ := hcut
  have HZ_wd := HB_wd.size
  obtain ⟨c_b2_0, c_b2_1, f_b2, z0_b2, z1_b2, z2_b2, z3_b2, z4_b2⟩ := blk2 K_b2
  obtain ⟨c_b3_0, c_b3_1, f_b3, z0_b3, z1_b3, z2_b3, z3_b3, z4_b3⟩ := blk2 K_b3
  obtain ⟨c_b7_0, c_b7_1, f_b7, z0_b7, z1_b7, z2_b7, z3_b7, z4_b7⟩ := blk2 K_b7
  obtain ⟨c_b8_0, c_b8_1, f_b8, z0_b8, z1_b8, z2_b8, z3_b8, z4_b8⟩ := blk2 K_b8
  obtain ⟨c_b9_0, c_b9_1, f_b9, z0_b9, z1_b9, z2_b9, z3_b9, z4_b9⟩ := blk2 K_b9
  by_cases ho : o = 1
  · subst ho
    go_wp2_with fail
    go_returns
    exact ⟨rfl, by go_grown⟩
  · have ho' : (o == 1) = false := by simpa using ho
    have hq := roots_end io ho ur.lt HR2.out
    obtain ⟨q, eq⟩ : ∃ q : Nat, q = (r + 1) % 340282366920938463463374607431768211456 := ⟨_, rfl⟩
    rw [← eq] at us hq
    obtain ⟨ck, eck⟩ : ∃ ck : Int, ck = cmpN (q * q / 340282366920938463463374607431768211456 * 340282366920938463463374607431768211456 + q * q % 340282366920938463463374607431768211456) (h * 340282366920938463463374607431768211456 + l) := ⟨_, rfl⟩
    rw [← eck] at hq
    have HCK := Lib.hid eck; have HQ := Lib.hid hq
    clear io ho eq eck hq
    go_wp2_with fail
    refine (wide_Mul us us _).mono ?_
    rintro e w7 ⟨q1, q0, p1, p0, rfl, uq, up, hb_⟩
    have N_b2 : Blk w7 (w.heap.size) #[_, _] := Blk.below (by (repeat' (first | (with_reducible assumption) | (with_reducible refine Blk.new ?_; first | (with_reducible rfl) | (simp; done)) | (with_reducible refine Blk.alloc ?_ _) | (with_reducible refine Blk.drew ?_) | (with_reducible refine Blk.drewN ?_ _) | (with_reducible apply Blk.set2_0) | (with_reducible apply Blk.set2_1) | (with_reducible refine Blk.other ?_ _ ?_; rotate_left; focus (first | omega | (simp; done) | (simp; omega)))))) hb_
    have N_b3 : Blk w7 (w.heap.size + 1) #[_, _] := Blk.below (by (repeat' (first | (with_reducible assumption) | (with_reducible refine Blk.new ?_; first | (with_reducible rfl) | (simp; done)) | (with_reducible refine Blk.alloc ?_ _) | (with_reducible refine Blk.drew ?_) | (with_reducible refine Blk.drewN ?_ _) | (with_reducible apply Blk.set2_0) | (with_reducible apply Blk.set2_1) | (with_reducible refine Blk.other ?_ _ ?_; rotate_left; focus (first | omega | (simp; done) | (simp; omega)))))) hb_
    have N_b7 : Blk w7 (w3.heap.size) #[_, _] := Blk.below (by (repeat' (first | (with_reducible assumption) | (with_reducible refine Blk.new ?_; first | (with_reducible rfl) | (simp; done)) | (with_reducible refine Blk.alloc ?_ _) | (with_reducible refine Blk.drew ?_) | (with_reducible refine Blk.drewN ?_ _) | (with_reducible apply Blk.set2_0) | (with_reducible apply Blk.set2_1) | (with_reducible refine Blk.other ?_ _ ?_; rotate_left; focus (first | omega | (simp; done) | (simp; omega)))))) hb_
    have N_b8 : Blk w7 (w3.heap.size + 1) #[_, _] := Blk.below (by (repeat' (first | (with_reducible assumption) | (with_reducible refine Blk.new ?_; first | (with_reducible rfl) | (simp; done)) | (with_reducible refine Blk.alloc ?_ _) | (with_reducible refine Blk.drew ?_) | (with_reducible refine Blk.drewN ?_ _) | (with_reducible apply Blk.set2_0) | (with_reducible apply Blk.set2_1) | (with_reducible refine Blk.other ?_ _ ?_; rotate_left; focus (first | omega | (simp; done) | (simp; omega)))))) hb_
    have HB_w7 : Below w.heap.size w w7 := Below.trans (by go_grown) (hb_.mono (by go_size))
    have HZ_w7 : w.heap.size ≤ w7.heap.size := HB_w7.size
    clear hb_
    clear c_b2_0 c_b2_1 f_b2 z1_b2 z2_b2 z3_b2 z4_b2 c_b3_0 c_b3_1 f_b3 z1_b3 z2_b3 z3_b3 z4_b3 c_b7_0 c_b7_1 f_b7 z1_b7 z2_b7 z3_b7 z4_b7 c_b8_0 c_b8_1 f_b8 z1_b8 z2_b8 z3_b8 z4_b8 c_b9_0 c_b9_1 f_b9 z1_b9 z2_b9 z3_b9 z4_b9 K_b2 K_b3 K_b7 K_b8 K_b9
    have K_b2 := N_b2
    clear N_b2
    have K_b3 := N_b3
    clear N_b3
    have K_b7 := N_b7
    clear N_b7
    have K_b8 := N_b8
    clear N_b8
    obtain ⟨c_b2_0, c_b2_1, f_b2, z0_b2, z1_b2, z2_b2, z3_b2, z4_b2⟩ := blk2 K_b2
    obtain ⟨c_b3_0, c_b3_1, f_b3, z0_b3, z1_b3, z2_b3, z3_b3, z4_b3⟩ := blk2 K_b3
    obtain ⟨c_b7_0, c_b7_1, f_b7, z0_b7, z1_b7, z2_b7, z3_b7, z4_b7⟩ := blk2 K_b7
    obtain ⟨c_b8_0, c_b8_1, f_b8, z0_b8, z1_b8, z2_b8, z3_b8, z4_b8⟩ := blk2 K_b8
    go_wp2_with fail
    refine (wide_Cmp2 uq up hh hl _).mono ?_
    rintro e w8 ⟨rfl, hb_⟩
    have N_b2 : Blk w8 (w.heap.size) #[_, _] := Blk.below (by (repeat' (first | (with_reducible assumption) | (with_reducible refine Blk.new ?_; first | (with_reducible rfl) | (simp; done)) | (with_reducible refine Blk.alloc ?_ _) | (with_reducible refine Blk.drew ?_) | (with_reducible refine Blk.drewN ?_ _) | (with_reducible apply Blk.set2_0) | (with_reducible apply Blk.set2_1) | (with_reducible refine Blk.other ?_ _ ?_; rotate_left; focus (first | omega | (simp; done) | (simp; omega)))))) hb_
    have N_b3 : Blk w8 (w.heap.size + 1) #[_, _] := Blk.below (by (repeat' (first | (with_reducible assumption) | (with_reducible refine Blk.new ?_; first | (with_reducible rfl) | (simp; done)) | (with_reducible refine Blk.alloc ?_ _) | (with_reducible refine Blk.drew ?_) | (with_reducible refine Blk.drewN ?_ _) | (with_reducible apply Blk.set2_0) | (with_reducible apply Blk.set2_1) | (with_reducible refine Blk.other ?_ _ ?_; rotate_left; focus (first | omega | (simp; done) | (simp; omega)))))) hb_
    have HB_w8 : Below w.heap.size w w8 := Below.trans (by go_grown) (hb_.mono (by go_size))
    have HZ_w8 : w.heap.size ≤ w8.heap.size := HB_w8.size
    clear hb_
    clear c_b2_0 c_b2_1 f_b2 z1_b2 z2_b2 z3_b2 z4_b2 c_b3_0 c_b3_1 f_b3 z1_b3 z2_b3 z3_b3 z4_b3 c_b7_0 c_b7_1 f_b7 z1_b7 z2_b7 z3_b7 z4_b7 c_b8_0 c_b8_1 f_b8 z1_b8 z2_b8 z3_b8 z4_b8 K_b2 K_b3 K_b7 K_b8
    have K_b2 := N_b2
    clear N_b2
    have K_b3 := N_b3
    clear N_b3
    obtain ⟨c_b2_0, c_b2_1, f_b2, z0_b2, z1_b2, z2_b2, z3_b2, z4_b2⟩ := blk2 K_b2
    obtain ⟨c_b3_0, c_b3_1, f_b3, z0_b3, z1_b3, z2_b3, z3_b3, z4_b3⟩ := blk2 K_b3
    rw [← HCK.out]
    go_wp2_with fail
    go_returns
    exact ⟨congrArg (fun b => Ending.returned (Value.bool b)) (decide_eq_true HQ.out), by go_grown⟩

set_option maxRecDepth 100000 in
theorem lifted_WideRoots (os : Os) (started : os.Started) (H : Type) (enc : TypeId × Value → H) :
    ReturnsInHanded {} Try.checked os 5 .any (Rows.wideRootsSpec.pre6 enc Try.prog Try.f5 Rows.wideRootsRow.domain false) (Rows.wideRootsSpec.post enc Try.prog Try.f5 false true false false) := by
  refine returnsInHanded_of_change (C := Try.checked) row_own started (by kernel_rfl) Try.func5
    (ChangeSpec.witness6 (enc := enc) (C := Try.checked) false ⟨#[], #[.agg #[.int .u64 0, .int .u64 0], .agg #[.int .u64 0, .int .u64 0]], []⟩ 8 (by kernel_rfl) (by kernel_rfl) (by kernel_rfl) (by kernel_rfl)) ?_
  intro W base args ds gs before hval0 hW hcnd _
  have hval : ∀ (j : Nat) t v, Try.f5.params[j]? = some t → args[j]? = some v → Value.okWide Try.prog W .any base t v := hval0
  have hW' := hW
  obtain ⟨p, q, hA0, hV, rfl, hfz, hnd⟩ := hW
  have hA : DataW.TrodAll enc Try.prog W 0 (fun _ => true) true Try.f5.params.toList args.toList ds p := hA0
  rw [Try.params5] at hA hval
  obtain ⟨v0, vs0, d0, ds0, p0, q0, hargs, rfl, rfl, h0, r0⟩ := trodAll_cons hA
  obtain ⟨v1, vs1, d1, ds1, p1, q1, rfl, rfl, rfl, h1, r1⟩ := trodAll_cons r0
  obtain ⟨rfl, rfl, rfl⟩ := trodAll_nil r1
  obtain rfl : args = #[v0, v1] := by cases args; simp_all
  obtain ⟨rfl, rfl⟩ := trodVars_none hV
  have lt0 : ∀ x ∈ p0, x.block < W.heap.size := by obtain ⟨m, hm⟩ := h0; exact DataW.trod_lt m _ _ _ hm
  obtain ⟨a0, b0, n0, rfl, u0⟩ := open_U (hval 0 24 v0 rfl rfl) h0
  have lt1 : ∀ x ∈ p1, x.block < W.heap.size := by obtain ⟨m, hm⟩ := h1; exact DataW.trod_lt m _ _ _ hm
  obtain ⟨a1, b1, n1, rfl, u1⟩ := open_U (hval 1 24 v1 rfl rfl) h1
  clear hA0 hval0
  refine (walk_WideRoots u0 u1 W).mono fun e W' ⟨he, bel⟩ => ?_
  subst he
  exact ⟨_, rfl, _, _, _, [], _, [], hW', trodAll_mk1 (shut_bool Try.underlying4 _), (trodAll_cons_mk (Below.trod row_laid (by kernel_rfl) (of_decide_eq_true (by kernel_rfl)) h0 bel lt0) (trodAll_cons_mk (Below.trod row_laid (by kernel_rfl) (of_decide_eq_true (by kernel_rfl)) h1 bel lt1) trodAll_mk0)), rfl, bel.frame _, fun h => by cases h⟩

theorem over_WideRoots : Rows.wideRootsRow.holds Try.pinned (OpenSpec.ofChange Rows.wideRootsSpec) :=
  OpenClaim.holds_of_wide 5 Try.f5 rfl rfl rfl rfl rfl rfl rfl ⟨rfl, rfl, rfl, rfl, rfl⟩ rfl rfl rfl rfl rfl (by kernel_rfl) Try.func5 (by kernel_rfl)
    (of_decide_eq_true (by kernel_rfl)) (by unfold Func.isWrapper; first | (rw [if_pos (by decide +kernel)]; kernel_rfl) | (rw [if_neg (by decide +kernel)]; exact ⟨rfl, rfl⟩))
    (fun os started H enc _ => lifted_WideRoots os started H enc)

theorem holds_WideRoots : Rows.WideRootsSaid := over_WideRoots
#print axioms holds_WideRoots

end Go.Proofs.Ytpnfomnnbmncaaa
