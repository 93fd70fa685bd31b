/-
  The contracts of package wide's shift by one and long division, for all arguments. The contract of package wide's long division of four words by two, for all arguments.
-/
import Derived.Test.YtmldjlgeeljfdaaGreatWide2
import Derived.BigRegion
import Derived.Deep.RegionHeld3
import Derived.Deep.LoopGhost
namespace Go.Proofs.YtmldjlgeeljfdaaGreat

open Go.RowKit

theorem or_join (i : Nat) {x y : Int} (hx0 : 0 ≤ x) (hx1 : x < 18446744073709551616) (hm : x.toNat % 2 ^ i = 0) (hy0 : 0 ≤ y) (hy1 : y.toNat < 2 ^ i) (hy2 : y < 18446744073709551616) : bits .or .u64 x y = x + y := by
  rw [u64_or x y hx0 hx1 hy0 hy2, nat_join i _ _ hm hy1]
  omega

set_option maxHeartbeats 800000 in
theorem wide_shl1 {h1 h0 l1 l0 : Int} {h l : Nat} (hh : IsU h1 h0 h) (hl : IsU l1 l0 l) (w : World) :
    Calls Tryz.prog 79 #[.agg #[.int .u64 h1, .int .u64 h0], .agg #[.int .u64 l1, .int .u64 l0], .int .u64 0] w fun e w' =>
      ∃ r1 r0 q1 q0 : Int, e = .returned (.tuple #[.agg #[.int .u64 r1, .int .u64 r0], .agg #[.int .u64 q1, .int .u64 q0]]) ∧
        IsU r1 r0 ((2 * h + l / 170141183460469231731687303715884105728) % 340282366920938463463374607431768211456) ∧ IsU q1 q0 (2 * l % 340282366920938463463374607431768211456) ∧ Below w.heap.size w w' := by
  obtain ⟨p1, p2, p3, p4, p5⟩ := hh
  obtain ⟨q1, q2, q3, q4, q5⟩ := hl
  have P5 := Lib.hid p5; clear p5
  have Q5 := Lib.hid q5; clear q5
  go_enter Tryz.func79, Tryz.ntmps79
  go_wp2_with fail
  go_region_held3 (fun w' => w'.cell? ⟨w.heap.size, 0, none⟩ = some (.int .u64 h1) ∧ w'.cell? ⟨w.heap.size, 1, none⟩ = some (.int .u64 h0) ∧ w'.cell? ⟨w.heap.size + 1, 0, none⟩ = some (.int .u64 l1) ∧ w'.cell? ⟨w.heap.size + 1, 1, none⟩ = some (.int .u64 l0)) (go_keep) (fail)
  go_wp2_with fail
  (try simp only [Exit.inBlock, Exit.then])
  refine bodyPost_ret (v := ?_) ?_ rfl ?_
  rotate_left
  · simp only [results, Tryz.results79]
    go_simp
    exact rfl
  have p5 := P5.out; have q5 := Q5.out
  refine ⟨_, _, _, _, rfl, ?_, ?_, by go_grown⟩
  · rw [IntKind.wrap_u64, IntKind.wrap_u64, or_join 1 (by omega) (by omega) (by simp only [Nat.pow_one]; omega) (by omega) (by simp only [Nat.pow_one]; omega) (by omega), or_join 1 (by omega) (by omega) (by simp only [Nat.pow_one]; omega) (by omega) (by simp only [Nat.pow_one]; omega) (by omega)]
    exact ⟨by omega, by omega, by omega, by omega, by omega⟩
  · rw [IntKind.wrap_u64, IntKind.wrap_u64, or_join 1 (by omega) (by omega) (by simp only [Nat.pow_one]; omega) (by omega) (by simp only [Nat.pow_one]; omega) (by omega), or_join 1 (by omega) (by omega) (by simp only [Nat.pow_one]; omega) (by omega) (by simp only [Nat.pow_one]; omega) (by omega)]
    exact ⟨by omega, by omega, by omega, by omega, by omega⟩

/-- The state of the long division behind k rounds: r is what is left, q holds the quotient's digits so far below what is still to come. -/
def DivInv (N d k r q : Nat) : Prop := r < d ∧ ∃ Q rest : Nat, q = rest * 2 ^ k + Q ∧ Q < 2 ^ k ∧ rest < 2 ^ (128 - k) ∧ N = (Q * d + r) * 2 ^ (128 - k) + rest

theorem DivInv.start {hi lo d : Nat} (h : hi < d) (hl : lo < 340282366920938463463374607431768211456) : DivInv (hi * 340282366920938463463374607431768211456 + lo) d 0 hi lo :=
  ⟨h, 0, lo, by simp, by simp, by simpa using hl, by simp⟩

theorem DivInv.finish {N d r q : Nat} (h : DivInv N d 128 r q) : q = N / d ∧ r = N % d := by
  obtain ⟨h1, Q, rest, h2, h3, h4, h5⟩ := h
  simp at h4
  subst h4
  simp at h2 h5
  subst h2
  have hd : 0 < d := by omega
  constructor
  · rw [h5, Nat.add_comm, Nat.add_mul_div_right _ _ hd, Nat.div_eq_of_lt h1]; omega
  · rw [h5, Nat.add_comm, Nat.add_mul_mod_self_right, Nat.mod_eq_of_lt h1]

theorem DivInv.qlt {N d k r q : Nat} (h : DivInv N d k r q) (hk : k ≤ 128) : q < 340282366920938463463374607431768211456 := by
  obtain ⟨h1, Q, rest, h2, h3, h4, h5⟩ := h
  have e : 2 ^ (128 - k) * 2 ^ k = 340282366920938463463374607431768211456 := by rw [← Nat.pow_add, Nat.sub_add_cancel hk]
  have : (rest + 1) * 2 ^ k ≤ 2 ^ (128 - k) * 2 ^ k := Nat.mul_le_mul_right _ h4
  rw [e, Nat.add_mul] at this
  omega

theorem DivInv.step {N d k r q : Nat} (h : DivInv N d k r q) (hk : k < 128) :
    (d ≤ 2 * r + q / 170141183460469231731687303715884105728 → DivInv N d (k + 1) (2 * r + q / 170141183460469231731687303715884105728 - d) (2 * q % 340282366920938463463374607431768211456 + 1)) ∧ (2 * r + q / 170141183460469231731687303715884105728 < d → DivInv N d (k + 1) (2 * r + q / 170141183460469231731687303715884105728) (2 * q % 340282366920938463463374607431768211456)) ∧ q / 170141183460469231731687303715884105728 ≤ 1 ∧ 2 * q % 340282366920938463463374607431768211456 % 2 = 0 := by
  have hq := h.qlt (by omega)
  obtain ⟨h1, Q, rest, h2, h3, h4, h5⟩ := h
  obtain ⟨j, hj⟩ : ∃ j, 128 = k + 1 + j := ⟨127 - k, by omega⟩
  have e1 : 128 - k = j + 1 := by omega
  have e2 : 128 - (k + 1) = j := by omega
  rw [e1] at h4 h5
  have ps : 2 ^ j * 2 ^ k = 170141183460469231731687303715884105728 := by rw [← Nat.pow_add, show j + k = 127 by omega]
  have pj : 0 < 2 ^ j := Nat.two_pow_pos j
  have pk : 0 < 2 ^ k := Nat.two_pow_pos k
  have ek : 2 ^ (k + 1) = 2 * 2 ^ k := by rw [Nat.pow_succ, Nat.mul_comm]
  have ej : 2 ^ (j + 1) = 2 * 2 ^ j := by rw [Nat.pow_succ, Nat.mul_comm]
  rw [ej] at h4 h5
  unfold DivInv
  rw [e2, ek]
  generalize 2 ^ j = s at *
  generalize 2 ^ k = p at *
  clear e1 e2 ek ej hj hk
  -- the highest digit that is still to come
  obtain ⟨t, rest', hr, ht, hr'⟩ : ∃ t rest', rest = t * s + rest' ∧ t ≤ 1 ∧ rest' < s := by
    refine ⟨rest / s, rest % s, by rw [Nat.mul_comm]; exact (Nat.div_add_mod rest s).symm, ?_, Nat.mod_lt _ pj⟩
    have : rest / s < 2 := by rw [Nat.div_lt_iff_lt_mul pj]; omega
    omega
  have hlow : rest' * p + Q < 170141183460469231731687303715884105728 := by
    have : (rest' + 1) * p ≤ s * p := Nat.mul_le_mul_right _ hr'
    rw [ps, Nat.add_mul] at this
    omega
  have hqv : q = t * 170141183460469231731687303715884105728 + (rest' * p + Q) := by
    rw [h2, hr, Nat.add_mul, Nat.mul_assoc, ps, Nat.add_assoc]
  have hqt : q / 170141183460469231731687303715884105728 = t := by omega
  have hq2 : 2 * q % 340282366920938463463374607431768211456 = rest' * (2 * p) + 2 * Q := by
    have : rest' * (2 * p) = 2 * (rest' * p) := by rw [Nat.mul_left_comm]
    omega
  have hN : N = (2 * Q * d + (2 * r + t)) * s + rest' := by
    rw [h5, hr]
    have a1 : (Q * d + r) * (2 * s) = (2 * Q * d + 2 * r) * s := by
      rw [Nat.mul_left_comm, ← Nat.mul_assoc, Nat.mul_add, ← Nat.mul_assoc]
    have a2 : (2 * Q * d + (2 * r + t)) * s = (2 * Q * d + 2 * r) * s + t * s := by rw [← Nat.add_assoc, Nat.add_mul]
    rw [a1, a2]; omega
  rw [hqt, hq2]
  refine ⟨fun hge => ⟨by omega, 2 * Q + 1, rest', by omega, by omega, hr', ?_⟩, fun hlt => ⟨hlt, 2 * Q, rest', rfl, by omega, hr', hN⟩, ht, ?_⟩
  · rw [hN]
    congr 2
    rw [Nat.add_mul]
    omega
  · have : rest' * (2 * p) = 2 * (rest' * p) := by rw [Nat.mul_left_comm]
    omega



open Go.RowKit

set_option maxHeartbeats 800000 in
theorem wide_Div_no {h1 h0 l1 l0 d1 d0 : Int} {h d : Nat} (hh : IsU h1 h0 h) (hd : IsU d1 d0 d) (hle : d ≤ h) (w : World) :
    Calls Tryz.prog 39 #[.agg #[.int .u64 h1, .int .u64 h0], .agg #[.int .u64 l1, .int .u64 l0], .agg #[.int .u64 d1, .int .u64 d0]] w fun e w' =>
      e = .returned (.tuple #[.agg #[.int .u64 0, .int .u64 0], .agg #[.int .u64 0, .int .u64 0], .bool false]) ∧ Below w.heap.size w w' := by
  have hc : decide (0 ≤ cmpN h d) = true := by
    unfold cmpN; repeat' split
    all_goals first | rfl | omega
  go_enter Tryz.func39, Tryz.ntmps39
  go_wp2_with fail
  refine (wide_Cmp hh hd _).mono ?_
  rintro e w1 ⟨rfl, hb_⟩
  have N_b6 : Blk w1 (w.heap.size + 1 + 1 + 1) #[_, _] := Blk.below (by (repeat' (first | (with_reducible assumption) | (with_reducible refine Blk.new ?_; first | (with_reducible rfl) | (simp; done)) | (with_reducible refine Blk.alloc ?_ _) | (with_reducible refine Blk.drew ?_) | (with_reducible refine Blk.drewN ?_ _) | (with_reducible apply Blk.set2_0) | (with_reducible apply Blk.set2_1) | (with_reducible refine Blk.other ?_ _ ?_; rotate_left; focus (first | omega | (simp; done) | (simp; omega)))))) hb_
  have N_b7 : Blk w1 (w.heap.size + 1 + 1 + 1 + 1) #[_, _] := Blk.below (by (repeat' (first | (with_reducible assumption) | (with_reducible refine Blk.new ?_; first | (with_reducible rfl) | (simp; done)) | (with_reducible refine Blk.alloc ?_ _) | (with_reducible refine Blk.drew ?_) | (with_reducible refine Blk.drewN ?_ _) | (with_reducible apply Blk.set2_0) | (with_reducible apply Blk.set2_1) | (with_reducible refine Blk.other ?_ _ ?_; rotate_left; focus (first | omega | (simp; done) | (simp; omega)))))) hb_
  have HB_w1 : Below w.heap.size w w1 := Below.trans (by go_grown) (hb_.mono (by go_size))
  have HZ_w1 : w.heap.size ≤ w1.heap.size := HB_w1.size
  clear hb_
  have K_b6 := N_b6
  clear N_b6
  have K_b7 := N_b7
  clear N_b7
  obtain ⟨c_b6_0, c_b6_1, f_b6, z0_b6, z1_b6, z2_b6, z3_b6, z4_b6⟩ := blk2 K_b6
  obtain ⟨c_b7_0, c_b7_1, f_b7, z0_b7, z1_b7, z2_b7, z3_b7, z4_b7⟩ := blk2 K_b7
  go_wp2_with fail
  (try simp only [Exit.inBlock, Exit.then])
  refine bodyPost_ret (v := ?_) ?_ rfl ?_
  rotate_left
  · simp only [results, Tryz.results39]
    go_simp
    exact rfl
  exact ⟨rfl, by go_grown⟩

theorem IsU.or1 {h l : Int} {n : Nat} (u : IsU h l n) (he : n % 2 = 0) : IsU h (bits .or .u64 l 1) (n + 1) := by
  obtain ⟨a, b, c, d, e⟩ := u
  rw [or_join 1 c d (by simp only [Nat.pow_one]; omega) (by omega) (by decide) (by omega)]
  exact ⟨a, b, by omega, by omega, by omega⟩

/-- One step of the long division, with the double of what is left under a name. -/
theorem DivInv.next {N d k r q r2 q2 : Nat} (h : DivInv N d k r q) (hk : k < 128) (e2 : r2 = 2 * r + q / 170141183460469231731687303715884105728) (e3 : q2 = 2 * q % 340282366920938463463374607431768211456) :
    (d ≤ r2 → DivInv N d (k + 1) (r2 - d) (q2 + 1)) ∧ (r2 < d → DivInv N d (k + 1) r2 q2) ∧ r2 ≤ 2 * r + 1 ∧ 2 * r ≤ r2 ∧ q2 % 2 = 0 := by
  subst e2 e3
  obtain ⟨a, b, c, e⟩ := h.step hk
  exact ⟨a, b, by omega, by omega, e⟩

set_option maxRecDepth 100000 in
set_option maxHeartbeats 1600000 in
theorem wide_Div_yes {h1 h0 l1 l0 d1 d0 : Int} {h l d : Nat} (hh : IsU h1 h0 h) (hl : IsU l1 l0 l) (hd : IsU d1 d0 d) (hlt : h < d) (w : World) :
    Calls Tryz.prog 39 #[.agg #[.int .u64 h1, .int .u64 h0], .agg #[.int .u64 l1, .int .u64 l0], .agg #[.int .u64 d1, .int .u64 d0]] w fun e w' =>
      ∃ q1 q0 r1 r0 : Int, e = .returned (.tuple #[.agg #[.int .u64 q1, .int .u64 q0], .agg #[.int .u64 r1, .int .u64 r0], .bool true]) ∧
        IsU q1 q0 ((h * 340282366920938463463374607431768211456 + l) / d) ∧ IsU r1 r0 ((h * 340282366920938463463374607431768211456 + l) % d) ∧ Below w.heap.size w w' := by
  have hc : decide (0 ≤ cmpN h d) = false := by
    unfold cmpN; repeat' split
    all_goals first | rfl | omega
  go_enter Tryz.func39, Tryz.ntmps39
  go_wp2_with fail
  refine (wide_Cmp hh hd _).mono ?_
  rintro e w1 ⟨rfl, hb_⟩
  have N_b3 : Blk w1 (w.heap.size) #[_, _] := Blk.below (by (repeat' (first | (with_reducible assumption) | (with_reducible refine Blk.new ?_; first | (with_reducible rfl) | (simp; done)) | (with_reducible refine Blk.alloc ?_ _) | (with_reducible refine Blk.drew ?_) | (with_reducible refine Blk.drewN ?_ _) | (with_reducible apply Blk.set2_0) | (with_reducible apply Blk.set2_1) | (with_reducible refine Blk.other ?_ _ ?_; rotate_left; focus (first | omega | (simp; done) | (simp; omega)))))) hb_
  have N_b4 : Blk w1 (w.heap.size + 1) #[_, _] := Blk.below (by (repeat' (first | (with_reducible assumption) | (with_reducible refine Blk.new ?_; first | (with_reducible rfl) | (simp; done)) | (with_reducible refine Blk.alloc ?_ _) | (with_reducible refine Blk.drew ?_) | (with_reducible refine Blk.drewN ?_ _) | (with_reducible apply Blk.set2_0) | (with_reducible apply Blk.set2_1) | (with_reducible refine Blk.other ?_ _ ?_; rotate_left; focus (first | omega | (simp; done) | (simp; omega)))))) hb_
  have N_b5 : Blk w1 (w.heap.size + 1 + 1) #[_, _] := Blk.below (by (repeat' (first | (with_reducible assumption) | (with_reducible refine Blk.new ?_; first | (with_reducible rfl) | (simp; done)) | (with_reducible refine Blk.alloc ?_ _) | (with_reducible refine Blk.drew ?_) | (with_reducible refine Blk.drewN ?_ _) | (with_reducible apply Blk.set2_0) | (with_reducible apply Blk.set2_1) | (with_reducible refine Blk.other ?_ _ ?_; rotate_left; focus (first | omega | (simp; done) | (simp; omega)))))) hb_
  have N_b6 : Blk w1 (w.heap.size + 1 + 1 + 1) #[_, _] := Blk.below (by (repeat' (first | (with_reducible assumption) | (with_reducible refine Blk.new ?_; first | (with_reducible rfl) | (simp; done)) | (with_reducible refine Blk.alloc ?_ _) | (with_reducible refine Blk.drew ?_) | (with_reducible refine Blk.drewN ?_ _) | (with_reducible apply Blk.set2_0) | (with_reducible apply Blk.set2_1) | (with_reducible refine Blk.other ?_ _ ?_; rotate_left; focus (first | omega | (simp; done) | (simp; omega)))))) hb_
  have N_b7 : Blk w1 (w.heap.size + 1 + 1 + 1 + 1) #[_, _] := Blk.below (by (repeat' (first | (with_reducible assumption) | (with_reducible refine Blk.new ?_; first | (with_reducible rfl) | (simp; done)) | (with_reducible refine Blk.alloc ?_ _) | (with_reducible refine Blk.drew ?_) | (with_reducible refine Blk.drewN ?_ _) | (with_reducible apply Blk.set2_0) | (with_reducible apply Blk.set2_1) | (with_reducible refine Blk.other ?_ _ ?_; rotate_left; focus (first | omega | (simp; done) | (simp; omega)))))) hb_
  have HB_w1 : Below w.heap.size w w1 := Below.trans (by go_grown) (hb_.mono (by go_size))
  have HZ_w1 : w.heap.size ≤ w1.heap.size := HB_w1.size
  clear hb_
  have K_b3 := N_b3
  clear N_b3
  have K_b4 := N_b4
  clear N_b4
  have K_b5 := N_b5
  clear N_b5
  have K_b6 := N_b6
  clear N_b6
  have K_b7 := N_b7
  clear N_b7
  obtain ⟨c_b3_0, c_b3_1, f_b3, z0_b3, z1_b3, z2_b3, z3_b3, z4_b3⟩ := blk2 K_b3
  obtain ⟨c_b4_0, c_b4_1, f_b4, z0_b4, z1_b4, z2_b4, z3_b4, z4_b4⟩ := blk2 K_b4
  obtain ⟨c_b5_0, c_b5_1, f_b5, z0_b5, z1_b5, z2_b5, z3_b5, z4_b5⟩ := blk2 K_b5
  obtain ⟨c_b6_0, c_b6_1, f_b6, z0_b6, z1_b6, z2_b6, z3_b6, z4_b6⟩ := blk2 K_b6
  obtain ⟨c_b7_0, c_b7_1, f_b7, z0_b7, z1_b7, z2_b7, z3_b7, z4_b7⟩ := blk2 K_b7
  go_wp2_with fail
  go_cut [9, 10] (fun s9 s10 wx => ∃ b9 b10 : Nat, s9 = .pointer (some ⟨b9, 0, none⟩) ∧ s10 = .pointer (some ⟨b10, 0, none⟩) ∧ b9 ≠ b10 ∧ w.heap.size + 1 + 1 + 1 + 1 < b9 ∧ w.heap.size + 1 + 1 + 1 + 1 < b10 ∧
      Blk wx (w.heap.size + 1 + 1) #[.int .u64 d1, .int .u64 d0] ∧ Blk wx (w.heap.size + 1 + 1 + 1) #[.int .u64 0, .int .u64 0] ∧ Blk wx (w.heap.size + 1 + 1 + 1 + 1) #[.int .u64 0, .int .u64 0] ∧ Blk wx b9 #[.int .u64 h1, .int .u64 h0] ∧ Blk wx b10 #[.int .u64 l1, .int .u64 l0] ∧ Below w.heap.size w wx)
  case first =>
    go_region_held3 (fun w' => w'.cell? ⟨w.heap.size, 0, none⟩ = some (.int .u64 h1) ∧ w'.cell? ⟨w.heap.size, 1, none⟩ = some (.int .u64 h0) ∧ w'.cell? ⟨w.heap.size + 1, 0, none⟩ = some (.int .u64 l1) ∧ w'.cell? ⟨w.heap.size + 1, 1, none⟩ = some (.int .u64 l0)) (go_keep) (fail)
    all_goals
      go_wp2_with fail
      go_meet
      exact ⟨_, _, rfl, rfl, by omega, by omega, by omega, (by (repeat' (first | (with_reducible assumption) | (with_reducible refine Blk.new ?_; first | (with_reducible rfl) | (simp; done)) | (with_reducible refine Blk.alloc ?_ _) | (with_reducible refine Blk.drew ?_) | (with_reducible refine Blk.drewN ?_ _) | (with_reducible apply Blk.set2_0) | (with_reducible apply Blk.set2_1) | (with_reducible refine Blk.other ?_ _ ?_; rotate_left; focus (first | omega | (simp; done) | (simp; omega)))))), (by (repeat' (first | (with_reducible assumption) | (with_reducible refine Blk.new ?_; first | (with_reducible rfl) | (simp; done)) | (with_reducible refine Blk.alloc ?_ _) | (with_reducible refine Blk.drew ?_) | (with_reducible refine Blk.drewN ?_ _) | (with_reducible apply Blk.set2_0) | (with_reducible apply Blk.set2_1) | (with_reducible refine Blk.other ?_ _ ?_; rotate_left; focus (first | omega | (simp; done) | (simp; omega)))))), (by (repeat' (first | (with_reducible assumption) | (with_reducible refine Blk.new ?_; first | (with_reducible rfl) | (simp; done)) | (with_reducible refine Blk.alloc ?_ _) | (with_reducible refine Blk.drew ?_) | (with_reducible refine Blk.drewN ?_ _) | (with_reducible apply Blk.set2_0) | (with_reducible apply Blk.set2_1) | (with_reducible refine Blk.other ?_ _ ?_; rotate_left; focus (first | omega | (simp; done) | (simp; omega)))))), (by (repeat' (first | (with_reducible assumption) | (with_reducible refine Blk.new ?_; first | (with_reducible rfl) | (simp; done)) | (with_reducible refine Blk.alloc ?_ _) | (with_reducible refine Blk.drew ?_) | (with_reducible refine Blk.drewN ?_ _) | (with_reducible apply Blk.set2_0) | (with_reducible apply Blk.set2_1) | (with_reducible refine Blk.other ?_ _ ?_; rotate_left; focus (first | omega | (simp; done) | (simp; omega)))))), (by (repeat' (first | (with_reducible assumption) | (with_reducible refine Blk.new ?_; first | (with_reducible rfl) | (simp; done)) | (with_reducible refine Blk.alloc ?_ _) | (with_reducible refine Blk.drew ?_) | (with_reducible refine Blk.drewN ?_ _) | (with_reducible apply Blk.set2_0) | (with_reducible apply Blk.set2_1) | (with_reducible refine Blk.other ?_ _ ?_; rotate_left; focus (first | omega | (simp; done) | (simp; omega)))))), by go_grown⟩
  case rest =>
  obtain ⟨b9, b10, rfl, rfl, n1, n2, n3, K_b5, K_b6, K_b7, K_b9, K_b10, HB_wc⟩ := hcut
  go_wp2_with fail
  go_loopw [20] (fun i wr => ∃ (k r q : Nat) (r1 r0 q1 q0 : Int), k ≤ 128 ∧ i = .int .i64 k ∧ IsU r1 r0 r ∧ IsU q1 q0 q ∧ DivInv (h * 340282366920938463463374607431768211456 + l) d k r q ∧
      Blk wr (w.heap.size + 1 + 1) #[.int .u64 d1, .int .u64 d0] ∧ Blk wr (w.heap.size + 1 + 1 + 1) #[.int .u64 0, .int .u64 0] ∧ Blk wr (w.heap.size + 1 + 1 + 1 + 1) #[.int .u64 0, .int .u64 0] ∧ Blk wr b9 #[.int .u64 r1, .int .u64 r0] ∧ Blk wr b10 #[.int .u64 q1, .int .u64 q0] ∧ Below w.heap.size w wr)
    (fun i _ => 128 - (intOf i).toNat)
  case atStart => exact ⟨0, h, l, h1, h0, l1, l0, by omega, rfl, hh, hl, DivInv.start hlt hl.lt, K_b5, K_b6, K_b7, K_b9, K_b10, HB_wc⟩
  case round =>
    clear K_b5 K_b6 K_b7 K_b9 K_b10 HB_wc
    obtain ⟨k, r, q, r1, r0, q1, q0, hk, rfl, ur, uq, inv, K_b5, K_b6, K_b7, K_b9, K_b10, HB_wr⟩ := hrel
    have m1 : w.heap.size + 1 + 1 ≠ b9 := by omega
    have m2 : w.heap.size + 1 + 1 ≠ b10 := by omega
    have m3 : w.heap.size + 1 + 1 + 1 ≠ b9 := by omega
    have m4 : w.heap.size + 1 + 1 + 1 ≠ b10 := by omega
    have m5 : w.heap.size + 1 + 1 + 1 + 1 ≠ b9 := by omega
    have m6 : w.heap.size + 1 + 1 + 1 + 1 ≠ b10 := by omega
    have m7 : b10 ≠ b9 := by omega
    have HZ_wr := HB_wr.size
    obtain ⟨c_b5_0, c_b5_1, f_b5, z0_b5, z1_b5, z2_b5, z3_b5, z4_b5⟩ := blk2 K_b5
    obtain ⟨c_b6_0, c_b6_1, f_b6, z0_b6, z1_b6, z2_b6, z3_b6, z4_b6⟩ := blk2 K_b6
    obtain ⟨c_b7_0, c_b7_1, f_b7, z0_b7, z1_b7, z2_b7, z3_b7, z4_b7⟩ := blk2 K_b7
    obtain ⟨c_b9_0, c_b9_1, f_b9, z0_b9, z1_b9, z2_b9, z3_b9, z4_b9⟩ := blk2 K_b9
    obtain ⟨c_b10_0, c_b10_1, f_b10, z0_b10, z1_b10, z2_b10, z3_b10, z4_b10⟩ := blk2 K_b10
    by_cases hkl : k < 128
    · have rl := inv.1
      obtain ⟨r2, e2⟩ : ∃ r2, r2 = 2 * r + q / 170141183460469231731687303715884105728 := ⟨_, rfl⟩
      obtain ⟨q2, e3⟩ : ∃ q2, q2 = 2 * q % 340282366920938463463374607431768211456 := ⟨_, rfl⟩
      have St := Lib.hid (inv.next hkl e2 e3)
      have E2 := Lib.hid e2; have E3 := Lib.hid e3; clear e2 e3
      have dl := Lib.hid hd.lt
      by_cases hov : 9223372036854775808 ≤ r1
      · have ov : (r1 / 9223372036854775808 == 1) = true := by
          have x1 := ur.h0; have x2 := ur.h1
          rw [beq_iff_eq]; omega
        have hr := Lib.hid (show 170141183460469231731687303715884105728 ≤ r by have := ur.eq; have := ur.l0; omega)
        clear hov
        go_wp2_with fail
        refine (wide_shl1 ur uq _).mono ?_
        rintro e w3 ⟨s1, s0, t1, t0, rfl, u1, u2, hb_⟩
        have N_b5 : Blk w3 (w.heap.size + 1 + 1) #[_, _] := Blk.below (by (repeat' (first | (with_reducible assumption) | (with_reducible refine Blk.new ?_; first | (with_reducible rfl) | (simp; done)) | (with_reducible refine Blk.alloc ?_ _) | (with_reducible refine Blk.drew ?_) | (with_reducible refine Blk.drewN ?_ _) | (with_reducible apply Blk.set2_0) | (with_reducible apply Blk.set2_1) | (with_reducible refine Blk.other ?_ _ ?_; rotate_left; focus (first | omega | (simp; done) | (simp; omega)))))) hb_
        have N_b6 : Blk w3 (w.heap.size + 1 + 1 + 1) #[_, _] := Blk.below (by (repeat' (first | (with_reducible assumption) | (with_reducible refine Blk.new ?_; first | (with_reducible rfl) | (simp; done)) | (with_reducible refine Blk.alloc ?_ _) | (with_reducible refine Blk.drew ?_) | (with_reducible refine Blk.drewN ?_ _) | (with_reducible apply Blk.set2_0) | (with_reducible apply Blk.set2_1) | (with_reducible refine Blk.other ?_ _ ?_; rotate_left; focus (first | omega | (simp; done) | (simp; omega)))))) hb_
        have N_b7 : Blk w3 (w.heap.size + 1 + 1 + 1 + 1) #[_, _] := Blk.below (by (repeat' (first | (with_reducible assumption) | (with_reducible refine Blk.new ?_; first | (with_reducible rfl) | (simp; done)) | (with_reducible refine Blk.alloc ?_ _) | (with_reducible refine Blk.drew ?_) | (with_reducible refine Blk.drewN ?_ _) | (with_reducible apply Blk.set2_0) | (with_reducible apply Blk.set2_1) | (with_reducible refine Blk.other ?_ _ ?_; rotate_left; focus (first | omega | (simp; done) | (simp; omega)))))) hb_
        have N_b9 : Blk w3 (b9) #[_, _] := Blk.below (by (repeat' (first | (with_reducible assumption) | (with_reducible refine Blk.new ?_; first | (with_reducible rfl) | (simp; done)) | (with_reducible refine Blk.alloc ?_ _) | (with_reducible refine Blk.drew ?_) | (with_reducible refine Blk.drewN ?_ _) | (with_reducible apply Blk.set2_0) | (with_reducible apply Blk.set2_1) | (with_reducible refine Blk.other ?_ _ ?_; rotate_left; focus (first | omega | (simp; done) | (simp; omega)))))) hb_
        have N_b10 : Blk w3 (b10) #[_, _] := Blk.below (by (repeat' (first | (with_reducible assumption) | (with_reducible refine Blk.new ?_; first | (with_reducible rfl) | (simp; done)) | (with_reducible refine Blk.alloc ?_ _) | (with_reducible refine Blk.drew ?_) | (with_reducible refine Blk.drewN ?_ _) | (with_reducible apply Blk.set2_0) | (with_reducible apply Blk.set2_1) | (with_reducible refine Blk.other ?_ _ ?_; rotate_left; focus (first | omega | (simp; done) | (simp; omega)))))) hb_
        have HB_w3 : Below w.heap.size w w3 := Below.trans (by go_grown) (hb_.mono (by go_size))
        have HZ_w3 : w.heap.size ≤ w3.heap.size := HB_w3.size
        clear hb_
        clear c_b5_0 c_b5_1 f_b5 z1_b5 z2_b5 z3_b5 z4_b5 c_b6_0 c_b6_1 f_b6 z1_b6 z2_b6 z3_b6 z4_b6 c_b7_0 c_b7_1 f_b7 z1_b7 z2_b7 z3_b7 z4_b7 c_b9_0 c_b9_1 f_b9 z1_b9 z2_b9 z3_b9 z4_b9 c_b10_0 c_b10_1 f_b10 z1_b10 z2_b10 z3_b10 z4_b10 K_b5 K_b6 K_b7 K_b9 K_b10
        have K_b5 := N_b5
        clear N_b5
        have K_b6 := N_b6
        clear N_b6
        have K_b7 := N_b7
        clear N_b7
        have K_b9 := N_b9
        clear N_b9
        have K_b10 := N_b10
        clear N_b10
        obtain ⟨c_b5_0, c_b5_1, f_b5, z0_b5, z1_b5, z2_b5, z3_b5, z4_b5⟩ := blk2 K_b5
        obtain ⟨c_b6_0, c_b6_1, f_b6, z0_b6, z1_b6, z2_b6, z3_b6, z4_b6⟩ := blk2 K_b6
        obtain ⟨c_b7_0, c_b7_1, f_b7, z0_b7, z1_b7, z2_b7, z3_b7, z4_b7⟩ := blk2 K_b7
        obtain ⟨c_b9_0, c_b9_1, f_b9, z0_b9, z1_b9, z2_b9, z3_b9, z4_b9⟩ := blk2 K_b9
        obtain ⟨c_b10_0, c_b10_1, f_b10, z0_b10, z1_b10, z2_b10, z3_b10, z4_b10⟩ := blk2 K_b10
        go_wp2_with fail
        refine (wide_Sub u1 hd _).mono ?_
        rintro e w4 ⟨v1, v0, c, rfl, u3, _, hb_⟩
        have N_b5 : Blk w4 (w.heap.size + 1 + 1) #[_, _] := Blk.below (by (repeat' (first | (with_reducible assumption) | (with_reducible refine Blk.new ?_; first | (with_reducible rfl) | (simp; done)) | (with_reducible refine Blk.alloc ?_ _) | (with_reducible refine Blk.drew ?_) | (with_reducible refine Blk.drewN ?_ _) | (with_reducible apply Blk.set2_0) | (with_reducible apply Blk.set2_1) | (with_reducible refine Blk.other ?_ _ ?_; rotate_left; focus (first | omega | (simp; done) | (simp; omega)))))) hb_
        have N_b6 : Blk w4 (w.heap.size + 1 + 1 + 1) #[_, _] := Blk.below (by (repeat' (first | (with_reducible assumption) | (with_reducible refine Blk.new ?_; first | (with_reducible rfl) | (simp; done)) | (with_reducible refine Blk.alloc ?_ _) | (with_reducible refine Blk.drew ?_) | (with_reducible refine Blk.drewN ?_ _) | (with_reducible apply Blk.set2_0) | (with_reducible apply Blk.set2_1) | (with_reducible refine Blk.other ?_ _ ?_; rotate_left; focus (first | omega | (simp; done) | (simp; omega)))))) hb_
        have N_b7 : Blk w4 (w.heap.size + 1 + 1 + 1 + 1) #[_, _] := Blk.below (by (repeat' (first | (with_reducible assumption) | (with_reducible refine Blk.new ?_; first | (with_reducible rfl) | (simp; done)) | (with_reducible refine Blk.alloc ?_ _) | (with_reducible refine Blk.drew ?_) | (with_reducible refine Blk.drewN ?_ _) | (with_reducible apply Blk.set2_0) | (with_reducible apply Blk.set2_1) | (with_reducible refine Blk.other ?_ _ ?_; rotate_left; focus (first | omega | (simp; done) | (simp; omega)))))) hb_
        have N_b9 : Blk w4 (b9) #[_, _] := Blk.below (by (repeat' (first | (with_reducible assumption) | (with_reducible refine Blk.new ?_; first | (with_reducible rfl) | (simp; done)) | (with_reducible refine Blk.alloc ?_ _) | (with_reducible refine Blk.drew ?_) | (with_reducible refine Blk.drewN ?_ _) | (with_reducible apply Blk.set2_0) | (with_reducible apply Blk.set2_1) | (with_reducible refine Blk.other ?_ _ ?_; rotate_left; focus (first | omega | (simp; done) | (simp; omega)))))) hb_
        have N_b10 : Blk w4 (b10) #[_, _] := Blk.below (by (repeat' (first | (with_reducible assumption) | (with_reducible refine Blk.new ?_; first | (with_reducible rfl) | (simp; done)) | (with_reducible refine Blk.alloc ?_ _) | (with_reducible refine Blk.drew ?_) | (with_reducible refine Blk.drewN ?_ _) | (with_reducible apply Blk.set2_0) | (with_reducible apply Blk.set2_1) | (with_reducible refine Blk.other ?_ _ ?_; rotate_left; focus (first | omega | (simp; done) | (simp; omega)))))) hb_
        have HB_w4 : Below w.heap.size w w4 := Below.trans (by go_grown) (hb_.mono (by go_size))
        have HZ_w4 : w.heap.size ≤ w4.heap.size := HB_w4.size
        clear hb_
        clear c_b5_0 c_b5_1 f_b5 z1_b5 z2_b5 z3_b5 z4_b5 c_b6_0 c_b6_1 f_b6 z1_b6 z2_b6 z3_b6 z4_b6 c_b7_0 c_b7_1 f_b7 z1_b7 z2_b7 z3_b7 z4_b7 c_b9_0 c_b9_1 f_b9 z1_b9 z2_b9 z3_b9 z4_b9 c_b10_0 c_b10_1 f_b10 z1_b10 z2_b10 z3_b10 z4_b10 K_b5 K_b6 K_b7 K_b9 K_b10
        have K_b5 := N_b5
        clear N_b5
        have K_b6 := N_b6
        clear N_b6
        have K_b7 := N_b7
        clear N_b7
        have K_b9 := N_b9
        clear N_b9
        have K_b10 := N_b10
        clear N_b10
        obtain ⟨c_b5_0, c_b5_1, f_b5, z0_b5, z1_b5, z2_b5, z3_b5, z4_b5⟩ := blk2 K_b5
        obtain ⟨c_b6_0, c_b6_1, f_b6, z0_b6, z1_b6, z2_b6, z3_b6, z4_b6⟩ := blk2 K_b6
        obtain ⟨c_b7_0, c_b7_1, f_b7, z0_b7, z1_b7, z2_b7, z3_b7, z4_b7⟩ := blk2 K_b7
        obtain ⟨c_b9_0, c_b9_1, f_b9, z0_b9, z1_b9, z2_b9, z3_b9, z4_b9⟩ := blk2 K_b9
        obtain ⟨c_b10_0, c_b10_1, f_b10, z0_b10, z1_b10, z2_b10, z3_b10, z4_b10⟩ := blk2 K_b10
        go_wp2_with fail
        go_roundw
        case rel =>
          have St := St.out; have e2 := E2.out; have e3 := E3.out; have dl := dl.out; have hr := hr.out
          rw [← e2] at u3
          rw [← e3] at u2
          exact ⟨k + 1, _, _, _, _, _, _, by omega, by go_num, u3.cast (m := r2 - d) (by omega), u2.or1 St.2.2.2.2, St.1 (by omega), (by (repeat' (first | (with_reducible assumption) | (with_reducible refine Blk.new ?_; first | (with_reducible rfl) | (simp; done)) | (with_reducible refine Blk.alloc ?_ _) | (with_reducible refine Blk.drew ?_) | (with_reducible refine Blk.drewN ?_ _) | (with_reducible apply Blk.set2_0) | (with_reducible apply Blk.set2_1) | (with_reducible refine Blk.other ?_ _ ?_; rotate_left; focus (first | omega | (simp; done) | (simp; omega)))))), (by (repeat' (first | (with_reducible assumption) | (with_reducible refine Blk.new ?_; first | (with_reducible rfl) | (simp; done)) | (with_reducible refine Blk.alloc ?_ _) | (with_reducible refine Blk.drew ?_) | (with_reducible refine Blk.drewN ?_ _) | (with_reducible apply Blk.set2_0) | (with_reducible apply Blk.set2_1) | (with_reducible refine Blk.other ?_ _ ?_; rotate_left; focus (first | omega | (simp; done) | (simp; omega)))))), (by (repeat' (first | (with_reducible assumption) | (with_reducible refine Blk.new ?_; first | (with_reducible rfl) | (simp; done)) | (with_reducible refine Blk.alloc ?_ _) | (with_reducible refine Blk.drew ?_) | (with_reducible refine Blk.drewN ?_ _) | (with_reducible apply Blk.set2_0) | (with_reducible apply Blk.set2_1) | (with_reducible refine Blk.other ?_ _ ?_; rotate_left; focus (first | omega | (simp; done) | (simp; omega)))))), (by (repeat' (first | (with_reducible assumption) | (with_reducible refine Blk.new ?_; first | (with_reducible rfl) | (simp; done)) | (with_reducible refine Blk.alloc ?_ _) | (with_reducible refine Blk.drew ?_) | (with_reducible refine Blk.drewN ?_ _) | (with_reducible apply Blk.set2_0) | (with_reducible apply Blk.set2_1) | (with_reducible refine Blk.other ?_ _ ?_; rotate_left; focus (first | omega | (simp; done) | (simp; omega)))))), (by (repeat' (first | (with_reducible assumption) | (with_reducible refine Blk.new ?_; first | (with_reducible rfl) | (simp; done)) | (with_reducible refine Blk.alloc ?_ _) | (with_reducible refine Blk.drew ?_) | (with_reducible refine Blk.drewN ?_ _) | (with_reducible apply Blk.set2_0) | (with_reducible apply Blk.set2_1) | (with_reducible refine Blk.other ?_ _ ?_; rotate_left; focus (first | omega | (simp; done) | (simp; omega)))))), by go_grown⟩
        case measure => simp [intOf]; omega
      · have ov : (r1 / 9223372036854775808 == 1) = false := by
          have x1 := ur.h0; have x2 := ur.h1
          rw [beq_eq_false_iff_ne]; omega
        have hr := Lib.hid (show r < 170141183460469231731687303715884105728 by have := ur.eq; have := ur.l1; omega)
        clear hov
        by_cases hge : d ≤ r2
        · have hg : decide (0 ≤ cmpN r2 d) = true := by
            unfold cmpN; repeat' split
            all_goals first | rfl | omega
          go_wp2_with fail
          refine (wide_shl1 ur uq _).mono ?_
          rintro e w3 ⟨s1, s0, t1, t0, rfl, u1, u2, hb_⟩
          have N_b5 : Blk w3 (w.heap.size + 1 + 1) #[_, _] := Blk.below (by (repeat' (first | (with_reducible assumption) | (with_reducible refine Blk.new ?_; first | (with_reducible rfl) | (simp; done)) | (with_reducible refine Blk.alloc ?_ _) | (with_reducible refine Blk.drew ?_) | (with_reducible refine Blk.drewN ?_ _) | (with_reducible apply Blk.set2_0) | (with_reducible apply Blk.set2_1) | (with_reducible refine Blk.other ?_ _ ?_; rotate_left; focus (first | omega | (simp; done) | (simp; omega)))))) hb_
          have N_b6 : Blk w3 (w.heap.size + 1 + 1 + 1) #[_, _] := Blk.below (by (repeat' (first | (with_reducible assumption) | (with_reducible refine Blk.new ?_; first | (with_reducible rfl) | (simp; done)) | (with_reducible refine Blk.alloc ?_ _) | (with_reducible refine Blk.drew ?_) | (with_reducible refine Blk.drewN ?_ _) | (with_reducible apply Blk.set2_0) | (with_reducible apply Blk.set2_1) | (with_reducible refine Blk.other ?_ _ ?_; rotate_left; focus (first | omega | (simp; done) | (simp; omega)))))) hb_
          have N_b7 : Blk w3 (w.heap.size + 1 + 1 + 1 + 1) #[_, _] := Blk.below (by (repeat' (first | (with_reducible assumption) | (with_reducible refine Blk.new ?_; first | (with_reducible rfl) | (simp; done)) | (with_reducible refine Blk.alloc ?_ _) | (with_reducible refine Blk.drew ?_) | (with_reducible refine Blk.drewN ?_ _) | (with_reducible apply Blk.set2_0) | (with_reducible apply Blk.set2_1) | (with_reducible refine Blk.other ?_ _ ?_; rotate_left; focus (first | omega | (simp; done) | (simp; omega)))))) hb_
          have N_b9 : Blk w3 (b9) #[_, _] := Blk.below (by (repeat' (first | (with_reducible assumption) | (with_reducible refine Blk.new ?_; first | (with_reducible rfl) | (simp; done)) | (with_reducible refine Blk.alloc ?_ _) | (with_reducible refine Blk.drew ?_) | (with_reducible refine Blk.drewN ?_ _) | (with_reducible apply Blk.set2_0) | (with_reducible apply Blk.set2_1) | (with_reducible refine Blk.other ?_ _ ?_; rotate_left; focus (first | omega | (simp; done) | (simp; omega)))))) hb_
          have N_b10 : Blk w3 (b10) #[_, _] := Blk.below (by (repeat' (first | (with_reducible assumption) | (with_reducible refine Blk.new ?_; first | (with_reducible rfl) | (simp; done)) | (with_reducible refine Blk.alloc ?_ _) | (with_reducible refine Blk.drew ?_) | (with_reducible refine Blk.drewN ?_ _) | (with_reducible apply Blk.set2_0) | (with_reducible apply Blk.set2_1) | (with_reducible refine Blk.other ?_ _ ?_; rotate_left; focus (first | omega | (simp; done) | (simp; omega)))))) hb_
          have HB_w3 : Below w.heap.size w w3 := Below.trans (by go_grown) (hb_.mono (by go_size))
          have HZ_w3 : w.heap.size ≤ w3.heap.size := HB_w3.size
          clear hb_
          clear c_b5_0 c_b5_1 f_b5 z1_b5 z2_b5 z3_b5 z4_b5 c_b6_0 c_b6_1 f_b6 z1_b6 z2_b6 z3_b6 z4_b6 c_b7_0 c_b7_1 f_b7 z1_b7 z2_b7 z3_b7 z4_b7 c_b9_0 c_b9_1 f_b9 z1_b9 z2_b9 z3_b9 z4_b9 c_b10_0 c_b10_1 f_b10 z1_b10 z2_b10 z3_b10 z4_b10 K_b5 K_b6 K_b7 K_b9 K_b10
          have K_b5 := N_b5
          clear N_b5
          have K_b6 := N_b6
          clear N_b6
          have K_b7 := N_b7
          clear N_b7
          have K_b9 := N_b9
          clear N_b9
          have K_b10 := N_b10
          clear N_b10
          obtain ⟨c_b5_0, c_b5_1, f_b5, z0_b5, z1_b5, z2_b5, z3_b5, z4_b5⟩ := blk2 K_b5
          obtain ⟨c_b6_0, c_b6_1, f_b6, z0_b6, z1_b6, z2_b6, z3_b6, z4_b6⟩ := blk2 K_b6
          obtain ⟨c_b7_0, c_b7_1, f_b7, z0_b7, z1_b7, z2_b7, z3_b7, z4_b7⟩ := blk2 K_b7
          obtain ⟨c_b9_0, c_b9_1, f_b9, z0_b9, z1_b9, z2_b9, z3_b9, z4_b9⟩ := blk2 K_b9
          obtain ⟨c_b10_0, c_b10_1, f_b10, z0_b10, z1_b10, z2_b10, z3_b10, z4_b10⟩ := blk2 K_b10
          have u1 := u1.cast (m := r2) (by have := St.out; have := E2.out; have := hr.out; omega)
          go_wp2_with fail
          refine (wide_Cmp u1 hd _).mono ?_
          rintro e w5 ⟨rfl, hb_⟩
          have N_b5 : Blk w5 (w.heap.size + 1 + 1) #[_, _] := Blk.below (by (repeat' (first | (with_reducible assumption) | (with_reducible refine Blk.new ?_; first | (with_reducible rfl) | (simp; done)) | (with_reducible refine Blk.alloc ?_ _) | (with_reducible refine Blk.drew ?_) | (with_reducible refine Blk.drewN ?_ _) | (with_reducible apply Blk.set2_0) | (with_reducible apply Blk.set2_1) | (with_reducible refine Blk.other ?_ _ ?_; rotate_left; focus (first | omega | (simp; done) | (simp; omega)))))) hb_
          have N_b6 : Blk w5 (w.heap.size + 1 + 1 + 1) #[_, _] := Blk.below (by (repeat' (first | (with_reducible assumption) | (with_reducible refine Blk.new ?_; first | (with_reducible rfl) | (simp; done)) | (with_reducible refine Blk.alloc ?_ _) | (with_reducible refine Blk.drew ?_) | (with_reducible refine Blk.drewN ?_ _) | (with_reducible apply Blk.set2_0) | (with_reducible apply Blk.set2_1) | (with_reducible refine Blk.other ?_ _ ?_; rotate_left; focus (first | omega | (simp; done) | (simp; omega)))))) hb_
          have N_b7 : Blk w5 (w.heap.size + 1 + 1 + 1 + 1) #[_, _] := Blk.below (by (repeat' (first | (with_reducible assumption) | (with_reducible refine Blk.new ?_; first | (with_reducible rfl) | (simp; done)) | (with_reducible refine Blk.alloc ?_ _) | (with_reducible refine Blk.drew ?_) | (with_reducible refine Blk.drewN ?_ _) | (with_reducible apply Blk.set2_0) | (with_reducible apply Blk.set2_1) | (with_reducible refine Blk.other ?_ _ ?_; rotate_left; focus (first | omega | (simp; done) | (simp; omega)))))) hb_
          have N_b9 : Blk w5 (b9) #[_, _] := Blk.below (by (repeat' (first | (with_reducible assumption) | (with_reducible refine Blk.new ?_; first | (with_reducible rfl) | (simp; done)) | (with_reducible refine Blk.alloc ?_ _) | (with_reducible refine Blk.drew ?_) | (with_reducible refine Blk.drewN ?_ _) | (with_reducible apply Blk.set2_0) | (with_reducible apply Blk.set2_1) | (with_reducible refine Blk.other ?_ _ ?_; rotate_left; focus (first | omega | (simp; done) | (simp; omega)))))) hb_
          have N_b10 : Blk w5 (b10) #[_, _] := Blk.below (by (repeat' (first | (with_reducible assumption) | (with_reducible refine Blk.new ?_; first | (with_reducible rfl) | (simp; done)) | (with_reducible refine Blk.alloc ?_ _) | (with_reducible refine Blk.drew ?_) | (with_reducible refine Blk.drewN ?_ _) | (with_reducible apply Blk.set2_0) | (with_reducible apply Blk.set2_1) | (with_reducible refine Blk.other ?_ _ ?_; rotate_left; focus (first | omega | (simp; done) | (simp; omega)))))) hb_
          have HB_w5 : Below w.heap.size w w5 := Below.trans (by go_grown) (hb_.mono (by go_size))
          have HZ_w5 : w.heap.size ≤ w5.heap.size := HB_w5.size
          clear hb_
          clear c_b5_0 c_b5_1 f_b5 z1_b5 z2_b5 z3_b5 z4_b5 c_b6_0 c_b6_1 f_b6 z1_b6 z2_b6 z3_b6 z4_b6 c_b7_0 c_b7_1 f_b7 z1_b7 z2_b7 z3_b7 z4_b7 c_b9_0 c_b9_1 f_b9 z1_b9 z2_b9 z3_b9 z4_b9 c_b10_0 c_b10_1 f_b10 z1_b10 z2_b10 z3_b10 z4_b10 K_b5 K_b6 K_b7 K_b9 K_b10
          have K_b5 := N_b5
          clear N_b5
          have K_b6 := N_b6
          clear N_b6
          have K_b7 := N_b7
          clear N_b7
          have K_b9 := N_b9
          clear N_b9
          have K_b10 := N_b10
          clear N_b10
          obtain ⟨c_b5_0, c_b5_1, f_b5, z0_b5, z1_b5, z2_b5, z3_b5, z4_b5⟩ := blk2 K_b5
          obtain ⟨c_b6_0, c_b6_1, f_b6, z0_b6, z1_b6, z2_b6, z3_b6, z4_b6⟩ := blk2 K_b6
          obtain ⟨c_b7_0, c_b7_1, f_b7, z0_b7, z1_b7, z2_b7, z3_b7, z4_b7⟩ := blk2 K_b7
          obtain ⟨c_b9_0, c_b9_1, f_b9, z0_b9, z1_b9, z2_b9, z3_b9, z4_b9⟩ := blk2 K_b9
          obtain ⟨c_b10_0, c_b10_1, f_b10, z0_b10, z1_b10, z2_b10, z3_b10, z4_b10⟩ := blk2 K_b10
          go_wp2_with fail
          refine (wide_Sub u1 hd _).mono ?_
          rintro e w4 ⟨v1, v0, c, rfl, u3, _, hb_⟩
          have N_b5 : Blk w4 (w.heap.size + 1 + 1) #[_, _] := Blk.below (by (repeat' (first | (with_reducible assumption) | (with_reducible refine Blk.new ?_; first | (with_reducible rfl) | (simp; done)) | (with_reducible refine Blk.alloc ?_ _) | (with_reducible refine Blk.drew ?_) | (with_reducible refine Blk.drewN ?_ _) | (with_reducible apply Blk.set2_0) | (with_reducible apply Blk.set2_1) | (with_reducible refine Blk.other ?_ _ ?_; rotate_left; focus (first | omega | (simp; done) | (simp; omega)))))) hb_
          have N_b6 : Blk w4 (w.heap.size + 1 + 1 + 1) #[_, _] := Blk.below (by (repeat' (first | (with_reducible assumption) | (with_reducible refine Blk.new ?_; first | (with_reducible rfl) | (simp; done)) | (with_reducible refine Blk.alloc ?_ _) | (with_reducible refine Blk.drew ?_) | (with_reducible refine Blk.drewN ?_ _) | (with_reducible apply Blk.set2_0) | (with_reducible apply Blk.set2_1) | (with_reducible refine Blk.other ?_ _ ?_; rotate_left; focus (first | omega | (simp; done) | (simp; omega)))))) hb_
          have N_b7 : Blk w4 (w.heap.size + 1 + 1 + 1 + 1) #[_, _] := Blk.below (by (repeat' (first | (with_reducible assumption) | (with_reducible refine Blk.new ?_; first | (with_reducible rfl) | (simp; done)) | (with_reducible refine Blk.alloc ?_ _) | (with_reducible refine Blk.drew ?_) | (with_reducible refine Blk.drewN ?_ _) | (with_reducible apply Blk.set2_0) | (with_reducible apply Blk.set2_1) | (with_reducible refine Blk.other ?_ _ ?_; rotate_left; focus (first | omega | (simp; done) | (simp; omega)))))) hb_
          have N_b9 : Blk w4 (b9) #[_, _] := Blk.below (by (repeat' (first | (with_reducible assumption) | (with_reducible refine Blk.new ?_; first | (with_reducible rfl) | (simp; done)) | (with_reducible refine Blk.alloc ?_ _) | (with_reducible refine Blk.drew ?_) | (with_reducible refine Blk.drewN ?_ _) | (with_reducible apply Blk.set2_0) | (with_reducible apply Blk.set2_1) | (with_reducible refine Blk.other ?_ _ ?_; rotate_left; focus (first | omega | (simp; done) | (simp; omega)))))) hb_
          have N_b10 : Blk w4 (b10) #[_, _] := Blk.below (by (repeat' (first | (with_reducible assumption) | (with_reducible refine Blk.new ?_; first | (with_reducible rfl) | (simp; done)) | (with_reducible refine Blk.alloc ?_ _) | (with_reducible refine Blk.drew ?_) | (with_reducible refine Blk.drewN ?_ _) | (with_reducible apply Blk.set2_0) | (with_reducible apply Blk.set2_1) | (with_reducible refine Blk.other ?_ _ ?_; rotate_left; focus (first | omega | (simp; done) | (simp; omega)))))) hb_
          have HB_w4 : Below w.heap.size w w4 := Below.trans (by go_grown) (hb_.mono (by go_size))
          have HZ_w4 : w.heap.size ≤ w4.heap.size := HB_w4.size
          clear hb_
          clear c_b5_0 c_b5_1 f_b5 z1_b5 z2_b5 z3_b5 z4_b5 c_b6_0 c_b6_1 f_b6 z1_b6 z2_b6 z3_b6 z4_b6 c_b7_0 c_b7_1 f_b7 z1_b7 z2_b7 z3_b7 z4_b7 c_b9_0 c_b9_1 f_b9 z1_b9 z2_b9 z3_b9 z4_b9 c_b10_0 c_b10_1 f_b10 z1_b10 z2_b10 z3_b10 z4_b10 K_b5 K_b6 K_b7 K_b9 K_b10
          have K_b5 := N_b5
          clear N_b5
          have K_b6 := N_b6
          clear N_b6
          have K_b7 := N_b7
          clear N_b7
          have K_b9 := N_b9
          clear N_b9
          have K_b10 := N_b10
          clear N_b10
          obtain ⟨c_b5_0, c_b5_1, f_b5, z0_b5, z1_b5, z2_b5, z3_b5, z4_b5⟩ := blk2 K_b5
          obtain ⟨c_b6_0, c_b6_1, f_b6, z0_b6, z1_b6, z2_b6, z3_b6, z4_b6⟩ := blk2 K_b6
          obtain ⟨c_b7_0, c_b7_1, f_b7, z0_b7, z1_b7, z2_b7, z3_b7, z4_b7⟩ := blk2 K_b7
          obtain ⟨c_b9_0, c_b9_1, f_b9, z0_b9, z1_b9, z2_b9, z3_b9, z4_b9⟩ := blk2 K_b9
          obtain ⟨c_b10_0, c_b10_1, f_b10, z0_b10, z1_b10, z2_b10, z3_b10, z4_b10⟩ := blk2 K_b10
          go_wp2_with fail
          go_roundw
          case rel =>
            have St := St.out; have e3 := E3.out; have dl := dl.out; have hr := hr.out
            rw [← e3] at u2
            exact ⟨k + 1, _, _, _, _, _, _, by omega, by go_num, u3.cast (m := r2 - d) (by omega), u2.or1 St.2.2.2.2, St.1 (by omega), (by (repeat' (first | (with_reducible assumption) | (with_reducible refine Blk.new ?_; first | (with_reducible rfl) | (simp; done)) | (with_reducible refine Blk.alloc ?_ _) | (with_reducible refine Blk.drew ?_) | (with_reducible refine Blk.drewN ?_ _) | (with_reducible apply Blk.set2_0) | (with_reducible apply Blk.set2_1) | (with_reducible refine Blk.other ?_ _ ?_; rotate_left; focus (first | omega | (simp; done) | (simp; omega)))))), (by (repeat' (first | (with_reducible assumption) | (with_reducible refine Blk.new ?_; first | (with_reducible rfl) | (simp; done)) | (with_reducible refine Blk.alloc ?_ _) | (with_reducible refine Blk.drew ?_) | (with_reducible refine Blk.drewN ?_ _) | (with_reducible apply Blk.set2_0) | (with_reducible apply Blk.set2_1) | (with_reducible refine Blk.other ?_ _ ?_; rotate_left; focus (first | omega | (simp; done) | (simp; omega)))))), (by (repeat' (first | (with_reducible assumption) | (with_reducible refine Blk.new ?_; first | (with_reducible rfl) | (simp; done)) | (with_reducible refine Blk.alloc ?_ _) | (with_reducible refine Blk.drew ?_) | (with_reducible refine Blk.drewN ?_ _) | (with_reducible apply Blk.set2_0) | (with_reducible apply Blk.set2_1) | (with_reducible refine Blk.other ?_ _ ?_; rotate_left; focus (first | omega | (simp; done) | (simp; omega)))))), (by (repeat' (first | (with_reducible assumption) | (with_reducible refine Blk.new ?_; first | (with_reducible rfl) | (simp; done)) | (with_reducible refine Blk.alloc ?_ _) | (with_reducible refine Blk.drew ?_) | (with_reducible refine Blk.drewN ?_ _) | (with_reducible apply Blk.set2_0) | (with_reducible apply Blk.set2_1) | (with_reducible refine Blk.other ?_ _ ?_; rotate_left; focus (first | omega | (simp; done) | (simp; omega)))))), (by (repeat' (first | (with_reducible assumption) | (with_reducible refine Blk.new ?_; first | (with_reducible rfl) | (simp; done)) | (with_reducible refine Blk.alloc ?_ _) | (with_reducible refine Blk.drew ?_) | (with_reducible refine Blk.drewN ?_ _) | (with_reducible apply Blk.set2_0) | (with_reducible apply Blk.set2_1) | (with_reducible refine Blk.other ?_ _ ?_; rotate_left; focus (first | omega | (simp; done) | (simp; omega)))))), by go_grown⟩
          case measure => simp [intOf]; omega
        · have hg : decide (0 ≤ cmpN r2 d) = false := by
            unfold cmpN; repeat' split
            all_goals first | rfl | omega
          go_wp2_with fail
          refine (wide_shl1 ur uq _).mono ?_
          rintro e w3 ⟨s1, s0, t1, t0, rfl, u1, u2, hb_⟩
          have N_b5 : Blk w3 (w.heap.size + 1 + 1) #[_, _] := Blk.below (by (repeat' (first | (with_reducible assumption) | (with_reducible refine Blk.new ?_; first | (with_reducible rfl) | (simp; done)) | (with_reducible refine Blk.alloc ?_ _) | (with_reducible refine Blk.drew ?_) | (with_reducible refine Blk.drewN ?_ _) | (with_reducible apply Blk.set2_0) | (with_reducible apply Blk.set2_1) | (with_reducible refine Blk.other ?_ _ ?_; rotate_left; focus (first | omega | (simp; done) | (simp; omega)))))) hb_
          have N_b6 : Blk w3 (w.heap.size + 1 + 1 + 1) #[_, _] := Blk.below (by (repeat' (first | (with_reducible assumption) | (with_reducible refine Blk.new ?_; first | (with_reducible rfl) | (simp; done)) | (with_reducible refine Blk.alloc ?_ _) | (with_reducible refine Blk.drew ?_) | (with_reducible refine Blk.drewN ?_ _) | (with_reducible apply Blk.set2_0) | (with_reducible apply Blk.set2_1) | (with_reducible refine Blk.other ?_ _ ?_; rotate_left; focus (first | omega | (simp; done) | (simp; omega)))))) hb_
          have N_b7 : Blk w3 (w.heap.size + 1 + 1 + 1 + 1) #[_, _] := Blk.below (by (repeat' (first | (with_reducible assumption) | (with_reducible refine Blk.new ?_; first | (with_reducible rfl) | (simp; done)) | (with_reducible refine Blk.alloc ?_ _) | (with_reducible refine Blk.drew ?_) | (with_reducible refine Blk.drewN ?_ _) | (with_reducible apply Blk.set2_0) | (with_reducible apply Blk.set2_1) | (with_reducible refine Blk.other ?_ _ ?_; rotate_left; focus (first | omega | (simp; done) | (simp; omega)))))) hb_
          have N_b9 : Blk w3 (b9) #[_, _] := Blk.below (by (repeat' (first | (with_reducible assumption) | (with_reducible refine Blk.new ?_; first | (with_reducible rfl) | (simp; done)) | (with_reducible refine Blk.alloc ?_ _) | (with_reducible refine Blk.drew ?_) | (with_reducible refine Blk.drewN ?_ _) | (with_reducible apply Blk.set2_0) | (with_reducible apply Blk.set2_1) | (with_reducible refine Blk.other ?_ _ ?_; rotate_left; focus (first | omega | (simp; done) | (simp; omega)))))) hb_
          have N_b10 : Blk w3 (b10) #[_, _] := Blk.below (by (repeat' (first | (with_reducible assumption) | (with_reducible refine Blk.new ?_; first | (with_reducible rfl) | (simp; done)) | (with_reducible refine Blk.alloc ?_ _) | (with_reducible refine Blk.drew ?_) | (with_reducible refine Blk.drewN ?_ _) | (with_reducible apply Blk.set2_0) | (with_reducible apply Blk.set2_1) | (with_reducible refine Blk.other ?_ _ ?_; rotate_left; focus (first | omega | (simp; done) | (simp; omega)))))) hb_
          have HB_w3 : Below w.heap.size w w3 := Below.trans (by go_grown) (hb_.mono (by go_size))
          have HZ_w3 : w.heap.size ≤ w3.heap.size := HB_w3.size
          clear hb_
          clear c_b5_0 c_b5_1 f_b5 z1_b5 z2_b5 z3_b5 z4_b5 c_b6_0 c_b6_1 f_b6 z1_b6 z2_b6 z3_b6 z4_b6 c_b7_0 c_b7_1 f_b7 z1_b7 z2_b7 z3_b7 z4_b7 c_b9_0 c_b9_1 f_b9 z1_b9 z2_b9 z3_b9 z4_b9 c_b10_0 c_b10_1 f_b10 z1_b10 z2_b10 z3_b10 z4_b10 K_b5 K_b6 K_b7 K_b9 K_b10
          have K_b5 := N_b5
          clear N_b5
          have K_b6 := N_b6
          clear N_b6
          have K_b7 := N_b7
          clear N_b7
          have K_b9 := N_b9
          clear N_b9
          have K_b10 := N_b10
          clear N_b10
          obtain ⟨c_b5_0, c_b5_1, f_b5, z0_b5, z1_b5, z2_b5, z3_b5, z4_b5⟩ := blk2 K_b5
          obtain ⟨c_b6_0, c_b6_1, f_b6, z0_b6, z1_b6, z2_b6, z3_b6, z4_b6⟩ := blk2 K_b6
          obtain ⟨c_b7_0, c_b7_1, f_b7, z0_b7, z1_b7, z2_b7, z3_b7, z4_b7⟩ := blk2 K_b7
          obtain ⟨c_b9_0, c_b9_1, f_b9, z0_b9, z1_b9, z2_b9, z3_b9, z4_b9⟩ := blk2 K_b9
          obtain ⟨c_b10_0, c_b10_1, f_b10, z0_b10, z1_b10, z2_b10, z3_b10, z4_b10⟩ := blk2 K_b10
          have u1 := u1.cast (m := r2) (by have := St.out; have := E2.out; have := hr.out; omega)
          go_wp2_with fail
          refine (wide_Cmp u1 hd _).mono ?_
          rintro e w5 ⟨rfl, hb_⟩
          have N_b5 : Blk w5 (w.heap.size + 1 + 1) #[_, _] := Blk.below (by (repeat' (first | (with_reducible assumption) | (with_reducible refine Blk.new ?_; first | (with_reducible rfl) | (simp; done)) | (with_reducible refine Blk.alloc ?_ _) | (with_reducible refine Blk.drew ?_) | (with_reducible refine Blk.drewN ?_ _) | (with_reducible apply Blk.set2_0) | (with_reducible apply Blk.set2_1) | (with_reducible refine Blk.other ?_ _ ?_; rotate_left; focus (first | omega | (simp; done) | (simp; omega)))))) hb_
          have N_b6 : Blk w5 (w.heap.size + 1 + 1 + 1) #[_, _] := Blk.below (by (repeat' (first | (with_reducible assumption) | (with_reducible refine Blk.new ?_; first | (with_reducible rfl) | (simp; done)) | (with_reducible refine Blk.alloc ?_ _) | (with_reducible refine Blk.drew ?_) | (with_reducible refine Blk.drewN ?_ _) | (with_reducible apply Blk.set2_0) | (with_reducible apply Blk.set2_1) | (with_reducible refine Blk.other ?_ _ ?_; rotate_left; focus (first | omega | (simp; done) | (simp; omega)))))) hb_
          have N_b7 : Blk w5 (w.heap.size + 1 + 1 + 1 + 1) #[_, _] := Blk.below (by (repeat' (first | (with_reducible assumption) | (with_reducible refine Blk.new ?_; first | (with_reducible rfl) | (simp; done)) | (with_reducible refine Blk.alloc ?_ _) | (with_reducible refine Blk.drew ?_) | (with_reducible refine Blk.drewN ?_ _) | (with_reducible apply Blk.set2_0) | (with_reducible apply Blk.set2_1) | (with_reducible refine Blk.other ?_ _ ?_; rotate_left; focus (first | omega | (simp; done) | (simp; omega)))))) hb_
          have N_b9 : Blk w5 (b9) #[_, _] := Blk.below (by (repeat' (first | (with_reducible assumption) | (with_reducible refine Blk.new ?_; first | (with_reducible rfl) | (simp; done)) | (with_reducible refine Blk.alloc ?_ _) | (with_reducible refine Blk.drew ?_) | (with_reducible refine Blk.drewN ?_ _) | (with_reducible apply Blk.set2_0) | (with_reducible apply Blk.set2_1) | (with_reducible refine Blk.other ?_ _ ?_; rotate_left; focus (first | omega | (simp; done) | (simp; omega)))))) hb_
          have N_b10 : Blk w5 (b10) #[_, _] := Blk.below (by (repeat' (first | (with_reducible assumption) | (with_reducible refine Blk.new ?_; first | (with_reducible rfl) | (simp; done)) | (with_reducible refine Blk.alloc ?_ _) | (with_reducible refine Blk.drew ?_) | (with_reducible refine Blk.drewN ?_ _) | (with_reducible apply Blk.set2_0) | (with_reducible apply Blk.set2_1) | (with_reducible refine Blk.other ?_ _ ?_; rotate_left; focus (first | omega | (simp; done) | (simp; omega)))))) hb_
          have HB_w5 : Below w.heap.size w w5 := Below.trans (by go_grown) (hb_.mono (by go_size))
          have HZ_w5 : w.heap.size ≤ w5.heap.size := HB_w5.size
          clear hb_
          clear c_b5_0 c_b5_1 f_b5 z1_b5 z2_b5 z3_b5 z4_b5 c_b6_0 c_b6_1 f_b6 z1_b6 z2_b6 z3_b6 z4_b6 c_b7_0 c_b7_1 f_b7 z1_b7 z2_b7 z3_b7 z4_b7 c_b9_0 c_b9_1 f_b9 z1_b9 z2_b9 z3_b9 z4_b9 c_b10_0 c_b10_1 f_b10 z1_b10 z2_b10 z3_b10 z4_b10 K_b5 K_b6 K_b7 K_b9 K_b10
          have K_b5 := N_b5
          clear N_b5
          have K_b6 := N_b6
          clear N_b6
          have K_b7 := N_b7
          clear N_b7
          have K_b9 := N_b9
          clear N_b9
          have K_b10 := N_b10
          clear N_b10
          obtain ⟨c_b5_0, c_b5_1, f_b5, z0_b5, z1_b5, z2_b5, z3_b5, z4_b5⟩ := blk2 K_b5
          obtain ⟨c_b6_0, c_b6_1, f_b6, z0_b6, z1_b6, z2_b6, z3_b6, z4_b6⟩ := blk2 K_b6
          obtain ⟨c_b7_0, c_b7_1, f_b7, z0_b7, z1_b7, z2_b7, z3_b7, z4_b7⟩ := blk2 K_b7
          obtain ⟨c_b9_0, c_b9_1, f_b9, z0_b9, z1_b9, z2_b9, z3_b9, z4_b9⟩ := blk2 K_b9
          obtain ⟨c_b10_0, c_b10_1, f_b10, z0_b10, z1_b10, z2_b10, z3_b10, z4_b10⟩ := blk2 K_b10
          go_wp2_with fail
          go_roundw
          case rel =>
            have St := St.out; have e3 := E3.out
            rw [← e3] at u2
            exact ⟨k + 1, _, _, _, _, _, _, by omega, by go_num, u1, u2, St.2.1 (by omega), (by (repeat' (first | (with_reducible assumption) | (with_reducible refine Blk.new ?_; first | (with_reducible rfl) | (simp; done)) | (with_reducible refine Blk.alloc ?_ _) | (with_reducible refine Blk.drew ?_) | (with_reducible refine Blk.drewN ?_ _) | (with_reducible apply Blk.set2_0) | (with_reducible apply Blk.set2_1) | (with_reducible refine Blk.other ?_ _ ?_; rotate_left; focus (first | omega | (simp; done) | (simp; omega)))))), (by (repeat' (first | (with_reducible assumption) | (with_reducible refine Blk.new ?_; first | (with_reducible rfl) | (simp; done)) | (with_reducible refine Blk.alloc ?_ _) | (with_reducible refine Blk.drew ?_) | (with_reducible refine Blk.drewN ?_ _) | (with_reducible apply Blk.set2_0) | (with_reducible apply Blk.set2_1) | (with_reducible refine Blk.other ?_ _ ?_; rotate_left; focus (first | omega | (simp; done) | (simp; omega)))))), (by (repeat' (first | (with_reducible assumption) | (with_reducible refine Blk.new ?_; first | (with_reducible rfl) | (simp; done)) | (with_reducible refine Blk.alloc ?_ _) | (with_reducible refine Blk.drew ?_) | (with_reducible refine Blk.drewN ?_ _) | (with_reducible apply Blk.set2_0) | (with_reducible apply Blk.set2_1) | (with_reducible refine Blk.other ?_ _ ?_; rotate_left; focus (first | omega | (simp; done) | (simp; omega)))))), (by (repeat' (first | (with_reducible assumption) | (with_reducible refine Blk.new ?_; first | (with_reducible rfl) | (simp; done)) | (with_reducible refine Blk.alloc ?_ _) | (with_reducible refine Blk.drew ?_) | (with_reducible refine Blk.drewN ?_ _) | (with_reducible apply Blk.set2_0) | (with_reducible apply Blk.set2_1) | (with_reducible refine Blk.other ?_ _ ?_; rotate_left; focus (first | omega | (simp; done) | (simp; omega)))))), (by (repeat' (first | (with_reducible assumption) | (with_reducible refine Blk.new ?_; first | (with_reducible rfl) | (simp; done)) | (with_reducible refine Blk.alloc ?_ _) | (with_reducible refine Blk.drew ?_) | (with_reducible refine Blk.drewN ?_ _) | (with_reducible apply Blk.set2_0) | (with_reducible apply Blk.set2_1) | (with_reducible refine Blk.other ?_ _ ?_; rotate_left; focus (first | omega | (simp; done) | (simp; omega)))))), by go_grown⟩
          case measure => simp [intOf]; omega
    · obtain rfl : k = 128 := by omega
      have fin := Lib.hid inv.finish
      go_wp2_with fail
      go_region_held3 (fun w' => w'.cell? ⟨b9, 0, none⟩ = some (.int .u64 r1) ∧ w'.cell? ⟨b9, 1, none⟩ = some (.int .u64 r0) ∧ w'.cell? ⟨b10, 0, none⟩ = some (.int .u64 q1) ∧ w'.cell? ⟨b10, 1, none⟩ = some (.int .u64 q0)) (go_keep) (fail)
      all_goals
        go_wp2_with fail
        (try simp only [Exit.inBlock, Exit.then])
        refine bodyPost_ret (v := ?_) ?_ rfl ?_
        rotate_left
        · simp only [results, Tryz.results39]
          go_simp
          exact rfl
        have fin := fin.out
        exact ⟨_, _, _, _, rfl, uq.cast fin.1, ur.cast fin.2, by go_grown⟩
end Go.Proofs.YtmldjlgeeljfdaaGreat
