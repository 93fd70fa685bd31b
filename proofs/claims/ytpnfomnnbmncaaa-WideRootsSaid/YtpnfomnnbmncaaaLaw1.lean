/-
  The contracts of casuistlaw01's own helpers: N, Two, over, same, awake.
-/
import Derived.Test.YtpnfomnnbmncaaaRef8
import Derived.Test.YtpnfomnnbmncaaaWide4
import Derived.Test.YtpnfomnnbmncaaaWide7
import Derived.Test.YtpnfomnnbmncaaaWide8
namespace Go.Proofs.Ytpnfomnnbmncaaa
open Go.RowKit
set_option linter.unusedVariables false

theorem wval_two {a1 a0 : Int} {a : Nat} (u : IsU a1 a0 a) : wval [a1, a0] = a := by
  have := u.eq; have := u.h0; have := u.l0
  simp [wval]; omega

theorem law_N {a1 a0 : Int} {a : Nat} (ha : IsU a1 a0 a) (w : World) :
    Calls Try.prog 15 #[.agg #[.int .u64 a1, .int .u64 a0]] w fun e w' => ∃ v, e = .returned v ∧ Row w' v (digs a) ∧ Below w.heap.size w w' := by
  go_enter Try.func15, Try.ntmps15
  go_wp2_with fail
  have K : Blk ((w.alloc (.cells #[.int .u64 a1, .int .u64 a0] 24)).alloc (.cells #[.int .u64 a1, .int .u64 a0] 22)) (w.heap.size + 1) #[.int .u64 a1, .int .u64 a0] := (by (repeat' (first | (with_reducible assumption) | (with_reducible refine Blk.new ?_; first | (with_reducible rfl) | (simp; done)) | (with_reducible refine Blk.alloc ?_ _) | (with_reducible refine Blk.drew ?_) | (with_reducible refine Blk.drewN ?_ _) | (with_reducible apply Blk.set2_0) | (with_reducible apply Blk.set2_1) | (with_reducible refine Blk.other ?_ _ ?_; rotate_left; focus (first | omega | (simp; done) | (simp; omega))))))
  obtain ⟨c0, c1⟩ := cells2 K
  have h0 := ha.h0; have h1 := ha.h1; have l0 := ha.l0; have l1 := ha.l1
  refine (ref_Words (g := w.heap.size + 1) (cap := 2) (ws := [a1, a0]) (by simp) (by
    intro i hi
    match i, hi with
    | 0, _ => exact c0
    | 1, _ => exact c1) (by intro x hx; simp at hx; rcases hx with rfl | rfl <;> assumption) (by intro x hx; simp at hx; rcases hx with rfl | rfl <;> assumption) (by simp) (by simp) (by omega)).mono ?_
  rintro e w1 ⟨v, rfl, hrow, hb⟩
  rw [wval_two ha] at hrow
  have hB : Below w.heap.size w w1 := Below.trans (by go_grown) (hb.mono (by go_size))
  go_wp2_with fail
  go_returns
  exact ⟨_, rfl, hrow, hB⟩

theorem wval_four {a1 a0 b1 b0 : Int} {a b : Nat} (u : IsU a1 a0 a) (v : IsU b1 b0 b) : wval [a1, a0, b1, b0] = a * 340282366920938463463374607431768211456 + b := by
  have := u.eq; have := u.h0; have := u.l0
  have := v.eq; have := v.h0; have := v.l0
  simp [wval]; omega

theorem law_Two {a1 a0 b1 b0 : Int} {a b : Nat} (ha : IsU a1 a0 a) (hb : IsU b1 b0 b) (w : World) :
    Calls Try.prog 13 #[.agg #[.int .u64 a1, .int .u64 a0], .agg #[.int .u64 b1, .int .u64 b0]] w fun e w' => ∃ v, e = .returned v ∧ Row w' v (digs (a * 340282366920938463463374607431768211456 + b)) ∧ Below w.heap.size w w' := by
  go_enter Try.func13, Try.ntmps13
  go_wp2_with fail
  have K : Blk (((w.alloc (.cells #[.int .u64 a1, .int .u64 a0] 24)).alloc (.cells #[.int .u64 b1, .int .u64 b0] 24)).alloc (.cells #[.int .u64 a1, .int .u64 a0, .int .u64 b1, .int .u64 b0] 22)) (w.heap.size + 1 + 1) #[.int .u64 a1, .int .u64 a0, .int .u64 b1, .int .u64 b0] := (by (repeat' (first | (with_reducible assumption) | (with_reducible refine Blk.new ?_; first | (with_reducible rfl) | (simp; done)) | (with_reducible refine Blk.alloc ?_ _) | (with_reducible refine Blk.drew ?_) | (with_reducible refine Blk.drewN ?_ _) | (with_reducible apply Blk.set4_0) | (with_reducible apply Blk.set4_1) | (with_reducible apply Blk.set4_2) | (with_reducible apply Blk.set4_3) | (with_reducible refine Blk.other ?_ _ ?_; rotate_left; focus (first | omega | (simp; done) | (simp; omega))))))
  obtain ⟨c0, c1, c2, c3⟩ := cells4 K
  have h0 := ha.h0; have h1 := ha.h1; have l0 := ha.l0; have l1 := ha.l1
  have h2 := hb.h0; have h3 := hb.h1; have l2 := hb.l0; have l3 := hb.l1
  refine (ref_Words (g := w.heap.size + 1 + 1) (cap := 4) (ws := [a1, a0, b1, b0]) (by simp) (by
    intro i hi
    match i, hi with
    | 0, _ => exact c0
    | 1, _ => exact c1
    | 2, _ => exact c2
    | 3, _ => exact c3) (by intro x hx; simp at hx; rcases hx with rfl | rfl | rfl | rfl <;> assumption) (by intro x hx; simp at hx; rcases hx with rfl | rfl | rfl | rfl <;> assumption) (by simp) (by simp) (by omega)).mono ?_
  rintro e w1 ⟨v, rfl, hrow, hb'⟩
  rw [wval_four ha hb] at hrow
  have hB : Below w.heap.size w w1 := Below.trans (by go_grown) (hb'.mono (by go_size))
  go_wp2_with fail
  go_returns
  exact ⟨_, rfl, hrow, hB⟩

theorem nd_two (n : Nat) : nd (2 ^ n) ≤ n + 1 := nd_le _ _ (by
  have : 2 ^ n ≤ 10 ^ n := Nat.pow_le_pow_left (by decide) n
  have h2 : 0 < 10 ^ n := Nat.pow_pos (by decide)
  rw [Nat.pow_succ]; omega)
theorem nd_word {n : Nat} (h : n < 18446744073709551616) : nd n ≤ 20 := nd_le _ _ (Nat.lt_trans h (by decide))
theorem nd_U {n : Nat} (h : n < 340282366920938463463374607431768211456) : nd n ≤ 39 := nd_le _ _ (Nat.lt_trans h (by decide))

theorem law_over {c k : Int} {n : Nat} (hc : IsW c n) (hk0 : 0 ≤ k) (hk1 : k ≤ 9000) (w : World) :
    Calls Try.prog 17 #[.int .u64 c, .int .i64 k] w fun e w' => ∃ v, e = .returned v ∧ Row w' v (digs (n * 2 ^ k.toNat)) ∧ Below w.heap.size w w' := by
  go_enter Try.func17, Try.ntmps17
  go_wp2_with fail
  have K : Blk (w.alloc (.cells #[.int .u64 c] 22)) w.heap.size #[.int .u64 c] := (by (repeat' (first | (with_reducible assumption) | (with_reducible refine Blk.new ?_; first | (with_reducible rfl) | (simp; done)) | (with_reducible refine Blk.alloc ?_ _) | (with_reducible refine Blk.drew ?_) | (with_reducible refine Blk.drewN ?_ _) | (with_reducible apply Blk.set1_0) | (with_reducible refine Blk.other ?_ _ ?_; rotate_left; focus (first | omega | (simp; done) | (simp; omega))))))
  have c0 := cells1 K
  have h0 := hc.c0; have h1 := hc.c1
  have en : wval [c] = n := by have := hc.eq; simp [wval]; omega
  refine (ref_Words (g := w.heap.size) (cap := 1) (ws := [c]) (by simp) (by
    intro i hi
    match i, hi with
    | 0, _ => exact c0) (by intro x hx; simp at hx; subst hx; exact h0) (by intro x hx; simp at hx; subst hx; exact h1) (by simp) (by simp) (by omega)).mono ?_
  rintro e w1 ⟨v, rfl, hrow, hb⟩
  rw [en] at hrow
  have hB : Below w.heap.size w w1 := Below.trans (by go_grown) (hb.mono (by go_size))
  clear en K c0 hb
  go_wp2_with fail
  refine (ref_Power hk0 hk1).mono ?_
  rintro e w2 ⟨v2, rfl, r2, hb2⟩
  have hB2 : Below w.heap.size w w2 := hB.trans (hb2.mono hB.size)
  have hrow2 := hrow.below hb2
  have hn1 := nd_word hc.lt
  have hn2 := nd_two k.toNat
  clear hb2 hrow
  go_wp2_with fail
  refine (ref_Mul hrow2 r2 (by omega) (by omega)).mono ?_
  rintro e w3 ⟨v3, rfl, r3, hb3⟩
  have hB3 : Below w.heap.size w w3 := hB2.trans (hb3.mono hB2.size)
  clear hb3
  go_wp2_with fail
  go_returns
  exact ⟨_, rfl, r3, hB3⟩

theorem law_same {v u : Value} {a b : Nat} {w : World} (hr : Row w v (digs a)) (hs : Row w u (digs b)) (he : a = b) :
    Calls Try.prog 12 #[v, u] w fun e w' => e = .returned (.bool true) ∧ Below w.heap.size w w' := by
  subst he
  go_enter Try.func12, Try.ntmps12
  go_wp2_with fail
  refine (ref_Cmp hr hs).mono ?_
  rintro e w1 ⟨rfl, hb⟩
  rw [cmpN_eq]
  go_wp2_with fail
  go_returns
  exact ⟨rfl, hb⟩

end Go.Proofs.Ytpnfomnnbmncaaa
