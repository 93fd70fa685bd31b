/-
  The contracts of package wide's comparisons and sums of four words, for all arguments.
-/
import Derived.Test.YtiafmdfegmimdaaWide
import Derived.Handy
import Derived.Test.YtiafmdfegmimdaaBlk
import Derived.Deep.RegionWith
import Derived.Deep.DeepCutAuto
namespace Go.Proofs.Ytiafmdfegmimdaa
open Go.RowKit

theorem wide_Of (x : Int) (w : World) :
    Calls Try.prog 20 #[.int .u64 x] w fun e w' => e = .returned (.agg #[.int .u64 0, .int .u64 x]) ∧ Below w.heap.size w w' := by
  go_enter Try.func20, Try.ntmps20
  go_wp2_with fail
  go_returns
  exact ⟨rfl, by go_grown⟩

theorem wide_Zero {a1 a0 : Int} {a : Nat} (ha : IsU a1 a0 a) (w : World) :
    Calls Try.prog 9 #[.agg #[.int .u64 a1, .int .u64 a0]] w fun e w' => e = .returned (.bool (zeroN a)) ∧ Below w.heap.size w w' := by
  obtain ⟨p1, p2, p3, p4, p5⟩ := ha
  by_cases h1 : a1 = 0
  · subst h1
    by_cases h0 : a0 = 0
    · subst h0
      rw [zeroN_0 (by omega)]
      clear p5
      go_enter Try.func9, Try.ntmps9
      go_wp2_with fail
      go_returns
      exact ⟨rfl, by go_grown⟩
    · rw [zeroN_1 (by omega)]
      clear p5
      have h : (a0 == 0) = false := by simpa using h0
      go_enter Try.func9, Try.ntmps9
      go_wp2_with fail
      go_returns
      exact ⟨rfl, by go_grown⟩
  · rw [zeroN_1 (by omega)]
    clear p5
    have h : (a1 == 0) = false := by simpa using h1
    go_enter Try.func9, Try.ntmps9
    go_wp2_with fail
    go_returns
    exact ⟨rfl, by go_grown⟩

theorem wide_Cmp {a1 a0 b1 b0 : Int} {a b : Nat} (ha : IsU a1 a0 a) (hb : IsU b1 b0 b) (w : World) :
    Calls Try.prog 29 #[.agg #[.int .u64 a1, .int .u64 a0], .agg #[.int .u64 b1, .int .u64 b0]] w fun e w' => e = .returned (.int .i64 (cmpN a b)) ∧ Below w.heap.size w w' := by
  obtain ⟨p1, p2, p3, p4, p5⟩ := ha
  obtain ⟨q1, q2, q3, q4, q5⟩ := hb
  by_cases h1 : a1 < b1
  · rw [cmpN_lt (by omega)]
    clear p5 q5
    go_enter Try.func29, Try.ntmps29
    go_wp2_with fail
    go_returns
    exact ⟨rfl, by go_grown⟩
  · by_cases h2 : a1 = b1
    · subst h2
      by_cases h3 : a0 < b0
      · rw [cmpN_lt (by omega)]
        clear p5 q5
        go_enter Try.func29, Try.ntmps29
        go_wp2_with fail
        go_returns
        exact ⟨rfl, by go_grown⟩
      · by_cases h4 : a0 = b0
        · subst h4
          rw [show a = b by omega, cmpN_eq]
          clear p5 q5
          go_enter Try.func29, Try.ntmps29
          go_wp2_with fail
          go_returns
          exact ⟨rfl, by go_grown⟩
        · rw [cmpN_gt (by omega)]
          clear p5 q5
          go_enter Try.func29, Try.ntmps29
          go_wp2_with fail
          go_returns
          exact ⟨rfl, by go_grown⟩
    · rw [cmpN_gt (by omega)]
      clear p5 q5
      go_enter Try.func29, Try.ntmps29
      go_wp2_with fail
      go_returns
      exact ⟨rfl, by go_grown⟩

theorem wide_Cmp2 {a1 a0 c1 c0 b1 b0 d1 d0 : Int} {a b c d : Nat} (ha : IsU a1 a0 a) (hc : IsU c1 c0 c) (hb : IsU b1 b0 b) (hd : IsU d1 d0 d) (w : World) :
    Calls Try.prog 32 #[.agg #[.int .u64 a1, .int .u64 a0], .agg #[.int .u64 c1, .int .u64 c0], .agg #[.int .u64 b1, .int .u64 b0], .agg #[.int .u64 d1, .int .u64 d0]] w fun e w' =>
      e = .returned (.int .i64 (cmpN (a * 340282366920938463463374607431768211456 + c) (b * 340282366920938463463374607431768211456 + d))) ∧ Below w.heap.size w w' := by
  have l1 := ha.lt; have l2 := hb.lt; have l3 := hc.lt; have l4 := hd.lt
  by_cases h : a = b
  · subst h
    have e : cmpN (a * 340282366920938463463374607431768211456 + c) (a * 340282366920938463463374607431768211456 + d) = cmpN c d := by
      unfold cmpN; repeat' split
      all_goals omega
    rw [e]
    clear e l1 l2 l3 l4
    go_enter Try.func32, Try.ntmps32
    go_wp2_with fail
    refine (wide_Cmp ha hb _).mono ?_
    rintro e w1 ⟨rfl, hb1⟩
    rw [cmpN_eq]
    obtain ⟨hc1, hf1⟩ := bcell hb1
    have hz1 := hb1.size
    simp at hz1
    obtain ⟨s0, s1, s2, s3⟩ := lt4 hz1
    go_wp2_with fail
    refine (wide_Cmp hc hd _).mono ?_
    rintro e w2 ⟨rfl, hb2⟩
    go_wp2_with fail
    have hB1 : Below w.heap.size w w1 := Below.trans (by go_grown) (hb1.mono (by go_size))
    have hB2 : Below w.heap.size w w2 := hB1.trans (hb2.mono (by omega))
    go_returns
    exact ⟨rfl, hB2⟩
  · have e : cmpN (a * 340282366920938463463374607431768211456 + c) (b * 340282366920938463463374607431768211456 + d) = cmpN a b := by
      unfold cmpN; repeat' split
      all_goals omega
    have h0 : ((cmpN a b) != 0) = true := by
      unfold cmpN; repeat' split
      all_goals first | rfl | omega
    rw [e]
    clear e l1 l2 l3 l4
    go_enter Try.func32, Try.ntmps32
    go_wp2_with fail
    refine (wide_Cmp ha hb _).mono ?_
    rintro e w1 ⟨rfl, hb1⟩
    go_wp2_with fail
    go_returns
    exact ⟨rfl, Below.trans (by go_grown) (hb1.mono (by go_size))⟩

theorem add2_eq {a b c d : Nat} {o2 o3 : Int} (la : a < 340282366920938463463374607431768211456) (lb : b < 340282366920938463463374607431768211456) (lc : c < 340282366920938463463374607431768211456) (ld : d < 340282366920938463463374607431768211456)
    (k2 : IsW o2 ((a + b) / 340282366920938463463374607431768211456)) (k3 : IsW o3 (((a + b) % 340282366920938463463374607431768211456 + (c + d) / 340282366920938463463374607431768211456) / 340282366920938463463374607431768211456)) :
    IsW (IntKind.u64.wrap (o2 + o3)) ((a * 340282366920938463463374607431768211456 + c + (b * 340282366920938463463374607431768211456 + d)) / 115792089237316195423570985008687907853269984665640564039457584007913129639936) := by
  obtain ⟨y1, y2, y3⟩ := k2
  obtain ⟨u1, u2, u3⟩ := k3
  rw [IntKind.wrap_u64]
  refine ⟨by omega, by omega, by omega⟩

theorem sum_in {o2 o3 : Int} {x y : Nat} (h2 : IsW o2 x) (h3 : IsW o3 y) (hx : x ≤ 1) (hy : y ≤ 1) : 0 ≤ o2 ∧ o2 ≤ 1 ∧ 0 ≤ o3 ∧ o3 ≤ 1 := by
  obtain ⟨y1, y2, y3⟩ := h2
  obtain ⟨u1, u2, u3⟩ := h3
  omega


theorem sub2_hi {a b c d : Nat} (la : a < 340282366920938463463374607431768211456) (lb : b < 340282366920938463463374607431768211456) (lc : c < 340282366920938463463374607431768211456) (ld : d < 340282366920938463463374607431768211456) :
    ((a + 340282366920938463463374607431768211456 - b) % 340282366920938463463374607431768211456 + 340282366920938463463374607431768211456 - lackN c d) % 340282366920938463463374607431768211456 = (a * 340282366920938463463374607431768211456 + c + 115792089237316195423570985008687907853269984665640564039457584007913129639936 - (b * 340282366920938463463374607431768211456 + d)) / 340282366920938463463374607431768211456 % 340282366920938463463374607431768211456 := by
  have d1 := lackN_def c d
  split at d1 <;> omega

theorem sub2_eq {a b c d : Nat} {o2 o3 : Int} (la : a < 340282366920938463463374607431768211456) (lb : b < 340282366920938463463374607431768211456) (lc : c < 340282366920938463463374607431768211456) (ld : d < 340282366920938463463374607431768211456)
    (k2 : IsW o2 (lackN a b)) (k3 : IsW o3 (lackN ((a + 340282366920938463463374607431768211456 - b) % 340282366920938463463374607431768211456) (lackN c d))) :
    IsW (IntKind.u64.wrap (o2 + o3)) (lackN (a * 340282366920938463463374607431768211456 + c) (b * 340282366920938463463374607431768211456 + d)) := by
  obtain ⟨y1, y2, y3⟩ := k2
  obtain ⟨u1, u2, u3⟩ := k3
  have d1 := lackN_def a b
  have d2 := lackN_def c d
  have d3 := lackN_def ((a + 340282366920938463463374607431768211456 - b) % 340282366920938463463374607431768211456) (lackN c d)
  have d4 := lackN_def (a * 340282366920938463463374607431768211456 + c) (b * 340282366920938463463374607431768211456 + d)
  rw [IntKind.wrap_u64]
  refine ⟨?_, ?_, ?_⟩ <;> (split at d1 <;> split at d2 <;> split at d3 <;> split at d4 <;> omega)

end Go.Proofs.Ytiafmdfegmimdaa
