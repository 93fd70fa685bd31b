/-
  The contracts of casuistref01's Words, Power, Mul.
-/
import Derived.Test.YtpnfomnnbmncaaaRef4
import Derived.Deep.RegionHeld3
namespace Go.Proofs.Ytpnfomnnbmncaaa
open Go.RowKit
set_option linter.unusedVariables false

/-- The number of some words, the highest first. -/
def wval (ws : List Int) : Nat := ws.foldl (fun n x => n * 18446744073709551616 + x.toNat) 0
theorem wval_nil : wval [] = 0 := rfl
theorem wval_snoc (ws : List Int) (x : Int) : wval (ws ++ [x]) = wval ws * 18446744073709551616 + x.toNat := by simp [wval]
theorem wfold_lt : ∀ (ws : List Int) (n : Nat), (∀ x ∈ ws, x < 18446744073709551616) → ws.foldl (fun n x => n * 18446744073709551616 + x.toNat) n < (n + 1) * 10 ^ (20 * ws.length)
  | [], n, _ => by simp
  | x :: ws, n, h => by
    have h1 := wfold_lt ws (n * 18446744073709551616 + x.toNat) fun y hy => h y (by simp [hy])
    have h2 := h x (by simp)
    rw [List.foldl_cons, List.length_cons, Nat.mul_add, Nat.pow_add, Nat.mul_one]
    refine Nat.lt_of_lt_of_le h1 ?_
    rw [Nat.mul_comm (10 ^ (20 * ws.length)) (10 ^ 20), ← Nat.mul_assoc]
    apply Nat.mul_le_mul_right
    have h3 : (n + 1) * 18446744073709551616 ≤ (n + 1) * 10 ^ 20 := Nat.mul_le_mul_left _ (by decide)
    rw [Nat.add_mul] at h3
    omega
theorem wval_lt (ws : List Int) (h : ∀ x ∈ ws, x < 18446744073709551616) : wval ws < 10 ^ (20 * ws.length) := by
  have := wfold_lt ws 0 h
  simpa [wval] using this

set_option maxHeartbeats 1600000 in
theorem ref_Words {g cap : Nat} {ws : List Int} {w : World} (hg : g < w.heap.size) (hc : ∀ i (h : i < ws.length), w.cell? ⟨g, i, none⟩ = some (.int .u64 ws[i])) (h0 : ∀ x ∈ ws, 0 ≤ x) (h1 : ∀ x ∈ ws, x < 18446744073709551616) (hl : ws.length ≤ 8) (hcap : ws.length ≤ cap) (hcap2 : cap ≤ 100) :
    Calls Try.prog 18 #[.slice (some ⟨g, 0, none⟩) ws.length cap] w fun e w' => ∃ v', e = .returned v' ∧ Row w' v' (digs (wval ws)) ∧ Below w.heap.size w w' := by
  have HC := Lib.hid hc; have H0 := Lib.hid h0; have H1 := Lib.hid h1
  clear hc h0 h1
  go_enter Try.func18, Try.ntmps18
  go_wp2_with fail
  go_loopw [3, 4] (fun s3 s4 wr => ∃ k : Nat, s4 = .int .i64 k ∧ k ≤ ws.length ∧ Row wr s3 (digs (wval (ws.take k))) ∧ Below w.heap.size w wr) (fun _ s4 => fun _ => ws.length - (intOf s4).toNat)
  case atStart => exact ⟨0, rfl, by omega, by rw [List.take_zero, wval_nil, digs_zero]; exact Row.nil _, Below.refl _ _⟩
  case round =>
    obtain ⟨k, rfl, hk, hrow, HB_wr⟩ := hrel
    by_cases hkn : k < ws.length
    · obtain ⟨x, hx⟩ : ∃ x, x = ws[k] := ⟨_, rfl⟩
      have ck := (HB_wr.cell (p := ⟨g, k, none⟩) hg).trans (HC.out k hkn)
      rw [← hx] at ck
      have x0 : 0 ≤ x := by rw [hx]; exact H0.out _ (List.getElem_mem _)
      have x1 : x < 18446744073709551616 := by rw [hx]; exact H1.out _ (List.getElem_mem _)
      have hsn := Lib.hid (show wval (ws.take (k + 1)) = wval (ws.take k) * 18446744073709551616 + x.toNat by rw [List.take_succ_eq_append_getElem hkn, wval_snoc, ← hx])
      have hb : nd (wval (ws.take k)) ≤ 20 * k := nd_le _ _ (by have := wval_lt (ws.take k) (fun y hy => H1.out y (List.mem_of_mem_take hy)); rwa [List.length_take, Nat.min_eq_left hk] at this)
      obtain ⟨n, hn⟩ : ∃ n, n = wval (ws.take k) := ⟨_, rfl⟩
      rw [← hn] at hrow hb
      have HN := Lib.hid hn; clear hn hx
      go_wp2_with fail
      refine (ref_Small hrow (by omega) (by omega) (by omega) (by omega) (by omega)).mono ?_
      rintro e w1 ⟨v1, rfl, r1, hb1⟩
      have c1 := (hb1.cell (p := ⟨g, k, none⟩) (Nat.lt_of_lt_of_le hg HB_wr.size)).trans ck
      have hB1 : Below w.heap.size w w1 := HB_wr.trans (hb1.mono HB_wr.size)
      have hnb : nd (n * (4294967296 : Int).toNat + (x / 4294967296).toNat) ≤ 20 * k + 20 := by
        apply nd_le
        have h2 := lt_nd n
        have h3 : 10 ^ nd n ≤ 10 ^ (20 * k) := Nat.pow_le_pow_right (by decide) hb
        have h4 : (n + 1) * 4294967296 ≤ 10 ^ (20 * k) * 10 ^ 20 := Nat.mul_le_mul (by omega) (by decide)
        rw [Nat.pow_add, show (4294967296 : Int).toNat = 4294967296 from rfl]
        rw [Nat.add_mul] at h4
        omega
      clear hb1 ck hb hrow
      go_wp2_with fail
      refine (ref_Small r1 (by omega) (by omega) (by omega) (by omega) (by omega)).mono ?_
      rintro e w2 ⟨v2, rfl, r2, hb2⟩
      have hB2 : Below w.heap.size w w2 := hB1.trans (hb2.mono hB1.size)
      have ev : (n * (4294967296 : Int).toNat + (x / 4294967296).toNat) * (4294967296 : Int).toNat + (x % 4294967296).toNat = wval (ws.take (k + 1)) := by
        rw [hsn.out, ← HN.out, show (4294967296 : Int).toNat = 4294967296 from rfl]
        omega
      rw [ev] at r2
      clear hb2 ev r1 hnb
      go_wp2_with fail
      go_roundw
      case rel => exact ⟨k + 1, by go_num, by omega, r2, hB2⟩
      case measure => simp [intOf]; omega
    · obtain rfl : k = ws.length := by omega
      rw [List.take_length] at hrow
      go_wp2_with fail
      go_returns
      exact ⟨_, rfl, hrow, HB_wr⟩

theorem digs_one : digs 1 = [1] := by rw [digs_pos (by decide)]; simp [digs_zero]

set_option maxHeartbeats 1600000 in
theorem ref_Power {n : Int} {w : World} (h0 : 0 ≤ n) (h1 : n ≤ 9000) :
    Calls Try.prog 35 #[.int .i64 n] w fun e w' => ∃ v', e = .returned v' ∧ Row w' v' (digs (2 ^ n.toNat)) ∧ Below w.heap.size w w' := by
  have hrow0 : ∀ w : World, Row (w.alloc (.cells #[.int .i64 1] 3)) (.slice (some ⟨w.heap.size, 0, none⟩) 1 1) (digs (2 ^ 0)) := fun w => by
    rw [Nat.pow_zero, digs_one]
    exact ⟨by simp [dcells], .inr ⟨w.heap.size, 1, #[.int .i64 1], rfl, Nat.zero_le _, by show (w.heap.push _)[w.heap.size]? = _; simp, by simp, by simp [maxLen], by simp, by simp [dcells]⟩⟩
  go_enter Try.func35, Try.ntmps35
  go_wp2_with fail
  go_loopw [3, 4] (fun s3 s4 wr => ∃ k : Nat, s4 = .int .i64 k ∧ (k : Int) ≤ n ∧ Row wr s3 (digs (2 ^ k)) ∧ Below w.heap.size w wr) (fun _ s4 => fun _ => (n - intOf s4).toNat)
  case atStart => exact ⟨0, rfl, by omega, hrow0 w, by go_grown⟩
  case round =>
    obtain ⟨k, rfl, hk, hrow, HB_wr⟩ := hrel
    by_cases hkn : (k : Int) < n
    · have hb : nd (2 ^ k) ≤ k + 1 := nd_le _ _ (by
        have : 2 ^ k ≤ 10 ^ k := Nat.pow_le_pow_left (by decide) k
        have h2 : 0 < 10 ^ k := Nat.pow_pos (by decide)
        rw [Nat.pow_succ]; omega)
      obtain ⟨m, hm⟩ : ∃ m, m = 2 ^ k := ⟨_, rfl⟩
      rw [← hm] at hrow hb
      have HM := Lib.hid hm; clear hm
      go_wp2_with fail
      refine (ref_Small hrow (by omega) (by omega) (by omega) (by omega) (by omega)).mono ?_
      rintro e w1 ⟨v1, rfl, r1, hb1⟩
      have hB1 : Below w.heap.size w w1 := HB_wr.trans (hb1.mono HB_wr.size)
      have ev : m * (2 : Int).toNat + (0 : Int).toNat = 2 ^ (k + 1) := by rw [HM.out, Nat.pow_succ]; rfl
      rw [ev] at r1
      clear hb1 ev
      go_wp2_with fail
      go_roundw
      case rel => exact ⟨k + 1, by go_num, by omega, r1, hB1⟩
      case measure => simp [intOf]; omega
    · obtain rfl : n = k := by omega
      go_wp2_with fail
      go_returns
      exact ⟨_, rfl, hrow, HB_wr⟩

end Go.Proofs.Ytpnfomnnbmncaaa
