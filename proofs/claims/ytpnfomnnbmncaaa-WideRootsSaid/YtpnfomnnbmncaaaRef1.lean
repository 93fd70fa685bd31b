/-
  The contracts of casuistref01's digits: Trim, at.
-/
import Derived.Test.YtpnfomnnbmncaaaRow
import Derived.Test.YtpnfomnnbmncaaaNum
import Derived.Lib.Hide
import Derived.Deep.LoopGhost
namespace Go.Proofs.Ytpnfomnnbmncaaa
open Go.RowKit
set_option linter.unusedVariables false

set_option maxHeartbeats 800000 in
theorem ref_Trim {v : Value} {ds : List Nat} {w : World} (hr : Row w v ds) (hd : ∀ d ∈ ds, d < 10) (hn : ds.length ≤ 1000000) :
    Calls Try.prog 44 #[v] w fun e w' => ∃ v', e = .returned v' ∧ Row w' v' (digs (dval ds)) ∧ Below w.heap.size w w' := by
  obtain ⟨i0, hi, hz0, hz1, hz2⟩ := info_parts info_int
  rcases hr.shape with ⟨rfl, rfl⟩ | ⟨g, cap, rfl, hc1, hc2, hg, hcell⟩
  · go_enter Try.func44, Try.ntmps44
    go_wp2_with fail
    refine wp_loop_rounds 1 ?_
    rw [rounds_succ]
    go_wp2_with (at_builtin; refine wpList_append_own_none rfl _ _ 31 rfl 0 3 i0 1 Try.underlying31 hi _ 0 [] rfl (World.ownsRow_nil _ _ _ _) rfl ?_)
    go_returns
    exact ⟨_, rfl, by simpa [dval, digs_zero] using Row.nil _, by go_grown⟩
  · have hr' : w.ownsRow 0 3 1 (.slice (some ⟨g, 0, none⟩) ds.length cap) ds.length (dcells ds) := hr
    unfold maxLen at hc2
    go_enter Try.func44, Try.ntmps44
    go_wp2_with fail
    go_loop [3] (fun s3 => ∃ m : Nat, m ≤ ds.length ∧ s3 = .int .i64 m ∧ (∀ i (hi : i < ds.length), m ≤ i → ds[i] = 0)) (fun s3 => (intOf s3).toNat)
    case atStart => exact ⟨ds.length, Nat.le_refl _, rfl, fun i hi h => absurd h (by omega)⟩
    case round =>
      obtain ⟨m, hm, rfl, hz⟩ := hrel
      have HZ := Lib.hid hz; clear hz
      have HC := Lib.hid hcell; clear hcell
      by_cases h0 : 0 < m
      · have hc := HC.out (m - 1) (by omega)
        obtain ⟨x, hx⟩ : ∃ x, x = ds[m - 1]'(by omega) := ⟨_, rfl⟩
        rw [← hx] at hc
        have HX := Lib.hid hx; clear hx
        by_cases hx0 : x = 0
        · subst hx0
          go_wp2_with fail
          go_round
          case rel =>
            refine ⟨m - 1, by omega, by congr 1; omega, fun i hi h => ?_⟩
            by_cases e : i = m - 1
            · subst e; exact HX.out.symm
            · exact HZ.out i hi (by omega)
          case measure => simp [intOf]; omega
        · have hx1 : (((x : Nat) : Int) == 0) = false := by rw [beq_eq_false_iff_ne]; omega
          go_wp2_with (at_builtin; refine wpList_append_own _ rfl _ _ 31 rfl w.heap.size 3 i0 (.int .i64 0) 1 8 Try.underlying31 hi hz0 hz1 hz2 rfl (by decide) _ 0 [] rfl (World.ownsRow_nil _ _ _ _) ⟨g, 0, none⟩ m cap (dcells (ds.take m)) rfl ?c1 ?c2 ?c3 ?c4 ?c5 ?c6 ?_)
          case c1 => rw [dcells_length, List.length_take]; omega
          case c2 => exact row_news HC.out m
          case c3 => exact dcells_one
          case c4 => unfold maxLen; omega
          case c5 => omega
          intro v' w1 hown hgrow _
          have hrow := Row.ofOwn hown
          clear hown
          go_wp2_with fail
          go_returns
          refine ⟨_, rfl, ?_, (Below.refl _ _).grown hgrow (Nat.le_refl _) (fun k hk => by cases hk)⟩
          rw [← trim_digs hd hm HZ.out (fun _ => by rw [← HX.out]; exact hx0)]
          exact hrow
      · obtain rfl : m = 0 := by omega
        go_wp2_with fail
        go_returns
        have e := trim_digs hd hm HZ.out (fun h => absurd h (by omega))
        refine ⟨_, rfl, ?_, by go_grown⟩
        rw [← e, List.take_zero]
        exact Row.nil _

/-- A digit. -/
def dig (n k : Nat) : Nat := n / 10 ^ k % 10

theorem digs_get : ∀ (k n : Nat) (h : k < (digs n).length), (digs n)[k] = dig n k := by
  intro k
  induction k with
  | zero =>
    intro n h
    by_cases h0 : n = 0
    · subst h0; simp [digs_zero] at h
    · simp only [digs_pos h0, List.getElem_cons_zero, dig]; simp
  | succ k ih =>
    intro n h
    by_cases h0 : n = 0
    · subst h0; simp [digs_zero] at h
    · have h' : k < (digs (n / 10)).length := by rw [digs_pos h0, List.length_cons] at h; omega
      simp only [digs_pos h0, List.getElem_cons_succ]
      rw [ih _ h']
      unfold dig
      rw [Nat.div_div_eq_div_mul, Nat.pow_succ, Nat.mul_comm 10]
theorem lt_nd (n : Nat) : n < 10 ^ nd n := by
  have h := dval_lt (ds := digs n) fun d hd => digs_lt hd
  rwa [dval_digs] at h
theorem dig_zero {n k : Nat} (h : nd n ≤ k) : dig n k = 0 := by
  have h1 := lt_nd n
  have h2 : 10 ^ nd n ≤ 10 ^ k := Nat.pow_le_pow_right (by decide) h
  unfold dig
  rw [Nat.div_eq_of_lt (by omega)]
theorem dig_lt (n k : Nat) : dig n k < 10 := Nat.mod_lt _ (by decide)

set_option maxHeartbeats 800000 in
theorem ref_at {v : Value} {n : Nat} {k : Int} {w : World} (hr : Row w v (digs n)) (hk : 0 ≤ k) :
    Calls Try.prog 43 #[v, .int .i64 k] w fun e w' => e = .returned (.int .i64 ((dig n k.toNat : Nat) : Int)) ∧ w = w' := by
  rcases hr.shape with ⟨rfl, hz⟩ | ⟨g, cap, rfl, hc1, hc2, hg, hcell⟩
  · have e : dig n k.toNat = 0 := dig_zero (by unfold nd; rw [hz]; simp)
    rw [e]
    clear e hz
    go_enter Try.func43, Try.ntmps43
    go_wp2_with fail
    go_returns
    exact ⟨rfl, rfl⟩
  · unfold maxLen at hc2
    have hl : nd n = (digs n).length := rfl
    by_cases h : k < ((digs n).length : Int)
    · have hc := hcell k.toNat (by omega)
      rw [digs_get] at hc
      clear hcell hl
      go_enter Try.func43, Try.ntmps43
      go_wp2_with fail
      go_returns
      exact ⟨rfl, rfl⟩
    · have e : dig n k.toNat = 0 := dig_zero (by omega)
      rw [e]
      clear hcell hl e
      have h' : ((digs n).length : Int) ≤ k := by omega
      go_enter Try.func43, Try.ntmps43
      go_wp2_with fail
      go_returns
      exact ⟨rfl, rfl⟩

end Go.Proofs.Ytpnfomnnbmncaaa
