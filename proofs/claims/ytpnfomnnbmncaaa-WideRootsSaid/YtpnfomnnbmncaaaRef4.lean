/-
  The contracts of casuistref01's Cmp, Sub.
-/
import Derived.Test.YtpnfomnnbmncaaaRef3
import Derived.BigQuiet
import Derived.Deep.QuietTactic
namespace Go.Proofs.Ytpnfomnnbmncaaa
open Go.RowKit
set_option linter.unusedVariables false

theorem quiet_left {P : Program} {f : FuncId} {args : Array Value} {w : World} {n : Nat} {v : Value} (h : Calls P f args (w.drewN n) fun e w' => e = .returned v ∧ w.drewN n = w') : Calls P f args (w.drewN n) fun e w' => e = .returned v ∧ ∃ m, w' = w.drewN m :=
  h.mono fun _ _ ⟨he, hm⟩ => ⟨he, n, hm.symm⟩

theorem ref_Cmp_len {v u : Value} {a b : Nat} {w : World} (hr : Row w v (digs a)) (hs : Row w u (digs b)) (hne : nd a ≠ nd b) :
    Calls Try.prog 21 #[v, u] w fun e w' => e = .returned (.int .i64 (cmpN a b)) ∧ Below w.heap.size w w' := by
  obtain ⟨x, cap, rfl, hcap, hlen⟩ := hr.open
  obtain ⟨y, cap2, rfl, hcap2, hlen2⟩ := hs.open
  rw [nd_def, nd_def] at hne
  rcases Nat.lt_or_ge (digs a).length (digs b).length with h | h
  · have hlt : a < b := by
      rcases Nat.lt_or_ge a b with h' | h'
      · exact h'
      · have := nd_mono h'; rw [nd_def, nd_def] at this; omega
    rw [cmpN_lt hlt]
    have hb : (((digs a).length : Int) != ((digs b).length : Int)) = true := by rw [bne_iff_ne]; omega
    clear hlt hr hs
    go_enter Try.func21, Try.ntmps21
    go_wp2_with fail
    go_returns
    exact ⟨rfl, Below.refl _ _⟩
  · have hlt : b < a := by
      rcases Nat.lt_or_ge b a with h' | h'
      · exact h'
      · have := nd_mono h'; rw [nd_def, nd_def] at this; omega
    rw [cmpN_gt hlt]
    have hb : (((digs a).length : Int) != ((digs b).length : Int)) = true := by rw [bne_iff_ne]; omega
    have h2 : ¬ (digs a).length < (digs b).length := by omega
    clear hlt hr hs
    go_enter Try.func21, Try.ntmps21
    go_wp2_with fail
    go_returns
    exact ⟨rfl, Below.refl _ _⟩

theorem div_up {a b j : Nat} (hj : 1 ≤ j) (he : a / 10 ^ j = b / 10 ^ j) : (dig a (j - 1) < dig b (j - 1) → a < b) ∧ (dig a (j - 1) = dig b (j - 1) → a / 10 ^ (j - 1) = b / 10 ^ (j - 1)) := by
  obtain ⟨i, rfl⟩ : ∃ i, j = i + 1 := ⟨j - 1, by omega⟩
  simp only [Nat.add_sub_cancel]
  have h1 := dig_step a i
  have h2 := dig_step b i
  rw [he] at h1
  refine ⟨fun h => ?_, fun h => by omega⟩
  rcases Nat.lt_or_ge a b with h' | h'
  · exact h'
  · have : b / 10 ^ i ≤ a / 10 ^ i := Nat.div_le_div_right h'
    omega

set_option maxHeartbeats 1600000 in
set_option maxRecDepth 100000 in
theorem ref_Cmp_same {v u : Value} {a b : Nat} {w : World} (hr : Row w v (digs a)) (hs : Row w u (digs b)) (he : nd a = nd b) :
    Calls Try.prog 21 #[v, u] w fun e w' => e = .returned (.int .i64 (cmpN a b)) ∧ Below w.heap.size w w' := by
  have e1 := nd_def a
  have e2 := nd_def b
  have l1 := hr.le
  rcases hr.shape with ⟨rfl, hz⟩ | ⟨g, cap, rfl, hc1, hc2, hg, hcell⟩
  · obtain ⟨y, cap2, rfl, hcap2, hlen2⟩ := hs.open
    have za : a = 0 := by have h := dval_digs a; rw [hz] at h; simpa [dval] using h.symm
    have zb : b = 0 := by
      have hz2 : digs b = [] := by
        apply List.length_eq_zero_iff.1
        rw [← e2, ← he, e1, hz]; rfl
      have h := dval_digs b; rw [hz2] at h; simpa [dval] using h.symm
    subst za zb
    rw [cmpN_eq, digs_zero]
    clear e1 e2 l1 hz he hr hs
    go_enter Try.func21, Try.ntmps21
    go_wp2_with fail
    refine wp_loop_rounds 1 ?_
    rw [rounds_succ]
    go_wp2_with fail
    go_returns
    exact ⟨rfl, Below.refl _ _⟩
  · obtain ⟨L, hL⟩ : ∃ L, L = (digs a).length := ⟨_, rfl⟩
    have hL2 : (digs b).length = L := by omega
    rcases hs.shape with ⟨rfl, hz⟩ | ⟨g', cap', rfl, hd1, hd2, hg', hcell'⟩
    · have zb : b = 0 := by have h := dval_digs b; rw [hz] at h; simpa [dval] using h.symm
      have za : a = 0 := by
        have hz2 : digs a = [] := by
          apply List.length_eq_zero_iff.1
          rw [← e1, he, e2, hz]; rfl
        have h := dval_digs a; rw [hz2] at h; simpa [dval] using h.symm
      subst za zb
      rw [cmpN_eq, digs_zero]
      clear hL hL2 e1 e2 l1 hz he hr hs hcell
      go_enter Try.func21, Try.ntmps21
      go_wp2_with fail
      refine wp_loop_rounds 1 ?_
      rw [rounds_succ]
      go_wp2_with fail
      go_returns
      exact ⟨rfl, Below.refl _ _⟩
    · unfold maxLen at l1 hc2 hd2
      rw [hL2]
      have top : a / 10 ^ L = b / 10 ^ L := by rw [div_nd (by omega), div_nd (by omega)]
      have HCA : Hid (∀ i, i < L → w.cell? ⟨g, i, none⟩ = some (.int .i64 ((dig a i : Nat) : Int))) := fun i hi => by rw [hcell i (by omega), digs_get]
      have HCB : Hid (∀ i, i < L → w.cell? ⟨g', i, none⟩ = some (.int .i64 ((dig b i : Nat) : Int))) := fun i hi => by rw [hcell' i (by omega), digs_get]
      have TOP := Lib.hid top
      rw [← hL] at l1 hc1
      rw [hL2] at hd1
      rw [← hL]
      clear top hcell hcell' hL hL2 e1 e2 he hr hs
      go_enter Try.func21, Try.ntmps21
      go_wp2_with fail
      go_loopw [5] (fun s5 wr => ∃ j : Nat, j ≤ L ∧ s5 = .int .i64 ((j : Int) - 1) ∧ a / 10 ^ j = b / 10 ^ j ∧ Below w.heap.size w wr) (fun s5 _ => (intOf s5 + 1).toNat)
      case atStart => exact ⟨L, Nat.le_refl _, rfl, TOP.out, Below.refl _ _⟩
      case round =>
        obtain ⟨j, hj, rfl, eq, HB_wr⟩ := hrel
        have EQ := Lib.hid eq; clear eq
        by_cases hj1 : 1 ≤ j
        · have ca := (HB_wr.cell (p := ⟨g, j - 1, none⟩) hg).trans (HCA.out (j - 1) (by omega))
          have cb := (HB_wr.cell (p := ⟨g', j - 1, none⟩) hg').trans (HCB.out (j - 1) (by omega))
          obtain ⟨p, hp⟩ : ∃ p, p = dig a (j - 1) := ⟨_, rfl⟩
          obtain ⟨q, hq⟩ : ∃ q, q = dig b (j - 1) := ⟨_, rfl⟩
          rw [← hp] at ca
          rw [← hq] at cb
          have up := Lib.hid (div_up hj1 EQ.out)
          have dn := Lib.hid (div_up hj1 EQ.out.symm)
          have HP := Lib.hid hp; have HQ := Lib.hid hq; clear hp hq
          have jj1 : (0 : Int) ≤ (j : Int) - 1 := by omega
          have jj2 : (j : Int) - 1 < (L : Int) := by omega
          by_cases h1 : p < q
          · have fin := Lib.hid (cmpN_lt (up.out.1 (by rw [← HP.out, ← HQ.out]; exact h1)))
            have h1' : decide ((p : Int) < (q : Int)) = true := by simp; omega
            go_wp2_with fail
            go_quiet (fail)
            go_wp2_with fail
            go_returns
            exact ⟨by rw [fin.out]; rfl, by exact below_drewN HB_wr _⟩
          · by_cases h2 : q < p
            · have fin := Lib.hid (cmpN_gt (dn.out.1 (by rw [← HP.out, ← HQ.out]; exact h2)))
              have h1' : decide ((p : Int) < (q : Int)) = false := by simp; omega
              have h2' : decide ((q : Int) < (p : Int)) = true := by simp; omega
              go_wp2_with fail
              go_quiet (fail)
              go_wp2_with fail
              go_quiet (fail)
              go_wp2_with fail
              go_returns
              exact ⟨by rw [fin.out]; rfl, by first | exact below_drewN HB_wr _ | exact below_drewN (below_drewN HB_wr _) _⟩
            · have eq2 := Lib.hid (up.out.2 (by rw [← HP.out, ← HQ.out]; omega))
              have h1' : decide ((p : Int) < (q : Int)) = false := by simp; omega
              have h2' : decide ((q : Int) < (p : Int)) = false := by simp; omega
              go_wp2_with fail
              go_quiet (fail)
              go_wp2_with fail
              go_quiet (fail)
              go_wp2_with fail
              go_roundw
              case rel => exact ⟨j - 1, by omega, by congr 1; omega, eq2.out, by first | exact below_drewN HB_wr _ | exact below_drewN (below_drewN HB_wr _) _⟩
              case measure => simp [intOf]; omega
        · obtain rfl : j = 0 := by omega
          have eq0 : a = b := by have := EQ.out; simpa using this
          subst eq0
          go_wp2_with fail
          go_returns
          exact ⟨by rw [cmpN_eq]; rfl, HB_wr⟩

theorem ref_Cmp {v u : Value} {a b : Nat} {w : World} (hr : Row w v (digs a)) (hs : Row w u (digs b)) :
    Calls Try.prog 21 #[v, u] w fun e w' => e = .returned (.int .i64 (cmpN a b)) ∧ Below w.heap.size w w' := by
  by_cases h : nd a = nd b
  · exact ref_Cmp_same hr hs h
  · exact ref_Cmp_len hr hs h

end Go.Proofs.Ytpnfomnnbmncaaa
