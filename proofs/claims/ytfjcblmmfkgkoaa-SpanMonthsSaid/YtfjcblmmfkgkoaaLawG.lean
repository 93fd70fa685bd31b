/-
  casuistlaw02.of, awake.
-/
import Derived.Test.YtfjcblmmfkgkoaaLawM
import Derived.Test.YtfjcblmmfkgkoaaDecZ
namespace Go.Proofs.Ytfjcblmmfkgkoaa
open Go.RowKit
set_option linter.unusedVariables false
set_option linter.unusedSimpArgs false
set_option maxRecDepth 100000

theorem c_WholeIs {s : Bool} {A : Nat} {e v : Int} (hw : isW s A e v) (hv : inI v) (hA : A < B128) (h1 : -10000000000000000 ≤ e) (h2 : e ≤ 10000000000000000) : HasC Try.prog 84 [dDec s A e] (fun y => y = .tup [.v (.int .i64 v), .v (.bool true)]) :=
  (c_Whole hA h1 h2).mono fun y ⟨z, ok, h1, h2, h3⟩ => by
    cases ok with
    | false => exact absurd hv ((h3 rfl).2 v hw)
    | true => rw [h1, isW_fn (h2 rfl).1 hw]
theorem whole_2500 : isW false 25 2 2500 := isW_val (s := false) (A := 25) (p := 25) (i := 2) (j := 0) (e := 2) (by decide) (by decide)
theorem add_15 : addT false 15 (-1) false 250 (-2) = (false, 400, -2, true) := by
  have h : sumT false 15 (-1) false 250 (-2) = (false, 400, -2) := by decide
  rw [addT, h]
  exact fitU_own (N := 400) (by decide) (by decide) (by decide)
theorem mul_120 : mulT (false, 120, -2, true) (false, 3, 0, true) = (false, 360, -2, true) := fitT_own' (by decide) (by decide) (by decide) (by decide)
theorem sub_1 : addT false 1 0 (!false && decide (100 ≠ 0)) 100 (-2) = (false, 0, -2, true) := by
  have h : sumT false 1 0 true 100 (-2) = (false, 0, -2) := by decide
  show addT false 1 0 true 100 (-2) = _
  rw [addT, h]
  exact fitU_own (N := 0) (by decide) (by decide) (by decide)
theorem add_most : addT false 9999999999999999999999999999999999 0 false 5 (-1) = (false, 10 ^ (33 : Int).toNat, 1, true) := by
  have h : sumT false 9999999999999999999999999999999999 0 false 5 (-1) = (false, 99999999999999999999999999999999995, -1) := by decide
  have hnd : nd 99999999999999999999999999999999995 = 35 := by
    have h1 := nd_le 35 99999999999999999999999999999999995 (by decide)
    have h2 : 34 < nd 99999999999999999999999999999999995 := nd_gt (by decide)
    omega
  have hk : fitKU 99999999999999999999999999999999995 (-1) = 1 := by unfold fitKU; rw [hnd]; decide
  have hu : upB 1 false 99999999999999999999999999999999995 false 1 = true := by
    rw [upB_iff]
    have hL : lastD 99999999999999999999999999999999995 1 = 5 := by decide
    rw [hL]
    exact .inl ⟨rfl, .inr ⟨rfl, .inr (by decide)⟩⟩
  have hc : cutQ 1 false 99999999999999999999999999999999995 false 1 = E34 := by
    unfold cutQ
    rw [hu]
    decide
  have hq : cutQ 1 false E34 false 1 = 10 ^ (33 : Int).toNat := by
    rcases cut_two 1 false E34 1 false with h1 | ⟨h1, h2⟩
    · rw [h1]; decide
    · rcases h2 with h2 | h2
      · exact absurd (by decide) h2
      · cases h2
  rw [addT, h]
  show fitU 1 false 99999999999999999999999999999999995 (-1) false = _
  rw [fitU, hk, hc, fit2N, if_pos (Nat.le_refl _), fit2E, if_pos (Nat.le_refl _), hq, fitE, if_neg (by decide)]
  have hd : fitD (10 ^ (33 : Int).toNat) (-1 + ((1 : Nat) : Int) + 1) = 0 := by unfold fitD; omega
  rw [hd, if_neg (by decide)]
  decide
theorem c_less1 : HasC Try.prog 96 [dU (10 ^ (34 : Int).toNat), .agg [.v (.int .u64 0), .v (.int .u64 1)]] (fun y => y = .tup [dU 9999999999999999999999999999999999, .v (.int .u64 0)]) := by
  rw [← dU_1']
  refine (cw_Sub (a := 10 ^ (34 : Int).toNat) (b := 1) (by decide) (by decide)).mono fun y hy => ?_
  rw [hy, show (10 ^ (34 : Int).toNat + B128 - 1) % B128 = 9999999999999999999999999999999999 by decide, show lackN (10 ^ (34 : Int).toNat) 1 = 0 by decide]
  rfl
theorem cmp_10 : cmpZ false 10 (-1) false 1 0 = 0 := by decide

end Go.Proofs.Ytfjcblmmfkgkoaa
