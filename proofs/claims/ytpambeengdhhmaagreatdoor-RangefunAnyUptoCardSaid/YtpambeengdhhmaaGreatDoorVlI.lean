/-
  casuistlaw12: awake; EqualTruths.
-/
import Derived.Test.YtpambeengdhhmaaGreatDoorVlY
import Derived.Test.YtpambeengdhhmaaGreatDoorNrW
namespace Go.Proofs.YtpambeengdhhmaaGreatDoor
open Go.RowKit
set_option linter.unusedVariables false
set_option linter.unusedSimpArgs false
set_option maxRecDepth 100000

theorem c_vTextE {l : L8} {s : ByteArray} (hs : s = tx l) (h : Lib.validD l = true ∧ l.length ≤ 1048576) : HasC Tryz.prog 34 [.v (.string s)] (fun r => r = VV (.text l)) := by
  subst hs
  have := c_vText (l := l) (Nat.le_trans h.2 (by decide))
  rwa [textV, if_pos h] at this
theorem ord_int (x y : Int) : ordV (intV x) (intV y) = some (cmpZ (decide (x < 0)) x.natAbs 0 (decide (y < 0)) y.natAbs 0) := rfl
theorem sgnV_absV (x : Int) : sgnV (decide (x < 0)) x.natAbs = x := by
  unfold sgnV
  split
  · rename_i h
    have : x < 0 := by simpa using h
    omega
  · rename_i h
    have : ¬ x < 0 := by simpa using h
    omega
theorem cmp_two (x y : Int) : cmpZ (decide (x < 0)) x.natAbs 0 (decide (y < 0)) y.natAbs 0 = cmpI x y := by
  rw [cmpZ_any (E := 0) (Int.le_refl _) (Int.le_refl _), V_own, V_own, sgnV_absV, sgnV_absV]
theorem ord_ints (x y : Int) : ordV (intV x) (intV y) = some (cmpI x y) := by rw [ord_int, cmp_two]
theorem okA (x : Int) (h : -1000 ≤ x ∧ x ≤ 1000) : (intV x).ok := int_ok (by omega) (by omega)
theorem okT (l : L8) (h : l.length ≤ 1000) : (Vl.text l).ok := by rw [Vl.ok]; omega
end Go.Proofs.YtpambeengdhhmaaGreatDoor
