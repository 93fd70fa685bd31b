/-
  Numbers as rows of digits.
-/
import Derived.Test.YtmldjlgeeljfdaaGreatVcX
namespace Go.Proofs.YtmldjlgeeljfdaaGreat
open Go.RowKit
set_option linter.unusedVariables false
set_option linter.unusedSimpArgs false
set_option maxRecDepth 100000

/-- Digits as they read. -/
def dg (ds : List Nat) : List DV := ds.map fun (d : Nat) => .v (.int .i64 (d : Int))
theorem dg_len (ds : List Nat) : (dg ds).length = ds.length := by simp [dg]
theorem dg_get {ds : List Nat} {i d : Nat} (h : ds[i]? = some d) : (dg ds)[i]? = some (.v (.int .i64 (d : Int))) := by simp [dg, h]
theorem allOne_dg : ∀ ds, allOne (dg ds) = true
  | [] => rfl
  | d :: ds => by
    show (DV.one _ && allOne (dg ds)) = true
    rw [allOne_dg ds]
    rfl
theorem dg_append (a b : List Nat) : dg (a ++ b) = dg a ++ dg b := by simp [dg]
theorem dg_one (d : Nat) : dg [d] = [.v (.int .i64 (d : Int))] := rfl
theorem dg_take (ds : List Nat) (n : Nat) : (dg ds).take n = dg (ds.take n) := by simp [dg]

/-- Without noughts at the end. -/
def trimTo (ds : List Nat) : Nat → Nat
  | 0 => 0
  | n + 1 => if ds[n]? = some 0 then trimTo ds n else n + 1
def trim (ds : List Nat) : List Nat := ds.take (trimTo ds ds.length)
theorem trimTo_le (ds : List Nat) : ∀ n, trimTo ds n ≤ n
  | 0 => Nat.le_refl _
  | n + 1 => by
    unfold trimTo
    split
    · exact Nat.le_succ_of_le (trimTo_le ds n)
    · exact Nat.le_refl _

theorem trimTo_step {ds : List Nat} {n d : Nat} (hn : 0 < n) (hd : ds[n - 1]? = some d) : trimTo ds n = if d = 0 then trimTo ds (n - 1) else n := by
  obtain ⟨k, rfl⟩ : ∃ k, n = k + 1 := ⟨n - 1, by omega⟩
  simp only [Nat.add_sub_cancel] at hd ⊢
  rw [trimTo, hd]
  simp

end Go.Proofs.YtmldjlgeeljfdaaGreat
