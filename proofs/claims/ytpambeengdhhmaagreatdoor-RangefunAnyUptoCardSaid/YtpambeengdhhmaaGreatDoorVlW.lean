/-
  casuistlaw12: EqualAmong. The order of values turns and leads on; to be the same turns; a value is the same as itself. casuistlaw12: EqualTurns.
-/
import Derived.Test.YtpambeengdhhmaaGreatDoorVlJ
namespace Go.Proofs.YtpambeengdhhmaaGreatDoor

open Go.RowKit
set_option linter.unusedVariables false
set_option linter.unusedSimpArgs false
set_option maxRecDepth 100000

def Tri (t : Int) : Prop := t = 0 ∨ t = 1 ∨ t = 2
theorem tri_and (x y : Int) : Tri (andI x y) := by unfold andI Tri; split <;> (try split) <;> simp
theorem tri_not (x : Int) : Tri (notI x) := by unfold notI Tri; split <;> (try split) <;> simp
open Go.RowKit
set_option linter.unusedVariables false
set_option linter.unusedSimpArgs false
set_option maxRecDepth 100000

theorem cb_swap : ∀ a b : L8, Lib.compareBytes b a = -Lib.compareBytes a b
  | [], [] => rfl
  | [], _ :: _ => rfl
  | _ :: _, [] => rfl
  | x :: a, y :: b => by
    rw [Lib.compareBytes, Lib.compareBytes]
    simp only [UInt8.lt_iff_toNat_lt]
    by_cases h1 : x.toNat < y.toNat
    · rw [if_neg (show ¬ y.toNat < x.toNat by omega), if_pos h1, if_pos h1]; rfl
    · by_cases h2 : y.toNat < x.toNat
      · rw [if_pos h2, if_neg h1, if_pos h2]
      · rw [if_neg h2, if_neg h1, if_neg h1, if_neg h2, cb_swap a b]
theorem ord_swap (a b : Vl) : ordV b a = (ordV a b).map (fun c => -c) := by
  by_cases h : a.kindI = b.kindI
  · cases a
    case num g n e => obtain ⟨g', n', e', rfl⟩ := kind3 h.symm; simp only [ordV, Option.map_some, cmpZ_swap g g' n n' e e']
    case text l => obtain ⟨l', rfl⟩ := kind4 h.symm; simp only [ordV, Option.map_some, cb_swap l l']
    case day y m d => obtain ⟨y', m', d', rfl⟩ := kind5 h.symm; simp only [ordV, Option.map_some, cmpI_swap (keyD y m d)]
    case time s z o =>
      obtain ⟨s', z', o', rfl⟩ := kind6 h.symm
      simp only [ordV]
      by_cases hz : z = z'
      · rw [if_pos hz, if_pos hz.symm, Option.map_some, cmpI_swap (s - o)]
      · rw [if_neg hz, if_neg (Ne.symm hz)]; rfl
    case mom y m d s z o =>
      obtain ⟨y', m', d', s', z', o', rfl⟩ := kind7 h.symm
      simp only [ordV]
      by_cases hz : z = z'
      · rw [if_pos hz, if_pos hz.symm, Option.map_some, cmpI_swap (86400 * numI y m d + s - o)]
      · rw [if_neg hz, if_neg (Ne.symm hz)]; rfl
    case days n => obtain ⟨n', rfl⟩ := kind8 h.symm; simp only [ordV, Option.map_some, cmpI_swap n]
    case months n => obtain ⟨n', rfl⟩ := kind9 h.symm; simp only [ordV, Option.map_some, cmpI_swap n]
    all_goals
      rw [ord_un (show ¬ (3 ≤ b.kindI ∧ b.kindI ≤ 9) by rw [← h]; simp [Vl.kindI]), ord_un (by simp [Vl.kindI])]
      rfl
  · rw [ord_kind h, ord_kind (Ne.symm h)]
    rfl
open Go.RowKit
set_option linter.unusedVariables false
set_option linter.unusedSimpArgs false
set_option maxRecDepth 100000

theorem c_CmpE {a b : Vl} (oa : a.ok) (ob : b.ok) : HasC Tryz.prog 24 [VV a, VV b] (fun r => ∃ (c : Int) (ok : Bool), r = .tup [.v (.int .i64 c), .v (.bool ok)] ∧ c = (ordV a b).getD 0 ∧ ok = (ordV a b).isSome) := (c_Cmp2 oa ob).mono fun r hr => ⟨_, _, hr, rfl, rfl⟩
end Go.Proofs.YtpambeengdhhmaaGreatDoor
