/-
  slices.SortStableFunc of a row of fewer than 20 numbers.
-/
import Derived.Test.YtmldjlgeeljfdaaGreatSrt
namespace Go.Proofs.YtmldjlgeeljfdaaGreat
open Go.RowKit Go.Sort
set_option linter.unusedVariables false
set_option linter.unusedSimpArgs false

set_option maxHeartbeats 4000000 in
set_option maxRecDepth 1000000 in
theorem stable_calls {W0 w : World} (hK : Kw W0) {blk cap n : Nat} {d : Array D3} (h : SW W0 blk d w) (hn : n = d.size) (hsz : d.size < 20) :
    Calls Tryz.prog 45 #[.slice (some ⟨blk, 0, none⟩) d.size cap, .int .i64 n, .func (.func 21) #[] #[]] w fun e w' => e = .returned (.tuple #[]) ∧ SW W0 blk (insertionSort ltD d 0 d.size) w' := by
  have HS : Hid (SW W0 blk d w) := h
  have HK : Hid (Kw W0) := hK
  have HN : Hid (n = d.size) := hn
  have hn20 : (n : Int) < 20 := by omega
  have hn20' : ¬ (20 : Int) ≤ (n : Int) := by omega
  clear h hK hn
  go_enter Tryz.func45, Tryz.ntmps45
  go_wp2
  go_loopg [7, 8] 0 (fun g1 v7 v8 wr => v7 = .int .i64 0 ∧ v8 = .int .i64 20 ∧ Hid (SW W0 blk d wr))
  case atStart => exact ⟨rfl, rfl, HS⟩
  case round =>
    obtain ⟨rfl, rfl, HW⟩ := hrel
    go_wp2_with fail
    refine (insertion_calls (a := 0) (b := n) HK.out (by first | exact HW.out | exact HW.out.drew) (Nat.zero_le _) (Nat.le_of_eq HN.out) (by omega)).mono ?_
    rintro e w1 ⟨rfl, hw1⟩
    have HW1 : Hid (SW W0 blk (insertionSort ltD d 0 n) w1) := hw1
    clear hw1
    go_wp2
    go_loopg [6] 0 (fun g1 v6 wr => v6 = .int .i64 20 ∧ Hid (SW W0 blk (insertionSort ltD d 0 n) wr))
    case atStart => exact ⟨rfl, HW1⟩
    case round =>
      obtain ⟨rfl, HW2⟩ := hrel
      go_wp2
      go_end0
      exact ⟨rfl, HN.out ▸ HW2.out⟩

set_option maxHeartbeats 4000000 in
set_option maxRecDepth 1000000 in
theorem sort_calls {W0 w : World} (hK : Kw W0) {blk cap : Nat} {d : Array D3} (h : SW W0 blk d w) (hsz : d.size < 20) :
    Calls Tryz.prog 20 #[.slice (some ⟨blk, 0, none⟩) d.size cap, .func (.func 21) #[] #[]] w fun e w' => e = .returned (.tuple #[]) ∧ SW W0 blk (insertionSort ltD d 0 d.size) w' := by
  have HS : Hid (SW W0 blk d w) := h
  have HK : Hid (Kw W0) := hK
  clear h hK
  go_enter Tryz.func20, Tryz.ntmps20
  go_wp2_with fail
  refine (stable_calls (n := d.size) HK.out (by first | exact HS.out | exact HS.out.drew) rfl hsz).mono ?_
  rintro e w1 ⟨rfl, hw1⟩
  have HW1 : Hid (SW W0 blk (insertionSort ltD d 0 d.size) w1) := hw1
  clear hw1
  go_wp2
  go_end0
  exact ⟨rfl, HW1.out⟩
#print axioms sort_calls
end Go.Proofs.YtmldjlgeeljfdaaGreat
