/-
  Texts as lists of bytes: parts, sums, places; decimal numerals.
-/
import Derived.Test.YtpambeengdhhmaaGreatDoorTxt
import Derived.Lib.ItoaLen
namespace Go.Proofs.YtpambeengdhhmaaGreatDoor
open Go.RowKit
set_option linter.unusedVariables false
set_option linter.unusedSimpArgs false
set_option maxRecDepth 100000

abbrev L8 := List UInt8
theorem or_t {b : Bool} {p q : Prop} (h : b = true ∧ p ∨ b = false ∧ q) (hb : ¬ b = false) : p := by
  rcases h with h | h
  · exact h.2
  · exact absurd h.1 hb
theorem or_f {b : Bool} {p q : Prop} (h : b = true ∧ p ∨ b = false ∧ q) (hb : b = false) : q := by
  rcases h with h | h
  · rw [hb] at h; cases h.1
  · exact h.2
theorem b_false {b : Bool} (h : ¬ b = true) : b = false := by simpa using h
/-- Bytes as a text. -/
def tx (l : L8) : ByteArray := ⟨l.toArray⟩
@[simp] theorem tx_size (l : L8) : (tx l).size = l.length := by simp [tx, ByteArray.size]
theorem tx_append (a b : L8) : tx a ++ tx b = tx (a ++ b) := by
  apply ByteArray.ext
  simp [tx]
theorem tx_inj {a b : L8} (h : tx a = tx b) : a = b := by
  have := congrArg (fun x : ByteArray => x.data.toList) h
  simpa [tx] using this
theorem tx_iff {a b : L8} : tx a = tx b ↔ a = b := ⟨tx_inj, fun h => by rw [h]⟩
theorem tx_eta (s : ByteArray) : s = tx s.data.toList := by
  apply ByteArray.ext
  simp [tx]
theorem tx_all (s : ByteArray) : ∃ l, s = tx l ∧ s.size = l.length := ⟨_, tx_eta s, by rw [Array.length_toList]; rfl⟩
theorem tx_extract (l : L8) (i j : Nat) : (tx l).extract i j = tx ((l.drop i).take (j - i)) := by
  apply ByteArray.ext
  simp [tx, List.drop_take]
theorem tx_at (l : L8) (k : Nat) : strAt (tx l) k = (((l[k]?).getD 0).toNat : Int) := by simp [strAt, tx]
theorem tx_nil : tx [] = ⟨#[]⟩ := rfl
theorem strOf_tx (l : List Int) : strOf l = tx (l.map fun z => UInt8.ofNat z.toNat) := by
  apply ByteArray.ext
  simp [strOf, tx]

-- numerals
theorem nd_nDigits {a : Nat} (h : a ≠ 0) : nd a = Lib.nDigits a := by
  have h1 := lt_nd a
  have h0 : nd a ≠ 0 := fun e => by rw [e] at h1; omega
  have h2 : 10 ^ (nd a - 1) ≤ a := by
    apply Classical.byContradiction
    intro hn
    have := nd_le (nd a - 1) a (by omega)
    omega
  have := Lib.nDigits_unique (nd a - 1) a h2 (by rw [show nd a - 1 + 1 = nd a by omega]; exact h1)
  omega
theorem tl_eq (a : Nat) : ∀ k, (tl a k).map (fun z => UInt8.ofNat z.toNat) = (List.range k).map fun t => Lib.dg a (k - 1 - t)
  | 0 => rfl
  | k + 1 => by
    rw [List.range_succ_eq_map, tl, List.map_cons, tl_eq a k, List.map_cons, List.map_map]
    congr 1
    apply List.map_congr_left
    intro t ht
    simp only [Function.comp]
    congr 1
    omega
theorem txS_tx (a : Nat) : txS a = tx (Lib.decDigits a) := by
  unfold txS
  split
  · rename_i h
    subst h
    rw [Lib.decDigits]
    rfl
  · rename_i h
    rw [strOf_tx, Lib.decDigits_eq, nd_nDigits h, tl_eq]
theorem itoa_len (n : Int) (h : -9223372036854775808 ≤ n ∧ n ≤ 9223372036854775807) : (Lib.itoa n).length ≤ 21 := Lib.itoa_length_le n h.1 h.2
theorem itoa_pos {n : Int} : 0 < (Lib.itoa n).length := by
  have h : ∀ u, 0 < (Lib.decDigits u).length := fun u => by rw [Lib.decDigits_length]; exact Lib.nDigits_pos u
  unfold Lib.itoa
  split
  · simp
  · exact h _
theorem itoa_nn {n : Int} (h : 0 ≤ n) : Lib.itoa n = Lib.decDigits n.toNat := by unfold Lib.itoa; rw [if_neg (by omega)]
/-- A number of at least so many digits. -/
def padL (n : Int) (w : Nat) : L8 := List.replicate (w - (Lib.itoa n).length) 48 ++ Lib.itoa n
theorem padL_len (n : Int) (w : Nat) : (padL n w).length = max w (Lib.itoa n).length := by simp [padL]; omega
theorem padL_pos (n : Int) (w : Nat) : 0 < (padL n w).length := by
  rw [padL_len]
  have := itoa_pos (n := n)
  omega
end Go.Proofs.YtpambeengdhhmaaGreatDoor
