/-
  Texts as lists of bytes: parts, sums, places; decimal numerals. Digits in lists of bytes, and their numbers: with no program in sight.
-/
import Derived.Test.YtpambeengdhhmaaGreatDoorTxt
import Derived.Lib.ItoaLen
namespace Go.Proofs.YtpambeengdhhmaaGreatDoor

open Go.RowKit
set_option linter.unusedVariables false
set_option linter.unusedSimpArgs false
set_option maxRecDepth 100000

abbrev L8 := List UInt8
theorem or_t {b : Bool} {p q : Prop} (h : b = true ∧ p ∨ b = false ∧ q) (hb : ¬ b = false) : p := by
  rcases h with h | h
  · exact h.2
  · exact absurd h.1 hb
theorem or_f {b : Bool} {p q : Prop} (h : b = true ∧ p ∨ b = false ∧ q) (hb : b = false) : q := by
  rcases h with h | h
  · rw [hb] at h; cases h.1
  · exact h.2
theorem b_false {b : Bool} (h : ¬ b = true) : b = false := by simpa using h
/-- Bytes as a text. -/
def tx (l : L8) : ByteArray := ⟨l.toArray⟩
@[simp] theorem tx_size (l : L8) : (tx l).size = l.length := by simp [tx, ByteArray.size]
theorem tx_append (a b : L8) : tx a ++ tx b = tx (a ++ b) := by
  apply ByteArray.ext
  simp [tx]
theorem tx_inj {a b : L8} (h : tx a = tx b) : a = b := by
  have := congrArg (fun x : ByteArray => x.data.toList) h
  simpa [tx] using this
theorem tx_iff {a b : L8} : tx a = tx b ↔ a = b := ⟨tx_inj, fun h => by rw [h]⟩
theorem tx_eta (s : ByteArray) : s = tx s.data.toList := by
  apply ByteArray.ext
  simp [tx]
theorem tx_extract (l : L8) (i j : Nat) : (tx l).extract i j = tx ((l.drop i).take (j - i)) := by
  apply ByteArray.ext
  simp [tx, List.drop_take]
theorem tx_at (l : L8) (k : Nat) : strAt (tx l) k = (((l[k]?).getD 0).toNat : Int) := by simp [strAt, tx]
theorem tx_nil : tx [] = ⟨#[]⟩ := rfl
theorem itoa_len (n : Int) (h : -9223372036854775808 ≤ n ∧ n ≤ 9223372036854775807) : (Lib.itoa n).length ≤ 21 := Lib.itoa_length_le n h.1 h.2
theorem itoa_nn {n : Int} (h : 0 ≤ n) : Lib.itoa n = Lib.decDigits n.toNat := by unfold Lib.itoa; rw [if_neg (by omega)]
/-- A number of at least so many digits. -/
def padL (n : Int) (w : Nat) : L8 := List.replicate (w - (Lib.itoa n).length) 48 ++ Lib.itoa n
theorem padL_len (n : Int) (w : Nat) : (padL n w).length = max w (Lib.itoa n).length := by simp [padL]; omega
open Go.RowKit
set_option linter.unusedVariables false
set_option linter.unusedSimpArgs false
set_option maxRecDepth 100000

def isDg (c : UInt8) : Bool := decide (48 ≤ c.toNat) && decide (c.toNat ≤ 57)
theorem isDg_iff {c : UInt8} : isDg c = true ↔ 48 ≤ c.toNat ∧ c.toNat ≤ 57 := by simp [isDg]
def nvA (n : Nat) (l : L8) : Nat := l.foldl (fun n c => n * 10 + (c.toNat - 48)) n
def nvL (l : L8) : Nat := nvA 0 l
def ndg : L8 → Nat
  | [] => 0
  | c :: l => if isDg c then ndg l + 1 else 0

-- digits
theorem ndg_le : ∀ l : L8, ndg l ≤ l.length
  | [] => Nat.le_refl _
  | c :: l => by
    have := ndg_le l
    unfold ndg
    split <;> simp <;> omega
theorem ndg_dig : ∀ (l : L8) (i : Nat) (c : UInt8), i < ndg l → l[i]? = some c → isDg c = true
  | [], i, c, h, e => by simp at e
  | a :: l, i, c, h, e => by
    unfold ndg at h
    split at h
    · rename_i ha
      cases i with
      | zero => simp at e; subst e; exact ha
      | succ i => exact ndg_dig l i c (by omega) (by simpa using e)
    · omega
theorem ndg_end : ∀ (l : L8) (c : UInt8), l[ndg l]? = some c → isDg c = false
  | [], c, e => by simp at e
  | a :: l, c, e => by
    unfold ndg at e
    split at e
    · exact ndg_end l c (by simpa using e)
    · rename_i ha
      simp at e
      subst e
      simpa using ha
theorem ndg_unique {l : L8} {k : Nat} (hk : k ≤ l.length) (h : ∀ i c, i < k → l[i]? = some c → isDg c = true) (he : ∀ c, l[k]? = some c → isDg c = false) : ndg l = k := by
  apply Classical.byContradiction
  intro hne
  rcases Nat.lt_or_gt_of_ne hne with hlt | hlt
  · have h1 : ndg l < l.length := by omega
    have h2 := ndg_end l _ (List.getElem?_eq_getElem h1)
    have h3 := h _ _ hlt (List.getElem?_eq_getElem h1)
    rw [h2] at h3
    cases h3
  · have h1 : k < l.length := by have := ndg_le l; omega
    have h2 := he _ (List.getElem?_eq_getElem h1)
    have h3 := ndg_dig l _ _ hlt (List.getElem?_eq_getElem h1)
    rw [h2] at h3
    cases h3
theorem nvA_lt : ∀ (l : L8) (n : Nat), l.all isDg = true → nvA n l + 1 ≤ (n + 1) * 10 ^ l.length
  | [], n, h => by simp [nvA]
  | c :: l, n, h => by
    simp only [List.all_cons, Bool.and_eq_true] at h
    have h1 := nvA_lt l (n * 10 + (c.toNat - 48)) h.2
    have h2 := (isDg_iff.1 h.1).2
    have h3 : (n * 10 + (c.toNat - 48) + 1) * 10 ^ l.length ≤ ((n + 1) * 10) * 10 ^ l.length := Nat.mul_le_mul_right _ (by omega)
    show nvA (n * 10 + (c.toNat - 48)) l + 1 ≤ _
    rw [List.length_cons, Nat.pow_succ, Nat.mul_comm (10 ^ l.length) 10, ← Nat.mul_assoc]
    omega
theorem nvL_lt {l : L8} {k : Nat} (h : l.all isDg = true) (hk : l.length ≤ k) : nvL l < 10 ^ k := by
  have h1 := nvA_lt l 0 h
  have h2 : 10 ^ l.length ≤ 10 ^ k := Nat.pow_le_pow_right (by decide) hk
  unfold nvL
  omega
theorem nvA_snoc (l : L8) (c : UInt8) (n : Nat) : nvA n (l ++ [c]) = nvA n l * 10 + (c.toNat - 48) := by simp [nvA]
theorem nvL_take {l : L8} {k : Nat} {c : UInt8} (h : l[k]? = some c) : nvL (l.take (k + 1)) = nvL (l.take k) * 10 + (c.toNat - 48) := by
  obtain ⟨hk, e⟩ := List.getElem?_eq_some_iff.1 h
  rw [List.take_succ_eq_append_getElem hk, e]
  exact nvA_snoc _ _ _
theorem take_all {l : L8} {k : Nat} (h : k ≤ ndg l) : (l.take k).all isDg = true := by
  rw [List.all_eq_true]
  intro c hc
  obtain ⟨i, hi, rfl⟩ := List.getElem_of_mem hc
  simp at hi
  exact ndg_dig l i _ (by omega) (by rw [List.getElem_take]; exact List.getElem?_eq_getElem (by omega))
end Go.Proofs.YtpambeengdhhmaaGreatDoor
