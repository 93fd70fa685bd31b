/-
  The order of texts of days and times: with no program in sight.
-/
import Derived.Test.YtjpaedjhihiakaaDoorLexP
namespace Go.Proofs.YtjpaedjhihiakaaDoor
open Go.RowKit
set_option linter.unusedVariables false
set_option linter.unusedSimpArgs false
set_option maxRecDepth 100000

abbrev bl (a b : L8) : Bool := Op.bytesLess a b
theorem bl_cons (x y : UInt8) (a b : L8) : bl (x :: a) (y :: b) = true ↔ x < y ∨ x = y ∧ bl a b = true := by
  show ((decide (x < y) || (x == y && Op.bytesLess a b)) = true ↔ x < y ∨ x = y ∧ Op.bytesLess a b = true)
  simp
theorem bl_app : ∀ {a a' : L8} (b b' : L8), a.length = a'.length → (bl (a ++ b) (a' ++ b') = true ↔ bl a a' = true ∨ a = a' ∧ bl b b' = true)
  | [], [], b, b', h => by
    have : bl [] [] = false := rfl
    simp [this]
  | x :: a, [], b, b', h => by simp at h
  | [], x :: a, b, b', h => by simp at h
  | x :: a, y :: a', b, b', h => by
    have ih := bl_app (a := a) (a' := a') b b' (by simpa using h)
    rw [List.cons_append, List.cons_append, bl_cons, bl_cons, ih]
    simp only [List.cons.injEq]
    constructor
    · rintro (h | ⟨h1, h2 | ⟨h2, h3⟩⟩)
      · exact .inl (.inl h)
      · exact .inl (.inr ⟨h1, h2⟩)
      · exact .inr ⟨⟨h1, h2⟩, h3⟩
    · rintro ((h | ⟨h1, h2⟩) | ⟨⟨h1, h2⟩, h3⟩)
      · exact .inl h
      · exact .inr ⟨h1, .inl h2⟩
      · exact .inr ⟨h1, .inr ⟨h2, h3⟩⟩
theorem bl_irr : ∀ a : L8, bl a a = false
  | [] => rfl
  | x :: a => by
    have h := bl_cons x x a a
    rw [bl_irr a] at h
    simp at h
    exact h
/-- The last so many digits. -/
def dwL (n : Nat) : Nat → L8
  | 0 => []
  | w + 1 => dwL (n / 10) w ++ [UInt8.ofNat (48 + n % 10)]
theorem dwL_len (n : Nat) : ∀ w, (dwL n w).length = w := by
  intro w
  induction w generalizing n with
  | zero => rfl
  | succ w ih => simp [dwL, ih]
theorem dwL_zero : ∀ w, dwL 0 w = List.replicate w 48
  | 0 => rfl
  | w + 1 => by rw [dwL, Nat.zero_div, dwL_zero w, List.replicate_succ']; rfl
theorem pad_dw : ∀ (w n : Nat), n < 10 ^ w → List.replicate (w - (Lib.decDigits n).length) 48 ++ Lib.decDigits n = if w = 0 then Lib.decDigits n else dwL n w
  | 0, n, h => by simp
  | w + 1, n, h => by
    rw [if_neg (by omega), Lib.decDigits]
    split
    · rename_i hn
      rw [dwL, Nat.div_eq_of_lt hn, Nat.mod_eq_of_lt hn, dwL_zero]
      simp
    · rename_i hn
      have hw : w ≠ 0 := fun e => by subst e; omega
      have ih := pad_dw w (n / 10) (by rw [Nat.pow_succ] at h; omega)
      rw [if_neg hw] at ih
      rw [dwL, ← ih, List.length_append, List.append_assoc]
      simp
theorem padL_dw {n : Int} {w : Nat} (h0 : 0 ≤ n) (h : n.toNat < 10 ^ w) (hw : w ≠ 0) : padL n w = dwL n.toNat w := by
  rw [padL, itoa_nn h0, pad_dw w _ h, if_neg hw]
theorem dig8_lt {a b : Nat} (ha : a < 10) (hb : b < 10) : UInt8.ofNat (48 + a) < UInt8.ofNat (48 + b) ↔ a < b := by
  rw [UInt8.lt_iff_toNat_lt, UInt8.toNat_ofNat', UInt8.toNat_ofNat']
  omega
theorem dwL_lt : ∀ (w n m : Nat), n < 10 ^ w → m < 10 ^ w → (bl (dwL n w) (dwL m w) = true ↔ n < m)
  | 0, n, m, h1, h2 => by
    have : bl [] [] = false := rfl
    simp [dwL, this]
    omega
  | w + 1, n, m, h1, h2 => by
    rw [Nat.pow_succ] at h1 h2
    have ih := dwL_lt w (n / 10) (m / 10) (by omega) (by omega)
    have ih2 := dwL_lt w (m / 10) (n / 10) (by omega) (by omega)
    rw [dwL, dwL, bl_app _ _ (by rw [dwL_len, dwL_len]), ih, bl_cons, dig8_lt (Nat.mod_lt _ (by decide)) (Nat.mod_lt _ (by decide))]
    have hn : bl [] [] = false := rfl
    have he : dwL (n / 10) w = dwL (m / 10) w ↔ n / 10 = m / 10 := by
      constructor
      · intro e
        rw [e, bl_irr] at ih
        rw [e, bl_irr] at ih2
        simp at ih ih2
        omega
      · intro e; rw [e]
    rw [he]
    simp [hn]
    omega
theorem padL_lt {n m : Int} {w : Nat} (h0 : 0 ≤ n) (h1 : n.toNat < 10 ^ w) (h2 : 0 ≤ m) (h3 : m.toNat < 10 ^ w) (hw : w ≠ 0) : bl (padL n w) (padL m w) = true ↔ n < m := by
  rw [padL_dw h0 h1 hw, padL_dw h2 h3 hw, dwL_lt w _ _ h1 h3]
  omega
theorem padL_w {n : Int} {w : Nat} (h0 : 0 ≤ n) (h1 : n.toNat < 10 ^ w) (hw : w ≠ 0) : (padL n w).length = w := by rw [padL_dw h0 h1 hw, dwL_len]
theorem padL_eq {n m : Int} {w : Nat} (h0 : 0 ≤ n) (h1 : n.toNat < 10 ^ w) (h2 : 0 ≤ m) (h3 : m.toNat < 10 ^ w) (hw : w ≠ 0) : padL n w = padL m w ↔ n = m := by
  constructor
  · intro e
    have a := padL_lt h0 h1 h2 h3 hw
    have b := padL_lt h2 h3 h0 h1 hw
    rw [e, bl_irr] at a
    rw [e, bl_irr] at b
    simp at a b
    omega
  · intro e; rw [e]
theorem bl_same (c : UInt8) (a b : L8) : bl (c :: a) (c :: b) = true ↔ bl a b = true := by
  rw [bl_cons]
  simp
/-- Three numbers of fixed widths, a sign between each. -/
theorem three_lt {a b c a' b' c' : Int} {w1 w2 w3 : Nat} (s : UInt8) (ha : 0 ≤ a ∧ a.toNat < 10 ^ w1) (ha' : 0 ≤ a' ∧ a'.toNat < 10 ^ w1) (hb : 0 ≤ b ∧ b.toNat < 10 ^ w2) (hb' : 0 ≤ b' ∧ b'.toNat < 10 ^ w2) (hc : 0 ≤ c ∧ c.toNat < 10 ^ w3) (hc' : 0 ≤ c' ∧ c'.toNat < 10 ^ w3)
    (h1 : w1 ≠ 0) (h2 : w2 ≠ 0) (h3 : w3 ≠ 0) : bl (padL a w1 ++ [s] ++ padL b w2 ++ [s] ++ padL c w3) (padL a' w1 ++ [s] ++ padL b' w2 ++ [s] ++ padL c' w3) = true ↔ a < a' ∨ a = a' ∧ (b < b' ∨ b = b' ∧ c < c') := by
  simp only [List.append_assoc, List.singleton_append, List.cons_append, List.nil_append]
  rw [bl_app _ _ (by rw [padL_w ha.1 ha.2 h1, padL_w ha'.1 ha'.2 h1]), padL_lt ha.1 ha.2 ha'.1 ha'.2 h1, padL_eq ha.1 ha.2 ha'.1 ha'.2 h1, bl_same,
    bl_app _ _ (by rw [padL_w hb.1 hb.2 h2, padL_w hb'.1 hb'.2 h2]), padL_lt hb.1 hb.2 hb'.1 hb'.2 h2, padL_eq hb.1 hb.2 hb'.1 hb'.2 h2, bl_same, padL_lt hc.1 hc.2 hc'.1 hc'.2 h3]
theorem tx_lt (a b : L8) : StrLt (tx a) (tx b) ↔ bl a b = true := by
  unfold StrLt bl
  have e : ∀ l : L8, (tx l).toList = l := fun l => by rw [ByteArray.toList_eq]; simp [tx]
  rw [e, e]
theorem date_lt {y m d y' m' d' : Int} (hy : 0 ≤ y ∧ y ≤ 9999) (hy' : 0 ≤ y' ∧ y' ≤ 9999) (hm : 1 ≤ m ∧ m ≤ 12) (hm' : 1 ≤ m' ∧ m' ≤ 12) (hd : 1 ≤ d ∧ d ≤ 31) (hd' : 1 ≤ d' ∧ d' ≤ 31) :
    StrLt (tx (dateL y m d)) (tx (dateL y' m' d')) ↔ ltD y m d y' m' d' := by
  rw [tx_lt, dateL, dateL, if_neg (by omega), if_neg (by omega), if_neg (by omega), if_neg (by omega), List.nil_append, List.nil_append,
    three_lt 45 ⟨hy.1, by omega⟩ ⟨hy'.1, by omega⟩ ⟨by omega, by omega⟩ ⟨by omega, by omega⟩ ⟨by omega, by omega⟩ ⟨by omega, by omega⟩ (by decide) (by decide) (by decide)]
  unfold ltD
  omega
theorem time_lt {s t : Int} (hs : 0 ≤ s ∧ s < 86400) (ht : 0 ≤ t ∧ t < 86400) :
    StrLt (tx (timeL s false 0)) (tx (timeL t false 0)) ↔ s < t := by
  have z : zoneL false 0 = [] := rfl
  rw [tx_lt, timeL, timeL, z, List.append_nil, List.append_nil,
    three_lt 58 ⟨by omega, by omega⟩ ⟨by omega, by omega⟩ ⟨by omega, by omega⟩ ⟨by omega, by omega⟩ ⟨by omega, by omega⟩ ⟨by omega, by omega⟩ (by decide) (by decide) (by decide)]
  omega
end Go.Proofs.YtjpaedjhihiakaaDoor
