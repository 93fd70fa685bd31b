/-
  casuistlaw01: a number comes back from its text; WideBack.
-/
import Derived.Test.YtiafmdfegmimdaaRed
import Derived.Test.YtiafmdfegmimdaaLawB
namespace Go.Proofs.Ytiafmdfegmimdaa
open Go.RowKit
set_option linter.unusedVariables false
set_option linter.unusedSimpArgs false
set_option maxRecDepth 100000

theorem strOf_size (l : List Int) : (strOf l).size = l.length := by simp [strOf, ByteArray.size]
theorem strOf_at {l : List Int} {k : Nat} {z : Int} (h : l[k]? = some z) (h0 : 0 ≤ z) (h1 : z < 256) : bAt (strOf l) k = z.toNat := by
  unfold bAt strOf
  simp only [List.getElem?_toArray, List.getElem?_map, h, Option.map_some, Option.getD_some]
  simp [UInt8.toNat_ofNat']
  omega
theorem tl_get (a : Nat) : ∀ (k j : Nat), j < k → (tl a k)[j]? = some ((48 + dig a (k - 1 - j) : Nat) : Int)
  | 0, j, h => by omega
  | k + 1, 0, h => by simp [tl]
  | k + 1, j + 1, h => by
    rw [tl, List.getElem?_cons_succ, tl_get a k j (by omega)]
    congr 4
    omega
theorem tl_at {a k j : Nat} (h : j < k) : bAt (strOf (tl a k)) j = 48 + dig a (k - 1 - j) := by
  have hd := dig_lt a (k - 1 - j)
  rw [strOf_at (tl_get a k j h) (by omega) (by omega)]
  omega
theorem pv_tl {a k : Nat} (h0 : a / 10 ^ k = 0) : ∀ j, j ≤ k → pv (strOf (tl a k)) j = a / 10 ^ (k - j)
  | 0, h => by rw [pv, Nat.sub_zero, h0]
  | j + 1, h => by
    have h2 := mul_digit a (k := k - j) (by omega)
    rw [pv, pv_tl h0 j (by omega), tl_at (by omega), show k - 1 - j = k - j - 1 by omega, show k - (j + 1) = k - j - 1 by omega]
    omega
theorem nd_pos' {a : Nat} (h : a ≠ 0) : 0 < nd a := by
  apply Nat.pos_of_ne_zero
  intro e
  have := lt_nd a
  rw [e] at this
  omega
theorem txS_dig (a : Nat) : Dig (txS a) ∧ pv (txS a) (txS a).size = a := by
  unfold txS
  split
  · rename_i h
    subst h
    refine ⟨⟨by decide, fun k hk => ?_⟩, by decide⟩
    have : k = 0 := by
      have : (⟨#[48]⟩ : ByteArray).size = 1 := rfl
      omega
    subst this
    exact ⟨by decide, by decide⟩
  · rename_i h
    have h0 := div_nd (Nat.le_refl (nd a))
    refine ⟨⟨by rw [strOf_size, tl_len]; exact nd_pos' h, fun k hk => ?_⟩, ?_⟩
    · rw [strOf_size, tl_len] at hk
      have := dig_lt a (nd a - 1 - k)
      unfold isD
      rw [tl_at hk]
      omega
    · rw [strOf_size, tl_len, pv_tl h0 _ (Nat.le_refl _)]
      simp
theorem txS_ok {a : Nat} (h : a < B128) : RdOk (txS a) := ⟨(txS_dig a).1, by rw [(txS_dig a).2]; exact h⟩
theorem txS_rd {a : Nat} (h : a < B128) : rdV (txS a) = a := by rw [rdV, if_pos (txS_ok h), (txS_dig a).2]

theorem cw_DivB {h l d : Nat} (hh : h < B128) (hl : l < B128) (hd : d < B128) : HasC Try.prog 19 [dU h, dU l, dU d] (fun y => ∃ (q r : Nat) (b : Bool), y = .tup [dU q, dU r, .v (.bool b)] ∧ (b = true ↔ h < d) ∧ (h < d → q = (h * B128 + l) / d ∧ r = (h * B128 + l) % d)) := by
  by_cases e : d ≤ h
  · exact (cw_Div_no hh hl hd e).mono fun y hy => ⟨0, 0, false, hy, by simp; omega, fun h => by omega⟩
  · exact (cw_Div_yes hh hl hd (by omega)).mono fun y hy => ⟨_, _, true, hy, by simp; omega, fun h => ⟨rfl, rfl⟩⟩
theorem sub_back {a b : Nat} (ha : a < B128) (hb : b < B128) : ((a + b) % B128 + B128 - b) % B128 = a ∧ ((a + b) / B128 : Nat) = lackN ((a + b) % B128) b := by
  by_cases h : a + b < B128
  · rw [Nat.mod_eq_of_lt h, Nat.div_eq_of_lt h, show a + b + B128 - b = a + B128 by omega, Nat.add_mod_right, Nat.mod_eq_of_lt ha]
    exact ⟨rfl, by unfold lackN; rw [if_neg (by omega)]⟩
  · have e1 : (a + b) % B128 = a + b - B128 := by rw [Nat.mod_eq_sub_mod (by omega), Nat.mod_eq_of_lt (by omega)]
    have e2 : (a + b) / B128 = 1 := by rw [Nat.div_eq_sub_div (by decide) (by omega), Nat.div_eq_of_lt (by omega)]
    rw [e1, e2, show a + b - B128 + B128 - b = a by omega, Nat.mod_eq_of_lt ha]
    exact ⟨rfl, by unfold lackN; rw [if_pos (by omega)]⟩
theorem c_ReadT {a : Nat} (ha : a < B128) : HasC Try.prog 13 [.v (.string (txS a))] (fun y => y = .tup [dU a, .v (.bool true)]) :=
  c_Read.mono fun y ⟨b, h1, h2⟩ => by rw [h1, txS_rd ha, h2.2 (txS_ok ha)]
theorem cmpN_ge {a d : Nat} (h : ¬ a < d) : 0 ≤ cmpN a d := by
  unfold cmpN
  rw [if_neg h]
  split <;> decide
theorem back_sum {a b d q r : Nat} (ha : a < B128) (hb : b < B128) (hd : a < d) (hq : q = (a * B128 + b) / d) (hr : r = (a * B128 + b) % d) :
    q * d / B128 * B128 + q * d % B128 + (0 * B128 + r) = a * B128 + b := by
  have h1 := Nat.div_add_mod (a * B128 + b) d
  have h2 := Nat.div_add_mod (q * d) B128
  rw [← hq, ← hr] at h1
  have e1 : B128 * (q * d / B128) = q * d / B128 * B128 := Nat.mul_comm _ _
  have e2 : d * q = q * d := Nat.mul_comm _ _
  omega
theorem q_lt {a b d q : Nat} (ha : a < d) (hb : b < B128) (hq : q = (a * B128 + b) / d) : q < B128 := by
  rw [hq]
  apply Nat.div_lt_of_lt_mul
  have : (a + 1) * B128 ≤ d * B128 := Nat.mul_le_mul_right _ ha
  rw [Nat.add_mul, Nat.one_mul] at this
  omega

end Go.Proofs.Ytiafmdfegmimdaa
