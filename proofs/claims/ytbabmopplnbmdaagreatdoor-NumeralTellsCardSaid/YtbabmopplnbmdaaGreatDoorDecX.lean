/-
  The reference's sums and order: casuistref02. dec.Whole.
-/
import Derived.Test.YtbabmopplnbmdaaGreatDoorDecY
namespace Go.Proofs.YtbabmopplnbmdaaGreatDoor

open Go.RowKit
set_option linter.unusedVariables false
set_option linter.unusedSimpArgs false
set_option maxRecDepth 100000

theorem c_rNeg {g : Bool} {A : Nat} {e : Int} : HasC Tryz.prog 11 [.agg [.v (.bool g), .sl (nd (A)) (dg (digs (A))), .v (.int .i64 e)]] (fun y => y = dRD (!g && decide (A ≠ 0)) A e) := by
  refine HasC.of [] (fn := Tryz.f11) tyOk mixed (fun args w => Tryz.call11 args w) Tryz.func11 rfl (by kernel_rfl) (Nat.le_of_ble_eq_true rfl) (⟨_, rfl⟩) ?_
  refine vc_seqr rfl (iQ 2 (iE 17 [(1, .p 1 0), (2, .p 2 0)] [(1, [Bv g, .sl (nd (A)) (dg (digs (A))), Iv e]), (2, [Bv false, .sl 0 [], Iv 0])] ?_))
  refine vc_seqr rfl (iQ 2 (iU .not (.bool g) (some 5) ?_))
  intro c5 hc5
  refine iQ 1 ?_
  cases c5
  · replace hc5 := bf hc5
    refine iQ 11 (iE 17 [(2, .p 2 0)] [(2, [Bv false, .sl (nd (A)) (dg (digs (A))), Iv e])] ?_)
    refine vc_ret (iR (.agg [Bv false, .sl (nd (A)) (dg (digs (A))), Iv e]) ?_)
    have hg : g = true := by simpa using hc5
    rw [hg]; rfl
  · replace hc5 := bt hc5
    refine iQ 3 (iB .gtr 3 (.int .i64 (((nd (A) : Nat) : Int))) (.int .i64 0) (some 10) ?_)
    intro c10 hc10
    refine iQ 7 (iE 17 [(2, .p 2 0)] [(2, [Bv c10, .sl (nd (A)) (dg (digs (A))), Iv e])] ?_)
    refine vc_ret (iR (.agg [Bv c10, .sl (nd (A)) (dg (digs (A))), Iv e]) ?_)
    have hc : (!g && decide (A ≠ 0)) = c10 := by rw [hc5, Bool.eq_iff_iff, hc10]; have := @nd_eq0 A; simp; omega
    rw [hc]; rfl

def dRD3 (t : Bool × Nat × Int) : DV := dRD t.1 t.2.1 t.2.2
theorem c_ShiftN {a n : Nat} {X : Int} (hX : X.toNat = n) (ha : nd a ≤ 900000) (hn : X ≤ 90000) : HasC Tryz.prog 60 [.sl (nd a) (dg (digs a)), .v (.int .i64 X)] (fun y => y = .sl (nd (a * 10 ^ n)) (dg (digs (a * 10 ^ n)))) := by
  subst hX
  exact c_ShiftX ha hn
theorem nd_shifted {a n : Nat} (h : nd a ≤ 100) (hn : n ≤ 30000) : nd (a * 10 ^ n) ≤ 30101 := by
  have := nd_up (Nat.le_refl (a * 10 ^ n))
  omega

theorem sum_nd {s1 s2 : Bool} {A B : Nat} {e1 e2 : Int} (hA : nd A ≤ 100) (hB : nd B ≤ 100) (h1 : -14000 ≤ e1) (h2 : e1 ≤ 14000) (h3 : -14000 ≤ e2) (h4 : e2 ≤ 14000) : nd (sumT s1 A e1 s2 B e2).2.1 ≤ 30102 ∧ -14000 ≤ (sumT s1 A e1 s2 B e2).2.2 ∧ (sumT s1 A e1 s2 B e2).2.2 ≤ 14000 := by
  have hnX : nd (A * 10 ^ (e1 - min e1 e2).toNat) ≤ 30101 := nd_shifted hA (by omega)
  have hnY : nd (B * 10 ^ (e2 - min e1 e2).toNat) ≤ 30101 := nd_shifted hB (by omega)
  unfold sumT
  split
  · exact ⟨nd_add hnX hnY, by show -14000 ≤ min e1 e2; omega, by show min e1 e2 ≤ 14000; omega⟩
  · split
    · exact ⟨Nat.le_succ_of_le (Nat.le_trans (nd_mono (Nat.sub_le _ _)) hnX), by show -14000 ≤ min e1 e2; omega, by show min e1 e2 ≤ 14000; omega⟩
    · exact ⟨Nat.le_succ_of_le (Nat.le_trans (nd_mono (Nat.sub_le _ _)) hnY), by show -14000 ≤ min e1 e2; omega, by show min e1 e2 ≤ 14000; omega⟩


open Go.RowKit
set_option linter.unusedVariables false
set_option linter.unusedSimpArgs false
set_option maxRecDepth 100000

/-- A number is the whole number v. -/
def isW (s : Bool) (A : Nat) (e v : Int) : Prop := V s A e (min e 0) = v * ((10 ^ (0 - min e 0).toNat : Nat) : Int)
def inI (v : Int) : Prop := -9223372036854775808 ≤ v ∧ v < 9223372036854775808
theorem isW_fn {s : Bool} {A : Nat} {e v w : Int} (h : isW s A e v) (k : isW s A e w) : v = w := by
  unfold isW at h k
  rw [h] at k
  exact Int.eq_of_mul_eq_mul_right (by have : 0 < 10 ^ (0 - min e 0).toNat := Nat.pow_pos (by decide); omega) k
theorem isW_0 (s : Bool) (e : Int) : isW s 0 e 0 := by
  unfold isW
  rw [V_0, Int.zero_mul]
theorem isW_val {s : Bool} {A p i j : Nat} {e : Int} (hA : A = p * 10 ^ j) (hi : (i : Int) = e + j) : isW s A e (sgnV s (p * 10 ^ i)) := by
  unfold isW V
  rw [hA, ← sgnV_mul, Nat.mul_assoc, Nat.mul_assoc, ← Nat.pow_add, ← Nat.pow_add]
  congr 3
  omega
theorem isW_div {s : Bool} {A : Nat} {e v : Int} (h : isW s A e v) (he : e ≤ 0) : A = v.natAbs * 10 ^ (-e).toNat := by
  unfold isW V sgnV at h
  rw [show min e 0 = e by omega, show (e - e).toNat = 0 by omega, show (0 - e).toNat = (-e).toNat by omega, Nat.pow_zero, Nat.mul_one] at h
  have h2 := congrArg Int.natAbs h
  rw [Int.natAbs_mul, Int.natAbs_natCast] at h2
  rw [← h2]
  split <;> simp
theorem whole_ex (s : Bool) (A : Nat) (e : Int) : ∃ (z : Int) (ok : Bool), (ok = true → isW s A e z ∧ inI z) ∧ (ok = false → z = 0 ∧ ∀ v, isW s A e v → ¬ inI v) := by
  by_cases h : ∃ v, isW s A e v ∧ inI v
  · obtain ⟨v, h1, h2⟩ := h
    exact ⟨v, true, fun _ => ⟨h1, h2⟩, fun h => by cases h⟩
  · exact ⟨0, false, fun h => (by cases h), fun _ => ⟨rfl, fun v h1 h2 => h ⟨v, h1, h2⟩⟩⟩
theorem not_ten {s : Bool} {A p j : Nat} {e : Int} (hA : p * 10 ^ j = A) (hx : e + (j : Int) < 0) (hp : p % 10 ≠ 0) {v : Int} (h : isW s A e v) : False := by
  have h1 := isW_div h (by omega)
  rw [← hA, show (-e).toNat = ((-e).toNat - j - 1) + 1 + j by omega, Nat.pow_add, ← Nat.mul_assoc] at h1
  have h2 := Nat.eq_of_mul_eq_mul_right (Nat.pow_pos (by decide)) h1
  rw [h2, Nat.pow_succ, ← Nat.mul_assoc, Nat.mul_mod_left] at hp
  exact hp rfl
theorem sgn_big {s : Bool} {n : Nat} (h : inI (sgnV s n)) : n ≤ 9223372036854775808 ∧ (s = false → n < 9223372036854775808) := by
  unfold inI sgnV at h
  cases s <;> simp at h ⊢ <;> omega
theorem neg_conv {l z w : Int} (h1 : IntIs .u64 (0 - l) z) (h2 : IntIs .i64 z w) (h3 : 0 ≤ l) (h4 : l ≤ 9223372036854775808) : w = -l := by
  have e1 : z = IntKind.u64.wrap (0 - l) := h1
  have e2 : w = IntKind.i64.wrap z := h2
  rw [wrap_u64] at e1
  rw [e2]
  unfold IntKind.wrap
  simp [IntKind.signed, IntKind.bits]
  split <;> omega
theorem hi_big {n : Nat} : hiW n ≠ 0 ↔ 18446744073709551616 ≤ n := by
  unfold hiW
  omega
theorem lo_own {n : Nat} (h : hiW n = 0) : loW n = (n : Int) := by
  unfold hiW at h
  unfold loW
  omega

theorem div0_lt {n : Nat} (h : n / B128 = 0) : n < B128 := by
  rcases (Nat.div_eq_zero_iff).1 h with k | k
  · exact absurd k (by decide)
  · exact k
theorem div1_ge {n : Nat} (h : n / B128 ≠ 0) : 18446744073709551616 ≤ n := by
  rcases Nat.lt_or_ge n B128 with k | k
  · exact absurd (Nat.div_eq_of_lt k) h
  · exact Nat.le_trans (by decide) k

/-- What the second loop keeps. -/
structure WInv (s : Bool) (A p i j : Nat) (e : Int) (p2 : Nat) (x2 : Int) : Prop where
  a : p * 10 ^ j = A
  z : A = 0 ∨ 0 ≤ e + j
  p : p2 = p * 10 ^ i
  x : x2 = e + j - i
  i : i = 0 ∨ 0 ≤ x2
  b : p2 < B128
theorem WInv.over {s : Bool} {A p i j : Nat} {e : Int} {p2 : Nat} {x2 : Int} (h : WInv s A p i j e p2 x2) (hx : 0 < x2) (hp : p2 ≠ 0) (hb : 18446744073709551616 ≤ p2 * 10) {v : Int} (hv : isW s A e v) : ¬ inI v := by
  obtain ⟨h1, h2, h3, h4, h5, h6⟩ := h
  obtain ⟨d, hd⟩ : ∃ d : Nat, x2 = (d : Int) + 1 := ⟨(x2 - 1).toNat, by omega⟩
  have hw := isW_val (s := s) (A := A) (p := p) (i := i + (d + 1)) (j := j) (e := e) h1.symm (by omega)
  rw [isW_fn hv hw]
  intro hin
  have hs := (sgn_big hin).1
  have hle : p2 * 10 ≤ p * 10 ^ (i + (d + 1)) := by
    rw [Nat.pow_add, ← Nat.mul_assoc, ← h3]
    refine Nat.mul_le_mul_left _ ?_
    rw [Nat.pow_succ]
    have : 0 < 10 ^ d := Nat.pow_pos (by decide)
    omega
  omega
theorem WInv.val {s : Bool} {A p i j : Nat} {e : Int} {p2 : Nat} {x2 : Int} (h : WInv s A p i j e p2 x2) (hx : x2 ≤ 0 ∨ p2 = 0) : isW s A e (sgnV s p2) := by
  obtain ⟨h1, h2, h3, h4, h5, h6⟩ := h
  have hz : p2 = 0 → isW s A e (sgnV s p2) := fun h => by
    have hp : p = 0 := by
      rw [h] at h3
      rcases Nat.mul_eq_zero.1 h3.symm with k | k
      · exact k
      · exact absurd k (Nat.pos_iff_ne_zero.1 (Nat.pow_pos (by decide)))
    rw [hp, Nat.zero_mul] at h1
    rw [h, ← h1, sgnV_0]
    exact isW_0 s e
  by_cases hp : p2 = 0
  · exact hz hp
  · have hA : A ≠ 0 := fun k => by
      rw [k] at h1
      rcases Nat.mul_eq_zero.1 h1 with m | m
      · rw [m, Nat.zero_mul] at h3
        exact hp h3
      · exact absurd m (Nat.pos_iff_ne_zero.1 (Nat.pow_pos (by decide)))
    have := h2.resolve_left hA
    rw [h3]
    exact isW_val h1.symm (by omega)

end Go.Proofs.YtbabmopplnbmdaaGreatDoor
