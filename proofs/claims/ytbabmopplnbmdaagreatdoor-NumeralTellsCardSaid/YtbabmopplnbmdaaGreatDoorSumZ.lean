/-
  Sums and order of numbers, as plain data. The order of numbers, as plain data; what rounding keeps. Rounding keeps the order.
-/
import Derived.Test.YtbabmopplnbmdaaGreatDoorRefZ
namespace Go.Proofs.YtbabmopplnbmdaaGreatDoor

open Go.RowKit
set_option linter.unusedVariables false
set_option linter.unusedSimpArgs false
set_option maxRecDepth 100000

/-- A size with its sign. -/
def sgnV (s : Bool) (n : Nat) : Int := if s then -(n : Int) else n
/-- -1, 0 or 1. -/
def cmpI (x y : Int) : Int := if x < y then -1 else if x = y then 0 else 1
/-- A number as a multiple of 10 to the E. -/
def V (s : Bool) (A : Nat) (e E : Int) : Int := sgnV s (A * 10 ^ (e - E).toNat)
/-- How two numbers stand. -/
def cmpZ (s1 : Bool) (A : Nat) (e1 : Int) (s2 : Bool) (B : Nat) (e2 : Int) : Int := cmpI (V s1 A e1 (min e1 e2)) (V s2 B e2 (min e1 e2))
/-- The sum, as it is. -/
def sumT (s1 : Bool) (A : Nat) (e1 : Int) (s2 : Bool) (B : Nat) (e2 : Int) : Bool × Nat × Int :=
  if s1 = s2 then (s1, A * 10 ^ (e1 - min e1 e2).toNat + B * 10 ^ (e2 - min e1 e2).toNat, min e1 e2)
  else if B * 10 ^ (e2 - min e1 e2).toNat ≤ A * 10 ^ (e1 - min e1 e2).toNat then (s1, A * 10 ^ (e1 - min e1 e2).toNat - B * 10 ^ (e2 - min e1 e2).toNat, min e1 e2)
  else (s2, B * 10 ^ (e2 - min e1 e2).toNat - A * 10 ^ (e1 - min e1 e2).toNat, min e1 e2)
noncomputable def addT (s1 : Bool) (A : Nat) (e1 : Int) (s2 : Bool) (B : Nat) (e2 : Int) : T4 := fitU 1 (sumT s1 A e1 s2 B e2).1 (sumT s1 A e1 s2 B e2).2.1 (sumT s1 A e1 s2 B e2).2.2 false

theorem nd_one_le {n : Nat} (h : n ≠ 0) : 1 ≤ nd n := by
  have := nd_pos h
  omega
theorem sgnV_0 (s : Bool) : sgnV s 0 = 0 := by cases s <;> rfl
theorem cutQ_00 (m : Int) (s : Bool) (k : Nat) : cutQ m s 0 false k = 0 := by
  rw [cutQ_congr (N' := 0) (k' := 0) (more' := false) (by simp) (by cases k <;> simp [lastD]) (by cases k <;> simp [restP]), cutQ_0]
theorem fitU_00 (m : Int) (s : Bool) (e : Int) : fitU m s 0 e false = (false, 0, max (-6176) (min (e + fitKU 0 e) 6111), true) := by
  rw [fitU, cutQ_00, (fit2_low (by decide) 0).1, (fit2_low (m := m) (neg := s) (by decide) _).2, fitE, if_pos rfl]
theorem fitU_sign (m : Int) (s s' : Bool) (e : Int) : fitU m s 0 e false = fitU m s' 0 e false := by rw [fitU_00, fitU_00]

theorem addT_comm (s1 : Bool) (A : Nat) (e1 : Int) (s2 : Bool) (B : Nat) (e2 : Int) : addT s1 A e1 s2 B e2 = addT s2 B e2 s1 A e1 := by
  unfold addT sumT
  rw [Int.min_comm e2 e1]
  generalize A * 10 ^ (e1 - min e1 e2).toNat = X
  generalize B * 10 ^ (e2 - min e1 e2).toNat = Y
  by_cases h : s1 = s2
  · subst h
    rw [if_pos rfl, if_pos rfl, Nat.add_comm]
  · have h' : ¬ s2 = s1 := fun k => h k.symm
    rw [if_neg h, if_neg h']
    rcases Nat.lt_trichotomy X Y with k | k | k
    · rw [if_neg (show ¬ Y ≤ X by omega), if_pos (show X ≤ Y by omega)]
    · subst k
      rw [if_pos (Nat.le_refl _), if_pos (Nat.le_refl _), Nat.sub_self]
      exact fitU_sign _ _ _ _
    · rw [if_pos (show Y ≤ X by omega), if_neg (show ¬ X ≤ Y by omega)]

/-- What a number is, as a multiple of 10 to the low, and whether a little is missing. -/
def atN (A : Nat) (e low : Int) : Nat := A * 10 ^ (e - low).toNat / 10 ^ (low - e).toNat
def atM (A : Nat) (e low : Int) : Bool := decide (A % 10 ^ (low - e).toNat ≠ 0)
theorem at_up {A : Nat} {e low : Int} (h : low ≤ e) : atN A e low = A * 10 ^ (e - low).toNat ∧ atM A e low = false := by
  unfold atN atM
  rw [show (low - e).toNat = 0 by omega]
  simp [Nat.mod_one]
theorem at_down {A : Nat} {e low : Int} (h : e ≤ low) : atN A e low = A / 10 ^ (low - e).toNat := by
  unfold atN
  rw [show (e - low).toNat = 0 by omega]
  simp
theorem at_0 (e low : Int) : atN 0 e low = 0 ∧ atM 0 e low = false := by
  unfold atN atM
  simp

/-- The exponent at which two numbers are added: the first one stands not lower than the second. -/
structure AddPre (A B : Nat) (e1 e2 low : Int) : Prop where
  ha : A < E34
  hb : B < E34
  hi : B = 0 ∨ (A ≠ 0 ∧ e2 + nd B ≤ e1 + nd A)
  z : A = 0 → low = min e1 e2
  nz : A ≠ 0 → low = max (min e1 e2) (e1 + nd A - 70)
theorem AddPre.le {A B : Nat} {e1 e2 low : Int} (p : AddPre A B e1 e2 low) : low ≤ e1 := by
  have := nd_le 34 A p.ha
  by_cases h : A = 0
  · have := p.z h
    omega
  · have := p.nz h
    omega
theorem AddPre.fst {A B : Nat} {e1 e2 low : Int} (p : AddPre A B e1 e2 low) : atN A e1 low < 10 ^ 70 ∧ atM A e1 low = false ∧ (A ≠ 0 → e1 - low ≤ 70 - nd A) := by
  have hle := p.le
  have hn : A ≠ 0 → e1 - low ≤ 70 - nd A := fun h => by
    have := p.nz h
    omega
  refine ⟨?_, (at_up hle).2, hn⟩
  rw [(at_up hle).1]
  by_cases h : A = 0
  · rw [h, Nat.zero_mul]
    exact Nat.pow_pos (by decide)
  · have h1 := Nat.mul_lt_mul_of_pos_right (lt_nd A) (show 0 < 10 ^ (e1 - low).toNat from Nat.pow_pos (by decide))
    rw [← Nat.pow_add] at h1
    have := hn h
    have := nd_le 34 A p.ha
    exact Nat.lt_of_lt_of_le h1 (Nat.pow_le_pow_right (by decide) (by omega))
theorem AddPre.snd {A B : Nat} {e1 e2 low : Int} (p : AddPre A B e1 e2 low) : atN B e2 low < 10 ^ 70 ∧ (B ≠ 0 → e2 - low ≤ 70 - nd B) := by
  have hn : B ≠ 0 → e2 - low ≤ 70 - nd B := fun h => by
    have h1 := p.hi.resolve_left h
    have := p.nz h1.1
    omega
  refine ⟨?_, hn⟩
  by_cases h : B = 0
  · rw [h, (at_0 e2 low).1]
    exact Nat.pow_pos (by decide)
  · rcases Int.le_total low e2 with k | k
    · rw [(at_up k).1]
      have h1 := Nat.mul_lt_mul_of_pos_right (lt_nd B) (show 0 < 10 ^ (e2 - low).toNat from Nat.pow_pos (by decide))
      rw [← Nat.pow_add] at h1
      have := hn h
      have := nd_le 34 B p.hb
      exact Nat.lt_of_lt_of_le h1 (Nat.pow_le_pow_right (by decide) (by omega))
    · rw [at_down k]
      exact Nat.lt_of_le_of_lt (Nat.div_le_self _ _) (Nat.lt_of_lt_of_le p.hb (by decide))
theorem AddPre.two {A B : Nat} {e1 e2 low : Int} (p : AddPre A B e1 e2 low) : (low = min e1 e2 ∧ atM B e2 low = false) ∨ (A ≠ 0 ∧ e2 < low ∧ min e1 e2 = e2 ∧ nd (atN A e1 low) = 70) := by
  have hle := p.le
  by_cases h : A = 0
  · have := p.z h
    exact .inl ⟨this, (at_up (by omega)).2⟩
  · have := p.nz h
    rcases Int.lt_or_le (min e1 e2) (e1 + nd A - 70) with k | k
    · refine .inr ⟨h, by omega, by omega, ?_⟩
      rw [(at_up hle).1, nd_up10 (Nat.pos_of_ne_zero h)]
      have := nd_le 34 A p.ha
      omega
    · exact .inl ⟨by omega, (at_up (by omega)).2⟩
theorem pow_cut {A : Nat} {e1 low e2 : Int} (h1 : low ≤ e1) (h2 : e2 ≤ low) : A * 10 ^ (e1 - e2).toNat = A * 10 ^ (e1 - low).toNat * 10 ^ (low - e2).toNat := by
  rw [Nat.mul_assoc, ← Nat.pow_add]
  congr 2
  omega
theorem add_law {A B : Nat} {e1 e2 low : Int} (p : AddPre A B e1 e2 low) (s1 s2 : Bool) :
    ((s1 = s2 ∨ (atN B e2 low = 0 ∧ atM B e2 low = false)) → fitT 1 s1 (atN A e1 low + atN B e2 low) low (atM B e2 low) = addT s1 A e1 s2 B e2) ∧
    (s1 ≠ s2 → atM B e2 low = false → atN B e2 low ≤ atN A e1 low → fitT 1 s1 (atN A e1 low - atN B e2 low) low false = addT s1 A e1 s2 B e2) ∧
    (s1 ≠ s2 → atN A e1 low < atN B e2 low → atM B e2 low = false ∧ fitT 1 s2 (atN B e2 low - atN A e1 low) low false = addT s1 A e1 s2 B e2) ∧
    (s1 ≠ s2 → atM B e2 low = true → 1 ≤ atN A e1 low - atN B e2 low ∧ fitT 1 s1 (atN A e1 low - atN B e2 low - 1) low true = addT s1 A e1 s2 B e2) := by
  have hle := p.le
  obtain ⟨f1, f2, f3⟩ := p.fst
  obtain ⟨g1, g2⟩ := p.snd
  have nd78 : ∀ n, n < 10 ^ 70 + 10 ^ 70 → nd n ≤ 78 := fun n h => nd_le 78 n (Nat.lt_of_lt_of_le h (by decide))
  rcases p.two with ⟨k1, k2⟩ | ⟨k0, k1, k2, k3⟩
  · have hX : atN A e1 low = A * 10 ^ (e1 - min e1 e2).toNat := by rw [(at_up hle).1, k1]
    have hY : atN B e2 low = B * 10 ^ (e2 - min e1 e2).toNat := by rw [(at_up (by omega)).1, k1]
    rw [hX] at f1 ⊢
    rw [hY] at g1 ⊢
    rw [k2, k1]
    unfold addT sumT
    generalize A * 10 ^ (e1 - min e1 e2).toNat = X at *
    generalize B * 10 ^ (e2 - min e1 e2).toNat = Y at *
    refine ⟨fun h => ?_, fun h _ hl => ?_, fun h hl => ⟨rfl, ?_⟩, fun h hl => by cases hl⟩
    · rw [fitT_U _ _ _ _ (nd78 _ (by omega))]
      by_cases hs : s1 = s2
      · rw [if_pos hs]
      · obtain ⟨h1, _⟩ := h.resolve_left hs
        rw [if_neg hs, if_pos (by omega), h1, Nat.add_zero, Nat.sub_zero]
    · rw [if_neg h, if_pos hl, fitT_U _ _ _ _ (nd78 _ (by omega))]
    · rw [if_neg h, if_neg (by omega), fitT_U _ _ _ _ (nd78 _ (by omega))]
  · obtain ⟨j, hj⟩ : ∃ j, (low - e2).toNat = j := ⟨_, rfl⟩
    have hjl : (j : Int) = low - e2 := by omega
    have hX : A * 10 ^ (e1 - min e1 e2).toNat = atN A e1 low * 10 ^ j := by rw [k2, pow_cut hle (by omega), (at_up hle).1, hj]
    have hY : B * 10 ^ (e2 - min e1 e2).toNat = atN B e2 low * 10 ^ j + B % 10 ^ j := by rw [k2, at_down (by omega), hj, Int.sub_self]; simp [Nat.div_add_mod']
    have hM : atM B e2 low = true ↔ B % 10 ^ j ≠ 0 := by unfold atM; rw [hj]; simp
    have hr : B % 10 ^ j < 10 ^ j := Nat.mod_lt _ (Nat.pow_pos (by decide))
    have hp : 0 < 10 ^ j := Nat.pow_pos (by decide)
    have hYE : atN B e2 low < E34 := by rw [at_down (by omega)]; exact Nat.lt_of_le_of_lt (Nat.div_le_self _ _) p.hb
    have hXE : 10 ^ 69 ≤ atN A e1 low := by
      have h0 : atN A e1 low ≠ 0 := fun h => by rw [h, nd_zero] at k3; omega
      have := ge_nd h0
      rw [k3] at this
      exact this
    have h69 : E34 + E34 ≤ 10 ^ 69 := by decide
    have he : low - (j : Int) = min e1 e2 := by omega
    unfold addT sumT
    rw [hX, hY]
    generalize atN A e1 low = X at *
    generalize atN B e2 low = Y at *
    generalize atM B e2 low = M at *
    generalize B % 10 ^ j = r at *
    have n35 : ∀ n, 10 ^ 34 ≤ n → 35 ≤ nd n := fun n h => nd_gt h
    have h34 : (10 : Nat) ^ 34 = E34 := by decide
    refine ⟨fun h => ?_, fun h hm hl => ?_, fun h hl => ?_, fun h hm => ?_⟩
    · rw [fitT_U _ _ _ _ (nd78 _ (by omega)), ← fitU_more (N := X + Y) (j := j) (r := r) (e := low) (more' := false) (n35 _ (by omega)) hr (by rw [hM]; simp), he]
      by_cases hs : s1 = s2
      · rw [if_pos hs, Nat.add_mul, Nat.add_assoc]
      · obtain ⟨h1, h2⟩ := h.resolve_left hs
        have hr0 : r = 0 := Decidable.not_not.1 fun k => by rw [hM.2 k] at h2; cases h2
        rw [if_neg hs, h1, hr0, Nat.zero_mul, Nat.add_zero, Nat.add_zero, if_pos (Nat.zero_le _), Nat.sub_zero]
    · have hr0 : r = 0 := Decidable.not_not.1 fun k => by rw [hM.2 k] at hm; cases hm
      have hmul := Nat.mul_le_mul_right (10 ^ j) hl
      rw [fitT_U _ _ _ _ (nd78 _ (by omega)), ← fitU_more (N := X - Y) (j := j) (r := 0) (e := low) (more' := false) (n35 _ (by omega)) hp (by simp), he, if_neg h, hr0, Nat.add_zero, Nat.add_zero, if_pos hmul, Nat.sub_mul]
    · omega
    · have hr0 : r ≠ 0 := hM.1 hm
      have hmul := Nat.mul_le_mul_right (10 ^ j) (show Y + 1 ≤ X by omega)
      rw [Nat.add_mul, Nat.one_mul] at hmul
      refine ⟨by omega, ?_⟩
      rw [fitT_U _ _ _ _ (nd78 _ (by omega)), ← fitU_more (N := X - Y - 1) (j := j) (r := 10 ^ j - r) (e := low) (more' := false) (n35 _ (by omega)) (by omega) (by simp; omega), he, if_neg h, if_pos (by omega)]
      have e1 : (X - Y - 1) * 10 ^ j + (10 ^ j - r) = X * 10 ^ j - (Y * 10 ^ j + r) := by
        rw [Nat.sub_mul, Nat.sub_mul, Nat.one_mul]
        omega
      rw [e1]



open Go.RowKit
set_option linter.unusedVariables false
set_option linter.unusedSimpArgs false
set_option maxRecDepth 100000

theorem cmpI_lt {x y : Int} : cmpI x y < 0 ↔ x < y := by unfold cmpI; split <;> (try split) <;> constructor <;> intro <;> omega
theorem cmpI_le {x y : Int} : cmpI x y ≤ 0 ↔ x ≤ y := by unfold cmpI; split <;> (try split) <;> constructor <;> intro <;> omega
theorem cmpI_eq {x y : Int} : cmpI x y = 0 ↔ x = y := by unfold cmpI; split <;> (try split) <;> constructor <;> intro <;> omega
theorem cmpI_ge {x y : Int} : 0 ≤ cmpI x y ↔ y ≤ x := by unfold cmpI; split <;> (try split) <;> constructor <;> intro <;> omega
theorem cmpI_gt {x y : Int} : 0 < cmpI x y ↔ y < x := by unfold cmpI; split <;> (try split) <;> constructor <;> intro <;> omega
theorem cmpI_swap (x y : Int) : cmpI y x = -cmpI x y := by
  unfold cmpI
  by_cases h1 : x < y
  · rw [if_pos h1, if_neg (by omega), if_neg (by omega)]; rfl
  · rw [if_neg h1]
    by_cases h2 : x = y
    · rw [if_pos h2, if_neg (by omega), if_pos h2.symm]; rfl
    · rw [if_neg h2, if_pos (by omega)]
theorem cmpI_neg (x y : Int) : cmpI (-x) (-y) = -cmpI x y := by
  rw [← cmpI_swap]
  unfold cmpI
  by_cases h1 : y < x
  · rw [if_pos (by omega), if_pos h1]
  · rw [if_neg (by omega), if_neg h1]
    by_cases h2 : x = y
    · rw [if_pos (by omega), if_pos h2.symm]
    · rw [if_neg (by omega), if_neg (by omega)]
theorem cmpI_mul {x y : Int} {p : Nat} (hp : 0 < p) : cmpI (x * (p : Int)) (y * (p : Int)) = cmpI x y := by
  have hp' : (0 : Int) < p := by omega
  unfold cmpI
  by_cases h1 : x < y
  · rw [if_pos (Int.mul_lt_mul_of_pos_right h1 hp'), if_pos h1]
  · have h3 : y * (p : Int) ≤ x * (p : Int) := Int.mul_le_mul_of_nonneg_right (by omega) (by omega)
    rw [if_neg (by omega), if_neg h1]
    by_cases h2 : x = y
    · rw [if_pos (by rw [h2]), if_pos h2]
    · have h4 := Int.mul_lt_mul_of_pos_right (show y < x by omega) hp'
      rw [if_neg (by omega), if_neg h2]
theorem sgnV_mul (s : Bool) (n p : Nat) : sgnV s (n * p) = sgnV s n * (p : Int) := by
  unfold sgnV
  split
  · rw [Int.natCast_mul, Int.neg_mul]
  · exact Int.natCast_mul _ _
theorem V_low {s : Bool} {A : Nat} {e E E' : Int} (h1 : E' ≤ E) (h2 : E ≤ e) : V s A e E' = V s A e E * ((10 ^ (E - E').toNat : Nat) : Int) := by
  unfold V
  rw [pow_cut h2 h1, sgnV_mul]
theorem V_shift {s : Bool} {A j : Nat} {e E : Int} (h : E ≤ e) : V s (A * 10 ^ j) e E = V s A (e + j) E := by
  unfold V
  rw [Nat.mul_assoc, ← Nat.pow_add, show (e + (j : Int) - E).toNat = j + (e - E).toNat by omega]
theorem V_0 (s : Bool) (e E : Int) : V s 0 e E = 0 := by
  unfold V
  rw [Nat.zero_mul, sgnV_0]
theorem cmpZ_any {s1 s2 : Bool} {A B : Nat} {e1 e2 E : Int} (h1 : E ≤ e1) (h2 : E ≤ e2) : cmpZ s1 A e1 s2 B e2 = cmpI (V s1 A e1 E) (V s2 B e2 E) := by
  rw [cmpZ, V_low (show E ≤ min e1 e2 by omega) (by omega), V_low (show E ≤ min e1 e2 by omega) (by omega)]
  exact (cmpI_mul (Nat.pow_pos (by decide))).symm
theorem cmpZ_swap (s1 s2 : Bool) (A B : Nat) (e1 e2 : Int) : cmpZ s2 B e2 s1 A e1 = -cmpZ s1 A e1 s2 B e2 := by
  rw [cmpZ_any (E := min e1 e2) (by omega) (by omega), cmpZ, cmpI_swap]

/-- A number's sign. -/
def sgnT (s : Bool) (A : Nat) : Int := if A = 0 then 0 else if s = true then -1 else 1
theorem sgnV_pos (s : Bool) {A p : Nat} (hA : A ≠ 0) (hp : 0 < p) : if s = true then sgnV s (A * p) < 0 else 0 < sgnV s (A * p) := by
  have := Nat.mul_pos (Nat.pos_of_ne_zero hA) hp
  generalize A * p = X at *
  cases s
  · show 0 < (X : Int)
    omega
  · show -(X : Int) < 0
    omega
theorem cmp_sign {s1 s2 : Bool} {A B : Nat} {e1 e2 : Int} (h : sgnT s1 A ≠ sgnT s2 B ∨ A = 0) : cmpI (sgnT s1 A) (sgnT s2 B) = cmpZ s1 A e1 s2 B e2 := by
  have p1 := sgnV_pos s1 (A := A) (p := 10 ^ (e1 - min e1 e2).toNat)
  have p2 := sgnV_pos s2 (A := B) (p := 10 ^ (e2 - min e1 e2).toNat)
  have q1 : 0 < 10 ^ (e1 - min e1 e2).toNat := Nat.pow_pos (by decide)
  have q2 : 0 < 10 ^ (e2 - min e1 e2).toNat := Nat.pow_pos (by decide)
  unfold cmpZ V
  by_cases hA : A = 0
  · subst hA
    rw [Nat.zero_mul, sgnV_0]
    by_cases hB : B = 0
    · subst hB
      rw [Nat.zero_mul, sgnV_0]
      rfl
    · have p2 := p2 hB q2
      generalize sgnV s2 (B * 10 ^ (e2 - min e1 e2).toNat) = Y at *
      cases s2 <;> simp [sgnT, hB, cmpI] at p2 ⊢ <;> omega
  · have p1 := p1 hA q1
    by_cases hB : B = 0
    · subst hB
      rw [Nat.zero_mul, sgnV_0]
      generalize sgnV s1 (A * 10 ^ (e1 - min e1 e2).toNat) = X at *
      cases s1 <;> simp [sgnT, hA, cmpI] at p1 ⊢ <;> omega
    · have p2 := p2 hB q2
      have h := h.resolve_right hA
      generalize sgnV s1 (A * 10 ^ (e1 - min e1 e2).toNat) = X at *
      generalize sgnV s2 (B * 10 ^ (e2 - min e1 e2).toNat) = Y at *
      cases s1 <;> cases s2 <;> simp [sgnT, hA, hB, cmpI] at h p1 p2 ⊢ <;> omega
theorem cmpN_I (a b : Nat) : cmpN a b = cmpI (a : Int) (b : Int) := by
  unfold cmpN cmpI
  by_cases h1 : a < b
  · rw [if_pos h1, if_pos (show (a : Int) < (b : Int) by omega)]
  · rw [if_neg h1, if_neg (show ¬ (a : Int) < (b : Int) by omega)]
    by_cases h2 : a = b
    · rw [if_pos h2, if_pos (show (a : Int) = (b : Int) by omega)]
    · rw [if_neg h2, if_neg (show ¬ (a : Int) = (b : Int) by omega)]
theorem cmp_same {s : Bool} {A B : Nat} {e1 e2 : Int} : cmpZ s A e1 s B e2 = if s = true then -cmpN (A * 10 ^ (e1 - min e1 e2).toNat) (B * 10 ^ (e2 - min e1 e2).toNat) else cmpN (A * 10 ^ (e1 - min e1 e2).toNat) (B * 10 ^ (e2 - min e1 e2).toNat) := by
  unfold cmpZ V sgnV
  rw [cmpN_I]
  cases s
  · simp
  · simp [cmpI_neg]
/-- Of two numbers that are not 0 the one is less whose highest digit stands lower. -/
theorem cmp_size {A B : Nat} {e1 e2 : Int} (hA : A ≠ 0) (hB : B ≠ 0) (h : e1 + nd A ≠ e2 + nd B) : cmpN (A * 10 ^ (e1 - min e1 e2).toNat) (B * 10 ^ (e2 - min e1 e2).toNat) = cmpI (e1 + nd A) (e2 + nd B) := by
  have key : ∀ {A B : Nat} {x y : Nat}, A ≠ 0 → B ≠ 0 → nd A + x < nd B + y → A * 10 ^ x < B * 10 ^ y := by
    intro A B x y hA hB h
    have h1 := Nat.mul_lt_mul_of_pos_right (lt_nd A) (show 0 < 10 ^ x from Nat.pow_pos (by decide))
    have h2 := Nat.mul_le_mul_right (10 ^ y) (ge_nd hB)
    rw [← Nat.pow_add] at h1 h2
    have h3 := nd_one_le hB
    exact Nat.lt_of_lt_of_le h1 (Nat.le_trans (Nat.pow_le_pow_right (by decide) (by omega)) h2)
  rw [cmpN_I]
  rcases Int.lt_or_lt_of_ne h with k | k
  · have := key (x := (e1 - min e1 e2).toNat) (y := (e2 - min e1 e2).toNat) hA hB (by omega)
    unfold cmpI
    rw [if_pos (by omega), if_pos k]
  · have := key (x := (e2 - min e1 e2).toNat) (y := (e1 - min e1 e2).toNat) hB hA (by omega)
    unfold cmpI
    rw [if_neg (by omega), if_neg (by omega), if_neg (by omega), if_neg (by omega)]
/-- The order, off the difference. -/
theorem cmp_ref {s1 s2 s2' : Bool} {A B : Nat} {e1 e2 : Int} (h : s2' = (!s2 && decide (B ≠ 0))) : (if (sumT s1 A e1 s2' B e2).2.1 = 0 then 0 else if (sumT s1 A e1 s2' B e2).1 = true then -1 else 1) = cmpZ s1 A e1 s2 B e2 := by
  subst h
  have hY0 : B = 0 ∨ 0 < B * 10 ^ (e2 - min e1 e2).toNat := by
    rcases Nat.eq_zero_or_pos B with k | k
    · exact .inl k
    · exact .inr (Nat.mul_pos k (Nat.pow_pos (by decide)))
  have hY1 : B = 0 → B * 10 ^ (e2 - min e1 e2).toNat = 0 := fun h => by rw [h, Nat.zero_mul]
  unfold sumT cmpZ V sgnV cmpI
  generalize A * 10 ^ (e1 - min e1 e2).toNat = X at *
  generalize B * 10 ^ (e2 - min e1 e2).toNat = Y at *
  by_cases hB : B = 0
  · have := hY1 hB
    subst this
    cases s1 <;> cases s2 <;> simp [hB] <;> (repeat' split) <;> omega
  · have := hY0.resolve_left hB
    by_cases hYX : Y ≤ X
    · cases s1 <;> cases s2 <;> simp [hB, hYX] <;> (repeat' split) <;> omega
    · cases s1 <;> cases s2 <;> simp [hB, hYX] <;> (repeat' split) <;> omega

/-- What rounding yields stands next to what is rounded. -/
theorem cut_two (m : Int) (s : Bool) (N k : Nat) (more : Bool) : cutQ m s N more k = N / 10 ^ k ∨ (cutQ m s N more k = N / 10 ^ k + 1 ∧ (N % 10 ^ k ≠ 0 ∨ more = true)) := by
  unfold cutQ
  cases hu : upB m s N more k with
  | false => exact .inl rfl
  | true =>
    refine .inr ⟨rfl, ?_⟩
    have h := upB_iff.1 hu
    by_cases h0 : lastD N k = 0 ∧ ¬ restP more N k
    · rw [h0.1, show (@decide (restP more N k) (Classical.propDecidable _)) = false by simp [h0.2]] at h
      exact absurd h UpP_none
    · have : restP more N (k + 1) := restP_succ.2 (Classical.byContradiction fun c => h0 ⟨Decidable.not_not.1 fun d => c (.inr d), fun d => c (.inl d)⟩)
      exact Or.symm this
theorem fit2_val {m : Int} {s : Bool} {c : Nat} {e E : Int} (hc : c ≤ E34) (h : E ≤ e) : V s (fit2N m s c) (fit2E c e) E = V s c e E ∧ e ≤ fit2E c e ∧ (fit2N m s c = 0 ↔ c = 0) := by
  by_cases hE : E34 ≤ c
  · have hcE : c = E34 := by omega
    subst hcE
    have hq : cutQ m s E34 false 1 = E34 / 10 ^ 1 := by
      rcases cut_two m s E34 1 false with h1 | ⟨h1, h2⟩
      · exact h1
      · rcases h2 with h2 | h2
        · exact absurd (by decide) h2
        · cases h2
    have hv : E34 = E34 / 10 ^ 1 * 10 ^ 1 := by decide
    have h1 : fit2N m s E34 = E34 / 10 ^ 1 := by rw [fit2N, if_pos (Nat.le_refl _), hq]
    have h2 : fit2E E34 e = e + ((1 : Nat) : Int) := by rw [fit2E, if_pos (Nat.le_refl _)]; rfl
    refine ⟨?_, by omega, ?_⟩
    · rw [h1, h2, ← V_shift h, ← hv]
    · rw [h1]
      exact ⟨fun h => absurd h (by decide), fun h => absurd h (by decide)⟩
  · have h1 : fit2N m s c = c := by rw [fit2N, if_neg hE]
    have h2 : fit2E c e = e := by rw [fit2E, if_neg hE]
    rw [h1, h2]
    exact ⟨rfl, Int.le_refl _, Iff.rfl⟩
theorem fitE_val {s : Bool} {n : Nat} {e E : Int} {g : Bool} {k : Nat} {x : Int} (h : fitE s n e = (g, k, x, true)) (he : -6176 ≤ e) (h1 : E ≤ e) (h2 : E ≤ x) : V g k x E = V s n e E := by
  unfold fitE at h
  split at h
  · rename_i h0
    obtain ⟨rfl, rfl, rfl, _⟩ : false = g ∧ 0 = k ∧ max (-6176) (min e 6111) = x ∧ true = true := by simpa using h
    rw [h0, V_0, V_0]
  · split at h
    · simp at h
    · obtain ⟨rfl, rfl, rfl, _⟩ : s = g ∧ n * 10 ^ fitD n e = k ∧ max (e - fitD n e) (-6176) = x ∧ true = true := by simpa using h
      have hd : -6176 ≤ e - fitD n e := by unfold fitD; omega
      rw [show max (e - fitD n e) (-6176) = e - fitD n e by omega] at h2 ⊢
      rw [V_shift h2, show e - (fitD n e : Int) + (fitD n e : Int) = e by omega]
theorem fitU_grid (N : Nat) (e : Int) : -6176 ≤ e + fitKU N e ∧ nd N ≤ fitKU N e + 34 := by
  unfold fitKU
  omega
/-- A number that is fitted is what was cut. -/
theorem fit_val {m : Int} {s : Bool} {N : Nat} {e E : Int} {more : Bool} {g : Bool} {k : Nat} {x : Int} (h : fitU m s N e more = (g, k, x, true)) (h1 : E ≤ x) (h2 : E ≤ e + fitKU N e) : V g k x E = V s (cutQ m s N more (fitKU N e)) (e + fitKU N e) E := by
  obtain ⟨k1, k2⟩ := fitU_grid N e
  have hc : cutQ m s N more (fitKU N e) ≤ E34 := cutQ_E34 k2
  obtain ⟨v1, v2, _⟩ := fit2_val (m := m) (s := s) (e := e + fitKU N e) (E := E) hc h2
  rw [← v1]
  exact fitE_val h (by omega) (by omega) h1

theorem grid_div {k : Nat} {e E : Int} (h : E ≤ e) : 10 ^ (e + k - E).toNat = 10 ^ k * 10 ^ (e - E).toNat := by
  rw [← Nat.pow_add]
  congr 1
  omega
/-- A number that may be one, and is not above another, is not above that one rounded down. -/
theorem round_lo {A N : Nat} {ea e E : Int} (hA : A < E34) (h1 : -6176 ≤ ea) (hE1 : E ≤ ea) (hE2 : E ≤ e) (h : A * 10 ^ (ea - E).toNat ≤ N * 10 ^ (e - E).toNat) :
    A * 10 ^ (ea - E).toNat ≤ N / 10 ^ fitKU N e * 10 ^ (e + fitKU N e - E).toNat := by
  obtain ⟨k, hk⟩ : ∃ k, k = fitKU N e := ⟨_, rfl⟩
  have hkv := hk
  unfold fitKU at hkv
  rw [← hk, grid_div (k := k) hE2, ← Nat.mul_assoc]
  have hp : 0 < 10 ^ (e - E).toNat := Nat.pow_pos (by decide)
  by_cases hg : e + k ≤ ea
  · rw [show (ea - E).toNat = (ea - e - k).toNat + k + (e - E).toNat by omega, Nat.pow_add, ← Nat.mul_assoc] at h ⊢
    have h' := Nat.le_of_mul_le_mul_right h hp
    refine Nat.mul_le_mul_right _ ?_
    rw [Nat.pow_add, ← Nat.mul_assoc] at h' ⊢
    exact Nat.mul_le_mul_right _ ((Nat.le_div_iff_mul_le (Nat.pow_pos (by decide))).2 h')
  · by_cases hk0 : k = 0
    · subst hk0
      simpa using h
    · have hkn : k = nd N - 34 ∧ 35 ≤ nd N := by omega
      have hN0 : N ≠ 0 := fun h => by rw [h, nd_zero] at hkn; omega
      have hq : 10 ^ 33 ≤ N / 10 ^ k := (Nat.le_div_iff_mul_le (Nat.pow_pos (by decide))).2 (by rw [← Nat.pow_add]; exact Nat.le_trans (Nat.pow_le_pow_right (by decide) (by omega)) (ge_nd hN0))
      have h2 : A * 10 ^ (ea - E).toNat ≤ 10 ^ 34 * 10 ^ (ea - E).toNat := Nat.mul_le_mul_right _ (Nat.le_of_lt hA)
      have h3 : 10 ^ 33 * 10 ^ k * 10 ^ (e - E).toNat ≤ N / 10 ^ k * 10 ^ k * 10 ^ (e - E).toNat := Nat.mul_le_mul_right _ (Nat.mul_le_mul_right _ hq)
      refine Nat.le_trans h2 (Nat.le_trans ?_ h3)
      rw [← Nat.pow_add, ← Nat.pow_add, ← Nat.pow_add]
      exact Nat.pow_le_pow_right (by decide) (by omega)
/-- A number that may be one, and is above what is left of another that does not come out, is not below that one rounded up. -/
theorem round_hi {A N : Nat} {ea e E : Int} (hA : A < E34) (h1 : -6176 ≤ ea) (hE1 : E ≤ ea) (hE2 : E ≤ e) (h : N * 10 ^ (e - E).toNat ≤ A * 10 ^ (ea - E).toNat) (hr : N % 10 ^ fitKU N e ≠ 0) :
    (N / 10 ^ fitKU N e + 1) * 10 ^ (e + fitKU N e - E).toNat ≤ A * 10 ^ (ea - E).toNat := by
  obtain ⟨k, hk⟩ : ∃ k, k = fitKU N e := ⟨_, rfl⟩
  have hkv := hk
  unfold fitKU at hkv
  rw [← hk] at hr ⊢
  rw [grid_div (k := k) hE2, ← Nat.mul_assoc]
  have hp : 0 < 10 ^ (e - E).toNat := Nat.pow_pos (by decide)
  have hpk : 0 < 10 ^ k := Nat.pow_pos (by decide)
  have hdm := Nat.div_add_mod N (10 ^ k)
  have hk0 : k ≠ 0 := fun h => by rw [h] at hr; simp [Nat.mod_one] at hr
  by_cases hg : e + k ≤ ea
  · rw [show (ea - E).toNat = (ea - e - k).toNat + k + (e - E).toNat by omega, Nat.pow_add, ← Nat.mul_assoc] at h ⊢
    have h' := Nat.le_of_mul_le_mul_right h hp
    refine Nat.mul_le_mul_right _ ?_
    rw [Nat.pow_add, ← Nat.mul_assoc] at h' ⊢
    refine Nat.mul_le_mul_right _ ?_
    refine Nat.succ_le_of_lt (Nat.lt_of_mul_lt_mul_right (a := 10 ^ k) ?_)
    rw [Nat.mul_comm (N / 10 ^ k)]
    omega
  · exfalso
    have hkn : k = nd N - 34 ∧ 35 ≤ nd N := by omega
    have hN0 : N ≠ 0 := fun h => by rw [h, nd_zero] at hkn; omega
    have h2 : A * 10 ^ (ea - E).toNat < 10 ^ 34 * 10 ^ (ea - E).toNat := Nat.mul_lt_mul_of_pos_right hA (Nat.pow_pos (by decide))
    have h3 := Nat.mul_le_mul_right (10 ^ (e - E).toNat) (ge_nd hN0)
    rw [← Nat.pow_add] at h2 h3
    have h4 : 10 ^ (34 + (ea - E).toNat) ≤ 10 ^ (nd N - 1 + (e - E).toNat) := Nat.pow_le_pow_right (by decide) (by omega)
    omega



open Go.RowKit
set_option linter.unusedVariables false
set_option linter.unusedSimpArgs false
set_option maxRecDepth 100000

theorem mag_lo {A N : Nat} {ea e E m : Int} {s : Bool} (hA : A < E34) (h1 : -6176 ≤ ea) (hE1 : E ≤ ea) (hE2 : E ≤ e) (h : A * 10 ^ (ea - E).toNat ≤ N * 10 ^ (e - E).toNat) :
    A * 10 ^ (ea - E).toNat ≤ cutQ m s N false (fitKU N e) * 10 ^ (e + fitKU N e - E).toNat := by
  refine Nat.le_trans (round_lo hA h1 hE1 hE2 h) (Nat.mul_le_mul_right _ ?_)
  rcases cut_two m s N (fitKU N e) false with h2 | ⟨h2, _⟩ <;> omega
theorem mag_hi {A N : Nat} {ea e E m : Int} {s : Bool} (hA : A < E34) (h1 : -6176 ≤ ea) (hE1 : E ≤ ea) (hE2 : E ≤ e) (h : N * 10 ^ (e - E).toNat ≤ A * 10 ^ (ea - E).toNat) :
    cutQ m s N false (fitKU N e) * 10 ^ (e + fitKU N e - E).toNat ≤ A * 10 ^ (ea - E).toNat := by
  rcases cut_two m s N (fitKU N e) false with h2 | ⟨h2, h3⟩
  · rw [h2, grid_div (k := fitKU N e) hE2, ← Nat.mul_assoc]
    exact Nat.le_trans (Nat.mul_le_mul_right _ (Nat.div_mul_le_self _ _)) h
  · rw [h2]
    exact round_hi hA h1 hE1 hE2 h (by
      rcases h3 with h3 | h3
      · exact h3
      · cases h3)
theorem round_ge {A N : Nat} {ea e E m : Int} {s t : Bool} (hA : A < E34) (h1 : -6176 ≤ ea) (hE1 : E ≤ ea) (hE2 : E ≤ e) (h : V s A ea E ≤ V t N e E) : V s A ea E ≤ V t (cutQ m t N false (fitKU N e)) (e + fitKU N e) E := by
  unfold V sgnV at *
  cases s <;> cases t
  · simp only [Bool.false_eq_true, if_false] at *
    have := mag_lo (m := m) (s := false) hA h1 hE1 hE2 (show A * 10 ^ (ea - E).toNat ≤ N * 10 ^ (e - E).toNat by omega)
    omega
  · simp only [Bool.false_eq_true, if_false, if_true] at *
    have := mag_hi (m := m) (s := true) hA h1 hE1 hE2 (show N * 10 ^ (e - E).toNat ≤ A * 10 ^ (ea - E).toNat by omega)
    omega
  · simp only [Bool.false_eq_true, if_false, if_true] at *
    omega
  · simp only [if_true] at *
    have := mag_hi (m := m) (s := true) hA h1 hE1 hE2 (show N * 10 ^ (e - E).toNat ≤ A * 10 ^ (ea - E).toNat by omega)
    omega
theorem V_neg (s : Bool) (A : Nat) (e E : Int) : V (!s) A e E = -V s A e E := by
  unfold V sgnV
  cases s <;> simp
theorem round_le {A N : Nat} {ea e E m : Int} {s t : Bool} (hA : A < E34) (h1 : -6176 ≤ ea) (hE1 : E ≤ ea) (hE2 : E ≤ e) (h : V t N e E ≤ V s A ea E) : V t (cutQ m t N false (fitKU N e)) (e + fitKU N e) E ≤ V s A ea E := by
  unfold V sgnV at *
  cases s <;> cases t
  · simp only [Bool.false_eq_true, if_false] at *
    have := mag_hi (m := m) (s := false) hA h1 hE1 hE2 (show N * 10 ^ (e - E).toNat ≤ A * 10 ^ (ea - E).toNat by omega)
    omega
  · simp only [Bool.false_eq_true, if_false, if_true] at *
    omega
  · simp only [Bool.false_eq_true, if_false, if_true] at *
    have := mag_hi (m := m) (s := false) hA h1 hE1 hE2 (show N * 10 ^ (e - E).toNat ≤ A * 10 ^ (ea - E).toNat by omega)
    omega
  · simp only [if_true] at *
    have := mag_lo (m := m) (s := true) hA h1 hE1 hE2 (show A * 10 ^ (ea - E).toNat ≤ N * 10 ^ (e - E).toNat by omega)
    omega

/-- What the sum is. -/
theorem sum_val (s1 : Bool) (A : Nat) (e1 : Int) (s2 : Bool) (B : Nat) (e2 : Int) : (sumT s1 A e1 s2 B e2).2.2 = min e1 e2 ∧ sgnV (sumT s1 A e1 s2 B e2).1 (sumT s1 A e1 s2 B e2).2.1 = V s1 A e1 (min e1 e2) + V s2 B e2 (min e1 e2) := by
  unfold sumT V
  generalize A * 10 ^ (e1 - min e1 e2).toNat = X
  generalize B * 10 ^ (e2 - min e1 e2).toNat = Y
  by_cases h : s1 = s2
  · subst h
    rw [if_pos rfl]
    refine ⟨rfl, ?_⟩
    unfold sgnV
    cases s1 <;> simp <;> omega
  · rw [if_neg h]
    split
    · refine ⟨rfl, ?_⟩
      unfold sgnV
      cases s1 <;> cases s2 <;> simp at h ⊢ <;> omega
    · refine ⟨rfl, ?_⟩
      unfold sgnV
      cases s1 <;> cases s2 <;> simp at h ⊢ <;> omega
theorem V_own (s : Bool) (N : Nat) (e : Int) : V s N e e = sgnV s N := by
  unfold V
  simp
/-- A sum with something that is not below 0 is not below. -/
theorem add_ge {s1 : Bool} {A B : Nat} {e1 e2 : Int} {g : Bool} {k : Nat} {x : Int} (hA : A < E34) (h1 : -6176 ≤ e1) (h : addT s1 A e1 false B e2 = (g, k, x, true)) : 0 ≤ cmpZ g k x s1 A e1 := by
  obtain ⟨v1, v2⟩ := sum_val s1 A e1 false B e2
  unfold addT at h
  generalize (sumT s1 A e1 false B e2).1 = t at *
  generalize (sumT s1 A e1 false B e2).2.1 = N at *
  generalize (sumT s1 A e1 false B e2).2.2 = e at *
  obtain ⟨E, hE⟩ : ∃ E, E = min (min x e1) e := ⟨_, rfl⟩
  rw [cmpZ_any (E := E) (by omega) (by omega), cmpI_ge, fit_val (E := E) h (by omega) (by omega)]
  refine round_ge hA h1 (by omega) (by omega) ?_
  rw [V_low (show E ≤ e by omega) (show e ≤ e1 by omega), V_low (show E ≤ e by omega) (Int.le_refl e), V_own]
  refine Int.mul_le_mul_of_nonneg_right ?_ (Int.natCast_nonneg _)
  rw [v2, ← v1]
  have : 0 ≤ V false B e2 e := by
    unfold V sgnV
    rw [if_neg (by simp)]
    exact Int.natCast_nonneg _
  omega

theorem up_floor {s : Bool} {N k : Nat} {more : Bool} : upB 6 s N more k = true ↔ s = true ∧ (N % 10 ^ k ≠ 0 ∨ more = true) := by
  have hr : more = true ∨ N % 10 ^ k ≠ 0 ↔ restP more N k ∨ lastD N k ≠ 0 := restP_succ (more := more) (N := N) (k := k)
  have h0 : (0 < ((lastD N k : Nat) : Int) ∨ (@decide (restP more N k) (Classical.propDecidable _)) = true) ↔ restP more N k ∨ lastD N k ≠ 0 := by
    have hd : (@decide (restP more N k) (Classical.propDecidable _)) = true ↔ restP more N k := by simp
    rw [hd, or_comm]
    constructor
    · rintro (h | h)
      · exact .inl h
      · exact .inr (by omega)
    · rintro (h | h)
      · exact .inl h
      · exact .inr (by omega)
  rw [upB_iff, or_comm (a := N % 10 ^ k ≠ 0), hr, ← h0]
  unfold UpP
  simp
theorem up_ceil {s : Bool} {N k : Nat} {more : Bool} : upB 7 s N more k = true ↔ s = false ∧ (N % 10 ^ k ≠ 0 ∨ more = true) := by
  have hr : more = true ∨ N % 10 ^ k ≠ 0 ↔ restP more N k ∨ lastD N k ≠ 0 := restP_succ (more := more) (N := N) (k := k)
  have h0 : (0 < ((lastD N k : Nat) : Int) ∨ (@decide (restP more N k) (Classical.propDecidable _)) = true) ↔ restP more N k ∨ lastD N k ≠ 0 := by
    have hd : (@decide (restP more N k) (Classical.propDecidable _)) = true ↔ restP more N k := by simp
    rw [hd, or_comm]
    constructor
    · rintro (h | h)
      · exact .inl h
      · exact .inr (by omega)
    · rintro (h | h)
      · exact .inl h
      · exact .inr (by omega)
  rw [upB_iff, or_comm (a := N % 10 ^ k ≠ 0), hr, ← h0]
  unfold UpP
  simp
/-- By each mode what is cut is what the floor or the ceiling is. -/
theorem cut_modes (m : Int) (s : Bool) (N k : Nat) (more : Bool) : (cutQ m s N more k = cutQ 6 s N more k ∨ cutQ m s N more k = cutQ 7 s N more k) ∧ sgnV s (cutQ 6 s N more k) ≤ sgnV s (cutQ 7 s N more k) := by
  have h6 : cutQ 6 s N more k = N / 10 ^ k + (upB 6 s N more k).toNat := rfl
  have h7 : cutQ 7 s N more k = N / 10 ^ k + (upB 7 s N more k).toNat := rfl
  rw [h6, h7]
  by_cases hx : N % 10 ^ k ≠ 0 ∨ more = true
  · cases s
    · have e6 : upB 6 false N more k = false := by rw [← Bool.not_eq_true, up_floor]; simp
      have e7 : upB 7 false N more k = true := up_ceil.2 ⟨rfl, hx⟩
      rw [e6, e7]
      refine ⟨?_, by unfold sgnV; simp; omega⟩
      rcases cut_two m false N k more with h | ⟨h, _⟩
      · exact .inl h
      · exact .inr h
    · have e6 : upB 6 true N more k = true := up_floor.2 ⟨rfl, hx⟩
      have e7 : upB 7 true N more k = false := by rw [← Bool.not_eq_true, up_ceil]; simp
      rw [e6, e7]
      refine ⟨?_, by unfold sgnV; simp; omega⟩
      rcases cut_two m true N k more with h | ⟨h, _⟩
      · exact .inr h
      · exact .inl h
  · have e6 : upB 6 s N more k = false := by rw [← Bool.not_eq_true, up_floor]; exact fun h => hx h.2
    have e7 : upB 7 s N more k = false := by rw [← Bool.not_eq_true, up_ceil]; exact fun h => hx h.2
    rw [e6, e7]
    refine ⟨?_, Int.le_refl _⟩
    rcases cut_two m s N k more with h | ⟨_, h⟩
    · exact .inl h
    · exact absurd h hx
theorem V_mono {s : Bool} {A B : Nat} {e E : Int} (h : sgnV s A ≤ sgnV s B) : V s A e E ≤ V s B e E := by
  unfold V
  rw [sgnV_mul, sgnV_mul]
  exact Int.mul_le_mul_of_nonneg_right h (Int.natCast_nonneg _)
/-- What is fitted stands between floor and ceiling, and is one of both. -/
theorem fit_modes {m : Int} {s : Bool} {N : Nat} {e : Int} {more : Bool} {g1 g2 g3 : Bool} {k1 k2 k3 : Nat} {x1 x2 x3 : Int}
    (h1 : fitU 6 s N e more = (g1, k1, x1, true)) (h2 : fitU 7 s N e more = (g2, k2, x2, true)) (h3 : fitU m s N e more = (g3, k3, x3, true)) :
    cmpZ g1 k1 x1 g2 k2 x2 ≤ 0 ∧ (cmpZ g3 k3 x3 g1 k1 x1 = 0 ∨ cmpZ g3 k3 x3 g2 k2 x2 = 0) := by
  obtain ⟨E, hE⟩ : ∃ E, E = min (min x1 x2) (min x3 (e + fitKU N e)) := ⟨_, rfl⟩
  rw [cmpZ_any (E := E) (by omega) (by omega), cmpZ_any (E := E) (by omega) (by omega), cmpZ_any (E := E) (by omega) (by omega),
    fit_val (E := E) h1 (by omega) (by omega), fit_val (E := E) h2 (by omega) (by omega), fit_val (E := E) h3 (by omega) (by omega)]
  obtain ⟨q1, q2⟩ := cut_modes m s N (fitKU N e) more
  refine ⟨cmpI_le.2 (V_mono q2), ?_⟩
  rcases q1 with q | q
  · exact .inl (by rw [q]; exact cmpI_eq.2 rfl)
  · exact .inr (by rw [q]; exact cmpI_eq.2 rfl)

end Go.Proofs.YtbabmopplnbmdaaGreatDoor
