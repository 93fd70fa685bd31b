/-
  The reference's rounding: casuistref02. The reference's rounding: Cut, Fit, Mul. Sums and order of numbers, as plain data. The order of numbers, as plain data; what rounding keeps. Rounding keeps the order. dec: size, higher, Neg, at. dec.Add, Sub, Cmp.
-/
import Derived.Test.YtpambeengdhhmaaGreatDoorDecs
import Derived.Test.YtpambeengdhhmaaGreatDoorVcY
namespace Go.Proofs.YtpambeengdhhmaaGreatDoor

open Go.RowKit
set_option linter.unusedVariables false
set_option linter.unusedSimpArgs false
set_option maxRecDepth 100000

/-- What up holds the rest against: half of what is cut. -/
structure UpC (L : Nat) (R : Bool) (c : Int) : Prop where
  gt : 0 < c ↔ 5 < L ∨ (L = 5 ∧ R = true)
  eq : c = 0 ↔ L = 5 ∧ R = false
open Go.RowKit
set_option linter.unusedVariables false
set_option linter.unusedSimpArgs false
set_option maxRecDepth 100000

open Go.RowKit
set_option linter.unusedVariables false
set_option linter.unusedSimpArgs false
set_option maxRecDepth 100000

/-- A size with its sign. -/
def sgnV (s : Bool) (n : Nat) : Int := if s then -(n : Int) else n
/-- -1, 0 or 1. -/
def cmpI (x y : Int) : Int := if x < y then -1 else if x = y then 0 else 1
/-- A number as a multiple of 10 to the E. -/
def V (s : Bool) (A : Nat) (e E : Int) : Int := sgnV s (A * 10 ^ (e - E).toNat)
/-- How two numbers stand. -/
def cmpZ (s1 : Bool) (A : Nat) (e1 : Int) (s2 : Bool) (B : Nat) (e2 : Int) : Int := cmpI (V s1 A e1 (min e1 e2)) (V s2 B e2 (min e1 e2))
theorem nd_one_le {n : Nat} (h : n ≠ 0) : 1 ≤ nd n := by
  have := nd_pos h
  omega
theorem sgnV_0 (s : Bool) : sgnV s 0 = 0 := by cases s <;> rfl
/-- What a number is, as a multiple of 10 to the low, and whether a little is missing. -/
def atN (A : Nat) (e low : Int) : Nat := A * 10 ^ (e - low).toNat / 10 ^ (low - e).toNat
def atM (A : Nat) (e low : Int) : Bool := decide (A % 10 ^ (low - e).toNat ≠ 0)
theorem at_up {A : Nat} {e low : Int} (h : low ≤ e) : atN A e low = A * 10 ^ (e - low).toNat ∧ atM A e low = false := by
  unfold atN atM
  rw [show (low - e).toNat = 0 by omega]
  simp [Nat.mod_one]
/-- The exponent at which two numbers are added: the first one stands not lower than the second. -/
structure AddPre (A B : Nat) (e1 e2 low : Int) : Prop where
  ha : A < E34
  hb : B < E34
  hi : B = 0 ∨ (A ≠ 0 ∧ e2 + nd B ≤ e1 + nd A)
  z : A = 0 → low = min e1 e2
  nz : A ≠ 0 → low = max (min e1 e2) (e1 + nd A - 70)
theorem AddPre.le {A B : Nat} {e1 e2 low : Int} (p : AddPre A B e1 e2 low) : low ≤ e1 := by
  have := nd_le 34 A p.ha
  by_cases h : A = 0
  · have := p.z h
    omega
  · have := p.nz h
    omega
theorem AddPre.two {A B : Nat} {e1 e2 low : Int} (p : AddPre A B e1 e2 low) : (low = min e1 e2 ∧ atM B e2 low = false) ∨ (A ≠ 0 ∧ e2 < low ∧ min e1 e2 = e2 ∧ nd (atN A e1 low) = 70) := by
  have hle := p.le
  by_cases h : A = 0
  · have := p.z h
    exact .inl ⟨this, (at_up (by omega)).2⟩
  · have := p.nz h
    rcases Int.lt_or_le (min e1 e2) (e1 + nd A - 70) with k | k
    · refine .inr ⟨h, by omega, by omega, ?_⟩
      rw [(at_up hle).1, nd_up10 (Nat.pos_of_ne_zero h)]
      have := nd_le 34 A p.ha
      omega
    · exact .inl ⟨by omega, (at_up (by omega)).2⟩
theorem pow_cut {A : Nat} {e1 low e2 : Int} (h1 : low ≤ e1) (h2 : e2 ≤ low) : A * 10 ^ (e1 - e2).toNat = A * 10 ^ (e1 - low).toNat * 10 ^ (low - e2).toNat := by
  rw [Nat.mul_assoc, ← Nat.pow_add]
  congr 2
  omega
open Go.RowKit
set_option linter.unusedVariables false
set_option linter.unusedSimpArgs false
set_option maxRecDepth 100000

theorem cmpI_eq {x y : Int} : cmpI x y = 0 ↔ x = y := by unfold cmpI; split <;> (try split) <;> constructor <;> intro <;> omega
theorem cmpI_swap (x y : Int) : cmpI y x = -cmpI x y := by
  unfold cmpI
  by_cases h1 : x < y
  · rw [if_pos h1, if_neg (by omega), if_neg (by omega)]; rfl
  · rw [if_neg h1]
    by_cases h2 : x = y
    · rw [if_pos h2, if_neg (by omega), if_pos h2.symm]; rfl
    · rw [if_neg h2, if_pos (by omega)]
theorem cmpI_neg (x y : Int) : cmpI (-x) (-y) = -cmpI x y := by
  rw [← cmpI_swap]
  unfold cmpI
  by_cases h1 : y < x
  · rw [if_pos (by omega), if_pos h1]
  · rw [if_neg (by omega), if_neg h1]
    by_cases h2 : x = y
    · rw [if_pos (by omega), if_pos h2.symm]
    · rw [if_neg (by omega), if_neg (by omega)]
theorem cmpI_mul {x y : Int} {p : Nat} (hp : 0 < p) : cmpI (x * (p : Int)) (y * (p : Int)) = cmpI x y := by
  have hp' : (0 : Int) < p := by omega
  unfold cmpI
  by_cases h1 : x < y
  · rw [if_pos (Int.mul_lt_mul_of_pos_right h1 hp'), if_pos h1]
  · have h3 : y * (p : Int) ≤ x * (p : Int) := Int.mul_le_mul_of_nonneg_right (by omega) (by omega)
    rw [if_neg (by omega), if_neg h1]
    by_cases h2 : x = y
    · rw [if_pos (by rw [h2]), if_pos h2]
    · have h4 := Int.mul_lt_mul_of_pos_right (show y < x by omega) hp'
      rw [if_neg (by omega), if_neg h2]
theorem sgnV_mul (s : Bool) (n p : Nat) : sgnV s (n * p) = sgnV s n * (p : Int) := by
  unfold sgnV
  split
  · rw [Int.natCast_mul, Int.neg_mul]
  · exact Int.natCast_mul _ _
theorem V_low {s : Bool} {A : Nat} {e E E' : Int} (h1 : E' ≤ E) (h2 : E ≤ e) : V s A e E' = V s A e E * ((10 ^ (E - E').toNat : Nat) : Int) := by
  unfold V
  rw [pow_cut h2 h1, sgnV_mul]
theorem cmpZ_any {s1 s2 : Bool} {A B : Nat} {e1 e2 E : Int} (h1 : E ≤ e1) (h2 : E ≤ e2) : cmpZ s1 A e1 s2 B e2 = cmpI (V s1 A e1 E) (V s2 B e2 E) := by
  rw [cmpZ, V_low (show E ≤ min e1 e2 by omega) (by omega), V_low (show E ≤ min e1 e2 by omega) (by omega)]
  exact (cmpI_mul (Nat.pow_pos (by decide))).symm
theorem cmpZ_swap (s1 s2 : Bool) (A B : Nat) (e1 e2 : Int) : cmpZ s2 B e2 s1 A e1 = -cmpZ s1 A e1 s2 B e2 := by
  rw [cmpZ_any (E := min e1 e2) (by omega) (by omega), cmpZ, cmpI_swap]

/-- A number's sign. -/
def sgnT (s : Bool) (A : Nat) : Int := if A = 0 then 0 else if s = true then -1 else 1
theorem sgnV_pos (s : Bool) {A p : Nat} (hA : A ≠ 0) (hp : 0 < p) : if s = true then sgnV s (A * p) < 0 else 0 < sgnV s (A * p) := by
  have := Nat.mul_pos (Nat.pos_of_ne_zero hA) hp
  generalize A * p = X at *
  cases s
  · show 0 < (X : Int)
    omega
  · show -(X : Int) < 0
    omega
theorem cmp_sign {s1 s2 : Bool} {A B : Nat} {e1 e2 : Int} (h : sgnT s1 A ≠ sgnT s2 B ∨ A = 0) : cmpI (sgnT s1 A) (sgnT s2 B) = cmpZ s1 A e1 s2 B e2 := by
  have p1 := sgnV_pos s1 (A := A) (p := 10 ^ (e1 - min e1 e2).toNat)
  have p2 := sgnV_pos s2 (A := B) (p := 10 ^ (e2 - min e1 e2).toNat)
  have q1 : 0 < 10 ^ (e1 - min e1 e2).toNat := Nat.pow_pos (by decide)
  have q2 : 0 < 10 ^ (e2 - min e1 e2).toNat := Nat.pow_pos (by decide)
  unfold cmpZ V
  by_cases hA : A = 0
  · subst hA
    rw [Nat.zero_mul, sgnV_0]
    by_cases hB : B = 0
    · subst hB
      rw [Nat.zero_mul, sgnV_0]
      rfl
    · have p2 := p2 hB q2
      generalize sgnV s2 (B * 10 ^ (e2 - min e1 e2).toNat) = Y at *
      cases s2 <;> simp [sgnT, hB, cmpI] at p2 ⊢ <;> omega
  · have p1 := p1 hA q1
    by_cases hB : B = 0
    · subst hB
      rw [Nat.zero_mul, sgnV_0]
      generalize sgnV s1 (A * 10 ^ (e1 - min e1 e2).toNat) = X at *
      cases s1 <;> simp [sgnT, hA, cmpI] at p1 ⊢ <;> omega
    · have p2 := p2 hB q2
      have h := h.resolve_right hA
      generalize sgnV s1 (A * 10 ^ (e1 - min e1 e2).toNat) = X at *
      generalize sgnV s2 (B * 10 ^ (e2 - min e1 e2).toNat) = Y at *
      cases s1 <;> cases s2 <;> simp [sgnT, hA, hB, cmpI] at h p1 p2 ⊢ <;> omega
theorem cmpN_I (a b : Nat) : cmpN a b = cmpI (a : Int) (b : Int) := by
  unfold cmpN cmpI
  by_cases h1 : a < b
  · rw [if_pos h1, if_pos (show (a : Int) < (b : Int) by omega)]
  · rw [if_neg h1, if_neg (show ¬ (a : Int) < (b : Int) by omega)]
    by_cases h2 : a = b
    · rw [if_pos h2, if_pos (show (a : Int) = (b : Int) by omega)]
    · rw [if_neg h2, if_neg (show ¬ (a : Int) = (b : Int) by omega)]
theorem cmp_same {s : Bool} {A B : Nat} {e1 e2 : Int} : cmpZ s A e1 s B e2 = if s = true then -cmpN (A * 10 ^ (e1 - min e1 e2).toNat) (B * 10 ^ (e2 - min e1 e2).toNat) else cmpN (A * 10 ^ (e1 - min e1 e2).toNat) (B * 10 ^ (e2 - min e1 e2).toNat) := by
  unfold cmpZ V sgnV
  rw [cmpN_I]
  cases s
  · simp
  · simp [cmpI_neg]
/-- Of two numbers that are not 0 the one is less whose highest digit stands lower. -/
theorem cmp_size {A B : Nat} {e1 e2 : Int} (hA : A ≠ 0) (hB : B ≠ 0) (h : e1 + nd A ≠ e2 + nd B) : cmpN (A * 10 ^ (e1 - min e1 e2).toNat) (B * 10 ^ (e2 - min e1 e2).toNat) = cmpI (e1 + nd A) (e2 + nd B) := by
  have key : ∀ {A B : Nat} {x y : Nat}, A ≠ 0 → B ≠ 0 → nd A + x < nd B + y → A * 10 ^ x < B * 10 ^ y := by
    intro A B x y hA hB h
    have h1 := Nat.mul_lt_mul_of_pos_right (lt_nd A) (show 0 < 10 ^ x from Nat.pow_pos (by decide))
    have h2 := Nat.mul_le_mul_right (10 ^ y) (ge_nd hB)
    rw [← Nat.pow_add] at h1 h2
    have h3 := nd_one_le hB
    exact Nat.lt_of_lt_of_le h1 (Nat.le_trans (Nat.pow_le_pow_right (by decide) (by omega)) h2)
  rw [cmpN_I]
  rcases Int.lt_or_lt_of_ne h with k | k
  · have := key (x := (e1 - min e1 e2).toNat) (y := (e2 - min e1 e2).toNat) hA hB (by omega)
    unfold cmpI
    rw [if_pos (by omega), if_pos k]
  · have := key (x := (e2 - min e1 e2).toNat) (y := (e1 - min e1 e2).toNat) hB hA (by omega)
    unfold cmpI
    rw [if_neg (by omega), if_neg (by omega), if_neg (by omega), if_neg (by omega)]
open Go.RowKit
set_option linter.unusedVariables false
set_option linter.unusedSimpArgs false
set_option maxRecDepth 100000

theorem V_own (s : Bool) (N : Nat) (e : Int) : V s N e e = sgnV s N := by
  unfold V
  simp
open Go.RowKit
set_option linter.unusedVariables false
set_option linter.unusedSimpArgs false
set_option maxRecDepth 100000

theorem c_size {g : Bool} {A : Nat} {e : Int} (hA : A < B128) (h1 : -100000000000000000 ≤ e) (h2 : e ≤ 100000000000000000) : HasC Tryz.prog 123 [.agg [.v (.bool g), .v (.int .u64 (hiW (A))), .v (.int .u64 (loW (A))), .v (.int .i64 e)]] (fun y => y = .v (.int .i64 (e + (nd A : Int)))) := by
 refine HasC.of [] (fn := Tryz.f123) tyOk mixed (fun args w => Tryz.call123 args w) Tryz.func123 rfl (by kernel_rfl) (Nat.le_of_ble_eq_true rfl) (⟨_, rfl⟩) ?_
 refine vc_seqr rfl (iQ 2 (iE 10 [(1, .p 1 0), (2, Ia 0)] [(1, [Bv g, Hw A, Lw A, Iv e])] ?_))
 refine vc_seqr rfl (iQ 5 (iC 100 [.agg [Uv 0, Uv 0], .agg [Hw A, Lw A]] (some 8) (cw_Digits0 hA) ?_))
 rintro _ rfl
 have hn : nd A ≤ 39 := nd_le _ _ (Nat.lt_trans hA (by decide))
 refine iB .add 3 (.int .i64 e) (.int .i64 ((nd A : Int))) (some 9) ?_
 intro z9 hz9
 try replace hz9 := hz9.i64 (by omega)
 refine iQ 1 (iE 10 [(2, Ia z9)] [] ?_)
 refine vc_ret (iR (Iv z9) ?_)
 rw [← hz9]

theorem c_Neg {g : Bool} {A : Nat} {e : Int} (hA : A < B128) : HasC Tryz.prog 150 [.agg [.v (.bool g), .v (.int .u64 (hiW (A))), .v (.int .u64 (loW (A))), .v (.int .i64 e)]] (fun y => y = dDec (!g && decide (A ≠ 0)) A e) := by
 refine HasC.of [] (fn := Tryz.f150) tyOk mixed (fun args w => Tryz.call150 args w) Tryz.func150 rfl (by kernel_rfl) (Nat.le_of_ble_eq_true rfl) (⟨_, rfl⟩) ?_
 refine vc_seqr rfl (iQ 2 (iE 13 [(1, .p 1 0), (2, .p 2 0)] [(1, [Bv g, Hw A, Lw A, Iv e]), (2, [Bv false, Uv 0, Uv 0, Iv 0])] ?_))
 refine vc_seqr rfl (iQ 2 (iU .not (.bool g) (some 5) ?_))
 intro c5 hc5
 refine iQ 1 ?_
 cases c5
 ·replace hc5 := bf hc5
  refine iQ 6 (iE 13 [(1, .p 1 0), (2, .p 2 0)] [(1, [Bv false, Hw A, Lw A, Iv e]), (2, [Bv false, Uv 0, Uv 0, Iv 0])] ?_)
  refine vc_seqr rfl (iQ 2 (iE 13 [(1, .p 1 0), (2, .p 2 0)] [(1, [Bv false, Hw A, Lw A, Iv e]), (2, [Bv false, Hw A, Lw A, Iv e])] ?_))
  refine vc_ret (iR (.agg [Bv false, Hw A, Lw A, Iv e]) ?_)
  have hg : g = true := by simpa using hc5
  rw [hg]; rfl
 ·replace hc5 := bt hc5
  refine iQ 1 (iC 121 [.agg [Bv g, Hw A, Lw A, Iv e]] (some 8) (c_Zero hA) ?_)
  rintro _ ⟨z, rfl, hz⟩
  refine iU .not (.bool z) (some 9) ?_
  intro c9 hc9
  refine iQ 3 (iE 13 [(1, .p 1 0), (2, .p 2 0)] [(1, [Bv c9, Hw A, Lw A, Iv e]), (2, [Bv false, Uv 0, Uv 0, Iv 0])] ?_)
  refine vc_seqr rfl (iQ 2 (iE 13 [(1, .p 1 0), (2, .p 2 0)] [(1, [Bv c9, Hw A, Lw A, Iv e]), (2, [Bv c9, Hw A, Lw A, Iv e])] ?_))
  refine vc_ret (iR (.agg [Bv c9, Hw A, Lw A, Iv e]) ?_)
  have hc : (!g && decide (A ≠ 0)) = c9 := by rw [hc5, Bool.eq_iff_iff, hc9]; cases z <;> simp_all
  rw [hc]; rfl

open Go.RowKit
set_option linter.unusedVariables false
set_option linter.unusedSimpArgs false
set_option maxRecDepth 100000

theorem AddPre.low {A B : Nat} {e1 e2 low : Int} (p : AddPre A B e1 e2 low) (h1 : -10000000000000000 ≤ e1) (h2 : -10000000000000000 ≤ e2) : -10000000000000100 ≤ low := by
  by_cases h : A = 0
  · have := p.z h
    omega
  · have := p.nz h
    omega
theorem cw_CmpN {X Y : Nat} (hX : X < 10 ^ 70) (hY : Y < 10 ^ 70) : HasC Tryz.prog 125 [dU (X / B128), dU (X % B128), dU (Y / B128), dU (Y % B128)] (fun y => y = .v (.int .i64 (cmpN X Y))) := by
  have e := cw_Cmp2 (a := X / B128) (c := X % B128) (b := Y / B128) (d := Y % B128) (Nat.div_lt_of_lt_mul (Nat.lt_trans hX (by decide))) (mod_lt128 _) (Nat.div_lt_of_lt_mul (Nat.lt_trans hY (by decide))) (mod_lt128 _)
  rw [Nat.div_add_mod', Nat.div_add_mod'] at e
  exact e
theorem c_cmpInt {x y : Int} : HasC Tryz.prog 122 [.v (.int .i64 x), .v (.int .i64 y)] (fun r => r = .v (.int .i64 (cmpI x y))) := by
 refine HasC.of [] (fn := Tryz.f122) tyOk mixed (fun args w => Tryz.call122 args w) Tryz.func122 rfl (by kernel_rfl) (Nat.le_of_ble_eq_true rfl) (⟨_, rfl⟩) ?_
 refine vc_seqr rfl (iQ 1 (iE 13 [(0, Ia x), (1, Ia y), (4, Ia 0)] [] ?_))
 refine vc_seq (vc_block (vc_seqr rfl (iQ 2 (iB .lss 3 (.int .i64 x) (.int .i64 y) (some 8) ?_))))
 intro c8 hc8
 refine iQ 1 (iE 13 [(0, Ia x), (1, Ia y), (4, Ia 0), (5, Ba c8)] [] ?_)
 cases c8
 ·replace hc8 := bf hc8
  refine iF (vc_seqr rfl (iQ 2 (iB .gtr 3 (.int .i64 x) (.int .i64 y) (some 12) ?_)))
  intro c12 hc12
  refine iQ 1 (iE 13 [(0, Ia x), (1, Ia y), (4, Ia 0), (5, Ba false), (9, Ba c12)] [] ?_)
  cases c12
  ·replace hc12 := bf hc12
   refine iF (vc_skip (block_n (seq_n (vc_seqr rfl (iQ 1 (iE 13 [(0, Ia x), (1, Ia y), (4, Ia 0), (5, Ba false), (9, Ba false)] [] ?_))))))
   refine vc_ret (iR (Iv 0) ?_)
   rw [cmpI, if_neg hc8, if_pos (by omega)]
  ·replace hc12 := bt hc12
   refine iT (vc_seqr rfl (iQ 1 (iE 13 [(0, Ia x), (1, Ia y), (4, Ia 1), (5, Ba false), (9, Ba true)] [] ?_)))
   refine vc_ret (block_r (seq_r (iR (Iv 1) ?_)))
   rw [cmpI, if_neg hc8, if_neg (by omega)]
 ·replace hc8 := bt hc8
  refine iT (vc_seqr rfl (iQ 1 (iE 13 [(0, Ia x), (1, Ia y), (4, Ia (-1)), (5, Ba true)] [] ?_)))
  refine vc_ret (block_r (seq_r (iR (Iv (-1)) ?_)))
  rw [cmpI, if_pos hc8]

theorem c_wideOf {s : Bool} {A n : Nat} {e X : Int} (hX : X = (n : Int)) (hn : n ≤ 38) (hA : A < B128) (h1 : -100000000000000000 ≤ e) (h2 : e ≤ 100000000000000000) : HasC Tryz.prog 124 [.agg [.v (.bool s), .v (.int .u64 (hiW (A))), .v (.int .u64 (loW (A))), .v (.int .i64 e)], .v (.int .i64 X)] (fun y => y = dWide s (A * 10 ^ n / B128) (A * 10 ^ n % B128) (e - n) false) := by
 refine HasC.of [] (fn := Tryz.f124) tyOk mixed (fun args w => Tryz.call124 args w) Tryz.func124 rfl (by kernel_rfl) (Nat.le_of_ble_eq_true rfl) (⟨_, rfl⟩) ?_
 have hXn : X.toNat = n := by omega
 refine vc_seqr rfl (iQ 2 (iE 30 [(1, Ia X), (2, .p 2 0), (4, .p 4 0)] [(2, [Bv s, Hw A, Lw A, Iv e]), (4, [Bv false, Uv 0, Uv 0, Uv 0, Uv 0, Iv 0, Bv false])] ?_))
 refine vc_seqr rfl (iQ 1 (iC 148 [Iv X] (some 11) (cw_Ten (k := X) (by omega) (by omega)) ?_))
 rintro _ rfl
 have ht : 10 ^ X.toNat < B128 := Nat.lt_of_le_of_lt (Nat.pow_le_pow_right (by decide) (show X.toNat ≤ 38 by omega)) (by decide)
 refine iQ 6 (iE 30 [(1, Ia X), (2, .p 2 0), (4, .p 4 0), (5, .p 5 0)] [(2, [Bv s, Hw A, Lw A, Iv e]), (4, [Bv false, Uv 0, Uv 0, Uv 0, Uv 0, Iv 0, Bv false]), (5, [Hw (10 ^ X.toNat), Lw (10 ^ X.toNat)])] ?_)
 refine vc_seqr rfl (iQ 3 (iC 165 [.agg [Hw A, Lw A], .agg [Hw (10 ^ X.toNat), Lw (10 ^ X.toNat)]] (some 18) (cw_Mul hA ht) ?_))
 rintro _ rfl
 refine iQ 7 (iE 30 [(1, Ia X), (2, .p 2 0), (4, .p 4 0), (5, .p 5 0), (7, .p 7 0), (8, .p 8 0)] [(2, [Bv s, Hw A, Lw A, Iv e]), (4, [Bv false, Uv 0, Uv 0, Uv 0, Uv 0, Iv 0, Bv false]), (5, [Hw (10 ^ X.toNat), Lw (10 ^ X.toNat)]), (7, [Hw (A * 10 ^ X.toNat / B128), Lw (A * 10 ^ X.toNat / B128)]), (8, [Hw (A * 10 ^ X.toNat % B128), Lw (A * 10 ^ X.toNat % B128)])] ?_)
 refine vc_seqr rfl (iQ 7 (iB .sub 3 (.int .i64 e) (.int .i64 X) (some 28) ?_))
 intro z28 hz28
 try replace hz28 := hz28.i64 (by omega)
 refine iQ 2 (iE 30 [(1, Ia X), (2, .p 2 0), (4, .p 4 0), (5, .p 5 0), (7, .p 7 0), (8, .p 8 0)] [(2, [Bv s, Hw A, Lw A, Iv e]), (4, [Bv s, Hw (A * 10 ^ X.toNat / B128), Lw (A * 10 ^ X.toNat / B128), Hw (A * 10 ^ X.toNat % B128), Lw (A * 10 ^ X.toNat % B128), Iv z28, Bv false]), (5, [Hw (10 ^ X.toNat), Lw (10 ^ X.toNat)]), (7, [Hw (A * 10 ^ X.toNat / B128), Lw (A * 10 ^ X.toNat / B128)]), (8, [Hw (A * 10 ^ X.toNat % B128), Lw (A * 10 ^ X.toNat % B128)])] ?_)
 refine vc_ret (iR (.agg [Bv s, Hw (A * 10 ^ X.toNat / B128), Lw (A * 10 ^ X.toNat / B128), Hw (A * 10 ^ X.toNat % B128), Lw (A * 10 ^ X.toNat % B128), Iv z28, Bv false]) ?_)
 rw [hXn, show e - (n : Int) = z28 by omega]; rfl

theorem c_SignT {g : Bool} {a : Nat} {x : Int} (ha : a < B128) : HasC Tryz.prog 120 [dDec g a x] (fun y => y = .v (.int .i64 (sgnT g a))) := c_Sign ha
theorem sgn_same {s1 s2 : Bool} {A B : Nat} (hA : A ≠ 0) (h : sgnT s1 A = sgnT s2 B) : B ≠ 0 ∧ s1 = s2 := by
  unfold sgnT at h
  rw [if_neg hA] at h
  by_cases hB : B = 0
  · rw [if_pos hB] at h
    cases s1 <;> simp at h
  · rw [if_neg hB] at h
    refine ⟨hB, ?_⟩
    cases s1 <;> cases s2 <;> simp at h ⊢
theorem size_same {A B : Nat} {e1 e2 : Int} (hA : A < E34) (hB : B < E34) (hA0 : A ≠ 0) (hB0 : B ≠ 0) (h : cmpI (e1 + nd A) (e2 + nd B) = 0) : (e1 - min e1 e2).toNat ≤ 33 ∧ (e2 - min e1 e2).toNat ≤ 33 ∧ A * 10 ^ (e1 - min e1 e2).toNat < 10 ^ 70 ∧ B * 10 ^ (e2 - min e1 e2).toNat < 10 ^ 70 := by
  have h0 := cmpI_eq.1 h
  have h1 := nd_le 34 A hA
  have h2 := nd_le 34 B hB
  have h3 := nd_one_le hA0
  have h4 := nd_one_le hB0
  have key : ∀ {A x : Nat}, nd A ≤ 34 → x ≤ 33 → A * 10 ^ x < 10 ^ 70 := by
    intro A x h1 h2
    have h3 := Nat.mul_lt_mul_of_pos_right (lt_nd A) (show 0 < 10 ^ x from Nat.pow_pos (by decide))
    rw [← Nat.pow_add] at h3
    exact Nat.lt_of_lt_of_le h3 (Nat.pow_le_pow_right (by decide) (by omega))
  exact ⟨by omega, by omega, key h1 (by omega), key h2 (by omega)⟩

set_option maxHeartbeats 1600000 in
theorem c_decCmp {s1 s2 : Bool} {A B : Nat} {e1 e2 : Int} (hA : A < E34) (hB : B < E34) (h1 : -10000000000000000 ≤ e1) (h2 : e1 ≤ 10000000000000000) (h3 : -10000000000000000 ≤ e2) (h4 : e2 ≤ 10000000000000000) : HasC Tryz.prog 69 [.agg [.v (.bool s1), .v (.int .u64 (hiW (A))), .v (.int .u64 (loW (A))), .v (.int .i64 e1)], .agg [.v (.bool s2), .v (.int .u64 (hiW (B))), .v (.int .u64 (loW (B))), .v (.int .i64 e2)]] (fun y => y = .v (.int .i64 (cmpZ s1 A e1 s2 B e2))) := by
 refine HasC.of [] (fn := Tryz.f69) tyOk mixed (fun args w => Tryz.call69 args w) Tryz.func69 rfl (by kernel_rfl) (Nat.le_of_ble_eq_true rfl) (⟨_, rfl⟩) ?_
 have hAB := Nat.lt_trans hA e34_lt; have hBB := Nat.lt_trans hB e34_lt
 have hna := nd_le 34 A hA; have hnb := nd_le 34 B hB
 refine vc_seqr rfl (iQ 3 (iE 65 [(2, .p 2 0), (3, .p 3 0), (4, Ia 0)] [(2, [Bv s1, Hw A, Lw A, Iv e1]), (3, [Bv s2, Hw B, Lw B, Iv e2])] ?_))
 refine vc_seq (vc_seqr rfl (iQ 1 (iC 120 [.agg [Bv s1, Hw A, Lw A, Iv e1]] (some 11) (c_SignT hAB) ?_)))
 rintro _ rfl
 refine iQ 1 (iC 120 [.agg [Bv s2, Hw B, Lw B, Iv e2]] (some 13) (c_SignT hBB) ?_)
 rintro _ rfl
 refine iB .neq 3 (.int .i64 (sgnT s1 A)) (.int .i64 (sgnT s2 B)) (some 14) ?_
 intro c14 hc14
 refine iQ 1 ?_
 cases c14
 ·replace hc14 := bf hc14
  refine iQ 1 (iC 121 [.agg [Bv s1, Hw A, Lw A, Iv e1]] (some 17) (c_Zero hAB) ?_)
  rintro _ ⟨z, rfl, hz⟩
  refine iQ 1 (iE 65 [(2, .p 2 0), (3, .p 3 0), (4, Ia 0), (18, Ba z)] [(2, [Bv s1, Hw A, Lw A, Iv e1]), (3, [Bv s2, Hw B, Lw B, Iv e2])] ?_)
  cases z
  ·replace hz := bf hz
   have hss : sgnT s1 A = sgnT s2 B := Decidable.not_not.1 hc14
   obtain ⟨hB0, hs12⟩ := sgn_same hz hss
   refine iF (vc_skip (seq_n (vc_seqr rfl (iQ 1 (iC 123 [.agg [Bv s1, Hw A, Lw A, Iv e1]] (some 25) (c_size hAB (by omega) (by omega)) ?_)))))
   rintro _ rfl
   refine iQ 1 (iC 123 [.agg [Bv s2, Hw B, Lw B, Iv e2]] (some 27) (c_size hBB (by omega) (by omega)) ?_)
   rintro _ rfl
   refine iC 122 [Iv (e1 + (nd A : Int)), Iv (e2 + (nd B : Int))] (some 28) (c_cmpInt) ?_
   rintro _ rfl
   refine iQ 1 (iE 65 [(2, .p 2 0), (3, .p 3 0), (4, Ia 0), (5, Ia (cmpI (e1 + (nd A : Int)) (e2 + (nd B : Int)))), (18, Ba false)] [(2, [Bv s1, Hw A, Lw A, Iv e1]), (3, [Bv s2, Hw B, Lw B, Iv e2])] ?_)
   refine vc_mid 65 (fun (vcx : Int × Bool) => match vcx with | (c, vb30) => [(2, .p 2 0), (3, .p 3 0), (4, Ia 0), (5, Ia c), (18, Ba false), (30, Ba vb30)]) (fun (vcx : Int × Bool) => match vcx with | (c, vb30) => [(2, [Bv s1, Hw A, Lw A, Iv e1]), (3, [Bv s2, Hw B, Lw B, Iv e2])]) (fun (vcx : Int × Bool) => match vcx with | (c, vb30) => c = cmpN (A * 10 ^ (e1 - min e1 e2).toNat) (B * 10 ^ (e2 - min e1 e2).toNat)) ?_ ?_
   ·rintro ⟨c, vb30⟩ hinv
    simp only at hinv
    have hcr : -1 ≤ c ∧ c ≤ 1 := by rw [hinv, cmpN_I]; unfold cmpI; split <;> (try split) <;> omega
    have hcs := @cmp_same s1 A B e1 e2
    refine vc_seq (vc_seqr rfl (iQ 2 (iE 65 [(2, .p 2 0), (3, .p 3 0), (4, Ia 0), (5, Ia c), (18, Ba false), (30, Ba vb30), (61, Ba s1)] [(2, [Bv s1, Hw A, Lw A, Iv e1]), (3, [Bv s2, Hw B, Lw B, Iv e2])] ?_)))
    cases s1
    ·skip
     refine iF (vc_skip (seq_n (vc_seqr rfl (iQ 2 (iE 65 [(2, .p 2 0), (3, .p 3 0), (4, Ia c), (5, Ia c), (18, Ba false), (30, Ba vb30), (61, Ba false)] [(2, [Bv false, Hw A, Lw A, Iv e1]), (3, [Bv s2, Hw B, Lw B, Iv e2])] ?_)))))
     refine vc_ret (iR (Iv c) ?_)
     rw [← hs12, hcs, ← hinv]; rfl
    ·skip
     refine iT (vc_seqr rfl (iQ 1 (iU .neg (.int .i64 c) (some 63) ?_)))
     intro z63 hz63
     try replace hz63 := hz63.i64 (by omega)
     refine iQ 1 (iE 65 [(2, .p 2 0), (3, .p 3 0), (4, Ia z63), (5, Ia c), (18, Ba false), (30, Ba vb30), (61, Ba true)] [(2, [Bv true, Hw A, Lw A, Iv e1]), (3, [Bv s2, Hw B, Lw B, Iv e2])] ?_)
     refine vc_ret (seq_r (iR (Iv z63) ?_))
     rw [← hs12, hcs, ← hinv, if_pos rfl, hz63, Int.zero_sub]
   intro hmid
   refine vc_seqr rfl (iQ 1 (iB .eql 3 (.int .i64 (cmpI (e1 + (nd A : Int)) (e2 + (nd B : Int)))) (.int .i64 0) (some 30) ?_))
   intro c30 hc30
   refine iE 65 [(2, .p 2 0), (3, .p 3 0), (4, Ia 0), (5, Ia (cmpI (e1 + (nd A : Int)) (e2 + (nd B : Int)))), (18, Ba false), (30, Ba c30)] [(2, [Bv s1, Hw A, Lw A, Iv e1]), (3, [Bv s2, Hw B, Lw B, Iv e2])] ?_
   cases c30
   ·replace hc30 := bf hc30
    refine iF (vc_skip ?_)
    refine mid_n hmid (cmpI (e1 + (nd A : Int)) (e2 + (nd B : Int)), false) ((cmp_size hz hB0 (fun h => hc30 (cmpI_eq.2 h))).symm) (by kernel_rfl)
   ·replace hc30 := bt hc30
    obtain ⟨w1, w2, w3, w4⟩ := size_same hA hB hz hB0 hc30
    refine iT (vc_seqr rfl (iQ 4 (iB .sub 3 (.int .i64 e1) (.int .i64 e2) (some 35) ?_)))
    intro z35 hz35
    try replace hz35 := hz35.i64 (by omega)
    refine iL .max [3, 3] [.int .i64 0, .int .i64 z35] (some 36) ?_
    intro z36 hz36
    simp only at hz36
    refine iQ 1 (iE 65 [(2, .p 2 0), (3, .p 3 0), (4, Ia 0), (5, Ia (cmpI (e1 + (nd A : Int)) (e2 + (nd B : Int)))), (6, Ia z36), (18, Ba false), (30, Ba true)] [(2, [Bv s1, Hw A, Lw A, Iv e1]), (3, [Bv s2, Hw B, Lw B, Iv e2])] ?_)
    refine vc_seqr rfl (iQ 4 (iB .sub 3 (.int .i64 e2) (.int .i64 e1) (some 41) ?_))
    intro z41 hz41
    try replace hz41 := hz41.i64 (by omega)
    refine iL .max [3, 3] [.int .i64 0, .int .i64 z41] (some 42) ?_
    intro z42 hz42
    simp only at hz42
    refine iQ 1 (iE 65 [(2, .p 2 0), (3, .p 3 0), (4, Ia 0), (5, Ia (cmpI (e1 + (nd A : Int)) (e2 + (nd B : Int)))), (6, Ia z36), (7, Ia z42), (18, Ba false), (30, Ba true)] [(2, [Bv s1, Hw A, Lw A, Iv e1]), (3, [Bv s2, Hw B, Lw B, Iv e2])] ?_)
    refine vc_seqr rfl (iQ 2 (iL .min [3, 3] [.int .i64 z36, .int .i64 38] (some 45) ?_))
    intro z45 hz45
    simp only at hz45
    refine iC 124 [.agg [Bv s1, Hw A, Lw A, Iv e1], Iv z45] (some 46) (c_wideOf (n := (e1 - min e1 e2).toNat) (by omega) (by omega) hAB (by omega) (by omega)) ?_
    rintro _ rfl
    refine iQ 2 (iL .min [3, 3] [.int .i64 z42, .int .i64 38] (some 49) ?_)
    intro z49 hz49
    simp only at hz49
    refine iC 124 [.agg [Bv s2, Hw B, Lw B, Iv e2], Iv z49] (some 50) (c_wideOf (n := (e2 - min e1 e2).toNat) (by omega) (by omega) hBB (by omega) (by omega)) ?_
    rintro _ rfl
    refine iQ 4 (iE 65 [(2, .p 2 0), (3, .p 3 0), (4, Ia 0), (5, Ia (cmpI (e1 + (nd A : Int)) (e2 + (nd B : Int)))), (8, .p 8 0), (9, .p 9 0), (18, Ba false), (30, Ba true)] [(2, [Bv s1, Hw A, Lw A, Iv e1]), (3, [Bv s2, Hw B, Lw B, Iv e2]), (8, [Bv s1, Hw (A * 10 ^ (e1 - min e1 e2).toNat / B128), Lw (A * 10 ^ (e1 - min e1 e2).toNat / B128), Hw (A * 10 ^ (e1 - min e1 e2).toNat % B128), Lw (A * 10 ^ (e1 - min e1 e2).toNat % B128), Iv (e1 - ((e1 - min e1 e2).toNat : Int)), Bv false]), (9, [Bv s2, Hw (B * 10 ^ (e2 - min e1 e2).toNat / B128), Lw (B * 10 ^ (e2 - min e1 e2).toNat / B128), Hw (B * 10 ^ (e2 - min e1 e2).toNat % B128), Lw (B * 10 ^ (e2 - min e1 e2).toNat % B128), Iv (e2 - ((e2 - min e1 e2).toNat : Int)), Bv false])] ?_)
    refine vc_reg rfl (iQ 8 (iC 125 [.agg [Hw (A * 10 ^ (e1 - min e1 e2).toNat / B128), Lw (A * 10 ^ (e1 - min e1 e2).toNat / B128)], .agg [Hw (A * 10 ^ (e1 - min e1 e2).toNat % B128), Lw (A * 10 ^ (e1 - min e1 e2).toNat % B128)], .agg [Hw (B * 10 ^ (e2 - min e1 e2).toNat / B128), Lw (B * 10 ^ (e2 - min e1 e2).toNat / B128)], .agg [Hw (B * 10 ^ (e2 - min e1 e2).toNat % B128), Lw (B * 10 ^ (e2 - min e1 e2).toNat % B128)]] (some 59) (cw_CmpN w3 w4) ?_))
    rintro _ rfl
    refine iQ 1 (iE 65 [(2, .p 2 0), (3, .p 3 0), (4, Ia 0), (5, Ia (cmpN (A * 10 ^ (e1 - min e1 e2).toNat) (B * 10 ^ (e2 - min e1 e2).toNat))), (18, Ba false), (30, Ba true)] [(2, [Bv s1, Hw A, Lw A, Iv e1]), (3, [Bv s2, Hw B, Lw B, Iv e2])] ?_)
    refine mid_n hmid (cmpN (A * 10 ^ (e1 - min e1 e2).toNat) (B * 10 ^ (e2 - min e1 e2).toNat), true) (rfl) (by kernel_rfl)
  ·replace hz := bt hz
   have hsg : sgnT s1 A ≠ sgnT s2 B ∨ A = 0 := .inr hz
   refine iT (vc_seqr rfl (iQ 1 (iC 120 [.agg [Bv s1, Hw A, Lw A, Iv e1]] (some 20) (c_SignT hAB) ?_)))
   rintro _ rfl
   refine iQ 1 (iC 120 [.agg [Bv s2, Hw B, Lw B, Iv e2]] (some 22) (c_SignT hBB) ?_)
   rintro _ rfl
   refine iC 122 [Iv (sgnT s1 A), Iv (sgnT s2 B)] (some 23) (c_cmpInt) ?_
   rintro _ rfl
   refine iQ 1 (iE 65 [(2, .p 2 0), (3, .p 3 0), (4, Ia (cmpI (sgnT s1 A) (sgnT s2 B))), (18, Ba true)] [(2, [Bv s1, Hw A, Lw A, Iv e1]), (3, [Bv s2, Hw B, Lw B, Iv e2])] ?_)
   refine vc_ret (seq_r (iR (Iv (cmpI (sgnT s1 A) (sgnT s2 B))) ?_))
   rw [cmp_sign hsg]
 ·replace hc14 := bt hc14
  refine iQ 3 (iE 65 [(2, .p 2 0), (3, .p 3 0), (4, Ia 0), (18, Ba true)] [(2, [Bv s1, Hw A, Lw A, Iv e1]), (3, [Bv s2, Hw B, Lw B, Iv e2])] ?_)
  have hsg : sgnT s1 A ≠ sgnT s2 B ∨ A = 0 := .inl hc14
  refine iT (vc_seqr rfl (iQ 1 (iC 120 [.agg [Bv s1, Hw A, Lw A, Iv e1]] (some 20) (c_SignT hAB) ?_)))
  rintro _ rfl
  refine iQ 1 (iC 120 [.agg [Bv s2, Hw B, Lw B, Iv e2]] (some 22) (c_SignT hBB) ?_)
  rintro _ rfl
  refine iC 122 [Iv (sgnT s1 A), Iv (sgnT s2 B)] (some 23) (c_cmpInt) ?_
  rintro _ rfl
  refine iQ 1 (iE 65 [(2, .p 2 0), (3, .p 3 0), (4, Ia (cmpI (sgnT s1 A) (sgnT s2 B))), (18, Ba true)] [(2, [Bv s1, Hw A, Lw A, Iv e1]), (3, [Bv s2, Hw B, Lw B, Iv e2])] ?_)
  refine vc_ret (seq_r (iR (Iv (cmpI (sgnT s1 A) (sgnT s2 B))) ?_))
  rw [cmp_sign hsg]

end Go.Proofs.YtpambeengdhhmaaGreatDoor
