/-
  dec: size, higher, Neg, at. dec.Add, Sub, Cmp.
-/
import Derived.Test.YtjpaedjhihiakaaDoorSumZ
import Derived.Test.YtjpaedjhihiakaaDoorVcY
namespace Go.Proofs.YtjpaedjhihiakaaDoor

open Go.RowKit
set_option linter.unusedVariables false
set_option linter.unusedSimpArgs false
set_option maxRecDepth 100000

theorem c_size {g : Bool} {A : Nat} {e : Int} (hA : A < B128) (h1 : -100000000000000000 ≤ e) (h2 : e ≤ 100000000000000000) : HasC Tryd.prog 89 [.agg [.v (.bool g), .v (.int .u64 (hiW (A))), .v (.int .u64 (loW (A))), .v (.int .i64 e)]] (fun y => y = .v (.int .i64 (e + (nd A : Int)))) := by
  refine HasC.of [] (fn := Tryd.f89) tyOk mixed (fun args w => Tryd.call89 args w) Tryd.func89 rfl (by kernel_rfl) (Nat.le_of_ble_eq_true rfl) (⟨_, rfl⟩) ?_
  refine vc_seqr rfl (iQ 2 (iE 10 [(1, .p 1 0), (2, Ia 0)] [(1, [Bv g, Hw A, Lw A, Iv e])] ?_))
  refine vc_seqr rfl (iQ 5 (iC 115 [.agg [Uv 0, Uv 0], .agg [Hw A, Lw A]] (some 8) (cw_Digits0 hA) ?_))
  rintro _ rfl
  have hn : nd A ≤ 39 := nd_le _ _ (Nat.lt_trans hA (by decide))
  refine iB .add 3 (.int .i64 e) (.int .i64 ((nd A : Int))) (some 9) ?_
  intro z9 hz9
  try replace hz9 := hz9.i64 (by omega)
  refine iQ 1 (iE 10 [(2, Ia z9)] [] ?_)
  refine vc_ret (iR (Iv z9) ?_)
  rw [← hz9]

theorem c_Neg {g : Bool} {A : Nat} {e : Int} (hA : A < B128) : HasC Tryd.prog 103 [.agg [.v (.bool g), .v (.int .u64 (hiW (A))), .v (.int .u64 (loW (A))), .v (.int .i64 e)]] (fun y => y = dDec (!g && decide (A ≠ 0)) A e) := by
  refine HasC.of [] (fn := Tryd.f103) tyOk mixed (fun args w => Tryd.call103 args w) Tryd.func103 rfl (by kernel_rfl) (Nat.le_of_ble_eq_true rfl) (⟨_, rfl⟩) ?_
  refine vc_seqr rfl (iQ 2 (iE 13 [(1, .p 1 0), (2, .p 2 0)] [(1, [Bv g, Hw A, Lw A, Iv e]), (2, [Bv false, Uv 0, Uv 0, Iv 0])] ?_))
  refine vc_seqr rfl (iQ 2 (iU .not (.bool g) (some 5) ?_))
  intro c5 hc5
  refine iQ 1 ?_
  cases c5
  · replace hc5 := bf hc5
    refine iQ 6 (iE 13 [(1, .p 1 0), (2, .p 2 0)] [(1, [Bv false, Hw A, Lw A, Iv e]), (2, [Bv false, Uv 0, Uv 0, Iv 0])] ?_)
    refine vc_seqr rfl (iQ 2 (iE 13 [(1, .p 1 0), (2, .p 2 0)] [(1, [Bv false, Hw A, Lw A, Iv e]), (2, [Bv false, Hw A, Lw A, Iv e])] ?_))
    refine vc_ret (iR (.agg [Bv false, Hw A, Lw A, Iv e]) ?_)
    have hg : g = true := by simpa using hc5
    rw [hg]; rfl
  · replace hc5 := bt hc5
    refine iQ 1 (iC 87 [.agg [Bv g, Hw A, Lw A, Iv e]] (some 8) (c_Zero hA) ?_)
    rintro _ ⟨z, rfl, hz⟩
    refine iU .not (.bool z) (some 9) ?_
    intro c9 hc9
    refine iQ 3 (iE 13 [(1, .p 1 0), (2, .p 2 0)] [(1, [Bv c9, Hw A, Lw A, Iv e]), (2, [Bv false, Uv 0, Uv 0, Iv 0])] ?_)
    refine vc_seqr rfl (iQ 2 (iE 13 [(1, .p 1 0), (2, .p 2 0)] [(1, [Bv c9, Hw A, Lw A, Iv e]), (2, [Bv c9, Hw A, Lw A, Iv e])] ?_))
    refine vc_ret (iR (.agg [Bv c9, Hw A, Lw A, Iv e]) ?_)
    have hc : (!g && decide (A ≠ 0)) = c9 := by rw [hc5, Bool.eq_iff_iff, hc9]; cases z <;> simp_all
    rw [hc]; rfl

theorem at_fin {A h l j l' : Nat} {e low c : Int} {mo : Bool} (h0 : A * 10 ^ (e - low).toNat = h * B128 + l) (hl : l < B128) (hj : j ≤ (low - e).toNat) (hc : c = low - e - j) (h1 : l' = l / 10 ^ j) (h2 : mo = true ↔ l % 10 ^ j ≠ 0) (h3 : e < low → h = 0) (hs : c ≤ 0 ∨ l' = 0 ∧ 0 < c) :
    atN A e low / B128 = h ∧ atN A e low % B128 = l' ∧ atM A e low = mo := by
  rcases Int.le_total low e with k | k
  · have hJ : (low - e).toNat = 0 := by omega
    have hj0 : j = 0 := by omega
    subst hj0
    obtain ⟨u1, u2⟩ := at_up (A := A) k
    rw [u1, u2, h0]
    refine ⟨(b128_div hl).1, by rw [(b128_div hl).2, h1]; simp, ?_⟩
    have : ¬ mo = true := by rw [h2]; simp [Nat.mod_one]
    cases mo <;> simp_all
  · rw [at_down k]
    by_cases hk : e = low
    · subst hk
      have hj0 : j = 0 := by omega
      subst hj0
      rw [Int.sub_self] at h0 ⊢
      obtain ⟨u1, u2⟩ := at_up (A := A) (Int.le_refl e)
      rw [u2]
      simp at h0 ⊢
      rw [h0]
      refine ⟨(b128_div hl).1, by rw [(b128_div hl).2, h1]; simp, ?_⟩
      have : ¬ mo = true := by rw [h2]; simp [Nat.mod_one]
      cases mo <;> simp_all
    · have hh := h3 (by omega)
      subst hh
      rw [show (e - low).toNat = 0 by omega] at h0
      have hAl : A = l := by omega
      obtain ⟨J, hJ⟩ : ∃ J, (low - e).toNat = J := ⟨_, rfl⟩
      unfold atM
      rw [hJ, hAl]
      rw [hJ] at hj
      have key : l / 10 ^ J = l' ∧ (l % 10 ^ J ≠ 0 ↔ l % 10 ^ j ≠ 0) := by
        rcases hs with hs | ⟨hs, _⟩
        · have : j = J := by omega
          rw [this] at h1 h2 ⊢
          exact ⟨h1.symm, Iff.rfl⟩
        · have hlt : l < 10 ^ j := by
            rcases Nat.lt_or_ge l (10 ^ j) with h | h
            · exact h
            · have := Nat.div_pos h (Nat.pow_pos (by decide))
              omega
          have hlt2 := Nat.lt_of_lt_of_le hlt (Nat.pow_le_pow_right (show 0 < 10 by decide) hj)
          rw [Nat.div_eq_of_lt hlt2, Nat.mod_eq_of_lt hlt, Nat.mod_eq_of_lt hlt2]
          exact ⟨hs.symm, Iff.rfl⟩
      refine ⟨?_, ?_, ?_⟩
      · exact Nat.div_eq_of_lt (Nat.lt_of_le_of_lt (Nat.div_le_self _ _) hl)
      · rw [Nat.mod_eq_of_lt (Nat.lt_of_le_of_lt (Nat.div_le_self _ _) hl), key.1]
      · rw [Bool.eq_iff_iff, h2, decide_eq_true_iff]
        exact key.2
theorem mod_more1 {l j : Nat} {mo mo' : Bool} (h : mo = true ↔ l % 10 ^ j ≠ 0) (hm : mo' = true ↔ mo = true ∨ l / 10 ^ j % 10 ≠ 0) : mo' = true ↔ l % 10 ^ (j + 1) ≠ 0 := by
  rw [hm, h, mod_pow_succ]

theorem mod_more2 {l j x : Nat} {c : Bool} (h : false = true ↔ l % 10 ^ j ≠ 0) (hc : c = true ↔ ((x : Nat) : Int) ≠ 0) (hx : x = l / 10 ^ j % 10) : c = true ↔ l % 10 ^ (j + 1) ≠ 0 := by
  refine mod_more1 h ?_
  rw [hc, ← hx]
  constructor
  · intro k
    exact .inr (by omega)
  · rintro (k | k)
    · cases k
    · omega



open Go.RowKit
set_option linter.unusedVariables false
set_option linter.unusedSimpArgs false
set_option maxRecDepth 100000

theorem AddPre.low {A B : Nat} {e1 e2 low : Int} (p : AddPre A B e1 e2 low) (h1 : -10000000000000000 ≤ e1) (h2 : -10000000000000000 ≤ e2) : -10000000000000100 ≤ low := by
  by_cases h : A = 0
  · have := p.z h
    omega
  · have := p.nz h
    omega
theorem cw_AddN {X Y : Nat} (hX : X < 10 ^ 70) (hY : Y < 10 ^ 70) : HasC Tryd.prog 137 [dU (X / B128), dU (X % B128), dU (Y / B128), dU (Y % B128)] (fun y => y = .tup [dU ((X + Y) / B128), dU ((X + Y) % B128), .v (.int .u64 0)]) := by
  have e := cw_Add2 (a := X / B128) (c := X % B128) (b := Y / B128) (d := Y % B128) (Nat.div_lt_of_lt_mul (Nat.lt_trans hX (by decide))) (mod_lt128 _) (Nat.div_lt_of_lt_mul (Nat.lt_trans hY (by decide))) (mod_lt128 _)
  have hs : X + Y < B128 * B128 := Nat.lt_of_lt_of_le (Nat.add_lt_add hX hY) (by decide)
  rw [Nat.div_add_mod', Nat.div_add_mod', Nat.mod_eq_of_lt (Nat.div_lt_of_lt_mul hs), Nat.div_eq_of_lt hs] at e
  exact e
theorem cw_CmpN {X Y : Nat} (hX : X < 10 ^ 70) (hY : Y < 10 ^ 70) : HasC Tryd.prog 91 [dU (X / B128), dU (X % B128), dU (Y / B128), dU (Y % B128)] (fun y => y = .v (.int .i64 (cmpN X Y))) := by
  have e := cw_Cmp2 (a := X / B128) (c := X % B128) (b := Y / B128) (d := Y % B128) (Nat.div_lt_of_lt_mul (Nat.lt_trans hX (by decide))) (mod_lt128 _) (Nat.div_lt_of_lt_mul (Nat.lt_trans hY (by decide))) (mod_lt128 _)
  rw [Nat.div_add_mod', Nat.div_add_mod'] at e
  exact e
theorem at_room {b : Nat} {x low : Int} (hb : b < E34) (h : atN b x low < 10 ^ 70) : b * 10 ^ (x - low).toNat < B128 * B128 := by
  rcases Int.le_total low x with k | k
  · rw [← (at_up k).1]
    exact Nat.lt_trans h (by decide)
  · rw [show (x - low).toNat = 0 by omega, Nat.pow_zero, Nat.mul_one]
    exact Nat.lt_trans hb (by decide)
theorem hi_no {A B : Nat} {e1 e2 : Int} (h : ¬ (B ≠ 0 ∧ (A = 0 ∨ e1 + nd A < e2 + nd B))) : B = 0 ∨ (A ≠ 0 ∧ e2 + nd B ≤ e1 + nd A) := by
  by_cases hB : B = 0
  · exact .inl hB
  · exact .inr ⟨fun k => h ⟨hB, .inl k⟩, Int.not_lt.1 fun k => h ⟨hB, .inr k⟩⟩
theorem hi_yes {A B : Nat} {e1 e2 : Int} (h : B ≠ 0 ∧ (A = 0 ∨ e1 + nd A < e2 + nd B)) : A = 0 ∨ (B ≠ 0 ∧ e1 + nd A ≤ e2 + nd B) := by
  rcases h.2 with k | k
  · exact .inl k
  · exact .inr ⟨h.1, by omega⟩

theorem c_cmpInt {x y : Int} : HasC Tryd.prog 88 [.v (.int .i64 x), .v (.int .i64 y)] (fun r => r = .v (.int .i64 (cmpI x y))) := by
  refine HasC.of [] (fn := Tryd.f88) tyOk mixed (fun args w => Tryd.call88 args w) Tryd.func88 rfl (by kernel_rfl) (Nat.le_of_ble_eq_true rfl) (⟨_, rfl⟩) ?_
  refine vc_seqr rfl (iQ 1 (iE 13 [(0, Ia x), (1, Ia y), (4, Ia 0)] [] ?_))
  refine vc_seq (vc_block (vc_seqr rfl (iQ 2 (iB .lss 3 (.int .i64 x) (.int .i64 y) (some 8) ?_))))
  intro c8 hc8
  refine iQ 1 (iE 13 [(0, Ia x), (1, Ia y), (4, Ia 0), (5, Ba c8)] [] ?_)
  cases c8
  · replace hc8 := bf hc8
    refine iF (vc_seqr rfl (iQ 2 (iB .gtr 3 (.int .i64 x) (.int .i64 y) (some 12) ?_)))
    intro c12 hc12
    refine iQ 1 (iE 13 [(0, Ia x), (1, Ia y), (4, Ia 0), (5, Ba false), (9, Ba c12)] [] ?_)
    cases c12
    · replace hc12 := bf hc12
      refine iF (vc_skip (block_n (seq_n (vc_seqr rfl (iQ 1 (iE 13 [(0, Ia x), (1, Ia y), (4, Ia 0), (5, Ba false), (9, Ba false)] [] ?_))))))
      refine vc_ret (iR (Iv 0) ?_)
      rw [cmpI, if_neg hc8, if_pos (by omega)]
    · replace hc12 := bt hc12
      refine iT (vc_seqr rfl (iQ 1 (iE 13 [(0, Ia x), (1, Ia y), (4, Ia 1), (5, Ba false), (9, Ba true)] [] ?_)))
      refine vc_ret (block_r (seq_r (iR (Iv 1) ?_)))
      rw [cmpI, if_neg hc8, if_neg (by omega)]
  · replace hc8 := bt hc8
    refine iT (vc_seqr rfl (iQ 1 (iE 13 [(0, Ia x), (1, Ia y), (4, Ia (-1)), (5, Ba true)] [] ?_)))
    refine vc_ret (block_r (seq_r (iR (Iv (-1)) ?_)))
    rw [cmpI, if_pos hc8]

theorem c_wideOf {s : Bool} {A n : Nat} {e X : Int} (hX : X = (n : Int)) (hn : n ≤ 38) (hA : A < B128) (h1 : -100000000000000000 ≤ e) (h2 : e ≤ 100000000000000000) : HasC Tryd.prog 90 [.agg [.v (.bool s), .v (.int .u64 (hiW (A))), .v (.int .u64 (loW (A))), .v (.int .i64 e)], .v (.int .i64 X)] (fun y => y = dWide s (A * 10 ^ n / B128) (A * 10 ^ n % B128) (e - n) false) := by
  refine HasC.of [] (fn := Tryd.f90) tyOk mixed (fun args w => Tryd.call90 args w) Tryd.func90 rfl (by kernel_rfl) (Nat.le_of_ble_eq_true rfl) (⟨_, rfl⟩) ?_
  have hXn : X.toNat = n := by omega
  refine vc_seqr rfl (iQ 2 (iE 30 [(1, Ia X), (2, .p 2 0), (4, .p 4 0)] [(2, [Bv s, Hw A, Lw A, Iv e]), (4, [Bv false, Uv 0, Uv 0, Uv 0, Uv 0, Iv 0, Bv false])] ?_))
  refine vc_seqr rfl (iQ 1 (iC 83 [Iv X] (some 11) (cw_Ten (k := X) (by omega) (by omega)) ?_))
  rintro _ rfl
  have ht : 10 ^ X.toNat < B128 := Nat.lt_of_le_of_lt (Nat.pow_le_pow_right (by decide) (show X.toNat ≤ 38 by omega)) (by decide)
  refine iQ 6 (iE 30 [(1, Ia X), (2, .p 2 0), (4, .p 4 0), (5, .p 5 0)] [(2, [Bv s, Hw A, Lw A, Iv e]), (4, [Bv false, Uv 0, Uv 0, Uv 0, Uv 0, Iv 0, Bv false]), (5, [Hw (10 ^ X.toNat), Lw (10 ^ X.toNat)])] ?_)
  refine vc_seqr rfl (iQ 3 (iC 86 [.agg [Hw A, Lw A], .agg [Hw (10 ^ X.toNat), Lw (10 ^ X.toNat)]] (some 18) (cw_Mul hA ht) ?_))
  rintro _ rfl
  refine iQ 7 (iE 30 [(1, Ia X), (2, .p 2 0), (4, .p 4 0), (5, .p 5 0), (7, .p 7 0), (8, .p 8 0)] [(2, [Bv s, Hw A, Lw A, Iv e]), (4, [Bv false, Uv 0, Uv 0, Uv 0, Uv 0, Iv 0, Bv false]), (5, [Hw (10 ^ X.toNat), Lw (10 ^ X.toNat)]), (7, [Hw (A * 10 ^ X.toNat / B128), Lw (A * 10 ^ X.toNat / B128)]), (8, [Hw (A * 10 ^ X.toNat % B128), Lw (A * 10 ^ X.toNat % B128)])] ?_)
  refine vc_seqr rfl (iQ 7 (iB .sub 3 (.int .i64 e) (.int .i64 X) (some 28) ?_))
  intro z28 hz28
  try replace hz28 := hz28.i64 (by omega)
  refine iQ 2 (iE 30 [(1, Ia X), (2, .p 2 0), (4, .p 4 0), (5, .p 5 0), (7, .p 7 0), (8, .p 8 0)] [(2, [Bv s, Hw A, Lw A, Iv e]), (4, [Bv s, Hw (A * 10 ^ X.toNat / B128), Lw (A * 10 ^ X.toNat / B128), Hw (A * 10 ^ X.toNat % B128), Lw (A * 10 ^ X.toNat % B128), Iv z28, Bv false]), (5, [Hw (10 ^ X.toNat), Lw (10 ^ X.toNat)]), (7, [Hw (A * 10 ^ X.toNat / B128), Lw (A * 10 ^ X.toNat / B128)]), (8, [Hw (A * 10 ^ X.toNat % B128), Lw (A * 10 ^ X.toNat % B128)])] ?_)
  refine vc_ret (iR (.agg [Bv s, Hw (A * 10 ^ X.toNat / B128), Lw (A * 10 ^ X.toNat / B128), Hw (A * 10 ^ X.toNat % B128), Lw (A * 10 ^ X.toNat % B128), Iv z28, Bv false]) ?_)
  rw [hXn, show e - (n : Int) = z28 by omega]; rfl

theorem c_SignT {g : Bool} {a : Nat} {x : Int} (ha : a < B128) : HasC Tryd.prog 39 [dDec g a x] (fun y => y = .v (.int .i64 (sgnT g a))) := c_Sign ha
theorem sgn_same {s1 s2 : Bool} {A B : Nat} (hA : A ≠ 0) (h : sgnT s1 A = sgnT s2 B) : B ≠ 0 ∧ s1 = s2 := by
  unfold sgnT at h
  rw [if_neg hA] at h
  by_cases hB : B = 0
  · rw [if_pos hB] at h
    cases s1 <;> simp at h
  · rw [if_neg hB] at h
    refine ⟨hB, ?_⟩
    cases s1 <;> cases s2 <;> simp at h ⊢
theorem size_same {A B : Nat} {e1 e2 : Int} (hA : A < E34) (hB : B < E34) (hA0 : A ≠ 0) (hB0 : B ≠ 0) (h : cmpI (e1 + nd A) (e2 + nd B) = 0) : (e1 - min e1 e2).toNat ≤ 33 ∧ (e2 - min e1 e2).toNat ≤ 33 ∧ A * 10 ^ (e1 - min e1 e2).toNat < 10 ^ 70 ∧ B * 10 ^ (e2 - min e1 e2).toNat < 10 ^ 70 := by
  have h0 := cmpI_eq.1 h
  have h1 := nd_le 34 A hA
  have h2 := nd_le 34 B hB
  have h3 := nd_one_le hA0
  have h4 := nd_one_le hB0
  have key : ∀ {A x : Nat}, nd A ≤ 34 → x ≤ 33 → A * 10 ^ x < 10 ^ 70 := by
    intro A x h1 h2
    have h3 := Nat.mul_lt_mul_of_pos_right (lt_nd A) (show 0 < 10 ^ x from Nat.pow_pos (by decide))
    rw [← Nat.pow_add] at h3
    exact Nat.lt_of_lt_of_le h3 (Nat.pow_le_pow_right (by decide) (by omega))
  exact ⟨by omega, by omega, key h1 (by omega), key h2 (by omega)⟩

set_option maxHeartbeats 1600000 in
theorem c_decCmp {s1 s2 : Bool} {A B : Nat} {e1 e2 : Int} (hA : A < E34) (hB : B < E34) (h1 : -10000000000000000 ≤ e1) (h2 : e1 ≤ 10000000000000000) (h3 : -10000000000000000 ≤ e2) (h4 : e2 ≤ 10000000000000000) : HasC Tryd.prog 47 [.agg [.v (.bool s1), .v (.int .u64 (hiW (A))), .v (.int .u64 (loW (A))), .v (.int .i64 e1)], .agg [.v (.bool s2), .v (.int .u64 (hiW (B))), .v (.int .u64 (loW (B))), .v (.int .i64 e2)]] (fun y => y = .v (.int .i64 (cmpZ s1 A e1 s2 B e2))) := by
  refine HasC.of [] (fn := Tryd.f47) tyOk mixed (fun args w => Tryd.call47 args w) Tryd.func47 rfl (by kernel_rfl) (Nat.le_of_ble_eq_true rfl) (⟨_, rfl⟩) ?_
  have hAB := Nat.lt_trans hA e34_lt; have hBB := Nat.lt_trans hB e34_lt
  have hna := nd_le 34 A hA; have hnb := nd_le 34 B hB
  refine vc_seqr rfl (iQ 3 (iE 65 [(2, .p 2 0), (3, .p 3 0), (4, Ia 0)] [(2, [Bv s1, Hw A, Lw A, Iv e1]), (3, [Bv s2, Hw B, Lw B, Iv e2])] ?_))
  refine vc_seq (vc_seqr rfl (iQ 1 (iC 39 [.agg [Bv s1, Hw A, Lw A, Iv e1]] (some 11) (c_SignT hAB) ?_)))
  rintro _ rfl
  refine iQ 1 (iC 39 [.agg [Bv s2, Hw B, Lw B, Iv e2]] (some 13) (c_SignT hBB) ?_)
  rintro _ rfl
  refine iB .neq 3 (.int .i64 (sgnT s1 A)) (.int .i64 (sgnT s2 B)) (some 14) ?_
  intro c14 hc14
  refine iQ 1 ?_
  cases c14
  · replace hc14 := bf hc14
    refine iQ 1 (iC 87 [.agg [Bv s1, Hw A, Lw A, Iv e1]] (some 17) (c_Zero hAB) ?_)
    rintro _ ⟨z, rfl, hz⟩
    refine iQ 1 (iE 65 [(2, .p 2 0), (3, .p 3 0), (4, Ia 0), (18, Ba z)] [(2, [Bv s1, Hw A, Lw A, Iv e1]), (3, [Bv s2, Hw B, Lw B, Iv e2])] ?_)
    cases z
    · replace hz := bf hz
      have hss : sgnT s1 A = sgnT s2 B := Decidable.not_not.1 hc14
      obtain ⟨hB0, hs12⟩ := sgn_same hz hss
      refine iF (vc_skip (seq_n (vc_seqr rfl (iQ 1 (iC 89 [.agg [Bv s1, Hw A, Lw A, Iv e1]] (some 25) (c_size hAB (by omega) (by omega)) ?_)))))
      rintro _ rfl
      refine iQ 1 (iC 89 [.agg [Bv s2, Hw B, Lw B, Iv e2]] (some 27) (c_size hBB (by omega) (by omega)) ?_)
      rintro _ rfl
      refine iC 88 [Iv (e1 + (nd A : Int)), Iv (e2 + (nd B : Int))] (some 28) (c_cmpInt) ?_
      rintro _ rfl
      refine iQ 1 (iE 65 [(2, .p 2 0), (3, .p 3 0), (4, Ia 0), (5, Ia (cmpI (e1 + (nd A : Int)) (e2 + (nd B : Int)))), (18, Ba false)] [(2, [Bv s1, Hw A, Lw A, Iv e1]), (3, [Bv s2, Hw B, Lw B, Iv e2])] ?_)
      refine vc_mid 65 (fun (vcx : Int × Bool) => match vcx with | (c, vb30) => [(2, .p 2 0), (3, .p 3 0), (4, Ia 0), (5, Ia c), (18, Ba false), (30, Ba vb30)]) (fun (vcx : Int × Bool) => match vcx with | (c, vb30) => [(2, [Bv s1, Hw A, Lw A, Iv e1]), (3, [Bv s2, Hw B, Lw B, Iv e2])]) (fun (vcx : Int × Bool) => match vcx with | (c, vb30) => c = cmpN (A * 10 ^ (e1 - min e1 e2).toNat) (B * 10 ^ (e2 - min e1 e2).toNat)) ?_ ?_
      · rintro ⟨c, vb30⟩ hinv
        simp only at hinv
        have hcr : -1 ≤ c ∧ c ≤ 1 := by rw [hinv, cmpN_I]; unfold cmpI; split <;> (try split) <;> omega
        have hcs := @cmp_same s1 A B e1 e2
        refine vc_seq (vc_seqr rfl (iQ 2 (iE 65 [(2, .p 2 0), (3, .p 3 0), (4, Ia 0), (5, Ia c), (18, Ba false), (30, Ba vb30), (61, Ba s1)] [(2, [Bv s1, Hw A, Lw A, Iv e1]), (3, [Bv s2, Hw B, Lw B, Iv e2])] ?_)))
        cases s1
        · skip
          refine iF (vc_skip (seq_n (vc_seqr rfl (iQ 2 (iE 65 [(2, .p 2 0), (3, .p 3 0), (4, Ia c), (5, Ia c), (18, Ba false), (30, Ba vb30), (61, Ba false)] [(2, [Bv false, Hw A, Lw A, Iv e1]), (3, [Bv s2, Hw B, Lw B, Iv e2])] ?_)))))
          refine vc_ret (iR (Iv c) ?_)
          rw [← hs12, hcs, ← hinv]; rfl
        · skip
          refine iT (vc_seqr rfl (iQ 1 (iU .neg (.int .i64 c) (some 63) ?_)))
          intro z63 hz63
          try replace hz63 := hz63.i64 (by omega)
          refine iQ 1 (iE 65 [(2, .p 2 0), (3, .p 3 0), (4, Ia z63), (5, Ia c), (18, Ba false), (30, Ba vb30), (61, Ba true)] [(2, [Bv true, Hw A, Lw A, Iv e1]), (3, [Bv s2, Hw B, Lw B, Iv e2])] ?_)
          refine vc_ret (seq_r (iR (Iv z63) ?_))
          rw [← hs12, hcs, ← hinv, if_pos rfl, hz63, Int.zero_sub]
      intro hmid
      refine vc_seqr rfl (iQ 1 (iB .eql 3 (.int .i64 (cmpI (e1 + (nd A : Int)) (e2 + (nd B : Int)))) (.int .i64 0) (some 30) ?_))
      intro c30 hc30
      refine iE 65 [(2, .p 2 0), (3, .p 3 0), (4, Ia 0), (5, Ia (cmpI (e1 + (nd A : Int)) (e2 + (nd B : Int)))), (18, Ba false), (30, Ba c30)] [(2, [Bv s1, Hw A, Lw A, Iv e1]), (3, [Bv s2, Hw B, Lw B, Iv e2])] ?_
      cases c30
      · replace hc30 := bf hc30
        refine iF (vc_skip ?_)
        refine mid_n hmid (cmpI (e1 + (nd A : Int)) (e2 + (nd B : Int)), false) ((cmp_size hz hB0 (fun h => hc30 (cmpI_eq.2 h))).symm) (by kernel_rfl)
      · replace hc30 := bt hc30
        obtain ⟨w1, w2, w3, w4⟩ := size_same hA hB hz hB0 hc30
        refine iT (vc_seqr rfl (iQ 4 (iB .sub 3 (.int .i64 e1) (.int .i64 e2) (some 35) ?_)))
        intro z35 hz35
        try replace hz35 := hz35.i64 (by omega)
        refine iL .max [3, 3] [.int .i64 0, .int .i64 z35] (some 36) ?_
        intro z36 hz36
        simp only at hz36
        refine iQ 1 (iE 65 [(2, .p 2 0), (3, .p 3 0), (4, Ia 0), (5, Ia (cmpI (e1 + (nd A : Int)) (e2 + (nd B : Int)))), (6, Ia z36), (18, Ba false), (30, Ba true)] [(2, [Bv s1, Hw A, Lw A, Iv e1]), (3, [Bv s2, Hw B, Lw B, Iv e2])] ?_)
        refine vc_seqr rfl (iQ 4 (iB .sub 3 (.int .i64 e2) (.int .i64 e1) (some 41) ?_))
        intro z41 hz41
        try replace hz41 := hz41.i64 (by omega)
        refine iL .max [3, 3] [.int .i64 0, .int .i64 z41] (some 42) ?_
        intro z42 hz42
        simp only at hz42
        refine iQ 1 (iE 65 [(2, .p 2 0), (3, .p 3 0), (4, Ia 0), (5, Ia (cmpI (e1 + (nd A : Int)) (e2 + (nd B : Int)))), (6, Ia z36), (7, Ia z42), (18, Ba false), (30, Ba true)] [(2, [Bv s1, Hw A, Lw A, Iv e1]), (3, [Bv s2, Hw B, Lw B, Iv e2])] ?_)
        refine vc_seqr rfl (iQ 2 (iL .min [3, 3] [.int .i64 z36, .int .i64 38] (some 45) ?_))
        intro z45 hz45
        simp only at hz45
        refine iC 90 [.agg [Bv s1, Hw A, Lw A, Iv e1], Iv z45] (some 46) (c_wideOf (n := (e1 - min e1 e2).toNat) (by omega) (by omega) hAB (by omega) (by omega)) ?_
        rintro _ rfl
        refine iQ 2 (iL .min [3, 3] [.int .i64 z42, .int .i64 38] (some 49) ?_)
        intro z49 hz49
        simp only at hz49
        refine iC 90 [.agg [Bv s2, Hw B, Lw B, Iv e2], Iv z49] (some 50) (c_wideOf (n := (e2 - min e1 e2).toNat) (by omega) (by omega) hBB (by omega) (by omega)) ?_
        rintro _ rfl
        refine iQ 4 (iE 65 [(2, .p 2 0), (3, .p 3 0), (4, Ia 0), (5, Ia (cmpI (e1 + (nd A : Int)) (e2 + (nd B : Int)))), (8, .p 8 0), (9, .p 9 0), (18, Ba false), (30, Ba true)] [(2, [Bv s1, Hw A, Lw A, Iv e1]), (3, [Bv s2, Hw B, Lw B, Iv e2]), (8, [Bv s1, Hw (A * 10 ^ (e1 - min e1 e2).toNat / B128), Lw (A * 10 ^ (e1 - min e1 e2).toNat / B128), Hw (A * 10 ^ (e1 - min e1 e2).toNat % B128), Lw (A * 10 ^ (e1 - min e1 e2).toNat % B128), Iv (e1 - ((e1 - min e1 e2).toNat : Int)), Bv false]), (9, [Bv s2, Hw (B * 10 ^ (e2 - min e1 e2).toNat / B128), Lw (B * 10 ^ (e2 - min e1 e2).toNat / B128), Hw (B * 10 ^ (e2 - min e1 e2).toNat % B128), Lw (B * 10 ^ (e2 - min e1 e2).toNat % B128), Iv (e2 - ((e2 - min e1 e2).toNat : Int)), Bv false])] ?_)
        refine vc_reg rfl (iQ 8 (iC 91 [.agg [Hw (A * 10 ^ (e1 - min e1 e2).toNat / B128), Lw (A * 10 ^ (e1 - min e1 e2).toNat / B128)], .agg [Hw (A * 10 ^ (e1 - min e1 e2).toNat % B128), Lw (A * 10 ^ (e1 - min e1 e2).toNat % B128)], .agg [Hw (B * 10 ^ (e2 - min e1 e2).toNat / B128), Lw (B * 10 ^ (e2 - min e1 e2).toNat / B128)], .agg [Hw (B * 10 ^ (e2 - min e1 e2).toNat % B128), Lw (B * 10 ^ (e2 - min e1 e2).toNat % B128)]] (some 59) (cw_CmpN w3 w4) ?_))
        rintro _ rfl
        refine iQ 1 (iE 65 [(2, .p 2 0), (3, .p 3 0), (4, Ia 0), (5, Ia (cmpN (A * 10 ^ (e1 - min e1 e2).toNat) (B * 10 ^ (e2 - min e1 e2).toNat))), (18, Ba false), (30, Ba true)] [(2, [Bv s1, Hw A, Lw A, Iv e1]), (3, [Bv s2, Hw B, Lw B, Iv e2])] ?_)
        refine mid_n hmid (cmpN (A * 10 ^ (e1 - min e1 e2).toNat) (B * 10 ^ (e2 - min e1 e2).toNat), true) (rfl) (by kernel_rfl)
    · replace hz := bt hz
      have hsg : sgnT s1 A ≠ sgnT s2 B ∨ A = 0 := .inr hz
      refine iT (vc_seqr rfl (iQ 1 (iC 39 [.agg [Bv s1, Hw A, Lw A, Iv e1]] (some 20) (c_SignT hAB) ?_)))
      rintro _ rfl
      refine iQ 1 (iC 39 [.agg [Bv s2, Hw B, Lw B, Iv e2]] (some 22) (c_SignT hBB) ?_)
      rintro _ rfl
      refine iC 88 [Iv (sgnT s1 A), Iv (sgnT s2 B)] (some 23) (c_cmpInt) ?_
      rintro _ rfl
      refine iQ 1 (iE 65 [(2, .p 2 0), (3, .p 3 0), (4, Ia (cmpI (sgnT s1 A) (sgnT s2 B))), (18, Ba true)] [(2, [Bv s1, Hw A, Lw A, Iv e1]), (3, [Bv s2, Hw B, Lw B, Iv e2])] ?_)
      refine vc_ret (seq_r (iR (Iv (cmpI (sgnT s1 A) (sgnT s2 B))) ?_))
      rw [cmp_sign hsg]
  · replace hc14 := bt hc14
    refine iQ 3 (iE 65 [(2, .p 2 0), (3, .p 3 0), (4, Ia 0), (18, Ba true)] [(2, [Bv s1, Hw A, Lw A, Iv e1]), (3, [Bv s2, Hw B, Lw B, Iv e2])] ?_)
    have hsg : sgnT s1 A ≠ sgnT s2 B ∨ A = 0 := .inl hc14
    refine iT (vc_seqr rfl (iQ 1 (iC 39 [.agg [Bv s1, Hw A, Lw A, Iv e1]] (some 20) (c_SignT hAB) ?_)))
    rintro _ rfl
    refine iQ 1 (iC 39 [.agg [Bv s2, Hw B, Lw B, Iv e2]] (some 22) (c_SignT hBB) ?_)
    rintro _ rfl
    refine iC 88 [Iv (sgnT s1 A), Iv (sgnT s2 B)] (some 23) (c_cmpInt) ?_
    rintro _ rfl
    refine iQ 1 (iE 65 [(2, .p 2 0), (3, .p 3 0), (4, Ia (cmpI (sgnT s1 A) (sgnT s2 B))), (18, Ba true)] [(2, [Bv s1, Hw A, Lw A, Iv e1]), (3, [Bv s2, Hw B, Lw B, Iv e2])] ?_)
    refine vc_ret (seq_r (iR (Iv (cmpI (sgnT s1 A) (sgnT s2 B))) ?_))
    rw [cmp_sign hsg]

end Go.Proofs.YtjpaedjhihiakaaDoor
