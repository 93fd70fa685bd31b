/-
  dec: size, higher, Neg, at. dec.Add, Sub, Cmp. The reference's sums and order: casuistref02. dec.Whole.
-/
import Derived.Test.YtimpaejpokkdnaaGreatDoorSumZ
import Derived.Test.YtimpaejpokkdnaaGreatDoorVcY
namespace Go.Proofs.YtimpaejpokkdnaaGreatDoor

open Go.RowKit
set_option linter.unusedVariables false
set_option linter.unusedSimpArgs false
set_option maxRecDepth 100000

theorem c_size {g : Bool} {A : Nat} {e : Int} (hA : A < B128) (h1 : -100000000000000000 ≤ e) (h2 : e ≤ 100000000000000000) : HasC Tryz.prog 70 [.agg [.v (.bool g), .v (.int .u64 (hiW (A))), .v (.int .u64 (loW (A))), .v (.int .i64 e)]] (fun y => y = .v (.int .i64 (e + (nd A : Int)))) := by
  refine HasC.of [] (fn := Tryz.f70) tyOk mixed (fun args w => Tryz.call70 args w) Tryz.func70 rfl (by kernel_rfl) (Nat.le_of_ble_eq_true rfl) (⟨_, rfl⟩) ?_
  refine vc_seqr rfl (iQ 2 (iE 10 [(1, .p 1 0), (2, Ia 0)] [(1, [Bv g, Hw A, Lw A, Iv e])] ?_))
  refine vc_seqr rfl (iQ 5 (iC 77 [.agg [Uv 0, Uv 0], .agg [Hw A, Lw A]] (some 8) (cw_Digits0 hA) ?_))
  rintro _ rfl
  have hn : nd A ≤ 39 := nd_le _ _ (Nat.lt_trans hA (by decide))
  refine iB .add 3 (.int .i64 e) (.int .i64 ((nd A : Int))) (some 9) ?_
  intro z9 hz9
  try replace hz9 := hz9.i64 (by omega)
  refine iQ 1 (iE 10 [(2, Ia z9)] [] ?_)
  refine vc_ret (iR (Iv z9) ?_)
  rw [← hz9]

theorem at_fin {A h l j l' : Nat} {e low c : Int} {mo : Bool} (h0 : A * 10 ^ (e - low).toNat = h * B128 + l) (hl : l < B128) (hj : j ≤ (low - e).toNat) (hc : c = low - e - j) (h1 : l' = l / 10 ^ j) (h2 : mo = true ↔ l % 10 ^ j ≠ 0) (h3 : e < low → h = 0) (hs : c ≤ 0 ∨ l' = 0 ∧ 0 < c) :
    atN A e low / B128 = h ∧ atN A e low % B128 = l' ∧ atM A e low = mo := by
  rcases Int.le_total low e with k | k
  · have hJ : (low - e).toNat = 0 := by omega
    have hj0 : j = 0 := by omega
    subst hj0
    obtain ⟨u1, u2⟩ := at_up (A := A) k
    rw [u1, u2, h0]
    refine ⟨(b128_div hl).1, by rw [(b128_div hl).2, h1]; simp, ?_⟩
    have : ¬ mo = true := by rw [h2]; simp [Nat.mod_one]
    cases mo <;> simp_all
  · rw [at_down k]
    by_cases hk : e = low
    · subst hk
      have hj0 : j = 0 := by omega
      subst hj0
      rw [Int.sub_self] at h0 ⊢
      obtain ⟨u1, u2⟩ := at_up (A := A) (Int.le_refl e)
      rw [u2]
      simp at h0 ⊢
      rw [h0]
      refine ⟨(b128_div hl).1, by rw [(b128_div hl).2, h1]; simp, ?_⟩
      have : ¬ mo = true := by rw [h2]; simp [Nat.mod_one]
      cases mo <;> simp_all
    · have hh := h3 (by omega)
      subst hh
      rw [show (e - low).toNat = 0 by omega] at h0
      have hAl : A = l := by omega
      obtain ⟨J, hJ⟩ : ∃ J, (low - e).toNat = J := ⟨_, rfl⟩
      unfold atM
      rw [hJ, hAl]
      rw [hJ] at hj
      have key : l / 10 ^ J = l' ∧ (l % 10 ^ J ≠ 0 ↔ l % 10 ^ j ≠ 0) := by
        rcases hs with hs | ⟨hs, _⟩
        · have : j = J := by omega
          rw [this] at h1 h2 ⊢
          exact ⟨h1.symm, Iff.rfl⟩
        · have hlt : l < 10 ^ j := by
            rcases Nat.lt_or_ge l (10 ^ j) with h | h
            · exact h
            · have := Nat.div_pos h (Nat.pow_pos (by decide))
              omega
          have hlt2 := Nat.lt_of_lt_of_le hlt (Nat.pow_le_pow_right (show 0 < 10 by decide) hj)
          rw [Nat.div_eq_of_lt hlt2, Nat.mod_eq_of_lt hlt, Nat.mod_eq_of_lt hlt2]
          exact ⟨hs.symm, Iff.rfl⟩
      refine ⟨?_, ?_, ?_⟩
      · exact Nat.div_eq_of_lt (Nat.lt_of_le_of_lt (Nat.div_le_self _ _) hl)
      · rw [Nat.mod_eq_of_lt (Nat.lt_of_le_of_lt (Nat.div_le_self _ _) hl), key.1]
      · rw [Bool.eq_iff_iff, h2, decide_eq_true_iff]
        exact key.2
theorem mod_more1 {l j : Nat} {mo mo' : Bool} (h : mo = true ↔ l % 10 ^ j ≠ 0) (hm : mo' = true ↔ mo = true ∨ l / 10 ^ j % 10 ≠ 0) : mo' = true ↔ l % 10 ^ (j + 1) ≠ 0 := by
  rw [hm, h, mod_pow_succ]

theorem mod_more2 {l j x : Nat} {c : Bool} (h : false = true ↔ l % 10 ^ j ≠ 0) (hc : c = true ↔ ((x : Nat) : Int) ≠ 0) (hx : x = l / 10 ^ j % 10) : c = true ↔ l % 10 ^ (j + 1) ≠ 0 := by
  refine mod_more1 h ?_
  rw [hc, ← hx]
  constructor
  · intro k
    exact .inr (by omega)
  · rintro (k | k)
    · cases k
    · omega



open Go.RowKit
set_option linter.unusedVariables false
set_option linter.unusedSimpArgs false
set_option maxRecDepth 100000

theorem AddPre.low {A B : Nat} {e1 e2 low : Int} (p : AddPre A B e1 e2 low) (h1 : -10000000000000000 ≤ e1) (h2 : -10000000000000000 ≤ e2) : -10000000000000100 ≤ low := by
  by_cases h : A = 0
  · have := p.z h
    omega
  · have := p.nz h
    omega
theorem cw_CmpN {X Y : Nat} (hX : X < 10 ^ 70) (hY : Y < 10 ^ 70) : HasC Tryz.prog 72 [dU (X / B128), dU (X % B128), dU (Y / B128), dU (Y % B128)] (fun y => y = .v (.int .i64 (cmpN X Y))) := by
  have e := cw_Cmp2 (a := X / B128) (c := X % B128) (b := Y / B128) (d := Y % B128) (Nat.div_lt_of_lt_mul (Nat.lt_trans hX (by decide))) (mod_lt128 _) (Nat.div_lt_of_lt_mul (Nat.lt_trans hY (by decide))) (mod_lt128 _)
  rw [Nat.div_add_mod', Nat.div_add_mod'] at e
  exact e
theorem at_room {b : Nat} {x low : Int} (hb : b < E34) (h : atN b x low < 10 ^ 70) : b * 10 ^ (x - low).toNat < B128 * B128 := by
  rcases Int.le_total low x with k | k
  · rw [← (at_up k).1]
    exact Nat.lt_trans h (by decide)
  · rw [show (x - low).toNat = 0 by omega, Nat.pow_zero, Nat.mul_one]
    exact Nat.lt_trans hb (by decide)
theorem hi_no {A B : Nat} {e1 e2 : Int} (h : ¬ (B ≠ 0 ∧ (A = 0 ∨ e1 + nd A < e2 + nd B))) : B = 0 ∨ (A ≠ 0 ∧ e2 + nd B ≤ e1 + nd A) := by
  by_cases hB : B = 0
  · exact .inl hB
  · exact .inr ⟨fun k => h ⟨hB, .inl k⟩, Int.not_lt.1 fun k => h ⟨hB, .inr k⟩⟩
theorem hi_yes {A B : Nat} {e1 e2 : Int} (h : B ≠ 0 ∧ (A = 0 ∨ e1 + nd A < e2 + nd B)) : A = 0 ∨ (B ≠ 0 ∧ e1 + nd A ≤ e2 + nd B) := by
  rcases h.2 with k | k
  · exact .inl k
  · exact .inr ⟨h.1, by omega⟩

theorem c_cmpInt {x y : Int} : HasC Tryz.prog 69 [.v (.int .i64 x), .v (.int .i64 y)] (fun r => r = .v (.int .i64 (cmpI x y))) := by
  refine HasC.of [] (fn := Tryz.f69) tyOk mixed (fun args w => Tryz.call69 args w) Tryz.func69 rfl (by kernel_rfl) (Nat.le_of_ble_eq_true rfl) (⟨_, rfl⟩) ?_
  refine vc_seqr rfl (iQ 1 (iE 13 [(0, Ia x), (1, Ia y), (4, Ia 0)] [] ?_))
  refine vc_seq (vc_block (vc_seqr rfl (iQ 2 (iB .lss 3 (.int .i64 x) (.int .i64 y) (some 8) ?_))))
  intro c8 hc8
  refine iQ 1 (iE 13 [(0, Ia x), (1, Ia y), (4, Ia 0), (5, Ba c8)] [] ?_)
  cases c8
  · replace hc8 := bf hc8
    refine iF (vc_seqr rfl (iQ 2 (iB .gtr 3 (.int .i64 x) (.int .i64 y) (some 12) ?_)))
    intro c12 hc12
    refine iQ 1 (iE 13 [(0, Ia x), (1, Ia y), (4, Ia 0), (5, Ba false), (9, Ba c12)] [] ?_)
    cases c12
    · replace hc12 := bf hc12
      refine iF (vc_skip (block_n (seq_n (vc_seqr rfl (iQ 1 (iE 13 [(0, Ia x), (1, Ia y), (4, Ia 0), (5, Ba false), (9, Ba false)] [] ?_))))))
      refine vc_ret (iR (Iv 0) ?_)
      rw [cmpI, if_neg hc8, if_pos (by omega)]
    · replace hc12 := bt hc12
      refine iT (vc_seqr rfl (iQ 1 (iE 13 [(0, Ia x), (1, Ia y), (4, Ia 1), (5, Ba false), (9, Ba true)] [] ?_)))
      refine vc_ret (block_r (seq_r (iR (Iv 1) ?_)))
      rw [cmpI, if_neg hc8, if_neg (by omega)]
  · replace hc8 := bt hc8
    refine iT (vc_seqr rfl (iQ 1 (iE 13 [(0, Ia x), (1, Ia y), (4, Ia (-1)), (5, Ba true)] [] ?_)))
    refine vc_ret (block_r (seq_r (iR (Iv (-1)) ?_)))
    rw [cmpI, if_pos hc8]

theorem c_wideOf {s : Bool} {A n : Nat} {e X : Int} (hX : X = (n : Int)) (hn : n ≤ 38) (hA : A < B128) (h1 : -100000000000000000 ≤ e) (h2 : e ≤ 100000000000000000) : HasC Tryz.prog 71 [.agg [.v (.bool s), .v (.int .u64 (hiW (A))), .v (.int .u64 (loW (A))), .v (.int .i64 e)], .v (.int .i64 X)] (fun y => y = dWide s (A * 10 ^ n / B128) (A * 10 ^ n % B128) (e - n) false) := by
  refine HasC.of [] (fn := Tryz.f71) tyOk mixed (fun args w => Tryz.call71 args w) Tryz.func71 rfl (by kernel_rfl) (Nat.le_of_ble_eq_true rfl) (⟨_, rfl⟩) ?_
  have hXn : X.toNat = n := by omega
  refine vc_seqr rfl (iQ 2 (iE 30 [(1, Ia X), (2, .p 2 0), (4, .p 4 0)] [(2, [Bv s, Hw A, Lw A, Iv e]), (4, [Bv false, Uv 0, Uv 0, Uv 0, Uv 0, Iv 0, Bv false])] ?_))
  refine vc_seqr rfl (iQ 1 (iC 50 [Iv X] (some 11) (cw_Ten (k := X) (by omega) (by omega)) ?_))
  rintro _ rfl
  have ht : 10 ^ X.toNat < B128 := Nat.lt_of_le_of_lt (Nat.pow_le_pow_right (by decide) (show X.toNat ≤ 38 by omega)) (by decide)
  refine iQ 6 (iE 30 [(1, Ia X), (2, .p 2 0), (4, .p 4 0), (5, .p 5 0)] [(2, [Bv s, Hw A, Lw A, Iv e]), (4, [Bv false, Uv 0, Uv 0, Uv 0, Uv 0, Iv 0, Bv false]), (5, [Hw (10 ^ X.toNat), Lw (10 ^ X.toNat)])] ?_)
  refine vc_seqr rfl (iQ 3 (iC 78 [.agg [Hw A, Lw A], .agg [Hw (10 ^ X.toNat), Lw (10 ^ X.toNat)]] (some 18) (cw_Mul hA ht) ?_))
  rintro _ rfl
  refine iQ 7 (iE 30 [(1, Ia X), (2, .p 2 0), (4, .p 4 0), (5, .p 5 0), (7, .p 7 0), (8, .p 8 0)] [(2, [Bv s, Hw A, Lw A, Iv e]), (4, [Bv false, Uv 0, Uv 0, Uv 0, Uv 0, Iv 0, Bv false]), (5, [Hw (10 ^ X.toNat), Lw (10 ^ X.toNat)]), (7, [Hw (A * 10 ^ X.toNat / B128), Lw (A * 10 ^ X.toNat / B128)]), (8, [Hw (A * 10 ^ X.toNat % B128), Lw (A * 10 ^ X.toNat % B128)])] ?_)
  refine vc_seqr rfl (iQ 7 (iB .sub 3 (.int .i64 e) (.int .i64 X) (some 28) ?_))
  intro z28 hz28
  try replace hz28 := hz28.i64 (by omega)
  refine iQ 2 (iE 30 [(1, Ia X), (2, .p 2 0), (4, .p 4 0), (5, .p 5 0), (7, .p 7 0), (8, .p 8 0)] [(2, [Bv s, Hw A, Lw A, Iv e]), (4, [Bv s, Hw (A * 10 ^ X.toNat / B128), Lw (A * 10 ^ X.toNat / B128), Hw (A * 10 ^ X.toNat % B128), Lw (A * 10 ^ X.toNat % B128), Iv z28, Bv false]), (5, [Hw (10 ^ X.toNat), Lw (10 ^ X.toNat)]), (7, [Hw (A * 10 ^ X.toNat / B128), Lw (A * 10 ^ X.toNat / B128)]), (8, [Hw (A * 10 ^ X.toNat % B128), Lw (A * 10 ^ X.toNat % B128)])] ?_)
  refine vc_ret (iR (.agg [Bv s, Hw (A * 10 ^ X.toNat / B128), Lw (A * 10 ^ X.toNat / B128), Hw (A * 10 ^ X.toNat % B128), Lw (A * 10 ^ X.toNat % B128), Iv z28, Bv false]) ?_)
  rw [hXn, show e - (n : Int) = z28 by omega]; rfl

theorem c_SignT {g : Bool} {a : Nat} {x : Int} (ha : a < B128) : HasC Tryz.prog 67 [dDec g a x] (fun y => y = .v (.int .i64 (sgnT g a))) := c_Sign ha
theorem sgn_same {s1 s2 : Bool} {A B : Nat} (hA : A ≠ 0) (h : sgnT s1 A = sgnT s2 B) : B ≠ 0 ∧ s1 = s2 := by
  unfold sgnT at h
  rw [if_neg hA] at h
  by_cases hB : B = 0
  · rw [if_pos hB] at h
    cases s1 <;> simp at h
  · rw [if_neg hB] at h
    refine ⟨hB, ?_⟩
    cases s1 <;> cases s2 <;> simp at h ⊢
theorem size_same {A B : Nat} {e1 e2 : Int} (hA : A < E34) (hB : B < E34) (hA0 : A ≠ 0) (hB0 : B ≠ 0) (h : cmpI (e1 + nd A) (e2 + nd B) = 0) : (e1 - min e1 e2).toNat ≤ 33 ∧ (e2 - min e1 e2).toNat ≤ 33 ∧ A * 10 ^ (e1 - min e1 e2).toNat < 10 ^ 70 ∧ B * 10 ^ (e2 - min e1 e2).toNat < 10 ^ 70 := by
  have h0 := cmpI_eq.1 h
  have h1 := nd_le 34 A hA
  have h2 := nd_le 34 B hB
  have h3 := nd_one_le hA0
  have h4 := nd_one_le hB0
  have key : ∀ {A x : Nat}, nd A ≤ 34 → x ≤ 33 → A * 10 ^ x < 10 ^ 70 := by
    intro A x h1 h2
    have h3 := Nat.mul_lt_mul_of_pos_right (lt_nd A) (show 0 < 10 ^ x from Nat.pow_pos (by decide))
    rw [← Nat.pow_add] at h3
    exact Nat.lt_of_lt_of_le h3 (Nat.pow_le_pow_right (by decide) (by omega))
  exact ⟨by omega, by omega, key h1 (by omega), key h2 (by omega)⟩

set_option maxHeartbeats 1600000 in
theorem c_decCmp {s1 s2 : Bool} {A B : Nat} {e1 e2 : Int} (hA : A < E34) (hB : B < E34) (h1 : -10000000000000000 ≤ e1) (h2 : e1 ≤ 10000000000000000) (h3 : -10000000000000000 ≤ e2) (h4 : e2 ≤ 10000000000000000) : HasC Tryz.prog 55 [.agg [.v (.bool s1), .v (.int .u64 (hiW (A))), .v (.int .u64 (loW (A))), .v (.int .i64 e1)], .agg [.v (.bool s2), .v (.int .u64 (hiW (B))), .v (.int .u64 (loW (B))), .v (.int .i64 e2)]] (fun y => y = .v (.int .i64 (cmpZ s1 A e1 s2 B e2))) := by
  refine HasC.of [] (fn := Tryz.f55) tyOk mixed (fun args w => Tryz.call55 args w) Tryz.func55 rfl (by kernel_rfl) (Nat.le_of_ble_eq_true rfl) (⟨_, rfl⟩) ?_
  have hAB := Nat.lt_trans hA e34_lt; have hBB := Nat.lt_trans hB e34_lt
  have hna := nd_le 34 A hA; have hnb := nd_le 34 B hB
  refine vc_seqr rfl (iQ 3 (iE 65 [(2, .p 2 0), (3, .p 3 0), (4, Ia 0)] [(2, [Bv s1, Hw A, Lw A, Iv e1]), (3, [Bv s2, Hw B, Lw B, Iv e2])] ?_))
  refine vc_seq (vc_seqr rfl (iQ 1 (iC 67 [.agg [Bv s1, Hw A, Lw A, Iv e1]] (some 11) (c_SignT hAB) ?_)))
  rintro _ rfl
  refine iQ 1 (iC 67 [.agg [Bv s2, Hw B, Lw B, Iv e2]] (some 13) (c_SignT hBB) ?_)
  rintro _ rfl
  refine iB .neq 3 (.int .i64 (sgnT s1 A)) (.int .i64 (sgnT s2 B)) (some 14) ?_
  intro c14 hc14
  refine iQ 1 ?_
  cases c14
  · replace hc14 := bf hc14
    refine iQ 1 (iC 68 [.agg [Bv s1, Hw A, Lw A, Iv e1]] (some 17) (c_Zero hAB) ?_)
    rintro _ ⟨z, rfl, hz⟩
    refine iQ 1 (iE 65 [(2, .p 2 0), (3, .p 3 0), (4, Ia 0), (18, Ba z)] [(2, [Bv s1, Hw A, Lw A, Iv e1]), (3, [Bv s2, Hw B, Lw B, Iv e2])] ?_)
    cases z
    · replace hz := bf hz
      have hss : sgnT s1 A = sgnT s2 B := Decidable.not_not.1 hc14
      obtain ⟨hB0, hs12⟩ := sgn_same hz hss
      refine iF (vc_skip (seq_n (vc_seqr rfl (iQ 1 (iC 70 [.agg [Bv s1, Hw A, Lw A, Iv e1]] (some 25) (c_size hAB (by omega) (by omega)) ?_)))))
      rintro _ rfl
      refine iQ 1 (iC 70 [.agg [Bv s2, Hw B, Lw B, Iv e2]] (some 27) (c_size hBB (by omega) (by omega)) ?_)
      rintro _ rfl
      refine iC 69 [Iv (e1 + (nd A : Int)), Iv (e2 + (nd B : Int))] (some 28) (c_cmpInt) ?_
      rintro _ rfl
      refine iQ 1 (iE 65 [(2, .p 2 0), (3, .p 3 0), (4, Ia 0), (5, Ia (cmpI (e1 + (nd A : Int)) (e2 + (nd B : Int)))), (18, Ba false)] [(2, [Bv s1, Hw A, Lw A, Iv e1]), (3, [Bv s2, Hw B, Lw B, Iv e2])] ?_)
      refine vc_mid 65 (fun (vcx : Int × Bool) => match vcx with | (c, vb30) => [(2, .p 2 0), (3, .p 3 0), (4, Ia 0), (5, Ia c), (18, Ba false), (30, Ba vb30)]) (fun (vcx : Int × Bool) => match vcx with | (c, vb30) => [(2, [Bv s1, Hw A, Lw A, Iv e1]), (3, [Bv s2, Hw B, Lw B, Iv e2])]) (fun (vcx : Int × Bool) => match vcx with | (c, vb30) => c = cmpN (A * 10 ^ (e1 - min e1 e2).toNat) (B * 10 ^ (e2 - min e1 e2).toNat)) ?_ ?_
      · rintro ⟨c, vb30⟩ hinv
        simp only at hinv
        have hcr : -1 ≤ c ∧ c ≤ 1 := by rw [hinv, cmpN_I]; unfold cmpI; split <;> (try split) <;> omega
        have hcs := @cmp_same s1 A B e1 e2
        refine vc_seq (vc_seqr rfl (iQ 2 (iE 65 [(2, .p 2 0), (3, .p 3 0), (4, Ia 0), (5, Ia c), (18, Ba false), (30, Ba vb30), (61, Ba s1)] [(2, [Bv s1, Hw A, Lw A, Iv e1]), (3, [Bv s2, Hw B, Lw B, Iv e2])] ?_)))
        cases s1
        · skip
          refine iF (vc_skip (seq_n (vc_seqr rfl (iQ 2 (iE 65 [(2, .p 2 0), (3, .p 3 0), (4, Ia c), (5, Ia c), (18, Ba false), (30, Ba vb30), (61, Ba false)] [(2, [Bv false, Hw A, Lw A, Iv e1]), (3, [Bv s2, Hw B, Lw B, Iv e2])] ?_)))))
          refine vc_ret (iR (Iv c) ?_)
          rw [← hs12, hcs, ← hinv]; rfl
        · skip
          refine iT (vc_seqr rfl (iQ 1 (iU .neg (.int .i64 c) (some 63) ?_)))
          intro z63 hz63
          try replace hz63 := hz63.i64 (by omega)
          refine iQ 1 (iE 65 [(2, .p 2 0), (3, .p 3 0), (4, Ia z63), (5, Ia c), (18, Ba false), (30, Ba vb30), (61, Ba true)] [(2, [Bv true, Hw A, Lw A, Iv e1]), (3, [Bv s2, Hw B, Lw B, Iv e2])] ?_)
          refine vc_ret (seq_r (iR (Iv z63) ?_))
          rw [← hs12, hcs, ← hinv, if_pos rfl, hz63, Int.zero_sub]
      intro hmid
      refine vc_seqr rfl (iQ 1 (iB .eql 3 (.int .i64 (cmpI (e1 + (nd A : Int)) (e2 + (nd B : Int)))) (.int .i64 0) (some 30) ?_))
      intro c30 hc30
      refine iE 65 [(2, .p 2 0), (3, .p 3 0), (4, Ia 0), (5, Ia (cmpI (e1 + (nd A : Int)) (e2 + (nd B : Int)))), (18, Ba false), (30, Ba c30)] [(2, [Bv s1, Hw A, Lw A, Iv e1]), (3, [Bv s2, Hw B, Lw B, Iv e2])] ?_
      cases c30
      · replace hc30 := bf hc30
        refine iF (vc_skip ?_)
        refine mid_n hmid (cmpI (e1 + (nd A : Int)) (e2 + (nd B : Int)), false) ((cmp_size hz hB0 (fun h => hc30 (cmpI_eq.2 h))).symm) (by kernel_rfl)
      · replace hc30 := bt hc30
        obtain ⟨w1, w2, w3, w4⟩ := size_same hA hB hz hB0 hc30
        refine iT (vc_seqr rfl (iQ 4 (iB .sub 3 (.int .i64 e1) (.int .i64 e2) (some 35) ?_)))
        intro z35 hz35
        try replace hz35 := hz35.i64 (by omega)
        refine iL .max [3, 3] [.int .i64 0, .int .i64 z35] (some 36) ?_
        intro z36 hz36
        simp only at hz36
        refine iQ 1 (iE 65 [(2, .p 2 0), (3, .p 3 0), (4, Ia 0), (5, Ia (cmpI (e1 + (nd A : Int)) (e2 + (nd B : Int)))), (6, Ia z36), (18, Ba false), (30, Ba true)] [(2, [Bv s1, Hw A, Lw A, Iv e1]), (3, [Bv s2, Hw B, Lw B, Iv e2])] ?_)
        refine vc_seqr rfl (iQ 4 (iB .sub 3 (.int .i64 e2) (.int .i64 e1) (some 41) ?_))
        intro z41 hz41
        try replace hz41 := hz41.i64 (by omega)
        refine iL .max [3, 3] [.int .i64 0, .int .i64 z41] (some 42) ?_
        intro z42 hz42
        simp only at hz42
        refine iQ 1 (iE 65 [(2, .p 2 0), (3, .p 3 0), (4, Ia 0), (5, Ia (cmpI (e1 + (nd A : Int)) (e2 + (nd B : Int)))), (6, Ia z36), (7, Ia z42), (18, Ba false), (30, Ba true)] [(2, [Bv s1, Hw A, Lw A, Iv e1]), (3, [Bv s2, Hw B, Lw B, Iv e2])] ?_)
        refine vc_seqr rfl (iQ 2 (iL .min [3, 3] [.int .i64 z36, .int .i64 38] (some 45) ?_))
        intro z45 hz45
        simp only at hz45
        refine iC 71 [.agg [Bv s1, Hw A, Lw A, Iv e1], Iv z45] (some 46) (c_wideOf (n := (e1 - min e1 e2).toNat) (by omega) (by omega) hAB (by omega) (by omega)) ?_
        rintro _ rfl
        refine iQ 2 (iL .min [3, 3] [.int .i64 z42, .int .i64 38] (some 49) ?_)
        intro z49 hz49
        simp only at hz49
        refine iC 71 [.agg [Bv s2, Hw B, Lw B, Iv e2], Iv z49] (some 50) (c_wideOf (n := (e2 - min e1 e2).toNat) (by omega) (by omega) hBB (by omega) (by omega)) ?_
        rintro _ rfl
        refine iQ 4 (iE 65 [(2, .p 2 0), (3, .p 3 0), (4, Ia 0), (5, Ia (cmpI (e1 + (nd A : Int)) (e2 + (nd B : Int)))), (8, .p 8 0), (9, .p 9 0), (18, Ba false), (30, Ba true)] [(2, [Bv s1, Hw A, Lw A, Iv e1]), (3, [Bv s2, Hw B, Lw B, Iv e2]), (8, [Bv s1, Hw (A * 10 ^ (e1 - min e1 e2).toNat / B128), Lw (A * 10 ^ (e1 - min e1 e2).toNat / B128), Hw (A * 10 ^ (e1 - min e1 e2).toNat % B128), Lw (A * 10 ^ (e1 - min e1 e2).toNat % B128), Iv (e1 - ((e1 - min e1 e2).toNat : Int)), Bv false]), (9, [Bv s2, Hw (B * 10 ^ (e2 - min e1 e2).toNat / B128), Lw (B * 10 ^ (e2 - min e1 e2).toNat / B128), Hw (B * 10 ^ (e2 - min e1 e2).toNat % B128), Lw (B * 10 ^ (e2 - min e1 e2).toNat % B128), Iv (e2 - ((e2 - min e1 e2).toNat : Int)), Bv false])] ?_)
        refine vc_reg rfl (iQ 8 (iC 72 [.agg [Hw (A * 10 ^ (e1 - min e1 e2).toNat / B128), Lw (A * 10 ^ (e1 - min e1 e2).toNat / B128)], .agg [Hw (A * 10 ^ (e1 - min e1 e2).toNat % B128), Lw (A * 10 ^ (e1 - min e1 e2).toNat % B128)], .agg [Hw (B * 10 ^ (e2 - min e1 e2).toNat / B128), Lw (B * 10 ^ (e2 - min e1 e2).toNat / B128)], .agg [Hw (B * 10 ^ (e2 - min e1 e2).toNat % B128), Lw (B * 10 ^ (e2 - min e1 e2).toNat % B128)]] (some 59) (cw_CmpN w3 w4) ?_))
        rintro _ rfl
        refine iQ 1 (iE 65 [(2, .p 2 0), (3, .p 3 0), (4, Ia 0), (5, Ia (cmpN (A * 10 ^ (e1 - min e1 e2).toNat) (B * 10 ^ (e2 - min e1 e2).toNat))), (18, Ba false), (30, Ba true)] [(2, [Bv s1, Hw A, Lw A, Iv e1]), (3, [Bv s2, Hw B, Lw B, Iv e2])] ?_)
        refine mid_n hmid (cmpN (A * 10 ^ (e1 - min e1 e2).toNat) (B * 10 ^ (e2 - min e1 e2).toNat), true) (rfl) (by kernel_rfl)
    · replace hz := bt hz
      have hsg : sgnT s1 A ≠ sgnT s2 B ∨ A = 0 := .inr hz
      refine iT (vc_seqr rfl (iQ 1 (iC 67 [.agg [Bv s1, Hw A, Lw A, Iv e1]] (some 20) (c_SignT hAB) ?_)))
      rintro _ rfl
      refine iQ 1 (iC 67 [.agg [Bv s2, Hw B, Lw B, Iv e2]] (some 22) (c_SignT hBB) ?_)
      rintro _ rfl
      refine iC 69 [Iv (sgnT s1 A), Iv (sgnT s2 B)] (some 23) (c_cmpInt) ?_
      rintro _ rfl
      refine iQ 1 (iE 65 [(2, .p 2 0), (3, .p 3 0), (4, Ia (cmpI (sgnT s1 A) (sgnT s2 B))), (18, Ba true)] [(2, [Bv s1, Hw A, Lw A, Iv e1]), (3, [Bv s2, Hw B, Lw B, Iv e2])] ?_)
      refine vc_ret (seq_r (iR (Iv (cmpI (sgnT s1 A) (sgnT s2 B))) ?_))
      rw [cmp_sign hsg]
  · replace hc14 := bt hc14
    refine iQ 3 (iE 65 [(2, .p 2 0), (3, .p 3 0), (4, Ia 0), (18, Ba true)] [(2, [Bv s1, Hw A, Lw A, Iv e1]), (3, [Bv s2, Hw B, Lw B, Iv e2])] ?_)
    have hsg : sgnT s1 A ≠ sgnT s2 B ∨ A = 0 := .inl hc14
    refine iT (vc_seqr rfl (iQ 1 (iC 67 [.agg [Bv s1, Hw A, Lw A, Iv e1]] (some 20) (c_SignT hAB) ?_)))
    rintro _ rfl
    refine iQ 1 (iC 67 [.agg [Bv s2, Hw B, Lw B, Iv e2]] (some 22) (c_SignT hBB) ?_)
    rintro _ rfl
    refine iC 69 [Iv (sgnT s1 A), Iv (sgnT s2 B)] (some 23) (c_cmpInt) ?_
    rintro _ rfl
    refine iQ 1 (iE 65 [(2, .p 2 0), (3, .p 3 0), (4, Ia (cmpI (sgnT s1 A) (sgnT s2 B))), (18, Ba true)] [(2, [Bv s1, Hw A, Lw A, Iv e1]), (3, [Bv s2, Hw B, Lw B, Iv e2])] ?_)
    refine vc_ret (seq_r (iR (Iv (cmpI (sgnT s1 A) (sgnT s2 B))) ?_))
    rw [cmp_sign hsg]



open Go.RowKit
set_option linter.unusedVariables false
set_option linter.unusedSimpArgs false
set_option maxRecDepth 100000

def dRD3 (t : Bool × Nat × Int) : DV := dRD t.1 t.2.1 t.2.2
theorem nd_shifted {a n : Nat} (h : nd a ≤ 100) (hn : n ≤ 30000) : nd (a * 10 ^ n) ≤ 30101 := by
  have := nd_up (Nat.le_refl (a * 10 ^ n))
  omega

theorem sum_nd {s1 s2 : Bool} {A B : Nat} {e1 e2 : Int} (hA : nd A ≤ 100) (hB : nd B ≤ 100) (h1 : -14000 ≤ e1) (h2 : e1 ≤ 14000) (h3 : -14000 ≤ e2) (h4 : e2 ≤ 14000) : nd (sumT s1 A e1 s2 B e2).2.1 ≤ 30102 ∧ -14000 ≤ (sumT s1 A e1 s2 B e2).2.2 ∧ (sumT s1 A e1 s2 B e2).2.2 ≤ 14000 := by
  have hnX : nd (A * 10 ^ (e1 - min e1 e2).toNat) ≤ 30101 := nd_shifted hA (by omega)
  have hnY : nd (B * 10 ^ (e2 - min e1 e2).toNat) ≤ 30101 := nd_shifted hB (by omega)
  unfold sumT
  split
  · exact ⟨nd_add hnX hnY, by show -14000 ≤ min e1 e2; omega, by show min e1 e2 ≤ 14000; omega⟩
  · split
    · exact ⟨Nat.le_succ_of_le (Nat.le_trans (nd_mono (Nat.sub_le _ _)) hnX), by show -14000 ≤ min e1 e2; omega, by show min e1 e2 ≤ 14000; omega⟩
    · exact ⟨Nat.le_succ_of_le (Nat.le_trans (nd_mono (Nat.sub_le _ _)) hnY), by show -14000 ≤ min e1 e2; omega, by show min e1 e2 ≤ 14000; omega⟩


open Go.RowKit
set_option linter.unusedVariables false
set_option linter.unusedSimpArgs false
set_option maxRecDepth 100000

/-- A number is the whole number v. -/
def isW (s : Bool) (A : Nat) (e v : Int) : Prop := V s A e (min e 0) = v * ((10 ^ (0 - min e 0).toNat : Nat) : Int)
def inI (v : Int) : Prop := -9223372036854775808 ≤ v ∧ v < 9223372036854775808
theorem isW_fn {s : Bool} {A : Nat} {e v w : Int} (h : isW s A e v) (k : isW s A e w) : v = w := by
  unfold isW at h k
  rw [h] at k
  exact Int.eq_of_mul_eq_mul_right (by have : 0 < 10 ^ (0 - min e 0).toNat := Nat.pow_pos (by decide); omega) k
theorem isW_0 (s : Bool) (e : Int) : isW s 0 e 0 := by
  unfold isW
  rw [V_0, Int.zero_mul]
theorem isW_val {s : Bool} {A p i j : Nat} {e : Int} (hA : A = p * 10 ^ j) (hi : (i : Int) = e + j) : isW s A e (sgnV s (p * 10 ^ i)) := by
  unfold isW V
  rw [hA, ← sgnV_mul, Nat.mul_assoc, Nat.mul_assoc, ← Nat.pow_add, ← Nat.pow_add]
  congr 3
  omega
theorem isW_div {s : Bool} {A : Nat} {e v : Int} (h : isW s A e v) (he : e ≤ 0) : A = v.natAbs * 10 ^ (-e).toNat := by
  unfold isW V sgnV at h
  rw [show min e 0 = e by omega, show (e - e).toNat = 0 by omega, show (0 - e).toNat = (-e).toNat by omega, Nat.pow_zero, Nat.mul_one] at h
  have h2 := congrArg Int.natAbs h
  rw [Int.natAbs_mul, Int.natAbs_natCast] at h2
  rw [← h2]
  split <;> simp
theorem whole_ex (s : Bool) (A : Nat) (e : Int) : ∃ (z : Int) (ok : Bool), (ok = true → isW s A e z ∧ inI z) ∧ (ok = false → z = 0 ∧ ∀ v, isW s A e v → ¬ inI v) := by
  by_cases h : ∃ v, isW s A e v ∧ inI v
  · obtain ⟨v, h1, h2⟩ := h
    exact ⟨v, true, fun _ => ⟨h1, h2⟩, fun h => by cases h⟩
  · exact ⟨0, false, fun h => (by cases h), fun _ => ⟨rfl, fun v h1 h2 => h ⟨v, h1, h2⟩⟩⟩
theorem not_ten {s : Bool} {A p j : Nat} {e : Int} (hA : p * 10 ^ j = A) (hx : e + (j : Int) < 0) (hp : p % 10 ≠ 0) {v : Int} (h : isW s A e v) : False := by
  have h1 := isW_div h (by omega)
  rw [← hA, show (-e).toNat = ((-e).toNat - j - 1) + 1 + j by omega, Nat.pow_add, ← Nat.mul_assoc] at h1
  have h2 := Nat.eq_of_mul_eq_mul_right (Nat.pow_pos (by decide)) h1
  rw [h2, Nat.pow_succ, ← Nat.mul_assoc, Nat.mul_mod_left] at hp
  exact hp rfl
theorem sgn_big {s : Bool} {n : Nat} (h : inI (sgnV s n)) : n ≤ 9223372036854775808 ∧ (s = false → n < 9223372036854775808) := by
  unfold inI sgnV at h
  cases s <;> simp at h ⊢ <;> omega
theorem neg_conv {l z w : Int} (h1 : IntIs .u64 (0 - l) z) (h2 : IntIs .i64 z w) (h3 : 0 ≤ l) (h4 : l ≤ 9223372036854775808) : w = -l := by
  have e1 : z = IntKind.u64.wrap (0 - l) := h1
  have e2 : w = IntKind.i64.wrap z := h2
  rw [wrap_u64] at e1
  rw [e2]
  unfold IntKind.wrap
  simp [IntKind.signed, IntKind.bits]
  split <;> omega
theorem hi_big {n : Nat} : hiW n ≠ 0 ↔ 18446744073709551616 ≤ n := by
  unfold hiW
  omega
theorem lo_own {n : Nat} (h : hiW n = 0) : loW n = (n : Int) := by
  unfold hiW at h
  unfold loW
  omega

theorem div0_lt {n : Nat} (h : n / B128 = 0) : n < B128 := by
  rcases (Nat.div_eq_zero_iff).1 h with k | k
  · exact absurd k (by decide)
  · exact k
theorem div1_ge {n : Nat} (h : n / B128 ≠ 0) : 18446744073709551616 ≤ n := by
  rcases Nat.lt_or_ge n B128 with k | k
  · exact absurd (Nat.div_eq_of_lt k) h
  · exact Nat.le_trans (by decide) k

/-- What the second loop keeps. -/
structure WInv (s : Bool) (A p i j : Nat) (e : Int) (p2 : Nat) (x2 : Int) : Prop where
  a : p * 10 ^ j = A
  z : A = 0 ∨ 0 ≤ e + j
  p : p2 = p * 10 ^ i
  x : x2 = e + j - i
  i : i = 0 ∨ 0 ≤ x2
  b : p2 < B128
theorem WInv.over {s : Bool} {A p i j : Nat} {e : Int} {p2 : Nat} {x2 : Int} (h : WInv s A p i j e p2 x2) (hx : 0 < x2) (hp : p2 ≠ 0) (hb : 18446744073709551616 ≤ p2 * 10) {v : Int} (hv : isW s A e v) : ¬ inI v := by
  obtain ⟨h1, h2, h3, h4, h5, h6⟩ := h
  obtain ⟨d, hd⟩ : ∃ d : Nat, x2 = (d : Int) + 1 := ⟨(x2 - 1).toNat, by omega⟩
  have hw := isW_val (s := s) (A := A) (p := p) (i := i + (d + 1)) (j := j) (e := e) h1.symm (by omega)
  rw [isW_fn hv hw]
  intro hin
  have hs := (sgn_big hin).1
  have hle : p2 * 10 ≤ p * 10 ^ (i + (d + 1)) := by
    rw [Nat.pow_add, ← Nat.mul_assoc, ← h3]
    refine Nat.mul_le_mul_left _ ?_
    rw [Nat.pow_succ]
    have : 0 < 10 ^ d := Nat.pow_pos (by decide)
    omega
  omega
theorem WInv.val {s : Bool} {A p i j : Nat} {e : Int} {p2 : Nat} {x2 : Int} (h : WInv s A p i j e p2 x2) (hx : x2 ≤ 0 ∨ p2 = 0) : isW s A e (sgnV s p2) := by
  obtain ⟨h1, h2, h3, h4, h5, h6⟩ := h
  have hz : p2 = 0 → isW s A e (sgnV s p2) := fun h => by
    have hp : p = 0 := by
      rw [h] at h3
      rcases Nat.mul_eq_zero.1 h3.symm with k | k
      · exact k
      · exact absurd k (Nat.pos_iff_ne_zero.1 (Nat.pow_pos (by decide)))
    rw [hp, Nat.zero_mul] at h1
    rw [h, ← h1, sgnV_0]
    exact isW_0 s e
  by_cases hp : p2 = 0
  · exact hz hp
  · have hA : A ≠ 0 := fun k => by
      rw [k] at h1
      rcases Nat.mul_eq_zero.1 h1 with m | m
      · rw [m, Nat.zero_mul] at h3
        exact hp h3
      · exact absurd m (Nat.pos_iff_ne_zero.1 (Nat.pow_pos (by decide)))
    have := h2.resolve_left hA
    rw [h3]
    exact isW_val h1.symm (by omega)

end Go.Proofs.YtimpaejpokkdnaaGreatDoor
