/-
  dec: size, higher, Neg, at. dec.Add, Sub, Cmp.
-/
import Derived.Test.YtbabmopplnbmdaaGreatDoorSumZ
import Derived.Test.YtbabmopplnbmdaaGreatDoorVcY
namespace Go.Proofs.YtbabmopplnbmdaaGreatDoor

open Go.RowKit
set_option linter.unusedVariables false
set_option linter.unusedSimpArgs false
set_option maxRecDepth 100000

theorem c_Neg {g : Bool} {A : Nat} {e : Int} (hA : A < B128) : HasC Tryz.prog 31 [.agg [.v (.bool g), .v (.int .u64 (hiW (A))), .v (.int .u64 (loW (A))), .v (.int .i64 e)]] (fun y => y = dDec (!g && decide (A ≠ 0)) A e) := by
  refine HasC.of [] (fn := Tryz.f31) tyOk mixed (fun args w => Tryz.call31 args w) Tryz.func31 rfl (by kernel_rfl) (Nat.le_of_ble_eq_true rfl) (⟨_, rfl⟩) ?_
  refine vc_seqr rfl (iQ 2 (iE 13 [(1, .p 1 0), (2, .p 2 0)] [(1, [Bv g, Hw A, Lw A, Iv e]), (2, [Bv false, Uv 0, Uv 0, Iv 0])] ?_))
  refine vc_seqr rfl (iQ 2 (iU .not (.bool g) (some 5) ?_))
  intro c5 hc5
  refine iQ 1 ?_
  cases c5
  · replace hc5 := bf hc5
    refine iQ 6 (iE 13 [(1, .p 1 0), (2, .p 2 0)] [(1, [Bv false, Hw A, Lw A, Iv e]), (2, [Bv false, Uv 0, Uv 0, Iv 0])] ?_)
    refine vc_seqr rfl (iQ 2 (iE 13 [(1, .p 1 0), (2, .p 2 0)] [(1, [Bv false, Hw A, Lw A, Iv e]), (2, [Bv false, Hw A, Lw A, Iv e])] ?_))
    refine vc_ret (iR (.agg [Bv false, Hw A, Lw A, Iv e]) ?_)
    have hg : g = true := by simpa using hc5
    rw [hg]; rfl
  · replace hc5 := bt hc5
    refine iQ 1 (iC 62 [.agg [Bv g, Hw A, Lw A, Iv e]] (some 8) (c_Zero hA) ?_)
    rintro _ ⟨z, rfl, hz⟩
    refine iU .not (.bool z) (some 9) ?_
    intro c9 hc9
    refine iQ 3 (iE 13 [(1, .p 1 0), (2, .p 2 0)] [(1, [Bv c9, Hw A, Lw A, Iv e]), (2, [Bv false, Uv 0, Uv 0, Iv 0])] ?_)
    refine vc_seqr rfl (iQ 2 (iE 13 [(1, .p 1 0), (2, .p 2 0)] [(1, [Bv c9, Hw A, Lw A, Iv e]), (2, [Bv c9, Hw A, Lw A, Iv e])] ?_))
    refine vc_ret (iR (.agg [Bv c9, Hw A, Lw A, Iv e]) ?_)
    have hc : (!g && decide (A ≠ 0)) = c9 := by rw [hc5, Bool.eq_iff_iff, hc9]; cases z <;> simp_all
    rw [hc]; rfl

theorem at_fin {A h l j l' : Nat} {e low c : Int} {mo : Bool} (h0 : A * 10 ^ (e - low).toNat = h * B128 + l) (hl : l < B128) (hj : j ≤ (low - e).toNat) (hc : c = low - e - j) (h1 : l' = l / 10 ^ j) (h2 : mo = true ↔ l % 10 ^ j ≠ 0) (h3 : e < low → h = 0) (hs : c ≤ 0 ∨ l' = 0 ∧ 0 < c) :
    atN A e low / B128 = h ∧ atN A e low % B128 = l' ∧ atM A e low = mo := by
  rcases Int.le_total low e with k | k
  · have hJ : (low - e).toNat = 0 := by omega
    have hj0 : j = 0 := by omega
    subst hj0
    obtain ⟨u1, u2⟩ := at_up (A := A) k
    rw [u1, u2, h0]
    refine ⟨(b128_div hl).1, by rw [(b128_div hl).2, h1]; simp, ?_⟩
    have : ¬ mo = true := by rw [h2]; simp [Nat.mod_one]
    cases mo <;> simp_all
  · rw [at_down k]
    by_cases hk : e = low
    · subst hk
      have hj0 : j = 0 := by omega
      subst hj0
      rw [Int.sub_self] at h0 ⊢
      obtain ⟨u1, u2⟩ := at_up (A := A) (Int.le_refl e)
      rw [u2]
      simp at h0 ⊢
      rw [h0]
      refine ⟨(b128_div hl).1, by rw [(b128_div hl).2, h1]; simp, ?_⟩
      have : ¬ mo = true := by rw [h2]; simp [Nat.mod_one]
      cases mo <;> simp_all
    · have hh := h3 (by omega)
      subst hh
      rw [show (e - low).toNat = 0 by omega] at h0
      have hAl : A = l := by omega
      obtain ⟨J, hJ⟩ : ∃ J, (low - e).toNat = J := ⟨_, rfl⟩
      unfold atM
      rw [hJ, hAl]
      rw [hJ] at hj
      have key : l / 10 ^ J = l' ∧ (l % 10 ^ J ≠ 0 ↔ l % 10 ^ j ≠ 0) := by
        rcases hs with hs | ⟨hs, _⟩
        · have : j = J := by omega
          rw [this] at h1 h2 ⊢
          exact ⟨h1.symm, Iff.rfl⟩
        · have hlt : l < 10 ^ j := by
            rcases Nat.lt_or_ge l (10 ^ j) with h | h
            · exact h
            · have := Nat.div_pos h (Nat.pow_pos (by decide))
              omega
          have hlt2 := Nat.lt_of_lt_of_le hlt (Nat.pow_le_pow_right (show 0 < 10 by decide) hj)
          rw [Nat.div_eq_of_lt hlt2, Nat.mod_eq_of_lt hlt, Nat.mod_eq_of_lt hlt2]
          exact ⟨hs.symm, Iff.rfl⟩
      refine ⟨?_, ?_, ?_⟩
      · exact Nat.div_eq_of_lt (Nat.lt_of_le_of_lt (Nat.div_le_self _ _) hl)
      · rw [Nat.mod_eq_of_lt (Nat.lt_of_le_of_lt (Nat.div_le_self _ _) hl), key.1]
      · rw [Bool.eq_iff_iff, h2, decide_eq_true_iff]
        exact key.2
theorem mod_more1 {l j : Nat} {mo mo' : Bool} (h : mo = true ↔ l % 10 ^ j ≠ 0) (hm : mo' = true ↔ mo = true ∨ l / 10 ^ j % 10 ≠ 0) : mo' = true ↔ l % 10 ^ (j + 1) ≠ 0 := by
  rw [hm, h, mod_pow_succ]

theorem mod_more2 {l j x : Nat} {c : Bool} (h : false = true ↔ l % 10 ^ j ≠ 0) (hc : c = true ↔ ((x : Nat) : Int) ≠ 0) (hx : x = l / 10 ^ j % 10) : c = true ↔ l % 10 ^ (j + 1) ≠ 0 := by
  refine mod_more1 h ?_
  rw [hc, ← hx]
  constructor
  · intro k
    exact .inr (by omega)
  · rintro (k | k)
    · cases k
    · omega



open Go.RowKit
set_option linter.unusedVariables false
set_option linter.unusedSimpArgs false
set_option maxRecDepth 100000

theorem AddPre.low {A B : Nat} {e1 e2 low : Int} (p : AddPre A B e1 e2 low) (h1 : -10000000000000000 ≤ e1) (h2 : -10000000000000000 ≤ e2) : -10000000000000100 ≤ low := by
  by_cases h : A = 0
  · have := p.z h
    omega
  · have := p.nz h
    omega
theorem cw_AddN {X Y : Nat} (hX : X < 10 ^ 70) (hY : Y < 10 ^ 70) : HasC Tryz.prog 81 [dU (X / B128), dU (X % B128), dU (Y / B128), dU (Y % B128)] (fun y => y = .tup [dU ((X + Y) / B128), dU ((X + Y) % B128), .v (.int .u64 0)]) := by
  have e := cw_Add2 (a := X / B128) (c := X % B128) (b := Y / B128) (d := Y % B128) (Nat.div_lt_of_lt_mul (Nat.lt_trans hX (by decide))) (mod_lt128 _) (Nat.div_lt_of_lt_mul (Nat.lt_trans hY (by decide))) (mod_lt128 _)
  have hs : X + Y < B128 * B128 := Nat.lt_of_lt_of_le (Nat.add_lt_add hX hY) (by decide)
  rw [Nat.div_add_mod', Nat.div_add_mod', Nat.mod_eq_of_lt (Nat.div_lt_of_lt_mul hs), Nat.div_eq_of_lt hs] at e
  exact e
theorem at_room {b : Nat} {x low : Int} (hb : b < E34) (h : atN b x low < 10 ^ 70) : b * 10 ^ (x - low).toNat < B128 * B128 := by
  rcases Int.le_total low x with k | k
  · rw [← (at_up k).1]
    exact Nat.lt_trans h (by decide)
  · rw [show (x - low).toNat = 0 by omega, Nat.pow_zero, Nat.mul_one]
    exact Nat.lt_trans hb (by decide)
theorem hi_no {A B : Nat} {e1 e2 : Int} (h : ¬ (B ≠ 0 ∧ (A = 0 ∨ e1 + nd A < e2 + nd B))) : B = 0 ∨ (A ≠ 0 ∧ e2 + nd B ≤ e1 + nd A) := by
  by_cases hB : B = 0
  · exact .inl hB
  · exact .inr ⟨fun k => h ⟨hB, .inl k⟩, Int.not_lt.1 fun k => h ⟨hB, .inr k⟩⟩
theorem hi_yes {A B : Nat} {e1 e2 : Int} (h : B ≠ 0 ∧ (A = 0 ∨ e1 + nd A < e2 + nd B)) : A = 0 ∨ (B ≠ 0 ∧ e1 + nd A ≤ e2 + nd B) := by
  rcases h.2 with k | k
  · exact .inl k
  · exact .inr ⟨h.1, by omega⟩

theorem sgn_same {s1 s2 : Bool} {A B : Nat} (hA : A ≠ 0) (h : sgnT s1 A = sgnT s2 B) : B ≠ 0 ∧ s1 = s2 := by
  unfold sgnT at h
  rw [if_neg hA] at h
  by_cases hB : B = 0
  · rw [if_pos hB] at h
    cases s1 <;> simp at h
  · rw [if_neg hB] at h
    refine ⟨hB, ?_⟩
    cases s1 <;> cases s2 <;> simp at h ⊢
theorem size_same {A B : Nat} {e1 e2 : Int} (hA : A < E34) (hB : B < E34) (hA0 : A ≠ 0) (hB0 : B ≠ 0) (h : cmpI (e1 + nd A) (e2 + nd B) = 0) : (e1 - min e1 e2).toNat ≤ 33 ∧ (e2 - min e1 e2).toNat ≤ 33 ∧ A * 10 ^ (e1 - min e1 e2).toNat < 10 ^ 70 ∧ B * 10 ^ (e2 - min e1 e2).toNat < 10 ^ 70 := by
  have h0 := cmpI_eq.1 h
  have h1 := nd_le 34 A hA
  have h2 := nd_le 34 B hB
  have h3 := nd_one_le hA0
  have h4 := nd_one_le hB0
  have key : ∀ {A x : Nat}, nd A ≤ 34 → x ≤ 33 → A * 10 ^ x < 10 ^ 70 := by
    intro A x h1 h2
    have h3 := Nat.mul_lt_mul_of_pos_right (lt_nd A) (show 0 < 10 ^ x from Nat.pow_pos (by decide))
    rw [← Nat.pow_add] at h3
    exact Nat.lt_of_lt_of_le h3 (Nat.pow_le_pow_right (by decide) (by omega))
  exact ⟨by omega, by omega, key h1 (by omega), key h2 (by omega)⟩

end Go.Proofs.YtbabmopplnbmdaaGreatDoor
