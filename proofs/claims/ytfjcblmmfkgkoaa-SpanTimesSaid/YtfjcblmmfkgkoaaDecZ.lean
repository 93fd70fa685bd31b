/-
  dec: size, higher, Neg, at. dec.Add, Sub, Cmp. The reference's sums and order: casuistref02. dec.Whole.
-/
import Derived.Test.YtfjcblmmfkgkoaaSumZ
import Derived.Test.YtfjcblmmfkgkoaaVcY
namespace Go.Proofs.Ytfjcblmmfkgkoaa

open Go.RowKit
set_option linter.unusedVariables false
set_option linter.unusedSimpArgs false
set_option maxRecDepth 100000

theorem c_size {g : Bool} {A : Nat} {e : Int} (hA : A < B128) (h1 : -100000000000000000 ≤ e) (h2 : e ≤ 100000000000000000) : HasC Try.prog 71 [.agg [.v (.bool g), .v (.int .u64 (hiW (A))), .v (.int .u64 (loW (A))), .v (.int .i64 e)]] (fun y => y = .v (.int .i64 (e + (nd A : Int)))) := by
  refine HasC.of [] (fn := Try.f71) tyOk mixed (fun args w => Try.call71 args w) Try.func71 rfl (by kernel_rfl) (Nat.le_of_ble_eq_true rfl) (⟨_, rfl⟩) ?_
  refine vc_seqr rfl (iQ 2 (iE 10 [(1, .p 1 0), (2, Ia 0)] [(1, [Bv g, Hw A, Lw A, Iv e])] ?_))
  refine vc_seqr rfl (iQ 5 (iC 103 [.agg [Uv 0, Uv 0], .agg [Hw A, Lw A]] (some 8) (cw_Digits0 hA) ?_))
  rintro _ rfl
  have hn : nd A ≤ 39 := nd_le _ _ (Nat.lt_trans hA (by decide))
  refine iB .add 3 (.int .i64 e) (.int .i64 ((nd A : Int))) (some 9) ?_
  intro z9 hz9
  try replace hz9 := hz9.i64 (by omega)
  refine iQ 1 (iE 10 [(2, Ia z9)] [] ?_)
  refine vc_ret (iR (Iv z9) ?_)
  rw [← hz9]

theorem c_higher {g1 g2 : Bool} {A B : Nat} {e1 e2 : Int} (hA : A < B128) (hB : B < B128) (h1 : -100000000000000000 ≤ e1) (h2 : e1 ≤ 100000000000000000) (h3 : -100000000000000000 ≤ e2) (h4 : e2 ≤ 100000000000000000) : HasC Try.prog 79 [.agg [.v (.bool g1), .v (.int .u64 (hiW (A))), .v (.int .u64 (loW (A))), .v (.int .i64 e1)], .agg [.v (.bool g2), .v (.int .u64 (hiW (B))), .v (.int .u64 (loW (B))), .v (.int .i64 e2)]] (fun y => ∃ b, y = .v (.bool b) ∧ (b = true ↔ A ≠ 0 ∧ (B = 0 ∨ e2 + nd B < e1 + nd A))) := by
  refine HasC.of [] (fn := Try.f79) tyOk mixed (fun args w => Try.call79 args w) Try.func79 rfl (by kernel_rfl) (Nat.le_of_ble_eq_true rfl) (⟨_, decide (A ≠ 0 ∧ (B = 0 ∨ e2 + nd B < e1 + nd A)), rfl, by simp⟩) ?_
  refine vc_seqr rfl (iQ 3 (iE 19 [(2, .p 2 0), (3, .p 3 0), (4, Ba false)] [(2, [Bv g1, Hw A, Lw A, Iv e1]), (3, [Bv g2, Hw B, Lw B, Iv e2])] ?_))
  refine vc_seqr rfl (iQ 1 (iC 59 [.agg [Bv g1, Hw A, Lw A, Iv e1]] (some 6) (c_Zero hA) ?_))
  rintro _ ⟨z, rfl, hz⟩
  refine iU .not (.bool z) (some 7) ?_
  intro c7 hc7
  refine iQ 1 ?_
  cases c7
  · replace hc7 := bf hc7
    refine iQ 11 (iE 19 [(4, Ba false)] [] ?_)
    refine vc_ret (iR (Bv false) ?_)
    exact ⟨_, rfl, by have : A = 0 := hz.1 (by simpa using hc7); simp [this]⟩
  · replace hc7 := bt hc7
    refine iQ 1 ?_
    have hA0 : A ≠ 0 := fun h => by rw [hz.2 h] at hc7; cases hc7
    refine iC 59 [.agg [Bv g2, Hw B, Lw B, Iv e2]] (some 10) (c_Zero hB) ?_
    rintro _ ⟨w, rfl, hw⟩
    refine iQ 1 ?_
    cases w
    · replace hw := bf hw
      refine iQ 1 (iC 71 [.agg [Bv g1, Hw A, Lw A, Iv e1]] (some 13) (c_size hA h1 h2) ?_)
      rintro _ rfl
      refine iQ 1 (iC 71 [.agg [Bv g2, Hw B, Lw B, Iv e2]] (some 15) (c_size hB h3 h4) ?_)
      rintro _ rfl
      refine iB .gtr 3 (.int .i64 (e1 + (nd A : Int))) (.int .i64 (e2 + (nd B : Int))) (some 16) ?_
      intro c16 hc16
      refine iQ 3 (iE 19 [(4, Ba c16)] [] ?_)
      refine vc_ret (iR (Bv c16) ?_)
      exact ⟨_, rfl, by rw [hc16]; simp [hA0, hw]⟩
    · replace hw := bt hw
      refine iQ 8 (iE 19 [(4, Ba true)] [] ?_)
      refine vc_ret (iR (Bv true) ?_)
      exact ⟨_, rfl, by simp [hA0, hw]⟩

theorem c_Neg {g : Bool} {A : Nat} {e : Int} (hA : A < B128) : HasC Try.prog 34 [.agg [.v (.bool g), .v (.int .u64 (hiW (A))), .v (.int .u64 (loW (A))), .v (.int .i64 e)]] (fun y => y = dDec (!g && decide (A ≠ 0)) A e) := by
  refine HasC.of [] (fn := Try.f34) tyOk mixed (fun args w => Try.call34 args w) Try.func34 rfl (by kernel_rfl) (Nat.le_of_ble_eq_true rfl) (⟨_, rfl⟩) ?_
  refine vc_seqr rfl (iQ 2 (iE 13 [(1, .p 1 0), (2, .p 2 0)] [(1, [Bv g, Hw A, Lw A, Iv e]), (2, [Bv false, Uv 0, Uv 0, Iv 0])] ?_))
  refine vc_seqr rfl (iQ 2 (iU .not (.bool g) (some 5) ?_))
  intro c5 hc5
  refine iQ 1 ?_
  cases c5
  · replace hc5 := bf hc5
    refine iQ 6 (iE 13 [(1, .p 1 0), (2, .p 2 0)] [(1, [Bv false, Hw A, Lw A, Iv e]), (2, [Bv false, Uv 0, Uv 0, Iv 0])] ?_)
    refine vc_seqr rfl (iQ 2 (iE 13 [(1, .p 1 0), (2, .p 2 0)] [(1, [Bv false, Hw A, Lw A, Iv e]), (2, [Bv false, Hw A, Lw A, Iv e])] ?_))
    refine vc_ret (iR (.agg [Bv false, Hw A, Lw A, Iv e]) ?_)
    have hg : g = true := by simpa using hc5
    rw [hg]; rfl
  · replace hc5 := bt hc5
    refine iQ 1 (iC 59 [.agg [Bv g, Hw A, Lw A, Iv e]] (some 8) (c_Zero hA) ?_)
    rintro _ ⟨z, rfl, hz⟩
    refine iU .not (.bool z) (some 9) ?_
    intro c9 hc9
    refine iQ 3 (iE 13 [(1, .p 1 0), (2, .p 2 0)] [(1, [Bv c9, Hw A, Lw A, Iv e]), (2, [Bv false, Uv 0, Uv 0, Iv 0])] ?_)
    refine vc_seqr rfl (iQ 2 (iE 13 [(1, .p 1 0), (2, .p 2 0)] [(1, [Bv c9, Hw A, Lw A, Iv e]), (2, [Bv c9, Hw A, Lw A, Iv e])] ?_))
    refine vc_ret (iR (.agg [Bv c9, Hw A, Lw A, Iv e]) ?_)
    have hc : (!g && decide (A ≠ 0)) = c9 := by rw [hc5, Bool.eq_iff_iff, hc9]; cases z <;> simp_all
    rw [hc]; rfl

theorem at_fin {A h l j l' : Nat} {e low c : Int} {mo : Bool} (h0 : A * 10 ^ (e - low).toNat = h * B128 + l) (hl : l < B128) (hj : j ≤ (low - e).toNat) (hc : c = low - e - j) (h1 : l' = l / 10 ^ j) (h2 : mo = true ↔ l % 10 ^ j ≠ 0) (h3 : e < low → h = 0) (hs : c ≤ 0 ∨ l' = 0 ∧ 0 < c) :
    atN A e low / B128 = h ∧ atN A e low % B128 = l' ∧ atM A e low = mo := by
  rcases Int.le_total low e with k | k
  · have hJ : (low - e).toNat = 0 := by omega
    have hj0 : j = 0 := by omega
    subst hj0
    obtain ⟨u1, u2⟩ := at_up (A := A) k
    rw [u1, u2, h0]
    refine ⟨(b128_div hl).1, by rw [(b128_div hl).2, h1]; simp, ?_⟩
    have : ¬ mo = true := by rw [h2]; simp [Nat.mod_one]
    cases mo <;> simp_all
  · rw [at_down k]
    by_cases hk : e = low
    · subst hk
      have hj0 : j = 0 := by omega
      subst hj0
      rw [Int.sub_self] at h0 ⊢
      obtain ⟨u1, u2⟩ := at_up (A := A) (Int.le_refl e)
      rw [u2]
      simp at h0 ⊢
      rw [h0]
      refine ⟨(b128_div hl).1, by rw [(b128_div hl).2, h1]; simp, ?_⟩
      have : ¬ mo = true := by rw [h2]; simp [Nat.mod_one]
      cases mo <;> simp_all
    · have hh := h3 (by omega)
      subst hh
      rw [show (e - low).toNat = 0 by omega] at h0
      have hAl : A = l := by omega
      obtain ⟨J, hJ⟩ : ∃ J, (low - e).toNat = J := ⟨_, rfl⟩
      unfold atM
      rw [hJ, hAl]
      rw [hJ] at hj
      have key : l / 10 ^ J = l' ∧ (l % 10 ^ J ≠ 0 ↔ l % 10 ^ j ≠ 0) := by
        rcases hs with hs | ⟨hs, _⟩
        · have : j = J := by omega
          rw [this] at h1 h2 ⊢
          exact ⟨h1.symm, Iff.rfl⟩
        · have hlt : l < 10 ^ j := by
            rcases Nat.lt_or_ge l (10 ^ j) with h | h
            · exact h
            · have := Nat.div_pos h (Nat.pow_pos (by decide))
              omega
          have hlt2 := Nat.lt_of_lt_of_le hlt (Nat.pow_le_pow_right (show 0 < 10 by decide) hj)
          rw [Nat.div_eq_of_lt hlt2, Nat.mod_eq_of_lt hlt, Nat.mod_eq_of_lt hlt2]
          exact ⟨hs.symm, Iff.rfl⟩
      refine ⟨?_, ?_, ?_⟩
      · exact Nat.div_eq_of_lt (Nat.lt_of_le_of_lt (Nat.div_le_self _ _) hl)
      · rw [Nat.mod_eq_of_lt (Nat.lt_of_le_of_lt (Nat.div_le_self _ _) hl), key.1]
      · rw [Bool.eq_iff_iff, h2, decide_eq_true_iff]
        exact key.2
theorem mod_more1 {l j : Nat} {mo mo' : Bool} (h : mo = true ↔ l % 10 ^ j ≠ 0) (hm : mo' = true ↔ mo = true ∨ l / 10 ^ j % 10 ≠ 0) : mo' = true ↔ l % 10 ^ (j + 1) ≠ 0 := by
  rw [hm, h, mod_pow_succ]

theorem mod_more2 {l j x : Nat} {c : Bool} (h : false = true ↔ l % 10 ^ j ≠ 0) (hc : c = true ↔ ((x : Nat) : Int) ≠ 0) (hx : x = l / 10 ^ j % 10) : c = true ↔ l % 10 ^ (j + 1) ≠ 0 := by
  refine mod_more1 h ?_
  rw [hc, ← hx]
  constructor
  · intro k
    exact .inr (by omega)
  · rintro (k | k)
    · cases k
    · omega

set_option maxHeartbeats 1600000 in
theorem c_at2 {s : Bool} {A : Nat} {e low : Int} (hA : A < E34) (hr : A ≠ 0 → e - low ≤ 70 ∧ A * 10 ^ (e - low).toNat < B128 * B128) (h1 : -100000000000000000 ≤ e) (h2 : e ≤ 100000000000000000) (h3 : -100000000000000000 ≤ low) (h4 : low ≤ 100000000000000000) : HasC Try.prog 80 [.agg [.v (.bool s), .v (.int .u64 (hiW (A))), .v (.int .u64 (loW (A))), .v (.int .i64 e)], .v (.int .i64 low)] (fun y => y = dWide s (atN A e low / B128) (atN A e low % B128) low (atM A e low)) := by
  refine HasC.of [] (fn := Try.f80) tyOk mixed (fun args w => Try.call80 args w) Try.func80 rfl (by kernel_rfl) (Nat.le_of_ble_eq_true rfl) (⟨_, rfl⟩) ?_
  have hAB := Nat.lt_trans hA e34_lt
  refine vc_seqr rfl (iQ 2 (iE 87 [(1, Ia low), (2, .p 2 0), (4, .p 4 0)] [(2, [Bv s, Hw A, Lw A, Iv e]), (4, [Bv false, Uv 0, Uv 0, Uv 0, Uv 0, Iv 0, Bv false])] ?_))
  refine vc_seqr rfl (iQ 8 (iE 87 [(1, Ia low), (2, .p 2 0), (4, .p 4 0), (5, .p 5 0)] [(2, [Bv s, Hw A, Lw A, Iv e]), (4, [Bv false, Uv 0, Uv 0, Uv 0, Uv 0, Iv 0, Bv false]), (5, [Bv s, Uv 0, Uv 0, Hw A, Lw A, Iv low, Bv false])] ?_))
  refine vc_seq (vc_seqr rfl (iQ 1 (iC 59 [.agg [Bv s, Hw A, Lw A, Iv e]] (some 22) (c_Zero hAB) ?_)))
  rintro _ ⟨z, rfl, hz⟩
  refine iE 87 [(1, Ia low), (2, .p 2 0), (4, .p 4 0), (5, .p 5 0), (22, Ba z)] [(2, [Bv s, Hw A, Lw A, Iv e]), (4, [Bv false, Uv 0, Uv 0, Uv 0, Uv 0, Iv 0, Bv false]), (5, [Bv s, Uv 0, Uv 0, Hw A, Lw A, Iv low, Bv false])] ?_
  cases z
  · replace hz := bf hz
    obtain ⟨r1, r2⟩ := hr hz
    refine iF (vc_skip (seq_n (vc_seq (vc_seqr rfl (iQ 3 (iB .sub 3 (.int .i64 e) (.int .i64 low) (some 27) ?_))))))
    intro z27 hz27
    try replace hz27 := hz27.i64 (by omega)
    refine iL .min [3, 3] [.int .i64 z27, .int .i64 70] (some 28) ?_
    intro z28 hz28
    simp only at hz28
    refine iQ 1 (iE 87 [(1, Ia low), (2, .p 2 0), (4, .p 4 0), (5, .p 5 0), (22, Ba false), (28, Ia z28), (29, Ia 0)] [(2, [Bv s, Hw A, Lw A, Iv e]), (4, [Bv false, Uv 0, Uv 0, Uv 0, Uv 0, Iv 0, Bv false]), (5, [Bv s, Uv 0, Uv 0, Hw A, Lw A, Iv low, Bv false])] ?_)
    refine vc_block (vc_loop 87 (fun (vcx : Nat × Nat × Nat × Int) => match vcx with | (i, h, l, c) => [(1, Ia low), (2, .p 2 0), (4, .p 4 0), (5, .p 5 0), (22, Ba false), (28, Ia z28), (29, Ia c)]) (fun (vcx : Nat × Nat × Nat × Int) => match vcx with | (i, h, l, c) => [(2, [Bv s, Hw A, Lw A, Iv e]), (4, [Bv false, Uv 0, Uv 0, Uv 0, Uv 0, Iv 0, Bv false]), (5, [Bv s, Hw h, Lw h, Hw l, Lw l, Iv low, Bv false])]) (fun (vcx : Nat × Nat × Nat × Int) => match vcx with | (i, h, l, c) => A * 10 ^ i = h * B128 + l ∧ h < B128 ∧ l < B128 ∧ c = (i : Int) ∧ (i : Int) ≤ max 0 (e - low)) (fun (vcx : Nat × Nat × Nat × Int) => match vcx with | (i, h, l, c) => (e - low).toNat - i) ((0, 0, A, 0)) (⟨by simp, by decide, hAB, by simp, by omega⟩) (by kernel_rfl) (by kernel_rfl) ?_)
    rintro ⟨i, h, l, c⟩ hinv
    simp only at hinv
    obtain ⟨i1, i2, i3, i4, i5⟩ := hinv
    refine vc_seqr rfl (iB .lss 3 (.int .i64 c) (.int .i64 z28) (some 30) ?_)
    intro c30 hc30
    refine iE 87 [(1, Ia low), (2, .p 2 0), (4, .p 4 0), (5, .p 5 0), (22, Ba false), (28, Ia z28), (29, Ia c), (30, Ba c30)] [(2, [Bv s, Hw A, Lw A, Iv e]), (4, [Bv false, Uv 0, Uv 0, Uv 0, Uv 0, Iv 0, Bv false]), (5, [Bv s, Hw h, Lw h, Hw l, Lw l, Iv low, Bv false])] ?_
    refine vc_seq ?_
    cases c30
    · replace hc30 := bf hc30
      have hi : i = (e - low).toNat := by omega
      rw [hi] at i1
      have hh0 : e < low → h = 0 := fun k => by rw [show (e - low).toNat = 0 by omega] at i1; simp at i1; rcases Nat.eq_zero_or_pos h with h0 | h0; exact h0; have := Nat.mul_le_mul_right B128 h0; omega
      refine iF (vc_exit (seq_x (loop_x (block_x rfl (seq_n (vc_seq (vc_seqr rfl (iQ 3 (iB .sub 3 (.int .i64 low) (.int .i64 e) (some 57) ?_)))))))))
      intro z57 hz57
      try replace hz57 := hz57.i64 (by omega)
      refine iQ 1 (iE 87 [(1, Ia low), (2, .p 2 0), (4, .p 4 0), (5, .p 5 0), (10, Ia z57), (22, Ba false), (28, Ia z28), (29, Ia c), (30, Ba false)] [(2, [Bv s, Hw A, Lw A, Iv e]), (4, [Bv false, Uv 0, Uv 0, Uv 0, Uv 0, Iv 0, Bv false]), (5, [Bv s, Hw h, Lw h, Hw l, Lw l, Iv low, Bv false])] ?_)
      refine vc_block (vc_loop 87 (fun (vcx : Nat × Nat × Int × Bool) => match vcx with | (j, l', c', mo) => [(1, Ia low), (2, .p 2 0), (4, .p 4 0), (5, .p 5 0), (10, Ia c'), (22, Ba false), (28, Ia z28), (29, Ia c), (30, Ba false)]) (fun (vcx : Nat × Nat × Int × Bool) => match vcx with | (j, l', c', mo) => [(2, [Bv s, Hw A, Lw A, Iv e]), (4, [Bv false, Uv 0, Uv 0, Uv 0, Uv 0, Iv 0, Bv false]), (5, [Bv s, Hw h, Lw h, Hw l', Lw l', Iv low, Bv mo])]) (fun (vcx : Nat × Nat × Int × Bool) => match vcx with | (j, l', c', mo) => j ≤ (low - e).toNat ∧ c' = low - e - (j : Int) ∧ l' = l / 10 ^ j ∧ (mo = true ↔ l % 10 ^ j ≠ 0) ∧ l' < B128) (fun (vcx : Nat × Nat × Int × Bool) => match vcx with | (j, l', c', mo) => (low - e).toNat - j) ((0, l, z57, false)) (⟨Nat.zero_le _, by omega, by simp, by simp [Nat.mod_one], i3⟩) (by kernel_rfl) (by kernel_rfl) ?_)
      rintro ⟨j, l', c', mo⟩ hinv
      simp only at hinv
      obtain ⟨j1, j2, j3, j4, j5⟩ := hinv
      refine vc_seq (vc_seqr rfl (iQ 1 (iB .gtr 3 (.int .i64 c') (.int .i64 0) (some 59) ?_)))
      intro c59 hc59
      refine iQ 1 ?_
      cases c59
      · replace hc59 := bf hc59
        refine iQ 5 (iE 87 [(1, Ia low), (2, .p 2 0), (4, .p 4 0), (5, .p 5 0), (10, Ia c'), (22, Ba false), (28, Ia z28), (29, Ia c), (30, Ba false), (65, Ba false)] [(2, [Bv s, Hw A, Lw A, Iv e]), (4, [Bv false, Uv 0, Uv 0, Uv 0, Uv 0, Iv 0, Bv false]), (5, [Bv s, Hw h, Lw h, Hw l', Lw l', Iv low, Bv mo])] ?_)
        have hf := at_fin i1 i3 j1 j2 j3 j4 hh0 (.inl (by omega))
        refine iF (vc_exit (seq_x (loop_x (block_x rfl (seq_n (vc_seqr rfl (iQ 2 (iE 87 [(1, Ia low), (2, .p 2 0), (4, .p 4 0), (5, .p 5 0), (10, Ia c'), (22, Ba false), (28, Ia z28), (29, Ia c), (30, Ba false), (65, Ba false)] [(2, [Bv s, Hw A, Lw A, Iv e]), (4, [Bv s, Hw h, Lw h, Hw l', Lw l', Iv low, Bv mo]), (5, [Bv s, Hw h, Lw h, Hw l', Lw l', Iv low, Bv mo])] ?_))))))))
        refine vc_ret (iR (.agg [Bv s, Hw h, Lw h, Hw l', Lw l', Iv low, Bv mo]) ?_)
        rw [hf.1, hf.2.1, hf.2.2]; rfl
      · replace hc59 := bt hc59
        refine iQ 2 (iC 56 [.agg [Hw l', Lw l']] (some 63) (cw_Zero j5) ?_)
        rintro _ ⟨zz, rfl, hzz⟩
        refine iU .not (.bool zz) (some 64) ?_
        intro c64 hc64
        refine iQ 1 (iE 87 [(1, Ia low), (2, .p 2 0), (4, .p 4 0), (5, .p 5 0), (10, Ia c'), (22, Ba false), (28, Ia z28), (29, Ia c), (30, Ba false), (65, Ba c64)] [(2, [Bv s, Hw A, Lw A, Iv e]), (4, [Bv false, Uv 0, Uv 0, Uv 0, Uv 0, Iv 0, Bv false]), (5, [Bv s, Hw h, Lw h, Hw l', Lw l', Iv low, Bv mo])] ?_)
        cases c64
        · replace hc64 := bf hc64
          have hl0 : l' = 0 := hzz.1 (by simpa using hc64)
          have hf := at_fin i1 i3 j1 j2 j3 j4 hh0 (.inr ⟨hl0, hc59⟩)
          refine iF (vc_exit (seq_x (loop_x (block_x rfl (seq_n (vc_seqr rfl (iQ 2 (iE 87 [(1, Ia low), (2, .p 2 0), (4, .p 4 0), (5, .p 5 0), (10, Ia c'), (22, Ba false), (28, Ia z28), (29, Ia c), (30, Ba false), (65, Ba false)] [(2, [Bv s, Hw A, Lw A, Iv e]), (4, [Bv s, Hw h, Lw h, Hw l', Lw l', Iv low, Bv mo]), (5, [Bv s, Hw h, Lw h, Hw l', Lw l', Iv low, Bv mo])] ?_))))))))
          refine vc_ret (iR (.agg [Bv s, Hw h, Lw h, Hw l', Lw l', Iv low, Bv mo]) ?_)
          rw [hf.1, hf.2.1, hf.2.2]; rfl
        · replace hc64 := bt hc64
          refine iT (vc_skip (seq_n (vc_seq (vc_block (vc_seqr rfl (iQ 3 (iC 78 [.agg [Uv 0, Uv 0], .agg [Hw l', Lw l'], Uv 10] (some 72) (cw_DivWord10 j5) ?_)))))))
          rintro _ rfl
          have hd : l' / 10 = l / 10 ^ (j + 1) := by rw [j3, Nat.div_div_eq_div_mul, ← Nat.pow_succ]
          have hlB : l' / 10 < B128 := Nat.lt_of_le_of_lt (Nat.div_le_self _ _) j5
          refine iQ 11 (iE 87 [(1, Ia low), (2, .p 2 0), (4, .p 4 0), (5, .p 5 0), (10, Ia c'), (12, .p 12 0), (13, .d (Uv (((l' % 10 : Nat) : Int)))), (22, Ba false), (28, Ia z28), (29, Ia c), (30, Ba false), (65, Ba true)] [(2, [Bv s, Hw A, Lw A, Iv e]), (4, [Bv false, Uv 0, Uv 0, Uv 0, Uv 0, Iv 0, Bv false]), (5, [Bv s, Hw h, Lw h, Hw l', Lw l', Iv low, Bv mo]), (12, [Hw (l' / 10), Lw (l' / 10)])] ?_)
          refine vc_reg rfl (iQ 4 ?_)
          cases mo
          · skip
            refine iQ 1 (iB .neq 22 (.int .u64 (((l' % 10 : Nat) : Int))) (.int .u64 0) (some 82) ?_)
            intro c82 hc82
            refine iQ 5 (iE 87 [(1, Ia low), (2, .p 2 0), (4, .p 4 0), (5, .p 5 0), (10, Ia c'), (12, .p 12 0), (13, .d (Uv (((l' % 10 : Nat) : Int)))), (22, Ba false), (28, Ia z28), (29, Ia c), (30, Ba false), (65, Ba true)] [(2, [Bv s, Hw A, Lw A, Iv e]), (4, [Bv false, Uv 0, Uv 0, Uv 0, Uv 0, Iv 0, Bv false]), (5, [Bv s, Hw h, Lw h, Hw (l' / 10), Lw (l' / 10), Iv low, Bv c82]), (12, [Hw (l' / 10), Lw (l' / 10)])] ?_)
            refine block_n (seq_n (vc_reg rfl (iQ 1 (iB .sub 3 (.int .i64 c') (.int .i64 1) (some 67) ?_))))
            intro z67 hz67
            try replace hz67 := hz67.i64 (by omega)
            refine iQ 1 (iE 87 [(1, Ia low), (2, .p 2 0), (4, .p 4 0), (5, .p 5 0), (10, Ia z67), (12, .p 12 0), (13, .d (Uv (((l' % 10 : Nat) : Int)))), (22, Ba false), (28, Ia z28), (29, Ia c), (30, Ba false), (65, Ba true)] [(2, [Bv s, Hw A, Lw A, Iv e]), (4, [Bv false, Uv 0, Uv 0, Uv 0, Uv 0, Iv 0, Bv false]), (5, [Bv s, Hw h, Lw h, Hw (l' / 10), Lw (l' / 10), Iv low, Bv c82]), (12, [Hw (l' / 10), Lw (l' / 10)])] ?_)
            refine loop_n (j + 1, l' / 10, z67, c82) (⟨by omega, by omega, hd, mod_more2 j4 hc82 (by rw [j3]), hlB⟩) (by show (low - e).toNat - (j + 1) < (low - e).toNat - j; omega) (by kernel_rfl) (by kernel_rfl)
          · skip
            refine iQ 7 (iE 87 [(1, Ia low), (2, .p 2 0), (4, .p 4 0), (5, .p 5 0), (10, Ia c'), (12, .p 12 0), (13, .d (Uv (((l' % 10 : Nat) : Int)))), (22, Ba false), (28, Ia z28), (29, Ia c), (30, Ba false), (65, Ba true)] [(2, [Bv s, Hw A, Lw A, Iv e]), (4, [Bv false, Uv 0, Uv 0, Uv 0, Uv 0, Iv 0, Bv false]), (5, [Bv s, Hw h, Lw h, Hw (l' / 10), Lw (l' / 10), Iv low, Bv true]), (12, [Hw (l' / 10), Lw (l' / 10)])] ?_)
            refine block_n (seq_n (vc_reg rfl (iQ 1 (iB .sub 3 (.int .i64 c') (.int .i64 1) (some 67) ?_))))
            intro z67 hz67
            try replace hz67 := hz67.i64 (by omega)
            refine iQ 1 (iE 87 [(1, Ia low), (2, .p 2 0), (4, .p 4 0), (5, .p 5 0), (10, Ia z67), (12, .p 12 0), (13, .d (Uv (((l' % 10 : Nat) : Int)))), (22, Ba false), (28, Ia z28), (29, Ia c), (30, Ba false), (65, Ba true)] [(2, [Bv s, Hw A, Lw A, Iv e]), (4, [Bv false, Uv 0, Uv 0, Uv 0, Uv 0, Iv 0, Bv false]), (5, [Bv s, Hw h, Lw h, Hw (l' / 10), Lw (l' / 10), Iv low, Bv true]), (12, [Hw (l' / 10), Lw (l' / 10)])] ?_)
            refine loop_n (j + 1, l' / 10, z67, true) (⟨by omega, by omega, hd, mod_more1 j4 (by simp), hlB⟩) (by show (low - e).toNat - (j + 1) < (low - e).toNat - j; omega) (by kernel_rfl) (by kernel_rfl)
    · replace hc30 := bt hc30
      have hjn : A * 10 ^ i * 10 < B128 * B128 := by rw [Nat.mul_assoc, ← Nat.pow_succ]; exact Nat.lt_of_le_of_lt (Nat.mul_le_mul_left _ (Nat.pow_le_pow_right (by decide) (by omega))) r2
      obtain ⟨q1, q2⟩ := raise_step i1 i2 i3 hjn
      refine iT (vc_skip (seq_n (vc_seq (vc_block (vc_seqr rfl (iQ 2 (iC 93 [.agg [Hw l, Lw l], Uv 10] (some 34) (cw_MulWord (n := 10) i3 (by decide)) ?_)))))))
      rintro _ rfl
      refine iQ 6 (iE 87 [(1, Ia low), (2, .p 2 0), (4, .p 4 0), (5, .p 5 0), (6, .d (Uv (((l * 10 / B128 : Nat) : Int)))), (7, .p 7 0), (22, Ba false), (28, Ia z28), (29, Ia c), (30, Ba true)] [(2, [Bv s, Hw A, Lw A, Iv e]), (4, [Bv false, Uv 0, Uv 0, Uv 0, Uv 0, Iv 0, Bv false]), (5, [Bv s, Hw h, Lw h, Hw l, Lw l, Iv low, Bv false]), (7, [Hw (l * 10 % B128), Lw (l * 10 % B128)])] ?_)
      refine vc_seqr rfl (iQ 2 (iC 93 [.agg [Hw h, Lw h], Uv 10] (some 40) (cw_MulWord (n := 10) i2 (by decide)) ?_))
      rintro _ rfl
      refine iQ 6 (iE 87 [(1, Ia low), (2, .p 2 0), (4, .p 4 0), (5, .p 5 0), (6, .d (Uv (((l * 10 / B128 : Nat) : Int)))), (7, .p 7 0), (9, .p 9 0), (22, Ba false), (28, Ia z28), (29, Ia c), (30, Ba true)] [(2, [Bv s, Hw A, Lw A, Iv e]), (4, [Bv false, Uv 0, Uv 0, Uv 0, Uv 0, Iv 0, Bv false]), (5, [Bv s, Hw h, Lw h, Hw l, Lw l, Iv low, Bv false]), (7, [Hw (l * 10 % B128), Lw (l * 10 % B128)]), (9, [Hw (h * 10 % B128), Lw (h * 10 % B128)])] ?_)
      refine vc_seqr rfl (iQ 2 (iC 74 [Uv (((l * 10 / B128 : Nat) : Int))] (some 46) (cw_OfN q2) ?_))
      rintro _ rfl
      refine iC 104 [.agg [Hw (h * 10 % B128), Lw (h * 10 % B128)], .agg [Hw (l * 10 / B128), Lw (l * 10 / B128)]] (some 47) (cw_Add (mod_lt128 (h * 10)) (Nat.lt_trans q2 (by decide))) ?_
      rintro _ rfl
      refine iQ 5 (iE 87 [(1, Ia low), (2, .p 2 0), (4, .p 4 0), (5, .p 5 0), (6, .d (Uv (((l * 10 / B128 : Nat) : Int)))), (7, .p 7 0), (9, .p 9 0), (22, Ba false), (28, Ia z28), (29, Ia c), (30, Ba true)] [(2, [Bv s, Hw A, Lw A, Iv e]), (4, [Bv false, Uv 0, Uv 0, Uv 0, Uv 0, Iv 0, Bv false]), (5, [Bv s, Hw ((h * 10 % B128 + l * 10 / B128) % B128), Lw ((h * 10 % B128 + l * 10 / B128) % B128), Hw l, Lw l, Iv low, Bv false]), (7, [Hw (l * 10 % B128), Lw (l * 10 % B128)]), (9, [Hw (h * 10 % B128), Lw (h * 10 % B128)])] ?_)
      refine vc_reg rfl (iQ 3 (iE 87 [(1, Ia low), (2, .p 2 0), (4, .p 4 0), (5, .p 5 0), (6, .d (Uv (((l * 10 / B128 : Nat) : Int)))), (7, .p 7 0), (9, .p 9 0), (22, Ba false), (28, Ia z28), (29, Ia c), (30, Ba true)] [(2, [Bv s, Hw A, Lw A, Iv e]), (4, [Bv false, Uv 0, Uv 0, Uv 0, Uv 0, Iv 0, Bv false]), (5, [Bv s, Hw ((h * 10 % B128 + l * 10 / B128) % B128), Lw ((h * 10 % B128 + l * 10 / B128) % B128), Hw (l * 10 % B128), Lw (l * 10 % B128), Iv low, Bv false]), (7, [Hw (l * 10 % B128), Lw (l * 10 % B128)]), (9, [Hw (h * 10 % B128), Lw (h * 10 % B128)])] ?_))
      refine block_n (seq_n (vc_reg rfl (iB .add 3 (.int .i64 c) (.int .i64 1) (some 53) ?_)))
      intro z53 hz53
      try replace hz53 := hz53.i64 (by omega)
      refine iQ 1 (iE 87 [(1, Ia low), (2, .p 2 0), (4, .p 4 0), (5, .p 5 0), (6, .d (Uv (((l * 10 / B128 : Nat) : Int)))), (7, .p 7 0), (9, .p 9 0), (22, Ba false), (28, Ia z28), (29, Ia z53), (30, Ba true)] [(2, [Bv s, Hw A, Lw A, Iv e]), (4, [Bv false, Uv 0, Uv 0, Uv 0, Uv 0, Iv 0, Bv false]), (5, [Bv s, Hw ((h * 10 % B128 + l * 10 / B128) % B128), Lw ((h * 10 % B128 + l * 10 / B128) % B128), Hw (l * 10 % B128), Lw (l * 10 % B128), Iv low, Bv false]), (7, [Hw (l * 10 % B128), Lw (l * 10 % B128)]), (9, [Hw (h * 10 % B128), Lw (h * 10 % B128)])] ?_)
      refine loop_n (i + 1, (h * 10 % B128 + l * 10 / B128) % B128, l * 10 % B128, z53) (⟨by rw [q1, Nat.pow_succ, Nat.mul_assoc], mod_lt128 _, mod_lt128 _, by omega, by omega⟩) (by show (e - low).toNat - (i + 1) < (e - low).toNat - i; omega) (by kernel_rfl) (by kernel_rfl)
  · replace hz := bt hz
    refine iT (vc_seqr rfl (iQ 2 (iE 87 [(1, Ia low), (2, .p 2 0), (4, .p 4 0), (5, .p 5 0), (22, Ba true)] [(2, [Bv s, Hw A, Lw A, Iv e]), (4, [Bv s, Uv 0, Uv 0, Hw A, Lw A, Iv low, Bv false]), (5, [Bv s, Uv 0, Uv 0, Hw A, Lw A, Iv low, Bv false])] ?_)))
    refine vc_ret (seq_r (iR (.agg [Bv s, Uv 0, Uv 0, Hw A, Lw A, Iv low, Bv false]) ?_))
    rw [hz, (at_0 e low).1, (at_0 e low).2]; rfl



open Go.RowKit
set_option linter.unusedVariables false
set_option linter.unusedSimpArgs false
set_option maxRecDepth 100000

theorem AddPre.low {A B : Nat} {e1 e2 low : Int} (p : AddPre A B e1 e2 low) (h1 : -10000000000000000 ≤ e1) (h2 : -10000000000000000 ≤ e2) : -10000000000000100 ≤ low := by
  by_cases h : A = 0
  · have := p.z h
    omega
  · have := p.nz h
    omega
theorem c_atI {s M : Bool} {A X : Nat} {e low : Int} (hX : atN A e low = X) (hM : atM A e low = M) (hA : A < E34) (hr : A ≠ 0 → e - low ≤ 70 ∧ A * 10 ^ (e - low).toNat < B128 * B128) (h1 : -100000000000000000 ≤ e) (h2 : e ≤ 100000000000000000) (h3 : -100000000000000000 ≤ low) (h4 : low ≤ 100000000000000000) :
    HasC Try.prog 80 [dDec s A e, .v (.int .i64 low)] (fun y => y = dWide s (X / B128) (X % B128) low M) := by
  subst hX hM
  exact c_at2 hA hr h1 h2 h3 h4
theorem cw_AddN {X Y : Nat} (hX : X < 10 ^ 70) (hY : Y < 10 ^ 70) : HasC Try.prog 81 [dU (X / B128), dU (X % B128), dU (Y / B128), dU (Y % B128)] (fun y => y = .tup [dU ((X + Y) / B128), dU ((X + Y) % B128), .v (.int .u64 0)]) := by
  have e := cw_Add2 (a := X / B128) (c := X % B128) (b := Y / B128) (d := Y % B128) (Nat.div_lt_of_lt_mul (Nat.lt_trans hX (by decide))) (mod_lt128 _) (Nat.div_lt_of_lt_mul (Nat.lt_trans hY (by decide))) (mod_lt128 _)
  have hs : X + Y < B128 * B128 := Nat.lt_of_lt_of_le (Nat.add_lt_add hX hY) (by decide)
  rw [Nat.div_add_mod', Nat.div_add_mod', Nat.mod_eq_of_lt (Nat.div_lt_of_lt_mul hs), Nat.div_eq_of_lt hs] at e
  exact e
theorem cw_CmpN {X Y : Nat} (hX : X < 10 ^ 70) (hY : Y < 10 ^ 70) : HasC Try.prog 73 [dU (X / B128), dU (X % B128), dU (Y / B128), dU (Y % B128)] (fun y => y = .v (.int .i64 (cmpN X Y))) := by
  have e := cw_Cmp2 (a := X / B128) (c := X % B128) (b := Y / B128) (d := Y % B128) (Nat.div_lt_of_lt_mul (Nat.lt_trans hX (by decide))) (mod_lt128 _) (Nat.div_lt_of_lt_mul (Nat.lt_trans hY (by decide))) (mod_lt128 _)
  rw [Nat.div_add_mod', Nat.div_add_mod'] at e
  exact e
theorem cw_SubN {X Y : Nat} (hX : X < 10 ^ 70) (hY : Y ≤ X) : HasC Try.prog 82 [dU (X / B128), dU (X % B128), dU (Y / B128), dU (Y % B128)] (fun y => y = .tup [dU ((X - Y) / B128), dU ((X - Y) % B128), .v (.int .u64 0)]) := by
  have hXB : X < B128 * B128 := Nat.lt_trans hX (by decide)
  have e := cw_Sub2 (a := X / B128) (c := X % B128) (b := Y / B128) (d := Y % B128) (Nat.div_lt_of_lt_mul hXB) (mod_lt128 _) (Nat.div_lt_of_lt_mul (Nat.lt_of_le_of_lt hY hXB)) (mod_lt128 _)
  have hs : X - Y < B128 * B128 := Nat.lt_of_le_of_lt (Nat.sub_le _ _) hXB
  have e1 : (X + B128 * B128 - Y) / B128 % B128 = (X - Y) / B128 ∧ (X + B128 * B128 - Y) % B128 = (X - Y) % B128 := by
    have e2 : X + B128 * B128 - Y = (X - Y) + B128 * B128 := by omega
    rw [e2]
    refine ⟨?_, Nat.add_mul_mod_self_right _ _ _⟩
    rw [Nat.add_mul_div_right _ _ (by decide), Nat.add_mod_right, Nat.mod_eq_of_lt (Nat.div_lt_of_lt_mul hs)]
  have e3 : lackN X Y = 0 := by unfold lackN; rw [if_neg (by omega)]
  rw [Nat.div_add_mod', Nat.div_add_mod', e1.1, e1.2, e3] at e
  exact e
theorem cw_Sub1 {X : Nat} (hX : X < 10 ^ 70) (h1 : 1 ≤ X) : HasC Try.prog 82 [dU (X / B128), dU (X % B128), .agg [.v (.int .u64 0), .v (.int .u64 0)], .agg [.v (.int .u64 0), .v (.int .u64 1)]] (fun y => y = .tup [dU ((X - 1) / B128), dU ((X - 1) % B128), .v (.int .u64 0)]) := by
  have e := cw_SubN hX h1
  rw [show 1 / B128 = 0 by decide, show 1 % B128 = 1 by decide] at e
  rw [← dU_0', ← dU_1']
  exact e

theorem c_higherX {g1 g2 : Bool} {A B : Nat} {e1 e2 : Int} (hA : A < B128) (hB : B < B128) (h1 : -100000000000000000 ≤ e1) (h2 : e1 ≤ 100000000000000000) (h3 : -100000000000000000 ≤ e2) (h4 : e2 ≤ 100000000000000000) :
    HasC Try.prog 79 [dDec g1 A e1, dDec g2 B e2] (fun y => ∃ b, y = .v (.bool b) ∧ (b = true ↔ A ≠ 0 ∧ (B = 0 ∨ e2 + nd B < e1 + nd A))) := c_higher hA hB h1 h2 h3 h4

theorem at_room {b : Nat} {x low : Int} (hb : b < E34) (h : atN b x low < 10 ^ 70) : b * 10 ^ (x - low).toNat < B128 * B128 := by
  rcases Int.le_total low x with k | k
  · rw [← (at_up k).1]
    exact Nat.lt_trans h (by decide)
  · rw [show (x - low).toNat = 0 by omega, Nat.pow_zero, Nat.mul_one]
    exact Nat.lt_trans hb (by decide)
theorem hi_no {A B : Nat} {e1 e2 : Int} (h : ¬ (B ≠ 0 ∧ (A = 0 ∨ e1 + nd A < e2 + nd B))) : B = 0 ∨ (A ≠ 0 ∧ e2 + nd B ≤ e1 + nd A) := by
  by_cases hB : B = 0
  · exact .inl hB
  · exact .inr ⟨fun k => h ⟨hB, .inl k⟩, Int.not_lt.1 fun k => h ⟨hB, .inr k⟩⟩
theorem hi_yes {A B : Nat} {e1 e2 : Int} (h : B ≠ 0 ∧ (A = 0 ∨ e1 + nd A < e2 + nd B)) : A = 0 ∨ (B ≠ 0 ∧ e1 + nd A ≤ e2 + nd B) := by
  rcases h.2 with k | k
  · exact .inl k
  · exact .inr ⟨h.1, by omega⟩

set_option maxHeartbeats 3200000 in
theorem c_decAdd {s1 s2 : Bool} {A B : Nat} {e1 e2 : Int} (hA : A < E34) (hB : B < E34) (h1 : -10000000000000000 ≤ e1) (h2 : e1 ≤ 10000000000000000) (h3 : -10000000000000000 ≤ e2) (h4 : e2 ≤ 10000000000000000) : HasC Try.prog 33 [.agg [.v (.bool s1), .v (.int .u64 (hiW (A))), .v (.int .u64 (loW (A))), .v (.int .i64 e1)], .agg [.v (.bool s2), .v (.int .u64 (hiW (B))), .v (.int .u64 (loW (B))), .v (.int .i64 e2)]] (fun y => y = dFit (addT s1 A e1 s2 B e2)) := by
  refine HasC.of [] (fn := Try.f33) tyOk mixed (fun args w => Try.call33 args w) Try.func33 rfl (by kernel_rfl) (Nat.le_of_ble_eq_true rfl) (⟨_, rfl⟩) ?_
  have hAB := Nat.lt_trans hA e34_lt; have hBB := Nat.lt_trans hB e34_lt
  refine vc_seqr rfl (iQ 4 (iE 122 [(2, .p 2 0), (3, .p 3 0), (4, .p 4 0), (5, Ba false)] [(2, [Bv s1, Hw A, Lw A, Iv e1]), (3, [Bv s2, Hw B, Lw B, Iv e2]), (4, [Bv false, Uv 0, Uv 0, Iv 0])] ?_))
  refine vc_mid 122 (fun (vcx : Bool × Bool × Nat × Nat × Int × Int × Bool) => match vcx with | (t1, t2, a, b, x1, x2, vb11) => [(2, .p 2 0), (3, .p 3 0), (4, .p 4 0), (5, Ba false), (11, Ba vb11)]) (fun (vcx : Bool × Bool × Nat × Nat × Int × Int × Bool) => match vcx with | (t1, t2, a, b, x1, x2, vb11) => [(2, [Bv t1, Hw a, Lw a, Iv x1]), (3, [Bv t2, Hw b, Lw b, Iv x2]), (4, [Bv false, Uv 0, Uv 0, Iv 0])]) (fun (vcx : Bool × Bool × Nat × Nat × Int × Int × Bool) => match vcx with | (t1, t2, a, b, x1, x2, vb11) => a < E34 ∧ b < E34 ∧ (b = 0 ∨ (a ≠ 0 ∧ x2 + nd b ≤ x1 + nd a)) ∧ (-10000000000000000 ≤ x1 ∧ x1 ≤ 10000000000000000 ∧ -10000000000000000 ≤ x2 ∧ x2 ≤ 10000000000000000) ∧ addT s1 A e1 s2 B e2 = addT t1 a x1 t2 b x2) ?_ ?_
  · rintro ⟨t1, t2, a, b, x1, x2, vb11⟩ hinv
    simp only at hinv
    obtain ⟨ha, hb, hhi, ⟨b1, b2, b3, b4⟩, hadd⟩ := hinv
    rw [hadd]
    have haB := Nat.lt_trans ha e34_lt; have hbB := Nat.lt_trans hb e34_lt
    have hna := nd_le 34 a ha; have hnb := nd_le 34 b hb
    refine vc_seqr rfl (iQ 4 (iL .min [3, 3] [.int .i64 x1, .int .i64 x2] (some 18) ?_))
    intro z18 hz18
    simp only at hz18
    refine iQ 1 (iE 122 [(2, .p 2 0), (3, .p 3 0), (4, .p 4 0), (5, Ba false), (6, Ia z18), (11, Ba vb11)] [(2, [Bv t1, Hw a, Lw a, Iv x1]), (3, [Bv t2, Hw b, Lw b, Iv x2]), (4, [Bv false, Uv 0, Uv 0, Iv 0])] ?_)
    refine vc_mid 122 (fun (vcx : Int × Bool) => match vcx with | (low, vb21) => [(2, .p 2 0), (3, .p 3 0), (4, .p 4 0), (5, Ba false), (6, Ia low), (11, Ba vb11), (21, Ba vb21)]) (fun (vcx : Int × Bool) => match vcx with | (low, vb21) => [(2, [Bv t1, Hw a, Lw a, Iv x1]), (3, [Bv t2, Hw b, Lw b, Iv x2]), (4, [Bv false, Uv 0, Uv 0, Iv 0])]) (fun (vcx : Int × Bool) => match vcx with | (low, vb21) => AddPre a b x1 x2 low) ?_ ?_
    · rintro ⟨low, vb21⟩ hinv
      simp only at hinv
      have hp := hinv
      have hle := hp.le
      have hlow : -10000000000000100 ≤ low := hp.low b1 b3
      obtain ⟨f1, f2, f3⟩ := hp.fst
      obtain ⟨g1, g2⟩ := hp.snd
      have hlaw := add_law hp t1 t2
      obtain ⟨X, hX⟩ : ∃ X, atN a x1 low = X := ⟨_, rfl⟩
      obtain ⟨Y, hY⟩ : ∃ Y, atN b x2 low = Y := ⟨_, rfl⟩
      obtain ⟨M, hM⟩ : ∃ M, atM b x2 low = M := ⟨_, rfl⟩
      have r1 : a ≠ 0 → x1 - low ≤ 70 ∧ a * 10 ^ (x1 - low).toNat < B128 * B128 := fun h => ⟨by have := f3 h; omega, by rw [← (at_up hle).1]; exact Nat.lt_trans f1 (by decide)⟩
      have r2 : b ≠ 0 → x2 - low ≤ 70 ∧ b * 10 ^ (x2 - low).toNat < B128 * B128 := fun h => ⟨by have := g2 h; omega, at_room hb g1⟩
      rw [hX] at f1
      rw [hY] at g1
      rw [hX, hY, hM] at hlaw
      obtain ⟨law1, law2, law3, law4⟩ := hlaw
      refine vc_seqr rfl (iQ 2 (iC 80 [.agg [Bv t1, Hw a, Lw a, Iv x1], Iv low] (some 29) (c_atI hX f2 ha r1 (by omega) (by omega) (by omega) (by omega)) ?_))
      rintro _ rfl
      refine iQ 2 (iC 80 [.agg [Bv t2, Hw b, Lw b, Iv x2], Iv low] (some 32) (c_atI hY hM hb r2 (by omega) (by omega) (by omega) (by omega)) ?_)
      rintro _ rfl
      refine iQ 4 (iE 122 [(2, .p 2 0), (3, .p 3 0), (4, .p 4 0), (5, Ba false), (6, Ia low), (7, .p 7 0), (8, .p 8 0), (11, Ba vb11), (21, Ba vb21)] [(2, [Bv t1, Hw a, Lw a, Iv x1]), (3, [Bv t2, Hw b, Lw b, Iv x2]), (4, [Bv false, Uv 0, Uv 0, Iv 0]), (7, [Bv t1, Hw (X / B128), Lw (X / B128), Hw (X % B128), Lw (X % B128), Iv low, Bv false]), (8, [Bv t2, Hw (Y / B128), Lw (Y / B128), Hw (Y % B128), Lw (Y % B128), Iv low, Bv M])] ?_)
      refine vc_seq (vc_seqr rfl (iQ 4 (iB .eql 4 (.bool t1) (.bool t2) (some 37) ?_)))
      intro c37 hc37
      refine iQ 1 ?_
      cases c37
      · replace hc37 := bf hc37
        refine iQ 2 ?_
        have hD : t1 ≠ t2 := hc37
        refine iC 56 [.agg [Hw (Y % B128), Lw (Y % B128)]] (some 41) (cw_Zero (mod_lt128 Y)) ?_
        rintro _ ⟨zl, rfl, hzl⟩
        refine iQ 1 ?_
        cases zl
        · replace hzl := bf hzl
          refine iQ 10 (iE 122 [(2, .p 2 0), (3, .p 3 0), (4, .p 4 0), (5, Ba false), (6, Ia low), (7, .p 7 0), (8, .p 8 0), (11, Ba vb11), (21, Ba vb21), (52, Ba false)] [(2, [Bv t1, Hw a, Lw a, Iv x1]), (3, [Bv t2, Hw b, Lw b, Iv x2]), (4, [Bv false, Uv 0, Uv 0, Iv 0]), (7, [Bv t1, Hw (X / B128), Lw (X / B128), Hw (X % B128), Lw (X % B128), Iv low, Bv false]), (8, [Bv t2, Hw (Y / B128), Lw (Y / B128), Hw (Y % B128), Lw (Y % B128), Iv low, Bv M])] ?_)
          refine iF (vc_skip (seq_n ?_))
          refine vc_mid 122 (fun (vcx : Bool × Nat × Nat × Bool × Bool × Bool × Bool) => match vcx with | (u, P, Q, mx, mo, v, vb84) => [(2, .p 2 0), (3, .p 3 0), (4, .p 4 0), (5, Ba false), (6, Ia low), (7, .p 7 0), (8, .p 8 0), (11, Ba vb11), (21, Ba vb21), (52, Ba false), (84, Ba vb84)]) (fun (vcx : Bool × Nat × Nat × Bool × Bool × Bool × Bool) => match vcx with | (u, P, Q, mx, mo, v, vb84) => [(2, [Bv t1, Hw a, Lw a, Iv x1]), (3, [Bv t2, Hw b, Lw b, Iv x2]), (4, [Bv false, Uv 0, Uv 0, Iv 0]), (7, [Bv u, Hw (P / B128), Lw (P / B128), Hw (P % B128), Lw (P % B128), Iv low, Bv mx]), (8, [Bv v, Hw (Q / B128), Lw (Q / B128), Hw (Q % B128), Lw (Q % B128), Iv low, Bv mo])]) (fun (vcx : Bool × Nat × Nat × Bool × Bool × Bool × Bool) => match vcx with | (u, P, Q, mx, mo, v, vb84) => mx = false ∧ Q ≤ P ∧ P < 10 ^ 70 ∧ (mo = false → fitT 1 u (P - Q) low false = addT t1 a x1 t2 b x2) ∧ (mo = true → 1 ≤ P - Q ∧ fitT 1 u (P - Q - 1) low true = addT t1 a x1 t2 b x2)) ?_ ?_
          · rintro ⟨u, P, Q, mx, mo, v, vb84⟩ hinv
            simp only at hinv
            obtain ⟨hmx, hQP, hP, w1, w2⟩ := hinv
            have hPQ : P - Q < 10 ^ 70 := Nat.lt_of_le_of_lt (Nat.sub_le _ _) hP
            refine vc_seqr rfl (iQ 8 (iC 82 [.agg [Hw (P / B128), Lw (P / B128)], .agg [Hw (P % B128), Lw (P % B128)], .agg [Hw (Q / B128), Lw (Q / B128)], .agg [Hw (Q % B128), Lw (Q % B128)]] (some 96) (cw_SubN hP hQP) ?_))
            rintro _ rfl
            refine iQ 8 (iE 122 [(2, .p 2 0), (3, .p 3 0), (4, .p 4 0), (5, Ba false), (6, Ia low), (7, .p 7 0), (8, .p 8 0), (11, Ba vb11), (21, Ba vb21), (52, Ba false), (84, Ba vb84)] [(2, [Bv t1, Hw a, Lw a, Iv x1]), (3, [Bv t2, Hw b, Lw b, Iv x2]), (4, [Bv false, Uv 0, Uv 0, Iv 0]), (7, [Bv u, Hw ((P - Q) / B128), Lw ((P - Q) / B128), Hw ((P - Q) % B128), Lw ((P - Q) % B128), Iv low, Bv mx]), (8, [Bv v, Hw (Q / B128), Lw (Q / B128), Hw (Q % B128), Lw (Q % B128), Iv low, Bv mo])] ?_)
            refine vc_seq (vc_seqr rfl (iQ 2 (iE 122 [(2, .p 2 0), (3, .p 3 0), (4, .p 4 0), (5, Ba false), (6, Ia low), (7, .p 7 0), (8, .p 8 0), (11, Ba vb11), (21, Ba vb21), (52, Ba false), (84, Ba vb84), (103, Ba mo)] [(2, [Bv t1, Hw a, Lw a, Iv x1]), (3, [Bv t2, Hw b, Lw b, Iv x2]), (4, [Bv false, Uv 0, Uv 0, Iv 0]), (7, [Bv u, Hw ((P - Q) / B128), Lw ((P - Q) / B128), Hw ((P - Q) % B128), Lw ((P - Q) % B128), Iv low, Bv mx]), (8, [Bv v, Hw (Q / B128), Lw (Q / B128), Hw (Q % B128), Lw (Q % B128), Iv low, Bv mo])] ?_)))
            cases mo
            · skip
              refine iF (vc_skip (seq_n (vc_seqr rfl (iQ 1 (iC 75 [.agg [Bv u, Hw ((P - Q) / B128), Lw ((P - Q) / B128), Hw ((P - Q) % B128), Lw ((P - Q) % B128), Iv low, Bv mx], Iv 1] (some 119) (c_FitT (m := 1) (N := P - Q) (Nat.div_add_mod' _ _).symm (Nat.div_lt_of_lt_mul (Nat.lt_trans hPQ (by decide))) (mod_lt128 _) (by omega) (by omega)) ?_)))))
              rintro _ ⟨g, k, x, ok, rfl, hT⟩
              refine iQ 4 (iE 122 [(2, .p 2 0), (3, .p 3 0), (4, .p 4 0), (5, Ba ok), (6, Ia low), (7, .p 7 0), (8, .p 8 0), (11, Ba vb11), (21, Ba vb21), (52, Ba false), (84, Ba vb84), (103, Ba false)] [(2, [Bv t1, Hw a, Lw a, Iv x1]), (3, [Bv t2, Hw b, Lw b, Iv x2]), (4, [Bv g, Hw k, Lw k, Iv x]), (7, [Bv u, Hw ((P - Q) / B128), Lw ((P - Q) / B128), Hw ((P - Q) % B128), Lw ((P - Q) % B128), Iv low, Bv mx]), (8, [Bv v, Hw (Q / B128), Lw (Q / B128), Hw (Q % B128), Lw (Q % B128), Iv low, Bv false])] ?_)
              refine vc_ret (iS (.agg [Bv g, Hw k, Lw k, Iv x]) (Bv ok) [] ?_)
              rw [hmx] at hT; rw [← w1 rfl, hT]; rfl
            · skip
              obtain ⟨w3, w4⟩ := w2 rfl
              refine iT (vc_seqr rfl (iQ 5 (iC 74 [Uv 1] (some 110) (cw_Of 1) ?_)))
              rintro _ rfl
              refine iC 82 [.agg [Hw ((P - Q) / B128), Lw ((P - Q) / B128)], .agg [Hw ((P - Q) % B128), Lw ((P - Q) % B128)], .agg [Uv 0, Uv 0], .agg [Uv 0, Uv 1]] (some 111) (cw_Sub1 hPQ w3) ?_
              rintro _ rfl
              refine iQ 8 (iE 122 [(2, .p 2 0), (3, .p 3 0), (4, .p 4 0), (5, Ba false), (6, Ia low), (7, .p 7 0), (8, .p 8 0), (11, Ba vb11), (21, Ba vb21), (52, Ba false), (84, Ba vb84), (103, Ba true)] [(2, [Bv t1, Hw a, Lw a, Iv x1]), (3, [Bv t2, Hw b, Lw b, Iv x2]), (4, [Bv false, Uv 0, Uv 0, Iv 0]), (7, [Bv u, Hw ((P - Q - 1) / B128), Lw ((P - Q - 1) / B128), Hw ((P - Q - 1) % B128), Lw ((P - Q - 1) % B128), Iv low, Bv mx]), (8, [Bv v, Hw (Q / B128), Lw (Q / B128), Hw (Q % B128), Lw (Q % B128), Iv low, Bv true])] ?_)
              refine vc_reg rfl (iQ 2 (iE 122 [(2, .p 2 0), (3, .p 3 0), (4, .p 4 0), (5, Ba false), (6, Ia low), (7, .p 7 0), (8, .p 8 0), (11, Ba vb11), (21, Ba vb21), (52, Ba false), (84, Ba vb84), (103, Ba true)] [(2, [Bv t1, Hw a, Lw a, Iv x1]), (3, [Bv t2, Hw b, Lw b, Iv x2]), (4, [Bv false, Uv 0, Uv 0, Iv 0]), (7, [Bv u, Hw ((P - Q - 1) / B128), Lw ((P - Q - 1) / B128), Hw ((P - Q - 1) % B128), Lw ((P - Q - 1) % B128), Iv low, Bv true]), (8, [Bv v, Hw (Q / B128), Lw (Q / B128), Hw (Q % B128), Lw (Q % B128), Iv low, Bv true])] ?_))
              refine seq_n (vc_seqr rfl (iQ 1 (iC 75 [.agg [Bv u, Hw ((P - Q - 1) / B128), Lw ((P - Q - 1) / B128), Hw ((P - Q - 1) % B128), Lw ((P - Q - 1) % B128), Iv low, Bv true], Iv 1] (some 119) (c_FitT (m := 1) (N := P - Q - 1) (Nat.div_add_mod' _ _).symm (Nat.div_lt_of_lt_mul (Nat.lt_of_le_of_lt (Nat.sub_le _ _) (Nat.lt_trans hPQ (by decide)))) (mod_lt128 _) (by omega) (by omega)) ?_)))
              rintro _ ⟨g, k, x, ok, rfl, hT⟩
              refine iQ 4 (iE 122 [(2, .p 2 0), (3, .p 3 0), (4, .p 4 0), (5, Ba ok), (6, Ia low), (7, .p 7 0), (8, .p 8 0), (11, Ba vb11), (21, Ba vb21), (52, Ba false), (84, Ba vb84), (103, Ba true)] [(2, [Bv t1, Hw a, Lw a, Iv x1]), (3, [Bv t2, Hw b, Lw b, Iv x2]), (4, [Bv g, Hw k, Lw k, Iv x]), (7, [Bv u, Hw ((P - Q - 1) / B128), Lw ((P - Q - 1) / B128), Hw ((P - Q - 1) % B128), Lw ((P - Q - 1) % B128), Iv low, Bv true]), (8, [Bv v, Hw (Q / B128), Lw (Q / B128), Hw (Q % B128), Lw (Q % B128), Iv low, Bv true])] ?_)
              refine vc_ret (iS (.agg [Bv g, Hw k, Lw k, Iv x]) (Bv ok) [] ?_)
              rw [← w4, hT]; rfl
          intro hmid
          refine vc_seqr rfl (iQ 8 (iC 73 [.agg [Hw (X / B128), Lw (X / B128)], .agg [Hw (X % B128), Lw (X % B128)], .agg [Hw (Y / B128), Lw (Y / B128)], .agg [Hw (Y % B128), Lw (Y % B128)]] (some 83) (cw_CmpN f1 g1) ?_))
          rintro _ rfl
          refine iB .lss 3 (.int .i64 (cmpN X Y)) (.int .i64 0) (some 84) ?_
          intro c84 hc84
          refine iE 122 [(2, .p 2 0), (3, .p 3 0), (4, .p 4 0), (5, Ba false), (6, Ia low), (7, .p 7 0), (8, .p 8 0), (11, Ba vb11), (21, Ba vb21), (52, Ba false), (84, Ba c84)] [(2, [Bv t1, Hw a, Lw a, Iv x1]), (3, [Bv t2, Hw b, Lw b, Iv x2]), (4, [Bv false, Uv 0, Uv 0, Iv 0]), (7, [Bv t1, Hw (X / B128), Lw (X / B128), Hw (X % B128), Lw (X % B128), Iv low, Bv false]), (8, [Bv t2, Hw (Y / B128), Lw (Y / B128), Hw (Y % B128), Lw (Y % B128), Iv low, Bv M])] ?_
          cases c84
          · replace hc84 := bf hc84
            have hle2 : Y ≤ X := by have := cN_lt (a := X) (b := Y); omega
            refine iF (vc_skip ?_)
            refine mid_n hmid (t1, X, Y, false, M, t2, false) (⟨rfl, hle2, f1, fun h => law2 hD h hle2, fun h => law4 hD h⟩) (by kernel_rfl)
          · replace hc84 := bt hc84
            have hlt2 : X < Y := cN_lt.1 hc84
            obtain ⟨w5, w6⟩ := law3 hD hlt2
            refine iT (vc_reg rfl (iQ 4 (iE 122 [(2, .p 2 0), (3, .p 3 0), (4, .p 4 0), (5, Ba false), (6, Ia low), (7, .p 7 0), (8, .p 8 0), (11, Ba vb11), (21, Ba vb21), (52, Ba false), (84, Ba true)] [(2, [Bv t1, Hw a, Lw a, Iv x1]), (3, [Bv t2, Hw b, Lw b, Iv x2]), (4, [Bv false, Uv 0, Uv 0, Iv 0]), (7, [Bv t2, Hw (Y / B128), Lw (Y / B128), Hw (Y % B128), Lw (Y % B128), Iv low, Bv M]), (8, [Bv t1, Hw (X / B128), Lw (X / B128), Hw (X % B128), Lw (X % B128), Iv low, Bv false])] ?_)))
            refine mid_n hmid (t2, Y, X, M, false, t1, true) (⟨w5, Nat.le_of_lt hlt2, g1, fun _ => w6, fun h => by cases h⟩) (by kernel_rfl)
        · replace hzl := bt hzl
          refine iQ 2 (iC 56 [.agg [Hw (Y / B128), Lw (Y / B128)]] (some 45) (cw_Zero (Nat.div_lt_of_lt_mul (Nat.lt_trans g1 (by decide)))) ?_)
          rintro _ ⟨zh, rfl, hzh⟩
          refine iQ 2 ?_
          cases zh
          · replace hzh := bf hzh
            refine iQ 5 (iE 122 [(2, .p 2 0), (3, .p 3 0), (4, .p 4 0), (5, Ba false), (6, Ia low), (7, .p 7 0), (8, .p 8 0), (11, Ba vb11), (21, Ba vb21), (52, Ba false)] [(2, [Bv t1, Hw a, Lw a, Iv x1]), (3, [Bv t2, Hw b, Lw b, Iv x2]), (4, [Bv false, Uv 0, Uv 0, Iv 0]), (7, [Bv t1, Hw (X / B128), Lw (X / B128), Hw (X % B128), Lw (X % B128), Iv low, Bv false]), (8, [Bv t2, Hw (Y / B128), Lw (Y / B128), Hw (Y % B128), Lw (Y % B128), Iv low, Bv M])] ?_)
            refine iF (vc_skip (seq_n ?_))
            refine vc_mid 122 (fun (vcx : Bool × Nat × Nat × Bool × Bool × Bool × Bool) => match vcx with | (u, P, Q, mx, mo, v, vb84) => [(2, .p 2 0), (3, .p 3 0), (4, .p 4 0), (5, Ba false), (6, Ia low), (7, .p 7 0), (8, .p 8 0), (11, Ba vb11), (21, Ba vb21), (52, Ba false), (84, Ba vb84)]) (fun (vcx : Bool × Nat × Nat × Bool × Bool × Bool × Bool) => match vcx with | (u, P, Q, mx, mo, v, vb84) => [(2, [Bv t1, Hw a, Lw a, Iv x1]), (3, [Bv t2, Hw b, Lw b, Iv x2]), (4, [Bv false, Uv 0, Uv 0, Iv 0]), (7, [Bv u, Hw (P / B128), Lw (P / B128), Hw (P % B128), Lw (P % B128), Iv low, Bv mx]), (8, [Bv v, Hw (Q / B128), Lw (Q / B128), Hw (Q % B128), Lw (Q % B128), Iv low, Bv mo])]) (fun (vcx : Bool × Nat × Nat × Bool × Bool × Bool × Bool) => match vcx with | (u, P, Q, mx, mo, v, vb84) => mx = false ∧ Q ≤ P ∧ P < 10 ^ 70 ∧ (mo = false → fitT 1 u (P - Q) low false = addT t1 a x1 t2 b x2) ∧ (mo = true → 1 ≤ P - Q ∧ fitT 1 u (P - Q - 1) low true = addT t1 a x1 t2 b x2)) ?_ ?_
            · rintro ⟨u, P, Q, mx, mo, v, vb84⟩ hinv
              simp only at hinv
              obtain ⟨hmx, hQP, hP, w1, w2⟩ := hinv
              have hPQ : P - Q < 10 ^ 70 := Nat.lt_of_le_of_lt (Nat.sub_le _ _) hP
              refine vc_seqr rfl (iQ 8 (iC 82 [.agg [Hw (P / B128), Lw (P / B128)], .agg [Hw (P % B128), Lw (P % B128)], .agg [Hw (Q / B128), Lw (Q / B128)], .agg [Hw (Q % B128), Lw (Q % B128)]] (some 96) (cw_SubN hP hQP) ?_))
              rintro _ rfl
              refine iQ 8 (iE 122 [(2, .p 2 0), (3, .p 3 0), (4, .p 4 0), (5, Ba false), (6, Ia low), (7, .p 7 0), (8, .p 8 0), (11, Ba vb11), (21, Ba vb21), (52, Ba false), (84, Ba vb84)] [(2, [Bv t1, Hw a, Lw a, Iv x1]), (3, [Bv t2, Hw b, Lw b, Iv x2]), (4, [Bv false, Uv 0, Uv 0, Iv 0]), (7, [Bv u, Hw ((P - Q) / B128), Lw ((P - Q) / B128), Hw ((P - Q) % B128), Lw ((P - Q) % B128), Iv low, Bv mx]), (8, [Bv v, Hw (Q / B128), Lw (Q / B128), Hw (Q % B128), Lw (Q % B128), Iv low, Bv mo])] ?_)
              refine vc_seq (vc_seqr rfl (iQ 2 (iE 122 [(2, .p 2 0), (3, .p 3 0), (4, .p 4 0), (5, Ba false), (6, Ia low), (7, .p 7 0), (8, .p 8 0), (11, Ba vb11), (21, Ba vb21), (52, Ba false), (84, Ba vb84), (103, Ba mo)] [(2, [Bv t1, Hw a, Lw a, Iv x1]), (3, [Bv t2, Hw b, Lw b, Iv x2]), (4, [Bv false, Uv 0, Uv 0, Iv 0]), (7, [Bv u, Hw ((P - Q) / B128), Lw ((P - Q) / B128), Hw ((P - Q) % B128), Lw ((P - Q) % B128), Iv low, Bv mx]), (8, [Bv v, Hw (Q / B128), Lw (Q / B128), Hw (Q % B128), Lw (Q % B128), Iv low, Bv mo])] ?_)))
              cases mo
              · skip
                refine iF (vc_skip (seq_n (vc_seqr rfl (iQ 1 (iC 75 [.agg [Bv u, Hw ((P - Q) / B128), Lw ((P - Q) / B128), Hw ((P - Q) % B128), Lw ((P - Q) % B128), Iv low, Bv mx], Iv 1] (some 119) (c_FitT (m := 1) (N := P - Q) (Nat.div_add_mod' _ _).symm (Nat.div_lt_of_lt_mul (Nat.lt_trans hPQ (by decide))) (mod_lt128 _) (by omega) (by omega)) ?_)))))
                rintro _ ⟨g, k, x, ok, rfl, hT⟩
                refine iQ 4 (iE 122 [(2, .p 2 0), (3, .p 3 0), (4, .p 4 0), (5, Ba ok), (6, Ia low), (7, .p 7 0), (8, .p 8 0), (11, Ba vb11), (21, Ba vb21), (52, Ba false), (84, Ba vb84), (103, Ba false)] [(2, [Bv t1, Hw a, Lw a, Iv x1]), (3, [Bv t2, Hw b, Lw b, Iv x2]), (4, [Bv g, Hw k, Lw k, Iv x]), (7, [Bv u, Hw ((P - Q) / B128), Lw ((P - Q) / B128), Hw ((P - Q) % B128), Lw ((P - Q) % B128), Iv low, Bv mx]), (8, [Bv v, Hw (Q / B128), Lw (Q / B128), Hw (Q % B128), Lw (Q % B128), Iv low, Bv false])] ?_)
                refine vc_ret (iS (.agg [Bv g, Hw k, Lw k, Iv x]) (Bv ok) [] ?_)
                rw [hmx] at hT; rw [← w1 rfl, hT]; rfl
              · skip
                obtain ⟨w3, w4⟩ := w2 rfl
                refine iT (vc_seqr rfl (iQ 5 (iC 74 [Uv 1] (some 110) (cw_Of 1) ?_)))
                rintro _ rfl
                refine iC 82 [.agg [Hw ((P - Q) / B128), Lw ((P - Q) / B128)], .agg [Hw ((P - Q) % B128), Lw ((P - Q) % B128)], .agg [Uv 0, Uv 0], .agg [Uv 0, Uv 1]] (some 111) (cw_Sub1 hPQ w3) ?_
                rintro _ rfl
                refine iQ 8 (iE 122 [(2, .p 2 0), (3, .p 3 0), (4, .p 4 0), (5, Ba false), (6, Ia low), (7, .p 7 0), (8, .p 8 0), (11, Ba vb11), (21, Ba vb21), (52, Ba false), (84, Ba vb84), (103, Ba true)] [(2, [Bv t1, Hw a, Lw a, Iv x1]), (3, [Bv t2, Hw b, Lw b, Iv x2]), (4, [Bv false, Uv 0, Uv 0, Iv 0]), (7, [Bv u, Hw ((P - Q - 1) / B128), Lw ((P - Q - 1) / B128), Hw ((P - Q - 1) % B128), Lw ((P - Q - 1) % B128), Iv low, Bv mx]), (8, [Bv v, Hw (Q / B128), Lw (Q / B128), Hw (Q % B128), Lw (Q % B128), Iv low, Bv true])] ?_)
                refine vc_reg rfl (iQ 2 (iE 122 [(2, .p 2 0), (3, .p 3 0), (4, .p 4 0), (5, Ba false), (6, Ia low), (7, .p 7 0), (8, .p 8 0), (11, Ba vb11), (21, Ba vb21), (52, Ba false), (84, Ba vb84), (103, Ba true)] [(2, [Bv t1, Hw a, Lw a, Iv x1]), (3, [Bv t2, Hw b, Lw b, Iv x2]), (4, [Bv false, Uv 0, Uv 0, Iv 0]), (7, [Bv u, Hw ((P - Q - 1) / B128), Lw ((P - Q - 1) / B128), Hw ((P - Q - 1) % B128), Lw ((P - Q - 1) % B128), Iv low, Bv true]), (8, [Bv v, Hw (Q / B128), Lw (Q / B128), Hw (Q % B128), Lw (Q % B128), Iv low, Bv true])] ?_))
                refine seq_n (vc_seqr rfl (iQ 1 (iC 75 [.agg [Bv u, Hw ((P - Q - 1) / B128), Lw ((P - Q - 1) / B128), Hw ((P - Q - 1) % B128), Lw ((P - Q - 1) % B128), Iv low, Bv true], Iv 1] (some 119) (c_FitT (m := 1) (N := P - Q - 1) (Nat.div_add_mod' _ _).symm (Nat.div_lt_of_lt_mul (Nat.lt_of_le_of_lt (Nat.sub_le _ _) (Nat.lt_trans hPQ (by decide)))) (mod_lt128 _) (by omega) (by omega)) ?_)))
                rintro _ ⟨g, k, x, ok, rfl, hT⟩
                refine iQ 4 (iE 122 [(2, .p 2 0), (3, .p 3 0), (4, .p 4 0), (5, Ba ok), (6, Ia low), (7, .p 7 0), (8, .p 8 0), (11, Ba vb11), (21, Ba vb21), (52, Ba false), (84, Ba vb84), (103, Ba true)] [(2, [Bv t1, Hw a, Lw a, Iv x1]), (3, [Bv t2, Hw b, Lw b, Iv x2]), (4, [Bv g, Hw k, Lw k, Iv x]), (7, [Bv u, Hw ((P - Q - 1) / B128), Lw ((P - Q - 1) / B128), Hw ((P - Q - 1) % B128), Lw ((P - Q - 1) % B128), Iv low, Bv true]), (8, [Bv v, Hw (Q / B128), Lw (Q / B128), Hw (Q % B128), Lw (Q % B128), Iv low, Bv true])] ?_)
                refine vc_ret (iS (.agg [Bv g, Hw k, Lw k, Iv x]) (Bv ok) [] ?_)
                rw [← w4, hT]; rfl
            intro hmid
            refine vc_seqr rfl (iQ 8 (iC 73 [.agg [Hw (X / B128), Lw (X / B128)], .agg [Hw (X % B128), Lw (X % B128)], .agg [Hw (Y / B128), Lw (Y / B128)], .agg [Hw (Y % B128), Lw (Y % B128)]] (some 83) (cw_CmpN f1 g1) ?_))
            rintro _ rfl
            refine iB .lss 3 (.int .i64 (cmpN X Y)) (.int .i64 0) (some 84) ?_
            intro c84 hc84
            refine iE 122 [(2, .p 2 0), (3, .p 3 0), (4, .p 4 0), (5, Ba false), (6, Ia low), (7, .p 7 0), (8, .p 8 0), (11, Ba vb11), (21, Ba vb21), (52, Ba false), (84, Ba c84)] [(2, [Bv t1, Hw a, Lw a, Iv x1]), (3, [Bv t2, Hw b, Lw b, Iv x2]), (4, [Bv false, Uv 0, Uv 0, Iv 0]), (7, [Bv t1, Hw (X / B128), Lw (X / B128), Hw (X % B128), Lw (X % B128), Iv low, Bv false]), (8, [Bv t2, Hw (Y / B128), Lw (Y / B128), Hw (Y % B128), Lw (Y % B128), Iv low, Bv M])] ?_
            cases c84
            · replace hc84 := bf hc84
              have hle2 : Y ≤ X := by have := cN_lt (a := X) (b := Y); omega
              refine iF (vc_skip ?_)
              refine mid_n hmid (t1, X, Y, false, M, t2, false) (⟨rfl, hle2, f1, fun h => law2 hD h hle2, fun h => law4 hD h⟩) (by kernel_rfl)
            · replace hc84 := bt hc84
              have hlt2 : X < Y := cN_lt.1 hc84
              obtain ⟨w5, w6⟩ := law3 hD hlt2
              refine iT (vc_reg rfl (iQ 4 (iE 122 [(2, .p 2 0), (3, .p 3 0), (4, .p 4 0), (5, Ba false), (6, Ia low), (7, .p 7 0), (8, .p 8 0), (11, Ba vb11), (21, Ba vb21), (52, Ba false), (84, Ba true)] [(2, [Bv t1, Hw a, Lw a, Iv x1]), (3, [Bv t2, Hw b, Lw b, Iv x2]), (4, [Bv false, Uv 0, Uv 0, Iv 0]), (7, [Bv t2, Hw (Y / B128), Lw (Y / B128), Hw (Y % B128), Lw (Y % B128), Iv low, Bv M]), (8, [Bv t1, Hw (X / B128), Lw (X / B128), Hw (X % B128), Lw (X % B128), Iv low, Bv false])] ?_)))
              refine mid_n hmid (t2, Y, X, M, false, t1, true) (⟨w5, Nat.le_of_lt hlt2, g1, fun _ => w6, fun h => by cases h⟩) (by kernel_rfl)
          · replace hzh := bt hzh
            refine iQ 2 (iU .not (.bool M) (some 50) ?_)
            intro c50 hc50
            refine iQ 2 (iE 122 [(2, .p 2 0), (3, .p 3 0), (4, .p 4 0), (5, Ba false), (6, Ia low), (7, .p 7 0), (8, .p 8 0), (11, Ba vb11), (21, Ba vb21), (52, Ba c50)] [(2, [Bv t1, Hw a, Lw a, Iv x1]), (3, [Bv t2, Hw b, Lw b, Iv x2]), (4, [Bv false, Uv 0, Uv 0, Iv 0]), (7, [Bv t1, Hw (X / B128), Lw (X / B128), Hw (X % B128), Lw (X % B128), Iv low, Bv false]), (8, [Bv t2, Hw (Y / B128), Lw (Y / B128), Hw (Y % B128), Lw (Y % B128), Iv low, Bv M])] ?_)
            cases c50
            · replace hc50 := bf hc50
              refine iF (vc_skip (seq_n ?_))
              refine vc_mid 122 (fun (vcx : Bool × Nat × Nat × Bool × Bool × Bool × Bool) => match vcx with | (u, P, Q, mx, mo, v, vb84) => [(2, .p 2 0), (3, .p 3 0), (4, .p 4 0), (5, Ba false), (6, Ia low), (7, .p 7 0), (8, .p 8 0), (11, Ba vb11), (21, Ba vb21), (52, Ba false), (84, Ba vb84)]) (fun (vcx : Bool × Nat × Nat × Bool × Bool × Bool × Bool) => match vcx with | (u, P, Q, mx, mo, v, vb84) => [(2, [Bv t1, Hw a, Lw a, Iv x1]), (3, [Bv t2, Hw b, Lw b, Iv x2]), (4, [Bv false, Uv 0, Uv 0, Iv 0]), (7, [Bv u, Hw (P / B128), Lw (P / B128), Hw (P % B128), Lw (P % B128), Iv low, Bv mx]), (8, [Bv v, Hw (Q / B128), Lw (Q / B128), Hw (Q % B128), Lw (Q % B128), Iv low, Bv mo])]) (fun (vcx : Bool × Nat × Nat × Bool × Bool × Bool × Bool) => match vcx with | (u, P, Q, mx, mo, v, vb84) => mx = false ∧ Q ≤ P ∧ P < 10 ^ 70 ∧ (mo = false → fitT 1 u (P - Q) low false = addT t1 a x1 t2 b x2) ∧ (mo = true → 1 ≤ P - Q ∧ fitT 1 u (P - Q - 1) low true = addT t1 a x1 t2 b x2)) ?_ ?_
              · rintro ⟨u, P, Q, mx, mo, v, vb84⟩ hinv
                simp only at hinv
                obtain ⟨hmx, hQP, hP, w1, w2⟩ := hinv
                have hPQ : P - Q < 10 ^ 70 := Nat.lt_of_le_of_lt (Nat.sub_le _ _) hP
                refine vc_seqr rfl (iQ 8 (iC 82 [.agg [Hw (P / B128), Lw (P / B128)], .agg [Hw (P % B128), Lw (P % B128)], .agg [Hw (Q / B128), Lw (Q / B128)], .agg [Hw (Q % B128), Lw (Q % B128)]] (some 96) (cw_SubN hP hQP) ?_))
                rintro _ rfl
                refine iQ 8 (iE 122 [(2, .p 2 0), (3, .p 3 0), (4, .p 4 0), (5, Ba false), (6, Ia low), (7, .p 7 0), (8, .p 8 0), (11, Ba vb11), (21, Ba vb21), (52, Ba false), (84, Ba vb84)] [(2, [Bv t1, Hw a, Lw a, Iv x1]), (3, [Bv t2, Hw b, Lw b, Iv x2]), (4, [Bv false, Uv 0, Uv 0, Iv 0]), (7, [Bv u, Hw ((P - Q) / B128), Lw ((P - Q) / B128), Hw ((P - Q) % B128), Lw ((P - Q) % B128), Iv low, Bv mx]), (8, [Bv v, Hw (Q / B128), Lw (Q / B128), Hw (Q % B128), Lw (Q % B128), Iv low, Bv mo])] ?_)
                refine vc_seq (vc_seqr rfl (iQ 2 (iE 122 [(2, .p 2 0), (3, .p 3 0), (4, .p 4 0), (5, Ba false), (6, Ia low), (7, .p 7 0), (8, .p 8 0), (11, Ba vb11), (21, Ba vb21), (52, Ba false), (84, Ba vb84), (103, Ba mo)] [(2, [Bv t1, Hw a, Lw a, Iv x1]), (3, [Bv t2, Hw b, Lw b, Iv x2]), (4, [Bv false, Uv 0, Uv 0, Iv 0]), (7, [Bv u, Hw ((P - Q) / B128), Lw ((P - Q) / B128), Hw ((P - Q) % B128), Lw ((P - Q) % B128), Iv low, Bv mx]), (8, [Bv v, Hw (Q / B128), Lw (Q / B128), Hw (Q % B128), Lw (Q % B128), Iv low, Bv mo])] ?_)))
                cases mo
                · skip
                  refine iF (vc_skip (seq_n (vc_seqr rfl (iQ 1 (iC 75 [.agg [Bv u, Hw ((P - Q) / B128), Lw ((P - Q) / B128), Hw ((P - Q) % B128), Lw ((P - Q) % B128), Iv low, Bv mx], Iv 1] (some 119) (c_FitT (m := 1) (N := P - Q) (Nat.div_add_mod' _ _).symm (Nat.div_lt_of_lt_mul (Nat.lt_trans hPQ (by decide))) (mod_lt128 _) (by omega) (by omega)) ?_)))))
                  rintro _ ⟨g, k, x, ok, rfl, hT⟩
                  refine iQ 4 (iE 122 [(2, .p 2 0), (3, .p 3 0), (4, .p 4 0), (5, Ba ok), (6, Ia low), (7, .p 7 0), (8, .p 8 0), (11, Ba vb11), (21, Ba vb21), (52, Ba false), (84, Ba vb84), (103, Ba false)] [(2, [Bv t1, Hw a, Lw a, Iv x1]), (3, [Bv t2, Hw b, Lw b, Iv x2]), (4, [Bv g, Hw k, Lw k, Iv x]), (7, [Bv u, Hw ((P - Q) / B128), Lw ((P - Q) / B128), Hw ((P - Q) % B128), Lw ((P - Q) % B128), Iv low, Bv mx]), (8, [Bv v, Hw (Q / B128), Lw (Q / B128), Hw (Q % B128), Lw (Q % B128), Iv low, Bv false])] ?_)
                  refine vc_ret (iS (.agg [Bv g, Hw k, Lw k, Iv x]) (Bv ok) [] ?_)
                  rw [hmx] at hT; rw [← w1 rfl, hT]; rfl
                · skip
                  obtain ⟨w3, w4⟩ := w2 rfl
                  refine iT (vc_seqr rfl (iQ 5 (iC 74 [Uv 1] (some 110) (cw_Of 1) ?_)))
                  rintro _ rfl
                  refine iC 82 [.agg [Hw ((P - Q) / B128), Lw ((P - Q) / B128)], .agg [Hw ((P - Q) % B128), Lw ((P - Q) % B128)], .agg [Uv 0, Uv 0], .agg [Uv 0, Uv 1]] (some 111) (cw_Sub1 hPQ w3) ?_
                  rintro _ rfl
                  refine iQ 8 (iE 122 [(2, .p 2 0), (3, .p 3 0), (4, .p 4 0), (5, Ba false), (6, Ia low), (7, .p 7 0), (8, .p 8 0), (11, Ba vb11), (21, Ba vb21), (52, Ba false), (84, Ba vb84), (103, Ba true)] [(2, [Bv t1, Hw a, Lw a, Iv x1]), (3, [Bv t2, Hw b, Lw b, Iv x2]), (4, [Bv false, Uv 0, Uv 0, Iv 0]), (7, [Bv u, Hw ((P - Q - 1) / B128), Lw ((P - Q - 1) / B128), Hw ((P - Q - 1) % B128), Lw ((P - Q - 1) % B128), Iv low, Bv mx]), (8, [Bv v, Hw (Q / B128), Lw (Q / B128), Hw (Q % B128), Lw (Q % B128), Iv low, Bv true])] ?_)
                  refine vc_reg rfl (iQ 2 (iE 122 [(2, .p 2 0), (3, .p 3 0), (4, .p 4 0), (5, Ba false), (6, Ia low), (7, .p 7 0), (8, .p 8 0), (11, Ba vb11), (21, Ba vb21), (52, Ba false), (84, Ba vb84), (103, Ba true)] [(2, [Bv t1, Hw a, Lw a, Iv x1]), (3, [Bv t2, Hw b, Lw b, Iv x2]), (4, [Bv false, Uv 0, Uv 0, Iv 0]), (7, [Bv u, Hw ((P - Q - 1) / B128), Lw ((P - Q - 1) / B128), Hw ((P - Q - 1) % B128), Lw ((P - Q - 1) % B128), Iv low, Bv true]), (8, [Bv v, Hw (Q / B128), Lw (Q / B128), Hw (Q % B128), Lw (Q % B128), Iv low, Bv true])] ?_))
                  refine seq_n (vc_seqr rfl (iQ 1 (iC 75 [.agg [Bv u, Hw ((P - Q - 1) / B128), Lw ((P - Q - 1) / B128), Hw ((P - Q - 1) % B128), Lw ((P - Q - 1) % B128), Iv low, Bv true], Iv 1] (some 119) (c_FitT (m := 1) (N := P - Q - 1) (Nat.div_add_mod' _ _).symm (Nat.div_lt_of_lt_mul (Nat.lt_of_le_of_lt (Nat.sub_le _ _) (Nat.lt_trans hPQ (by decide)))) (mod_lt128 _) (by omega) (by omega)) ?_)))
                  rintro _ ⟨g, k, x, ok, rfl, hT⟩
                  refine iQ 4 (iE 122 [(2, .p 2 0), (3, .p 3 0), (4, .p 4 0), (5, Ba ok), (6, Ia low), (7, .p 7 0), (8, .p 8 0), (11, Ba vb11), (21, Ba vb21), (52, Ba false), (84, Ba vb84), (103, Ba true)] [(2, [Bv t1, Hw a, Lw a, Iv x1]), (3, [Bv t2, Hw b, Lw b, Iv x2]), (4, [Bv g, Hw k, Lw k, Iv x]), (7, [Bv u, Hw ((P - Q - 1) / B128), Lw ((P - Q - 1) / B128), Hw ((P - Q - 1) % B128), Lw ((P - Q - 1) % B128), Iv low, Bv true]), (8, [Bv v, Hw (Q / B128), Lw (Q / B128), Hw (Q % B128), Lw (Q % B128), Iv low, Bv true])] ?_)
                  refine vc_ret (iS (.agg [Bv g, Hw k, Lw k, Iv x]) (Bv ok) [] ?_)
                  rw [← w4, hT]; rfl
              intro hmid
              refine vc_seqr rfl (iQ 8 (iC 73 [.agg [Hw (X / B128), Lw (X / B128)], .agg [Hw (X % B128), Lw (X % B128)], .agg [Hw (Y / B128), Lw (Y / B128)], .agg [Hw (Y % B128), Lw (Y % B128)]] (some 83) (cw_CmpN f1 g1) ?_))
              rintro _ rfl
              refine iB .lss 3 (.int .i64 (cmpN X Y)) (.int .i64 0) (some 84) ?_
              intro c84 hc84
              refine iE 122 [(2, .p 2 0), (3, .p 3 0), (4, .p 4 0), (5, Ba false), (6, Ia low), (7, .p 7 0), (8, .p 8 0), (11, Ba vb11), (21, Ba vb21), (52, Ba false), (84, Ba c84)] [(2, [Bv t1, Hw a, Lw a, Iv x1]), (3, [Bv t2, Hw b, Lw b, Iv x2]), (4, [Bv false, Uv 0, Uv 0, Iv 0]), (7, [Bv t1, Hw (X / B128), Lw (X / B128), Hw (X % B128), Lw (X % B128), Iv low, Bv false]), (8, [Bv t2, Hw (Y / B128), Lw (Y / B128), Hw (Y % B128), Lw (Y % B128), Iv low, Bv M])] ?_
              cases c84
              · replace hc84 := bf hc84
                have hle2 : Y ≤ X := by have := cN_lt (a := X) (b := Y); omega
                refine iF (vc_skip ?_)
                refine mid_n hmid (t1, X, Y, false, M, t2, false) (⟨rfl, hle2, f1, fun h => law2 hD h hle2, fun h => law4 hD h⟩) (by kernel_rfl)
              · replace hc84 := bt hc84
                have hlt2 : X < Y := cN_lt.1 hc84
                obtain ⟨w5, w6⟩ := law3 hD hlt2
                refine iT (vc_reg rfl (iQ 4 (iE 122 [(2, .p 2 0), (3, .p 3 0), (4, .p 4 0), (5, Ba false), (6, Ia low), (7, .p 7 0), (8, .p 8 0), (11, Ba vb11), (21, Ba vb21), (52, Ba false), (84, Ba true)] [(2, [Bv t1, Hw a, Lw a, Iv x1]), (3, [Bv t2, Hw b, Lw b, Iv x2]), (4, [Bv false, Uv 0, Uv 0, Iv 0]), (7, [Bv t2, Hw (Y / B128), Lw (Y / B128), Hw (Y % B128), Lw (Y % B128), Iv low, Bv M]), (8, [Bv t1, Hw (X / B128), Lw (X / B128), Hw (X % B128), Lw (X % B128), Iv low, Bv false])] ?_)))
                refine mid_n hmid (t2, Y, X, M, false, t1, true) (⟨w5, Nat.le_of_lt hlt2, g1, fun _ => w6, fun h => by cases h⟩) (by kernel_rfl)
            · replace hc50 := bt hc50
              have hS : t1 = t2 ∨ (Y = 0 ∧ M = false) := .inr ⟨by have := Nat.div_add_mod' Y B128; rw [hzl, hzh] at this; omega, hc50⟩
              refine iT (vc_seqr rfl (iQ 8 (iC 81 [.agg [Hw (X / B128), Lw (X / B128)], .agg [Hw (X % B128), Lw (X % B128)], .agg [Hw (Y / B128), Lw (Y / B128)], .agg [Hw (Y % B128), Lw (Y % B128)]] (some 62) (cw_AddN f1 g1) ?_)))
              rintro _ rfl
              refine iQ 8 (iE 122 [(2, .p 2 0), (3, .p 3 0), (4, .p 4 0), (5, Ba false), (6, Ia low), (7, .p 7 0), (8, .p 8 0), (11, Ba vb11), (21, Ba vb21), (52, Ba true)] [(2, [Bv t1, Hw a, Lw a, Iv x1]), (3, [Bv t2, Hw b, Lw b, Iv x2]), (4, [Bv false, Uv 0, Uv 0, Iv 0]), (7, [Bv t1, Hw ((X + Y) / B128), Lw ((X + Y) / B128), Hw ((X + Y) % B128), Lw ((X + Y) % B128), Iv low, Bv false]), (8, [Bv t2, Hw (Y / B128), Lw (Y / B128), Hw (Y % B128), Lw (Y % B128), Iv low, Bv M])] ?_)
              refine vc_seqr rfl (iQ 4 (iE 122 [(2, .p 2 0), (3, .p 3 0), (4, .p 4 0), (5, Ba false), (6, Ia low), (7, .p 7 0), (8, .p 8 0), (11, Ba vb11), (21, Ba vb21), (52, Ba true)] [(2, [Bv t1, Hw a, Lw a, Iv x1]), (3, [Bv t2, Hw b, Lw b, Iv x2]), (4, [Bv false, Uv 0, Uv 0, Iv 0]), (7, [Bv t1, Hw ((X + Y) / B128), Lw ((X + Y) / B128), Hw ((X + Y) % B128), Lw ((X + Y) % B128), Iv low, Bv M]), (8, [Bv t2, Hw (Y / B128), Lw (Y / B128), Hw (Y % B128), Lw (Y % B128), Iv low, Bv M])] ?_))
              refine vc_seqr rfl (iQ 1 (iC 75 [.agg [Bv t1, Hw ((X + Y) / B128), Lw ((X + Y) / B128), Hw ((X + Y) % B128), Lw ((X + Y) % B128), Iv low, Bv M], Iv 1] (some 72) (c_FitT (m := 1) (N := X + Y) (Nat.div_add_mod' _ _).symm (Nat.div_lt_of_lt_mul (Nat.lt_of_lt_of_le (Nat.add_lt_add f1 g1) (by decide))) (mod_lt128 _) (by omega) (by omega)) ?_))
              rintro _ ⟨g, k, x, ok, rfl, hT⟩
              refine iQ 4 (iE 122 [(2, .p 2 0), (3, .p 3 0), (4, .p 4 0), (5, Ba ok), (6, Ia low), (7, .p 7 0), (8, .p 8 0), (11, Ba vb11), (21, Ba vb21), (52, Ba true)] [(2, [Bv t1, Hw a, Lw a, Iv x1]), (3, [Bv t2, Hw b, Lw b, Iv x2]), (4, [Bv g, Hw k, Lw k, Iv x]), (7, [Bv t1, Hw ((X + Y) / B128), Lw ((X + Y) / B128), Hw ((X + Y) % B128), Lw ((X + Y) % B128), Iv low, Bv M]), (8, [Bv t2, Hw (Y / B128), Lw (Y / B128), Hw (Y % B128), Lw (Y % B128), Iv low, Bv M])] ?_)
              refine vc_ret (seq_r (iS (.agg [Bv g, Hw k, Lw k, Iv x]) (Bv ok) [] ?_))
              rw [← law1 hS, hT]; rfl
      · replace hc37 := bt hc37
        refine iQ 14 (iE 122 [(2, .p 2 0), (3, .p 3 0), (4, .p 4 0), (5, Ba false), (6, Ia low), (7, .p 7 0), (8, .p 8 0), (11, Ba vb11), (21, Ba vb21), (52, Ba true)] [(2, [Bv t1, Hw a, Lw a, Iv x1]), (3, [Bv t2, Hw b, Lw b, Iv x2]), (4, [Bv false, Uv 0, Uv 0, Iv 0]), (7, [Bv t1, Hw (X / B128), Lw (X / B128), Hw (X % B128), Lw (X % B128), Iv low, Bv false]), (8, [Bv t2, Hw (Y / B128), Lw (Y / B128), Hw (Y % B128), Lw (Y % B128), Iv low, Bv M])] ?_)
        have hS : t1 = t2 ∨ (Y = 0 ∧ M = false) := .inl hc37
        refine iT (vc_seqr rfl (iQ 8 (iC 81 [.agg [Hw (X / B128), Lw (X / B128)], .agg [Hw (X % B128), Lw (X % B128)], .agg [Hw (Y / B128), Lw (Y / B128)], .agg [Hw (Y % B128), Lw (Y % B128)]] (some 62) (cw_AddN f1 g1) ?_)))
        rintro _ rfl
        refine iQ 8 (iE 122 [(2, .p 2 0), (3, .p 3 0), (4, .p 4 0), (5, Ba false), (6, Ia low), (7, .p 7 0), (8, .p 8 0), (11, Ba vb11), (21, Ba vb21), (52, Ba true)] [(2, [Bv t1, Hw a, Lw a, Iv x1]), (3, [Bv t2, Hw b, Lw b, Iv x2]), (4, [Bv false, Uv 0, Uv 0, Iv 0]), (7, [Bv t1, Hw ((X + Y) / B128), Lw ((X + Y) / B128), Hw ((X + Y) % B128), Lw ((X + Y) % B128), Iv low, Bv false]), (8, [Bv t2, Hw (Y / B128), Lw (Y / B128), Hw (Y % B128), Lw (Y % B128), Iv low, Bv M])] ?_)
        refine vc_seqr rfl (iQ 4 (iE 122 [(2, .p 2 0), (3, .p 3 0), (4, .p 4 0), (5, Ba false), (6, Ia low), (7, .p 7 0), (8, .p 8 0), (11, Ba vb11), (21, Ba vb21), (52, Ba true)] [(2, [Bv t1, Hw a, Lw a, Iv x1]), (3, [Bv t2, Hw b, Lw b, Iv x2]), (4, [Bv false, Uv 0, Uv 0, Iv 0]), (7, [Bv t1, Hw ((X + Y) / B128), Lw ((X + Y) / B128), Hw ((X + Y) % B128), Lw ((X + Y) % B128), Iv low, Bv M]), (8, [Bv t2, Hw (Y / B128), Lw (Y / B128), Hw (Y % B128), Lw (Y % B128), Iv low, Bv M])] ?_))
        refine vc_seqr rfl (iQ 1 (iC 75 [.agg [Bv t1, Hw ((X + Y) / B128), Lw ((X + Y) / B128), Hw ((X + Y) % B128), Lw ((X + Y) % B128), Iv low, Bv M], Iv 1] (some 72) (c_FitT (m := 1) (N := X + Y) (Nat.div_add_mod' _ _).symm (Nat.div_lt_of_lt_mul (Nat.lt_of_lt_of_le (Nat.add_lt_add f1 g1) (by decide))) (mod_lt128 _) (by omega) (by omega)) ?_))
        rintro _ ⟨g, k, x, ok, rfl, hT⟩
        refine iQ 4 (iE 122 [(2, .p 2 0), (3, .p 3 0), (4, .p 4 0), (5, Ba ok), (6, Ia low), (7, .p 7 0), (8, .p 8 0), (11, Ba vb11), (21, Ba vb21), (52, Ba true)] [(2, [Bv t1, Hw a, Lw a, Iv x1]), (3, [Bv t2, Hw b, Lw b, Iv x2]), (4, [Bv g, Hw k, Lw k, Iv x]), (7, [Bv t1, Hw ((X + Y) / B128), Lw ((X + Y) / B128), Hw ((X + Y) % B128), Lw ((X + Y) % B128), Iv low, Bv M]), (8, [Bv t2, Hw (Y / B128), Lw (Y / B128), Hw (Y % B128), Lw (Y % B128), Iv low, Bv M])] ?_)
        refine vc_ret (seq_r (iS (.agg [Bv g, Hw k, Lw k, Iv x]) (Bv ok) [] ?_))
        rw [← law1 hS, hT]; rfl
    intro hmid
    refine vc_seqr rfl (iQ 1 (iC 59 [.agg [Bv t1, Hw a, Lw a, Iv x1]] (some 20) (c_Zero haB) ?_))
    rintro _ ⟨za, rfl, hza⟩
    refine iU .not (.bool za) (some 21) ?_
    intro c21 hc21
    refine iE 122 [(2, .p 2 0), (3, .p 3 0), (4, .p 4 0), (5, Ba false), (6, Ia z18), (11, Ba vb11), (21, Ba c21)] [(2, [Bv t1, Hw a, Lw a, Iv x1]), (3, [Bv t2, Hw b, Lw b, Iv x2]), (4, [Bv false, Uv 0, Uv 0, Iv 0])] ?_
    cases c21
    · replace hc21 := bf hc21
      have ha0 : a = 0 := hza.1 (by simpa using hc21)
      refine iF (vc_skip ?_)
      refine mid_n hmid (z18, false) (⟨ha, hb, hhi, fun _ => by omega, fun h => absurd ha0 h⟩) (by kernel_rfl)
    · replace hc21 := bt hc21
      have ha0 : a ≠ 0 := fun h => by rw [hza.2 h] at hc21; cases hc21
      refine iT (vc_reg rfl (iQ 2 (iC 71 [.agg [Bv t1, Hw a, Lw a, Iv x1]] (some 24) (c_size haB (by omega) (by omega)) ?_)))
      rintro _ rfl
      refine iB .sub 3 (.int .i64 (x1 + (nd a : Int))) (.int .i64 70) (some 25) ?_
      intro z25 hz25
      try replace hz25 := hz25.i64 (by omega)
      refine iL .max [3, 3] [.int .i64 z18, .int .i64 z25] (some 26) ?_
      intro z26 hz26
      simp only at hz26
      refine iQ 1 (iE 122 [(2, .p 2 0), (3, .p 3 0), (4, .p 4 0), (5, Ba false), (6, Ia z26), (11, Ba vb11), (21, Ba true)] [(2, [Bv t1, Hw a, Lw a, Iv x1]), (3, [Bv t2, Hw b, Lw b, Iv x2]), (4, [Bv false, Uv 0, Uv 0, Iv 0])] ?_)
      refine mid_n hmid (z26, true) (⟨ha, hb, hhi, fun h => absurd h ha0, fun _ => by omega⟩) (by kernel_rfl)
  intro hmid
  refine vc_seqr rfl (iQ 2 (iC 79 [.agg [Bv s2, Hw B, Lw B, Iv e2], .agg [Bv s1, Hw A, Lw A, Iv e1]] (some 11) (c_higherX hBB hAB (by omega) (by omega) (by omega) (by omega)) ?_))
  rintro _ ⟨hg, rfl, hhg⟩
  refine iE 122 [(2, .p 2 0), (3, .p 3 0), (4, .p 4 0), (5, Ba false), (11, Ba hg)] [(2, [Bv s1, Hw A, Lw A, Iv e1]), (3, [Bv s2, Hw B, Lw B, Iv e2]), (4, [Bv false, Uv 0, Uv 0, Iv 0])] ?_
  cases hg
  · replace hhg := bf hhg
    refine iF (vc_skip ?_)
    refine mid_n hmid (s1, s2, A, B, e1, e2, false) (⟨hA, hB, hi_no hhg, ⟨h1, h2, h3, h4⟩, rfl⟩) (by kernel_rfl)
  · replace hhg := bt hhg
    refine iT (vc_reg rfl (iQ 4 (iE 122 [(2, .p 2 0), (3, .p 3 0), (4, .p 4 0), (5, Ba false), (11, Ba true)] [(2, [Bv s2, Hw B, Lw B, Iv e2]), (3, [Bv s1, Hw A, Lw A, Iv e1]), (4, [Bv false, Uv 0, Uv 0, Iv 0])] ?_)))
    refine mid_n hmid (s2, s1, B, A, e2, e1, true) (⟨hB, hA, hi_yes hhg, ⟨h3, h4, h1, h2⟩, addT_comm _ _ _ _ _ _⟩) (by kernel_rfl)

theorem c_decSub {s1 s2 : Bool} {A B : Nat} {e1 e2 : Int} (hA : A < E34) (hB : B < E34) (h1 : -10000000000000000 ≤ e1) (h2 : e1 ≤ 10000000000000000) (h3 : -10000000000000000 ≤ e2) (h4 : e2 ≤ 10000000000000000) : HasC Try.prog 31 [.agg [.v (.bool s1), .v (.int .u64 (hiW (A))), .v (.int .u64 (loW (A))), .v (.int .i64 e1)], .agg [.v (.bool s2), .v (.int .u64 (hiW (B))), .v (.int .u64 (loW (B))), .v (.int .i64 e2)]] (fun y => y = dFit (addT s1 A e1 (!s2 && decide (B ≠ 0)) B e2)) := by
  refine HasC.of [] (fn := Try.f31) tyOk mixed (fun args w => Try.call31 args w) Try.func31 rfl (by kernel_rfl) (Nat.le_of_ble_eq_true rfl) (⟨_, rfl⟩) ?_
  refine vc_seqr rfl (iQ 4 (iE 12 [(2, .p 2 0), (3, .p 3 0), (4, .p 4 0), (5, Ba false)] [(2, [Bv s1, Hw A, Lw A, Iv e1]), (3, [Bv s2, Hw B, Lw B, Iv e2]), (4, [Bv false, Uv 0, Uv 0, Iv 0])] ?_))
  refine vc_seqr rfl (iQ 2 (iC 34 [.agg [Bv s2, Hw B, Lw B, Iv e2]] (some 8) (c_Neg (Nat.lt_trans hB e34_lt)) ?_))
  rintro _ rfl
  refine iC 33 [.agg [Bv s1, Hw A, Lw A, Iv e1], .agg [Bv ((!s2 && decide (B ≠ 0))), Hw B, Lw B, Iv e2]] (some 9) (dfit_ex (c_decAdd hA hB h1 h2 h3 h4)) ?_
  rintro _ ⟨g, k, x, ok, rfl, hT⟩
  refine iQ 4 (iE 12 [(4, .p 4 0), (5, Ba ok)] [(4, [Bv g, Hw k, Lw k, Iv x])] ?_)
  refine vc_ret (iS (.agg [Bv g, Hw k, Lw k, Iv x]) (Bv ok) [] ?_)
  rw [hT]; rfl

theorem c_cmpInt {x y : Int} : HasC Try.prog 70 [.v (.int .i64 x), .v (.int .i64 y)] (fun r => r = .v (.int .i64 (cmpI x y))) := by
  refine HasC.of [] (fn := Try.f70) tyOk mixed (fun args w => Try.call70 args w) Try.func70 rfl (by kernel_rfl) (Nat.le_of_ble_eq_true rfl) (⟨_, rfl⟩) ?_
  refine vc_seqr rfl (iQ 1 (iE 13 [(0, Ia x), (1, Ia y), (4, Ia 0)] [] ?_))
  refine vc_seq (vc_block (vc_seqr rfl (iQ 2 (iB .lss 3 (.int .i64 x) (.int .i64 y) (some 8) ?_))))
  intro c8 hc8
  refine iQ 1 (iE 13 [(0, Ia x), (1, Ia y), (4, Ia 0), (5, Ba c8)] [] ?_)
  cases c8
  · replace hc8 := bf hc8
    refine iF (vc_seqr rfl (iQ 2 (iB .gtr 3 (.int .i64 x) (.int .i64 y) (some 12) ?_)))
    intro c12 hc12
    refine iQ 1 (iE 13 [(0, Ia x), (1, Ia y), (4, Ia 0), (5, Ba false), (9, Ba c12)] [] ?_)
    cases c12
    · replace hc12 := bf hc12
      refine iF (vc_skip (block_n (seq_n (vc_seqr rfl (iQ 1 (iE 13 [(0, Ia x), (1, Ia y), (4, Ia 0), (5, Ba false), (9, Ba false)] [] ?_))))))
      refine vc_ret (iR (Iv 0) ?_)
      rw [cmpI, if_neg hc8, if_pos (by omega)]
    · replace hc12 := bt hc12
      refine iT (vc_seqr rfl (iQ 1 (iE 13 [(0, Ia x), (1, Ia y), (4, Ia 1), (5, Ba false), (9, Ba true)] [] ?_)))
      refine vc_ret (block_r (seq_r (iR (Iv 1) ?_)))
      rw [cmpI, if_neg hc8, if_neg (by omega)]
  · replace hc8 := bt hc8
    refine iT (vc_seqr rfl (iQ 1 (iE 13 [(0, Ia x), (1, Ia y), (4, Ia (-1)), (5, Ba true)] [] ?_)))
    refine vc_ret (block_r (seq_r (iR (Iv (-1)) ?_)))
    rw [cmpI, if_pos hc8]

theorem c_wideOf {s : Bool} {A n : Nat} {e X : Int} (hX : X = (n : Int)) (hn : n ≤ 38) (hA : A < B128) (h1 : -100000000000000000 ≤ e) (h2 : e ≤ 100000000000000000) : HasC Try.prog 72 [.agg [.v (.bool s), .v (.int .u64 (hiW (A))), .v (.int .u64 (loW (A))), .v (.int .i64 e)], .v (.int .i64 X)] (fun y => y = dWide s (A * 10 ^ n / B128) (A * 10 ^ n % B128) (e - n) false) := by
  refine HasC.of [] (fn := Try.f72) tyOk mixed (fun args w => Try.call72 args w) Try.func72 rfl (by kernel_rfl) (Nat.le_of_ble_eq_true rfl) (⟨_, rfl⟩) ?_
  have hXn : X.toNat = n := by omega
  refine vc_seqr rfl (iQ 2 (iE 30 [(1, Ia X), (2, .p 2 0), (4, .p 4 0)] [(2, [Bv s, Hw A, Lw A, Iv e]), (4, [Bv false, Uv 0, Uv 0, Uv 0, Uv 0, Iv 0, Bv false])] ?_))
  refine vc_seqr rfl (iQ 1 (iC 54 [Iv X] (some 11) (cw_Ten (k := X) (by omega) (by omega)) ?_))
  rintro _ rfl
  have ht : 10 ^ X.toNat < B128 := Nat.lt_of_le_of_lt (Nat.pow_le_pow_right (by decide) (show X.toNat ≤ 38 by omega)) (by decide)
  refine iQ 6 (iE 30 [(1, Ia X), (2, .p 2 0), (4, .p 4 0), (5, .p 5 0)] [(2, [Bv s, Hw A, Lw A, Iv e]), (4, [Bv false, Uv 0, Uv 0, Uv 0, Uv 0, Iv 0, Bv false]), (5, [Hw (10 ^ X.toNat), Lw (10 ^ X.toNat)])] ?_)
  refine vc_seqr rfl (iQ 3 (iC 60 [.agg [Hw A, Lw A], .agg [Hw (10 ^ X.toNat), Lw (10 ^ X.toNat)]] (some 18) (cw_Mul hA ht) ?_))
  rintro _ rfl
  refine iQ 7 (iE 30 [(1, Ia X), (2, .p 2 0), (4, .p 4 0), (5, .p 5 0), (7, .p 7 0), (8, .p 8 0)] [(2, [Bv s, Hw A, Lw A, Iv e]), (4, [Bv false, Uv 0, Uv 0, Uv 0, Uv 0, Iv 0, Bv false]), (5, [Hw (10 ^ X.toNat), Lw (10 ^ X.toNat)]), (7, [Hw (A * 10 ^ X.toNat / B128), Lw (A * 10 ^ X.toNat / B128)]), (8, [Hw (A * 10 ^ X.toNat % B128), Lw (A * 10 ^ X.toNat % B128)])] ?_)
  refine vc_seqr rfl (iQ 7 (iB .sub 3 (.int .i64 e) (.int .i64 X) (some 28) ?_))
  intro z28 hz28
  try replace hz28 := hz28.i64 (by omega)
  refine iQ 2 (iE 30 [(1, Ia X), (2, .p 2 0), (4, .p 4 0), (5, .p 5 0), (7, .p 7 0), (8, .p 8 0)] [(2, [Bv s, Hw A, Lw A, Iv e]), (4, [Bv s, Hw (A * 10 ^ X.toNat / B128), Lw (A * 10 ^ X.toNat / B128), Hw (A * 10 ^ X.toNat % B128), Lw (A * 10 ^ X.toNat % B128), Iv z28, Bv false]), (5, [Hw (10 ^ X.toNat), Lw (10 ^ X.toNat)]), (7, [Hw (A * 10 ^ X.toNat / B128), Lw (A * 10 ^ X.toNat / B128)]), (8, [Hw (A * 10 ^ X.toNat % B128), Lw (A * 10 ^ X.toNat % B128)])] ?_)
  refine vc_ret (iR (.agg [Bv s, Hw (A * 10 ^ X.toNat / B128), Lw (A * 10 ^ X.toNat / B128), Hw (A * 10 ^ X.toNat % B128), Lw (A * 10 ^ X.toNat % B128), Iv z28, Bv false]) ?_)
  rw [hXn, show e - (n : Int) = z28 by omega]; rfl

theorem c_SignT {g : Bool} {a : Nat} {x : Int} (ha : a < B128) : HasC Try.prog 69 [dDec g a x] (fun y => y = .v (.int .i64 (sgnT g a))) := c_Sign ha
theorem sgn_same {s1 s2 : Bool} {A B : Nat} (hA : A ≠ 0) (h : sgnT s1 A = sgnT s2 B) : B ≠ 0 ∧ s1 = s2 := by
  unfold sgnT at h
  rw [if_neg hA] at h
  by_cases hB : B = 0
  · rw [if_pos hB] at h
    cases s1 <;> simp at h
  · rw [if_neg hB] at h
    refine ⟨hB, ?_⟩
    cases s1 <;> cases s2 <;> simp at h ⊢
theorem size_same {A B : Nat} {e1 e2 : Int} (hA : A < E34) (hB : B < E34) (hA0 : A ≠ 0) (hB0 : B ≠ 0) (h : cmpI (e1 + nd A) (e2 + nd B) = 0) : (e1 - min e1 e2).toNat ≤ 33 ∧ (e2 - min e1 e2).toNat ≤ 33 ∧ A * 10 ^ (e1 - min e1 e2).toNat < 10 ^ 70 ∧ B * 10 ^ (e2 - min e1 e2).toNat < 10 ^ 70 := by
  have h0 := cmpI_eq.1 h
  have h1 := nd_le 34 A hA
  have h2 := nd_le 34 B hB
  have h3 := nd_one_le hA0
  have h4 := nd_one_le hB0
  have key : ∀ {A x : Nat}, nd A ≤ 34 → x ≤ 33 → A * 10 ^ x < 10 ^ 70 := by
    intro A x h1 h2
    have h3 := Nat.mul_lt_mul_of_pos_right (lt_nd A) (show 0 < 10 ^ x from Nat.pow_pos (by decide))
    rw [← Nat.pow_add] at h3
    exact Nat.lt_of_lt_of_le h3 (Nat.pow_le_pow_right (by decide) (by omega))
  exact ⟨by omega, by omega, key h1 (by omega), key h2 (by omega)⟩

set_option maxHeartbeats 1600000 in
theorem c_decCmp {s1 s2 : Bool} {A B : Nat} {e1 e2 : Int} (hA : A < E34) (hB : B < E34) (h1 : -10000000000000000 ≤ e1) (h2 : e1 ≤ 10000000000000000) (h3 : -10000000000000000 ≤ e2) (h4 : e2 ≤ 10000000000000000) : HasC Try.prog 25 [.agg [.v (.bool s1), .v (.int .u64 (hiW (A))), .v (.int .u64 (loW (A))), .v (.int .i64 e1)], .agg [.v (.bool s2), .v (.int .u64 (hiW (B))), .v (.int .u64 (loW (B))), .v (.int .i64 e2)]] (fun y => y = .v (.int .i64 (cmpZ s1 A e1 s2 B e2))) := by
  refine HasC.of [] (fn := Try.f25) tyOk mixed (fun args w => Try.call25 args w) Try.func25 rfl (by kernel_rfl) (Nat.le_of_ble_eq_true rfl) (⟨_, rfl⟩) ?_
  have hAB := Nat.lt_trans hA e34_lt; have hBB := Nat.lt_trans hB e34_lt
  have hna := nd_le 34 A hA; have hnb := nd_le 34 B hB
  refine vc_seqr rfl (iQ 3 (iE 65 [(2, .p 2 0), (3, .p 3 0), (4, Ia 0)] [(2, [Bv s1, Hw A, Lw A, Iv e1]), (3, [Bv s2, Hw B, Lw B, Iv e2])] ?_))
  refine vc_seq (vc_seqr rfl (iQ 1 (iC 69 [.agg [Bv s1, Hw A, Lw A, Iv e1]] (some 11) (c_SignT hAB) ?_)))
  rintro _ rfl
  refine iQ 1 (iC 69 [.agg [Bv s2, Hw B, Lw B, Iv e2]] (some 13) (c_SignT hBB) ?_)
  rintro _ rfl
  refine iB .neq 3 (.int .i64 (sgnT s1 A)) (.int .i64 (sgnT s2 B)) (some 14) ?_
  intro c14 hc14
  refine iQ 1 ?_
  cases c14
  · replace hc14 := bf hc14
    refine iQ 1 (iC 59 [.agg [Bv s1, Hw A, Lw A, Iv e1]] (some 17) (c_Zero hAB) ?_)
    rintro _ ⟨z, rfl, hz⟩
    refine iQ 1 (iE 65 [(2, .p 2 0), (3, .p 3 0), (4, Ia 0), (18, Ba z)] [(2, [Bv s1, Hw A, Lw A, Iv e1]), (3, [Bv s2, Hw B, Lw B, Iv e2])] ?_)
    cases z
    · replace hz := bf hz
      have hss : sgnT s1 A = sgnT s2 B := Decidable.not_not.1 hc14
      obtain ⟨hB0, hs12⟩ := sgn_same hz hss
      refine iF (vc_skip (seq_n (vc_seqr rfl (iQ 1 (iC 71 [.agg [Bv s1, Hw A, Lw A, Iv e1]] (some 25) (c_size hAB (by omega) (by omega)) ?_)))))
      rintro _ rfl
      refine iQ 1 (iC 71 [.agg [Bv s2, Hw B, Lw B, Iv e2]] (some 27) (c_size hBB (by omega) (by omega)) ?_)
      rintro _ rfl
      refine iC 70 [Iv (e1 + (nd A : Int)), Iv (e2 + (nd B : Int))] (some 28) (c_cmpInt) ?_
      rintro _ rfl
      refine iQ 1 (iE 65 [(2, .p 2 0), (3, .p 3 0), (4, Ia 0), (5, Ia (cmpI (e1 + (nd A : Int)) (e2 + (nd B : Int)))), (18, Ba false)] [(2, [Bv s1, Hw A, Lw A, Iv e1]), (3, [Bv s2, Hw B, Lw B, Iv e2])] ?_)
      refine vc_mid 65 (fun (vcx : Int × Bool) => match vcx with | (c, vb30) => [(2, .p 2 0), (3, .p 3 0), (4, Ia 0), (5, Ia c), (18, Ba false), (30, Ba vb30)]) (fun (vcx : Int × Bool) => match vcx with | (c, vb30) => [(2, [Bv s1, Hw A, Lw A, Iv e1]), (3, [Bv s2, Hw B, Lw B, Iv e2])]) (fun (vcx : Int × Bool) => match vcx with | (c, vb30) => c = cmpN (A * 10 ^ (e1 - min e1 e2).toNat) (B * 10 ^ (e2 - min e1 e2).toNat)) ?_ ?_
      · rintro ⟨c, vb30⟩ hinv
        simp only at hinv
        have hcr : -1 ≤ c ∧ c ≤ 1 := by rw [hinv, cmpN_I]; unfold cmpI; split <;> (try split) <;> omega
        have hcs := @cmp_same s1 A B e1 e2
        refine vc_seq (vc_seqr rfl (iQ 2 (iE 65 [(2, .p 2 0), (3, .p 3 0), (4, Ia 0), (5, Ia c), (18, Ba false), (30, Ba vb30), (61, Ba s1)] [(2, [Bv s1, Hw A, Lw A, Iv e1]), (3, [Bv s2, Hw B, Lw B, Iv e2])] ?_)))
        cases s1
        · skip
          refine iF (vc_skip (seq_n (vc_seqr rfl (iQ 2 (iE 65 [(2, .p 2 0), (3, .p 3 0), (4, Ia c), (5, Ia c), (18, Ba false), (30, Ba vb30), (61, Ba false)] [(2, [Bv false, Hw A, Lw A, Iv e1]), (3, [Bv s2, Hw B, Lw B, Iv e2])] ?_)))))
          refine vc_ret (iR (Iv c) ?_)
          rw [← hs12, hcs, ← hinv]; rfl
        · skip
          refine iT (vc_seqr rfl (iQ 1 (iU .neg (.int .i64 c) (some 63) ?_)))
          intro z63 hz63
          try replace hz63 := hz63.i64 (by omega)
          refine iQ 1 (iE 65 [(2, .p 2 0), (3, .p 3 0), (4, Ia z63), (5, Ia c), (18, Ba false), (30, Ba vb30), (61, Ba true)] [(2, [Bv true, Hw A, Lw A, Iv e1]), (3, [Bv s2, Hw B, Lw B, Iv e2])] ?_)
          refine vc_ret (seq_r (iR (Iv z63) ?_))
          rw [← hs12, hcs, ← hinv, if_pos rfl, hz63, Int.zero_sub]
      intro hmid
      refine vc_seqr rfl (iQ 1 (iB .eql 3 (.int .i64 (cmpI (e1 + (nd A : Int)) (e2 + (nd B : Int)))) (.int .i64 0) (some 30) ?_))
      intro c30 hc30
      refine iE 65 [(2, .p 2 0), (3, .p 3 0), (4, Ia 0), (5, Ia (cmpI (e1 + (nd A : Int)) (e2 + (nd B : Int)))), (18, Ba false), (30, Ba c30)] [(2, [Bv s1, Hw A, Lw A, Iv e1]), (3, [Bv s2, Hw B, Lw B, Iv e2])] ?_
      cases c30
      · replace hc30 := bf hc30
        refine iF (vc_skip ?_)
        refine mid_n hmid (cmpI (e1 + (nd A : Int)) (e2 + (nd B : Int)), false) ((cmp_size hz hB0 (fun h => hc30 (cmpI_eq.2 h))).symm) (by kernel_rfl)
      · replace hc30 := bt hc30
        obtain ⟨w1, w2, w3, w4⟩ := size_same hA hB hz hB0 hc30
        refine iT (vc_seqr rfl (iQ 4 (iB .sub 3 (.int .i64 e1) (.int .i64 e2) (some 35) ?_)))
        intro z35 hz35
        try replace hz35 := hz35.i64 (by omega)
        refine iL .max [3, 3] [.int .i64 0, .int .i64 z35] (some 36) ?_
        intro z36 hz36
        simp only at hz36
        refine iQ 1 (iE 65 [(2, .p 2 0), (3, .p 3 0), (4, Ia 0), (5, Ia (cmpI (e1 + (nd A : Int)) (e2 + (nd B : Int)))), (6, Ia z36), (18, Ba false), (30, Ba true)] [(2, [Bv s1, Hw A, Lw A, Iv e1]), (3, [Bv s2, Hw B, Lw B, Iv e2])] ?_)
        refine vc_seqr rfl (iQ 4 (iB .sub 3 (.int .i64 e2) (.int .i64 e1) (some 41) ?_))
        intro z41 hz41
        try replace hz41 := hz41.i64 (by omega)
        refine iL .max [3, 3] [.int .i64 0, .int .i64 z41] (some 42) ?_
        intro z42 hz42
        simp only at hz42
        refine iQ 1 (iE 65 [(2, .p 2 0), (3, .p 3 0), (4, Ia 0), (5, Ia (cmpI (e1 + (nd A : Int)) (e2 + (nd B : Int)))), (6, Ia z36), (7, Ia z42), (18, Ba false), (30, Ba true)] [(2, [Bv s1, Hw A, Lw A, Iv e1]), (3, [Bv s2, Hw B, Lw B, Iv e2])] ?_)
        refine vc_seqr rfl (iQ 2 (iL .min [3, 3] [.int .i64 z36, .int .i64 38] (some 45) ?_))
        intro z45 hz45
        simp only at hz45
        refine iC 72 [.agg [Bv s1, Hw A, Lw A, Iv e1], Iv z45] (some 46) (c_wideOf (n := (e1 - min e1 e2).toNat) (by omega) (by omega) hAB (by omega) (by omega)) ?_
        rintro _ rfl
        refine iQ 2 (iL .min [3, 3] [.int .i64 z42, .int .i64 38] (some 49) ?_)
        intro z49 hz49
        simp only at hz49
        refine iC 72 [.agg [Bv s2, Hw B, Lw B, Iv e2], Iv z49] (some 50) (c_wideOf (n := (e2 - min e1 e2).toNat) (by omega) (by omega) hBB (by omega) (by omega)) ?_
        rintro _ rfl
        refine iQ 4 (iE 65 [(2, .p 2 0), (3, .p 3 0), (4, Ia 0), (5, Ia (cmpI (e1 + (nd A : Int)) (e2 + (nd B : Int)))), (8, .p 8 0), (9, .p 9 0), (18, Ba false), (30, Ba true)] [(2, [Bv s1, Hw A, Lw A, Iv e1]), (3, [Bv s2, Hw B, Lw B, Iv e2]), (8, [Bv s1, Hw (A * 10 ^ (e1 - min e1 e2).toNat / B128), Lw (A * 10 ^ (e1 - min e1 e2).toNat / B128), Hw (A * 10 ^ (e1 - min e1 e2).toNat % B128), Lw (A * 10 ^ (e1 - min e1 e2).toNat % B128), Iv (e1 - ((e1 - min e1 e2).toNat : Int)), Bv false]), (9, [Bv s2, Hw (B * 10 ^ (e2 - min e1 e2).toNat / B128), Lw (B * 10 ^ (e2 - min e1 e2).toNat / B128), Hw (B * 10 ^ (e2 - min e1 e2).toNat % B128), Lw (B * 10 ^ (e2 - min e1 e2).toNat % B128), Iv (e2 - ((e2 - min e1 e2).toNat : Int)), Bv false])] ?_)
        refine vc_reg rfl (iQ 8 (iC 73 [.agg [Hw (A * 10 ^ (e1 - min e1 e2).toNat / B128), Lw (A * 10 ^ (e1 - min e1 e2).toNat / B128)], .agg [Hw (A * 10 ^ (e1 - min e1 e2).toNat % B128), Lw (A * 10 ^ (e1 - min e1 e2).toNat % B128)], .agg [Hw (B * 10 ^ (e2 - min e1 e2).toNat / B128), Lw (B * 10 ^ (e2 - min e1 e2).toNat / B128)], .agg [Hw (B * 10 ^ (e2 - min e1 e2).toNat % B128), Lw (B * 10 ^ (e2 - min e1 e2).toNat % B128)]] (some 59) (cw_CmpN w3 w4) ?_))
        rintro _ rfl
        refine iQ 1 (iE 65 [(2, .p 2 0), (3, .p 3 0), (4, Ia 0), (5, Ia (cmpN (A * 10 ^ (e1 - min e1 e2).toNat) (B * 10 ^ (e2 - min e1 e2).toNat))), (18, Ba false), (30, Ba true)] [(2, [Bv s1, Hw A, Lw A, Iv e1]), (3, [Bv s2, Hw B, Lw B, Iv e2])] ?_)
        refine mid_n hmid (cmpN (A * 10 ^ (e1 - min e1 e2).toNat) (B * 10 ^ (e2 - min e1 e2).toNat), true) (rfl) (by kernel_rfl)
    · replace hz := bt hz
      have hsg : sgnT s1 A ≠ sgnT s2 B ∨ A = 0 := .inr hz
      refine iT (vc_seqr rfl (iQ 1 (iC 69 [.agg [Bv s1, Hw A, Lw A, Iv e1]] (some 20) (c_SignT hAB) ?_)))
      rintro _ rfl
      refine iQ 1 (iC 69 [.agg [Bv s2, Hw B, Lw B, Iv e2]] (some 22) (c_SignT hBB) ?_)
      rintro _ rfl
      refine iC 70 [Iv (sgnT s1 A), Iv (sgnT s2 B)] (some 23) (c_cmpInt) ?_
      rintro _ rfl
      refine iQ 1 (iE 65 [(2, .p 2 0), (3, .p 3 0), (4, Ia (cmpI (sgnT s1 A) (sgnT s2 B))), (18, Ba true)] [(2, [Bv s1, Hw A, Lw A, Iv e1]), (3, [Bv s2, Hw B, Lw B, Iv e2])] ?_)
      refine vc_ret (seq_r (iR (Iv (cmpI (sgnT s1 A) (sgnT s2 B))) ?_))
      rw [cmp_sign hsg]
  · replace hc14 := bt hc14
    refine iQ 3 (iE 65 [(2, .p 2 0), (3, .p 3 0), (4, Ia 0), (18, Ba true)] [(2, [Bv s1, Hw A, Lw A, Iv e1]), (3, [Bv s2, Hw B, Lw B, Iv e2])] ?_)
    have hsg : sgnT s1 A ≠ sgnT s2 B ∨ A = 0 := .inl hc14
    refine iT (vc_seqr rfl (iQ 1 (iC 69 [.agg [Bv s1, Hw A, Lw A, Iv e1]] (some 20) (c_SignT hAB) ?_)))
    rintro _ rfl
    refine iQ 1 (iC 69 [.agg [Bv s2, Hw B, Lw B, Iv e2]] (some 22) (c_SignT hBB) ?_)
    rintro _ rfl
    refine iC 70 [Iv (sgnT s1 A), Iv (sgnT s2 B)] (some 23) (c_cmpInt) ?_
    rintro _ rfl
    refine iQ 1 (iE 65 [(2, .p 2 0), (3, .p 3 0), (4, Ia (cmpI (sgnT s1 A) (sgnT s2 B))), (18, Ba true)] [(2, [Bv s1, Hw A, Lw A, Iv e1]), (3, [Bv s2, Hw B, Lw B, Iv e2])] ?_)
    refine vc_ret (seq_r (iR (Iv (cmpI (sgnT s1 A) (sgnT s2 B))) ?_))
    rw [cmp_sign hsg]



open Go.RowKit
set_option linter.unusedVariables false
set_option linter.unusedSimpArgs false
set_option maxRecDepth 100000

theorem c_rNeg {g : Bool} {A : Nat} {e : Int} : HasC Try.prog 67 [.agg [.v (.bool g), .sl (nd (A)) (dg (digs (A))), .v (.int .i64 e)]] (fun y => y = dRD (!g && decide (A ≠ 0)) A e) := by
  refine HasC.of [] (fn := Try.f67) tyOk mixed (fun args w => Try.call67 args w) Try.func67 rfl (by kernel_rfl) (Nat.le_of_ble_eq_true rfl) (⟨_, rfl⟩) ?_
  refine vc_seqr rfl (iQ 2 (iE 17 [(1, .p 1 0), (2, .p 2 0)] [(1, [Bv g, .sl (nd (A)) (dg (digs (A))), Iv e]), (2, [Bv false, .sl 0 [], Iv 0])] ?_))
  refine vc_seqr rfl (iQ 2 (iU .not (.bool g) (some 5) ?_))
  intro c5 hc5
  refine iQ 1 ?_
  cases c5
  · replace hc5 := bf hc5
    refine iQ 11 (iE 17 [(2, .p 2 0)] [(2, [Bv false, .sl (nd (A)) (dg (digs (A))), Iv e])] ?_)
    refine vc_ret (iR (.agg [Bv false, .sl (nd (A)) (dg (digs (A))), Iv e]) ?_)
    have hg : g = true := by simpa using hc5
    rw [hg]; rfl
  · replace hc5 := bt hc5
    refine iQ 3 (iB .gtr 3 (.int .i64 (((nd (A) : Nat) : Int))) (.int .i64 0) (some 10) ?_)
    intro c10 hc10
    refine iQ 7 (iE 17 [(2, .p 2 0)] [(2, [Bv c10, .sl (nd (A)) (dg (digs (A))), Iv e])] ?_)
    refine vc_ret (iR (.agg [Bv c10, .sl (nd (A)) (dg (digs (A))), Iv e]) ?_)
    have hc : (!g && decide (A ≠ 0)) = c10 := by rw [hc5, Bool.eq_iff_iff, hc10]; have := @nd_eq0 A; simp; omega
    rw [hc]; rfl

def dRD3 (t : Bool × Nat × Int) : DV := dRD t.1 t.2.1 t.2.2
theorem c_ShiftN {a n : Nat} {X : Int} (hX : X.toNat = n) (ha : nd a ≤ 900000) (hn : X ≤ 90000) : HasC Try.prog 19 [.sl (nd a) (dg (digs a)), .v (.int .i64 X)] (fun y => y = .sl (nd (a * 10 ^ n)) (dg (digs (a * 10 ^ n)))) := by
  subst hX
  exact c_ShiftX ha hn
theorem nd_shifted {a n : Nat} (h : nd a ≤ 100) (hn : n ≤ 30000) : nd (a * 10 ^ n) ≤ 30101 := by
  have := nd_up (Nat.le_refl (a * 10 ^ n))
  omega

set_option maxHeartbeats 1600000 in
theorem c_rSum {s1 s2 : Bool} {A B : Nat} {e1 e2 : Int} (hA : nd A ≤ 100) (hB : nd B ≤ 100) (h1 : -14000 ≤ e1) (h2 : e1 ≤ 14000) (h3 : -14000 ≤ e2) (h4 : e2 ≤ 14000) : HasC Try.prog 66 [.agg [.v (.bool s1), .sl (nd (A)) (dg (digs (A))), .v (.int .i64 e1)], .agg [.v (.bool s2), .sl (nd (B)) (dg (digs (B))), .v (.int .i64 e2)]] (fun y => y = dRD3 (sumT s1 A e1 s2 B e2)) := by
  refine HasC.of [] (fn := Try.f66) tyOk mixed (fun args w => Try.call66 args w) Try.func66 rfl (by kernel_rfl) (Nat.le_of_ble_eq_true rfl) (⟨_, rfl⟩) ?_
  refine vc_seqr rfl (iQ 3 (iE 60 [(2, .p 2 0), (3, .p 3 0), (4, .p 4 0)] [(2, [Bv s1, .sl (nd (A)) (dg (digs (A))), Iv e1]), (3, [Bv s2, .sl (nd (B)) (dg (digs (B))), Iv e2]), (4, [Bv false, .sl 0 [], Iv 0])] ?_))
  refine vc_seqr rfl (iQ 3 (iE 60 [(2, .p 2 0), (3, .p 3 0), (4, .p 4 0), (5, Ia e1)] [(2, [Bv s1, .sl (nd (A)) (dg (digs (A))), Iv e1]), (3, [Bv s2, .sl (nd (B)) (dg (digs (B))), Iv e2]), (4, [Bv false, .sl 0 [], Iv 0])] ?_))
  refine vc_mid 60 (fun (vcx : Int × Bool) => match vcx with | (e, vb13) => [(2, .p 2 0), (3, .p 3 0), (4, .p 4 0), (5, Ia e), (13, Ba vb13)]) (fun (vcx : Int × Bool) => match vcx with | (e, vb13) => [(2, [Bv s1, .sl (nd (A)) (dg (digs (A))), Iv e1]), (3, [Bv s2, .sl (nd (B)) (dg (digs (B))), Iv e2]), (4, [Bv false, .sl 0 [], Iv 0])]) (fun (vcx : Int × Bool) => match vcx with | (e, vb13) => e = min e1 e2) ?_ ?_
  · rintro ⟨e, vb13⟩ hinv
    simp only at hinv
    have hnX : nd (A * 10 ^ (e1 - min e1 e2).toNat) ≤ 30101 := nd_shifted hA (by omega)
    have hnY : nd (B * 10 ^ (e2 - min e1 e2).toNat) ≤ 30101 := nd_shifted hB (by omega)
    refine vc_seqr rfl (iQ 5 (iB .sub 3 (.int .i64 e1) (.int .i64 e) (some 21) ?_))
    intro z21 hz21
    try replace hz21 := hz21.i64 (by omega)
    refine iC 19 [.sl (nd (A)) (dg (digs (A))), Iv z21] (some 22) (c_ShiftN (n := (e1 - min e1 e2).toNat) (by omega) (by omega) (by omega)) ?_
    rintro _ rfl
    refine iQ 1 (iE 60 [(2, .p 2 0), (3, .p 3 0), (4, .p 4 0), (5, Ia e), (6, .d (.sl (nd (A * 10 ^ (e1 - min e1 e2).toNat)) (dg (digs (A * 10 ^ (e1 - min e1 e2).toNat))))), (13, Ba vb13)] [(2, [Bv s1, .sl (nd (A)) (dg (digs (A))), Iv e1]), (3, [Bv s2, .sl (nd (B)) (dg (digs (B))), Iv e2]), (4, [Bv false, .sl 0 [], Iv 0])] ?_)
    refine vc_seqr rfl (iQ 5 (iB .sub 3 (.int .i64 e2) (.int .i64 e) (some 28) ?_))
    intro z28 hz28
    try replace hz28 := hz28.i64 (by omega)
    refine iC 19 [.sl (nd (B)) (dg (digs (B))), Iv z28] (some 29) (c_ShiftN (n := (e2 - min e1 e2).toNat) (by omega) (by omega) (by omega)) ?_
    rintro _ rfl
    refine iQ 1 (iE 60 [(2, .p 2 0), (3, .p 3 0), (4, .p 4 0), (5, Ia e), (6, .d (.sl (nd (A * 10 ^ (e1 - min e1 e2).toNat)) (dg (digs (A * 10 ^ (e1 - min e1 e2).toNat))))), (7, .d (.sl (nd (B * 10 ^ (e2 - min e1 e2).toNat)) (dg (digs (B * 10 ^ (e2 - min e1 e2).toNat))))), (13, Ba vb13)] [(2, [Bv s1, .sl (nd (A)) (dg (digs (A))), Iv e1]), (3, [Bv s2, .sl (nd (B)) (dg (digs (B))), Iv e2]), (4, [Bv false, .sl 0 [], Iv 0])] ?_)
    refine vc_seq (vc_seqr rfl (iQ 4 (iB .eql 4 (.bool s1) (.bool s2) (some 34) ?_)))
    intro c34 hc34
    refine iE 60 [(2, .p 2 0), (3, .p 3 0), (4, .p 4 0), (5, Ia e), (6, .d (.sl (nd (A * 10 ^ (e1 - min e1 e2).toNat)) (dg (digs (A * 10 ^ (e1 - min e1 e2).toNat))))), (7, .d (.sl (nd (B * 10 ^ (e2 - min e1 e2).toNat)) (dg (digs (B * 10 ^ (e2 - min e1 e2).toNat))))), (13, Ba vb13), (34, Ba c34)] [(2, [Bv s1, .sl (nd (A)) (dg (digs (A))), Iv e1]), (3, [Bv s2, .sl (nd (B)) (dg (digs (B))), Iv e2]), (4, [Bv false, .sl 0 [], Iv 0])] ?_
    cases c34
    · replace hc34 := bf hc34
      refine iF (vc_skip (seq_n (vc_seq (vc_seqr rfl (iQ 2 (iC 65 [.sl (nd (A * 10 ^ (e1 - min e1 e2).toNat)) (dg (digs (A * 10 ^ (e1 - min e1 e2).toNat))), .sl (nd (B * 10 ^ (e2 - min e1 e2).toNat)) (dg (digs (B * 10 ^ (e2 - min e1 e2).toNat)))] (some 44) (c_Cmp (a := A * 10 ^ (e1 - min e1 e2).toNat) (b := B * 10 ^ (e2 - min e1 e2).toNat) (by omega) (by omega)) ?_))))))
      rintro _ rfl
      refine iB .geq 3 (.int .i64 (cmpN (A * 10 ^ (e1 - min e1 e2).toNat) (B * 10 ^ (e2 - min e1 e2).toNat))) (.int .i64 0) (some 45) ?_
      intro c45 hc45
      refine iE 60 [(2, .p 2 0), (3, .p 3 0), (4, .p 4 0), (5, Ia e), (6, .d (.sl (nd (A * 10 ^ (e1 - min e1 e2).toNat)) (dg (digs (A * 10 ^ (e1 - min e1 e2).toNat))))), (7, .d (.sl (nd (B * 10 ^ (e2 - min e1 e2).toNat)) (dg (digs (B * 10 ^ (e2 - min e1 e2).toNat))))), (13, Ba vb13), (34, Ba false), (45, Ba c45)] [(2, [Bv s1, .sl (nd (A)) (dg (digs (A))), Iv e1]), (3, [Bv s2, .sl (nd (B)) (dg (digs (B))), Iv e2]), (4, [Bv false, .sl 0 [], Iv 0])] ?_
      cases c45
      · replace hc45 := bf hc45
        have hlt : A * 10 ^ (e1 - min e1 e2).toNat < B * 10 ^ (e2 - min e1 e2).toNat := by have := @cN_ge (A * 10 ^ (e1 - min e1 e2).toNat) (B * 10 ^ (e2 - min e1 e2).toNat); omega
        refine iF (vc_skip (seq_n (vc_seqr rfl (iQ 4 (iC 102 [.sl (nd (B * 10 ^ (e2 - min e1 e2).toNat)) (dg (digs (B * 10 ^ (e2 - min e1 e2).toNat))), .sl (nd (A * 10 ^ (e1 - min e1 e2).toNat)) (dg (digs (A * 10 ^ (e1 - min e1 e2).toNat)))] (some 57) (c_Sub (a := B * 10 ^ (e2 - min e1 e2).toNat) (b := A * 10 ^ (e1 - min e1 e2).toNat) (Nat.le_of_lt hlt) (by omega)) ?_)))))
        rintro _ rfl
        refine iQ 3 (iE 60 [(2, .p 2 0), (3, .p 3 0), (4, .p 4 0), (5, Ia e), (6, .d (.sl (nd (A * 10 ^ (e1 - min e1 e2).toNat)) (dg (digs (A * 10 ^ (e1 - min e1 e2).toNat))))), (7, .d (.sl (nd (B * 10 ^ (e2 - min e1 e2).toNat)) (dg (digs (B * 10 ^ (e2 - min e1 e2).toNat))))), (13, Ba vb13), (34, Ba false), (45, Ba false)] [(2, [Bv s1, .sl (nd (A)) (dg (digs (A))), Iv e1]), (3, [Bv s2, .sl (nd (B)) (dg (digs (B))), Iv e2]), (4, [Bv s2, .sl (nd (B * 10 ^ (e2 - min e1 e2).toNat - A * 10 ^ (e1 - min e1 e2).toNat)) (dg (digs (B * 10 ^ (e2 - min e1 e2).toNat - A * 10 ^ (e1 - min e1 e2).toNat))), Iv e])] ?_)
        refine vc_ret (iR (.agg [Bv s2, .sl (nd (B * 10 ^ (e2 - min e1 e2).toNat - A * 10 ^ (e1 - min e1 e2).toNat)) (dg (digs (B * 10 ^ (e2 - min e1 e2).toNat - A * 10 ^ (e1 - min e1 e2).toNat))), Iv e]) ?_)
        rw [sumT, if_neg hc34, if_neg (by omega), ← hinv]; rfl
      · replace hc45 := bt hc45
        have hle := cN_ge.1 hc45
        refine iT (vc_seqr rfl (iQ 4 (iC 102 [.sl (nd (A * 10 ^ (e1 - min e1 e2).toNat)) (dg (digs (A * 10 ^ (e1 - min e1 e2).toNat))), .sl (nd (B * 10 ^ (e2 - min e1 e2).toNat)) (dg (digs (B * 10 ^ (e2 - min e1 e2).toNat)))] (some 50) (c_Sub (a := A * 10 ^ (e1 - min e1 e2).toNat) (b := B * 10 ^ (e2 - min e1 e2).toNat) hle (by omega)) ?_)))
        rintro _ rfl
        refine iQ 3 (iE 60 [(2, .p 2 0), (3, .p 3 0), (4, .p 4 0), (5, Ia e), (6, .d (.sl (nd (A * 10 ^ (e1 - min e1 e2).toNat)) (dg (digs (A * 10 ^ (e1 - min e1 e2).toNat))))), (7, .d (.sl (nd (B * 10 ^ (e2 - min e1 e2).toNat)) (dg (digs (B * 10 ^ (e2 - min e1 e2).toNat))))), (13, Ba vb13), (34, Ba false), (45, Ba true)] [(2, [Bv s1, .sl (nd (A)) (dg (digs (A))), Iv e1]), (3, [Bv s2, .sl (nd (B)) (dg (digs (B))), Iv e2]), (4, [Bv s1, .sl (nd (A * 10 ^ (e1 - min e1 e2).toNat - B * 10 ^ (e2 - min e1 e2).toNat)) (dg (digs (A * 10 ^ (e1 - min e1 e2).toNat - B * 10 ^ (e2 - min e1 e2).toNat))), Iv e])] ?_)
        refine vc_ret (seq_r (iR (.agg [Bv s1, .sl (nd (A * 10 ^ (e1 - min e1 e2).toNat - B * 10 ^ (e2 - min e1 e2).toNat)) (dg (digs (A * 10 ^ (e1 - min e1 e2).toNat - B * 10 ^ (e2 - min e1 e2).toNat))), Iv e]) ?_))
        rw [sumT, if_neg hc34, if_pos hle, ← hinv]; rfl
    · replace hc34 := bt hc34
      refine iT (vc_seqr rfl (iQ 4 (iC 64 [.sl (nd (A * 10 ^ (e1 - min e1 e2).toNat)) (dg (digs (A * 10 ^ (e1 - min e1 e2).toNat))), .sl (nd (B * 10 ^ (e2 - min e1 e2).toNat)) (dg (digs (B * 10 ^ (e2 - min e1 e2).toNat)))] (some 39) (c_Add (a := A * 10 ^ (e1 - min e1 e2).toNat) (b := B * 10 ^ (e2 - min e1 e2).toNat) (by omega) (by omega)) ?_)))
      rintro _ rfl
      refine iQ 3 (iE 60 [(2, .p 2 0), (3, .p 3 0), (4, .p 4 0), (5, Ia e), (6, .d (.sl (nd (A * 10 ^ (e1 - min e1 e2).toNat)) (dg (digs (A * 10 ^ (e1 - min e1 e2).toNat))))), (7, .d (.sl (nd (B * 10 ^ (e2 - min e1 e2).toNat)) (dg (digs (B * 10 ^ (e2 - min e1 e2).toNat))))), (13, Ba vb13), (34, Ba true)] [(2, [Bv s1, .sl (nd (A)) (dg (digs (A))), Iv e1]), (3, [Bv s2, .sl (nd (B)) (dg (digs (B))), Iv e2]), (4, [Bv s1, .sl (nd (A * 10 ^ (e1 - min e1 e2).toNat + B * 10 ^ (e2 - min e1 e2).toNat)) (dg (digs (A * 10 ^ (e1 - min e1 e2).toNat + B * 10 ^ (e2 - min e1 e2).toNat))), Iv e])] ?_)
      refine vc_ret (seq_r (iR (.agg [Bv s1, .sl (nd (A * 10 ^ (e1 - min e1 e2).toNat + B * 10 ^ (e2 - min e1 e2).toNat)) (dg (digs (A * 10 ^ (e1 - min e1 e2).toNat + B * 10 ^ (e2 - min e1 e2).toNat))), Iv e]) ?_))
      rw [sumT, if_pos hc34, ← hinv]; rfl
  intro hmid
  refine vc_seqr rfl (iQ 3 (iB .lss 3 (.int .i64 e2) (.int .i64 e1) (some 13) ?_))
  intro c13 hc13
  refine iE 60 [(2, .p 2 0), (3, .p 3 0), (4, .p 4 0), (5, Ia e1), (13, Ba c13)] [(2, [Bv s1, .sl (nd (A)) (dg (digs (A))), Iv e1]), (3, [Bv s2, .sl (nd (B)) (dg (digs (B))), Iv e2]), (4, [Bv false, .sl 0 [], Iv 0])] ?_
  cases c13
  · replace hc13 := bf hc13
    refine iF (vc_skip ?_)
    refine mid_n hmid (e1, false) (by omega) (by kernel_rfl)
  · replace hc13 := bt hc13
    refine iT (vc_reg rfl (iQ 3 (iE 60 [(2, .p 2 0), (3, .p 3 0), (4, .p 4 0), (5, Ia e2), (13, Ba true)] [(2, [Bv s1, .sl (nd (A)) (dg (digs (A))), Iv e1]), (3, [Bv s2, .sl (nd (B)) (dg (digs (B))), Iv e2]), (4, [Bv false, .sl 0 [], Iv 0])] ?_)))
    refine mid_n hmid (e2, true) (by omega) (by kernel_rfl)

theorem sum_nd {s1 s2 : Bool} {A B : Nat} {e1 e2 : Int} (hA : nd A ≤ 100) (hB : nd B ≤ 100) (h1 : -14000 ≤ e1) (h2 : e1 ≤ 14000) (h3 : -14000 ≤ e2) (h4 : e2 ≤ 14000) : nd (sumT s1 A e1 s2 B e2).2.1 ≤ 30102 ∧ -14000 ≤ (sumT s1 A e1 s2 B e2).2.2 ∧ (sumT s1 A e1 s2 B e2).2.2 ≤ 14000 := by
  have hnX : nd (A * 10 ^ (e1 - min e1 e2).toNat) ≤ 30101 := nd_shifted hA (by omega)
  have hnY : nd (B * 10 ^ (e2 - min e1 e2).toNat) ≤ 30101 := nd_shifted hB (by omega)
  unfold sumT
  split
  · exact ⟨nd_add hnX hnY, by show -14000 ≤ min e1 e2; omega, by show min e1 e2 ≤ 14000; omega⟩
  · split
    · exact ⟨Nat.le_succ_of_le (Nat.le_trans (nd_mono (Nat.sub_le _ _)) hnX), by show -14000 ≤ min e1 e2; omega, by show min e1 e2 ≤ 14000; omega⟩
    · exact ⟨Nat.le_succ_of_le (Nat.le_trans (nd_mono (Nat.sub_le _ _)) hnY), by show -14000 ≤ min e1 e2; omega, by show min e1 e2 ≤ 14000; omega⟩
theorem c_rSumT {s1 s2 : Bool} {A B : Nat} {e1 e2 : Int} (hA : nd A ≤ 100) (hB : nd B ≤ 100) (h1 : -14000 ≤ e1) (h2 : e1 ≤ 14000) (h3 : -14000 ≤ e2) (h4 : e2 ≤ 14000) :
    HasC Try.prog 66 [dRD s1 A e1, dRD s2 B e2] (fun y => ∃ s N e, y = dRD s N e ∧ sumT s1 A e1 s2 B e2 = (s, N, e) ∧ nd N ≤ 30102 ∧ -14000 ≤ e ∧ e ≤ 14000) :=
  (c_rSum hA hB h1 h2 h3 h4).mono fun y hy => ⟨_, _, _, hy, rfl, sum_nd hA hB h1 h2 h3 h4⟩

theorem c_rCmp {s1 s2 : Bool} {A B : Nat} {e1 e2 : Int} (hA : nd A ≤ 100) (hB : nd B ≤ 100) (h1 : -14000 ≤ e1) (h2 : e1 ≤ 14000) (h3 : -14000 ≤ e2) (h4 : e2 ≤ 14000) : HasC Try.prog 21 [.agg [.v (.bool s1), .sl (nd (A)) (dg (digs (A))), .v (.int .i64 e1)], .agg [.v (.bool s2), .sl (nd (B)) (dg (digs (B))), .v (.int .i64 e2)]] (fun y => y = .v (.int .i64 (cmpZ s1 A e1 s2 B e2))) := by
  refine HasC.of [] (fn := Try.f21) tyOk mixed (fun args w => Try.call21 args w) Try.func21 rfl (by kernel_rfl) (Nat.le_of_ble_eq_true rfl) (⟨_, rfl⟩) ?_
  refine vc_seqr rfl (iQ 3 (iE 16 [(2, .p 2 0), (3, .p 3 0), (4, Ia 0)] [(2, [Bv s1, .sl (nd (A)) (dg (digs (A))), Iv e1]), (3, [Bv s2, .sl (nd (B)) (dg (digs (B))), Iv e2])] ?_))
  refine vc_seqr rfl (iQ 2 (iC 67 [.agg [Bv s2, .sl (nd (B)) (dg (digs (B))), Iv e2]] (some 8) (c_rNeg) ?_))
  rintro _ rfl
  refine iC 66 [.agg [Bv s1, .sl (nd (A)) (dg (digs (A))), Iv e1], .agg [Bv ((!s2 && decide (B ≠ 0))), .sl (nd (B)) (dg (digs (B))), Iv e2]] (some 9) (c_rSumT hA hB h1 h2 h3 h4) ?_
  rintro _ ⟨s, N, e, rfl, hS, hN, he0, he1⟩
  have hlaw := cmp_ref (s1 := s1) (s2 := s2) (A := A) (B := B) (e1 := e1) (e2 := e2) rfl
  rw [hS] at hlaw
  have hN0 := @nd_eq0 N
  refine iQ 2 (iE 16 [(4, Ia 0), (5, .p 5 0)] [(5, [Bv s, .sl (nd (N)) (dg (digs (N))), Iv e])] ?_)
  refine vc_seq (vc_seqr rfl (iQ 3 (iB .eql 3 (.int .i64 (((nd (N) : Nat) : Int))) (.int .i64 0) (some 13) ?_)))
  intro c13 hc13
  refine iE 16 [(4, Ia 0), (5, .p 5 0), (13, Ba c13)] [(5, [Bv s, .sl (nd (N)) (dg (digs (N))), Iv e])] ?_
  cases c13
  · replace hc13 := bf hc13
    refine iF (vc_skip (seq_n (vc_seq (vc_seqr rfl (iQ 2 (iE 16 [(4, Ia 0), (5, .p 5 0), (13, Ba false), (15, Ba s)] [(5, [Bv s, .sl (nd (N)) (dg (digs (N))), Iv e])] ?_))))))
    cases s
    · skip
      refine iF (vc_skip (seq_n (vc_seqr rfl (iQ 1 (iE 16 [(4, Ia 1), (5, .p 5 0), (13, Ba false), (15, Ba false)] [(5, [Bv false, .sl (nd (N)) (dg (digs (N))), Iv e])] ?_)))))
      refine vc_ret (iR (Iv 1) ?_)
      rw [← hlaw, if_neg (fun h : N = 0 => hc13 (by rw [h, nd_zero]; rfl)), if_neg (by simp)]
    · skip
      refine iT (vc_seqr rfl (iQ 1 (iE 16 [(4, Ia (-1)), (5, .p 5 0), (13, Ba false), (15, Ba true)] [(5, [Bv true, .sl (nd (N)) (dg (digs (N))), Iv e])] ?_)))
      refine vc_ret (seq_r (iR (Iv (-1)) ?_))
      rw [← hlaw, if_neg (fun h : N = 0 => hc13 (by rw [h, nd_zero]; rfl)), if_pos rfl]
  · replace hc13 := bt hc13
    refine iT (vc_seqr rfl (iQ 1 (iE 16 [(4, Ia 0), (5, .p 5 0), (13, Ba true)] [(5, [Bv s, .sl (nd (N)) (dg (digs (N))), Iv e])] ?_)))
    refine vc_ret (seq_r (iR (Iv 0) ?_))
    rw [← hlaw, if_pos (show N = 0 from hN0.1 (by omega))]



open Go.RowKit
set_option linter.unusedVariables false
set_option linter.unusedSimpArgs false
set_option maxRecDepth 100000

/-- A number is the whole number v. -/
def isW (s : Bool) (A : Nat) (e v : Int) : Prop := V s A e (min e 0) = v * ((10 ^ (0 - min e 0).toNat : Nat) : Int)
def inI (v : Int) : Prop := -9223372036854775808 ≤ v ∧ v < 9223372036854775808
theorem isW_fn {s : Bool} {A : Nat} {e v w : Int} (h : isW s A e v) (k : isW s A e w) : v = w := by
  unfold isW at h k
  rw [h] at k
  exact Int.eq_of_mul_eq_mul_right (by have : 0 < 10 ^ (0 - min e 0).toNat := Nat.pow_pos (by decide); omega) k
theorem isW_0 (s : Bool) (e : Int) : isW s 0 e 0 := by
  unfold isW
  rw [V_0, Int.zero_mul]
theorem isW_val {s : Bool} {A p i j : Nat} {e : Int} (hA : A = p * 10 ^ j) (hi : (i : Int) = e + j) : isW s A e (sgnV s (p * 10 ^ i)) := by
  unfold isW V
  rw [hA, ← sgnV_mul, Nat.mul_assoc, Nat.mul_assoc, ← Nat.pow_add, ← Nat.pow_add]
  congr 3
  omega
theorem isW_div {s : Bool} {A : Nat} {e v : Int} (h : isW s A e v) (he : e ≤ 0) : A = v.natAbs * 10 ^ (-e).toNat := by
  unfold isW V sgnV at h
  rw [show min e 0 = e by omega, show (e - e).toNat = 0 by omega, show (0 - e).toNat = (-e).toNat by omega, Nat.pow_zero, Nat.mul_one] at h
  have h2 := congrArg Int.natAbs h
  rw [Int.natAbs_mul, Int.natAbs_natCast] at h2
  rw [← h2]
  split <;> simp
theorem whole_ex (s : Bool) (A : Nat) (e : Int) : ∃ (z : Int) (ok : Bool), (ok = true → isW s A e z ∧ inI z) ∧ (ok = false → z = 0 ∧ ∀ v, isW s A e v → ¬ inI v) := by
  by_cases h : ∃ v, isW s A e v ∧ inI v
  · obtain ⟨v, h1, h2⟩ := h
    exact ⟨v, true, fun _ => ⟨h1, h2⟩, fun h => by cases h⟩
  · exact ⟨0, false, fun h => (by cases h), fun _ => ⟨rfl, fun v h1 h2 => h ⟨v, h1, h2⟩⟩⟩
theorem not_ten {s : Bool} {A p j : Nat} {e : Int} (hA : p * 10 ^ j = A) (hx : e + (j : Int) < 0) (hp : p % 10 ≠ 0) {v : Int} (h : isW s A e v) : False := by
  have h1 := isW_div h (by omega)
  rw [← hA, show (-e).toNat = ((-e).toNat - j - 1) + 1 + j by omega, Nat.pow_add, ← Nat.mul_assoc] at h1
  have h2 := Nat.eq_of_mul_eq_mul_right (Nat.pow_pos (by decide)) h1
  rw [h2, Nat.pow_succ, ← Nat.mul_assoc, Nat.mul_mod_left] at hp
  exact hp rfl
theorem sgn_big {s : Bool} {n : Nat} (h : inI (sgnV s n)) : n ≤ 9223372036854775808 ∧ (s = false → n < 9223372036854775808) := by
  unfold inI sgnV at h
  cases s <;> simp at h ⊢ <;> omega
theorem neg_conv {l z w : Int} (h1 : IntIs .u64 (0 - l) z) (h2 : IntIs .i64 z w) (h3 : 0 ≤ l) (h4 : l ≤ 9223372036854775808) : w = -l := by
  have e1 : z = IntKind.u64.wrap (0 - l) := h1
  have e2 : w = IntKind.i64.wrap z := h2
  rw [wrap_u64] at e1
  rw [e2]
  unfold IntKind.wrap
  simp [IntKind.signed, IntKind.bits]
  split <;> omega
theorem hi_big {n : Nat} : hiW n ≠ 0 ↔ 18446744073709551616 ≤ n := by
  unfold hiW
  omega
theorem lo_own {n : Nat} (h : hiW n = 0) : loW n = (n : Int) := by
  unfold hiW at h
  unfold loW
  omega

theorem div0_lt {n : Nat} (h : n / B128 = 0) : n < B128 := by
  rcases (Nat.div_eq_zero_iff).1 h with k | k
  · exact absurd k (by decide)
  · exact k
theorem div1_ge {n : Nat} (h : n / B128 ≠ 0) : 18446744073709551616 ≤ n := by
  rcases Nat.lt_or_ge n B128 with k | k
  · exact absurd (Nat.div_eq_of_lt k) h
  · exact Nat.le_trans (by decide) k

/-- What the second loop keeps. -/
structure WInv (s : Bool) (A p i j : Nat) (e : Int) (p2 : Nat) (x2 : Int) : Prop where
  a : p * 10 ^ j = A
  z : A = 0 ∨ 0 ≤ e + j
  p : p2 = p * 10 ^ i
  x : x2 = e + j - i
  i : i = 0 ∨ 0 ≤ x2
  b : p2 < B128
theorem WInv.over {s : Bool} {A p i j : Nat} {e : Int} {p2 : Nat} {x2 : Int} (h : WInv s A p i j e p2 x2) (hx : 0 < x2) (hp : p2 ≠ 0) (hb : 18446744073709551616 ≤ p2 * 10) {v : Int} (hv : isW s A e v) : ¬ inI v := by
  obtain ⟨h1, h2, h3, h4, h5, h6⟩ := h
  obtain ⟨d, hd⟩ : ∃ d : Nat, x2 = (d : Int) + 1 := ⟨(x2 - 1).toNat, by omega⟩
  have hw := isW_val (s := s) (A := A) (p := p) (i := i + (d + 1)) (j := j) (e := e) h1.symm (by omega)
  rw [isW_fn hv hw]
  intro hin
  have hs := (sgn_big hin).1
  have hle : p2 * 10 ≤ p * 10 ^ (i + (d + 1)) := by
    rw [Nat.pow_add, ← Nat.mul_assoc, ← h3]
    refine Nat.mul_le_mul_left _ ?_
    rw [Nat.pow_succ]
    have : 0 < 10 ^ d := Nat.pow_pos (by decide)
    omega
  omega
theorem WInv.val {s : Bool} {A p i j : Nat} {e : Int} {p2 : Nat} {x2 : Int} (h : WInv s A p i j e p2 x2) (hx : x2 ≤ 0 ∨ p2 = 0) : isW s A e (sgnV s p2) := by
  obtain ⟨h1, h2, h3, h4, h5, h6⟩ := h
  have hz : p2 = 0 → isW s A e (sgnV s p2) := fun h => by
    have hp : p = 0 := by
      rw [h] at h3
      rcases Nat.mul_eq_zero.1 h3.symm with k | k
      · exact k
      · exact absurd k (Nat.pos_iff_ne_zero.1 (Nat.pow_pos (by decide)))
    rw [hp, Nat.zero_mul] at h1
    rw [h, ← h1, sgnV_0]
    exact isW_0 s e
  by_cases hp : p2 = 0
  · exact hz hp
  · have hA : A ≠ 0 := fun k => by
      rw [k] at h1
      rcases Nat.mul_eq_zero.1 h1 with m | m
      · rw [m, Nat.zero_mul] at h3
        exact hp h3
      · exact absurd m (Nat.pos_iff_ne_zero.1 (Nat.pow_pos (by decide)))
    have := h2.resolve_left hA
    rw [h3]
    exact isW_val h1.symm (by omega)

set_option maxHeartbeats 3200000 in
theorem c_Whole {s : Bool} {A : Nat} {e : Int} (hA : A < B128) (h1 : -10000000000000000 ≤ e) (h2 : e ≤ 10000000000000000) : HasC Try.prog 84 [.agg [.v (.bool s), .v (.int .u64 (hiW (A))), .v (.int .u64 (loW (A))), .v (.int .i64 e)]] (fun y => ∃ (z : Int) (ok : Bool), y = .tup [.v (.int .i64 z), .v (.bool ok)] ∧ (ok = true → isW s A e z ∧ inI z) ∧ (ok = false → z = 0 ∧ ∀ v, isW s A e v → ¬ inI v)) := by
  refine HasC.of [] (fn := Try.f84) tyOk mixed (fun args w => Try.call84 args w) Try.func84 rfl (by kernel_rfl) (Nat.le_of_ble_eq_true rfl) (by obtain ⟨z, ok, h⟩ := whole_ex s A e; exact ⟨_, z, ok, rfl, h⟩) ?_
  refine vc_seqr rfl (iQ 3 (iE 98 [(1, .p 1 0), (2, Ia 0), (3, Ba false)] [(1, [Bv s, Hw A, Lw A, Iv e])] ?_))
  refine vc_seqr rfl (iQ 3 (iE 98 [(1, .p 1 0), (2, Ia 0), (3, Ba false), (4, .p 4 0)] [(1, [Bv s, Hw A, Lw A, Iv e]), (4, [Bv s, Hw A, Lw A, Iv e])] ?_))
  refine vc_seq (vc_block (vc_loop 98 (fun (vcx : Nat × Nat × Int) => match vcx with | (j, p, x) => [(1, .p 1 0), (2, Ia 0), (3, Ba false), (4, .p 4 0)]) (fun (vcx : Nat × Nat × Int) => match vcx with | (j, p, x) => [(1, [Bv s, Hw A, Lw A, Iv e]), (4, [Bv s, Hw p, Lw p, Iv x])]) (fun (vcx : Nat × Nat × Int) => match vcx with | (j, p, x) => p * 10 ^ j = A ∧ x = e + (j : Int) ∧ (j = 0 ∨ x ≤ 0) ∧ p < B128) (fun (vcx : Nat × Nat × Int) => match vcx with | (j, p, x) => (0 - x).toNat) ((0, A, e)) (⟨by simp, by simp, .inl rfl, hA⟩) (by kernel_rfl) (by kernel_rfl) ?_))
  rintro ⟨j, p, x⟩ hinv
  simp only at hinv
  obtain ⟨i1, i2, i3, i4⟩ := hinv
  refine vc_seq (vc_seqr rfl (iQ 2 (iB .lss 3 (.int .i64 x) (.int .i64 0) (some 14) ?_)))
  intro c14 hc14
  refine iQ 1 ?_
  cases c14
  · replace hc14 := bf hc14
    refine iQ 4 (iE 98 [(1, .p 1 0), (2, Ia 0), (3, Ba false), (4, .p 4 0), (19, Ba false)] [(1, [Bv s, Hw A, Lw A, Iv e]), (4, [Bv s, Hw p, Lw p, Iv x])] ?_)
    have hz0 : A = 0 ∨ 0 ≤ e + (j : Int) := .inr (by omega)
    have hw0 : WInv s A p 0 j e p x := ⟨i1, hz0, by simp, by omega, .inl rfl, i4⟩
    have hxb : e + (j : Int) ≤ 10000000000000000 := by omega
    clear i2 i3 hc14
    refine iF (vc_exit (seq_x (loop_x (block_x rfl (seq_n (vc_seq (vc_block (vc_loop 98 (fun (vcx : Nat × Nat × Int) => match vcx with | (i, p2, x2) => [(1, .p 1 0), (2, Ia 0), (3, Ba false), (4, .p 4 0), (19, Ba false)]) (fun (vcx : Nat × Nat × Int) => match vcx with | (i, p2, x2) => [(1, [Bv s, Hw A, Lw A, Iv e]), (4, [Bv s, Hw p2, Lw p2, Iv x2])]) (fun (vcx : Nat × Nat × Int) => match vcx with | (i, p2, x2) => WInv s A p i j e p2 x2) (fun (vcx : Nat × Nat × Int) => match vcx with | (i, p2, x2) => x2.toNat) ((0, p, x)) (hw0) (by kernel_rfl) (by kernel_rfl) ?_))))))))
    rintro ⟨i, p2, x2⟩ hinv
    simp only at hinv
    have hb2 := hinv.b; have hx2 := hinv.x
    refine vc_seq (vc_seqr rfl (iQ 2 (iB .gtr 3 (.int .i64 x2) (.int .i64 0) (some 39) ?_)))
    intro c39 hc39
    refine iQ 1 ?_
    cases c39
    · replace hc39 := bf hc39
      refine iQ 4 (iE 98 [(1, .p 1 0), (2, Ia 0), (3, Ba false), (4, .p 4 0), (19, Ba false), (44, Ba false)] [(1, [Bv s, Hw A, Lw A, Iv e]), (4, [Bv s, Hw p2, Lw p2, Iv x2])] ?_)
      have hval := hinv.val (.inl (by omega))
      have hlo := lo_range' p2
      refine iF (vc_exit (seq_x (loop_x (block_x rfl (seq_n (vc_seq (vc_block (vc_seqr rfl (iQ 3 (iB .neq 22 (.int .u64 (hiW (p2))) (.int .u64 0) (some 68) ?_))))))))))
      intro c68 hc68
      refine iQ 1 ?_
      cases c68
      · replace hc68 := bf hc68
        refine iQ 3 (iB .gtr 22 (.int .u64 (loW (p2))) (.int .u64 9223372036854775808) (some 73) ?_)
        have hh0 : hiW p2 = 0 := Decidable.not_not.1 hc68
        have hl := lo_own hh0
        intro c73 hc73
        refine iQ 2 ?_
        cases c73
        · replace hc73 := bf hc73
          refine iQ 3 (iB .eql 22 (.int .u64 (loW (p2))) (.int .u64 9223372036854775808) (some 79) ?_)
          intro c79 hc79
          refine iQ 1 ?_
          cases c79
          · replace hc79 := bf hc79
            refine iQ 6 (iE 98 [(1, .p 1 0), (2, Ia 0), (3, Ba false), (4, .p 4 0), (19, Ba false), (44, Ba false), (64, Ba false)] [(1, [Bv s, Hw A, Lw A, Iv e]), (4, [Bv s, Hw p2, Lw p2, Iv x2])] ?_)
            refine iF (vc_seqr rfl (iQ 3 (iE 98 [(1, .p 1 0), (2, Ia 0), (3, Ba false), (4, .p 4 0), (19, Ba false), (44, Ba false), (64, Ba false), (86, Ba s)] [(1, [Bv s, Hw A, Lw A, Iv e]), (4, [Bv s, Hw p2, Lw p2, Iv x2])] ?_)))
            cases s
            · skip
              refine iF (vc_skip (block_n (seq_n (vc_seqr rfl (iQ 3 (iV 22 3 (.int .u64 (loW (p2))) (some 97) ?_))))))
              intro z97 hz97
              try replace hz97 := hz97.i64 (by omega)
              refine iQ 2 (iE 98 [(1, .p 1 0), (2, Ia z97), (3, Ba true), (4, .p 4 0), (19, Ba false), (44, Ba false), (64, Ba false), (86, Ba false)] [(1, [Bv false, Hw A, Lw A, Iv e]), (4, [Bv false, Hw p2, Lw p2, Iv x2])] ?_)
              refine vc_ret (iS (Iv z97) (Bv true) [] ?_)
              exact ⟨_, _, rfl, fun _ => by rw [hz97, hl]; exact ⟨hval, by show inI (p2 : Int); unfold inI; omega⟩, fun h => by cases h⟩
            · skip
              refine iT (vc_seqr rfl (iQ 3 (iU .neg (.int .u64 (loW (p2))) (some 92) ?_)))
              intro z92 hz92
              try replace hz92 := hz92.u64 (by omega)
              refine iV 22 3 (.int .u64 z92) (some 93) ?_
              intro z93 hz93
              try replace hz93 := hz93.i64 (by omega)
              refine iQ 2 (iE 98 [(1, .p 1 0), (2, Ia z93), (3, Ba true), (4, .p 4 0), (19, Ba false), (44, Ba false), (64, Ba false), (86, Ba true)] [(1, [Bv true, Hw A, Lw A, Iv e]), (4, [Bv true, Hw p2, Lw p2, Iv x2])] ?_)
              refine vc_ret (block_r (seq_r (iS (Iv z93) (Bv true) [] ?_)))
              exact ⟨_, _, rfl, fun _ => by rw [neg_conv hz92 hz93 hlo.1 (by omega), hl]; exact ⟨hval, by unfold inI; omega⟩, fun h => by cases h⟩
          · replace hc79 := bt hc79
            refine iQ 2 (iU .not (.bool s) (some 83) ?_)
            intro c83 hc83
            refine iQ 3 (iE 98 [(1, .p 1 0), (2, Ia 0), (3, Ba false), (4, .p 4 0), (19, Ba false), (44, Ba false), (64, Ba c83)] [(1, [Bv s, Hw A, Lw A, Iv e]), (4, [Bv s, Hw p2, Lw p2, Iv x2])] ?_)
            cases c83
            · replace hc83 := bf hc83
              refine iF (vc_seqr rfl (iQ 3 (iE 98 [(1, .p 1 0), (2, Ia 0), (3, Ba false), (4, .p 4 0), (19, Ba false), (44, Ba false), (64, Ba false), (86, Ba s)] [(1, [Bv s, Hw A, Lw A, Iv e]), (4, [Bv s, Hw p2, Lw p2, Iv x2])] ?_)))
              cases s
              · skip
                exfalso; simp at hc83
                skip
              · skip
                refine iT (vc_seqr rfl (iQ 3 (iU .neg (.int .u64 (loW (p2))) (some 92) ?_)))
                intro z92 hz92
                try replace hz92 := hz92.u64 (by omega)
                refine iV 22 3 (.int .u64 z92) (some 93) ?_
                intro z93 hz93
                try replace hz93 := hz93.i64 (by omega)
                refine iQ 2 (iE 98 [(1, .p 1 0), (2, Ia z93), (3, Ba true), (4, .p 4 0), (19, Ba false), (44, Ba false), (64, Ba false), (86, Ba true)] [(1, [Bv true, Hw A, Lw A, Iv e]), (4, [Bv true, Hw p2, Lw p2, Iv x2])] ?_)
                refine vc_ret (block_r (seq_r (iS (Iv z93) (Bv true) [] ?_)))
                exact ⟨_, _, rfl, fun _ => by rw [neg_conv hz92 hz93 hlo.1 (by omega), hl]; exact ⟨hval, by unfold inI; omega⟩, fun h => by cases h⟩
            · replace hc83 := bt hc83
              refine iT (vc_seqr rfl (iQ 2 (iE 98 [(1, .p 1 0), (2, Ia 0), (3, Ba false), (4, .p 4 0), (19, Ba false), (44, Ba false), (64, Ba true)] [(1, [Bv s, Hw A, Lw A, Iv e]), (4, [Bv s, Hw p2, Lw p2, Iv x2])] ?_)))
              refine vc_ret (block_r (seq_r (iS (Iv 0) (Bv false) [] ?_)))
              exact ⟨_, _, rfl, fun h => (by cases h), fun _ => ⟨rfl, fun v hv hin => by rw [isW_fn hv hval] at hin; have := sgn_big hin; rw [hc83] at this; have := this.2 rfl; omega⟩⟩
        · replace hc73 := bt hc73
          refine iQ 11 (iE 98 [(1, .p 1 0), (2, Ia 0), (3, Ba false), (4, .p 4 0), (19, Ba false), (44, Ba false), (64, Ba true)] [(1, [Bv s, Hw A, Lw A, Iv e]), (4, [Bv s, Hw p2, Lw p2, Iv x2])] ?_)
          refine iT (vc_seqr rfl (iQ 2 (iE 98 [(1, .p 1 0), (2, Ia 0), (3, Ba false), (4, .p 4 0), (19, Ba false), (44, Ba false), (64, Ba true)] [(1, [Bv s, Hw A, Lw A, Iv e]), (4, [Bv s, Hw p2, Lw p2, Iv x2])] ?_)))
          refine vc_ret (block_r (seq_r (iS (Iv 0) (Bv false) [] ?_)))
          exact ⟨_, _, rfl, fun h => (by cases h), fun _ => ⟨rfl, fun v hv hin => by rw [isW_fn hv hval] at hin; have := (sgn_big hin).1; omega⟩⟩
      · replace hc68 := bt hc68
        refine iQ 17 (iE 98 [(1, .p 1 0), (2, Ia 0), (3, Ba false), (4, .p 4 0), (19, Ba false), (44, Ba false), (64, Ba true)] [(1, [Bv s, Hw A, Lw A, Iv e]), (4, [Bv s, Hw p2, Lw p2, Iv x2])] ?_)
        refine iT (vc_seqr rfl (iQ 2 (iE 98 [(1, .p 1 0), (2, Ia 0), (3, Ba false), (4, .p 4 0), (19, Ba false), (44, Ba false), (64, Ba true)] [(1, [Bv s, Hw A, Lw A, Iv e]), (4, [Bv s, Hw p2, Lw p2, Iv x2])] ?_)))
        refine vc_ret (block_r (seq_r (iS (Iv 0) (Bv false) [] ?_)))
        exact ⟨_, _, rfl, fun h => (by cases h), fun _ => ⟨rfl, fun v hv hin => by rw [isW_fn hv hval] at hin; have := (sgn_big hin).1; have := hi_big.1 hc68; omega⟩⟩
    · replace hc39 := bt hc39
      refine iQ 1 (iC 59 [.agg [Bv s, Hw p2, Lw p2, Iv x2]] (some 42) (c_Zero hb2) ?_)
      rintro _ ⟨zz, rfl, hzz⟩
      refine iU .not (.bool zz) (some 43) ?_
      intro c43 hc43
      refine iQ 1 (iE 98 [(1, .p 1 0), (2, Ia 0), (3, Ba false), (4, .p 4 0), (19, Ba false), (44, Ba c43)] [(1, [Bv s, Hw A, Lw A, Iv e]), (4, [Bv s, Hw p2, Lw p2, Iv x2])] ?_)
      cases c43
      · replace hc43 := bf hc43
        have hp20 : p2 = 0 := hzz.1 (by simpa using hc43)
        have hval := hinv.val (.inr hp20)
        clear hp20
        have hlo := lo_range' p2
        refine iF (vc_exit (seq_x (loop_x (block_x rfl (seq_n (vc_seq (vc_block (vc_seqr rfl (iQ 3 (iB .neq 22 (.int .u64 (hiW (p2))) (.int .u64 0) (some 68) ?_))))))))))
        intro c68 hc68
        refine iQ 1 ?_
        cases c68
        · replace hc68 := bf hc68
          refine iQ 3 (iB .gtr 22 (.int .u64 (loW (p2))) (.int .u64 9223372036854775808) (some 73) ?_)
          have hh0 : hiW p2 = 0 := Decidable.not_not.1 hc68
          have hl := lo_own hh0
          intro c73 hc73
          refine iQ 2 ?_
          cases c73
          · replace hc73 := bf hc73
            refine iQ 3 (iB .eql 22 (.int .u64 (loW (p2))) (.int .u64 9223372036854775808) (some 79) ?_)
            intro c79 hc79
            refine iQ 1 ?_
            cases c79
            · replace hc79 := bf hc79
              refine iQ 6 (iE 98 [(1, .p 1 0), (2, Ia 0), (3, Ba false), (4, .p 4 0), (19, Ba false), (44, Ba false), (64, Ba false)] [(1, [Bv s, Hw A, Lw A, Iv e]), (4, [Bv s, Hw p2, Lw p2, Iv x2])] ?_)
              refine iF (vc_seqr rfl (iQ 3 (iE 98 [(1, .p 1 0), (2, Ia 0), (3, Ba false), (4, .p 4 0), (19, Ba false), (44, Ba false), (64, Ba false), (86, Ba s)] [(1, [Bv s, Hw A, Lw A, Iv e]), (4, [Bv s, Hw p2, Lw p2, Iv x2])] ?_)))
              cases s
              · skip
                refine iF (vc_skip (block_n (seq_n (vc_seqr rfl (iQ 3 (iV 22 3 (.int .u64 (loW (p2))) (some 97) ?_))))))
                intro z97 hz97
                try replace hz97 := hz97.i64 (by omega)
                refine iQ 2 (iE 98 [(1, .p 1 0), (2, Ia z97), (3, Ba true), (4, .p 4 0), (19, Ba false), (44, Ba false), (64, Ba false), (86, Ba false)] [(1, [Bv false, Hw A, Lw A, Iv e]), (4, [Bv false, Hw p2, Lw p2, Iv x2])] ?_)
                refine vc_ret (iS (Iv z97) (Bv true) [] ?_)
                exact ⟨_, _, rfl, fun _ => by rw [hz97, hl]; exact ⟨hval, by show inI (p2 : Int); unfold inI; omega⟩, fun h => by cases h⟩
              · skip
                refine iT (vc_seqr rfl (iQ 3 (iU .neg (.int .u64 (loW (p2))) (some 92) ?_)))
                intro z92 hz92
                try replace hz92 := hz92.u64 (by omega)
                refine iV 22 3 (.int .u64 z92) (some 93) ?_
                intro z93 hz93
                try replace hz93 := hz93.i64 (by omega)
                refine iQ 2 (iE 98 [(1, .p 1 0), (2, Ia z93), (3, Ba true), (4, .p 4 0), (19, Ba false), (44, Ba false), (64, Ba false), (86, Ba true)] [(1, [Bv true, Hw A, Lw A, Iv e]), (4, [Bv true, Hw p2, Lw p2, Iv x2])] ?_)
                refine vc_ret (block_r (seq_r (iS (Iv z93) (Bv true) [] ?_)))
                exact ⟨_, _, rfl, fun _ => by rw [neg_conv hz92 hz93 hlo.1 (by omega), hl]; exact ⟨hval, by unfold inI; omega⟩, fun h => by cases h⟩
            · replace hc79 := bt hc79
              refine iQ 2 (iU .not (.bool s) (some 83) ?_)
              intro c83 hc83
              refine iQ 3 (iE 98 [(1, .p 1 0), (2, Ia 0), (3, Ba false), (4, .p 4 0), (19, Ba false), (44, Ba false), (64, Ba c83)] [(1, [Bv s, Hw A, Lw A, Iv e]), (4, [Bv s, Hw p2, Lw p2, Iv x2])] ?_)
              cases c83
              · replace hc83 := bf hc83
                refine iF (vc_seqr rfl (iQ 3 (iE 98 [(1, .p 1 0), (2, Ia 0), (3, Ba false), (4, .p 4 0), (19, Ba false), (44, Ba false), (64, Ba false), (86, Ba s)] [(1, [Bv s, Hw A, Lw A, Iv e]), (4, [Bv s, Hw p2, Lw p2, Iv x2])] ?_)))
                cases s
                · skip
                  exfalso; simp at hc83
                  skip
                · skip
                  refine iT (vc_seqr rfl (iQ 3 (iU .neg (.int .u64 (loW (p2))) (some 92) ?_)))
                  intro z92 hz92
                  try replace hz92 := hz92.u64 (by omega)
                  refine iV 22 3 (.int .u64 z92) (some 93) ?_
                  intro z93 hz93
                  try replace hz93 := hz93.i64 (by omega)
                  refine iQ 2 (iE 98 [(1, .p 1 0), (2, Ia z93), (3, Ba true), (4, .p 4 0), (19, Ba false), (44, Ba false), (64, Ba false), (86, Ba true)] [(1, [Bv true, Hw A, Lw A, Iv e]), (4, [Bv true, Hw p2, Lw p2, Iv x2])] ?_)
                  refine vc_ret (block_r (seq_r (iS (Iv z93) (Bv true) [] ?_)))
                  exact ⟨_, _, rfl, fun _ => by rw [neg_conv hz92 hz93 hlo.1 (by omega), hl]; exact ⟨hval, by unfold inI; omega⟩, fun h => by cases h⟩
              · replace hc83 := bt hc83
                refine iT (vc_seqr rfl (iQ 2 (iE 98 [(1, .p 1 0), (2, Ia 0), (3, Ba false), (4, .p 4 0), (19, Ba false), (44, Ba false), (64, Ba true)] [(1, [Bv s, Hw A, Lw A, Iv e]), (4, [Bv s, Hw p2, Lw p2, Iv x2])] ?_)))
                refine vc_ret (block_r (seq_r (iS (Iv 0) (Bv false) [] ?_)))
                exact ⟨_, _, rfl, fun h => (by cases h), fun _ => ⟨rfl, fun v hv hin => by rw [isW_fn hv hval] at hin; have := sgn_big hin; rw [hc83] at this; have := this.2 rfl; omega⟩⟩
          · replace hc73 := bt hc73
            refine iQ 11 (iE 98 [(1, .p 1 0), (2, Ia 0), (3, Ba false), (4, .p 4 0), (19, Ba false), (44, Ba false), (64, Ba true)] [(1, [Bv s, Hw A, Lw A, Iv e]), (4, [Bv s, Hw p2, Lw p2, Iv x2])] ?_)
            refine iT (vc_seqr rfl (iQ 2 (iE 98 [(1, .p 1 0), (2, Ia 0), (3, Ba false), (4, .p 4 0), (19, Ba false), (44, Ba false), (64, Ba true)] [(1, [Bv s, Hw A, Lw A, Iv e]), (4, [Bv s, Hw p2, Lw p2, Iv x2])] ?_)))
            refine vc_ret (block_r (seq_r (iS (Iv 0) (Bv false) [] ?_)))
            exact ⟨_, _, rfl, fun h => (by cases h), fun _ => ⟨rfl, fun v hv hin => by rw [isW_fn hv hval] at hin; have := (sgn_big hin).1; omega⟩⟩
        · replace hc68 := bt hc68
          refine iQ 17 (iE 98 [(1, .p 1 0), (2, Ia 0), (3, Ba false), (4, .p 4 0), (19, Ba false), (44, Ba false), (64, Ba true)] [(1, [Bv s, Hw A, Lw A, Iv e]), (4, [Bv s, Hw p2, Lw p2, Iv x2])] ?_)
          refine iT (vc_seqr rfl (iQ 2 (iE 98 [(1, .p 1 0), (2, Ia 0), (3, Ba false), (4, .p 4 0), (19, Ba false), (44, Ba false), (64, Ba true)] [(1, [Bv s, Hw A, Lw A, Iv e]), (4, [Bv s, Hw p2, Lw p2, Iv x2])] ?_)))
          refine vc_ret (block_r (seq_r (iS (Iv 0) (Bv false) [] ?_)))
          exact ⟨_, _, rfl, fun h => (by cases h), fun _ => ⟨rfl, fun v hv hin => by rw [isW_fn hv hval] at hin; have := (sgn_big hin).1; have := hi_big.1 hc68; omega⟩⟩
      · replace hc43 := bt hc43
        have hp20 : p2 ≠ 0 := fun h => by rw [hzz.2 h] at hc43; cases hc43
        refine iT (vc_skip (seq_n (vc_block (vc_seqr rfl (iQ 2 (iC 93 [.agg [Hw p2, Lw p2], Uv 10] (some 48) (cw_MulWord (n := 10) hb2 (by decide)) ?_))))))
        rintro _ rfl
        refine iQ 6 (iE 98 [(1, .p 1 0), (2, Ia 0), (3, Ba false), (4, .p 4 0), (9, .d (Uv (((p2 * 10 / B128 : Nat) : Int)))), (10, .p 10 0), (19, Ba false), (44, Ba true)] [(1, [Bv s, Hw A, Lw A, Iv e]), (4, [Bv s, Hw p2, Lw p2, Iv x2]), (10, [Hw (p2 * 10 % B128), Lw (p2 * 10 % B128)])] ?_)
        refine vc_seq (vc_seqr rfl (iQ 1 (iB .neq 22 (.int .u64 (((p2 * 10 / B128 : Nat) : Int))) (.int .u64 0) (some 52) ?_)))
        intro c52 hc52
        refine iQ 1 ?_
        cases c52
        · replace hc52 := bf hc52
          refine iQ 2 (iB .neq 22 (.int .u64 (hiW (p2 * 10 % B128))) (.int .u64 0) (some 56) ?_)
          have hq0 : p2 * 10 / B128 = 0 := by omega
          have hqm : p2 * 10 % B128 = p2 * 10 := Nat.mod_eq_of_lt (div0_lt hq0)
          intro c56 hc56
          refine iQ 1 (iE 98 [(1, .p 1 0), (2, Ia 0), (3, Ba false), (4, .p 4 0), (9, .d (Uv (((p2 * 10 / B128 : Nat) : Int)))), (10, .p 10 0), (19, Ba false), (44, Ba true), (57, Ba c56)] [(1, [Bv s, Hw A, Lw A, Iv e]), (4, [Bv s, Hw p2, Lw p2, Iv x2]), (10, [Hw (p2 * 10 % B128), Lw (p2 * 10 % B128)])] ?_)
          cases c56
          · replace hc56 := bf hc56
            have hsm : p2 * 10 < 18446744073709551616 := by rw [hqm] at hc56; have := @hi_big (p2 * 10); omega
            refine iF (vc_skip (seq_n (vc_reg rfl (iQ 3 (iB .sub 3 (.int .i64 x2) (.int .i64 1) (some 61) ?_)))))
            intro z61 hz61
            try replace hz61 := hz61.i64 (by omega)
            refine iQ 4 (iE 98 [(1, .p 1 0), (2, Ia 0), (3, Ba false), (4, .p 4 0), (9, .d (Uv (((p2 * 10 / B128 : Nat) : Int)))), (10, .p 10 0), (19, Ba false), (44, Ba true), (57, Ba false)] [(1, [Bv s, Hw A, Lw A, Iv e]), (4, [Bv s, Hw (p2 * 10 % B128), Lw (p2 * 10 % B128), Iv z61]), (10, [Hw (p2 * 10 % B128), Lw (p2 * 10 % B128)])] ?_)
            refine block_n ?_
            refine loop_n (i + 1, p2 * 10 % B128, z61) (⟨hinv.a, hinv.z, by rw [hqm, hinv.p, Nat.pow_succ, Nat.mul_assoc], by have := hinv.x; omega, .inr (by omega), mod_lt128 _⟩) (by show z61.toNat < x2.toNat; omega) (by kernel_rfl) (by kernel_rfl)
          · replace hc56 := bt hc56
            refine iT (vc_seqr rfl (iQ 2 (iE 98 [(1, .p 1 0), (2, Ia 0), (3, Ba false), (4, .p 4 0), (9, .d (Uv (((p2 * 10 / B128 : Nat) : Int)))), (10, .p 10 0), (19, Ba false), (44, Ba true), (57, Ba true)] [(1, [Bv s, Hw A, Lw A, Iv e]), (4, [Bv s, Hw p2, Lw p2, Iv x2]), (10, [Hw (p2 * 10 % B128), Lw (p2 * 10 % B128)])] ?_)))
            refine vc_ret (seq_r (block_r (loop_r (block_r (seq_r (iS (Iv 0) (Bv false) [] ?_))))))
            exact ⟨_, _, rfl, fun h => (by cases h), fun _ => ⟨rfl, fun v hv => hinv.over hc39 hp20 (by rw [hqm] at hc56; exact hi_big.1 hc56) hv⟩⟩
        · replace hc52 := bt hc52
          refine iQ 4 (iE 98 [(1, .p 1 0), (2, Ia 0), (3, Ba false), (4, .p 4 0), (9, .d (Uv (((p2 * 10 / B128 : Nat) : Int)))), (10, .p 10 0), (19, Ba false), (44, Ba true), (57, Ba true)] [(1, [Bv s, Hw A, Lw A, Iv e]), (4, [Bv s, Hw p2, Lw p2, Iv x2]), (10, [Hw (p2 * 10 % B128), Lw (p2 * 10 % B128)])] ?_)
          refine iT (vc_seqr rfl (iQ 2 (iE 98 [(1, .p 1 0), (2, Ia 0), (3, Ba false), (4, .p 4 0), (9, .d (Uv (((p2 * 10 / B128 : Nat) : Int)))), (10, .p 10 0), (19, Ba false), (44, Ba true), (57, Ba true)] [(1, [Bv s, Hw A, Lw A, Iv e]), (4, [Bv s, Hw p2, Lw p2, Iv x2]), (10, [Hw (p2 * 10 % B128), Lw (p2 * 10 % B128)])] ?_)))
          refine vc_ret (seq_r (block_r (loop_r (block_r (seq_r (iS (Iv 0) (Bv false) [] ?_))))))
          exact ⟨_, _, rfl, fun h => (by cases h), fun _ => ⟨rfl, fun v hv => hinv.over hc39 hp20 (by have hq : p2 * 10 / B128 ≠ 0 := (by omega); exact div1_ge hq) hv⟩⟩
  · replace hc14 := bt hc14
    refine iQ 1 (iC 59 [.agg [Bv s, Hw p, Lw p, Iv x]] (some 17) (c_Zero i4) ?_)
    rintro _ ⟨z1, rfl, hz1⟩
    refine iU .not (.bool z1) (some 18) ?_
    intro c18 hc18
    refine iQ 1 (iE 98 [(1, .p 1 0), (2, Ia 0), (3, Ba false), (4, .p 4 0), (19, Ba c18)] [(1, [Bv s, Hw A, Lw A, Iv e]), (4, [Bv s, Hw p, Lw p, Iv x])] ?_)
    cases c18
    · replace hc18 := bf hc18
      have hp0 : p = 0 := hz1.1 (by simpa using hc18)
      have hz0 : A = 0 ∨ 0 ≤ e + (j : Int) := .inl (by rw [← i1, hp0, Nat.zero_mul])
      have hw0 : WInv s A p 0 j e p x := ⟨i1, hz0, by simp, by omega, .inl rfl, i4⟩
      have hxb : e + (j : Int) ≤ 10000000000000000 := by omega
      clear i2 i3 hc14
      refine iF (vc_exit (seq_x (loop_x (block_x rfl (seq_n (vc_seq (vc_block (vc_loop 98 (fun (vcx : Nat × Nat × Int) => match vcx with | (i, p2, x2) => [(1, .p 1 0), (2, Ia 0), (3, Ba false), (4, .p 4 0), (19, Ba false)]) (fun (vcx : Nat × Nat × Int) => match vcx with | (i, p2, x2) => [(1, [Bv s, Hw A, Lw A, Iv e]), (4, [Bv s, Hw p2, Lw p2, Iv x2])]) (fun (vcx : Nat × Nat × Int) => match vcx with | (i, p2, x2) => WInv s A p i j e p2 x2) (fun (vcx : Nat × Nat × Int) => match vcx with | (i, p2, x2) => x2.toNat) ((0, p, x)) (hw0) (by kernel_rfl) (by kernel_rfl) ?_))))))))
      rintro ⟨i, p2, x2⟩ hinv
      simp only at hinv
      have hb2 := hinv.b; have hx2 := hinv.x
      refine vc_seq (vc_seqr rfl (iQ 2 (iB .gtr 3 (.int .i64 x2) (.int .i64 0) (some 39) ?_)))
      intro c39 hc39
      refine iQ 1 ?_
      cases c39
      · replace hc39 := bf hc39
        refine iQ 4 (iE 98 [(1, .p 1 0), (2, Ia 0), (3, Ba false), (4, .p 4 0), (19, Ba false), (44, Ba false)] [(1, [Bv s, Hw A, Lw A, Iv e]), (4, [Bv s, Hw p2, Lw p2, Iv x2])] ?_)
        have hval := hinv.val (.inl (by omega))
        have hlo := lo_range' p2
        refine iF (vc_exit (seq_x (loop_x (block_x rfl (seq_n (vc_seq (vc_block (vc_seqr rfl (iQ 3 (iB .neq 22 (.int .u64 (hiW (p2))) (.int .u64 0) (some 68) ?_))))))))))
        intro c68 hc68
        refine iQ 1 ?_
        cases c68
        · replace hc68 := bf hc68
          refine iQ 3 (iB .gtr 22 (.int .u64 (loW (p2))) (.int .u64 9223372036854775808) (some 73) ?_)
          have hh0 : hiW p2 = 0 := Decidable.not_not.1 hc68
          have hl := lo_own hh0
          intro c73 hc73
          refine iQ 2 ?_
          cases c73
          · replace hc73 := bf hc73
            refine iQ 3 (iB .eql 22 (.int .u64 (loW (p2))) (.int .u64 9223372036854775808) (some 79) ?_)
            intro c79 hc79
            refine iQ 1 ?_
            cases c79
            · replace hc79 := bf hc79
              refine iQ 6 (iE 98 [(1, .p 1 0), (2, Ia 0), (3, Ba false), (4, .p 4 0), (19, Ba false), (44, Ba false), (64, Ba false)] [(1, [Bv s, Hw A, Lw A, Iv e]), (4, [Bv s, Hw p2, Lw p2, Iv x2])] ?_)
              refine iF (vc_seqr rfl (iQ 3 (iE 98 [(1, .p 1 0), (2, Ia 0), (3, Ba false), (4, .p 4 0), (19, Ba false), (44, Ba false), (64, Ba false), (86, Ba s)] [(1, [Bv s, Hw A, Lw A, Iv e]), (4, [Bv s, Hw p2, Lw p2, Iv x2])] ?_)))
              cases s
              · skip
                refine iF (vc_skip (block_n (seq_n (vc_seqr rfl (iQ 3 (iV 22 3 (.int .u64 (loW (p2))) (some 97) ?_))))))
                intro z97 hz97
                try replace hz97 := hz97.i64 (by omega)
                refine iQ 2 (iE 98 [(1, .p 1 0), (2, Ia z97), (3, Ba true), (4, .p 4 0), (19, Ba false), (44, Ba false), (64, Ba false), (86, Ba false)] [(1, [Bv false, Hw A, Lw A, Iv e]), (4, [Bv false, Hw p2, Lw p2, Iv x2])] ?_)
                refine vc_ret (iS (Iv z97) (Bv true) [] ?_)
                exact ⟨_, _, rfl, fun _ => by rw [hz97, hl]; exact ⟨hval, by show inI (p2 : Int); unfold inI; omega⟩, fun h => by cases h⟩
              · skip
                refine iT (vc_seqr rfl (iQ 3 (iU .neg (.int .u64 (loW (p2))) (some 92) ?_)))
                intro z92 hz92
                try replace hz92 := hz92.u64 (by omega)
                refine iV 22 3 (.int .u64 z92) (some 93) ?_
                intro z93 hz93
                try replace hz93 := hz93.i64 (by omega)
                refine iQ 2 (iE 98 [(1, .p 1 0), (2, Ia z93), (3, Ba true), (4, .p 4 0), (19, Ba false), (44, Ba false), (64, Ba false), (86, Ba true)] [(1, [Bv true, Hw A, Lw A, Iv e]), (4, [Bv true, Hw p2, Lw p2, Iv x2])] ?_)
                refine vc_ret (block_r (seq_r (iS (Iv z93) (Bv true) [] ?_)))
                exact ⟨_, _, rfl, fun _ => by rw [neg_conv hz92 hz93 hlo.1 (by omega), hl]; exact ⟨hval, by unfold inI; omega⟩, fun h => by cases h⟩
            · replace hc79 := bt hc79
              refine iQ 2 (iU .not (.bool s) (some 83) ?_)
              intro c83 hc83
              refine iQ 3 (iE 98 [(1, .p 1 0), (2, Ia 0), (3, Ba false), (4, .p 4 0), (19, Ba false), (44, Ba false), (64, Ba c83)] [(1, [Bv s, Hw A, Lw A, Iv e]), (4, [Bv s, Hw p2, Lw p2, Iv x2])] ?_)
              cases c83
              · replace hc83 := bf hc83
                refine iF (vc_seqr rfl (iQ 3 (iE 98 [(1, .p 1 0), (2, Ia 0), (3, Ba false), (4, .p 4 0), (19, Ba false), (44, Ba false), (64, Ba false), (86, Ba s)] [(1, [Bv s, Hw A, Lw A, Iv e]), (4, [Bv s, Hw p2, Lw p2, Iv x2])] ?_)))
                cases s
                · skip
                  exfalso; simp at hc83
                  skip
                · skip
                  refine iT (vc_seqr rfl (iQ 3 (iU .neg (.int .u64 (loW (p2))) (some 92) ?_)))
                  intro z92 hz92
                  try replace hz92 := hz92.u64 (by omega)
                  refine iV 22 3 (.int .u64 z92) (some 93) ?_
                  intro z93 hz93
                  try replace hz93 := hz93.i64 (by omega)
                  refine iQ 2 (iE 98 [(1, .p 1 0), (2, Ia z93), (3, Ba true), (4, .p 4 0), (19, Ba false), (44, Ba false), (64, Ba false), (86, Ba true)] [(1, [Bv true, Hw A, Lw A, Iv e]), (4, [Bv true, Hw p2, Lw p2, Iv x2])] ?_)
                  refine vc_ret (block_r (seq_r (iS (Iv z93) (Bv true) [] ?_)))
                  exact ⟨_, _, rfl, fun _ => by rw [neg_conv hz92 hz93 hlo.1 (by omega), hl]; exact ⟨hval, by unfold inI; omega⟩, fun h => by cases h⟩
              · replace hc83 := bt hc83
                refine iT (vc_seqr rfl (iQ 2 (iE 98 [(1, .p 1 0), (2, Ia 0), (3, Ba false), (4, .p 4 0), (19, Ba false), (44, Ba false), (64, Ba true)] [(1, [Bv s, Hw A, Lw A, Iv e]), (4, [Bv s, Hw p2, Lw p2, Iv x2])] ?_)))
                refine vc_ret (block_r (seq_r (iS (Iv 0) (Bv false) [] ?_)))
                exact ⟨_, _, rfl, fun h => (by cases h), fun _ => ⟨rfl, fun v hv hin => by rw [isW_fn hv hval] at hin; have := sgn_big hin; rw [hc83] at this; have := this.2 rfl; omega⟩⟩
          · replace hc73 := bt hc73
            refine iQ 11 (iE 98 [(1, .p 1 0), (2, Ia 0), (3, Ba false), (4, .p 4 0), (19, Ba false), (44, Ba false), (64, Ba true)] [(1, [Bv s, Hw A, Lw A, Iv e]), (4, [Bv s, Hw p2, Lw p2, Iv x2])] ?_)
            refine iT (vc_seqr rfl (iQ 2 (iE 98 [(1, .p 1 0), (2, Ia 0), (3, Ba false), (4, .p 4 0), (19, Ba false), (44, Ba false), (64, Ba true)] [(1, [Bv s, Hw A, Lw A, Iv e]), (4, [Bv s, Hw p2, Lw p2, Iv x2])] ?_)))
            refine vc_ret (block_r (seq_r (iS (Iv 0) (Bv false) [] ?_)))
            exact ⟨_, _, rfl, fun h => (by cases h), fun _ => ⟨rfl, fun v hv hin => by rw [isW_fn hv hval] at hin; have := (sgn_big hin).1; omega⟩⟩
        · replace hc68 := bt hc68
          refine iQ 17 (iE 98 [(1, .p 1 0), (2, Ia 0), (3, Ba false), (4, .p 4 0), (19, Ba false), (44, Ba false), (64, Ba true)] [(1, [Bv s, Hw A, Lw A, Iv e]), (4, [Bv s, Hw p2, Lw p2, Iv x2])] ?_)
          refine iT (vc_seqr rfl (iQ 2 (iE 98 [(1, .p 1 0), (2, Ia 0), (3, Ba false), (4, .p 4 0), (19, Ba false), (44, Ba false), (64, Ba true)] [(1, [Bv s, Hw A, Lw A, Iv e]), (4, [Bv s, Hw p2, Lw p2, Iv x2])] ?_)))
          refine vc_ret (block_r (seq_r (iS (Iv 0) (Bv false) [] ?_)))
          exact ⟨_, _, rfl, fun h => (by cases h), fun _ => ⟨rfl, fun v hv hin => by rw [isW_fn hv hval] at hin; have := (sgn_big hin).1; have := hi_big.1 hc68; omega⟩⟩
      · replace hc39 := bt hc39
        refine iQ 1 (iC 59 [.agg [Bv s, Hw p2, Lw p2, Iv x2]] (some 42) (c_Zero hb2) ?_)
        rintro _ ⟨zz, rfl, hzz⟩
        refine iU .not (.bool zz) (some 43) ?_
        intro c43 hc43
        refine iQ 1 (iE 98 [(1, .p 1 0), (2, Ia 0), (3, Ba false), (4, .p 4 0), (19, Ba false), (44, Ba c43)] [(1, [Bv s, Hw A, Lw A, Iv e]), (4, [Bv s, Hw p2, Lw p2, Iv x2])] ?_)
        cases c43
        · replace hc43 := bf hc43
          have hp20 : p2 = 0 := hzz.1 (by simpa using hc43)
          have hval := hinv.val (.inr hp20)
          clear hp20
          have hlo := lo_range' p2
          refine iF (vc_exit (seq_x (loop_x (block_x rfl (seq_n (vc_seq (vc_block (vc_seqr rfl (iQ 3 (iB .neq 22 (.int .u64 (hiW (p2))) (.int .u64 0) (some 68) ?_))))))))))
          intro c68 hc68
          refine iQ 1 ?_
          cases c68
          · replace hc68 := bf hc68
            refine iQ 3 (iB .gtr 22 (.int .u64 (loW (p2))) (.int .u64 9223372036854775808) (some 73) ?_)
            have hh0 : hiW p2 = 0 := Decidable.not_not.1 hc68
            have hl := lo_own hh0
            intro c73 hc73
            refine iQ 2 ?_
            cases c73
            · replace hc73 := bf hc73
              refine iQ 3 (iB .eql 22 (.int .u64 (loW (p2))) (.int .u64 9223372036854775808) (some 79) ?_)
              intro c79 hc79
              refine iQ 1 ?_
              cases c79
              · replace hc79 := bf hc79
                refine iQ 6 (iE 98 [(1, .p 1 0), (2, Ia 0), (3, Ba false), (4, .p 4 0), (19, Ba false), (44, Ba false), (64, Ba false)] [(1, [Bv s, Hw A, Lw A, Iv e]), (4, [Bv s, Hw p2, Lw p2, Iv x2])] ?_)
                refine iF (vc_seqr rfl (iQ 3 (iE 98 [(1, .p 1 0), (2, Ia 0), (3, Ba false), (4, .p 4 0), (19, Ba false), (44, Ba false), (64, Ba false), (86, Ba s)] [(1, [Bv s, Hw A, Lw A, Iv e]), (4, [Bv s, Hw p2, Lw p2, Iv x2])] ?_)))
                cases s
                · skip
                  refine iF (vc_skip (block_n (seq_n (vc_seqr rfl (iQ 3 (iV 22 3 (.int .u64 (loW (p2))) (some 97) ?_))))))
                  intro z97 hz97
                  try replace hz97 := hz97.i64 (by omega)
                  refine iQ 2 (iE 98 [(1, .p 1 0), (2, Ia z97), (3, Ba true), (4, .p 4 0), (19, Ba false), (44, Ba false), (64, Ba false), (86, Ba false)] [(1, [Bv false, Hw A, Lw A, Iv e]), (4, [Bv false, Hw p2, Lw p2, Iv x2])] ?_)
                  refine vc_ret (iS (Iv z97) (Bv true) [] ?_)
                  exact ⟨_, _, rfl, fun _ => by rw [hz97, hl]; exact ⟨hval, by show inI (p2 : Int); unfold inI; omega⟩, fun h => by cases h⟩
                · skip
                  refine iT (vc_seqr rfl (iQ 3 (iU .neg (.int .u64 (loW (p2))) (some 92) ?_)))
                  intro z92 hz92
                  try replace hz92 := hz92.u64 (by omega)
                  refine iV 22 3 (.int .u64 z92) (some 93) ?_
                  intro z93 hz93
                  try replace hz93 := hz93.i64 (by omega)
                  refine iQ 2 (iE 98 [(1, .p 1 0), (2, Ia z93), (3, Ba true), (4, .p 4 0), (19, Ba false), (44, Ba false), (64, Ba false), (86, Ba true)] [(1, [Bv true, Hw A, Lw A, Iv e]), (4, [Bv true, Hw p2, Lw p2, Iv x2])] ?_)
                  refine vc_ret (block_r (seq_r (iS (Iv z93) (Bv true) [] ?_)))
                  exact ⟨_, _, rfl, fun _ => by rw [neg_conv hz92 hz93 hlo.1 (by omega), hl]; exact ⟨hval, by unfold inI; omega⟩, fun h => by cases h⟩
              · replace hc79 := bt hc79
                refine iQ 2 (iU .not (.bool s) (some 83) ?_)
                intro c83 hc83
                refine iQ 3 (iE 98 [(1, .p 1 0), (2, Ia 0), (3, Ba false), (4, .p 4 0), (19, Ba false), (44, Ba false), (64, Ba c83)] [(1, [Bv s, Hw A, Lw A, Iv e]), (4, [Bv s, Hw p2, Lw p2, Iv x2])] ?_)
                cases c83
                · replace hc83 := bf hc83
                  refine iF (vc_seqr rfl (iQ 3 (iE 98 [(1, .p 1 0), (2, Ia 0), (3, Ba false), (4, .p 4 0), (19, Ba false), (44, Ba false), (64, Ba false), (86, Ba s)] [(1, [Bv s, Hw A, Lw A, Iv e]), (4, [Bv s, Hw p2, Lw p2, Iv x2])] ?_)))
                  cases s
                  · skip
                    exfalso; simp at hc83
                    skip
                  · skip
                    refine iT (vc_seqr rfl (iQ 3 (iU .neg (.int .u64 (loW (p2))) (some 92) ?_)))
                    intro z92 hz92
                    try replace hz92 := hz92.u64 (by omega)
                    refine iV 22 3 (.int .u64 z92) (some 93) ?_
                    intro z93 hz93
                    try replace hz93 := hz93.i64 (by omega)
                    refine iQ 2 (iE 98 [(1, .p 1 0), (2, Ia z93), (3, Ba true), (4, .p 4 0), (19, Ba false), (44, Ba false), (64, Ba false), (86, Ba true)] [(1, [Bv true, Hw A, Lw A, Iv e]), (4, [Bv true, Hw p2, Lw p2, Iv x2])] ?_)
                    refine vc_ret (block_r (seq_r (iS (Iv z93) (Bv true) [] ?_)))
                    exact ⟨_, _, rfl, fun _ => by rw [neg_conv hz92 hz93 hlo.1 (by omega), hl]; exact ⟨hval, by unfold inI; omega⟩, fun h => by cases h⟩
                · replace hc83 := bt hc83
                  refine iT (vc_seqr rfl (iQ 2 (iE 98 [(1, .p 1 0), (2, Ia 0), (3, Ba false), (4, .p 4 0), (19, Ba false), (44, Ba false), (64, Ba true)] [(1, [Bv s, Hw A, Lw A, Iv e]), (4, [Bv s, Hw p2, Lw p2, Iv x2])] ?_)))
                  refine vc_ret (block_r (seq_r (iS (Iv 0) (Bv false) [] ?_)))
                  exact ⟨_, _, rfl, fun h => (by cases h), fun _ => ⟨rfl, fun v hv hin => by rw [isW_fn hv hval] at hin; have := sgn_big hin; rw [hc83] at this; have := this.2 rfl; omega⟩⟩
            · replace hc73 := bt hc73
              refine iQ 11 (iE 98 [(1, .p 1 0), (2, Ia 0), (3, Ba false), (4, .p 4 0), (19, Ba false), (44, Ba false), (64, Ba true)] [(1, [Bv s, Hw A, Lw A, Iv e]), (4, [Bv s, Hw p2, Lw p2, Iv x2])] ?_)
              refine iT (vc_seqr rfl (iQ 2 (iE 98 [(1, .p 1 0), (2, Ia 0), (3, Ba false), (4, .p 4 0), (19, Ba false), (44, Ba false), (64, Ba true)] [(1, [Bv s, Hw A, Lw A, Iv e]), (4, [Bv s, Hw p2, Lw p2, Iv x2])] ?_)))
              refine vc_ret (block_r (seq_r (iS (Iv 0) (Bv false) [] ?_)))
              exact ⟨_, _, rfl, fun h => (by cases h), fun _ => ⟨rfl, fun v hv hin => by rw [isW_fn hv hval] at hin; have := (sgn_big hin).1; omega⟩⟩
          · replace hc68 := bt hc68
            refine iQ 17 (iE 98 [(1, .p 1 0), (2, Ia 0), (3, Ba false), (4, .p 4 0), (19, Ba false), (44, Ba false), (64, Ba true)] [(1, [Bv s, Hw A, Lw A, Iv e]), (4, [Bv s, Hw p2, Lw p2, Iv x2])] ?_)
            refine iT (vc_seqr rfl (iQ 2 (iE 98 [(1, .p 1 0), (2, Ia 0), (3, Ba false), (4, .p 4 0), (19, Ba false), (44, Ba false), (64, Ba true)] [(1, [Bv s, Hw A, Lw A, Iv e]), (4, [Bv s, Hw p2, Lw p2, Iv x2])] ?_)))
            refine vc_ret (block_r (seq_r (iS (Iv 0) (Bv false) [] ?_)))
            exact ⟨_, _, rfl, fun h => (by cases h), fun _ => ⟨rfl, fun v hv hin => by rw [isW_fn hv hval] at hin; have := (sgn_big hin).1; have := hi_big.1 hc68; omega⟩⟩
        · replace hc43 := bt hc43
          have hp20 : p2 ≠ 0 := fun h => by rw [hzz.2 h] at hc43; cases hc43
          refine iT (vc_skip (seq_n (vc_block (vc_seqr rfl (iQ 2 (iC 93 [.agg [Hw p2, Lw p2], Uv 10] (some 48) (cw_MulWord (n := 10) hb2 (by decide)) ?_))))))
          rintro _ rfl
          refine iQ 6 (iE 98 [(1, .p 1 0), (2, Ia 0), (3, Ba false), (4, .p 4 0), (9, .d (Uv (((p2 * 10 / B128 : Nat) : Int)))), (10, .p 10 0), (19, Ba false), (44, Ba true)] [(1, [Bv s, Hw A, Lw A, Iv e]), (4, [Bv s, Hw p2, Lw p2, Iv x2]), (10, [Hw (p2 * 10 % B128), Lw (p2 * 10 % B128)])] ?_)
          refine vc_seq (vc_seqr rfl (iQ 1 (iB .neq 22 (.int .u64 (((p2 * 10 / B128 : Nat) : Int))) (.int .u64 0) (some 52) ?_)))
          intro c52 hc52
          refine iQ 1 ?_
          cases c52
          · replace hc52 := bf hc52
            refine iQ 2 (iB .neq 22 (.int .u64 (hiW (p2 * 10 % B128))) (.int .u64 0) (some 56) ?_)
            have hq0 : p2 * 10 / B128 = 0 := by omega
            have hqm : p2 * 10 % B128 = p2 * 10 := Nat.mod_eq_of_lt (div0_lt hq0)
            intro c56 hc56
            refine iQ 1 (iE 98 [(1, .p 1 0), (2, Ia 0), (3, Ba false), (4, .p 4 0), (9, .d (Uv (((p2 * 10 / B128 : Nat) : Int)))), (10, .p 10 0), (19, Ba false), (44, Ba true), (57, Ba c56)] [(1, [Bv s, Hw A, Lw A, Iv e]), (4, [Bv s, Hw p2, Lw p2, Iv x2]), (10, [Hw (p2 * 10 % B128), Lw (p2 * 10 % B128)])] ?_)
            cases c56
            · replace hc56 := bf hc56
              have hsm : p2 * 10 < 18446744073709551616 := by rw [hqm] at hc56; have := @hi_big (p2 * 10); omega
              refine iF (vc_skip (seq_n (vc_reg rfl (iQ 3 (iB .sub 3 (.int .i64 x2) (.int .i64 1) (some 61) ?_)))))
              intro z61 hz61
              try replace hz61 := hz61.i64 (by omega)
              refine iQ 4 (iE 98 [(1, .p 1 0), (2, Ia 0), (3, Ba false), (4, .p 4 0), (9, .d (Uv (((p2 * 10 / B128 : Nat) : Int)))), (10, .p 10 0), (19, Ba false), (44, Ba true), (57, Ba false)] [(1, [Bv s, Hw A, Lw A, Iv e]), (4, [Bv s, Hw (p2 * 10 % B128), Lw (p2 * 10 % B128), Iv z61]), (10, [Hw (p2 * 10 % B128), Lw (p2 * 10 % B128)])] ?_)
              refine block_n ?_
              refine loop_n (i + 1, p2 * 10 % B128, z61) (⟨hinv.a, hinv.z, by rw [hqm, hinv.p, Nat.pow_succ, Nat.mul_assoc], by have := hinv.x; omega, .inr (by omega), mod_lt128 _⟩) (by show z61.toNat < x2.toNat; omega) (by kernel_rfl) (by kernel_rfl)
            · replace hc56 := bt hc56
              refine iT (vc_seqr rfl (iQ 2 (iE 98 [(1, .p 1 0), (2, Ia 0), (3, Ba false), (4, .p 4 0), (9, .d (Uv (((p2 * 10 / B128 : Nat) : Int)))), (10, .p 10 0), (19, Ba false), (44, Ba true), (57, Ba true)] [(1, [Bv s, Hw A, Lw A, Iv e]), (4, [Bv s, Hw p2, Lw p2, Iv x2]), (10, [Hw (p2 * 10 % B128), Lw (p2 * 10 % B128)])] ?_)))
              refine vc_ret (seq_r (block_r (loop_r (block_r (seq_r (iS (Iv 0) (Bv false) [] ?_))))))
              exact ⟨_, _, rfl, fun h => (by cases h), fun _ => ⟨rfl, fun v hv => hinv.over hc39 hp20 (by rw [hqm] at hc56; exact hi_big.1 hc56) hv⟩⟩
          · replace hc52 := bt hc52
            refine iQ 4 (iE 98 [(1, .p 1 0), (2, Ia 0), (3, Ba false), (4, .p 4 0), (9, .d (Uv (((p2 * 10 / B128 : Nat) : Int)))), (10, .p 10 0), (19, Ba false), (44, Ba true), (57, Ba true)] [(1, [Bv s, Hw A, Lw A, Iv e]), (4, [Bv s, Hw p2, Lw p2, Iv x2]), (10, [Hw (p2 * 10 % B128), Lw (p2 * 10 % B128)])] ?_)
            refine iT (vc_seqr rfl (iQ 2 (iE 98 [(1, .p 1 0), (2, Ia 0), (3, Ba false), (4, .p 4 0), (9, .d (Uv (((p2 * 10 / B128 : Nat) : Int)))), (10, .p 10 0), (19, Ba false), (44, Ba true), (57, Ba true)] [(1, [Bv s, Hw A, Lw A, Iv e]), (4, [Bv s, Hw p2, Lw p2, Iv x2]), (10, [Hw (p2 * 10 % B128), Lw (p2 * 10 % B128)])] ?_)))
            refine vc_ret (seq_r (block_r (loop_r (block_r (seq_r (iS (Iv 0) (Bv false) [] ?_))))))
            exact ⟨_, _, rfl, fun h => (by cases h), fun _ => ⟨rfl, fun v hv => hinv.over hc39 hp20 (by have hq : p2 * 10 / B128 ≠ 0 := (by omega); exact div1_ge hq) hv⟩⟩
    · replace hc18 := bt hc18
      refine iT (vc_skip (seq_n (vc_block (vc_seqr rfl (iQ 3 (iC 78 [.agg [Uv 0, Uv 0], .agg [Hw p, Lw p], Uv 10] (some 24) (cw_DivWord10 i4) ?_))))))
      rintro _ rfl
      refine iQ 11 (iE 98 [(1, .p 1 0), (2, Ia 0), (3, Ba false), (4, .p 4 0), (6, .p 6 0), (7, .d (Uv (((p % 10 : Nat) : Int)))), (19, Ba true)] [(1, [Bv s, Hw A, Lw A, Iv e]), (4, [Bv s, Hw p, Lw p, Iv x]), (6, [Hw (p / 10), Lw (p / 10)])] ?_)
      refine vc_seq (vc_seqr rfl (iQ 1 (iB .neq 22 (.int .u64 (((p % 10 : Nat) : Int))) (.int .u64 0) (some 30) ?_)))
      intro c30 hc30
      refine iE 98 [(1, .p 1 0), (2, Ia 0), (3, Ba false), (4, .p 4 0), (6, .p 6 0), (7, .d (Uv (((p % 10 : Nat) : Int)))), (19, Ba true), (30, Ba c30)] [(1, [Bv s, Hw A, Lw A, Iv e]), (4, [Bv s, Hw p, Lw p, Iv x]), (6, [Hw (p / 10), Lw (p / 10)])] ?_
      cases c30
      · replace hc30 := bf hc30
        have hp10 : p % 10 = 0 := by omega
        refine iF (vc_skip (seq_n (vc_reg rfl (iQ 3 (iB .add 3 (.int .i64 x) (.int .i64 1) (some 34) ?_)))))
        intro z34 hz34
        try replace hz34 := hz34.i64 (by omega)
        refine iQ 4 (iE 98 [(1, .p 1 0), (2, Ia 0), (3, Ba false), (4, .p 4 0), (6, .p 6 0), (7, .d (Uv (((p % 10 : Nat) : Int)))), (19, Ba true), (30, Ba false)] [(1, [Bv s, Hw A, Lw A, Iv e]), (4, [Bv s, Hw (p / 10), Lw (p / 10), Iv z34]), (6, [Hw (p / 10), Lw (p / 10)])] ?_)
        refine block_n ?_
        refine loop_n (j + 1, p / 10, z34) (⟨by rw [Nat.pow_succ, Nat.mul_comm (10 ^ j), ← Nat.mul_assoc, show p / 10 * 10 = p by omega]; exact i1, by omega, .inr (by omega), by omega⟩) (by show (0 - z34).toNat < (0 - x).toNat; omega) (by kernel_rfl) (by kernel_rfl)
      · replace hc30 := bt hc30
        have hp10 : p % 10 ≠ 0 := by omega
        refine iT (vc_seqr rfl (iQ 2 (iE 98 [(1, .p 1 0), (2, Ia 0), (3, Ba false), (4, .p 4 0), (6, .p 6 0), (7, .d (Uv (((p % 10 : Nat) : Int)))), (19, Ba true), (30, Ba true)] [(1, [Bv s, Hw A, Lw A, Iv e]), (4, [Bv s, Hw p, Lw p, Iv x]), (6, [Hw (p / 10), Lw (p / 10)])] ?_)))
        refine vc_ret (seq_r (block_r (loop_r (block_r (seq_r (iS (Iv 0) (Bv false) [] ?_))))))
        exact ⟨_, _, rfl, fun h => (by cases h), fun _ => ⟨rfl, fun v hv => (not_ten i1 (by omega) hp10 hv).elim⟩⟩

end Go.Proofs.Ytfjcblmmfkgkoaa
