/-
  civil: a day comes back from its number; the order of days is that of their numbers; months later; which of two days is ahead.
-/
import Derived.Test.YtfjcblmmfkgkoaaCivA
namespace Go.Proofs.Ytfjcblmmfkgkoaa
open Go.RowKit
set_option linter.unusedVariables false
set_option linter.unusedSimpArgs false
set_option maxRecDepth 100000


theorem len_case {y m d : Int} (h : mayD y m d) : 1 ≤ d ∧ ((m = 2 ∧ (d ≤ 28 ∨ (d ≤ 29 ∧ leapP y))) ∨ ((m = 1 ∨ m = 3 ∨ m = 5 ∨ m = 7 ∨ m = 8 ∨ m = 10 ∨ m = 12) ∧ d ≤ 31) ∨ ((m = 4 ∨ m = 6 ∨ m = 9 ∨ m = 11) ∧ d ≤ 30)) := by
  obtain ⟨_, _, h1, h2⟩ := h
  refine ⟨h1, ?_⟩
  unfold lenI at h2
  split at h2
  · rename_i k
    exact .inr (.inl ⟨k, h2⟩)
  · split at h2
    · rename_i k
      exact .inr (.inr ⟨k, h2⟩)
    · split at h2
      · rename_i k
        split at h2
        · rename_i l
          exact .inl ⟨k, .inr ⟨h2, l⟩⟩
        · exact .inl ⟨k, .inl h2⟩
      · omega

/-- How many years a day's place in 400 years is worth, 365 times. -/
def fI (o : Int) : Int := o - o / 1460 + o / 36524 - o / 146096
def lpI (z : Int) : Int := if z % 4 = 0 ∧ (z % 100 ≠ 0 ∨ z % 400 = 0) then 1 else 0
theorem fI_step {o : Int} (h0 : 0 ≤ o) (h1 : o < 146096) : fI o ≤ fI (o + 1) := by
  unfold fI
  omega
theorem fI_mono {o : Int} (h0 : 0 ≤ o) : ∀ k : Nat, o + k ≤ 146096 → fI o ≤ fI (o + k)
  | 0, _ => by simp
  | k + 1, h => by
    have h1 := fI_mono h0 k (by omega)
    have h2 := fI_step (o := o + k) (by omega) (by omega)
    rw [show o + ((k + 1 : Nat) : Int) = o + k + 1 by omega]
    omega
theorem yr_tab : ∀ y : Nat, y < 400 → 365 * (y : Int) ≤ fI (365 * (y : Int) + (y : Int) / 4 - (y : Int) / 100) ∧ fI (365 * (y : Int) + (y : Int) / 4 - (y : Int) / 100 + 364 + lpI ((y : Int) + 1)) ≤ 365 * (y : Int) + 364 := by decide +kernel
theorem lp_rng (z : Int) : 0 ≤ lpI z ∧ lpI z ≤ 1 := by
  unfold lpI
  split <;> decide
theorem yr_of {y t : Int} (h0 : 0 ≤ y) (h1 : y < 400) (t0 : 0 ≤ t) (t1 : t ≤ 364 + lpI (y + 1)) : ofYr (365 * y + y / 4 - y / 100 + t) = y := by
  obtain ⟨n, rfl⟩ := Int.eq_ofNat_of_zero_le h0
  obtain ⟨a1, a2⟩ := yr_tab n (by omega)
  have hl := lp_rng ((n : Int) + 1)
  obtain ⟨k, hk⟩ := Int.eq_ofNat_of_zero_le t0
  obtain ⟨j, hj⟩ := Int.eq_ofNat_of_zero_le (show 0 ≤ 364 + lpI ((n : Int) + 1) - t by omega)
  have hlp : lpI ((n : Int) + 1) = 1 → (n : Int) ≤ 399 := fun _ => by omega
  have b1 := fI_mono (o := 365 * (n : Int) + (n : Int) / 4 - (n : Int) / 100) (by omega) k (by omega)
  have b2 := fI_mono (o := 365 * (n : Int) + (n : Int) / 4 - (n : Int) / 100 + t) (by omega) j (by omega)
  rw [← hk] at b1
  rw [← hj, show 365 * (n : Int) + (n : Int) / 4 - (n : Int) / 100 + t + (364 + lpI ((n : Int) + 1) - t) = 365 * (n : Int) + (n : Int) / 4 - (n : Int) / 100 + 364 + lpI ((n : Int) + 1) by omega] at b2
  have e : ofYr (365 * (n : Int) + (n : Int) / 4 - (n : Int) / 100 + t) = fI (365 * (n : Int) + (n : Int) / 4 - (n : Int) / 100 + t) / 365 := rfl
  rw [e]
  omega

/-- The year that begins in March, and the month in it. -/
structure MarIs (y m y1 m1 : Int) : Prop where
  h : (m ≤ 2 ∧ y1 = y - 1 ∧ m1 = m + 12) ∨ (2 < m ∧ y1 = y ∧ m1 = m)
theorem mar_ex (y m : Int) : ∃ y1 m1, MarIs y m y1 m1 := by
  by_cases h : m ≤ 2
  · exact ⟨_, _, ⟨.inl ⟨h, rfl, rfl⟩⟩⟩
  · exact ⟨_, _, ⟨.inr ⟨by omega, rfl, rfl⟩⟩⟩
theorem numI_J {y m d y1 m1 : Int} (h : MarIs y m y1 m1) : numI y m d = numJ y1 m1 d := by
  unfold numI
  rcases h.h with ⟨k1, k2, k3⟩ | ⟨k1, k2, k3⟩
  · rw [if_pos k1, k2, k3]
  · rw [if_neg (by omega), k2, k3]
/-- The day's place in its year from March on. -/
def tI (m1 d : Int) : Int := (153 * (m1 - 3) + 2) / 5 + d - 1
theorem t_rng {y m d y1 m1 : Int} (h : mayD y m d) (k : MarIs y m y1 m1) : 0 ≤ tI m1 d ∧ 3 ≤ m1 ∧ m1 ≤ 14 ∧ (tI m1 d ≤ 364 ∨ (tI m1 d = 365 ∧ leapP (y1 + 1))) ∧ (5 * tI m1 d + 2) / 153 = m1 - 3 ∧ tI m1 d < (153 * (m1 + 1 - 3) + 2) / 5 ∧ tI m1 d - (153 * (m1 - 3) + 2) / 5 + 1 = d := by
  obtain ⟨h1, h2⟩ := len_case h
  unfold tI
  rcases h2 with ⟨e, h3 | ⟨h3, h4⟩⟩ | ⟨e, h3⟩ | ⟨e, h3⟩
  · rcases k.h with ⟨k1, k2, k3⟩ | ⟨k1, k2, k3⟩
    · subst e k2 k3
      omega
    · omega
  · rcases k.h with ⟨k1, k2, k3⟩ | ⟨k1, k2, k3⟩
    · subst e k2 k3
      have h5 : leapP (y - 1 + 1) := by rw [show y - 1 + 1 = y by omega]; exact h4
      refine ⟨by omega, by omega, by omega, ?_, by omega, by omega, by omega⟩
      by_cases h6 : d = 29
      · exact .inr ⟨by omega, h5⟩
      · exact .inl (by omega)
    · omega
  · rcases k.h with ⟨k1, k2, k3⟩ | ⟨k1, k2, k3⟩ <;> subst k2 k3 <;> rcases e with e | e | e | e | e | e | e <;> subst e <;> omega
  · rcases k.h with ⟨k1, k2, k3⟩ | ⟨k1, k2, k3⟩ <;> subst k2 k3 <;> rcases e with e | e | e | e <;> subst e <;> omega
theorem lp_leap {y1 : Int} (h : leapP (y1 + 1)) : lpI (y1 - 400 * (y1 / 400) + 1) = 1 := by
  unfold leapP at h
  unfold lpI
  rw [if_pos]
  omega
/-- A day is that of its number. -/
theorem of_back {y m d : Int} (h : mayD y m d) : ofT (numI y m d) = (y, m, d, true) := by
  have hr := numI_rng h
  have hd := mayD_rng h
  obtain ⟨y1, m1, k⟩ := mar_ex y m
  obtain ⟨t0, m3, m14, t1, t2, t3, t4⟩ := t_rng h k
  have hJ := numI_J (d := d) k
  obtain ⟨yo, hyo⟩ : ∃ yo, yo = y1 - 400 * (y1 / 400) := ⟨_, rfl⟩
  have hy0 : 0 ≤ yo ∧ yo < 400 := by omega
  have hl := lp_rng (yo + 1)
  have tt : tI m1 d ≤ 364 + lpI (yo + 1) := by
    rcases t1 with t1 | ⟨t1, t5⟩
    · omega
    · rw [hyo, lp_leap t5]; omega
  have hn : numI y m d + 719468 = 146097 * (y1 / 400) + (365 * yo + yo / 4 - yo / 100 + tI m1 d) := by
    rw [hJ]
    unfold numJ tI
    rw [← hyo]
    omega
  obtain ⟨o, ho⟩ : ∃ o, o = 365 * yo + yo / 4 - yo / 100 + tI m1 d := ⟨_, rfl⟩
  rw [← ho] at hn
  have ho0 : 0 ≤ o ∧ o ≤ 146096 := by omega
  have eE : ofEra (numI y m d) = y1 / 400 := by unfold ofEra; omega
  have eO : ofOf (numI y m d) = o := by unfold ofOf; rw [eE]; omega
  have eY : ofYr o = yo := by rw [ho]; exact yr_of hy0.1 hy0.2 t0 tt
  have eD : ofDay o = tI m1 d := by unfold ofDay; rw [eY, ho]; omega
  have eM : ofMon o = m1 - 3 := by
    unfold ofMon
    rw [eD, Int.tdiv_eq_ediv_of_nonneg (by omega), t2]
  have eX : ofDom o = d := by
    unfold ofDom
    rw [eD, eM, Int.tdiv_eq_ediv_of_nonneg (by omega), t4]
  unfold ofT
  rw [if_neg (by omega), eE, eO, eY, eM, eX]
  rcases k.h with ⟨k1, k2, k3⟩ | ⟨k1, k2, k3⟩
  · rw [if_pos (by omega), show 400 * (y1 / 400) + yo + 1 = y by omega, show m1 - 3 + 3 - 12 = m by omega, if_pos h]
  · rw [if_neg (by omega), show 400 * (y1 / 400) + yo = y by omega, show m1 - 3 + 3 = m by omega, if_pos h]

theorem numJ_S (y m d : Int) : numJ y m d = 365 * y + y / 4 - y / 100 + y / 400 + tI m d - 719468 := by
  unfold numJ tI
  omega
theorem S_up {y y' : Int} (h : y < y') : 365 * y + y / 4 - y / 100 + y / 400 + 365 ≤ 365 * y' + y' / 4 - y' / 100 + y' / 400 ∧ (leapP (y + 1) → 365 * y + y / 4 - y / 100 + y / 400 + 366 ≤ 365 * y' + y' / 4 - y' / 100 + y' / 400) := by
  unfold leapP
  constructor
  · omega
  · intro h
    omega
/-- The order of days is that of their numbers. -/
theorem num_lt {y m d y' m' d' : Int} (h : mayD y m d) (h' : mayD y' m' d') (hlt : 12 * y + m < 12 * y' + m') : numI y m d < numI y' m' d' := by
  obtain ⟨y1, m1, k⟩ := mar_ex y m
  obtain ⟨y2, m2, k'⟩ := mar_ex y' m'
  obtain ⟨t0, m3, m14, t1, t2, t3, t4⟩ := t_rng h k
  obtain ⟨u0, n3, n14, u1, u2, u3, u4⟩ := t_rng h' k'
  have e1 : 12 * y + m = 12 * y1 + m1 := by have := k.h; omega
  have e2 : 12 * y' + m' = 12 * y2 + m2 := by have := k'.h; omega
  rw [numI_J k, numI_J k', numJ_S, numJ_S]
  by_cases hy : y1 < y2
  · obtain ⟨s1, s2⟩ := S_up hy
    rcases t1 with t1 | ⟨t1, t5⟩
    · omega
    · have := s2 t5
      omega
  · have hyy : y1 = y2 := by omega
    subst hyy
    have hm : m1 + 1 ≤ m2 := by omega
    unfold tI at *
    have h1 : 1 ≤ d' := h'.2.2.1
    omega
theorem num_day {y m d d' : Int} : numI y m d' - numI y m d = d' - d := by
  unfold numI numJ
  split <;> omega

def pick3 (k : Nat) (a b c : Int) : Int := if k = 0 then a else if k = 1 then b else c
def ltD (y m d y' m' d' : Int) : Prop := y < y' ∨ (y = y' ∧ (m < m' ∨ (m = m' ∧ d < d')))
theorem pick_cmp {k : Nat} {y m d y' m' d' : Int} (hk : k < 3) (hi : ∀ j, j < k → pick3 j y m d = pick3 j y' m' d') (h : pick3 k y m d < pick3 k y' m' d') : ltD y m d y' m' d' ∧ ¬ ltD y' m' d' y m d := by
  have h0 := hi 0
  have h1 := hi 1
  unfold pick3 at h h0 h1
  unfold ltD
  simp at h0 h1
  split at h
  · omega
  · split at h
    · have := h0 (by omega)
      omega
    · have := h0 (by omega)
      have := h1 (by omega)
      omega
theorem pick_idx {k : Nat} {y m d y' m' d' : Int} (hk : k < 3) : (([.v (.int .i64 y), .v (.int .i64 y'), .v (.int .i64 m), .v (.int .i64 m'), .v (.int .i64 d), .v (.int .i64 d')] : List DV).drop ((k : Int).toNat * 2)).take 2 = [.v (.int .i64 (pick3 k y m d)), .v (.int .i64 (pick3 k y' m' d'))] := by
  match k, hk with
  | 0, _ => rfl
  | 1, _ => rfl
  | 2, _ => rfl
theorem pick_more {k : Nat} {y m d y' m' d' : Int} (hi : ∀ j, j < k → pick3 j y m d = pick3 j y' m' d') (h : pick3 k y m d = pick3 k y' m' d') : ∀ j, j < k + 1 → pick3 j y m d = pick3 j y' m' d' := fun j hj => by
  rcases Nat.lt_or_ge j k with l | l
  · exact hi j l
  · rw [show j = k by omega]
    exact h
theorem pick_eq {y m d y' m' d' : Int} (hi : ∀ j, j < 3 → pick3 j y m d = pick3 j y' m' d') : ¬ ltD y m d y' m' d' ∧ ¬ ltD y' m' d' y m d := by
  have h0 : y = y' := hi 0 (by decide)
  have h1 : m = m' := hi 1 (by decide)
  have h2 : d = d' := hi 2 (by decide)
  unfold ltD
  omega

set_option maxHeartbeats 1600000 in
theorem c_dayCmp {y m d y' m' d' : Int} : HasC Try.prog 51 [.agg [.v (.int .i64 y), .v (.int .i64 m), .v (.int .i64 d)], .agg [.v (.int .i64 y'), .v (.int .i64 m'), .v (.int .i64 d')]] (fun r => ∃ c, r = .v (.int .i64 c) ∧ (c < 0 ↔ ltD y m d y' m' d') ∧ (0 < c ↔ ltD y' m' d' y m d)) := by
  refine HasC.of [] (fn := Try.f51) tyOk mixed (fun args w => Try.call51 args w) Try.func51 rfl (by kernel_rfl) (Nat.le_of_ble_eq_true rfl) (by
    by_cases h1 : ltD y m d y' m' d'
    · exact ⟨_, -1, rfl, ⟨fun _ => h1, fun _ => by decide⟩, ⟨fun h => absurd h (by decide), fun h => by unfold ltD at h h1; omega⟩⟩
    · by_cases h2 : ltD y' m' d' y m d
      · exact ⟨_, 1, rfl, ⟨fun h => absurd h (by decide), fun h => absurd h h1⟩, ⟨fun _ => h2, fun _ => by decide⟩⟩
      · exact ⟨_, 0, rfl, ⟨fun h => absurd h (by decide), fun h => absurd h h1⟩, ⟨fun h => absurd h (by decide), fun h => absurd h h2⟩⟩) ?_
  refine vc_seqr rfl (iQ 3 (iE 39 [(2, .p 2 0), (3, .p 3 0), (4, Ia 0)] [(2, [Iv y, Iv m, Iv d]), (3, [Iv y', Iv m', Iv d'])] ?_))
  refine vc_seq (vc_seqr rfl (iQ 18 (iE 39 [(4, Ia 0), (22, .w (.sl 3 [.v (.int .i64 y), .v (.int .i64 y'), .v (.int .i64 m), .v (.int .i64 m'), .v (.int .i64 d), .v (.int .i64 d')]) none), (23, Ia (((3 : Nat) : Int))), (24, Ia 0)] [] ?_)))
  refine vc_block (vc_loop 39 (fun (vcx : Nat) => match vcx with | k => [(4, Ia 0), (22, .w (.sl 3 [.v (.int .i64 y), .v (.int .i64 y'), .v (.int .i64 m), .v (.int .i64 m'), .v (.int .i64 d), .v (.int .i64 d')]) none), (23, Ia (((3 : Nat) : Int))), (24, Ia ((k : Int)))]) (fun (vcx : Nat) => match vcx with | k => []) (fun (vcx : Nat) => match vcx with | k => k ≤ 3 ∧ (∀ j, j < k → pick3 j y m d = pick3 j y' m' d')) (fun (vcx : Nat) => match vcx with | k => 3 - k) 0 (⟨by decide, fun j h => absurd h (Nat.not_lt_zero j)⟩) (by kernel_rfl) (by kernel_rfl) ?_)
  rintro k hinv
  simp only at hinv
  obtain ⟨hk3, hi⟩ := hinv
  refine vc_seqr rfl (iB .lss 3 (.int .i64 ((k : Int))) (.int .i64 (((3 : Nat) : Int))) (some 25) ?_)
  intro c25 hc25
  refine iE 39 [(4, Ia 0), (22, .w (.sl 3 [.v (.int .i64 y), .v (.int .i64 y'), .v (.int .i64 m), .v (.int .i64 m'), .v (.int .i64 d), .v (.int .i64 d')]) none), (23, Ia (((3 : Nat) : Int))), (24, Ia ((k : Int))), (25, Ba c25)] [] ?_
  refine vc_seq ?_
  cases c25
  · replace hc25 := bf hc25
    have hk : k = 3 := by omega
    obtain ⟨q1, q2⟩ := pick_eq (hk ▸ hi)
    refine iF (vc_exit (seq_x (loop_x (block_x rfl (seq_n (vc_seqr rfl (iQ 1 (iE 39 [(4, Ia 0), (22, .w (.sl 3 [.v (.int .i64 y), .v (.int .i64 y'), .v (.int .i64 m), .v (.int .i64 m'), .v (.int .i64 d), .v (.int .i64 d')]) none), (23, Ia (((3 : Nat) : Int))), (24, Ia ((k : Int))), (25, Ba false)] [] ?_))))))))
    refine vc_ret (iR (Iv 0) ?_)
    exact ⟨_, rfl, ⟨fun h => absurd h (by decide), fun h => absurd h q1⟩, ⟨fun h => absurd h (by decide), fun h => absurd h q2⟩⟩
  · replace hc25 := bt hc25
    have hk : k < 3 := by omega
    refine iT (vc_skip (seq_n (vc_seq (vc_block (vc_seqr rfl (vcI_idx (q := ((k : Int))) (n := 3) (cs := [.v (.int .i64 y), .v (.int .i64 y'), .v (.int .i64 m), .v (.int .i64 m'), .v (.int .i64 d), .v (.int .i64 d')]) (z := 2) (ds := [.v (.int .i64 (pick3 k y m d)), .v (.int .i64 (pick3 k y' m' d'))]) (dst := (some 26)) (by kernel_rfl) (by omega) (pick_idx hk) ?_))))))
    refine iQ 3 (iE 39 [(4, Ia 0), (6, .p 6 0), (22, .w (.sl 3 [.v (.int .i64 y), .v (.int .i64 y'), .v (.int .i64 m), .v (.int .i64 m'), .v (.int .i64 d), .v (.int .i64 d')]) none), (23, Ia (((3 : Nat) : Int))), (24, Ia ((k : Int))), (25, Ba true)] [(6, [Iv (pick3 k y m d), Iv (pick3 k y' m' d')])] ?_)
    refine vc_seq (vc_seqr rfl (iQ 4 (iB .lss 3 (.int .i64 (pick3 k y m d)) (.int .i64 (pick3 k y' m' d')) (some 32) ?_)))
    intro c32 hc32
    refine iE 39 [(4, Ia 0), (6, .p 6 0), (22, .w (.sl 3 [.v (.int .i64 y), .v (.int .i64 y'), .v (.int .i64 m), .v (.int .i64 m'), .v (.int .i64 d), .v (.int .i64 d')]) none), (23, Ia (((3 : Nat) : Int))), (24, Ia ((k : Int))), (25, Ba true), (32, Ba c32)] [(6, [Iv (pick3 k y m d), Iv (pick3 k y' m' d')])] ?_
    cases c32
    · replace hc32 := bf hc32
      refine iF (vc_skip (seq_n (vc_seqr rfl (iQ 4 (iB .gtr 3 (.int .i64 (pick3 k y m d)) (.int .i64 (pick3 k y' m' d')) (some 37) ?_)))))
      intro c37 hc37
      refine iE 39 [(4, Ia 0), (6, .p 6 0), (22, .w (.sl 3 [.v (.int .i64 y), .v (.int .i64 y'), .v (.int .i64 m), .v (.int .i64 m'), .v (.int .i64 d), .v (.int .i64 d')]) none), (23, Ia (((3 : Nat) : Int))), (24, Ia ((k : Int))), (25, Ba true), (32, Ba false), (37, Ba c37)] [(6, [Iv (pick3 k y m d), Iv (pick3 k y' m' d')])] ?_
      cases c37
      · replace hc37 := bf hc37
        refine iF (vc_skip (block_n (seq_n (vc_reg rfl (iB .add 3 (.int .i64 ((k : Int))) (.int .i64 1) (some 38) ?_)))))
        intro z38 hz38
        try replace hz38 := hz38.i64 (by omega)
        refine iQ 1 (iE 39 [(4, Ia 0), (6, .p 6 0), (22, .w (.sl 3 [.v (.int .i64 y), .v (.int .i64 y'), .v (.int .i64 m), .v (.int .i64 m'), .v (.int .i64 d), .v (.int .i64 d')]) none), (23, Ia (((3 : Nat) : Int))), (24, Ia z38), (25, Ba true), (32, Ba false), (37, Ba false)] [(6, [Iv (pick3 k y m d), Iv (pick3 k y' m' d')])] ?_)
        obtain rfl : z38 = ((k + 1 : Nat) : Int) := by omega
        refine loop_n (k + 1) (⟨by omega, pick_more hi (by omega)⟩) (by show 3 - (k + 1) < 3 - k; omega) (by kernel_rfl) (by kernel_rfl)
      · replace hc37 := bt hc37
        obtain ⟨q1, q2⟩ := pick_cmp hk (fun j h => (hi j h).symm) hc37
        refine iT (vc_seqr rfl (iQ 1 (iE 39 [(4, Ia 1), (6, .p 6 0), (22, .w (.sl 3 [.v (.int .i64 y), .v (.int .i64 y'), .v (.int .i64 m), .v (.int .i64 m'), .v (.int .i64 d), .v (.int .i64 d')]) none), (23, Ia (((3 : Nat) : Int))), (24, Ia ((k : Int))), (25, Ba true), (32, Ba false), (37, Ba true)] [(6, [Iv (pick3 k y m d), Iv (pick3 k y' m' d')])] ?_)))
        refine vc_ret (block_r (seq_r (loop_r (block_r (seq_r (iR (Iv 1) ?_))))))
        exact ⟨_, rfl, ⟨fun h => absurd h (by decide), fun h => absurd h q2⟩, ⟨fun _ => q1, fun _ => by decide⟩⟩
    · replace hc32 := bt hc32
      obtain ⟨q1, q2⟩ := pick_cmp hk hi hc32
      refine iT (vc_seqr rfl (iQ 1 (iE 39 [(4, Ia (-1)), (6, .p 6 0), (22, .w (.sl 3 [.v (.int .i64 y), .v (.int .i64 y'), .v (.int .i64 m), .v (.int .i64 m'), .v (.int .i64 d), .v (.int .i64 d')]) none), (23, Ia (((3 : Nat) : Int))), (24, Ia ((k : Int))), (25, Ba true), (32, Ba true)] [(6, [Iv (pick3 k y m d), Iv (pick3 k y' m' d')])] ?_)))
      refine vc_ret (seq_r (block_r (seq_r (loop_r (block_r (seq_r (iR (Iv (-1)) ?_)))))))
      exact ⟨_, rfl, ⟨fun _ => q1, fun _ => by decide⟩, ⟨fun h => absurd h (by decide), fun h => absurd h q2⟩⟩

/-- The day so many months later. -/
def monT (y m d n : Int) : Int × Int × Int := ((12 * y + m - 1 + n) / 12, 12 * y + m - 1 + n - 12 * ((12 * y + m - 1 + n) / 12) + 1, min d (lenI ((12 * y + m - 1 + n) / 12) (12 * y + m - 1 + n - 12 * ((12 * y + m - 1 + n) / 12) + 1)))
set_option maxHeartbeats 1600000 in
theorem c_civMonths {y m d n : Int} (hmay : mayD y m d) (h0 : -9007199254740992 ≤ n) (h1 : n ≤ 9007199254740992) : HasC Try.prog 52 [.agg [.v (.int .i64 y), .v (.int .i64 m), .v (.int .i64 d)], .v (.int .i64 n)] (fun r => ∃ y2 m2 d2 ok, r = .tup [.agg [.v (.int .i64 y2), .v (.int .i64 m2), .v (.int .i64 d2)], .v (.bool ok)] ∧ (ok = true ↔ mayD (monT y m d n).1 (monT y m d n).2.1 (monT y m d n).2.2) ∧ (ok = true → y2 = (monT y m d n).1 ∧ m2 = (monT y m d n).2.1 ∧ d2 = (monT y m d n).2.2) ∧ (ok = false → y2 = 0 ∧ m2 = 0 ∧ d2 = 0)) := by
  refine HasC.of [] (fn := Try.f52) tyOk mixed (fun args w => Try.call52 args w) Try.func52 rfl (by kernel_rfl) (Nat.le_of_ble_eq_true rfl) (by
    by_cases h : mayD (monT y m d n).1 (monT y m d n).2.1 (monT y m d n).2.2
    · exact ⟨_, _, _, _, true, rfl, ⟨fun _ => h, fun _ => rfl⟩, fun _ => ⟨rfl, rfl, rfl⟩, fun k => by cases k⟩
    · exact ⟨_, 0, 0, 0, false, rfl, ⟨(fun k => by cases k), fun k => absurd k h⟩, (fun k => by cases k), fun _ => ⟨rfl, rfl, rfl⟩⟩) ?_
  have hr := mayD_rng hmay
  refine vc_seqr rfl (iQ 3 (iE 53 [(1, Ia n), (2, .p 2 0), (4, .p 4 0), (5, Ba false)] [(2, [Iv y, Iv m, Iv d]), (4, [Iv 0, Iv 0, Iv 0])] ?_))
  refine vc_seq (vc_seqr rfl (iQ 1 (iC 88 [.agg [Iv y, Iv m, Iv d]] (some 9) (c_DateMay) ?_)))
  rintro _ ⟨b, rfl, hb⟩
  refine iU .not (.bool b) (some 10) ?_
  refine all_false ((by rw [hb.2 hmay]; simp)) ?_
  refine iQ 2 (iB .lss 3 (.int .i64 n) (.int .i64 (-9007199254740992)) (some 13) ?_)
  refine all_false ((by omega)) ?_
  refine iQ 3 (iB .gtr 3 (.int .i64 n) (.int .i64 9007199254740992) (some 17) ?_)
  refine all_false ((by omega)) ?_
  refine iQ 1 (iE 53 [(1, Ia n), (2, .p 2 0), (4, .p 4 0), (5, Ba false), (18, Ba false)] [(2, [Iv y, Iv m, Iv d]), (4, [Iv 0, Iv 0, Iv 0])] ?_)
  refine iF (vc_skip (seq_n (vc_seqr rfl (iQ 2 (iB .mul 3 (.int .i64 12) (.int .i64 y) (some 22) ?_)))))
  intro z22 hz22
  try replace hz22 := hz22.i64 (by omega)
  refine iQ 2 (iB .add 3 (.int .i64 z22) (.int .i64 m) (some 25) ?_)
  intro z25 hz25
  try replace hz25 := hz25.i64 (by omega)
  refine iB .sub 3 (.int .i64 z25) (.int .i64 1) (some 26) ?_
  intro z26 hz26
  try replace hz26 := hz26.i64 (by omega)
  refine iQ 1 (iB .add 3 (.int .i64 z26) (.int .i64 n) (some 28) ?_)
  intro z28 hz28
  try replace hz28 := hz28.i64 (by omega)
  refine iQ 1 (iE 53 [(1, Ia n), (2, .p 2 0), (4, .p 4 0), (5, Ba false), (6, Ia z28), (18, Ba false)] [(2, [Iv y, Iv m, Iv d]), (4, [Iv 0, Iv 0, Iv 0])] ?_)
  refine vc_seqr rfl (iQ 1 (iC 89 [Iv z28, Iv 12] (some 30) (c_floor (by decide) (by omega) (by omega)) ?_))
  rintro _ rfl
  refine iQ 3 (iE 53 [(1, Ia n), (2, .p 2 0), (4, .p 4 0), (5, Ba false), (6, Ia z28), (7, .p 7 0), (18, Ba false)] [(2, [Iv y, Iv m, Iv d]), (4, [Iv 0, Iv 0, Iv 0]), (7, [Iv (z28 / 12), Iv 0, Iv 0])] ?_)
  refine vc_seqr rfl (iQ 3 (iB .mul 3 (.int .i64 12) (.int .i64 (z28 / 12)) (some 35) ?_))
  intro z35 hz35
  try replace hz35 := hz35.i64 (by omega)
  refine iB .sub 3 (.int .i64 z28) (.int .i64 z35) (some 36) ?_
  intro z36 hz36
  try replace hz36 := hz36.i64 (by omega)
  refine iB .add 3 (.int .i64 z36) (.int .i64 1) (some 37) ?_
  intro z37 hz37
  try replace hz37 := hz37.i64 (by omega)
  refine iQ 2 (iE 53 [(1, Ia n), (2, .p 2 0), (4, .p 4 0), (5, Ba false), (6, Ia z28), (7, .p 7 0), (18, Ba false)] [(2, [Iv y, Iv m, Iv d]), (4, [Iv 0, Iv 0, Iv 0]), (7, [Iv (z28 / 12), Iv z37, Iv 0])] ?_)
  refine vc_seqr rfl (iQ 6 (iC 92 [Iv (z28 / 12), Iv z37] (some 45) (c_Length) ?_))
  rintro _ rfl
  refine iL .min [3, 3] [.int .i64 d, .int .i64 (lenI (z28 / 12) z37)] (some 46) ?_
  intro z46 hz46
  simp only at hz46
  have e1 : (monT y m d n) = (z28 / 12, z37, z46) := by unfold monT; rw [show 12 * y + m - 1 + n = z28 by omega, show z28 - 12 * (z28 / 12) + 1 = z37 by omega, hz46]
  refine iQ 2 (iE 53 [(1, Ia n), (2, .p 2 0), (4, .p 4 0), (5, Ba false), (6, Ia z28), (7, .p 7 0), (18, Ba false)] [(2, [Iv y, Iv m, Iv d]), (4, [Iv 0, Iv 0, Iv 0]), (7, [Iv (z28 / 12), Iv z37, Iv z46])] ?_)
  refine vc_seq (vc_seqr rfl (iQ 1 (iC 88 [.agg [Iv (z28 / 12), Iv z37, Iv z46]] (some 49) (c_DateMay) ?_)))
  rintro _ ⟨b2, rfl, hb2⟩
  refine iU .not (.bool b2) (some 50) ?_
  intro c50 hc50
  refine iE 53 [(1, Ia n), (2, .p 2 0), (4, .p 4 0), (5, Ba false), (6, Ia z28), (7, .p 7 0), (18, Ba false), (50, Ba c50)] [(2, [Iv y, Iv m, Iv d]), (4, [Iv 0, Iv 0, Iv 0]), (7, [Iv (z28 / 12), Iv z37, Iv z46])] ?_
  cases c50
  · replace hc50 := bf hc50
    have h2 : mayD (z28 / 12) z37 z46 := hb2.1 (by simpa using hc50)
    refine iF (vc_skip (seq_n (vc_seqr rfl (iQ 3 (iE 53 [(1, Ia n), (2, .p 2 0), (4, .p 4 0), (5, Ba true), (6, Ia z28), (7, .p 7 0), (18, Ba false), (50, Ba false)] [(2, [Iv y, Iv m, Iv d]), (4, [Iv (z28 / 12), Iv z37, Iv z46]), (7, [Iv (z28 / 12), Iv z37, Iv z46])] ?_)))))
    refine vc_ret (iS (.agg [Iv (z28 / 12), Iv z37, Iv z46]) (Bv true) [] ?_)
    exact ⟨_, _, _, _, rfl, by rw [e1]; exact ⟨fun _ => h2, fun _ => rfl⟩, fun _ => by rw [e1]; exact ⟨rfl, rfl, rfl⟩, fun k => by cases k⟩
  · replace hc50 := bt hc50
    have h2 : ¬ mayD (z28 / 12) z37 z46 := fun k => by rw [hb2.2 k] at hc50; cases hc50
    refine iT (vc_seqr rfl (iQ 3 (iE 53 [(1, Ia n), (2, .p 2 0), (4, .p 4 0), (5, Ba false), (6, Ia z28), (7, .p 7 0), (18, Ba false), (50, Ba true)] [(2, [Iv y, Iv m, Iv d]), (4, [Iv 0, Iv 0, Iv 0]), (7, [Iv (z28 / 12), Iv z37, Iv z46])] ?_)))
    refine vc_ret (seq_r (iS (.agg [Iv 0, Iv 0, Iv 0]) (Bv false) [] ?_))
    exact ⟨_, _, _, _, rfl, by rw [e1]; exact ⟨(fun k => by cases k), fun k => absurd k h2⟩, (fun k => by cases k), fun _ => ⟨rfl, rfl, rfl⟩⟩

end Go.Proofs.Ytfjcblmmfkgkoaa
