/-
  The laws of round that ask no reference: each says yes.
-/
import Derived.Test.YtfjcblmmfkgkoaaLawK
namespace Go.Proofs.Ytfjcblmmfkgkoaa
open Go.RowKit
set_option linter.unusedVariables false
set_option linter.unusedSimpArgs false
set_option maxRecDepth 100000

theorem dec_eq {g g' : Bool} {k k' : Nat} {z z' : Int} (h1 : g = g') (h2 : k = k') (h3 : z = z') : (#[Value.bool g, .int .u64 (hiW k), .int .u64 (loW k), .int .i64 z] : Array Value) = #[Value.bool g', .int .u64 (hiW k'), .int .u64 (loW k'), .int .i64 z'] := by
  subst h1 h2 h3
  rfl
theorem dec_and {g g' : Bool} {k k' : Nat} {z z' : Int} (h1 : g = g') (h2 : k = k') (h3 : z = z') : g = g' ∧ hiW k = hiW k' ∧ loW k = loW k' ∧ z = z' := by
  subst h1 h2 h3
  exact ⟨rfl, rfl, rfl, rfl⟩
theorem scale_rng {m : Int} {s : Bool} {A : Nat} {e p : Int} {g : Bool} {k : Nat} {x : Int} {ok : Bool} (hA : A < E34) (h : scaleT m s A e p = (g, k, x, ok)) : k < E34 ∧ -6176 ≤ x ∧ x ≤ 6111 := by
  unfold scaleT at h
  split at h
  · obtain ⟨h1, h2, h3, h4⟩ := T4.inj4 h
    subst h2 h3
    exact ⟨by decide, by decide, by decide⟩
  · split at h
    · obtain ⟨h1, h2, h3, h4⟩ := T4.inj4 h
      subst h2 h3
      exact ⟨cut_lt hA, by omega, by omega⟩
    · split at h
      · obtain ⟨h1, h2, h3, h4⟩ := T4.inj4 h
        subst h2 h3
        exact ⟨by assumption, by omega, by omega⟩
      · obtain ⟨h1, h2, h3, h4⟩ := T4.inj4 h
        subst h2 h3
        exact ⟨by decide, by decide, by decide⟩
theorem turn_turn {s : Bool} {A : Nat} (hs : A = 0 → s = false) : (!(!s && decide (A ≠ 0)) && decide (A ≠ 0)) = s := by
  by_cases h : A = 0
  · rw [h, hs h]
    rfl
  · cases s <;> simp [h]
/-- A ceiling is 0 less the floor of 0 less it. -/
theorem ceil_turn {s : Bool} {A : Nat} {e : Int} (hs : A = 0 → s = false) : ∃ g k x, wholeT 6 (!s && decide (A ≠ 0)) A e = (g, k, x) ∧ wholeT 7 s A e = (!g && decide (k ≠ 0), k, x) := by
  by_cases h : 0 ≤ e
  · exact ⟨_, _, _, whole_own h, by rw [whole_own h, turn_turn hs]⟩
  · have e0 : cutQ 7 s A false (-e).toNat = cutQ 6 (!s && decide (A ≠ 0)) A false (-e).toNat := by
      by_cases hA : A = 0
      · subst hA
        rw [cutQ_00, cutQ_00]
      · rw [cut_turn]
        congr 1
        simp [hA]
    refine ⟨_, _, _, whole_low (by omega) rfl, ?_⟩
    rw [whole_low (by omega) e0]
    generalize cutQ 6 (!s && decide (A ≠ 0)) A false (-e).toNat = Q at e0 ⊢
    have hQ : A = 0 → Q = 0 := fun h => by rw [h, cutQ_00] at e0; exact e0.symm
    by_cases h0 : Q = 0
    · simp [h0]
    · have hA : A ≠ 0 := fun h => h0 (hQ h)
      cases s <;> simp [h0, hA]
theorem near_lo {s : Bool} {A : Nat} {e : Int} {g : Bool} {k : Nat} {x : Int} (h : wholeT 6 s A e = (g, k, x)) : cmpZ g k x s A e ≤ 0 := by
  by_cases h0 : 0 ≤ e
  · rw [whole_own h0] at h
    simp only [Prod.mk.injEq] at h
    obtain ⟨rfl, rfl, rfl⟩ := h
    exact cmpI_le.2 (Int.le_refl _)
  · rw [whole_low (by omega) rfl] at h
    simp only [Prod.mk.injEq] at h
    obtain ⟨rfl, rfl, rfl⟩ := h
    exact floor_cmp (by omega)
theorem near_hi {s : Bool} {A : Nat} {e : Int} {g : Bool} {k : Nat} {x : Int} {g' : Bool} {k' : Nat} {x' : Int} (hA : A < E34) (h : wholeT 6 s A e = (g, k, x)) (he : e < 0) (h1 : addT g k x false 1 0 = (g', k', x', true)) : cmpZ s A e g' k' x' < 0 := by
  obtain ⟨n, hn⟩ : ∃ n, n = (-e).toNat := ⟨_, rfl⟩
  have hk : cutQ 6 s A false n + 1 < E34 := by
    have h1 := cutQ_le1 (m := 6) (neg := s) (more := false) (N := A) (k := n)
    have h2 : A / 10 ^ n ≤ A / 10 := Nat.div_le_div_left (by
      obtain ⟨i, rfl⟩ : ∃ i, n = i + 1 := ⟨n - 1, by omega⟩
      rw [Nat.pow_succ]
      have : 0 < 10 ^ i := Nat.pow_pos (by decide)
      omega) (by decide)
    unfold E34 at *
    omega
  obtain ⟨f1, f2⟩ := cut_floor s A n
  rw [whole_low he (by rw [← hn])] at h
  simp only [Prod.mk.injEq] at h
  obtain ⟨h3, h4, h5⟩ := h
  rw [h4] at h3 hk f1 f2
  subst h5
  obtain ⟨g2, k2, a1, a2, a3, a4⟩ := add_int (s := g) (t := false) (A := k) (B := 1) hk
  rw [a1] at h1
  obtain ⟨b1, b2, b3, _⟩ := T4.inj4 h1
  subst b1 b2 b3
  rw [cmpZ_any (E := e) (Int.le_refl _) (by omega), cmpI_lt, V_own]
  unfold V
  rw [show (0 - e).toNat = n by omega, sgnV_mul, a2, ← h3, sgnV_sgn]
  rw [sgnV_mul] at f2
  have e1 : sgnV false 1 = 1 := rfl
  rw [e1, Int.add_mul, Int.one_mul]
  exact f2

set_option maxHeartbeats 3200000 in
theorem c_RoundNear {g : Bool} {n : Nat} {e : Int} (hn : n < B128) : HasC Try.prog 8 [.agg [.v (.bool g), .v (.int .u64 (hiW (n))), .v (.int .u64 (loW (n))), .v (.int .i64 e)]] (fun y => y = .v (.bool true)) := by
  refine HasC.of [] (fn := Try.f8) tyOk mixed (fun args w => Try.call8 args w) Try.func8 rfl (by kernel_rfl) (Nat.le_of_ble_eq_true rfl) (⟨_, rfl⟩) ?_
  refine vc_seqr rfl ?_
  refine vcI_q 2 (by kernel_rfl) ?_
  refine vcI_end 59 [(1, .p 1 0), (2, Ba false)] [(1, [Bv g, Hw n, Lw n, Iv e])] (by kernel_rfl) (by kernel_rfl) (by kernel_rfl) ?_
  refine vc_seq ?_
  refine vc_seqr rfl ?_
  refine vcI_call (f := 14) (ds := []) (dst := (some 8)) (by kernel_rfl) (c_awake04) ?_
  rintro _ rfl
  refine vcI_un (op := .not) (a := .bool true) (dst := (some 9)) (by kernel_rfl) ?_
  refine all_false ((by simp)) ?_
  refine vcI_end 59 [(1, .p 1 0), (2, Ba false), (9, Ba false)] [(1, [Bv g, Hw n, Lw n, Iv e])] (by kernel_rfl) (by kernel_rfl) (by kernel_rfl) ?_
  refine vc_condf (by kernel_rfl) ?_
  refine vc_skip ?_
  refine seq_n ?_
  refine vc_seqr rfl ?_
  refine vcI_q 1 (by kernel_rfl) ?_
  refine vcI_call (f := 15) (ds := [.agg [.v (.bool g), .v (.int .u64 (hiW (n))), .v (.int .u64 (loW (n))), .v (.int .i64 e)]]) (dst := (some 11)) (by kernel_rfl) (c_Make hn) ?_
  rintro _ ⟨s, a, x, rfl, ha, hx, hy, hs⟩
  have haB := Nat.lt_trans ha e34_lt
  obtain ⟨gn, kn, xn, cn1, cn2⟩ := ceil_turn (e := x) hs
  obtain ⟨t, ht⟩ : ∃ t, wholeT 6 s a x = t := ⟨_, rfl⟩
  obtain ⟨w1, w2, w3, w4⟩ := whole_range (m := 6) ha hs hy
  rw [ht] at w1 w2 w3 w4
  obtain ⟨gf, kf, xf⟩ := t
  simp only at w1 w2 w3 w4
  refine vcI_q 2 (by kernel_rfl) ?_
  refine vcI_end 59 [(2, Ba false), (3, .p 3 0), (9, Ba false)] [(3, [Bv s, Hw a, Lw a, Iv x])] (by kernel_rfl) (by kernel_rfl) (by kernel_rfl) ?_
  refine vc_seqr rfl ?_
  refine vcI_q 1 (by kernel_rfl) ?_
  refine vcI_call (f := 30) (ds := [.agg [.v (.bool s), .v (.int .u64 (hiW (a))), .v (.int .u64 (loW (a))), .v (.int .i64 x)]]) (dst := (some 13)) (by kernel_rfl) (fit3_as (c_Floor ha hs hx hy) ht) ?_
  rintro _ rfl
  refine vcI_q 1 (by kernel_rfl) ?_
  refine vcI_call (f := 32) (ds := [.agg [.v (.bool s), .v (.int .u64 (hiW (a))), .v (.int .u64 (loW (a))), .v (.int .i64 x)]]) (dst := (some 15)) (by kernel_rfl) (fit3_as (c_Ceiling ha hs hx hy) cn2) ?_
  rintro _ rfl
  refine vcI_q 4 (by kernel_rfl) ?_
  refine vcI_end 59 [(2, Ba false), (3, .p 3 0), (4, .p 4 0), (5, .p 5 0), (9, Ba false)] [(3, [Bv s, Hw a, Lw a, Iv x]), (4, [Bv gf, Hw kf, Lw kf, Iv xf]), (5, [Bv ((!gn && decide (kn ≠ 0))), Hw kn, Lw kn, Iv xn])] (by kernel_rfl) (by kernel_rfl) (by kernel_rfl) ?_
  refine vc_seqr rfl ?_
  refine vcI_q 1 (by kernel_rfl) ?_
  refine vcI_call (f := 26) (ds := [.v (.int .i64 1)]) (dst := (some 18)) (by kernel_rfl) (c_Int1) ?_
  rintro _ rfl
  obtain ⟨g1, k1, x1, h1⟩ := one_ok (g := gf) w1 w2 w3
  obtain ⟨r1, r2, r3, r4⟩ := fitU_range h1
  refine vcI_call (f := 33) (ds := [.agg [.v (.bool gf), .v (.int .u64 (hiW (kf))), .v (.int .u64 (loW (kf))), .v (.int .i64 xf)], .agg [.v (.bool false), .v (.int .u64 (hiW (1))), .v (.int .u64 (loW (1))), .v (.int .i64 0)]]) (dst := (some 19)) (by kernel_rfl) (fit_as (c_decAdd w1 (by decide) (by omega) (by omega) (by decide) (by decide)) h1) ?_
  rintro _ rfl
  refine vcI_q 6 (by kernel_rfl) ?_
  refine vcI_end 59 [(2, Ba false), (3, .p 3 0), (4, .p 4 0), (5, .p 5 0), (6, .p 6 0), (7, Ba true), (9, Ba false)] [(3, [Bv s, Hw a, Lw a, Iv x]), (4, [Bv gf, Hw kf, Lw kf, Iv xf]), (5, [Bv ((!gn && decide (kn ≠ 0))), Hw kn, Lw kn, Iv xn]), (6, [Bv g1, Hw k1, Lw k1, Iv x1])] (by kernel_rfl) (by kernel_rfl) (by kernel_rfl) ?_
  refine vc_seqr rfl ?_
  refine vcI_q 4 (by kernel_rfl) ?_
  refine vcI_call (f := 25) (ds := [.agg [.v (.bool gf), .v (.int .u64 (hiW (kf))), .v (.int .u64 (loW (kf))), .v (.int .i64 xf)], .agg [.v (.bool s), .v (.int .u64 (hiW (a))), .v (.int .u64 (loW (a))), .v (.int .i64 x)]]) (dst := (some 26)) (by kernel_rfl) (c_decCmp w1 ha (by omega) (by omega) (by omega) (by omega)) ?_
  rintro _ rfl
  refine vcI_bin (op := .leq) (t := 3) (a := .int .i64 (cmpZ gf kf xf s a x)) (b := .int .i64 0) (dst := (some 27)) (by kernel_rfl) ?_
  refine all_true ((near_lo ht)) ?_
  refine vcI_q 4 (by kernel_rfl) ?_
  refine vcI_call (f := 25) (ds := [.agg [.v (.bool s), .v (.int .u64 (hiW (a))), .v (.int .u64 (loW (a))), .v (.int .i64 x)], .agg [.v (.bool g1), .v (.int .u64 (hiW (k1))), .v (.int .u64 (loW (k1))), .v (.int .i64 x1)]]) (dst := (some 32)) (by kernel_rfl) (c_decCmp ha r1 (by omega) (by omega) (by omega) (by omega)) ?_
  rintro _ rfl
  have hsN : a = 0 → (!s && decide (a ≠ 0)) = false := fun h => by rw [h]; simp
  obtain ⟨v1, v2, v3, v4⟩ := whole_range (m := 6) ha hsN hy
  rw [cn1] at v1 v2 v3 v4
  simp only at v1 v2 v3 v4
  refine vcI_bin (op := .lss) (t := 3) (a := .int .i64 (cmpZ s a x g1 k1 x1)) (b := .int .i64 0) (dst := (some 33)) (by kernel_rfl) ?_
  intro c33 hc33
  refine vcI_q 1 (by kernel_rfl) ?_
  cases c33
  · replace hc33 := bf hc33
    refine vcI_q 2 (by kernel_rfl) ?_
    refine vcI_bin (op := .geq) (t := 3) (a := .int .i64 x) (b := .int .i64 0) (dst := (some 37)) (by kernel_rfl) ?_
    refine all_true ((Decidable.byContradiction fun h => hc33 (near_hi ha ht (by omega) h1))) ?_
    refine vcI_q 5 (by kernel_rfl) ?_
    refine vcI_call (f := 34) (ds := [.agg [.v (.bool s), .v (.int .u64 (hiW (a))), .v (.int .u64 (loW (a))), .v (.int .i64 x)]]) (dst := (some 43)) (by kernel_rfl) (c_Neg haB) ?_
    rintro _ rfl
    refine vcI_call (f := 30) (ds := [.agg [.v (.bool ((!s && decide (a ≠ 0)))), .v (.int .u64 (hiW (a))), .v (.int .u64 (loW (a))), .v (.int .i64 x)]]) (dst := (some 44)) (by kernel_rfl) (fit3_as (c_Floor ha hsN hx hy) cn1) ?_
    rintro _ rfl
    refine vcI_call (f := 34) (ds := [.agg [.v (.bool gn), .v (.int .u64 (hiW (kn))), .v (.int .u64 (loW (kn))), .v (.int .i64 xn)]]) (dst := (some 45)) (by kernel_rfl) (c_Neg (Nat.lt_trans v1 e34_lt)) ?_
    rintro _ rfl
    refine vcI_bin (op := .eql) (t := 28) (a := .agg #[.bool ((!gn && decide (kn ≠ 0))), .int .u64 (hiW (kn)), .int .u64 (loW (kn)), .int .i64 xn]) (b := .agg #[.bool ((!gn && decide (kn ≠ 0))), .int .u64 (hiW (kn)), .int .u64 (loW (kn)), .int .i64 xn]) (dst := (some 46)) (by kernel_rfl) ?_
    refine all_true (rfl) ?_
    refine vcI_q 4 (by kernel_rfl) ?_
    refine vcI_bin (op := .geq) (t := 3) (a := .int .i64 xf) (b := .int .i64 0) (dst := (some 51)) (by kernel_rfl) ?_
    refine all_true (w2) ?_
    refine vcI_q 3 (by kernel_rfl) ?_
    refine vcI_call (f := 30) (ds := [.agg [.v (.bool gf), .v (.int .u64 (hiW (kf))), .v (.int .u64 (loW (kf))), .v (.int .i64 xf)]]) (dst := (some 55)) (by kernel_rfl) (fit3_as (c_Floor w1 w4 (by omega) w3) (whole_own w2)) ?_
    rintro _ rfl
    refine vcI_q 1 (by kernel_rfl) ?_
    refine vcI_bin (op := .eql) (t := 28) (a := .agg #[.bool gf, .int .u64 (hiW (kf)), .int .u64 (loW (kf)), .int .i64 xf]) (b := .agg #[.bool gf, .int .u64 (hiW (kf)), .int .u64 (loW (kf)), .int .i64 xf]) (dst := (some 57)) (by kernel_rfl) ?_
    intro c57 hc57
    try simp only [Array.mk.injEq, List.cons.injEq, Value.int.injEq, Value.bool.injEq, Value.string.injEq, true_and, and_true] at hc57
    refine vcI_q 2 (by kernel_rfl) ?_
    refine vcI_end 59 [(2, Ba c57), (3, .p 3 0), (4, .p 4 0), (5, .p 5 0), (6, .p 6 0), (9, Ba false)] [(3, [Bv s, Hw a, Lw a, Iv x]), (4, [Bv gf, Hw kf, Lw kf, Iv xf]), (5, [Bv ((!gn && decide (kn ≠ 0))), Hw kn, Lw kn, Iv xn]), (6, [Bv g1, Hw k1, Lw k1, Iv x1])] (by kernel_rfl) (by kernel_rfl) (by kernel_rfl) ?_
    refine vc_ret ?_
    refine ret_1 (d := .v (.bool c57)) (by kernel_rfl) ?_
    rw [hc57.2 trivial]
  · replace hc33 := bt hc33
    refine vcI_q 8 (by kernel_rfl) ?_
    refine vcI_call (f := 34) (ds := [.agg [.v (.bool s), .v (.int .u64 (hiW (a))), .v (.int .u64 (loW (a))), .v (.int .i64 x)]]) (dst := (some 43)) (by kernel_rfl) (c_Neg haB) ?_
    rintro _ rfl
    refine vcI_call (f := 30) (ds := [.agg [.v (.bool ((!s && decide (a ≠ 0)))), .v (.int .u64 (hiW (a))), .v (.int .u64 (loW (a))), .v (.int .i64 x)]]) (dst := (some 44)) (by kernel_rfl) (fit3_as (c_Floor ha hsN hx hy) cn1) ?_
    rintro _ rfl
    refine vcI_call (f := 34) (ds := [.agg [.v (.bool gn), .v (.int .u64 (hiW (kn))), .v (.int .u64 (loW (kn))), .v (.int .i64 xn)]]) (dst := (some 45)) (by kernel_rfl) (c_Neg (Nat.lt_trans v1 e34_lt)) ?_
    rintro _ rfl
    refine vcI_bin (op := .eql) (t := 28) (a := .agg #[.bool ((!gn && decide (kn ≠ 0))), .int .u64 (hiW (kn)), .int .u64 (loW (kn)), .int .i64 xn]) (b := .agg #[.bool ((!gn && decide (kn ≠ 0))), .int .u64 (hiW (kn)), .int .u64 (loW (kn)), .int .i64 xn]) (dst := (some 46)) (by kernel_rfl) ?_
    refine all_true (rfl) ?_
    refine vcI_q 4 (by kernel_rfl) ?_
    refine vcI_bin (op := .geq) (t := 3) (a := .int .i64 xf) (b := .int .i64 0) (dst := (some 51)) (by kernel_rfl) ?_
    refine all_true (w2) ?_
    refine vcI_q 3 (by kernel_rfl) ?_
    refine vcI_call (f := 30) (ds := [.agg [.v (.bool gf), .v (.int .u64 (hiW (kf))), .v (.int .u64 (loW (kf))), .v (.int .i64 xf)]]) (dst := (some 55)) (by kernel_rfl) (fit3_as (c_Floor w1 w4 (by omega) w3) (whole_own w2)) ?_
    rintro _ rfl
    refine vcI_q 1 (by kernel_rfl) ?_
    refine vcI_bin (op := .eql) (t := 28) (a := .agg #[.bool gf, .int .u64 (hiW (kf)), .int .u64 (loW (kf)), .int .i64 xf]) (b := .agg #[.bool gf, .int .u64 (hiW (kf)), .int .u64 (loW (kf)), .int .i64 xf]) (dst := (some 57)) (by kernel_rfl) ?_
    intro c57 hc57
    try simp only [Array.mk.injEq, List.cons.injEq, Value.int.injEq, Value.bool.injEq, Value.string.injEq, true_and, and_true] at hc57
    refine vcI_q 2 (by kernel_rfl) ?_
    refine vcI_end 59 [(2, Ba c57), (3, .p 3 0), (4, .p 4 0), (5, .p 5 0), (6, .p 6 0), (9, Ba false)] [(3, [Bv s, Hw a, Lw a, Iv x]), (4, [Bv gf, Hw kf, Lw kf, Iv xf]), (5, [Bv ((!gn && decide (kn ≠ 0))), Hw kn, Lw kn, Iv xn]), (6, [Bv g1, Hw k1, Lw k1, Iv x1])] (by kernel_rfl) (by kernel_rfl) (by kernel_rfl) ?_
    refine vc_ret ?_
    refine ret_1 (d := .v (.bool c57)) (by kernel_rfl) ?_
    rw [hc57.2 trivial]

set_option maxHeartbeats 3200000 in
theorem c_RoundModes {g : Bool} {n m : Nat} {e p : Int} (hn : n < B128) (hp0 : -9223372036854775808 ≤ p) (hp1 : p ≤ 9223372036854775807) (hm : m < 256) : HasC Try.prog 5 [.agg [.v (.bool g), .v (.int .u64 (hiW (n))), .v (.int .u64 (loW (n))), .v (.int .i64 e)], .v (.int .i64 p), .v (.int .u8 ((m : Int)))] (fun y => y = .v (.bool true)) := by
  refine HasC.of [] (fn := Try.f5) tyOk mixed (fun args w => Try.call5 args w) Try.func5 rfl (by kernel_rfl) (Nat.le_of_ble_eq_true rfl) (⟨_, rfl⟩) ?_
  refine vc_seqr rfl ?_
  refine vcI_q 2 (by kernel_rfl) ?_
  refine vcI_end 90 [(1, Ia p), (2, .d (.v (.int .u8 ((m : Int))))), (3, .p 3 0), (6, Ba false)] [(3, [Bv g, Hw n, Lw n, Iv e])] (by kernel_rfl) (by kernel_rfl) (by kernel_rfl) ?_
  refine vc_seq ?_
  refine vc_seqr rfl ?_
  refine vcI_call (f := 14) (ds := []) (dst := (some 16)) (by kernel_rfl) (c_awake04) ?_
  rintro _ rfl
  refine vcI_un (op := .not) (a := .bool true) (dst := (some 17)) (by kernel_rfl) ?_
  refine all_false ((by simp)) ?_
  refine vcI_end 90 [(1, Ia p), (2, .d (.v (.int .u8 ((m : Int))))), (3, .p 3 0), (6, Ba false), (17, Ba false)] [(3, [Bv g, Hw n, Lw n, Iv e])] (by kernel_rfl) (by kernel_rfl) (by kernel_rfl) ?_
  refine vc_condf (by kernel_rfl) ?_
  refine vc_skip ?_
  refine seq_n ?_
  refine vc_seqr rfl ?_
  refine vcI_q 1 (by kernel_rfl) ?_
  refine vcI_call (f := 15) (ds := [.agg [.v (.bool g), .v (.int .u64 (hiW (n))), .v (.int .u64 (loW (n))), .v (.int .i64 e)]]) (dst := (some 19)) (by kernel_rfl) (c_Make hn) ?_
  rintro _ ⟨s, a, x, rfl, ha, hx, hy, hs⟩
  refine vcI_q 2 (by kernel_rfl) ?_
  refine vcI_end 90 [(1, Ia p), (2, .d (.v (.int .u8 ((m : Int))))), (6, Ba false), (7, .p 7 0), (17, Ba false)] [(7, [Bv s, Hw a, Lw a, Iv x])] (by kernel_rfl) (by kernel_rfl) (by kernel_rfl) ?_
  refine vc_seqr rfl ?_
  refine vcI_q 2 (by kernel_rfl) ?_
  refine vcI_call (f := 16) (ds := [.agg [.v (.bool s), .v (.int .u64 (hiW (a))), .v (.int .u64 (loW (a))), .v (.int .i64 x)], .v (.int .i64 p), .v (.int .i64 6)]) (dst := (some 23)) (by kernel_rfl) (dfit_ex (c_Scale (m := 6) ha hs hx hy hp0 hp1)) ?_
  rintro _ ⟨g1, k1, x1, ok1, rfl, h1⟩
  refine vcI_q 6 (by kernel_rfl) ?_
  refine vcI_end 90 [(1, Ia p), (2, .d (.v (.int .u8 ((m : Int))))), (6, Ba false), (7, .p 7 0), (8, .p 8 0), (9, Ba ok1), (17, Ba false)] [(7, [Bv s, Hw a, Lw a, Iv x]), (8, [Bv g1, Hw k1, Lw k1, Iv x1])] (by kernel_rfl) (by kernel_rfl) (by kernel_rfl) ?_
  refine vc_seqr rfl ?_
  refine vcI_q 2 (by kernel_rfl) ?_
  refine vcI_call (f := 16) (ds := [.agg [.v (.bool s), .v (.int .u64 (hiW (a))), .v (.int .u64 (loW (a))), .v (.int .i64 x)], .v (.int .i64 p), .v (.int .i64 7)]) (dst := (some 29)) (by kernel_rfl) (dfit_ex (c_Scale (m := 7) ha hs hx hy hp0 hp1)) ?_
  rintro _ ⟨g2, k2, x2, ok2, rfl, h2⟩
  refine vcI_q 6 (by kernel_rfl) ?_
  refine vcI_end 90 [(1, Ia p), (2, .d (.v (.int .u8 ((m : Int))))), (6, Ba false), (7, .p 7 0), (8, .p 8 0), (9, Ba ok1), (10, .p 10 0), (11, Ba ok2), (17, Ba false)] [(7, [Bv s, Hw a, Lw a, Iv x]), (8, [Bv g1, Hw k1, Lw k1, Iv x1]), (10, [Bv g2, Hw k2, Lw k2, Iv x2])] (by kernel_rfl) (by kernel_rfl) (by kernel_rfl) ?_
  refine vc_seqr rfl ?_
  refine vcI_q 3 (by kernel_rfl) ?_
  refine vcI_bin (op := .rem) (t := 5) (a := .int .u8 ((m : Int))) (b := .int .u8 7) (dst := (some 36)) (by kernel_rfl) ?_
  refine And.intro (by omega) ?_
  intro z36 hz36
  have h36 := tm_pos hz36 (by omega)
  refine vcI_bin (op := .add) (t := 5) (a := .int .u8 1) (b := .int .u8 z36) (dst := (some 37)) (by kernel_rfl) ?_
  intro z37 hz37
  first | (replace hz37 := hz37.u8 (by omega)) | skip
  refine vcI_conv (t := 5) (t' := 32) (a := .int .u8 z37) (dst := (some 38)) (by kernel_rfl) ?_
  intro z38 hz38
  first | (replace hz38 := hz38.i64 (by omega)) | skip
  refine vcI_call (f := 16) (ds := [.agg [.v (.bool s), .v (.int .u64 (hiW (a))), .v (.int .u64 (loW (a))), .v (.int .i64 x)], .v (.int .i64 p), .v (.int .i64 z38)]) (dst := (some 39)) (by kernel_rfl) (dfit_ex (c_Scale (m := z38) ha hs hx hy hp0 hp1)) ?_
  rintro _ ⟨g3, k3, x3, ok3, rfl, h3⟩
  refine vcI_q 6 (by kernel_rfl) ?_
  refine vcI_end 90 [(1, Ia p), (2, .d (.v (.int .u8 ((m : Int))))), (6, Ba false), (7, .p 7 0), (8, .p 8 0), (9, Ba ok1), (10, .p 10 0), (11, Ba ok2), (12, .p 12 0), (13, Ba ok3), (17, Ba false)] [(7, [Bv s, Hw a, Lw a, Iv x]), (8, [Bv g1, Hw k1, Lw k1, Iv x1]), (10, [Bv g2, Hw k2, Lw k2, Iv x2]), (12, [Bv g3, Hw k3, Lw k3, Iv x3])] (by kernel_rfl) (by kernel_rfl) (by kernel_rfl) ?_
  refine vc_seq ?_
  refine vc_seqr rfl ?_
  refine vcI_q 1 (by kernel_rfl) ?_
  refine vcI_un (op := .not) (a := .bool ok1) (dst := (some 43)) (by kernel_rfl) ?_
  intro c43 hc43
  refine vcI_q 1 (by kernel_rfl) ?_
  cases c43
  · replace hc43 := bf hc43
    refine vcI_q 1 (by kernel_rfl) ?_
    refine vcI_un (op := .not) (a := .bool ok2) (dst := (some 46)) (by kernel_rfl) ?_
    intro c46 hc46
    refine vcI_q 1 (by kernel_rfl) ?_
    refine vcI_end 90 [(1, Ia p), (2, .d (.v (.int .u8 ((m : Int))))), (6, Ba false), (7, .p 7 0), (8, .p 8 0), (10, .p 10 0), (12, .p 12 0), (13, Ba ok3), (17, Ba false), (47, Ba c46)] [(7, [Bv s, Hw a, Lw a, Iv x]), (8, [Bv g1, Hw k1, Lw k1, Iv x1]), (10, [Bv g2, Hw k2, Lw k2, Iv x2]), (12, [Bv g3, Hw k3, Lw k3, Iv x3])] (by kernel_rfl) (by kernel_rfl) (by kernel_rfl) ?_
    cases c46
    · replace hc46 := bf hc46
      have hok1 : ok1 = true := by simpa using hc43
      have hok2 : ok2 = true := by simpa using hc46
      rw [hok1] at h1
      rw [hok2] at h2
      obtain ⟨m', hm'⟩ : ∃ m' : Int, m' = 1 + (m : Int) / 7 % 7 := ⟨_, rfl⟩
      obtain ⟨g, k, x', e1, e2, e3, e4, e5, e6, e7, e8, e9, e10⟩ := scale_modes (m := z38) (m' := m') ha hs (by omega) (by omega) (by omega) (by omega) h1 h2
      obtain ⟨q1, q2, q3, q4⟩ := T4.inj4 (h3.symm.trans e1)
      have hok3 := tru q4
      refine vc_condf (by kernel_rfl) ?_
      refine vc_skip ?_
      refine seq_n ?_
      refine vc_seqr rfl ?_
      refine vcI_q 3 (by kernel_rfl) ?_
      refine vcI_bin (op := .quo) (t := 5) (a := .int .u8 ((m : Int))) (b := .int .u8 7) (dst := (some 52)) (by kernel_rfl) ?_
      refine And.intro (by omega) ?_
      intro z52 hz52
      have h52 : z52 = (m : Int) / 7 := by have e7 := Int.tdiv_eq_ediv_of_nonneg (b := 7) (show 0 ≤ (m : Int) by omega); have h8 := IntIs.u8 hz52 (by rw [e7]; omega); rw [h8, e7]
      refine vcI_bin (op := .rem) (t := 5) (a := .int .u8 z52) (b := .int .u8 7) (dst := (some 53)) (by kernel_rfl) ?_
      refine And.intro (by omega) ?_
      intro z53 hz53
      have h53 := tm_pos hz53 (by omega)
      refine vcI_bin (op := .add) (t := 5) (a := .int .u8 1) (b := .int .u8 z53) (dst := (some 54)) (by kernel_rfl) ?_
      intro z54 hz54
      first | (replace hz54 := hz54.u8 (by omega)) | skip
      refine vcI_conv (t := 5) (t' := 32) (a := .int .u8 z54) (dst := (some 55)) (by kernel_rfl) ?_
      intro z55 hz55
      first | (replace hz55 := hz55.i64 (by omega)) | skip
      refine vcI_call (f := 16) (ds := [.agg [.v (.bool g3), .v (.int .u64 (hiW (k3))), .v (.int .u64 (loW (k3))), .v (.int .i64 x3)], .v (.int .i64 p), .v (.int .i64 z55)]) (dst := (some 56)) (by kernel_rfl) (fit_as (g := g) (k := k) (x := x') (ok := true) (c_Scale (m := z55) (s := g3) (A := k3) (e := x3) (by rw [q2]; exact e6) (by rw [q1, q2]; exact e7) (by omega) (by omega) hp0 hp1) (by rw [q1, q2, q3, show z55 = m' by omega]; exact e5)) ?_
      rintro _ rfl
      refine vcI_q 6 (by kernel_rfl) ?_
      refine vcI_end 90 [(1, Ia p), (2, .d (.v (.int .u8 ((m : Int))))), (6, Ba false), (7, .p 7 0), (8, .p 8 0), (10, .p 10 0), (12, .p 12 0), (13, Ba ok3), (14, .p 14 0), (15, Ba true), (17, Ba false), (47, Ba false)] [(7, [Bv s, Hw a, Lw a, Iv x]), (8, [Bv g1, Hw k1, Lw k1, Iv x1]), (10, [Bv g2, Hw k2, Lw k2, Iv x2]), (12, [Bv g3, Hw k3, Lw k3, Iv x3]), (14, [Bv g, Hw k, Lw k, Iv x'])] (by kernel_rfl) (by kernel_rfl) (by kernel_rfl) ?_
      refine vc_seqr rfl ?_
      refine vcI_q 2 (by kernel_rfl) ?_
      obtain rfl : ok3 = true := hok3.2 (trivial)
      refine vcI_q 2 (by kernel_rfl) ?_
      obtain ⟨a1, a2, a3⟩ := scale_rng ha h1
      obtain ⟨b1, b2, b3⟩ := scale_rng ha h2
      refine vcI_call (f := 25) (ds := [.agg [.v (.bool g1), .v (.int .u64 (hiW (k1))), .v (.int .u64 (loW (k1))), .v (.int .i64 x1)], .agg [.v (.bool s), .v (.int .u64 (hiW (a))), .v (.int .u64 (loW (a))), .v (.int .i64 x)]]) (dst := (some 63)) (by kernel_rfl) (c_decCmp a1 ha (by omega) (by omega) (by omega) (by omega)) ?_
      rintro _ rfl
      refine vcI_bin (op := .leq) (t := 3) (a := .int .i64 (cmpZ g1 k1 x1 s a x)) (b := .int .i64 0) (dst := (some 64)) (by kernel_rfl) ?_
      refine all_true (e2) ?_
      refine vcI_q 4 (by kernel_rfl) ?_
      refine vcI_call (f := 25) (ds := [.agg [.v (.bool s), .v (.int .u64 (hiW (a))), .v (.int .u64 (loW (a))), .v (.int .i64 x)], .agg [.v (.bool g2), .v (.int .u64 (hiW (k2))), .v (.int .u64 (loW (k2))), .v (.int .i64 x2)]]) (dst := (some 69)) (by kernel_rfl) (c_decCmp ha b1 (by omega) (by omega) (by omega) (by omega)) ?_
      rintro _ rfl
      refine vcI_bin (op := .leq) (t := 3) (a := .int .i64 (cmpZ s a x g2 k2 x2)) (b := .int .i64 0) (dst := (some 70)) (by kernel_rfl) ?_
      refine all_true (e3) ?_
      refine vcI_q 4 (by kernel_rfl) ?_
      refine vcI_bin (op := .eql) (t := 28) (a := .agg #[.bool g3, .int .u64 (hiW (k3)), .int .u64 (loW (k3)), .int .i64 x3]) (b := .agg #[.bool g1, .int .u64 (hiW (k1)), .int .u64 (loW (k1)), .int .i64 x1]) (dst := (some 75)) (by kernel_rfl) ?_
      intro c75 hc75
      try simp only [Array.mk.injEq, List.cons.injEq, Value.int.injEq, Value.bool.injEq, Value.string.injEq, true_and, and_true] at hc75
      refine vcI_q 1 (by kernel_rfl) ?_
      cases c75
      · replace hc75 := bf hc75
        refine vcI_q 2 (by kernel_rfl) ?_
        refine vcI_bin (op := .eql) (t := 28) (a := .agg #[.bool g3, .int .u64 (hiW (k3)), .int .u64 (loW (k3)), .int .i64 x3]) (b := .agg #[.bool g2, .int .u64 (hiW (k2)), .int .u64 (loW (k2)), .int .i64 x2]) (dst := (some 79)) (by kernel_rfl) ?_
        refine all_true ((by rcases e4 with h | h; exact absurd (dec_and (q1.trans h.1) (q2.trans h.2.1) (q3.trans h.2.2)) hc75; exact dec_eq (q1.trans h.1) (q2.trans h.2.1) (q3.trans h.2.2))) ?_
        refine vcI_q 8 (by kernel_rfl) ?_
        refine vcI_bin (op := .eql) (t := 28) (a := .agg #[.bool g, .int .u64 (hiW (k)), .int .u64 (loW (k)), .int .i64 x']) (b := .agg #[.bool g3, .int .u64 (hiW (k3)), .int .u64 (loW (k3)), .int .i64 x3]) (dst := (some 88)) (by kernel_rfl) ?_
        intro c88 hc88
        try simp only [Array.mk.injEq, List.cons.injEq, Value.int.injEq, Value.bool.injEq, Value.string.injEq, true_and, and_true] at hc88
        refine vcI_q 2 (by kernel_rfl) ?_
        refine vcI_end 90 [(1, Ia p), (2, .d (.v (.int .u8 ((m : Int))))), (6, Ba c88), (7, .p 7 0), (8, .p 8 0), (10, .p 10 0), (12, .p 12 0), (14, .p 14 0), (17, Ba false), (47, Ba false)] [(7, [Bv s, Hw a, Lw a, Iv x]), (8, [Bv g1, Hw k1, Lw k1, Iv x1]), (10, [Bv g2, Hw k2, Lw k2, Iv x2]), (12, [Bv g3, Hw k3, Lw k3, Iv x3]), (14, [Bv g, Hw k, Lw k, Iv x'])] (by kernel_rfl) (by kernel_rfl) (by kernel_rfl) ?_
        refine vc_ret ?_
        refine ret_1 (d := .v (.bool c88)) (by kernel_rfl) ?_
        rw [hc88.2 (dec_and q1.symm q2.symm q3.symm)]
      · replace hc75 := bt hc75
        refine vcI_q 11 (by kernel_rfl) ?_
        refine vcI_bin (op := .eql) (t := 28) (a := .agg #[.bool g, .int .u64 (hiW (k)), .int .u64 (loW (k)), .int .i64 x']) (b := .agg #[.bool g3, .int .u64 (hiW (k3)), .int .u64 (loW (k3)), .int .i64 x3]) (dst := (some 88)) (by kernel_rfl) ?_
        intro c88 hc88
        try simp only [Array.mk.injEq, List.cons.injEq, Value.int.injEq, Value.bool.injEq, Value.string.injEq, true_and, and_true] at hc88
        refine vcI_q 2 (by kernel_rfl) ?_
        refine vcI_end 90 [(1, Ia p), (2, .d (.v (.int .u8 ((m : Int))))), (6, Ba c88), (7, .p 7 0), (8, .p 8 0), (10, .p 10 0), (12, .p 12 0), (14, .p 14 0), (17, Ba false), (47, Ba false)] [(7, [Bv s, Hw a, Lw a, Iv x]), (8, [Bv g1, Hw k1, Lw k1, Iv x1]), (10, [Bv g2, Hw k2, Lw k2, Iv x2]), (12, [Bv g3, Hw k3, Lw k3, Iv x3]), (14, [Bv g, Hw k, Lw k, Iv x'])] (by kernel_rfl) (by kernel_rfl) (by kernel_rfl) ?_
        refine vc_ret ?_
        refine ret_1 (d := .v (.bool c88)) (by kernel_rfl) ?_
        rw [hc88.2 (dec_and q1.symm q2.symm q3.symm)]
    · replace hc46 := bt hc46
      refine vc_condt (by kernel_rfl) ?_
      refine vc_seqr rfl ?_
      refine vcI_q 1 (by kernel_rfl) ?_
      refine vcI_end 90 [(1, Ia p), (2, .d (.v (.int .u8 ((m : Int))))), (6, Ba true), (7, .p 7 0), (8, .p 8 0), (10, .p 10 0), (12, .p 12 0), (13, Ba ok3), (17, Ba false), (47, Ba true)] [(7, [Bv s, Hw a, Lw a, Iv x]), (8, [Bv g1, Hw k1, Lw k1, Iv x1]), (10, [Bv g2, Hw k2, Lw k2, Iv x2]), (12, [Bv g3, Hw k3, Lw k3, Iv x3])] (by kernel_rfl) (by kernel_rfl) (by kernel_rfl) ?_
      refine vc_ret ?_
      refine seq_r ?_
      refine ret_1 (d := .v (.bool true)) (by kernel_rfl) ?_
      rfl
  · replace hc43 := bt hc43
    refine vcI_q 3 (by kernel_rfl) ?_
    refine vcI_end 90 [(1, Ia p), (2, .d (.v (.int .u8 ((m : Int))))), (6, Ba false), (7, .p 7 0), (8, .p 8 0), (10, .p 10 0), (12, .p 12 0), (13, Ba ok3), (17, Ba false), (47, Ba true)] [(7, [Bv s, Hw a, Lw a, Iv x]), (8, [Bv g1, Hw k1, Lw k1, Iv x1]), (10, [Bv g2, Hw k2, Lw k2, Iv x2]), (12, [Bv g3, Hw k3, Lw k3, Iv x3])] (by kernel_rfl) (by kernel_rfl) (by kernel_rfl) ?_
    refine vc_condt (by kernel_rfl) ?_
    refine vc_seqr rfl ?_
    refine vcI_q 1 (by kernel_rfl) ?_
    refine vcI_end 90 [(1, Ia p), (2, .d (.v (.int .u8 ((m : Int))))), (6, Ba true), (7, .p 7 0), (8, .p 8 0), (10, .p 10 0), (12, .p 12 0), (13, Ba ok3), (17, Ba false), (47, Ba true)] [(7, [Bv s, Hw a, Lw a, Iv x]), (8, [Bv g1, Hw k1, Lw k1, Iv x1]), (10, [Bv g2, Hw k2, Lw k2, Iv x2]), (12, [Bv g3, Hw k3, Lw k3, Iv x3])] (by kernel_rfl) (by kernel_rfl) (by kernel_rfl) ?_
    refine vc_ret ?_
    refine seq_r ?_
    refine ret_1 (d := .v (.bool true)) (by kernel_rfl) ?_
    rfl

end Go.Proofs.Ytfjcblmmfkgkoaa
