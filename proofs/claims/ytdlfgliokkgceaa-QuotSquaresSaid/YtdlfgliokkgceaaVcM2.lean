/-
  The reference's quotients and roots.
-/
import Derived.Test.YtdlfgliokkgceaaVcM
namespace Go.Proofs.Ytdlfgliokkgceaa
open Go.RowKit
set_option linter.unusedVariables false
set_option linter.unusedSimpArgs false
set_option maxRecDepth 100000

theorem nd_small {d : Nat} (h : d < 10) : nd d ≤ 1 := nd_le _ _ (by simpa using h)
theorem nd_up {m n : Nat} {k : Nat} (h : m ≤ n * 10 ^ k) : nd m ≤ nd n + k + 1 :=
  Nat.le_trans (nd_mono h) (Nat.le_trans (nd_mul _ _) (by
    have : nd (10 ^ k) ≤ k + 1 := nd_le _ _ (Nat.pow_lt_pow_right (by decide) (by omega))
    omega))
theorem div_keep {a b q r d k : Nat} (h : q * b + r = a / 10 ^ k) (hr : r < b) (hd : d = dig a (k - 1)) (hk : 1 ≤ k) {n s : Nat} (h2 : n * b + s = r * 10 + d) (hs : s < b) : (q * 10 + n) * b + s = a / 10 ^ (k - 1) ∧ n < 10 := by
  have hd10 := dig_lt a (k - 1)
  have e := mul_digit a hk
  refine ⟨by rw [e, ← h, ← hd, Nat.add_mul, Nat.add_mul, Nat.mul_right_comm]; omega, ?_⟩
  rcases Nat.lt_or_ge n 10 with h3 | h3
  · exact h3
  · have := Nat.mul_le_mul_right b h3
    omega

theorem c_ShiftI {a n : Nat} {X : Int} (hX : X = (n : Int)) (ha : nd a ≤ 900000) (hn : n ≤ 90000) : HasC Try.prog 36 [.sl (nd a) (dg (digs a)), .v (.int .i64 X)] (fun y => y = .sl (nd (a * 10 ^ n)) (dg (digs (a * 10 ^ n)))) := by
  subst hX
  exact c_Shift ha hn

theorem c_Div {a b : Nat} (ha : nd a ≤ 40000) (hb0 : 0 < b) (hb : nd b ≤ 40000) : HasC Try.prog 35 [.sl (nd (a)) (dg (digs (a))), .sl (nd (b)) (dg (digs (b)))] (fun y => y = .tup [.sl (nd (a / b)) (dg (digs (a / b))), .sl (nd (a % b)) (dg (digs (a % b)))]) := by
  refine HasC.of [] (fn := Try.f35) tyOk mixed (fun args w => Try.call35 args w) Try.func35 rfl (by kernel_rfl) (Nat.le_of_ble_eq_true rfl) (⟨_, rfl⟩) ?_
  refine vc_seqr rfl ?_
  refine vcI_q 2 (by kernel_rfl) ?_
  refine vcI_end 43 [(0, .d (.sl (nd (a)) (dg (digs (a))))), (1, .d (.sl (nd (b)) (dg (digs (b))))), (4, .w (.sl 0 []) none), (5, .w (.sl 0 []) none)] [] (by kernel_rfl) (by kernel_rfl) (by kernel_rfl) ?_
  refine vc_seqr rfl ?_
  refine vcI_q 2 (by kernel_rfl) ?_
  refine vcI_end 43 [(0, .d (.sl (nd (a)) (dg (digs (a))))), (1, .d (.sl (nd (b)) (dg (digs (b))))), (4, .w (.sl 0 []) none), (5, .w (.sl 0 []) none), (6, .w (.sl 0 []) none), (7, .w (.sl 0 []) none)] [] (by kernel_rfl) (by kernel_rfl) (by kernel_rfl) ?_
  refine vc_seq ?_
  refine vc_seqr rfl ?_
  refine vcI_q 2 (by kernel_rfl) ?_
  refine vcI_bin (op := .sub) (t := 3) (a := .int .i64 (((nd (a) : Nat) : Int))) (b := .int .i64 1) (dst := (some 12)) (by kernel_rfl) ?_
  intro z12 hz12
  first | (replace hz12 := hz12.i64 (by omega)) | skip
  refine vcI_q 1 (by kernel_rfl) ?_
  refine vcI_end 43 [(0, .d (.sl (nd (a)) (dg (digs (a))))), (1, .d (.sl (nd (b)) (dg (digs (b))))), (4, .w (.sl 0 []) none), (5, .w (.sl 0 []) none), (6, .w (.sl 0 []) none), (7, .w (.sl 0 []) none), (8, .d (.v (.int .i64 z12)))] [] (by kernel_rfl) (by kernel_rfl) (by kernel_rfl) ?_
  refine vc_cast (s' := mkS 43 [(0, .d (.sl (nd (a)) (dg (digs (a))))), (1, .d (.sl (nd (b)) (dg (digs (b))))), (4, .w (.sl 0 []) none), (5, .w (.sl 0 []) none), (6, .w (.sl (nd (0)) (dg (digs (0)))) none), (7, .w (.sl 0 []) none), (8, .d (.v (.int .i64 z12)))] []) (by rw [show (.sl (nd (0)) (dg (digs (0))) : DV) = .sl 0 [] from dn_zero]) ?_
  refine vc_cast (s' := mkS 43 [(0, .d (.sl (nd (a)) (dg (digs (a))))), (1, .d (.sl (nd (b)) (dg (digs (b))))), (4, .w (.sl 0 []) none), (5, .w (.sl 0 []) none), (6, .w (.sl (nd (0)) (dg (digs (0)))) none), (7, .w (.sl (nd (0)) (dg (digs (0)))) none), (8, .d (.v (.int .i64 z12)))] []) (by rw [show (.sl (nd (0)) (dg (digs (0))) : DV) = .sl 0 [] from dn_zero]) ?_
  refine vc_block ?_
  refine vc_loop 43 (fun (vcx : Nat × Nat × Nat × Int) => match vcx with | (k, q, r, c) => [(0, .d (.sl (nd (a)) (dg (digs (a))))), (1, .d (.sl (nd (b)) (dg (digs (b))))), (4, .w (.sl 0 []) none), (5, .w (.sl 0 []) none), (6, .d (.sl (nd (q)) (dg (digs (q))))), (7, .d (.sl (nd (r)) (dg (digs (r))))), (8, .d (.v (.int .i64 c)))]) (fun (vcx : Nat × Nat × Nat × Int) => match vcx with | (k, q, r, c) => []) (fun (vcx : Nat × Nat × Nat × Int) => match vcx with | (k, q, r, c) => c = (k : Int) - 1 ∧ k ≤ nd a ∧ q * b + r = a / 10 ^ k ∧ r < b) (fun (vcx : Nat × Nat × Nat × Int) => match vcx with | (k, q, r, c) => k) ((nd a, 0, 0, z12)) (⟨by omega, Nat.le_refl _, by rw [div_nd (Nat.le_refl _)]; simp, hb0⟩) (by kernel_rfl) (by kernel_rfl) ?_
  rintro ⟨k, q, r, c⟩ hinv
  simp only at hinv
  obtain ⟨hc, hk, hqr, hrb⟩ := hinv
  refine vc_seq ?_
  refine vc_seqr rfl ?_
  refine vcI_q 1 (by kernel_rfl) ?_
  refine vcI_bin (op := .geq) (t := 3) (a := .int .i64 c) (b := .int .i64 0) (dst := (some 14)) (by kernel_rfl) ?_
  intro c14 hc14
  refine vcI_end 43 [(0, .d (.sl (nd (a)) (dg (digs (a))))), (1, .d (.sl (nd (b)) (dg (digs (b))))), (4, .w (.sl 0 []) none), (5, .w (.sl 0 []) none), (6, .d (.sl (nd (q)) (dg (digs (q))))), (7, .d (.sl (nd (r)) (dg (digs (r))))), (8, .d (.v (.int .i64 c))), (14, .d (.v (.bool c14)))] [] (by kernel_rfl) (by kernel_rfl) (by kernel_rfl) ?_
  cases c14
  · replace hc14 := bf hc14
    have hk0 : k = 0 := by omega
    rw [hk0, Nat.pow_zero, Nat.div_one] at hqr
    obtain ⟨e1, e2⟩ : a / b = q ∧ a % b = r := by rw [← hqr]; exact ⟨by rw [Nat.mul_comm, Nat.mul_add_div hb0, Nat.div_eq_of_lt hrb, Nat.add_zero], by rw [Nat.mul_comm, Nat.mul_add_mod, Nat.mod_eq_of_lt hrb]⟩
    refine vc_condf (by kernel_rfl) ?_
    refine vc_exit ?_
    refine seq_x ?_
    refine loop_x ?_
    refine block_x rfl ?_
    refine seq_n ?_
    refine vc_seqr rfl ?_
    refine vcI_q 4 (by kernel_rfl) ?_
    refine vcI_end 43 [(0, .d (.sl (nd (a)) (dg (digs (a))))), (1, .d (.sl (nd (b)) (dg (digs (b))))), (4, .d (.sl (nd (q)) (dg (digs (q))))), (5, .d (.sl (nd (r)) (dg (digs (r))))), (6, .d (.sl (nd (q)) (dg (digs (q))))), (7, .d (.sl (nd (r)) (dg (digs (r))))), (8, .d (.v (.int .i64 c))), (14, .d (.v (.bool false)))] [] (by kernel_rfl) (by kernel_rfl) (by kernel_rfl) ?_
    refine vc_ret ?_
    refine ret_2 (d := .sl (nd (q)) (dg (digs (q)))) (e := .sl (nd (r)) (dg (digs (r)))) (ds := []) (by kernel_rfl) ?_
    rw [e1, e2]
  · replace hc14 := bt hc14
    have hd10 := dig_lt a (k - 1)
    have hnr : nd r ≤ 40000 := Nat.le_trans (nd_mono (Nat.le_of_lt hrb)) hb
    have hnq : nd q ≤ 40000 := Nat.le_trans (nd_mono (show q ≤ a by have := Nat.div_le_self a (10 ^ k); have := Nat.le_mul_of_pos_right q hb0; omega)) ha
    refine vc_condt (by kernel_rfl) ?_
    refine vc_skip ?_
    refine seq_n ?_
    refine vc_seq ?_
    refine vc_block ?_
    refine vc_seqr rfl ?_
    refine vcI_q 1 (by kernel_rfl) ?_
    refine vcI_call (f := 36) (ds := [.sl (nd (r)) (dg (digs (r))), .v (.int .i64 1)]) (dst := (some 18)) (by kernel_rfl) (c_Shift (a := r) (n := 1) (by omega) (by omega)) ?_
    rintro _ rfl
    refine vcI_q 2 (by kernel_rfl) ?_
    refine vcI_idx1 (q := c) (n := (nd (a))) (cs := (dg (digs (a)))) (d := .v (.int .i64 (((dig a (k - 1) : Nat) : Int)))) (dst := (some 21)) (by kernel_rfl) (by omega) (by rw [show c.toNat = k - 1 by omega]; exact dg_get (digs_get? (by omega))) ?_
    refine vcI_q 2 (by kernel_rfl) ?_
    refine vcI_call (f := 56) (ds := [.sl 1 [.v (.int .i64 (((dig a (k - 1) : Nat) : Int)))]]) (dst := (some 24)) (by kernel_rfl) (c_TrimD (ds := [dig a (k - 1)]) (by simpa using hd10) (by simp)) ?_
    rintro _ rfl
    refine vcI_call (f := 55) (ds := [.sl (nd (r * 10 ^ 1)) (dg (digs (r * 10 ^ 1))), .sl (nd (dval [dig a (k - 1)])) (dg (digs (dval [dig a (k - 1)])))]) (dst := (some 25)) (by kernel_rfl) (c_Add (a := r * 10 ^ 1) (b := dval [dig a (k - 1)]) (by have := nd_up (Nat.le_refl (r * 10 ^ 1)); omega) (by rw [dval_one]; have := nd_small hd10; omega)) ?_
    rintro _ rfl
    refine vcI_q 1 (by kernel_rfl) ?_
    refine vcI_end 43 [(0, .d (.sl (nd (a)) (dg (digs (a))))), (1, .d (.sl (nd (b)) (dg (digs (b))))), (4, .w (.sl 0 []) none), (5, .w (.sl 0 []) none), (6, .d (.sl (nd (q)) (dg (digs (q))))), (7, .d (.sl (nd (r * 10 ^ 1 + dval [dig a (k - 1)])) (dg (digs (r * 10 ^ 1 + dval [dig a (k - 1)]))))), (8, .d (.v (.int .i64 c))), (14, .d (.v (.bool true)))] [] (by kernel_rfl) (by kernel_rfl) (by kernel_rfl) ?_
    refine vc_seqr rfl ?_
    refine vcI_q 1 (by kernel_rfl) ?_
    refine vcI_end 43 [(0, .d (.sl (nd (a)) (dg (digs (a))))), (1, .d (.sl (nd (b)) (dg (digs (b))))), (4, .w (.sl 0 []) none), (5, .w (.sl 0 []) none), (6, .d (.sl (nd (q)) (dg (digs (q))))), (7, .d (.sl (nd (r * 10 ^ 1 + dval [dig a (k - 1)])) (dg (digs (r * 10 ^ 1 + dval [dig a (k - 1)]))))), (8, .d (.v (.int .i64 c))), (9, .d (.v (.int .i64 0))), (14, .d (.v (.bool true)))] [] (by kernel_rfl) (by kernel_rfl) (by kernel_rfl) ?_
    refine vc_seq ?_
    refine vc_block ?_
    refine vc_loop 43 (fun (vcx : Nat × Nat) => match vcx with | (n, s) => [(0, .d (.sl (nd (a)) (dg (digs (a))))), (1, .d (.sl (nd (b)) (dg (digs (b))))), (4, .w (.sl 0 []) none), (5, .w (.sl 0 []) none), (6, .d (.sl (nd (q)) (dg (digs (q))))), (7, .d (.sl (nd (s)) (dg (digs (s))))), (8, .d (.v (.int .i64 c))), (9, .d (.v (.int .i64 ((n : Int))))), (14, .d (.v (.bool true)))]) (fun (vcx : Nat × Nat) => match vcx with | (n, s) => []) (fun (vcx : Nat × Nat) => match vcx with | (n, s) => n * b + s = r * 10 + dig a (k - 1)) (fun (vcx : Nat × Nat) => match vcx with | (n, s) => s) ((0, r * 10 ^ 1 + dval [dig a (k - 1)])) (by rw [dval_one]; omega) (by kernel_rfl) (by kernel_rfl) ?_
    rintro ⟨n, s⟩ hinv
    simp only at hinv
    have hns := hinv
    have h9 : s ≤ b * 10 ^ 2 := by have := Nat.zero_le (n * b); omega
    have hsb := nd_up h9
    have hn10 : n < 10 := Nat.lt_of_mul_lt_mul_right (a := b) (by omega)
    refine vc_seq ?_
    refine vc_seqr rfl ?_
    refine vcI_q 2 (by kernel_rfl) ?_
    refine vcI_call (f := 39) (ds := [.sl (nd (s)) (dg (digs (s))), .sl (nd (b)) (dg (digs (b)))]) (dst := (some 28)) (by kernel_rfl) (c_Cmp (a := s) (b := b) (by omega) (by omega)) ?_
    rintro _ rfl
    refine vcI_bin (op := .geq) (t := 3) (a := .int .i64 (cmpN s b)) (b := .int .i64 0) (dst := (some 29)) (by kernel_rfl) ?_
    intro c29 hc29
    refine vcI_end 43 [(0, .d (.sl (nd (a)) (dg (digs (a))))), (1, .d (.sl (nd (b)) (dg (digs (b))))), (4, .w (.sl 0 []) none), (5, .w (.sl 0 []) none), (6, .d (.sl (nd (q)) (dg (digs (q))))), (7, .d (.sl (nd (s)) (dg (digs (s))))), (8, .d (.v (.int .i64 c))), (9, .d (.v (.int .i64 ((n : Int))))), (14, .d (.v (.bool true))), (29, .d (.v (.bool c29)))] [] (by kernel_rfl) (by kernel_rfl) (by kernel_rfl) ?_
    cases c29
    · replace hc29 := bf hc29
      have hsb2 : s < b := by have := cN_ge (a := s) (b := b); omega
      obtain ⟨k1, k2⟩ := div_keep hqr hrb rfl (by omega) hns hsb2
      refine vc_condf (by kernel_rfl) ?_
      refine vc_exit ?_
      refine seq_x ?_
      refine loop_x ?_
      refine block_x rfl ?_
      refine seq_n ?_
      refine vc_reg rfl ?_
      refine vcI_q 1 (by kernel_rfl) ?_
      refine vcI_call (f := 36) (ds := [.sl (nd (q)) (dg (digs (q))), .v (.int .i64 1)]) (dst := (some 36)) (by kernel_rfl) (c_Shift (a := q) (n := 1) (by omega) (by omega)) ?_
      rintro _ rfl
      refine vcI_q 2 (by kernel_rfl) ?_
      refine vcI_call (f := 56) (ds := [.sl 1 [.v (.int .i64 ((n : Int)))]]) (dst := (some 39)) (by kernel_rfl) (c_TrimD (ds := [n]) (by simpa using k2) (by simp)) ?_
      rintro _ rfl
      refine vcI_call (f := 55) (ds := [.sl (nd (q * 10 ^ 1)) (dg (digs (q * 10 ^ 1))), .sl (nd (dval [n])) (dg (digs (dval [n])))]) (dst := (some 40)) (by kernel_rfl) (c_Add (a := q * 10 ^ 1) (b := dval [n]) (by have := nd_up (Nat.le_refl (q * 10 ^ 1)); omega) (by rw [dval_one]; have := nd_small k2; omega)) ?_
      rintro _ rfl
      refine vcI_q 1 (by kernel_rfl) ?_
      refine vcI_end 43 [(0, .d (.sl (nd (a)) (dg (digs (a))))), (1, .d (.sl (nd (b)) (dg (digs (b))))), (4, .w (.sl 0 []) none), (5, .w (.sl 0 []) none), (6, .d (.sl (nd (q * 10 ^ 1 + dval [n])) (dg (digs (q * 10 ^ 1 + dval [n]))))), (7, .d (.sl (nd (s)) (dg (digs (s))))), (8, .d (.v (.int .i64 c))), (9, .d (.v (.int .i64 ((n : Int))))), (14, .d (.v (.bool true))), (29, .d (.v (.bool false)))] [] (by kernel_rfl) (by kernel_rfl) (by kernel_rfl) ?_
      refine block_n ?_
      refine seq_n ?_
      refine vc_reg rfl ?_
      refine vcI_q 1 (by kernel_rfl) ?_
      refine vcI_bin (op := .sub) (t := 3) (a := .int .i64 c) (b := .int .i64 1) (dst := (some 16)) (by kernel_rfl) ?_
      intro z16 hz16
      first | (replace hz16 := hz16.i64 (by omega)) | skip
      refine vcI_q 1 (by kernel_rfl) ?_
      refine vcI_end 43 [(0, .d (.sl (nd (a)) (dg (digs (a))))), (1, .d (.sl (nd (b)) (dg (digs (b))))), (4, .w (.sl 0 []) none), (5, .w (.sl 0 []) none), (6, .d (.sl (nd (q * 10 ^ 1 + dval [n])) (dg (digs (q * 10 ^ 1 + dval [n]))))), (7, .d (.sl (nd (s)) (dg (digs (s))))), (8, .d (.v (.int .i64 z16))), (9, .d (.v (.int .i64 ((n : Int))))), (14, .d (.v (.bool true))), (29, .d (.v (.bool false)))] [] (by kernel_rfl) (by kernel_rfl) (by kernel_rfl) ?_
      refine loop_n (k - 1, q * 10 ^ 1 + dval [n], s, z16) (⟨by omega, by omega, by rw [dval_one]; simpa using k1, hsb2⟩) (by show k - 1 < k; omega) (by kernel_rfl) (by kernel_rfl)
    · replace hc29 := bt hc29
      have hbs : b ≤ s := by have := cN_ge (a := s) (b := b); omega
      refine vc_condt (by kernel_rfl) ?_
      refine vc_skip ?_
      refine seq_n ?_
      refine vc_block ?_
      refine vc_seqr rfl ?_
      refine vcI_q 2 (by kernel_rfl) ?_
      refine vcI_call (f := 57) (ds := [.sl (nd (s)) (dg (digs (s))), .sl (nd (b)) (dg (digs (b)))]) (dst := (some 32)) (by kernel_rfl) (c_Sub (a := s) (b := b) hbs (by omega)) ?_
      rintro _ rfl
      refine vcI_q 1 (by kernel_rfl) ?_
      refine vcI_end 43 [(0, .d (.sl (nd (a)) (dg (digs (a))))), (1, .d (.sl (nd (b)) (dg (digs (b))))), (4, .w (.sl 0 []) none), (5, .w (.sl 0 []) none), (6, .d (.sl (nd (q)) (dg (digs (q))))), (7, .d (.sl (nd (s - b)) (dg (digs (s - b))))), (8, .d (.v (.int .i64 c))), (9, .d (.v (.int .i64 ((n : Int))))), (14, .d (.v (.bool true))), (29, .d (.v (.bool true)))] [] (by kernel_rfl) (by kernel_rfl) (by kernel_rfl) ?_
      refine vc_reg rfl ?_
      refine vcI_q 1 (by kernel_rfl) ?_
      refine vcI_bin (op := .add) (t := 3) (a := .int .i64 ((n : Int))) (b := .int .i64 1) (dst := (some 34)) (by kernel_rfl) ?_
      intro z34 hz34
      first | (replace hz34 := hz34.i64 (by omega)) | skip
      refine vcI_q 1 (by kernel_rfl) ?_
      refine vcI_end 43 [(0, .d (.sl (nd (a)) (dg (digs (a))))), (1, .d (.sl (nd (b)) (dg (digs (b))))), (4, .w (.sl 0 []) none), (5, .w (.sl 0 []) none), (6, .d (.sl (nd (q)) (dg (digs (q))))), (7, .d (.sl (nd (s - b)) (dg (digs (s - b))))), (8, .d (.v (.int .i64 c))), (9, .d (.v (.int .i64 z34))), (14, .d (.v (.bool true))), (29, .d (.v (.bool true)))] [] (by kernel_rfl) (by kernel_rfl) (by kernel_rfl) ?_
      refine block_n ?_
      obtain rfl : z34 = ((n + 1 : Nat) : Int) := by omega
      refine loop_n (n + 1, s - b) (by show (n + 1) * b + (s - b) = _; rw [Nat.add_mul]; omega) (by show s - b < s; omega) (by kernel_rfl) (by kernel_rfl)

/-- What Root's rounds keep: 10 ^ k is the next digit's worth. -/
structure RootInv (a k q : Nat) : Prop where
  lo : q * q ≤ a
  hi : a < (q + 10 ^ k) * (q + 10 ^ k)
theorem pow_ten {k : Nat} (hk : 1 ≤ k) : 10 ^ k = 10 * 10 ^ (k - 1) := by
  obtain ⟨j, rfl⟩ : ∃ j, k = j + 1 := ⟨k - 1, by omega⟩
  rw [Nat.pow_succ, Nat.add_sub_cancel, Nat.mul_comm]
theorem nd_add {x y m : Nat} (hx : nd x ≤ m) (hy : nd y ≤ m) : nd (x + y) ≤ m + 1 := by
  have h1 := Nat.lt_of_lt_of_le (lt_nd x) (Nat.pow_le_pow_right (by decide) hx)
  have h2 := Nat.lt_of_lt_of_le (lt_nd y) (Nat.pow_le_pow_right (by decide) hy)
  refine nd_le _ _ ?_
  rw [Nat.pow_succ]
  omega
theorem root_ex : ∀ a : Nat, ∃ s, s * s ≤ a ∧ a < (s + 1) * (s + 1)
  | 0 => ⟨0, by omega, by omega⟩
  | a + 1 => by
    obtain ⟨s, h1, h2⟩ := root_ex a
    by_cases h : a + 1 < (s + 1) * (s + 1)
    · exact ⟨s, by omega, h⟩
    · refine ⟨s + 1, by omega, ?_⟩
      have : (s + 1 + 1) * (s + 1 + 1) = (s + 1) * (s + 1) + 2 * (s + 1) + 1 := by rw [Nat.add_mul, Nat.mul_add]; omega
      omega
theorem root_start (a : Nat) : RootInv a ((nd a + 1) / 2 + 1) 0 := by
  refine ⟨by simp, ?_⟩
  rw [Nat.zero_add, ← Nat.pow_add]
  exact Nat.lt_of_lt_of_le (lt_nd a) (Nat.pow_le_pow_right (by decide) (by omega))

set_option maxHeartbeats 1600000 in
theorem c_Root {a : Nat} (ha : nd a ≤ 20000) : HasC Try.prog 42 [.sl (nd (a)) (dg (digs (a)))] (fun y => ∃ s, (s * s ≤ a ∧ a < (s + 1) * (s + 1)) ∧ y = .sl (nd s) (dg (digs s))) := by
  refine HasC.of [] (fn := Try.f42) tyOk mixed (fun args w => Try.call42 args w) Try.func42 rfl (by kernel_rfl) (Nat.le_of_ble_eq_true rfl) (by obtain ⟨s, hs⟩ := root_ex a; exact ⟨_, s, hs, rfl⟩) ?_
  refine vc_seqr rfl ?_
  refine vcI_q 1 (by kernel_rfl) ?_
  refine vcI_end 34 [(0, .d (.sl (nd (a)) (dg (digs (a))))), (2, .w (.sl 0 []) none)] [] (by kernel_rfl) (by kernel_rfl) (by kernel_rfl) ?_
  refine vc_seqr rfl ?_
  refine vcI_q 1 (by kernel_rfl) ?_
  refine vcI_end 34 [(0, .d (.sl (nd (a)) (dg (digs (a))))), (2, .w (.sl 0 []) none), (3, .w (.sl 0 []) none)] [] (by kernel_rfl) (by kernel_rfl) (by kernel_rfl) ?_
  refine vc_seq ?_
  refine vc_seqr rfl ?_
  refine vcI_q 2 (by kernel_rfl) ?_
  refine vcI_bin (op := .add) (t := 3) (a := .int .i64 (((nd (a) : Nat) : Int))) (b := .int .i64 1) (dst := (some 9)) (by kernel_rfl) ?_
  intro z9 hz9
  first | (replace hz9 := hz9.i64 (by omega)) | skip
  refine vcI_bin (op := .quo) (t := 3) (a := .int .i64 z9) (b := .int .i64 2) (dst := (some 10)) (by kernel_rfl) ?_
  refine And.intro (by omega) ?_
  intro z10 hz10
  refine vcI_q 1 (by kernel_rfl) ?_
  refine vcI_end 34 [(0, .d (.sl (nd (a)) (dg (digs (a))))), (2, .w (.sl 0 []) none), (3, .w (.sl 0 []) none), (4, .d (.v (.int .i64 z10)))] [] (by kernel_rfl) (by kernel_rfl) (by kernel_rfl) ?_
  refine vc_cast (s' := mkS 34 [(0, .d (.sl (nd (a)) (dg (digs (a))))), (2, .w (.sl 0 []) none), (3, .w (.sl (nd (0)) (dg (digs (0)))) none), (4, .d (.v (.int .i64 z10)))] []) (by rw [show (.sl (nd (0)) (dg (digs (0))) : DV) = .sl 0 [] from dn_zero]) ?_
  refine vc_block ?_
  refine vc_loop 34 (fun (vcx : Nat × Nat × Int) => match vcx with | (k, q, c) => [(0, .d (.sl (nd (a)) (dg (digs (a))))), (2, .w (.sl 0 []) none), (3, .d (.sl (nd (q)) (dg (digs (q))))), (4, .d (.v (.int .i64 c)))]) (fun (vcx : Nat × Nat × Int) => match vcx with | (k, q, c) => []) (fun (vcx : Nat × Nat × Int) => match vcx with | (k, q, c) => c = (k : Int) - 1 ∧ k ≤ 20002 ∧ RootInv a k q) (fun (vcx : Nat × Nat × Int) => match vcx with | (k, q, c) => k) (((nd a + 1) / 2 + 1, 0, z10)) (⟨by have := quoI (a := nd a + 1) (b := 2) (by omega) hz10 (by omega); omega, by omega, root_start a⟩) (by kernel_rfl) (by kernel_rfl) ?_
  rintro ⟨k, q, c⟩ hinv
  simp only at hinv
  obtain ⟨hc, hk, hR⟩ := hinv
  refine vc_seq ?_
  refine vc_seqr rfl ?_
  refine vcI_q 1 (by kernel_rfl) ?_
  refine vcI_bin (op := .geq) (t := 3) (a := .int .i64 c) (b := .int .i64 0) (dst := (some 12)) (by kernel_rfl) ?_
  intro c12 hc12
  refine vcI_end 34 [(0, .d (.sl (nd (a)) (dg (digs (a))))), (2, .w (.sl 0 []) none), (3, .d (.sl (nd (q)) (dg (digs (q))))), (4, .d (.v (.int .i64 c))), (12, .d (.v (.bool c12)))] [] (by kernel_rfl) (by kernel_rfl) (by kernel_rfl) ?_
  cases c12
  · replace hc12 := bf hc12
    have hk0 : k = 0 := by omega
    rw [hk0] at hR
    refine vc_condf (by kernel_rfl) ?_
    refine vc_exit ?_
    refine seq_x ?_
    refine loop_x ?_
    refine block_x rfl ?_
    refine seq_n ?_
    refine vc_seqr rfl ?_
    refine vcI_q 2 (by kernel_rfl) ?_
    refine vcI_end 34 [(0, .d (.sl (nd (a)) (dg (digs (a))))), (2, .d (.sl (nd (q)) (dg (digs (q))))), (3, .d (.sl (nd (q)) (dg (digs (q))))), (4, .d (.v (.int .i64 c))), (12, .d (.v (.bool false)))] [] (by kernel_rfl) (by kernel_rfl) (by kernel_rfl) ?_
    refine vc_ret ?_
    refine ret_1 (d := .sl (nd (q)) (dg (digs (q)))) (by kernel_rfl) ?_
    exact ⟨q, ⟨hR.lo, by simpa using hR.hi⟩, rfl⟩
  · replace hc12 := bt hc12
    have hqa : q ≤ a := Nat.le_trans (Nat.le_mul_self q) hR.lo
    have hnq : nd q ≤ 20000 := Nat.le_trans (nd_mono hqa) ha
    refine vc_condt (by kernel_rfl) ?_
    refine vc_skip ?_
    refine seq_n ?_
    refine vc_seq ?_
    refine vc_block ?_
    refine vc_seqr rfl ?_
    refine vcI_q 1 (by kernel_rfl) ?_
    refine vcI_end 34 [(0, .d (.sl (nd (a)) (dg (digs (a))))), (2, .w (.sl 0 []) none), (3, .d (.sl (nd (q)) (dg (digs (q))))), (4, .d (.v (.int .i64 c))), (5, .d (.v (.int .i64 9))), (12, .d (.v (.bool true)))] [] (by kernel_rfl) (by kernel_rfl) (by kernel_rfl) ?_
    refine vc_block ?_
    refine vc_loop 34 (fun (vcx : Nat) => match vcx with | d => [(0, .d (.sl (nd (a)) (dg (digs (a))))), (2, .w (.sl 0 []) none), (3, .d (.sl (nd (q)) (dg (digs (q))))), (4, .d (.v (.int .i64 c))), (5, .d (.v (.int .i64 ((d : Int))))), (12, .d (.v (.bool true)))]) (fun (vcx : Nat) => match vcx with | d => []) (fun (vcx : Nat) => match vcx with | d => d ≤ 9 ∧ a < (q + (d + 1) * 10 ^ (k - 1)) * (q + (d + 1) * 10 ^ (k - 1))) (fun (vcx : Nat) => match vcx with | d => d) 9 (⟨by omega, by have := hR.hi; rw [pow_ten (by omega : 1 ≤ k)] at this; exact this⟩) (by kernel_rfl) (by kernel_rfl) ?_
    rintro d hinv
    simp only at hinv
    obtain ⟨hd9, hd⟩ := hinv
    refine vc_seq ?_
    refine vc_seqr rfl ?_
    refine vcI_q 1 (by kernel_rfl) ?_
    refine vcI_bin (op := .gtr) (t := 3) (a := .int .i64 ((d : Int))) (b := .int .i64 0) (dst := (some 16)) (by kernel_rfl) ?_
    intro c16 hc16
    refine vcI_end 34 [(0, .d (.sl (nd (a)) (dg (digs (a))))), (2, .w (.sl 0 []) none), (3, .d (.sl (nd (q)) (dg (digs (q))))), (4, .d (.v (.int .i64 c))), (5, .d (.v (.int .i64 ((d : Int))))), (12, .d (.v (.bool true))), (16, .d (.v (.bool c16)))] [] (by kernel_rfl) (by kernel_rfl) (by kernel_rfl) ?_
    cases c16
    · replace hc16 := bf hc16
      have hd0 : d = 0 := by omega
      refine vc_condf (by kernel_rfl) ?_
      refine vc_exit ?_
      refine seq_x ?_
      refine loop_x ?_
      refine block_x rfl ?_
      refine block_n ?_
      refine seq_n ?_
      refine vc_reg rfl ?_
      refine vcI_q 1 (by kernel_rfl) ?_
      refine vcI_bin (op := .sub) (t := 3) (a := .int .i64 c) (b := .int .i64 1) (dst := (some 14)) (by kernel_rfl) ?_
      intro z14 hz14
      first | (replace hz14 := hz14.i64 (by omega)) | skip
      refine vcI_q 1 (by kernel_rfl) ?_
      refine vcI_end 34 [(0, .d (.sl (nd (a)) (dg (digs (a))))), (2, .w (.sl 0 []) none), (3, .d (.sl (nd (q)) (dg (digs (q))))), (4, .d (.v (.int .i64 z14))), (5, .d (.v (.int .i64 ((d : Int))))), (12, .d (.v (.bool true))), (16, .d (.v (.bool false)))] [] (by kernel_rfl) (by kernel_rfl) (by kernel_rfl) ?_
      refine loop_n (k - 1, q, z14) (⟨by omega, by omega, hR.lo, by rw [hd0] at hd; simpa using hd⟩) (by show k - 1 < k; omega) (by kernel_rfl) (by kernel_rfl)
    · replace hc16 := bt hc16
      refine vc_condt (by kernel_rfl) ?_
      refine vc_skip ?_
      refine seq_n ?_
      refine vc_block ?_
      refine vc_seqr rfl ?_
      refine vcI_q 3 (by kernel_rfl) ?_
      refine vcI_call (f := 56) (ds := [.sl 1 [.v (.int .i64 ((d : Int)))]]) (dst := (some 20)) (by kernel_rfl) (c_TrimD (ds := [d]) (by simp; omega) (by simp)) ?_
      rintro _ rfl
      refine vcI_q 1 (by kernel_rfl) ?_
      refine vcI_call (f := 36) (ds := [.sl (nd (dval [d])) (dg (digs (dval [d]))), .v (.int .i64 c)]) (dst := (some 22)) (by kernel_rfl) (c_ShiftI (a := dval [d]) (n := k - 1) (by omega) (by rw [dval_one]; have := nd_small (show d < 10 by omega); omega) (by omega)) ?_
      rintro _ rfl
      have hn1 : nd (dval [d] * 10 ^ (k - 1)) ≤ 20003 := by rw [dval_one]; have := nd_small (show d < 10 by omega); have := nd_up (Nat.le_refl (d * 10 ^ (k - 1))); omega
      refine vcI_call (f := 55) (ds := [.sl (nd (q)) (dg (digs (q))), .sl (nd (dval [d] * 10 ^ (k - 1))) (dg (digs (dval [d] * 10 ^ (k - 1))))]) (dst := (some 23)) (by kernel_rfl) (c_Add (a := q) (b := dval [d] * 10 ^ (k - 1)) (by omega) (by omega)) ?_
      rintro _ rfl
      have hn2 : nd (q + dval [d] * 10 ^ (k - 1)) ≤ 30000 := by have := nd_add (x := q) (y := dval [d] * 10 ^ (k - 1)) (m := 20003) (by omega) hn1; omega
      refine vcI_q 1 (by kernel_rfl) ?_
      refine vcI_end 34 [(0, .d (.sl (nd (a)) (dg (digs (a))))), (2, .w (.sl 0 []) none), (3, .d (.sl (nd (q)) (dg (digs (q))))), (4, .d (.v (.int .i64 c))), (5, .d (.v (.int .i64 ((d : Int))))), (6, .d (.sl (nd (q + dval [d] * 10 ^ (k - 1))) (dg (digs (q + dval [d] * 10 ^ (k - 1)))))), (12, .d (.v (.bool true))), (16, .d (.v (.bool true)))] [] (by kernel_rfl) (by kernel_rfl) (by kernel_rfl) ?_
      refine vc_seq ?_
      refine vc_seqr rfl ?_
      refine vcI_q 2 (by kernel_rfl) ?_
      refine vcI_call (f := 43) (ds := [.sl (nd (q + dval [d] * 10 ^ (k - 1))) (dg (digs (q + dval [d] * 10 ^ (k - 1)))), .sl (nd (q + dval [d] * 10 ^ (k - 1))) (dg (digs (q + dval [d] * 10 ^ (k - 1))))]) (dst := (some 26)) (by kernel_rfl) (c_Mul (a := q + dval [d] * 10 ^ (k - 1)) (b := q + dval [d] * 10 ^ (k - 1)) (by omega) (by omega)) ?_
      rintro _ rfl
      refine vcI_q 1 (by kernel_rfl) ?_
      refine vcI_call (f := 39) (ds := [.sl (nd ((q + dval [d] * 10 ^ (k - 1)) * (q + dval [d] * 10 ^ (k - 1)))) (dg (digs ((q + dval [d] * 10 ^ (k - 1)) * (q + dval [d] * 10 ^ (k - 1))))), .sl (nd (a)) (dg (digs (a)))]) (dst := (some 28)) (by kernel_rfl) (c_Cmp (a := (q + dval [d] * 10 ^ (k - 1)) * (q + dval [d] * 10 ^ (k - 1))) (b := a) (by have := nd_mul (q + dval [d] * 10 ^ (k - 1)) (q + dval [d] * 10 ^ (k - 1)); omega) (by omega)) ?_
      rintro _ rfl
      refine vcI_bin (op := .leq) (t := 3) (a := .int .i64 (cmpN ((q + dval [d] * 10 ^ (k - 1)) * (q + dval [d] * 10 ^ (k - 1))) a)) (b := .int .i64 0) (dst := (some 29)) (by kernel_rfl) ?_
      intro c29 hc29
      refine vcI_end 34 [(0, .d (.sl (nd (a)) (dg (digs (a))))), (2, .w (.sl 0 []) none), (3, .d (.sl (nd (q)) (dg (digs (q))))), (4, .d (.v (.int .i64 c))), (5, .d (.v (.int .i64 ((d : Int))))), (6, .d (.sl (nd (q + dval [d] * 10 ^ (k - 1))) (dg (digs (q + dval [d] * 10 ^ (k - 1)))))), (12, .d (.v (.bool true))), (16, .d (.v (.bool true))), (29, .d (.v (.bool c29)))] [] (by kernel_rfl) (by kernel_rfl) (by kernel_rfl) ?_
      cases c29
      · replace hc29 := bf hc29
        refine vc_condf (by kernel_rfl) ?_
        refine vc_skip ?_
        refine seq_n ?_
        refine vc_reg rfl ?_
        refine vcI_q 1 (by kernel_rfl) ?_
        refine vcI_bin (op := .sub) (t := 3) (a := .int .i64 ((d : Int))) (b := .int .i64 1) (dst := (some 32)) (by kernel_rfl) ?_
        intro z32 hz32
        first | (replace hz32 := hz32.i64 (by omega)) | skip
        refine vcI_q 1 (by kernel_rfl) ?_
        refine vcI_end 34 [(0, .d (.sl (nd (a)) (dg (digs (a))))), (2, .w (.sl 0 []) none), (3, .d (.sl (nd (q)) (dg (digs (q))))), (4, .d (.v (.int .i64 c))), (5, .d (.v (.int .i64 z32))), (6, .d (.sl (nd (q + dval [d] * 10 ^ (k - 1))) (dg (digs (q + dval [d] * 10 ^ (k - 1)))))), (12, .d (.v (.bool true))), (16, .d (.v (.bool true))), (29, .d (.v (.bool false)))] [] (by kernel_rfl) (by kernel_rfl) (by kernel_rfl) ?_
        refine block_n ?_
        obtain rfl : z32 = ((d - 1 : Nat) : Int) := by omega
        refine loop_n (d - 1) (⟨by omega, by rw [show d - 1 + 1 = d by omega]; rw [cN_le, dval_one] at hc29; omega⟩) (by show d - 1 < d; omega) (by kernel_rfl) (by kernel_rfl)
      · replace hc29 := bt hc29
        refine vc_condt (by kernel_rfl) ?_
        refine vc_seqr rfl ?_
        refine vcI_q 2 (by kernel_rfl) ?_
        refine vcI_end 34 [(0, .d (.sl (nd (a)) (dg (digs (a))))), (2, .w (.sl 0 []) none), (3, .d (.sl (nd (q + dval [d] * 10 ^ (k - 1))) (dg (digs (q + dval [d] * 10 ^ (k - 1)))))), (4, .d (.v (.int .i64 c))), (5, .d (.v (.int .i64 ((d : Int))))), (6, .d (.sl (nd (q + dval [d] * 10 ^ (k - 1))) (dg (digs (q + dval [d] * 10 ^ (k - 1)))))), (12, .d (.v (.bool true))), (16, .d (.v (.bool true))), (29, .d (.v (.bool true)))] [] (by kernel_rfl) (by kernel_rfl) (by kernel_rfl) ?_
        refine vc_exit ?_
        refine seq_x ?_
        refine block_e rfl ?_
        refine loop_x ?_
        refine block_x rfl ?_
        refine block_n ?_
        refine seq_n ?_
        refine vc_reg rfl ?_
        refine vcI_q 1 (by kernel_rfl) ?_
        refine vcI_bin (op := .sub) (t := 3) (a := .int .i64 c) (b := .int .i64 1) (dst := (some 14)) (by kernel_rfl) ?_
        intro z14 hz14
        first | (replace hz14 := hz14.i64 (by omega)) | skip
        refine vcI_q 1 (by kernel_rfl) ?_
        refine vcI_end 34 [(0, .d (.sl (nd (a)) (dg (digs (a))))), (2, .w (.sl 0 []) none), (3, .d (.sl (nd (q + dval [d] * 10 ^ (k - 1))) (dg (digs (q + dval [d] * 10 ^ (k - 1)))))), (4, .d (.v (.int .i64 z14))), (5, .d (.v (.int .i64 ((d : Int))))), (6, .d (.sl (nd (q + dval [d] * 10 ^ (k - 1))) (dg (digs (q + dval [d] * 10 ^ (k - 1)))))), (12, .d (.v (.bool true))), (16, .d (.v (.bool true))), (29, .d (.v (.bool true)))] [] (by kernel_rfl) (by kernel_rfl) (by kernel_rfl) ?_
        refine loop_n (k - 1, q + dval [d] * 10 ^ (k - 1), z14) (⟨by omega, by omega, by rw [cN_le] at hc29; exact hc29, by rw [dval_one, Nat.add_assoc, ← Nat.add_one_mul]; exact hd⟩) (by show k - 1 < k; omega) (by kernel_rfl) (by kernel_rfl)

end Go.Proofs.Ytdlfgliokkgceaa
