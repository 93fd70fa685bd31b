/-
  The reference's rounding: casuistref02. The reference's rounding: Cut, Fit, Mul.
-/
import Derived.Test.YtfjcblmmfkgkoaaDecs
namespace Go.Proofs.Ytfjcblmmfkgkoaa

open Go.RowKit
set_option linter.unusedVariables false
set_option linter.unusedSimpArgs false
set_option maxRecDepth 100000

def dRD (neg : Bool) (n : Nat) (e : Int) : DV := .agg [.v (.bool neg), .sl (nd n) (dg (digs n)), .v (.int .i64 e)]
theorem dRD_0 (g : Bool) (e : Int) : dRD g 0 e = .agg [.v (.bool g), .sl 0 [], .v (.int .i64 e)] := by
  unfold dRD
  rw [dn_zero]
theorem nd_eq0 {n : Nat} : nd n = 0 ↔ n = 0 := by
  constructor
  · intro h
    by_cases k : n = 0
    · exact k
    · have := nd_pos k
      omega
  · rintro rfl
    exact nd_zero

theorem c_ShiftX {a : Nat} {X : Int} (ha : nd a ≤ 900000) (hn : X ≤ 90000) : HasC Try.prog 19 [.sl (nd (a)) (dg (digs (a))), .v (.int .i64 X)] (fun y => y = .sl (nd (a * 10 ^ X.toNat)) (dg (digs (a * 10 ^ X.toNat)))) := by
  refine HasC.of [] (fn := Try.f19) tyOk mixed (fun args w => Try.call19 args w) Try.func19 rfl (by kernel_rfl) (Nat.le_of_ble_eq_true rfl) (⟨_, rfl⟩) ?_
  refine vc_seqr rfl (iQ 1 (iE 20 [(0, .d (.sl (nd (a)) (dg (digs (a))))), (1, Ia X), (4, .w (.sl 0 []) none)] [] ?_))
  refine vc_seqr rfl (iQ 1 (iE 20 [(0, .d (.sl (nd (a)) (dg (digs (a))))), (1, Ia X), (4, .w (.sl 0 []) none), (5, .w (.sl 0 []) none)] [] ?_))
  refine vc_seq (vc_seqr rfl (iQ 1 (iE 20 [(0, .d (.sl (nd (a)) (dg (digs (a))))), (1, Ia X), (4, .w (.sl 0 []) none), (5, .w (.sl 0 []) none), (6, Ia 0)] [] ?_)))
  refine vc_block (vc_loop 20 (fun (vcx : Nat) => match vcx with | k => [(0, .d (.sl (nd (a)) (dg (digs (a))))), (1, Ia X), (4, .w (.sl 0 []) none), (5, .w (.sl ((List.replicate k 0).length) (dg (List.replicate k 0))) (some ⟨5, 0, 3, 1⟩)), (6, Ia ((k : Int)))]) (fun (vcx : Nat) => match vcx with | k => []) (fun (vcx : Nat) => match vcx with | k => k ≤ X.toNat) (fun (vcx : Nat) => match vcx with | k => X.toNat - k) 0 (Nat.zero_le _) (by kernel_rfl) (by kernel_rfl) ?_)
  rintro k hinv
  simp only at hinv
  refine vc_seq (vc_seqr rfl (iQ 2 (iB .lss 3 (.int .i64 ((k : Int))) (.int .i64 X) (some 9) ?_)))
  intro c9 hc9
  refine iE 20 [(0, .d (.sl (nd (a)) (dg (digs (a))))), (1, Ia X), (4, .w (.sl 0 []) none), (5, .w (.sl ((List.replicate k 0).length) (dg (List.replicate k 0))) (some ⟨5, 0, 3, 1⟩)), (6, Ia ((k : Int))), (9, Ba c9)] [] ?_
  cases c9
  · replace hc9 := bf hc9
    have hkn : k = X.toNat := by omega
    refine iF (vc_exit (seq_x (loop_x (block_x rfl (seq_n (vc_seqr rfl (iQ 2 (vcI_app (n := ((List.replicate k 0).length)) (cs := (dg (List.replicate k 0))) (m := (nd (a))) (ds := (dg (digs (a)))) (N := ((List.replicate k 0 ++ digs a).length)) (es := (dg (List.replicate k 0 ++ digs a))) (j := 5) (e := 3) (z := 1) (dst := (some 17)) (by kernel_rfl) (by first | rfl | omega | (rw [Nat.mul_one]; exact dg_len _) | (simp [dg]; done) | (simp [dg]; omega)) (by first | rfl | omega | (rw [Nat.mul_one]; exact dg_len _) | (simp [dg]; done) | (simp [dg]; omega)) (by first | rfl | exact allOne_dg _ | simp [dg, allOne]) (by simp; omega) (by simp [nd]) (by rw [dg_append]) ?_))))))))
    refine iQ 1 (iE 20 [(1, Ia X), (4, .w (.sl 0 []) none), (5, .w (.sl ((List.replicate k 0 ++ digs a).length) (dg (List.replicate k 0 ++ digs a))) (some ⟨5, 0, 3, 1⟩)), (6, Ia ((k : Int))), (9, Ba false)] [] ?_)
    refine vc_seqr rfl (iQ 1 (iC 62 [.sl ((List.replicate k 0 ++ digs a).length) (dg (List.replicate k 0 ++ digs a))] (some 19) (c_TrimD (shift_lt k a) (by rw [List.length_append, ← nd_def]; simp; omega)) ?_))
    rintro _ rfl
    refine iQ 1 (iE 20 [(1, Ia X), (4, .d (.sl (nd (dval (List.replicate k 0 ++ digs a))) (dg (digs (dval (List.replicate k 0 ++ digs a)))))), (5, .w (.sl ((List.replicate k 0 ++ digs a).length) (dg (List.replicate k 0 ++ digs a))) (some ⟨5, 0, 3, 1⟩)), (6, Ia ((k : Int))), (9, Ba false)] [] ?_)
    refine vc_ret (iR (.sl (nd (dval (List.replicate k 0 ++ digs a))) (dg (digs (dval (List.replicate k 0 ++ digs a))))) ?_)
    rw [dval_append, dval_zeros, dval_digs, List.length_replicate, hkn, Nat.zero_add, Nat.mul_comm]
  · replace hc9 := bt hc9
    refine iT (vc_skip (seq_n (vc_seq (vc_block (vc_reg rfl (iQ 2 (vcI_app (n := ((List.replicate k 0).length)) (cs := (dg (List.replicate k 0))) (m := 1) (ds := [.v (.int .i64 0)]) (N := ((List.replicate (k + 1) 0).length)) (es := (dg (List.replicate (k + 1) 0))) (j := 5) (e := 3) (z := 1) (dst := (some 14)) (by kernel_rfl) (by first | rfl | omega | (rw [Nat.mul_one]; exact dg_len _) | (simp [dg]; done) | (simp [dg]; omega)) (by first | rfl | omega | (rw [Nat.mul_one]; exact dg_len _) | (simp [dg]; done) | (simp [dg]; omega)) (rfl) (by simp; omega) (by simp) (by simp [dg, List.replicate_succ']) ?_)))))))
    refine iQ 1 (iE 20 [(0, .d (.sl (nd (a)) (dg (digs (a))))), (1, Ia X), (4, .w (.sl 0 []) none), (5, .w (.sl ((List.replicate (k + 1) 0).length) (dg (List.replicate (k + 1) 0))) (some ⟨5, 0, 3, 1⟩)), (6, Ia ((k : Int))), (9, Ba true)] [] ?_)
    refine block_n (seq_n (vc_reg rfl (iQ 1 (iB .add 3 (.int .i64 ((k : Int))) (.int .i64 1) (some 11) ?_))))
    intro z11 hz11
    try replace hz11 := hz11.i64 (by omega)
    refine iQ 1 (iE 20 [(0, .d (.sl (nd (a)) (dg (digs (a))))), (1, Ia X), (4, .w (.sl 0 []) none), (5, .w (.sl ((List.replicate (k + 1) 0).length) (dg (List.replicate (k + 1) 0))) (some ⟨5, 0, 3, 1⟩)), (6, Ia z11), (9, Ba true)] [] ?_)
    obtain rfl : z11 = ((k + 1 : Nat) : Int) := by omega
    refine loop_n (k + 1) (by show k + 1 ≤ X.toNat; omega) (by show X.toNat - (k + 1) < X.toNat - k; omega) (by kernel_rfl) (by kernel_rfl)

theorem digs_5 : digs 5 = [5] := by rw [digs_pos (by decide)]; simp [digs_zero]
theorem dn_five : (.sl (nd 5) (dg (digs 5)) : DV) = .sl 1 [.v (.int .i64 5)] := by rw [nd_def, digs_5]; rfl
theorem c_Shift5 {X : Int} (hn : X ≤ 90000) : HasC Try.prog 19 [.sl 1 [.v (.int .i64 5)], .v (.int .i64 X)] (fun y => y = .sl (nd (5 * 10 ^ X.toNat)) (dg (digs (5 * 10 ^ X.toNat)))) := by
  rw [← dn_five]
  exact c_ShiftX (by have := nd_small (show 5 < 10 by decide); omega) hn
theorem c_Add1 {q : Nat} (ha : nd q ≤ 400000) : HasC Try.prog 64 [.sl (nd q) (dg (digs q)), .sl 1 [.v (.int .i64 1)]] (fun y => y = .sl (nd (q + 1)) (dg (digs (q + 1)))) := by
  rw [← dn_one]
  exact c_Add (by omega) (by have := nd_small (show 1 < 10 by decide); omega)

/-- What up holds the rest against: half of what is cut. -/
structure UpC (L : Nat) (R : Bool) (c : Int) : Prop where
  gt : 0 < c ↔ 5 < L ∨ (L = 5 ∧ R = true)
  eq : c = 0 ↔ L = 5 ∧ R = false
theorem up_cmp {r n : Nat} {c c' : Int} {more R : Bool} (h1 : 1 ≤ n) (hr : r < 10 ^ n) (hR : R = true ↔ restP more r n) (hc : c = cmpN r (5 * 10 ^ (n - 1))) (hc' : (c = 0 ∧ more = true ∧ c' = 1) ∨ (¬ (c = 0 ∧ more = true) ∧ c' = c)) : UpC (lastD r n) R c' := by
  obtain ⟨i, rfl⟩ : ∃ i, n = i + 1 := ⟨n - 1, by omega⟩
  rw [Nat.add_sub_cancel] at hc
  have hp : 0 < 10 ^ i := Nat.pow_pos (by decide)
  have e := Nat.div_add_mod r (10 ^ i)
  have hm := Nat.mod_lt r hp
  have hR' : R = true ↔ more = true ∨ r % 10 ^ i ≠ 0 := hR
  have hL : lastD r (i + 1) = r / 10 ^ i := Nat.mod_eq_of_lt (Nat.div_lt_of_lt_mul (by rw [Nat.pow_succ] at hr; exact hr))
  rw [hL]
  have k1 := cN_lt (a := r) (b := 5 * 10 ^ i)
  have k2 := cN_eq (a := r) (b := 5 * 10 ^ i)
  rw [← hc] at k1 k2
  clear hR hc hL hr
  generalize r / 10 ^ i = L at *
  generalize r % 10 ^ i = low at *
  generalize 10 ^ i = P at *
  have h4 : L ≤ 4 → P * L ≤ P * 4 := fun h => Nat.mul_le_mul_left _ h
  have h6 : 6 ≤ L → P * 6 ≤ P * L := fun h => Nat.mul_le_mul_left _ h
  have h5 : L = 5 → P * L = P * 5 := fun h => by rw [h]
  generalize P * L = X at *
  cases more <;> cases R <;> simp at hR' hc' <;> constructor <;> simp <;> omega
theorem lastD_mod (N n : Nat) : lastD (N % 10 ^ n) n = lastD N n := by
  cases n with
  | zero => rfl
  | succ i =>
    show N % 10 ^ (i + 1) / 10 ^ i % 10 = N / 10 ^ i % 10
    rw [Nat.pow_succ, Nat.mod_mul_right_div_self, Nat.mod_mod]
theorem restP_mod (more : Bool) (N n : Nat) : restP more (N % 10 ^ n) n ↔ restP more N n := by
  cases n with
  | zero => exact Iff.rfl
  | succ i =>
    show more = true ∨ N % 10 ^ (i + 1) % 10 ^ i ≠ 0 ↔ more = true ∨ N % 10 ^ i ≠ 0
    rw [Nat.mod_mod_of_dvd _ (Nat.pow_dvd_pow 10 (Nat.le_succ i))]

theorem dig_odd {q : Nat} {z : Int} (h : z = ((dig q 0 : Nat) : Int).tmod 2) : z = 1 ↔ decide (q % 2 = 1) = true := by
  have e : dig q 0 = q % 10 := by simp [dig]
  rw [e, Int.tmod_eq_emod_of_nonneg (by omega)] at h
  simp only [decide_eq_true_eq]
  omega

theorem up_some {r n : Nat} {more R : Bool} (hr : r < 10 ^ n) (hR : R = true ↔ restP more r n) (h : r ≠ 0 ∨ more = true) : 0 < lastD r n ∨ R = true := by
  rw [hR]
  cases n with
  | zero =>
    right
    have : r = 0 := by simpa using hr
    exact h.resolve_left (fun k => k this)
  | succ i =>
    rcases h with h | h
    · by_cases h1 : r % 10 ^ i = 0
      · left
        have hL : lastD r (i + 1) = r / 10 ^ i := Nat.mod_eq_of_lt (Nat.div_lt_of_lt_mul (by rw [Nat.pow_succ] at hr; exact hr))
        rw [hL]
        rcases Nat.eq_zero_or_pos (r / 10 ^ i) with h2 | h2
        · have := Nat.div_add_mod r (10 ^ i)
          rw [h1, h2] at this
          simp at this
          exact absurd this.symm h
        · exact h2
      · exact .inr (.inr h1)
    · exact .inr (.inl h)
theorem up_none {r n : Nat} {more R : Bool} (hr : r = 0) (hm : more = false) (hR : R = true ↔ restP more r n) : lastD r n = 0 ∧ R = false := by
  subst hr hm
  cases n with
  | zero => exact ⟨rfl, bff hR (by simp [restP])⟩
  | succ i => exact ⟨by simp [lastD], bff hR (by simp [restP])⟩
theorem up_c2 {r n : Nat} {c d : Int} {more R : Bool} (hr : r < 10 ^ n) (hR : R = true ↔ restP more r n) (hc : (1 ≤ n ∧ c = cmpN r (5 * 10 ^ (n - 1))) ∨ (n = 0 ∧ c = -1)) (hd : (c = 0 ∧ more = true ∧ d = 1) ∨ (¬ (c = 0 ∧ more = true) ∧ d = c)) : UpC (lastD r n) R d := by
  rcases hc with ⟨h1, h2⟩ | ⟨h1, h2⟩
  · exact up_cmp h1 hr hR h2 hd
  · subst h1
    have hL : lastD r 0 = 0 := rfl
    rw [hL]
    have : d = -1 := by
      rcases hd with h | h
      · omega
      · omega
    subst this
    constructor <;> simp <;> omega

theorem up_law {m : Int} {neg O R : Bool} {L : Nat} {d : Int} (h : UpC L R d) (h0 : 0 < L ∨ R = true) : UpP m neg O L R ↔ (m = 1 ∧ (0 < d ∨ (d = 0 ∧ O = true))) ∨ (m = 2 ∧ 0 ≤ d) ∨ (m = 3 ∧ 0 < d) ∨ m = 4 ∨ (m = 6 ∧ neg = true) ∨ (m = 7 ∧ neg = false) := by
  obtain ⟨h1, h2⟩ := h
  have h3 : 0 ≤ d ↔ 0 < d ∨ d = 0 := ⟨fun h => by omega, fun h => by omega⟩
  have h0' : 0 < (L : Int) ∨ R = true := h0.imp (fun h => by omega) id
  unfold UpP
  rw [h3, h1, h2]
  constructor
  · rintro (⟨k, k1⟩ | ⟨k, k1⟩ | ⟨k, k1⟩ | ⟨k, k1⟩ | ⟨k, k1, k2⟩ | ⟨k, k1, k2⟩)
    · refine .inl ⟨k, ?_⟩
      cases R <;> cases O <;> simp at k1 ⊢ <;> omega
    · refine .inr (.inl ⟨k, ?_⟩)
      cases R <;> simp <;> omega
    · refine .inr (.inr (.inl ⟨k, ?_⟩))
      cases R <;> simp at k1 ⊢ <;> omega
    · exact .inr (.inr (.inr (.inl k)))
    · exact .inr (.inr (.inr (.inr (.inl ⟨k, k1⟩))))
    · exact .inr (.inr (.inr (.inr (.inr ⟨k, k1⟩))))
  · rintro (⟨k, k1⟩ | ⟨k, k1⟩ | ⟨k, k1⟩ | k | ⟨k, k1⟩ | ⟨k, k1⟩)
    · refine .inl ⟨k, ?_⟩
      cases R <;> cases O <;> simp at k1 ⊢ <;> omega
    · refine .inr (.inl ⟨k, ?_⟩)
      omega
    · refine .inr (.inr (.inl ⟨k, ?_⟩))
      cases R <;> simp at k1 ⊢ <;> omega
    · exact .inr (.inr (.inr (.inl ⟨k, h0'⟩)))
    · exact .inr (.inr (.inr (.inr (.inl ⟨k, k1, h0'⟩))))
    · exact .inr (.inr (.inr (.inr (.inr ⟨k, k1, h0'⟩))))

set_option maxHeartbeats 3200000 in
theorem c_rup {m : Int} {neg more : Bool} {q r n : Nat} (hr : r < 10 ^ n) (hn : n ≤ 80000) (hq : nd q ≤ 400000) (hrd : nd r ≤ 400000) : HasC Try.prog 63 [.v (.int .i64 m), .v (.bool neg), .sl (nd (q)) (dg (digs (q))), .sl (nd (r)) (dg (digs (r))), .v (.int .i64 ((n : Int))), .v (.bool more)] (fun y => ∃ b, y = .v (.bool b) ∧ (b = true ↔ UpP m neg (decide (q % 2 = 1)) (lastD r n : Nat) (@decide (restP more r n) (Classical.propDecidable _)))) := by
  refine HasC.of [] (fn := Try.f63) tyOk mixed (fun args w => Try.call63 args w) Try.func63 rfl (by kernel_rfl) (Nat.le_of_ble_eq_true rfl) (⟨_, @decide (UpP m neg (decide (q % 2 = 1)) (lastD r n : Nat) (@decide (restP more r n) (Classical.propDecidable _))) (Classical.propDecidable _), rfl, by simp⟩) ?_
  obtain ⟨R, hR⟩ : ∃ R : Bool, R = @decide (restP more r n) (Classical.propDecidable _) := ⟨_, rfl⟩
  have hRi : R = true ↔ restP more r n := by rw [hR]; simp
  obtain ⟨O, hO⟩ : ∃ O : Bool, O = decide (q % 2 = 1) := ⟨_, rfl⟩
  rw [← hR, ← hO]
  have hL9 := lastD_lt (N := r) (k := n)
  refine vc_seqr rfl (iQ 1 (iE 76 [(0, Ia m), (1, Ba neg), (2, .d (.sl (nd (q)) (dg (digs (q))))), (3, .d (.sl (nd (r)) (dg (digs (r))))), (4, Ia ((n : Int))), (5, Ba more), (12, Ba false)] [] ?_))
  refine vc_mid 76 (fun (vcx : Bool) => match vcx with | vb22 => [(0, Ia m), (1, Ba neg), (2, .d (.sl (nd (q)) (dg (digs (q))))), (3, .d (.sl (nd (r)) (dg (digs (r))))), (4, Ia ((n : Int))), (5, Ba more), (12, Ba false), (22, Ba vb22)]) (fun (vcx : Bool) => match vcx with | vb22 => []) (fun (vcx : Bool) => match vcx with | vb22 => r ≠ 0 ∨ more = true) ?_ ?_
  · rintro vb22 hinv
    simp only at hinv
    have hLR : 0 < lastD r n ∨ R = true := up_some hr hRi hinv
    refine vc_seqr rfl (iQ 2 (iB .sub 3 (.int .i64 ((n : Int))) (.int .i64 1) (some 25) ?_))
    intro z25 hz25
    try replace hz25 := hz25.i64 (by omega)
    refine iC 19 [.sl 1 [.v (.int .i64 5)], Iv z25] (some 26) (c_Shift5 (by omega)) ?_
    rintro _ rfl
    refine iQ 1 (iE 76 [(0, Ia m), (1, Ba neg), (2, .d (.sl (nd (q)) (dg (digs (q))))), (3, .d (.sl (nd (r)) (dg (digs (r))))), (4, Ia ((n : Int))), (5, Ba more), (12, Ba false), (13, .d (.sl (nd (5 * 10 ^ z25.toNat)) (dg (digs (5 * 10 ^ z25.toNat))))), (22, Ba vb22)] [] ?_)
    refine vc_seqr rfl (iQ 1 (iE 76 [(0, Ia m), (1, Ba neg), (2, .d (.sl (nd (q)) (dg (digs (q))))), (3, .d (.sl (nd (r)) (dg (digs (r))))), (4, Ia ((n : Int))), (5, Ba more), (12, Ba false), (13, .d (.sl (nd (5 * 10 ^ z25.toNat)) (dg (digs (5 * 10 ^ z25.toNat))))), (14, Ia 1), (22, Ba vb22)] [] ?_))
    refine vc_mid 76 (fun (vcx : Int × Bool) => match vcx with | (c, vb28) => [(0, Ia m), (1, Ba neg), (2, .d (.sl (nd (q)) (dg (digs (q))))), (3, .d (.sl (nd (r)) (dg (digs (r))))), (4, Ia ((n : Int))), (5, Ba more), (12, Ba false), (13, .d (.sl (nd (5 * 10 ^ z25.toNat)) (dg (digs (5 * 10 ^ z25.toNat))))), (14, Ia c), (22, Ba vb22), (28, Ba vb28)]) (fun (vcx : Int × Bool) => match vcx with | (c, vb28) => []) (fun (vcx : Int × Bool) => match vcx with | (c, vb28) => (1 ≤ n ∧ c = cmpN r (5 * 10 ^ (n - 1))) ∨ (n = 0 ∧ c = -1)) ?_ ?_
    · rintro ⟨c, vb28⟩ hinv
      simp only at hinv
      have hc0 := hinv
      refine vc_mid 76 (fun (vcx : Int × Bool) => match vcx with | (d, vb36) => [(0, Ia m), (1, Ba neg), (2, .d (.sl (nd (q)) (dg (digs (q))))), (3, .d (.sl (nd (r)) (dg (digs (r))))), (4, Ia ((n : Int))), (5, Ba more), (12, Ba false), (13, .d (.sl (nd (5 * 10 ^ z25.toNat)) (dg (digs (5 * 10 ^ z25.toNat))))), (14, Ia d), (22, Ba vb22), (28, Ba vb28), (36, Ba vb36)]) (fun (vcx : Int × Bool) => match vcx with | (d, vb36) => []) (fun (vcx : Int × Bool) => match vcx with | (d, vb36) => UpC (lastD r n) R d) ?_ ?_
      · rintro ⟨d, vb36⟩ hinv
        simp only at hinv
        have hlaw : UpP m neg O (lastD r n : Nat) R ↔ _ := up_law hinv hLR
        generalize lastD r n = L at *
        clear hc0 hR hRi hr hLR hL9 hinv
        refine vc_seqr rfl (iQ 2 (iB .gtr 3 (.int .i64 (((nd (q) : Nat) : Int))) (.int .i64 0) (some 39) ?_))
        intro c39 hc39
        refine iQ 1 ?_
        cases c39
        · replace hc39 := bf hc39
          refine iQ 7 (iE 76 [(0, Ia m), (1, Ba neg), (3, .d (.sl (nd (r)) (dg (digs (r))))), (4, Ia ((n : Int))), (5, Ba more), (12, Ba false), (13, .d (.sl (nd (5 * 10 ^ z25.toNat)) (dg (digs (5 * 10 ^ z25.toNat))))), (14, Ia d), (15, Ba false), (22, Ba vb22), (28, Ba vb28), (36, Ba vb36)] [] ?_)
          have hO0 : O = false := by rw [hO]; have : q = 0 := nd_eq0.1 (by omega); rw [this]; rfl
          clear hO
          refine vc_seq (vc_seqr rfl (iQ 1 (iE 76 [(1, Ba neg), (3, .d (.sl (nd (r)) (dg (digs (r))))), (4, Ia ((n : Int))), (5, Ba more), (12, Ba false), (13, .d (.sl (nd (5 * 10 ^ z25.toNat)) (dg (digs (5 * 10 ^ z25.toNat))))), (14, Ia d), (15, Ba false), (22, Ba vb22), (28, Ba vb28), (36, Ba vb36), (47, Ia m)] [] ?_)))
          refine vc_block (vc_seqr rfl (iB .eql 3 (.int .i64 m) (.int .i64 1) (some 49) ?_))
          intro c49 hc49
          refine iQ 1 (iE 76 [(1, Ba neg), (3, .d (.sl (nd (r)) (dg (digs (r))))), (4, Ia ((n : Int))), (5, Ba more), (12, Ba false), (13, .d (.sl (nd (5 * 10 ^ z25.toNat)) (dg (digs (5 * 10 ^ z25.toNat))))), (14, Ia d), (15, Ba false), (22, Ba vb22), (28, Ba vb28), (36, Ba vb36), (47, Ia m), (48, Ba c49)] [] ?_)
          cases c49
          · replace hc49 := bf hc49
            refine iF (vc_seqr rfl (iB .eql 3 (.int .i64 m) (.int .i64 2) (some 60) ?_))
            intro c60 hc60
            refine iQ 1 (iE 76 [(1, Ba neg), (3, .d (.sl (nd (r)) (dg (digs (r))))), (4, Ia ((n : Int))), (5, Ba more), (12, Ba false), (13, .d (.sl (nd (5 * 10 ^ z25.toNat)) (dg (digs (5 * 10 ^ z25.toNat))))), (14, Ia d), (15, Ba false), (22, Ba vb22), (28, Ba vb28), (36, Ba vb36), (47, Ia m), (48, Ba false), (59, Ba c60)] [] ?_)
            cases c60
            · replace hc60 := bf hc60
              refine iF (vc_seqr rfl (iB .eql 3 (.int .i64 m) (.int .i64 3) (some 64) ?_))
              intro c64 hc64
              refine iQ 1 (iE 76 [(1, Ba neg), (3, .d (.sl (nd (r)) (dg (digs (r))))), (4, Ia ((n : Int))), (5, Ba more), (12, Ba false), (13, .d (.sl (nd (5 * 10 ^ z25.toNat)) (dg (digs (5 * 10 ^ z25.toNat))))), (14, Ia d), (15, Ba false), (22, Ba vb22), (28, Ba vb28), (36, Ba vb36), (47, Ia m), (48, Ba false), (59, Ba false), (63, Ba c64)] [] ?_)
              cases c64
              · replace hc64 := bf hc64
                refine iF (vc_seqr rfl (iB .eql 3 (.int .i64 m) (.int .i64 4) (some 68) ?_))
                intro c68 hc68
                refine iQ 1 (iE 76 [(1, Ba neg), (3, .d (.sl (nd (r)) (dg (digs (r))))), (4, Ia ((n : Int))), (5, Ba more), (12, Ba false), (13, .d (.sl (nd (5 * 10 ^ z25.toNat)) (dg (digs (5 * 10 ^ z25.toNat))))), (14, Ia d), (15, Ba false), (22, Ba vb22), (28, Ba vb28), (36, Ba vb36), (47, Ia m), (48, Ba false), (59, Ba false), (63, Ba false), (67, Ba c68)] [] ?_)
                cases c68
                · replace hc68 := bf hc68
                  refine iF (vc_seqr rfl (iB .eql 3 (.int .i64 m) (.int .i64 6) (some 70) ?_))
                  intro c70 hc70
                  refine iQ 1 (iE 76 [(1, Ba neg), (3, .d (.sl (nd (r)) (dg (digs (r))))), (4, Ia ((n : Int))), (5, Ba more), (12, Ba false), (13, .d (.sl (nd (5 * 10 ^ z25.toNat)) (dg (digs (5 * 10 ^ z25.toNat))))), (14, Ia d), (15, Ba false), (22, Ba vb22), (28, Ba vb28), (36, Ba vb36), (47, Ia m), (48, Ba false), (59, Ba false), (63, Ba false), (67, Ba false), (69, Ba c70)] [] ?_)
                  cases c70
                  · replace hc70 := bf hc70
                    refine iF (vc_seqr rfl (iB .eql 3 (.int .i64 m) (.int .i64 7) (some 73) ?_))
                    intro c73 hc73
                    refine iQ 1 (iE 76 [(1, Ba neg), (3, .d (.sl (nd (r)) (dg (digs (r))))), (4, Ia ((n : Int))), (5, Ba more), (12, Ba false), (13, .d (.sl (nd (5 * 10 ^ z25.toNat)) (dg (digs (5 * 10 ^ z25.toNat))))), (14, Ia d), (15, Ba false), (22, Ba vb22), (28, Ba vb28), (36, Ba vb36), (47, Ia m), (48, Ba false), (59, Ba false), (63, Ba false), (67, Ba false), (69, Ba false), (72, Ba c73)] [] ?_)
                    cases c73
                    · replace hc73 := bf hc73
                      refine iF (vc_skip (block_n (seq_n (vc_seqr rfl (iQ 1 (iE 76 [(1, Ba neg), (3, .d (.sl (nd (r)) (dg (digs (r))))), (4, Ia ((n : Int))), (5, Ba more), (12, Ba false), (13, .d (.sl (nd (5 * 10 ^ z25.toNat)) (dg (digs (5 * 10 ^ z25.toNat))))), (14, Ia d), (15, Ba false), (22, Ba vb22), (28, Ba vb28), (36, Ba vb36), (47, Ia m), (48, Ba false), (59, Ba false), (63, Ba false), (67, Ba false), (69, Ba false), (72, Ba false)] [] ?_))))))
                      refine vc_ret (iR (Bv false) ?_)
                      exact ⟨_, rfl, by rw [hlaw]; clear hlaw; simp_all <;> omega⟩
                    · replace hc73 := bt hc73
                      refine iT (vc_seqr rfl (iQ 1 (iU .not (.bool neg) (some 75) ?_)))
                      intro c75 hc75
                      refine iQ 1 (iE 76 [(1, Ba neg), (3, .d (.sl (nd (r)) (dg (digs (r))))), (4, Ia ((n : Int))), (5, Ba more), (12, Ba c75), (13, .d (.sl (nd (5 * 10 ^ z25.toNat)) (dg (digs (5 * 10 ^ z25.toNat))))), (14, Ia d), (15, Ba false), (22, Ba vb22), (28, Ba vb28), (36, Ba vb36), (47, Ia m), (48, Ba false), (59, Ba false), (63, Ba false), (67, Ba false), (69, Ba false), (72, Ba true)] [] ?_)
                      refine vc_ret (block_r (seq_r (iR (Bv c75) ?_)))
                      exact ⟨_, rfl, by rw [hlaw]; clear hlaw; simp_all <;> omega⟩
                  · replace hc70 := bt hc70
                    refine iT (vc_seqr rfl (iQ 2 (iE 76 [(1, Ba neg), (3, .d (.sl (nd (r)) (dg (digs (r))))), (4, Ia ((n : Int))), (5, Ba more), (12, Ba neg), (13, .d (.sl (nd (5 * 10 ^ z25.toNat)) (dg (digs (5 * 10 ^ z25.toNat))))), (14, Ia d), (15, Ba false), (22, Ba vb22), (28, Ba vb28), (36, Ba vb36), (47, Ia m), (48, Ba false), (59, Ba false), (63, Ba false), (67, Ba false), (69, Ba true)] [] ?_)))
                    refine vc_ret (block_r (seq_r (iR (Bv neg) ?_)))
                    exact ⟨_, rfl, by rw [hlaw]; clear hlaw; simp_all <;> omega⟩
                · replace hc68 := bt hc68
                  refine iT (vc_seqr rfl (iQ 1 (iE 76 [(1, Ba neg), (3, .d (.sl (nd (r)) (dg (digs (r))))), (4, Ia ((n : Int))), (5, Ba more), (12, Ba true), (13, .d (.sl (nd (5 * 10 ^ z25.toNat)) (dg (digs (5 * 10 ^ z25.toNat))))), (14, Ia d), (15, Ba false), (22, Ba vb22), (28, Ba vb28), (36, Ba vb36), (47, Ia m), (48, Ba false), (59, Ba false), (63, Ba false), (67, Ba true)] [] ?_)))
                  refine vc_ret (block_r (seq_r (iR (Bv true) ?_)))
                  exact ⟨_, rfl, by rw [hlaw]; clear hlaw; simp_all <;> omega⟩
              · replace hc64 := bt hc64
                refine iT (vc_seqr rfl (iQ 1 (iB .gtr 3 (.int .i64 d) (.int .i64 0) (some 66) ?_)))
                intro c66 hc66
                refine iQ 1 (iE 76 [(1, Ba neg), (3, .d (.sl (nd (r)) (dg (digs (r))))), (4, Ia ((n : Int))), (5, Ba more), (12, Ba c66), (13, .d (.sl (nd (5 * 10 ^ z25.toNat)) (dg (digs (5 * 10 ^ z25.toNat))))), (14, Ia d), (15, Ba false), (22, Ba vb22), (28, Ba vb28), (36, Ba vb36), (47, Ia m), (48, Ba false), (59, Ba false), (63, Ba true)] [] ?_)
                refine vc_ret (block_r (seq_r (iR (Bv c66) ?_)))
                exact ⟨_, rfl, by rw [hlaw]; clear hlaw; simp_all <;> omega⟩
            · replace hc60 := bt hc60
              refine iT (vc_seqr rfl (iQ 1 (iB .geq 3 (.int .i64 d) (.int .i64 0) (some 62) ?_)))
              intro c62 hc62
              refine iQ 1 (iE 76 [(1, Ba neg), (3, .d (.sl (nd (r)) (dg (digs (r))))), (4, Ia ((n : Int))), (5, Ba more), (12, Ba c62), (13, .d (.sl (nd (5 * 10 ^ z25.toNat)) (dg (digs (5 * 10 ^ z25.toNat))))), (14, Ia d), (15, Ba false), (22, Ba vb22), (28, Ba vb28), (36, Ba vb36), (47, Ia m), (48, Ba false), (59, Ba true)] [] ?_)
              refine vc_ret (block_r (seq_r (iR (Bv c62) ?_)))
              exact ⟨_, rfl, by rw [hlaw]; clear hlaw; simp_all <;> omega⟩
          · replace hc49 := bt hc49
            refine iT (vc_seqr rfl (iQ 1 (iB .gtr 3 (.int .i64 d) (.int .i64 0) (some 51) ?_)))
            intro c51 hc51
            refine iQ 1 ?_
            cases c51
            · replace hc51 := bf hc51
              refine iQ 1 (iB .eql 3 (.int .i64 d) (.int .i64 0) (some 54) ?_)
              intro c54 hc54
              refine iQ 1 ?_
              cases c54
              · replace hc54 := bf hc54
                refine iQ 4 (iE 76 [(1, Ba neg), (3, .d (.sl (nd (r)) (dg (digs (r))))), (4, Ia ((n : Int))), (5, Ba more), (12, Ba false), (13, .d (.sl (nd (5 * 10 ^ z25.toNat)) (dg (digs (5 * 10 ^ z25.toNat))))), (14, Ia d), (22, Ba vb22), (28, Ba vb28), (36, Ba vb36), (47, Ia m), (48, Ba true)] [] ?_)
                refine vc_ret (block_r (seq_r (iR (Bv false) ?_)))
                exact ⟨_, rfl, by rw [hlaw]; clear hlaw; simp_all <;> omega⟩
              · replace hc54 := bt hc54
                refine iQ 4 (iE 76 [(1, Ba neg), (3, .d (.sl (nd (r)) (dg (digs (r))))), (4, Ia ((n : Int))), (5, Ba more), (12, Ba false), (13, .d (.sl (nd (5 * 10 ^ z25.toNat)) (dg (digs (5 * 10 ^ z25.toNat))))), (14, Ia d), (22, Ba vb22), (28, Ba vb28), (36, Ba vb36), (47, Ia m), (48, Ba true)] [] ?_)
                refine vc_ret (block_r (seq_r (iR (Bv false) ?_)))
                exact ⟨_, rfl, by rw [hlaw]; clear hlaw; simp_all <;> omega⟩
            · replace hc51 := bt hc51
              refine iQ 7 (iE 76 [(1, Ba neg), (3, .d (.sl (nd (r)) (dg (digs (r))))), (4, Ia ((n : Int))), (5, Ba more), (12, Ba true), (13, .d (.sl (nd (5 * 10 ^ z25.toNat)) (dg (digs (5 * 10 ^ z25.toNat))))), (14, Ia d), (22, Ba vb22), (28, Ba vb28), (36, Ba vb36), (47, Ia m), (48, Ba true)] [] ?_)
              refine vc_ret (block_r (seq_r (iR (Bv true) ?_)))
              exact ⟨_, rfl, by rw [hlaw]; clear hlaw; simp_all <;> omega⟩
        · replace hc39 := bt hc39
          refine iQ 1 (vcI_idx1 (q := 0) (n := (nd (q))) (cs := (dg (digs (q)))) (d := .v (.int .i64 (((dig q 0 : Nat) : Int)))) (dst := (some 42)) (by kernel_rfl) (by omega) (by exact dg_get (digs_get? (by omega))) ?_)
          refine iQ 1 (iB .rem 3 (.int .i64 (((dig q 0 : Nat) : Int))) (.int .i64 2) (some 44) ?_)
          refine And.intro (by omega) ?_
          intro z44 hz44
          have ho := dig_odd hz44; rw [← hO] at ho; clear hO hz44
          refine iB .eql 3 (.int .i64 z44) (.int .i64 1) (some 45) ?_
          intro c45 hc45
          refine iQ 2 (iE 76 [(0, Ia m), (1, Ba neg), (3, .d (.sl (nd (r)) (dg (digs (r))))), (4, Ia ((n : Int))), (5, Ba more), (12, Ba false), (13, .d (.sl (nd (5 * 10 ^ z25.toNat)) (dg (digs (5 * 10 ^ z25.toNat))))), (14, Ia d), (15, Ba c45), (22, Ba vb22), (28, Ba vb28), (36, Ba vb36)] [] ?_)
          refine vc_seq (vc_seqr rfl (iQ 1 (iE 76 [(1, Ba neg), (3, .d (.sl (nd (r)) (dg (digs (r))))), (4, Ia ((n : Int))), (5, Ba more), (12, Ba false), (13, .d (.sl (nd (5 * 10 ^ z25.toNat)) (dg (digs (5 * 10 ^ z25.toNat))))), (14, Ia d), (15, Ba c45), (22, Ba vb22), (28, Ba vb28), (36, Ba vb36), (47, Ia m)] [] ?_)))
          refine vc_block (vc_seqr rfl (iB .eql 3 (.int .i64 m) (.int .i64 1) (some 49) ?_))
          intro c49 hc49
          refine iQ 1 (iE 76 [(1, Ba neg), (3, .d (.sl (nd (r)) (dg (digs (r))))), (4, Ia ((n : Int))), (5, Ba more), (12, Ba false), (13, .d (.sl (nd (5 * 10 ^ z25.toNat)) (dg (digs (5 * 10 ^ z25.toNat))))), (14, Ia d), (15, Ba c45), (22, Ba vb22), (28, Ba vb28), (36, Ba vb36), (47, Ia m), (48, Ba c49)] [] ?_)
          cases c49
          · replace hc49 := bf hc49
            refine iF (vc_seqr rfl (iB .eql 3 (.int .i64 m) (.int .i64 2) (some 60) ?_))
            intro c60 hc60
            refine iQ 1 (iE 76 [(1, Ba neg), (3, .d (.sl (nd (r)) (dg (digs (r))))), (4, Ia ((n : Int))), (5, Ba more), (12, Ba false), (13, .d (.sl (nd (5 * 10 ^ z25.toNat)) (dg (digs (5 * 10 ^ z25.toNat))))), (14, Ia d), (15, Ba c45), (22, Ba vb22), (28, Ba vb28), (36, Ba vb36), (47, Ia m), (48, Ba false), (59, Ba c60)] [] ?_)
            cases c60
            · replace hc60 := bf hc60
              refine iF (vc_seqr rfl (iB .eql 3 (.int .i64 m) (.int .i64 3) (some 64) ?_))
              intro c64 hc64
              refine iQ 1 (iE 76 [(1, Ba neg), (3, .d (.sl (nd (r)) (dg (digs (r))))), (4, Ia ((n : Int))), (5, Ba more), (12, Ba false), (13, .d (.sl (nd (5 * 10 ^ z25.toNat)) (dg (digs (5 * 10 ^ z25.toNat))))), (14, Ia d), (15, Ba c45), (22, Ba vb22), (28, Ba vb28), (36, Ba vb36), (47, Ia m), (48, Ba false), (59, Ba false), (63, Ba c64)] [] ?_)
              cases c64
              · replace hc64 := bf hc64
                refine iF (vc_seqr rfl (iB .eql 3 (.int .i64 m) (.int .i64 4) (some 68) ?_))
                intro c68 hc68
                refine iQ 1 (iE 76 [(1, Ba neg), (3, .d (.sl (nd (r)) (dg (digs (r))))), (4, Ia ((n : Int))), (5, Ba more), (12, Ba false), (13, .d (.sl (nd (5 * 10 ^ z25.toNat)) (dg (digs (5 * 10 ^ z25.toNat))))), (14, Ia d), (15, Ba c45), (22, Ba vb22), (28, Ba vb28), (36, Ba vb36), (47, Ia m), (48, Ba false), (59, Ba false), (63, Ba false), (67, Ba c68)] [] ?_)
                cases c68
                · replace hc68 := bf hc68
                  refine iF (vc_seqr rfl (iB .eql 3 (.int .i64 m) (.int .i64 6) (some 70) ?_))
                  intro c70 hc70
                  refine iQ 1 (iE 76 [(1, Ba neg), (3, .d (.sl (nd (r)) (dg (digs (r))))), (4, Ia ((n : Int))), (5, Ba more), (12, Ba false), (13, .d (.sl (nd (5 * 10 ^ z25.toNat)) (dg (digs (5 * 10 ^ z25.toNat))))), (14, Ia d), (15, Ba c45), (22, Ba vb22), (28, Ba vb28), (36, Ba vb36), (47, Ia m), (48, Ba false), (59, Ba false), (63, Ba false), (67, Ba false), (69, Ba c70)] [] ?_)
                  cases c70
                  · replace hc70 := bf hc70
                    refine iF (vc_seqr rfl (iB .eql 3 (.int .i64 m) (.int .i64 7) (some 73) ?_))
                    intro c73 hc73
                    refine iQ 1 (iE 76 [(1, Ba neg), (3, .d (.sl (nd (r)) (dg (digs (r))))), (4, Ia ((n : Int))), (5, Ba more), (12, Ba false), (13, .d (.sl (nd (5 * 10 ^ z25.toNat)) (dg (digs (5 * 10 ^ z25.toNat))))), (14, Ia d), (15, Ba c45), (22, Ba vb22), (28, Ba vb28), (36, Ba vb36), (47, Ia m), (48, Ba false), (59, Ba false), (63, Ba false), (67, Ba false), (69, Ba false), (72, Ba c73)] [] ?_)
                    cases c73
                    · replace hc73 := bf hc73
                      refine iF (vc_skip (block_n (seq_n (vc_seqr rfl (iQ 1 (iE 76 [(1, Ba neg), (3, .d (.sl (nd (r)) (dg (digs (r))))), (4, Ia ((n : Int))), (5, Ba more), (12, Ba false), (13, .d (.sl (nd (5 * 10 ^ z25.toNat)) (dg (digs (5 * 10 ^ z25.toNat))))), (14, Ia d), (15, Ba c45), (22, Ba vb22), (28, Ba vb28), (36, Ba vb36), (47, Ia m), (48, Ba false), (59, Ba false), (63, Ba false), (67, Ba false), (69, Ba false), (72, Ba false)] [] ?_))))))
                      refine vc_ret (iR (Bv false) ?_)
                      exact ⟨_, rfl, by rw [hlaw]; clear hlaw; simp_all <;> omega⟩
                    · replace hc73 := bt hc73
                      refine iT (vc_seqr rfl (iQ 1 (iU .not (.bool neg) (some 75) ?_)))
                      intro c75 hc75
                      refine iQ 1 (iE 76 [(1, Ba neg), (3, .d (.sl (nd (r)) (dg (digs (r))))), (4, Ia ((n : Int))), (5, Ba more), (12, Ba c75), (13, .d (.sl (nd (5 * 10 ^ z25.toNat)) (dg (digs (5 * 10 ^ z25.toNat))))), (14, Ia d), (15, Ba c45), (22, Ba vb22), (28, Ba vb28), (36, Ba vb36), (47, Ia m), (48, Ba false), (59, Ba false), (63, Ba false), (67, Ba false), (69, Ba false), (72, Ba true)] [] ?_)
                      refine vc_ret (block_r (seq_r (iR (Bv c75) ?_)))
                      exact ⟨_, rfl, by rw [hlaw]; clear hlaw; simp_all <;> omega⟩
                  · replace hc70 := bt hc70
                    refine iT (vc_seqr rfl (iQ 2 (iE 76 [(1, Ba neg), (3, .d (.sl (nd (r)) (dg (digs (r))))), (4, Ia ((n : Int))), (5, Ba more), (12, Ba neg), (13, .d (.sl (nd (5 * 10 ^ z25.toNat)) (dg (digs (5 * 10 ^ z25.toNat))))), (14, Ia d), (15, Ba c45), (22, Ba vb22), (28, Ba vb28), (36, Ba vb36), (47, Ia m), (48, Ba false), (59, Ba false), (63, Ba false), (67, Ba false), (69, Ba true)] [] ?_)))
                    refine vc_ret (block_r (seq_r (iR (Bv neg) ?_)))
                    exact ⟨_, rfl, by rw [hlaw]; clear hlaw; simp_all <;> omega⟩
                · replace hc68 := bt hc68
                  refine iT (vc_seqr rfl (iQ 1 (iE 76 [(1, Ba neg), (3, .d (.sl (nd (r)) (dg (digs (r))))), (4, Ia ((n : Int))), (5, Ba more), (12, Ba true), (13, .d (.sl (nd (5 * 10 ^ z25.toNat)) (dg (digs (5 * 10 ^ z25.toNat))))), (14, Ia d), (15, Ba c45), (22, Ba vb22), (28, Ba vb28), (36, Ba vb36), (47, Ia m), (48, Ba false), (59, Ba false), (63, Ba false), (67, Ba true)] [] ?_)))
                  refine vc_ret (block_r (seq_r (iR (Bv true) ?_)))
                  exact ⟨_, rfl, by rw [hlaw]; clear hlaw; simp_all <;> omega⟩
              · replace hc64 := bt hc64
                refine iT (vc_seqr rfl (iQ 1 (iB .gtr 3 (.int .i64 d) (.int .i64 0) (some 66) ?_)))
                intro c66 hc66
                refine iQ 1 (iE 76 [(1, Ba neg), (3, .d (.sl (nd (r)) (dg (digs (r))))), (4, Ia ((n : Int))), (5, Ba more), (12, Ba c66), (13, .d (.sl (nd (5 * 10 ^ z25.toNat)) (dg (digs (5 * 10 ^ z25.toNat))))), (14, Ia d), (15, Ba c45), (22, Ba vb22), (28, Ba vb28), (36, Ba vb36), (47, Ia m), (48, Ba false), (59, Ba false), (63, Ba true)] [] ?_)
                refine vc_ret (block_r (seq_r (iR (Bv c66) ?_)))
                exact ⟨_, rfl, by rw [hlaw]; clear hlaw; simp_all <;> omega⟩
            · replace hc60 := bt hc60
              refine iT (vc_seqr rfl (iQ 1 (iB .geq 3 (.int .i64 d) (.int .i64 0) (some 62) ?_)))
              intro c62 hc62
              refine iQ 1 (iE 76 [(1, Ba neg), (3, .d (.sl (nd (r)) (dg (digs (r))))), (4, Ia ((n : Int))), (5, Ba more), (12, Ba c62), (13, .d (.sl (nd (5 * 10 ^ z25.toNat)) (dg (digs (5 * 10 ^ z25.toNat))))), (14, Ia d), (15, Ba c45), (22, Ba vb22), (28, Ba vb28), (36, Ba vb36), (47, Ia m), (48, Ba false), (59, Ba true)] [] ?_)
              refine vc_ret (block_r (seq_r (iR (Bv c62) ?_)))
              exact ⟨_, rfl, by rw [hlaw]; clear hlaw; simp_all <;> omega⟩
          · replace hc49 := bt hc49
            refine iT (vc_seqr rfl (iQ 1 (iB .gtr 3 (.int .i64 d) (.int .i64 0) (some 51) ?_)))
            intro c51 hc51
            refine iQ 1 ?_
            cases c51
            · replace hc51 := bf hc51
              refine iQ 1 (iB .eql 3 (.int .i64 d) (.int .i64 0) (some 54) ?_)
              intro c54 hc54
              refine iQ 1 ?_
              cases c54
              · replace hc54 := bf hc54
                refine iQ 4 (iE 76 [(1, Ba neg), (3, .d (.sl (nd (r)) (dg (digs (r))))), (4, Ia ((n : Int))), (5, Ba more), (12, Ba false), (13, .d (.sl (nd (5 * 10 ^ z25.toNat)) (dg (digs (5 * 10 ^ z25.toNat))))), (14, Ia d), (22, Ba vb22), (28, Ba vb28), (36, Ba vb36), (47, Ia m), (48, Ba true)] [] ?_)
                refine vc_ret (block_r (seq_r (iR (Bv false) ?_)))
                exact ⟨_, rfl, by rw [hlaw]; clear hlaw; simp_all <;> omega⟩
              · replace hc54 := bt hc54
                refine iQ 4 (iE 76 [(1, Ba neg), (3, .d (.sl (nd (r)) (dg (digs (r))))), (4, Ia ((n : Int))), (5, Ba more), (12, Ba c45), (13, .d (.sl (nd (5 * 10 ^ z25.toNat)) (dg (digs (5 * 10 ^ z25.toNat))))), (14, Ia d), (22, Ba vb22), (28, Ba vb28), (36, Ba vb36), (47, Ia m), (48, Ba true)] [] ?_)
                refine vc_ret (block_r (seq_r (iR (Bv c45) ?_)))
                exact ⟨_, rfl, by rw [hlaw]; clear hlaw; simp_all <;> omega⟩
            · replace hc51 := bt hc51
              refine iQ 7 (iE 76 [(1, Ba neg), (3, .d (.sl (nd (r)) (dg (digs (r))))), (4, Ia ((n : Int))), (5, Ba more), (12, Ba true), (13, .d (.sl (nd (5 * 10 ^ z25.toNat)) (dg (digs (5 * 10 ^ z25.toNat))))), (14, Ia d), (22, Ba vb22), (28, Ba vb28), (36, Ba vb36), (47, Ia m), (48, Ba true)] [] ?_)
              refine vc_ret (block_r (seq_r (iR (Bv true) ?_)))
              exact ⟨_, rfl, by rw [hlaw]; clear hlaw; simp_all <;> omega⟩
      intro hmid
      refine vc_seqr rfl (iQ 1 (iB .eql 3 (.int .i64 c) (.int .i64 0) (some 33) ?_))
      intro c33 hc33
      refine iQ 1 ?_
      cases c33
      · replace hc33 := bf hc33
        refine iQ 2 (iE 76 [(0, Ia m), (1, Ba neg), (2, .d (.sl (nd (q)) (dg (digs (q))))), (3, .d (.sl (nd (r)) (dg (digs (r))))), (4, Ia ((n : Int))), (5, Ba more), (12, Ba false), (13, .d (.sl (nd (5 * 10 ^ z25.toNat)) (dg (digs (5 * 10 ^ z25.toNat))))), (14, Ia c), (22, Ba vb22), (28, Ba vb28), (36, Ba false)] [] ?_)
        refine iF (vc_skip ?_)
        refine mid_n hmid (c, false) (up_c2 hr hRi hc0 (.inr ⟨fun h => hc33 h.1, rfl⟩)) (by kernel_rfl)
      · replace hc33 := bt hc33
        refine iQ 2 (iE 76 [(0, Ia m), (1, Ba neg), (2, .d (.sl (nd (q)) (dg (digs (q))))), (3, .d (.sl (nd (r)) (dg (digs (r))))), (4, Ia ((n : Int))), (5, Ba more), (12, Ba false), (13, .d (.sl (nd (5 * 10 ^ z25.toNat)) (dg (digs (5 * 10 ^ z25.toNat))))), (14, Ia c), (22, Ba vb22), (28, Ba vb28), (36, Ba more)] [] ?_)
        cases more
        · skip
          refine iF (vc_skip ?_)
          refine mid_n hmid (c, false) (up_c2 hr hRi hc0 (.inr ⟨fun h => by simpa using h.2, rfl⟩)) (by kernel_rfl)
        · skip
          refine iT (vc_reg rfl (iQ 1 (iE 76 [(0, Ia m), (1, Ba neg), (2, .d (.sl (nd (q)) (dg (digs (q))))), (3, .d (.sl (nd (r)) (dg (digs (r))))), (4, Ia ((n : Int))), (5, Ba true), (12, Ba false), (13, .d (.sl (nd (5 * 10 ^ z25.toNat)) (dg (digs (5 * 10 ^ z25.toNat))))), (14, Ia 1), (22, Ba vb22), (28, Ba vb28), (36, Ba true)] [] ?_)))
          refine mid_n hmid (1, true) (up_c2 hr hRi hc0 (.inl ⟨hc33, rfl, rfl⟩)) (by kernel_rfl)
    intro hmid
    refine vc_seqr rfl (iQ 1 (iB .lss 3 (.int .i64 ((n : Int))) (.int .i64 1) (some 28) ?_))
    intro c28 hc28
    refine iE 76 [(0, Ia m), (1, Ba neg), (2, .d (.sl (nd (q)) (dg (digs (q))))), (3, .d (.sl (nd (r)) (dg (digs (r))))), (4, Ia ((n : Int))), (5, Ba more), (12, Ba false), (13, .d (.sl (nd (5 * 10 ^ z25.toNat)) (dg (digs (5 * 10 ^ z25.toNat))))), (14, Ia 1), (22, Ba vb22), (28, Ba c28)] [] ?_
    cases c28
    · replace hc28 := bf hc28
      have e25 : z25.toNat = n - 1 := by omega
      refine iF (vc_reg rfl (iQ 2 (iC 65 [.sl (nd (r)) (dg (digs (r))), .sl (nd (5 * 10 ^ z25.toNat)) (dg (digs (5 * 10 ^ z25.toNat)))] (some 31) (c_Cmp (a := r) (b := 5 * 10 ^ z25.toNat) (by omega) (by have := nd_mul 5 (10 ^ z25.toNat); have : nd (10 ^ z25.toNat) ≤ z25.toNat + 1 := nd_le _ _ (Nat.pow_lt_pow_right (by decide) (by omega)); have := nd_small (show 5 < 10 by decide); omega)) ?_)))
      rintro _ rfl
      refine iQ 1 (iE 76 [(0, Ia m), (1, Ba neg), (2, .d (.sl (nd (q)) (dg (digs (q))))), (3, .d (.sl (nd (r)) (dg (digs (r))))), (4, Ia ((n : Int))), (5, Ba more), (12, Ba false), (13, .d (.sl (nd (5 * 10 ^ z25.toNat)) (dg (digs (5 * 10 ^ z25.toNat))))), (14, Ia (cmpN r (5 * 10 ^ z25.toNat))), (22, Ba vb22), (28, Ba false)] [] ?_)
      refine mid_n hmid (cmpN r (5 * 10 ^ z25.toNat), false) (.inl ⟨by omega, by rw [e25]⟩) (by kernel_rfl)
    · replace hc28 := bt hc28
      refine iT (vc_reg rfl (iQ 1 (iE 76 [(0, Ia m), (1, Ba neg), (2, .d (.sl (nd (q)) (dg (digs (q))))), (3, .d (.sl (nd (r)) (dg (digs (r))))), (4, Ia ((n : Int))), (5, Ba more), (12, Ba false), (13, .d (.sl (nd (5 * 10 ^ z25.toNat)) (dg (digs (5 * 10 ^ z25.toNat))))), (14, Ia (-1)), (22, Ba vb22), (28, Ba true)] [] ?_)))
      refine mid_n hmid (-1, true) (.inr ⟨by omega, rfl⟩) (by kernel_rfl)
  intro hmid
  refine vc_seqr rfl (iQ 2 (iB .eql 3 (.int .i64 (((nd (r) : Nat) : Int))) (.int .i64 0) (some 18) ?_))
  intro c18 hc18
  refine iQ 1 ?_
  cases c18
  · replace hc18 := bf hc18
    refine iQ 3 (iE 76 [(0, Ia m), (1, Ba neg), (2, .d (.sl (nd (q)) (dg (digs (q))))), (3, .d (.sl (nd (r)) (dg (digs (r))))), (4, Ia ((n : Int))), (5, Ba more), (12, Ba false), (22, Ba false)] [] ?_)
    refine iF (vc_skip ?_)
    refine mid_n hmid false (.inl (fun h => hc18 (by rw [h, nd_zero]; rfl))) (by kernel_rfl)
  · replace hc18 := bt hc18
    refine iQ 1 (iU .not (.bool more) (some 21) ?_)
    have hr0 : r = 0 := nd_eq0.1 (by omega)
    intro c21 hc21
    refine iQ 1 (iE 76 [(0, Ia m), (1, Ba neg), (2, .d (.sl (nd (q)) (dg (digs (q))))), (3, .d (.sl (nd (r)) (dg (digs (r))))), (4, Ia ((n : Int))), (5, Ba more), (12, Ba false), (22, Ba c21)] [] ?_)
    cases c21
    · replace hc21 := bf hc21
      refine iF (vc_skip ?_)
      refine mid_n hmid false (.inr (by simpa using hc21)) (by kernel_rfl)
    · replace hc21 := bt hc21
      refine iT (vc_seqr rfl (iQ 1 (iE 76 [(0, Ia m), (1, Ba neg), (2, .d (.sl (nd (q)) (dg (digs (q))))), (3, .d (.sl (nd (r)) (dg (digs (r))))), (4, Ia ((n : Int))), (5, Ba more), (12, Ba false), (22, Ba true)] [] ?_)))
      refine vc_ret (seq_r (iR (Bv false) ?_))
      exact ⟨_, rfl, by obtain ⟨e1, e2⟩ := up_none hr0 hc21 hRi; rw [e1, e2]; simp [UpP_none]⟩



open Go.RowKit
set_option linter.unusedVariables false
set_option linter.unusedSimpArgs false
set_option maxRecDepth 100000

theorem dval_cut (N k : Nat) (hk : k ≤ nd N) : dval ((digs N).take k) = N % 10 ^ k ∧ dval ((digs N).drop k) = N / 10 ^ k := by
  have e := dval_append ((digs N).take k) ((digs N).drop k)
  rw [List.take_append_drop, dval_digs, List.length_take, Nat.min_eq_left (show k ≤ (digs N).length from hk)] at e
  have h := dval_lt (ds := (digs N).take k) fun d hd => digs_lt (List.mem_of_mem_take hd)
  rw [List.length_take, Nat.min_eq_left (show k ≤ (digs N).length from hk)] at h
  have hp : 0 < 10 ^ k := Nat.pow_pos (by decide)
  clear hk
  generalize dval ((digs N).take k) = A at *
  generalize dval ((digs N).drop k) = B at *
  constructor
  · rw [e, Nat.add_mul_mod_self_left, Nat.mod_eq_of_lt h]
  · rw [e, Nat.add_mul_div_left _ _ hp, Nat.div_eq_of_lt h, Nat.zero_add]
theorem min_cut (N n : Nat) : N % 10 ^ min n (nd N) = N % 10 ^ n ∧ N / 10 ^ min n (nd N) = N / 10 ^ n := by
  rcases Nat.le_total n (nd N) with h | h
  · rw [Nat.min_eq_left h]
    exact ⟨rfl, rfl⟩
  · have h1 := lt_nd N
    have h2 : N < 10 ^ n := Nat.lt_of_lt_of_le h1 (Nat.pow_le_pow_right (by decide) h)
    rw [Nat.min_eq_right h, Nat.mod_eq_of_lt h1, Nat.mod_eq_of_lt h2, Nat.div_eq_of_lt h1, Nat.div_eq_of_lt h2]
    exact ⟨rfl, rfl⟩
theorem c_TrimDrop {N n k : Nat} (hk : k = min n (nd N)) (hl : nd N ≤ 100000000000) : HasC Try.prog 62 [.sl ((digs N).drop k).length (dg ((digs N).drop k))] (fun y => y = .sl (nd (N / 10 ^ n)) (dg (digs (N / 10 ^ n)))) := by
  have e := c_TrimD (ds := (digs N).drop k) (fun d hd => digs_lt (List.mem_of_mem_drop hd)) (by rw [List.length_drop]; have : (digs N).length = nd N := rfl; omega)
  rw [(dval_cut N k (by omega)).2, hk, (min_cut N n).2] at e
  rw [hk]
  exact e
theorem c_TrimTake {N n k : Nat} (hk : k = min n (nd N)) (hl : nd N ≤ 100000000000) : HasC Try.prog 62 [.sl ((digs N).take k).length (dg ((digs N).take k))] (fun y => y = .sl (nd (N % 10 ^ n)) (dg (digs (N % 10 ^ n)))) := by
  have e := c_TrimD (ds := (digs N).take k) (fun d hd => digs_lt (List.mem_of_mem_take hd)) (by rw [List.length_take]; have : (digs N).length = nd N := rfl; omega)
  rw [(dval_cut N k (by omega)).1, hk, (min_cut N n).1] at e
  rw [hk]
  exact e
theorem dg_drop (ds : List Nat) (n : Nat) : (dg ds).drop n = dg (ds.drop n) := by simp [dg]
theorem part_drop {N k : Nat} {K : Int} (hK : K = (k : Int)) (hk : k ≤ nd N) : ((dg (digs N)).drop (K.toNat * 1)).take (((digs N).drop k).length * 1) = dg ((digs N).drop k) := by
  subst hK
  rw [Int.toNat_natCast, Nat.mul_one, Nat.mul_one, dg_drop, dg_take, List.take_length]
theorem part_take {N k : Nat} (hk : k ≤ nd N) : ((dg (digs N)).drop ((0 : Int).toNat * 1)).take (((digs N).take k).length * 1) = dg ((digs N).take k) := by
  have : (digs N).length = nd N := rfl
  rw [show (0 : Int).toNat * 1 = 0 from rfl, List.drop_zero, Nat.mul_one, List.length_take, Nat.min_eq_left (by omega), dg_take]

theorem c_rCut {m e : Int} {neg more : Bool} {N n : Nat} (hN : nd N ≤ 100000) (hn : n ≤ 80000) (he0 : -1000000000000000000 ≤ e) (he1 : e ≤ 1000000000000000000) : HasC Try.prog 18 [.agg [.v (.bool neg), .sl (nd (N)) (dg (digs (N))), .v (.int .i64 e)], .v (.bool more), .v (.int .i64 ((n : Int))), .v (.int .i64 m)] (fun y => y = dRD neg (cutQ m neg N more n) (e + (n : Int))) := by
  refine HasC.of [] (fn := Try.f18) tyOk mixed (fun args w => Try.call18 args w) Try.func18 rfl (by kernel_rfl) (Nat.le_of_ble_eq_true rfl) (⟨_, rfl⟩) ?_
  refine vc_seqr rfl (iQ 2 (iE 52 [(1, Ba more), (2, Ia ((n : Int))), (3, Ia m), (4, .p 4 0), (8, .p 8 0)] [(4, [Bv neg, .sl (nd (N)) (dg (digs (N))), Iv e]), (8, [Bv false, .sl 0 [], Iv 0])] ?_))
  refine vc_seq (vc_seqr rfl (iQ 1 (iB .lss 3 (.int .i64 ((n : Int))) (.int .i64 0) (some 13) ?_)))
  intro c13 hc13
  refine iE 52 [(1, Ba more), (2, Ia ((n : Int))), (3, Ia m), (4, .p 4 0), (8, .p 8 0), (13, Ba c13)] [(4, [Bv neg, .sl (nd (N)) (dg (digs (N))), Iv e]), (8, [Bv false, .sl 0 [], Iv 0])] ?_
  obtain rfl : c13 = false := bff hc13 ((by omega))
  refine iF (vc_skip (seq_n (vc_seqr rfl (iQ 2 (iE 52 [(1, Ba more), (2, Ia ((n : Int))), (3, Ia m), (4, .p 4 0), (8, .p 8 0), (9, Ia ((n : Int))), (13, Ba false)] [(4, [Bv neg, .sl (nd (N)) (dg (digs (N))), Iv e]), (8, [Bv false, .sl 0 [], Iv 0])] ?_)))))
  refine vc_mid 52 (fun (vcx : Nat × Bool) => match vcx with | (k, vb19) => [(1, Ba more), (2, Ia ((n : Int))), (3, Ia m), (4, .p 4 0), (8, .p 8 0), (9, Ia ((k : Int))), (13, Ba false), (19, Ba vb19)]) (fun (vcx : Nat × Bool) => match vcx with | (k, vb19) => [(4, [Bv neg, .sl (nd (N)) (dg (digs (N))), Iv e]), (8, [Bv false, .sl 0 [], Iv 0])]) (fun (vcx : Nat × Bool) => match vcx with | (k, vb19) => k = min n (nd N)) ?_ ?_
  · rintro ⟨k, vb19⟩ hinv
    simp only at hinv
    have hlen : (digs N).length = nd N := rfl
    refine vc_seqr rfl (iQ 3 (vcI_sl (l := ((k : Int))) (u := (((nd (N) : Nat) : Int))) (n := (nd (N))) (cs := (dg (digs (N)))) (z := 1) (m := (((digs N).drop k).length)) (ds := (dg ((digs N).drop k))) (dst := (some 26)) (by kernel_rfl) (by omega) (by rw [List.length_drop]; omega) (part_drop rfl (by omega)) ?_))
    refine iC 62 [.sl (((digs N).drop k).length) (dg ((digs N).drop k))] (some 27) (c_TrimDrop (N := N) (n := n) hinv (by omega)) ?_
    rintro _ rfl
    refine iQ 1 (iE 52 [(1, Ba more), (2, Ia ((n : Int))), (3, Ia m), (4, .p 4 0), (8, .p 8 0), (9, Ia ((k : Int))), (10, .d (.sl (nd (N / 10 ^ n)) (dg (digs (N / 10 ^ n))))), (13, Ba false), (19, Ba vb19)] [(4, [Bv neg, .sl (nd (N)) (dg (digs (N))), Iv e]), (8, [Bv false, .sl 0 [], Iv 0])] ?_)
    refine vc_seqr rfl (iQ 3 (vcI_sl (l := 0) (u := ((k : Int))) (n := (nd (N))) (cs := (dg (digs (N)))) (z := 1) (m := (((digs N).take k).length)) (ds := (dg ((digs N).take k))) (dst := (some 31)) (by kernel_rfl) (by omega) (by rw [List.length_take]; omega) (part_take (by omega)) ?_))
    refine iC 62 [.sl (((digs N).take k).length) (dg ((digs N).take k))] (some 32) (c_TrimTake (N := N) (n := n) hinv (by omega)) ?_
    rintro _ rfl
    have hq1 : nd (N / 10 ^ n) ≤ 100000 := Nat.le_trans (nd_mono (Nat.div_le_self _ _)) hN
    have hq2 : nd (N % 10 ^ n) ≤ 100000 := Nat.le_trans (nd_mono (Nat.mod_le _ _)) hN
    refine iQ 1 (iE 52 [(1, Ba more), (2, Ia ((n : Int))), (3, Ia m), (4, .p 4 0), (8, .p 8 0), (9, Ia ((k : Int))), (10, .d (.sl (nd (N / 10 ^ n)) (dg (digs (N / 10 ^ n))))), (11, .d (.sl (nd (N % 10 ^ n)) (dg (digs (N % 10 ^ n))))), (13, Ba false), (19, Ba vb19)] [(4, [Bv neg, .sl (nd (N)) (dg (digs (N))), Iv e]), (8, [Bv false, .sl 0 [], Iv 0])] ?_)
    refine vc_seq (vc_seqr rfl (iQ 7 (iC 63 [Iv m, Bv neg, .sl (nd (N / 10 ^ n)) (dg (digs (N / 10 ^ n))), .sl (nd (N % 10 ^ n)) (dg (digs (N % 10 ^ n))), Iv ((n : Int)), Bv more] (some 40) (c_rup (m := m) (neg := neg) (more := more) (Nat.mod_lt _ (Nat.pow_pos (show 0 < 10 by decide))) hn (by omega) (by omega)) ?_)))
    rintro _ ⟨u, rfl, hu⟩
    rw [lastD_mod] at hu
    have hu' : upB m neg N more n = u := upB_eq (h := 0) (l := N / 10 ^ n) (by simp) rfl (by simp [restP_mod]) (by simp) hu
    refine iE 52 [(2, Ia ((n : Int))), (4, .p 4 0), (8, .p 8 0), (9, Ia ((k : Int))), (10, .d (.sl (nd (N / 10 ^ n)) (dg (digs (N / 10 ^ n))))), (13, Ba false), (19, Ba vb19), (40, Ba u)] [(4, [Bv neg, .sl (nd (N)) (dg (digs (N))), Iv e]), (8, [Bv false, .sl 0 [], Iv 0])] ?_
    cases u
    · replace hu := bf hu
      refine iF (vc_skip (seq_n (vc_seqr rfl (iQ 6 (iB .add 3 (.int .i64 e) (.int .i64 ((n : Int))) (some 50) ?_)))))
      intro z50 hz50
      try replace hz50 := hz50.i64 (by omega)
      refine iQ 2 (iE 52 [(2, Ia ((n : Int))), (4, .p 4 0), (8, .p 8 0), (9, Ia ((k : Int))), (10, .d (.sl (nd (N / 10 ^ n)) (dg (digs (N / 10 ^ n))))), (13, Ba false), (19, Ba vb19), (40, Ba false)] [(4, [Bv neg, .sl (nd (N)) (dg (digs (N))), Iv e]), (8, [Bv neg, .sl (nd (N / 10 ^ n)) (dg (digs (N / 10 ^ n))), Iv z50])] ?_)
      refine vc_ret (iR (.agg [Bv neg, .sl (nd (N / 10 ^ n)) (dg (digs (N / 10 ^ n))), Iv z50]) ?_)
      rw [cutQ, hu', ← hz50]; rfl
    · replace hu := bt hu
      refine iT (vc_reg rfl (iQ 2 (iC 64 [.sl (nd (N / 10 ^ n)) (dg (digs (N / 10 ^ n))), .sl 1 [.v (.int .i64 1)]] (some 43) (c_Add1 (by omega)) ?_)))
      rintro _ rfl
      refine iQ 1 (iE 52 [(2, Ia ((n : Int))), (4, .p 4 0), (8, .p 8 0), (9, Ia ((k : Int))), (10, .d (.sl (nd (N / 10 ^ n + 1)) (dg (digs (N / 10 ^ n + 1))))), (13, Ba false), (19, Ba vb19), (40, Ba true)] [(4, [Bv neg, .sl (nd (N)) (dg (digs (N))), Iv e]), (8, [Bv false, .sl 0 [], Iv 0])] ?_)
      refine seq_n (vc_seqr rfl (iQ 6 (iB .add 3 (.int .i64 e) (.int .i64 ((n : Int))) (some 50) ?_)))
      intro z50 hz50
      try replace hz50 := hz50.i64 (by omega)
      refine iQ 2 (iE 52 [(2, Ia ((n : Int))), (4, .p 4 0), (8, .p 8 0), (9, Ia ((k : Int))), (10, .d (.sl (nd (N / 10 ^ n + 1)) (dg (digs (N / 10 ^ n + 1))))), (13, Ba false), (19, Ba vb19), (40, Ba true)] [(4, [Bv neg, .sl (nd (N)) (dg (digs (N))), Iv e]), (8, [Bv neg, .sl (nd (N / 10 ^ n + 1)) (dg (digs (N / 10 ^ n + 1))), Iv z50])] ?_)
      refine vc_ret (iR (.agg [Bv neg, .sl (nd (N / 10 ^ n + 1)) (dg (digs (N / 10 ^ n + 1))), Iv z50]) ?_)
      rw [cutQ, hu', ← hz50]; rfl
  intro hmid
  refine vc_seqr rfl (iQ 4 (iB .gtr 3 (.int .i64 ((n : Int))) (.int .i64 (((nd (N) : Nat) : Int))) (some 19) ?_))
  intro c19 hc19
  refine iE 52 [(1, Ba more), (2, Ia ((n : Int))), (3, Ia m), (4, .p 4 0), (8, .p 8 0), (9, Ia ((n : Int))), (13, Ba false), (19, Ba c19)] [(4, [Bv neg, .sl (nd (N)) (dg (digs (N))), Iv e]), (8, [Bv false, .sl 0 [], Iv 0])] ?_
  cases c19
  · replace hc19 := bf hc19
    refine iF (vc_skip ?_)
    refine mid_n hmid (n, false) (by omega) (by kernel_rfl)
  · replace hc19 := bt hc19
    refine iT (vc_reg rfl (iQ 4 (iE 52 [(1, Ba more), (2, Ia ((n : Int))), (3, Ia m), (4, .p 4 0), (8, .p 8 0), (9, Ia (((nd (N) : Nat) : Int))), (13, Ba false), (19, Ba true)] [(4, [Bv neg, .sl (nd (N)) (dg (digs (N))), Iv e]), (8, [Bv false, .sl 0 [], Iv 0])] ?_)))
    refine mid_n hmid (nd N, true) (by omega) (by kernel_rfl)

def dRFit (t : T4) : DV := .tup [dRD t.1 t.2.1 t.2.2.1, .v (.bool t.2.2.2)]
theorem dRFit_0 (e : Int) (ok : Bool) : dRFit (false, 0, e, ok) = .tup [.agg [.v (.bool false), .sl 0 [], .v (.int .i64 e)], .v (.bool ok)] := by
  show DV.tup [dRD false 0 e, _] = _
  rw [dRD_0]
theorem E34_nd {n : Nat} : E34 ≤ n ↔ 34 < nd n := by
  constructor
  · intro h
    exact nd_gt h
  · intro h
    rcases Nat.lt_or_ge n E34 with k | k
    · have := nd_le 34 n k
      omega
    · exact k
theorem rfit_ex {P : Program} {f : FuncId} {ds : List DV} {t : T4} (h : HasC P f ds (fun y => y = dRFit t)) : HasC P f ds (fun y => ∃ g k x ok, y = .tup [dRD g k x, .v (.bool ok)] ∧ t = (g, k, x, ok)) :=
  h.mono fun y hy => ⟨_, _, _, _, hy, rfl⟩
theorem dfit_ex {P : Program} {f : FuncId} {ds : List DV} {t : T4} (h : HasC P f ds (fun y => y = dFit t)) : HasC P f ds (fun y => ∃ g k x ok, y = .tup [dDec g k x, .v (.bool ok)] ∧ t = (g, k, x, ok)) :=
  h.mono fun y hy => ⟨_, _, _, _, hy, rfl⟩
theorem mulT_U {t u : T4} (h1 : t.2.1 < E34) (h2 : u.2.1 < E34) : mulT t u = fitU 1 (t.1 != u.1) (t.2.1 * u.2.1) (t.2.2.1 + u.2.2.1) false :=
  fitT_U _ _ _ _ (by have := nd_mul t.2.1 u.2.1; have := nd_le 34 _ h1; have := nd_le 34 _ h2; omega)

end Go.Proofs.Ytfjcblmmfkgkoaa
