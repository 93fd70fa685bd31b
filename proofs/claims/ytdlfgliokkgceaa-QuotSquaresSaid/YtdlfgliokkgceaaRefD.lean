/-
  The reference's rounding: casuistref02.
-/
import Derived.Test.YtdlfgliokkgceaaDec8
namespace Go.Proofs.Ytdlfgliokkgceaa
open Go.RowKit
set_option linter.unusedVariables false
set_option linter.unusedSimpArgs false
set_option maxRecDepth 100000

def dRD (neg : Bool) (n : Nat) (e : Int) : DV := .agg [.v (.bool neg), .sl (nd n) (dg (digs n)), .v (.int .i64 e)]
theorem dRD_0 (g : Bool) (e : Int) : dRD g 0 e = .agg [.v (.bool g), .sl 0 [], .v (.int .i64 e)] := by
  unfold dRD
  rw [dn_zero]
theorem nd_eq0 {n : Nat} : nd n = 0 ↔ n = 0 := by
  constructor
  · intro h
    by_cases k : n = 0
    · exact k
    · have := nd_pos k
      omega
  · rintro rfl
    exact nd_zero

theorem c_ShiftX {a : Nat} {X : Int} (ha : nd a ≤ 900000) (hn : X ≤ 90000) : HasC Try.prog 36 [.sl (nd (a)) (dg (digs (a))), .v (.int .i64 X)] (fun y => y = .sl (nd (a * 10 ^ X.toNat)) (dg (digs (a * 10 ^ X.toNat)))) := by
  refine HasC.of [] (fn := Try.f36) tyOk mixed (fun args w => Try.call36 args w) Try.func36 rfl (by kernel_rfl) (Nat.le_of_ble_eq_true rfl) (⟨_, rfl⟩) ?_
  refine vc_seqr rfl ?_
  refine vcI_q 1 (by kernel_rfl) ?_
  refine vcI_end 20 [(0, .d (.sl (nd (a)) (dg (digs (a))))), (1, .d (.v (.int .i64 X))), (4, .w (.sl 0 []) none)] [] (by kernel_rfl) (by kernel_rfl) (by kernel_rfl) ?_
  refine vc_seqr rfl ?_
  refine vcI_q 1 (by kernel_rfl) ?_
  refine vcI_end 20 [(0, .d (.sl (nd (a)) (dg (digs (a))))), (1, .d (.v (.int .i64 X))), (4, .w (.sl 0 []) none), (5, .w (.sl 0 []) none)] [] (by kernel_rfl) (by kernel_rfl) (by kernel_rfl) ?_
  refine vc_seq ?_
  refine vc_seqr rfl ?_
  refine vcI_q 1 (by kernel_rfl) ?_
  refine vcI_end 20 [(0, .d (.sl (nd (a)) (dg (digs (a))))), (1, .d (.v (.int .i64 X))), (4, .w (.sl 0 []) none), (5, .w (.sl 0 []) none), (6, .d (.v (.int .i64 0)))] [] (by kernel_rfl) (by kernel_rfl) (by kernel_rfl) ?_
  refine vc_block ?_
  refine vc_loop 20 (fun (vcx : Nat) => match vcx with | k => [(0, .d (.sl (nd (a)) (dg (digs (a))))), (1, .d (.v (.int .i64 X))), (4, .w (.sl 0 []) none), (5, .w (.sl ((List.replicate k 0).length) (dg (List.replicate k 0))) (some ⟨5, 0, 3, 1⟩)), (6, .d (.v (.int .i64 ((k : Int)))))]) (fun (vcx : Nat) => match vcx with | k => []) (fun (vcx : Nat) => match vcx with | k => k ≤ X.toNat) (fun (vcx : Nat) => match vcx with | k => X.toNat - k) 0 (Nat.zero_le _) (by kernel_rfl) (by kernel_rfl) ?_
  rintro k hinv
  simp only at hinv
  refine vc_seq ?_
  refine vc_seqr rfl ?_
  refine vcI_q 2 (by kernel_rfl) ?_
  refine vcI_bin (op := .lss) (t := 3) (a := .int .i64 ((k : Int))) (b := .int .i64 X) (dst := (some 9)) (by kernel_rfl) ?_
  intro c9 hc9
  refine vcI_end 20 [(0, .d (.sl (nd (a)) (dg (digs (a))))), (1, .d (.v (.int .i64 X))), (4, .w (.sl 0 []) none), (5, .w (.sl ((List.replicate k 0).length) (dg (List.replicate k 0))) (some ⟨5, 0, 3, 1⟩)), (6, .d (.v (.int .i64 ((k : Int))))), (9, .d (.v (.bool c9)))] [] (by kernel_rfl) (by kernel_rfl) (by kernel_rfl) ?_
  cases c9
  · replace hc9 := bf hc9
    have hkn : k = X.toNat := by omega
    refine vc_condf (by kernel_rfl) ?_
    refine vc_exit ?_
    refine seq_x ?_
    refine loop_x ?_
    refine block_x rfl ?_
    refine seq_n ?_
    refine vc_seqr rfl ?_
    refine vcI_q 2 (by kernel_rfl) ?_
    refine vcI_app (n := ((List.replicate k 0).length)) (cs := (dg (List.replicate k 0))) (m := (nd (a))) (ds := (dg (digs (a)))) (N := ((List.replicate k 0 ++ digs a).length)) (es := (dg (List.replicate k 0 ++ digs a))) (j := 5) (e := 3) (z := 1) (dst := (some 17)) (by kernel_rfl) (by first | rfl | omega | (rw [Nat.mul_one]; exact dg_len _) | (simp [dg]; done) | (simp [dg]; omega)) (by first | rfl | omega | (rw [Nat.mul_one]; exact dg_len _) | (simp [dg]; done) | (simp [dg]; omega)) (by first | rfl | exact allOne_dg _ | simp [dg, allOne]) (by simp; omega) (by simp [nd]) (by rw [dg_append]) ?_
    refine vcI_q 1 (by kernel_rfl) ?_
    refine vcI_end 20 [(1, .d (.v (.int .i64 X))), (4, .w (.sl 0 []) none), (5, .w (.sl ((List.replicate k 0 ++ digs a).length) (dg (List.replicate k 0 ++ digs a))) (some ⟨5, 0, 3, 1⟩)), (6, .d (.v (.int .i64 ((k : Int))))), (9, .d (.v (.bool false)))] [] (by kernel_rfl) (by kernel_rfl) (by kernel_rfl) ?_
    refine vc_seqr rfl ?_
    refine vcI_q 1 (by kernel_rfl) ?_
    refine vcI_call (f := 56) (ds := [.sl ((List.replicate k 0 ++ digs a).length) (dg (List.replicate k 0 ++ digs a))]) (dst := (some 19)) (by kernel_rfl) (c_TrimD (shift_lt k a) (by rw [List.length_append, ← nd_def]; simp; omega)) ?_
    rintro _ rfl
    refine vcI_q 1 (by kernel_rfl) ?_
    refine vcI_end 20 [(1, .d (.v (.int .i64 X))), (4, .d (.sl (nd (dval (List.replicate k 0 ++ digs a))) (dg (digs (dval (List.replicate k 0 ++ digs a)))))), (5, .w (.sl ((List.replicate k 0 ++ digs a).length) (dg (List.replicate k 0 ++ digs a))) (some ⟨5, 0, 3, 1⟩)), (6, .d (.v (.int .i64 ((k : Int))))), (9, .d (.v (.bool false)))] [] (by kernel_rfl) (by kernel_rfl) (by kernel_rfl) ?_
    refine vc_ret ?_
    refine ret_1 (d := .sl (nd (dval (List.replicate k 0 ++ digs a))) (dg (digs (dval (List.replicate k 0 ++ digs a))))) (by kernel_rfl) ?_
    rw [dval_append, dval_zeros, dval_digs, List.length_replicate, hkn, Nat.zero_add, Nat.mul_comm]
  · replace hc9 := bt hc9
    refine vc_condt (by kernel_rfl) ?_
    refine vc_skip ?_
    refine seq_n ?_
    refine vc_seq ?_
    refine vc_block ?_
    refine vc_reg rfl ?_
    refine vcI_q 2 (by kernel_rfl) ?_
    refine vcI_app (n := ((List.replicate k 0).length)) (cs := (dg (List.replicate k 0))) (m := 1) (ds := [.v (.int .i64 0)]) (N := ((List.replicate (k + 1) 0).length)) (es := (dg (List.replicate (k + 1) 0))) (j := 5) (e := 3) (z := 1) (dst := (some 14)) (by kernel_rfl) (by first | rfl | omega | (rw [Nat.mul_one]; exact dg_len _) | (simp [dg]; done) | (simp [dg]; omega)) (by first | rfl | omega | (rw [Nat.mul_one]; exact dg_len _) | (simp [dg]; done) | (simp [dg]; omega)) (rfl) (by simp; omega) (by simp) (by simp [dg, List.replicate_succ']) ?_
    refine vcI_q 1 (by kernel_rfl) ?_
    refine vcI_end 20 [(0, .d (.sl (nd (a)) (dg (digs (a))))), (1, .d (.v (.int .i64 X))), (4, .w (.sl 0 []) none), (5, .w (.sl ((List.replicate (k + 1) 0).length) (dg (List.replicate (k + 1) 0))) (some ⟨5, 0, 3, 1⟩)), (6, .d (.v (.int .i64 ((k : Int))))), (9, .d (.v (.bool true)))] [] (by kernel_rfl) (by kernel_rfl) (by kernel_rfl) ?_
    refine block_n ?_
    refine seq_n ?_
    refine vc_reg rfl ?_
    refine vcI_q 1 (by kernel_rfl) ?_
    refine vcI_bin (op := .add) (t := 3) (a := .int .i64 ((k : Int))) (b := .int .i64 1) (dst := (some 11)) (by kernel_rfl) ?_
    intro z11 hz11
    first | (replace hz11 := hz11.i64 (by omega)) | skip
    refine vcI_q 1 (by kernel_rfl) ?_
    refine vcI_end 20 [(0, .d (.sl (nd (a)) (dg (digs (a))))), (1, .d (.v (.int .i64 X))), (4, .w (.sl 0 []) none), (5, .w (.sl ((List.replicate (k + 1) 0).length) (dg (List.replicate (k + 1) 0))) (some ⟨5, 0, 3, 1⟩)), (6, .d (.v (.int .i64 z11))), (9, .d (.v (.bool true)))] [] (by kernel_rfl) (by kernel_rfl) (by kernel_rfl) ?_
    obtain rfl : z11 = ((k + 1 : Nat) : Int) := by omega
    refine loop_n (k + 1) (by show k + 1 ≤ X.toNat; omega) (by show X.toNat - (k + 1) < X.toNat - k; omega) (by kernel_rfl) (by kernel_rfl)

theorem digs_5 : digs 5 = [5] := by rw [digs_pos (by decide)]; simp [digs_zero]
theorem dn_five : (.sl (nd 5) (dg (digs 5)) : DV) = .sl 1 [.v (.int .i64 5)] := by rw [nd_def, digs_5]; rfl
theorem c_Shift5 {X : Int} (hn : X ≤ 90000) : HasC Try.prog 36 [.sl 1 [.v (.int .i64 5)], .v (.int .i64 X)] (fun y => y = .sl (nd (5 * 10 ^ X.toNat)) (dg (digs (5 * 10 ^ X.toNat)))) := by
  rw [← dn_five]
  exact c_ShiftX (by have := nd_small (show 5 < 10 by decide); omega) hn
theorem c_Add1 {q : Nat} (ha : nd q ≤ 400000) : HasC Try.prog 55 [.sl (nd q) (dg (digs q)), .sl 1 [.v (.int .i64 1)]] (fun y => y = .sl (nd (q + 1)) (dg (digs (q + 1)))) := by
  rw [← dn_one]
  exact c_Add (by omega) (by have := nd_small (show 1 < 10 by decide); omega)

/-- What up holds the rest against: half of what is cut. -/
structure UpC (L : Nat) (R : Bool) (c : Int) : Prop where
  gt : 0 < c ↔ 5 < L ∨ (L = 5 ∧ R = true)
  eq : c = 0 ↔ L = 5 ∧ R = false
theorem up_cmp {r n : Nat} {c c' : Int} {more R : Bool} (h1 : 1 ≤ n) (hr : r < 10 ^ n) (hR : R = true ↔ restP more r n) (hc : c = cmpN r (5 * 10 ^ (n - 1))) (hc' : (c = 0 ∧ more = true ∧ c' = 1) ∨ (¬ (c = 0 ∧ more = true) ∧ c' = c)) : UpC (lastD r n) R c' := by
  obtain ⟨i, rfl⟩ : ∃ i, n = i + 1 := ⟨n - 1, by omega⟩
  rw [Nat.add_sub_cancel] at hc
  have hp : 0 < 10 ^ i := Nat.pow_pos (by decide)
  have e := Nat.div_add_mod r (10 ^ i)
  have hm := Nat.mod_lt r hp
  have hR' : R = true ↔ more = true ∨ r % 10 ^ i ≠ 0 := hR
  have hL : lastD r (i + 1) = r / 10 ^ i := Nat.mod_eq_of_lt (Nat.div_lt_of_lt_mul (by rw [Nat.pow_succ] at hr; exact hr))
  rw [hL]
  have k1 := cN_lt (a := r) (b := 5 * 10 ^ i)
  have k2 := cN_eq (a := r) (b := 5 * 10 ^ i)
  rw [← hc] at k1 k2
  clear hR hc hL hr
  generalize r / 10 ^ i = L at *
  generalize r % 10 ^ i = low at *
  generalize 10 ^ i = P at *
  have h4 : L ≤ 4 → P * L ≤ P * 4 := fun h => Nat.mul_le_mul_left _ h
  have h6 : 6 ≤ L → P * 6 ≤ P * L := fun h => Nat.mul_le_mul_left _ h
  have h5 : L = 5 → P * L = P * 5 := fun h => by rw [h]
  generalize P * L = X at *
  cases more <;> cases R <;> simp at hR' hc' <;> constructor <;> simp <;> omega
theorem lastD_mod (N n : Nat) : lastD (N % 10 ^ n) n = lastD N n := by
  cases n with
  | zero => rfl
  | succ i =>
    show N % 10 ^ (i + 1) / 10 ^ i % 10 = N / 10 ^ i % 10
    rw [Nat.pow_succ, Nat.mod_mul_right_div_self, Nat.mod_mod]
theorem restP_mod (more : Bool) (N n : Nat) : restP more (N % 10 ^ n) n ↔ restP more N n := by
  cases n with
  | zero => exact Iff.rfl
  | succ i =>
    show more = true ∨ N % 10 ^ (i + 1) % 10 ^ i ≠ 0 ↔ more = true ∨ N % 10 ^ i ≠ 0
    rw [Nat.mod_mod_of_dvd _ (Nat.pow_dvd_pow 10 (Nat.le_succ i))]

theorem dig_odd {q : Nat} {z : Int} (h : z = ((dig q 0 : Nat) : Int).tmod 2) : z = 1 ↔ decide (q % 2 = 1) = true := by
  have e : dig q 0 = q % 10 := by simp [dig]
  rw [e, Int.tmod_eq_emod_of_nonneg (by omega)] at h
  simp only [decide_eq_true_eq]
  omega

theorem up_some {r n : Nat} {more R : Bool} (hr : r < 10 ^ n) (hR : R = true ↔ restP more r n) (h : r ≠ 0 ∨ more = true) : 0 < lastD r n ∨ R = true := by
  rw [hR]
  cases n with
  | zero =>
    right
    have : r = 0 := by simpa using hr
    exact h.resolve_left (fun k => k this)
  | succ i =>
    rcases h with h | h
    · by_cases h1 : r % 10 ^ i = 0
      · left
        have hL : lastD r (i + 1) = r / 10 ^ i := Nat.mod_eq_of_lt (Nat.div_lt_of_lt_mul (by rw [Nat.pow_succ] at hr; exact hr))
        rw [hL]
        rcases Nat.eq_zero_or_pos (r / 10 ^ i) with h2 | h2
        · have := Nat.div_add_mod r (10 ^ i)
          rw [h1, h2] at this
          simp at this
          exact absurd this.symm h
        · exact h2
      · exact .inr (.inr h1)
    · exact .inr (.inl h)
theorem up_none {r n : Nat} {more R : Bool} (hr : r = 0) (hm : more = false) (hR : R = true ↔ restP more r n) : lastD r n = 0 ∧ R = false := by
  subst hr hm
  cases n with
  | zero => exact ⟨rfl, bff hR (by simp [restP])⟩
  | succ i => exact ⟨by simp [lastD], bff hR (by simp [restP])⟩
theorem up_c2 {r n : Nat} {c d : Int} {more R : Bool} (hr : r < 10 ^ n) (hR : R = true ↔ restP more r n) (hc : (1 ≤ n ∧ c = cmpN r (5 * 10 ^ (n - 1))) ∨ (n = 0 ∧ c = -1)) (hd : (c = 0 ∧ more = true ∧ d = 1) ∨ (¬ (c = 0 ∧ more = true) ∧ d = c)) : UpC (lastD r n) R d := by
  rcases hc with ⟨h1, h2⟩ | ⟨h1, h2⟩
  · exact up_cmp h1 hr hR h2 hd
  · subst h1
    have hL : lastD r 0 = 0 := rfl
    rw [hL]
    have : d = -1 := by
      rcases hd with h | h
      · omega
      · omega
    subst this
    constructor <;> simp <;> omega

theorem up_law {m : Int} {neg O R : Bool} {L : Nat} {d : Int} (h : UpC L R d) (h0 : 0 < L ∨ R = true) : UpP m neg O L R ↔ (m = 1 ∧ (0 < d ∨ (d = 0 ∧ O = true))) ∨ (m = 2 ∧ 0 ≤ d) ∨ (m = 3 ∧ 0 < d) ∨ m = 4 ∨ (m = 6 ∧ neg = true) ∨ (m = 7 ∧ neg = false) := by
  obtain ⟨h1, h2⟩ := h
  have h3 : 0 ≤ d ↔ 0 < d ∨ d = 0 := ⟨fun h => by omega, fun h => by omega⟩
  have h0' : 0 < (L : Int) ∨ R = true := h0.imp (fun h => by omega) id
  unfold UpP
  rw [h3, h1, h2]
  constructor
  · rintro (⟨k, k1⟩ | ⟨k, k1⟩ | ⟨k, k1⟩ | ⟨k, k1⟩ | ⟨k, k1, k2⟩ | ⟨k, k1, k2⟩)
    · refine .inl ⟨k, ?_⟩
      cases R <;> cases O <;> simp at k1 ⊢ <;> omega
    · refine .inr (.inl ⟨k, ?_⟩)
      cases R <;> simp <;> omega
    · refine .inr (.inr (.inl ⟨k, ?_⟩))
      cases R <;> simp at k1 ⊢ <;> omega
    · exact .inr (.inr (.inr (.inl k)))
    · exact .inr (.inr (.inr (.inr (.inl ⟨k, k1⟩))))
    · exact .inr (.inr (.inr (.inr (.inr ⟨k, k1⟩))))
  · rintro (⟨k, k1⟩ | ⟨k, k1⟩ | ⟨k, k1⟩ | k | ⟨k, k1⟩ | ⟨k, k1⟩)
    · refine .inl ⟨k, ?_⟩
      cases R <;> cases O <;> simp at k1 ⊢ <;> omega
    · refine .inr (.inl ⟨k, ?_⟩)
      omega
    · refine .inr (.inr (.inl ⟨k, ?_⟩))
      cases R <;> simp at k1 ⊢ <;> omega
    · exact .inr (.inr (.inr (.inl ⟨k, h0'⟩)))
    · exact .inr (.inr (.inr (.inr (.inl ⟨k, k1, h0'⟩))))
    · exact .inr (.inr (.inr (.inr (.inr ⟨k, k1, h0'⟩))))

set_option maxHeartbeats 3200000 in
theorem c_rup {m : Int} {neg more : Bool} {q r n : Nat} (hr : r < 10 ^ n) (hn : n ≤ 80000) (hq : nd q ≤ 400000) (hrd : nd r ≤ 400000) : HasC Try.prog 67 [.v (.int .i64 m), .v (.bool neg), .sl (nd (q)) (dg (digs (q))), .sl (nd (r)) (dg (digs (r))), .v (.int .i64 ((n : Int))), .v (.bool more)] (fun y => ∃ b, y = .v (.bool b) ∧ (b = true ↔ UpP m neg (decide (q % 2 = 1)) (lastD r n : Nat) (@decide (restP more r n) (Classical.propDecidable _)))) := by
  refine HasC.of [] (fn := Try.f67) tyOk mixed (fun args w => Try.call67 args w) Try.func67 rfl (by kernel_rfl) (Nat.le_of_ble_eq_true rfl) (⟨_, @decide (UpP m neg (decide (q % 2 = 1)) (lastD r n : Nat) (@decide (restP more r n) (Classical.propDecidable _))) (Classical.propDecidable _), rfl, by simp⟩) ?_
  obtain ⟨R, hR⟩ : ∃ R : Bool, R = @decide (restP more r n) (Classical.propDecidable _) := ⟨_, rfl⟩
  have hRi : R = true ↔ restP more r n := by rw [hR]; simp
  obtain ⟨O, hO⟩ : ∃ O : Bool, O = decide (q % 2 = 1) := ⟨_, rfl⟩
  rw [← hR, ← hO]
  have hL9 := lastD_lt (N := r) (k := n)
  refine vc_seqr rfl ?_
  refine vcI_q 1 (by kernel_rfl) ?_
  refine vcI_end 76 [(0, .d (.v (.int .i64 m))), (1, .d (.v (.bool neg))), (2, .d (.sl (nd (q)) (dg (digs (q))))), (3, .d (.sl (nd (r)) (dg (digs (r))))), (4, .d (.v (.int .i64 ((n : Int))))), (5, .d (.v (.bool more))), (12, .d (.v (.bool false)))] [] (by kernel_rfl) (by kernel_rfl) (by kernel_rfl) ?_
  refine vc_mid 76 (fun (vcx : Bool) => match vcx with | vb22 => [(0, .d (.v (.int .i64 m))), (1, .d (.v (.bool neg))), (2, .d (.sl (nd (q)) (dg (digs (q))))), (3, .d (.sl (nd (r)) (dg (digs (r))))), (4, .d (.v (.int .i64 ((n : Int))))), (5, .d (.v (.bool more))), (12, .d (.v (.bool false))), (22, .d (.v (.bool vb22)))]) (fun (vcx : Bool) => match vcx with | vb22 => []) (fun (vcx : Bool) => match vcx with | vb22 => r ≠ 0 ∨ more = true) ?_ ?_
  · rintro vb22 hinv
    simp only at hinv
    have hLR : 0 < lastD r n ∨ R = true := up_some hr hRi hinv
    refine vc_seqr rfl ?_
    refine vcI_q 2 (by kernel_rfl) ?_
    refine vcI_bin (op := .sub) (t := 3) (a := .int .i64 ((n : Int))) (b := .int .i64 1) (dst := (some 25)) (by kernel_rfl) ?_
    intro z25 hz25
    first | (replace hz25 := hz25.i64 (by omega)) | skip
    refine vcI_call (f := 36) (ds := [.sl 1 [.v (.int .i64 5)], .v (.int .i64 z25)]) (dst := (some 26)) (by kernel_rfl) (c_Shift5 (by omega)) ?_
    rintro _ rfl
    refine vcI_q 1 (by kernel_rfl) ?_
    refine vcI_end 76 [(0, .d (.v (.int .i64 m))), (1, .d (.v (.bool neg))), (2, .d (.sl (nd (q)) (dg (digs (q))))), (3, .d (.sl (nd (r)) (dg (digs (r))))), (4, .d (.v (.int .i64 ((n : Int))))), (5, .d (.v (.bool more))), (12, .d (.v (.bool false))), (13, .d (.sl (nd (5 * 10 ^ z25.toNat)) (dg (digs (5 * 10 ^ z25.toNat))))), (22, .d (.v (.bool vb22)))] [] (by kernel_rfl) (by kernel_rfl) (by kernel_rfl) ?_
    refine vc_seqr rfl ?_
    refine vcI_q 1 (by kernel_rfl) ?_
    refine vcI_end 76 [(0, .d (.v (.int .i64 m))), (1, .d (.v (.bool neg))), (2, .d (.sl (nd (q)) (dg (digs (q))))), (3, .d (.sl (nd (r)) (dg (digs (r))))), (4, .d (.v (.int .i64 ((n : Int))))), (5, .d (.v (.bool more))), (12, .d (.v (.bool false))), (13, .d (.sl (nd (5 * 10 ^ z25.toNat)) (dg (digs (5 * 10 ^ z25.toNat))))), (14, .d (.v (.int .i64 1))), (22, .d (.v (.bool vb22)))] [] (by kernel_rfl) (by kernel_rfl) (by kernel_rfl) ?_
    refine vc_mid 76 (fun (vcx : Int × Bool) => match vcx with | (c, vb28) => [(0, .d (.v (.int .i64 m))), (1, .d (.v (.bool neg))), (2, .d (.sl (nd (q)) (dg (digs (q))))), (3, .d (.sl (nd (r)) (dg (digs (r))))), (4, .d (.v (.int .i64 ((n : Int))))), (5, .d (.v (.bool more))), (12, .d (.v (.bool false))), (13, .d (.sl (nd (5 * 10 ^ z25.toNat)) (dg (digs (5 * 10 ^ z25.toNat))))), (14, .d (.v (.int .i64 c))), (22, .d (.v (.bool vb22))), (28, .d (.v (.bool vb28)))]) (fun (vcx : Int × Bool) => match vcx with | (c, vb28) => []) (fun (vcx : Int × Bool) => match vcx with | (c, vb28) => (1 ≤ n ∧ c = cmpN r (5 * 10 ^ (n - 1))) ∨ (n = 0 ∧ c = -1)) ?_ ?_
    · rintro ⟨c, vb28⟩ hinv
      simp only at hinv
      have hc0 := hinv
      refine vc_mid 76 (fun (vcx : Int × Bool) => match vcx with | (d, vb36) => [(0, .d (.v (.int .i64 m))), (1, .d (.v (.bool neg))), (2, .d (.sl (nd (q)) (dg (digs (q))))), (3, .d (.sl (nd (r)) (dg (digs (r))))), (4, .d (.v (.int .i64 ((n : Int))))), (5, .d (.v (.bool more))), (12, .d (.v (.bool false))), (13, .d (.sl (nd (5 * 10 ^ z25.toNat)) (dg (digs (5 * 10 ^ z25.toNat))))), (14, .d (.v (.int .i64 d))), (22, .d (.v (.bool vb22))), (28, .d (.v (.bool vb28))), (36, .d (.v (.bool vb36)))]) (fun (vcx : Int × Bool) => match vcx with | (d, vb36) => []) (fun (vcx : Int × Bool) => match vcx with | (d, vb36) => UpC (lastD r n) R d) ?_ ?_
      · rintro ⟨d, vb36⟩ hinv
        simp only at hinv
        have hlaw : UpP m neg O (lastD r n : Nat) R ↔ _ := up_law hinv hLR
        generalize lastD r n = L at *
        clear hc0 hR hRi hr hLR hL9 hinv
        refine vc_seqr rfl ?_
        refine vcI_q 2 (by kernel_rfl) ?_
        refine vcI_bin (op := .gtr) (t := 3) (a := .int .i64 (((nd (q) : Nat) : Int))) (b := .int .i64 0) (dst := (some 39)) (by kernel_rfl) ?_
        intro c39 hc39
        refine vcI_q 1 (by kernel_rfl) ?_
        cases c39
        · replace hc39 := bf hc39
          refine vcI_q 7 (by kernel_rfl) ?_
          refine vcI_end 76 [(0, .d (.v (.int .i64 m))), (1, .d (.v (.bool neg))), (3, .d (.sl (nd (r)) (dg (digs (r))))), (4, .d (.v (.int .i64 ((n : Int))))), (5, .d (.v (.bool more))), (12, .d (.v (.bool false))), (13, .d (.sl (nd (5 * 10 ^ z25.toNat)) (dg (digs (5 * 10 ^ z25.toNat))))), (14, .d (.v (.int .i64 d))), (15, .d (.v (.bool false))), (22, .d (.v (.bool vb22))), (28, .d (.v (.bool vb28))), (36, .d (.v (.bool vb36)))] [] (by kernel_rfl) (by kernel_rfl) (by kernel_rfl) ?_
          have hO0 : O = false := by rw [hO]; have : q = 0 := nd_eq0.1 (by omega); rw [this]; rfl
          clear hO
          refine vc_seq ?_
          refine vc_seqr rfl ?_
          refine vcI_q 1 (by kernel_rfl) ?_
          refine vcI_end 76 [(1, .d (.v (.bool neg))), (3, .d (.sl (nd (r)) (dg (digs (r))))), (4, .d (.v (.int .i64 ((n : Int))))), (5, .d (.v (.bool more))), (12, .d (.v (.bool false))), (13, .d (.sl (nd (5 * 10 ^ z25.toNat)) (dg (digs (5 * 10 ^ z25.toNat))))), (14, .d (.v (.int .i64 d))), (15, .d (.v (.bool false))), (22, .d (.v (.bool vb22))), (28, .d (.v (.bool vb28))), (36, .d (.v (.bool vb36))), (47, .d (.v (.int .i64 m)))] [] (by kernel_rfl) (by kernel_rfl) (by kernel_rfl) ?_
          refine vc_block ?_
          refine vc_seqr rfl ?_
          refine vcI_bin (op := .eql) (t := 3) (a := .int .i64 m) (b := .int .i64 1) (dst := (some 49)) (by kernel_rfl) ?_
          intro c49 hc49
          refine vcI_q 1 (by kernel_rfl) ?_
          refine vcI_end 76 [(1, .d (.v (.bool neg))), (3, .d (.sl (nd (r)) (dg (digs (r))))), (4, .d (.v (.int .i64 ((n : Int))))), (5, .d (.v (.bool more))), (12, .d (.v (.bool false))), (13, .d (.sl (nd (5 * 10 ^ z25.toNat)) (dg (digs (5 * 10 ^ z25.toNat))))), (14, .d (.v (.int .i64 d))), (15, .d (.v (.bool false))), (22, .d (.v (.bool vb22))), (28, .d (.v (.bool vb28))), (36, .d (.v (.bool vb36))), (47, .d (.v (.int .i64 m))), (48, .d (.v (.bool c49)))] [] (by kernel_rfl) (by kernel_rfl) (by kernel_rfl) ?_
          cases c49
          · replace hc49 := bf hc49
            refine vc_condf (by kernel_rfl) ?_
            refine vc_seqr rfl ?_
            refine vcI_bin (op := .eql) (t := 3) (a := .int .i64 m) (b := .int .i64 2) (dst := (some 60)) (by kernel_rfl) ?_
            intro c60 hc60
            refine vcI_q 1 (by kernel_rfl) ?_
            refine vcI_end 76 [(1, .d (.v (.bool neg))), (3, .d (.sl (nd (r)) (dg (digs (r))))), (4, .d (.v (.int .i64 ((n : Int))))), (5, .d (.v (.bool more))), (12, .d (.v (.bool false))), (13, .d (.sl (nd (5 * 10 ^ z25.toNat)) (dg (digs (5 * 10 ^ z25.toNat))))), (14, .d (.v (.int .i64 d))), (15, .d (.v (.bool false))), (22, .d (.v (.bool vb22))), (28, .d (.v (.bool vb28))), (36, .d (.v (.bool vb36))), (47, .d (.v (.int .i64 m))), (48, .d (.v (.bool false))), (59, .d (.v (.bool c60)))] [] (by kernel_rfl) (by kernel_rfl) (by kernel_rfl) ?_
            cases c60
            · replace hc60 := bf hc60
              refine vc_condf (by kernel_rfl) ?_
              refine vc_seqr rfl ?_
              refine vcI_bin (op := .eql) (t := 3) (a := .int .i64 m) (b := .int .i64 3) (dst := (some 64)) (by kernel_rfl) ?_
              intro c64 hc64
              refine vcI_q 1 (by kernel_rfl) ?_
              refine vcI_end 76 [(1, .d (.v (.bool neg))), (3, .d (.sl (nd (r)) (dg (digs (r))))), (4, .d (.v (.int .i64 ((n : Int))))), (5, .d (.v (.bool more))), (12, .d (.v (.bool false))), (13, .d (.sl (nd (5 * 10 ^ z25.toNat)) (dg (digs (5 * 10 ^ z25.toNat))))), (14, .d (.v (.int .i64 d))), (15, .d (.v (.bool false))), (22, .d (.v (.bool vb22))), (28, .d (.v (.bool vb28))), (36, .d (.v (.bool vb36))), (47, .d (.v (.int .i64 m))), (48, .d (.v (.bool false))), (59, .d (.v (.bool false))), (63, .d (.v (.bool c64)))] [] (by kernel_rfl) (by kernel_rfl) (by kernel_rfl) ?_
              cases c64
              · replace hc64 := bf hc64
                refine vc_condf (by kernel_rfl) ?_
                refine vc_seqr rfl ?_
                refine vcI_bin (op := .eql) (t := 3) (a := .int .i64 m) (b := .int .i64 4) (dst := (some 68)) (by kernel_rfl) ?_
                intro c68 hc68
                refine vcI_q 1 (by kernel_rfl) ?_
                refine vcI_end 76 [(1, .d (.v (.bool neg))), (3, .d (.sl (nd (r)) (dg (digs (r))))), (4, .d (.v (.int .i64 ((n : Int))))), (5, .d (.v (.bool more))), (12, .d (.v (.bool false))), (13, .d (.sl (nd (5 * 10 ^ z25.toNat)) (dg (digs (5 * 10 ^ z25.toNat))))), (14, .d (.v (.int .i64 d))), (15, .d (.v (.bool false))), (22, .d (.v (.bool vb22))), (28, .d (.v (.bool vb28))), (36, .d (.v (.bool vb36))), (47, .d (.v (.int .i64 m))), (48, .d (.v (.bool false))), (59, .d (.v (.bool false))), (63, .d (.v (.bool false))), (67, .d (.v (.bool c68)))] [] (by kernel_rfl) (by kernel_rfl) (by kernel_rfl) ?_
                cases c68
                · replace hc68 := bf hc68
                  refine vc_condf (by kernel_rfl) ?_
                  refine vc_seqr rfl ?_
                  refine vcI_bin (op := .eql) (t := 3) (a := .int .i64 m) (b := .int .i64 6) (dst := (some 70)) (by kernel_rfl) ?_
                  intro c70 hc70
                  refine vcI_q 1 (by kernel_rfl) ?_
                  refine vcI_end 76 [(1, .d (.v (.bool neg))), (3, .d (.sl (nd (r)) (dg (digs (r))))), (4, .d (.v (.int .i64 ((n : Int))))), (5, .d (.v (.bool more))), (12, .d (.v (.bool false))), (13, .d (.sl (nd (5 * 10 ^ z25.toNat)) (dg (digs (5 * 10 ^ z25.toNat))))), (14, .d (.v (.int .i64 d))), (15, .d (.v (.bool false))), (22, .d (.v (.bool vb22))), (28, .d (.v (.bool vb28))), (36, .d (.v (.bool vb36))), (47, .d (.v (.int .i64 m))), (48, .d (.v (.bool false))), (59, .d (.v (.bool false))), (63, .d (.v (.bool false))), (67, .d (.v (.bool false))), (69, .d (.v (.bool c70)))] [] (by kernel_rfl) (by kernel_rfl) (by kernel_rfl) ?_
                  cases c70
                  · replace hc70 := bf hc70
                    refine vc_condf (by kernel_rfl) ?_
                    refine vc_seqr rfl ?_
                    refine vcI_bin (op := .eql) (t := 3) (a := .int .i64 m) (b := .int .i64 7) (dst := (some 73)) (by kernel_rfl) ?_
                    intro c73 hc73
                    refine vcI_q 1 (by kernel_rfl) ?_
                    refine vcI_end 76 [(1, .d (.v (.bool neg))), (3, .d (.sl (nd (r)) (dg (digs (r))))), (4, .d (.v (.int .i64 ((n : Int))))), (5, .d (.v (.bool more))), (12, .d (.v (.bool false))), (13, .d (.sl (nd (5 * 10 ^ z25.toNat)) (dg (digs (5 * 10 ^ z25.toNat))))), (14, .d (.v (.int .i64 d))), (15, .d (.v (.bool false))), (22, .d (.v (.bool vb22))), (28, .d (.v (.bool vb28))), (36, .d (.v (.bool vb36))), (47, .d (.v (.int .i64 m))), (48, .d (.v (.bool false))), (59, .d (.v (.bool false))), (63, .d (.v (.bool false))), (67, .d (.v (.bool false))), (69, .d (.v (.bool false))), (72, .d (.v (.bool c73)))] [] (by kernel_rfl) (by kernel_rfl) (by kernel_rfl) ?_
                    cases c73
                    · replace hc73 := bf hc73
                      refine vc_condf (by kernel_rfl) ?_
                      refine vc_skip ?_
                      refine block_n ?_
                      refine seq_n ?_
                      refine vc_seqr rfl ?_
                      refine vcI_q 1 (by kernel_rfl) ?_
                      refine vcI_end 76 [(1, .d (.v (.bool neg))), (3, .d (.sl (nd (r)) (dg (digs (r))))), (4, .d (.v (.int .i64 ((n : Int))))), (5, .d (.v (.bool more))), (12, .d (.v (.bool false))), (13, .d (.sl (nd (5 * 10 ^ z25.toNat)) (dg (digs (5 * 10 ^ z25.toNat))))), (14, .d (.v (.int .i64 d))), (15, .d (.v (.bool false))), (22, .d (.v (.bool vb22))), (28, .d (.v (.bool vb28))), (36, .d (.v (.bool vb36))), (47, .d (.v (.int .i64 m))), (48, .d (.v (.bool false))), (59, .d (.v (.bool false))), (63, .d (.v (.bool false))), (67, .d (.v (.bool false))), (69, .d (.v (.bool false))), (72, .d (.v (.bool false)))] [] (by kernel_rfl) (by kernel_rfl) (by kernel_rfl) ?_
                      refine vc_ret ?_
                      refine ret_1 (d := .v (.bool false)) (by kernel_rfl) ?_
                      exact ⟨_, rfl, by rw [hlaw]; clear hlaw; simp_all <;> omega⟩
                    · replace hc73 := bt hc73
                      refine vc_condt (by kernel_rfl) ?_
                      refine vc_seqr rfl ?_
                      refine vcI_q 1 (by kernel_rfl) ?_
                      refine vcI_un (op := .not) (a := .bool neg) (dst := (some 75)) (by kernel_rfl) ?_
                      intro c75 hc75
                      refine vcI_q 1 (by kernel_rfl) ?_
                      refine vcI_end 76 [(1, .d (.v (.bool neg))), (3, .d (.sl (nd (r)) (dg (digs (r))))), (4, .d (.v (.int .i64 ((n : Int))))), (5, .d (.v (.bool more))), (12, .d (.v (.bool c75))), (13, .d (.sl (nd (5 * 10 ^ z25.toNat)) (dg (digs (5 * 10 ^ z25.toNat))))), (14, .d (.v (.int .i64 d))), (15, .d (.v (.bool false))), (22, .d (.v (.bool vb22))), (28, .d (.v (.bool vb28))), (36, .d (.v (.bool vb36))), (47, .d (.v (.int .i64 m))), (48, .d (.v (.bool false))), (59, .d (.v (.bool false))), (63, .d (.v (.bool false))), (67, .d (.v (.bool false))), (69, .d (.v (.bool false))), (72, .d (.v (.bool true)))] [] (by kernel_rfl) (by kernel_rfl) (by kernel_rfl) ?_
                      refine vc_ret ?_
                      refine block_r ?_
                      refine seq_r ?_
                      refine ret_1 (d := .v (.bool c75)) (by kernel_rfl) ?_
                      exact ⟨_, rfl, by rw [hlaw]; clear hlaw; simp_all <;> omega⟩
                  · replace hc70 := bt hc70
                    refine vc_condt (by kernel_rfl) ?_
                    refine vc_seqr rfl ?_
                    refine vcI_q 2 (by kernel_rfl) ?_
                    refine vcI_end 76 [(1, .d (.v (.bool neg))), (3, .d (.sl (nd (r)) (dg (digs (r))))), (4, .d (.v (.int .i64 ((n : Int))))), (5, .d (.v (.bool more))), (12, .d (.v (.bool neg))), (13, .d (.sl (nd (5 * 10 ^ z25.toNat)) (dg (digs (5 * 10 ^ z25.toNat))))), (14, .d (.v (.int .i64 d))), (15, .d (.v (.bool false))), (22, .d (.v (.bool vb22))), (28, .d (.v (.bool vb28))), (36, .d (.v (.bool vb36))), (47, .d (.v (.int .i64 m))), (48, .d (.v (.bool false))), (59, .d (.v (.bool false))), (63, .d (.v (.bool false))), (67, .d (.v (.bool false))), (69, .d (.v (.bool true)))] [] (by kernel_rfl) (by kernel_rfl) (by kernel_rfl) ?_
                    refine vc_ret ?_
                    refine block_r ?_
                    refine seq_r ?_
                    refine ret_1 (d := .v (.bool neg)) (by kernel_rfl) ?_
                    exact ⟨_, rfl, by rw [hlaw]; clear hlaw; simp_all <;> omega⟩
                · replace hc68 := bt hc68
                  refine vc_condt (by kernel_rfl) ?_
                  refine vc_seqr rfl ?_
                  refine vcI_q 1 (by kernel_rfl) ?_
                  refine vcI_end 76 [(1, .d (.v (.bool neg))), (3, .d (.sl (nd (r)) (dg (digs (r))))), (4, .d (.v (.int .i64 ((n : Int))))), (5, .d (.v (.bool more))), (12, .d (.v (.bool true))), (13, .d (.sl (nd (5 * 10 ^ z25.toNat)) (dg (digs (5 * 10 ^ z25.toNat))))), (14, .d (.v (.int .i64 d))), (15, .d (.v (.bool false))), (22, .d (.v (.bool vb22))), (28, .d (.v (.bool vb28))), (36, .d (.v (.bool vb36))), (47, .d (.v (.int .i64 m))), (48, .d (.v (.bool false))), (59, .d (.v (.bool false))), (63, .d (.v (.bool false))), (67, .d (.v (.bool true)))] [] (by kernel_rfl) (by kernel_rfl) (by kernel_rfl) ?_
                  refine vc_ret ?_
                  refine block_r ?_
                  refine seq_r ?_
                  refine ret_1 (d := .v (.bool true)) (by kernel_rfl) ?_
                  exact ⟨_, rfl, by rw [hlaw]; clear hlaw; simp_all <;> omega⟩
              · replace hc64 := bt hc64
                refine vc_condt (by kernel_rfl) ?_
                refine vc_seqr rfl ?_
                refine vcI_q 1 (by kernel_rfl) ?_
                refine vcI_bin (op := .gtr) (t := 3) (a := .int .i64 d) (b := .int .i64 0) (dst := (some 66)) (by kernel_rfl) ?_
                intro c66 hc66
                refine vcI_q 1 (by kernel_rfl) ?_
                refine vcI_end 76 [(1, .d (.v (.bool neg))), (3, .d (.sl (nd (r)) (dg (digs (r))))), (4, .d (.v (.int .i64 ((n : Int))))), (5, .d (.v (.bool more))), (12, .d (.v (.bool c66))), (13, .d (.sl (nd (5 * 10 ^ z25.toNat)) (dg (digs (5 * 10 ^ z25.toNat))))), (14, .d (.v (.int .i64 d))), (15, .d (.v (.bool false))), (22, .d (.v (.bool vb22))), (28, .d (.v (.bool vb28))), (36, .d (.v (.bool vb36))), (47, .d (.v (.int .i64 m))), (48, .d (.v (.bool false))), (59, .d (.v (.bool false))), (63, .d (.v (.bool true)))] [] (by kernel_rfl) (by kernel_rfl) (by kernel_rfl) ?_
                refine vc_ret ?_
                refine block_r ?_
                refine seq_r ?_
                refine ret_1 (d := .v (.bool c66)) (by kernel_rfl) ?_
                exact ⟨_, rfl, by rw [hlaw]; clear hlaw; simp_all <;> omega⟩
            · replace hc60 := bt hc60
              refine vc_condt (by kernel_rfl) ?_
              refine vc_seqr rfl ?_
              refine vcI_q 1 (by kernel_rfl) ?_
              refine vcI_bin (op := .geq) (t := 3) (a := .int .i64 d) (b := .int .i64 0) (dst := (some 62)) (by kernel_rfl) ?_
              intro c62 hc62
              refine vcI_q 1 (by kernel_rfl) ?_
              refine vcI_end 76 [(1, .d (.v (.bool neg))), (3, .d (.sl (nd (r)) (dg (digs (r))))), (4, .d (.v (.int .i64 ((n : Int))))), (5, .d (.v (.bool more))), (12, .d (.v (.bool c62))), (13, .d (.sl (nd (5 * 10 ^ z25.toNat)) (dg (digs (5 * 10 ^ z25.toNat))))), (14, .d (.v (.int .i64 d))), (15, .d (.v (.bool false))), (22, .d (.v (.bool vb22))), (28, .d (.v (.bool vb28))), (36, .d (.v (.bool vb36))), (47, .d (.v (.int .i64 m))), (48, .d (.v (.bool false))), (59, .d (.v (.bool true)))] [] (by kernel_rfl) (by kernel_rfl) (by kernel_rfl) ?_
              refine vc_ret ?_
              refine block_r ?_
              refine seq_r ?_
              refine ret_1 (d := .v (.bool c62)) (by kernel_rfl) ?_
              exact ⟨_, rfl, by rw [hlaw]; clear hlaw; simp_all <;> omega⟩
          · replace hc49 := bt hc49
            refine vc_condt (by kernel_rfl) ?_
            refine vc_seqr rfl ?_
            refine vcI_q 1 (by kernel_rfl) ?_
            refine vcI_bin (op := .gtr) (t := 3) (a := .int .i64 d) (b := .int .i64 0) (dst := (some 51)) (by kernel_rfl) ?_
            intro c51 hc51
            refine vcI_q 1 (by kernel_rfl) ?_
            cases c51
            · replace hc51 := bf hc51
              refine vcI_q 1 (by kernel_rfl) ?_
              refine vcI_bin (op := .eql) (t := 3) (a := .int .i64 d) (b := .int .i64 0) (dst := (some 54)) (by kernel_rfl) ?_
              intro c54 hc54
              refine vcI_q 1 (by kernel_rfl) ?_
              cases c54
              · replace hc54 := bf hc54
                refine vcI_q 4 (by kernel_rfl) ?_
                refine vcI_end 76 [(1, .d (.v (.bool neg))), (3, .d (.sl (nd (r)) (dg (digs (r))))), (4, .d (.v (.int .i64 ((n : Int))))), (5, .d (.v (.bool more))), (12, .d (.v (.bool false))), (13, .d (.sl (nd (5 * 10 ^ z25.toNat)) (dg (digs (5 * 10 ^ z25.toNat))))), (14, .d (.v (.int .i64 d))), (22, .d (.v (.bool vb22))), (28, .d (.v (.bool vb28))), (36, .d (.v (.bool vb36))), (47, .d (.v (.int .i64 m))), (48, .d (.v (.bool true)))] [] (by kernel_rfl) (by kernel_rfl) (by kernel_rfl) ?_
                refine vc_ret ?_
                refine block_r ?_
                refine seq_r ?_
                refine ret_1 (d := .v (.bool false)) (by kernel_rfl) ?_
                exact ⟨_, rfl, by rw [hlaw]; clear hlaw; simp_all <;> omega⟩
              · replace hc54 := bt hc54
                refine vcI_q 4 (by kernel_rfl) ?_
                refine vcI_end 76 [(1, .d (.v (.bool neg))), (3, .d (.sl (nd (r)) (dg (digs (r))))), (4, .d (.v (.int .i64 ((n : Int))))), (5, .d (.v (.bool more))), (12, .d (.v (.bool false))), (13, .d (.sl (nd (5 * 10 ^ z25.toNat)) (dg (digs (5 * 10 ^ z25.toNat))))), (14, .d (.v (.int .i64 d))), (22, .d (.v (.bool vb22))), (28, .d (.v (.bool vb28))), (36, .d (.v (.bool vb36))), (47, .d (.v (.int .i64 m))), (48, .d (.v (.bool true)))] [] (by kernel_rfl) (by kernel_rfl) (by kernel_rfl) ?_
                refine vc_ret ?_
                refine block_r ?_
                refine seq_r ?_
                refine ret_1 (d := .v (.bool false)) (by kernel_rfl) ?_
                exact ⟨_, rfl, by rw [hlaw]; clear hlaw; simp_all <;> omega⟩
            · replace hc51 := bt hc51
              refine vcI_q 7 (by kernel_rfl) ?_
              refine vcI_end 76 [(1, .d (.v (.bool neg))), (3, .d (.sl (nd (r)) (dg (digs (r))))), (4, .d (.v (.int .i64 ((n : Int))))), (5, .d (.v (.bool more))), (12, .d (.v (.bool true))), (13, .d (.sl (nd (5 * 10 ^ z25.toNat)) (dg (digs (5 * 10 ^ z25.toNat))))), (14, .d (.v (.int .i64 d))), (22, .d (.v (.bool vb22))), (28, .d (.v (.bool vb28))), (36, .d (.v (.bool vb36))), (47, .d (.v (.int .i64 m))), (48, .d (.v (.bool true)))] [] (by kernel_rfl) (by kernel_rfl) (by kernel_rfl) ?_
              refine vc_ret ?_
              refine block_r ?_
              refine seq_r ?_
              refine ret_1 (d := .v (.bool true)) (by kernel_rfl) ?_
              exact ⟨_, rfl, by rw [hlaw]; clear hlaw; simp_all <;> omega⟩
        · replace hc39 := bt hc39
          refine vcI_q 1 (by kernel_rfl) ?_
          refine vcI_idx1 (q := 0) (n := (nd (q))) (cs := (dg (digs (q)))) (d := .v (.int .i64 (((dig q 0 : Nat) : Int)))) (dst := (some 42)) (by kernel_rfl) (by omega) (by exact dg_get (digs_get? (by omega))) ?_
          refine vcI_q 1 (by kernel_rfl) ?_
          refine vcI_bin (op := .rem) (t := 3) (a := .int .i64 (((dig q 0 : Nat) : Int))) (b := .int .i64 2) (dst := (some 44)) (by kernel_rfl) ?_
          refine And.intro (by omega) ?_
          intro z44 hz44
          have ho := dig_odd hz44; rw [← hO] at ho; clear hO hz44
          refine vcI_bin (op := .eql) (t := 3) (a := .int .i64 z44) (b := .int .i64 1) (dst := (some 45)) (by kernel_rfl) ?_
          intro c45 hc45
          refine vcI_q 2 (by kernel_rfl) ?_
          refine vcI_end 76 [(0, .d (.v (.int .i64 m))), (1, .d (.v (.bool neg))), (3, .d (.sl (nd (r)) (dg (digs (r))))), (4, .d (.v (.int .i64 ((n : Int))))), (5, .d (.v (.bool more))), (12, .d (.v (.bool false))), (13, .d (.sl (nd (5 * 10 ^ z25.toNat)) (dg (digs (5 * 10 ^ z25.toNat))))), (14, .d (.v (.int .i64 d))), (15, .d (.v (.bool c45))), (22, .d (.v (.bool vb22))), (28, .d (.v (.bool vb28))), (36, .d (.v (.bool vb36)))] [] (by kernel_rfl) (by kernel_rfl) (by kernel_rfl) ?_
          refine vc_seq ?_
          refine vc_seqr rfl ?_
          refine vcI_q 1 (by kernel_rfl) ?_
          refine vcI_end 76 [(1, .d (.v (.bool neg))), (3, .d (.sl (nd (r)) (dg (digs (r))))), (4, .d (.v (.int .i64 ((n : Int))))), (5, .d (.v (.bool more))), (12, .d (.v (.bool false))), (13, .d (.sl (nd (5 * 10 ^ z25.toNat)) (dg (digs (5 * 10 ^ z25.toNat))))), (14, .d (.v (.int .i64 d))), (15, .d (.v (.bool c45))), (22, .d (.v (.bool vb22))), (28, .d (.v (.bool vb28))), (36, .d (.v (.bool vb36))), (47, .d (.v (.int .i64 m)))] [] (by kernel_rfl) (by kernel_rfl) (by kernel_rfl) ?_
          refine vc_block ?_
          refine vc_seqr rfl ?_
          refine vcI_bin (op := .eql) (t := 3) (a := .int .i64 m) (b := .int .i64 1) (dst := (some 49)) (by kernel_rfl) ?_
          intro c49 hc49
          refine vcI_q 1 (by kernel_rfl) ?_
          refine vcI_end 76 [(1, .d (.v (.bool neg))), (3, .d (.sl (nd (r)) (dg (digs (r))))), (4, .d (.v (.int .i64 ((n : Int))))), (5, .d (.v (.bool more))), (12, .d (.v (.bool false))), (13, .d (.sl (nd (5 * 10 ^ z25.toNat)) (dg (digs (5 * 10 ^ z25.toNat))))), (14, .d (.v (.int .i64 d))), (15, .d (.v (.bool c45))), (22, .d (.v (.bool vb22))), (28, .d (.v (.bool vb28))), (36, .d (.v (.bool vb36))), (47, .d (.v (.int .i64 m))), (48, .d (.v (.bool c49)))] [] (by kernel_rfl) (by kernel_rfl) (by kernel_rfl) ?_
          cases c49
          · replace hc49 := bf hc49
            refine vc_condf (by kernel_rfl) ?_
            refine vc_seqr rfl ?_
            refine vcI_bin (op := .eql) (t := 3) (a := .int .i64 m) (b := .int .i64 2) (dst := (some 60)) (by kernel_rfl) ?_
            intro c60 hc60
            refine vcI_q 1 (by kernel_rfl) ?_
            refine vcI_end 76 [(1, .d (.v (.bool neg))), (3, .d (.sl (nd (r)) (dg (digs (r))))), (4, .d (.v (.int .i64 ((n : Int))))), (5, .d (.v (.bool more))), (12, .d (.v (.bool false))), (13, .d (.sl (nd (5 * 10 ^ z25.toNat)) (dg (digs (5 * 10 ^ z25.toNat))))), (14, .d (.v (.int .i64 d))), (15, .d (.v (.bool c45))), (22, .d (.v (.bool vb22))), (28, .d (.v (.bool vb28))), (36, .d (.v (.bool vb36))), (47, .d (.v (.int .i64 m))), (48, .d (.v (.bool false))), (59, .d (.v (.bool c60)))] [] (by kernel_rfl) (by kernel_rfl) (by kernel_rfl) ?_
            cases c60
            · replace hc60 := bf hc60
              refine vc_condf (by kernel_rfl) ?_
              refine vc_seqr rfl ?_
              refine vcI_bin (op := .eql) (t := 3) (a := .int .i64 m) (b := .int .i64 3) (dst := (some 64)) (by kernel_rfl) ?_
              intro c64 hc64
              refine vcI_q 1 (by kernel_rfl) ?_
              refine vcI_end 76 [(1, .d (.v (.bool neg))), (3, .d (.sl (nd (r)) (dg (digs (r))))), (4, .d (.v (.int .i64 ((n : Int))))), (5, .d (.v (.bool more))), (12, .d (.v (.bool false))), (13, .d (.sl (nd (5 * 10 ^ z25.toNat)) (dg (digs (5 * 10 ^ z25.toNat))))), (14, .d (.v (.int .i64 d))), (15, .d (.v (.bool c45))), (22, .d (.v (.bool vb22))), (28, .d (.v (.bool vb28))), (36, .d (.v (.bool vb36))), (47, .d (.v (.int .i64 m))), (48, .d (.v (.bool false))), (59, .d (.v (.bool false))), (63, .d (.v (.bool c64)))] [] (by kernel_rfl) (by kernel_rfl) (by kernel_rfl) ?_
              cases c64
              · replace hc64 := bf hc64
                refine vc_condf (by kernel_rfl) ?_
                refine vc_seqr rfl ?_
                refine vcI_bin (op := .eql) (t := 3) (a := .int .i64 m) (b := .int .i64 4) (dst := (some 68)) (by kernel_rfl) ?_
                intro c68 hc68
                refine vcI_q 1 (by kernel_rfl) ?_
                refine vcI_end 76 [(1, .d (.v (.bool neg))), (3, .d (.sl (nd (r)) (dg (digs (r))))), (4, .d (.v (.int .i64 ((n : Int))))), (5, .d (.v (.bool more))), (12, .d (.v (.bool false))), (13, .d (.sl (nd (5 * 10 ^ z25.toNat)) (dg (digs (5 * 10 ^ z25.toNat))))), (14, .d (.v (.int .i64 d))), (15, .d (.v (.bool c45))), (22, .d (.v (.bool vb22))), (28, .d (.v (.bool vb28))), (36, .d (.v (.bool vb36))), (47, .d (.v (.int .i64 m))), (48, .d (.v (.bool false))), (59, .d (.v (.bool false))), (63, .d (.v (.bool false))), (67, .d (.v (.bool c68)))] [] (by kernel_rfl) (by kernel_rfl) (by kernel_rfl) ?_
                cases c68
                · replace hc68 := bf hc68
                  refine vc_condf (by kernel_rfl) ?_
                  refine vc_seqr rfl ?_
                  refine vcI_bin (op := .eql) (t := 3) (a := .int .i64 m) (b := .int .i64 6) (dst := (some 70)) (by kernel_rfl) ?_
                  intro c70 hc70
                  refine vcI_q 1 (by kernel_rfl) ?_
                  refine vcI_end 76 [(1, .d (.v (.bool neg))), (3, .d (.sl (nd (r)) (dg (digs (r))))), (4, .d (.v (.int .i64 ((n : Int))))), (5, .d (.v (.bool more))), (12, .d (.v (.bool false))), (13, .d (.sl (nd (5 * 10 ^ z25.toNat)) (dg (digs (5 * 10 ^ z25.toNat))))), (14, .d (.v (.int .i64 d))), (15, .d (.v (.bool c45))), (22, .d (.v (.bool vb22))), (28, .d (.v (.bool vb28))), (36, .d (.v (.bool vb36))), (47, .d (.v (.int .i64 m))), (48, .d (.v (.bool false))), (59, .d (.v (.bool false))), (63, .d (.v (.bool false))), (67, .d (.v (.bool false))), (69, .d (.v (.bool c70)))] [] (by kernel_rfl) (by kernel_rfl) (by kernel_rfl) ?_
                  cases c70
                  · replace hc70 := bf hc70
                    refine vc_condf (by kernel_rfl) ?_
                    refine vc_seqr rfl ?_
                    refine vcI_bin (op := .eql) (t := 3) (a := .int .i64 m) (b := .int .i64 7) (dst := (some 73)) (by kernel_rfl) ?_
                    intro c73 hc73
                    refine vcI_q 1 (by kernel_rfl) ?_
                    refine vcI_end 76 [(1, .d (.v (.bool neg))), (3, .d (.sl (nd (r)) (dg (digs (r))))), (4, .d (.v (.int .i64 ((n : Int))))), (5, .d (.v (.bool more))), (12, .d (.v (.bool false))), (13, .d (.sl (nd (5 * 10 ^ z25.toNat)) (dg (digs (5 * 10 ^ z25.toNat))))), (14, .d (.v (.int .i64 d))), (15, .d (.v (.bool c45))), (22, .d (.v (.bool vb22))), (28, .d (.v (.bool vb28))), (36, .d (.v (.bool vb36))), (47, .d (.v (.int .i64 m))), (48, .d (.v (.bool false))), (59, .d (.v (.bool false))), (63, .d (.v (.bool false))), (67, .d (.v (.bool false))), (69, .d (.v (.bool false))), (72, .d (.v (.bool c73)))] [] (by kernel_rfl) (by kernel_rfl) (by kernel_rfl) ?_
                    cases c73
                    · replace hc73 := bf hc73
                      refine vc_condf (by kernel_rfl) ?_
                      refine vc_skip ?_
                      refine block_n ?_
                      refine seq_n ?_
                      refine vc_seqr rfl ?_
                      refine vcI_q 1 (by kernel_rfl) ?_
                      refine vcI_end 76 [(1, .d (.v (.bool neg))), (3, .d (.sl (nd (r)) (dg (digs (r))))), (4, .d (.v (.int .i64 ((n : Int))))), (5, .d (.v (.bool more))), (12, .d (.v (.bool false))), (13, .d (.sl (nd (5 * 10 ^ z25.toNat)) (dg (digs (5 * 10 ^ z25.toNat))))), (14, .d (.v (.int .i64 d))), (15, .d (.v (.bool c45))), (22, .d (.v (.bool vb22))), (28, .d (.v (.bool vb28))), (36, .d (.v (.bool vb36))), (47, .d (.v (.int .i64 m))), (48, .d (.v (.bool false))), (59, .d (.v (.bool false))), (63, .d (.v (.bool false))), (67, .d (.v (.bool false))), (69, .d (.v (.bool false))), (72, .d (.v (.bool false)))] [] (by kernel_rfl) (by kernel_rfl) (by kernel_rfl) ?_
                      refine vc_ret ?_
                      refine ret_1 (d := .v (.bool false)) (by kernel_rfl) ?_
                      exact ⟨_, rfl, by rw [hlaw]; clear hlaw; simp_all <;> omega⟩
                    · replace hc73 := bt hc73
                      refine vc_condt (by kernel_rfl) ?_
                      refine vc_seqr rfl ?_
                      refine vcI_q 1 (by kernel_rfl) ?_
                      refine vcI_un (op := .not) (a := .bool neg) (dst := (some 75)) (by kernel_rfl) ?_
                      intro c75 hc75
                      refine vcI_q 1 (by kernel_rfl) ?_
                      refine vcI_end 76 [(1, .d (.v (.bool neg))), (3, .d (.sl (nd (r)) (dg (digs (r))))), (4, .d (.v (.int .i64 ((n : Int))))), (5, .d (.v (.bool more))), (12, .d (.v (.bool c75))), (13, .d (.sl (nd (5 * 10 ^ z25.toNat)) (dg (digs (5 * 10 ^ z25.toNat))))), (14, .d (.v (.int .i64 d))), (15, .d (.v (.bool c45))), (22, .d (.v (.bool vb22))), (28, .d (.v (.bool vb28))), (36, .d (.v (.bool vb36))), (47, .d (.v (.int .i64 m))), (48, .d (.v (.bool false))), (59, .d (.v (.bool false))), (63, .d (.v (.bool false))), (67, .d (.v (.bool false))), (69, .d (.v (.bool false))), (72, .d (.v (.bool true)))] [] (by kernel_rfl) (by kernel_rfl) (by kernel_rfl) ?_
                      refine vc_ret ?_
                      refine block_r ?_
                      refine seq_r ?_
                      refine ret_1 (d := .v (.bool c75)) (by kernel_rfl) ?_
                      exact ⟨_, rfl, by rw [hlaw]; clear hlaw; simp_all <;> omega⟩
                  · replace hc70 := bt hc70
                    refine vc_condt (by kernel_rfl) ?_
                    refine vc_seqr rfl ?_
                    refine vcI_q 2 (by kernel_rfl) ?_
                    refine vcI_end 76 [(1, .d (.v (.bool neg))), (3, .d (.sl (nd (r)) (dg (digs (r))))), (4, .d (.v (.int .i64 ((n : Int))))), (5, .d (.v (.bool more))), (12, .d (.v (.bool neg))), (13, .d (.sl (nd (5 * 10 ^ z25.toNat)) (dg (digs (5 * 10 ^ z25.toNat))))), (14, .d (.v (.int .i64 d))), (15, .d (.v (.bool c45))), (22, .d (.v (.bool vb22))), (28, .d (.v (.bool vb28))), (36, .d (.v (.bool vb36))), (47, .d (.v (.int .i64 m))), (48, .d (.v (.bool false))), (59, .d (.v (.bool false))), (63, .d (.v (.bool false))), (67, .d (.v (.bool false))), (69, .d (.v (.bool true)))] [] (by kernel_rfl) (by kernel_rfl) (by kernel_rfl) ?_
                    refine vc_ret ?_
                    refine block_r ?_
                    refine seq_r ?_
                    refine ret_1 (d := .v (.bool neg)) (by kernel_rfl) ?_
                    exact ⟨_, rfl, by rw [hlaw]; clear hlaw; simp_all <;> omega⟩
                · replace hc68 := bt hc68
                  refine vc_condt (by kernel_rfl) ?_
                  refine vc_seqr rfl ?_
                  refine vcI_q 1 (by kernel_rfl) ?_
                  refine vcI_end 76 [(1, .d (.v (.bool neg))), (3, .d (.sl (nd (r)) (dg (digs (r))))), (4, .d (.v (.int .i64 ((n : Int))))), (5, .d (.v (.bool more))), (12, .d (.v (.bool true))), (13, .d (.sl (nd (5 * 10 ^ z25.toNat)) (dg (digs (5 * 10 ^ z25.toNat))))), (14, .d (.v (.int .i64 d))), (15, .d (.v (.bool c45))), (22, .d (.v (.bool vb22))), (28, .d (.v (.bool vb28))), (36, .d (.v (.bool vb36))), (47, .d (.v (.int .i64 m))), (48, .d (.v (.bool false))), (59, .d (.v (.bool false))), (63, .d (.v (.bool false))), (67, .d (.v (.bool true)))] [] (by kernel_rfl) (by kernel_rfl) (by kernel_rfl) ?_
                  refine vc_ret ?_
                  refine block_r ?_
                  refine seq_r ?_
                  refine ret_1 (d := .v (.bool true)) (by kernel_rfl) ?_
                  exact ⟨_, rfl, by rw [hlaw]; clear hlaw; simp_all <;> omega⟩
              · replace hc64 := bt hc64
                refine vc_condt (by kernel_rfl) ?_
                refine vc_seqr rfl ?_
                refine vcI_q 1 (by kernel_rfl) ?_
                refine vcI_bin (op := .gtr) (t := 3) (a := .int .i64 d) (b := .int .i64 0) (dst := (some 66)) (by kernel_rfl) ?_
                intro c66 hc66
                refine vcI_q 1 (by kernel_rfl) ?_
                refine vcI_end 76 [(1, .d (.v (.bool neg))), (3, .d (.sl (nd (r)) (dg (digs (r))))), (4, .d (.v (.int .i64 ((n : Int))))), (5, .d (.v (.bool more))), (12, .d (.v (.bool c66))), (13, .d (.sl (nd (5 * 10 ^ z25.toNat)) (dg (digs (5 * 10 ^ z25.toNat))))), (14, .d (.v (.int .i64 d))), (15, .d (.v (.bool c45))), (22, .d (.v (.bool vb22))), (28, .d (.v (.bool vb28))), (36, .d (.v (.bool vb36))), (47, .d (.v (.int .i64 m))), (48, .d (.v (.bool false))), (59, .d (.v (.bool false))), (63, .d (.v (.bool true)))] [] (by kernel_rfl) (by kernel_rfl) (by kernel_rfl) ?_
                refine vc_ret ?_
                refine block_r ?_
                refine seq_r ?_
                refine ret_1 (d := .v (.bool c66)) (by kernel_rfl) ?_
                exact ⟨_, rfl, by rw [hlaw]; clear hlaw; simp_all <;> omega⟩
            · replace hc60 := bt hc60
              refine vc_condt (by kernel_rfl) ?_
              refine vc_seqr rfl ?_
              refine vcI_q 1 (by kernel_rfl) ?_
              refine vcI_bin (op := .geq) (t := 3) (a := .int .i64 d) (b := .int .i64 0) (dst := (some 62)) (by kernel_rfl) ?_
              intro c62 hc62
              refine vcI_q 1 (by kernel_rfl) ?_
              refine vcI_end 76 [(1, .d (.v (.bool neg))), (3, .d (.sl (nd (r)) (dg (digs (r))))), (4, .d (.v (.int .i64 ((n : Int))))), (5, .d (.v (.bool more))), (12, .d (.v (.bool c62))), (13, .d (.sl (nd (5 * 10 ^ z25.toNat)) (dg (digs (5 * 10 ^ z25.toNat))))), (14, .d (.v (.int .i64 d))), (15, .d (.v (.bool c45))), (22, .d (.v (.bool vb22))), (28, .d (.v (.bool vb28))), (36, .d (.v (.bool vb36))), (47, .d (.v (.int .i64 m))), (48, .d (.v (.bool false))), (59, .d (.v (.bool true)))] [] (by kernel_rfl) (by kernel_rfl) (by kernel_rfl) ?_
              refine vc_ret ?_
              refine block_r ?_
              refine seq_r ?_
              refine ret_1 (d := .v (.bool c62)) (by kernel_rfl) ?_
              exact ⟨_, rfl, by rw [hlaw]; clear hlaw; simp_all <;> omega⟩
          · replace hc49 := bt hc49
            refine vc_condt (by kernel_rfl) ?_
            refine vc_seqr rfl ?_
            refine vcI_q 1 (by kernel_rfl) ?_
            refine vcI_bin (op := .gtr) (t := 3) (a := .int .i64 d) (b := .int .i64 0) (dst := (some 51)) (by kernel_rfl) ?_
            intro c51 hc51
            refine vcI_q 1 (by kernel_rfl) ?_
            cases c51
            · replace hc51 := bf hc51
              refine vcI_q 1 (by kernel_rfl) ?_
              refine vcI_bin (op := .eql) (t := 3) (a := .int .i64 d) (b := .int .i64 0) (dst := (some 54)) (by kernel_rfl) ?_
              intro c54 hc54
              refine vcI_q 1 (by kernel_rfl) ?_
              cases c54
              · replace hc54 := bf hc54
                refine vcI_q 4 (by kernel_rfl) ?_
                refine vcI_end 76 [(1, .d (.v (.bool neg))), (3, .d (.sl (nd (r)) (dg (digs (r))))), (4, .d (.v (.int .i64 ((n : Int))))), (5, .d (.v (.bool more))), (12, .d (.v (.bool false))), (13, .d (.sl (nd (5 * 10 ^ z25.toNat)) (dg (digs (5 * 10 ^ z25.toNat))))), (14, .d (.v (.int .i64 d))), (22, .d (.v (.bool vb22))), (28, .d (.v (.bool vb28))), (36, .d (.v (.bool vb36))), (47, .d (.v (.int .i64 m))), (48, .d (.v (.bool true)))] [] (by kernel_rfl) (by kernel_rfl) (by kernel_rfl) ?_
                refine vc_ret ?_
                refine block_r ?_
                refine seq_r ?_
                refine ret_1 (d := .v (.bool false)) (by kernel_rfl) ?_
                exact ⟨_, rfl, by rw [hlaw]; clear hlaw; simp_all <;> omega⟩
              · replace hc54 := bt hc54
                refine vcI_q 4 (by kernel_rfl) ?_
                refine vcI_end 76 [(1, .d (.v (.bool neg))), (3, .d (.sl (nd (r)) (dg (digs (r))))), (4, .d (.v (.int .i64 ((n : Int))))), (5, .d (.v (.bool more))), (12, .d (.v (.bool c45))), (13, .d (.sl (nd (5 * 10 ^ z25.toNat)) (dg (digs (5 * 10 ^ z25.toNat))))), (14, .d (.v (.int .i64 d))), (22, .d (.v (.bool vb22))), (28, .d (.v (.bool vb28))), (36, .d (.v (.bool vb36))), (47, .d (.v (.int .i64 m))), (48, .d (.v (.bool true)))] [] (by kernel_rfl) (by kernel_rfl) (by kernel_rfl) ?_
                refine vc_ret ?_
                refine block_r ?_
                refine seq_r ?_
                refine ret_1 (d := .v (.bool c45)) (by kernel_rfl) ?_
                exact ⟨_, rfl, by rw [hlaw]; clear hlaw; simp_all <;> omega⟩
            · replace hc51 := bt hc51
              refine vcI_q 7 (by kernel_rfl) ?_
              refine vcI_end 76 [(1, .d (.v (.bool neg))), (3, .d (.sl (nd (r)) (dg (digs (r))))), (4, .d (.v (.int .i64 ((n : Int))))), (5, .d (.v (.bool more))), (12, .d (.v (.bool true))), (13, .d (.sl (nd (5 * 10 ^ z25.toNat)) (dg (digs (5 * 10 ^ z25.toNat))))), (14, .d (.v (.int .i64 d))), (22, .d (.v (.bool vb22))), (28, .d (.v (.bool vb28))), (36, .d (.v (.bool vb36))), (47, .d (.v (.int .i64 m))), (48, .d (.v (.bool true)))] [] (by kernel_rfl) (by kernel_rfl) (by kernel_rfl) ?_
              refine vc_ret ?_
              refine block_r ?_
              refine seq_r ?_
              refine ret_1 (d := .v (.bool true)) (by kernel_rfl) ?_
              exact ⟨_, rfl, by rw [hlaw]; clear hlaw; simp_all <;> omega⟩
      intro hmid
      refine vc_seqr rfl ?_
      refine vcI_q 1 (by kernel_rfl) ?_
      refine vcI_bin (op := .eql) (t := 3) (a := .int .i64 c) (b := .int .i64 0) (dst := (some 33)) (by kernel_rfl) ?_
      intro c33 hc33
      refine vcI_q 1 (by kernel_rfl) ?_
      cases c33
      · replace hc33 := bf hc33
        refine vcI_q 2 (by kernel_rfl) ?_
        refine vcI_end 76 [(0, .d (.v (.int .i64 m))), (1, .d (.v (.bool neg))), (2, .d (.sl (nd (q)) (dg (digs (q))))), (3, .d (.sl (nd (r)) (dg (digs (r))))), (4, .d (.v (.int .i64 ((n : Int))))), (5, .d (.v (.bool more))), (12, .d (.v (.bool false))), (13, .d (.sl (nd (5 * 10 ^ z25.toNat)) (dg (digs (5 * 10 ^ z25.toNat))))), (14, .d (.v (.int .i64 c))), (22, .d (.v (.bool vb22))), (28, .d (.v (.bool vb28))), (36, .d (.v (.bool false)))] [] (by kernel_rfl) (by kernel_rfl) (by kernel_rfl) ?_
        refine vc_condf (by kernel_rfl) ?_
        refine vc_skip ?_
        refine mid_n hmid (c, false) (up_c2 hr hRi hc0 (.inr ⟨fun h => hc33 h.1, rfl⟩)) (by kernel_rfl)
      · replace hc33 := bt hc33
        refine vcI_q 2 (by kernel_rfl) ?_
        refine vcI_end 76 [(0, .d (.v (.int .i64 m))), (1, .d (.v (.bool neg))), (2, .d (.sl (nd (q)) (dg (digs (q))))), (3, .d (.sl (nd (r)) (dg (digs (r))))), (4, .d (.v (.int .i64 ((n : Int))))), (5, .d (.v (.bool more))), (12, .d (.v (.bool false))), (13, .d (.sl (nd (5 * 10 ^ z25.toNat)) (dg (digs (5 * 10 ^ z25.toNat))))), (14, .d (.v (.int .i64 c))), (22, .d (.v (.bool vb22))), (28, .d (.v (.bool vb28))), (36, .d (.v (.bool more)))] [] (by kernel_rfl) (by kernel_rfl) (by kernel_rfl) ?_
        cases more
        · skip
          refine vc_condf (by kernel_rfl) ?_
          refine vc_skip ?_
          refine mid_n hmid (c, false) (up_c2 hr hRi hc0 (.inr ⟨fun h => by simpa using h.2, rfl⟩)) (by kernel_rfl)
        · skip
          refine vc_condt (by kernel_rfl) ?_
          refine vc_reg rfl ?_
          refine vcI_q 1 (by kernel_rfl) ?_
          refine vcI_end 76 [(0, .d (.v (.int .i64 m))), (1, .d (.v (.bool neg))), (2, .d (.sl (nd (q)) (dg (digs (q))))), (3, .d (.sl (nd (r)) (dg (digs (r))))), (4, .d (.v (.int .i64 ((n : Int))))), (5, .d (.v (.bool true))), (12, .d (.v (.bool false))), (13, .d (.sl (nd (5 * 10 ^ z25.toNat)) (dg (digs (5 * 10 ^ z25.toNat))))), (14, .d (.v (.int .i64 1))), (22, .d (.v (.bool vb22))), (28, .d (.v (.bool vb28))), (36, .d (.v (.bool true)))] [] (by kernel_rfl) (by kernel_rfl) (by kernel_rfl) ?_
          refine mid_n hmid (1, true) (up_c2 hr hRi hc0 (.inl ⟨hc33, rfl, rfl⟩)) (by kernel_rfl)
    intro hmid
    refine vc_seqr rfl ?_
    refine vcI_q 1 (by kernel_rfl) ?_
    refine vcI_bin (op := .lss) (t := 3) (a := .int .i64 ((n : Int))) (b := .int .i64 1) (dst := (some 28)) (by kernel_rfl) ?_
    intro c28 hc28
    refine vcI_end 76 [(0, .d (.v (.int .i64 m))), (1, .d (.v (.bool neg))), (2, .d (.sl (nd (q)) (dg (digs (q))))), (3, .d (.sl (nd (r)) (dg (digs (r))))), (4, .d (.v (.int .i64 ((n : Int))))), (5, .d (.v (.bool more))), (12, .d (.v (.bool false))), (13, .d (.sl (nd (5 * 10 ^ z25.toNat)) (dg (digs (5 * 10 ^ z25.toNat))))), (14, .d (.v (.int .i64 1))), (22, .d (.v (.bool vb22))), (28, .d (.v (.bool c28)))] [] (by kernel_rfl) (by kernel_rfl) (by kernel_rfl) ?_
    cases c28
    · replace hc28 := bf hc28
      have e25 : z25.toNat = n - 1 := by omega
      refine vc_condf (by kernel_rfl) ?_
      refine vc_reg rfl ?_
      refine vcI_q 2 (by kernel_rfl) ?_
      refine vcI_call (f := 39) (ds := [.sl (nd (r)) (dg (digs (r))), .sl (nd (5 * 10 ^ z25.toNat)) (dg (digs (5 * 10 ^ z25.toNat)))]) (dst := (some 31)) (by kernel_rfl) (c_Cmp (a := r) (b := 5 * 10 ^ z25.toNat) (by omega) (by have := nd_mul 5 (10 ^ z25.toNat); have : nd (10 ^ z25.toNat) ≤ z25.toNat + 1 := nd_le _ _ (Nat.pow_lt_pow_right (by decide) (by omega)); have := nd_small (show 5 < 10 by decide); omega)) ?_
      rintro _ rfl
      refine vcI_q 1 (by kernel_rfl) ?_
      refine vcI_end 76 [(0, .d (.v (.int .i64 m))), (1, .d (.v (.bool neg))), (2, .d (.sl (nd (q)) (dg (digs (q))))), (3, .d (.sl (nd (r)) (dg (digs (r))))), (4, .d (.v (.int .i64 ((n : Int))))), (5, .d (.v (.bool more))), (12, .d (.v (.bool false))), (13, .d (.sl (nd (5 * 10 ^ z25.toNat)) (dg (digs (5 * 10 ^ z25.toNat))))), (14, .d (.v (.int .i64 (cmpN r (5 * 10 ^ z25.toNat))))), (22, .d (.v (.bool vb22))), (28, .d (.v (.bool false)))] [] (by kernel_rfl) (by kernel_rfl) (by kernel_rfl) ?_
      refine mid_n hmid (cmpN r (5 * 10 ^ z25.toNat), false) (.inl ⟨by omega, by rw [e25]⟩) (by kernel_rfl)
    · replace hc28 := bt hc28
      refine vc_condt (by kernel_rfl) ?_
      refine vc_reg rfl ?_
      refine vcI_q 1 (by kernel_rfl) ?_
      refine vcI_end 76 [(0, .d (.v (.int .i64 m))), (1, .d (.v (.bool neg))), (2, .d (.sl (nd (q)) (dg (digs (q))))), (3, .d (.sl (nd (r)) (dg (digs (r))))), (4, .d (.v (.int .i64 ((n : Int))))), (5, .d (.v (.bool more))), (12, .d (.v (.bool false))), (13, .d (.sl (nd (5 * 10 ^ z25.toNat)) (dg (digs (5 * 10 ^ z25.toNat))))), (14, .d (.v (.int .i64 (-1)))), (22, .d (.v (.bool vb22))), (28, .d (.v (.bool true)))] [] (by kernel_rfl) (by kernel_rfl) (by kernel_rfl) ?_
      refine mid_n hmid (-1, true) (.inr ⟨by omega, rfl⟩) (by kernel_rfl)
  intro hmid
  refine vc_seqr rfl ?_
  refine vcI_q 2 (by kernel_rfl) ?_
  refine vcI_bin (op := .eql) (t := 3) (a := .int .i64 (((nd (r) : Nat) : Int))) (b := .int .i64 0) (dst := (some 18)) (by kernel_rfl) ?_
  intro c18 hc18
  refine vcI_q 1 (by kernel_rfl) ?_
  cases c18
  · replace hc18 := bf hc18
    refine vcI_q 3 (by kernel_rfl) ?_
    refine vcI_end 76 [(0, .d (.v (.int .i64 m))), (1, .d (.v (.bool neg))), (2, .d (.sl (nd (q)) (dg (digs (q))))), (3, .d (.sl (nd (r)) (dg (digs (r))))), (4, .d (.v (.int .i64 ((n : Int))))), (5, .d (.v (.bool more))), (12, .d (.v (.bool false))), (22, .d (.v (.bool false)))] [] (by kernel_rfl) (by kernel_rfl) (by kernel_rfl) ?_
    refine vc_condf (by kernel_rfl) ?_
    refine vc_skip ?_
    refine mid_n hmid false (.inl (fun h => hc18 (by rw [h, nd_zero]; rfl))) (by kernel_rfl)
  · replace hc18 := bt hc18
    refine vcI_q 1 (by kernel_rfl) ?_
    refine vcI_un (op := .not) (a := .bool more) (dst := (some 21)) (by kernel_rfl) ?_
    intro c21 hc21
    have hr0 : r = 0 := nd_eq0.1 (by omega)
    refine vcI_q 1 (by kernel_rfl) ?_
    refine vcI_end 76 [(0, .d (.v (.int .i64 m))), (1, .d (.v (.bool neg))), (2, .d (.sl (nd (q)) (dg (digs (q))))), (3, .d (.sl (nd (r)) (dg (digs (r))))), (4, .d (.v (.int .i64 ((n : Int))))), (5, .d (.v (.bool more))), (12, .d (.v (.bool false))), (22, .d (.v (.bool c21)))] [] (by kernel_rfl) (by kernel_rfl) (by kernel_rfl) ?_
    cases c21
    · replace hc21 := bf hc21
      refine vc_condf (by kernel_rfl) ?_
      refine vc_skip ?_
      refine mid_n hmid false (.inr (by simpa using hc21)) (by kernel_rfl)
    · replace hc21 := bt hc21
      refine vc_condt (by kernel_rfl) ?_
      refine vc_seqr rfl ?_
      refine vcI_q 1 (by kernel_rfl) ?_
      refine vcI_end 76 [(0, .d (.v (.int .i64 m))), (1, .d (.v (.bool neg))), (2, .d (.sl (nd (q)) (dg (digs (q))))), (3, .d (.sl (nd (r)) (dg (digs (r))))), (4, .d (.v (.int .i64 ((n : Int))))), (5, .d (.v (.bool more))), (12, .d (.v (.bool false))), (22, .d (.v (.bool true)))] [] (by kernel_rfl) (by kernel_rfl) (by kernel_rfl) ?_
      refine vc_ret ?_
      refine seq_r ?_
      refine ret_1 (d := .v (.bool false)) (by kernel_rfl) ?_
      exact ⟨_, rfl, by obtain ⟨e1, e2⟩ := up_none hr0 hc21 hRi; rw [e1, e2]; simp [UpP_none]⟩

end Go.Proofs.Ytdlfgliokkgceaa
