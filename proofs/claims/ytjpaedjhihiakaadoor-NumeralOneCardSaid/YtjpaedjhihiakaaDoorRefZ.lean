/-
  The reference's rounding: casuistref02. The reference's rounding: Cut, Fit, Mul.
-/
import Derived.Test.YtjpaedjhihiakaaDoorDecs
namespace Go.Proofs.YtjpaedjhihiakaaDoor

open Go.RowKit
set_option linter.unusedVariables false
set_option linter.unusedSimpArgs false
set_option maxRecDepth 100000

def dRD (neg : Bool) (n : Nat) (e : Int) : DV := .agg [.v (.bool neg), .sl (nd n) (dg (digs n)), .v (.int .i64 e)]
theorem dRD_0 (g : Bool) (e : Int) : dRD g 0 e = .agg [.v (.bool g), .sl 0 [], .v (.int .i64 e)] := by
  unfold dRD
  rw [dn_zero]
theorem nd_eq0 {n : Nat} : nd n = 0 ↔ n = 0 := by
  constructor
  · intro h
    by_cases k : n = 0
    · exact k
    · have := nd_pos k
      omega
  · rintro rfl
    exact nd_zero

theorem digs_5 : digs 5 = [5] := by rw [digs_pos (by decide)]; simp [digs_zero]
theorem dn_five : (.sl (nd 5) (dg (digs 5)) : DV) = .sl 1 [.v (.int .i64 5)] := by rw [nd_def, digs_5]; rfl
/-- What up holds the rest against: half of what is cut. -/
structure UpC (L : Nat) (R : Bool) (c : Int) : Prop where
  gt : 0 < c ↔ 5 < L ∨ (L = 5 ∧ R = true)
  eq : c = 0 ↔ L = 5 ∧ R = false
theorem up_cmp {r n : Nat} {c c' : Int} {more R : Bool} (h1 : 1 ≤ n) (hr : r < 10 ^ n) (hR : R = true ↔ restP more r n) (hc : c = cmpN r (5 * 10 ^ (n - 1))) (hc' : (c = 0 ∧ more = true ∧ c' = 1) ∨ (¬ (c = 0 ∧ more = true) ∧ c' = c)) : UpC (lastD r n) R c' := by
  obtain ⟨i, rfl⟩ : ∃ i, n = i + 1 := ⟨n - 1, by omega⟩
  rw [Nat.add_sub_cancel] at hc
  have hp : 0 < 10 ^ i := Nat.pow_pos (by decide)
  have e := Nat.div_add_mod r (10 ^ i)
  have hm := Nat.mod_lt r hp
  have hR' : R = true ↔ more = true ∨ r % 10 ^ i ≠ 0 := hR
  have hL : lastD r (i + 1) = r / 10 ^ i := Nat.mod_eq_of_lt (Nat.div_lt_of_lt_mul (by rw [Nat.pow_succ] at hr; exact hr))
  rw [hL]
  have k1 := cN_lt (a := r) (b := 5 * 10 ^ i)
  have k2 := cN_eq (a := r) (b := 5 * 10 ^ i)
  rw [← hc] at k1 k2
  clear hR hc hL hr
  generalize r / 10 ^ i = L at *
  generalize r % 10 ^ i = low at *
  generalize 10 ^ i = P at *
  have h4 : L ≤ 4 → P * L ≤ P * 4 := fun h => Nat.mul_le_mul_left _ h
  have h6 : 6 ≤ L → P * 6 ≤ P * L := fun h => Nat.mul_le_mul_left _ h
  have h5 : L = 5 → P * L = P * 5 := fun h => by rw [h]
  generalize P * L = X at *
  cases more <;> cases R <;> simp at hR' hc' <;> constructor <;> simp <;> omega
theorem lastD_mod (N n : Nat) : lastD (N % 10 ^ n) n = lastD N n := by
  cases n with
  | zero => rfl
  | succ i =>
    show N % 10 ^ (i + 1) / 10 ^ i % 10 = N / 10 ^ i % 10
    rw [Nat.pow_succ, Nat.mod_mul_right_div_self, Nat.mod_mod]
theorem restP_mod (more : Bool) (N n : Nat) : restP more (N % 10 ^ n) n ↔ restP more N n := by
  cases n with
  | zero => exact Iff.rfl
  | succ i =>
    show more = true ∨ N % 10 ^ (i + 1) % 10 ^ i ≠ 0 ↔ more = true ∨ N % 10 ^ i ≠ 0
    rw [Nat.mod_mod_of_dvd _ (Nat.pow_dvd_pow 10 (Nat.le_succ i))]

theorem dig_odd {q : Nat} {z : Int} (h : z = ((dig q 0 : Nat) : Int).tmod 2) : z = 1 ↔ decide (q % 2 = 1) = true := by
  have e : dig q 0 = q % 10 := by simp [dig]
  rw [e, Int.tmod_eq_emod_of_nonneg (by omega)] at h
  simp only [decide_eq_true_eq]
  omega

theorem up_some {r n : Nat} {more R : Bool} (hr : r < 10 ^ n) (hR : R = true ↔ restP more r n) (h : r ≠ 0 ∨ more = true) : 0 < lastD r n ∨ R = true := by
  rw [hR]
  cases n with
  | zero =>
    right
    have : r = 0 := by simpa using hr
    exact h.resolve_left (fun k => k this)
  | succ i =>
    rcases h with h | h
    · by_cases h1 : r % 10 ^ i = 0
      · left
        have hL : lastD r (i + 1) = r / 10 ^ i := Nat.mod_eq_of_lt (Nat.div_lt_of_lt_mul (by rw [Nat.pow_succ] at hr; exact hr))
        rw [hL]
        rcases Nat.eq_zero_or_pos (r / 10 ^ i) with h2 | h2
        · have := Nat.div_add_mod r (10 ^ i)
          rw [h1, h2] at this
          simp at this
          exact absurd this.symm h
        · exact h2
      · exact .inr (.inr h1)
    · exact .inr (.inl h)
theorem up_none {r n : Nat} {more R : Bool} (hr : r = 0) (hm : more = false) (hR : R = true ↔ restP more r n) : lastD r n = 0 ∧ R = false := by
  subst hr hm
  cases n with
  | zero => exact ⟨rfl, bff hR (by simp [restP])⟩
  | succ i => exact ⟨by simp [lastD], bff hR (by simp [restP])⟩
theorem up_c2 {r n : Nat} {c d : Int} {more R : Bool} (hr : r < 10 ^ n) (hR : R = true ↔ restP more r n) (hc : (1 ≤ n ∧ c = cmpN r (5 * 10 ^ (n - 1))) ∨ (n = 0 ∧ c = -1)) (hd : (c = 0 ∧ more = true ∧ d = 1) ∨ (¬ (c = 0 ∧ more = true) ∧ d = c)) : UpC (lastD r n) R d := by
  rcases hc with ⟨h1, h2⟩ | ⟨h1, h2⟩
  · exact up_cmp h1 hr hR h2 hd
  · subst h1
    have hL : lastD r 0 = 0 := rfl
    rw [hL]
    have : d = -1 := by
      rcases hd with h | h
      · omega
      · omega
    subst this
    constructor <;> simp <;> omega

theorem up_law {m : Int} {neg O R : Bool} {L : Nat} {d : Int} (h : UpC L R d) (h0 : 0 < L ∨ R = true) : UpP m neg O L R ↔ (m = 1 ∧ (0 < d ∨ (d = 0 ∧ O = true))) ∨ (m = 2 ∧ 0 ≤ d) ∨ (m = 3 ∧ 0 < d) ∨ m = 4 ∨ (m = 6 ∧ neg = true) ∨ (m = 7 ∧ neg = false) := by
  obtain ⟨h1, h2⟩ := h
  have h3 : 0 ≤ d ↔ 0 < d ∨ d = 0 := ⟨fun h => by omega, fun h => by omega⟩
  have h0' : 0 < (L : Int) ∨ R = true := h0.imp (fun h => by omega) id
  unfold UpP
  rw [h3, h1, h2]
  constructor
  · rintro (⟨k, k1⟩ | ⟨k, k1⟩ | ⟨k, k1⟩ | ⟨k, k1⟩ | ⟨k, k1, k2⟩ | ⟨k, k1, k2⟩)
    · refine .inl ⟨k, ?_⟩
      cases R <;> cases O <;> simp at k1 ⊢ <;> omega
    · refine .inr (.inl ⟨k, ?_⟩)
      cases R <;> simp <;> omega
    · refine .inr (.inr (.inl ⟨k, ?_⟩))
      cases R <;> simp at k1 ⊢ <;> omega
    · exact .inr (.inr (.inr (.inl k)))
    · exact .inr (.inr (.inr (.inr (.inl ⟨k, k1⟩))))
    · exact .inr (.inr (.inr (.inr (.inr ⟨k, k1⟩))))
  · rintro (⟨k, k1⟩ | ⟨k, k1⟩ | ⟨k, k1⟩ | k | ⟨k, k1⟩ | ⟨k, k1⟩)
    · refine .inl ⟨k, ?_⟩
      cases R <;> cases O <;> simp at k1 ⊢ <;> omega
    · refine .inr (.inl ⟨k, ?_⟩)
      omega
    · refine .inr (.inr (.inl ⟨k, ?_⟩))
      cases R <;> simp at k1 ⊢ <;> omega
    · exact .inr (.inr (.inr (.inl ⟨k, h0'⟩)))
    · exact .inr (.inr (.inr (.inr (.inl ⟨k, k1, h0'⟩))))
    · exact .inr (.inr (.inr (.inr (.inr ⟨k, k1, h0'⟩))))



open Go.RowKit
set_option linter.unusedVariables false
set_option linter.unusedSimpArgs false
set_option maxRecDepth 100000

theorem dval_cut (N k : Nat) (hk : k ≤ nd N) : dval ((digs N).take k) = N % 10 ^ k ∧ dval ((digs N).drop k) = N / 10 ^ k := by
  have e := dval_append ((digs N).take k) ((digs N).drop k)
  rw [List.take_append_drop, dval_digs, List.length_take, Nat.min_eq_left (show k ≤ (digs N).length from hk)] at e
  have h := dval_lt (ds := (digs N).take k) fun d hd => digs_lt (List.mem_of_mem_take hd)
  rw [List.length_take, Nat.min_eq_left (show k ≤ (digs N).length from hk)] at h
  have hp : 0 < 10 ^ k := Nat.pow_pos (by decide)
  clear hk
  generalize dval ((digs N).take k) = A at *
  generalize dval ((digs N).drop k) = B at *
  constructor
  · rw [e, Nat.add_mul_mod_self_left, Nat.mod_eq_of_lt h]
  · rw [e, Nat.add_mul_div_left _ _ hp, Nat.div_eq_of_lt h, Nat.zero_add]
theorem min_cut (N n : Nat) : N % 10 ^ min n (nd N) = N % 10 ^ n ∧ N / 10 ^ min n (nd N) = N / 10 ^ n := by
  rcases Nat.le_total n (nd N) with h | h
  · rw [Nat.min_eq_left h]
    exact ⟨rfl, rfl⟩
  · have h1 := lt_nd N
    have h2 : N < 10 ^ n := Nat.lt_of_lt_of_le h1 (Nat.pow_le_pow_right (by decide) h)
    rw [Nat.min_eq_right h, Nat.mod_eq_of_lt h1, Nat.mod_eq_of_lt h2, Nat.div_eq_of_lt h1, Nat.div_eq_of_lt h2]
    exact ⟨rfl, rfl⟩
theorem c_TrimDrop {N n k : Nat} (hk : k = min n (nd N)) (hl : nd N ≤ 100000000000) : HasC Tryd.prog 142 [.sl ((digs N).drop k).length (dg ((digs N).drop k))] (fun y => y = .sl (nd (N / 10 ^ n)) (dg (digs (N / 10 ^ n)))) := by
  have e := c_TrimD (ds := (digs N).drop k) (fun d hd => digs_lt (List.mem_of_mem_drop hd)) (by rw [List.length_drop]; have : (digs N).length = nd N := rfl; omega)
  rw [(dval_cut N k (by omega)).2, hk, (min_cut N n).2] at e
  rw [hk]
  exact e
theorem c_TrimTake {N n k : Nat} (hk : k = min n (nd N)) (hl : nd N ≤ 100000000000) : HasC Tryd.prog 142 [.sl ((digs N).take k).length (dg ((digs N).take k))] (fun y => y = .sl (nd (N % 10 ^ n)) (dg (digs (N % 10 ^ n)))) := by
  have e := c_TrimD (ds := (digs N).take k) (fun d hd => digs_lt (List.mem_of_mem_take hd)) (by rw [List.length_take]; have : (digs N).length = nd N := rfl; omega)
  rw [(dval_cut N k (by omega)).1, hk, (min_cut N n).1] at e
  rw [hk]
  exact e
theorem dg_drop (ds : List Nat) (n : Nat) : (dg ds).drop n = dg (ds.drop n) := by simp [dg]
theorem part_drop {N k : Nat} {K : Int} (hK : K = (k : Int)) (hk : k ≤ nd N) : ((dg (digs N)).drop (K.toNat * 1)).take (((digs N).drop k).length * 1) = dg ((digs N).drop k) := by
  subst hK
  rw [Int.toNat_natCast, Nat.mul_one, Nat.mul_one, dg_drop, dg_take, List.take_length]
theorem part_take {N k : Nat} (hk : k ≤ nd N) : ((dg (digs N)).drop ((0 : Int).toNat * 1)).take (((digs N).take k).length * 1) = dg ((digs N).take k) := by
  have : (digs N).length = nd N := rfl
  rw [show (0 : Int).toNat * 1 = 0 from rfl, List.drop_zero, Nat.mul_one, List.length_take, Nat.min_eq_left (by omega), dg_take]

def dRFit (t : T4) : DV := .tup [dRD t.1 t.2.1 t.2.2.1, .v (.bool t.2.2.2)]
theorem dRFit_0 (e : Int) (ok : Bool) : dRFit (false, 0, e, ok) = .tup [.agg [.v (.bool false), .sl 0 [], .v (.int .i64 e)], .v (.bool ok)] := by
  show DV.tup [dRD false 0 e, _] = _
  rw [dRD_0]
theorem E34_nd {n : Nat} : E34 ≤ n ↔ 34 < nd n := by
  constructor
  · intro h
    exact nd_gt h
  · intro h
    rcases Nat.lt_or_ge n E34 with k | k
    · have := nd_le 34 n k
      omega
    · exact k
theorem rfit_ex {P : Program} {f : FuncId} {ds : List DV} {t : T4} (h : HasC P f ds (fun y => y = dRFit t)) : HasC P f ds (fun y => ∃ g k x ok, y = .tup [dRD g k x, .v (.bool ok)] ∧ t = (g, k, x, ok)) :=
  h.mono fun y hy => ⟨_, _, _, _, hy, rfl⟩
theorem dfit_ex {P : Program} {f : FuncId} {ds : List DV} {t : T4} (h : HasC P f ds (fun y => y = dFit t)) : HasC P f ds (fun y => ∃ g k x ok, y = .tup [dDec g k x, .v (.bool ok)] ∧ t = (g, k, x, ok)) :=
  h.mono fun y hy => ⟨_, _, _, _, hy, rfl⟩
theorem mulT_U {t u : T4} (h1 : t.2.1 < E34) (h2 : u.2.1 < E34) : mulT t u = fitU 1 (t.1 != u.1) (t.2.1 * u.2.1) (t.2.2.1 + u.2.2.1) false :=
  fitT_U _ _ _ _ (by have := nd_mul t.2.1 u.2.1; have := nd_le 34 _ h1; have := nd_le 34 _ h2; omega)

end Go.Proofs.YtjpaedjhihiakaaDoor
