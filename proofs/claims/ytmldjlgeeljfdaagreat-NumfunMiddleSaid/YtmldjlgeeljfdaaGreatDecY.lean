/-
  The reference's rounding: casuistref02. The reference's rounding: Cut, Fit, Mul. Sums and order of numbers, as plain data. The order of numbers, as plain data; what rounding keeps. Rounding keeps the order. dec: size, higher, Neg, at. dec.Add, Sub, Cmp.
-/
import Derived.Test.YtmldjlgeeljfdaaGreatDecs
import Derived.Test.YtmldjlgeeljfdaaGreatVcY
namespace Go.Proofs.YtmldjlgeeljfdaaGreat

open Go.RowKit
set_option linter.unusedVariables false
set_option linter.unusedSimpArgs false
set_option maxRecDepth 100000

def dRD (neg : Bool) (n : Nat) (e : Int) : DV := .agg [.v (.bool neg), .sl (nd n) (dg (digs n)), .v (.int .i64 e)]
theorem dRD_0 (g : Bool) (e : Int) : dRD g 0 e = .agg [.v (.bool g), .sl 0 [], .v (.int .i64 e)] := by
  unfold dRD
  rw [dn_zero]
theorem nd_eq0 {n : Nat} : nd n = 0 ↔ n = 0 := by
  constructor
  · intro h
    by_cases k : n = 0
    · exact k
    · have := nd_pos k
      omega
  · rintro rfl
    exact nd_zero

theorem digs_5 : digs 5 = [5] := by rw [digs_pos (by decide)]; simp [digs_zero]
theorem dn_five : (.sl (nd 5) (dg (digs 5)) : DV) = .sl 1 [.v (.int .i64 5)] := by rw [nd_def, digs_5]; rfl
/-- What up holds the rest against: half of what is cut. -/
structure UpC (L : Nat) (R : Bool) (c : Int) : Prop where
  gt : 0 < c ↔ 5 < L ∨ (L = 5 ∧ R = true)
  eq : c = 0 ↔ L = 5 ∧ R = false
theorem up_cmp {r n : Nat} {c c' : Int} {more R : Bool} (h1 : 1 ≤ n) (hr : r < 10 ^ n) (hR : R = true ↔ restP more r n) (hc : c = cmpN r (5 * 10 ^ (n - 1))) (hc' : (c = 0 ∧ more = true ∧ c' = 1) ∨ (¬ (c = 0 ∧ more = true) ∧ c' = c)) : UpC (lastD r n) R c' := by
  obtain ⟨i, rfl⟩ : ∃ i, n = i + 1 := ⟨n - 1, by omega⟩
  rw [Nat.add_sub_cancel] at hc
  have hp : 0 < 10 ^ i := Nat.pow_pos (by decide)
  have e := Nat.div_add_mod r (10 ^ i)
  have hm := Nat.mod_lt r hp
  have hR' : R = true ↔ more = true ∨ r % 10 ^ i ≠ 0 := hR
  have hL : lastD r (i + 1) = r / 10 ^ i := Nat.mod_eq_of_lt (Nat.div_lt_of_lt_mul (by rw [Nat.pow_succ] at hr; exact hr))
  rw [hL]
  have k1 := cN_lt (a := r) (b := 5 * 10 ^ i)
  have k2 := cN_eq (a := r) (b := 5 * 10 ^ i)
  rw [← hc] at k1 k2
  clear hR hc hL hr
  generalize r / 10 ^ i = L at *
  generalize r % 10 ^ i = low at *
  generalize 10 ^ i = P at *
  have h4 : L ≤ 4 → P * L ≤ P * 4 := fun h => Nat.mul_le_mul_left _ h
  have h6 : 6 ≤ L → P * 6 ≤ P * L := fun h => Nat.mul_le_mul_left _ h
  have h5 : L = 5 → P * L = P * 5 := fun h => by rw [h]
  generalize P * L = X at *
  cases more <;> cases R <;> simp at hR' hc' <;> constructor <;> simp <;> omega
theorem lastD_mod (N n : Nat) : lastD (N % 10 ^ n) n = lastD N n := by
  cases n with
  | zero => rfl
  | succ i =>
    show N % 10 ^ (i + 1) / 10 ^ i % 10 = N / 10 ^ i % 10
    rw [Nat.pow_succ, Nat.mod_mul_right_div_self, Nat.mod_mod]
theorem restP_mod (more : Bool) (N n : Nat) : restP more (N % 10 ^ n) n ↔ restP more N n := by
  cases n with
  | zero => exact Iff.rfl
  | succ i =>
    show more = true ∨ N % 10 ^ (i + 1) % 10 ^ i ≠ 0 ↔ more = true ∨ N % 10 ^ i ≠ 0
    rw [Nat.mod_mod_of_dvd _ (Nat.pow_dvd_pow 10 (Nat.le_succ i))]

theorem dig_odd {q : Nat} {z : Int} (h : z = ((dig q 0 : Nat) : Int).tmod 2) : z = 1 ↔ decide (q % 2 = 1) = true := by
  have e : dig q 0 = q % 10 := by simp [dig]
  rw [e, Int.tmod_eq_emod_of_nonneg (by omega)] at h
  simp only [decide_eq_true_eq]
  omega

theorem up_some {r n : Nat} {more R : Bool} (hr : r < 10 ^ n) (hR : R = true ↔ restP more r n) (h : r ≠ 0 ∨ more = true) : 0 < lastD r n ∨ R = true := by
  rw [hR]
  cases n with
  | zero =>
    right
    have : r = 0 := by simpa using hr
    exact h.resolve_left (fun k => k this)
  | succ i =>
    rcases h with h | h
    · by_cases h1 : r % 10 ^ i = 0
      · left
        have hL : lastD r (i + 1) = r / 10 ^ i := Nat.mod_eq_of_lt (Nat.div_lt_of_lt_mul (by rw [Nat.pow_succ] at hr; exact hr))
        rw [hL]
        rcases Nat.eq_zero_or_pos (r / 10 ^ i) with h2 | h2
        · have := Nat.div_add_mod r (10 ^ i)
          rw [h1, h2] at this
          simp at this
          exact absurd this.symm h
        · exact h2
      · exact .inr (.inr h1)
    · exact .inr (.inl h)
theorem up_none {r n : Nat} {more R : Bool} (hr : r = 0) (hm : more = false) (hR : R = true ↔ restP more r n) : lastD r n = 0 ∧ R = false := by
  subst hr hm
  cases n with
  | zero => exact ⟨rfl, bff hR (by simp [restP])⟩
  | succ i => exact ⟨by simp [lastD], bff hR (by simp [restP])⟩
theorem up_c2 {r n : Nat} {c d : Int} {more R : Bool} (hr : r < 10 ^ n) (hR : R = true ↔ restP more r n) (hc : (1 ≤ n ∧ c = cmpN r (5 * 10 ^ (n - 1))) ∨ (n = 0 ∧ c = -1)) (hd : (c = 0 ∧ more = true ∧ d = 1) ∨ (¬ (c = 0 ∧ more = true) ∧ d = c)) : UpC (lastD r n) R d := by
  rcases hc with ⟨h1, h2⟩ | ⟨h1, h2⟩
  · exact up_cmp h1 hr hR h2 hd
  · subst h1
    have hL : lastD r 0 = 0 := rfl
    rw [hL]
    have : d = -1 := by
      rcases hd with h | h
      · omega
      · omega
    subst this
    constructor <;> simp <;> omega

theorem up_law {m : Int} {neg O R : Bool} {L : Nat} {d : Int} (h : UpC L R d) (h0 : 0 < L ∨ R = true) : UpP m neg O L R ↔ (m = 1 ∧ (0 < d ∨ (d = 0 ∧ O = true))) ∨ (m = 2 ∧ 0 ≤ d) ∨ (m = 3 ∧ 0 < d) ∨ m = 4 ∨ (m = 6 ∧ neg = true) ∨ (m = 7 ∧ neg = false) := by
  obtain ⟨h1, h2⟩ := h
  have h3 : 0 ≤ d ↔ 0 < d ∨ d = 0 := ⟨fun h => by omega, fun h => by omega⟩
  have h0' : 0 < (L : Int) ∨ R = true := h0.imp (fun h => by omega) id
  unfold UpP
  rw [h3, h1, h2]
  constructor
  · rintro (⟨k, k1⟩ | ⟨k, k1⟩ | ⟨k, k1⟩ | ⟨k, k1⟩ | ⟨k, k1, k2⟩ | ⟨k, k1, k2⟩)
    · refine .inl ⟨k, ?_⟩
      cases R <;> cases O <;> simp at k1 ⊢ <;> omega
    · refine .inr (.inl ⟨k, ?_⟩)
      cases R <;> simp <;> omega
    · refine .inr (.inr (.inl ⟨k, ?_⟩))
      cases R <;> simp at k1 ⊢ <;> omega
    · exact .inr (.inr (.inr (.inl k)))
    · exact .inr (.inr (.inr (.inr (.inl ⟨k, k1⟩))))
    · exact .inr (.inr (.inr (.inr (.inr ⟨k, k1⟩))))
  · rintro (⟨k, k1⟩ | ⟨k, k1⟩ | ⟨k, k1⟩ | k | ⟨k, k1⟩ | ⟨k, k1⟩)
    · refine .inl ⟨k, ?_⟩
      cases R <;> cases O <;> simp at k1 ⊢ <;> omega
    · refine .inr (.inl ⟨k, ?_⟩)
      omega
    · refine .inr (.inr (.inl ⟨k, ?_⟩))
      cases R <;> simp at k1 ⊢ <;> omega
    · exact .inr (.inr (.inr (.inl ⟨k, h0'⟩)))
    · exact .inr (.inr (.inr (.inr (.inl ⟨k, k1, h0'⟩))))
    · exact .inr (.inr (.inr (.inr (.inr ⟨k, k1, h0'⟩))))



open Go.RowKit
set_option linter.unusedVariables false
set_option linter.unusedSimpArgs false
set_option maxRecDepth 100000

theorem dval_cut (N k : Nat) (hk : k ≤ nd N) : dval ((digs N).take k) = N % 10 ^ k ∧ dval ((digs N).drop k) = N / 10 ^ k := by
  have e := dval_append ((digs N).take k) ((digs N).drop k)
  rw [List.take_append_drop, dval_digs, List.length_take, Nat.min_eq_left (show k ≤ (digs N).length from hk)] at e
  have h := dval_lt (ds := (digs N).take k) fun d hd => digs_lt (List.mem_of_mem_take hd)
  rw [List.length_take, Nat.min_eq_left (show k ≤ (digs N).length from hk)] at h
  have hp : 0 < 10 ^ k := Nat.pow_pos (by decide)
  clear hk
  generalize dval ((digs N).take k) = A at *
  generalize dval ((digs N).drop k) = B at *
  constructor
  · rw [e, Nat.add_mul_mod_self_left, Nat.mod_eq_of_lt h]
  · rw [e, Nat.add_mul_div_left _ _ hp, Nat.div_eq_of_lt h, Nat.zero_add]
theorem min_cut (N n : Nat) : N % 10 ^ min n (nd N) = N % 10 ^ n ∧ N / 10 ^ min n (nd N) = N / 10 ^ n := by
  rcases Nat.le_total n (nd N) with h | h
  · rw [Nat.min_eq_left h]
    exact ⟨rfl, rfl⟩
  · have h1 := lt_nd N
    have h2 : N < 10 ^ n := Nat.lt_of_lt_of_le h1 (Nat.pow_le_pow_right (by decide) h)
    rw [Nat.min_eq_right h, Nat.mod_eq_of_lt h1, Nat.mod_eq_of_lt h2, Nat.div_eq_of_lt h1, Nat.div_eq_of_lt h2]
    exact ⟨rfl, rfl⟩
theorem dg_drop (ds : List Nat) (n : Nat) : (dg ds).drop n = dg (ds.drop n) := by simp [dg]
theorem part_drop {N k : Nat} {K : Int} (hK : K = (k : Int)) (hk : k ≤ nd N) : ((dg (digs N)).drop (K.toNat * 1)).take (((digs N).drop k).length * 1) = dg ((digs N).drop k) := by
  subst hK
  rw [Int.toNat_natCast, Nat.mul_one, Nat.mul_one, dg_drop, dg_take, List.take_length]
theorem part_take {N k : Nat} (hk : k ≤ nd N) : ((dg (digs N)).drop ((0 : Int).toNat * 1)).take (((digs N).take k).length * 1) = dg ((digs N).take k) := by
  have : (digs N).length = nd N := rfl
  rw [show (0 : Int).toNat * 1 = 0 from rfl, List.drop_zero, Nat.mul_one, List.length_take, Nat.min_eq_left (by omega), dg_take]

def dRFit (t : T4) : DV := .tup [dRD t.1 t.2.1 t.2.2.1, .v (.bool t.2.2.2)]
theorem dRFit_0 (e : Int) (ok : Bool) : dRFit (false, 0, e, ok) = .tup [.agg [.v (.bool false), .sl 0 [], .v (.int .i64 e)], .v (.bool ok)] := by
  show DV.tup [dRD false 0 e, _] = _
  rw [dRD_0]
theorem E34_nd {n : Nat} : E34 ≤ n ↔ 34 < nd n := by
  constructor
  · intro h
    exact nd_gt h
  · intro h
    rcases Nat.lt_or_ge n E34 with k | k
    · have := nd_le 34 n k
      omega
    · exact k
theorem rfit_ex {P : Program} {f : FuncId} {ds : List DV} {t : T4} (h : HasC P f ds (fun y => y = dRFit t)) : HasC P f ds (fun y => ∃ g k x ok, y = .tup [dRD g k x, .v (.bool ok)] ∧ t = (g, k, x, ok)) :=
  h.mono fun y hy => ⟨_, _, _, _, hy, rfl⟩
theorem dfit_ex {P : Program} {f : FuncId} {ds : List DV} {t : T4} (h : HasC P f ds (fun y => y = dFit t)) : HasC P f ds (fun y => ∃ g k x ok, y = .tup [dDec g k x, .v (.bool ok)] ∧ t = (g, k, x, ok)) :=
  h.mono fun y hy => ⟨_, _, _, _, hy, rfl⟩
theorem mulT_U {t u : T4} (h1 : t.2.1 < E34) (h2 : u.2.1 < E34) : mulT t u = fitU 1 (t.1 != u.1) (t.2.1 * u.2.1) (t.2.2.1 + u.2.2.1) false :=
  fitT_U _ _ _ _ (by have := nd_mul t.2.1 u.2.1; have := nd_le 34 _ h1; have := nd_le 34 _ h2; omega)



open Go.RowKit
set_option linter.unusedVariables false
set_option linter.unusedSimpArgs false
set_option maxRecDepth 100000

/-- A size with its sign. -/
def sgnV (s : Bool) (n : Nat) : Int := if s then -(n : Int) else n
/-- -1, 0 or 1. -/
def cmpI (x y : Int) : Int := if x < y then -1 else if x = y then 0 else 1
/-- A number as a multiple of 10 to the E. -/
def V (s : Bool) (A : Nat) (e E : Int) : Int := sgnV s (A * 10 ^ (e - E).toNat)
/-- How two numbers stand. -/
def cmpZ (s1 : Bool) (A : Nat) (e1 : Int) (s2 : Bool) (B : Nat) (e2 : Int) : Int := cmpI (V s1 A e1 (min e1 e2)) (V s2 B e2 (min e1 e2))
/-- The sum, as it is. -/
def sumT (s1 : Bool) (A : Nat) (e1 : Int) (s2 : Bool) (B : Nat) (e2 : Int) : Bool × Nat × Int :=
  if s1 = s2 then (s1, A * 10 ^ (e1 - min e1 e2).toNat + B * 10 ^ (e2 - min e1 e2).toNat, min e1 e2)
  else if B * 10 ^ (e2 - min e1 e2).toNat ≤ A * 10 ^ (e1 - min e1 e2).toNat then (s1, A * 10 ^ (e1 - min e1 e2).toNat - B * 10 ^ (e2 - min e1 e2).toNat, min e1 e2)
  else (s2, B * 10 ^ (e2 - min e1 e2).toNat - A * 10 ^ (e1 - min e1 e2).toNat, min e1 e2)
noncomputable def addT (s1 : Bool) (A : Nat) (e1 : Int) (s2 : Bool) (B : Nat) (e2 : Int) : T4 := fitU 1 (sumT s1 A e1 s2 B e2).1 (sumT s1 A e1 s2 B e2).2.1 (sumT s1 A e1 s2 B e2).2.2 false

theorem nd_one_le {n : Nat} (h : n ≠ 0) : 1 ≤ nd n := by
  have := nd_pos h
  omega
theorem sgnV_0 (s : Bool) : sgnV s 0 = 0 := by cases s <;> rfl
theorem cutQ_00 (m : Int) (s : Bool) (k : Nat) : cutQ m s 0 false k = 0 := by
  rw [cutQ_congr (N' := 0) (k' := 0) (more' := false) (by simp) (by cases k <;> simp [lastD]) (by cases k <;> simp [restP]), cutQ_0]
theorem fitU_00 (m : Int) (s : Bool) (e : Int) : fitU m s 0 e false = (false, 0, max (-6176) (min (e + fitKU 0 e) 6111), true) := by
  rw [fitU, cutQ_00, (fit2_low (by decide) 0).1, (fit2_low (m := m) (neg := s) (by decide) _).2, fitE, if_pos rfl]
theorem fitU_sign (m : Int) (s s' : Bool) (e : Int) : fitU m s 0 e false = fitU m s' 0 e false := by rw [fitU_00, fitU_00]

theorem addT_comm (s1 : Bool) (A : Nat) (e1 : Int) (s2 : Bool) (B : Nat) (e2 : Int) : addT s1 A e1 s2 B e2 = addT s2 B e2 s1 A e1 := by
  unfold addT sumT
  rw [Int.min_comm e2 e1]
  generalize A * 10 ^ (e1 - min e1 e2).toNat = X
  generalize B * 10 ^ (e2 - min e1 e2).toNat = Y
  by_cases h : s1 = s2
  · subst h
    rw [if_pos rfl, if_pos rfl, Nat.add_comm]
  · have h' : ¬ s2 = s1 := fun k => h k.symm
    rw [if_neg h, if_neg h']
    rcases Nat.lt_trichotomy X Y with k | k | k
    · rw [if_neg (show ¬ Y ≤ X by omega), if_pos (show X ≤ Y by omega)]
    · subst k
      rw [if_pos (Nat.le_refl _), if_pos (Nat.le_refl _), Nat.sub_self]
      exact fitU_sign _ _ _ _
    · rw [if_pos (show Y ≤ X by omega), if_neg (show ¬ X ≤ Y by omega)]

/-- What a number is, as a multiple of 10 to the low, and whether a little is missing. -/
def atN (A : Nat) (e low : Int) : Nat := A * 10 ^ (e - low).toNat / 10 ^ (low - e).toNat
def atM (A : Nat) (e low : Int) : Bool := decide (A % 10 ^ (low - e).toNat ≠ 0)
theorem at_up {A : Nat} {e low : Int} (h : low ≤ e) : atN A e low = A * 10 ^ (e - low).toNat ∧ atM A e low = false := by
  unfold atN atM
  rw [show (low - e).toNat = 0 by omega]
  simp [Nat.mod_one]
theorem at_down {A : Nat} {e low : Int} (h : e ≤ low) : atN A e low = A / 10 ^ (low - e).toNat := by
  unfold atN
  rw [show (e - low).toNat = 0 by omega]
  simp
theorem at_0 (e low : Int) : atN 0 e low = 0 ∧ atM 0 e low = false := by
  unfold atN atM
  simp

/-- The exponent at which two numbers are added: the first one stands not lower than the second. -/
structure AddPre (A B : Nat) (e1 e2 low : Int) : Prop where
  ha : A < E34
  hb : B < E34
  hi : B = 0 ∨ (A ≠ 0 ∧ e2 + nd B ≤ e1 + nd A)
  z : A = 0 → low = min e1 e2
  nz : A ≠ 0 → low = max (min e1 e2) (e1 + nd A - 70)
theorem AddPre.le {A B : Nat} {e1 e2 low : Int} (p : AddPre A B e1 e2 low) : low ≤ e1 := by
  have := nd_le 34 A p.ha
  by_cases h : A = 0
  · have := p.z h
    omega
  · have := p.nz h
    omega
theorem AddPre.fst {A B : Nat} {e1 e2 low : Int} (p : AddPre A B e1 e2 low) : atN A e1 low < 10 ^ 70 ∧ atM A e1 low = false ∧ (A ≠ 0 → e1 - low ≤ 70 - nd A) := by
  have hle := p.le
  have hn : A ≠ 0 → e1 - low ≤ 70 - nd A := fun h => by
    have := p.nz h
    omega
  refine ⟨?_, (at_up hle).2, hn⟩
  rw [(at_up hle).1]
  by_cases h : A = 0
  · rw [h, Nat.zero_mul]
    exact Nat.pow_pos (by decide)
  · have h1 := Nat.mul_lt_mul_of_pos_right (lt_nd A) (show 0 < 10 ^ (e1 - low).toNat from Nat.pow_pos (by decide))
    rw [← Nat.pow_add] at h1
    have := hn h
    have := nd_le 34 A p.ha
    exact Nat.lt_of_lt_of_le h1 (Nat.pow_le_pow_right (by decide) (by omega))
theorem AddPre.snd {A B : Nat} {e1 e2 low : Int} (p : AddPre A B e1 e2 low) : atN B e2 low < 10 ^ 70 ∧ (B ≠ 0 → e2 - low ≤ 70 - nd B) := by
  have hn : B ≠ 0 → e2 - low ≤ 70 - nd B := fun h => by
    have h1 := p.hi.resolve_left h
    have := p.nz h1.1
    omega
  refine ⟨?_, hn⟩
  by_cases h : B = 0
  · rw [h, (at_0 e2 low).1]
    exact Nat.pow_pos (by decide)
  · rcases Int.le_total low e2 with k | k
    · rw [(at_up k).1]
      have h1 := Nat.mul_lt_mul_of_pos_right (lt_nd B) (show 0 < 10 ^ (e2 - low).toNat from Nat.pow_pos (by decide))
      rw [← Nat.pow_add] at h1
      have := hn h
      have := nd_le 34 B p.hb
      exact Nat.lt_of_lt_of_le h1 (Nat.pow_le_pow_right (by decide) (by omega))
    · rw [at_down k]
      exact Nat.lt_of_le_of_lt (Nat.div_le_self _ _) (Nat.lt_of_lt_of_le p.hb (by decide))
theorem AddPre.two {A B : Nat} {e1 e2 low : Int} (p : AddPre A B e1 e2 low) : (low = min e1 e2 ∧ atM B e2 low = false) ∨ (A ≠ 0 ∧ e2 < low ∧ min e1 e2 = e2 ∧ nd (atN A e1 low) = 70) := by
  have hle := p.le
  by_cases h : A = 0
  · have := p.z h
    exact .inl ⟨this, (at_up (by omega)).2⟩
  · have := p.nz h
    rcases Int.lt_or_le (min e1 e2) (e1 + nd A - 70) with k | k
    · refine .inr ⟨h, by omega, by omega, ?_⟩
      rw [(at_up hle).1, nd_up10 (Nat.pos_of_ne_zero h)]
      have := nd_le 34 A p.ha
      omega
    · exact .inl ⟨by omega, (at_up (by omega)).2⟩
theorem pow_cut {A : Nat} {e1 low e2 : Int} (h1 : low ≤ e1) (h2 : e2 ≤ low) : A * 10 ^ (e1 - e2).toNat = A * 10 ^ (e1 - low).toNat * 10 ^ (low - e2).toNat := by
  rw [Nat.mul_assoc, ← Nat.pow_add]
  congr 2
  omega
theorem add_law {A B : Nat} {e1 e2 low : Int} (p : AddPre A B e1 e2 low) (s1 s2 : Bool) :
    ((s1 = s2 ∨ (atN B e2 low = 0 ∧ atM B e2 low = false)) → fitT 1 s1 (atN A e1 low + atN B e2 low) low (atM B e2 low) = addT s1 A e1 s2 B e2) ∧
    (s1 ≠ s2 → atM B e2 low = false → atN B e2 low ≤ atN A e1 low → fitT 1 s1 (atN A e1 low - atN B e2 low) low false = addT s1 A e1 s2 B e2) ∧
    (s1 ≠ s2 → atN A e1 low < atN B e2 low → atM B e2 low = false ∧ fitT 1 s2 (atN B e2 low - atN A e1 low) low false = addT s1 A e1 s2 B e2) ∧
    (s1 ≠ s2 → atM B e2 low = true → 1 ≤ atN A e1 low - atN B e2 low ∧ fitT 1 s1 (atN A e1 low - atN B e2 low - 1) low true = addT s1 A e1 s2 B e2) := by
  have hle := p.le
  obtain ⟨f1, f2, f3⟩ := p.fst
  obtain ⟨g1, g2⟩ := p.snd
  have nd78 : ∀ n, n < 10 ^ 70 + 10 ^ 70 → nd n ≤ 78 := fun n h => nd_le 78 n (Nat.lt_of_lt_of_le h (by decide))
  rcases p.two with ⟨k1, k2⟩ | ⟨k0, k1, k2, k3⟩
  · have hX : atN A e1 low = A * 10 ^ (e1 - min e1 e2).toNat := by rw [(at_up hle).1, k1]
    have hY : atN B e2 low = B * 10 ^ (e2 - min e1 e2).toNat := by rw [(at_up (by omega)).1, k1]
    rw [hX] at f1 ⊢
    rw [hY] at g1 ⊢
    rw [k2, k1]
    unfold addT sumT
    generalize A * 10 ^ (e1 - min e1 e2).toNat = X at *
    generalize B * 10 ^ (e2 - min e1 e2).toNat = Y at *
    refine ⟨fun h => ?_, fun h _ hl => ?_, fun h hl => ⟨rfl, ?_⟩, fun h hl => by cases hl⟩
    · rw [fitT_U _ _ _ _ (nd78 _ (by omega))]
      by_cases hs : s1 = s2
      · rw [if_pos hs]
      · obtain ⟨h1, _⟩ := h.resolve_left hs
        rw [if_neg hs, if_pos (by omega), h1, Nat.add_zero, Nat.sub_zero]
    · rw [if_neg h, if_pos hl, fitT_U _ _ _ _ (nd78 _ (by omega))]
    · rw [if_neg h, if_neg (by omega), fitT_U _ _ _ _ (nd78 _ (by omega))]
  · obtain ⟨j, hj⟩ : ∃ j, (low - e2).toNat = j := ⟨_, rfl⟩
    have hjl : (j : Int) = low - e2 := by omega
    have hX : A * 10 ^ (e1 - min e1 e2).toNat = atN A e1 low * 10 ^ j := by rw [k2, pow_cut hle (by omega), (at_up hle).1, hj]
    have hY : B * 10 ^ (e2 - min e1 e2).toNat = atN B e2 low * 10 ^ j + B % 10 ^ j := by rw [k2, at_down (by omega), hj, Int.sub_self]; simp [Nat.div_add_mod']
    have hM : atM B e2 low = true ↔ B % 10 ^ j ≠ 0 := by unfold atM; rw [hj]; simp
    have hr : B % 10 ^ j < 10 ^ j := Nat.mod_lt _ (Nat.pow_pos (by decide))
    have hp : 0 < 10 ^ j := Nat.pow_pos (by decide)
    have hYE : atN B e2 low < E34 := by rw [at_down (by omega)]; exact Nat.lt_of_le_of_lt (Nat.div_le_self _ _) p.hb
    have hXE : 10 ^ 69 ≤ atN A e1 low := by
      have h0 : atN A e1 low ≠ 0 := fun h => by rw [h, nd_zero] at k3; omega
      have := ge_nd h0
      rw [k3] at this
      exact this
    have h69 : E34 + E34 ≤ 10 ^ 69 := by decide
    have he : low - (j : Int) = min e1 e2 := by omega
    unfold addT sumT
    rw [hX, hY]
    generalize atN A e1 low = X at *
    generalize atN B e2 low = Y at *
    generalize atM B e2 low = M at *
    generalize B % 10 ^ j = r at *
    have n35 : ∀ n, 10 ^ 34 ≤ n → 35 ≤ nd n := fun n h => nd_gt h
    have h34 : (10 : Nat) ^ 34 = E34 := by decide
    refine ⟨fun h => ?_, fun h hm hl => ?_, fun h hl => ?_, fun h hm => ?_⟩
    · rw [fitT_U _ _ _ _ (nd78 _ (by omega)), ← fitU_more (N := X + Y) (j := j) (r := r) (e := low) (more' := false) (n35 _ (by omega)) hr (by rw [hM]; simp), he]
      by_cases hs : s1 = s2
      · rw [if_pos hs, Nat.add_mul, Nat.add_assoc]
      · obtain ⟨h1, h2⟩ := h.resolve_left hs
        have hr0 : r = 0 := Decidable.not_not.1 fun k => by rw [hM.2 k] at h2; cases h2
        rw [if_neg hs, h1, hr0, Nat.zero_mul, Nat.add_zero, Nat.add_zero, if_pos (Nat.zero_le _), Nat.sub_zero]
    · have hr0 : r = 0 := Decidable.not_not.1 fun k => by rw [hM.2 k] at hm; cases hm
      have hmul := Nat.mul_le_mul_right (10 ^ j) hl
      rw [fitT_U _ _ _ _ (nd78 _ (by omega)), ← fitU_more (N := X - Y) (j := j) (r := 0) (e := low) (more' := false) (n35 _ (by omega)) hp (by simp), he, if_neg h, hr0, Nat.add_zero, Nat.add_zero, if_pos hmul, Nat.sub_mul]
    · omega
    · have hr0 : r ≠ 0 := hM.1 hm
      have hmul := Nat.mul_le_mul_right (10 ^ j) (show Y + 1 ≤ X by omega)
      rw [Nat.add_mul, Nat.one_mul] at hmul
      refine ⟨by omega, ?_⟩
      rw [fitT_U _ _ _ _ (nd78 _ (by omega)), ← fitU_more (N := X - Y - 1) (j := j) (r := 10 ^ j - r) (e := low) (more' := false) (n35 _ (by omega)) (by omega) (by simp; omega), he, if_neg h, if_pos (by omega)]
      have e1 : (X - Y - 1) * 10 ^ j + (10 ^ j - r) = X * 10 ^ j - (Y * 10 ^ j + r) := by
        rw [Nat.sub_mul, Nat.sub_mul, Nat.one_mul]
        omega
      rw [e1]



open Go.RowKit
set_option linter.unusedVariables false
set_option linter.unusedSimpArgs false
set_option maxRecDepth 100000

theorem cmpI_lt {x y : Int} : cmpI x y < 0 ↔ x < y := by unfold cmpI; split <;> (try split) <;> constructor <;> intro <;> omega
theorem cmpI_le {x y : Int} : cmpI x y ≤ 0 ↔ x ≤ y := by unfold cmpI; split <;> (try split) <;> constructor <;> intro <;> omega
theorem cmpI_eq {x y : Int} : cmpI x y = 0 ↔ x = y := by unfold cmpI; split <;> (try split) <;> constructor <;> intro <;> omega
theorem cmpI_ge {x y : Int} : 0 ≤ cmpI x y ↔ y ≤ x := by unfold cmpI; split <;> (try split) <;> constructor <;> intro <;> omega
theorem cmpI_gt {x y : Int} : 0 < cmpI x y ↔ y < x := by unfold cmpI; split <;> (try split) <;> constructor <;> intro <;> omega
theorem cmpI_swap (x y : Int) : cmpI y x = -cmpI x y := by
  unfold cmpI
  by_cases h1 : x < y
  · rw [if_pos h1, if_neg (by omega), if_neg (by omega)]; rfl
  · rw [if_neg h1]
    by_cases h2 : x = y
    · rw [if_pos h2, if_neg (by omega), if_pos h2.symm]; rfl
    · rw [if_neg h2, if_pos (by omega)]
theorem cmpI_neg (x y : Int) : cmpI (-x) (-y) = -cmpI x y := by
  rw [← cmpI_swap]
  unfold cmpI
  by_cases h1 : y < x
  · rw [if_pos (by omega), if_pos h1]
  · rw [if_neg (by omega), if_neg h1]
    by_cases h2 : x = y
    · rw [if_pos (by omega), if_pos h2.symm]
    · rw [if_neg (by omega), if_neg (by omega)]
theorem cmpI_mul {x y : Int} {p : Nat} (hp : 0 < p) : cmpI (x * (p : Int)) (y * (p : Int)) = cmpI x y := by
  have hp' : (0 : Int) < p := by omega
  unfold cmpI
  by_cases h1 : x < y
  · rw [if_pos (Int.mul_lt_mul_of_pos_right h1 hp'), if_pos h1]
  · have h3 : y * (p : Int) ≤ x * (p : Int) := Int.mul_le_mul_of_nonneg_right (by omega) (by omega)
    rw [if_neg (by omega), if_neg h1]
    by_cases h2 : x = y
    · rw [if_pos (by rw [h2]), if_pos h2]
    · have h4 := Int.mul_lt_mul_of_pos_right (show y < x by omega) hp'
      rw [if_neg (by omega), if_neg h2]
theorem sgnV_mul (s : Bool) (n p : Nat) : sgnV s (n * p) = sgnV s n * (p : Int) := by
  unfold sgnV
  split
  · rw [Int.natCast_mul, Int.neg_mul]
  · exact Int.natCast_mul _ _
theorem V_low {s : Bool} {A : Nat} {e E E' : Int} (h1 : E' ≤ E) (h2 : E ≤ e) : V s A e E' = V s A e E * ((10 ^ (E - E').toNat : Nat) : Int) := by
  unfold V
  rw [pow_cut h2 h1, sgnV_mul]
theorem V_shift {s : Bool} {A j : Nat} {e E : Int} (h : E ≤ e) : V s (A * 10 ^ j) e E = V s A (e + j) E := by
  unfold V
  rw [Nat.mul_assoc, ← Nat.pow_add, show (e + (j : Int) - E).toNat = j + (e - E).toNat by omega]
theorem V_0 (s : Bool) (e E : Int) : V s 0 e E = 0 := by
  unfold V
  rw [Nat.zero_mul, sgnV_0]
theorem cmpZ_any {s1 s2 : Bool} {A B : Nat} {e1 e2 E : Int} (h1 : E ≤ e1) (h2 : E ≤ e2) : cmpZ s1 A e1 s2 B e2 = cmpI (V s1 A e1 E) (V s2 B e2 E) := by
  rw [cmpZ, V_low (show E ≤ min e1 e2 by omega) (by omega), V_low (show E ≤ min e1 e2 by omega) (by omega)]
  exact (cmpI_mul (Nat.pow_pos (by decide))).symm
theorem cmpZ_swap (s1 s2 : Bool) (A B : Nat) (e1 e2 : Int) : cmpZ s2 B e2 s1 A e1 = -cmpZ s1 A e1 s2 B e2 := by
  rw [cmpZ_any (E := min e1 e2) (by omega) (by omega), cmpZ, cmpI_swap]

/-- A number's sign. -/
def sgnT (s : Bool) (A : Nat) : Int := if A = 0 then 0 else if s = true then -1 else 1
theorem sgnV_pos (s : Bool) {A p : Nat} (hA : A ≠ 0) (hp : 0 < p) : if s = true then sgnV s (A * p) < 0 else 0 < sgnV s (A * p) := by
  have := Nat.mul_pos (Nat.pos_of_ne_zero hA) hp
  generalize A * p = X at *
  cases s
  · show 0 < (X : Int)
    omega
  · show -(X : Int) < 0
    omega
theorem cmp_sign {s1 s2 : Bool} {A B : Nat} {e1 e2 : Int} (h : sgnT s1 A ≠ sgnT s2 B ∨ A = 0) : cmpI (sgnT s1 A) (sgnT s2 B) = cmpZ s1 A e1 s2 B e2 := by
  have p1 := sgnV_pos s1 (A := A) (p := 10 ^ (e1 - min e1 e2).toNat)
  have p2 := sgnV_pos s2 (A := B) (p := 10 ^ (e2 - min e1 e2).toNat)
  have q1 : 0 < 10 ^ (e1 - min e1 e2).toNat := Nat.pow_pos (by decide)
  have q2 : 0 < 10 ^ (e2 - min e1 e2).toNat := Nat.pow_pos (by decide)
  unfold cmpZ V
  by_cases hA : A = 0
  · subst hA
    rw [Nat.zero_mul, sgnV_0]
    by_cases hB : B = 0
    · subst hB
      rw [Nat.zero_mul, sgnV_0]
      rfl
    · have p2 := p2 hB q2
      generalize sgnV s2 (B * 10 ^ (e2 - min e1 e2).toNat) = Y at *
      cases s2 <;> simp [sgnT, hB, cmpI] at p2 ⊢ <;> omega
  · have p1 := p1 hA q1
    by_cases hB : B = 0
    · subst hB
      rw [Nat.zero_mul, sgnV_0]
      generalize sgnV s1 (A * 10 ^ (e1 - min e1 e2).toNat) = X at *
      cases s1 <;> simp [sgnT, hA, cmpI] at p1 ⊢ <;> omega
    · have p2 := p2 hB q2
      have h := h.resolve_right hA
      generalize sgnV s1 (A * 10 ^ (e1 - min e1 e2).toNat) = X at *
      generalize sgnV s2 (B * 10 ^ (e2 - min e1 e2).toNat) = Y at *
      cases s1 <;> cases s2 <;> simp [sgnT, hA, hB, cmpI] at h p1 p2 ⊢ <;> omega
theorem cmpN_I (a b : Nat) : cmpN a b = cmpI (a : Int) (b : Int) := by
  unfold cmpN cmpI
  by_cases h1 : a < b
  · rw [if_pos h1, if_pos (show (a : Int) < (b : Int) by omega)]
  · rw [if_neg h1, if_neg (show ¬ (a : Int) < (b : Int) by omega)]
    by_cases h2 : a = b
    · rw [if_pos h2, if_pos (show (a : Int) = (b : Int) by omega)]
    · rw [if_neg h2, if_neg (show ¬ (a : Int) = (b : Int) by omega)]
theorem cmp_same {s : Bool} {A B : Nat} {e1 e2 : Int} : cmpZ s A e1 s B e2 = if s = true then -cmpN (A * 10 ^ (e1 - min e1 e2).toNat) (B * 10 ^ (e2 - min e1 e2).toNat) else cmpN (A * 10 ^ (e1 - min e1 e2).toNat) (B * 10 ^ (e2 - min e1 e2).toNat) := by
  unfold cmpZ V sgnV
  rw [cmpN_I]
  cases s
  · simp
  · simp [cmpI_neg]
/-- Of two numbers that are not 0 the one is less whose highest digit stands lower. -/
theorem cmp_size {A B : Nat} {e1 e2 : Int} (hA : A ≠ 0) (hB : B ≠ 0) (h : e1 + nd A ≠ e2 + nd B) : cmpN (A * 10 ^ (e1 - min e1 e2).toNat) (B * 10 ^ (e2 - min e1 e2).toNat) = cmpI (e1 + nd A) (e2 + nd B) := by
  have key : ∀ {A B : Nat} {x y : Nat}, A ≠ 0 → B ≠ 0 → nd A + x < nd B + y → A * 10 ^ x < B * 10 ^ y := by
    intro A B x y hA hB h
    have h1 := Nat.mul_lt_mul_of_pos_right (lt_nd A) (show 0 < 10 ^ x from Nat.pow_pos (by decide))
    have h2 := Nat.mul_le_mul_right (10 ^ y) (ge_nd hB)
    rw [← Nat.pow_add] at h1 h2
    have h3 := nd_one_le hB
    exact Nat.lt_of_lt_of_le h1 (Nat.le_trans (Nat.pow_le_pow_right (by decide) (by omega)) h2)
  rw [cmpN_I]
  rcases Int.lt_or_lt_of_ne h with k | k
  · have := key (x := (e1 - min e1 e2).toNat) (y := (e2 - min e1 e2).toNat) hA hB (by omega)
    unfold cmpI
    rw [if_pos (by omega), if_pos k]
  · have := key (x := (e2 - min e1 e2).toNat) (y := (e1 - min e1 e2).toNat) hB hA (by omega)
    unfold cmpI
    rw [if_neg (by omega), if_neg (by omega), if_neg (by omega), if_neg (by omega)]
/-- The order, off the difference. -/
theorem cmp_ref {s1 s2 s2' : Bool} {A B : Nat} {e1 e2 : Int} (h : s2' = (!s2 && decide (B ≠ 0))) : (if (sumT s1 A e1 s2' B e2).2.1 = 0 then 0 else if (sumT s1 A e1 s2' B e2).1 = true then -1 else 1) = cmpZ s1 A e1 s2 B e2 := by
  subst h
  have hY0 : B = 0 ∨ 0 < B * 10 ^ (e2 - min e1 e2).toNat := by
    rcases Nat.eq_zero_or_pos B with k | k
    · exact .inl k
    · exact .inr (Nat.mul_pos k (Nat.pow_pos (by decide)))
  have hY1 : B = 0 → B * 10 ^ (e2 - min e1 e2).toNat = 0 := fun h => by rw [h, Nat.zero_mul]
  unfold sumT cmpZ V sgnV cmpI
  generalize A * 10 ^ (e1 - min e1 e2).toNat = X at *
  generalize B * 10 ^ (e2 - min e1 e2).toNat = Y at *
  by_cases hB : B = 0
  · have := hY1 hB
    subst this
    cases s1 <;> cases s2 <;> simp [hB] <;> (repeat' split) <;> omega
  · have := hY0.resolve_left hB
    by_cases hYX : Y ≤ X
    · cases s1 <;> cases s2 <;> simp [hB, hYX] <;> (repeat' split) <;> omega
    · cases s1 <;> cases s2 <;> simp [hB, hYX] <;> (repeat' split) <;> omega

/-- What rounding yields stands next to what is rounded. -/
theorem cut_two (m : Int) (s : Bool) (N k : Nat) (more : Bool) : cutQ m s N more k = N / 10 ^ k ∨ (cutQ m s N more k = N / 10 ^ k + 1 ∧ (N % 10 ^ k ≠ 0 ∨ more = true)) := by
  unfold cutQ
  cases hu : upB m s N more k with
  | false => exact .inl rfl
  | true =>
    refine .inr ⟨rfl, ?_⟩
    have h := upB_iff.1 hu
    by_cases h0 : lastD N k = 0 ∧ ¬ restP more N k
    · rw [h0.1, show (@decide (restP more N k) (Classical.propDecidable _)) = false by simp [h0.2]] at h
      exact absurd h UpP_none
    · have : restP more N (k + 1) := restP_succ.2 (Classical.byContradiction fun c => h0 ⟨Decidable.not_not.1 fun d => c (.inr d), fun d => c (.inl d)⟩)
      exact Or.symm this
theorem fit2_val {m : Int} {s : Bool} {c : Nat} {e E : Int} (hc : c ≤ E34) (h : E ≤ e) : V s (fit2N m s c) (fit2E c e) E = V s c e E ∧ e ≤ fit2E c e ∧ (fit2N m s c = 0 ↔ c = 0) := by
  by_cases hE : E34 ≤ c
  · have hcE : c = E34 := by omega
    subst hcE
    have hq : cutQ m s E34 false 1 = E34 / 10 ^ 1 := by
      rcases cut_two m s E34 1 false with h1 | ⟨h1, h2⟩
      · exact h1
      · rcases h2 with h2 | h2
        · exact absurd (by decide) h2
        · cases h2
    have hv : E34 = E34 / 10 ^ 1 * 10 ^ 1 := by decide
    have h1 : fit2N m s E34 = E34 / 10 ^ 1 := by rw [fit2N, if_pos (Nat.le_refl _), hq]
    have h2 : fit2E E34 e = e + ((1 : Nat) : Int) := by rw [fit2E, if_pos (Nat.le_refl _)]; rfl
    refine ⟨?_, by omega, ?_⟩
    · rw [h1, h2, ← V_shift h, ← hv]
    · rw [h1]
      exact ⟨fun h => absurd h (by decide), fun h => absurd h (by decide)⟩
  · have h1 : fit2N m s c = c := by rw [fit2N, if_neg hE]
    have h2 : fit2E c e = e := by rw [fit2E, if_neg hE]
    rw [h1, h2]
    exact ⟨rfl, Int.le_refl _, Iff.rfl⟩
theorem fitE_val {s : Bool} {n : Nat} {e E : Int} {g : Bool} {k : Nat} {x : Int} (h : fitE s n e = (g, k, x, true)) (he : -6176 ≤ e) (h1 : E ≤ e) (h2 : E ≤ x) : V g k x E = V s n e E := by
  unfold fitE at h
  split at h
  · rename_i h0
    obtain ⟨rfl, rfl, rfl, _⟩ : false = g ∧ 0 = k ∧ max (-6176) (min e 6111) = x ∧ true = true := by simpa using h
    rw [h0, V_0, V_0]
  · split at h
    · simp at h
    · obtain ⟨rfl, rfl, rfl, _⟩ : s = g ∧ n * 10 ^ fitD n e = k ∧ max (e - fitD n e) (-6176) = x ∧ true = true := by simpa using h
      have hd : -6176 ≤ e - fitD n e := by unfold fitD; omega
      rw [show max (e - fitD n e) (-6176) = e - fitD n e by omega] at h2 ⊢
      rw [V_shift h2, show e - (fitD n e : Int) + (fitD n e : Int) = e by omega]
theorem fitU_grid (N : Nat) (e : Int) : -6176 ≤ e + fitKU N e ∧ nd N ≤ fitKU N e + 34 := by
  unfold fitKU
  omega
/-- A number that is fitted is what was cut. -/
theorem fit_val {m : Int} {s : Bool} {N : Nat} {e E : Int} {more : Bool} {g : Bool} {k : Nat} {x : Int} (h : fitU m s N e more = (g, k, x, true)) (h1 : E ≤ x) (h2 : E ≤ e + fitKU N e) : V g k x E = V s (cutQ m s N more (fitKU N e)) (e + fitKU N e) E := by
  obtain ⟨k1, k2⟩ := fitU_grid N e
  have hc : cutQ m s N more (fitKU N e) ≤ E34 := cutQ_E34 k2
  obtain ⟨v1, v2, _⟩ := fit2_val (m := m) (s := s) (e := e + fitKU N e) (E := E) hc h2
  rw [← v1]
  exact fitE_val h (by omega) (by omega) h1

theorem grid_div {k : Nat} {e E : Int} (h : E ≤ e) : 10 ^ (e + k - E).toNat = 10 ^ k * 10 ^ (e - E).toNat := by
  rw [← Nat.pow_add]
  congr 1
  omega
/-- A number that may be one, and is not above another, is not above that one rounded down. -/
theorem round_lo {A N : Nat} {ea e E : Int} (hA : A < E34) (h1 : -6176 ≤ ea) (hE1 : E ≤ ea) (hE2 : E ≤ e) (h : A * 10 ^ (ea - E).toNat ≤ N * 10 ^ (e - E).toNat) :
    A * 10 ^ (ea - E).toNat ≤ N / 10 ^ fitKU N e * 10 ^ (e + fitKU N e - E).toNat := by
  obtain ⟨k, hk⟩ : ∃ k, k = fitKU N e := ⟨_, rfl⟩
  have hkv := hk
  unfold fitKU at hkv
  rw [← hk, grid_div (k := k) hE2, ← Nat.mul_assoc]
  have hp : 0 < 10 ^ (e - E).toNat := Nat.pow_pos (by decide)
  by_cases hg : e + k ≤ ea
  · rw [show (ea - E).toNat = (ea - e - k).toNat + k + (e - E).toNat by omega, Nat.pow_add, ← Nat.mul_assoc] at h ⊢
    have h' := Nat.le_of_mul_le_mul_right h hp
    refine Nat.mul_le_mul_right _ ?_
    rw [Nat.pow_add, ← Nat.mul_assoc] at h' ⊢
    exact Nat.mul_le_mul_right _ ((Nat.le_div_iff_mul_le (Nat.pow_pos (by decide))).2 h')
  · by_cases hk0 : k = 0
    · subst hk0
      simpa using h
    · have hkn : k = nd N - 34 ∧ 35 ≤ nd N := by omega
      have hN0 : N ≠ 0 := fun h => by rw [h, nd_zero] at hkn; omega
      have hq : 10 ^ 33 ≤ N / 10 ^ k := (Nat.le_div_iff_mul_le (Nat.pow_pos (by decide))).2 (by rw [← Nat.pow_add]; exact Nat.le_trans (Nat.pow_le_pow_right (by decide) (by omega)) (ge_nd hN0))
      have h2 : A * 10 ^ (ea - E).toNat ≤ 10 ^ 34 * 10 ^ (ea - E).toNat := Nat.mul_le_mul_right _ (Nat.le_of_lt hA)
      have h3 : 10 ^ 33 * 10 ^ k * 10 ^ (e - E).toNat ≤ N / 10 ^ k * 10 ^ k * 10 ^ (e - E).toNat := Nat.mul_le_mul_right _ (Nat.mul_le_mul_right _ hq)
      refine Nat.le_trans h2 (Nat.le_trans ?_ h3)
      rw [← Nat.pow_add, ← Nat.pow_add, ← Nat.pow_add]
      exact Nat.pow_le_pow_right (by decide) (by omega)
/-- A number that may be one, and is above what is left of another that does not come out, is not below that one rounded up. -/
theorem round_hi {A N : Nat} {ea e E : Int} (hA : A < E34) (h1 : -6176 ≤ ea) (hE1 : E ≤ ea) (hE2 : E ≤ e) (h : N * 10 ^ (e - E).toNat ≤ A * 10 ^ (ea - E).toNat) (hr : N % 10 ^ fitKU N e ≠ 0) :
    (N / 10 ^ fitKU N e + 1) * 10 ^ (e + fitKU N e - E).toNat ≤ A * 10 ^ (ea - E).toNat := by
  obtain ⟨k, hk⟩ : ∃ k, k = fitKU N e := ⟨_, rfl⟩
  have hkv := hk
  unfold fitKU at hkv
  rw [← hk] at hr ⊢
  rw [grid_div (k := k) hE2, ← Nat.mul_assoc]
  have hp : 0 < 10 ^ (e - E).toNat := Nat.pow_pos (by decide)
  have hpk : 0 < 10 ^ k := Nat.pow_pos (by decide)
  have hdm := Nat.div_add_mod N (10 ^ k)
  have hk0 : k ≠ 0 := fun h => by rw [h] at hr; simp [Nat.mod_one] at hr
  by_cases hg : e + k ≤ ea
  · rw [show (ea - E).toNat = (ea - e - k).toNat + k + (e - E).toNat by omega, Nat.pow_add, ← Nat.mul_assoc] at h ⊢
    have h' := Nat.le_of_mul_le_mul_right h hp
    refine Nat.mul_le_mul_right _ ?_
    rw [Nat.pow_add, ← Nat.mul_assoc] at h' ⊢
    refine Nat.mul_le_mul_right _ ?_
    refine Nat.succ_le_of_lt (Nat.lt_of_mul_lt_mul_right (a := 10 ^ k) ?_)
    rw [Nat.mul_comm (N / 10 ^ k)]
    omega
  · exfalso
    have hkn : k = nd N - 34 ∧ 35 ≤ nd N := by omega
    have hN0 : N ≠ 0 := fun h => by rw [h, nd_zero] at hkn; omega
    have h2 : A * 10 ^ (ea - E).toNat < 10 ^ 34 * 10 ^ (ea - E).toNat := Nat.mul_lt_mul_of_pos_right hA (Nat.pow_pos (by decide))
    have h3 := Nat.mul_le_mul_right (10 ^ (e - E).toNat) (ge_nd hN0)
    rw [← Nat.pow_add] at h2 h3
    have h4 : 10 ^ (34 + (ea - E).toNat) ≤ 10 ^ (nd N - 1 + (e - E).toNat) := Nat.pow_le_pow_right (by decide) (by omega)
    omega



open Go.RowKit
set_option linter.unusedVariables false
set_option linter.unusedSimpArgs false
set_option maxRecDepth 100000

theorem mag_lo {A N : Nat} {ea e E m : Int} {s : Bool} (hA : A < E34) (h1 : -6176 ≤ ea) (hE1 : E ≤ ea) (hE2 : E ≤ e) (h : A * 10 ^ (ea - E).toNat ≤ N * 10 ^ (e - E).toNat) :
    A * 10 ^ (ea - E).toNat ≤ cutQ m s N false (fitKU N e) * 10 ^ (e + fitKU N e - E).toNat := by
  refine Nat.le_trans (round_lo hA h1 hE1 hE2 h) (Nat.mul_le_mul_right _ ?_)
  rcases cut_two m s N (fitKU N e) false with h2 | ⟨h2, _⟩ <;> omega
theorem mag_hi {A N : Nat} {ea e E m : Int} {s : Bool} (hA : A < E34) (h1 : -6176 ≤ ea) (hE1 : E ≤ ea) (hE2 : E ≤ e) (h : N * 10 ^ (e - E).toNat ≤ A * 10 ^ (ea - E).toNat) :
    cutQ m s N false (fitKU N e) * 10 ^ (e + fitKU N e - E).toNat ≤ A * 10 ^ (ea - E).toNat := by
  rcases cut_two m s N (fitKU N e) false with h2 | ⟨h2, h3⟩
  · rw [h2, grid_div (k := fitKU N e) hE2, ← Nat.mul_assoc]
    exact Nat.le_trans (Nat.mul_le_mul_right _ (Nat.div_mul_le_self _ _)) h
  · rw [h2]
    exact round_hi hA h1 hE1 hE2 h (by
      rcases h3 with h3 | h3
      · exact h3
      · cases h3)
theorem round_ge {A N : Nat} {ea e E m : Int} {s t : Bool} (hA : A < E34) (h1 : -6176 ≤ ea) (hE1 : E ≤ ea) (hE2 : E ≤ e) (h : V s A ea E ≤ V t N e E) : V s A ea E ≤ V t (cutQ m t N false (fitKU N e)) (e + fitKU N e) E := by
  unfold V sgnV at *
  cases s <;> cases t
  · simp only [Bool.false_eq_true, if_false] at *
    have := mag_lo (m := m) (s := false) hA h1 hE1 hE2 (show A * 10 ^ (ea - E).toNat ≤ N * 10 ^ (e - E).toNat by omega)
    omega
  · simp only [Bool.false_eq_true, if_false, if_true] at *
    have := mag_hi (m := m) (s := true) hA h1 hE1 hE2 (show N * 10 ^ (e - E).toNat ≤ A * 10 ^ (ea - E).toNat by omega)
    omega
  · simp only [Bool.false_eq_true, if_false, if_true] at *
    omega
  · simp only [if_true] at *
    have := mag_hi (m := m) (s := true) hA h1 hE1 hE2 (show N * 10 ^ (e - E).toNat ≤ A * 10 ^ (ea - E).toNat by omega)
    omega
theorem V_neg (s : Bool) (A : Nat) (e E : Int) : V (!s) A e E = -V s A e E := by
  unfold V sgnV
  cases s <;> simp
theorem round_le {A N : Nat} {ea e E m : Int} {s t : Bool} (hA : A < E34) (h1 : -6176 ≤ ea) (hE1 : E ≤ ea) (hE2 : E ≤ e) (h : V t N e E ≤ V s A ea E) : V t (cutQ m t N false (fitKU N e)) (e + fitKU N e) E ≤ V s A ea E := by
  unfold V sgnV at *
  cases s <;> cases t
  · simp only [Bool.false_eq_true, if_false] at *
    have := mag_hi (m := m) (s := false) hA h1 hE1 hE2 (show N * 10 ^ (e - E).toNat ≤ A * 10 ^ (ea - E).toNat by omega)
    omega
  · simp only [Bool.false_eq_true, if_false, if_true] at *
    omega
  · simp only [Bool.false_eq_true, if_false, if_true] at *
    have := mag_hi (m := m) (s := false) hA h1 hE1 hE2 (show N * 10 ^ (e - E).toNat ≤ A * 10 ^ (ea - E).toNat by omega)
    omega
  · simp only [if_true] at *
    have := mag_lo (m := m) (s := true) hA h1 hE1 hE2 (show A * 10 ^ (ea - E).toNat ≤ N * 10 ^ (e - E).toNat by omega)
    omega

/-- What the sum is. -/
theorem sum_val (s1 : Bool) (A : Nat) (e1 : Int) (s2 : Bool) (B : Nat) (e2 : Int) : (sumT s1 A e1 s2 B e2).2.2 = min e1 e2 ∧ sgnV (sumT s1 A e1 s2 B e2).1 (sumT s1 A e1 s2 B e2).2.1 = V s1 A e1 (min e1 e2) + V s2 B e2 (min e1 e2) := by
  unfold sumT V
  generalize A * 10 ^ (e1 - min e1 e2).toNat = X
  generalize B * 10 ^ (e2 - min e1 e2).toNat = Y
  by_cases h : s1 = s2
  · subst h
    rw [if_pos rfl]
    refine ⟨rfl, ?_⟩
    unfold sgnV
    cases s1 <;> simp <;> omega
  · rw [if_neg h]
    split
    · refine ⟨rfl, ?_⟩
      unfold sgnV
      cases s1 <;> cases s2 <;> simp at h ⊢ <;> omega
    · refine ⟨rfl, ?_⟩
      unfold sgnV
      cases s1 <;> cases s2 <;> simp at h ⊢ <;> omega
theorem V_own (s : Bool) (N : Nat) (e : Int) : V s N e e = sgnV s N := by
  unfold V
  simp
/-- A sum with something that is not below 0 is not below. -/
theorem add_ge {s1 : Bool} {A B : Nat} {e1 e2 : Int} {g : Bool} {k : Nat} {x : Int} (hA : A < E34) (h1 : -6176 ≤ e1) (h : addT s1 A e1 false B e2 = (g, k, x, true)) : 0 ≤ cmpZ g k x s1 A e1 := by
  obtain ⟨v1, v2⟩ := sum_val s1 A e1 false B e2
  unfold addT at h
  generalize (sumT s1 A e1 false B e2).1 = t at *
  generalize (sumT s1 A e1 false B e2).2.1 = N at *
  generalize (sumT s1 A e1 false B e2).2.2 = e at *
  obtain ⟨E, hE⟩ : ∃ E, E = min (min x e1) e := ⟨_, rfl⟩
  rw [cmpZ_any (E := E) (by omega) (by omega), cmpI_ge, fit_val (E := E) h (by omega) (by omega)]
  refine round_ge hA h1 (by omega) (by omega) ?_
  rw [V_low (show E ≤ e by omega) (show e ≤ e1 by omega), V_low (show E ≤ e by omega) (Int.le_refl e), V_own]
  refine Int.mul_le_mul_of_nonneg_right ?_ (Int.natCast_nonneg _)
  rw [v2, ← v1]
  have : 0 ≤ V false B e2 e := by
    unfold V sgnV
    rw [if_neg (by simp)]
    exact Int.natCast_nonneg _
  omega

theorem up_floor {s : Bool} {N k : Nat} {more : Bool} : upB 6 s N more k = true ↔ s = true ∧ (N % 10 ^ k ≠ 0 ∨ more = true) := by
  have hr : more = true ∨ N % 10 ^ k ≠ 0 ↔ restP more N k ∨ lastD N k ≠ 0 := restP_succ (more := more) (N := N) (k := k)
  have h0 : (0 < ((lastD N k : Nat) : Int) ∨ (@decide (restP more N k) (Classical.propDecidable _)) = true) ↔ restP more N k ∨ lastD N k ≠ 0 := by
    have hd : (@decide (restP more N k) (Classical.propDecidable _)) = true ↔ restP more N k := by simp
    rw [hd, or_comm]
    constructor
    · rintro (h | h)
      · exact .inl h
      · exact .inr (by omega)
    · rintro (h | h)
      · exact .inl h
      · exact .inr (by omega)
  rw [upB_iff, or_comm (a := N % 10 ^ k ≠ 0), hr, ← h0]
  unfold UpP
  simp
theorem up_ceil {s : Bool} {N k : Nat} {more : Bool} : upB 7 s N more k = true ↔ s = false ∧ (N % 10 ^ k ≠ 0 ∨ more = true) := by
  have hr : more = true ∨ N % 10 ^ k ≠ 0 ↔ restP more N k ∨ lastD N k ≠ 0 := restP_succ (more := more) (N := N) (k := k)
  have h0 : (0 < ((lastD N k : Nat) : Int) ∨ (@decide (restP more N k) (Classical.propDecidable _)) = true) ↔ restP more N k ∨ lastD N k ≠ 0 := by
    have hd : (@decide (restP more N k) (Classical.propDecidable _)) = true ↔ restP more N k := by simp
    rw [hd, or_comm]
    constructor
    · rintro (h | h)
      · exact .inl h
      · exact .inr (by omega)
    · rintro (h | h)
      · exact .inl h
      · exact .inr (by omega)
  rw [upB_iff, or_comm (a := N % 10 ^ k ≠ 0), hr, ← h0]
  unfold UpP
  simp
/-- By each mode what is cut is what the floor or the ceiling is. -/
theorem cut_modes (m : Int) (s : Bool) (N k : Nat) (more : Bool) : (cutQ m s N more k = cutQ 6 s N more k ∨ cutQ m s N more k = cutQ 7 s N more k) ∧ sgnV s (cutQ 6 s N more k) ≤ sgnV s (cutQ 7 s N more k) := by
  have h6 : cutQ 6 s N more k = N / 10 ^ k + (upB 6 s N more k).toNat := rfl
  have h7 : cutQ 7 s N more k = N / 10 ^ k + (upB 7 s N more k).toNat := rfl
  rw [h6, h7]
  by_cases hx : N % 10 ^ k ≠ 0 ∨ more = true
  · cases s
    · have e6 : upB 6 false N more k = false := by rw [← Bool.not_eq_true, up_floor]; simp
      have e7 : upB 7 false N more k = true := up_ceil.2 ⟨rfl, hx⟩
      rw [e6, e7]
      refine ⟨?_, by unfold sgnV; simp; omega⟩
      rcases cut_two m false N k more with h | ⟨h, _⟩
      · exact .inl h
      · exact .inr h
    · have e6 : upB 6 true N more k = true := up_floor.2 ⟨rfl, hx⟩
      have e7 : upB 7 true N more k = false := by rw [← Bool.not_eq_true, up_ceil]; simp
      rw [e6, e7]
      refine ⟨?_, by unfold sgnV; simp; omega⟩
      rcases cut_two m true N k more with h | ⟨h, _⟩
      · exact .inr h
      · exact .inl h
  · have e6 : upB 6 s N more k = false := by rw [← Bool.not_eq_true, up_floor]; exact fun h => hx h.2
    have e7 : upB 7 s N more k = false := by rw [← Bool.not_eq_true, up_ceil]; exact fun h => hx h.2
    rw [e6, e7]
    refine ⟨?_, Int.le_refl _⟩
    rcases cut_two m s N k more with h | ⟨_, h⟩
    · exact .inl h
    · exact absurd h hx
theorem V_mono {s : Bool} {A B : Nat} {e E : Int} (h : sgnV s A ≤ sgnV s B) : V s A e E ≤ V s B e E := by
  unfold V
  rw [sgnV_mul, sgnV_mul]
  exact Int.mul_le_mul_of_nonneg_right h (Int.natCast_nonneg _)
/-- What is fitted stands between floor and ceiling, and is one of both. -/
theorem fit_modes {m : Int} {s : Bool} {N : Nat} {e : Int} {more : Bool} {g1 g2 g3 : Bool} {k1 k2 k3 : Nat} {x1 x2 x3 : Int}
    (h1 : fitU 6 s N e more = (g1, k1, x1, true)) (h2 : fitU 7 s N e more = (g2, k2, x2, true)) (h3 : fitU m s N e more = (g3, k3, x3, true)) :
    cmpZ g1 k1 x1 g2 k2 x2 ≤ 0 ∧ (cmpZ g3 k3 x3 g1 k1 x1 = 0 ∨ cmpZ g3 k3 x3 g2 k2 x2 = 0) := by
  obtain ⟨E, hE⟩ : ∃ E, E = min (min x1 x2) (min x3 (e + fitKU N e)) := ⟨_, rfl⟩
  rw [cmpZ_any (E := E) (by omega) (by omega), cmpZ_any (E := E) (by omega) (by omega), cmpZ_any (E := E) (by omega) (by omega),
    fit_val (E := E) h1 (by omega) (by omega), fit_val (E := E) h2 (by omega) (by omega), fit_val (E := E) h3 (by omega) (by omega)]
  obtain ⟨q1, q2⟩ := cut_modes m s N (fitKU N e) more
  refine ⟨cmpI_le.2 (V_mono q2), ?_⟩
  rcases q1 with q | q
  · exact .inl (by rw [q]; exact cmpI_eq.2 rfl)
  · exact .inr (by rw [q]; exact cmpI_eq.2 rfl)



open Go.RowKit
set_option linter.unusedVariables false
set_option linter.unusedSimpArgs false
set_option maxRecDepth 100000

theorem c_size {g : Bool} {A : Nat} {e : Int} (hA : A < B128) (h1 : -100000000000000000 ≤ e) (h2 : e ≤ 100000000000000000) : HasC Tryz.prog 48 [.agg [.v (.bool g), .v (.int .u64 (hiW (A))), .v (.int .u64 (loW (A))), .v (.int .i64 e)]] (fun y => y = .v (.int .i64 (e + (nd A : Int)))) := by
 refine HasC.of [] (fn := Tryz.f48) tyOk mixed (fun args w => Tryz.call48 args w) Tryz.func48 rfl (by kernel_rfl) (Nat.le_of_ble_eq_true rfl) (⟨_, rfl⟩) ?_
 refine vc_seqr rfl (iQ 2 (iE 10 [(1, .p 1 0), (2, Ia 0)] [(1, [Bv g, Hw A, Lw A, Iv e])] ?_))
 refine vc_seqr rfl (iQ 5 (iC 72 [.agg [Uv 0, Uv 0], .agg [Hw A, Lw A]] (some 8) (cw_Digits0 hA) ?_))
 rintro _ rfl
 have hn : nd A ≤ 39 := nd_le _ _ (Nat.lt_trans hA (by decide))
 refine iB .add 3 (.int .i64 e) (.int .i64 ((nd A : Int))) (some 9) ?_
 intro z9 hz9
 try replace hz9 := hz9.i64 (by omega)
 refine iQ 1 (iE 10 [(2, Ia z9)] [] ?_)
 refine vc_ret (iR (Iv z9) ?_)
 rw [← hz9]

theorem c_higher {g1 g2 : Bool} {A B : Nat} {e1 e2 : Int} (hA : A < B128) (hB : B < B128) (h1 : -100000000000000000 ≤ e1) (h2 : e1 ≤ 100000000000000000) (h3 : -100000000000000000 ≤ e2) (h4 : e2 ≤ 100000000000000000) : HasC Tryz.prog 63 [.agg [.v (.bool g1), .v (.int .u64 (hiW (A))), .v (.int .u64 (loW (A))), .v (.int .i64 e1)], .agg [.v (.bool g2), .v (.int .u64 (hiW (B))), .v (.int .u64 (loW (B))), .v (.int .i64 e2)]] (fun y => ∃ b, y = .v (.bool b) ∧ (b = true ↔ A ≠ 0 ∧ (B = 0 ∨ e2 + nd B < e1 + nd A))) := by
 refine HasC.of [] (fn := Tryz.f63) tyOk mixed (fun args w => Tryz.call63 args w) Tryz.func63 rfl (by kernel_rfl) (Nat.le_of_ble_eq_true rfl) (⟨_, decide (A ≠ 0 ∧ (B = 0 ∨ e2 + nd B < e1 + nd A)), rfl, by simp⟩) ?_
 refine vc_seqr rfl (iQ 3 (iE 19 [(2, .p 2 0), (3, .p 3 0), (4, Ba false)] [(2, [Bv g1, Hw A, Lw A, Iv e1]), (3, [Bv g2, Hw B, Lw B, Iv e2])] ?_))
 refine vc_seqr rfl (iQ 1 (iC 33 [.agg [Bv g1, Hw A, Lw A, Iv e1]] (some 6) (c_Zero hA) ?_))
 rintro _ ⟨z, rfl, hz⟩
 refine iU .not (.bool z) (some 7) ?_
 intro c7 hc7
 refine iQ 1 ?_
 cases c7
 ·replace hc7 := bf hc7
  refine iQ 11 (iE 19 [(4, Ba false)] [] ?_)
  refine vc_ret (iR (Bv false) ?_)
  exact ⟨_, rfl, by have : A = 0 := hz.1 (by simpa using hc7); simp [this]⟩
 ·replace hc7 := bt hc7
  refine iQ 1 ?_
  have hA0 : A ≠ 0 := fun h => by rw [hz.2 h] at hc7; cases hc7
  refine iC 33 [.agg [Bv g2, Hw B, Lw B, Iv e2]] (some 10) (c_Zero hB) ?_
  rintro _ ⟨w, rfl, hw⟩
  refine iQ 1 ?_
  cases w
  ·replace hw := bf hw
   refine iQ 1 (iC 48 [.agg [Bv g1, Hw A, Lw A, Iv e1]] (some 13) (c_size hA h1 h2) ?_)
   rintro _ rfl
   refine iQ 1 (iC 48 [.agg [Bv g2, Hw B, Lw B, Iv e2]] (some 15) (c_size hB h3 h4) ?_)
   rintro _ rfl
   refine iB .gtr 3 (.int .i64 (e1 + (nd A : Int))) (.int .i64 (e2 + (nd B : Int))) (some 16) ?_
   intro c16 hc16
   refine iQ 3 (iE 19 [(4, Ba c16)] [] ?_)
   refine vc_ret (iR (Bv c16) ?_)
   exact ⟨_, rfl, by rw [hc16]; simp [hA0, hw]⟩
  ·replace hw := bt hw
   refine iQ 8 (iE 19 [(4, Ba true)] [] ?_)
   refine vc_ret (iR (Bv true) ?_)
   exact ⟨_, rfl, by simp [hA0, hw]⟩

theorem c_Neg {g : Bool} {A : Nat} {e : Int} (hA : A < B128) : HasC Tryz.prog 67 [.agg [.v (.bool g), .v (.int .u64 (hiW (A))), .v (.int .u64 (loW (A))), .v (.int .i64 e)]] (fun y => y = dDec (!g && decide (A ≠ 0)) A e) := by
 refine HasC.of [] (fn := Tryz.f67) tyOk mixed (fun args w => Tryz.call67 args w) Tryz.func67 rfl (by kernel_rfl) (Nat.le_of_ble_eq_true rfl) (⟨_, rfl⟩) ?_
 refine vc_seqr rfl (iQ 2 (iE 13 [(1, .p 1 0), (2, .p 2 0)] [(1, [Bv g, Hw A, Lw A, Iv e]), (2, [Bv false, Uv 0, Uv 0, Iv 0])] ?_))
 refine vc_seqr rfl (iQ 2 (iU .not (.bool g) (some 5) ?_))
 intro c5 hc5
 refine iQ 1 ?_
 cases c5
 ·replace hc5 := bf hc5
  refine iQ 6 (iE 13 [(1, .p 1 0), (2, .p 2 0)] [(1, [Bv false, Hw A, Lw A, Iv e]), (2, [Bv false, Uv 0, Uv 0, Iv 0])] ?_)
  refine vc_seqr rfl (iQ 2 (iE 13 [(1, .p 1 0), (2, .p 2 0)] [(1, [Bv false, Hw A, Lw A, Iv e]), (2, [Bv false, Hw A, Lw A, Iv e])] ?_))
  refine vc_ret (iR (.agg [Bv false, Hw A, Lw A, Iv e]) ?_)
  have hg : g = true := by simpa using hc5
  rw [hg]; rfl
 ·replace hc5 := bt hc5
  refine iQ 1 (iC 33 [.agg [Bv g, Hw A, Lw A, Iv e]] (some 8) (c_Zero hA) ?_)
  rintro _ ⟨z, rfl, hz⟩
  refine iU .not (.bool z) (some 9) ?_
  intro c9 hc9
  refine iQ 3 (iE 13 [(1, .p 1 0), (2, .p 2 0)] [(1, [Bv c9, Hw A, Lw A, Iv e]), (2, [Bv false, Uv 0, Uv 0, Iv 0])] ?_)
  refine vc_seqr rfl (iQ 2 (iE 13 [(1, .p 1 0), (2, .p 2 0)] [(1, [Bv c9, Hw A, Lw A, Iv e]), (2, [Bv c9, Hw A, Lw A, Iv e])] ?_))
  refine vc_ret (iR (.agg [Bv c9, Hw A, Lw A, Iv e]) ?_)
  have hc : (!g && decide (A ≠ 0)) = c9 := by rw [hc5, Bool.eq_iff_iff, hc9]; cases z <;> simp_all
  rw [hc]; rfl

theorem at_fin {A h l j l' : Nat} {e low c : Int} {mo : Bool} (h0 : A * 10 ^ (e - low).toNat = h * B128 + l) (hl : l < B128) (hj : j ≤ (low - e).toNat) (hc : c = low - e - j) (h1 : l' = l / 10 ^ j) (h2 : mo = true ↔ l % 10 ^ j ≠ 0) (h3 : e < low → h = 0) (hs : c ≤ 0 ∨ l' = 0 ∧ 0 < c) :
    atN A e low / B128 = h ∧ atN A e low % B128 = l' ∧ atM A e low = mo := by
  rcases Int.le_total low e with k | k
  · have hJ : (low - e).toNat = 0 := by omega
    have hj0 : j = 0 := by omega
    subst hj0
    obtain ⟨u1, u2⟩ := at_up (A := A) k
    rw [u1, u2, h0]
    refine ⟨(b128_div hl).1, by rw [(b128_div hl).2, h1]; simp, ?_⟩
    have : ¬ mo = true := by rw [h2]; simp [Nat.mod_one]
    cases mo <;> simp_all
  · rw [at_down k]
    by_cases hk : e = low
    · subst hk
      have hj0 : j = 0 := by omega
      subst hj0
      rw [Int.sub_self] at h0 ⊢
      obtain ⟨u1, u2⟩ := at_up (A := A) (Int.le_refl e)
      rw [u2]
      simp at h0 ⊢
      rw [h0]
      refine ⟨(b128_div hl).1, by rw [(b128_div hl).2, h1]; simp, ?_⟩
      have : ¬ mo = true := by rw [h2]; simp [Nat.mod_one]
      cases mo <;> simp_all
    · have hh := h3 (by omega)
      subst hh
      rw [show (e - low).toNat = 0 by omega] at h0
      have hAl : A = l := by omega
      obtain ⟨J, hJ⟩ : ∃ J, (low - e).toNat = J := ⟨_, rfl⟩
      unfold atM
      rw [hJ, hAl]
      rw [hJ] at hj
      have key : l / 10 ^ J = l' ∧ (l % 10 ^ J ≠ 0 ↔ l % 10 ^ j ≠ 0) := by
        rcases hs with hs | ⟨hs, _⟩
        · have : j = J := by omega
          rw [this] at h1 h2 ⊢
          exact ⟨h1.symm, Iff.rfl⟩
        · have hlt : l < 10 ^ j := by
            rcases Nat.lt_or_ge l (10 ^ j) with h | h
            · exact h
            · have := Nat.div_pos h (Nat.pow_pos (by decide))
              omega
          have hlt2 := Nat.lt_of_lt_of_le hlt (Nat.pow_le_pow_right (show 0 < 10 by decide) hj)
          rw [Nat.div_eq_of_lt hlt2, Nat.mod_eq_of_lt hlt, Nat.mod_eq_of_lt hlt2]
          exact ⟨hs.symm, Iff.rfl⟩
      refine ⟨?_, ?_, ?_⟩
      · exact Nat.div_eq_of_lt (Nat.lt_of_le_of_lt (Nat.div_le_self _ _) hl)
      · rw [Nat.mod_eq_of_lt (Nat.lt_of_le_of_lt (Nat.div_le_self _ _) hl), key.1]
      · rw [Bool.eq_iff_iff, h2, decide_eq_true_iff]
        exact key.2
theorem mod_more1 {l j : Nat} {mo mo' : Bool} (h : mo = true ↔ l % 10 ^ j ≠ 0) (hm : mo' = true ↔ mo = true ∨ l / 10 ^ j % 10 ≠ 0) : mo' = true ↔ l % 10 ^ (j + 1) ≠ 0 := by
  rw [hm, h, mod_pow_succ]

theorem mod_more2 {l j x : Nat} {c : Bool} (h : false = true ↔ l % 10 ^ j ≠ 0) (hc : c = true ↔ ((x : Nat) : Int) ≠ 0) (hx : x = l / 10 ^ j % 10) : c = true ↔ l % 10 ^ (j + 1) ≠ 0 := by
  refine mod_more1 h ?_
  rw [hc, ← hx]
  constructor
  · intro k
    exact .inr (by omega)
  · rintro (k | k)
    · cases k
    · omega

set_option maxHeartbeats 1600000 in
theorem c_at2 {s : Bool} {A : Nat} {e low : Int} (hA : A < E34) (hr : A ≠ 0 → e - low ≤ 70 ∧ A * 10 ^ (e - low).toNat < B128 * B128) (h1 : -100000000000000000 ≤ e) (h2 : e ≤ 100000000000000000) (h3 : -100000000000000000 ≤ low) (h4 : low ≤ 100000000000000000) : HasC Tryz.prog 64 [.agg [.v (.bool s), .v (.int .u64 (hiW (A))), .v (.int .u64 (loW (A))), .v (.int .i64 e)], .v (.int .i64 low)] (fun y => y = dWide s (atN A e low / B128) (atN A e low % B128) low (atM A e low)) := by
 refine HasC.of [] (fn := Tryz.f64) tyOk mixed (fun args w => Tryz.call64 args w) Tryz.func64 rfl (by kernel_rfl) (Nat.le_of_ble_eq_true rfl) (⟨_, rfl⟩) ?_
 have hAB := Nat.lt_trans hA e34_lt
 refine vc_seqr rfl (iQ 2 (iE 87 [(1, Ia low), (2, .p 2 0), (4, .p 4 0)] [(2, [Bv s, Hw A, Lw A, Iv e]), (4, [Bv false, Uv 0, Uv 0, Uv 0, Uv 0, Iv 0, Bv false])] ?_))
 refine vc_seqr rfl (iQ 8 (iE 87 [(1, Ia low), (2, .p 2 0), (4, .p 4 0), (5, .p 5 0)] [(2, [Bv s, Hw A, Lw A, Iv e]), (4, [Bv false, Uv 0, Uv 0, Uv 0, Uv 0, Iv 0, Bv false]), (5, [Bv s, Uv 0, Uv 0, Hw A, Lw A, Iv low, Bv false])] ?_))
 refine vc_seq (vc_seqr rfl (iQ 1 (iC 33 [.agg [Bv s, Hw A, Lw A, Iv e]] (some 22) (c_Zero hAB) ?_)))
 rintro _ ⟨z, rfl, hz⟩
 refine iE 87 [(1, Ia low), (2, .p 2 0), (4, .p 4 0), (5, .p 5 0), (22, Ba z)] [(2, [Bv s, Hw A, Lw A, Iv e]), (4, [Bv false, Uv 0, Uv 0, Uv 0, Uv 0, Iv 0, Bv false]), (5, [Bv s, Uv 0, Uv 0, Hw A, Lw A, Iv low, Bv false])] ?_
 cases z
 ·replace hz := bf hz
  obtain ⟨r1, r2⟩ := hr hz
  refine iF (vc_skip (seq_n (vc_seq (vc_seqr rfl (iQ 3 (iB .sub 3 (.int .i64 e) (.int .i64 low) (some 27) ?_))))))
  intro z27 hz27
  try replace hz27 := hz27.i64 (by omega)
  refine iL .min [3, 3] [.int .i64 z27, .int .i64 70] (some 28) ?_
  intro z28 hz28
  simp only at hz28
  refine iQ 1 (iE 87 [(1, Ia low), (2, .p 2 0), (4, .p 4 0), (5, .p 5 0), (22, Ba false), (28, Ia z28), (29, Ia 0)] [(2, [Bv s, Hw A, Lw A, Iv e]), (4, [Bv false, Uv 0, Uv 0, Uv 0, Uv 0, Iv 0, Bv false]), (5, [Bv s, Uv 0, Uv 0, Hw A, Lw A, Iv low, Bv false])] ?_)
  refine vc_block (vc_loop 87 (fun (vcx : Nat × Nat × Nat × Int) => match vcx with | (i, h, l, c) => [(1, Ia low), (2, .p 2 0), (4, .p 4 0), (5, .p 5 0), (22, Ba false), (28, Ia z28), (29, Ia c)]) (fun (vcx : Nat × Nat × Nat × Int) => match vcx with | (i, h, l, c) => [(2, [Bv s, Hw A, Lw A, Iv e]), (4, [Bv false, Uv 0, Uv 0, Uv 0, Uv 0, Iv 0, Bv false]), (5, [Bv s, Hw h, Lw h, Hw l, Lw l, Iv low, Bv false])]) (fun (vcx : Nat × Nat × Nat × Int) => match vcx with | (i, h, l, c) => A * 10 ^ i = h * B128 + l ∧ h < B128 ∧ l < B128 ∧ c = (i : Int) ∧ (i : Int) ≤ max 0 (e - low)) (fun (vcx : Nat × Nat × Nat × Int) => match vcx with | (i, h, l, c) => (e - low).toNat - i) ((0, 0, A, 0)) (⟨by simp, by decide, hAB, by simp, by omega⟩) (by kernel_rfl) (by kernel_rfl) ?_)
  rintro ⟨i, h, l, c⟩ hinv
  simp only at hinv
  obtain ⟨i1, i2, i3, i4, i5⟩ := hinv
  refine vc_seqr rfl (iB .lss 3 (.int .i64 c) (.int .i64 z28) (some 30) ?_)
  intro c30 hc30
  refine iE 87 [(1, Ia low), (2, .p 2 0), (4, .p 4 0), (5, .p 5 0), (22, Ba false), (28, Ia z28), (29, Ia c), (30, Ba c30)] [(2, [Bv s, Hw A, Lw A, Iv e]), (4, [Bv false, Uv 0, Uv 0, Uv 0, Uv 0, Iv 0, Bv false]), (5, [Bv s, Hw h, Lw h, Hw l, Lw l, Iv low, Bv false])] ?_
  refine vc_seq ?_
  cases c30
  ·replace hc30 := bf hc30
   have hi : i = (e - low).toNat := by omega
   rw [hi] at i1
   have hh0 : e < low → h = 0 := fun k => by rw [show (e - low).toNat = 0 by omega] at i1; simp at i1; rcases Nat.eq_zero_or_pos h with h0 | h0; exact h0; have := Nat.mul_le_mul_right B128 h0; omega
   refine iF (vc_exit (seq_x (loop_x (block_x rfl (seq_n (vc_seq (vc_seqr rfl (iQ 3 (iB .sub 3 (.int .i64 low) (.int .i64 e) (some 57) ?_)))))))))
   intro z57 hz57
   try replace hz57 := hz57.i64 (by omega)
   refine iQ 1 (iE 87 [(1, Ia low), (2, .p 2 0), (4, .p 4 0), (5, .p 5 0), (10, Ia z57), (22, Ba false), (28, Ia z28), (29, Ia c), (30, Ba false)] [(2, [Bv s, Hw A, Lw A, Iv e]), (4, [Bv false, Uv 0, Uv 0, Uv 0, Uv 0, Iv 0, Bv false]), (5, [Bv s, Hw h, Lw h, Hw l, Lw l, Iv low, Bv false])] ?_)
   refine vc_block (vc_loop 87 (fun (vcx : Nat × Nat × Int × Bool) => match vcx with | (j, l', c', mo) => [(1, Ia low), (2, .p 2 0), (4, .p 4 0), (5, .p 5 0), (10, Ia c'), (22, Ba false), (28, Ia z28), (29, Ia c), (30, Ba false)]) (fun (vcx : Nat × Nat × Int × Bool) => match vcx with | (j, l', c', mo) => [(2, [Bv s, Hw A, Lw A, Iv e]), (4, [Bv false, Uv 0, Uv 0, Uv 0, Uv 0, Iv 0, Bv false]), (5, [Bv s, Hw h, Lw h, Hw l', Lw l', Iv low, Bv mo])]) (fun (vcx : Nat × Nat × Int × Bool) => match vcx with | (j, l', c', mo) => j ≤ (low - e).toNat ∧ c' = low - e - (j : Int) ∧ l' = l / 10 ^ j ∧ (mo = true ↔ l % 10 ^ j ≠ 0) ∧ l' < B128) (fun (vcx : Nat × Nat × Int × Bool) => match vcx with | (j, l', c', mo) => (low - e).toNat - j) ((0, l, z57, false)) (⟨Nat.zero_le _, by omega, by simp, by simp [Nat.mod_one], i3⟩) (by kernel_rfl) (by kernel_rfl) ?_)
   rintro ⟨j, l', c', mo⟩ hinv
   simp only at hinv
   obtain ⟨j1, j2, j3, j4, j5⟩ := hinv
   refine vc_seq (vc_seqr rfl (iQ 1 (iB .gtr 3 (.int .i64 c') (.int .i64 0) (some 59) ?_)))
   intro c59 hc59
   refine iQ 1 ?_
   cases c59
   ·replace hc59 := bf hc59
    refine iQ 5 (iE 87 [(1, Ia low), (2, .p 2 0), (4, .p 4 0), (5, .p 5 0), (10, Ia c'), (22, Ba false), (28, Ia z28), (29, Ia c), (30, Ba false), (65, Ba false)] [(2, [Bv s, Hw A, Lw A, Iv e]), (4, [Bv false, Uv 0, Uv 0, Uv 0, Uv 0, Iv 0, Bv false]), (5, [Bv s, Hw h, Lw h, Hw l', Lw l', Iv low, Bv mo])] ?_)
    have hf := at_fin i1 i3 j1 j2 j3 j4 hh0 (.inl (by omega))
    refine iF (vc_exit (seq_x (loop_x (block_x rfl (seq_n (vc_seqr rfl (iQ 2 (iE 87 [(1, Ia low), (2, .p 2 0), (4, .p 4 0), (5, .p 5 0), (10, Ia c'), (22, Ba false), (28, Ia z28), (29, Ia c), (30, Ba false), (65, Ba false)] [(2, [Bv s, Hw A, Lw A, Iv e]), (4, [Bv s, Hw h, Lw h, Hw l', Lw l', Iv low, Bv mo]), (5, [Bv s, Hw h, Lw h, Hw l', Lw l', Iv low, Bv mo])] ?_))))))))
    refine vc_ret (iR (.agg [Bv s, Hw h, Lw h, Hw l', Lw l', Iv low, Bv mo]) ?_)
    rw [hf.1, hf.2.1, hf.2.2]; rfl
   ·replace hc59 := bt hc59
    refine iQ 2 (iC 40 [.agg [Hw l', Lw l']] (some 63) (cw_Zero j5) ?_)
    rintro _ ⟨zz, rfl, hzz⟩
    refine iU .not (.bool zz) (some 64) ?_
    intro c64 hc64
    refine iQ 1 (iE 87 [(1, Ia low), (2, .p 2 0), (4, .p 4 0), (5, .p 5 0), (10, Ia c'), (22, Ba false), (28, Ia z28), (29, Ia c), (30, Ba false), (65, Ba c64)] [(2, [Bv s, Hw A, Lw A, Iv e]), (4, [Bv false, Uv 0, Uv 0, Uv 0, Uv 0, Iv 0, Bv false]), (5, [Bv s, Hw h, Lw h, Hw l', Lw l', Iv low, Bv mo])] ?_)
    cases c64
    ·replace hc64 := bf hc64
     have hl0 : l' = 0 := hzz.1 (by simpa using hc64)
     have hf := at_fin i1 i3 j1 j2 j3 j4 hh0 (.inr ⟨hl0, hc59⟩)
     refine iF (vc_exit (seq_x (loop_x (block_x rfl (seq_n (vc_seqr rfl (iQ 2 (iE 87 [(1, Ia low), (2, .p 2 0), (4, .p 4 0), (5, .p 5 0), (10, Ia c'), (22, Ba false), (28, Ia z28), (29, Ia c), (30, Ba false), (65, Ba false)] [(2, [Bv s, Hw A, Lw A, Iv e]), (4, [Bv s, Hw h, Lw h, Hw l', Lw l', Iv low, Bv mo]), (5, [Bv s, Hw h, Lw h, Hw l', Lw l', Iv low, Bv mo])] ?_))))))))
     refine vc_ret (iR (.agg [Bv s, Hw h, Lw h, Hw l', Lw l', Iv low, Bv mo]) ?_)
     rw [hf.1, hf.2.1, hf.2.2]; rfl
    ·replace hc64 := bt hc64
     refine iT (vc_skip (seq_n (vc_seq (vc_block (vc_seqr rfl (iQ 3 (iC 41 [.agg [Uv 0, Uv 0], .agg [Hw l', Lw l'], Uv 10] (some 72) (cw_DivWord10 j5) ?_)))))))
     rintro _ rfl
     have hd : l' / 10 = l / 10 ^ (j + 1) := by rw [j3, Nat.div_div_eq_div_mul, ← Nat.pow_succ]
     have hlB : l' / 10 < B128 := Nat.lt_of_le_of_lt (Nat.div_le_self _ _) j5
     refine iQ 11 (iE 87 [(1, Ia low), (2, .p 2 0), (4, .p 4 0), (5, .p 5 0), (10, Ia c'), (12, .p 12 0), (13, .d (Uv (((l' % 10 : Nat) : Int)))), (22, Ba false), (28, Ia z28), (29, Ia c), (30, Ba false), (65, Ba true)] [(2, [Bv s, Hw A, Lw A, Iv e]), (4, [Bv false, Uv 0, Uv 0, Uv 0, Uv 0, Iv 0, Bv false]), (5, [Bv s, Hw h, Lw h, Hw l', Lw l', Iv low, Bv mo]), (12, [Hw (l' / 10), Lw (l' / 10)])] ?_)
     refine vc_reg rfl (iQ 4 ?_)
     cases mo
     ·skip
      refine iQ 1 (iB .neq 41 (.int .u64 (((l' % 10 : Nat) : Int))) (.int .u64 0) (some 82) ?_)
      intro c82 hc82
      refine iQ 5 (iE 87 [(1, Ia low), (2, .p 2 0), (4, .p 4 0), (5, .p 5 0), (10, Ia c'), (12, .p 12 0), (13, .d (Uv (((l' % 10 : Nat) : Int)))), (22, Ba false), (28, Ia z28), (29, Ia c), (30, Ba false), (65, Ba true)] [(2, [Bv s, Hw A, Lw A, Iv e]), (4, [Bv false, Uv 0, Uv 0, Uv 0, Uv 0, Iv 0, Bv false]), (5, [Bv s, Hw h, Lw h, Hw (l' / 10), Lw (l' / 10), Iv low, Bv c82]), (12, [Hw (l' / 10), Lw (l' / 10)])] ?_)
      refine block_n (seq_n (vc_reg rfl (iQ 1 (iB .sub 3 (.int .i64 c') (.int .i64 1) (some 67) ?_))))
      intro z67 hz67
      try replace hz67 := hz67.i64 (by omega)
      refine iQ 1 (iE 87 [(1, Ia low), (2, .p 2 0), (4, .p 4 0), (5, .p 5 0), (10, Ia z67), (12, .p 12 0), (13, .d (Uv (((l' % 10 : Nat) : Int)))), (22, Ba false), (28, Ia z28), (29, Ia c), (30, Ba false), (65, Ba true)] [(2, [Bv s, Hw A, Lw A, Iv e]), (4, [Bv false, Uv 0, Uv 0, Uv 0, Uv 0, Iv 0, Bv false]), (5, [Bv s, Hw h, Lw h, Hw (l' / 10), Lw (l' / 10), Iv low, Bv c82]), (12, [Hw (l' / 10), Lw (l' / 10)])] ?_)
      refine loop_n (j + 1, l' / 10, z67, c82) (⟨by omega, by omega, hd, mod_more2 j4 hc82 (by rw [j3]), hlB⟩) (by show (low - e).toNat - (j + 1) < (low - e).toNat - j; omega) (by kernel_rfl) (by kernel_rfl)
     ·skip
      refine iQ 7 (iE 87 [(1, Ia low), (2, .p 2 0), (4, .p 4 0), (5, .p 5 0), (10, Ia c'), (12, .p 12 0), (13, .d (Uv (((l' % 10 : Nat) : Int)))), (22, Ba false), (28, Ia z28), (29, Ia c), (30, Ba false), (65, Ba true)] [(2, [Bv s, Hw A, Lw A, Iv e]), (4, [Bv false, Uv 0, Uv 0, Uv 0, Uv 0, Iv 0, Bv false]), (5, [Bv s, Hw h, Lw h, Hw (l' / 10), Lw (l' / 10), Iv low, Bv true]), (12, [Hw (l' / 10), Lw (l' / 10)])] ?_)
      refine block_n (seq_n (vc_reg rfl (iQ 1 (iB .sub 3 (.int .i64 c') (.int .i64 1) (some 67) ?_))))
      intro z67 hz67
      try replace hz67 := hz67.i64 (by omega)
      refine iQ 1 (iE 87 [(1, Ia low), (2, .p 2 0), (4, .p 4 0), (5, .p 5 0), (10, Ia z67), (12, .p 12 0), (13, .d (Uv (((l' % 10 : Nat) : Int)))), (22, Ba false), (28, Ia z28), (29, Ia c), (30, Ba false), (65, Ba true)] [(2, [Bv s, Hw A, Lw A, Iv e]), (4, [Bv false, Uv 0, Uv 0, Uv 0, Uv 0, Iv 0, Bv false]), (5, [Bv s, Hw h, Lw h, Hw (l' / 10), Lw (l' / 10), Iv low, Bv true]), (12, [Hw (l' / 10), Lw (l' / 10)])] ?_)
      refine loop_n (j + 1, l' / 10, z67, true) (⟨by omega, by omega, hd, mod_more1 j4 (by simp), hlB⟩) (by show (low - e).toNat - (j + 1) < (low - e).toNat - j; omega) (by kernel_rfl) (by kernel_rfl)
  ·replace hc30 := bt hc30
   have hjn : A * 10 ^ i * 10 < B128 * B128 := by rw [Nat.mul_assoc, ← Nat.pow_succ]; exact Nat.lt_of_le_of_lt (Nat.mul_le_mul_left _ (Nat.pow_le_pow_right (by decide) (by omega))) r2
   obtain ⟨q1, q2⟩ := raise_step i1 i2 i3 hjn
   refine iT (vc_skip (seq_n (vc_seq (vc_block (vc_seqr rfl (iQ 2 (iC 76 [.agg [Hw l, Lw l], Uv 10] (some 34) (cw_MulWord (n := 10) i3 (by decide)) ?_)))))))
   rintro _ rfl
   refine iQ 6 (iE 87 [(1, Ia low), (2, .p 2 0), (4, .p 4 0), (5, .p 5 0), (6, .d (Uv (((l * 10 / B128 : Nat) : Int)))), (7, .p 7 0), (22, Ba false), (28, Ia z28), (29, Ia c), (30, Ba true)] [(2, [Bv s, Hw A, Lw A, Iv e]), (4, [Bv false, Uv 0, Uv 0, Uv 0, Uv 0, Iv 0, Bv false]), (5, [Bv s, Hw h, Lw h, Hw l, Lw l, Iv low, Bv false]), (7, [Hw (l * 10 % B128), Lw (l * 10 % B128)])] ?_)
   refine vc_seqr rfl (iQ 2 (iC 76 [.agg [Hw h, Lw h], Uv 10] (some 40) (cw_MulWord (n := 10) i2 (by decide)) ?_))
   rintro _ rfl
   refine iQ 6 (iE 87 [(1, Ia low), (2, .p 2 0), (4, .p 4 0), (5, .p 5 0), (6, .d (Uv (((l * 10 / B128 : Nat) : Int)))), (7, .p 7 0), (9, .p 9 0), (22, Ba false), (28, Ia z28), (29, Ia c), (30, Ba true)] [(2, [Bv s, Hw A, Lw A, Iv e]), (4, [Bv false, Uv 0, Uv 0, Uv 0, Uv 0, Iv 0, Bv false]), (5, [Bv s, Hw h, Lw h, Hw l, Lw l, Iv low, Bv false]), (7, [Hw (l * 10 % B128), Lw (l * 10 % B128)]), (9, [Hw (h * 10 % B128), Lw (h * 10 % B128)])] ?_)
   refine vc_seqr rfl (iQ 2 (iC 42 [Uv (((l * 10 / B128 : Nat) : Int))] (some 46) (cw_OfN q2) ?_))
   rintro _ rfl
   refine iC 78 [.agg [Hw (h * 10 % B128), Lw (h * 10 % B128)], .agg [Hw (l * 10 / B128), Lw (l * 10 / B128)]] (some 47) (cw_Add (mod_lt128 (h * 10)) (Nat.lt_trans q2 (by decide))) ?_
   rintro _ rfl
   refine iQ 5 (iE 87 [(1, Ia low), (2, .p 2 0), (4, .p 4 0), (5, .p 5 0), (6, .d (Uv (((l * 10 / B128 : Nat) : Int)))), (7, .p 7 0), (9, .p 9 0), (22, Ba false), (28, Ia z28), (29, Ia c), (30, Ba true)] [(2, [Bv s, Hw A, Lw A, Iv e]), (4, [Bv false, Uv 0, Uv 0, Uv 0, Uv 0, Iv 0, Bv false]), (5, [Bv s, Hw ((h * 10 % B128 + l * 10 / B128) % B128), Lw ((h * 10 % B128 + l * 10 / B128) % B128), Hw l, Lw l, Iv low, Bv false]), (7, [Hw (l * 10 % B128), Lw (l * 10 % B128)]), (9, [Hw (h * 10 % B128), Lw (h * 10 % B128)])] ?_)
   refine vc_reg rfl (iQ 3 (iE 87 [(1, Ia low), (2, .p 2 0), (4, .p 4 0), (5, .p 5 0), (6, .d (Uv (((l * 10 / B128 : Nat) : Int)))), (7, .p 7 0), (9, .p 9 0), (22, Ba false), (28, Ia z28), (29, Ia c), (30, Ba true)] [(2, [Bv s, Hw A, Lw A, Iv e]), (4, [Bv false, Uv 0, Uv 0, Uv 0, Uv 0, Iv 0, Bv false]), (5, [Bv s, Hw ((h * 10 % B128 + l * 10 / B128) % B128), Lw ((h * 10 % B128 + l * 10 / B128) % B128), Hw (l * 10 % B128), Lw (l * 10 % B128), Iv low, Bv false]), (7, [Hw (l * 10 % B128), Lw (l * 10 % B128)]), (9, [Hw (h * 10 % B128), Lw (h * 10 % B128)])] ?_))
   refine block_n (seq_n (vc_reg rfl (iB .add 3 (.int .i64 c) (.int .i64 1) (some 53) ?_)))
   intro z53 hz53
   try replace hz53 := hz53.i64 (by omega)
   refine iQ 1 (iE 87 [(1, Ia low), (2, .p 2 0), (4, .p 4 0), (5, .p 5 0), (6, .d (Uv (((l * 10 / B128 : Nat) : Int)))), (7, .p 7 0), (9, .p 9 0), (22, Ba false), (28, Ia z28), (29, Ia z53), (30, Ba true)] [(2, [Bv s, Hw A, Lw A, Iv e]), (4, [Bv false, Uv 0, Uv 0, Uv 0, Uv 0, Iv 0, Bv false]), (5, [Bv s, Hw ((h * 10 % B128 + l * 10 / B128) % B128), Lw ((h * 10 % B128 + l * 10 / B128) % B128), Hw (l * 10 % B128), Lw (l * 10 % B128), Iv low, Bv false]), (7, [Hw (l * 10 % B128), Lw (l * 10 % B128)]), (9, [Hw (h * 10 % B128), Lw (h * 10 % B128)])] ?_)
   refine loop_n (i + 1, (h * 10 % B128 + l * 10 / B128) % B128, l * 10 % B128, z53) (⟨by rw [q1, Nat.pow_succ, Nat.mul_assoc], mod_lt128 _, mod_lt128 _, by omega, by omega⟩) (by show (e - low).toNat - (i + 1) < (e - low).toNat - i; omega) (by kernel_rfl) (by kernel_rfl)
 ·replace hz := bt hz
  refine iT (vc_seqr rfl (iQ 2 (iE 87 [(1, Ia low), (2, .p 2 0), (4, .p 4 0), (5, .p 5 0), (22, Ba true)] [(2, [Bv s, Hw A, Lw A, Iv e]), (4, [Bv s, Uv 0, Uv 0, Hw A, Lw A, Iv low, Bv false]), (5, [Bv s, Uv 0, Uv 0, Hw A, Lw A, Iv low, Bv false])] ?_)))
  refine vc_ret (seq_r (iR (.agg [Bv s, Uv 0, Uv 0, Hw A, Lw A, Iv low, Bv false]) ?_))
  rw [hz, (at_0 e low).1, (at_0 e low).2]; rfl



open Go.RowKit
set_option linter.unusedVariables false
set_option linter.unusedSimpArgs false
set_option maxRecDepth 100000

theorem AddPre.low {A B : Nat} {e1 e2 low : Int} (p : AddPre A B e1 e2 low) (h1 : -10000000000000000 ≤ e1) (h2 : -10000000000000000 ≤ e2) : -10000000000000100 ≤ low := by
  by_cases h : A = 0
  · have := p.z h
    omega
  · have := p.nz h
    omega
theorem c_atI {s M : Bool} {A X : Nat} {e low : Int} (hX : atN A e low = X) (hM : atM A e low = M) (hA : A < E34) (hr : A ≠ 0 → e - low ≤ 70 ∧ A * 10 ^ (e - low).toNat < B128 * B128) (h1 : -100000000000000000 ≤ e) (h2 : e ≤ 100000000000000000) (h3 : -100000000000000000 ≤ low) (h4 : low ≤ 100000000000000000) :
    HasC Tryz.prog 64 [dDec s A e, .v (.int .i64 low)] (fun y => y = dWide s (X / B128) (X % B128) low M) := by
  subst hX hM
  exact c_at2 hA hr h1 h2 h3 h4
theorem cw_AddN {X Y : Nat} (hX : X < 10 ^ 70) (hY : Y < 10 ^ 70) : HasC Tryz.prog 65 [dU (X / B128), dU (X % B128), dU (Y / B128), dU (Y % B128)] (fun y => y = .tup [dU ((X + Y) / B128), dU ((X + Y) % B128), .v (.int .u64 0)]) := by
  have e := cw_Add2 (a := X / B128) (c := X % B128) (b := Y / B128) (d := Y % B128) (Nat.div_lt_of_lt_mul (Nat.lt_trans hX (by decide))) (mod_lt128 _) (Nat.div_lt_of_lt_mul (Nat.lt_trans hY (by decide))) (mod_lt128 _)
  have hs : X + Y < B128 * B128 := Nat.lt_of_lt_of_le (Nat.add_lt_add hX hY) (by decide)
  rw [Nat.div_add_mod', Nat.div_add_mod', Nat.mod_eq_of_lt (Nat.div_lt_of_lt_mul hs), Nat.div_eq_of_lt hs] at e
  exact e
theorem cw_CmpN {X Y : Nat} (hX : X < 10 ^ 70) (hY : Y < 10 ^ 70) : HasC Tryz.prog 50 [dU (X / B128), dU (X % B128), dU (Y / B128), dU (Y % B128)] (fun y => y = .v (.int .i64 (cmpN X Y))) := by
  have e := cw_Cmp2 (a := X / B128) (c := X % B128) (b := Y / B128) (d := Y % B128) (Nat.div_lt_of_lt_mul (Nat.lt_trans hX (by decide))) (mod_lt128 _) (Nat.div_lt_of_lt_mul (Nat.lt_trans hY (by decide))) (mod_lt128 _)
  rw [Nat.div_add_mod', Nat.div_add_mod'] at e
  exact e
theorem cw_SubN {X Y : Nat} (hX : X < 10 ^ 70) (hY : Y ≤ X) : HasC Tryz.prog 66 [dU (X / B128), dU (X % B128), dU (Y / B128), dU (Y % B128)] (fun y => y = .tup [dU ((X - Y) / B128), dU ((X - Y) % B128), .v (.int .u64 0)]) := by
  have hXB : X < B128 * B128 := Nat.lt_trans hX (by decide)
  have e := cw_Sub2 (a := X / B128) (c := X % B128) (b := Y / B128) (d := Y % B128) (Nat.div_lt_of_lt_mul hXB) (mod_lt128 _) (Nat.div_lt_of_lt_mul (Nat.lt_of_le_of_lt hY hXB)) (mod_lt128 _)
  have hs : X - Y < B128 * B128 := Nat.lt_of_le_of_lt (Nat.sub_le _ _) hXB
  have e1 : (X + B128 * B128 - Y) / B128 % B128 = (X - Y) / B128 ∧ (X + B128 * B128 - Y) % B128 = (X - Y) % B128 := by
    have e2 : X + B128 * B128 - Y = (X - Y) + B128 * B128 := by omega
    rw [e2]
    refine ⟨?_, Nat.add_mul_mod_self_right _ _ _⟩
    rw [Nat.add_mul_div_right _ _ (by decide), Nat.add_mod_right, Nat.mod_eq_of_lt (Nat.div_lt_of_lt_mul hs)]
  have e3 : lackN X Y = 0 := by unfold lackN; rw [if_neg (by omega)]
  rw [Nat.div_add_mod', Nat.div_add_mod', e1.1, e1.2, e3] at e
  exact e
theorem cw_Sub1 {X : Nat} (hX : X < 10 ^ 70) (h1 : 1 ≤ X) : HasC Tryz.prog 66 [dU (X / B128), dU (X % B128), .agg [.v (.int .u64 0), .v (.int .u64 0)], .agg [.v (.int .u64 0), .v (.int .u64 1)]] (fun y => y = .tup [dU ((X - 1) / B128), dU ((X - 1) % B128), .v (.int .u64 0)]) := by
  have e := cw_SubN hX h1
  rw [show 1 / B128 = 0 by decide, show 1 % B128 = 1 by decide] at e
  rw [← dU_0', ← dU_1']
  exact e

theorem c_higherX {g1 g2 : Bool} {A B : Nat} {e1 e2 : Int} (hA : A < B128) (hB : B < B128) (h1 : -100000000000000000 ≤ e1) (h2 : e1 ≤ 100000000000000000) (h3 : -100000000000000000 ≤ e2) (h4 : e2 ≤ 100000000000000000) :
    HasC Tryz.prog 63 [dDec g1 A e1, dDec g2 B e2] (fun y => ∃ b, y = .v (.bool b) ∧ (b = true ↔ A ≠ 0 ∧ (B = 0 ∨ e2 + nd B < e1 + nd A))) := c_higher hA hB h1 h2 h3 h4

theorem at_room {b : Nat} {x low : Int} (hb : b < E34) (h : atN b x low < 10 ^ 70) : b * 10 ^ (x - low).toNat < B128 * B128 := by
  rcases Int.le_total low x with k | k
  · rw [← (at_up k).1]
    exact Nat.lt_trans h (by decide)
  · rw [show (x - low).toNat = 0 by omega, Nat.pow_zero, Nat.mul_one]
    exact Nat.lt_trans hb (by decide)
theorem hi_no {A B : Nat} {e1 e2 : Int} (h : ¬ (B ≠ 0 ∧ (A = 0 ∨ e1 + nd A < e2 + nd B))) : B = 0 ∨ (A ≠ 0 ∧ e2 + nd B ≤ e1 + nd A) := by
  by_cases hB : B = 0
  · exact .inl hB
  · exact .inr ⟨fun k => h ⟨hB, .inl k⟩, Int.not_lt.1 fun k => h ⟨hB, .inr k⟩⟩
theorem hi_yes {A B : Nat} {e1 e2 : Int} (h : B ≠ 0 ∧ (A = 0 ∨ e1 + nd A < e2 + nd B)) : A = 0 ∨ (B ≠ 0 ∧ e1 + nd A ≤ e2 + nd B) := by
  rcases h.2 with k | k
  · exact .inl k
  · exact .inr ⟨h.1, by omega⟩

set_option maxHeartbeats 3200000 in
theorem c_decAdd {s1 s2 : Bool} {A B : Nat} {e1 e2 : Int} (hA : A < E34) (hB : B < E34) (h1 : -10000000000000000 ≤ e1) (h2 : e1 ≤ 10000000000000000) (h3 : -10000000000000000 ≤ e2) (h4 : e2 ≤ 10000000000000000) : HasC Tryz.prog 30 [.agg [.v (.bool s1), .v (.int .u64 (hiW (A))), .v (.int .u64 (loW (A))), .v (.int .i64 e1)], .agg [.v (.bool s2), .v (.int .u64 (hiW (B))), .v (.int .u64 (loW (B))), .v (.int .i64 e2)]] (fun y => y = dFit (addT s1 A e1 s2 B e2)) := by
 refine HasC.of [] (fn := Tryz.f30) tyOk mixed (fun args w => Tryz.call30 args w) Tryz.func30 rfl (by kernel_rfl) (Nat.le_of_ble_eq_true rfl) (⟨_, rfl⟩) ?_
 have hAB := Nat.lt_trans hA e34_lt; have hBB := Nat.lt_trans hB e34_lt
 refine vc_seqr rfl (iQ 4 (iE 122 [(2, .p 2 0), (3, .p 3 0), (4, .p 4 0), (5, Ba false)] [(2, [Bv s1, Hw A, Lw A, Iv e1]), (3, [Bv s2, Hw B, Lw B, Iv e2]), (4, [Bv false, Uv 0, Uv 0, Iv 0])] ?_))
 refine vc_mid 122 (fun (vcx : Bool × Bool × Nat × Nat × Int × Int × Bool) => match vcx with | (t1, t2, a, b, x1, x2, vb11) => [(2, .p 2 0), (3, .p 3 0), (4, .p 4 0), (5, Ba false), (11, Ba vb11)]) (fun (vcx : Bool × Bool × Nat × Nat × Int × Int × Bool) => match vcx with | (t1, t2, a, b, x1, x2, vb11) => [(2, [Bv t1, Hw a, Lw a, Iv x1]), (3, [Bv t2, Hw b, Lw b, Iv x2]), (4, [Bv false, Uv 0, Uv 0, Iv 0])]) (fun (vcx : Bool × Bool × Nat × Nat × Int × Int × Bool) => match vcx with | (t1, t2, a, b, x1, x2, vb11) => a < E34 ∧ b < E34 ∧ (b = 0 ∨ (a ≠ 0 ∧ x2 + nd b ≤ x1 + nd a)) ∧ (-10000000000000000 ≤ x1 ∧ x1 ≤ 10000000000000000 ∧ -10000000000000000 ≤ x2 ∧ x2 ≤ 10000000000000000) ∧ addT s1 A e1 s2 B e2 = addT t1 a x1 t2 b x2) ?_ ?_
 ·rintro ⟨t1, t2, a, b, x1, x2, vb11⟩ hinv
  simp only at hinv
  obtain ⟨ha, hb, hhi, ⟨b1, b2, b3, b4⟩, hadd⟩ := hinv
  rw [hadd]
  have haB := Nat.lt_trans ha e34_lt; have hbB := Nat.lt_trans hb e34_lt
  have hna := nd_le 34 a ha; have hnb := nd_le 34 b hb
  refine vc_seqr rfl (iQ 4 (iL .min [3, 3] [.int .i64 x1, .int .i64 x2] (some 18) ?_))
  intro z18 hz18
  simp only at hz18
  refine iQ 1 (iE 122 [(2, .p 2 0), (3, .p 3 0), (4, .p 4 0), (5, Ba false), (6, Ia z18), (11, Ba vb11)] [(2, [Bv t1, Hw a, Lw a, Iv x1]), (3, [Bv t2, Hw b, Lw b, Iv x2]), (4, [Bv false, Uv 0, Uv 0, Iv 0])] ?_)
  refine vc_mid 122 (fun (vcx : Int × Bool) => match vcx with | (low, vb21) => [(2, .p 2 0), (3, .p 3 0), (4, .p 4 0), (5, Ba false), (6, Ia low), (11, Ba vb11), (21, Ba vb21)]) (fun (vcx : Int × Bool) => match vcx with | (low, vb21) => [(2, [Bv t1, Hw a, Lw a, Iv x1]), (3, [Bv t2, Hw b, Lw b, Iv x2]), (4, [Bv false, Uv 0, Uv 0, Iv 0])]) (fun (vcx : Int × Bool) => match vcx with | (low, vb21) => AddPre a b x1 x2 low) ?_ ?_
  ·rintro ⟨low, vb21⟩ hinv
   simp only at hinv
   have hp := hinv
   have hle := hp.le
   have hlow : -10000000000000100 ≤ low := hp.low b1 b3
   obtain ⟨f1, f2, f3⟩ := hp.fst
   obtain ⟨g1, g2⟩ := hp.snd
   have hlaw := add_law hp t1 t2
   obtain ⟨X, hX⟩ : ∃ X, atN a x1 low = X := ⟨_, rfl⟩
   obtain ⟨Y, hY⟩ : ∃ Y, atN b x2 low = Y := ⟨_, rfl⟩
   obtain ⟨M, hM⟩ : ∃ M, atM b x2 low = M := ⟨_, rfl⟩
   have r1 : a ≠ 0 → x1 - low ≤ 70 ∧ a * 10 ^ (x1 - low).toNat < B128 * B128 := fun h => ⟨by have := f3 h; omega, by rw [← (at_up hle).1]; exact Nat.lt_trans f1 (by decide)⟩
   have r2 : b ≠ 0 → x2 - low ≤ 70 ∧ b * 10 ^ (x2 - low).toNat < B128 * B128 := fun h => ⟨by have := g2 h; omega, at_room hb g1⟩
   rw [hX] at f1
   rw [hY] at g1
   rw [hX, hY, hM] at hlaw
   obtain ⟨law1, law2, law3, law4⟩ := hlaw
   refine vc_seqr rfl (iQ 2 (iC 64 [.agg [Bv t1, Hw a, Lw a, Iv x1], Iv low] (some 29) (c_atI hX f2 ha r1 (by omega) (by omega) (by omega) (by omega)) ?_))
   rintro _ rfl
   refine iQ 2 (iC 64 [.agg [Bv t2, Hw b, Lw b, Iv x2], Iv low] (some 32) (c_atI hY hM hb r2 (by omega) (by omega) (by omega) (by omega)) ?_)
   rintro _ rfl
   refine iQ 4 (iE 122 [(2, .p 2 0), (3, .p 3 0), (4, .p 4 0), (5, Ba false), (6, Ia low), (7, .p 7 0), (8, .p 8 0), (11, Ba vb11), (21, Ba vb21)] [(2, [Bv t1, Hw a, Lw a, Iv x1]), (3, [Bv t2, Hw b, Lw b, Iv x2]), (4, [Bv false, Uv 0, Uv 0, Iv 0]), (7, [Bv t1, Hw (X / B128), Lw (X / B128), Hw (X % B128), Lw (X % B128), Iv low, Bv false]), (8, [Bv t2, Hw (Y / B128), Lw (Y / B128), Hw (Y % B128), Lw (Y % B128), Iv low, Bv M])] ?_)
   refine vc_seq (vc_seqr rfl (iQ 4 (iB .eql 4 (.bool t1) (.bool t2) (some 37) ?_)))
   intro c37 hc37
   refine iQ 1 ?_
   cases c37
   ·replace hc37 := bf hc37
    refine iQ 2 ?_
    have hD : t1 ≠ t2 := hc37
    refine iC 40 [.agg [Hw (Y % B128), Lw (Y % B128)]] (some 41) (cw_Zero (mod_lt128 Y)) ?_
    rintro _ ⟨zl, rfl, hzl⟩
    refine iQ 1 ?_
    cases zl
    ·replace hzl := bf hzl
     refine iQ 10 (iE 122 [(2, .p 2 0), (3, .p 3 0), (4, .p 4 0), (5, Ba false), (6, Ia low), (7, .p 7 0), (8, .p 8 0), (11, Ba vb11), (21, Ba vb21), (52, Ba false)] [(2, [Bv t1, Hw a, Lw a, Iv x1]), (3, [Bv t2, Hw b, Lw b, Iv x2]), (4, [Bv false, Uv 0, Uv 0, Iv 0]), (7, [Bv t1, Hw (X / B128), Lw (X / B128), Hw (X % B128), Lw (X % B128), Iv low, Bv false]), (8, [Bv t2, Hw (Y / B128), Lw (Y / B128), Hw (Y % B128), Lw (Y % B128), Iv low, Bv M])] ?_)
     refine iF (vc_skip (seq_n ?_))
     refine vc_mid 122 (fun (vcx : Bool × Nat × Nat × Bool × Bool × Bool × Bool) => match vcx with | (u, P, Q, mx, mo, v, vb84) => [(2, .p 2 0), (3, .p 3 0), (4, .p 4 0), (5, Ba false), (6, Ia low), (7, .p 7 0), (8, .p 8 0), (11, Ba vb11), (21, Ba vb21), (52, Ba false), (84, Ba vb84)]) (fun (vcx : Bool × Nat × Nat × Bool × Bool × Bool × Bool) => match vcx with | (u, P, Q, mx, mo, v, vb84) => [(2, [Bv t1, Hw a, Lw a, Iv x1]), (3, [Bv t2, Hw b, Lw b, Iv x2]), (4, [Bv false, Uv 0, Uv 0, Iv 0]), (7, [Bv u, Hw (P / B128), Lw (P / B128), Hw (P % B128), Lw (P % B128), Iv low, Bv mx]), (8, [Bv v, Hw (Q / B128), Lw (Q / B128), Hw (Q % B128), Lw (Q % B128), Iv low, Bv mo])]) (fun (vcx : Bool × Nat × Nat × Bool × Bool × Bool × Bool) => match vcx with | (u, P, Q, mx, mo, v, vb84) => mx = false ∧ Q ≤ P ∧ P < 10 ^ 70 ∧ (mo = false → fitT 1 u (P - Q) low false = addT t1 a x1 t2 b x2) ∧ (mo = true → 1 ≤ P - Q ∧ fitT 1 u (P - Q - 1) low true = addT t1 a x1 t2 b x2)) ?_ ?_
     ·rintro ⟨u, P, Q, mx, mo, v, vb84⟩ hinv
      simp only at hinv
      obtain ⟨hmx, hQP, hP, w1, w2⟩ := hinv
      have hPQ : P - Q < 10 ^ 70 := Nat.lt_of_le_of_lt (Nat.sub_le _ _) hP
      refine vc_seqr rfl (iQ 8 (iC 66 [.agg [Hw (P / B128), Lw (P / B128)], .agg [Hw (P % B128), Lw (P % B128)], .agg [Hw (Q / B128), Lw (Q / B128)], .agg [Hw (Q % B128), Lw (Q % B128)]] (some 96) (cw_SubN hP hQP) ?_))
      rintro _ rfl
      refine iQ 8 (iE 122 [(2, .p 2 0), (3, .p 3 0), (4, .p 4 0), (5, Ba false), (6, Ia low), (7, .p 7 0), (8, .p 8 0), (11, Ba vb11), (21, Ba vb21), (52, Ba false), (84, Ba vb84)] [(2, [Bv t1, Hw a, Lw a, Iv x1]), (3, [Bv t2, Hw b, Lw b, Iv x2]), (4, [Bv false, Uv 0, Uv 0, Iv 0]), (7, [Bv u, Hw ((P - Q) / B128), Lw ((P - Q) / B128), Hw ((P - Q) % B128), Lw ((P - Q) % B128), Iv low, Bv mx]), (8, [Bv v, Hw (Q / B128), Lw (Q / B128), Hw (Q % B128), Lw (Q % B128), Iv low, Bv mo])] ?_)
      refine vc_seq (vc_seqr rfl (iQ 2 (iE 122 [(2, .p 2 0), (3, .p 3 0), (4, .p 4 0), (5, Ba false), (6, Ia low), (7, .p 7 0), (8, .p 8 0), (11, Ba vb11), (21, Ba vb21), (52, Ba false), (84, Ba vb84), (103, Ba mo)] [(2, [Bv t1, Hw a, Lw a, Iv x1]), (3, [Bv t2, Hw b, Lw b, Iv x2]), (4, [Bv false, Uv 0, Uv 0, Iv 0]), (7, [Bv u, Hw ((P - Q) / B128), Lw ((P - Q) / B128), Hw ((P - Q) % B128), Lw ((P - Q) % B128), Iv low, Bv mx]), (8, [Bv v, Hw (Q / B128), Lw (Q / B128), Hw (Q % B128), Lw (Q % B128), Iv low, Bv mo])] ?_)))
      cases mo
      ·skip
       refine iF (vc_skip (seq_n (vc_seqr rfl (iQ 1 (iC 36 [.agg [Bv u, Hw ((P - Q) / B128), Lw ((P - Q) / B128), Hw ((P - Q) % B128), Lw ((P - Q) % B128), Iv low, Bv mx], Iv 1] (some 119) (c_FitT (m := 1) (N := P - Q) (Nat.div_add_mod' _ _).symm (Nat.div_lt_of_lt_mul (Nat.lt_trans hPQ (by decide))) (mod_lt128 _) (by omega) (by omega)) ?_)))))
       rintro _ ⟨g, k, x, ok, rfl, hT⟩
       refine iQ 4 (iE 122 [(2, .p 2 0), (3, .p 3 0), (4, .p 4 0), (5, Ba ok), (6, Ia low), (7, .p 7 0), (8, .p 8 0), (11, Ba vb11), (21, Ba vb21), (52, Ba false), (84, Ba vb84), (103, Ba false)] [(2, [Bv t1, Hw a, Lw a, Iv x1]), (3, [Bv t2, Hw b, Lw b, Iv x2]), (4, [Bv g, Hw k, Lw k, Iv x]), (7, [Bv u, Hw ((P - Q) / B128), Lw ((P - Q) / B128), Hw ((P - Q) % B128), Lw ((P - Q) % B128), Iv low, Bv mx]), (8, [Bv v, Hw (Q / B128), Lw (Q / B128), Hw (Q % B128), Lw (Q % B128), Iv low, Bv false])] ?_)
       refine vc_ret (iS (.agg [Bv g, Hw k, Lw k, Iv x]) (Bv ok) [] ?_)
       rw [hmx] at hT; rw [← w1 rfl, hT]; rfl
      ·skip
       obtain ⟨w3, w4⟩ := w2 rfl
       refine iT (vc_seqr rfl (iQ 5 (iC 42 [Uv 1] (some 110) (cw_Of 1) ?_)))
       rintro _ rfl
       refine iC 66 [.agg [Hw ((P - Q) / B128), Lw ((P - Q) / B128)], .agg [Hw ((P - Q) % B128), Lw ((P - Q) % B128)], .agg [Uv 0, Uv 0], .agg [Uv 0, Uv 1]] (some 111) (cw_Sub1 hPQ w3) ?_
       rintro _ rfl
       refine iQ 8 (iE 122 [(2, .p 2 0), (3, .p 3 0), (4, .p 4 0), (5, Ba false), (6, Ia low), (7, .p 7 0), (8, .p 8 0), (11, Ba vb11), (21, Ba vb21), (52, Ba false), (84, Ba vb84), (103, Ba true)] [(2, [Bv t1, Hw a, Lw a, Iv x1]), (3, [Bv t2, Hw b, Lw b, Iv x2]), (4, [Bv false, Uv 0, Uv 0, Iv 0]), (7, [Bv u, Hw ((P - Q - 1) / B128), Lw ((P - Q - 1) / B128), Hw ((P - Q - 1) % B128), Lw ((P - Q - 1) % B128), Iv low, Bv mx]), (8, [Bv v, Hw (Q / B128), Lw (Q / B128), Hw (Q % B128), Lw (Q % B128), Iv low, Bv true])] ?_)
       refine vc_reg rfl (iQ 2 (iE 122 [(2, .p 2 0), (3, .p 3 0), (4, .p 4 0), (5, Ba false), (6, Ia low), (7, .p 7 0), (8, .p 8 0), (11, Ba vb11), (21, Ba vb21), (52, Ba false), (84, Ba vb84), (103, Ba true)] [(2, [Bv t1, Hw a, Lw a, Iv x1]), (3, [Bv t2, Hw b, Lw b, Iv x2]), (4, [Bv false, Uv 0, Uv 0, Iv 0]), (7, [Bv u, Hw ((P - Q - 1) / B128), Lw ((P - Q - 1) / B128), Hw ((P - Q - 1) % B128), Lw ((P - Q - 1) % B128), Iv low, Bv true]), (8, [Bv v, Hw (Q / B128), Lw (Q / B128), Hw (Q % B128), Lw (Q % B128), Iv low, Bv true])] ?_))
       refine seq_n (vc_seqr rfl (iQ 1 (iC 36 [.agg [Bv u, Hw ((P - Q - 1) / B128), Lw ((P - Q - 1) / B128), Hw ((P - Q - 1) % B128), Lw ((P - Q - 1) % B128), Iv low, Bv true], Iv 1] (some 119) (c_FitT (m := 1) (N := P - Q - 1) (Nat.div_add_mod' _ _).symm (Nat.div_lt_of_lt_mul (Nat.lt_of_le_of_lt (Nat.sub_le _ _) (Nat.lt_trans hPQ (by decide)))) (mod_lt128 _) (by omega) (by omega)) ?_)))
       rintro _ ⟨g, k, x, ok, rfl, hT⟩
       refine iQ 4 (iE 122 [(2, .p 2 0), (3, .p 3 0), (4, .p 4 0), (5, Ba ok), (6, Ia low), (7, .p 7 0), (8, .p 8 0), (11, Ba vb11), (21, Ba vb21), (52, Ba false), (84, Ba vb84), (103, Ba true)] [(2, [Bv t1, Hw a, Lw a, Iv x1]), (3, [Bv t2, Hw b, Lw b, Iv x2]), (4, [Bv g, Hw k, Lw k, Iv x]), (7, [Bv u, Hw ((P - Q - 1) / B128), Lw ((P - Q - 1) / B128), Hw ((P - Q - 1) % B128), Lw ((P - Q - 1) % B128), Iv low, Bv true]), (8, [Bv v, Hw (Q / B128), Lw (Q / B128), Hw (Q % B128), Lw (Q % B128), Iv low, Bv true])] ?_)
       refine vc_ret (iS (.agg [Bv g, Hw k, Lw k, Iv x]) (Bv ok) [] ?_)
       rw [← w4, hT]; rfl
     intro hmid
     refine vc_seqr rfl (iQ 8 (iC 50 [.agg [Hw (X / B128), Lw (X / B128)], .agg [Hw (X % B128), Lw (X % B128)], .agg [Hw (Y / B128), Lw (Y / B128)], .agg [Hw (Y % B128), Lw (Y % B128)]] (some 83) (cw_CmpN f1 g1) ?_))
     rintro _ rfl
     refine iB .lss 3 (.int .i64 (cmpN X Y)) (.int .i64 0) (some 84) ?_
     intro c84 hc84
     refine iE 122 [(2, .p 2 0), (3, .p 3 0), (4, .p 4 0), (5, Ba false), (6, Ia low), (7, .p 7 0), (8, .p 8 0), (11, Ba vb11), (21, Ba vb21), (52, Ba false), (84, Ba c84)] [(2, [Bv t1, Hw a, Lw a, Iv x1]), (3, [Bv t2, Hw b, Lw b, Iv x2]), (4, [Bv false, Uv 0, Uv 0, Iv 0]), (7, [Bv t1, Hw (X / B128), Lw (X / B128), Hw (X % B128), Lw (X % B128), Iv low, Bv false]), (8, [Bv t2, Hw (Y / B128), Lw (Y / B128), Hw (Y % B128), Lw (Y % B128), Iv low, Bv M])] ?_
     cases c84
     ·replace hc84 := bf hc84
      have hle2 : Y ≤ X := by have := cN_lt (a := X) (b := Y); omega
      refine iF (vc_skip ?_)
      refine mid_n hmid (t1, X, Y, false, M, t2, false) (⟨rfl, hle2, f1, fun h => law2 hD h hle2, fun h => law4 hD h⟩) (by kernel_rfl)
     ·replace hc84 := bt hc84
      have hlt2 : X < Y := cN_lt.1 hc84
      obtain ⟨w5, w6⟩ := law3 hD hlt2
      refine iT (vc_reg rfl (iQ 4 (iE 122 [(2, .p 2 0), (3, .p 3 0), (4, .p 4 0), (5, Ba false), (6, Ia low), (7, .p 7 0), (8, .p 8 0), (11, Ba vb11), (21, Ba vb21), (52, Ba false), (84, Ba true)] [(2, [Bv t1, Hw a, Lw a, Iv x1]), (3, [Bv t2, Hw b, Lw b, Iv x2]), (4, [Bv false, Uv 0, Uv 0, Iv 0]), (7, [Bv t2, Hw (Y / B128), Lw (Y / B128), Hw (Y % B128), Lw (Y % B128), Iv low, Bv M]), (8, [Bv t1, Hw (X / B128), Lw (X / B128), Hw (X % B128), Lw (X % B128), Iv low, Bv false])] ?_)))
      refine mid_n hmid (t2, Y, X, M, false, t1, true) (⟨w5, Nat.le_of_lt hlt2, g1, fun _ => w6, fun h => by cases h⟩) (by kernel_rfl)
    ·replace hzl := bt hzl
     refine iQ 2 (iC 40 [.agg [Hw (Y / B128), Lw (Y / B128)]] (some 45) (cw_Zero (Nat.div_lt_of_lt_mul (Nat.lt_trans g1 (by decide)))) ?_)
     rintro _ ⟨zh, rfl, hzh⟩
     refine iQ 2 ?_
     cases zh
     ·replace hzh := bf hzh
      refine iQ 5 (iE 122 [(2, .p 2 0), (3, .p 3 0), (4, .p 4 0), (5, Ba false), (6, Ia low), (7, .p 7 0), (8, .p 8 0), (11, Ba vb11), (21, Ba vb21), (52, Ba false)] [(2, [Bv t1, Hw a, Lw a, Iv x1]), (3, [Bv t2, Hw b, Lw b, Iv x2]), (4, [Bv false, Uv 0, Uv 0, Iv 0]), (7, [Bv t1, Hw (X / B128), Lw (X / B128), Hw (X % B128), Lw (X % B128), Iv low, Bv false]), (8, [Bv t2, Hw (Y / B128), Lw (Y / B128), Hw (Y % B128), Lw (Y % B128), Iv low, Bv M])] ?_)
      refine iF (vc_skip (seq_n ?_))
      refine vc_mid 122 (fun (vcx : Bool × Nat × Nat × Bool × Bool × Bool × Bool) => match vcx with | (u, P, Q, mx, mo, v, vb84) => [(2, .p 2 0), (3, .p 3 0), (4, .p 4 0), (5, Ba false), (6, Ia low), (7, .p 7 0), (8, .p 8 0), (11, Ba vb11), (21, Ba vb21), (52, Ba false), (84, Ba vb84)]) (fun (vcx : Bool × Nat × Nat × Bool × Bool × Bool × Bool) => match vcx with | (u, P, Q, mx, mo, v, vb84) => [(2, [Bv t1, Hw a, Lw a, Iv x1]), (3, [Bv t2, Hw b, Lw b, Iv x2]), (4, [Bv false, Uv 0, Uv 0, Iv 0]), (7, [Bv u, Hw (P / B128), Lw (P / B128), Hw (P % B128), Lw (P % B128), Iv low, Bv mx]), (8, [Bv v, Hw (Q / B128), Lw (Q / B128), Hw (Q % B128), Lw (Q % B128), Iv low, Bv mo])]) (fun (vcx : Bool × Nat × Nat × Bool × Bool × Bool × Bool) => match vcx with | (u, P, Q, mx, mo, v, vb84) => mx = false ∧ Q ≤ P ∧ P < 10 ^ 70 ∧ (mo = false → fitT 1 u (P - Q) low false = addT t1 a x1 t2 b x2) ∧ (mo = true → 1 ≤ P - Q ∧ fitT 1 u (P - Q - 1) low true = addT t1 a x1 t2 b x2)) ?_ ?_
      ·rintro ⟨u, P, Q, mx, mo, v, vb84⟩ hinv
       simp only at hinv
       obtain ⟨hmx, hQP, hP, w1, w2⟩ := hinv
       have hPQ : P - Q < 10 ^ 70 := Nat.lt_of_le_of_lt (Nat.sub_le _ _) hP
       refine vc_seqr rfl (iQ 8 (iC 66 [.agg [Hw (P / B128), Lw (P / B128)], .agg [Hw (P % B128), Lw (P % B128)], .agg [Hw (Q / B128), Lw (Q / B128)], .agg [Hw (Q % B128), Lw (Q % B128)]] (some 96) (cw_SubN hP hQP) ?_))
       rintro _ rfl
       refine iQ 8 (iE 122 [(2, .p 2 0), (3, .p 3 0), (4, .p 4 0), (5, Ba false), (6, Ia low), (7, .p 7 0), (8, .p 8 0), (11, Ba vb11), (21, Ba vb21), (52, Ba false), (84, Ba vb84)] [(2, [Bv t1, Hw a, Lw a, Iv x1]), (3, [Bv t2, Hw b, Lw b, Iv x2]), (4, [Bv false, Uv 0, Uv 0, Iv 0]), (7, [Bv u, Hw ((P - Q) / B128), Lw ((P - Q) / B128), Hw ((P - Q) % B128), Lw ((P - Q) % B128), Iv low, Bv mx]), (8, [Bv v, Hw (Q / B128), Lw (Q / B128), Hw (Q % B128), Lw (Q % B128), Iv low, Bv mo])] ?_)
       refine vc_seq (vc_seqr rfl (iQ 2 (iE 122 [(2, .p 2 0), (3, .p 3 0), (4, .p 4 0), (5, Ba false), (6, Ia low), (7, .p 7 0), (8, .p 8 0), (11, Ba vb11), (21, Ba vb21), (52, Ba false), (84, Ba vb84), (103, Ba mo)] [(2, [Bv t1, Hw a, Lw a, Iv x1]), (3, [Bv t2, Hw b, Lw b, Iv x2]), (4, [Bv false, Uv 0, Uv 0, Iv 0]), (7, [Bv u, Hw ((P - Q) / B128), Lw ((P - Q) / B128), Hw ((P - Q) % B128), Lw ((P - Q) % B128), Iv low, Bv mx]), (8, [Bv v, Hw (Q / B128), Lw (Q / B128), Hw (Q % B128), Lw (Q % B128), Iv low, Bv mo])] ?_)))
       cases mo
       ·skip
        refine iF (vc_skip (seq_n (vc_seqr rfl (iQ 1 (iC 36 [.agg [Bv u, Hw ((P - Q) / B128), Lw ((P - Q) / B128), Hw ((P - Q) % B128), Lw ((P - Q) % B128), Iv low, Bv mx], Iv 1] (some 119) (c_FitT (m := 1) (N := P - Q) (Nat.div_add_mod' _ _).symm (Nat.div_lt_of_lt_mul (Nat.lt_trans hPQ (by decide))) (mod_lt128 _) (by omega) (by omega)) ?_)))))
        rintro _ ⟨g, k, x, ok, rfl, hT⟩
        refine iQ 4 (iE 122 [(2, .p 2 0), (3, .p 3 0), (4, .p 4 0), (5, Ba ok), (6, Ia low), (7, .p 7 0), (8, .p 8 0), (11, Ba vb11), (21, Ba vb21), (52, Ba false), (84, Ba vb84), (103, Ba false)] [(2, [Bv t1, Hw a, Lw a, Iv x1]), (3, [Bv t2, Hw b, Lw b, Iv x2]), (4, [Bv g, Hw k, Lw k, Iv x]), (7, [Bv u, Hw ((P - Q) / B128), Lw ((P - Q) / B128), Hw ((P - Q) % B128), Lw ((P - Q) % B128), Iv low, Bv mx]), (8, [Bv v, Hw (Q / B128), Lw (Q / B128), Hw (Q % B128), Lw (Q % B128), Iv low, Bv false])] ?_)
        refine vc_ret (iS (.agg [Bv g, Hw k, Lw k, Iv x]) (Bv ok) [] ?_)
        rw [hmx] at hT; rw [← w1 rfl, hT]; rfl
       ·skip
        obtain ⟨w3, w4⟩ := w2 rfl
        refine iT (vc_seqr rfl (iQ 5 (iC 42 [Uv 1] (some 110) (cw_Of 1) ?_)))
        rintro _ rfl
        refine iC 66 [.agg [Hw ((P - Q) / B128), Lw ((P - Q) / B128)], .agg [Hw ((P - Q) % B128), Lw ((P - Q) % B128)], .agg [Uv 0, Uv 0], .agg [Uv 0, Uv 1]] (some 111) (cw_Sub1 hPQ w3) ?_
        rintro _ rfl
        refine iQ 8 (iE 122 [(2, .p 2 0), (3, .p 3 0), (4, .p 4 0), (5, Ba false), (6, Ia low), (7, .p 7 0), (8, .p 8 0), (11, Ba vb11), (21, Ba vb21), (52, Ba false), (84, Ba vb84), (103, Ba true)] [(2, [Bv t1, Hw a, Lw a, Iv x1]), (3, [Bv t2, Hw b, Lw b, Iv x2]), (4, [Bv false, Uv 0, Uv 0, Iv 0]), (7, [Bv u, Hw ((P - Q - 1) / B128), Lw ((P - Q - 1) / B128), Hw ((P - Q - 1) % B128), Lw ((P - Q - 1) % B128), Iv low, Bv mx]), (8, [Bv v, Hw (Q / B128), Lw (Q / B128), Hw (Q % B128), Lw (Q % B128), Iv low, Bv true])] ?_)
        refine vc_reg rfl (iQ 2 (iE 122 [(2, .p 2 0), (3, .p 3 0), (4, .p 4 0), (5, Ba false), (6, Ia low), (7, .p 7 0), (8, .p 8 0), (11, Ba vb11), (21, Ba vb21), (52, Ba false), (84, Ba vb84), (103, Ba true)] [(2, [Bv t1, Hw a, Lw a, Iv x1]), (3, [Bv t2, Hw b, Lw b, Iv x2]), (4, [Bv false, Uv 0, Uv 0, Iv 0]), (7, [Bv u, Hw ((P - Q - 1) / B128), Lw ((P - Q - 1) / B128), Hw ((P - Q - 1) % B128), Lw ((P - Q - 1) % B128), Iv low, Bv true]), (8, [Bv v, Hw (Q / B128), Lw (Q / B128), Hw (Q % B128), Lw (Q % B128), Iv low, Bv true])] ?_))
        refine seq_n (vc_seqr rfl (iQ 1 (iC 36 [.agg [Bv u, Hw ((P - Q - 1) / B128), Lw ((P - Q - 1) / B128), Hw ((P - Q - 1) % B128), Lw ((P - Q - 1) % B128), Iv low, Bv true], Iv 1] (some 119) (c_FitT (m := 1) (N := P - Q - 1) (Nat.div_add_mod' _ _).symm (Nat.div_lt_of_lt_mul (Nat.lt_of_le_of_lt (Nat.sub_le _ _) (Nat.lt_trans hPQ (by decide)))) (mod_lt128 _) (by omega) (by omega)) ?_)))
        rintro _ ⟨g, k, x, ok, rfl, hT⟩
        refine iQ 4 (iE 122 [(2, .p 2 0), (3, .p 3 0), (4, .p 4 0), (5, Ba ok), (6, Ia low), (7, .p 7 0), (8, .p 8 0), (11, Ba vb11), (21, Ba vb21), (52, Ba false), (84, Ba vb84), (103, Ba true)] [(2, [Bv t1, Hw a, Lw a, Iv x1]), (3, [Bv t2, Hw b, Lw b, Iv x2]), (4, [Bv g, Hw k, Lw k, Iv x]), (7, [Bv u, Hw ((P - Q - 1) / B128), Lw ((P - Q - 1) / B128), Hw ((P - Q - 1) % B128), Lw ((P - Q - 1) % B128), Iv low, Bv true]), (8, [Bv v, Hw (Q / B128), Lw (Q / B128), Hw (Q % B128), Lw (Q % B128), Iv low, Bv true])] ?_)
        refine vc_ret (iS (.agg [Bv g, Hw k, Lw k, Iv x]) (Bv ok) [] ?_)
        rw [← w4, hT]; rfl
      intro hmid
      refine vc_seqr rfl (iQ 8 (iC 50 [.agg [Hw (X / B128), Lw (X / B128)], .agg [Hw (X % B128), Lw (X % B128)], .agg [Hw (Y / B128), Lw (Y / B128)], .agg [Hw (Y % B128), Lw (Y % B128)]] (some 83) (cw_CmpN f1 g1) ?_))
      rintro _ rfl
      refine iB .lss 3 (.int .i64 (cmpN X Y)) (.int .i64 0) (some 84) ?_
      intro c84 hc84
      refine iE 122 [(2, .p 2 0), (3, .p 3 0), (4, .p 4 0), (5, Ba false), (6, Ia low), (7, .p 7 0), (8, .p 8 0), (11, Ba vb11), (21, Ba vb21), (52, Ba false), (84, Ba c84)] [(2, [Bv t1, Hw a, Lw a, Iv x1]), (3, [Bv t2, Hw b, Lw b, Iv x2]), (4, [Bv false, Uv 0, Uv 0, Iv 0]), (7, [Bv t1, Hw (X / B128), Lw (X / B128), Hw (X % B128), Lw (X % B128), Iv low, Bv false]), (8, [Bv t2, Hw (Y / B128), Lw (Y / B128), Hw (Y % B128), Lw (Y % B128), Iv low, Bv M])] ?_
      cases c84
      ·replace hc84 := bf hc84
       have hle2 : Y ≤ X := by have := cN_lt (a := X) (b := Y); omega
       refine iF (vc_skip ?_)
       refine mid_n hmid (t1, X, Y, false, M, t2, false) (⟨rfl, hle2, f1, fun h => law2 hD h hle2, fun h => law4 hD h⟩) (by kernel_rfl)
      ·replace hc84 := bt hc84
       have hlt2 : X < Y := cN_lt.1 hc84
       obtain ⟨w5, w6⟩ := law3 hD hlt2
       refine iT (vc_reg rfl (iQ 4 (iE 122 [(2, .p 2 0), (3, .p 3 0), (4, .p 4 0), (5, Ba false), (6, Ia low), (7, .p 7 0), (8, .p 8 0), (11, Ba vb11), (21, Ba vb21), (52, Ba false), (84, Ba true)] [(2, [Bv t1, Hw a, Lw a, Iv x1]), (3, [Bv t2, Hw b, Lw b, Iv x2]), (4, [Bv false, Uv 0, Uv 0, Iv 0]), (7, [Bv t2, Hw (Y / B128), Lw (Y / B128), Hw (Y % B128), Lw (Y % B128), Iv low, Bv M]), (8, [Bv t1, Hw (X / B128), Lw (X / B128), Hw (X % B128), Lw (X % B128), Iv low, Bv false])] ?_)))
       refine mid_n hmid (t2, Y, X, M, false, t1, true) (⟨w5, Nat.le_of_lt hlt2, g1, fun _ => w6, fun h => by cases h⟩) (by kernel_rfl)
     ·replace hzh := bt hzh
      refine iQ 2 (iU .not (.bool M) (some 50) ?_)
      intro c50 hc50
      refine iQ 2 (iE 122 [(2, .p 2 0), (3, .p 3 0), (4, .p 4 0), (5, Ba false), (6, Ia low), (7, .p 7 0), (8, .p 8 0), (11, Ba vb11), (21, Ba vb21), (52, Ba c50)] [(2, [Bv t1, Hw a, Lw a, Iv x1]), (3, [Bv t2, Hw b, Lw b, Iv x2]), (4, [Bv false, Uv 0, Uv 0, Iv 0]), (7, [Bv t1, Hw (X / B128), Lw (X / B128), Hw (X % B128), Lw (X % B128), Iv low, Bv false]), (8, [Bv t2, Hw (Y / B128), Lw (Y / B128), Hw (Y % B128), Lw (Y % B128), Iv low, Bv M])] ?_)
      cases c50
      ·replace hc50 := bf hc50
       refine iF (vc_skip (seq_n ?_))
       refine vc_mid 122 (fun (vcx : Bool × Nat × Nat × Bool × Bool × Bool × Bool) => match vcx with | (u, P, Q, mx, mo, v, vb84) => [(2, .p 2 0), (3, .p 3 0), (4, .p 4 0), (5, Ba false), (6, Ia low), (7, .p 7 0), (8, .p 8 0), (11, Ba vb11), (21, Ba vb21), (52, Ba false), (84, Ba vb84)]) (fun (vcx : Bool × Nat × Nat × Bool × Bool × Bool × Bool) => match vcx with | (u, P, Q, mx, mo, v, vb84) => [(2, [Bv t1, Hw a, Lw a, Iv x1]), (3, [Bv t2, Hw b, Lw b, Iv x2]), (4, [Bv false, Uv 0, Uv 0, Iv 0]), (7, [Bv u, Hw (P / B128), Lw (P / B128), Hw (P % B128), Lw (P % B128), Iv low, Bv mx]), (8, [Bv v, Hw (Q / B128), Lw (Q / B128), Hw (Q % B128), Lw (Q % B128), Iv low, Bv mo])]) (fun (vcx : Bool × Nat × Nat × Bool × Bool × Bool × Bool) => match vcx with | (u, P, Q, mx, mo, v, vb84) => mx = false ∧ Q ≤ P ∧ P < 10 ^ 70 ∧ (mo = false → fitT 1 u (P - Q) low false = addT t1 a x1 t2 b x2) ∧ (mo = true → 1 ≤ P - Q ∧ fitT 1 u (P - Q - 1) low true = addT t1 a x1 t2 b x2)) ?_ ?_
       ·rintro ⟨u, P, Q, mx, mo, v, vb84⟩ hinv
        simp only at hinv
        obtain ⟨hmx, hQP, hP, w1, w2⟩ := hinv
        have hPQ : P - Q < 10 ^ 70 := Nat.lt_of_le_of_lt (Nat.sub_le _ _) hP
        refine vc_seqr rfl (iQ 8 (iC 66 [.agg [Hw (P / B128), Lw (P / B128)], .agg [Hw (P % B128), Lw (P % B128)], .agg [Hw (Q / B128), Lw (Q / B128)], .agg [Hw (Q % B128), Lw (Q % B128)]] (some 96) (cw_SubN hP hQP) ?_))
        rintro _ rfl
        refine iQ 8 (iE 122 [(2, .p 2 0), (3, .p 3 0), (4, .p 4 0), (5, Ba false), (6, Ia low), (7, .p 7 0), (8, .p 8 0), (11, Ba vb11), (21, Ba vb21), (52, Ba false), (84, Ba vb84)] [(2, [Bv t1, Hw a, Lw a, Iv x1]), (3, [Bv t2, Hw b, Lw b, Iv x2]), (4, [Bv false, Uv 0, Uv 0, Iv 0]), (7, [Bv u, Hw ((P - Q) / B128), Lw ((P - Q) / B128), Hw ((P - Q) % B128), Lw ((P - Q) % B128), Iv low, Bv mx]), (8, [Bv v, Hw (Q / B128), Lw (Q / B128), Hw (Q % B128), Lw (Q % B128), Iv low, Bv mo])] ?_)
        refine vc_seq (vc_seqr rfl (iQ 2 (iE 122 [(2, .p 2 0), (3, .p 3 0), (4, .p 4 0), (5, Ba false), (6, Ia low), (7, .p 7 0), (8, .p 8 0), (11, Ba vb11), (21, Ba vb21), (52, Ba false), (84, Ba vb84), (103, Ba mo)] [(2, [Bv t1, Hw a, Lw a, Iv x1]), (3, [Bv t2, Hw b, Lw b, Iv x2]), (4, [Bv false, Uv 0, Uv 0, Iv 0]), (7, [Bv u, Hw ((P - Q) / B128), Lw ((P - Q) / B128), Hw ((P - Q) % B128), Lw ((P - Q) % B128), Iv low, Bv mx]), (8, [Bv v, Hw (Q / B128), Lw (Q / B128), Hw (Q % B128), Lw (Q % B128), Iv low, Bv mo])] ?_)))
        cases mo
        ·skip
         refine iF (vc_skip (seq_n (vc_seqr rfl (iQ 1 (iC 36 [.agg [Bv u, Hw ((P - Q) / B128), Lw ((P - Q) / B128), Hw ((P - Q) % B128), Lw ((P - Q) % B128), Iv low, Bv mx], Iv 1] (some 119) (c_FitT (m := 1) (N := P - Q) (Nat.div_add_mod' _ _).symm (Nat.div_lt_of_lt_mul (Nat.lt_trans hPQ (by decide))) (mod_lt128 _) (by omega) (by omega)) ?_)))))
         rintro _ ⟨g, k, x, ok, rfl, hT⟩
         refine iQ 4 (iE 122 [(2, .p 2 0), (3, .p 3 0), (4, .p 4 0), (5, Ba ok), (6, Ia low), (7, .p 7 0), (8, .p 8 0), (11, Ba vb11), (21, Ba vb21), (52, Ba false), (84, Ba vb84), (103, Ba false)] [(2, [Bv t1, Hw a, Lw a, Iv x1]), (3, [Bv t2, Hw b, Lw b, Iv x2]), (4, [Bv g, Hw k, Lw k, Iv x]), (7, [Bv u, Hw ((P - Q) / B128), Lw ((P - Q) / B128), Hw ((P - Q) % B128), Lw ((P - Q) % B128), Iv low, Bv mx]), (8, [Bv v, Hw (Q / B128), Lw (Q / B128), Hw (Q % B128), Lw (Q % B128), Iv low, Bv false])] ?_)
         refine vc_ret (iS (.agg [Bv g, Hw k, Lw k, Iv x]) (Bv ok) [] ?_)
         rw [hmx] at hT; rw [← w1 rfl, hT]; rfl
        ·skip
         obtain ⟨w3, w4⟩ := w2 rfl
         refine iT (vc_seqr rfl (iQ 5 (iC 42 [Uv 1] (some 110) (cw_Of 1) ?_)))
         rintro _ rfl
         refine iC 66 [.agg [Hw ((P - Q) / B128), Lw ((P - Q) / B128)], .agg [Hw ((P - Q) % B128), Lw ((P - Q) % B128)], .agg [Uv 0, Uv 0], .agg [Uv 0, Uv 1]] (some 111) (cw_Sub1 hPQ w3) ?_
         rintro _ rfl
         refine iQ 8 (iE 122 [(2, .p 2 0), (3, .p 3 0), (4, .p 4 0), (5, Ba false), (6, Ia low), (7, .p 7 0), (8, .p 8 0), (11, Ba vb11), (21, Ba vb21), (52, Ba false), (84, Ba vb84), (103, Ba true)] [(2, [Bv t1, Hw a, Lw a, Iv x1]), (3, [Bv t2, Hw b, Lw b, Iv x2]), (4, [Bv false, Uv 0, Uv 0, Iv 0]), (7, [Bv u, Hw ((P - Q - 1) / B128), Lw ((P - Q - 1) / B128), Hw ((P - Q - 1) % B128), Lw ((P - Q - 1) % B128), Iv low, Bv mx]), (8, [Bv v, Hw (Q / B128), Lw (Q / B128), Hw (Q % B128), Lw (Q % B128), Iv low, Bv true])] ?_)
         refine vc_reg rfl (iQ 2 (iE 122 [(2, .p 2 0), (3, .p 3 0), (4, .p 4 0), (5, Ba false), (6, Ia low), (7, .p 7 0), (8, .p 8 0), (11, Ba vb11), (21, Ba vb21), (52, Ba false), (84, Ba vb84), (103, Ba true)] [(2, [Bv t1, Hw a, Lw a, Iv x1]), (3, [Bv t2, Hw b, Lw b, Iv x2]), (4, [Bv false, Uv 0, Uv 0, Iv 0]), (7, [Bv u, Hw ((P - Q - 1) / B128), Lw ((P - Q - 1) / B128), Hw ((P - Q - 1) % B128), Lw ((P - Q - 1) % B128), Iv low, Bv true]), (8, [Bv v, Hw (Q / B128), Lw (Q / B128), Hw (Q % B128), Lw (Q % B128), Iv low, Bv true])] ?_))
         refine seq_n (vc_seqr rfl (iQ 1 (iC 36 [.agg [Bv u, Hw ((P - Q - 1) / B128), Lw ((P - Q - 1) / B128), Hw ((P - Q - 1) % B128), Lw ((P - Q - 1) % B128), Iv low, Bv true], Iv 1] (some 119) (c_FitT (m := 1) (N := P - Q - 1) (Nat.div_add_mod' _ _).symm (Nat.div_lt_of_lt_mul (Nat.lt_of_le_of_lt (Nat.sub_le _ _) (Nat.lt_trans hPQ (by decide)))) (mod_lt128 _) (by omega) (by omega)) ?_)))
         rintro _ ⟨g, k, x, ok, rfl, hT⟩
         refine iQ 4 (iE 122 [(2, .p 2 0), (3, .p 3 0), (4, .p 4 0), (5, Ba ok), (6, Ia low), (7, .p 7 0), (8, .p 8 0), (11, Ba vb11), (21, Ba vb21), (52, Ba false), (84, Ba vb84), (103, Ba true)] [(2, [Bv t1, Hw a, Lw a, Iv x1]), (3, [Bv t2, Hw b, Lw b, Iv x2]), (4, [Bv g, Hw k, Lw k, Iv x]), (7, [Bv u, Hw ((P - Q - 1) / B128), Lw ((P - Q - 1) / B128), Hw ((P - Q - 1) % B128), Lw ((P - Q - 1) % B128), Iv low, Bv true]), (8, [Bv v, Hw (Q / B128), Lw (Q / B128), Hw (Q % B128), Lw (Q % B128), Iv low, Bv true])] ?_)
         refine vc_ret (iS (.agg [Bv g, Hw k, Lw k, Iv x]) (Bv ok) [] ?_)
         rw [← w4, hT]; rfl
       intro hmid
       refine vc_seqr rfl (iQ 8 (iC 50 [.agg [Hw (X / B128), Lw (X / B128)], .agg [Hw (X % B128), Lw (X % B128)], .agg [Hw (Y / B128), Lw (Y / B128)], .agg [Hw (Y % B128), Lw (Y % B128)]] (some 83) (cw_CmpN f1 g1) ?_))
       rintro _ rfl
       refine iB .lss 3 (.int .i64 (cmpN X Y)) (.int .i64 0) (some 84) ?_
       intro c84 hc84
       refine iE 122 [(2, .p 2 0), (3, .p 3 0), (4, .p 4 0), (5, Ba false), (6, Ia low), (7, .p 7 0), (8, .p 8 0), (11, Ba vb11), (21, Ba vb21), (52, Ba false), (84, Ba c84)] [(2, [Bv t1, Hw a, Lw a, Iv x1]), (3, [Bv t2, Hw b, Lw b, Iv x2]), (4, [Bv false, Uv 0, Uv 0, Iv 0]), (7, [Bv t1, Hw (X / B128), Lw (X / B128), Hw (X % B128), Lw (X % B128), Iv low, Bv false]), (8, [Bv t2, Hw (Y / B128), Lw (Y / B128), Hw (Y % B128), Lw (Y % B128), Iv low, Bv M])] ?_
       cases c84
       ·replace hc84 := bf hc84
        have hle2 : Y ≤ X := by have := cN_lt (a := X) (b := Y); omega
        refine iF (vc_skip ?_)
        refine mid_n hmid (t1, X, Y, false, M, t2, false) (⟨rfl, hle2, f1, fun h => law2 hD h hle2, fun h => law4 hD h⟩) (by kernel_rfl)
       ·replace hc84 := bt hc84
        have hlt2 : X < Y := cN_lt.1 hc84
        obtain ⟨w5, w6⟩ := law3 hD hlt2
        refine iT (vc_reg rfl (iQ 4 (iE 122 [(2, .p 2 0), (3, .p 3 0), (4, .p 4 0), (5, Ba false), (6, Ia low), (7, .p 7 0), (8, .p 8 0), (11, Ba vb11), (21, Ba vb21), (52, Ba false), (84, Ba true)] [(2, [Bv t1, Hw a, Lw a, Iv x1]), (3, [Bv t2, Hw b, Lw b, Iv x2]), (4, [Bv false, Uv 0, Uv 0, Iv 0]), (7, [Bv t2, Hw (Y / B128), Lw (Y / B128), Hw (Y % B128), Lw (Y % B128), Iv low, Bv M]), (8, [Bv t1, Hw (X / B128), Lw (X / B128), Hw (X % B128), Lw (X % B128), Iv low, Bv false])] ?_)))
        refine mid_n hmid (t2, Y, X, M, false, t1, true) (⟨w5, Nat.le_of_lt hlt2, g1, fun _ => w6, fun h => by cases h⟩) (by kernel_rfl)
      ·replace hc50 := bt hc50
       have hS : t1 = t2 ∨ (Y = 0 ∧ M = false) := .inr ⟨by have := Nat.div_add_mod' Y B128; rw [hzl, hzh] at this; omega, hc50⟩
       refine iT (vc_seqr rfl (iQ 8 (iC 65 [.agg [Hw (X / B128), Lw (X / B128)], .agg [Hw (X % B128), Lw (X % B128)], .agg [Hw (Y / B128), Lw (Y / B128)], .agg [Hw (Y % B128), Lw (Y % B128)]] (some 62) (cw_AddN f1 g1) ?_)))
       rintro _ rfl
       refine iQ 8 (iE 122 [(2, .p 2 0), (3, .p 3 0), (4, .p 4 0), (5, Ba false), (6, Ia low), (7, .p 7 0), (8, .p 8 0), (11, Ba vb11), (21, Ba vb21), (52, Ba true)] [(2, [Bv t1, Hw a, Lw a, Iv x1]), (3, [Bv t2, Hw b, Lw b, Iv x2]), (4, [Bv false, Uv 0, Uv 0, Iv 0]), (7, [Bv t1, Hw ((X + Y) / B128), Lw ((X + Y) / B128), Hw ((X + Y) % B128), Lw ((X + Y) % B128), Iv low, Bv false]), (8, [Bv t2, Hw (Y / B128), Lw (Y / B128), Hw (Y % B128), Lw (Y % B128), Iv low, Bv M])] ?_)
       refine vc_seqr rfl (iQ 4 (iE 122 [(2, .p 2 0), (3, .p 3 0), (4, .p 4 0), (5, Ba false), (6, Ia low), (7, .p 7 0), (8, .p 8 0), (11, Ba vb11), (21, Ba vb21), (52, Ba true)] [(2, [Bv t1, Hw a, Lw a, Iv x1]), (3, [Bv t2, Hw b, Lw b, Iv x2]), (4, [Bv false, Uv 0, Uv 0, Iv 0]), (7, [Bv t1, Hw ((X + Y) / B128), Lw ((X + Y) / B128), Hw ((X + Y) % B128), Lw ((X + Y) % B128), Iv low, Bv M]), (8, [Bv t2, Hw (Y / B128), Lw (Y / B128), Hw (Y % B128), Lw (Y % B128), Iv low, Bv M])] ?_))
       refine vc_seqr rfl (iQ 1 (iC 36 [.agg [Bv t1, Hw ((X + Y) / B128), Lw ((X + Y) / B128), Hw ((X + Y) % B128), Lw ((X + Y) % B128), Iv low, Bv M], Iv 1] (some 72) (c_FitT (m := 1) (N := X + Y) (Nat.div_add_mod' _ _).symm (Nat.div_lt_of_lt_mul (Nat.lt_of_lt_of_le (Nat.add_lt_add f1 g1) (by decide))) (mod_lt128 _) (by omega) (by omega)) ?_))
       rintro _ ⟨g, k, x, ok, rfl, hT⟩
       refine iQ 4 (iE 122 [(2, .p 2 0), (3, .p 3 0), (4, .p 4 0), (5, Ba ok), (6, Ia low), (7, .p 7 0), (8, .p 8 0), (11, Ba vb11), (21, Ba vb21), (52, Ba true)] [(2, [Bv t1, Hw a, Lw a, Iv x1]), (3, [Bv t2, Hw b, Lw b, Iv x2]), (4, [Bv g, Hw k, Lw k, Iv x]), (7, [Bv t1, Hw ((X + Y) / B128), Lw ((X + Y) / B128), Hw ((X + Y) % B128), Lw ((X + Y) % B128), Iv low, Bv M]), (8, [Bv t2, Hw (Y / B128), Lw (Y / B128), Hw (Y % B128), Lw (Y % B128), Iv low, Bv M])] ?_)
       refine vc_ret (seq_r (iS (.agg [Bv g, Hw k, Lw k, Iv x]) (Bv ok) [] ?_))
       rw [← law1 hS, hT]; rfl
   ·replace hc37 := bt hc37
    refine iQ 14 (iE 122 [(2, .p 2 0), (3, .p 3 0), (4, .p 4 0), (5, Ba false), (6, Ia low), (7, .p 7 0), (8, .p 8 0), (11, Ba vb11), (21, Ba vb21), (52, Ba true)] [(2, [Bv t1, Hw a, Lw a, Iv x1]), (3, [Bv t2, Hw b, Lw b, Iv x2]), (4, [Bv false, Uv 0, Uv 0, Iv 0]), (7, [Bv t1, Hw (X / B128), Lw (X / B128), Hw (X % B128), Lw (X % B128), Iv low, Bv false]), (8, [Bv t2, Hw (Y / B128), Lw (Y / B128), Hw (Y % B128), Lw (Y % B128), Iv low, Bv M])] ?_)
    have hS : t1 = t2 ∨ (Y = 0 ∧ M = false) := .inl hc37
    refine iT (vc_seqr rfl (iQ 8 (iC 65 [.agg [Hw (X / B128), Lw (X / B128)], .agg [Hw (X % B128), Lw (X % B128)], .agg [Hw (Y / B128), Lw (Y / B128)], .agg [Hw (Y % B128), Lw (Y % B128)]] (some 62) (cw_AddN f1 g1) ?_)))
    rintro _ rfl
    refine iQ 8 (iE 122 [(2, .p 2 0), (3, .p 3 0), (4, .p 4 0), (5, Ba false), (6, Ia low), (7, .p 7 0), (8, .p 8 0), (11, Ba vb11), (21, Ba vb21), (52, Ba true)] [(2, [Bv t1, Hw a, Lw a, Iv x1]), (3, [Bv t2, Hw b, Lw b, Iv x2]), (4, [Bv false, Uv 0, Uv 0, Iv 0]), (7, [Bv t1, Hw ((X + Y) / B128), Lw ((X + Y) / B128), Hw ((X + Y) % B128), Lw ((X + Y) % B128), Iv low, Bv false]), (8, [Bv t2, Hw (Y / B128), Lw (Y / B128), Hw (Y % B128), Lw (Y % B128), Iv low, Bv M])] ?_)
    refine vc_seqr rfl (iQ 4 (iE 122 [(2, .p 2 0), (3, .p 3 0), (4, .p 4 0), (5, Ba false), (6, Ia low), (7, .p 7 0), (8, .p 8 0), (11, Ba vb11), (21, Ba vb21), (52, Ba true)] [(2, [Bv t1, Hw a, Lw a, Iv x1]), (3, [Bv t2, Hw b, Lw b, Iv x2]), (4, [Bv false, Uv 0, Uv 0, Iv 0]), (7, [Bv t1, Hw ((X + Y) / B128), Lw ((X + Y) / B128), Hw ((X + Y) % B128), Lw ((X + Y) % B128), Iv low, Bv M]), (8, [Bv t2, Hw (Y / B128), Lw (Y / B128), Hw (Y % B128), Lw (Y % B128), Iv low, Bv M])] ?_))
    refine vc_seqr rfl (iQ 1 (iC 36 [.agg [Bv t1, Hw ((X + Y) / B128), Lw ((X + Y) / B128), Hw ((X + Y) % B128), Lw ((X + Y) % B128), Iv low, Bv M], Iv 1] (some 72) (c_FitT (m := 1) (N := X + Y) (Nat.div_add_mod' _ _).symm (Nat.div_lt_of_lt_mul (Nat.lt_of_lt_of_le (Nat.add_lt_add f1 g1) (by decide))) (mod_lt128 _) (by omega) (by omega)) ?_))
    rintro _ ⟨g, k, x, ok, rfl, hT⟩
    refine iQ 4 (iE 122 [(2, .p 2 0), (3, .p 3 0), (4, .p 4 0), (5, Ba ok), (6, Ia low), (7, .p 7 0), (8, .p 8 0), (11, Ba vb11), (21, Ba vb21), (52, Ba true)] [(2, [Bv t1, Hw a, Lw a, Iv x1]), (3, [Bv t2, Hw b, Lw b, Iv x2]), (4, [Bv g, Hw k, Lw k, Iv x]), (7, [Bv t1, Hw ((X + Y) / B128), Lw ((X + Y) / B128), Hw ((X + Y) % B128), Lw ((X + Y) % B128), Iv low, Bv M]), (8, [Bv t2, Hw (Y / B128), Lw (Y / B128), Hw (Y % B128), Lw (Y % B128), Iv low, Bv M])] ?_)
    refine vc_ret (seq_r (iS (.agg [Bv g, Hw k, Lw k, Iv x]) (Bv ok) [] ?_))
    rw [← law1 hS, hT]; rfl
  intro hmid
  refine vc_seqr rfl (iQ 1 (iC 33 [.agg [Bv t1, Hw a, Lw a, Iv x1]] (some 20) (c_Zero haB) ?_))
  rintro _ ⟨za, rfl, hza⟩
  refine iU .not (.bool za) (some 21) ?_
  intro c21 hc21
  refine iE 122 [(2, .p 2 0), (3, .p 3 0), (4, .p 4 0), (5, Ba false), (6, Ia z18), (11, Ba vb11), (21, Ba c21)] [(2, [Bv t1, Hw a, Lw a, Iv x1]), (3, [Bv t2, Hw b, Lw b, Iv x2]), (4, [Bv false, Uv 0, Uv 0, Iv 0])] ?_
  cases c21
  ·replace hc21 := bf hc21
   have ha0 : a = 0 := hza.1 (by simpa using hc21)
   refine iF (vc_skip ?_)
   refine mid_n hmid (z18, false) (⟨ha, hb, hhi, fun _ => by omega, fun h => absurd ha0 h⟩) (by kernel_rfl)
  ·replace hc21 := bt hc21
   have ha0 : a ≠ 0 := fun h => by rw [hza.2 h] at hc21; cases hc21
   refine iT (vc_reg rfl (iQ 2 (iC 48 [.agg [Bv t1, Hw a, Lw a, Iv x1]] (some 24) (c_size haB (by omega) (by omega)) ?_)))
   rintro _ rfl
   refine iB .sub 3 (.int .i64 (x1 + (nd a : Int))) (.int .i64 70) (some 25) ?_
   intro z25 hz25
   try replace hz25 := hz25.i64 (by omega)
   refine iL .max [3, 3] [.int .i64 z18, .int .i64 z25] (some 26) ?_
   intro z26 hz26
   simp only at hz26
   refine iQ 1 (iE 122 [(2, .p 2 0), (3, .p 3 0), (4, .p 4 0), (5, Ba false), (6, Ia z26), (11, Ba vb11), (21, Ba true)] [(2, [Bv t1, Hw a, Lw a, Iv x1]), (3, [Bv t2, Hw b, Lw b, Iv x2]), (4, [Bv false, Uv 0, Uv 0, Iv 0])] ?_)
   refine mid_n hmid (z26, true) (⟨ha, hb, hhi, fun h => absurd h ha0, fun _ => by omega⟩) (by kernel_rfl)
 intro hmid
 refine vc_seqr rfl (iQ 2 (iC 63 [.agg [Bv s2, Hw B, Lw B, Iv e2], .agg [Bv s1, Hw A, Lw A, Iv e1]] (some 11) (c_higherX hBB hAB (by omega) (by omega) (by omega) (by omega)) ?_))
 rintro _ ⟨hg, rfl, hhg⟩
 refine iE 122 [(2, .p 2 0), (3, .p 3 0), (4, .p 4 0), (5, Ba false), (11, Ba hg)] [(2, [Bv s1, Hw A, Lw A, Iv e1]), (3, [Bv s2, Hw B, Lw B, Iv e2]), (4, [Bv false, Uv 0, Uv 0, Iv 0])] ?_
 cases hg
 ·replace hhg := bf hhg
  refine iF (vc_skip ?_)
  refine mid_n hmid (s1, s2, A, B, e1, e2, false) (⟨hA, hB, hi_no hhg, ⟨h1, h2, h3, h4⟩, rfl⟩) (by kernel_rfl)
 ·replace hhg := bt hhg
  refine iT (vc_reg rfl (iQ 4 (iE 122 [(2, .p 2 0), (3, .p 3 0), (4, .p 4 0), (5, Ba false), (11, Ba true)] [(2, [Bv s2, Hw B, Lw B, Iv e2]), (3, [Bv s1, Hw A, Lw A, Iv e1]), (4, [Bv false, Uv 0, Uv 0, Iv 0])] ?_)))
  refine mid_n hmid (s2, s1, B, A, e2, e1, true) (⟨hB, hA, hi_yes hhg, ⟨h3, h4, h1, h2⟩, addT_comm _ _ _ _ _ _⟩) (by kernel_rfl)

theorem c_decSub {s1 s2 : Bool} {A B : Nat} {e1 e2 : Int} (hA : A < E34) (hB : B < E34) (h1 : -10000000000000000 ≤ e1) (h2 : e1 ≤ 10000000000000000) (h3 : -10000000000000000 ≤ e2) (h4 : e2 ≤ 10000000000000000) : HasC Tryz.prog 31 [.agg [.v (.bool s1), .v (.int .u64 (hiW (A))), .v (.int .u64 (loW (A))), .v (.int .i64 e1)], .agg [.v (.bool s2), .v (.int .u64 (hiW (B))), .v (.int .u64 (loW (B))), .v (.int .i64 e2)]] (fun y => y = dFit (addT s1 A e1 (!s2 && decide (B ≠ 0)) B e2)) := by
 refine HasC.of [] (fn := Tryz.f31) tyOk mixed (fun args w => Tryz.call31 args w) Tryz.func31 rfl (by kernel_rfl) (Nat.le_of_ble_eq_true rfl) (⟨_, rfl⟩) ?_
 refine vc_seqr rfl (iQ 4 (iE 12 [(2, .p 2 0), (3, .p 3 0), (4, .p 4 0), (5, Ba false)] [(2, [Bv s1, Hw A, Lw A, Iv e1]), (3, [Bv s2, Hw B, Lw B, Iv e2]), (4, [Bv false, Uv 0, Uv 0, Iv 0])] ?_))
 refine vc_seqr rfl (iQ 2 (iC 67 [.agg [Bv s2, Hw B, Lw B, Iv e2]] (some 8) (c_Neg (Nat.lt_trans hB e34_lt)) ?_))
 rintro _ rfl
 refine iC 30 [.agg [Bv s1, Hw A, Lw A, Iv e1], .agg [Bv ((!s2 && decide (B ≠ 0))), Hw B, Lw B, Iv e2]] (some 9) (dfit_ex (c_decAdd hA hB h1 h2 h3 h4)) ?_
 rintro _ ⟨g, k, x, ok, rfl, hT⟩
 refine iQ 4 (iE 12 [(4, .p 4 0), (5, Ba ok)] [(4, [Bv g, Hw k, Lw k, Iv x])] ?_)
 refine vc_ret (iS (.agg [Bv g, Hw k, Lw k, Iv x]) (Bv ok) [] ?_)
 rw [hT]; rfl

theorem c_cmpInt {x y : Int} : HasC Tryz.prog 47 [.v (.int .i64 x), .v (.int .i64 y)] (fun r => r = .v (.int .i64 (cmpI x y))) := by
 refine HasC.of [] (fn := Tryz.f47) tyOk mixed (fun args w => Tryz.call47 args w) Tryz.func47 rfl (by kernel_rfl) (Nat.le_of_ble_eq_true rfl) (⟨_, rfl⟩) ?_
 refine vc_seqr rfl (iQ 1 (iE 13 [(0, Ia x), (1, Ia y), (4, Ia 0)] [] ?_))
 refine vc_seq (vc_block (vc_seqr rfl (iQ 2 (iB .lss 3 (.int .i64 x) (.int .i64 y) (some 8) ?_))))
 intro c8 hc8
 refine iQ 1 (iE 13 [(0, Ia x), (1, Ia y), (4, Ia 0), (5, Ba c8)] [] ?_)
 cases c8
 ·replace hc8 := bf hc8
  refine iF (vc_seqr rfl (iQ 2 (iB .gtr 3 (.int .i64 x) (.int .i64 y) (some 12) ?_)))
  intro c12 hc12
  refine iQ 1 (iE 13 [(0, Ia x), (1, Ia y), (4, Ia 0), (5, Ba false), (9, Ba c12)] [] ?_)
  cases c12
  ·replace hc12 := bf hc12
   refine iF (vc_skip (block_n (seq_n (vc_seqr rfl (iQ 1 (iE 13 [(0, Ia x), (1, Ia y), (4, Ia 0), (5, Ba false), (9, Ba false)] [] ?_))))))
   refine vc_ret (iR (Iv 0) ?_)
   rw [cmpI, if_neg hc8, if_pos (by omega)]
  ·replace hc12 := bt hc12
   refine iT (vc_seqr rfl (iQ 1 (iE 13 [(0, Ia x), (1, Ia y), (4, Ia 1), (5, Ba false), (9, Ba true)] [] ?_)))
   refine vc_ret (block_r (seq_r (iR (Iv 1) ?_)))
   rw [cmpI, if_neg hc8, if_neg (by omega)]
 ·replace hc8 := bt hc8
  refine iT (vc_seqr rfl (iQ 1 (iE 13 [(0, Ia x), (1, Ia y), (4, Ia (-1)), (5, Ba true)] [] ?_)))
  refine vc_ret (block_r (seq_r (iR (Iv (-1)) ?_)))
  rw [cmpI, if_pos hc8]

theorem c_wideOf {s : Bool} {A n : Nat} {e X : Int} (hX : X = (n : Int)) (hn : n ≤ 38) (hA : A < B128) (h1 : -100000000000000000 ≤ e) (h2 : e ≤ 100000000000000000) : HasC Tryz.prog 49 [.agg [.v (.bool s), .v (.int .u64 (hiW (A))), .v (.int .u64 (loW (A))), .v (.int .i64 e)], .v (.int .i64 X)] (fun y => y = dWide s (A * 10 ^ n / B128) (A * 10 ^ n % B128) (e - n) false) := by
 refine HasC.of [] (fn := Tryz.f49) tyOk mixed (fun args w => Tryz.call49 args w) Tryz.func49 rfl (by kernel_rfl) (Nat.le_of_ble_eq_true rfl) (⟨_, rfl⟩) ?_
 have hXn : X.toNat = n := by omega
 refine vc_seqr rfl (iQ 2 (iE 30 [(1, Ia X), (2, .p 2 0), (4, .p 4 0)] [(2, [Bv s, Hw A, Lw A, Iv e]), (4, [Bv false, Uv 0, Uv 0, Uv 0, Uv 0, Iv 0, Bv false])] ?_))
 refine vc_seqr rfl (iQ 1 (iC 77 [Iv X] (some 11) (cw_Ten (k := X) (by omega) (by omega)) ?_))
 rintro _ rfl
 have ht : 10 ^ X.toNat < B128 := Nat.lt_of_le_of_lt (Nat.pow_le_pow_right (by decide) (show X.toNat ≤ 38 by omega)) (by decide)
 refine iQ 6 (iE 30 [(1, Ia X), (2, .p 2 0), (4, .p 4 0), (5, .p 5 0)] [(2, [Bv s, Hw A, Lw A, Iv e]), (4, [Bv false, Uv 0, Uv 0, Uv 0, Uv 0, Iv 0, Bv false]), (5, [Hw (10 ^ X.toNat), Lw (10 ^ X.toNat)])] ?_)
 refine vc_seqr rfl (iQ 3 (iC 68 [.agg [Hw A, Lw A], .agg [Hw (10 ^ X.toNat), Lw (10 ^ X.toNat)]] (some 18) (cw_Mul hA ht) ?_))
 rintro _ rfl
 refine iQ 7 (iE 30 [(1, Ia X), (2, .p 2 0), (4, .p 4 0), (5, .p 5 0), (7, .p 7 0), (8, .p 8 0)] [(2, [Bv s, Hw A, Lw A, Iv e]), (4, [Bv false, Uv 0, Uv 0, Uv 0, Uv 0, Iv 0, Bv false]), (5, [Hw (10 ^ X.toNat), Lw (10 ^ X.toNat)]), (7, [Hw (A * 10 ^ X.toNat / B128), Lw (A * 10 ^ X.toNat / B128)]), (8, [Hw (A * 10 ^ X.toNat % B128), Lw (A * 10 ^ X.toNat % B128)])] ?_)
 refine vc_seqr rfl (iQ 7 (iB .sub 3 (.int .i64 e) (.int .i64 X) (some 28) ?_))
 intro z28 hz28
 try replace hz28 := hz28.i64 (by omega)
 refine iQ 2 (iE 30 [(1, Ia X), (2, .p 2 0), (4, .p 4 0), (5, .p 5 0), (7, .p 7 0), (8, .p 8 0)] [(2, [Bv s, Hw A, Lw A, Iv e]), (4, [Bv s, Hw (A * 10 ^ X.toNat / B128), Lw (A * 10 ^ X.toNat / B128), Hw (A * 10 ^ X.toNat % B128), Lw (A * 10 ^ X.toNat % B128), Iv z28, Bv false]), (5, [Hw (10 ^ X.toNat), Lw (10 ^ X.toNat)]), (7, [Hw (A * 10 ^ X.toNat / B128), Lw (A * 10 ^ X.toNat / B128)]), (8, [Hw (A * 10 ^ X.toNat % B128), Lw (A * 10 ^ X.toNat % B128)])] ?_)
 refine vc_ret (iR (.agg [Bv s, Hw (A * 10 ^ X.toNat / B128), Lw (A * 10 ^ X.toNat / B128), Hw (A * 10 ^ X.toNat % B128), Lw (A * 10 ^ X.toNat % B128), Iv z28, Bv false]) ?_)
 rw [hXn, show e - (n : Int) = z28 by omega]; rfl

theorem c_SignT {g : Bool} {a : Nat} {x : Int} (ha : a < B128) : HasC Tryz.prog 46 [dDec g a x] (fun y => y = .v (.int .i64 (sgnT g a))) := c_Sign ha
theorem sgn_same {s1 s2 : Bool} {A B : Nat} (hA : A ≠ 0) (h : sgnT s1 A = sgnT s2 B) : B ≠ 0 ∧ s1 = s2 := by
  unfold sgnT at h
  rw [if_neg hA] at h
  by_cases hB : B = 0
  · rw [if_pos hB] at h
    cases s1 <;> simp at h
  · rw [if_neg hB] at h
    refine ⟨hB, ?_⟩
    cases s1 <;> cases s2 <;> simp at h ⊢
theorem size_same {A B : Nat} {e1 e2 : Int} (hA : A < E34) (hB : B < E34) (hA0 : A ≠ 0) (hB0 : B ≠ 0) (h : cmpI (e1 + nd A) (e2 + nd B) = 0) : (e1 - min e1 e2).toNat ≤ 33 ∧ (e2 - min e1 e2).toNat ≤ 33 ∧ A * 10 ^ (e1 - min e1 e2).toNat < 10 ^ 70 ∧ B * 10 ^ (e2 - min e1 e2).toNat < 10 ^ 70 := by
  have h0 := cmpI_eq.1 h
  have h1 := nd_le 34 A hA
  have h2 := nd_le 34 B hB
  have h3 := nd_one_le hA0
  have h4 := nd_one_le hB0
  have key : ∀ {A x : Nat}, nd A ≤ 34 → x ≤ 33 → A * 10 ^ x < 10 ^ 70 := by
    intro A x h1 h2
    have h3 := Nat.mul_lt_mul_of_pos_right (lt_nd A) (show 0 < 10 ^ x from Nat.pow_pos (by decide))
    rw [← Nat.pow_add] at h3
    exact Nat.lt_of_lt_of_le h3 (Nat.pow_le_pow_right (by decide) (by omega))
  exact ⟨by omega, by omega, key h1 (by omega), key h2 (by omega)⟩

set_option maxHeartbeats 1600000 in
theorem c_decCmp {s1 s2 : Bool} {A B : Nat} {e1 e2 : Int} (hA : A < E34) (hB : B < E34) (h1 : -10000000000000000 ≤ e1) (h2 : e1 ≤ 10000000000000000) (h3 : -10000000000000000 ≤ e2) (h4 : e2 ≤ 10000000000000000) : HasC Tryz.prog 21 [.agg [.v (.bool s1), .v (.int .u64 (hiW (A))), .v (.int .u64 (loW (A))), .v (.int .i64 e1)], .agg [.v (.bool s2), .v (.int .u64 (hiW (B))), .v (.int .u64 (loW (B))), .v (.int .i64 e2)]] (fun y => y = .v (.int .i64 (cmpZ s1 A e1 s2 B e2))) := by
 refine HasC.of [] (fn := Tryz.f21) tyOk mixed (fun args w => Tryz.call21 args w) Tryz.func21 rfl (by kernel_rfl) (Nat.le_of_ble_eq_true rfl) (⟨_, rfl⟩) ?_
 have hAB := Nat.lt_trans hA e34_lt; have hBB := Nat.lt_trans hB e34_lt
 have hna := nd_le 34 A hA; have hnb := nd_le 34 B hB
 refine vc_seqr rfl (iQ 3 (iE 65 [(2, .p 2 0), (3, .p 3 0), (4, Ia 0)] [(2, [Bv s1, Hw A, Lw A, Iv e1]), (3, [Bv s2, Hw B, Lw B, Iv e2])] ?_))
 refine vc_seq (vc_seqr rfl (iQ 1 (iC 46 [.agg [Bv s1, Hw A, Lw A, Iv e1]] (some 11) (c_SignT hAB) ?_)))
 rintro _ rfl
 refine iQ 1 (iC 46 [.agg [Bv s2, Hw B, Lw B, Iv e2]] (some 13) (c_SignT hBB) ?_)
 rintro _ rfl
 refine iB .neq 3 (.int .i64 (sgnT s1 A)) (.int .i64 (sgnT s2 B)) (some 14) ?_
 intro c14 hc14
 refine iQ 1 ?_
 cases c14
 ·replace hc14 := bf hc14
  refine iQ 1 (iC 33 [.agg [Bv s1, Hw A, Lw A, Iv e1]] (some 17) (c_Zero hAB) ?_)
  rintro _ ⟨z, rfl, hz⟩
  refine iQ 1 (iE 65 [(2, .p 2 0), (3, .p 3 0), (4, Ia 0), (18, Ba z)] [(2, [Bv s1, Hw A, Lw A, Iv e1]), (3, [Bv s2, Hw B, Lw B, Iv e2])] ?_)
  cases z
  ·replace hz := bf hz
   have hss : sgnT s1 A = sgnT s2 B := Decidable.not_not.1 hc14
   obtain ⟨hB0, hs12⟩ := sgn_same hz hss
   refine iF (vc_skip (seq_n (vc_seqr rfl (iQ 1 (iC 48 [.agg [Bv s1, Hw A, Lw A, Iv e1]] (some 25) (c_size hAB (by omega) (by omega)) ?_)))))
   rintro _ rfl
   refine iQ 1 (iC 48 [.agg [Bv s2, Hw B, Lw B, Iv e2]] (some 27) (c_size hBB (by omega) (by omega)) ?_)
   rintro _ rfl
   refine iC 47 [Iv (e1 + (nd A : Int)), Iv (e2 + (nd B : Int))] (some 28) (c_cmpInt) ?_
   rintro _ rfl
   refine iQ 1 (iE 65 [(2, .p 2 0), (3, .p 3 0), (4, Ia 0), (5, Ia (cmpI (e1 + (nd A : Int)) (e2 + (nd B : Int)))), (18, Ba false)] [(2, [Bv s1, Hw A, Lw A, Iv e1]), (3, [Bv s2, Hw B, Lw B, Iv e2])] ?_)
   refine vc_mid 65 (fun (vcx : Int × Bool) => match vcx with | (c, vb30) => [(2, .p 2 0), (3, .p 3 0), (4, Ia 0), (5, Ia c), (18, Ba false), (30, Ba vb30)]) (fun (vcx : Int × Bool) => match vcx with | (c, vb30) => [(2, [Bv s1, Hw A, Lw A, Iv e1]), (3, [Bv s2, Hw B, Lw B, Iv e2])]) (fun (vcx : Int × Bool) => match vcx with | (c, vb30) => c = cmpN (A * 10 ^ (e1 - min e1 e2).toNat) (B * 10 ^ (e2 - min e1 e2).toNat)) ?_ ?_
   ·rintro ⟨c, vb30⟩ hinv
    simp only at hinv
    have hcr : -1 ≤ c ∧ c ≤ 1 := by rw [hinv, cmpN_I]; unfold cmpI; split <;> (try split) <;> omega
    have hcs := @cmp_same s1 A B e1 e2
    refine vc_seq (vc_seqr rfl (iQ 2 (iE 65 [(2, .p 2 0), (3, .p 3 0), (4, Ia 0), (5, Ia c), (18, Ba false), (30, Ba vb30), (61, Ba s1)] [(2, [Bv s1, Hw A, Lw A, Iv e1]), (3, [Bv s2, Hw B, Lw B, Iv e2])] ?_)))
    cases s1
    ·skip
     refine iF (vc_skip (seq_n (vc_seqr rfl (iQ 2 (iE 65 [(2, .p 2 0), (3, .p 3 0), (4, Ia c), (5, Ia c), (18, Ba false), (30, Ba vb30), (61, Ba false)] [(2, [Bv false, Hw A, Lw A, Iv e1]), (3, [Bv s2, Hw B, Lw B, Iv e2])] ?_)))))
     refine vc_ret (iR (Iv c) ?_)
     rw [← hs12, hcs, ← hinv]; rfl
    ·skip
     refine iT (vc_seqr rfl (iQ 1 (iU .neg (.int .i64 c) (some 63) ?_)))
     intro z63 hz63
     try replace hz63 := hz63.i64 (by omega)
     refine iQ 1 (iE 65 [(2, .p 2 0), (3, .p 3 0), (4, Ia z63), (5, Ia c), (18, Ba false), (30, Ba vb30), (61, Ba true)] [(2, [Bv true, Hw A, Lw A, Iv e1]), (3, [Bv s2, Hw B, Lw B, Iv e2])] ?_)
     refine vc_ret (seq_r (iR (Iv z63) ?_))
     rw [← hs12, hcs, ← hinv, if_pos rfl, hz63, Int.zero_sub]
   intro hmid
   refine vc_seqr rfl (iQ 1 (iB .eql 3 (.int .i64 (cmpI (e1 + (nd A : Int)) (e2 + (nd B : Int)))) (.int .i64 0) (some 30) ?_))
   intro c30 hc30
   refine iE 65 [(2, .p 2 0), (3, .p 3 0), (4, Ia 0), (5, Ia (cmpI (e1 + (nd A : Int)) (e2 + (nd B : Int)))), (18, Ba false), (30, Ba c30)] [(2, [Bv s1, Hw A, Lw A, Iv e1]), (3, [Bv s2, Hw B, Lw B, Iv e2])] ?_
   cases c30
   ·replace hc30 := bf hc30
    refine iF (vc_skip ?_)
    refine mid_n hmid (cmpI (e1 + (nd A : Int)) (e2 + (nd B : Int)), false) ((cmp_size hz hB0 (fun h => hc30 (cmpI_eq.2 h))).symm) (by kernel_rfl)
   ·replace hc30 := bt hc30
    obtain ⟨w1, w2, w3, w4⟩ := size_same hA hB hz hB0 hc30
    refine iT (vc_seqr rfl (iQ 4 (iB .sub 3 (.int .i64 e1) (.int .i64 e2) (some 35) ?_)))
    intro z35 hz35
    try replace hz35 := hz35.i64 (by omega)
    refine iL .max [3, 3] [.int .i64 0, .int .i64 z35] (some 36) ?_
    intro z36 hz36
    simp only at hz36
    refine iQ 1 (iE 65 [(2, .p 2 0), (3, .p 3 0), (4, Ia 0), (5, Ia (cmpI (e1 + (nd A : Int)) (e2 + (nd B : Int)))), (6, Ia z36), (18, Ba false), (30, Ba true)] [(2, [Bv s1, Hw A, Lw A, Iv e1]), (3, [Bv s2, Hw B, Lw B, Iv e2])] ?_)
    refine vc_seqr rfl (iQ 4 (iB .sub 3 (.int .i64 e2) (.int .i64 e1) (some 41) ?_))
    intro z41 hz41
    try replace hz41 := hz41.i64 (by omega)
    refine iL .max [3, 3] [.int .i64 0, .int .i64 z41] (some 42) ?_
    intro z42 hz42
    simp only at hz42
    refine iQ 1 (iE 65 [(2, .p 2 0), (3, .p 3 0), (4, Ia 0), (5, Ia (cmpI (e1 + (nd A : Int)) (e2 + (nd B : Int)))), (6, Ia z36), (7, Ia z42), (18, Ba false), (30, Ba true)] [(2, [Bv s1, Hw A, Lw A, Iv e1]), (3, [Bv s2, Hw B, Lw B, Iv e2])] ?_)
    refine vc_seqr rfl (iQ 2 (iL .min [3, 3] [.int .i64 z36, .int .i64 38] (some 45) ?_))
    intro z45 hz45
    simp only at hz45
    refine iC 49 [.agg [Bv s1, Hw A, Lw A, Iv e1], Iv z45] (some 46) (c_wideOf (n := (e1 - min e1 e2).toNat) (by omega) (by omega) hAB (by omega) (by omega)) ?_
    rintro _ rfl
    refine iQ 2 (iL .min [3, 3] [.int .i64 z42, .int .i64 38] (some 49) ?_)
    intro z49 hz49
    simp only at hz49
    refine iC 49 [.agg [Bv s2, Hw B, Lw B, Iv e2], Iv z49] (some 50) (c_wideOf (n := (e2 - min e1 e2).toNat) (by omega) (by omega) hBB (by omega) (by omega)) ?_
    rintro _ rfl
    refine iQ 4 (iE 65 [(2, .p 2 0), (3, .p 3 0), (4, Ia 0), (5, Ia (cmpI (e1 + (nd A : Int)) (e2 + (nd B : Int)))), (8, .p 8 0), (9, .p 9 0), (18, Ba false), (30, Ba true)] [(2, [Bv s1, Hw A, Lw A, Iv e1]), (3, [Bv s2, Hw B, Lw B, Iv e2]), (8, [Bv s1, Hw (A * 10 ^ (e1 - min e1 e2).toNat / B128), Lw (A * 10 ^ (e1 - min e1 e2).toNat / B128), Hw (A * 10 ^ (e1 - min e1 e2).toNat % B128), Lw (A * 10 ^ (e1 - min e1 e2).toNat % B128), Iv (e1 - ((e1 - min e1 e2).toNat : Int)), Bv false]), (9, [Bv s2, Hw (B * 10 ^ (e2 - min e1 e2).toNat / B128), Lw (B * 10 ^ (e2 - min e1 e2).toNat / B128), Hw (B * 10 ^ (e2 - min e1 e2).toNat % B128), Lw (B * 10 ^ (e2 - min e1 e2).toNat % B128), Iv (e2 - ((e2 - min e1 e2).toNat : Int)), Bv false])] ?_)
    refine vc_reg rfl (iQ 8 (iC 50 [.agg [Hw (A * 10 ^ (e1 - min e1 e2).toNat / B128), Lw (A * 10 ^ (e1 - min e1 e2).toNat / B128)], .agg [Hw (A * 10 ^ (e1 - min e1 e2).toNat % B128), Lw (A * 10 ^ (e1 - min e1 e2).toNat % B128)], .agg [Hw (B * 10 ^ (e2 - min e1 e2).toNat / B128), Lw (B * 10 ^ (e2 - min e1 e2).toNat / B128)], .agg [Hw (B * 10 ^ (e2 - min e1 e2).toNat % B128), Lw (B * 10 ^ (e2 - min e1 e2).toNat % B128)]] (some 59) (cw_CmpN w3 w4) ?_))
    rintro _ rfl
    refine iQ 1 (iE 65 [(2, .p 2 0), (3, .p 3 0), (4, Ia 0), (5, Ia (cmpN (A * 10 ^ (e1 - min e1 e2).toNat) (B * 10 ^ (e2 - min e1 e2).toNat))), (18, Ba false), (30, Ba true)] [(2, [Bv s1, Hw A, Lw A, Iv e1]), (3, [Bv s2, Hw B, Lw B, Iv e2])] ?_)
    refine mid_n hmid (cmpN (A * 10 ^ (e1 - min e1 e2).toNat) (B * 10 ^ (e2 - min e1 e2).toNat), true) (rfl) (by kernel_rfl)
  ·replace hz := bt hz
   have hsg : sgnT s1 A ≠ sgnT s2 B ∨ A = 0 := .inr hz
   refine iT (vc_seqr rfl (iQ 1 (iC 46 [.agg [Bv s1, Hw A, Lw A, Iv e1]] (some 20) (c_SignT hAB) ?_)))
   rintro _ rfl
   refine iQ 1 (iC 46 [.agg [Bv s2, Hw B, Lw B, Iv e2]] (some 22) (c_SignT hBB) ?_)
   rintro _ rfl
   refine iC 47 [Iv (sgnT s1 A), Iv (sgnT s2 B)] (some 23) (c_cmpInt) ?_
   rintro _ rfl
   refine iQ 1 (iE 65 [(2, .p 2 0), (3, .p 3 0), (4, Ia (cmpI (sgnT s1 A) (sgnT s2 B))), (18, Ba true)] [(2, [Bv s1, Hw A, Lw A, Iv e1]), (3, [Bv s2, Hw B, Lw B, Iv e2])] ?_)
   refine vc_ret (seq_r (iR (Iv (cmpI (sgnT s1 A) (sgnT s2 B))) ?_))
   rw [cmp_sign hsg]
 ·replace hc14 := bt hc14
  refine iQ 3 (iE 65 [(2, .p 2 0), (3, .p 3 0), (4, Ia 0), (18, Ba true)] [(2, [Bv s1, Hw A, Lw A, Iv e1]), (3, [Bv s2, Hw B, Lw B, Iv e2])] ?_)
  have hsg : sgnT s1 A ≠ sgnT s2 B ∨ A = 0 := .inl hc14
  refine iT (vc_seqr rfl (iQ 1 (iC 46 [.agg [Bv s1, Hw A, Lw A, Iv e1]] (some 20) (c_SignT hAB) ?_)))
  rintro _ rfl
  refine iQ 1 (iC 46 [.agg [Bv s2, Hw B, Lw B, Iv e2]] (some 22) (c_SignT hBB) ?_)
  rintro _ rfl
  refine iC 47 [Iv (sgnT s1 A), Iv (sgnT s2 B)] (some 23) (c_cmpInt) ?_
  rintro _ rfl
  refine iQ 1 (iE 65 [(2, .p 2 0), (3, .p 3 0), (4, Ia (cmpI (sgnT s1 A) (sgnT s2 B))), (18, Ba true)] [(2, [Bv s1, Hw A, Lw A, Iv e1]), (3, [Bv s2, Hw B, Lw B, Iv e2])] ?_)
  refine vc_ret (seq_r (iR (Iv (cmpI (sgnT s1 A) (sgnT s2 B))) ?_))
  rw [cmp_sign hsg]

end Go.Proofs.YtmldjlgeeljfdaaGreat
