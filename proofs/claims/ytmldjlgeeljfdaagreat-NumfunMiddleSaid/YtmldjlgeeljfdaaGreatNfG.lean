/-
  The plain laws of spreads of whole numbers: nothing is too great, nothing is below 0; numbers that are all the same have none.
-/
import Derived.Test.YtmldjlgeeljfdaaGreatNfF
namespace Go.Proofs.YtmldjlgeeljfdaaGreat
open Go.RowKit
set_option linter.unusedVariables false
set_option linter.unusedSimpArgs false

theorem fitE_up {s : Bool} {n : Nat} {e B : Int} (h : e ≤ B) (h0 : -6176 ≤ B) (h1 : B ≤ 6111) : ∃ g k x, fitE s n e = (g, k, x, true) ∧ x ≤ B ∧ (s = false → g = false) := by
  unfold fitE
  split
  · exact ⟨_, _, _, rfl, by omega, fun _ => rfl⟩
  · rw [if_neg (by omega)]
    exact ⟨_, _, _, rfl, by omega, id⟩
theorem fitU_up {m : Int} {s : Bool} {N : Nat} {e B : Int} {more : Bool} (h : e + fitKU N e ≤ B) (h0 : -6176 ≤ B) (h1 : B ≤ 6000) : ∃ g k x, fitU m s N e more = (g, k, x, true) ∧ x ≤ B + 1 ∧ (s = false → g = false) := by
  unfold fitU
  refine fitE_up ?_ (by omega) (by omega)
  unfold fit2E
  split <;> omega
theorem fitT_up {m : Int} {s : Bool} {N : Nat} {e B : Int} {more : Bool} (hN : nd N ≤ 78) (h : e + 44 ≤ B) (h0 : -6176 ≤ B) (h1 : B ≤ 6000) : ∃ g k x, fitT m s N e more = (g, k, x, true) ∧ x ≤ B + 1 ∧ (s = false → g = false) := by
  rw [fitT_U m s e more hN]
  refine fitU_up ?_ h0 h1
  unfold fitKU
  omega
/-- What is fitted is a number: its exponent, its sign. -/
theorem fitO_up {t : T4} {B : Int} {p : Prop} (h : ∃ g k x, t = (g, k, x, true) ∧ x ≤ B ∧ (p → g = false)) (hm : ∀ {g k x ok}, t = (g, k, x, ok) → May g k x) : ∃ d, fitO t = some d ∧ d.e ≤ B ∧ (p → d.g = false) := by
  obtain ⟨g, k, x, rfl, h1, h2⟩ := h
  exact ⟨_, fitO_some (hm rfl), h1, h2⟩
theorem add_up {x y : D3} {B : Int} (hx : x.e ≤ B) (hy : y.e ≤ B) (h0 : 0 ≤ B) (h1 : B ≤ 5000) : ∃ d, fitO (addX x y) = some d ∧ d.e ≤ B + 3 ∧ (x.g = false ∧ y.g = false → d.g = false) := by
  refine fitO_up ?_ add_may
  have key : ∀ N : Nat, N < 10 ^ (35 + (max x.e y.e - min x.e y.e).toNat) → min x.e y.e + fitKU N (min x.e y.e) ≤ B + 1 := by
    intro N hN
    have := nd_le _ N hN
    have := x.lo; have := y.lo
    unfold fitKU
    omega
  have pw : ∀ (z : D3), z.e ≤ max x.e y.e → min x.e y.e ≤ z.e → z.n * 10 ^ (z.e - min x.e y.e).toNat < 10 ^ (34 + (max x.e y.e - min x.e y.e).toNat) := by
    intro z hz hz2
    rw [Nat.pow_add]
    have h3 := z.lt
    have h4 : 10 ^ (z.e - min x.e y.e).toNat ≤ 10 ^ (max x.e y.e - min x.e y.e).toNat := Nat.pow_le_pow_right (by decide) (by omega)
    have h5 : 0 < 10 ^ (z.e - min x.e y.e).toNat := Nat.pow_pos (by decide)
    calc z.n * 10 ^ (z.e - min x.e y.e).toNat < 10 ^ 34 * 10 ^ (z.e - min x.e y.e).toNat := Nat.mul_lt_mul_of_pos_right h3 h5
      _ ≤ _ := Nat.mul_le_mul_left _ h4
  have p1 := pw x (by omega) (by omega)
  have p2 := pw y (by omega) (by omega)
  have e35 : 10 ^ (35 + (max x.e y.e - min x.e y.e).toNat) = 10 * 10 ^ (34 + (max x.e y.e - min x.e y.e).toNat) := by rw [show 35 + (max x.e y.e - min x.e y.e).toNat = (34 + (max x.e y.e - min x.e y.e).toNat) + 1 by omega, Nat.pow_succ, Nat.mul_comm]
  unfold addX addT sumT
  rw [e35] at key
  generalize x.n * 10 ^ (x.e - min x.e y.e).toNat = P at *
  generalize y.n * 10 ^ (y.e - min x.e y.e).toNat = Q at *
  have k1 := key (P + Q) (by omega)
  have k2 := key (P - Q) (by omega)
  have k3 := key (Q - P) (by omega)
  split
  · obtain ⟨g, k, e, h2, h3, h4⟩ := fitU_up (m := 1) (s := x.g) (more := false) k1 (by omega) (by omega)
    exact ⟨g, k, e, h2, by omega, fun h => h4 h.1⟩
  · split
    · obtain ⟨g, k, e, h2, h3, h4⟩ := fitU_up (m := 1) (s := x.g) (more := false) k2 (by omega) (by omega)
      exact ⟨g, k, e, h2, by omega, fun h => h4 h.1⟩
    · obtain ⟨g, k, e, h2, h3, h4⟩ := fitU_up (m := 1) (s := y.g) (more := false) k3 (by omega) (by omega)
      exact ⟨g, k, e, h2, by omega, fun h => h4 h.2⟩
/-- 0 less a number. -/
def negD (y : D3) : D3 := ⟨(!y.g && decide (y.n ≠ 0), y.n, y.e), y.2.1, y.2.2.1, y.2.2.2.1, fun h => by simp at h; exact h.2⟩
theorem sub_up {x y : D3} {B : Int} (hx : x.e ≤ B) (hy : y.e ≤ B) (h0 : 0 ≤ B) (h1 : B ≤ 5000) : ∃ d, fitO (subX x y) = some d ∧ d.e ≤ B + 3 := by
  obtain ⟨d, h2, h3, _⟩ := add_up (x := x) (y := negD y) hx hy h0 h1
  exact ⟨d, h2, h3⟩
theorem mul_up {x y : D3} {B : Int} (hx : x.e + y.e ≤ B) (h0 : 0 ≤ B) (h1 : B ≤ 5000) : ∃ d, fitO (mulX x y) = some d ∧ d.e ≤ B + 45 ∧ (x.g = y.g → d.g = false) := by
  refine fitO_up ?_ mul_may
  have hN : nd (x.n * y.n) ≤ 78 := nd_le 78 _ (by
    have h2 := Nat.mul_lt_mul'' x.lt y.lt
    refine Nat.lt_of_lt_of_le h2 ?_
    unfold E34
    decide)
  obtain ⟨g, k, e, h2, h3, h4⟩ := fitT_up (m := 1) (s := x.g != y.g) (N := x.n * y.n) (e := x.e + y.e) (more := false) (B := B + 44) hN (by omega) (by omega) (by omega)
  exact ⟨g, k, e, h2, by omega, fun h => h4 (by rw [h]; simp)⟩
theorem strip_le : ∀ (k q : Nat), (strip k q).1 ≤ q ∧ (strip k q).2 ≤ k
  | 0, q => ⟨Nat.le_refl _, Nat.le_refl _⟩
  | k + 1, q => by
    rw [strip]
    split
    · have := strip_le k (q / 10)
      exact ⟨by have := Nat.div_le_self q 10; simp only; omega, by simp only; omega⟩
    · exact ⟨Nat.le_refl _, Nat.zero_le _⟩
theorem divQ_le {a b : Nat} (ha : a < E34) (hb : b < E34) (h0 : 0 < b) : (divQ a b).1 < 10 ^ 36 ∧ (divQ a b).2 ≤ divN a b := by
  obtain ⟨r1, _, _⟩ := div_room ha hb h0
  have hq : a * 10 ^ divN a b / b < 10 ^ 36 := (Nat.div_lt_iff_lt_mul h0).2 r1
  unfold divQ
  split
  · have := strip_le (divN a b) (a * 10 ^ divN a b / b)
    exact ⟨Nat.lt_of_le_of_lt this.1 hq, this.2⟩
  · exact ⟨hq, Nat.zero_le _⟩
theorem div_fits {x y : D3} {B : Int} (hy : y.n ≠ 0) (hx : x.e - y.e ≤ B) (h0 : 0 ≤ B) (h1 : B ≤ 5000) : ∃ d, fitO (divX x y) = some d ∧ d.e ≤ B + 45 ∧ (x.g = y.g → d.g = false) := by
  refine fitO_up ?_ div_may
  unfold divX qDivT
  rw [if_neg hy]
  unfold divT
  split
  · obtain ⟨g, k, e, h2, h3, h4⟩ := fitT_up (m := 1) (s := false) (N := 0) (e := x.e - y.e) (more := false) (B := B + 44) (nd_le 78 0 (by decide)) (by omega) (by omega) (by omega)
    exact ⟨g, k, e, h2, by omega, fun _ => h4 rfl⟩
  · obtain ⟨q1, q2⟩ := divQ_le x.lt y.lt (Nat.pos_of_ne_zero hy)
    obtain ⟨g, k, e, h2, h3, h4⟩ := fitT_up (m := 1) (s := x.g != y.g) (N := (divQ x.n y.n).1) (e := x.e - y.e - (divN x.n y.n : Nat) + ((divQ x.n y.n).2 : Nat)) (more := divMore x.n y.n) (B := B + 44) (nd_le 78 _ (Nat.lt_of_lt_of_le q1 (by decide))) (by omega) (by omega) (by omega)
    exact ⟨g, k, e, h2, by omega, fun h => h4 (by rw [h]; simp)⟩
theorem sumO_up : ∀ (r : List D3) (a : D3) (B : Int), a.e ≤ B → (∀ y ∈ r, y.e = 0) → 0 ≤ B → B + 3 * (r.length : Int) ≤ 4000 → ∃ s, sumO a r = some s ∧ s.e ≤ B + 3 * (r.length : Int)
  | [], a, B, h, _, _, _ => ⟨a, rfl, by simpa using h⟩
  | x :: r, a, B, h, hr, h0, h1 => by
    have hx := hr x (by simp)
    simp only [List.length_cons] at h1
    obtain ⟨b, h2, h3, _⟩ := add_up (x := a) (y := x) h (by omega) h0 (by omega)
    obtain ⟨s, h4, h5⟩ := sumO_up r b (B + 3) h3 (fun y hy => hr y (by simp [hy])) (by omega) (by omega)
    refine ⟨s, ?_, by simp only [List.length_cons]; omega⟩
    rw [sumO, h2]
    exact h4
theorem meanO_up {x : D3} {r : List D3} (h : r.length < 1000) (hl : r.length ≤ 10) (hx : x.e = 0) (hr : ∀ y ∈ r, y.e = 0) : ∃ m, meanO x r h = some m ∧ m.e ≤ 100 := by
  obtain ⟨s, h1, h2⟩ := sumO_up r x 0 (by omega) hr (by decide) (by omega)
  obtain ⟨m, h3, h4, _⟩ := div_fits (x := s) (y := natD (r.length + 1) (by omega)) (Nat.succ_ne_zero _) (B := 30) (by show s.e - 0 ≤ 30; omega) (by decide) (by decide)
  exact ⟨m, by rw [meanO, h1]; exact h3, by omega⟩
theorem devO_up {m : D3} (hm : m.e ≤ 100) : ∀ (r : List D3) (a : D3) (B : Int), a.e ≤ B → a.g = false → (∀ y ∈ r, y.e = 0) → 251 ≤ B → B + 3 * (r.length : Int) ≤ 4000 → ∃ s, devO m a r = some s ∧ s.e ≤ B + 3 * (r.length : Int) ∧ s.g = false
  | [], a, B, h, hg, _, _, _ => ⟨a, rfl, by simpa using h, hg⟩
  | x :: r, a, B, h, hg, hr, h0, h1 => by
    have hx := hr x (by simp)
    simp only [List.length_cons] at h1
    obtain ⟨d, d1, d2⟩ := sub_up (x := x) (y := m) (B := 100) (by omega) hm (by decide) (by decide)
    obtain ⟨q, q1, q2, q3⟩ := mul_up (x := d) (y := d) (B := 206) (by omega) (by decide) (by decide)
    obtain ⟨b, b1, b2, b3⟩ := add_up (x := a) (y := q) (B := B) h (by omega) (by omega) (by omega)
    obtain ⟨s, h4, h5, h6⟩ := devO_up hm r b (B + 3) b2 (b3 ⟨hg, q3 rfl⟩) (fun y hy => hr y (by simp [hy])) (by omega) (by omega)
    refine ⟨s, ?_, by simp only [List.length_cons]; omega, h6⟩
    rw [devO, d1]
    show (fitO (mulX d d)).bind _ = _
    rw [q1]
    show (fitO (addX a q)).bind _ = _
    rw [b1]
    exact h4
/-- THE SPREAD OF WHOLE NUMBERS: what is under the root is told, and not below 0. -/
theorem sprO_up {x : D3} {r : List D3} (h : r.length < 1000) (hl : r.length ≤ 10) (h0 : 0 < r.length) (hx : x.e = 0) (hr : ∀ y ∈ r, y.e = 0) : ∃ q, sprO x r h = some q ∧ q.g = false := by
  obtain ⟨m, h1, h2⟩ := meanO_up h hl hx hr
  obtain ⟨s, h3, h4, h5⟩ := devO_up h2 (x :: r) (natD 0 (by decide)) 251 (by decide) rfl (fun y hy => (List.mem_cons.1 hy).elim (fun e => e ▸ hx) (hr y)) (by decide) (by simp only [List.length_cons]; omega)
  obtain ⟨q, h6, h7, h8⟩ := div_fits (x := s) (y := natD r.length (by omega)) (by show r.length ≠ 0; omega) (B := 400) (by show s.e - 0 ≤ 400; simp only [List.length_cons] at h4; omega) (by decide) (by decide)
  refine ⟨q, ?_, h8 h5⟩
  rw [sprO, h1]
  show (devO m _ _).bind _ = _
  rw [h3]
  exact h6
-- numbers that are all the same
theorem fitO_nat {n : Nat} (h : n < 1000000000) : fitO (false, n, 0, true) = some (natD n h) := by rw [fitO_some (g := false) (k := n) (x := 0) (natD n h).2]; rfl
theorem fitU_nat {n : Nat} (h : n < 1000000000) : fitU 1 false n 0 false = (false, n, 0, true) := by
  rw [fitU_own (by unfold E34; omega) (by decide) (by decide)]
  simp
theorem fitT_nat {n : Nat} (h : n < 1000000000) : fitT 1 false n 0 false = (false, n, 0, true) := by
  rw [fitT_U 1 false 0 false (Nat.le_trans (nd_le 9 n h) (by decide)), fitU_nat h]
theorem nat_add {a b : Nat} (ha : a < 1000000000) (hb : b < 1000000000) (h : a + b < 1000000000) : fitO (addX (natD a ha) (natD b hb)) = some (natD (a + b) h) := by
  have e : addX (natD a ha) (natD b hb) = fitU 1 false (a + b) 0 false := by
    simp [addX, addT, sumT, natD]
  rw [e, fitU_nat h, fitO_nat h]
theorem nat_sub {a : Nat} (ha : a < 1000000000) : fitO (subX (natD a ha) (natD a ha)) = some (natD 0 (by decide)) := by
  have e : subX (natD a ha) (natD a ha) = fitU 1 false 0 0 false := by
    show addT false a 0 (!false && decide (a ≠ 0)) a 0 = _
    by_cases h : a = 0
    · subst h; simp [addT, sumT]
    · simp [addT, sumT, h]
  rw [e, fitU_nat (by decide), fitO_nat]
theorem nat_mul0 : fitO (mulX (natD 0 (by decide)) (natD 0 (by decide))) = some (natD 0 (by decide)) := by
  have e : mulX (natD 0 (by decide)) (natD 0 (by decide)) = fitT 1 false 0 0 false := rfl
  rw [e, fitT_nat (by decide), fitO_nat]
theorem nat_div0 {k : Nat} (hk : k < 1000000000) (h0 : k ≠ 0) : fitO (divX (natD 0 (by decide)) (natD k hk)) = some (natD 0 (by decide)) := by
  have e : divX (natD 0 (by decide)) (natD k hk) = fitT 1 false 0 0 false := by
    unfold divX qDivT
    rw [if_neg (by exact h0)]
    rfl
  rw [e, fitT_nat (by decide), fitO_nat]
theorem strip_pow {q : Nat} : ∀ k, strip k (q * 10 ^ k) = (q, k)
  | 0 => by simp [strip]
  | k + 1 => by
    have e : q * 10 ^ (k + 1) = q * 10 ^ k * 10 := by rw [Nat.pow_succ, Nat.mul_assoc]
    rw [strip_step (by rw [e]; exact Nat.mul_mod_left _ _), e, Nat.mul_div_cancel _ (by decide), strip_pow k]
theorem nat_div {q k : Nat} (hk : k < 1000000000) (hq : q < 1000000000) (h : q * k < 1000000000) (h0 : k ≠ 0) (hq0 : q ≠ 0) : fitO (divX (natD (q * k) h) (natD k hk)) = some (natD q hq) := by
  have hm : q * k * 10 ^ divN (q * k) k = q * 10 ^ divN (q * k) k * k := by rw [Nat.mul_assoc, Nat.mul_comm k, ← Nat.mul_assoc]
  have e1 : divQ (q * k) k = (q, divN (q * k) k) := by
    unfold divQ
    rw [if_pos (by rw [hm]; exact Nat.mul_mod_left _ _), hm, Nat.mul_div_cancel _ (Nat.pos_of_ne_zero h0), strip_pow]
  have e2 : divMore (q * k) k = false := by
    unfold divMore
    rw [hm, Nat.mul_mod_left]
    rfl
  have e : divX (natD (q * k) h) (natD k hk) = fitT 1 false q 0 false := by
    show qDivT (false != false) (q * k) k (0 - 0) = _
    unfold qDivT
    rw [if_neg h0]
    unfold divT
    rw [if_neg (Nat.mul_ne_zero hq0 h0), e1, e2]
    show fitT 1 (false != false) q (0 - 0 - (divN (q * k) k : Nat) + (divN (q * k) k : Nat)) false = _
    congr 1
    omega
  rw [e, fitT_nat hq, fitO_nat]
theorem sumO_sevens : ∀ (k a b : Nat) (ha : a < 1000000000) (hb : b < 1000000000), b = a + 7 * k → sumO (natD a ha) (List.replicate k (natD 7 (by decide))) = some (natD b hb)
  | 0, a, b, ha, hb, e => by
    have : b = a := by omega
    subst this
    rfl
  | k + 1, a, b, ha, hb, e => by
    rw [List.replicate_succ, sumO, nat_add ha (by decide) (by omega)]
    exact sumO_sevens k (a + 7) b (by omega) hb (by omega)
theorem devO_sevens : ∀ (k : Nat), devO (natD 7 (by decide)) (natD 0 (by decide)) (List.replicate k (natD 7 (by decide))) = some (natD 0 (by decide))
  | 0 => rfl
  | k + 1 => by
    rw [List.replicate_succ, devO, nat_sub]
    show (fitO (mulX (natD 0 _) (natD 0 _))).bind _ = _
    rw [nat_mul0]
    show (fitO (addX (natD 0 _) (natD 0 _))).bind _ = _
    rw [nat_add (by decide) (by decide) (by decide)]
    exact devO_sevens k
theorem sprO_sevens {k : Nat} (h : (List.replicate k (natD 7 (by decide))).length < 1000) (h0 : 0 < k) : sprO (natD 7 (by decide)) (List.replicate k (natD 7 (by decide))) h = some (natD 0 (by decide)) := by
  have hk : k < 1000 := by simpa using h
  have hm : meanO (natD 7 (by decide)) (List.replicate k (natD 7 (by decide))) h = some (natD 7 (by decide)) := by
    rw [meanO, sumO_sevens k 7 (7 * (k + 1)) (by decide) (by omega) (by omega)]
    have := nat_div (q := 7) (k := k + 1) (by omega) (by decide) (by omega) (by omega) (by decide)
    show fitO _ = _
    simpa only [List.length_replicate] using this
  rw [sprO, hm]
  show (devO _ _ _).bind _ = _
  rw [← List.replicate_succ, devO_sevens]
  show fitO _ = _
  have := nat_div0 (k := k) (by omega) (by omega)
  simpa only [List.length_replicate] using this
theorem root_0 : (rootD (natD 0 (by decide))).n = 0 := by
  have e : rootX (natD 0 (by decide)) = fitT 1 false 0 0 false := rfl
  show (rootX (natD 0 (by decide))).2.1 = 0
  rw [e, fitT_nat (by decide)]
theorem root_sign (x : D3) : (rootD x).g = false := by
  show (rootX x).1 = false
  unfold rootX rootT
  split
  · unfold fitT fitE
    split
    · rfl
    · split <;> rfl
  · unfold fitT fitE
    split
    · rfl
    · split <;> rfl
end Go.Proofs.YtmldjlgeeljfdaaGreat
