/-
  Plain laws of digits: the parts of XRow, XRef1 .. XRef8 that speak of no program.
-/
import Derived.Test.YtmldjlgeeljfdaaGreatWidB
import Derived.Test.YtmldjlgeeljfdaaGreatNum
namespace Go.Proofs.YtmldjlgeeljfdaaGreat
open Go.RowKit
set_option linter.unusedVariables false

/-- Digits and noughts above them. -/
theorem dval_append (ds es : List Nat) : dval (ds ++ es) = dval ds + 10 ^ ds.length * dval es := by
  induction ds with
  | nil => simp [dval]
  | cons d ds ih => rw [List.cons_append, dval, ih, dval, List.length_cons, Nat.pow_succ, Nat.mul_add, Nat.mul_left_comm, Nat.mul_comm (10 ^ ds.length) 10, Nat.mul_assoc, Nat.mul_left_comm 10]; omega
theorem dval_lt {ds : List Nat} (h : ∀ d ∈ ds, d < 10) : dval ds < 10 ^ ds.length := by
  induction ds with
  | nil => simp [dval]
  | cons d ds ih =>
    have h1 := ih fun x hx => h x (by simp [hx])
    have h2 := h d (by simp)
    rw [dval, List.length_cons, Nat.pow_succ]
    omega
theorem dval_take {ds : List Nat} {m : Nat} (h : ∀ i (hi : i < ds.length), m ≤ i → ds[i] = 0) (hm : m ≤ ds.length) : dval (ds.take m) = dval ds := by
  have e : dval (ds.drop m) = 0 := by
    have hz : ∀ x ∈ ds.drop m, x = 0 := by
      intro x hx
      obtain ⟨i, hi, rfl⟩ := List.mem_iff_getElem.1 hx
      rw [List.getElem_drop]
      exact h _ _ (by omega)
    generalize ds.drop m = es at hz
    clear h hm
    induction es with
    | nil => rfl
    | cons a es ih => rw [dval, hz a (by simp), ih fun x hx => hz x (by simp [hx])]
  have := dval_append (ds.take m) (ds.drop m)
  rw [List.take_append_drop, e] at this
  omega
/-- What Trim leaves: the digits of the value. -/
theorem trim_digs {ds : List Nat} {m : Nat} (hd : ∀ d ∈ ds, d < 10) (hm : m ≤ ds.length) (h : ∀ i (hi : i < ds.length), m ≤ i → ds[i] = 0) (ht : ∀ (h0 : 0 < m), ds[m - 1]'(by omega) ≠ 0) : ds.take m = digs (dval ds) := by
  rw [← dval_take h hm]
  refine (digs_dval _ ⟨fun d hx => hd d (List.mem_of_mem_take hx), ?_⟩).symm
  rcases Nat.eq_zero_or_pos m with h0 | h0
  · subst h0; simp
  · rw [List.getLast?_eq_getElem?, List.length_take, Nat.min_eq_left hm, List.getElem?_take, if_pos (by omega), List.getElem?_eq_getElem (by omega)]
    intro e
    exact ht h0 (by simpa using e)
/-- A digit. -/
def dig (n k : Nat) : Nat := n / 10 ^ k % 10
theorem digs_get : ∀ (k n : Nat) (h : k < (digs n).length), (digs n)[k] = dig n k := by
  intro k
  induction k with
  | zero =>
    intro n h
    by_cases h0 : n = 0
    · subst h0; simp [digs_zero] at h
    · simp only [digs_pos h0, List.getElem_cons_zero, dig]; simp
  | succ k ih =>
    intro n h
    by_cases h0 : n = 0
    · subst h0; simp [digs_zero] at h
    · have h' : k < (digs (n / 10)).length := by rw [digs_pos h0, List.length_cons] at h; omega
      simp only [digs_pos h0, List.getElem_cons_succ]
      rw [ih _ h']
      unfold dig
      rw [Nat.div_div_eq_div_mul, Nat.pow_succ, Nat.mul_comm 10]
theorem lt_nd (n : Nat) : n < 10 ^ nd n := by
  have h := dval_lt (ds := digs n) fun d hd => digs_lt hd
  rwa [dval_digs] at h
theorem dig_zero {n k : Nat} (h : nd n ≤ k) : dig n k = 0 := by
  have h1 := lt_nd n
  have h2 : 10 ^ nd n ≤ 10 ^ k := Nat.pow_le_pow_right (by decide) h
  unfold dig
  rw [Nat.div_eq_of_lt (by omega)]
theorem dig_lt (n k : Nat) : dig n k < 10 := Nat.mod_lt _ (by decide)
theorem nd_def (n : Nat) : nd n = (digs n).length := rfl
theorem div_nd {n k : Nat} (h : nd n ≤ k) : n / 10 ^ k = 0 := by
  have h1 := lt_nd n
  have h2 : 10 ^ nd n ≤ 10 ^ k := Nat.pow_le_pow_right (by decide) h
  exact Nat.div_eq_of_lt (by omega)
theorem dig_step (n k : Nat) : n / 10 ^ k = dig n k + 10 * (n / 10 ^ (k + 1)) := by
  unfold dig
  rw [Nat.pow_succ, ← Nat.div_div_eq_div_mul]
  omega
theorem dval_snoc (ds : List Nat) (d : Nat) : dval (ds ++ [d]) = dval ds + 10 ^ ds.length * d := by rw [dval_append]; simp [dval]
theorem snoc_val (A k s q : Nat) : A + 10 ^ k * s + 10 ^ (k + 1) * q = A + 10 ^ k * (s + 10 * q) := by
  rw [Nat.mul_add, Nat.pow_succ, Nat.mul_assoc, Nat.add_assoc]
/-- The state of Small behind k digits. -/
structure SmallInv (n x add k c : Nat) (ds : List Nat) : Prop where
  len : ds.length = k
  lt : ∀ d ∈ ds, d < 10
  cl : c < 4294967296
  val : dval ds + 10 ^ k * (c + x * (n / 10 ^ k)) = n * x + add
theorem SmallInv.start (n x : Nat) {add : Nat} (h : add < 4294967296) : SmallInv n x add 0 add [] := ⟨rfl, by simp, h, by simp [dval, Nat.mul_comm]; omega⟩
theorem SmallInv.next {n x add k c : Nat} {ds : List Nat} (i : SmallInv n x add k c ds) (hx : x ≤ 4294967296) : SmallInv n x add (k + 1) ((dig n k * x + c) / 10) (ds ++ [(dig n k * x + c) % 10]) := by
  have hd := dig_lt n k
  have hm : dig n k * x ≤ 9 * 4294967296 := Nat.mul_le_mul (by omega) (by omega)
  have hc := i.cl
  refine ⟨by simp [i.len], ?_, by omega, ?_⟩
  · intro d h
    rw [List.mem_append] at h
    rcases h with h | h
    · exact i.lt d h
    · have : d = (dig n k * x + c) % 10 := by simpa using h
      omega
  · have h1 := i.val
    rw [dig_step n k] at h1
    rw [dval_snoc, i.len, ← h1]
    have e : c + x * (dig n k + 10 * (n / 10 ^ (k + 1))) = (dig n k * x + c) % 10 + 10 * ((dig n k * x + c) / 10 + x * (n / 10 ^ (k + 1))) := by
      have e1 : x * (dig n k + 10 * (n / 10 ^ (k + 1))) = dig n k * x + 10 * (x * (n / 10 ^ (k + 1))) := by rw [Nat.mul_add, Nat.mul_comm x (dig n k), Nat.mul_left_comm]
      rw [e1]
      have := Nat.mod_add_div (dig n k * x + c) 10
      omega
    rw [e]
    exact snoc_val _ _ _ _
theorem SmallInv.done {n x add k c : Nat} {ds : List Nat} (i : SmallInv n x add k c ds) (h1 : nd n ≤ k) (h2 : c = 0) : dval ds = n * x + add := by
  have := i.val
  rw [div_nd h1, h2] at this
  simpa using this
theorem SmallInv.bound {n x add k c : Nat} {ds : List Nat} (i : SmallInv n x add k c ds) (hx : x ≤ 4294967296) (ha : add < 4294967296) (h : k < nd n ∨ 0 < c) : k ≤ nd n + 10 := by
  rcases h with h | h
  · omega
  · rcases Nat.lt_or_ge k (nd n) with hk | hk
    · omega
    · have h1 := i.val
      rw [div_nd hk, Nat.mul_zero, Nat.add_zero] at h1
      have h2 : 10 ^ k ≤ 10 ^ k * c := Nat.le_mul_of_pos_right _ h
      have h3 := lt_nd n
      have h4 : n * x + add < 10 ^ (nd n + 10) := by
        have a1 : (n + 1) * 4294967296 ≤ 10 ^ nd n * 4294967296 := Nat.mul_le_mul_right _ h3
        have a2 : n * x ≤ n * 4294967296 := Nat.mul_le_mul_left _ (by omega)
        rw [Nat.pow_add]
        have a3 : 10 ^ nd n * 4294967296 ≤ 10 ^ nd n * 10 ^ 10 := Nat.mul_le_mul_left _ (by decide)
        rw [Nat.add_mul] at a1
        omega
      have h5 : 10 ^ k < 10 ^ (nd n + 10) := by omega
      have := (Nat.pow_lt_pow_iff_right (by decide : 1 < 10)).1 h5
      omega
theorem nd_mono {a b : Nat} (h : a ≤ b) : nd a ≤ nd b := nd_le _ _ (Nat.lt_of_le_of_lt h (lt_nd b))
/-- The state of Add behind k digits. -/
structure AddInv (a b k c : Nat) (ds : List Nat) : Prop where
  len : ds.length = k
  lt : ∀ d ∈ ds, d < 10
  cl : c ≤ 1
  val : dval ds + 10 ^ k * (c + (a / 10 ^ k + b / 10 ^ k)) = a + b
theorem AddInv.start (a b : Nat) : AddInv a b 0 0 [] := ⟨rfl, by simp, by omega, by simp [dval]⟩
theorem snoc_lt {ds : List Nat} {x : Nat} (h : ∀ d ∈ ds, d < 10) (hx : x < 10) : ∀ d ∈ ds ++ [x], d < 10 := by
  intro d hd
  rw [List.mem_append] at hd
  rcases hd with hd | hd
  · exact h d hd
  · have : d = x := by simpa using hd
    omega
theorem AddInv.next {a b k c : Nat} {ds : List Nat} (i : AddInv a b k c ds) : AddInv a b (k + 1) ((dig a k + dig b k + c) / 10) (ds ++ [(dig a k + dig b k + c) % 10]) := by
  have ha := dig_lt a k
  have hb := dig_lt b k
  have hc := i.cl
  refine ⟨by simp [i.len], snoc_lt i.lt (by omega), by omega, ?_⟩
  have h1 := i.val
  rw [dig_step a k, dig_step b k] at h1
  rw [dval_snoc, i.len, ← h1]
  have e : c + (dig a k + 10 * (a / 10 ^ (k + 1)) + (dig b k + 10 * (b / 10 ^ (k + 1)))) = (dig a k + dig b k + c) % 10 + 10 * ((dig a k + dig b k + c) / 10 + (a / 10 ^ (k + 1) + b / 10 ^ (k + 1))) := by omega
  rw [e]
  exact snoc_val _ _ _ _
theorem AddInv.done {a b k c : Nat} {ds : List Nat} (i : AddInv a b k c ds) (h1 : nd a ≤ k) (h2 : nd b ≤ k) (h3 : c = 0) : dval ds = a + b := by
  have := i.val
  rw [div_nd h1, div_nd h2, h3] at this
  simpa using this
theorem AddInv.bound {a b k c m : Nat} {ds : List Nat} (i : AddInv a b k c ds) (ha : nd a ≤ m) (hb : nd b ≤ m) (h : k < nd a ∨ k < nd b ∨ 0 < c) : k ≤ m := by
  rcases Nat.lt_or_ge m k with hk | hk
  · rcases h with h | h | h
    · omega
    · omega
    · have h1 := i.val
      rw [div_nd (by omega : nd a ≤ k), div_nd (by omega : nd b ≤ k)] at h1
      have h2 : 10 ^ k ≤ 10 ^ k * (c + (0 + 0)) := Nat.le_mul_of_pos_right _ (by omega)
      have h3 := lt_nd a
      have h4 := lt_nd b
      have h5 : 10 ^ nd a ≤ 10 ^ m := Nat.pow_le_pow_right (by decide) ha
      have h6 : 10 ^ nd b ≤ 10 ^ m := Nat.pow_le_pow_right (by decide) hb
      have h7 : 10 ^ (m + 1) ≤ 10 ^ k := Nat.pow_le_pow_right (by decide) hk
      rw [Nat.pow_succ] at h7
      omega
  · exact hk
theorem dval_zeros (n : Nat) : dval (List.replicate n 0) = 0 := by
  induction n with
  | zero => rfl
  | succ n ih => rw [List.replicate_succ, dval, ih]
theorem div_up {a b j : Nat} (hj : 1 ≤ j) (he : a / 10 ^ j = b / 10 ^ j) : (dig a (j - 1) < dig b (j - 1) → a < b) ∧ (dig a (j - 1) = dig b (j - 1) → a / 10 ^ (j - 1) = b / 10 ^ (j - 1)) := by
  obtain ⟨i, rfl⟩ : ∃ i, j = i + 1 := ⟨j - 1, by omega⟩
  simp only [Nat.add_sub_cancel]
  have h1 := dig_step a i
  have h2 := dig_step b i
  rw [he] at h1
  refine ⟨fun h => ?_, fun h => by omega⟩
  rcases Nat.lt_or_ge a b with h' | h'
  · exact h'
  · have : b / 10 ^ i ≤ a / 10 ^ i := Nat.div_le_div_right h'
    omega
/-- The number of some words, the highest first. -/
def wval (ws : List Int) : Nat := ws.foldl (fun n x => n * 18446744073709551616 + x.toNat) 0
theorem wval_nil : wval [] = 0 := rfl
theorem wval_snoc (ws : List Int) (x : Int) : wval (ws ++ [x]) = wval ws * 18446744073709551616 + x.toNat := by simp [wval]
theorem wfold_lt : ∀ (ws : List Int) (n : Nat), (∀ x ∈ ws, x < 18446744073709551616) → ws.foldl (fun n x => n * 18446744073709551616 + x.toNat) n < (n + 1) * 10 ^ (20 * ws.length)
  | [], n, _ => by simp
  | x :: ws, n, h => by
    have h1 := wfold_lt ws (n * 18446744073709551616 + x.toNat) fun y hy => h y (by simp [hy])
    have h2 := h x (by simp)
    rw [List.foldl_cons, List.length_cons, Nat.mul_add, Nat.pow_add, Nat.mul_one]
    refine Nat.lt_of_lt_of_le h1 ?_
    rw [Nat.mul_comm (10 ^ (20 * ws.length)) (10 ^ 20), ← Nat.mul_assoc]
    apply Nat.mul_le_mul_right
    have h3 : (n + 1) * 18446744073709551616 ≤ (n + 1) * 10 ^ 20 := Nat.mul_le_mul_left _ (by decide)
    rw [Nat.add_mul] at h3
    omega
theorem wval_lt (ws : List Int) (h : ∀ x ∈ ws, x < 18446744073709551616) : wval ws < 10 ^ (20 * ws.length) := by
  have := wfold_lt ws 0 h
  simpa [wval] using this
theorem digs_one : digs 1 = [1] := by rw [digs_pos (by decide)]; simp [digs_zero]
theorem nd_mul (a b : Nat) : nd (a * b) ≤ nd a + nd b := by
  apply nd_le
  rw [Nat.pow_add]
  have h1 := lt_nd a
  have h2 := lt_nd b
  exact Nat.mul_lt_mul_of_lt_of_lt h1 h2
/-- The state of Sub behind k digits. -/
structure SubInv (a b k c : Nat) (ds : List Nat) : Prop where
  len : ds.length = k
  lt : ∀ d ∈ ds, d < 10
  cl : c ≤ 1
  val : dval ds + b % 10 ^ k = a % 10 ^ k + c * 10 ^ k
theorem SubInv.start (a b : Nat) : SubInv a b 0 0 [] := ⟨rfl, by simp, by omega, by simp [dval, Nat.mod_one]⟩
theorem mod_step (n k : Nat) : n % 10 ^ (k + 1) = n % 10 ^ k + 10 ^ k * dig n k := by
  unfold dig
  rw [Nat.pow_succ, Nat.mod_mul]
theorem SubInv.big {a b k c : Nat} {ds : List Nat} (i : SubInv a b k c ds) (h : dig b k + c ≤ dig a k) : SubInv a b (k + 1) 0 (ds ++ [dig a k - dig b k - c]) := by
  have ha := dig_lt a k
  refine ⟨by simp [i.len], snoc_lt i.lt (by omega), by omega, ?_⟩
  have h1 := i.val
  rw [dval_snoc, i.len, mod_step a k, mod_step b k]
  obtain ⟨x, hx⟩ : ∃ x, x = dig a k - dig b k - c := ⟨_, rfl⟩
  rw [← hx]
  have e : dig a k = x + dig b k + c := by omega
  rw [e, Nat.mul_add, Nat.mul_add, Nat.mul_comm (10 ^ k) c]
  omega
theorem SubInv.small {a b k c : Nat} {ds : List Nat} (i : SubInv a b k c ds) (h : dig a k < dig b k + c) : SubInv a b (k + 1) 1 (ds ++ [dig a k + 10 - dig b k - c]) := by
  have ha := dig_lt a k
  have hb := dig_lt b k
  have hc := i.cl
  refine ⟨by simp [i.len], snoc_lt i.lt (by omega), by omega, ?_⟩
  have h1 := i.val
  rw [dval_snoc, i.len, mod_step a k, mod_step b k]
  obtain ⟨x, hx⟩ : ∃ x, x = dig a k + 10 - dig b k - c := ⟨_, rfl⟩
  rw [← hx]
  have e : dig a k + 10 = x + dig b k + c := by omega
  have e2 : 10 ^ k * (dig a k + 10) = 10 ^ k * x + 10 ^ k * dig b k + c * 10 ^ k := by rw [e, Nat.mul_add, Nat.mul_add, Nat.mul_comm (10 ^ k) c]
  rw [Nat.mul_add] at e2
  rw [Nat.one_mul, Nat.pow_succ]
  omega
theorem SubInv.done {a b k c : Nat} {ds : List Nat} (i : SubInv a b k c ds) (hle : b ≤ a) (h1 : nd a ≤ k) : dval ds = a - b := by
  have hv := i.val
  have ha : a < 10 ^ k := Nat.lt_of_lt_of_le (lt_nd a) (Nat.pow_le_pow_right (by decide) h1)
  rw [Nat.mod_eq_of_lt ha, Nat.mod_eq_of_lt (Nat.lt_of_le_of_lt hle ha)] at hv
  have hd := dval_lt i.lt
  rw [i.len] at hd
  have hc := i.cl
  rcases Nat.eq_zero_or_pos c with h0 | h0
  · rw [h0] at hv; omega
  · have : c = 1 := by omega
    rw [this, Nat.one_mul] at hv
    omega
theorem dval_one (q : Nat) : dval [q] = q := by simp [dval]
theorem nd_ten (o : Nat) : nd (o * 10 ^ (1 : Int).toNat) ≤ nd o + 1 := by
  by_cases h0 : o = 0
  · rw [h0]; simp [nd_zero]
  · rw [nd_pos (show o * 10 ^ (1 : Int).toNat ≠ 0 by simp; omega)]
    have : o * 10 ^ (1 : Int).toNat / 10 = o := by simp
    rw [this]
    exact Nat.le_refl _

end Go.Proofs.YtmldjlgeeljfdaaGreat
