/-
  The reference's numbers, digit by digit.
-/
import Derived.Test.YtmldjlgeeljfdaaGreatVcN
import Derived.Test.YtmldjlgeeljfdaaGreatPure
namespace Go.Proofs.YtmldjlgeeljfdaaGreat
open Go.RowKit
set_option linter.unusedVariables false
set_option linter.unusedSimpArgs false
set_option maxRecDepth 100000

theorem mulI {a b : Nat} {z : Int} (h : IntIs .i64 ((a : Int) * (b : Int)) z) (hb : a * b ≤ 9223372036854775807) : z = ((a * b : Nat) : Int) := by
  have e : ((a : Int) * (b : Int)) = ((a * b : Nat) : Int) := by simp
  rw [e] at h
  exact h.i64 (by omega)
theorem quoI {a b : Nat} {x z : Int} (hx : x = (a : Int)) (h : IntIs .i64 (x.tdiv (b : Int)) z) (ha : a ≤ 9223372036854775807) : z = ((a / b : Nat) : Int) := by
  subst hx
  have e : ((a : Int).tdiv (b : Int)) = ((a / b : Nat) : Int) := by rw [Int.tdiv_eq_ediv_of_nonneg (by omega)]; simp
  rw [e] at h
  have := Nat.div_le_self a b
  generalize a / b = q at *
  exact h.i64 (by omega)
theorem remI {a b : Nat} {x z : Int} (hx : x = (a : Int)) (h : z = x.tmod (b : Int)) : z = ((a % b : Nat) : Int) := by
  subst hx
  rw [h, Int.tmod_eq_emod_of_nonneg (by omega)]
  simp
theorem dg_snoc {ds : List Nat} {d : Nat} {z : Int} (h : z = (d : Int)) : dg ds ++ [.v (.int .i64 z)] = dg (ds ++ [d]) := by rw [dg_append, dg_one, h]

theorem trimTo_spec (ds : List Nat) : ∀ n, n ≤ ds.length → (∀ i, trimTo ds n ≤ i → i < n → ds[i]? = some 0) ∧ (0 < trimTo ds n → ds[trimTo ds n - 1]? ≠ some 0)
  | 0, h => ⟨fun i _ h => by omega, fun h => by simp [trimTo] at h⟩
  | n + 1, h => by
    obtain ⟨h1, h2⟩ := trimTo_spec ds n (by omega)
    unfold trimTo
    split
    · rename_i hd
      refine ⟨fun i hi hn => ?_, h2⟩
      by_cases e : i = n
      · subst e; exact hd
      · exact h1 i hi (by omega)
    · rename_i hd
      exact ⟨fun i hi hn => by omega, fun _ => by simpa using hd⟩
theorem trim_eq {ds : List Nat} (hd : ∀ d ∈ ds, d < 10) : trim ds = digs (dval ds) := by
  obtain ⟨h1, h2⟩ := trimTo_spec ds ds.length (Nat.le_refl _)
  have hle := trimTo_le ds ds.length
  refine trim_digs hd hle (fun i hi hm => ?_) fun h0 => ?_
  · have := h1 i hm hi
    rw [List.getElem?_eq_getElem hi] at this
    exact Option.some.inj this
  · intro e
    refine h2 h0 ?_
    rw [List.getElem?_eq_getElem (by omega), e]
theorem digs_get? {n k : Nat} (h : k < nd n) : (digs n)[k]? = some (dig n k) := by
  have h' : k < (digs n).length := h
  rw [List.getElem?_eq_getElem h', digs_get]

theorem nd_lt {a b : Nat} (h : nd a < nd b) : a < b := by
  rcases Nat.lt_or_ge a b with h1 | h1
  · exact h1
  · have := nd_mono h1
    omega
theorem dn_zero : (.sl (nd 0) (dg (digs 0)) : DV) = .sl 0 [] := by rw [nd_zero, digs_zero]; rfl
theorem dn_one : (.sl (nd 1) (dg (digs 1)) : DV) = .sl 1 [.v (.int .i64 1)] := by rw [nd_def, digs_one]; rfl

theorem shift_lt (k a : Nat) : ∀ d ∈ List.replicate k 0 ++ digs a, d < 10 := by
  intro d hd
  rcases List.mem_append.1 hd with h | h
  · have := (List.mem_replicate.1 h).2
    omega
  · exact digs_lt h

theorem mul_digit (b : Nat) {k : Nat} (hk : 1 ≤ k) : b / 10 ^ (k - 1) = b / 10 ^ k * 10 + dig b (k - 1) := by
  obtain ⟨j, rfl⟩ : ∃ j, k = j + 1 := ⟨k - 1, by omega⟩
  have := dig_step b j
  simp only [Nat.add_sub_cancel]
  omega

def dw (ws : List Int) : List DV := ws.map fun w => .v (.int .u64 w)
theorem dw_get {ws : List Int} {i : Nat} (h : i < ws.length) : (dw ws)[i]? = some (.v (.int .u64 ws[i])) := by simp [dw, h]

theorem words_hi {x z w : Int} (h1 : ShrIs .u64 x 32 z) (h2 : IntIs .i64 z w) (h0 : 0 ≤ x) (hx : x < 18446744073709551616) : ∃ q : Nat, w = (q : Int) ∧ q = x.toNat / 4294967296 := by
  have e : z = x / 4294967296 := by
    have h1' : z = x.fdiv (2 ^ (min (32 : Int).toNat IntKind.u64.bits)) := h1
    have e1 : ((2 : Int) ^ (min (32 : Int).toNat IntKind.u64.bits)) = 4294967296 := by decide
    rw [h1', e1, Int.fdiv_eq_ediv_of_nonneg _ (by decide)]
  have := h2.i64 (by omega)
  exact ⟨x.toNat / 4294967296, by omega, rfl⟩
theorem words_lo {x z w : Int} (h1 : z = x.tmod 4294967296) (h2 : IntIs .i64 z w) (h0 : 0 ≤ x) (hx : x < 18446744073709551616) : ∃ r : Nat, w = (r : Int) ∧ r = x.toNat % 4294967296 := by
  have e : z = x % 4294967296 := by rw [h1, Int.tmod_eq_emod_of_nonneg h0]
  have := h2.i64 (by omega)
  exact ⟨x.toNat % 4294967296, by omega, rfl⟩
theorem words_nd {m : Nat} (h : nd m ≤ 2000) : nd (m * 10 ^ 10 + 10 ^ 10) ≤ 900000 := by
  have h1 := lt_nd m
  have h2 : m * 10 ^ 10 + 10 ^ 10 ≤ 10 ^ nd m * 10 ^ 10 := by
    rw [← Nat.add_one_mul]
    exact Nat.mul_le_mul_right _ h1
  refine Nat.le_trans (nd_mono h2) (Nat.le_trans (nd_mul _ _) ?_)
  have h3 : nd (10 ^ nd m) ≤ nd m + 1 := nd_le _ _ (Nat.pow_lt_pow_right (by decide) (by omega))
  have h4 : nd (10 ^ 10) ≤ 11 := nd_le _ _ (by decide)
  omega

end Go.Proofs.YtmldjlgeeljfdaaGreat
