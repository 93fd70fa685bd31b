/-
  lexical: what the texts of days, times and durations are, what is read of a text: in lists of bytes, with no program in sight.
-/
import Derived.Test.YtjpaedjhihiakaaDoorStr
import Derived.Test.YtjpaedjhihiakaaDoorCivB
namespace Go.Proofs.YtjpaedjhihiakaaDoor
open Go.RowKit
set_option linter.unusedVariables false
set_option linter.unusedSimpArgs false
set_option maxRecDepth 100000

-- what is told
def dateL (y m d : Int) : L8 := (if y < 0 then [45] else []) ++ padL (if y < 0 then -y else y) 4 ++ [45] ++ padL m 2 ++ [45] ++ padL d 2
def dateT (y m d : Int) : L8 := if mayD y m d then dateL y m d else []
def offL (o : Int) : L8 := padL (o / 3600) 2 ++ [58] ++ padL (o % 3600 / 60) 2 ++ (if o % 60 = 0 then [] else 58 :: padL (o % 60) 2)
def zoneL (z : Bool) (o : Int) : L8 := if z = false then [] else if o = 0 then [90] else if o < 0 then 45 :: offL (-o) else 43 :: offL o
def timeL (s : Int) (z : Bool) (o : Int) : L8 := padL (s / 3600) 2 ++ [58] ++ padL (s % 3600 / 60) 2 ++ [58] ++ padL (s % 60) 2 ++ zoneL z o
def mayT (s : Int) (z : Bool) (o : Int) : Prop := 0 ≤ s ∧ s < 86400 ∧ -64800 ≤ o ∧ o ≤ 64800 ∧ (z = true ∨ o = 0)
instance (s : Int) (z : Bool) (o : Int) : Decidable (mayT s z o) := inferInstanceAs (Decidable (_ ∧ _))
def timeT (s : Int) (z : Bool) (o : Int) : L8 := if mayT s z o then timeL s z o else []
def momT (y m d s : Int) (z : Bool) (o : Int) : L8 := if mayD y m d ∧ mayT s z o then dateL y m d ++ [84] ++ timeL s z o else []
def pieceL (n : Int) (l : L8) : L8 := if n = 0 then [] else Lib.itoa n ++ l
def restL (k : Int) : L8 := pieceL (k % 86400 / 3600) [72] ++ pieceL (k % 3600 / 60) [77] ++ pieceL (k % 60) [83]
def signL (n : Int) : L8 := if n < 0 then [45] else []
def absI (n : Int) : Int := if n < 0 then -n else n
def daysT (n : Int) : L8 := if n < -9007199254740992 ∨ 9007199254740992 < n then [] else if n = 0 then [80, 84, 48, 83] else
  signL n ++ [80] ++ pieceL (absI n / 86400) [68] ++ (if restL (absI n) = [] then [] else 84 :: restL (absI n))
def monthsT (n : Int) : L8 := if n < -9007199254740992 ∨ 9007199254740992 < n then [] else if n = 0 then [80, 48, 77] else
  signL n ++ [80] ++ pieceL (absI n / 12) [89] ++ pieceL (absI n % 12) [77]

-- what is read
def isDg (c : UInt8) : Bool := decide (48 ≤ c.toNat) && decide (c.toNat ≤ 57)
theorem isDg_iff {c : UInt8} : isDg c = true ↔ 48 ≤ c.toNat ∧ c.toNat ≤ 57 := by simp [isDg]
def nvA (n : Nat) (l : L8) : Nat := l.foldl (fun n c => n * 10 + (c.toNat - 48)) n
def nvL (l : L8) : Nat := nvA 0 l
def ndg : L8 → Nat
  | [] => 0
  | c :: l => if isDg c then ndg l + 1 else 0
def numS (lo hi : Nat) (l : L8) : Option Nat := if lo ≤ l.length ∧ l.length ≤ hi ∧ l.all isDg = true then some (nvL l) else none
def takesS (most : Nat) (l : L8) (c : UInt8) (t : Nat) : Option (Nat × L8) :=
  if l[ndg l]? = some c ∧ 1 ≤ ndg l ∧ ndg l ≤ most then some (nvL (l.take (ndg l)) * t, l.drop (ndg l + 1)) else none
def runA (most : Nat) : L8 → List (UInt8 × Nat) → Nat → Nat → Nat × L8 × Nat
  | l, [], n, k => (n, l, k)
  | l, (c, t) :: r, n, k => match takesS most l c t with
    | some (m, l') => runA most l' r (n + m) (k + 1)
    | none => runA most l r n k
def signedS (n : Nat) (neg : Bool) : Option Int := if 9007199254740992 < n then none else some (if neg then -(n : Int) else n)
/-- The text behind its sign, and whether there is one. -/
def unsS (l : L8) : L8 × Bool := if l.head? = some 45 then (l.tail, true) else (l, false)
def daysS (l : L8) : Option Int :=
  if (unsS l).1.head? ≠ some 80 then none else
  if (runA 12 (unsS l).1.tail [(68, 86400)] 0 0).2.1 = [] then (if (runA 12 (unsS l).1.tail [(68, 86400)] 0 0).2.2 = 0 then none else signedS (runA 12 (unsS l).1.tail [(68, 86400)] 0 0).1 (unsS l).2) else
  if (runA 12 (unsS l).1.tail [(68, 86400)] 0 0).2.1.head? ≠ some 84 then none else
  if (runA 12 (runA 12 (unsS l).1.tail [(68, 86400)] 0 0).2.1.tail [(72, 3600), (77, 60), (83, 1)] 0 0).2.1 ≠ [] ∨ (runA 12 (runA 12 (unsS l).1.tail [(68, 86400)] 0 0).2.1.tail [(72, 3600), (77, 60), (83, 1)] 0 0).2.2 = 0 then none else
  signedS ((runA 12 (unsS l).1.tail [(68, 86400)] 0 0).1 + (runA 12 (runA 12 (unsS l).1.tail [(68, 86400)] 0 0).2.1.tail [(72, 3600), (77, 60), (83, 1)] 0 0).1) (unsS l).2
def monthsS (l : L8) : Option Int :=
  if (unsS l).1.head? ≠ some 80 then none else
  if (runA 15 (unsS l).1.tail [(89, 12), (77, 1)] 0 0).2.1 ≠ [] ∨ (runA 15 (unsS l).1.tail [(89, 12), (77, 1)] 0 0).2.2 = 0 then none else
  signedS (runA 15 (unsS l).1.tail [(89, 12), (77, 1)] 0 0).1 (unsS l).2
/-- A number and whether there is one. -/
def optT : Option Int → DV
  | some n => .tup [.v (.int .i64 n), .v (.bool true)]
  | none => .tup [.v (.int .i64 0), .v (.bool false)]

-- digits
theorem ndg_le : ∀ l : L8, ndg l ≤ l.length
  | [] => Nat.le_refl _
  | c :: l => by
    have := ndg_le l
    unfold ndg
    split <;> simp <;> omega
theorem ndg_dig : ∀ (l : L8) (i : Nat) (c : UInt8), i < ndg l → l[i]? = some c → isDg c = true
  | [], i, c, h, e => by simp at e
  | a :: l, i, c, h, e => by
    unfold ndg at h
    split at h
    · rename_i ha
      cases i with
      | zero => simp at e; subst e; exact ha
      | succ i => exact ndg_dig l i c (by omega) (by simpa using e)
    · omega
theorem ndg_end : ∀ (l : L8) (c : UInt8), l[ndg l]? = some c → isDg c = false
  | [], c, e => by simp at e
  | a :: l, c, e => by
    unfold ndg at e
    split at e
    · exact ndg_end l c (by simpa using e)
    · rename_i ha
      simp at e
      subst e
      simpa using ha
theorem ndg_unique {l : L8} {k : Nat} (hk : k ≤ l.length) (h : ∀ i c, i < k → l[i]? = some c → isDg c = true) (he : ∀ c, l[k]? = some c → isDg c = false) : ndg l = k := by
  apply Classical.byContradiction
  intro hne
  rcases Nat.lt_or_gt_of_ne hne with hlt | hlt
  · have h1 : ndg l < l.length := by omega
    have h2 := ndg_end l _ (List.getElem?_eq_getElem h1)
    have h3 := h _ _ hlt (List.getElem?_eq_getElem h1)
    rw [h2] at h3
    cases h3
  · have h1 : k < l.length := by have := ndg_le l; omega
    have h2 := he _ (List.getElem?_eq_getElem h1)
    have h3 := ndg_dig l _ _ hlt (List.getElem?_eq_getElem h1)
    rw [h2] at h3
    cases h3
theorem nvA_lt : ∀ (l : L8) (n : Nat), l.all isDg = true → nvA n l + 1 ≤ (n + 1) * 10 ^ l.length
  | [], n, h => by simp [nvA]
  | c :: l, n, h => by
    simp only [List.all_cons, Bool.and_eq_true] at h
    have h1 := nvA_lt l (n * 10 + (c.toNat - 48)) h.2
    have h2 := (isDg_iff.1 h.1).2
    have h3 : (n * 10 + (c.toNat - 48) + 1) * 10 ^ l.length ≤ ((n + 1) * 10) * 10 ^ l.length := Nat.mul_le_mul_right _ (by omega)
    show nvA (n * 10 + (c.toNat - 48)) l + 1 ≤ _
    rw [List.length_cons, Nat.pow_succ, Nat.mul_comm (10 ^ l.length) 10, ← Nat.mul_assoc]
    omega
theorem nvL_lt {l : L8} {k : Nat} (h : l.all isDg = true) (hk : l.length ≤ k) : nvL l < 10 ^ k := by
  have h1 := nvA_lt l 0 h
  have h2 : 10 ^ l.length ≤ 10 ^ k := Nat.pow_le_pow_right (by decide) hk
  unfold nvL
  omega
theorem nvA_snoc (l : L8) (c : UInt8) (n : Nat) : nvA n (l ++ [c]) = nvA n l * 10 + (c.toNat - 48) := by simp [nvA]
theorem nvL_take {l : L8} {k : Nat} {c : UInt8} (h : l[k]? = some c) : nvL (l.take (k + 1)) = nvL (l.take k) * 10 + (c.toNat - 48) := by
  obtain ⟨hk, e⟩ := List.getElem?_eq_some_iff.1 h
  rw [List.take_succ_eq_append_getElem hk, e]
  exact nvA_snoc _ _ _
theorem take_all {l : L8} {k : Nat} (h : k ≤ ndg l) : (l.take k).all isDg = true := by
  rw [List.all_eq_true]
  intro c hc
  obtain ⟨i, hi, rfl⟩ := List.getElem_of_mem hc
  simp at hi
  exact ndg_dig l i _ (by omega) (by rw [List.getElem_take]; exact List.getElem?_eq_getElem (by omega))
theorem takesS_lt {most : Nat} {l l' : L8} {c : UInt8} {t n : Nat} (h : takesS most l c t = some (n, l')) : n ≤ 10 ^ most * t ∧ l'.length < l.length := by
  unfold takesS at h
  split at h
  · rename_i hc
    simp only [Option.some.injEq, Prod.mk.injEq] at h
    obtain ⟨rfl, rfl⟩ := h
    have h1 := nvL_lt (k := most) (take_all (Nat.le_refl (ndg l))) (by rw [List.length_take]; omega)
    have h2 := (List.getElem?_eq_some_iff.1 hc.1).1
    exact ⟨Nat.mul_le_mul_right _ (by omega), by rw [List.length_drop]; omega⟩
  · cases h
theorem runA_le : ∀ (ps : List (UInt8 × Nat)) (most : Nat) (l : L8) (n k M : Nat), (∀ p ∈ ps, p.2 ≤ M) → (runA most l ps n k).1 ≤ n + ps.length * (10 ^ most * M) ∧ k ≤ (runA most l ps n k).2.2 ∧ (runA most l ps n k).2.2 ≤ k + ps.length
  | [], most, l, n, k, M, h => by simp [runA]
  | (c, t) :: r, most, l, n, k, M, h => by
    unfold runA
    have ht : t ≤ M := h (c, t) (by simp)
    have hr : ∀ p ∈ r, p.2 ≤ M := fun p hp => h p (by simp [hp])
    rw [List.length_cons, Nat.add_mul, Nat.one_mul]
    split
    · rename_i m l' e
      have h1 := (takesS_lt e).1
      have h2 : 10 ^ most * t ≤ 10 ^ most * M := Nat.mul_le_mul_left _ ht
      have := runA_le r most l' (n + m) (k + 1) M hr
      omega
    · have := runA_le r most l n k M hr
      omega
theorem runA_ge : ∀ (ps : List (UInt8 × Nat)) (most : Nat) (l : L8) (n k : Nat), k ≤ (runA most l ps n k).2.2
  | [], most, l, n, k => Nat.le_refl _
  | (c, t) :: r, most, l, n, k => by
    unfold runA
    split
    · rename_i m l' e
      have := runA_ge r most l' (n + m) (k + 1)
      omega
    · exact runA_ge r most l n k
theorem runA_zero : ∀ (ps : List (UInt8 × Nat)) (most : Nat) (l : L8) (n k : Nat), (runA most l ps n k).2.2 = k → (runA most l ps n k).2.1 = l ∧ (runA most l ps n k).1 = n
  | [], most, l, n, k, h => ⟨rfl, rfl⟩
  | (c, t) :: r, most, l, n, k, h => by
    unfold runA at h ⊢
    split at h
    · rename_i m l' e
      have := runA_ge r most l' (n + m) (k + 1)
      omega
    · rename_i e
      exact runA_zero r most l n k h
end Go.Proofs.YtjpaedjhihiakaaDoor
