/-
  numeral: numbers as texts, and texts as numbers: in lists of bytes, with no program in sight.
-/
import Derived.Test.YtpambeengdhhmaaGreatDoorDgs
import Derived.Test.YtpambeengdhhmaaGreatDoorDecs
namespace Go.Proofs.YtpambeengdhhmaaGreatDoor
open Go.RowKit
set_option linter.unusedVariables false
set_option linter.unusedSimpArgs false
set_option maxRecDepth 100000

-- cut at a sign
def idxC (c : UInt8) : L8 → Nat
  | [] => 0
  | x :: l => if x = c then 0 else idxC c l + 1
def cutL (c : UInt8) (l : L8) : L8 × L8 × Bool := if idxC c l < l.length then (l.take (idxC c l), l.drop (idxC c l + 1), true) else (l, [], false)
theorem idxC_le (c : UInt8) : ∀ l : L8, idxC c l ≤ l.length
  | [] => Nat.le_refl _
  | x :: l => by
    have := idxC_le c l
    unfold idxC
    split <;> simp <;> omega
theorem idxC_no {c : UInt8} : ∀ {l : L8}, c ∉ l → idxC c l = l.length
  | [], h => rfl
  | x :: l, h => by
    simp only [List.mem_cons, not_or] at h
    rw [idxC, if_neg (fun e => h.1 e.symm), idxC_no h.2]
    rfl
theorem idxC_app {c : UInt8} : ∀ {a : L8} (b : L8), c ∉ a → idxC c (a ++ c :: b) = a.length
  | [], b, h => by simp [idxC]
  | x :: a, b, h => by
    simp only [List.mem_cons, not_or] at h
    rw [List.cons_append, idxC, if_neg (fun e => h.1 e.symm), idxC_app b h.2]
    rfl
theorem cutL_no {c : UInt8} {l : L8} (h : c ∉ l) : cutL c l = (l, [], false) := by rw [cutL, if_neg (by rw [idxC_no h]; omega)]
theorem cutL_app {c : UInt8} {a : L8} (b : L8) (h : c ∉ a) : cutL c (a ++ c :: b) = (a, b, true) := by
  rw [cutL, idxC_app b h, if_pos (by simp)]
  simp
theorem cutL_len (c : UInt8) (l : L8) : (cutL c l).1.length ≤ l.length ∧ (cutL c l).2.1.length ≤ l.length := by
  unfold cutL
  split <;> simp <;> omega

-- the shape
def digsB (l : L8) : Bool := !l.isEmpty && l.all isDg
theorem digsB_iff {l : L8} : digsB l = true ↔ l ≠ [] ∧ l.all isDg = true := by
  unfold digsB
  cases l <;> simp
def signP (e : L8) : L8 := if e.head? = some 45 ∨ e.head? = some 43 then e.tail else e
def expB (l : L8) : Bool := !(cutL 69 l).2.2 || (digsB (signP (cutL 69 l).2.1) && decide ((signP (cutL 69 l).2.1).length ≤ 6))
def pntB (s : L8) : Bool := ((cutL 46 s).2.2 && digsB (cutL 46 s).2.1 && ((cutL 46 s).1.isEmpty || digsB (cutL 46 s).1)) || (!(cutL 46 s).2.2 && digsB (cutL 46 s).1)
def shapeB (l : L8) : Bool := expB l && pntB (cutL 69 l).1
def expS (e : L8) : Int := if e.head? = some 45 then -(nvL (signP e) : Int) else nvL (signP e)
def allS (l : L8) : L8 := (cutL 46 (cutL 69 l).1).1 ++ (cutL 46 (cutL 69 l).1).2.1
def rawN (l : L8) : Nat := nvL (allS l)
def rawE (l : L8) : Int := expS (cutL 69 l).2.1 - (cutL 46 (cutL 69 l).1).2.1.length
noncomputable def readT (l : L8) : T4 := if shapeB l then fitU 1 false (rawN l) (rawE l) false else (false, 0, 0, false)

-- numerals
theorem isDg_dec {a : Nat} (h : a < 10) : isDg (UInt8.ofNat (48 + a)) = true ∧ (UInt8.ofNat (48 + a)).toNat = 48 + a := by
  have : (UInt8.ofNat (48 + a)).toNat = 48 + a := by rw [UInt8.toNat_ofNat']; omega
  exact ⟨isDg_iff.2 (by omega), this⟩
theorem dec_all : ∀ N : Nat, (Lib.decDigits N).all isDg = true := by
  intro N
  induction N using Nat.strongRecOn with
  | _ N ih =>
    rw [Lib.decDigits]
    split
    · rename_i h
      rw [List.all_cons, (isDg_dec h).1]
      rfl
    · rename_i h
      rw [List.all_append, ih (N / 10) (by omega), List.all_cons, (isDg_dec (Nat.mod_lt N (by decide))).1]
      rfl
theorem dec_nv : ∀ N : Nat, nvL (Lib.decDigits N) = N := by
  intro N
  induction N using Nat.strongRecOn with
  | _ N ih =>
    rw [Lib.decDigits]
    split
    · rename_i h
      show 0 * 10 + ((UInt8.ofNat (48 + N)).toNat - 48) = N
      rw [(isDg_dec h).2]
      omega
    · rename_i h
      rw [nvL, nvA_snoc]
      have := ih (N / 10) (by omega)
      rw [nvL] at this
      rw [this, (isDg_dec (Nat.mod_lt N (by decide))).2]
      omega
theorem dec_ne (N : Nat) : Lib.decDigits N ≠ [] := fun h => by
  have := Lib.nDigits_pos N
  rw [← Lib.decDigits_length, h] at this
  simp at this
theorem nvL_pad (k : Nat) (l : L8) : nvL (List.replicate k 48 ++ l) = nvL l := by
  induction k with
  | zero => rfl
  | succ k ih =>
    rw [List.replicate_succ, List.cons_append, ← ih]
    rfl
theorem not_mem_dg {l : L8} {c : UInt8} (h : l.all isDg = true) (hc : isDg c = false) : c ∉ l := fun hm => by
  have := List.all_eq_true.1 h c hm
  rw [hc] at this
  cases this

/-- A number's text, without its sign. -/
def bodyL (N : Nat) (e : Int) : L8 :=
  if e < 0 ∧ -40 ≤ e then
    let s := List.replicate ((-e).toNat + 1 - (Lib.decDigits N).length) 48 ++ Lib.decDigits N
    s.take (s.length - (-e).toNat) ++ 46 :: s.drop (s.length - (-e).toNat)
  else if e = 0 then Lib.decDigits N else Lib.decDigits N ++ 69 :: Lib.itoa e
def textL (neg : Bool) (N : Nat) (e : Int) : L8 := if neg then 45 :: bodyL N e else bodyL N e

theorem itoa_neg {n : Int} (h : n < 0) : Lib.itoa n = 45 :: Lib.decDigits (-n).toNat := by
  unfold Lib.itoa
  rw [if_pos h, show n.natAbs = (-n).toNat by omega]
theorem head_dg {l : L8} {c : UInt8} (h : l.all isDg = true) (hc : isDg c = false) : l.head? ≠ some c := fun e => by
  cases l with
  | nil => cases e
  | cons x r =>
    simp at e
    subst e
    simp [hc] at h
theorem signP_dg {l : L8} (h : l.all isDg = true) : signP l = l := by
  unfold signP
  rw [if_neg]
  rintro (e | e)
  · exact head_dg h (by decide) e
  · exact head_dg h (by decide) e
theorem dec_len {N k : Nat} (h : N < 10 ^ k) (hk : k ≠ 0) : (Lib.decDigits N).length ≤ k := by
  rw [Lib.decDigits_length]
  by_cases h0 : N = 0
  · subst h0
    have : Lib.nDigits 0 = 1 := Lib.nDigits_small (by decide)
    omega
  · rw [← nd_nDigits h0]
    exact nd_le _ _ h
theorem exp_itoa {e : Int} (h1 : -999999 ≤ e) (h2 : e ≤ 999999) : expS (Lib.itoa e) = e ∧ digsB (signP (Lib.itoa e)) = true ∧ (signP (Lib.itoa e)).length ≤ 6 := by
  by_cases h : e < 0
  · have hs : signP (Lib.itoa e) = Lib.decDigits (-e).toNat := by rw [itoa_neg h]; simp [signP]
    rw [expS, hs, itoa_neg h, dec_nv]
    refine ⟨by rw [if_pos (by rfl)]; omega, digsB_iff.2 ⟨dec_ne _, dec_all _⟩, dec_len (by omega) (by decide)⟩
  · have hs : signP (Lib.itoa e) = Lib.decDigits e.toNat := by rw [itoa_nn (by omega), signP_dg (dec_all _)]
    rw [expS, hs, itoa_nn (by omega), dec_nv, if_neg (head_dg (dec_all _) (by decide))]
    exact ⟨by omega, digsB_iff.2 ⟨dec_ne _, dec_all _⟩, dec_len (by omega) (by decide)⟩
/-- What is told is read. -/
theorem body_read {N : Nat} {e : Int} (h1 : -999999 ≤ e) (h2 : e ≤ 999999) : shapeB (bodyL N e) = true ∧ rawN (bodyL N e) = N ∧ rawE (bodyL N e) = e ∧ (bodyL N e).head? ≠ some 45 := by
  have hD := dec_all N
  have h69 : isDg 69 = false := by decide
  have h46 : isDg 46 = false := by decide
  have h45 : isDg 45 = false := by decide
  have hDb : digsB (Lib.decDigits N) = true := digsB_iff.2 ⟨dec_ne _, hD⟩
  unfold bodyL
  split
  · rename_i he
    obtain ⟨s, hs⟩ : ∃ s, s = List.replicate ((-e).toNat + 1 - (Lib.decDigits N).length) 48 ++ Lib.decDigits N := ⟨_, rfl⟩
    simp only [← hs]
    have hsd : s.all isDg = true := by rw [hs, List.all_append, hD]; simp; right; decide
    have hsl : (-e).toNat + 1 ≤ s.length := by rw [hs]; simp; omega
    obtain ⟨A, hA⟩ : ∃ A, A = s.take (s.length - (-e).toNat) := ⟨_, rfl⟩
    obtain ⟨B, hB⟩ : ∃ B, B = s.drop (s.length - (-e).toNat) := ⟨_, rfl⟩
    rw [← hA, ← hB]
    have hAB : A ++ B = s := by rw [hA, hB, List.take_append_drop]
    have hab := hsd
    rw [← hAB, List.all_append, Bool.and_eq_true] at hab
    have lA : A.length = s.length - (-e).toNat := by rw [hA, List.length_take]; omega
    have lB : B.length = (-e).toNat := by rw [hB, List.length_drop]; omega
    have c1 : cutL 69 (A ++ 46 :: B) = (A ++ 46 :: B, [], false) := cutL_no (by
      simp only [List.mem_append, List.mem_cons, not_or]
      exact ⟨not_mem_dg hab.1 h69, by decide, not_mem_dg hab.2 h69⟩)
    have c2 : cutL 46 (A ++ 46 :: B) = (A, B, true) := cutL_app B (not_mem_dg hab.1 h46)
    have dA : digsB A = true := digsB_iff.2 ⟨fun e => by rw [e] at lA; simp at lA; omega, hab.1⟩
    have dB : digsB B = true := digsB_iff.2 ⟨fun e => by rw [e] at lB; simp at lB; omega, hab.2⟩
    refine ⟨?_, ?_, ?_, ?_⟩
    · simp [shapeB, expB, pntB, c1, c2, dA, dB]
    · simp only [rawN, allS, c1, c2]
      rw [hAB, hs, nvL_pad, dec_nv]
    · simp only [rawE, c1, c2, lB]
      have : expS [] = 0 := rfl
      omega
    · cases A with
      | nil => simp at lA; omega
      | cons a r => exact fun q => head_dg hab.1 h45 q
  · rename_i he
    split
    · rename_i h0
      subst h0
      have c1 : cutL 69 (Lib.decDigits N) = (Lib.decDigits N, [], false) := cutL_no (not_mem_dg hD h69)
      have c2 : cutL 46 (Lib.decDigits N) = (Lib.decDigits N, [], false) := cutL_no (not_mem_dg hD h46)
      refine ⟨?_, ?_, ?_, head_dg hD h45⟩
      · simp [shapeB, expB, pntB, c1, c2, hDb]
      · simp [rawN, allS, c1, c2, dec_nv]
      · simp only [rawE, c1, c2]; rfl
    · have c1 : cutL 69 (Lib.decDigits N ++ 69 :: Lib.itoa e) = (Lib.decDigits N, Lib.itoa e, true) := cutL_app _ (not_mem_dg hD h69)
      have c2 : cutL 46 (Lib.decDigits N) = (Lib.decDigits N, [], false) := cutL_no (not_mem_dg hD h46)
      obtain ⟨x1, x2, x3⟩ := exp_itoa h1 h2
      refine ⟨?_, ?_, ?_, ?_⟩
      · simp [shapeB, expB, pntB, c1, c2, hDb, x2, x3]
      · simp [rawN, allS, c1, c2, dec_nv]
      · simp [rawE, c1, c2, x1]
      · have := dec_ne N
        cases hd : Lib.decDigits N with
        | nil => exact absurd hd this
        | cons a r =>
          rw [hd] at hD
          exact fun q => head_dg hD h45 q
/-- Two texts that are the same are the same number's. -/
theorem text_inj {g g' : Bool} {N N' : Nat} {e e' : Int} (h1 : -999999 ≤ e) (h2 : e ≤ 999999) (h3 : -999999 ≤ e') (h4 : e' ≤ 999999) (h : textL g N e = textL g' N' e') : g = g' ∧ N = N' ∧ e = e' := by
  obtain ⟨a1, a2, a3, a4⟩ := body_read (N := N) h1 h2
  obtain ⟨b1, b2, b3, b4⟩ := body_read (N := N') h3 h4
  have key : bodyL N e = bodyL N' e' → N = N' ∧ e = e' := fun q => ⟨by rw [← a2, q, b2], by rw [← a3, q, b3]⟩
  unfold textL at h
  cases g <;> cases g' <;> simp at h
  · exact ⟨rfl, key h⟩
  · rw [h] at a4; simp at a4
  · rw [← h] at b4; simp at b4
  · exact ⟨rfl, key h⟩
-- digits cut off
theorem nvA_eq : ∀ (l : L8) (n : Nat), nvA n l = n * 10 ^ l.length + nvL l
  | [], n => by simp [nvA, nvL]
  | c :: l, n => by
    show nvA (n * 10 + (c.toNat - 48)) l = n * 10 ^ (l.length + 1) + nvA (0 * 10 + (c.toNat - 48)) l
    rw [nvA_eq l, nvA_eq l (0 * 10 + (c.toNat - 48)), Nat.pow_succ, Nat.add_mul, Nat.add_mul, Nat.mul_assoc n 10, Nat.mul_comm 10 (10 ^ l.length)]
    omega
theorem nvL_app (a b : L8) : nvL (a ++ b) = nvL a * 10 ^ b.length + nvL b := by
  rw [← nvA_eq]
  simp [nvL, nvA, List.foldl_append]
theorem nvL_cons (c : UInt8) (l : L8) : nvL (c :: l) = (c.toNat - 48) * 10 ^ l.length + nvL l := by
  have := nvL_app [c] l
  rw [List.singleton_append] at this
  rw [this]
  congr 2
  show 0 * 10 + (c.toNat - 48) = c.toNat - 48
  omega
def lz (l : L8) : L8 := l.dropWhile (· == 48)
theorem nvL_lz : ∀ l : L8, nvL (lz l) = nvL l
  | [] => rfl
  | c :: l => by
    unfold lz
    rw [List.dropWhile_cons]
    split
    · rename_i h
      have : c = 48 := by simpa using h
      rw [nvL_cons, this]
      have := nvL_lz l
      unfold lz at this
      rw [this]
      simp
    · rfl
theorem lz_head {l : L8} {c : UInt8} {r : L8} (h : lz l = c :: r) : c ≠ 48 := by
  intro e
  have := List.head?_dropWhile_not (p := (· == (48 : UInt8))) l
  unfold lz at h
  rw [h] at this
  simp [e] at this
theorem lz_all {l : L8} (h : l.all isDg = true) : (lz l).all isDg = true := by
  rw [List.all_eq_true] at h ⊢
  exact fun x hx => h x ((List.dropWhile_sublist _).subset hx)
theorem nvL_nz {l : L8} {c : UInt8} {r : L8} (h : l = c :: r) (hd : l.all isDg = true) (hc : c ≠ 48) : 10 ^ (l.length - 1) ≤ nvL l := by
  subst h
  rw [nvL_cons]
  have h1 : isDg c = true := by simp at hd; exact hd.1
  have h2 := isDg_iff.1 h1
  have h3 : c.toNat ≠ 48 := fun e => hc (UInt8.toNat_inj.1 e)
  have h4 : 1 * 10 ^ r.length ≤ (c.toNat - 48) * 10 ^ r.length := Nat.mul_le_mul_right _ (by omega)
  simp only [List.length_cons, Nat.add_sub_cancel]
  omega
theorem nvL_zero : ∀ {l : L8}, l.all isDg = true → (nvL l = 0 ↔ l.all (· == 48) = true)
  | [], h => by simp [nvL, nvA]
  | c :: l, h => by
    simp only [List.all_cons, Bool.and_eq_true] at h ⊢
    have h2 := isDg_iff.1 h.1
    rw [nvL_cons, ← nvL_zero h.2]
    have h5 : 0 < 10 ^ l.length := Nat.pow_pos (by decide)
    constructor
    · intro e
      have e1 : (c.toNat - 48) * 10 ^ l.length = 0 := by omega
      rcases Nat.mul_eq_zero.1 e1 with q | q
      · refine ⟨?_, by omega⟩
        have : c = 48 := UInt8.toNat_inj.1 (by show c.toNat = 48; omega)
        simp [this]
      · omega
    · rintro ⟨q, r⟩
      have : c = 48 := by simpa using q
      rw [this, r]
      simp
theorem fit_cut {m : Int} {L : L8} {e : Int} {more : Bool} (hd : L.all isDg = true) (h0 : ∀ c r, L = c :: r → c ≠ 48) (hL : 38 < L.length) (hm : more = true ↔ ¬ (L.drop 38).all (· == 48) = true) :
    fitU m false (nvL L) e false = fitU m false (nvL (L.take 38)) (e + (L.length - 38 : Nat)) more := by
  have hda : (L.take 38).all isDg = true ∧ (L.drop 38).all isDg = true := by
    rw [← Bool.and_eq_true, ← List.all_append, List.take_append_drop]
    exact hd
  have hlen : (L.drop 38).length = L.length - 38 := List.length_drop
  have hnv : nvL L = nvL (L.take 38) * 10 ^ (L.length - 38) + nvL (L.drop 38) := by
    have := nvL_app (L.take 38) (L.drop 38)
    rwa [List.take_append_drop, hlen] at this
  have hr : nvL (L.drop 38) < 10 ^ (L.length - 38) := nvL_lt hda.2 (by omega)
  have hnd : 35 ≤ nd (nvL (L.take 38)) := by
    have ht : (L.take 38).length = 38 := by rw [List.length_take]; omega
    obtain ⟨c, r, hcr⟩ : ∃ c r, L = c :: r := by cases L with | nil => simp at hL | cons c r => exact ⟨c, r, rfl⟩
    have h2 : L.take 38 = c :: r.take 37 := by rw [hcr]; rfl
    have h3 := nvL_nz h2 hda.1 (h0 c r hcr)
    rw [ht] at h3
    have := nd_gt (n := nvL (L.take 38)) (k := 37) h3
    omega
  have hmm : more = true ↔ false = true ∨ nvL (L.drop 38) ≠ 0 := by
    rw [hm, Ne, nvL_zero hda.2]
    simp
  have h := fitU_more (m := m) (neg := false) (e := e + (L.length - 38 : Nat)) hnd hr hmm
  rw [hnv, ← h]
  congr 1
  omega
end Go.Proofs.YtpambeengdhhmaaGreatDoor
