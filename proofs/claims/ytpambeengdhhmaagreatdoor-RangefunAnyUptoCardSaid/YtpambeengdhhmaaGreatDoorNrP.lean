/-
  numeral: numbers as texts, and texts as numbers: in lists of bytes, with no program in sight.
-/
import Derived.Test.YtpambeengdhhmaaGreatDoorTxS
import Derived.Test.YtpambeengdhhmaaGreatDoorDecs
namespace Go.Proofs.YtpambeengdhhmaaGreatDoor
open Go.RowKit
set_option linter.unusedVariables false
set_option linter.unusedSimpArgs false
set_option maxRecDepth 100000

-- cut at a sign
def idxC (c : UInt8) : L8 → Nat
  | [] => 0
  | x :: l => if x = c then 0 else idxC c l + 1
def cutL (c : UInt8) (l : L8) : L8 × L8 × Bool := if idxC c l < l.length then (l.take (idxC c l), l.drop (idxC c l + 1), true) else (l, [], false)
theorem cutL_len (c : UInt8) (l : L8) : (cutL c l).1.length ≤ l.length ∧ (cutL c l).2.1.length ≤ l.length := by
  unfold cutL
  split <;> simp <;> omega

-- the shape
def digsB (l : L8) : Bool := !l.isEmpty && l.all isDg
theorem digsB_iff {l : L8} : digsB l = true ↔ l ≠ [] ∧ l.all isDg = true := by
  unfold digsB
  cases l <;> simp
def signP (e : L8) : L8 := if e.head? = some 45 ∨ e.head? = some 43 then e.tail else e
def expB (l : L8) : Bool := !(cutL 69 l).2.2 || (digsB (signP (cutL 69 l).2.1) && decide ((signP (cutL 69 l).2.1).length ≤ 6))
def pntB (s : L8) : Bool := ((cutL 46 s).2.2 && digsB (cutL 46 s).2.1 && ((cutL 46 s).1.isEmpty || digsB (cutL 46 s).1)) || (!(cutL 46 s).2.2 && digsB (cutL 46 s).1)
def shapeB (l : L8) : Bool := expB l && pntB (cutL 69 l).1
def expS (e : L8) : Int := if e.head? = some 45 then -(nvL (signP e) : Int) else nvL (signP e)
def allS (l : L8) : L8 := (cutL 46 (cutL 69 l).1).1 ++ (cutL 46 (cutL 69 l).1).2.1
def rawN (l : L8) : Nat := nvL (allS l)
def rawE (l : L8) : Int := expS (cutL 69 l).2.1 - (cutL 46 (cutL 69 l).1).2.1.length
noncomputable def readT (l : L8) : T4 := if shapeB l then fitU 1 false (rawN l) (rawE l) false else (false, 0, 0, false)

-- numerals
theorem nvA_eq : ∀ (l : L8) (n : Nat), nvA n l = n * 10 ^ l.length + nvL l
  | [], n => by simp [nvA, nvL]
  | c :: l, n => by
    show nvA (n * 10 + (c.toNat - 48)) l = n * 10 ^ (l.length + 1) + nvA (0 * 10 + (c.toNat - 48)) l
    rw [nvA_eq l, nvA_eq l (0 * 10 + (c.toNat - 48)), Nat.pow_succ, Nat.add_mul, Nat.add_mul, Nat.mul_assoc n 10, Nat.mul_comm 10 (10 ^ l.length)]
    omega
theorem nvL_app (a b : L8) : nvL (a ++ b) = nvL a * 10 ^ b.length + nvL b := by
  rw [← nvA_eq]
  simp [nvL, nvA, List.foldl_append]
theorem nvL_cons (c : UInt8) (l : L8) : nvL (c :: l) = (c.toNat - 48) * 10 ^ l.length + nvL l := by
  have := nvL_app [c] l
  rw [List.singleton_append] at this
  rw [this]
  congr 2
  show 0 * 10 + (c.toNat - 48) = c.toNat - 48
  omega
def lz (l : L8) : L8 := l.dropWhile (· == 48)
theorem nvL_lz : ∀ l : L8, nvL (lz l) = nvL l
  | [] => rfl
  | c :: l => by
    unfold lz
    rw [List.dropWhile_cons]
    split
    · rename_i h
      have : c = 48 := by simpa using h
      rw [nvL_cons, this]
      have := nvL_lz l
      unfold lz at this
      rw [this]
      simp
    · rfl
theorem lz_head {l : L8} {c : UInt8} {r : L8} (h : lz l = c :: r) : c ≠ 48 := by
  intro e
  have := List.head?_dropWhile_not (p := (· == (48 : UInt8))) l
  unfold lz at h
  rw [h] at this
  simp [e] at this
theorem lz_all {l : L8} (h : l.all isDg = true) : (lz l).all isDg = true := by
  rw [List.all_eq_true] at h ⊢
  exact fun x hx => h x ((List.dropWhile_sublist _).subset hx)
theorem nvL_nz {l : L8} {c : UInt8} {r : L8} (h : l = c :: r) (hd : l.all isDg = true) (hc : c ≠ 48) : 10 ^ (l.length - 1) ≤ nvL l := by
  subst h
  rw [nvL_cons]
  have h1 : isDg c = true := by simp at hd; exact hd.1
  have h2 := isDg_iff.1 h1
  have h3 : c.toNat ≠ 48 := fun e => hc (UInt8.toNat_inj.1 e)
  have h4 : 1 * 10 ^ r.length ≤ (c.toNat - 48) * 10 ^ r.length := Nat.mul_le_mul_right _ (by omega)
  simp only [List.length_cons, Nat.add_sub_cancel]
  omega
theorem nvL_zero : ∀ {l : L8}, l.all isDg = true → (nvL l = 0 ↔ l.all (· == 48) = true)
  | [], h => by simp [nvL, nvA]
  | c :: l, h => by
    simp only [List.all_cons, Bool.and_eq_true] at h ⊢
    have h2 := isDg_iff.1 h.1
    rw [nvL_cons, ← nvL_zero h.2]
    have h5 : 0 < 10 ^ l.length := Nat.pow_pos (by decide)
    constructor
    · intro e
      have e1 : (c.toNat - 48) * 10 ^ l.length = 0 := by omega
      rcases Nat.mul_eq_zero.1 e1 with q | q
      · refine ⟨?_, by omega⟩
        have : c = 48 := UInt8.toNat_inj.1 (by show c.toNat = 48; omega)
        simp [this]
      · omega
    · rintro ⟨q, r⟩
      have : c = 48 := by simpa using q
      rw [this, r]
      simp
theorem fit_cut {m : Int} {L : L8} {e : Int} {more : Bool} (hd : L.all isDg = true) (h0 : ∀ c r, L = c :: r → c ≠ 48) (hL : 38 < L.length) (hm : more = true ↔ ¬ (L.drop 38).all (· == 48) = true) :
    fitU m false (nvL L) e false = fitU m false (nvL (L.take 38)) (e + (L.length - 38 : Nat)) more := by
  have hda : (L.take 38).all isDg = true ∧ (L.drop 38).all isDg = true := by
    rw [← Bool.and_eq_true, ← List.all_append, List.take_append_drop]
    exact hd
  have hlen : (L.drop 38).length = L.length - 38 := List.length_drop
  have hnv : nvL L = nvL (L.take 38) * 10 ^ (L.length - 38) + nvL (L.drop 38) := by
    have := nvL_app (L.take 38) (L.drop 38)
    rwa [List.take_append_drop, hlen] at this
  have hr : nvL (L.drop 38) < 10 ^ (L.length - 38) := nvL_lt hda.2 (by omega)
  have hnd : 35 ≤ nd (nvL (L.take 38)) := by
    have ht : (L.take 38).length = 38 := by rw [List.length_take]; omega
    obtain ⟨c, r, hcr⟩ : ∃ c r, L = c :: r := by cases L with | nil => simp at hL | cons c r => exact ⟨c, r, rfl⟩
    have h2 : L.take 38 = c :: r.take 37 := by rw [hcr]; rfl
    have h3 := nvL_nz h2 hda.1 (h0 c r hcr)
    rw [ht] at h3
    have := nd_gt (n := nvL (L.take 38)) (k := 37) h3
    omega
  have hmm : more = true ↔ false = true ∨ nvL (L.drop 38) ≠ 0 := by
    rw [hm, Ne, nvL_zero hda.2]
    simp
  have h := fitU_more (m := m) (neg := false) (e := e + (L.length - 38 : Nat)) hnd hr hmm
  rw [hnv, ← h]
  congr 1
  omega
end Go.Proofs.YtpambeengdhhmaaGreatDoor
