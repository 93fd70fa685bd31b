/-
  The document's reading of durations: places in a text, against what is left of it; no program in sight.
-/
import Derived.Test.YtjpaedjhihiakaaDoorLexP
namespace Go.Proofs.YtjpaedjhihiakaaDoor
open Go.RowKit
set_option linter.unusedVariables false
set_option linter.unusedSimpArgs false
set_option maxRecDepth 100000

def sgn1 (l : L8) : Nat := if l.head? = some 45 then 1 else 0
theorem uns_drop (l : L8) : (unsS l).1 = l.drop (sgn1 l) := by
  unfold unsS sgn1
  split
  · cases l <;> rfl
  · rfl
theorem uns_head (l : L8) : (unsS l).1.head? = l[sgn1 l]? := by rw [uns_drop, List.head?_drop]
theorem uns_tail (l : L8) : (unsS l).1.tail = l.drop (sgn1 l + 1) := by rw [uns_drop, List.tail_drop]
theorem uns_neg (l : L8) : (unsS l).2 = decide (l.head? = some 45) := by
  unfold unsS
  split <;> simp [*]
/-- A piece read at a place: how much, where it ends, whether there is one. -/
def PcOk (l : L8) (at' : Nat) (c : UInt8) (t most n k : Nat) (b : Bool) : Prop :=
  b = true ∧ takesS most (l.drop at') c t = some (n, l.drop k) ∧ at' < k ∧ k ≤ l.length ∨ b = false ∧ takesS most (l.drop at') c t = none ∧ n = 0 ∧ k = at'
theorem runA_nil (most : Nat) (l : L8) (n k : Nat) : runA most l [] n k = (n, l, k) := rfl
theorem PcOk.run {l : L8} {a : Nat} {c : UInt8} {t most n k : Nat} {b : Bool} (h : PcOk l a c t most n k b) (ps : List (UInt8 × Nat)) (n0 k0 : Nat) :
    runA most (l.drop a) ((c, t) :: ps) n0 k0 = runA most (l.drop k) ps (n0 + n) (k0 + if b then 1 else 0) := by
  rcases h with ⟨rfl, h, _⟩ | ⟨rfl, h, rfl, rfl⟩
  · rw [runA, h]; rfl
  · rw [runA, h]; rfl
theorem PcOk.le {l : L8} {a : Nat} {c : UInt8} {t most n k : Nat} {b : Bool} (h : PcOk l a c t most n k b) : a ≤ k ∧ (a ≤ l.length → k ≤ l.length) ∧ n ≤ 10 ^ most * t ∧ (b = false → k = a) := by
  rcases h with ⟨rfl, h, h1, h2⟩ | ⟨rfl, h, rfl, rfl⟩
  · exact ⟨by omega, fun _ => h2, (takesS_lt h).1, fun e => by cases e⟩
  · exact ⟨by omega, id, by omega, fun _ => rfl⟩
theorem drop_nil {l : L8} {k : Nat} : l.drop k = [] ↔ l.length ≤ k := List.drop_eq_nil_iff
/-- Digits from one place on. -/
def DgR (l : L8) (a k : Nat) : Prop := a ≤ k ∧ k ≤ l.length ∧ ((l.drop a).take (k - a)).all isDg = true
theorem DgR.zero {l : L8} {a : Nat} (h : a ≤ l.length) : DgR l a a := ⟨Nat.le_refl _, h, by simp⟩
theorem get_drop {l : L8} {a k : Nat} (h : a ≤ k) : (l.drop a)[k - a]? = l[k]? := by rw [List.getElem?_drop]; congr 1; omega
theorem DgR.succ {l : L8} {a k : Nat} {c : UInt8} (h : DgR l a k) (hg : l[k]? = some c) (hc : isDg c = true) : DgR l a (k + 1) ∧ nvL ((l.drop a).take (k + 1 - a)) = nvL ((l.drop a).take (k - a)) * 10 + (c.toNat - 48) := by
  have hk := (List.getElem?_eq_some_iff.1 hg).1
  obtain ⟨h1, h2, h3⟩ := h
  have hg2 : (l.drop a)[k - a]? = some c := by rw [get_drop h1, hg]
  obtain ⟨q1, q2⟩ := List.getElem?_eq_some_iff.1 hg2
  rw [show k + 1 - a = (k - a) + 1 by omega]
  refine ⟨⟨by omega, by omega, ?_⟩, nvL_take hg2⟩
  rw [show k + 1 - a = (k - a) + 1 by omega, List.take_succ_eq_append_getElem q1, q2, List.all_append, h3]
  simp [hc]
theorem DgR.le {l : L8} {a k : Nat} (h : DgR l a k) : k - a ≤ ndg (l.drop a) := by
  obtain ⟨h1, h2, h3⟩ := h
  apply Classical.byContradiction
  intro hn
  have h4 : ndg (l.drop a) < (l.drop a).length := by rw [List.length_drop]; omega
  have h5 := ndg_end _ _ (List.getElem?_eq_getElem h4)
  rw [List.all_eq_true] at h3
  have h6 := h3 ((l.drop a)[ndg (l.drop a)]) (List.mem_of_getElem? (i := ndg (l.drop a)) (by rw [List.getElem?_take]; rw [if_pos (by omega)]; exact List.getElem?_eq_getElem h4))
  rw [h5] at h6
  cases h6
theorem DgR.eq {l : L8} {a k : Nat} (h : DgR l a k) (he : ∀ x, l[k]? = some x → isDg x = false) : ndg (l.drop a) = k - a := by
  have h0 := h.le
  have h7 := ndg_le (l.drop a)
  apply Classical.byContradiction
  intro hn
  have h4 : k - a < (l.drop a).length := by omega
  have h5 := ndg_dig _ _ _ (by omega : k - a < ndg (l.drop a)) (List.getElem?_eq_getElem h4)
  have h6 := he ((l.drop a)[k - a]) (by rw [← get_drop h.1]; exact List.getElem?_eq_getElem h4)
  rw [h6] at h5
  cases h5
theorem DgR.lt {l : L8} {a k m : Nat} (h : DgR l a k) (hm : k - a ≤ m) : nvL ((l.drop a).take (k - a)) < 10 ^ m := nvL_lt h.2.2 (by rw [List.length_take]; omega)
theorem PcOk.no {l : L8} {a k : Nat} {c : UInt8} {t most : Nat} (hd : DgR l a k) (hE : k - a > most ∨ ndg (l.drop a) = k - a) (hf : k = a ∨ k - a > most ∨ l[k]? ≠ some c) : PcOk l a c t most 0 a false := by
  refine .inr ⟨rfl, ?_, rfl, rfl⟩
  have h0 := hd.le
  unfold takesS
  rw [if_neg]
  rintro ⟨h1, h2, h3⟩
  rcases hE with hE | hE
  · omega
  · rw [hE, get_drop hd.1] at h1
    rcases hf with hf | hf | hf
    · omega
    · omega
    · exact hf h1
theorem PcOk.yes {l : L8} {a k : Nat} {c : UInt8} {t most : Nat} (hd : DgR l a k) (hE : ndg (l.drop a) = k - a) (h1 : k ≠ a) (h2 : ¬ k - a > most) (hc : l[k]? = some c) : PcOk l a c t most (nvL ((l.drop a).take (k - a)) * t) (k + 1) true := by
  have hk := (List.getElem?_eq_some_iff.1 hc).1
  have hak := hd.1
  refine .inl ⟨rfl, ?_, by omega, by omega⟩
  unfold takesS
  rw [if_pos ⟨by rw [hE, get_drop hak, hc], by omega, by omega⟩, hE, List.drop_drop, show a + (k - a + 1) = k + 1 by omega]
/-- What begun tells. -/
theorem days_noP {l : L8} (h : l[sgn1 l]? ≠ some 80) : daysS l = none ∧ monthsS l = none := by
  rw [← uns_head] at h
  exact ⟨by rw [daysS, if_pos h], by rw [monthsS, if_pos h]⟩
theorem days_day {l : L8} {n k : Nat} {b : Bool} (h : l[sgn1 l]? = some 80) (hp : PcOk l (sgn1 l + 1) 68 86400 12 n k b) (hk : k = l.length) : daysS l = if b then signedS n (decide (l.head? = some 45)) else none := by
  rw [daysS, if_neg (by rw [uns_head]; simp [h]), uns_tail, hp.run, uns_neg, hk]
  have e : l.drop l.length = [] := by simp
  rw [e]
  cases b <;> simp [runA]
theorem days_noT {l : L8} {n k : Nat} {b : Bool} (h : l[sgn1 l]? = some 80) (hp : PcOk l (sgn1 l + 1) 68 86400 12 n k b) (hk : k < l.length) (hT : l[k]? ≠ some 84) : daysS l = none := by
  rw [daysS, if_neg (by rw [uns_head]; simp [h]), uns_tail, hp.run]
  have e : l.drop k ≠ [] := by rw [Ne, drop_nil]; omega
  rw [runA_nil, if_neg e, if_pos (by rw [List.head?_drop]; exact hT)]
theorem days_T {l : L8} {n k n1 k1 n2 k2 n3 k3 : Nat} {b b1 b2 b3 : Bool} (h : l[sgn1 l]? = some 80) (hp : PcOk l (sgn1 l + 1) 68 86400 12 n k b) (hk : k < l.length) (hT : l[k]? = some 84)
    (h1 : PcOk l (k + 1) 72 3600 12 n1 k1 b1) (h2 : PcOk l k1 77 60 12 n2 k2 b2) (h3 : PcOk l k2 83 1 12 n3 k3 b3) : daysS l = if k + 1 = l.length ∨ k3 ≠ l.length then none else signedS (n + n1 + n2 + n3) (decide (l.head? = some 45)) := by
  rw [daysS, if_neg (by rw [uns_head]; simp [h]), uns_tail, hp.run, uns_neg]
  have e : l.drop k ≠ [] := by rw [Ne, drop_nil]; omega
  rw [runA_nil, if_neg e, if_neg (by rw [List.head?_drop]; simp [hT]), List.tail_drop, h1.run, h2.run, h3.run, runA_nil]
  have l1 := h1.le; have l2 := h2.le; have l3 := h3.le
  have l4 := l1.2.1 (by omega); have l5 := l2.2.1 l4; have l6 := l3.2.1 l5
  by_cases hc : k + 1 = l.length ∨ k3 ≠ l.length
  · rw [if_pos hc, if_pos]
    rcases hc with hc | hc
    · right
      have : b1 = false := by
        apply b_false
        rintro rfl
        rcases h1 with ⟨_, _, q1, q2⟩ | ⟨q, _⟩
        · omega
        · cases q
      have e1 := l1.2.2.2 this
      have : b2 = false := by
        apply b_false
        rintro rfl
        rcases h2 with ⟨_, _, q1, q2⟩ | ⟨q, _⟩
        · omega
        · cases q
      have e2 := l2.2.2.2 this
      have : b3 = false := by
        apply b_false
        rintro rfl
        rcases h3 with ⟨_, _, q1, q2⟩ | ⟨q, _⟩
        · omega
        · cases q
      simp [*]
    · left
      rw [Ne, drop_nil]
      omega
  · rw [if_neg hc, if_neg, show n + n1 + n2 + n3 = 0 + n + (0 + n1 + n2 + n3) by omega]
    rintro (q | q)
    · exact q (drop_nil.2 (by omega))
    · have e1 : b1 = false := by apply b_false; rintro rfl; simp at q
      have e2 : b2 = false := by apply b_false; rintro rfl; simp at q
      have e3 : b3 = false := by apply b_false; rintro rfl; simp at q
      have := l1.2.2.2 e1; have := l2.2.2.2 e2; have := l3.2.2.2 e3
      omega
theorem months_P {l : L8} {n1 k1 n2 k2 : Nat} {b1 b2 : Bool} (h : l[sgn1 l]? = some 80)
    (h1 : PcOk l (sgn1 l + 1) 89 12 15 n1 k1 b1) (h2 : PcOk l k1 77 1 15 n2 k2 b2) : monthsS l = if sgn1 l + 1 = l.length ∨ k2 ≠ l.length then none else signedS (n1 + n2) (decide (l.head? = some 45)) := by
  have hk := (List.getElem?_eq_some_iff.1 h).1
  rw [monthsS, if_neg (by rw [uns_head]; simp [h]), uns_tail, uns_neg, h1.run, h2.run, runA_nil]
  have l1 := h1.le; have l2 := h2.le
  have l4 := l1.2.1 (by omega); have l5 := l2.2.1 l4
  by_cases hc : sgn1 l + 1 = l.length ∨ k2 ≠ l.length
  · rw [if_pos hc, if_pos]
    rcases hc with hc | hc
    · right
      have : b1 = false := by
        apply b_false
        rintro rfl
        rcases h1 with ⟨_, _, q1, q2⟩ | ⟨q, _⟩
        · omega
        · cases q
      have e1 := l1.2.2.2 this
      have : b2 = false := by
        apply b_false
        rintro rfl
        rcases h2 with ⟨_, _, q1, q2⟩ | ⟨q, _⟩
        · omega
        · cases q
      simp [*]
    · left
      rw [Ne, drop_nil]
      omega
  · rw [if_neg hc, if_neg, show n1 + n2 = 0 + n1 + n2 by omega]
    rintro (q | q)
    · exact q (drop_nil.2 (by omega))
    · have e1 : b1 = false := by apply b_false; rintro rfl; simp at q
      have e2 : b2 = false := by apply b_false; rintro rfl; simp at q
      have := l1.2.2.2 e1; have := l2.2.2.2 e2
      omega
end Go.Proofs.YtjpaedjhihiakaaDoor
