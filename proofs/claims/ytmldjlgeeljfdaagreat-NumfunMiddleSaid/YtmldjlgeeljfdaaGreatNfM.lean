/-
  The plain laws of the median and the mode.
-/
import Derived.Test.YtmldjlgeeljfdaaGreatNfE
namespace Go.Proofs.YtmldjlgeeljfdaaGreat
open Go.RowKit Go.Sort
set_option linter.unusedVariables false
set_option linter.unusedSimpArgs false

/-- How many are as great as v. -/
def cntE (v : Int) (l : List D3) : Nat := l.countP fun y => decide (y.val = v)
/-- How many stand to x as the sign says. -/
def cntS (x : D3) (z : Int) (l : List D3) : Nat := l.countP fun y => decide (cfD y x = z)
theorem srt_perm (ds : List D3) : (srtL ds).Perm ds := by
  have h := (srt_spec ds).1.2.2
  have hs := srtL_len ds
  have key : ∀ (A : Array D3) (n : Nat), A.size = n → (A.extract 0 n).toList = A.toList := fun A n h => by subst h; simp
  have e1 : ((insertionSort ltD ds.toArray 0 ds.length).extract 0 ds.length).toList = srtL ds := key _ _ (by simpa [srtL] using hs)
  have e2 : (ds.toArray.extract 0 ds.length).toList = ds := key _ _ (by simp)
  rw [e1, e2] at h
  exact h
theorem srt_sorted (ds : List D3) : (srtL ds).Pairwise fun a b => a.val ≤ b.val := by
  rw [List.pairwise_iff_getElem]
  intro i j hi hj hij
  have h := (srt_spec ds).2 i j (Nat.zero_le _) hij (by rw [← srtL_len ds]; exact hj)
  have hi' : i < (insertionSort ltD ds.toArray 0 ds.length).size := by simpa [srtL] using hi
  have hj' : j < (insertionSort ltD ds.toArray 0 ds.length).size := by simpa [srtL] using hj
  rw [getElem!_pos _ i hi', getElem!_pos _ j hj'] at h
  have := ltD_no.1 h
  simpa [srtL] using this
theorem cntS_perm {x : D3} {z : Int} {a b : List D3} (h : a.Perm b) : cntS x z a = cntS x z b := h.countP_eq _
theorem cntE_perm {v : Int} {a b : List D3} (h : a.Perm b) : cntE v a = cntE v b := h.countP_eq _
theorem cntS_0 (x : D3) (l : List D3) : cntS x 0 l = cntE x.val l := by
  unfold cntS cntE
  congr 1
  funext y
  rw [cfD_val, decide_eq_decide, cmpI_eq]
theorem cmpI_m {x y : Int} : cmpI x y = -1 ↔ x < y := by unfold cmpI; split <;> (try split) <;> constructor <;> intro <;> omega
theorem cmpI_p {x y : Int} : cmpI x y = 1 ↔ y < x := by unfold cmpI; split <;> (try split) <;> constructor <;> intro <;> omega
/-- Of sorted numbers those that are less than one stand ahead of it, those that are greater behind it. -/
theorem sorted_less {s : List D3} {i : Nat} {m : D3} (hs : s.Pairwise fun a b => a.val ≤ b.val) (hm : s[i]? = some m) : cntS m (-1) s ≤ i ∧ cntS m 1 s + i + 1 ≤ s.length := by
  obtain ⟨hi, hm'⟩ := List.getElem?_eq_some_iff.1 hm
  have hp := List.pairwise_iff_getElem.1 hs
  constructor
  · unfold cntS
    conv => lhs; rw [← List.take_append_drop i s]
    rw [List.countP_append]
    have h1 : (s.drop i).countP (fun y => decide (cfD y m = -1)) = 0 := by
      rw [List.countP_eq_zero]
      intro y hy
      obtain ⟨j, hj, rfl⟩ := List.getElem_of_mem hy
      rw [List.getElem_drop]
      simp only [decide_eq_true_eq]
      rw [cfD_val, cmpI_m]
      have hj' : i + j < s.length := by rw [List.length_drop] at hj; omega
      rcases Nat.eq_zero_or_pos j with h0 | h0
      · subst h0; simp only [Nat.add_zero]; rw [hm']; omega
      · have := hp i (i + j) hi hj' (by omega); rw [hm'] at this; omega
    rw [h1]
    have := List.countP_le_length (p := fun y => decide (cfD y m = -1)) (l := s.take i)
    rw [List.length_take] at this
    omega
  · unfold cntS
    conv => lhs; rw [← List.take_append_drop (i + 1) s]
    rw [List.countP_append]
    have h1 : (s.take (i + 1)).countP (fun y => decide (cfD y m = 1)) = 0 := by
      rw [List.countP_eq_zero]
      intro y hy
      obtain ⟨j, hj, rfl⟩ := List.getElem_of_mem hy
      rw [List.getElem_take]
      simp only [decide_eq_true_eq]
      rw [cfD_val, cmpI_p]
      rw [List.length_take] at hj
      rcases Nat.lt_or_ge j i with h0 | h0
      · have := hp j i (by omega) hi h0; rw [hm'] at this; omega
      · obtain rfl : j = i := by omega
        rw [hm']; omega
    rw [h1]
    have := List.countP_le_length (p := fun y => decide (cfD y m = 1)) (l := s.drop (i + 1))
    rw [List.length_drop] at this
    omega
theorem cntS_pos {l : List D3} {x : D3} (h : x ∈ l) : 0 < cntS x 0 l := by
  unfold cntS
  rw [List.countP_pos_iff]
  exact ⟨x, h, by simp [cfD_self]⟩
/-- THE MEDIAN of odd many numbers. -/
theorem med_law {ds : List D3} {m : D3} (h : medO ds = some m) (ho : ds.length % 2 = 1) : cntS m (-1) ds ≤ ds.length / 2 ∧ cntS m 1 ds ≤ ds.length / 2 ∧ 0 < cntS m 0 ds := by
  rw [medO_odd ho] at h
  obtain ⟨h1, h2⟩ := sorted_less (srt_sorted ds) h
  rw [srtL_len] at h2
  rw [← cntS_perm (srt_perm ds), ← cntS_perm (srt_perm ds), ← cntS_perm (srt_perm ds)]
  exact ⟨h1, by omega, cntS_pos (List.mem_of_getElem? h)⟩

/-- Runs: what was told of those ahead. -/
structure MInv (p l : List D3) (m : Nat) (o : List D3) : Prop where
  srt : (p ++ l).Pairwise fun a b => a.val ≤ b.val
  sep : ∀ y ∈ p, ∀ z ∈ l, y.val < z.val
  le : ∀ v, cntE v p ≤ m
  cnt : ∀ v, cntE v o = if cntE v p = m ∧ 0 < cntE v p then 1 else 0
  up : o.Pairwise fun a b => a.val < b.val
  nil : p = [] → m = 0
  one : p ≠ [] → o ≠ []
theorem cntE_app (v : Int) (a b : List D3) : cntE v (a ++ b) = cntE v a + cntE v b := List.countP_append
theorem cntE_pos {v : Int} {l : List D3} : 0 < cntE v l ↔ ∃ y ∈ l, y.val = v := by
  unfold cntE
  rw [List.countP_pos_iff]
  simp
theorem cntE_one (v : Int) (x : D3) : cntE v [x] = if x.val = v then 1 else 0 := by simp [cntE, List.countP_cons]
theorem run_spec {x : D3} : ∀ {l : List D3}, l.Pairwise (fun a b => a.val ≤ b.val) → (∀ y ∈ l, x.val ≤ y.val) → (∀ y ∈ l.take (runN x l), y.val = x.val) ∧ (∀ y ∈ l.drop (runN x l), x.val < y.val) ∧ runN x l ≤ l.length
  | [], _, _ => ⟨by simp, by simp, by simp [runN]⟩
  | y :: r, hs, hx => by
    rw [List.pairwise_cons] at hs
    rw [runN]
    by_cases h : cfD y x = 0
    · rw [if_pos h]
      obtain ⟨h1, h2, h3⟩ := run_spec (x := x) hs.2 (fun z hz => hx z (List.mem_cons_of_mem _ hz))
      rw [cfD_val, cmpI_eq] at h
      refine ⟨fun z hz => ?_, fun z hz => h2 z (by simpa using hz), by simpa using h3⟩
      rw [List.take_succ_cons] at hz
      rcases List.mem_cons.1 hz with rfl | hz
      · exact h
      · exact h1 z hz
    · rw [if_neg h]
      rw [cfD_val, cmpI_eq] at h
      have hy := hx y (by simp)
      refine ⟨by simp, fun z hz => ?_, Nat.zero_le _⟩
      rcases List.mem_cons.1 hz with rfl | hz
      · omega
      · have := hs.1 z hz; omega
theorem MInv.step {p r : List D3} {x : D3} {m : Nat} {o : List D3} (h : MInv p (x :: r) m o) :
    (m < runN x (x :: r) → MInv (p ++ (x :: r).take (runN x (x :: r))) ((x :: r).drop (runN x (x :: r))) (runN x (x :: r)) [x]) ∧
    (¬ m < runN x (x :: r) → runN x (x :: r) = m → MInv (p ++ (x :: r).take (runN x (x :: r))) ((x :: r).drop (runN x (x :: r))) m (o ++ [x])) ∧
    (¬ m < runN x (x :: r) → runN x (x :: r) ≠ m → MInv (p ++ (x :: r).take (runN x (x :: r))) ((x :: r).drop (runN x (x :: r))) m o) := by
  have hl : (x :: r).Pairwise fun a b => a.val ≤ b.val := (List.pairwise_append.1 h.srt).2.1
  have hx : ∀ y ∈ x :: r, x.val ≤ y.val := fun y hy => by
    rcases List.mem_cons.1 hy with rfl | hy
    · exact Int.le_refl _
    · exact (List.pairwise_cons.1 hl).1 y hy
  obtain ⟨r1, r2, r3⟩ := run_spec hl hx
  have hpos : 0 < runN x (x :: r) := by rw [runN, if_pos (cfD_self x)]; omega
  generalize hn : runN x (x :: r) = n at *
  have hcT : ∀ v, cntE v ((x :: r).take n) = if x.val = v then n else 0 := fun v => by
    unfold cntE
    split
    · rename_i e
      have : ((x :: r).take n).countP (fun y => decide (y.val = v)) = ((x :: r).take n).length := by
        rw [List.countP_eq_length]
        intro y hy
        simp [r1 y hy, e]
      rw [this, List.length_take]
      omega
    · rename_i e
      rw [List.countP_eq_zero]
      intro y hy
      simp [r1 y hy, e]
  have hc0 : cntE x.val p = 0 := by
    rcases Nat.eq_zero_or_pos (cntE x.val p) with h0 | h0
    · exact h0
    · obtain ⟨y, hy, e⟩ := cntE_pos.1 h0
      have := h.sep y hy x (by simp)
      omega
  have hcp : ∀ v, cntE v (p ++ (x :: r).take n) = if x.val = v then n else cntE v p := fun v => by
    rw [cntE_app, hcT]
    split
    · rename_i e; rw [← e, hc0]; omega
    · omega
  have hsrt : (p ++ (x :: r).take n ++ (x :: r).drop n).Pairwise fun a b => a.val ≤ b.val := by
    rw [List.append_assoc, List.take_append_drop]; exact h.srt
  have hsep : ∀ y ∈ p ++ (x :: r).take n, ∀ z ∈ (x :: r).drop n, y.val < z.val := fun y hy z hz => by
    rcases List.mem_append.1 hy with hy | hy
    · exact h.sep y hy z (List.mem_of_mem_drop hz)
    · rw [r1 y hy]; exact r2 z hz
  have hne : p ++ (x :: r).take n ≠ [] := by
    intro e
    have := congrArg List.length e
    simp only [List.length_append, List.length_take, List.length_nil] at this
    simp only [List.length_cons] at this r3
    omega
  refine ⟨fun hm => ?_, fun hm he => ?_, fun hm he => ?_⟩
  · refine ⟨hsrt, hsep, fun v => ?_, fun v => ?_, by simp, fun e => absurd e hne, fun _ => by simp⟩
    · rw [hcp]
      split
      · exact Nat.le_refl _
      · have := h.le v; omega
    · rw [hcp, cntE_one]
      split
      · rw [if_pos ⟨rfl, hpos⟩]
      · rw [if_neg (fun k => by have := h.le v; omega)]
  · refine ⟨hsrt, hsep, fun v => ?_, fun v => ?_, ?_, fun e => absurd e hne, fun _ => by simp⟩
    · rw [hcp]
      split
      · omega
      · exact h.le v
    · rw [hcp, cntE_app, cntE_one, h.cnt]
      by_cases e : x.val = v
      · rw [if_pos e, if_pos e, ← e, hc0, if_neg (fun k => by omega), if_pos ⟨he, hpos⟩]
      · rw [if_neg e, if_neg e]; omega
    · rw [List.pairwise_append]
      refine ⟨h.up, by simp, fun y hy z hz => ?_⟩
      rw [List.mem_singleton.1 hz]
      have h1 : 0 < cntE y.val o := cntE_pos.2 ⟨y, hy, rfl⟩
      rw [h.cnt] at h1
      split at h1
      · rename_i k
        obtain ⟨w, hw, e⟩ := cntE_pos.1 k.2
        have := h.sep w hw x (by simp)
        omega
      · omega
  · refine ⟨hsrt, hsep, fun v => ?_, fun v => ?_, h.up, fun e => absurd e hne, fun _ => h.one fun e => ?_⟩
    · rw [hcp]
      split
      · omega
      · exact h.le v
    · rw [hcp, h.cnt]
      by_cases e : x.val = v
      · rw [if_pos e, ← e, hc0, if_neg (fun k => by omega), if_neg (fun k => he k.1)]
      · rw [if_neg e]
    · have := h.nil e
      omega
theorem modeGo_spec : ∀ (f : Nat) (p l : List D3) (m : Nat) (o : List D3), l.length ≤ f → MInv p l m o → ∃ m', MInv (p ++ l) [] m' (modeGo f l m o)
  | f, p, [], m, o, _, h => ⟨m, by rw [modeGo_nil]; simpa using h⟩
  | 0, p, x :: r, m, o, hl, _ => by simp at hl
  | f + 1, p, x :: r, m, o, hl, h => by
    obtain ⟨s1, s2, s3⟩ := h.step
    have hpos : 0 < runN x (x :: r) := by rw [runN, if_pos (cfD_self x)]; omega
    have hd : ((x :: r).drop (runN x (x :: r))).length ≤ f := by
      rw [List.length_drop]
      simp only [List.length_cons] at hl ⊢
      omega
    have e : p ++ (x :: r) = p ++ (x :: r).take (runN x (x :: r)) ++ (x :: r).drop (runN x (x :: r)) := by rw [List.append_assoc, List.take_append_drop]
    rw [modeGo, e]
    split
    · rename_i k
      exact modeGo_spec f _ _ _ _ hd (s1 k)
    · rename_i k
      split
      · rename_i k2
        exact modeGo_spec f _ _ _ _ hd (s2 k k2)
      · rename_i k2
        exact modeGo_spec f _ _ _ _ hd (s3 k k2)
/-- THE MODE: each number that stands most often once, rising, and no other. -/
theorem mode_law (ds : List D3) : ∃ m, (∀ v, cntE v ds ≤ m) ∧ (∀ v, cntE v (modeL ds) = if cntE v ds = m ∧ 0 < cntE v ds then 1 else 0) ∧ (modeL ds).Pairwise (fun a b => a.val < b.val) ∧ (ds ≠ [] → modeL ds ≠ []) := by
  obtain ⟨m, h⟩ := modeGo_spec ds.length [] (srtL ds) 0 [] (by rw [srtL_len]; exact Nat.le_refl _) ⟨by simpa using srt_sorted ds, by simp, by simp [cntE], by simp [cntE], by simp, fun _ => rfl, fun h => absurd rfl h⟩
  rw [List.nil_append] at h
  have e : ∀ v, cntE v (srtL ds) = cntE v ds := fun v => cntE_perm (srt_perm ds)
  refine ⟨m, fun v => e v ▸ h.le v, fun v => ?_, h.up, fun hd => h.one fun k => hd ?_⟩
  · have := h.cnt v
    rw [e] at this
    exact this
  · have := srtL_len ds
    rw [k] at this
    exact List.length_eq_zero_iff.1 this.symm
end Go.Proofs.YtmldjlgeeljfdaaGreat
