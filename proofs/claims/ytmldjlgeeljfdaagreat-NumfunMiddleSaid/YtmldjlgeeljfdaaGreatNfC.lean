/-
  numfun.Median, Mode of numbers.
-/
import Derived.Test.YtmldjlgeeljfdaaGreatNfB
namespace Go.Proofs.YtmldjlgeeljfdaaGreat
open Go.RowKit Go.Sort
set_option linter.unusedVariables false
set_option linter.unusedSimpArgs false
set_option maxRecDepth 100000

/-- Some numbers in their order. -/
def srtL (ds : List D3) : List D3 := (insertionSort ltD ds.toArray 0 ds.length).toList
/-- A number as a multiple of the least step. -/
def D3.val (x : D3) : Int := V x.g x.n x.e (-6176)
theorem cfD_val (x y : D3) : cfD x y = cmpI x.val y.val := cmpZ_any x.lo y.lo
theorem ltD_val {x y : D3} : ltD x y = true ↔ x.val < y.val := by unfold ltD; rw [decide_eq_true_iff, cfD_val, cmpI_lt]
theorem ltD_no {x y : D3} : ltD x y = false ↔ y.val ≤ x.val := by
  cases h : ltD x y with
  | true => have := ltD_val.1 h; simp; omega
  | false =>
    have : ¬ x.val < y.val := fun k => by rw [ltD_val.2 k] at h; cases h
    simp; omega
theorem swo_ltD : SWO ltD := ⟨fun x => ltD_no.2 (Int.le_refl _), fun x y z h k => ltD_val.2 (Int.lt_trans (ltD_val.1 h) (ltD_val.1 k)), fun x y z h k => ltD_no.2 (Int.le_trans (ltD_no.1 k) (ltD_no.1 h))⟩
theorem srt_spec (ds : List D3) : PermIn 0 ds.length ds.toArray (insertionSort ltD ds.toArray 0 ds.length) ∧ SortedIn ltD 0 ds.length (insertionSort ltD ds.toArray 0 ds.length) := insertionSort_holds swo_ltD ds.toArray 0 ds.length (Nat.zero_le _) (by simp)
theorem srtL_len (ds : List D3) : (srtL ds).length = ds.length := by
  have := (srt_spec ds).1.1
  simpa [srtL] using this
theorem decL_at : ∀ {ds : List D3} {j : Nat}, j < ds.length * 4 → (decL ds)[j]? = some (.v ((encD ds.toArray[j / 4]!)[j % 4]!))
  | [], j, h => by simp at h
  | x :: ds, j, h => by
    have e : decL (x :: ds) = decC x ++ decL ds := by simp [decL]
    by_cases hj : j < 4
    · rw [e, List.getElem?_append_left (by simp [decC]; exact hj)]
      match j, hj with
      | 0, _ => rfl
      | 1, _ => rfl
      | 2, _ => rfl
      | 3, _ => rfl
    · rw [e, List.getElem?_append_right (by simp [decC]; omega)]
      have hlt : j - 4 < ds.length * 4 := by simp at h; omega
      have := decL_at (ds := ds) (j := j - 4) hlt
      have e1 : j / 4 = (j - 4) / 4 + 1 := by omega
      have e2 : j % 4 = (j - 4) % 4 := by omega
      have e3 : (decC x).length = 4 := rfl
      have hd : (j - 4) / 4 < ds.length := by omega
      rw [e3, this, e1, e2]
      simp
theorem sw_of {W w : World} {Im : Nat → Nat → Prop} {b cap e : Nat} {cur : Array Value} {ds : List D3} (hb : Below W.heap.size W w) (hle : W.heap.size ≤ b) (hc : w.heap[b]? = some (.cells cur e (0, 0)))
    (hr : DV.rel Im w (.sl ds.length (decL ds)) (.slice (some ⟨b, 0, none⟩) ds.length cap)) (h0 : ds ≠ []) : SW W b ds.toArray w := by
  refine ⟨hb, fun j hj => ?_, hle, lt_of_block hc⟩
  have hj' : j < ds.length * 4 := by simpa using hj
  rw [DV.rel] at hr
  rcases hr with ⟨A, h, h2, _⟩ | ⟨g, o, cap', h, _, _, hC⟩
  · exact absurd (List.length_eq_zero_iff.1 h2) h0
  · cases h
    obtain ⟨_, u, hu, hru⟩ := DV.relC_get hC (decL_at hj')
    rw [DV.rel] at hru
    subst hru
    refine ⟨?_, ?_⟩
    · rw [hu, get_flatK _ _ _ _ (by simpa using hj)]; rfl
    · simp [World.frozen?, hc]
theorem sw_rel {W w : World} {Im : Nat → Nat → Prop} {b b2 cap : Nat} {d : Array D3} (h : SW W b d w) (hcap : d.size ≤ cap) (hm : cap ≤ maxLen) : DV.rel (midG Im b2 b).Im w (.sl d.toList.length (decL d.toList)) (.slice (some ⟨b, 0, none⟩) d.size cap) := by
  rw [DV.rel]
  refine .inr ⟨b, 0, cap, by simp, by simpa using hcap, hm, DV.relC_mk fun i x hx => ⟨.inr rfl, ?_⟩⟩
  have hi : i < d.toList.length * 4 := by
    have := (List.getElem?_eq_some_iff.1 hx).1
    simpa using this
  have hi' : i < d.size * 4 := by simpa using hi
  rw [decL_at hi] at hx
  cases hx
  obtain ⟨h1, _⟩ := h.row i (by simpa using hi')
  rw [get_flatK _ _ _ _ hi'] at h1
  exact ⟨_, h1, by rw [DV.rel]; simp⟩
theorem numbers_calls {ds : List D3} (h0 : ds ≠ []) (hl : ds.length < 20) {W : World} {Im : Nat → Nat → Prop} {y : Value} (hKw : Kw W) (hIm : ∀ g o, Im g o → g < W.heap.size) (hr : DV.rel Im W (.sl (numL ds).length (encL (numL ds))) y) :
    Calls Tryz.prog 19 #[y] W fun e w' => ∃ b cap, e = .returned (.tuple #[.slice (some ⟨b, 0, none⟩) ds.length cap, .bool true]) ∧ ds.length ≤ cap ∧ cap ≤ maxLen ∧ W.heap.size ≤ b ∧ SW W b ds.toArray w' := by
  have h0' : 0 < ds.length := List.length_pos_iff.2 h0
  refine ((c_numbers (ds := ds) (by omega)).2.2 W #[y] Im hKw hIm ?_).mono ?_
  · rw [DV.relL]
    exact ⟨y, [], rfl, hr, by rw [DV.relL]⟩
  · rintro e w' ⟨r, y', rfl, rfl, h3, h4, h5⟩
    obtain ⟨b, m, cap, cur, e', h6, h7, h8⟩ := h5 h0'
    rw [DV.rel] at h3
    obtain ⟨vs, hvs, h9⟩ := h3
    rw [DV.relL] at h9
    obtain ⟨u, us, e1, k1, k2⟩ := h9
    rw [DV.relL] at k2
    obtain ⟨u2, us2, e2, k3, k4⟩ := k2
    rw [DV.relL] at k4
    subst k4 e2
    have evs : vs = #[u, u2] := Array.ext' e1
    rw [DV.rel] at k3
    subst k3
    have hu : u = .slice (some ⟨b, 0, none⟩) m cap := by
      rcases h6 with h6 | ⟨x, h6⟩
      · rw [hvs] at h6; cases h6
      · rw [hvs, evs] at h6
        simp at h6
        exact h6.1
    subst hu
    have hk1 := k1
    rw [DV.rel] at hk1
    rcases hk1 with ⟨A, h, h2, _⟩ | ⟨g, o, cap', h, hc1, hc2, _⟩
    · omega
    · cases h
      refine ⟨b, cap, by rw [hvs, evs, decide_eq_true h0'], hc1, hc2, h7, ?_⟩
      exact sw_of h4 h7 h8 k1 h0
theorem alloc_cell {W : World} {o : Obj} {b k : Nat} (h : b < W.heap.size) : (W.alloc o).cell? ⟨b, k, none⟩ = W.cell? ⟨b, k, none⟩ := cell_same (Below.heap_alloc W o b h)
theorem alloc_size (W : World) (o : Obj) : (W.alloc o).heap.size = W.heap.size + 1 := by simp
theorem alloc_new (W : World) (o : Obj) : (W.alloc o).heap[W.heap.size]? = some o := by show (W.heap.push o)[W.heap.size]? = _; simp
theorem alloc_below (W : World) (o : Obj) : Below W.heap.size W (W.alloc o) := Below.alloc (Below.refl _ _) (Nat.le_refl _) o
end Go.Proofs.YtmldjlgeeljfdaaGreat
