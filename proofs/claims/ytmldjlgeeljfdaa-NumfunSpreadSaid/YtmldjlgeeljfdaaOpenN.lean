/-
  Arguments that are rows of ints of 32 bits, opened.
-/
import Derived.Test.YtmldjlgeeljfdaaNfJ
import Derived.Test.YtmldjlgeeljfdaaOpen
import Derived.Test.YtmldjlgeeljfdaaOpenI
import Derived.ChangeSlices
namespace Go.Proofs.Ytmldjlgeeljfdaa
open Go.ChangeShapes Go.WideShapes Go.ChangeAt Go.RowKit Go.Joins
set_option linter.unusedVariables false
set_option maxRecDepth 100000

/-- What is there when the call begins. -/
def old (W : World) : Nat → Nat → Prop := fun g _ => g < W.heap.size
theorem cell_old {W : World} {g o : Nat} {u : Value} (h : W.cell? ⟨g, o, none⟩ = some u) : old W g o := by
  unfold World.cell? at h
  split at h
  · rename_i e
    exact (Array.getElem?_eq_some_iff.1 e).1
  · cases h
theorem cells_i32 : Try.prog.cellsOf 21 = 1 := by kernel_rfl
theorem open_i32s {H : Type} {enc : TypeId × Value → H} {W : World} {base : Nat} {held : Bool} {v : Value} {d : DataW H} {p : List MemPlace} {b : Nat} {r : Reach} (hv : Value.okWide Try.prog W r b 22 v) (h : DataW.Trod enc Try.prog W base (fun _ => true) held 22 v d p) :
    ∃ ns : List Int, (∀ x ∈ ns, -2147483648 ≤ x ∧ x ≤ 2147483647) ∧ ns.length ≤ 9223372036854775807 ∧ (DV.sl ns.length (i32L ns)).rel (old W) W v := by
  obtain ⟨a, l, c, rfl⟩ := okWide_slice Try.underlying22 hv
  obtain ⟨fuel, hf⟩ := h
  rcases open_ints Try.underlying22 Try.underlying21 cells_i32 hf with ⟨e, _⟩ | ⟨a', len, cap, zs, e, _, hl, hm, hz, _, hcell, hwf⟩
  · have e : Value.slice a l c = .slice none 0 0 := by simpa [Value.cells] using e
    cases e
    exact ⟨[], by simp, by simp, by rw [DV.rel]; exact .inl ⟨none, rfl, rfl, rfl⟩⟩
  · have e : Value.slice a l c = .slice (some a') len cap := by simpa [Value.cells] using e
    cases e
    simp only [if_true] at hz
    by_cases hc : c = 0
    · subst hc
      obtain rfl : l = 0 := by omega
      exact ⟨[], by simp, by simp, by rw [DV.rel]; exact .inl ⟨some a', rfl, rfl, rfl⟩⟩
    · have hs : a'.spot = none := by
        have := hcell 0 (by omega)
        rw [show a'.add 0 = a' by unfold Addr.add; simp] at this
        unfold World.cell? at this
        split at this
        · split at this
          · cases this
          · rename_i hs
            cases hs' : a'.spot with
            | none => rfl
            | some z => rw [hs'] at hs; exact absurd rfl hs
        · cases this
      obtain ⟨g, o, sp⟩ := a'
      simp only at hs
      subst hs
      have hlen : (zs.take l).length = l := by rw [List.length_take]; omega
      refine ⟨zs.take l, fun x hx => ?_, by rw [hlen]; simp only [maxLen] at hm; omega, ?_⟩
      · have b := bounds_i32 (hwf x (List.mem_of_mem_take hx))
        exact ⟨by omega, by omega⟩
      · rw [DV.rel, hlen]
        refine .inr ⟨g, o, c, rfl, hl, hm, DV.relC_mk fun i d hd => ?_⟩
        have hi : i < l := by
          have := (List.getElem?_eq_some_iff.1 hd).1
          simp only [i32L, List.length_map, hlen] at this
          exact this
        have hq := hcell i (by omega)
        rw [add_off] at hq
        refine ⟨cell_old hq, _, hq, ?_⟩
        have hg : (zs.take l)[i]? = some (zs.getD i 0) := by
          rw [List.getElem?_take, if_pos hi, List.getD, List.getElem?_eq_getElem (by omega)]
          rfl
        simp only [i32L, List.getElem?_map, hg, Option.map_some, Option.some.injEq] at hd
        subst hd
        rw [DV.rel]
/-- A law known to say yes, of arguments that lead to memory: the walk that the row wants. -/
theorem HasC.walkR {f : FuncId} {ds : List DV} {vs : Array Value} (h : HasC Try.prog f ds (fun y => y = .v (.bool true))) (w : World) (hr : DV.relL (old w) w ds vs.toList) (hk : Kw w) : Calls Try.prog f vs w fun e w' => e = .returned (.bool true) ∧ Below w.heap.size w w' :=
  (h.2.2 w vs (old w) hk (fun _ _ h => h) hr).mono fun e w' ⟨r, y, h1, h2, h3, h4⟩ => by
    subst h2
    rw [DV.rel] at h3
    subst h3
    exact ⟨h1, h4⟩
theorem relL_cons {Im : Nat → Nat → Prop} {W : World} {d : DV} {ds : List DV} {u : Value} {us : List Value} (h1 : DV.rel Im W d u) (h2 : DV.relL Im W ds us) : DV.relL Im W (d :: ds) (u :: us) := by rw [DV.relL]; exact ⟨_, _, rfl, h1, h2⟩
theorem relL_nil {Im : Nat → Nat → Prop} {W : World} : DV.relL Im W [] [] := by rw [DV.relL]
theorem rel_v {Im : Nat → Nat → Prop} {W : World} (z : Value) : DV.rel Im W (.v z) z := by rw [DV.rel]
end Go.Proofs.Ytmldjlgeeljfdaa
