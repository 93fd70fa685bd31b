/-
  Arguments that are rows of drawn numbers (casuistlaw02.Raw), opened.
-/
import Derived.Test.YtmldjlgeeljfdaaGreatNfO
import Derived.Test.YtmldjlgeeljfdaaGreatOpen
import Derived.Test.YtmldjlgeeljfdaaGreatOpen2
import Derived.SliceStrings
namespace Go.Proofs.YtmldjlgeeljfdaaGreat
open Go.ChangeShapes Go.WideShapes Go.ChangeAt Go.RowKit Go.Joins
set_option linter.unusedVariables false
set_option maxRecDepth 100000

/-- What is there when the call begins. -/
def old (W : World) : Nat → Nat → Prop := fun g _ => g < W.heap.size
section
variable {H : Type} {enc : TypeId × Value → H} {W : World} {base : Nat} {held : Bool}
theorem spot_of {a : Addr} {n : Nat} {cs : List Value} (h : W.cells? base a n = some cs) (hn : 0 < n) : a.spot = none := by
  obtain ⟨_, hl, hc⟩ := World.cells?_some h
  have h0 := hc 0 hn
  rw [List.getElem?_eq_getElem (by omega)] at h0
  rw [show a.add 0 = a by unfold Addr.add; simp] at h0
  unfold World.cell? at h0
  split at h0
  · split at h0
    · cases h0
    · rename_i hs
      cases hs' : a.spot with
      | none => rfl
      | some z => rw [hs'] at hs; exact absurd rfl hs
  · cases h0
theorem cell_old {g o : Nat} {u : Value} (h : W.cell? ⟨g, o, none⟩ = some u) : old W g o := by
  unfold World.cell? at h
  split at h
  · rename_i e
    exact (Array.getElem?_eq_some_iff.1 e).1
  · cases h
theorem relC_cells {g o n : Nat} {cs : List Value} {ds : List DV} (hc : W.cells? base ⟨g, o, none⟩ n = some cs) (h : DV.relL (old W) W ds cs) : DV.relC (old W) W g ds o := by
  obtain ⟨_, hl, h2⟩ := World.cells?_some hc
  have h3 : ∀ j u, cs[j]? = some u → W.cell? ⟨g, o + j, none⟩ = some u := fun j u hu => by
    have := h2 j (by have := (List.getElem?_eq_some_iff.1 hu).1; omega)
    rw [add_off, hu] at this
    exact this
  exact relC_of_vals h (fun j hj => cell_old (h3 j _ (List.getElem?_eq_getElem hj))) h3
theorem relC_append {Im : Nat → Nat → Prop} {W : World} {g : Nat} : ∀ {ds es : List DV} {o : Nat}, DV.relC Im W g ds o → DV.relC Im W g es (o + ds.length) → DV.relC Im W g (ds ++ es) o
  | [], es, o, _, h => by simpa using h
  | d :: ds, es, o, h1, h2 => by
    rw [List.cons_append, DV.relC]
    rw [DV.relC] at h1
    exact ⟨h1.1, h1.2.1, relC_append h1.2.2 (by rw [List.length_cons] at h2; rw [show o + 1 + ds.length = o + (ds.length + 1) by omega]; exact h2)⟩
theorem raw_of {fuel : Nat} {cs : List Value} {x : DataW H × List MemPlace} (hl : cs.length = 4) (h : DataW.trod enc Tryz.prog W base (fun _ => true) held fuel 51 cs = some x) : ∃ r : Raw, r.2.1 < B128 ∧ cs = [.bool r.1, .int .u64 (hiW r.2.1), .int .u64 (loW r.2.1), .int .i64 r.2.2] := by
  match cs, hl with
  | [c0, c1, c2, c3], _ =>
    obtain ⟨y0, y1, y2, n, hx, _, h0, h1, h2⟩ := Go.Deep.trod_struct3 Tryz.underlying51 h
    have k0 : DataW.trod enc Tryz.prog W base (fun _ => true) held n 4 [c0] = some y0 := by simpa [Value.cells, cells_bool] using h0
    have k1 : DataW.trod enc Tryz.prog W base (fun _ => true) held n 43 [c1, c2] = some y1 := by simpa [Value.cells, cellsU] using h1
    have k2 : DataW.trod enc Tryz.prog W base (fun _ => true) held n 3 [c3] = some y2 := by simpa [Value.cells, cells_int] using h2
    obtain ⟨g, e0, _⟩ := DataW.trod_bool Tryz.underlying4 k0
    obtain ⟨z0, z1, m, _, _, i0, i1⟩ := trod_struct2 Tryz.underlying43 k1
    have j0 : DataW.trod enc Tryz.prog W base (fun _ => true) held m 41 [c1] = some z0 := by simpa [cells_u64] using i0
    have j1 : DataW.trod enc Tryz.prog W base (fun _ => true) held m 41 [c2] = some z1 := by simpa [cells_u64] using i1
    obtain ⟨a, ea, _, wa⟩ := DataW.trod_int Tryz.underlying41 j0
    obtain ⟨b, eb, _, wb⟩ := DataW.trod_int Tryz.underlying41 j1
    obtain ⟨c, ec, _, wc⟩ := DataW.trod_int Tryz.underlying3 k2
    simp at e0 ea eb ec
    subst e0 ea eb ec
    have b0 := bounds_u64 wa
    have b1 := bounds_u64 wb
    have u : IsU a b (a * 18446744073709551616 + b).toNat := ⟨by omega, by omega, by omega, by omega, by omega⟩
    have l := u.lt
    obtain ⟨ha, hb⟩ := u.hl
    exact ⟨(g, (a * 18446744073709551616 + b).toNat, c), l, by simp only; rw [← ha, ← hb]⟩
theorem rel_raws {g : Nat} : ∀ (len o : Nat), (∀ i, i < len → ∃ (r : Raw) (cs : List Value), r.2.1 < B128 ∧ W.cells? base ⟨g, o + i * 4, none⟩ 4 = some cs ∧ DV.relL (old W) W (rawC r) cs) →
    ∃ xs : List Raw, xs.length = len ∧ (∀ x ∈ xs, x.2.1 < B128) ∧ DV.relC (old W) W g (rawL xs) o
  | 0, o, _ => ⟨[], rfl, by simp, by simp [rawL, DV.relC]⟩
  | len + 1, o, h => by
    obtain ⟨d, cs, h1, h2, h3⟩ := h 0 (by omega)
    obtain ⟨is, k1, k2, k3⟩ := rel_raws len (o + 4) (fun i hi => by
      have := h (i + 1) (by omega)
      rw [show o + (i + 1) * 4 = o + 4 + i * 4 by omega] at this
      exact this)
    rw [Nat.zero_mul, Nat.add_zero] at h2
    refine ⟨d :: is, by simp [k1], fun x hx => ?_, ?_⟩
    · rcases List.mem_cons.1 hx with rfl | hx
      · exact h1
      · exact k2 x hx
    · rw [show rawL (d :: is) = rawC d ++ rawL is by simp [rawL]]
      exact relC_append (relC_cells h2 h3) k3
theorem open_raws {v : Value} {d : DataW H} {p : List MemPlace} {b : Nat} {r : Reach} (hv : Value.okWide Tryz.prog W r b 22 v) (h : DataW.Trod enc Tryz.prog W base (fun _ => true) held 22 v d p) :
    ∃ xs : List Raw, (∀ x ∈ xs, x.2.1 < B128) ∧ xs.length ≤ 9223372036854775807 ∧ (DV.sl xs.length (rawL xs)).rel (old W) W v := by
  obtain ⟨a, l, c, rfl⟩ := okWide_slice Tryz.underlying22 hv
  obtain ⟨fuel, hf⟩ := h
  rcases DataW.trod_slice Tryz.underlying22 hf with ⟨e, _⟩ | ⟨a', len, cap, elems, rest, n, rfl, e, _, _, hle, hm, hlen, hel, hsp, _⟩
  · have e : Value.slice a l c = .slice none 0 0 := by simpa [Value.cells] using e
    cases e
    exact ⟨[], by simp, by simp, by rw [DV.rel]; exact .inl ⟨none, rfl, rfl, rfl⟩⟩
  · have e : Value.slice a l c = .slice (some a') len cap := by simpa [Value.cells] using e
    cases e
    rw [cellsRaw] at hel hsp
    by_cases hc : c = 0
    · subst hc
      obtain rfl : l = 0 := by omega
      exact ⟨[], by simp, by simp, by rw [DV.rel]; exact .inl ⟨some a', rfl, rfl, rfl⟩⟩
    · have hs : a'.spot = none := by
        by_cases h0 : 0 < l
        · have := hel 0 h0
          rw [List.getElem?_eq_getElem (by omega), Option.bind_eq_some_iff] at this
          obtain ⟨cs', h1, _⟩ := this
          have := spot_of h1 (by omega)
          rwa [show a'.add (0 * 4) = a' by unfold Addr.add; simp] at this
        · obtain ⟨hr1, hr2⟩ := hsp rfl
          have := hr2 0 (by omega)
          rw [List.getElem?_eq_getElem (by omega), Option.bind_eq_some_iff] at this
          obtain ⟨cs', h1, _⟩ := this
          have := spot_of h1 (by omega)
          obtain rfl : l = 0 := by omega
          rwa [show a'.add ((0 + 0) * 4) = a' by unfold Addr.add; simp] at this
      obtain ⟨g, o, sp⟩ := a'
      simp only at hs
      subst hs
      obtain ⟨xs, k1, k2, k3⟩ := rel_raws (W := W) (base := base) (g := g) l o (fun i hi => by
        have := hel i hi
        rw [List.getElem?_eq_getElem (by omega), Option.bind_eq_some_iff, add_off] at this
        obtain ⟨cs', h1, h2⟩ := this
        obtain ⟨r, r1, r2⟩ := raw_of (World.cells?_some h1).2.1 h2
        refine ⟨r, cs', r1, h1, ?_⟩
        rw [r2]
        exact vs_rel [.bool r.1, .int .u64 (hiW r.2.1), .int .u64 (loW r.2.1), .int .i64 r.2.2])
      refine ⟨xs, k2, by rw [k1]; simp only [maxLen] at hm; omega, ?_⟩
      rw [DV.rel, k1]
      exact .inr ⟨g, o, c, rfl, hle, hm, k3⟩
end
/-- A law known to say yes, of arguments that lead to memory: the walk that the row wants. -/
theorem HasC.walkR {f : FuncId} {ds : List DV} {vs : Array Value} (h : HasC Tryz.prog f ds (fun y => y = .v (.bool true))) (w : World) (hr : DV.relL (old w) w ds vs.toList) (hk : Kw w) : Calls Tryz.prog f vs w fun e w' => e = .returned (.bool true) ∧ Below w.heap.size w w' :=
  (h.2.2 w vs (old w) hk (fun _ _ h => h) hr).mono fun e w' ⟨r, y, h1, h2, h3, h4⟩ => by
    subst h2
    rw [DV.rel] at h3
    subst h3
    exact ⟨h1, h4⟩
theorem relL_cons {Im : Nat → Nat → Prop} {W : World} {d : DV} {ds : List DV} {u : Value} {us : List Value} (h1 : DV.rel Im W d u) (h2 : DV.relL Im W ds us) : DV.relL Im W (d :: ds) (u :: us) := by rw [DV.relL]; exact ⟨_, _, rfl, h1, h2⟩
theorem relL_nil {Im : Nat → Nat → Prop} {W : World} : DV.relL Im W [] [] := by rw [DV.relL]
end Go.Proofs.YtmldjlgeeljfdaaGreat
