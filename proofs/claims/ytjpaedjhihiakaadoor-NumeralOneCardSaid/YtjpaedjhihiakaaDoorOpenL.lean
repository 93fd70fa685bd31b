/-
  Arguments that are days, times, moments' numbers, small words: opened.
-/
import Derived.Test.YtjpaedjhihiakaaDoorOpen
namespace Go.Proofs.YtjpaedjhihiakaaDoor
open Go.ChangeShapes Go.WideShapes Go.ChangeAt Go.RowKit Go.Joins
set_option linter.unusedVariables false
set_option maxRecDepth 100000

section
variable {P : Program} {W : World} {r : Reach} {b : Nat} {u t : TypeId} {v : Value}
theorem cell_int {k : IntKind} (hu : P.underlying u = some (.int k)) (h : Cell.okWide P W r b u v) : ∃ n, v = .int k n ∧ k.min ≤ n ∧ n ≤ k.max := by
  unfold Cell.okWide Cell.ok at h
  rw [hu] at h
  cases v <;> simp at h
  obtain ⟨rfl, h⟩ := h
  exact ⟨_, rfl, h⟩
theorem cell_bool (hu : P.underlying u = some .bool) (h : Cell.okWide P W r b u v) : ∃ n, v = .bool n := by
  unfold Cell.okWide Cell.ok at h
  rw [hu] at h
  cases v <;> simp at h
  exact ⟨_, rfl⟩
theorem row_cells {fs : Array Field} {ts : List TypeId} (hu : P.underlying t = some (.struct fs)) (hts : P.cellTypes P.depth t = some ts) (h : Value.okWide P W r b t v) :
    ∃ cs, v = .agg cs ∧ cs.size = P.cellsOf t ∧ ∀ i x, cs[i]? = some x → ∃ u, ts[i % ts.length]? = some u ∧ Cell.okWide P W r b u x := by
  unfold Value.okWide at h
  rw [hu] at h
  obtain ⟨cs, h1, h2, ts', h3, _, h4⟩ := h
  rw [hts] at h3
  cases h3
  exact ⟨cs, h1, h2, h4⟩
theorem arr3 {cs : Array Value} (h : cs.size = 3) : ∃ a b c, cs = #[a, b, c] := by
  obtain ⟨l⟩ := cs
  match l, h with
  | [a, b, c], _ => exact ⟨_, _, _, rfl⟩
theorem arr6 {cs : Array Value} (h : cs.size = 6) : ∃ a b c d e f, cs = #[a, b, c, d, e, f] := by
  obtain ⟨l⟩ := cs
  match l, h with
  | [a, b, c, d, e, f], _ => exact ⟨_, _, _, _, _, _, rfl⟩
theorem arr9 {cs : Array Value} (h : cs.size = 9) : ∃ a b c d e f g i j, cs = #[a, b, c, d, e, f, g, i, j] := by
  obtain ⟨l⟩ := cs
  match l, h with
  | [a, b, c, d, e, f, g, i, j], _ => exact ⟨_, _, _, _, _, _, _, _, _, rfl⟩
theorem cell_at {ts : List TypeId} {cs : Array Value} {i : Nat} {x : Value} (h : ∀ i x, cs[i]? = some x → ∃ u, ts[i % ts.length]? = some u ∧ Cell.okWide P W r b u x) (hc : cs[i]? = some x) (hu : ts[i % ts.length]? = some u) : Cell.okWide P W r b u x := by
  obtain ⟨u', h1, h2⟩ := h i x hc
  rw [hu] at h1
  cases h1
  exact h2
end
def i64B (a : Int) : Prop := -9223372036854775808 ≤ a ∧ a ≤ 9223372036854775807
theorem i64B_of {n : Int} (h : IntKind.i64.min ≤ n ∧ n ≤ IntKind.i64.max) : i64B n := h
theorem open_Date {W : World} {r : Reach} {b : Nat} {v : Value} (hv : Value.okWide Tryd.prog W r b 29 v) :
    ∃ y m d : Int, v = .agg #[.int .i64 y, .int .i64 m, .int .i64 d] ∧ i64B y ∧ i64B m ∧ i64B d := by
  obtain ⟨cs, rfl, hs, hc⟩ := row_cells (ts := [3, 3, 3]) Tryd.underlying29 (by kernel_rfl) hv
  obtain ⟨c0, c1, c2, rfl⟩ := arr3 (hs.trans (by kernel_rfl))
  obtain ⟨y, rfl, hy⟩ := cell_int Tryd.underlying3 (cell_at (i := 0) hc rfl rfl)
  obtain ⟨m, rfl, hm⟩ := cell_int Tryd.underlying3 (cell_at (i := 1) hc rfl rfl)
  obtain ⟨d, rfl, hd⟩ := cell_int Tryd.underlying3 (cell_at (i := 2) hc rfl rfl)
  exact ⟨y, m, d, rfl, hy, hm, hd⟩
theorem open_Time {W : World} {r : Reach} {b : Nat} {v : Value} (hv : Value.okWide Tryd.prog W r b 31 v) :
    ∃ (s : Int) (z : Bool) (o : Int), v = .agg #[.int .i64 s, .bool z, .int .i64 o] ∧ i64B s ∧ i64B o := by
  obtain ⟨cs, rfl, hs, hc⟩ := row_cells (ts := [3, 4, 3]) Tryd.underlying31 (by kernel_rfl) hv
  obtain ⟨c0, c1, c2, rfl⟩ := arr3 (hs.trans (by kernel_rfl))
  obtain ⟨s, rfl, hS⟩ := cell_int Tryd.underlying3 (cell_at (i := 0) hc rfl rfl)
  obtain ⟨z, rfl⟩ := cell_bool Tryd.underlying4 (cell_at (i := 1) hc rfl rfl)
  obtain ⟨o, rfl, ho⟩ := cell_int Tryd.underlying3 (cell_at (i := 2) hc rfl rfl)
  exact ⟨s, z, o, rfl, hS, ho⟩
theorem open_Raw8 {W : World} {r : Reach} {b : Nat} {v : Value} (hv : Value.okWide Tryd.prog W r b 27 v) :
    ∃ (y m d s o : Int) (z : Bool), v = .agg #[.int .i64 y, .int .i64 m, .int .i64 d, .int .i64 s, .int .i64 o, .bool z] ∧ i64B y ∧ i64B m ∧ i64B d ∧ i64B s ∧ i64B o := by
  obtain ⟨cs, rfl, hs, hc⟩ := row_cells (ts := [3, 3, 3, 3, 3, 4]) Tryd.underlying27 (by kernel_rfl) hv
  obtain ⟨c0, c1, c2, c3, c4, c5, rfl⟩ := arr6 (hs.trans (by kernel_rfl))
  obtain ⟨y, rfl, hy⟩ := cell_int Tryd.underlying3 (cell_at (i := 0) hc rfl rfl)
  obtain ⟨m, rfl, hm⟩ := cell_int Tryd.underlying3 (cell_at (i := 1) hc rfl rfl)
  obtain ⟨d, rfl, hd⟩ := cell_int Tryd.underlying3 (cell_at (i := 2) hc rfl rfl)
  obtain ⟨s, rfl, hS⟩ := cell_int Tryd.underlying3 (cell_at (i := 3) hc rfl rfl)
  obtain ⟨o, rfl, ho⟩ := cell_int Tryd.underlying3 (cell_at (i := 4) hc rfl rfl)
  obtain ⟨z, rfl⟩ := cell_bool Tryd.underlying4 (cell_at (i := 5) hc rfl rfl)
  exact ⟨y, m, d, s, o, z, rfl, hy, hm, hd, hS, ho⟩
theorem open_u16 {W : World} {r : Reach} {b : Nat} {v : Value} (hv : Value.okWide Tryd.prog W r b 44 v) :
    ∃ n : Nat, v = .int .u16 (n : Int) ∧ n < 65536 := by
  unfold Value.okWide at hv
  rw [Tryd.underlying44] at hv
  obtain ⟨x, rfl, h0, h1⟩ := cell_int Tryd.underlying44 hv
  have h0 : 0 ≤ x := h0
  have h1 : x ≤ 65535 := h1
  exact ⟨x.toNat, by rw [Int.toNat_of_nonneg h0], by omega⟩
end Go.Proofs.YtjpaedjhihiakaaDoor
