/-
  A block of memory known whole: what it holds, carried over calls, new blocks, draws and stores.
-/
import Derived.Test.YtmldjlgeeljfdaaGreatRows
import Derived.WalkKit
import Derived.Handy
import Derived.Deep.Draws
namespace Go.Proofs.YtmldjlgeeljfdaaGreat
open Go.RowKit

/-- Block b of the world w holds just these cells, none frozen. -/
def Blk (w : World) (b : Nat) (cs : Array Value) : Prop := ∃ T, w.heap[b]? = some (.cells cs T (0, 0))

theorem Blk.lt {w : World} {b : Nat} {cs : Array Value} (h : Blk w b cs) : b < w.heap.size := by
  obtain ⟨T, h⟩ := h
  exact lt_of_block h
theorem Blk.new {w : World} {b : Nat} {cs : Array Value} {T : TypeId} (h : b = w.heap.size) : Blk (w.alloc (.cells cs T)) b cs := by
  subst h
  exact ⟨T, by show (w.heap.push _)[w.heap.size]? = _; simp⟩
theorem Blk.alloc {w : World} {b : Nat} {cs : Array Value} (h : Blk w b cs) (o : Obj) : Blk (w.alloc o) b cs := by
  have hl := h.lt
  obtain ⟨T, h⟩ := h
  exact ⟨T, (Below.heap_alloc w o b hl).trans h⟩
theorem Blk.drew {w : World} {b : Nat} {cs : Array Value} (h : Blk w b cs) : Blk w.drew b cs := h
theorem Blk.drewN {w : World} {b : Nat} {cs : Array Value} (h : Blk w b cs) (n : Nat) : Blk (w.drewN n) b cs := h
theorem Blk.other {w : World} {b : Nat} {cs : Array Value} {a : Addr} (h : Blk w b cs) (v : Value) (hne : b ≠ a.block) : Blk (w.setCell a v) b cs := by
  obtain ⟨T, h⟩ := h
  exact ⟨T, (Below.heap_setCell w a v b hne).trans h⟩
theorem Blk.set {w : World} {b i : Nat} {cs : Array Value} (h : Blk w b cs) (v : Value) : Blk (w.setCell ⟨b, i, none⟩ v) b (cs.setIfInBounds i v) := by
  have hl := h.lt
  obtain ⟨T, h⟩ := h
  refine ⟨T, ?_⟩
  have h' : w.heap[b] = .cells cs T (0, 0) := by simpa [Array.getElem?_eq_getElem hl] using h
  show (w.heap.modify b _)[b]? = _
  rw [Array.getElem?_eq_getElem (by simpa using hl), Array.getElem_modify_self, h']
  rfl
theorem Blk.below {w w' : World} {b : Nat} {cs : Array Value} (h : Blk w b cs) (hb : Below w.heap.size w w') : Blk w' b cs := by
  have hl := h.lt
  obtain ⟨T, h⟩ := h
  exact ⟨T, (hb.block b hl).trans h⟩
theorem Blk.belowB {w w' : World} {b B : Nat} {cs : Array Value} (h : Blk w b cs) (hb : Below B w w') (hB : b < B) : Blk w' b cs := by
  obtain ⟨T, h⟩ := h
  exact ⟨T, (hb.block b hB).trans h⟩
theorem Blk.cell {w : World} {b i : Nat} {cs : Array Value} (h : Blk w b cs) {v : Value} (hv : cs[i]? = some v) : w.cell? ⟨b, i, none⟩ = some v := by
  obtain ⟨T, h⟩ := h
  simp [World.cell?, h, hv]
theorem Blk.free {w : World} {b : Nat} {cs : Array Value} (h : Blk w b cs) (i : Nat) : w.frozen? ⟨b, i, none⟩ = false := by
  obtain ⟨T, h⟩ := h
  simp [World.frozen?, h]
theorem Blk.size {w : World} {b : Nat} {cs : Array Value} (h : Blk w b cs) : b < w.heap.size ∧ b ≤ w.heap.size ∧ b < w.heap.size + 1 ∧ b < w.heap.size + 1 + 1 ∧ b < w.heap.size + 1 + 1 + 1 := by
  have := h.lt; omega

theorem blk1 {w : World} {b : Nat} {x0 : Value} (h : Blk w b #[x0]) : w.cell? ⟨b, 0, none⟩ = some x0 ∧ (∀ i, w.frozen? ⟨b, i, none⟩ = false) ∧ b < w.heap.size ∧ b ≤ w.heap.size ∧ b < w.heap.size + 1 ∧ b < w.heap.size + 1 + 1 ∧ b < w.heap.size + 1 + 1 + 1 :=
  ⟨h.cell rfl, h.free, h.size⟩
theorem cells1 {w : World} {b : Nat} {x0 : Value} (h : Blk w b #[x0]) : w.cell? ⟨b, 0, none⟩ = some x0 := h.cell rfl
theorem Blk.set1_0 {w : World} {b : Nat} {x0 : Value} (h : Blk w b #[x0]) (v : Value) : Blk (w.setCell ⟨b, 0, none⟩ v) b #[v] := h.set v
theorem blk2 {w : World} {b : Nat} {x0 x1 : Value} (h : Blk w b #[x0, x1]) : w.cell? ⟨b, 0, none⟩ = some x0 ∧ w.cell? ⟨b, 1, none⟩ = some x1 ∧ (∀ i, w.frozen? ⟨b, i, none⟩ = false) ∧ b < w.heap.size ∧ b ≤ w.heap.size ∧ b < w.heap.size + 1 ∧ b < w.heap.size + 1 + 1 ∧ b < w.heap.size + 1 + 1 + 1 :=
  ⟨h.cell rfl, h.cell rfl, h.free, h.size⟩
theorem cells2 {w : World} {b : Nat} {x0 x1 : Value} (h : Blk w b #[x0, x1]) : w.cell? ⟨b, 0, none⟩ = some x0 ∧ w.cell? ⟨b, 1, none⟩ = some x1 := ⟨h.cell rfl, h.cell rfl⟩
theorem Blk.set2_0 {w : World} {b : Nat} {x0 x1 : Value} (h : Blk w b #[x0, x1]) (v : Value) : Blk (w.setCell ⟨b, 0, none⟩ v) b #[v, x1] := h.set v
theorem Blk.set2_1 {w : World} {b : Nat} {x0 x1 : Value} (h : Blk w b #[x0, x1]) (v : Value) : Blk (w.setCell ⟨b, 1, none⟩ v) b #[x0, v] := h.set v
theorem blk3 {w : World} {b : Nat} {x0 x1 x2 : Value} (h : Blk w b #[x0, x1, x2]) : w.cell? ⟨b, 0, none⟩ = some x0 ∧ w.cell? ⟨b, 1, none⟩ = some x1 ∧ w.cell? ⟨b, 2, none⟩ = some x2 ∧ (∀ i, w.frozen? ⟨b, i, none⟩ = false) ∧ b < w.heap.size ∧ b ≤ w.heap.size ∧ b < w.heap.size + 1 ∧ b < w.heap.size + 1 + 1 ∧ b < w.heap.size + 1 + 1 + 1 :=
  ⟨h.cell rfl, h.cell rfl, h.cell rfl, h.free, h.size⟩
theorem cells3 {w : World} {b : Nat} {x0 x1 x2 : Value} (h : Blk w b #[x0, x1, x2]) : w.cell? ⟨b, 0, none⟩ = some x0 ∧ w.cell? ⟨b, 1, none⟩ = some x1 ∧ w.cell? ⟨b, 2, none⟩ = some x2 := ⟨h.cell rfl, h.cell rfl, h.cell rfl⟩
theorem Blk.set3_0 {w : World} {b : Nat} {x0 x1 x2 : Value} (h : Blk w b #[x0, x1, x2]) (v : Value) : Blk (w.setCell ⟨b, 0, none⟩ v) b #[v, x1, x2] := h.set v
theorem Blk.set3_1 {w : World} {b : Nat} {x0 x1 x2 : Value} (h : Blk w b #[x0, x1, x2]) (v : Value) : Blk (w.setCell ⟨b, 1, none⟩ v) b #[x0, v, x2] := h.set v
theorem Blk.set3_2 {w : World} {b : Nat} {x0 x1 x2 : Value} (h : Blk w b #[x0, x1, x2]) (v : Value) : Blk (w.setCell ⟨b, 2, none⟩ v) b #[x0, x1, v] := h.set v
theorem blk4 {w : World} {b : Nat} {x0 x1 x2 x3 : Value} (h : Blk w b #[x0, x1, x2, x3]) : w.cell? ⟨b, 0, none⟩ = some x0 ∧ w.cell? ⟨b, 1, none⟩ = some x1 ∧ w.cell? ⟨b, 2, none⟩ = some x2 ∧ w.cell? ⟨b, 3, none⟩ = some x3 ∧ (∀ i, w.frozen? ⟨b, i, none⟩ = false) ∧ b < w.heap.size ∧ b ≤ w.heap.size ∧ b < w.heap.size + 1 ∧ b < w.heap.size + 1 + 1 ∧ b < w.heap.size + 1 + 1 + 1 :=
  ⟨h.cell rfl, h.cell rfl, h.cell rfl, h.cell rfl, h.free, h.size⟩
theorem cells4 {w : World} {b : Nat} {x0 x1 x2 x3 : Value} (h : Blk w b #[x0, x1, x2, x3]) : w.cell? ⟨b, 0, none⟩ = some x0 ∧ w.cell? ⟨b, 1, none⟩ = some x1 ∧ w.cell? ⟨b, 2, none⟩ = some x2 ∧ w.cell? ⟨b, 3, none⟩ = some x3 := ⟨h.cell rfl, h.cell rfl, h.cell rfl, h.cell rfl⟩
theorem Blk.set4_0 {w : World} {b : Nat} {x0 x1 x2 x3 : Value} (h : Blk w b #[x0, x1, x2, x3]) (v : Value) : Blk (w.setCell ⟨b, 0, none⟩ v) b #[v, x1, x2, x3] := h.set v
theorem Blk.set4_1 {w : World} {b : Nat} {x0 x1 x2 x3 : Value} (h : Blk w b #[x0, x1, x2, x3]) (v : Value) : Blk (w.setCell ⟨b, 1, none⟩ v) b #[x0, v, x2, x3] := h.set v
theorem Blk.set4_2 {w : World} {b : Nat} {x0 x1 x2 x3 : Value} (h : Blk w b #[x0, x1, x2, x3]) (v : Value) : Blk (w.setCell ⟨b, 2, none⟩ v) b #[x0, x1, v, x3] := h.set v
theorem Blk.set4_3 {w : World} {b : Nat} {x0 x1 x2 x3 : Value} (h : Blk w b #[x0, x1, x2, x3]) (v : Value) : Blk (w.setCell ⟨b, 3, none⟩ v) b #[x0, x1, x2, v] := h.set v
theorem blk5 {w : World} {b : Nat} {x0 x1 x2 x3 x4 : Value} (h : Blk w b #[x0, x1, x2, x3, x4]) : w.cell? ⟨b, 0, none⟩ = some x0 ∧ w.cell? ⟨b, 1, none⟩ = some x1 ∧ w.cell? ⟨b, 2, none⟩ = some x2 ∧ w.cell? ⟨b, 3, none⟩ = some x3 ∧ w.cell? ⟨b, 4, none⟩ = some x4 ∧ (∀ i, w.frozen? ⟨b, i, none⟩ = false) ∧ b < w.heap.size ∧ b ≤ w.heap.size ∧ b < w.heap.size + 1 ∧ b < w.heap.size + 1 + 1 ∧ b < w.heap.size + 1 + 1 + 1 :=
  ⟨h.cell rfl, h.cell rfl, h.cell rfl, h.cell rfl, h.cell rfl, h.free, h.size⟩
theorem cells5 {w : World} {b : Nat} {x0 x1 x2 x3 x4 : Value} (h : Blk w b #[x0, x1, x2, x3, x4]) : w.cell? ⟨b, 0, none⟩ = some x0 ∧ w.cell? ⟨b, 1, none⟩ = some x1 ∧ w.cell? ⟨b, 2, none⟩ = some x2 ∧ w.cell? ⟨b, 3, none⟩ = some x3 ∧ w.cell? ⟨b, 4, none⟩ = some x4 := ⟨h.cell rfl, h.cell rfl, h.cell rfl, h.cell rfl, h.cell rfl⟩
theorem Blk.set5_0 {w : World} {b : Nat} {x0 x1 x2 x3 x4 : Value} (h : Blk w b #[x0, x1, x2, x3, x4]) (v : Value) : Blk (w.setCell ⟨b, 0, none⟩ v) b #[v, x1, x2, x3, x4] := h.set v
theorem Blk.set5_1 {w : World} {b : Nat} {x0 x1 x2 x3 x4 : Value} (h : Blk w b #[x0, x1, x2, x3, x4]) (v : Value) : Blk (w.setCell ⟨b, 1, none⟩ v) b #[x0, v, x2, x3, x4] := h.set v
theorem Blk.set5_2 {w : World} {b : Nat} {x0 x1 x2 x3 x4 : Value} (h : Blk w b #[x0, x1, x2, x3, x4]) (v : Value) : Blk (w.setCell ⟨b, 2, none⟩ v) b #[x0, x1, v, x3, x4] := h.set v
theorem Blk.set5_3 {w : World} {b : Nat} {x0 x1 x2 x3 x4 : Value} (h : Blk w b #[x0, x1, x2, x3, x4]) (v : Value) : Blk (w.setCell ⟨b, 3, none⟩ v) b #[x0, x1, x2, v, x4] := h.set v
theorem Blk.set5_4 {w : World} {b : Nat} {x0 x1 x2 x3 x4 : Value} (h : Blk w b #[x0, x1, x2, x3, x4]) (v : Value) : Blk (w.setCell ⟨b, 4, none⟩ v) b #[x0, x1, x2, x3, v] := h.set v
theorem blk6 {w : World} {b : Nat} {x0 x1 x2 x3 x4 x5 : Value} (h : Blk w b #[x0, x1, x2, x3, x4, x5]) : w.cell? ⟨b, 0, none⟩ = some x0 ∧ w.cell? ⟨b, 1, none⟩ = some x1 ∧ w.cell? ⟨b, 2, none⟩ = some x2 ∧ w.cell? ⟨b, 3, none⟩ = some x3 ∧ w.cell? ⟨b, 4, none⟩ = some x4 ∧ w.cell? ⟨b, 5, none⟩ = some x5 ∧ (∀ i, w.frozen? ⟨b, i, none⟩ = false) ∧ b < w.heap.size ∧ b ≤ w.heap.size ∧ b < w.heap.size + 1 ∧ b < w.heap.size + 1 + 1 ∧ b < w.heap.size + 1 + 1 + 1 :=
  ⟨h.cell rfl, h.cell rfl, h.cell rfl, h.cell rfl, h.cell rfl, h.cell rfl, h.free, h.size⟩
theorem cells6 {w : World} {b : Nat} {x0 x1 x2 x3 x4 x5 : Value} (h : Blk w b #[x0, x1, x2, x3, x4, x5]) : w.cell? ⟨b, 0, none⟩ = some x0 ∧ w.cell? ⟨b, 1, none⟩ = some x1 ∧ w.cell? ⟨b, 2, none⟩ = some x2 ∧ w.cell? ⟨b, 3, none⟩ = some x3 ∧ w.cell? ⟨b, 4, none⟩ = some x4 ∧ w.cell? ⟨b, 5, none⟩ = some x5 := ⟨h.cell rfl, h.cell rfl, h.cell rfl, h.cell rfl, h.cell rfl, h.cell rfl⟩
theorem Blk.set6_0 {w : World} {b : Nat} {x0 x1 x2 x3 x4 x5 : Value} (h : Blk w b #[x0, x1, x2, x3, x4, x5]) (v : Value) : Blk (w.setCell ⟨b, 0, none⟩ v) b #[v, x1, x2, x3, x4, x5] := h.set v
theorem Blk.set6_1 {w : World} {b : Nat} {x0 x1 x2 x3 x4 x5 : Value} (h : Blk w b #[x0, x1, x2, x3, x4, x5]) (v : Value) : Blk (w.setCell ⟨b, 1, none⟩ v) b #[x0, v, x2, x3, x4, x5] := h.set v
theorem Blk.set6_2 {w : World} {b : Nat} {x0 x1 x2 x3 x4 x5 : Value} (h : Blk w b #[x0, x1, x2, x3, x4, x5]) (v : Value) : Blk (w.setCell ⟨b, 2, none⟩ v) b #[x0, x1, v, x3, x4, x5] := h.set v
theorem Blk.set6_3 {w : World} {b : Nat} {x0 x1 x2 x3 x4 x5 : Value} (h : Blk w b #[x0, x1, x2, x3, x4, x5]) (v : Value) : Blk (w.setCell ⟨b, 3, none⟩ v) b #[x0, x1, x2, v, x4, x5] := h.set v
theorem Blk.set6_4 {w : World} {b : Nat} {x0 x1 x2 x3 x4 x5 : Value} (h : Blk w b #[x0, x1, x2, x3, x4, x5]) (v : Value) : Blk (w.setCell ⟨b, 4, none⟩ v) b #[x0, x1, x2, x3, v, x5] := h.set v
theorem Blk.set6_5 {w : World} {b : Nat} {x0 x1 x2 x3 x4 x5 : Value} (h : Blk w b #[x0, x1, x2, x3, x4, x5]) (v : Value) : Blk (w.setCell ⟨b, 5, none⟩ v) b #[x0, x1, x2, x3, x4, v] := h.set v
theorem blk7 {w : World} {b : Nat} {x0 x1 x2 x3 x4 x5 x6 : Value} (h : Blk w b #[x0, x1, x2, x3, x4, x5, x6]) : w.cell? ⟨b, 0, none⟩ = some x0 ∧ w.cell? ⟨b, 1, none⟩ = some x1 ∧ w.cell? ⟨b, 2, none⟩ = some x2 ∧ w.cell? ⟨b, 3, none⟩ = some x3 ∧ w.cell? ⟨b, 4, none⟩ = some x4 ∧ w.cell? ⟨b, 5, none⟩ = some x5 ∧ w.cell? ⟨b, 6, none⟩ = some x6 ∧ (∀ i, w.frozen? ⟨b, i, none⟩ = false) ∧ b < w.heap.size ∧ b ≤ w.heap.size ∧ b < w.heap.size + 1 ∧ b < w.heap.size + 1 + 1 ∧ b < w.heap.size + 1 + 1 + 1 :=
  ⟨h.cell rfl, h.cell rfl, h.cell rfl, h.cell rfl, h.cell rfl, h.cell rfl, h.cell rfl, h.free, h.size⟩
theorem cells7 {w : World} {b : Nat} {x0 x1 x2 x3 x4 x5 x6 : Value} (h : Blk w b #[x0, x1, x2, x3, x4, x5, x6]) : w.cell? ⟨b, 0, none⟩ = some x0 ∧ w.cell? ⟨b, 1, none⟩ = some x1 ∧ w.cell? ⟨b, 2, none⟩ = some x2 ∧ w.cell? ⟨b, 3, none⟩ = some x3 ∧ w.cell? ⟨b, 4, none⟩ = some x4 ∧ w.cell? ⟨b, 5, none⟩ = some x5 ∧ w.cell? ⟨b, 6, none⟩ = some x6 := ⟨h.cell rfl, h.cell rfl, h.cell rfl, h.cell rfl, h.cell rfl, h.cell rfl, h.cell rfl⟩
theorem blk8 {w : World} {b : Nat} {x0 x1 x2 x3 x4 x5 x6 x7 : Value} (h : Blk w b #[x0, x1, x2, x3, x4, x5, x6, x7]) : w.cell? ⟨b, 0, none⟩ = some x0 ∧ w.cell? ⟨b, 1, none⟩ = some x1 ∧ w.cell? ⟨b, 2, none⟩ = some x2 ∧ w.cell? ⟨b, 3, none⟩ = some x3 ∧ w.cell? ⟨b, 4, none⟩ = some x4 ∧ w.cell? ⟨b, 5, none⟩ = some x5 ∧ w.cell? ⟨b, 6, none⟩ = some x6 ∧ w.cell? ⟨b, 7, none⟩ = some x7 ∧ (∀ i, w.frozen? ⟨b, i, none⟩ = false) ∧ b < w.heap.size ∧ b ≤ w.heap.size ∧ b < w.heap.size + 1 ∧ b < w.heap.size + 1 + 1 ∧ b < w.heap.size + 1 + 1 + 1 :=
  ⟨h.cell rfl, h.cell rfl, h.cell rfl, h.cell rfl, h.cell rfl, h.cell rfl, h.cell rfl, h.cell rfl, h.free, h.size⟩
theorem cells8 {w : World} {b : Nat} {x0 x1 x2 x3 x4 x5 x6 x7 : Value} (h : Blk w b #[x0, x1, x2, x3, x4, x5, x6, x7]) : w.cell? ⟨b, 0, none⟩ = some x0 ∧ w.cell? ⟨b, 1, none⟩ = some x1 ∧ w.cell? ⟨b, 2, none⟩ = some x2 ∧ w.cell? ⟨b, 3, none⟩ = some x3 ∧ w.cell? ⟨b, 4, none⟩ = some x4 ∧ w.cell? ⟨b, 5, none⟩ = some x5 ∧ w.cell? ⟨b, 6, none⟩ = some x6 ∧ w.cell? ⟨b, 7, none⟩ = some x7 := ⟨h.cell rfl, h.cell rfl, h.cell rfl, h.cell rfl, h.cell rfl, h.cell rfl, h.cell rfl, h.cell rfl⟩
theorem blk9 {w : World} {b : Nat} {x0 x1 x2 x3 x4 x5 x6 x7 x8 : Value} (h : Blk w b #[x0, x1, x2, x3, x4, x5, x6, x7, x8]) : w.cell? ⟨b, 0, none⟩ = some x0 ∧ w.cell? ⟨b, 1, none⟩ = some x1 ∧ w.cell? ⟨b, 2, none⟩ = some x2 ∧ w.cell? ⟨b, 3, none⟩ = some x3 ∧ w.cell? ⟨b, 4, none⟩ = some x4 ∧ w.cell? ⟨b, 5, none⟩ = some x5 ∧ w.cell? ⟨b, 6, none⟩ = some x6 ∧ w.cell? ⟨b, 7, none⟩ = some x7 ∧ w.cell? ⟨b, 8, none⟩ = some x8 ∧ (∀ i, w.frozen? ⟨b, i, none⟩ = false) ∧ b < w.heap.size ∧ b ≤ w.heap.size ∧ b < w.heap.size + 1 ∧ b < w.heap.size + 1 + 1 ∧ b < w.heap.size + 1 + 1 + 1 :=
  ⟨h.cell rfl, h.cell rfl, h.cell rfl, h.cell rfl, h.cell rfl, h.cell rfl, h.cell rfl, h.cell rfl, h.cell rfl, h.free, h.size⟩
theorem cells9 {w : World} {b : Nat} {x0 x1 x2 x3 x4 x5 x6 x7 x8 : Value} (h : Blk w b #[x0, x1, x2, x3, x4, x5, x6, x7, x8]) : w.cell? ⟨b, 0, none⟩ = some x0 ∧ w.cell? ⟨b, 1, none⟩ = some x1 ∧ w.cell? ⟨b, 2, none⟩ = some x2 ∧ w.cell? ⟨b, 3, none⟩ = some x3 ∧ w.cell? ⟨b, 4, none⟩ = some x4 ∧ w.cell? ⟨b, 5, none⟩ = some x5 ∧ w.cell? ⟨b, 6, none⟩ = some x6 ∧ w.cell? ⟨b, 7, none⟩ = some x7 ∧ w.cell? ⟨b, 8, none⟩ = some x8 := ⟨h.cell rfl, h.cell rfl, h.cell rfl, h.cell rfl, h.cell rfl, h.cell rfl, h.cell rfl, h.cell rfl, h.cell rfl⟩
theorem blk10 {w : World} {b : Nat} {x0 x1 x2 x3 x4 x5 x6 x7 x8 x9 : Value} (h : Blk w b #[x0, x1, x2, x3, x4, x5, x6, x7, x8, x9]) : w.cell? ⟨b, 0, none⟩ = some x0 ∧ w.cell? ⟨b, 1, none⟩ = some x1 ∧ w.cell? ⟨b, 2, none⟩ = some x2 ∧ w.cell? ⟨b, 3, none⟩ = some x3 ∧ w.cell? ⟨b, 4, none⟩ = some x4 ∧ w.cell? ⟨b, 5, none⟩ = some x5 ∧ w.cell? ⟨b, 6, none⟩ = some x6 ∧ w.cell? ⟨b, 7, none⟩ = some x7 ∧ w.cell? ⟨b, 8, none⟩ = some x8 ∧ w.cell? ⟨b, 9, none⟩ = some x9 ∧ (∀ i, w.frozen? ⟨b, i, none⟩ = false) ∧ b < w.heap.size ∧ b ≤ w.heap.size ∧ b < w.heap.size + 1 ∧ b < w.heap.size + 1 + 1 ∧ b < w.heap.size + 1 + 1 + 1 :=
  ⟨h.cell rfl, h.cell rfl, h.cell rfl, h.cell rfl, h.cell rfl, h.cell rfl, h.cell rfl, h.cell rfl, h.cell rfl, h.cell rfl, h.free, h.size⟩
theorem cells10 {w : World} {b : Nat} {x0 x1 x2 x3 x4 x5 x6 x7 x8 x9 : Value} (h : Blk w b #[x0, x1, x2, x3, x4, x5, x6, x7, x8, x9]) : w.cell? ⟨b, 0, none⟩ = some x0 ∧ w.cell? ⟨b, 1, none⟩ = some x1 ∧ w.cell? ⟨b, 2, none⟩ = some x2 ∧ w.cell? ⟨b, 3, none⟩ = some x3 ∧ w.cell? ⟨b, 4, none⟩ = some x4 ∧ w.cell? ⟨b, 5, none⟩ = some x5 ∧ w.cell? ⟨b, 6, none⟩ = some x6 ∧ w.cell? ⟨b, 7, none⟩ = some x7 ∧ w.cell? ⟨b, 8, none⟩ = some x8 ∧ w.cell? ⟨b, 9, none⟩ = some x9 := ⟨h.cell rfl, h.cell rfl, h.cell rfl, h.cell rfl, h.cell rfl, h.cell rfl, h.cell rfl, h.cell rfl, h.cell rfl, h.cell rfl⟩
theorem blk11 {w : World} {b : Nat} {x0 x1 x2 x3 x4 x5 x6 x7 x8 x9 x10 : Value} (h : Blk w b #[x0, x1, x2, x3, x4, x5, x6, x7, x8, x9, x10]) : w.cell? ⟨b, 0, none⟩ = some x0 ∧ w.cell? ⟨b, 1, none⟩ = some x1 ∧ w.cell? ⟨b, 2, none⟩ = some x2 ∧ w.cell? ⟨b, 3, none⟩ = some x3 ∧ w.cell? ⟨b, 4, none⟩ = some x4 ∧ w.cell? ⟨b, 5, none⟩ = some x5 ∧ w.cell? ⟨b, 6, none⟩ = some x6 ∧ w.cell? ⟨b, 7, none⟩ = some x7 ∧ w.cell? ⟨b, 8, none⟩ = some x8 ∧ w.cell? ⟨b, 9, none⟩ = some x9 ∧ w.cell? ⟨b, 10, none⟩ = some x10 ∧ (∀ i, w.frozen? ⟨b, i, none⟩ = false) ∧ b < w.heap.size ∧ b ≤ w.heap.size ∧ b < w.heap.size + 1 ∧ b < w.heap.size + 1 + 1 ∧ b < w.heap.size + 1 + 1 + 1 :=
  ⟨h.cell rfl, h.cell rfl, h.cell rfl, h.cell rfl, h.cell rfl, h.cell rfl, h.cell rfl, h.cell rfl, h.cell rfl, h.cell rfl, h.cell rfl, h.free, h.size⟩
theorem cells11 {w : World} {b : Nat} {x0 x1 x2 x3 x4 x5 x6 x7 x8 x9 x10 : Value} (h : Blk w b #[x0, x1, x2, x3, x4, x5, x6, x7, x8, x9, x10]) : w.cell? ⟨b, 0, none⟩ = some x0 ∧ w.cell? ⟨b, 1, none⟩ = some x1 ∧ w.cell? ⟨b, 2, none⟩ = some x2 ∧ w.cell? ⟨b, 3, none⟩ = some x3 ∧ w.cell? ⟨b, 4, none⟩ = some x4 ∧ w.cell? ⟨b, 5, none⟩ = some x5 ∧ w.cell? ⟨b, 6, none⟩ = some x6 ∧ w.cell? ⟨b, 7, none⟩ = some x7 ∧ w.cell? ⟨b, 8, none⟩ = some x8 ∧ w.cell? ⟨b, 9, none⟩ = some x9 ∧ w.cell? ⟨b, 10, none⟩ = some x10 := ⟨h.cell rfl, h.cell rfl, h.cell rfl, h.cell rfl, h.cell rfl, h.cell rfl, h.cell rfl, h.cell rfl, h.cell rfl, h.cell rfl, h.cell rfl⟩
theorem blk12 {w : World} {b : Nat} {x0 x1 x2 x3 x4 x5 x6 x7 x8 x9 x10 x11 : Value} (h : Blk w b #[x0, x1, x2, x3, x4, x5, x6, x7, x8, x9, x10, x11]) : w.cell? ⟨b, 0, none⟩ = some x0 ∧ w.cell? ⟨b, 1, none⟩ = some x1 ∧ w.cell? ⟨b, 2, none⟩ = some x2 ∧ w.cell? ⟨b, 3, none⟩ = some x3 ∧ w.cell? ⟨b, 4, none⟩ = some x4 ∧ w.cell? ⟨b, 5, none⟩ = some x5 ∧ w.cell? ⟨b, 6, none⟩ = some x6 ∧ w.cell? ⟨b, 7, none⟩ = some x7 ∧ w.cell? ⟨b, 8, none⟩ = some x8 ∧ w.cell? ⟨b, 9, none⟩ = some x9 ∧ w.cell? ⟨b, 10, none⟩ = some x10 ∧ w.cell? ⟨b, 11, none⟩ = some x11 ∧ (∀ i, w.frozen? ⟨b, i, none⟩ = false) ∧ b < w.heap.size ∧ b ≤ w.heap.size ∧ b < w.heap.size + 1 ∧ b < w.heap.size + 1 + 1 ∧ b < w.heap.size + 1 + 1 + 1 :=
  ⟨h.cell rfl, h.cell rfl, h.cell rfl, h.cell rfl, h.cell rfl, h.cell rfl, h.cell rfl, h.cell rfl, h.cell rfl, h.cell rfl, h.cell rfl, h.cell rfl, h.free, h.size⟩
theorem cells12 {w : World} {b : Nat} {x0 x1 x2 x3 x4 x5 x6 x7 x8 x9 x10 x11 : Value} (h : Blk w b #[x0, x1, x2, x3, x4, x5, x6, x7, x8, x9, x10, x11]) : w.cell? ⟨b, 0, none⟩ = some x0 ∧ w.cell? ⟨b, 1, none⟩ = some x1 ∧ w.cell? ⟨b, 2, none⟩ = some x2 ∧ w.cell? ⟨b, 3, none⟩ = some x3 ∧ w.cell? ⟨b, 4, none⟩ = some x4 ∧ w.cell? ⟨b, 5, none⟩ = some x5 ∧ w.cell? ⟨b, 6, none⟩ = some x6 ∧ w.cell? ⟨b, 7, none⟩ = some x7 ∧ w.cell? ⟨b, 8, none⟩ = some x8 ∧ w.cell? ⟨b, 9, none⟩ = some x9 ∧ w.cell? ⟨b, 10, none⟩ = some x10 ∧ w.cell? ⟨b, 11, none⟩ = some x11 := ⟨h.cell rfl, h.cell rfl, h.cell rfl, h.cell rfl, h.cell rfl, h.cell rfl, h.cell rfl, h.cell rfl, h.cell rfl, h.cell rfl, h.cell rfl, h.cell rfl⟩

end Go.Proofs.YtmldjlgeeljfdaaGreat
