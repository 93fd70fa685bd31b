/-
  Rows of numbers in memory that are sorted: numbers as four cells; what is known of the world while they are sorted.
-/
import Derived.Test.YtmldjlgeeljfdaaGreatDecY
import Derived.Shelf.SlSortFuncK.SWK
import Derived.Shelf.SlicesQ.Reverse
namespace Go.Proofs.YtmldjlgeeljfdaaGreat
open Go.RowKit Go.Sort
set_option linter.unusedVariables false

/-- A number that may be one. -/
def D3 : Type := {x : Bool × Nat × Int // May x.1 x.2.1 x.2.2}
instance : Inhabited D3 := ⟨⟨(false, 0, 0), by decide, by decide, by decide, fun h => by cases h⟩⟩
abbrev D3.g (x : D3) : Bool := x.1.1
abbrev D3.n (x : D3) : Nat := x.1.2.1
abbrev D3.e (x : D3) : Int := x.1.2.2
def encD (x : D3) : List Value := [.bool x.g, .int .u64 (hiW x.n), .int .u64 (loW x.n), .int .i64 x.e]
theorem encD_len (x : D3) : (encD x).length = 4 := rfl
theorem encD_one (x : D3) : ∀ v ∈ encD x, v.oneCell' = true := by
  intro v hv
  simp only [encD, List.mem_cons, List.not_mem_nil, or_false] at hv
  rcases hv with rfl | rfl | rfl | rfl <;> rfl
/-- The order of two numbers. -/
def cfD (x y : D3) : Int := cmpZ x.g x.n x.e y.g y.n y.e
def ltD (x y : D3) : Bool := decide (cfD x y < 0)

/-- While a row is sorted: it holds d; all that was there before it stands. -/
structure SW (W0 : World) (blk : Nat) (d : Array D3) (w : World) : Prop where
  below : Below W0.heap.size W0 w
  row : HoldsK encD 4 w blk 0 d
  le : W0.heap.size ≤ blk
  lt : blk < w.heap.size
section
variable {W0 w w' : World} {blk : Nat} {d : Array D3}
theorem SW.drew (h : SW W0 blk d w) : SW W0 blk d w.drew := ⟨h.below.drew, h.row, h.le, h.lt⟩
theorem SW.next (h : SW W0 blk d w) (hb : Below w.heap.size w w') : SW W0 blk d w' :=
  ⟨h.below.trans (hb.mono h.below.size), fun j hj => by
    obtain ⟨h1, h2⟩ := h.row j hj
    exact ⟨(World.cell?_of_block (a := ⟨blk, 0 + j, none⟩) (hb.block blk h.lt)).trans h1, (World.frozen?_of_block (a := ⟨blk, 0 + j, none⟩) (hb.block blk h.lt)).trans h2⟩, h.le, Nat.lt_of_lt_of_le h.lt hb.size⟩
theorem below_setCells {B : Nat} {a : World} {b : Nat} (hb : B ≤ b) : ∀ (vs : List Value) (o : Nat) (w : World), Below B a w → Below B a (w.setCells b o vs)
  | [], _, _, h => h
  | v :: vs, o, w, h => by
    rw [World.setCells]
    exact below_setCells hb vs _ _ (h.setCell hb v)
theorem size_setCells' {b : Nat} : ∀ (vs : List Value) (o : Nat) (w : World), (w.setCells b o vs).heap.size = w.heap.size
  | [], _, _ => rfl
  | v :: vs, o, w => by rw [World.setCells, size_setCells' vs]; simp [World.setCell]
theorem SW.swap (h : SW W0 blk d w) {i j : Nat} (hi : i < d.size) (hj : j < d.size) : SW W0 blk (swp d i j) ((w.setCells blk (0 + i * 4) (encD d[j]!)).setCells blk (0 + j * 4) (encD d[i]!)) :=
  ⟨below_setCells h.le _ _ _ (below_setCells h.le _ _ _ h.below), (((SWK.start h.row).swap encD_len h.lt i j hi hj).holds h.lt h.row (by rw [size_swp])), h.le, by rw [size_setCells', size_setCells']; exact h.lt⟩
/-- What an element's cells hold. -/
structure At4 (w : World) (blk a : Nat) (g : Bool) (h l e : Int) : Prop where
  c0 : w.cell? ⟨blk, a, none⟩ = some (.bool g)
  c1 : w.cell? ⟨blk, a + 1, none⟩ = some (.int .u64 h)
  c2 : w.cell? ⟨blk, a + 2, none⟩ = some (.int .u64 l)
  c3 : w.cell? ⟨blk, a + 3, none⟩ = some (.int .i64 e)
  f0 : w.frozen? ⟨blk, a, none⟩ = false
  f1 : w.frozen? ⟨blk, a + 1, none⟩ = false
  f2 : w.frozen? ⟨blk, a + 2, none⟩ = false
  f3 : w.frozen? ⟨blk, a + 3, none⟩ = false
theorem SW.at (h : SW W0 blk d w) {i : Nat} (hi : i < d.size) {x : D3} (hx : d[i]! = x) : At4 w blk (i * 4) x.g (hiW x.n) (loW x.n) x.e := by
  subst hx
  have k := fun c hc => h.row.cell (i := i) (c := c) hi hc
  simp only [Nat.zero_add] at k
  exact ⟨(k 0 (by omega)).1, (k 1 (by omega)).1, (k 2 (by omega)).1, (k 3 (by omega)).1, (k 0 (by omega)).2, (k 1 (by omega)).2, (k 2 (by omega)).2, (k 3 (by omega)).2⟩
/-- The exchange's eight stores. -/
theorem SW.swap8 (h : SW W0 blk d w) {i j : Nat} (hi : i < d.size) (hj : j < d.size) {x y : D3} (hx : d[i]! = x) (hy : d[j]! = y) :
    SW W0 blk (swp d i j) ((((((((w.setCell ⟨blk, i * 4, none⟩ (.bool y.g)).setCell ⟨blk, i * 4 + 1, none⟩ (.int .u64 (hiW y.n))).setCell ⟨blk, i * 4 + 2, none⟩ (.int .u64 (loW y.n))).setCell ⟨blk, i * 4 + 3, none⟩ (.int .i64 y.e)).setCell ⟨blk, j * 4, none⟩ (.bool x.g)).setCell ⟨blk, j * 4 + 1, none⟩ (.int .u64 (hiW x.n))).setCell ⟨blk, j * 4 + 2, none⟩ (.int .u64 (loW x.n))).setCell ⟨blk, j * 4 + 3, none⟩ (.int .i64 x.e)) := by
  subst hx hy
  have := h.swap hi hj
  simpa only [encD, World.setCells, Nat.zero_add, Nat.add_assoc] using this
end
#print axioms SW.swap
end Go.Proofs.YtmldjlgeeljfdaaGreat
