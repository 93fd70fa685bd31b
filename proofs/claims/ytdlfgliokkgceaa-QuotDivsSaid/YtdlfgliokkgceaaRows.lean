/-
  No cell of these rows narrows 'for every input' (looked for: loops, veiled, ifaces, maps, wideKeys, modest, calm, conditions, laid).
  DERIVED. THE GIVEN ROWS OF THIS SEAT. 6 by the template 'for every input the law returns true; each argument reads behind the call as it read before'; 0 by the template 'total and deterministic' (their statements: YtdlfgliokkgceaaTotals.lean).
  GIVEN WITH THE SEED: the statements are not yours to turn. If you find one false, say at which input.
  Laid BY PROGRAM, IN A SANDBOX (cutbox-rows.mjs): the forced cells as the released guide's own fill.sh prints them over the translation 35aed2fa02632bcf… (all of the seat's roots in one cut). By AI agents, Wed Nov 11 2026. No macro, syntax, notation, axiom, sorry.
-/
import Derived.Test.YtdlfgliokkgceaaChecked
import GoSem.Claim
import GoSem.ClaimJoined
import GoSem.ClaimMapViews
import Derived.JoinedTies
import Derived.KernelRfl
namespace Go.Proofs.Ytdlfgliokkgceaa
/- THE CELL 'sum', in the pinned program and in every row, IS THE sha256 OF THE DUMP (.gsa) THAT YtdlfgliokkgceaaProg.lean LOADS. Nothing in Lean hashes anything: it is a label: what it is worth is what the hold of that sum in a sandbox is worth. -/
noncomputable def Try.pinned : Pinned := { name := "ytdlfgliokkgceaa", sum := "35aed2fa02632bcf44e06090aa60de5c47c9e4776bd3ad9307cd35d2b9a3c639", checked := Try.checked }
namespace Rows
def none {H : Type} : Left H := { results := [], args := [] }

/-- 'casuistlaw03.QuotDivs': WHATEVER THE INPUT: true; the input reads as it did. -/
def quotDivsSpec : ChangeSpec := { name := "quotDivs", fn := fun _ => fun
  | [d1, d2] => { results := [.lit (.bool true)], args := [d1, d2] }
  | _ => none }
def quotDivsRow : OpenClaim := { program := "ytdlfgliokkgceaa", sum := "35aed2fa02632bcf44e06090aa60de5c47c9e4776bd3ad9307cd35d2b9a3c639", func := "casuist/casuistlaw03.QuotDivs", spec := "quotDivs", inPlace := ["math/bits.Add64", "math/bits.Sub64"], named := ["math/bits.divideError", "math/bits.overflowError"], apart := false }
def QuotDivsSaid : Prop := quotDivsRow.holds Try.pinned (OpenSpec.ofChange quotDivsSpec)

/-- ITS FALSE NEIGHBOUR: 'it returns false'. Refute it at one input. -/
def quotDivsWrong : ChangeSpec := { name := "quotDivs", fn := fun _ => fun
  | [d1, d2] => { results := [.lit (.bool false)], args := [d1, d2] }
  | _ => none }
def QuotDivsWrongFalsely : Prop := quotDivsRow.holds Try.pinned (OpenSpec.ofChange quotDivsWrong)

/-- 'casuistlaw03.QuotPowers': WHATEVER THE INPUT: true; the input reads as it did. -/
def quotPowersSpec : ChangeSpec := { name := "quotPowers", fn := fun _ => fun
  | [d1, d2] => { results := [.lit (.bool true)], args := [d1, d2] }
  | _ => none }
def quotPowersRow : OpenClaim := { program := "ytdlfgliokkgceaa", sum := "35aed2fa02632bcf44e06090aa60de5c47c9e4776bd3ad9307cd35d2b9a3c639", func := "casuist/casuistlaw03.QuotPowers", spec := "quotPowers", inPlace := ["math/bits.Add64", "math/bits.Sub64"], named := ["math/bits.divideError", "math/bits.overflowError"], apart := false }
def QuotPowersSaid : Prop := quotPowersRow.holds Try.pinned (OpenSpec.ofChange quotPowersSpec)

/-- ITS FALSE NEIGHBOUR: 'it returns false'. Refute it at one input. -/
def quotPowersWrong : ChangeSpec := { name := "quotPowers", fn := fun _ => fun
  | [d1, d2] => { results := [.lit (.bool false)], args := [d1, d2] }
  | _ => none }
def QuotPowersWrongFalsely : Prop := quotPowersRow.holds Try.pinned (OpenSpec.ofChange quotPowersWrong)

/-- 'casuistlaw03.QuotRoots': WHATEVER THE INPUT: true; the input reads as it did. -/
def quotRootsSpec : ChangeSpec := { name := "quotRoots", fn := fun _ => fun
  | [d] => { results := [.lit (.bool true)], args := [d] }
  | _ => none }
def quotRootsRow : OpenClaim := { program := "ytdlfgliokkgceaa", sum := "35aed2fa02632bcf44e06090aa60de5c47c9e4776bd3ad9307cd35d2b9a3c639", func := "casuist/casuistlaw03.QuotRoots", spec := "quotRoots", inPlace := ["math/bits.Add64", "math/bits.Sub64"], named := ["math/bits.divideError", "math/bits.overflowError"], apart := false }
def QuotRootsSaid : Prop := quotRootsRow.holds Try.pinned (OpenSpec.ofChange quotRootsSpec)

/-- ITS FALSE NEIGHBOUR: 'it returns false'. Refute it at one input. -/
def quotRootsWrong : ChangeSpec := { name := "quotRoots", fn := fun _ => fun
  | [d] => { results := [.lit (.bool false)], args := [d] }
  | _ => none }
def QuotRootsWrongFalsely : Prop := quotRootsRow.holds Try.pinned (OpenSpec.ofChange quotRootsWrong)

/-- 'casuistlaw03.QuotBack': WHATEVER THE INPUT: true; the input reads as it did. -/
def quotBackSpec : ChangeSpec := { name := "quotBack", fn := fun _ => fun
  | [d1, d2, d3, d4, d5] => { results := [.lit (.bool true)], args := [d1, d2, d3, d4, d5] }
  | _ => none }
def quotBackRow : OpenClaim := { program := "ytdlfgliokkgceaa", sum := "35aed2fa02632bcf44e06090aa60de5c47c9e4776bd3ad9307cd35d2b9a3c639", func := "casuist/casuistlaw03.QuotBack", spec := "quotBack", inPlace := ["math/bits.Add64", "math/bits.Sub64"], named := ["math/bits.divideError", "math/bits.overflowError"], apart := false }
def QuotBackSaid : Prop := quotBackRow.holds Try.pinned (OpenSpec.ofChange quotBackSpec)

/-- ITS FALSE NEIGHBOUR: 'it returns false'. Refute it at one input. -/
def quotBackWrong : ChangeSpec := { name := "quotBack", fn := fun _ => fun
  | [d1, d2, d3, d4, d5] => { results := [.lit (.bool false)], args := [d1, d2, d3, d4, d5] }
  | _ => none }
def QuotBackWrongFalsely : Prop := quotBackRow.holds Try.pinned (OpenSpec.ofChange quotBackWrong)

/-- 'casuistlaw03.QuotOnes': WHATEVER THE INPUT: true; the input reads as it did. -/
def quotOnesSpec : ChangeSpec := { name := "quotOnes", fn := fun _ => fun
  | [d] => { results := [.lit (.bool true)], args := [d] }
  | _ => none }
def quotOnesRow : OpenClaim := { program := "ytdlfgliokkgceaa", sum := "35aed2fa02632bcf44e06090aa60de5c47c9e4776bd3ad9307cd35d2b9a3c639", func := "casuist/casuistlaw03.QuotOnes", spec := "quotOnes", inPlace := ["math/bits.Add64", "math/bits.Sub64"], named := ["math/bits.divideError", "math/bits.overflowError"], apart := false }
def QuotOnesSaid : Prop := quotOnesRow.holds Try.pinned (OpenSpec.ofChange quotOnesSpec)

/-- ITS FALSE NEIGHBOUR: 'it returns false'. Refute it at one input. -/
def quotOnesWrong : ChangeSpec := { name := "quotOnes", fn := fun _ => fun
  | [d] => { results := [.lit (.bool false)], args := [d] }
  | _ => none }
def QuotOnesWrongFalsely : Prop := quotOnesRow.holds Try.pinned (OpenSpec.ofChange quotOnesWrong)

/-- 'casuistlaw03.QuotSquares': WHATEVER THE INPUT: true; the input reads as it did. -/
def quotSquaresSpec : ChangeSpec := { name := "quotSquares", fn := fun _ => fun
  | [d1, d2, d3] => { results := [.lit (.bool true)], args := [d1, d2, d3] }
  | _ => none }
def quotSquaresRow : OpenClaim := { program := "ytdlfgliokkgceaa", sum := "35aed2fa02632bcf44e06090aa60de5c47c9e4776bd3ad9307cd35d2b9a3c639", func := "casuist/casuistlaw03.QuotSquares", spec := "quotSquares", inPlace := ["math/bits.Add64", "math/bits.Sub64"], named := ["math/bits.divideError", "math/bits.overflowError"], apart := false }
def QuotSquaresSaid : Prop := quotSquaresRow.holds Try.pinned (OpenSpec.ofChange quotSquaresSpec)

/-- ITS FALSE NEIGHBOUR: 'it returns false'. Refute it at one input. -/
def quotSquaresWrong : ChangeSpec := { name := "quotSquares", fn := fun _ => fun
  | [d1, d2, d3] => { results := [.lit (.bool false)], args := [d1, d2, d3] }
  | _ => none }
def QuotSquaresWrongFalsely : Prop := quotSquaresRow.holds Try.pinned (OpenSpec.ofChange quotSquaresWrong)

/- THE SECOND FORM. 'bulk': how many values and letters a reading holds, each counted each time it is reached (what is shared counts as often as it is met; a slice's spare places count too). A statement '..UptoSaid' is the law's where the arguments, and the package variables that the reading takes, are together of bulk at most 1048576: NARROWER than '..Said'. Prove '..Said' where nothing that the law and all that it calls make is longer than what came in: it says more and counts as full. Else prove '..UptoSaid'. A law counts once. -/
mutual
def uptoBulk {H : Type} : DataW H → Nat
  | .lit (.string bytes) => bytes.length + 1
  | .lit _ => 1
  | .nil => 1
  | .ptr d => uptoBulk d + 1
  | .slice elems spare => uptoBulkAll elems + uptoBulkAll spare + 1
  | .agg parts => uptoBulkAll parts + 1
  | .iface _ d => uptoBulk d + 1
  | .map entries => uptoBulkEntries entries + 1
  | .held _ => 1
def uptoBulkAll {H : Type} : List (DataW H) → Nat
  | [] => 0
  | d :: r => uptoBulk d + uptoBulkAll r
def uptoBulkEntries {H : Type} : List (Lit × DataW H) → Nat
  | [] => 0
  | x :: r => uptoBulkEntry x + uptoBulkEntries r
def uptoBulkEntry {H : Type} : Lit × DataW H → Nat
  | (.string bytes, d) => bytes.length + uptoBulk d + 1
  | (_, d) => uptoBulk d + 1
 end
def uptoSmall : (H : Type) → List (DataW H) → Bool := fun _ ds => decide (uptoBulkAll ds ≤ 1048576)
def OpenSpec.upto (s : _root_.Go.ChangeSpec) : _root_.Go.OpenSpec := { _root_.Go.OpenSpec.ofChange s with cond := some uptoSmall }

/-- 'casuistlaw03.QuotDivs', WHERE WHAT IT READS IS OF BULK AT MOST 1048576: true; the input reads as it did. -/
def quotDivsUptoRow : OpenClaim := { program := "ytdlfgliokkgceaa", sum := "35aed2fa02632bcf44e06090aa60de5c47c9e4776bd3ad9307cd35d2b9a3c639", func := "casuist/casuistlaw03.QuotDivs", spec := "quotDivs", inPlace := ["math/bits.Add64", "math/bits.Sub64"], named := ["math/bits.divideError", "math/bits.overflowError"], apart := false, narrowed := true }
def QuotDivsUptoSaid : Prop := quotDivsUptoRow.holds Try.pinned (OpenSpec.upto quotDivsSpec)

/-- 'casuistlaw03.QuotPowers', WHERE WHAT IT READS IS OF BULK AT MOST 1048576: true; the input reads as it did. -/
def quotPowersUptoRow : OpenClaim := { program := "ytdlfgliokkgceaa", sum := "35aed2fa02632bcf44e06090aa60de5c47c9e4776bd3ad9307cd35d2b9a3c639", func := "casuist/casuistlaw03.QuotPowers", spec := "quotPowers", inPlace := ["math/bits.Add64", "math/bits.Sub64"], named := ["math/bits.divideError", "math/bits.overflowError"], apart := false, narrowed := true }
def QuotPowersUptoSaid : Prop := quotPowersUptoRow.holds Try.pinned (OpenSpec.upto quotPowersSpec)

/-- 'casuistlaw03.QuotRoots', WHERE WHAT IT READS IS OF BULK AT MOST 1048576: true; the input reads as it did. -/
def quotRootsUptoRow : OpenClaim := { program := "ytdlfgliokkgceaa", sum := "35aed2fa02632bcf44e06090aa60de5c47c9e4776bd3ad9307cd35d2b9a3c639", func := "casuist/casuistlaw03.QuotRoots", spec := "quotRoots", inPlace := ["math/bits.Add64", "math/bits.Sub64"], named := ["math/bits.divideError", "math/bits.overflowError"], apart := false, narrowed := true }
def QuotRootsUptoSaid : Prop := quotRootsUptoRow.holds Try.pinned (OpenSpec.upto quotRootsSpec)

/-- 'casuistlaw03.QuotBack', WHERE WHAT IT READS IS OF BULK AT MOST 1048576: true; the input reads as it did. -/
def quotBackUptoRow : OpenClaim := { program := "ytdlfgliokkgceaa", sum := "35aed2fa02632bcf44e06090aa60de5c47c9e4776bd3ad9307cd35d2b9a3c639", func := "casuist/casuistlaw03.QuotBack", spec := "quotBack", inPlace := ["math/bits.Add64", "math/bits.Sub64"], named := ["math/bits.divideError", "math/bits.overflowError"], apart := false, narrowed := true }
def QuotBackUptoSaid : Prop := quotBackUptoRow.holds Try.pinned (OpenSpec.upto quotBackSpec)

/-- 'casuistlaw03.QuotOnes', WHERE WHAT IT READS IS OF BULK AT MOST 1048576: true; the input reads as it did. -/
def quotOnesUptoRow : OpenClaim := { program := "ytdlfgliokkgceaa", sum := "35aed2fa02632bcf44e06090aa60de5c47c9e4776bd3ad9307cd35d2b9a3c639", func := "casuist/casuistlaw03.QuotOnes", spec := "quotOnes", inPlace := ["math/bits.Add64", "math/bits.Sub64"], named := ["math/bits.divideError", "math/bits.overflowError"], apart := false, narrowed := true }
def QuotOnesUptoSaid : Prop := quotOnesUptoRow.holds Try.pinned (OpenSpec.upto quotOnesSpec)

/-- 'casuistlaw03.QuotSquares', WHERE WHAT IT READS IS OF BULK AT MOST 1048576: true; the input reads as it did. -/
def quotSquaresUptoRow : OpenClaim := { program := "ytdlfgliokkgceaa", sum := "35aed2fa02632bcf44e06090aa60de5c47c9e4776bd3ad9307cd35d2b9a3c639", func := "casuist/casuistlaw03.QuotSquares", spec := "quotSquares", inPlace := ["math/bits.Add64", "math/bits.Sub64"], named := ["math/bits.divideError", "math/bits.overflowError"], apart := false, narrowed := true }
def QuotSquaresUptoSaid : Prop := quotSquaresUptoRow.holds Try.pinned (OpenSpec.upto quotSquaresSpec)

end Rows
end Go.Proofs.Ytdlfgliokkgceaa
