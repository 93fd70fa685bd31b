/-
  No cell of these rows narrows 'for every input' (looked for: loops, veiled, ifaces, maps, wideKeys, modest, calm, conditions, laid).
  DERIVED. THE GIVEN ROWS OF THIS SEAT. 5 by the template 'for every input the law returns true; each argument reads behind the call as it read before'; 0 by the template 'total and deterministic' (their statements: YtgphodlkaknkcaaTotals.lean).
  GIVEN WITH THE SEED: the statements are not yours to turn. If you find one false, say at which input.
  Laid BY PROGRAM, IN A SANDBOX (cutbox-rows.mjs): the forced cells as the released guide's own fill.sh prints them over the translation 45cda87b3ae17912… (all of the seat's roots in one cut). By AI agents, Wed Nov 11 2026. No macro, syntax, notation, axiom, sorry.
-/
import Derived.Test.YtgphodlkaknkcaaChecked
import GoSem.Claim
import GoSem.ClaimJoined
import GoSem.ClaimMapViews
import Derived.JoinedTies
import Derived.KernelRfl
namespace Go.Proofs.Ytgphodlkaknkcaa
/- THE CELL 'sum', in the pinned program and in every row, IS THE sha256 OF THE DUMP (.gsa) THAT YtgphodlkaknkcaaProg.lean LOADS. Nothing in Lean hashes anything: it is a label: what it is worth is what the hold of that sum in a sandbox is worth. -/
noncomputable def Try.pinned : Pinned := { name := "ytgphodlkaknkcaa", sum := "45cda87b3ae17912d9f6530c330151d17b88d8170c6a240e776c737ff85f9144", checked := Try.checked }
namespace Rows
def none {H : Type} : Left H := { results := [], args := [] }

/-- 'casuistlaw02.DecSums': WHATEVER THE INPUT: true; the input reads as it did. -/
def decSumsSpec : ChangeSpec := { name := "decSums", fn := fun _ => fun
  | [d1, d2] => { results := [.lit (.bool true)], args := [d1, d2] }
  | _ => none }
def decSumsRow : OpenClaim := { program := "ytgphodlkaknkcaa", sum := "45cda87b3ae17912d9f6530c330151d17b88d8170c6a240e776c737ff85f9144", func := "casuist/casuistlaw02.DecSums", spec := "decSums", inPlace := ["math/bits.Add64", "math/bits.Sub64"], named := ["math/bits.divideError", "math/bits.overflowError"], apart := false }
def DecSumsSaid : Prop := decSumsRow.holds Try.pinned (OpenSpec.ofChange decSumsSpec)

/-- ITS FALSE NEIGHBOUR: 'it returns false'. Refute it at one input. -/
def decSumsWrong : ChangeSpec := { name := "decSums", fn := fun _ => fun
  | [d1, d2] => { results := [.lit (.bool false)], args := [d1, d2] }
  | _ => none }
def DecSumsWrongFalsely : Prop := decSumsRow.holds Try.pinned (OpenSpec.ofChange decSumsWrong)

/-- 'casuistlaw02.DecFit': WHATEVER THE INPUT: true; the input reads as it did. -/
def decFitSpec : ChangeSpec := { name := "decFit", fn := fun _ => fun
  | [d1, d2, d3] => { results := [.lit (.bool true)], args := [d1, d2, d3] }
  | _ => none }
def decFitRow : OpenClaim := { program := "ytgphodlkaknkcaa", sum := "45cda87b3ae17912d9f6530c330151d17b88d8170c6a240e776c737ff85f9144", func := "casuist/casuistlaw02.DecFit", spec := "decFit", inPlace := ["math/bits.Add64", "math/bits.Sub64"], named := ["math/bits.divideError", "math/bits.overflowError"], apart := false }
def DecFitSaid : Prop := decFitRow.holds Try.pinned (OpenSpec.ofChange decFitSpec)

/-- ITS FALSE NEIGHBOUR: 'it returns false'. Refute it at one input. -/
def decFitWrong : ChangeSpec := { name := "decFit", fn := fun _ => fun
  | [d1, d2, d3] => { results := [.lit (.bool false)], args := [d1, d2, d3] }
  | _ => none }
def DecFitWrongFalsely : Prop := decFitRow.holds Try.pinned (OpenSpec.ofChange decFitWrong)

/-- 'casuistlaw02.DecOrder': WHATEVER THE INPUT: true; the input reads as it did. -/
def decOrderSpec : ChangeSpec := { name := "decOrder", fn := fun _ => fun
  | [d1, d2, d3] => { results := [.lit (.bool true)], args := [d1, d2, d3] }
  | _ => none }
def decOrderRow : OpenClaim := { program := "ytgphodlkaknkcaa", sum := "45cda87b3ae17912d9f6530c330151d17b88d8170c6a240e776c737ff85f9144", func := "casuist/casuistlaw02.DecOrder", spec := "decOrder", inPlace := ["math/bits.Add64", "math/bits.Sub64"], named := ["math/bits.divideError", "math/bits.overflowError"], apart := false }
def DecOrderSaid : Prop := decOrderRow.holds Try.pinned (OpenSpec.ofChange decOrderSpec)

/-- ITS FALSE NEIGHBOUR: 'it returns false'. Refute it at one input. -/
def decOrderWrong : ChangeSpec := { name := "decOrder", fn := fun _ => fun
  | [d1, d2, d3] => { results := [.lit (.bool false)], args := [d1, d2, d3] }
  | _ => none }
def DecOrderWrongFalsely : Prop := decOrderRow.holds Try.pinned (OpenSpec.ofChange decOrderWrong)

/-- 'casuistlaw02.DecRing': WHATEVER THE INPUT: true; the input reads as it did. -/
def decRingSpec : ChangeSpec := { name := "decRing", fn := fun _ => fun
  | [d1, d2] => { results := [.lit (.bool true)], args := [d1, d2] }
  | _ => none }
def decRingRow : OpenClaim := { program := "ytgphodlkaknkcaa", sum := "45cda87b3ae17912d9f6530c330151d17b88d8170c6a240e776c737ff85f9144", func := "casuist/casuistlaw02.DecRing", spec := "decRing", inPlace := ["math/bits.Add64", "math/bits.Sub64"], named := ["math/bits.divideError", "math/bits.overflowError"], apart := false }
def DecRingSaid : Prop := decRingRow.holds Try.pinned (OpenSpec.ofChange decRingSpec)

/-- ITS FALSE NEIGHBOUR: 'it returns false'. Refute it at one input. -/
def decRingWrong : ChangeSpec := { name := "decRing", fn := fun _ => fun
  | [d1, d2] => { results := [.lit (.bool false)], args := [d1, d2] }
  | _ => none }
def DecRingWrongFalsely : Prop := decRingRow.holds Try.pinned (OpenSpec.ofChange decRingWrong)

/-- 'casuistlaw02.DecTells': WHATEVER THE INPUT: true; the input reads as it did. -/
def decTellsSpec : ChangeSpec := { name := "decTells", fn := fun _ => fun
  | [d1, d2, d3, d4, d5] => { results := [.lit (.bool true)], args := [d1, d2, d3, d4, d5] }
  | _ => none }
def decTellsRow : OpenClaim := { program := "ytgphodlkaknkcaa", sum := "45cda87b3ae17912d9f6530c330151d17b88d8170c6a240e776c737ff85f9144", func := "casuist/casuistlaw02.DecTells", spec := "decTells", inPlace := ["math/bits.Add64", "math/bits.Sub64"], named := ["math/bits.divideError", "math/bits.overflowError"], apart := false }
def DecTellsSaid : Prop := decTellsRow.holds Try.pinned (OpenSpec.ofChange decTellsSpec)

/-- ITS FALSE NEIGHBOUR: 'it returns false'. Refute it at one input. -/
def decTellsWrong : ChangeSpec := { name := "decTells", fn := fun _ => fun
  | [d1, d2, d3, d4, d5] => { results := [.lit (.bool false)], args := [d1, d2, d3, d4, d5] }
  | _ => none }
def DecTellsWrongFalsely : Prop := decTellsRow.holds Try.pinned (OpenSpec.ofChange decTellsWrong)

/- THE SECOND FORM. 'bulk': how many values and letters a reading holds, each counted each time it is reached (what is shared counts as often as it is met; a slice's spare places count too). A statement '..UptoSaid' is the law's where the arguments, and the package variables that the reading takes, are together of bulk at most 1048576: NARROWER than '..Said'. Prove '..Said' where nothing that the law and all that it calls make is longer than what came in: it says more and counts as full. Else prove '..UptoSaid'. A law counts once. -/
mutual
def uptoBulk {H : Type} : DataW H → Nat
  | .lit (.string bytes) => bytes.length + 1
  | .lit _ => 1
  | .nil => 1
  | .ptr d => uptoBulk d + 1
  | .slice elems spare => uptoBulkAll elems + uptoBulkAll spare + 1
  | .agg parts => uptoBulkAll parts + 1
  | .iface _ d => uptoBulk d + 1
  | .map entries => uptoBulkEntries entries + 1
  | .held _ => 1
def uptoBulkAll {H : Type} : List (DataW H) → Nat
  | [] => 0
  | d :: r => uptoBulk d + uptoBulkAll r
def uptoBulkEntries {H : Type} : List (Lit × DataW H) → Nat
  | [] => 0
  | x :: r => uptoBulkEntry x + uptoBulkEntries r
def uptoBulkEntry {H : Type} : Lit × DataW H → Nat
  | (.string bytes, d) => bytes.length + uptoBulk d + 1
  | (_, d) => uptoBulk d + 1
 end
def uptoSmall : (H : Type) → List (DataW H) → Bool := fun _ ds => decide (uptoBulkAll ds ≤ 1048576)
def OpenSpec.upto (s : _root_.Go.ChangeSpec) : _root_.Go.OpenSpec := { _root_.Go.OpenSpec.ofChange s with cond := some uptoSmall }

/-- 'casuistlaw02.DecSums', WHERE WHAT IT READS IS OF BULK AT MOST 1048576: true; the input reads as it did. -/
def decSumsUptoRow : OpenClaim := { program := "ytgphodlkaknkcaa", sum := "45cda87b3ae17912d9f6530c330151d17b88d8170c6a240e776c737ff85f9144", func := "casuist/casuistlaw02.DecSums", spec := "decSums", inPlace := ["math/bits.Add64", "math/bits.Sub64"], named := ["math/bits.divideError", "math/bits.overflowError"], apart := false, narrowed := true }
def DecSumsUptoSaid : Prop := decSumsUptoRow.holds Try.pinned (OpenSpec.upto decSumsSpec)

/-- 'casuistlaw02.DecFit', WHERE WHAT IT READS IS OF BULK AT MOST 1048576: true; the input reads as it did. -/
def decFitUptoRow : OpenClaim := { program := "ytgphodlkaknkcaa", sum := "45cda87b3ae17912d9f6530c330151d17b88d8170c6a240e776c737ff85f9144", func := "casuist/casuistlaw02.DecFit", spec := "decFit", inPlace := ["math/bits.Add64", "math/bits.Sub64"], named := ["math/bits.divideError", "math/bits.overflowError"], apart := false, narrowed := true }
def DecFitUptoSaid : Prop := decFitUptoRow.holds Try.pinned (OpenSpec.upto decFitSpec)

/-- 'casuistlaw02.DecOrder', WHERE WHAT IT READS IS OF BULK AT MOST 1048576: true; the input reads as it did. -/
def decOrderUptoRow : OpenClaim := { program := "ytgphodlkaknkcaa", sum := "45cda87b3ae17912d9f6530c330151d17b88d8170c6a240e776c737ff85f9144", func := "casuist/casuistlaw02.DecOrder", spec := "decOrder", inPlace := ["math/bits.Add64", "math/bits.Sub64"], named := ["math/bits.divideError", "math/bits.overflowError"], apart := false, narrowed := true }
def DecOrderUptoSaid : Prop := decOrderUptoRow.holds Try.pinned (OpenSpec.upto decOrderSpec)

/-- 'casuistlaw02.DecRing', WHERE WHAT IT READS IS OF BULK AT MOST 1048576: true; the input reads as it did. -/
def decRingUptoRow : OpenClaim := { program := "ytgphodlkaknkcaa", sum := "45cda87b3ae17912d9f6530c330151d17b88d8170c6a240e776c737ff85f9144", func := "casuist/casuistlaw02.DecRing", spec := "decRing", inPlace := ["math/bits.Add64", "math/bits.Sub64"], named := ["math/bits.divideError", "math/bits.overflowError"], apart := false, narrowed := true }
def DecRingUptoSaid : Prop := decRingUptoRow.holds Try.pinned (OpenSpec.upto decRingSpec)

/-- 'casuistlaw02.DecTells', WHERE WHAT IT READS IS OF BULK AT MOST 1048576: true; the input reads as it did. -/
def decTellsUptoRow : OpenClaim := { program := "ytgphodlkaknkcaa", sum := "45cda87b3ae17912d9f6530c330151d17b88d8170c6a240e776c737ff85f9144", func := "casuist/casuistlaw02.DecTells", spec := "decTells", inPlace := ["math/bits.Add64", "math/bits.Sub64"], named := ["math/bits.divideError", "math/bits.overflowError"], apart := false, narrowed := true }
def DecTellsUptoSaid : Prop := decTellsUptoRow.holds Try.pinned (OpenSpec.upto decTellsSpec)

end Rows
end Go.Proofs.Ytgphodlkaknkcaa
