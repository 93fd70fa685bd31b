/-
  No cell of these rows narrows 'for every input' (looked for: loops, veiled, ifaces, maps, wideKeys, modest, calm, conditions, laid).
  DERIVED. THE GIVEN ROWS OF THIS SEAT. 6 by the template 'for every input the law returns true; each argument reads behind the call as it read before'; 0 by the template 'total and deterministic' (their statements: YtpnfomnnbmncaaaTotals.lean).
  GIVEN WITH THE SEED: the statements are not yours to turn. If you find one false, say at which input.
  Laid BY PROGRAM, IN A SANDBOX (cutbox-rows.mjs): the forced cells as the released guide's own fill.sh prints them over the translation 9e2fd547897c0e7a… (all of the seat's roots in one cut). By AI agents, Wed Nov 11 2026. No macro, syntax, notation, axiom, sorry.
-/
import Derived.Test.YtpnfomnnbmncaaaChecked
import GoSem.Claim
import GoSem.ClaimJoined
import GoSem.ClaimMapViews
import Derived.JoinedTies
import Derived.KernelRfl
namespace Go.Proofs.Ytpnfomnnbmncaaa
/- THE CELL 'sum', in the pinned program and in every row, IS THE sha256 OF THE DUMP (.gsa) THAT YtpnfomnnbmncaaaProg.lean LOADS. Nothing in Lean hashes anything: it is a label: what it is worth is what the hold of that sum in a sandbox is worth. -/
noncomputable def Try.pinned : Pinned := { name := "ytpnfomnnbmncaaa", sum := "9e2fd547897c0e7a463baa5891efad420ad8a678b846840016d8724472fadba8", checked := Try.checked }
namespace Rows
def none {H : Type} : Left H := { results := [], args := [] }

/-- 'casuistlaw01.WideMuls': WHATEVER THE INPUT: true; the input reads as it did. -/
def wideMulsSpec : ChangeSpec := { name := "wideMuls", fn := fun _ => fun
  | [d1, d2, d3] => { results := [.lit (.bool true)], args := [d1, d2, d3] }
  | _ => none }
def wideMulsRow : OpenClaim := { program := "ytpnfomnnbmncaaa", sum := "9e2fd547897c0e7a463baa5891efad420ad8a678b846840016d8724472fadba8", func := "casuist/casuistlaw01.WideMuls", spec := "wideMuls", inPlace := ["math/bits.Add64", "math/bits.Sub64"], named := ["math/bits.divideError", "math/bits.overflowError"], apart := false }
def WideMulsSaid : Prop := wideMulsRow.holds Try.pinned (OpenSpec.ofChange wideMulsSpec)

/-- ITS FALSE NEIGHBOUR: 'it returns false'. Refute it at one input. -/
def wideMulsWrong : ChangeSpec := { name := "wideMuls", fn := fun _ => fun
  | [d1, d2, d3] => { results := [.lit (.bool false)], args := [d1, d2, d3] }
  | _ => none }
def WideMulsWrongFalsely : Prop := wideMulsRow.holds Try.pinned (OpenSpec.ofChange wideMulsWrong)

/-- 'casuistlaw01.WideDivs': WHATEVER THE INPUT: true; the input reads as it did. -/
def wideDivsSpec : ChangeSpec := { name := "wideDivs", fn := fun _ => fun
  | [d1, d2, d3, d4] => { results := [.lit (.bool true)], args := [d1, d2, d3, d4] }
  | _ => none }
def wideDivsRow : OpenClaim := { program := "ytpnfomnnbmncaaa", sum := "9e2fd547897c0e7a463baa5891efad420ad8a678b846840016d8724472fadba8", func := "casuist/casuistlaw01.WideDivs", spec := "wideDivs", inPlace := ["math/bits.Add64", "math/bits.Sub64"], named := ["math/bits.divideError", "math/bits.overflowError"], apart := false }
def WideDivsSaid : Prop := wideDivsRow.holds Try.pinned (OpenSpec.ofChange wideDivsSpec)

/-- ITS FALSE NEIGHBOUR: 'it returns false'. Refute it at one input. -/
def wideDivsWrong : ChangeSpec := { name := "wideDivs", fn := fun _ => fun
  | [d1, d2, d3, d4] => { results := [.lit (.bool false)], args := [d1, d2, d3, d4] }
  | _ => none }
def WideDivsWrongFalsely : Prop := wideDivsRow.holds Try.pinned (OpenSpec.ofChange wideDivsWrong)

/-- 'casuistlaw01.WideRoots': WHATEVER THE INPUT: true; the input reads as it did. -/
def wideRootsSpec : ChangeSpec := { name := "wideRoots", fn := fun _ => fun
  | [d1, d2] => { results := [.lit (.bool true)], args := [d1, d2] }
  | _ => none }
def wideRootsRow : OpenClaim := { program := "ytpnfomnnbmncaaa", sum := "9e2fd547897c0e7a463baa5891efad420ad8a678b846840016d8724472fadba8", func := "casuist/casuistlaw01.WideRoots", spec := "wideRoots", inPlace := ["math/bits.Add64", "math/bits.Sub64"], named := ["math/bits.divideError", "math/bits.overflowError"], apart := false }
def WideRootsSaid : Prop := wideRootsRow.holds Try.pinned (OpenSpec.ofChange wideRootsSpec)

/-- ITS FALSE NEIGHBOUR: 'it returns false'. Refute it at one input. -/
def wideRootsWrong : ChangeSpec := { name := "wideRoots", fn := fun _ => fun
  | [d1, d2] => { results := [.lit (.bool false)], args := [d1, d2] }
  | _ => none }
def WideRootsWrongFalsely : Prop := wideRootsRow.holds Try.pinned (OpenSpec.ofChange wideRootsWrong)

/-- 'casuistlaw01.WideSums': WHATEVER THE INPUT: true; the input reads as it did. -/
def wideSumsSpec : ChangeSpec := { name := "wideSums", fn := fun _ => fun
  | [d1, d2, d3, d4] => { results := [.lit (.bool true)], args := [d1, d2, d3, d4] }
  | _ => none }
def wideSumsRow : OpenClaim := { program := "ytpnfomnnbmncaaa", sum := "9e2fd547897c0e7a463baa5891efad420ad8a678b846840016d8724472fadba8", func := "casuist/casuistlaw01.WideSums", spec := "wideSums", inPlace := ["math/bits.Add64", "math/bits.Sub64"], named := ["math/bits.divideError", "math/bits.overflowError"], apart := false }
def WideSumsSaid : Prop := wideSumsRow.holds Try.pinned (OpenSpec.ofChange wideSumsSpec)

/-- ITS FALSE NEIGHBOUR: 'it returns false'. Refute it at one input. -/
def wideSumsWrong : ChangeSpec := { name := "wideSums", fn := fun _ => fun
  | [d1, d2, d3, d4] => { results := [.lit (.bool false)], args := [d1, d2, d3, d4] }
  | _ => none }
def WideSumsWrongFalsely : Prop := wideSumsRow.holds Try.pinned (OpenSpec.ofChange wideSumsWrong)

/-- 'casuistlaw01.WideTexts': WHATEVER THE INPUT: true; the input reads as it did. -/
def wideTextsSpec : ChangeSpec := { name := "wideTexts", fn := fun _ => fun
  | [d1, d2, d3, d4] => { results := [.lit (.bool true)], args := [d1, d2, d3, d4] }
  | _ => none }
def wideTextsRow : OpenClaim := { program := "ytpnfomnnbmncaaa", sum := "9e2fd547897c0e7a463baa5891efad420ad8a678b846840016d8724472fadba8", func := "casuist/casuistlaw01.WideTexts", spec := "wideTexts", inPlace := ["math/bits.Add64", "math/bits.Sub64"], named := ["math/bits.divideError", "math/bits.overflowError"], apart := false }
def WideTextsSaid : Prop := wideTextsRow.holds Try.pinned (OpenSpec.ofChange wideTextsSpec)

/-- ITS FALSE NEIGHBOUR: 'it returns false'. Refute it at one input. -/
def wideTextsWrong : ChangeSpec := { name := "wideTexts", fn := fun _ => fun
  | [d1, d2, d3, d4] => { results := [.lit (.bool false)], args := [d1, d2, d3, d4] }
  | _ => none }
def WideTextsWrongFalsely : Prop := wideTextsRow.holds Try.pinned (OpenSpec.ofChange wideTextsWrong)

/-- 'casuistlaw01.WideBack': WHATEVER THE INPUT: true; the input reads as it did. -/
def wideBackSpec : ChangeSpec := { name := "wideBack", fn := fun _ => fun
  | [d1, d2, d3] => { results := [.lit (.bool true)], args := [d1, d2, d3] }
  | _ => none }
def wideBackRow : OpenClaim := { program := "ytpnfomnnbmncaaa", sum := "9e2fd547897c0e7a463baa5891efad420ad8a678b846840016d8724472fadba8", func := "casuist/casuistlaw01.WideBack", spec := "wideBack", inPlace := ["math/bits.Add64", "math/bits.Sub64"], named := ["math/bits.divideError", "math/bits.overflowError"], apart := false }
def WideBackSaid : Prop := wideBackRow.holds Try.pinned (OpenSpec.ofChange wideBackSpec)

/-- ITS FALSE NEIGHBOUR: 'it returns false'. Refute it at one input. -/
def wideBackWrong : ChangeSpec := { name := "wideBack", fn := fun _ => fun
  | [d1, d2, d3] => { results := [.lit (.bool false)], args := [d1, d2, d3] }
  | _ => none }
def WideBackWrongFalsely : Prop := wideBackRow.holds Try.pinned (OpenSpec.ofChange wideBackWrong)

/- THE SECOND FORM. 'bulk': how many values and letters a reading holds, each counted each time it is reached (what is shared counts as often as it is met; a slice's spare places count too). A statement '..UptoSaid' is the law's where the arguments, and the package variables that the reading takes, are together of bulk at most 1048576: NARROWER than '..Said'. Prove '..Said' where nothing that the law and all that it calls make is longer than what came in: it says more and counts as full. Else prove '..UptoSaid'. A law counts once. -/
mutual
def uptoBulk {H : Type} : DataW H → Nat
  | .lit (.string bytes) => bytes.length + 1
  | .lit _ => 1
  | .nil => 1
  | .ptr d => uptoBulk d + 1
  | .slice elems spare => uptoBulkAll elems + uptoBulkAll spare + 1
  | .agg parts => uptoBulkAll parts + 1
  | .iface _ d => uptoBulk d + 1
  | .map entries => uptoBulkEntries entries + 1
  | .held _ => 1
def uptoBulkAll {H : Type} : List (DataW H) → Nat
  | [] => 0
  | d :: r => uptoBulk d + uptoBulkAll r
def uptoBulkEntries {H : Type} : List (Lit × DataW H) → Nat
  | [] => 0
  | x :: r => uptoBulkEntry x + uptoBulkEntries r
def uptoBulkEntry {H : Type} : Lit × DataW H → Nat
  | (.string bytes, d) => bytes.length + uptoBulk d + 1
  | (_, d) => uptoBulk d + 1
 end
def uptoSmall : (H : Type) → List (DataW H) → Bool := fun _ ds => decide (uptoBulkAll ds ≤ 1048576)
def OpenSpec.upto (s : _root_.Go.ChangeSpec) : _root_.Go.OpenSpec := { _root_.Go.OpenSpec.ofChange s with cond := some uptoSmall }

/-- 'casuistlaw01.WideMuls', WHERE WHAT IT READS IS OF BULK AT MOST 1048576: true; the input reads as it did. -/
def wideMulsUptoRow : OpenClaim := { program := "ytpnfomnnbmncaaa", sum := "9e2fd547897c0e7a463baa5891efad420ad8a678b846840016d8724472fadba8", func := "casuist/casuistlaw01.WideMuls", spec := "wideMuls", inPlace := ["math/bits.Add64", "math/bits.Sub64"], named := ["math/bits.divideError", "math/bits.overflowError"], apart := false, narrowed := true }
def WideMulsUptoSaid : Prop := wideMulsUptoRow.holds Try.pinned (OpenSpec.upto wideMulsSpec)

/-- 'casuistlaw01.WideDivs', WHERE WHAT IT READS IS OF BULK AT MOST 1048576: true; the input reads as it did. -/
def wideDivsUptoRow : OpenClaim := { program := "ytpnfomnnbmncaaa", sum := "9e2fd547897c0e7a463baa5891efad420ad8a678b846840016d8724472fadba8", func := "casuist/casuistlaw01.WideDivs", spec := "wideDivs", inPlace := ["math/bits.Add64", "math/bits.Sub64"], named := ["math/bits.divideError", "math/bits.overflowError"], apart := false, narrowed := true }
def WideDivsUptoSaid : Prop := wideDivsUptoRow.holds Try.pinned (OpenSpec.upto wideDivsSpec)

/-- 'casuistlaw01.WideRoots', WHERE WHAT IT READS IS OF BULK AT MOST 1048576: true; the input reads as it did. -/
def wideRootsUptoRow : OpenClaim := { program := "ytpnfomnnbmncaaa", sum := "9e2fd547897c0e7a463baa5891efad420ad8a678b846840016d8724472fadba8", func := "casuist/casuistlaw01.WideRoots", spec := "wideRoots", inPlace := ["math/bits.Add64", "math/bits.Sub64"], named := ["math/bits.divideError", "math/bits.overflowError"], apart := false, narrowed := true }
def WideRootsUptoSaid : Prop := wideRootsUptoRow.holds Try.pinned (OpenSpec.upto wideRootsSpec)

/-- 'casuistlaw01.WideSums', WHERE WHAT IT READS IS OF BULK AT MOST 1048576: true; the input reads as it did. -/
def wideSumsUptoRow : OpenClaim := { program := "ytpnfomnnbmncaaa", sum := "9e2fd547897c0e7a463baa5891efad420ad8a678b846840016d8724472fadba8", func := "casuist/casuistlaw01.WideSums", spec := "wideSums", inPlace := ["math/bits.Add64", "math/bits.Sub64"], named := ["math/bits.divideError", "math/bits.overflowError"], apart := false, narrowed := true }
def WideSumsUptoSaid : Prop := wideSumsUptoRow.holds Try.pinned (OpenSpec.upto wideSumsSpec)

/-- 'casuistlaw01.WideTexts', WHERE WHAT IT READS IS OF BULK AT MOST 1048576: true; the input reads as it did. -/
def wideTextsUptoRow : OpenClaim := { program := "ytpnfomnnbmncaaa", sum := "9e2fd547897c0e7a463baa5891efad420ad8a678b846840016d8724472fadba8", func := "casuist/casuistlaw01.WideTexts", spec := "wideTexts", inPlace := ["math/bits.Add64", "math/bits.Sub64"], named := ["math/bits.divideError", "math/bits.overflowError"], apart := false, narrowed := true }
def WideTextsUptoSaid : Prop := wideTextsUptoRow.holds Try.pinned (OpenSpec.upto wideTextsSpec)

/-- 'casuistlaw01.WideBack', WHERE WHAT IT READS IS OF BULK AT MOST 1048576: true; the input reads as it did. -/
def wideBackUptoRow : OpenClaim := { program := "ytpnfomnnbmncaaa", sum := "9e2fd547897c0e7a463baa5891efad420ad8a678b846840016d8724472fadba8", func := "casuist/casuistlaw01.WideBack", spec := "wideBack", inPlace := ["math/bits.Add64", "math/bits.Sub64"], named := ["math/bits.divideError", "math/bits.overflowError"], apart := false, narrowed := true }
def WideBackUptoSaid : Prop := wideBackUptoRow.holds Try.pinned (OpenSpec.upto wideBackSpec)

end Rows
end Go.Proofs.Ytpnfomnnbmncaaa
