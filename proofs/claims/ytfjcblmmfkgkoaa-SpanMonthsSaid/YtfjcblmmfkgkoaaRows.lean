/-
  No cell of these rows narrows 'for every input' (looked for: loops, veiled, ifaces, maps, wideKeys, modest, calm, conditions, laid).
  DERIVED. THE GIVEN ROWS OF THIS SEAT. 11 by the template 'for every input the law returns true; each argument reads behind the call as it read before'; 0 by the template 'total and deterministic' (their statements: YtfjcblmmfkgkoaaTotals.lean).
  GIVEN WITH THE SEED: the statements are not yours to turn. If you find one false, say at which input.
  Laid BY PROGRAM, IN A SANDBOX (cutbox-rows.mjs): the forced cells as the released guide's own fill.sh prints them over the translation d2ce1a9db0cf3abc… (all of the seat's roots in one cut). By AI agents, Wed Nov 11 2026. No macro, syntax, notation, axiom, sorry.
-/
import Derived.Test.YtfjcblmmfkgkoaaChecked
import GoSem.Claim
import GoSem.ClaimJoined
import GoSem.ClaimMapViews
import Derived.JoinedTies
import Derived.KernelRfl
namespace Go.Proofs.Ytfjcblmmfkgkoaa
/- THE CELL 'sum', in the pinned program and in every row, IS THE sha256 OF THE DUMP (.gsa) THAT YtfjcblmmfkgkoaaProg.lean LOADS. Nothing in Lean hashes anything: it is a label: what it is worth is what the hold of that sum in a sandbox is worth. -/
noncomputable def Try.pinned : Pinned := { name := "ytfjcblmmfkgkoaa", sum := "d2ce1a9db0cf3abcaf8f93bfb37307695bf6cece87acdabbd8fe1b1e02242040", checked := Try.checked }
namespace Rows
def none {H : Type} : Left H := { results := [], args := [] }

/-- 'casuistlaw04.RoundScales': WHATEVER THE INPUT: true; the input reads as it did. -/
def roundScalesSpec : ChangeSpec := { name := "roundScales", fn := fun _ => fun
  | [d1, d2, d3] => { results := [.lit (.bool true)], args := [d1, d2, d3] }
  | _ => none }
def roundScalesRow : OpenClaim := { program := "ytfjcblmmfkgkoaa", sum := "d2ce1a9db0cf3abcaf8f93bfb37307695bf6cece87acdabbd8fe1b1e02242040", func := "casuist/casuistlaw04.RoundScales", spec := "roundScales", inPlace := ["math/bits.Add64", "math/bits.Sub64"], named := ["math/bits.divideError", "math/bits.overflowError"], apart := false }
def RoundScalesSaid : Prop := roundScalesRow.holds Try.pinned (OpenSpec.ofChange roundScalesSpec)

/-- ITS FALSE NEIGHBOUR: 'it returns false'. Refute it at one input. -/
def roundScalesWrong : ChangeSpec := { name := "roundScales", fn := fun _ => fun
  | [d1, d2, d3] => { results := [.lit (.bool false)], args := [d1, d2, d3] }
  | _ => none }
def RoundScalesWrongFalsely : Prop := roundScalesRow.holds Try.pinned (OpenSpec.ofChange roundScalesWrong)

/-- 'casuistlaw04.RoundWholes': WHATEVER THE INPUT: true; the input reads as it did. -/
def roundWholesSpec : ChangeSpec := { name := "roundWholes", fn := fun _ => fun
  | [d1, d2] => { results := [.lit (.bool true)], args := [d1, d2] }
  | _ => none }
def roundWholesRow : OpenClaim := { program := "ytfjcblmmfkgkoaa", sum := "d2ce1a9db0cf3abcaf8f93bfb37307695bf6cece87acdabbd8fe1b1e02242040", func := "casuist/casuistlaw04.RoundWholes", spec := "roundWholes", inPlace := ["math/bits.Add64", "math/bits.Sub64"], named := ["math/bits.divideError", "math/bits.overflowError"], apart := false }
def RoundWholesSaid : Prop := roundWholesRow.holds Try.pinned (OpenSpec.ofChange roundWholesSpec)

/-- ITS FALSE NEIGHBOUR: 'it returns false'. Refute it at one input. -/
def roundWholesWrong : ChangeSpec := { name := "roundWholes", fn := fun _ => fun
  | [d1, d2] => { results := [.lit (.bool false)], args := [d1, d2] }
  | _ => none }
def RoundWholesWrongFalsely : Prop := roundWholesRow.holds Try.pinned (OpenSpec.ofChange roundWholesWrong)

/-- 'casuistlaw04.RoundModes': WHATEVER THE INPUT: true; the input reads as it did. -/
def roundModesSpec : ChangeSpec := { name := "roundModes", fn := fun _ => fun
  | [d1, d2, d3] => { results := [.lit (.bool true)], args := [d1, d2, d3] }
  | _ => none }
def roundModesRow : OpenClaim := { program := "ytfjcblmmfkgkoaa", sum := "d2ce1a9db0cf3abcaf8f93bfb37307695bf6cece87acdabbd8fe1b1e02242040", func := "casuist/casuistlaw04.RoundModes", spec := "roundModes", inPlace := ["math/bits.Add64", "math/bits.Sub64"], named := ["math/bits.divideError", "math/bits.overflowError"], apart := false }
def RoundModesSaid : Prop := roundModesRow.holds Try.pinned (OpenSpec.ofChange roundModesSpec)

/-- ITS FALSE NEIGHBOUR: 'it returns false'. Refute it at one input. -/
def roundModesWrong : ChangeSpec := { name := "roundModes", fn := fun _ => fun
  | [d1, d2, d3] => { results := [.lit (.bool false)], args := [d1, d2, d3] }
  | _ => none }
def RoundModesWrongFalsely : Prop := roundModesRow.holds Try.pinned (OpenSpec.ofChange roundModesWrong)

/-- 'casuistlaw04.RoundModulo': WHATEVER THE INPUT: true; the input reads as it did. -/
def roundModuloSpec : ChangeSpec := { name := "roundModulo", fn := fun _ => fun
  | [d1, d2, d3] => { results := [.lit (.bool true)], args := [d1, d2, d3] }
  | _ => none }
def roundModuloRow : OpenClaim := { program := "ytfjcblmmfkgkoaa", sum := "d2ce1a9db0cf3abcaf8f93bfb37307695bf6cece87acdabbd8fe1b1e02242040", func := "casuist/casuistlaw04.RoundModulo", spec := "roundModulo", inPlace := ["math/bits.Add64", "math/bits.Sub64"], named := ["math/bits.divideError", "math/bits.overflowError"], apart := false }
def RoundModuloSaid : Prop := roundModuloRow.holds Try.pinned (OpenSpec.ofChange roundModuloSpec)

/-- ITS FALSE NEIGHBOUR: 'it returns false'. Refute it at one input. -/
def roundModuloWrong : ChangeSpec := { name := "roundModulo", fn := fun _ => fun
  | [d1, d2, d3] => { results := [.lit (.bool false)], args := [d1, d2, d3] }
  | _ => none }
def RoundModuloWrongFalsely : Prop := roundModuloRow.holds Try.pinned (OpenSpec.ofChange roundModuloWrong)

/-- 'casuistlaw04.RoundParity': WHATEVER THE INPUT: true; the input reads as it did. -/
def roundParitySpec : ChangeSpec := { name := "roundParity", fn := fun _ => fun
  | [d] => { results := [.lit (.bool true)], args := [d] }
  | _ => none }
def roundParityRow : OpenClaim := { program := "ytfjcblmmfkgkoaa", sum := "d2ce1a9db0cf3abcaf8f93bfb37307695bf6cece87acdabbd8fe1b1e02242040", func := "casuist/casuistlaw04.RoundParity", spec := "roundParity", inPlace := ["math/bits.Add64", "math/bits.Sub64"], named := ["math/bits.divideError", "math/bits.overflowError"], apart := false }
def RoundParitySaid : Prop := roundParityRow.holds Try.pinned (OpenSpec.ofChange roundParitySpec)

/-- ITS FALSE NEIGHBOUR: 'it returns false'. Refute it at one input. -/
def roundParityWrong : ChangeSpec := { name := "roundParity", fn := fun _ => fun
  | [d] => { results := [.lit (.bool false)], args := [d] }
  | _ => none }
def RoundParityWrongFalsely : Prop := roundParityRow.holds Try.pinned (OpenSpec.ofChange roundParityWrong)

/-- 'casuistlaw04.RoundNear': WHATEVER THE INPUT: true; the input reads as it did. -/
def roundNearSpec : ChangeSpec := { name := "roundNear", fn := fun _ => fun
  | [d] => { results := [.lit (.bool true)], args := [d] }
  | _ => none }
def roundNearRow : OpenClaim := { program := "ytfjcblmmfkgkoaa", sum := "d2ce1a9db0cf3abcaf8f93bfb37307695bf6cece87acdabbd8fe1b1e02242040", func := "casuist/casuistlaw04.RoundNear", spec := "roundNear", inPlace := ["math/bits.Add64", "math/bits.Sub64"], named := ["math/bits.divideError", "math/bits.overflowError"], apart := false }
def RoundNearSaid : Prop := roundNearRow.holds Try.pinned (OpenSpec.ofChange roundNearSpec)

/-- ITS FALSE NEIGHBOUR: 'it returns false'. Refute it at one input. -/
def roundNearWrong : ChangeSpec := { name := "roundNear", fn := fun _ => fun
  | [d] => { results := [.lit (.bool false)], args := [d] }
  | _ => none }
def RoundNearWrongFalsely : Prop := roundNearRow.holds Try.pinned (OpenSpec.ofChange roundNearWrong)

/-- 'casuistlaw10.SpanTimes': WHATEVER THE INPUT: true; the input reads as it did. -/
def spanTimesSpec : ChangeSpec := { name := "spanTimes", fn := fun _ => fun
  | [d1, d2] => { results := [.lit (.bool true)], args := [d1, d2] }
  | _ => none }
def spanTimesRow : OpenClaim := { program := "ytfjcblmmfkgkoaa", sum := "d2ce1a9db0cf3abcaf8f93bfb37307695bf6cece87acdabbd8fe1b1e02242040", func := "casuist/casuistlaw10.SpanTimes", spec := "spanTimes", inPlace := ["math/bits.Add64", "math/bits.Sub64"], named := ["math/bits.divideError", "math/bits.overflowError"], apart := false }
def SpanTimesSaid : Prop := spanTimesRow.holds Try.pinned (OpenSpec.ofChange spanTimesSpec)

/-- ITS FALSE NEIGHBOUR: 'it returns false'. Refute it at one input. -/
def spanTimesWrong : ChangeSpec := { name := "spanTimes", fn := fun _ => fun
  | [d1, d2] => { results := [.lit (.bool false)], args := [d1, d2] }
  | _ => none }
def SpanTimesWrongFalsely : Prop := spanTimesRow.holds Try.pinned (OpenSpec.ofChange spanTimesWrong)

/-- 'casuistlaw10.SpanInts': WHATEVER THE INPUT: true; the input reads as it did. -/
def spanIntsSpec : ChangeSpec := { name := "spanInts", fn := fun _ => fun
  | [d1, d2] => { results := [.lit (.bool true)], args := [d1, d2] }
  | _ => none }
def spanIntsRow : OpenClaim := { program := "ytfjcblmmfkgkoaa", sum := "d2ce1a9db0cf3abcaf8f93bfb37307695bf6cece87acdabbd8fe1b1e02242040", func := "casuist/casuistlaw10.SpanInts", spec := "spanInts", inPlace := ["math/bits.Add64", "math/bits.Sub64"], named := ["math/bits.divideError", "math/bits.overflowError"], apart := false }
def SpanIntsSaid : Prop := spanIntsRow.holds Try.pinned (OpenSpec.ofChange spanIntsSpec)

/-- ITS FALSE NEIGHBOUR: 'it returns false'. Refute it at one input. -/
def spanIntsWrong : ChangeSpec := { name := "spanInts", fn := fun _ => fun
  | [d1, d2] => { results := [.lit (.bool false)], args := [d1, d2] }
  | _ => none }
def SpanIntsWrongFalsely : Prop := spanIntsRow.holds Try.pinned (OpenSpec.ofChange spanIntsWrong)

/-- 'casuistlaw10.SpanSums': WHATEVER THE INPUT: true; the input reads as it did. -/
def spanSumsSpec : ChangeSpec := { name := "spanSums", fn := fun _ => fun
  | [d1, d2] => { results := [.lit (.bool true)], args := [d1, d2] }
  | _ => none }
def spanSumsRow : OpenClaim := { program := "ytfjcblmmfkgkoaa", sum := "d2ce1a9db0cf3abcaf8f93bfb37307695bf6cece87acdabbd8fe1b1e02242040", func := "casuist/casuistlaw10.SpanSums", spec := "spanSums", inPlace := ["math/bits.Add64", "math/bits.Sub64"], named := ["math/bits.divideError", "math/bits.overflowError"], apart := false }
def SpanSumsSaid : Prop := spanSumsRow.holds Try.pinned (OpenSpec.ofChange spanSumsSpec)

/-- ITS FALSE NEIGHBOUR: 'it returns false'. Refute it at one input. -/
def spanSumsWrong : ChangeSpec := { name := "spanSums", fn := fun _ => fun
  | [d1, d2] => { results := [.lit (.bool false)], args := [d1, d2] }
  | _ => none }
def SpanSumsWrongFalsely : Prop := spanSumsRow.holds Try.pinned (OpenSpec.ofChange spanSumsWrong)

/-- 'casuistlaw10.SpanDates': WHATEVER THE INPUT: true; the input reads as it did. -/
def spanDatesSpec : ChangeSpec := { name := "spanDates", fn := fun _ => fun
  | [d1, d2, d3, d4, d5, d6] => { results := [.lit (.bool true)], args := [d1, d2, d3, d4, d5, d6] }
  | _ => none }
def spanDatesRow : OpenClaim := { program := "ytfjcblmmfkgkoaa", sum := "d2ce1a9db0cf3abcaf8f93bfb37307695bf6cece87acdabbd8fe1b1e02242040", func := "casuist/casuistlaw10.SpanDates", spec := "spanDates", inPlace := ["math/bits.Add64", "math/bits.Sub64"], named := ["math/bits.divideError", "math/bits.overflowError"], apart := false }
def SpanDatesSaid : Prop := spanDatesRow.holds Try.pinned (OpenSpec.ofChange spanDatesSpec)

/-- ITS FALSE NEIGHBOUR: 'it returns false'. Refute it at one input. -/
def spanDatesWrong : ChangeSpec := { name := "spanDates", fn := fun _ => fun
  | [d1, d2, d3, d4, d5, d6] => { results := [.lit (.bool false)], args := [d1, d2, d3, d4, d5, d6] }
  | _ => none }
def SpanDatesWrongFalsely : Prop := spanDatesRow.holds Try.pinned (OpenSpec.ofChange spanDatesWrong)

/-- 'casuistlaw10.SpanMonths': WHATEVER THE INPUT: true; the input reads as it did. -/
def spanMonthsSpec : ChangeSpec := { name := "spanMonths", fn := fun _ => fun
  | [d1, d2, d3, d4, d5, d6] => { results := [.lit (.bool true)], args := [d1, d2, d3, d4, d5, d6] }
  | _ => none }
def spanMonthsRow : OpenClaim := { program := "ytfjcblmmfkgkoaa", sum := "d2ce1a9db0cf3abcaf8f93bfb37307695bf6cece87acdabbd8fe1b1e02242040", func := "casuist/casuistlaw10.SpanMonths", spec := "spanMonths", inPlace := ["math/bits.Add64", "math/bits.Sub64"], recurses := true, named := ["math/bits.divideError", "math/bits.overflowError"], apart := false }
def SpanMonthsSaid : Prop := spanMonthsRow.holds Try.pinned (OpenSpec.ofChange spanMonthsSpec)

/-- ITS FALSE NEIGHBOUR: 'it returns false'. Refute it at one input. -/
def spanMonthsWrong : ChangeSpec := { name := "spanMonths", fn := fun _ => fun
  | [d1, d2, d3, d4, d5, d6] => { results := [.lit (.bool false)], args := [d1, d2, d3, d4, d5, d6] }
  | _ => none }
def SpanMonthsWrongFalsely : Prop := spanMonthsRow.holds Try.pinned (OpenSpec.ofChange spanMonthsWrong)

/- THE SECOND FORM. 'bulk': how many values and letters a reading holds, each counted each time it is reached (what is shared counts as often as it is met; a slice's spare places count too). A statement '..UptoSaid' is the law's where the arguments, and the package variables that the reading takes, are together of bulk at most 1048576: NARROWER than '..Said'. Prove '..Said' where nothing that the law and all that it calls make is longer than what came in: it says more and counts as full. Else prove '..UptoSaid'. A law counts once. -/
mutual
def uptoBulk {H : Type} : DataW H → Nat
  | .lit (.string bytes) => bytes.length + 1
  | .lit _ => 1
  | .nil => 1
  | .ptr d => uptoBulk d + 1
  | .slice elems spare => uptoBulkAll elems + uptoBulkAll spare + 1
  | .agg parts => uptoBulkAll parts + 1
  | .iface _ d => uptoBulk d + 1
  | .map entries => uptoBulkEntries entries + 1
  | .held _ => 1
def uptoBulkAll {H : Type} : List (DataW H) → Nat
  | [] => 0
  | d :: r => uptoBulk d + uptoBulkAll r
def uptoBulkEntries {H : Type} : List (Lit × DataW H) → Nat
  | [] => 0
  | x :: r => uptoBulkEntry x + uptoBulkEntries r
def uptoBulkEntry {H : Type} : Lit × DataW H → Nat
  | (.string bytes, d) => bytes.length + uptoBulk d + 1
  | (_, d) => uptoBulk d + 1
 end
def uptoSmall : (H : Type) → List (DataW H) → Bool := fun _ ds => decide (uptoBulkAll ds ≤ 1048576)
def OpenSpec.upto (s : _root_.Go.ChangeSpec) : _root_.Go.OpenSpec := { _root_.Go.OpenSpec.ofChange s with cond := some uptoSmall }

/-- 'casuistlaw04.RoundScales', WHERE WHAT IT READS IS OF BULK AT MOST 1048576: true; the input reads as it did. -/
def roundScalesUptoRow : OpenClaim := { program := "ytfjcblmmfkgkoaa", sum := "d2ce1a9db0cf3abcaf8f93bfb37307695bf6cece87acdabbd8fe1b1e02242040", func := "casuist/casuistlaw04.RoundScales", spec := "roundScales", inPlace := ["math/bits.Add64", "math/bits.Sub64"], named := ["math/bits.divideError", "math/bits.overflowError"], apart := false, narrowed := true }
def RoundScalesUptoSaid : Prop := roundScalesUptoRow.holds Try.pinned (OpenSpec.upto roundScalesSpec)

/-- 'casuistlaw04.RoundWholes', WHERE WHAT IT READS IS OF BULK AT MOST 1048576: true; the input reads as it did. -/
def roundWholesUptoRow : OpenClaim := { program := "ytfjcblmmfkgkoaa", sum := "d2ce1a9db0cf3abcaf8f93bfb37307695bf6cece87acdabbd8fe1b1e02242040", func := "casuist/casuistlaw04.RoundWholes", spec := "roundWholes", inPlace := ["math/bits.Add64", "math/bits.Sub64"], named := ["math/bits.divideError", "math/bits.overflowError"], apart := false, narrowed := true }
def RoundWholesUptoSaid : Prop := roundWholesUptoRow.holds Try.pinned (OpenSpec.upto roundWholesSpec)

/-- 'casuistlaw04.RoundModes', WHERE WHAT IT READS IS OF BULK AT MOST 1048576: true; the input reads as it did. -/
def roundModesUptoRow : OpenClaim := { program := "ytfjcblmmfkgkoaa", sum := "d2ce1a9db0cf3abcaf8f93bfb37307695bf6cece87acdabbd8fe1b1e02242040", func := "casuist/casuistlaw04.RoundModes", spec := "roundModes", inPlace := ["math/bits.Add64", "math/bits.Sub64"], named := ["math/bits.divideError", "math/bits.overflowError"], apart := false, narrowed := true }
def RoundModesUptoSaid : Prop := roundModesUptoRow.holds Try.pinned (OpenSpec.upto roundModesSpec)

/-- 'casuistlaw04.RoundModulo', WHERE WHAT IT READS IS OF BULK AT MOST 1048576: true; the input reads as it did. -/
def roundModuloUptoRow : OpenClaim := { program := "ytfjcblmmfkgkoaa", sum := "d2ce1a9db0cf3abcaf8f93bfb37307695bf6cece87acdabbd8fe1b1e02242040", func := "casuist/casuistlaw04.RoundModulo", spec := "roundModulo", inPlace := ["math/bits.Add64", "math/bits.Sub64"], named := ["math/bits.divideError", "math/bits.overflowError"], apart := false, narrowed := true }
def RoundModuloUptoSaid : Prop := roundModuloUptoRow.holds Try.pinned (OpenSpec.upto roundModuloSpec)

/-- 'casuistlaw04.RoundParity', WHERE WHAT IT READS IS OF BULK AT MOST 1048576: true; the input reads as it did. -/
def roundParityUptoRow : OpenClaim := { program := "ytfjcblmmfkgkoaa", sum := "d2ce1a9db0cf3abcaf8f93bfb37307695bf6cece87acdabbd8fe1b1e02242040", func := "casuist/casuistlaw04.RoundParity", spec := "roundParity", inPlace := ["math/bits.Add64", "math/bits.Sub64"], named := ["math/bits.divideError", "math/bits.overflowError"], apart := false, narrowed := true }
def RoundParityUptoSaid : Prop := roundParityUptoRow.holds Try.pinned (OpenSpec.upto roundParitySpec)

/-- 'casuistlaw04.RoundNear', WHERE WHAT IT READS IS OF BULK AT MOST 1048576: true; the input reads as it did. -/
def roundNearUptoRow : OpenClaim := { program := "ytfjcblmmfkgkoaa", sum := "d2ce1a9db0cf3abcaf8f93bfb37307695bf6cece87acdabbd8fe1b1e02242040", func := "casuist/casuistlaw04.RoundNear", spec := "roundNear", inPlace := ["math/bits.Add64", "math/bits.Sub64"], named := ["math/bits.divideError", "math/bits.overflowError"], apart := false, narrowed := true }
def RoundNearUptoSaid : Prop := roundNearUptoRow.holds Try.pinned (OpenSpec.upto roundNearSpec)

/-- 'casuistlaw10.SpanTimes', WHERE WHAT IT READS IS OF BULK AT MOST 1048576: true; the input reads as it did. -/
def spanTimesUptoRow : OpenClaim := { program := "ytfjcblmmfkgkoaa", sum := "d2ce1a9db0cf3abcaf8f93bfb37307695bf6cece87acdabbd8fe1b1e02242040", func := "casuist/casuistlaw10.SpanTimes", spec := "spanTimes", inPlace := ["math/bits.Add64", "math/bits.Sub64"], named := ["math/bits.divideError", "math/bits.overflowError"], apart := false, narrowed := true }
def SpanTimesUptoSaid : Prop := spanTimesUptoRow.holds Try.pinned (OpenSpec.upto spanTimesSpec)

/-- 'casuistlaw10.SpanInts', WHERE WHAT IT READS IS OF BULK AT MOST 1048576: true; the input reads as it did. -/
def spanIntsUptoRow : OpenClaim := { program := "ytfjcblmmfkgkoaa", sum := "d2ce1a9db0cf3abcaf8f93bfb37307695bf6cece87acdabbd8fe1b1e02242040", func := "casuist/casuistlaw10.SpanInts", spec := "spanInts", inPlace := ["math/bits.Add64", "math/bits.Sub64"], named := ["math/bits.divideError", "math/bits.overflowError"], apart := false, narrowed := true }
def SpanIntsUptoSaid : Prop := spanIntsUptoRow.holds Try.pinned (OpenSpec.upto spanIntsSpec)

/-- 'casuistlaw10.SpanSums', WHERE WHAT IT READS IS OF BULK AT MOST 1048576: true; the input reads as it did. -/
def spanSumsUptoRow : OpenClaim := { program := "ytfjcblmmfkgkoaa", sum := "d2ce1a9db0cf3abcaf8f93bfb37307695bf6cece87acdabbd8fe1b1e02242040", func := "casuist/casuistlaw10.SpanSums", spec := "spanSums", inPlace := ["math/bits.Add64", "math/bits.Sub64"], named := ["math/bits.divideError", "math/bits.overflowError"], apart := false, narrowed := true }
def SpanSumsUptoSaid : Prop := spanSumsUptoRow.holds Try.pinned (OpenSpec.upto spanSumsSpec)

/-- 'casuistlaw10.SpanDates', WHERE WHAT IT READS IS OF BULK AT MOST 1048576: true; the input reads as it did. -/
def spanDatesUptoRow : OpenClaim := { program := "ytfjcblmmfkgkoaa", sum := "d2ce1a9db0cf3abcaf8f93bfb37307695bf6cece87acdabbd8fe1b1e02242040", func := "casuist/casuistlaw10.SpanDates", spec := "spanDates", inPlace := ["math/bits.Add64", "math/bits.Sub64"], named := ["math/bits.divideError", "math/bits.overflowError"], apart := false, narrowed := true }
def SpanDatesUptoSaid : Prop := spanDatesUptoRow.holds Try.pinned (OpenSpec.upto spanDatesSpec)

/-- 'casuistlaw10.SpanMonths', WHERE WHAT IT READS IS OF BULK AT MOST 1048576: true; the input reads as it did. -/
def spanMonthsUptoRow : OpenClaim := { program := "ytfjcblmmfkgkoaa", sum := "d2ce1a9db0cf3abcaf8f93bfb37307695bf6cece87acdabbd8fe1b1e02242040", func := "casuist/casuistlaw10.SpanMonths", spec := "spanMonths", inPlace := ["math/bits.Add64", "math/bits.Sub64"], recurses := true, named := ["math/bits.divideError", "math/bits.overflowError"], apart := false, narrowed := true }
def SpanMonthsUptoSaid : Prop := spanMonthsUptoRow.holds Try.pinned (OpenSpec.upto spanMonthsSpec)

end Rows
end Go.Proofs.Ytfjcblmmfkgkoaa
