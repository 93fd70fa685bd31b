/-
  strconv.Itoa: the kit's contract at this program, printed by the kit's own tool.
-/
import Derived.Test.YtjpaedjhihiakaaDoorStr
import Derived.Shelf.Strconv.Itoa3
import Derived.Sort.Grow
namespace Go.Proofs.YtjpaedjhihiakaaDoor
open Go.Shelf Go.RowKit
set_option linter.unusedVariables false
set_option maxRecDepth 100000
def laysItoa_ren : Go.Shelf.Ren := ⟨fun | 171 => 78 | 243 => 117 | 246 => 138 | 283 => 153 | 284 => 154 | 285 => 155 | 286 => 156 | 129 => 157 | 317 => 164 | 318 => 165 | 319 => 166 | 320 => 167 | 337 => 168 | 338 => 169 | n => n, fun | 3 => 3 | 9 => 9 | 2 => 2 | 4 => 4 | 171 => 176 | 0 => 0 | 53 => 54 | 37 => 113 | 5 => 5 | 173 => 178 | 212 => 194 | 51 => 180 | 20 => 20 | 213 => 195 | 46 => 142 | 232 => 198 | 233 => 199 | n => n, fun | 17 => 7 | 18 => 8 | 19 => 9 | n => n⟩
theorem laysItoa : Go.Proofs.LaysM.n171 Tryd.prog laysItoa_ren := {
  mixed := by kernel_rfl
  f129 := Tryd.func157.trans (congrArg some (by kernel_rfl))
  f171 := Tryd.func78.trans (congrArg some (by kernel_rfl))
  f243 := Tryd.func117.trans (congrArg some (by kernel_rfl))
  f246 := Tryd.func138.trans (congrArg some (by kernel_rfl))
  f283 := Tryd.func153.trans (congrArg some (by kernel_rfl))
  f284 := Tryd.func154.trans (congrArg some (by kernel_rfl))
  f285 := Tryd.func155.trans (congrArg some (by kernel_rfl))
  f286 := Tryd.func156.trans (congrArg some (by kernel_rfl))
  f317 := Tryd.func164.trans (congrArg some (by kernel_rfl))
  f318 := Tryd.func165.trans (congrArg some (by kernel_rfl))
  f319 := Tryd.func166.trans (congrArg some (by kernel_rfl))
  f320 := Tryd.func167.trans (congrArg some (by kernel_rfl))
  f337 := Tryd.func168.trans (congrArg some (by kernel_rfl))
  f338 := Tryd.func169.trans (congrArg some (by kernel_rfl))
  t0 := Tryd.underlying0
  a0 := Tryd.isAgg0
  z0 := Tryd.sizeOf0
  v0 := Tryd.zeroValue0
  t2 := Tryd.underlying2
  a2 := Tryd.isAgg2
  z2 := Tryd.sizeOf2
  v2 := Tryd.zeroValue2
  t3 := Tryd.underlying3
  a3 := Tryd.isAgg3
  z3 := Tryd.sizeOf3
  v3 := Tryd.zeroValue3
  t4 := Tryd.underlying4
  a4 := Tryd.isAgg4
  z4 := Tryd.sizeOf4
  v4 := Tryd.zeroValue4
  t5 := Tryd.underlying5
  a5 := Tryd.isAgg5
  z5 := Tryd.sizeOf5
  v5 := Tryd.zeroValue5
  t9 := Tryd.underlying9
  a9 := Tryd.isAgg9
  z9 := Tryd.sizeOf9
  v9 := Tryd.zeroValue9
  t20 := Tryd.underlying20
  a20 := Tryd.isAgg20
  z20 := Tryd.sizeOf20
  v20 := Tryd.zeroValue20
  t37 := Tryd.underlying113
  a37 := Tryd.isAgg113
  z37 := Tryd.sizeOf113
  v37 := Tryd.zeroValue113
  t46 := Tryd.underlying142
  a46 := Tryd.isAgg142
  z46 := Tryd.sizeOf142
  v46 := Tryd.zeroValue142
  t51 := Tryd.underlying180
  a51 := Tryd.isAgg180
  z51 := Tryd.sizeOf180
  v51 := Tryd.zeroValue180
  t53 := Tryd.underlying54
  a53 := Tryd.isAgg54
  z53 := Tryd.sizeOf54
  v53 := Tryd.zeroValue54
  t171 := Tryd.underlying176
  a171 := Tryd.isAgg176
  z171 := Tryd.sizeOf176
  v171 := Tryd.zeroValue176
  t173 := Tryd.underlying178
  a173 := Tryd.isAgg178
  z173 := Tryd.sizeOf178
  v173 := Tryd.zeroValue178
  t212 := Tryd.underlying194
  a212 := Tryd.isAgg194
  z212 := Tryd.sizeOf194
  v212 := Tryd.zeroValue194
  t213 := Tryd.underlying195
  a213 := Tryd.isAgg195
  z213 := Tryd.sizeOf195
  t232 := Tryd.underlying198
  a232 := Tryd.isAgg198
  z232 := Tryd.sizeOf198
  v232 := Tryd.zeroValue198
  t233 := Tryd.underlying199
  a233 := Tryd.isAgg199
  z233 := Tryd.sizeOf199
  v233 := Tryd.zeroValue199
  g17 := by kernel_rfl
  g18 := by kernel_rfl
  g19 := by kernel_rfl
  i0 := by kernel_rfl
  i2 := by kernel_rfl
  i3 := by kernel_rfl
  i4 := by kernel_rfl
  i5 := by kernel_rfl
  i9 := by kernel_rfl
  i20 := by kernel_rfl
  i37 := by kernel_rfl
  i46 := by kernel_rfl
  i51 := by kernel_rfl
  i53 := by kernel_rfl
  i171 := by kernel_rfl
  i173 := by kernel_rfl
  i212 := by kernel_rfl
  i232 := by kernel_rfl
  i233 := by kernel_rfl
  m17 := by kernel_rfl
  m18 := by kernel_rfl
  m19 := by kernel_rfl }

theorem grow_below (w : World) (k : Nat) (os : Array Obj) : Below w.heap.size w (Go.Sort.grow (w.drewN k) os) := by
  refine ⟨rfl, rfl, rfl, by simp [Go.Sort.grow], fun j hj => ?_⟩
  show (w.heap ++ os)[j]? = w.heap[j]?
  rw [Array.getElem?_append_left hj]
theorem c_Itoa {n : Int} (h : -9223372036854775808 ≤ n ∧ n ≤ 9223372036854775807) : HasC Tryd.prog 78 [.v (.int .i64 n)] (fun y => y = .v (.string (tx (Lib.itoa n)))) :=
  (HasC.ofCallsK (vs := [.int .i64 n]) (R := fun r => r = .string (tx (Lib.itoa n))) (fun args w => Tryd.call78 args w) ⟨_, rfl⟩ rfl fun w hk => by
    have ht : Lib.TabIs Tryd.prog w "internal/strconv.uint64pow10" .u64 Lib.pow10Tab := by
      rcases hk.tab with h | ⟨cs, h1, rfl⟩
      · have h2 : (Tryd.prog.globalNamed "internal/strconv.uint64pow10").isSome = true := by kernel_rfl
        rw [h] at h2
        cases h2
      · exact h1
    exact (Any.strconv_Itoa laysItoa n h.1 h.2 w ht).mono fun e w' ⟨h1, k, os, h2⟩ => ⟨_, h1, rfl, by rw [h2]; exact grow_below w k os⟩).mono fun y ⟨r, h1, h2⟩ => by rw [h2, h1]; rfl
end Go.Proofs.YtjpaedjhihiakaaDoor
