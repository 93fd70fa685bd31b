/-
  SpanTimes: for every input, without condition.
-/
import Derived.Test.YtfjcblmmfkgkoaaSpnD
import Derived.Test.YtfjcblmmfkgkoaaOpen2
import Derived.Deep.DeepCutAuto
namespace Go.Proofs.Ytfjcblmmfkgkoaa
open Go.ChangeShapes Go.WideShapes Go.ChangeAt Go.RowKit
open Go.ChangeMaps (open_string shut_string)
set_option linter.unusedVariables false
set_option maxRecDepth 100000

theorem walk_SpanTimes {a0 : Int} (u0 : -9223372036854775808 ≤ a0) (t0 : a0 ≤ 9223372036854775807) {g1 : Bool} {p1 q1 e1 : Int} {n1 : Nat} (u1 : IsU p1 q1 n1) (t1 : -9223372036854775808 ≤ e1) (s1 : e1 ≤ 9223372036854775807) (w : World) :
    Calls Try.prog 9 #[.int .i64 a0, .agg #[.bool g1, .int .u64 p1, .int .u64 q1, .int .i64 e1]] w fun e w' => e = .returned (.bool true) ∧ Below w.heap.size w w' := by
  have l1 := u1.lt
  obtain ⟨rfl, rfl⟩ := u1.hl
  exact (c_SpanTimes u0 t0 l1).walk (vs := [.int .i64 a0, .agg #[.bool g1, .int .u64 (hiW n1), .int .u64 (loW n1), .int .i64 e1]]) rfl w

set_option maxRecDepth 100000 in
theorem lifted_SpanTimes (os : Os) (started : os.Started) (H : Type) (enc : TypeId × Value → H) :
    ReturnsInHanded {} Try.checked os 9 .any (Rows.spanTimesSpec.pre6 enc Try.prog Try.f9 Rows.spanTimesRow.domain false) (Rows.spanTimesSpec.post enc Try.prog Try.f9 false true false false) := by
  refine returnsInHanded_of_change (C := Try.checked) row_own started (by kernel_rfl) Try.func9
    (ChangeSpec.witness6 (enc := enc) (C := Try.checked) false ⟨#[], #[.int .i64 0, .agg #[.bool false, .int .u64 0, .int .u64 0, .int .i64 0]], []⟩ 8 (by kernel_rfl) (by kernel_rfl) (by kernel_rfl) (by kernel_rfl)) ?_
  intro W base args ds gs before hval0 hW hcnd _
  have hval : ∀ (j : Nat) t v, Try.f9.params[j]? = some t → args[j]? = some v → Value.okWide Try.prog W .any base t v := hval0
  have hW' := hW
  obtain ⟨p, q, hA0, hV, rfl, hfz, hnd⟩ := hW
  have hA : DataW.TrodAll enc Try.prog W 0 (fun _ => true) true Try.f9.params.toList args.toList ds p := hA0
  rw [Try.params9] at hA hval
  obtain ⟨v0, vs0, d0, ds0, p0, q0, hargs, rfl, rfl, h0, r0⟩ := trodAll_cons hA
  obtain ⟨v1, vs1, d1, ds1, p1, q1, rfl, rfl, rfl, h1, r1⟩ := trodAll_cons r0
  obtain ⟨rfl, rfl, rfl⟩ := trodAll_nil r1
  obtain rfl : args = #[v0, v1] := by cases args; simp_all
  obtain ⟨rfl, rfl⟩ := trodVars_none hV
  have lt0 : ∀ x ∈ p0, x.block < W.heap.size := by obtain ⟨m, hm⟩ := h0; exact DataW.trod_lt m _ _ _ hm
  obtain ⟨a0, rfl, u0, t0⟩ := open_I (hval 0 3 v0 rfl rfl) h0
  have lt1 : ∀ x ∈ p1, x.block < W.heap.size := by obtain ⟨m, hm⟩ := h1; exact DataW.trod_lt m _ _ _ hm
  obtain ⟨g1, a1, b1, e1, n1, rfl, u1, t1, s1⟩ := open_Raw (hval 1 26 v1 rfl rfl) h1
  clear hA0 hval0
  refine (walk_SpanTimes u0 t0 (g1 := g1) u1 t1 s1 W).mono fun e W' ⟨he, bel⟩ => ?_
  subst he
  exact ⟨_, rfl, _, _, _, [], _, [], hW', trodAll_mk1 (shut_bool Try.underlying4 _), (trodAll_cons_mk (Below.trod row_laid (by kernel_rfl) (of_decide_eq_true (by kernel_rfl)) h0 bel lt0) (trodAll_cons_mk (Below.trod row_laid (by kernel_rfl) (of_decide_eq_true (by kernel_rfl)) h1 bel lt1) trodAll_mk0)), rfl, bel.frame _, fun h => by cases h⟩

theorem over_SpanTimes : Rows.spanTimesRow.holds Try.pinned (OpenSpec.ofChange Rows.spanTimesSpec) :=
  OpenClaim.holds_of_wide 9 Try.f9 rfl rfl rfl rfl rfl rfl rfl ⟨rfl, rfl, rfl, rfl, rfl⟩ rfl rfl rfl rfl rfl (by kernel_rfl) Try.func9 (by kernel_rfl)
    (of_decide_eq_true (by kernel_rfl)) (by unfold Func.isWrapper; first | (rw [if_pos (by decide +kernel)]; kernel_rfl) | (rw [if_neg (by decide +kernel)]; exact ⟨rfl, rfl⟩))
    (fun os started H enc _ => lifted_SpanTimes os started H enc)

theorem holds_SpanTimes : Rows.SpanTimesSaid := over_SpanTimes
#print axioms holds_SpanTimes

end Go.Proofs.Ytfjcblmmfkgkoaa
