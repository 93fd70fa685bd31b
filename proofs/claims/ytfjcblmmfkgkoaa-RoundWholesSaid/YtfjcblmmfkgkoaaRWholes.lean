/-
  RoundWholes: for every input, without condition.
-/
import Derived.Test.YtfjcblmmfkgkoaaLawK
import Derived.Test.YtfjcblmmfkgkoaaOpen2
import Derived.Test.YtfjcblmmfkgkoaaOpenC
import Derived.Deep.DeepCutAuto
namespace Go.Proofs.Ytfjcblmmfkgkoaa
open Go.ChangeShapes Go.WideShapes Go.ChangeAt Go.RowKit
open Go.ChangeMaps (open_string shut_string)
set_option linter.unusedVariables false
set_option maxRecDepth 100000

theorem walk_RoundWholes {g0 : Bool} {p0 q0 e0 : Int} {n0 : Nat} (u0 : IsU p0 q0 n0) (t0 : -9223372036854775808 ≤ e0) (s0 : e0 ≤ 9223372036854775807) {n1 : Nat} (u1 : n1 < 256) (w : World) :
    Calls Try.prog 4 #[.agg #[.bool g0, .int .u64 p0, .int .u64 q0, .int .i64 e0], .int .u8 (n1 : Int)] w fun e w' => e = .returned (.bool true) ∧ Below w.heap.size w w' := by
  have l0 := u0.lt
  obtain ⟨rfl, rfl⟩ := u0.hl
  exact (c_RoundWholes l0 u1).walk (vs := [.agg #[.bool g0, .int .u64 (hiW n0), .int .u64 (loW n0), .int .i64 e0], .int .u8 (n1 : Int)]) rfl w

set_option maxRecDepth 100000 in
theorem lifted_RoundWholes (os : Os) (started : os.Started) (H : Type) (enc : TypeId × Value → H) :
    ReturnsInHanded {} Try.checked os 4 .any (Rows.roundWholesSpec.pre6 enc Try.prog Try.f4 Rows.roundWholesRow.domain false) (Rows.roundWholesSpec.post enc Try.prog Try.f4 false true false false) := by
  refine returnsInHanded_of_change (C := Try.checked) row_own started (by kernel_rfl) Try.func4
    (ChangeSpec.witness6 (enc := enc) (C := Try.checked) false ⟨#[], #[.agg #[.bool false, .int .u64 0, .int .u64 0, .int .i64 0], .int .u8 0], []⟩ 8 (by kernel_rfl) (by kernel_rfl) (by kernel_rfl) (by kernel_rfl)) ?_
  intro W base args ds gs before hval0 hW hcnd _
  have hval : ∀ (j : Nat) t v, Try.f4.params[j]? = some t → args[j]? = some v → Value.okWide Try.prog W .any base t v := hval0
  have hW' := hW
  obtain ⟨p, q, hA0, hV, rfl, hfz, hnd⟩ := hW
  have hA : DataW.TrodAll enc Try.prog W 0 (fun _ => true) true Try.f4.params.toList args.toList ds p := hA0
  rw [Try.params4] at hA hval
  obtain ⟨v0, vs0, d0, ds0, p0, q0, hargs, rfl, rfl, h0, r0⟩ := trodAll_cons hA
  obtain ⟨v1, vs1, d1, ds1, p1, q1, rfl, rfl, rfl, h1, r1⟩ := trodAll_cons r0
  obtain ⟨rfl, rfl, rfl⟩ := trodAll_nil r1
  obtain rfl : args = #[v0, v1] := by cases args; simp_all
  obtain ⟨rfl, rfl⟩ := trodVars_none hV
  have lt0 : ∀ x ∈ p0, x.block < W.heap.size := by obtain ⟨m, hm⟩ := h0; exact DataW.trod_lt m _ _ _ hm
  obtain ⟨g0, a0, b0, e0, n0, rfl, u0, t0, s0⟩ := open_Raw (hval 0 26 v0 rfl rfl) h0
  have lt1 : ∀ x ∈ p1, x.block < W.heap.size := by obtain ⟨m, hm⟩ := h1; exact DataW.trod_lt m _ _ _ hm
  obtain ⟨n1, rfl, u1⟩ := open_u8 (hval 1 5 v1 rfl rfl) h1
  clear hA0 hval0
  refine (walk_RoundWholes (g0 := g0) u0 t0 s0 u1 W).mono fun e W' ⟨he, bel⟩ => ?_
  subst he
  exact ⟨_, rfl, _, _, _, [], _, [], hW', trodAll_mk1 (shut_bool Try.underlying4 _), (trodAll_cons_mk (Below.trod row_laid (by kernel_rfl) (of_decide_eq_true (by kernel_rfl)) h0 bel lt0) (trodAll_cons_mk (Below.trod row_laid (by kernel_rfl) (of_decide_eq_true (by kernel_rfl)) h1 bel lt1) trodAll_mk0)), rfl, bel.frame _, fun h => by cases h⟩

theorem over_RoundWholes : Rows.roundWholesRow.holds Try.pinned (OpenSpec.ofChange Rows.roundWholesSpec) :=
  OpenClaim.holds_of_wide 4 Try.f4 rfl rfl rfl rfl rfl rfl rfl ⟨rfl, rfl, rfl, rfl, rfl⟩ rfl rfl rfl rfl rfl (by kernel_rfl) Try.func4 (by kernel_rfl)
    (of_decide_eq_true (by kernel_rfl)) (by unfold Func.isWrapper; first | (rw [if_pos (by decide +kernel)]; kernel_rfl) | (rw [if_neg (by decide +kernel)]; exact ⟨rfl, rfl⟩))
    (fun os started H enc _ => lifted_RoundWholes os started H enc)

theorem holds_RoundWholes : Rows.RoundWholesSaid := over_RoundWholes
#print axioms holds_RoundWholes

end Go.Proofs.Ytfjcblmmfkgkoaa
