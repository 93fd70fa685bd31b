/-
  RoundModes: for every input, without condition.
-/
import Derived.Test.YtfjcblmmfkgkoaaLawL
import Derived.Test.YtfjcblmmfkgkoaaOpen2
import Derived.Test.YtfjcblmmfkgkoaaOpenC
import Derived.Deep.DeepCutAuto
namespace Go.Proofs.Ytfjcblmmfkgkoaa
open Go.ChangeShapes Go.WideShapes Go.ChangeAt Go.RowKit
open Go.ChangeMaps (open_string shut_string)
set_option linter.unusedVariables false
set_option maxRecDepth 100000

theorem walk_RoundModes {g0 : Bool} {p0 q0 e0 : Int} {n0 : Nat} (u0 : IsU p0 q0 n0) (t0 : -9223372036854775808 ≤ e0) (s0 : e0 ≤ 9223372036854775807) {a1 : Int} (u1 : -9223372036854775808 ≤ a1) (t1 : a1 ≤ 9223372036854775807) {n2 : Nat} (u2 : n2 < 256) (w : World) :
    Calls Try.prog 5 #[.agg #[.bool g0, .int .u64 p0, .int .u64 q0, .int .i64 e0], .int .i64 a1, .int .u8 (n2 : Int)] w fun e w' => e = .returned (.bool true) ∧ Below w.heap.size w w' := by
  have l0 := u0.lt
  obtain ⟨rfl, rfl⟩ := u0.hl
  exact (c_RoundModes l0 u1 t1 u2).walk (vs := [.agg #[.bool g0, .int .u64 (hiW n0), .int .u64 (loW n0), .int .i64 e0], .int .i64 a1, .int .u8 (n2 : Int)]) rfl w

set_option maxRecDepth 100000 in
theorem lifted_RoundModes (os : Os) (started : os.Started) (H : Type) (enc : TypeId × Value → H) :
    ReturnsInHanded {} Try.checked os 5 .any (Rows.roundModesSpec.pre6 enc Try.prog Try.f5 Rows.roundModesRow.domain false) (Rows.roundModesSpec.post enc Try.prog Try.f5 false true false false) := by
  refine returnsInHanded_of_change (C := Try.checked) row_own started (by kernel_rfl) Try.func5
    (ChangeSpec.witness6 (enc := enc) (C := Try.checked) false ⟨#[], #[.agg #[.bool false, .int .u64 0, .int .u64 0, .int .i64 0], .int .i64 0, .int .u8 0], []⟩ 8 (by kernel_rfl) (by kernel_rfl) (by kernel_rfl) (by kernel_rfl)) ?_
  intro W base args ds gs before hval0 hW hcnd _
  have hval : ∀ (j : Nat) t v, Try.f5.params[j]? = some t → args[j]? = some v → Value.okWide Try.prog W .any base t v := hval0
  have hW' := hW
  obtain ⟨p, q, hA0, hV, rfl, hfz, hnd⟩ := hW
  have hA : DataW.TrodAll enc Try.prog W 0 (fun _ => true) true Try.f5.params.toList args.toList ds p := hA0
  rw [Try.params5] at hA hval
  obtain ⟨v0, vs0, d0, ds0, p0, q0, hargs, rfl, rfl, h0, r0⟩ := trodAll_cons hA
  obtain ⟨v1, vs1, d1, ds1, p1, q1, rfl, rfl, rfl, h1, r1⟩ := trodAll_cons r0
  obtain ⟨v2, vs2, d2, ds2, p2, q2, rfl, rfl, rfl, h2, r2⟩ := trodAll_cons r1
  obtain ⟨rfl, rfl, rfl⟩ := trodAll_nil r2
  obtain rfl : args = #[v0, v1, v2] := by cases args; simp_all
  obtain ⟨rfl, rfl⟩ := trodVars_none hV
  have lt0 : ∀ x ∈ p0, x.block < W.heap.size := by obtain ⟨m, hm⟩ := h0; exact DataW.trod_lt m _ _ _ hm
  obtain ⟨g0, a0, b0, e0, n0, rfl, u0, t0, s0⟩ := open_Raw (hval 0 26 v0 rfl rfl) h0
  have lt1 : ∀ x ∈ p1, x.block < W.heap.size := by obtain ⟨m, hm⟩ := h1; exact DataW.trod_lt m _ _ _ hm
  obtain ⟨a1, rfl, u1, t1⟩ := open_I (hval 1 3 v1 rfl rfl) h1
  have lt2 : ∀ x ∈ p2, x.block < W.heap.size := by obtain ⟨m, hm⟩ := h2; exact DataW.trod_lt m _ _ _ hm
  obtain ⟨n2, rfl, u2⟩ := open_u8 (hval 2 5 v2 rfl rfl) h2
  clear hA0 hval0
  refine (walk_RoundModes (g0 := g0) u0 t0 s0 u1 t1 u2 W).mono fun e W' ⟨he, bel⟩ => ?_
  subst he
  exact ⟨_, rfl, _, _, _, [], _, [], hW', trodAll_mk1 (shut_bool Try.underlying4 _), (trodAll_cons_mk (Below.trod row_laid (by kernel_rfl) (of_decide_eq_true (by kernel_rfl)) h0 bel lt0) (trodAll_cons_mk (Below.trod row_laid (by kernel_rfl) (of_decide_eq_true (by kernel_rfl)) h1 bel lt1) (trodAll_cons_mk (Below.trod row_laid (by kernel_rfl) (of_decide_eq_true (by kernel_rfl)) h2 bel lt2) trodAll_mk0))), rfl, bel.frame _, fun h => by cases h⟩

theorem over_RoundModes : Rows.roundModesRow.holds Try.pinned (OpenSpec.ofChange Rows.roundModesSpec) :=
  OpenClaim.holds_of_wide 5 Try.f5 rfl rfl rfl rfl rfl rfl rfl ⟨rfl, rfl, rfl, rfl, rfl⟩ rfl rfl rfl rfl rfl (by kernel_rfl) Try.func5 (by kernel_rfl)
    (of_decide_eq_true (by kernel_rfl)) (by unfold Func.isWrapper; first | (rw [if_pos (by decide +kernel)]; kernel_rfl) | (rw [if_neg (by decide +kernel)]; exact ⟨rfl, rfl⟩))
    (fun os started H enc _ => lifted_RoundModes os started H enc)

theorem holds_RoundModes : Rows.RoundModesSaid := over_RoundModes
#print axioms holds_RoundModes

end Go.Proofs.Ytfjcblmmfkgkoaa
