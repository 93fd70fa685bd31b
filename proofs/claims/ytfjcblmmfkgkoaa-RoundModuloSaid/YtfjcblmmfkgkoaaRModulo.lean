/-
  RoundModulo: for every input, without condition.
-/
import Derived.Test.YtfjcblmmfkgkoaaLawN
import Derived.Test.YtfjcblmmfkgkoaaOpen2
import Derived.Test.YtfjcblmmfkgkoaaOpenI
import Derived.Deep.DeepCutAuto
namespace Go.Proofs.Ytfjcblmmfkgkoaa
open Go.ChangeShapes Go.WideShapes Go.ChangeAt Go.RowKit
open Go.ChangeMaps (open_string shut_string)
set_option linter.unusedVariables false
set_option maxRecDepth 100000

theorem walk_RoundModulo {a0 : Int} (u0 : -2147483648 ≤ a0) (t0 : a0 ≤ 2147483647) {a1 : Int} (u1 : -2147483648 ≤ a1) (t1 : a1 ≤ 2147483647) {g2 : Bool} {p2 q2 e2 : Int} {n2 : Nat} (u2 : IsU p2 q2 n2) (t2 : -9223372036854775808 ≤ e2) (s2 : e2 ≤ 9223372036854775807) (w : World) :
    Calls Try.prog 6 #[.int .i32 a0, .int .i32 a1, .agg #[.bool g2, .int .u64 p2, .int .u64 q2, .int .i64 e2]] w fun e w' => e = .returned (.bool true) ∧ Below w.heap.size w w' := by
  have l2 := u2.lt
  obtain ⟨rfl, rfl⟩ := u2.hl
  exact (c_RoundModulo u0 t0 u1 t1 l2).walk (vs := [.int .i32 a0, .int .i32 a1, .agg #[.bool g2, .int .u64 (hiW n2), .int .u64 (loW n2), .int .i64 e2]]) rfl w

set_option maxRecDepth 100000 in
theorem lifted_RoundModulo (os : Os) (started : os.Started) (H : Type) (enc : TypeId × Value → H) :
    ReturnsInHanded {} Try.checked os 6 .any (Rows.roundModuloSpec.pre6 enc Try.prog Try.f6 Rows.roundModuloRow.domain false) (Rows.roundModuloSpec.post enc Try.prog Try.f6 false true false false) := by
  refine returnsInHanded_of_change (C := Try.checked) row_own started (by kernel_rfl) Try.func6
    (ChangeSpec.witness6 (enc := enc) (C := Try.checked) false ⟨#[], #[.int .i32 0, .int .i32 0, .agg #[.bool false, .int .u64 0, .int .u64 0, .int .i64 0]], []⟩ 8 (by kernel_rfl) (by kernel_rfl) (by kernel_rfl) (by kernel_rfl)) ?_
  intro W base args ds gs before hval0 hW hcnd _
  have hval : ∀ (j : Nat) t v, Try.f6.params[j]? = some t → args[j]? = some v → Value.okWide Try.prog W .any base t v := hval0
  have hW' := hW
  obtain ⟨p, q, hA0, hV, rfl, hfz, hnd⟩ := hW
  have hA : DataW.TrodAll enc Try.prog W 0 (fun _ => true) true Try.f6.params.toList args.toList ds p := hA0
  rw [Try.params6] at hA hval
  obtain ⟨v0, vs0, d0, ds0, p0, q0, hargs, rfl, rfl, h0, r0⟩ := trodAll_cons hA
  obtain ⟨v1, vs1, d1, ds1, p1, q1, rfl, rfl, rfl, h1, r1⟩ := trodAll_cons r0
  obtain ⟨v2, vs2, d2, ds2, p2, q2, rfl, rfl, rfl, h2, r2⟩ := trodAll_cons r1
  obtain ⟨rfl, rfl, rfl⟩ := trodAll_nil r2
  obtain rfl : args = #[v0, v1, v2] := by cases args; simp_all
  obtain ⟨rfl, rfl⟩ := trodVars_none hV
  have lt0 : ∀ x ∈ p0, x.block < W.heap.size := by obtain ⟨m, hm⟩ := h0; exact DataW.trod_lt m _ _ _ hm
  obtain ⟨a0, rfl, u0, t0⟩ := open_i32 (hval 0 21 v0 rfl rfl) h0
  have lt1 : ∀ x ∈ p1, x.block < W.heap.size := by obtain ⟨m, hm⟩ := h1; exact DataW.trod_lt m _ _ _ hm
  obtain ⟨a1, rfl, u1, t1⟩ := open_i32 (hval 1 21 v1 rfl rfl) h1
  have lt2 : ∀ x ∈ p2, x.block < W.heap.size := by obtain ⟨m, hm⟩ := h2; exact DataW.trod_lt m _ _ _ hm
  obtain ⟨g2, a2, b2, e2, n2, rfl, u2, t2, s2⟩ := open_Raw (hval 2 26 v2 rfl rfl) h2
  clear hA0 hval0
  refine (walk_RoundModulo u0 t0 u1 t1 (g2 := g2) u2 t2 s2 W).mono fun e W' ⟨he, bel⟩ => ?_
  subst he
  exact ⟨_, rfl, _, _, _, [], _, [], hW', trodAll_mk1 (shut_bool Try.underlying4 _), (trodAll_cons_mk (Below.trod row_laid (by kernel_rfl) (of_decide_eq_true (by kernel_rfl)) h0 bel lt0) (trodAll_cons_mk (Below.trod row_laid (by kernel_rfl) (of_decide_eq_true (by kernel_rfl)) h1 bel lt1) (trodAll_cons_mk (Below.trod row_laid (by kernel_rfl) (of_decide_eq_true (by kernel_rfl)) h2 bel lt2) trodAll_mk0))), rfl, bel.frame _, fun h => by cases h⟩

theorem over_RoundModulo : Rows.roundModuloRow.holds Try.pinned (OpenSpec.ofChange Rows.roundModuloSpec) :=
  OpenClaim.holds_of_wide 6 Try.f6 rfl rfl rfl rfl rfl rfl rfl ⟨rfl, rfl, rfl, rfl, rfl⟩ rfl rfl rfl rfl rfl (by kernel_rfl) Try.func6 (by kernel_rfl)
    (of_decide_eq_true (by kernel_rfl)) (by unfold Func.isWrapper; first | (rw [if_pos (by decide +kernel)]; kernel_rfl) | (rw [if_neg (by decide +kernel)]; exact ⟨rfl, rfl⟩))
    (fun os started H enc _ => lifted_RoundModulo os started H enc)

theorem holds_RoundModulo : Rows.RoundModuloSaid := over_RoundModulo
#print axioms holds_RoundModulo

end Go.Proofs.Ytfjcblmmfkgkoaa
