/-
  NumfunSpread: for every input, without condition.
-/
import Derived.Test.YtmldjlgeeljfdaaOpenN
import Derived.Deep.DeepCutAuto
namespace Go.Proofs.Ytmldjlgeeljfdaa
open Go.ChangeShapes Go.WideShapes Go.ChangeAt Go.RowKit
open Go.ChangeMaps (open_string shut_string)
set_option linter.unusedVariables false
set_option maxRecDepth 100000

theorem walk_NumfunSpread {w : World} {v0 : Value} {ns : List Int} {a : Int} (b0 : ∀ x ∈ ns, -2147483648 ≤ x ∧ x ≤ 2147483647) (l0 : ns.length ≤ 9223372036854775807) (r0 : (DV.sl ns.length (i32L ns)).rel (old w) w v0) (u1 : -2147483648 ≤ a) (t1 : a ≤ 2147483647) (w' : World) :
    Calls Try.prog 3 #[v0, .int .i32 a] w fun e w' => e = .returned (.bool true) ∧ Below w.heap.size w w' :=
  (c_NumfunSpread b0 l0 ⟨u1, t1⟩).walkR w (relL_cons r0 (relL_cons (rel_v _) relL_nil)) ⟨.inl (by kernel_rfl), .inl (by kernel_rfl)⟩

set_option maxRecDepth 100000 in
theorem lifted_NumfunSpread (os : Os) (started : os.Started) (H : Type) (enc : TypeId × Value → H) :
    ReturnsInHanded {} Try.checked os 3 .any (Rows.numfunSpreadSpec.pre6 enc Try.prog Try.f3 Rows.numfunSpreadRow.domain false) (Rows.numfunSpreadSpec.post enc Try.prog Try.f3 false true false false) := by
  refine returnsInHanded_of_change (C := Try.checked) row_own started (by kernel_rfl) Try.func3
    (ChangeSpec.witness6 (enc := enc) (C := Try.checked) false ⟨#[], #[.slice none 0 0, .int .i32 0], []⟩ 8 (by kernel_rfl) (by kernel_rfl) (by kernel_rfl) (by kernel_rfl)) ?_
  intro W base args ds gs before hval0 hW hcnd _
  have hval : ∀ (j : Nat) t v, Try.f3.params[j]? = some t → args[j]? = some v → Value.okWide Try.prog W .any base t v := hval0
  have hW' := hW
  obtain ⟨p, q, hA0, hV, rfl, hfz, hnd⟩ := hW
  have hA : DataW.TrodAll enc Try.prog W 0 (fun _ => true) true Try.f3.params.toList args.toList ds p := hA0
  rw [Try.params3] at hA hval
  obtain ⟨v0, vs0, d0, ds0, p0, q0, hargs, rfl, rfl, h0, r0⟩ := trodAll_cons hA
  obtain ⟨v1, vs1, d1, ds1, p1, q1, rfl, rfl, rfl, h1, r1⟩ := trodAll_cons r0
  obtain ⟨rfl, rfl, rfl⟩ := trodAll_nil r1
  obtain rfl : args = #[v0, v1] := by cases args; simp_all
  obtain ⟨rfl, rfl⟩ := trodVars_none hV
  have lt0 : ∀ x ∈ p0, x.block < W.heap.size := by obtain ⟨m, hm⟩ := h0; exact DataW.trod_lt m _ _ _ hm
  obtain ⟨ns0, b0, l0, rl0⟩ := open_i32s (hval 0 22 v0 rfl rfl) h0
  have lt1 : ∀ x ∈ p1, x.block < W.heap.size := by obtain ⟨m, hm⟩ := h1; exact DataW.trod_lt m _ _ _ hm
  obtain ⟨a1, rfl, u1, t1⟩ := open_i32 (hval 1 21 v1 rfl rfl) h1
  clear hA0 hval0
  refine (walk_NumfunSpread b0 l0 rl0 u1 t1 W).mono fun e W' ⟨he, bel⟩ => ?_
  subst he
  exact ⟨_, rfl, _, _, _, [], _, [], hW', trodAll_mk1 (shut_bool Try.underlying4 _), (trodAll_cons_mk (Below.trod row_laid (by kernel_rfl) (of_decide_eq_true (by kernel_rfl)) h0 bel lt0) (trodAll_cons_mk (Below.trod row_laid (by kernel_rfl) (of_decide_eq_true (by kernel_rfl)) h1 bel lt1) trodAll_mk0)), rfl, bel.frame _, fun h => by cases h⟩

theorem over_NumfunSpread : Rows.numfunSpreadRow.holds Try.pinned (OpenSpec.ofChange Rows.numfunSpreadSpec) :=
  OpenClaim.holds_of_wide 3 Try.f3 rfl rfl rfl rfl rfl rfl rfl ⟨rfl, rfl, rfl, rfl, rfl⟩ rfl rfl rfl rfl rfl (by kernel_rfl) Try.func3 (by kernel_rfl)
    (of_decide_eq_true (by kernel_rfl)) (by unfold Func.isWrapper; first | (rw [if_pos (by decide +kernel)]; kernel_rfl) | (rw [if_neg (by decide +kernel)]; exact ⟨rfl, rfl⟩))
    (fun os started H enc _ => lifted_NumfunSpread os started H enc)

theorem holds_NumfunSpread : Rows.NumfunSpreadSaid := over_NumfunSpread
#print axioms holds_NumfunSpread

end Go.Proofs.Ytmldjlgeeljfdaa
