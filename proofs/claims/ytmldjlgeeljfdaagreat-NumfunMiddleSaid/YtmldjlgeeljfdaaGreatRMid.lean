/-
  NumfunMiddle: for every input, without condition.
-/
import Derived.Test.YtmldjlgeeljfdaaGreatOpenR
import Derived.Test.YtmldjlgeeljfdaaGreatKwS
import Derived.Deep.DeepCutAuto
namespace Go.Proofs.YtmldjlgeeljfdaaGreat
open Go.ChangeShapes Go.WideShapes Go.ChangeAt Go.RowKit
open Go.ChangeMaps (open_string shut_string)
set_option linter.unusedVariables false
set_option maxRecDepth 100000

theorem walk_NumfunMiddle {w : World} {v0 : Value} {xs : List Raw} (b0 : ∀ x ∈ xs, x.2.1 < B128) (l0 : xs.length ≤ 9223372036854775807) (r0 : (DV.sl xs.length (rawL xs)).rel (old w) w v0) (w' : World) (hk : Kw w) :
    Calls Tryz.prog 3 #[v0] w fun e w' => e = .returned (.bool true) ∧ Below w.heap.size w w' :=
  (c_NumfunMiddle b0 l0).walkR w (relL_cons r0 relL_nil) hk

set_option maxRecDepth 100000 in
theorem lifted_NumfunMiddle (os : Os) (started : os.Started) (H : Type) (enc : TypeId × Value → H) :
    ReturnsInHanded {} Tryz.checked os 3 .any (Rows.numfunMiddleSpec.pre6 enc Tryz.prog Tryz.f3 Rows.numfunMiddleRow.domain false) (Rows.numfunMiddleSpec.post enc Tryz.prog Tryz.f3 false true false false) := by
  refine returnsS (C := Tryz.checked) row_own started (by kernel_rfl) Tryz.func3
    (ChangeSpec.witness6 (enc := enc) (C := Tryz.checked) false ⟨#[], #[.slice none 0 0], []⟩ 8 (by kernel_rfl) (by kernel_rfl) (by kernel_rfl) (by kernel_rfl)) ?_
  intro W hsh base args ds gs before hval0 hW hcnd _
  have hval : ∀ (j : Nat) t v, Tryz.f3.params[j]? = some t → args[j]? = some v → Value.okWide Tryz.prog W .any base t v := hval0
  have hW' := hW
  obtain ⟨p, q, hA0, hV, rfl, hfz, hnd⟩ := hW
  have hA : DataW.TrodAll enc Tryz.prog W 0 (fun _ => true) true Tryz.f3.params.toList args.toList ds p := hA0
  rw [Tryz.params3] at hA hval
  obtain ⟨v0, vs0, d0, ds0, p0, q0, hargs, rfl, rfl, h0, r0⟩ := trodAll_cons hA
  obtain ⟨rfl, rfl, rfl⟩ := trodAll_nil r0
  obtain rfl : args = #[v0] := by cases args; simp_all
  obtain ⟨rfl, rfl⟩ := trodVars_none hV
  have lt0 : ∀ x ∈ p0, x.block < W.heap.size := by obtain ⟨m, hm⟩ := h0; exact DataW.trod_lt m _ _ _ hm
  obtain ⟨xs0, b0, l0, rl0⟩ := open_raws (hval 0 22 v0 rfl rfl) h0
  clear hA0 hval0
  refine (walk_NumfunMiddle b0 l0 rl0 W (kw_S hsh)).mono fun e W' ⟨he, bel⟩ => ?_
  subst he
  exact ⟨_, rfl, _, _, _, [], _, [], hW', trodAll_mk1 (shut_bool Tryz.underlying4 _), (trodAll_cons_mk (Below.trod row_laid (by kernel_rfl) (of_decide_eq_true (by kernel_rfl)) h0 bel lt0) trodAll_mk0), rfl, bel.frame _, fun h => by cases h⟩

theorem over_NumfunMiddle : Rows.numfunMiddleRow.holds Tryz.pinned (OpenSpec.ofChange Rows.numfunMiddleSpec) :=
  OpenClaim.holds_of_wide 3 Tryz.f3 rfl rfl rfl rfl rfl rfl rfl ⟨rfl, rfl, rfl, rfl, rfl⟩ rfl rfl rfl rfl rfl (by kernel_rfl) Tryz.func3 (by kernel_rfl)
    (of_decide_eq_true (by kernel_rfl)) (by unfold Func.isWrapper; first | (rw [if_pos (by decide +kernel)]; kernel_rfl) | (rw [if_neg (by decide +kernel)]; exact ⟨rfl, rfl⟩))
    (fun os started H enc _ => lifted_NumfunMiddle os started H enc)

theorem holds_NumfunMiddle : Rows.NumfunMiddleSaid := over_NumfunMiddle
#print axioms holds_NumfunMiddle

end Go.Proofs.YtmldjlgeeljfdaaGreat
