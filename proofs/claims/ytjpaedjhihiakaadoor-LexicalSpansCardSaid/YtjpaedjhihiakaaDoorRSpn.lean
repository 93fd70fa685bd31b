/-
  LexicalSpans: for every input, without condition; the tied card.
-/
import Derived.Test.YtjpaedjhihiakaaDoorLexD
import Derived.Test.YtjpaedjhihiakaaDoorOpenL
import Derived.Test.YtjpaedjhihiakaaDoorKw
import Derived.Test.YtjpaedjhihiakaaDoorTie
import Derived.Test.YtjpaedjhihiakaaDoorCards
import Derived.SevenTiedAt
namespace Go.Proofs.YtjpaedjhihiakaaDoor
open Go.ChangeShapes Go.WideShapes Go.ChangeAt Go.RowKit
open Go.ChangeMaps (open_string shut_string)
set_option linter.unusedVariables false
set_option maxRecDepth 100000

theorem walk_LexicalSpans {s : ByteArray} (u : s.size ≤ 9223372036854775807) (w : World) (hk : Kw w) :
    Calls Tryd.prog 3 #[.string s] w fun e w' => e = .returned (.bool true) ∧ Below w.heap.size w w' := by
  obtain ⟨l, rfl, hl⟩ := tx_all s
  exact (c_LexicalSpans (l := l) (by omega)).walk (vs := [.string (tx l)]) rfl w hk

set_option maxRecDepth 100000 in
theorem lifted_LexicalSpans (os : Os) (started : os.Started) (H : Type) (enc : TypeId × Value → H) :
    ReturnsInHanded {} Tryd.checked os 3 .any (fun w args => (Rows.lexicalSpansSpec.pre enc Tryd.prog Tryd.f3 Rows.lexicalSpansRow.domain false w args ∧ laidMetH Tryd.prog Rows.lexicalSpansRow.laid w) ∧ sizedMet enc Tryd.prog Tryd.f3 (OpenSpec.ofChange Rows.lexicalSpansSpec) false w args) (Rows.lexicalSpansSpec.post enc Tryd.prog Tryd.f3 false true false false) := by
  refine returnsK (C := Tryd.checked) (X := fun w _ => laidMetH Tryd.prog Rows.lexicalSpansRow.laid w) (fun _ _ _ hh h => h.of_heap hh) row_own started (by kernel_rfl) Tryd.func3
    (ChangeSpec.witness_shaped (enc := enc) (C := Tryd.checked) (os := os) (X := fun w _ => laidMetH Tryd.prog Rows.lexicalSpansRow.laid w) false (World.laidAll Tryd.prog os Rows.lexicalSpansRow.laid) #[.string ByteArray.empty] 8 (World.laidAll_os _ _ _)
      (World.shaped_of_ZipB (by kernel_rfl) (by kernel_rfl)) (by kernel_rfl) (by kernel_rfl) (by kernel_rfl)
      (by rw [MakeChecks.laidMetH_plain _ _ _ (by kernel_rfl)]; exact laidMet_laidAll _ (by kernel_rfl) (by kernel_rfl))) ?_
  intro W hsh base args ds gs before hval0 hW hcnd hWt hL _
  have hval : ∀ (j : Nat) t v, Tryd.f3.params[j]? = some t → args[j]? = some v → Value.okWide Tryd.prog W .any base t v := hval0
  have hW' := hW
  obtain ⟨p, q, hA0, hV, rfl, hfz, hnd⟩ := hW
  have hA : DataW.TrodAll enc Tryd.prog W 0 (fun _ => true) true Tryd.f3.params.toList args.toList ds p := hA0
  rw [Tryd.params3] at hA hval
  obtain ⟨v0, vs0, d0, ds0, p0, q0, hargs, rfl, rfl, h0, r0⟩ := trodAll_cons hA
  obtain ⟨rfl, rfl, rfl⟩ := trodAll_nil r0
  obtain rfl : args = #[v0] := by cases args; simp_all
  obtain ⟨rfl, rfl⟩ := trodVars_none hV
  have lt0 : ∀ x ∈ p0, x.block < W.heap.size := by obtain ⟨m, hm⟩ := h0; exact DataW.trod_lt m _ _ _ hm
  have hk0 := h0
  obtain ⟨a0, e0, _, _, u0⟩ := open_string Tryd.underlying9 (hval 0 9 v0 rfl rfl) h0
  subst e0
  clear hA0 hval0
  refine (walk_LexicalSpans u0 W (kw_of hsh hL (by kernel_rfl))).mono fun e W' ⟨he, bel⟩ => ?_
  subst he
  exact ⟨_, rfl, _, _, _, [], _, [], hW', trodAll_mk1 (shut_bool Tryd.underlying4 _), (trodAll_cons_mk (Below.trod row_laid (by kernel_rfl) (of_decide_eq_true (by kernel_rfl)) h0 bel lt0) trodAll_mk0), rfl, bel.frame _, fun h => by cases h⟩

theorem over_LexicalSpans : Rows.lexicalSpansRow.holds Tryd.pinned (OpenSpec.ofChange Rows.lexicalSpansSpec) :=
  OpenClaim.holds_of_wide 3 Tryd.f3 rfl rfl rfl rfl rfl rfl rfl ⟨rfl, rfl, rfl, rfl, rfl⟩ rfl rfl rfl rfl rfl (by kernel_rfl) Tryd.func3 (by kernel_rfl)
    (of_decide_eq_true (by kernel_rfl)) (by unfold Func.isWrapper; first | (rw [if_pos (by decide +kernel)]; kernel_rfl) | (rw [if_neg (by decide +kernel)]; exact ⟨rfl, rfl⟩))
    (fun os started H enc _ => lifted_LexicalSpans os started H enc)

theorem holds_LexicalSpans : Rows.LexicalSpansCardSaid :=
  Claim7.holds_tied_plain_at .later [] [.data, .data, .data] true Rows.lexicalSpansCard.stood.harness true
    over_LexicalSpans (fun _ h => by cases h) (by kernel_rfl) (fun _ h => by cases h) lexicalSpans_row_tie rfl ⟨rfl, rfl⟩ (by kernel_rfl) rfl
    (fun f fn hf hfn => by
      obtain rfl : f = 3 := Option.some.inj ((show Tryd.prog.funcNamed "casuist/casuistlaw09.LexicalSpans" = some 3 by kernel_rfl).symm.trans hf) |>.symm
      obtain rfl : fn = Tryd.f3 := (Option.some.inj (Tryd.func3.symm.trans hfn)).symm
      exact ⟨by kernel_rfl, fun j t ht => by
        rw [Tryd.params3] at ht
        rcases j with _ | j
        · obtain rfl : 9 = t := by simpa using ht
          exact (show Tryd.prog.wantsStandIn 9 = false by kernel_rfl)
        · simp at ht⟩)
    (by kernel_rfl)
#print axioms holds_LexicalSpans

end Go.Proofs.YtjpaedjhihiakaaDoor
