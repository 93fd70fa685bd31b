/-
  NumeralShifts: for every input, without condition; the tied card.
-/
import Derived.Test.YtjpaedjhihiakaaDoorNrC
import Derived.Test.YtjpaedjhihiakaaDoorOpenL
import Derived.Test.YtjpaedjhihiakaaDoorKwE
import Derived.Test.YtjpaedjhihiakaaDoorTie
import Derived.Test.YtjpaedjhihiakaaDoorCards
import Derived.SevenTiedAt
namespace Go.Proofs.YtjpaedjhihiakaaDoor
open Go.ChangeShapes Go.WideShapes Go.ChangeAt Go.RowKit
open Go.ChangeMaps (open_string shut_string)
set_option linter.unusedVariables false
set_option maxRecDepth 100000

theorem walk_NumeralShifts {a0 : Int} {n0 : Nat} (u0 : IsW a0 n0) (w : World) (hk : Kw w) :
    Calls Tryd.prog 10 #[.int .u64 a0] w fun e w' => e = .returned (.bool true) ∧ Below w.heap.size w w' := by
  obtain ⟨h1, h2⟩ : a0 = (n0 : Int) ∧ n0 < 18446744073709551616 := ⟨u0.eq, u0.lt⟩
  subst h1
  exact (c_NumeralShifts h2).walk (vs := [.int .u64 (n0 : Int)]) rfl w hk

set_option maxRecDepth 100000 in
theorem lifted_NumeralShifts (os : Os) (started : os.Started) (H : Type) (enc : TypeId × Value → H) :
    ReturnsInHanded {} Tryd.checked os 10 .any (fun w args => (Rows.numeralShiftsSpec.pre enc Tryd.prog Tryd.f10 Rows.numeralShiftsRow.domain false w args ∧ laidMetH Tryd.prog Rows.numeralShiftsRow.laid w) ∧ sizedMet enc Tryd.prog Tryd.f10 (OpenSpec.ofChange Rows.numeralShiftsSpec) false w args) (Rows.numeralShiftsSpec.post enc Tryd.prog Tryd.f10 false true false false) := by
  refine returnsK (C := Tryd.checked) (X := fun w _ => laidMetH Tryd.prog Rows.numeralShiftsRow.laid w) (fun _ _ _ hh h => h.of_heap hh) row_own started (by kernel_rfl) Tryd.func10
    (ChangeSpec.witness_shaped (enc := enc) (C := Tryd.checked) (os := os) (X := fun w _ => laidMetH Tryd.prog Rows.numeralShiftsRow.laid w) false (World.laidAll Tryd.prog os Rows.numeralShiftsRow.laid) #[.int .u64 0] 8 (World.laidAll_os _ _ _)
      (World.shaped_of_ZipB (by kernel_rfl) (by kernel_rfl)) (by kernel_rfl) (by kernel_rfl) (by kernel_rfl)
      (by rw [MakeChecks.laidMetH_plain _ _ _ (by kernel_rfl)]; exact laidMet_laidAll _ (by kernel_rfl) (by kernel_rfl))) ?_
  intro W hsh base args ds gs before hval0 hW hcnd hWt hL _
  have hval : ∀ (j : Nat) t v, Tryd.f10.params[j]? = some t → args[j]? = some v → Value.okWide Tryd.prog W .any base t v := hval0
  have hW' := hW
  obtain ⟨p, q, hA0, hV, rfl, hfz, hnd⟩ := hW
  have hA : DataW.TrodAll enc Tryd.prog W 0 (fun _ => true) true Tryd.f10.params.toList args.toList ds p := hA0
  rw [Tryd.params10] at hA hval
  obtain ⟨v0, vs0, d0, ds0, p0, q0, hargs, rfl, rfl, h0, r0⟩ := trodAll_cons hA
  obtain ⟨rfl, rfl, rfl⟩ := trodAll_nil r0
  obtain rfl : args = #[v0] := by cases args; simp_all
  obtain ⟨rfl, rfl⟩ := trodVars_none hV
  have lt0 : ∀ x ∈ p0, x.block < W.heap.size := by obtain ⟨m, hm⟩ := h0; exact DataW.trod_lt m _ _ _ hm
  obtain ⟨a0, n0, rfl, u0⟩ := open_W (hval 0 54 v0 rfl rfl) h0
  clear hA0 hval0
  refine (walk_NumeralShifts u0 W (kw_of hsh hL (by kernel_rfl))).mono fun e W' ⟨he, bel⟩ => ?_
  subst he
  exact ⟨_, rfl, _, _, _, [], _, [], hW', trodAll_mk1 (shut_bool Tryd.underlying4 _), (trodAll_cons_mk (Below.trod row_laid (by kernel_rfl) (of_decide_eq_true (by kernel_rfl)) h0 bel lt0) trodAll_mk0), rfl, bel.frame _, fun h => by cases h⟩

theorem over_NumeralShifts : Rows.numeralShiftsRow.holds Tryd.pinned (OpenSpec.ofChange Rows.numeralShiftsSpec) :=
  OpenClaim.holds_of_wide 10 Tryd.f10 rfl rfl rfl rfl rfl rfl rfl ⟨rfl, rfl, rfl, rfl, rfl⟩ rfl rfl rfl rfl rfl (by kernel_rfl) Tryd.func10 (by kernel_rfl)
    (of_decide_eq_true (by kernel_rfl)) (by unfold Func.isWrapper; first | (rw [if_pos (by decide +kernel)]; kernel_rfl) | (rw [if_neg (by decide +kernel)]; exact ⟨rfl, rfl⟩))
    (fun os started H enc _ => lifted_NumeralShifts os started H enc)

theorem holds_NumeralShifts : Rows.NumeralShiftsCardSaid :=
  Claim7.holds_tied_plain_at .later [] [.data, .data, .data, .data, .sentinel, .sentinel, .pinned] true Rows.numeralShiftsCard.stood.harness true
    over_NumeralShifts (fun _ h => by cases h) (by kernel_rfl) (fun _ h => by cases h) numeralShifts_row_tie rfl ⟨rfl, rfl⟩ (by kernel_rfl) rfl
    (fun f fn hf hfn => by
      obtain rfl : f = 10 := Option.some.inj ((show Tryd.prog.funcNamed "casuist/casuistlaw05.NumeralShifts" = some 10 by kernel_rfl).symm.trans hf) |>.symm
      obtain rfl : fn = Tryd.f10 := (Option.some.inj (Tryd.func10.symm.trans hfn)).symm
      exact ⟨by kernel_rfl, fun j t ht => by
        rw [Tryd.params10] at ht
        rcases j with _ | j
        · obtain rfl : 54 = t := by simpa using ht
          exact (show Tryd.prog.wantsStandIn 54 = false by kernel_rfl)
        · simp at ht⟩)
    (by kernel_rfl)
#print axioms holds_NumeralShifts

end Go.Proofs.YtjpaedjhihiakaaDoor
