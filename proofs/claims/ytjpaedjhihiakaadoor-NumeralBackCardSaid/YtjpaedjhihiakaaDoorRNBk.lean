/-
  NumeralBack: for every input, without condition; the tied card.
-/
import Derived.Test.YtjpaedjhihiakaaDoorNrC
import Derived.Test.YtjpaedjhihiakaaDoorOpenL
import Derived.Test.YtjpaedjhihiakaaDoorKwE
import Derived.Test.YtjpaedjhihiakaaDoorTie
import Derived.Test.YtjpaedjhihiakaaDoorCards
import Derived.SevenTiedAt
namespace Go.Proofs.YtjpaedjhihiakaaDoor
open Go.ChangeShapes Go.WideShapes Go.ChangeAt Go.RowKit
open Go.ChangeMaps (open_string shut_string)
set_option linter.unusedVariables false
set_option maxRecDepth 100000

theorem walk_NumeralBack {s : ByteArray} (u : s.size ≤ 1000000000000000) (w : World) (hk : Kw w) :
    Calls Tryd.prog 8 #[.string s] w fun e w' => e = .returned (.bool true) ∧ Below w.heap.size w w' := by
  obtain ⟨l, rfl, hl⟩ := tx_all s
  exact (c_NumeralBack (l := l) (by omega)).walk (vs := [.string (tx l)]) rfl w hk

set_option maxRecDepth 100000 in
theorem lifted_NumeralBack (os : Os) (started : os.Started) (H : Type) (enc : TypeId × Value → H) :
    ReturnsInHanded {} Tryd.checked os 8 .any (fun w args => (Rows.numeralBackSpec.pre enc Tryd.prog Tryd.f8 Rows.numeralBackRow.domain false w args ∧ laidMetH Tryd.prog Rows.numeralBackRow.laid w) ∧ sizedMet enc Tryd.prog Tryd.f8 (OpenSpec.ofChange Rows.numeralBackSpec) false w args) (Rows.numeralBackSpec.post enc Tryd.prog Tryd.f8 false true false false) := by
  refine returnsK (C := Tryd.checked) (X := fun w _ => laidMetH Tryd.prog Rows.numeralBackRow.laid w) (fun _ _ _ hh h => h.of_heap hh) row_own started (by kernel_rfl) Tryd.func8
    (ChangeSpec.witness_shaped (enc := enc) (C := Tryd.checked) (os := os) (X := fun w _ => laidMetH Tryd.prog Rows.numeralBackRow.laid w) false (World.laidAll Tryd.prog os Rows.numeralBackRow.laid) #[.string ByteArray.empty] 8 (World.laidAll_os _ _ _)
      (World.shaped_of_ZipB (by kernel_rfl) (by kernel_rfl)) (by kernel_rfl) (by kernel_rfl) (by kernel_rfl)
      (by rw [MakeChecks.laidMetH_plain _ _ _ (by kernel_rfl)]; exact laidMet_laidAll _ (by kernel_rfl) (by kernel_rfl))) ?_
  intro W hsh base args ds gs before hval0 hW hcnd hWt hL _
  have hval : ∀ (j : Nat) t v, Tryd.f8.params[j]? = some t → args[j]? = some v → Value.okWide Tryd.prog W .any base t v := hval0
  have hW' := hW
  obtain ⟨p, q, hA0, hV, rfl, hfz, hnd⟩ := hW
  have hA : DataW.TrodAll enc Tryd.prog W 0 (fun _ => true) true Tryd.f8.params.toList args.toList ds p := hA0
  rw [Tryd.params8] at hA hval
  obtain ⟨v0, vs0, d0, ds0, p0, q0, hargs, rfl, rfl, h0, r0⟩ := trodAll_cons hA
  obtain ⟨rfl, rfl, rfl⟩ := trodAll_nil r0
  obtain rfl : args = #[v0] := by cases args; simp_all
  obtain ⟨rfl, rfl⟩ := trodVars_none hV
  have lt0 : ∀ x ∈ p0, x.block < W.heap.size := by obtain ⟨m, hm⟩ := h0; exact DataW.trod_lt m _ _ _ hm
  have hk0 := h0
  obtain ⟨a0, e0, ed0, _, u0⟩ := open_string Tryd.underlying9 (hval 0 9 v0 rfl rfl) h0
  subst e0
  have z0 : a0.size ≤ 1000000000000000 := by
    have hb := hWt
    subst ed0
    rw [Tryd.params8] at hb
    have hm : a0.data.toList.length ∈ DataW.weightsEach Tryd.prog (9 :: DataSpec.varTypes Tryd.prog Rows.numeralBackSpec.plain) [DataW.lit (Lit.string a0.data.toList) (H := H)] := by
      rw [DataW.weightsEach, DataW.weights]
      exact List.mem_append_left _ (List.mem_singleton.2 rfl)
    have hq := of_decide_eq_true (List.all_eq_true.1 hb _ hm)
    have hs : a0.size = a0.data.toList.length := by rw [Array.length_toList]; rfl
    unfold reachBytes at hq
    omega
  clear hA0 hval0
  refine (walk_NumeralBack z0 W (kw_of hsh hL (by kernel_rfl))).mono fun e W' ⟨he, bel⟩ => ?_
  subst he
  exact ⟨_, rfl, _, _, _, [], _, [], hW', trodAll_mk1 (shut_bool Tryd.underlying4 _), (trodAll_cons_mk (Below.trod row_laid (by kernel_rfl) (of_decide_eq_true (by kernel_rfl)) h0 bel lt0) trodAll_mk0), rfl, bel.frame _, fun h => by cases h⟩

theorem over_NumeralBack : Rows.numeralBackRow.holds Tryd.pinned (OpenSpec.ofChange Rows.numeralBackSpec) :=
  OpenClaim.holds_of_wide 8 Tryd.f8 rfl rfl rfl rfl rfl rfl rfl ⟨rfl, rfl, rfl, rfl, rfl⟩ rfl rfl rfl rfl rfl (by kernel_rfl) Tryd.func8 (by kernel_rfl)
    (of_decide_eq_true (by kernel_rfl)) (by unfold Func.isWrapper; first | (rw [if_pos (by decide +kernel)]; kernel_rfl) | (rw [if_neg (by decide +kernel)]; exact ⟨rfl, rfl⟩))
    (fun os started H enc _ => lifted_NumeralBack os started H enc)

theorem holds_NumeralBack : Rows.NumeralBackCardSaid :=
  Claim7.holds_tied_plain_at .later [] [.data, .data, .data, .data, .sentinel, .sentinel, .pinned] true Rows.numeralBackCard.stood.harness true
    over_NumeralBack (fun _ h => by cases h) (by kernel_rfl) (fun _ h => by cases h) numeralBack_row_tie rfl ⟨rfl, rfl⟩ (by kernel_rfl) rfl
    (fun f fn hf hfn => by
      obtain rfl : f = 8 := Option.some.inj ((show Tryd.prog.funcNamed "casuist/casuistlaw05.NumeralBack" = some 8 by kernel_rfl).symm.trans hf) |>.symm
      obtain rfl : fn = Tryd.f8 := (Option.some.inj (Tryd.func8.symm.trans hfn)).symm
      exact ⟨by kernel_rfl, fun j t ht => by
        rw [Tryd.params8] at ht
        rcases j with _ | j
        · obtain rfl : 9 = t := by simpa using ht
          exact (show Tryd.prog.wantsStandIn 9 = false by kernel_rfl)
        · simp at ht⟩)
    (by kernel_rfl)
#print axioms holds_NumeralBack

end Go.Proofs.YtjpaedjhihiakaaDoor
