/-
  NumeralReads: for every input, without condition; the tied card.
-/
import Derived.Test.YtbabmopplnbmdaaGreatDoorNrX
import Derived.Test.YtbabmopplnbmdaaGreatDoorOpK
import Derived.Test.YtbabmopplnbmdaaGreatDoorTie
import Derived.Test.YtbabmopplnbmdaaGreatDoorCards
import Derived.SevenTiedAt
namespace Go.Proofs.YtbabmopplnbmdaaGreatDoor
open Go.ChangeShapes Go.WideShapes Go.ChangeAt Go.RowKit
open Go.ChangeMaps (open_string shut_string)
set_option linter.unusedVariables false
set_option maxRecDepth 100000

theorem walk_NumeralReads {s : ByteArray} (u : s.size ≤ 1000000000000000) (w : World) (hk : Kw w) :
    Calls Tryz.prog 3 #[.string s] w fun e w' => e = .returned (.bool true) ∧ Below w.heap.size w w' := by
  obtain ⟨l, rfl, hl⟩ := tx_all s
  exact (c_NumeralReads (l := l) (by omega)).walk (vs := [.string (tx l)]) rfl w hk

set_option maxRecDepth 100000 in
theorem lifted_NumeralReads (os : Os) (started : os.Started) (H : Type) (enc : TypeId × Value → H) :
    ReturnsInHanded {} Tryz.checked os 3 .any (fun w args => (Rows.numeralReadsSpec.pre enc Tryz.prog Tryz.f3 Rows.numeralReadsRow.domain false w args ∧ laidMetH Tryz.prog Rows.numeralReadsRow.laid w) ∧ sizedMet enc Tryz.prog Tryz.f3 (OpenSpec.ofChange Rows.numeralReadsSpec) false w args) (Rows.numeralReadsSpec.post enc Tryz.prog Tryz.f3 false true false false) := by
  refine returnsK (C := Tryz.checked) (X := fun w _ => laidMetH Tryz.prog Rows.numeralReadsRow.laid w) (fun _ _ _ hh h => h.of_heap hh) row_own started (by kernel_rfl) Tryz.func3
    (ChangeSpec.witness_shaped (enc := enc) (C := Tryz.checked) (os := os) (X := fun w _ => laidMetH Tryz.prog Rows.numeralReadsRow.laid w) false (World.laidAll Tryz.prog os Rows.numeralReadsRow.laid) #[.string ByteArray.empty] 8 (World.laidAll_os _ _ _)
      (World.shaped_of_ZipB (by kernel_rfl) (by kernel_rfl)) (by kernel_rfl) (by kernel_rfl) (by kernel_rfl)
      (by rw [MakeChecks.laidMetH_plain _ _ _ (by kernel_rfl)]; exact laidMet_laidAll _ (by kernel_rfl) (by kernel_rfl))) ?_
  intro W hsh base args ds gs before hval0 hW hcnd hWt hL _
  have hval : ∀ (j : Nat) t v, Tryz.f3.params[j]? = some t → args[j]? = some v → Value.okWide Tryz.prog W .any base t v := hval0
  have hW' := hW
  obtain ⟨p, q, hA0, hV, rfl, hfz, hnd⟩ := hW
  have hA : DataW.TrodAll enc Tryz.prog W 0 (fun _ => true) true Tryz.f3.params.toList args.toList ds p := hA0
  rw [Tryz.params3] at hA hval
  obtain ⟨v0, vs0, d0, ds0, p0, q0, hargs, rfl, rfl, h0, r0⟩ := trodAll_cons hA
  obtain ⟨rfl, rfl, rfl⟩ := trodAll_nil r0
  obtain rfl : args = #[v0] := by cases args; simp_all
  obtain ⟨rfl, rfl⟩ := trodVars_none hV
  have lt0 : ∀ x ∈ p0, x.block < W.heap.size := by obtain ⟨m, hm⟩ := h0; exact DataW.trod_lt m _ _ _ hm
  have hk0 := h0
  obtain ⟨a0, e0, ed0, _, u0⟩ := open_string Tryz.underlying9 (hval 0 9 v0 rfl rfl) h0
  subst e0
  have z0 : a0.size ≤ 1000000000000000 := by
    have hb := hWt
    subst ed0
    rw [Tryz.params3] at hb
    have hm : a0.data.toList.length ∈ DataW.weightsEach Tryz.prog (9 :: DataSpec.varTypes Tryz.prog Rows.numeralReadsSpec.plain) [DataW.lit (Lit.string a0.data.toList) (H := H)] := by
      rw [DataW.weightsEach, DataW.weights]
      exact List.mem_append_left _ (List.mem_singleton.2 rfl)
    have hq := of_decide_eq_true (List.all_eq_true.1 hb _ hm)
    have hs : a0.size = a0.data.toList.length := by rw [Array.length_toList]; rfl
    unfold reachBytes at hq
    omega
  clear hA0 hval0
  refine (walk_NumeralReads z0 W (kw_of hsh hL (by kernel_rfl))).mono fun e W' ⟨he, bel⟩ => ?_
  subst he
  exact ⟨_, rfl, _, _, _, [], _, [], hW', trodAll_mk1 (shut_bool Tryz.underlying4 _), (trodAll_cons_mk (Below.trod row_laid (by kernel_rfl) (of_decide_eq_true (by kernel_rfl)) h0 bel lt0) trodAll_mk0), rfl, bel.frame _, fun h => by cases h⟩

theorem over_NumeralReads : Rows.numeralReadsRow.holds Tryz.pinned (OpenSpec.ofChange Rows.numeralReadsSpec) :=
  OpenClaim.holds_of_wide 3 Tryz.f3 rfl rfl rfl rfl rfl rfl rfl ⟨rfl, rfl, rfl, rfl, rfl⟩ rfl rfl rfl rfl rfl (by kernel_rfl) Tryz.func3 (by kernel_rfl)
    (of_decide_eq_true (by kernel_rfl)) (by unfold Func.isWrapper; first | (rw [if_pos (by decide +kernel)]; kernel_rfl) | (rw [if_neg (by decide +kernel)]; exact ⟨rfl, rfl⟩))
    (fun os started H enc _ => lifted_NumeralReads os started H enc)

theorem holds_NumeralReads : Rows.NumeralReadsCardSaid :=
  Claim7.holds_tied_plain_at .later [] [.data, .data, .data, .data, .sentinel, .sentinel, .pinned] true Rows.numeralReadsCard.stood.harness true
    over_NumeralReads (fun _ h => by cases h) (by kernel_rfl) (fun _ h => by cases h) numeralReads_row_tie rfl ⟨rfl, rfl⟩ (by kernel_rfl) rfl
    (fun f fn hf hfn => by
      obtain rfl : f = 3 := Option.some.inj ((show Tryz.prog.funcNamed "casuist/casuistlaw05.NumeralReads" = some 3 by kernel_rfl).symm.trans hf) |>.symm
      obtain rfl : fn = Tryz.f3 := (Option.some.inj (Tryz.func3.symm.trans hfn)).symm
      exact ⟨by kernel_rfl, fun j t ht => by
        rw [Tryz.params3] at ht
        rcases j with _ | j
        · obtain rfl : 9 = t := by simpa using ht
          exact (show Tryz.prog.wantsStandIn 9 = false by kernel_rfl)
        · simp at ht⟩)
    (by kernel_rfl)
#print axioms holds_NumeralReads

end Go.Proofs.YtbabmopplnbmdaaGreatDoor
