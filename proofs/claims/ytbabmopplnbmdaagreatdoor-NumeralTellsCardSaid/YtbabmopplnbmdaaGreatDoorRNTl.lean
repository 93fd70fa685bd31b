/-
  NumeralTells: for every input, without condition; the tied card.
-/
import Derived.Test.YtbabmopplnbmdaaGreatDoorNrX
import Derived.Test.YtbabmopplnbmdaaGreatDoorOpK
import Derived.Test.YtbabmopplnbmdaaGreatDoorTie
import Derived.Test.YtbabmopplnbmdaaGreatDoorCards
import Derived.SevenTiedAt
namespace Go.Proofs.YtbabmopplnbmdaaGreatDoor
open Go.ChangeShapes Go.WideShapes Go.ChangeAt Go.RowKit
open Go.ChangeMaps (open_string shut_string)
set_option linter.unusedVariables false
set_option maxRecDepth 100000

theorem walk_NumeralTells {g0 : Bool} {p0 q0 e0 : Int} {n0 : Nat} (u0 : IsU p0 q0 n0) (t0 : -9223372036854775808 ≤ e0) (s0 : e0 ≤ 9223372036854775807) (w : World) (hk : Kw w) :
    Calls Tryz.prog 4 #[.agg #[.bool g0, .int .u64 p0, .int .u64 q0, .int .i64 e0]] w fun e w' => e = .returned (.bool true) ∧ Below w.heap.size w w' := by
  have l0 := u0.lt
  obtain ⟨rfl, rfl⟩ := u0.hl
  exact (c_NumeralTells (g1 := g0) (e1 := e0) l0).walk (vs := [.agg #[.bool g0, .int .u64 (hiW n0), .int .u64 (loW n0), .int .i64 e0]]) rfl w hk

set_option maxRecDepth 100000 in
theorem lifted_NumeralTells (os : Os) (started : os.Started) (H : Type) (enc : TypeId × Value → H) :
    ReturnsInHanded {} Tryz.checked os 4 .any (fun w args => (Rows.numeralTellsSpec.pre enc Tryz.prog Tryz.f4 Rows.numeralTellsRow.domain false w args ∧ laidMetH Tryz.prog Rows.numeralTellsRow.laid w) ∧ sizedMet enc Tryz.prog Tryz.f4 (OpenSpec.ofChange Rows.numeralTellsSpec) false w args) (Rows.numeralTellsSpec.post enc Tryz.prog Tryz.f4 false true false false) := by
  refine returnsK (C := Tryz.checked) (X := fun w _ => laidMetH Tryz.prog Rows.numeralTellsRow.laid w) (fun _ _ _ hh h => h.of_heap hh) row_own started (by kernel_rfl) Tryz.func4
    (ChangeSpec.witness_shaped (enc := enc) (C := Tryz.checked) (os := os) (X := fun w _ => laidMetH Tryz.prog Rows.numeralTellsRow.laid w) false (World.laidAll Tryz.prog os Rows.numeralTellsRow.laid) #[.agg #[.bool false, .int .u64 0, .int .u64 0, .int .i64 0]] 8 (World.laidAll_os _ _ _)
      (World.shaped_of_ZipB (by kernel_rfl) (by kernel_rfl)) (by kernel_rfl) (by kernel_rfl) (by kernel_rfl)
      (by rw [MakeChecks.laidMetH_plain _ _ _ (by kernel_rfl)]; exact laidMet_laidAll _ (by kernel_rfl) (by kernel_rfl))) ?_
  intro W hsh base args ds gs before hval0 hW hcnd hWt hL _
  have hval : ∀ (j : Nat) t v, Tryz.f4.params[j]? = some t → args[j]? = some v → Value.okWide Tryz.prog W .any base t v := hval0
  have hW' := hW
  obtain ⟨p, q, hA0, hV, rfl, hfz, hnd⟩ := hW
  have hA : DataW.TrodAll enc Tryz.prog W 0 (fun _ => true) true Tryz.f4.params.toList args.toList ds p := hA0
  rw [Tryz.params4] at hA hval
  obtain ⟨v0, vs0, d0, ds0, p0, q0, hargs, rfl, rfl, h0, r0⟩ := trodAll_cons hA
  obtain ⟨rfl, rfl, rfl⟩ := trodAll_nil r0
  obtain rfl : args = #[v0] := by cases args; simp_all
  obtain ⟨rfl, rfl⟩ := trodVars_none hV
  have lt0 : ∀ x ∈ p0, x.block < W.heap.size := by obtain ⟨m, hm⟩ := h0; exact DataW.trod_lt m _ _ _ hm
  obtain ⟨g0, a0, b0, e0, n0, rfl, u0, t0, s0⟩ := open_Raw (hval 0 40 v0 rfl rfl) h0
  clear hA0 hval0
  refine (walk_NumeralTells (g0 := g0) u0 t0 s0 W (kw_of hsh hL (by kernel_rfl))).mono fun e W' ⟨he, bel⟩ => ?_
  subst he
  exact ⟨_, rfl, _, _, _, [], _, [], hW', trodAll_mk1 (shut_bool Tryz.underlying4 _), (trodAll_cons_mk (Below.trod row_laid (by kernel_rfl) (of_decide_eq_true (by kernel_rfl)) h0 bel lt0) trodAll_mk0), rfl, bel.frame _, fun h => by cases h⟩

theorem over_NumeralTells : Rows.numeralTellsRow.holds Tryz.pinned (OpenSpec.ofChange Rows.numeralTellsSpec) :=
  OpenClaim.holds_of_wide 4 Tryz.f4 rfl rfl rfl rfl rfl rfl rfl ⟨rfl, rfl, rfl, rfl, rfl⟩ rfl rfl rfl rfl rfl (by kernel_rfl) Tryz.func4 (by kernel_rfl)
    (of_decide_eq_true (by kernel_rfl)) (by unfold Func.isWrapper; first | (rw [if_pos (by decide +kernel)]; kernel_rfl) | (rw [if_neg (by decide +kernel)]; exact ⟨rfl, rfl⟩))
    (fun os started H enc _ => lifted_NumeralTells os started H enc)

theorem holds_NumeralTells : Rows.NumeralTellsCardSaid :=
  Claim7.holds_tied_plain_at .later [] [.data, .data, .data, .data, .sentinel, .sentinel, .pinned] true Rows.numeralTellsCard.stood.harness true
    over_NumeralTells (fun _ h => by cases h) (by kernel_rfl) (fun _ h => by cases h) numeralTells_row_tie rfl ⟨rfl, rfl⟩ (by kernel_rfl) rfl
    (fun f fn hf hfn => by
      obtain rfl : f = 4 := Option.some.inj ((show Tryz.prog.funcNamed "casuist/casuistlaw05.NumeralTells" = some 4 by kernel_rfl).symm.trans hf) |>.symm
      obtain rfl : fn = Tryz.f4 := (Option.some.inj (Tryz.func4.symm.trans hfn)).symm
      exact ⟨by kernel_rfl, fun j t ht => by
        rw [Tryz.params4] at ht
        rcases j with _ | j
        · obtain rfl : 40 = t := by simpa using ht
          exact (show Tryz.prog.wantsStandIn 40 = false by kernel_rfl)
        · simp at ht⟩)
    (by kernel_rfl)
#print axioms holds_NumeralTells

end Go.Proofs.YtbabmopplnbmdaaGreatDoor
