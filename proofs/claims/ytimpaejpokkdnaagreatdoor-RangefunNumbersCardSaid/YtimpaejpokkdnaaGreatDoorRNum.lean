/-
  RangefunNumbers: for every input, without condition; the tied card.
-/
import Derived.Test.YtimpaejpokkdnaaGreatDoorNumL
import Derived.Test.YtimpaejpokkdnaaGreatDoorOpenS
import Derived.Test.YtimpaejpokkdnaaGreatDoorTie
import Derived.Test.YtimpaejpokkdnaaGreatDoorCards
import Derived.SevenTiedAt
namespace Go.Proofs.YtimpaejpokkdnaaGreatDoor
open Go.ChangeShapes Go.WideShapes Go.ChangeAt Go.RowKit
set_option linter.unusedVariables false
set_option maxRecDepth 100000

theorem walk_RangefunNumbers {a0 b0 : Int} (u0 : -32768 ≤ a0 ∧ a0 ≤ 32767) (w0 : -32768 ≤ b0 ∧ b0 ≤ 32767) (g0 k0 t0 : Bool) {a1 b1 : Int} (u1 : -32768 ≤ a1 ∧ a1 ≤ 32767) (w1 : -32768 ≤ b1 ∧ b1 ≤ 32767) (g1 k1 t1 : Bool) (w : World) :
    Calls Tryz.prog 3 #[.agg #[.int .i16 a0, .int .i16 b0, .bool g0, .bool k0, .bool t0], .agg #[.int .i16 a1, .int .i16 b1, .bool g1, .bool k1, .bool t1]] w fun e w' => e = .returned (.bool true) ∧ Below w.heap.size w w' := by
  exact (c_Numbers (p0 := g0) (p1 := k0) (pa := t0) (q0 := g1) (q1 := k1) (pb := t1) u0 w0 u1 w1).walk (vs := [.agg #[.int .i16 a0, .int .i16 b0, .bool g0, .bool k0, .bool t0], .agg #[.int .i16 a1, .int .i16 b1, .bool g1, .bool k1, .bool t1]]) rfl w

set_option maxRecDepth 100000 in
theorem lifted_RangefunNumbers (os : Os) (started : os.Started) (H : Type) (enc : TypeId × Value → H) :
    ReturnsInHanded {} Tryz.checked os 3 .any (fun w args => (Rows.rangefunNumbersSpec.pre enc Tryz.prog Tryz.f3 Rows.rangefunNumbersRow.domain false w args ∧ laidMetH Tryz.prog Rows.rangefunNumbersRow.laid w) ∧ sizedMet enc Tryz.prog Tryz.f3 (OpenSpec.ofChange Rows.rangefunNumbersSpec) false w args) (Rows.rangefunNumbersSpec.post enc Tryz.prog Tryz.f3 false true false false) := by
  refine returnsInHanded_of_change_and (C := Tryz.checked) (X := fun w _ => laidMetH Tryz.prog Rows.rangefunNumbersRow.laid w) (fun _ _ _ hh h => h.of_heap hh) row_own started (by kernel_rfl) Tryz.func3
    (ChangeSpec.witness_shaped (enc := enc) (C := Tryz.checked) (os := os) (X := fun w _ => laidMetH Tryz.prog Rows.rangefunNumbersRow.laid w) false (World.laidAll Tryz.prog os Rows.rangefunNumbersRow.laid) #[.agg #[.int .i16 0, .int .i16 0, .bool false, .bool false, .bool false], .agg #[.int .i16 0, .int .i16 0, .bool false, .bool false, .bool false]] 8 (World.laidAll_os _ _ _)
      (World.shaped_of_ZipB (by kernel_rfl) (by kernel_rfl)) (by kernel_rfl) (by kernel_rfl) (by kernel_rfl)
      (by rw [MakeChecks.laidMetH_plain _ _ _ (by kernel_rfl)]; exact laidMet_laidAll _ (by kernel_rfl) (by kernel_rfl))) ?_
  intro W base args ds gs before hval0 hW hcnd _ hL _
  have hval : ∀ (j : Nat) t v, Tryz.f3.params[j]? = some t → args[j]? = some v → Value.okWide Tryz.prog W .any base t v := hval0
  have hW' := hW
  obtain ⟨p, q, hA0, hV, rfl, hfz, hnd⟩ := hW
  have hA : DataW.TrodAll enc Tryz.prog W 0 (fun _ => true) true Tryz.f3.params.toList args.toList ds p := hA0
  rw [Tryz.params3] at hA hval
  obtain ⟨v0, vs0, d0, ds0, p0, q0, hargs, rfl, rfl, h0, r0⟩ := trodAll_cons hA
  obtain ⟨v1, vs1, d1, ds1, p1, q1, rfl, rfl, rfl, h1, r1⟩ := trodAll_cons r0
  obtain ⟨rfl, rfl, rfl⟩ := trodAll_nil r1
  obtain rfl : args = #[v0, v1] := by cases args; simp_all
  obtain ⟨rfl, rfl⟩ := trodVars_none hV
  have lt0 : ∀ x ∈ p0, x.block < W.heap.size := by obtain ⟨m, hm⟩ := h0; exact DataW.trod_lt m _ _ _ hm
  obtain ⟨a0, b0, g0, k0, t0, rfl, u0, w0⟩ := open_Span (hval 0 25 v0 rfl rfl) h0
  have lt1 : ∀ x ∈ p1, x.block < W.heap.size := by obtain ⟨m, hm⟩ := h1; exact DataW.trod_lt m _ _ _ hm
  obtain ⟨a1, b1, g1, k1, t1, rfl, u1, w1⟩ := open_Span (hval 1 25 v1 rfl rfl) h1
  clear hA0 hval0
  refine (walk_RangefunNumbers u0 w0 g0 k0 t0 u1 w1 g1 k1 t1 W).mono fun e W' ⟨he, bel⟩ => ?_
  subst he
  exact ⟨_, rfl, _, _, _, [], _, [], hW', trodAll_mk1 (shut_bool Tryz.underlying4 _), (trodAll_cons_mk (Below.trod row_laid (by kernel_rfl) (of_decide_eq_true (by kernel_rfl)) h0 bel lt0) (trodAll_cons_mk (Below.trod row_laid (by kernel_rfl) (of_decide_eq_true (by kernel_rfl)) h1 bel lt1) trodAll_mk0)), rfl, bel.frame _, fun h => by cases h⟩

theorem over_RangefunNumbers : Rows.rangefunNumbersRow.holds Tryz.pinned (OpenSpec.ofChange Rows.rangefunNumbersSpec) :=
  OpenClaim.holds_of_wide 3 Tryz.f3 rfl rfl rfl rfl rfl rfl rfl ⟨rfl, rfl, rfl, rfl, rfl⟩ rfl rfl rfl rfl rfl (by kernel_rfl) Tryz.func3 (by kernel_rfl)
    (of_decide_eq_true (by kernel_rfl)) (by unfold Func.isWrapper; first | (rw [if_pos (by decide +kernel)]; kernel_rfl) | (rw [if_neg (by decide +kernel)]; exact ⟨rfl, rfl⟩))
    (fun os started H enc _ => lifted_RangefunNumbers os started H enc)

theorem holds_RangefunNumbers : Rows.RangefunNumbersCardSaid :=
  Claim7.holds_tied_plain_at .later [] [.data, .pinned] true Rows.rangefunNumbersCard.stood.harness true
    over_RangefunNumbers (fun _ h => by cases h) (by kernel_rfl) (fun _ h => by cases h) rangefunNumbers_row_tie rfl ⟨rfl, rfl⟩ (by kernel_rfl) rfl
    (fun f fn hf hfn => by
      obtain rfl : f = 3 := Option.some.inj ((show Tryz.prog.funcNamed "casuist/casuistlaw23.RangefunNumbers" = some 3 by kernel_rfl).symm.trans hf) |>.symm
      obtain rfl : fn = Tryz.f3 := (Option.some.inj (Tryz.func3.symm.trans hfn)).symm
      exact ⟨by kernel_rfl, fun j t ht => by
        rw [Tryz.params3] at ht
        rcases j with _ | _ | j
        · obtain rfl : 25 = t := by simpa using ht
          exact (show Tryz.prog.wantsStandIn 25 = false by kernel_rfl)
        · obtain rfl : 25 = t := by simpa using ht
          exact (show Tryz.prog.wantsStandIn 25 = false by kernel_rfl)
        · simp at ht⟩)
    (by kernel_rfl)
#print axioms holds_RangefunNumbers

end Go.Proofs.YtimpaejpokkdnaaGreatDoor
