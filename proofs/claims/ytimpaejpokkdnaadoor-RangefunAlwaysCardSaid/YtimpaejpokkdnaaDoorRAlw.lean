/-
  RangefunAlways: for every input, without condition; the tied card.
-/
import Derived.Test.YtimpaejpokkdnaaDoorAlwL
import Derived.Test.YtimpaejpokkdnaaDoorOpenS
import Derived.Test.YtimpaejpokkdnaaDoorTie
import Derived.Test.YtimpaejpokkdnaaDoorCards
import Derived.SevenTiedAt
namespace Go.Proofs.YtimpaejpokkdnaaDoor
open Go.ChangeShapes Go.WideShapes Go.ChangeAt Go.RowKit
set_option linter.unusedVariables false
set_option maxRecDepth 100000

theorem walk_RangefunAlways {a0 b0 : Int} (u0 : -32768 ≤ a0 ∧ a0 ≤ 32767) (w0 : -32768 ≤ b0 ∧ b0 ≤ 32767) (g0 k0 t0 : Bool) {a1 b1 : Int} (u1 : -32768 ≤ a1 ∧ a1 ≤ 32767) (w1 : -32768 ≤ b1 ∧ b1 ≤ 32767) (g1 k1 t1 : Bool) (w : World) :
    Calls Tryd.prog 4 #[.agg #[.int .i16 a0, .int .i16 b0, .bool g0, .bool k0, .bool t0], .agg #[.int .i16 a1, .int .i16 b1, .bool g1, .bool k1, .bool t1]] w fun e w' => e = .returned (.bool true) ∧ Below w.heap.size w w' := by
  exact (c_Always (p0 := g0) (p1 := k0) (pa := t0) (q0 := g1) (q1 := k1) (pb := t1) u0 w0 u1 w1).walk (vs := [.agg #[.int .i16 a0, .int .i16 b0, .bool g0, .bool k0, .bool t0], .agg #[.int .i16 a1, .int .i16 b1, .bool g1, .bool k1, .bool t1]]) rfl w

set_option maxRecDepth 100000 in
theorem lifted_RangefunAlways (os : Os) (started : os.Started) (H : Type) (enc : TypeId × Value → H) :
    ReturnsInHanded {} Tryd.checked os 4 .any (fun w args => (Rows.rangefunAlwaysSpec.pre enc Tryd.prog Tryd.f4 Rows.rangefunAlwaysRow.domain false w args ∧ laidMetH Tryd.prog Rows.rangefunAlwaysRow.laid w) ∧ sizedMet enc Tryd.prog Tryd.f4 (OpenSpec.ofChange Rows.rangefunAlwaysSpec) false w args) (Rows.rangefunAlwaysSpec.post enc Tryd.prog Tryd.f4 false true false false) := by
  refine returnsInHanded_of_change_and (C := Tryd.checked) (X := fun w _ => laidMetH Tryd.prog Rows.rangefunAlwaysRow.laid w) (fun _ _ _ hh h => h.of_heap hh) row_own started (by kernel_rfl) Tryd.func4
    (ChangeSpec.witness_shaped (enc := enc) (C := Tryd.checked) (os := os) (X := fun w _ => laidMetH Tryd.prog Rows.rangefunAlwaysRow.laid w) false (World.laidAll Tryd.prog os Rows.rangefunAlwaysRow.laid) #[.agg #[.int .i16 0, .int .i16 0, .bool false, .bool false, .bool false], .agg #[.int .i16 0, .int .i16 0, .bool false, .bool false, .bool false]] 8 (World.laidAll_os _ _ _)
      (World.shaped_of_ZipB (by kernel_rfl) (by kernel_rfl)) (by kernel_rfl) (by kernel_rfl) (by kernel_rfl)
      (by rw [MakeChecks.laidMetH_plain _ _ _ (by kernel_rfl)]; exact laidMet_laidAll _ (by kernel_rfl) (by kernel_rfl))) ?_
  intro W base args ds gs before hval0 hW hcnd _ hL _
  have hval : ∀ (j : Nat) t v, Tryd.f4.params[j]? = some t → args[j]? = some v → Value.okWide Tryd.prog W .any base t v := hval0
  have hW' := hW
  obtain ⟨p, q, hA0, hV, rfl, hfz, hnd⟩ := hW
  have hA : DataW.TrodAll enc Tryd.prog W 0 (fun _ => true) true Tryd.f4.params.toList args.toList ds p := hA0
  rw [Tryd.params4] at hA hval
  obtain ⟨v0, vs0, d0, ds0, p0, q0, hargs, rfl, rfl, h0, r0⟩ := trodAll_cons hA
  obtain ⟨v1, vs1, d1, ds1, p1, q1, rfl, rfl, rfl, h1, r1⟩ := trodAll_cons r0
  obtain ⟨rfl, rfl, rfl⟩ := trodAll_nil r1
  obtain rfl : args = #[v0, v1] := by cases args; simp_all
  obtain ⟨rfl, rfl⟩ := trodVars_none hV
  have lt0 : ∀ x ∈ p0, x.block < W.heap.size := by obtain ⟨m, hm⟩ := h0; exact DataW.trod_lt m _ _ _ hm
  obtain ⟨a0, b0, g0, k0, t0, rfl, u0, w0⟩ := open_Span (hval 0 25 v0 rfl rfl) h0
  have lt1 : ∀ x ∈ p1, x.block < W.heap.size := by obtain ⟨m, hm⟩ := h1; exact DataW.trod_lt m _ _ _ hm
  obtain ⟨a1, b1, g1, k1, t1, rfl, u1, w1⟩ := open_Span (hval 1 25 v1 rfl rfl) h1
  clear hA0 hval0
  refine (walk_RangefunAlways u0 w0 g0 k0 t0 u1 w1 g1 k1 t1 W).mono fun e W' ⟨he, bel⟩ => ?_
  subst he
  exact ⟨_, rfl, _, _, _, [], _, [], hW', trodAll_mk1 (shut_bool Tryd.underlying4 _), (trodAll_cons_mk (Below.trod row_laid (by kernel_rfl) (of_decide_eq_true (by kernel_rfl)) h0 bel lt0) (trodAll_cons_mk (Below.trod row_laid (by kernel_rfl) (of_decide_eq_true (by kernel_rfl)) h1 bel lt1) trodAll_mk0)), rfl, bel.frame _, fun h => by cases h⟩

theorem over_RangefunAlways : Rows.rangefunAlwaysRow.holds Tryd.pinned (OpenSpec.ofChange Rows.rangefunAlwaysSpec) :=
  OpenClaim.holds_of_wide 4 Tryd.f4 rfl rfl rfl rfl rfl rfl rfl ⟨rfl, rfl, rfl, rfl, rfl⟩ rfl rfl rfl rfl rfl (by kernel_rfl) Tryd.func4 (by kernel_rfl)
    (of_decide_eq_true (by kernel_rfl)) (by unfold Func.isWrapper; first | (rw [if_pos (by decide +kernel)]; kernel_rfl) | (rw [if_neg (by decide +kernel)]; exact ⟨rfl, rfl⟩))
    (fun os started H enc _ => lifted_RangefunAlways os started H enc)

theorem holds_RangefunAlways : Rows.RangefunAlwaysCardSaid :=
  Claim7.holds_tied_plain_at .later [] [.data, .pinned] true Rows.rangefunAlwaysCard.stood.harness true
    over_RangefunAlways (fun _ h => by cases h) (by kernel_rfl) (fun _ h => by cases h) rangefunAlways_row_tie rfl ⟨rfl, rfl⟩ (by kernel_rfl) rfl
    (fun f fn hf hfn => by
      obtain rfl : f = 4 := Option.some.inj ((show Tryd.prog.funcNamed "casuist/casuistlaw23.RangefunAlways" = some 4 by kernel_rfl).symm.trans hf) |>.symm
      obtain rfl : fn = Tryd.f4 := (Option.some.inj (Tryd.func4.symm.trans hfn)).symm
      exact ⟨by kernel_rfl, fun j t ht => by
        rw [Tryd.params4] at ht
        rcases j with _ | _ | j
        · obtain rfl : 25 = t := by simpa using ht
          exact (show Tryd.prog.wantsStandIn 25 = false by kernel_rfl)
        · obtain rfl : 25 = t := by simpa using ht
          exact (show Tryd.prog.wantsStandIn 25 = false by kernel_rfl)
        · simp at ht⟩)
    (by kernel_rfl)
#print axioms holds_RangefunAlways

end Go.Proofs.YtimpaejpokkdnaaDoor
