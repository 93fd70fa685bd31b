/-
  NumeralOne: for every input, without condition; the tied card.
-/
import Derived.Test.YtjpaedjhihiakaaDoorNrC
import Derived.Test.YtjpaedjhihiakaaDoorOpenL
import Derived.Test.YtjpaedjhihiakaaDoorKwE
import Derived.Test.YtjpaedjhihiakaaDoorTie
import Derived.Test.YtjpaedjhihiakaaDoorCards
import Derived.SevenTiedAt
import Derived.Test.YtjpaedjhihiakaaDoorOpen2
namespace Go.Proofs.YtjpaedjhihiakaaDoor
open Go.ChangeShapes Go.WideShapes Go.ChangeAt Go.RowKit
open Go.ChangeMaps (open_string shut_string)
set_option linter.unusedVariables false
set_option maxRecDepth 100000

theorem walk_NumeralOne {g0 : Bool} {p0 q0 e0 : Int} {n0 : Nat} (u0 : IsU p0 q0 n0) (t0 : -9223372036854775808 ≤ e0) (s0 : e0 ≤ 9223372036854775807) {g1 : Bool} {p1 q1 e1 : Int} {n1 : Nat} (u1 : IsU p1 q1 n1) (t1 : -9223372036854775808 ≤ e1) (s1 : e1 ≤ 9223372036854775807) (w : World) (hk : Kw w) :
    Calls Tryd.prog 9 #[.agg #[.bool g0, .int .u64 p0, .int .u64 q0, .int .i64 e0], .agg #[.bool g1, .int .u64 p1, .int .u64 q1, .int .i64 e1]] w fun e w' => e = .returned (.bool true) ∧ Below w.heap.size w w' := by
  have l0 := u0.lt
  obtain ⟨rfl, rfl⟩ := u0.hl
  have l1 := u1.lt
  obtain ⟨rfl, rfl⟩ := u1.hl
  exact (c_NumeralOne (g1 := g0) (g2 := g1) (e1 := e0) (e2 := e1) l0 l1).walk (vs := [.agg #[.bool g0, .int .u64 (hiW n0), .int .u64 (loW n0), .int .i64 e0], .agg #[.bool g1, .int .u64 (hiW n1), .int .u64 (loW n1), .int .i64 e1]]) rfl w hk

set_option maxRecDepth 100000 in
theorem lifted_NumeralOne (os : Os) (started : os.Started) (H : Type) (enc : TypeId × Value → H) :
    ReturnsInHanded {} Tryd.checked os 9 .any (fun w args => (Rows.numeralOneSpec.pre enc Tryd.prog Tryd.f9 Rows.numeralOneRow.domain false w args ∧ laidMetH Tryd.prog Rows.numeralOneRow.laid w) ∧ sizedMet enc Tryd.prog Tryd.f9 (OpenSpec.ofChange Rows.numeralOneSpec) false w args) (Rows.numeralOneSpec.post enc Tryd.prog Tryd.f9 false true false false) := by
  refine returnsK (C := Tryd.checked) (X := fun w _ => laidMetH Tryd.prog Rows.numeralOneRow.laid w) (fun _ _ _ hh h => h.of_heap hh) row_own started (by kernel_rfl) Tryd.func9
    (ChangeSpec.witness_shaped (enc := enc) (C := Tryd.checked) (os := os) (X := fun w _ => laidMetH Tryd.prog Rows.numeralOneRow.laid w) false (World.laidAll Tryd.prog os Rows.numeralOneRow.laid) #[.agg #[.bool false, .int .u64 0, .int .u64 0, .int .i64 0], .agg #[.bool false, .int .u64 0, .int .u64 0, .int .i64 0]] 8 (World.laidAll_os _ _ _)
      (World.shaped_of_ZipB (by kernel_rfl) (by kernel_rfl)) (by kernel_rfl) (by kernel_rfl) (by kernel_rfl)
      (by rw [MakeChecks.laidMetH_plain _ _ _ (by kernel_rfl)]; exact laidMet_laidAll _ (by kernel_rfl) (by kernel_rfl))) ?_
  intro W hsh base args ds gs before hval0 hW hcnd hWt hL _
  have hval : ∀ (j : Nat) t v, Tryd.f9.params[j]? = some t → args[j]? = some v → Value.okWide Tryd.prog W .any base t v := hval0
  have hW' := hW
  obtain ⟨p, q, hA0, hV, rfl, hfz, hnd⟩ := hW
  have hA : DataW.TrodAll enc Tryd.prog W 0 (fun _ => true) true Tryd.f9.params.toList args.toList ds p := hA0
  rw [Tryd.params9] at hA hval
  obtain ⟨v0, vs0, d0, ds0, p0, q0, hargs, rfl, rfl, h0, r0⟩ := trodAll_cons hA
  obtain ⟨v1, vs1, d1, ds1, p1, q1, rfl, rfl, rfl, h1, r1⟩ := trodAll_cons r0
  obtain ⟨rfl, rfl, rfl⟩ := trodAll_nil r1
  obtain rfl : args = #[v0, v1] := by cases args; simp_all
  obtain ⟨rfl, rfl⟩ := trodVars_none hV
  have lt0 : ∀ x ∈ p0, x.block < W.heap.size := by obtain ⟨m, hm⟩ := h0; exact DataW.trod_lt m _ _ _ hm
  obtain ⟨g0, a0, b0, e0, n0, rfl, u0, t0, s0⟩ := open_Raw (hval 0 63 v0 rfl rfl) h0
  have lt1 : ∀ x ∈ p1, x.block < W.heap.size := by obtain ⟨m, hm⟩ := h1; exact DataW.trod_lt m _ _ _ hm
  obtain ⟨g1, a1, b1, e1, n1, rfl, u1, t1, s1⟩ := open_Raw (hval 1 63 v1 rfl rfl) h1
  clear hA0 hval0
  refine (walk_NumeralOne (g0 := g0) u0 t0 s0 (g1 := g1) u1 t1 s1 W (kw_of hsh hL (by kernel_rfl))).mono fun e W' ⟨he, bel⟩ => ?_
  subst he
  exact ⟨_, rfl, _, _, _, [], _, [], hW', trodAll_mk1 (shut_bool Tryd.underlying4 _), (trodAll_cons_mk (Below.trod row_laid (by kernel_rfl) (of_decide_eq_true (by kernel_rfl)) h0 bel lt0) (trodAll_cons_mk (Below.trod row_laid (by kernel_rfl) (of_decide_eq_true (by kernel_rfl)) h1 bel lt1) trodAll_mk0)), rfl, bel.frame _, fun h => by cases h⟩

theorem over_NumeralOne : Rows.numeralOneRow.holds Tryd.pinned (OpenSpec.ofChange Rows.numeralOneSpec) :=
  OpenClaim.holds_of_wide 9 Tryd.f9 rfl rfl rfl rfl rfl rfl rfl ⟨rfl, rfl, rfl, rfl, rfl⟩ rfl rfl rfl rfl rfl (by kernel_rfl) Tryd.func9 (by kernel_rfl)
    (of_decide_eq_true (by kernel_rfl)) (by unfold Func.isWrapper; first | (rw [if_pos (by decide +kernel)]; kernel_rfl) | (rw [if_neg (by decide +kernel)]; exact ⟨rfl, rfl⟩))
    (fun os started H enc _ => lifted_NumeralOne os started H enc)

theorem holds_NumeralOne : Rows.NumeralOneCardSaid :=
  Claim7.holds_tied_plain_at .later [] [.data, .data, .data, .data, .sentinel, .sentinel, .pinned] true Rows.numeralOneCard.stood.harness true
    over_NumeralOne (fun _ h => by cases h) (by kernel_rfl) (fun _ h => by cases h) numeralOne_row_tie rfl ⟨rfl, rfl⟩ (by kernel_rfl) rfl
    (fun f fn hf hfn => by
      obtain rfl : f = 9 := Option.some.inj ((show Tryd.prog.funcNamed "casuist/casuistlaw05.NumeralOne" = some 9 by kernel_rfl).symm.trans hf) |>.symm
      obtain rfl : fn = Tryd.f9 := (Option.some.inj (Tryd.func9.symm.trans hfn)).symm
      exact ⟨by kernel_rfl, fun j t ht => by
        rw [Tryd.params9] at ht
        rcases j with _ | _ | j
        · obtain rfl : 63 = t := by simpa using ht
          exact (show Tryd.prog.wantsStandIn 63 = false by kernel_rfl)
        · obtain rfl : 63 = t := by simpa using ht
          exact (show Tryd.prog.wantsStandIn 63 = false by kernel_rfl)
        · simp at ht⟩)
    (by kernel_rfl)
#print axioms holds_NumeralOne

end Go.Proofs.YtjpaedjhihiakaaDoor
