/-
  LexicalOrder: for every input, without condition; the tied card.
-/
import Derived.Test.YtjpaedjhihiakaaDoorLexF
import Derived.Test.YtjpaedjhihiakaaDoorOpenL
import Derived.Test.YtjpaedjhihiakaaDoorKw
import Derived.Test.YtjpaedjhihiakaaDoorTie
import Derived.Test.YtjpaedjhihiakaaDoorCards
import Derived.SevenTiedAt
namespace Go.Proofs.YtjpaedjhihiakaaDoor
open Go.ChangeShapes Go.WideShapes Go.ChangeAt Go.RowKit
open Go.ChangeMaps (open_string shut_string)
set_option linter.unusedVariables false
set_option maxRecDepth 100000

theorem walk_LexicalOrder {n0 n3 : Nat} {a1 a2 a4 a5 : Int} (u0 : n0 < 65536) (u1 : -9223372036854775808 ≤ a1) (t1 : a1 ≤ 9223372036854775807) (u2 : -9223372036854775808 ≤ a2) (t2 : a2 ≤ 9223372036854775807) (u3 : n3 < 65536) (u4 : -9223372036854775808 ≤ a4) (t4 : a4 ≤ 9223372036854775807) (u5 : -9223372036854775808 ≤ a5) (t5 : a5 ≤ 9223372036854775807) (w : World) (hk : Kw w) :
    Calls Tryd.prog 6 #[.int .u16 (n0 : Int), .int .i64 a1, .int .i64 a2, .int .u16 (n3 : Int), .int .i64 a4, .int .i64 a5] w fun e w' => e = .returned (.bool true) ∧ Below w.heap.size w w' :=
  (c_LexicalOrder (y := n0) (v := n3) (m := a1) (d := a2) (u := a4) (w := a5) u0 u3).walk (vs := [.int .u16 (n0 : Int), .int .i64 a1, .int .i64 a2, .int .u16 (n3 : Int), .int .i64 a4, .int .i64 a5]) rfl w hk

set_option maxRecDepth 100000 in
theorem lifted_LexicalOrder (os : Os) (started : os.Started) (H : Type) (enc : TypeId × Value → H) :
    ReturnsInHanded {} Tryd.checked os 6 .any (fun w args => (Rows.lexicalOrderSpec.pre enc Tryd.prog Tryd.f6 Rows.lexicalOrderRow.domain false w args ∧ laidMetH Tryd.prog Rows.lexicalOrderRow.laid w) ∧ sizedMet enc Tryd.prog Tryd.f6 (OpenSpec.ofChange Rows.lexicalOrderSpec) false w args) (Rows.lexicalOrderSpec.post enc Tryd.prog Tryd.f6 false true false false) := by
  refine returnsK (C := Tryd.checked) (X := fun w _ => laidMetH Tryd.prog Rows.lexicalOrderRow.laid w) (fun _ _ _ hh h => h.of_heap hh) row_own started (by kernel_rfl) Tryd.func6
    (ChangeSpec.witness_shaped (enc := enc) (C := Tryd.checked) (os := os) (X := fun w _ => laidMetH Tryd.prog Rows.lexicalOrderRow.laid w) false (World.laidAll Tryd.prog os Rows.lexicalOrderRow.laid) #[.int .u16 0, .int .i64 0, .int .i64 0, .int .u16 0, .int .i64 0, .int .i64 0] 8 (World.laidAll_os _ _ _)
      (World.shaped_of_ZipB (by kernel_rfl) (by kernel_rfl)) (by kernel_rfl) (by kernel_rfl) (by kernel_rfl)
      (by rw [MakeChecks.laidMetH_plain _ _ _ (by kernel_rfl)]; exact laidMet_laidAll _ (by kernel_rfl) (by kernel_rfl))) ?_
  intro W hsh base args ds gs before hval0 hW hcnd hWt hL _
  have hval : ∀ (j : Nat) t v, Tryd.f6.params[j]? = some t → args[j]? = some v → Value.okWide Tryd.prog W .any base t v := hval0
  have hW' := hW
  obtain ⟨p, q, hA0, hV, rfl, hfz, hnd⟩ := hW
  have hA : DataW.TrodAll enc Tryd.prog W 0 (fun _ => true) true Tryd.f6.params.toList args.toList ds p := hA0
  rw [Tryd.params6] at hA hval
  obtain ⟨v0, vs0, d0, ds0, p0, q0, hargs, rfl, rfl, h0, r0⟩ := trodAll_cons hA
  obtain ⟨v1, vs1, d1, ds1, p1, q1, rfl, rfl, rfl, h1, r1⟩ := trodAll_cons r0
  obtain ⟨v2, vs2, d2, ds2, p2, q2, rfl, rfl, rfl, h2, r2⟩ := trodAll_cons r1
  obtain ⟨v3, vs3, d3, ds3, p3, q3, rfl, rfl, rfl, h3, r3⟩ := trodAll_cons r2
  obtain ⟨v4, vs4, d4, ds4, p4, q4, rfl, rfl, rfl, h4, r4⟩ := trodAll_cons r3
  obtain ⟨v5, vs5, d5, ds5, p5, q5, rfl, rfl, rfl, h5, r5⟩ := trodAll_cons r4
  obtain ⟨rfl, rfl, rfl⟩ := trodAll_nil r5
  obtain rfl : args = #[v0, v1, v2, v3, v4, v5] := by cases args; simp_all
  obtain ⟨rfl, rfl⟩ := trodVars_none hV
  have lt0 : ∀ x ∈ p0, x.block < W.heap.size := by obtain ⟨m, hm⟩ := h0; exact DataW.trod_lt m _ _ _ hm
  obtain ⟨n0, rfl, u0⟩ := open_u16 (hval 0 44 v0 rfl rfl)
  have lt1 : ∀ x ∈ p1, x.block < W.heap.size := by obtain ⟨m, hm⟩ := h1; exact DataW.trod_lt m _ _ _ hm
  obtain ⟨a1, rfl, u1, t1⟩ := open_I (hval 1 3 v1 rfl rfl) h1
  have lt2 : ∀ x ∈ p2, x.block < W.heap.size := by obtain ⟨m, hm⟩ := h2; exact DataW.trod_lt m _ _ _ hm
  obtain ⟨a2, rfl, u2, t2⟩ := open_I (hval 2 3 v2 rfl rfl) h2
  have lt3 : ∀ x ∈ p3, x.block < W.heap.size := by obtain ⟨m, hm⟩ := h3; exact DataW.trod_lt m _ _ _ hm
  obtain ⟨n3, rfl, u3⟩ := open_u16 (hval 3 44 v3 rfl rfl)
  have lt4 : ∀ x ∈ p4, x.block < W.heap.size := by obtain ⟨m, hm⟩ := h4; exact DataW.trod_lt m _ _ _ hm
  obtain ⟨a4, rfl, u4, t4⟩ := open_I (hval 4 3 v4 rfl rfl) h4
  have lt5 : ∀ x ∈ p5, x.block < W.heap.size := by obtain ⟨m, hm⟩ := h5; exact DataW.trod_lt m _ _ _ hm
  obtain ⟨a5, rfl, u5, t5⟩ := open_I (hval 5 3 v5 rfl rfl) h5
  clear hA0 hval0
  refine (walk_LexicalOrder u0 u1 t1 u2 t2 u3 u4 t4 u5 t5 W (kw_of hsh hL (by kernel_rfl))).mono fun e W' ⟨he, bel⟩ => ?_
  subst he
  exact ⟨_, rfl, _, _, _, [], _, [], hW', trodAll_mk1 (shut_bool Tryd.underlying4 _), (trodAll_cons_mk (Below.trod row_laid (by kernel_rfl) (of_decide_eq_true (by kernel_rfl)) h0 bel lt0) (trodAll_cons_mk (Below.trod row_laid (by kernel_rfl) (of_decide_eq_true (by kernel_rfl)) h1 bel lt1) (trodAll_cons_mk (Below.trod row_laid (by kernel_rfl) (of_decide_eq_true (by kernel_rfl)) h2 bel lt2) (trodAll_cons_mk (Below.trod row_laid (by kernel_rfl) (of_decide_eq_true (by kernel_rfl)) h3 bel lt3) (trodAll_cons_mk (Below.trod row_laid (by kernel_rfl) (of_decide_eq_true (by kernel_rfl)) h4 bel lt4) (trodAll_cons_mk (Below.trod row_laid (by kernel_rfl) (of_decide_eq_true (by kernel_rfl)) h5 bel lt5) trodAll_mk0)))))), rfl, bel.frame _, fun h => by cases h⟩

theorem over_LexicalOrder : Rows.lexicalOrderRow.holds Tryd.pinned (OpenSpec.ofChange Rows.lexicalOrderSpec) :=
  OpenClaim.holds_of_wide 6 Tryd.f6 rfl rfl rfl rfl rfl rfl rfl ⟨rfl, rfl, rfl, rfl, rfl⟩ rfl rfl rfl rfl rfl (by kernel_rfl) Tryd.func6 (by kernel_rfl)
    (of_decide_eq_true (by kernel_rfl)) (by unfold Func.isWrapper; first | (rw [if_pos (by decide +kernel)]; kernel_rfl) | (rw [if_neg (by decide +kernel)]; exact ⟨rfl, rfl⟩))
    (fun os started H enc _ => lifted_LexicalOrder os started H enc)

theorem holds_LexicalOrder : Rows.LexicalOrderCardSaid :=
  Claim7.holds_tied_plain_at .later [] [.data, .data, .data] true Rows.lexicalOrderCard.stood.harness true
    over_LexicalOrder (fun _ h => by cases h) (by kernel_rfl) (fun _ h => by cases h) lexicalOrder_row_tie rfl ⟨rfl, rfl⟩ (by kernel_rfl) rfl
    (fun f fn hf hfn => by
      obtain rfl : f = 6 := Option.some.inj ((show Tryd.prog.funcNamed "casuist/casuistlaw09.LexicalOrder" = some 6 by kernel_rfl).symm.trans hf) |>.symm
      obtain rfl : fn = Tryd.f6 := (Option.some.inj (Tryd.func6.symm.trans hfn)).symm
      exact ⟨by kernel_rfl, fun j t ht => by
        rw [Tryd.params6] at ht
        rcases j with _ | _ | _ | _ | _ | _ | j
        · obtain rfl : 44 = t := by simpa using ht
          exact (show Tryd.prog.wantsStandIn 44 = false by kernel_rfl)
        · obtain rfl : 3 = t := by simpa using ht
          exact (show Tryd.prog.wantsStandIn 3 = false by kernel_rfl)
        · obtain rfl : 3 = t := by simpa using ht
          exact (show Tryd.prog.wantsStandIn 3 = false by kernel_rfl)
        · obtain rfl : 44 = t := by simpa using ht
          exact (show Tryd.prog.wantsStandIn 44 = false by kernel_rfl)
        · obtain rfl : 3 = t := by simpa using ht
          exact (show Tryd.prog.wantsStandIn 3 = false by kernel_rfl)
        · obtain rfl : 3 = t := by simpa using ht
          exact (show Tryd.prog.wantsStandIn 3 = false by kernel_rfl)
        · simp at ht⟩)
    (by kernel_rfl)
#print axioms holds_LexicalOrder

end Go.Proofs.YtjpaedjhihiakaaDoor
