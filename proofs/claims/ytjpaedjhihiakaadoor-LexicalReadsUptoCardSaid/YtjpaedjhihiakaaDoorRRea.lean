/-
  LexicalReads, of texts of bulk up to the form's bound: the tied card. (Of greater ones Split may ask for more room than there is.)
-/
import Derived.Test.YtjpaedjhihiakaaDoorLexU
import Derived.Test.YtjpaedjhihiakaaDoorOpenL
import Derived.Test.YtjpaedjhihiakaaDoorKw
import Derived.Test.YtjpaedjhihiakaaDoorTie
import Derived.Test.YtjpaedjhihiakaaDoorCards
import Derived.SevenTiedAt
import Derived.Deep.DeepHandedRow
namespace Go.Proofs.YtjpaedjhihiakaaDoor
open Go.ChangeShapes Go.WideShapes Go.ChangeAt Go.RowKit
open Go.ChangeMaps (open_string shut_string)
set_option linter.unusedVariables false
set_option maxRecDepth 100000

theorem walk_LexicalReads {s : ByteArray} (u : s.size ≤ 1048576) (w : World) (hk : Kw w) :
    Calls Tryd.prog 7 #[.string s] w fun e w' => e = .returned (.bool true) ∧ Below w.heap.size w w' := by
  obtain ⟨l, rfl, hl⟩ := tx_all s
  exact (c_LexicalReads (l := l) (by omega)).walk (vs := [.string (tx l)]) rfl w hk

set_option maxRecDepth 100000 in
theorem lifted_LexicalReads (os : Os) (started : os.Started) (H : Type) (enc : TypeId × Value → H) (Fi : Stop.Interp) :
    ReturnsInHanded {} Tryd.checked os 7 .any ((Rows.OpenSpec.upto Rows.lexicalReadsSpec).preRow enc Tryd.prog Tryd.f7 Rows.lexicalReadsUptoRow.domain false Rows.lexicalReadsUptoRow.laid) (((Rows.OpenSpec.upto Rows.lexicalReadsSpec).at Fi).post enc Tryd.prog Tryd.f7 false true false false) := by
  have hw : (DataW.whole enc Tryd.prog ((World.laidAll Tryd.prog os Rows.lexicalReadsUptoRow.laid).forCall (fun _ _ => 0) ⟨#[], #[.string ByteArray.empty], []⟩).memory Tryd.f7.params.toList Rows.lexicalReadsSpec.vars false (#[.string ByteArray.empty] : Array Value).toList 8).map (fun x => (x.1, x.2.1)) =
      some ([.lit (.string [])], []) := by kernel_rfl
  obtain ⟨⟨x1, x2, x3⟩, hx, hx1⟩ := Option.map_eq_some_iff.1 hw
  simp only [Prod.mk.injEq] at hx1
  obtain ⟨rfl, rfl⟩ := hx1
  refine returnsInHanded_of_row (C := Tryd.checked) (s := Rows.OpenSpec.upto Rows.lexicalReadsSpec) row_own started (by kernel_rfl) Tryd.func7
    ⟨World.laidAll Tryd.prog os Rows.lexicalReadsUptoRow.laid, fun _ _ => 0, ⟨#[], #[.string ByteArray.empty], []⟩, World.laidAll_os _ _ _, World.shaped_of_ZipB (by kernel_rfl) (by kernel_rfl), rfl, (Input.okWide_of_okWideB (by kernel_rfl)).2,
      OpenSpec.preRow_of_cond 8 hx (by kernel_rfl) (fun k hk => by cases hk; kernel_rfl) (by kernel_rfl) (by rw [MakeChecks.laidMetH_plain _ _ _ (by kernel_rfl)]; exact laidMet_laidAll _ (by kernel_rfl) (by kernel_rfl)), by
        simp only [Assume.holds]
        exact ⟨by simp, by simp, fun _ => Modest.zero, by simp, by simp⟩⟩ ?_
  intro W base args ds gs before hval0 hW hcnd hcond hWt hL hsh _
  show Calls _ _ _ _ fun e W' => ∃ v, e = .returned v ∧ Rows.lexicalReadsSpec.post enc Tryd.prog Tryd.f7 false true false false W args v W'
  have hval : ∀ (j : Nat) t v, Tryd.f7.params[j]? = some t → args[j]? = some v → Value.okWide Tryd.prog W .any base t v := hval0
  have hW' := hW
  obtain ⟨p, q, hA0, hV, rfl, hfz, hnd⟩ := hW
  have hA : DataW.TrodAll enc Tryd.prog W 0 (fun _ => true) true Tryd.f7.params.toList args.toList ds p := hA0
  rw [Tryd.params7] at hA hval
  obtain ⟨v0, vs0, d0, ds0, p0, q0, hargs, rfl, rfl, h0, r0⟩ := trodAll_cons hA
  obtain ⟨rfl, rfl, rfl⟩ := trodAll_nil r0
  obtain rfl : args = #[v0] := by cases args; simp_all
  obtain ⟨rfl, rfl⟩ := trodVars_none hV
  have lt0 : ∀ x ∈ p0, x.block < W.heap.size := by obtain ⟨m, hm⟩ := h0; exact DataW.trod_lt m _ _ _ hm
  have hk0 := h0
  obtain ⟨a0, e0, ed0, _, u0⟩ := open_string Tryd.underlying9 (hval 0 9 v0 rfl rfl) h0
  subst e0
  have z0 : a0.size ≤ 1048576 := by
    have hb := of_decide_eq_true (hcond _ rfl)
    subst ed0
    simp only [Rows.uptoBulkAll, Rows.uptoBulk, List.cons_append, List.nil_append, Array.length_toList] at hb
    have hs : a0.size = a0.data.size := rfl
    omega
  clear hA0 hval0
  refine (walk_LexicalReads z0 W (kw_of hsh hL (by kernel_rfl))).mono fun e W' ⟨he, bel⟩ => ?_
  subst he
  exact ⟨_, rfl, _, _, _, [], _, [], hW', trodAll_mk1 (shut_bool Tryd.underlying4 _), (trodAll_cons_mk (Below.trod row_laid (by kernel_rfl) (of_decide_eq_true (by kernel_rfl)) h0 bel lt0) trodAll_mk0), rfl, bel.frame _, fun h => by cases h⟩

theorem over_LexicalReads : Rows.lexicalReadsUptoRow.holds Tryd.pinned (Rows.OpenSpec.upto Rows.lexicalReadsSpec) :=
  OpenClaim.holds_of_cond 7 Tryd.f7 rfl rfl rfl rfl rfl rfl rfl ⟨rfl, rfl, rfl, rfl, rfl⟩ rfl rfl rfl rfl rfl (by kernel_rfl) Tryd.func7 (by kernel_rfl)
    (of_decide_eq_true (by kernel_rfl)) (by unfold Func.isWrapper; first | (rw [if_pos (by decide +kernel)]; kernel_rfl) | (rw [if_neg (by decide +kernel)]; exact ⟨rfl, rfl⟩))
    (fun os started H enc _ Fi => by rw [OpenClaim.pre_eq_preRow]; exact lifted_LexicalReads os started H enc Fi)
theorem holds_LexicalReadsUpto : Rows.LexicalReadsUptoCardSaid :=
  Claim7.holds_tied_plain_at .later [] [.data, .data, .data, .data, .pinned] true Rows.lexicalReadsUptoCard.stood.harness true
    over_LexicalReads (fun _ h => by cases h) (by kernel_rfl) (fun _ h => by cases h) lexicalReadsUpto_row_tie rfl ⟨rfl, rfl⟩ (by kernel_rfl) rfl
    (fun f fn hf hfn => by
      obtain rfl : f = 7 := Option.some.inj ((show Tryd.prog.funcNamed "casuist/casuistlaw09.LexicalReads" = some 7 by kernel_rfl).symm.trans hf) |>.symm
      obtain rfl : fn = Tryd.f7 := (Option.some.inj (Tryd.func7.symm.trans hfn)).symm
      exact ⟨by kernel_rfl, fun j t ht => by
        rw [Tryd.params7] at ht
        rcases j with _ | j
        · obtain rfl : 9 = t := by simpa using ht
          exact (show Tryd.prog.wantsStandIn 9 = false by kernel_rfl)
        · simp at ht⟩)
    (by kernel_rfl)
#print axioms holds_LexicalReadsUpto

end Go.Proofs.YtjpaedjhihiakaaDoor
