/-
  EqualAmong: whatever is read of bulk at most 1048576; the tied card's second form.
-/
import Derived.Test.YtpambeengdhhmaaGreatDoorVlW
import Derived.Test.YtpambeengdhhmaaGreatDoorOpenD
import Derived.Test.YtpambeengdhhmaaGreatDoorOpK
import Derived.Test.YtpambeengdhhmaaGreatDoorTie
import Derived.Test.YtpambeengdhhmaaGreatDoorCards
import Derived.SevenTiedAt
import Derived.Deep.DeepHandedRow
namespace Go.Proofs.YtpambeengdhhmaaGreatDoor
open Go.ChangeShapes Go.WideShapes Go.ChangeAt Go.RowKit
open Go.ChangeMaps (open_string shut_string)
set_option linter.unusedVariables false
set_option maxRecDepth 100000

theorem walk_EqualAmong {w : World} {v0 v1 : Value} {k0 : Int} {t0 : L8} {is0 ds : List Dm} {ns0 : List L8} {p0 q0 : Bool}
    (s0 : (Dm.mk k0 t0 is0 ns0 p0 q0).small) (r0 : (dDat k0 t0 is0 ns0 p0 q0).rel (old w) w v0) (l1 : ds.length ≤ 1048576) (s1 : smallL ds) (r1 : (DV.sl ds.length (cellsL ds)).rel (old w) w v1) (w' : World) (hk : Kw w) :
    Calls Tryz.prog 7 #[v0, v1] w fun e w' => e = .returned (.bool true) ∧ Below w.heap.size w w' :=
  (c_EqualAmong s0 s1 l1).walkR w (relL_cons r0 (relL_cons r1 relL_nil)) hk

set_option maxRecDepth 100000 in
theorem lifted_EqualAmong (os : Os) (started : os.Started) (H : Type) (enc : TypeId × Value → H) (Fi : Stop.Interp) :
    ReturnsInHanded {} Tryz.checked os 7 .any ((Rows.OpenSpec.upto Rows.equalAmongSpec).preRow enc Tryz.prog Tryz.f7 Rows.equalAmongUptoRow.domain false Rows.equalAmongUptoRow.laid) (((Rows.OpenSpec.upto Rows.equalAmongSpec).at Fi).post enc Tryz.prog Tryz.f7 false true false false) := by
  have hw : (DataW.whole enc Tryz.prog ((World.laidAll Tryz.prog os Rows.equalAmongUptoRow.laid).forCall (fun _ _ => 0) ⟨#[], #[.agg #[.int .i64 0, .string ByteArray.empty, .slice none 0 0, .slice none 0 0, .bool false, .bool false], .slice none 0 0], []⟩).memory Tryz.f7.params.toList Rows.equalAmongSpec.vars false (#[.agg #[.int .i64 0, .string ByteArray.empty, .slice none 0 0, .slice none 0 0, .bool false, .bool false], .slice none 0 0] : Array Value).toList 8).map (fun x => (x.1, x.2.1)) =
      some ([.agg [.lit (.int .i64 0), .lit (.string []), .nil, .nil, .agg [.lit (.bool false), .lit (.bool false)]], .nil], []) := by kernel_rfl
  obtain ⟨⟨x1, x2, x3⟩, hx, hx1⟩ := Option.map_eq_some_iff.1 hw
  simp only [Prod.mk.injEq] at hx1
  obtain ⟨rfl, rfl⟩ := hx1
  refine returnsInHanded_of_row (C := Tryz.checked) (s := Rows.OpenSpec.upto Rows.equalAmongSpec) row_own started (by kernel_rfl) Tryz.func7
    ⟨World.laidAll Tryz.prog os Rows.equalAmongUptoRow.laid, fun _ _ => 0, ⟨#[], #[.agg #[.int .i64 0, .string ByteArray.empty, .slice none 0 0, .slice none 0 0, .bool false, .bool false], .slice none 0 0], []⟩, World.laidAll_os _ _ _, World.shaped_of_ZipB (by kernel_rfl) (by kernel_rfl), rfl, (Input.okWide_of_okWideB (by kernel_rfl)).2,
      OpenSpec.preRow_of_cond 8 hx (by kernel_rfl) (fun k hk => by cases hk; kernel_rfl) (by kernel_rfl) (by rw [MakeChecks.laidMetH_plain _ _ _ (by kernel_rfl)]; exact laidMet_laidAll _ (by kernel_rfl) (by kernel_rfl)), by
        simp only [Assume.holds]
        exact ⟨by simp, by simp, fun _ => Modest.zero, by simp, by simp⟩⟩ ?_
  intro W base args ds gs before hval0 hW hcnd hcond hWt hL hsh _
  show Calls _ _ _ _ fun e W' => ∃ v, e = .returned v ∧ Rows.equalAmongSpec.post enc Tryz.prog Tryz.f7 false true false false W args v W'
  have hval : ∀ (j : Nat) t v, Tryz.f7.params[j]? = some t → args[j]? = some v → Value.okWide Tryz.prog W .any base t v := hval0
  have hW' := hW
  obtain ⟨p, q, hA0, hV, rfl, hfz, hnd⟩ := hW
  have hA : DataW.TrodAll enc Tryz.prog W 0 (fun _ => true) true Tryz.f7.params.toList args.toList ds p := hA0
  rw [Tryz.params7] at hA hval
  obtain ⟨v0, vs0, d0, ds0, p0, q0, hargs, rfl, rfl, h0, r0⟩ := trodAll_cons hA
  obtain ⟨v1, vs1, d1, ds1, p1, q1, rfl, rfl, rfl, h1, r1⟩ := trodAll_cons r0
  obtain ⟨rfl, rfl, rfl⟩ := trodAll_nil r1
  obtain rfl : args = #[v0, v1] := by cases args; simp_all
  obtain ⟨rfl, rfl⟩ := trodVars_none hV
  have lt0 : ∀ x ∈ p0, x.block < W.heap.size := by obtain ⟨m, hm⟩ := h0; exact DataW.trod_lt m _ _ _ hm
  have z0 : Rows.uptoBulk d0 ≤ 1048576 := by
    have hb := of_decide_eq_true (hcond _ rfl)
    simp only [Rows.uptoBulkAll, List.cons_append, List.nil_append] at hb
    omega
  obtain ⟨kk0, tt0, is0, ns0, bp0, bq0, u0, rl0⟩ := open_Datum (hval 0 41 v0 rfl rfl) h0 z0
  have lt1 : ∀ x ∈ p1, x.block < W.heap.size := by obtain ⟨m, hm⟩ := h1; exact DataW.trod_lt m _ _ _ hm
  have z1 : Rows.uptoBulk d1 ≤ 1048576 := by
    have hb := of_decide_eq_true (hcond _ rfl)
    simp only [Rows.uptoBulkAll, List.cons_append, List.nil_append] at hb
    omega
  obtain ⟨is1, l1, u1, rl1⟩ := open_Data (hval 1 37 v1 rfl rfl) h1 z1
  clear hA0 hval0
  refine (walk_EqualAmong u0 rl0 l1 u1 rl1 W (kw_of hsh hL (by kernel_rfl))).mono fun e W' ⟨he, bel⟩ => ?_
  subst he
  exact ⟨_, rfl, _, _, _, [], _, [], hW', trodAll_mk1 (shut_bool Tryz.underlying4 _), (trodAll_cons_mk (Below.trod row_laid (by kernel_rfl) (of_decide_eq_true (by kernel_rfl)) h0 bel lt0) (trodAll_cons_mk (Below.trod row_laid (by kernel_rfl) (of_decide_eq_true (by kernel_rfl)) h1 bel lt1) trodAll_mk0)), rfl, bel.frame _, fun h => by cases h⟩

theorem over_EqualAmong : Rows.equalAmongUptoRow.holds Tryz.pinned (Rows.OpenSpec.upto Rows.equalAmongSpec) :=
  OpenClaim.holds_of_cond 7 Tryz.f7 rfl rfl rfl rfl rfl rfl rfl ⟨rfl, rfl, rfl, rfl, rfl⟩ rfl rfl rfl rfl rfl (by kernel_rfl) Tryz.func7 (by kernel_rfl)
    (of_decide_eq_true (by kernel_rfl)) (by unfold Func.isWrapper; first | (rw [if_pos (by decide +kernel)]; kernel_rfl) | (rw [if_neg (by decide +kernel)]; exact ⟨rfl, rfl⟩))
    (fun os started H enc _ Fi => by rw [OpenClaim.pre_eq_preRow]; exact lifted_EqualAmong os started H enc Fi)
theorem holds_EqualAmongUpto : Rows.EqualAmongUptoCardSaid :=
  Claim7.holds_tied_plain_at .later [] [.data, .data, .data, .data, .sentinel, .sentinel, .pinned] true Rows.equalAmongUptoCard.stood.harness true
    over_EqualAmong (fun _ h => by cases h) (by kernel_rfl) (fun _ h => by cases h) equalAmongUpto_row_tie rfl ⟨rfl, rfl⟩ (by kernel_rfl) rfl
    (fun f fn hf hfn => by
      obtain rfl : f = 7 := Option.some.inj ((show Tryz.prog.funcNamed "casuist/casuistlaw12.EqualAmong" = some 7 by kernel_rfl).symm.trans hf) |>.symm
      obtain rfl : fn = Tryz.f7 := (Option.some.inj (Tryz.func7.symm.trans hfn)).symm
      exact ⟨by kernel_rfl, fun j t ht => by
        rw [Tryz.params7] at ht
        rcases j with _ | _ | j
        · obtain rfl : 41 = t := by simpa using ht
          exact (show Tryz.prog.wantsStandIn 41 = false by kernel_rfl)
        · obtain rfl : 37 = t := by simpa using ht
          exact (show Tryz.prog.wantsStandIn 37 = false by kernel_rfl)
        · simp at ht⟩)
    (by kernel_rfl)
end Go.Proofs.YtpambeengdhhmaaGreatDoor
