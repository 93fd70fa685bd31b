/-
  RangefunAny: whatever is read of bulk at most 1048576; the tied card's second form.
-/
import Derived.Test.YtpambeengdhhmaaGreatDoorRgZ
import Derived.Test.YtpambeengdhhmaaGreatDoorOpenD
import Derived.Test.YtpambeengdhhmaaGreatDoorOpK
import Derived.Test.YtpambeengdhhmaaGreatDoorTie
import Derived.Test.YtpambeengdhhmaaGreatDoorCards
import Derived.SevenTiedAt
import Derived.Deep.DeepHandedRow
namespace Go.Proofs.YtpambeengdhhmaaGreatDoor
open Go.ChangeShapes Go.WideShapes Go.ChangeAt Go.RowKit
open Go.ChangeMaps (open_string shut_string)
set_option linter.unusedVariables false
set_option maxRecDepth 100000

theorem walk_RangefunAny {w : World} {v0 v1 : Value} {k0 k1 : Int} {t0 t1 : L8} {is0 is1 : List Dm} {ns0 ns1 : List L8} {p0 q0 p1 q1 : Bool} {s : ByteArray}
    (s0 : (Dm.mk k0 t0 is0 ns0 p0 q0).small) (r0 : (dDat k0 t0 is0 ns0 p0 q0).rel (old w) w v0) (s1 : (Dm.mk k1 t1 is1 ns1 p1 q1).small) (r1 : (dDat k1 t1 is1 ns1 p1 q1).rel (old w) w v1)
    (u2 : s.size ≤ maxLen) (w' : World) (hk : Kw w) :
    Calls Tryz.prog 6 #[v0, v1, .string s] w fun e w' => e = .returned (.bool true) ∧ Below w.heap.size w w' :=
  (c_RangefunAny (s := s) s0 s1).walkR w (relL_cons r0 (relL_cons r1 (relL_cons (rel_v _) relL_nil))) hk

set_option maxRecDepth 100000 in
theorem lifted_RangefunAny (os : Os) (started : os.Started) (H : Type) (enc : TypeId × Value → H) (Fi : Stop.Interp) :
    ReturnsInHanded {} Tryz.checked os 6 .any ((Rows.OpenSpec.upto Rows.rangefunAnySpec).preRow enc Tryz.prog Tryz.f6 Rows.rangefunAnyUptoRow.domain false Rows.rangefunAnyUptoRow.laid) (((Rows.OpenSpec.upto Rows.rangefunAnySpec).at Fi).post enc Tryz.prog Tryz.f6 false true false false) := by
  have hw : (DataW.whole enc Tryz.prog ((World.laidAll Tryz.prog os Rows.rangefunAnyUptoRow.laid).forCall (fun _ _ => 0) ⟨#[], #[.agg #[.int .i64 0, .string ByteArray.empty, .slice none 0 0, .slice none 0 0, .bool false, .bool false], .agg #[.int .i64 0, .string ByteArray.empty, .slice none 0 0, .slice none 0 0, .bool false, .bool false], .string ByteArray.empty], []⟩).memory Tryz.f6.params.toList Rows.rangefunAnySpec.vars false (#[.agg #[.int .i64 0, .string ByteArray.empty, .slice none 0 0, .slice none 0 0, .bool false, .bool false], .agg #[.int .i64 0, .string ByteArray.empty, .slice none 0 0, .slice none 0 0, .bool false, .bool false], .string ByteArray.empty] : Array Value).toList 8).map (fun x => (x.1, x.2.1)) =
      some ([.agg [.lit (.int .i64 0), .lit (.string []), .nil, .nil, .agg [.lit (.bool false), .lit (.bool false)]], .agg [.lit (.int .i64 0), .lit (.string []), .nil, .nil, .agg [.lit (.bool false), .lit (.bool false)]], .lit (.string [])], []) := by kernel_rfl
  obtain ⟨⟨x1, x2, x3⟩, hx, hx1⟩ := Option.map_eq_some_iff.1 hw
  simp only [Prod.mk.injEq] at hx1
  obtain ⟨rfl, rfl⟩ := hx1
  refine returnsInHanded_of_row (C := Tryz.checked) (s := Rows.OpenSpec.upto Rows.rangefunAnySpec) row_own started (by kernel_rfl) Tryz.func6
    ⟨World.laidAll Tryz.prog os Rows.rangefunAnyUptoRow.laid, fun _ _ => 0, ⟨#[], #[.agg #[.int .i64 0, .string ByteArray.empty, .slice none 0 0, .slice none 0 0, .bool false, .bool false], .agg #[.int .i64 0, .string ByteArray.empty, .slice none 0 0, .slice none 0 0, .bool false, .bool false], .string ByteArray.empty], []⟩, World.laidAll_os _ _ _, World.shaped_of_ZipB (by kernel_rfl) (by kernel_rfl), rfl, (Input.okWide_of_okWideB (by kernel_rfl)).2,
      OpenSpec.preRow_of_cond 8 hx (by kernel_rfl) (fun k hk => by cases hk; kernel_rfl) (by kernel_rfl) (by rw [MakeChecks.laidMetH_plain _ _ _ (by kernel_rfl)]; exact laidMet_laidAll _ (by kernel_rfl) (by kernel_rfl)), by
        simp only [Assume.holds]
        exact ⟨by simp, by simp, fun _ => Modest.zero, by simp, by simp⟩⟩ ?_
  intro W base args ds gs before hval0 hW hcnd hcond hWt hL hsh _
  show Calls _ _ _ _ fun e W' => ∃ v, e = .returned v ∧ Rows.rangefunAnySpec.post enc Tryz.prog Tryz.f6 false true false false W args v W'
  have hval : ∀ (j : Nat) t v, Tryz.f6.params[j]? = some t → args[j]? = some v → Value.okWide Tryz.prog W .any base t v := hval0
  have hW' := hW
  obtain ⟨p, q, hA0, hV, rfl, hfz, hnd⟩ := hW
  have hA : DataW.TrodAll enc Tryz.prog W 0 (fun _ => true) true Tryz.f6.params.toList args.toList ds p := hA0
  rw [Tryz.params6] at hA hval
  obtain ⟨v0, vs0, d0, ds0, p0, q0, hargs, rfl, rfl, h0, r0⟩ := trodAll_cons hA
  obtain ⟨v1, vs1, d1, ds1, p1, q1, rfl, rfl, rfl, h1, r1⟩ := trodAll_cons r0
  obtain ⟨v2, vs2, d2, ds2, p2, q2, rfl, rfl, rfl, h2, r2⟩ := trodAll_cons r1
  obtain ⟨rfl, rfl, rfl⟩ := trodAll_nil r2
  obtain rfl : args = #[v0, v1, v2] := by cases args; simp_all
  obtain ⟨rfl, rfl⟩ := trodVars_none hV
  have lt0 : ∀ x ∈ p0, x.block < W.heap.size := by obtain ⟨m, hm⟩ := h0; exact DataW.trod_lt m _ _ _ hm
  have z0 : Rows.uptoBulk d0 ≤ 1048576 := by
    have hb := of_decide_eq_true (hcond _ rfl)
    simp only [Rows.uptoBulkAll, List.cons_append, List.nil_append] at hb
    omega
  obtain ⟨kk0, tt0, is0, ns0, bp0, bq0, u0, rl0⟩ := open_Datum (hval 0 41 v0 rfl rfl) h0 z0
  have lt1 : ∀ x ∈ p1, x.block < W.heap.size := by obtain ⟨m, hm⟩ := h1; exact DataW.trod_lt m _ _ _ hm
  have z1 : Rows.uptoBulk d1 ≤ 1048576 := by
    have hb := of_decide_eq_true (hcond _ rfl)
    simp only [Rows.uptoBulkAll, List.cons_append, List.nil_append] at hb
    omega
  obtain ⟨kk1, tt1, is1, ns1, bp1, bq1, u1, rl1⟩ := open_Datum (hval 1 41 v1 rfl rfl) h1 z1
  have lt2 : ∀ x ∈ p2, x.block < W.heap.size := by obtain ⟨m, hm⟩ := h2; exact DataW.trod_lt m _ _ _ hm
  have hk2 := h2
  obtain ⟨a2, e2, ed2, _, u2⟩ := open_string Tryz.underlying9 (hval 2 9 v2 rfl rfl) h2
  subst e2
  clear hA0 hval0
  refine (walk_RangefunAny u0 rl0 u1 rl1 u2 W (kw_of hsh hL (by kernel_rfl))).mono fun e W' ⟨he, bel⟩ => ?_
  subst he
  exact ⟨_, rfl, _, _, _, [], _, [], hW', trodAll_mk1 (shut_bool Tryz.underlying4 _), (trodAll_cons_mk (Below.trod row_laid (by kernel_rfl) (of_decide_eq_true (by kernel_rfl)) h0 bel lt0) (trodAll_cons_mk (Below.trod row_laid (by kernel_rfl) (of_decide_eq_true (by kernel_rfl)) h1 bel lt1) (trodAll_cons_mk (Below.trod row_laid (by kernel_rfl) (of_decide_eq_true (by kernel_rfl)) h2 bel lt2) trodAll_mk0))), rfl, bel.frame _, fun h => by cases h⟩

theorem over_RangefunAny : Rows.rangefunAnyUptoRow.holds Tryz.pinned (Rows.OpenSpec.upto Rows.rangefunAnySpec) :=
  OpenClaim.holds_of_cond 6 Tryz.f6 rfl rfl rfl rfl rfl rfl rfl ⟨rfl, rfl, rfl, rfl, rfl⟩ rfl rfl rfl rfl rfl (by kernel_rfl) Tryz.func6 (by kernel_rfl)
    (of_decide_eq_true (by kernel_rfl)) (by unfold Func.isWrapper; first | (rw [if_pos (by decide +kernel)]; kernel_rfl) | (rw [if_neg (by decide +kernel)]; exact ⟨rfl, rfl⟩))
    (fun os started H enc _ Fi => by rw [OpenClaim.pre_eq_preRow]; exact lifted_RangefunAny os started H enc Fi)
theorem holds_RangefunAnyUpto : Rows.RangefunAnyUptoCardSaid :=
  Claim7.holds_tied_plain_at .later [] [.data, .data, .data, .data, .sentinel, .sentinel, .pinned] true Rows.rangefunAnyUptoCard.stood.harness true
    over_RangefunAny (fun _ h => by cases h) (by kernel_rfl) (fun _ h => by cases h) rangefunAnyUpto_row_tie rfl ⟨rfl, rfl⟩ (by kernel_rfl) rfl
    (fun f fn hf hfn => by
      obtain rfl : f = 6 := Option.some.inj ((show Tryz.prog.funcNamed "casuist/casuistlaw23.RangefunAny" = some 6 by kernel_rfl).symm.trans hf) |>.symm
      obtain rfl : fn = Tryz.f6 := (Option.some.inj (Tryz.func6.symm.trans hfn)).symm
      exact ⟨by kernel_rfl, fun j t ht => by
        rw [Tryz.params6] at ht
        rcases j with _ | _ | _ | j
        · obtain rfl : 41 = t := by simpa using ht
          exact (show Tryz.prog.wantsStandIn 41 = false by kernel_rfl)
        · obtain rfl : 41 = t := by simpa using ht
          exact (show Tryz.prog.wantsStandIn 41 = false by kernel_rfl)
        · obtain rfl : 9 = t := by simpa using ht
          exact (show Tryz.prog.wantsStandIn 9 = false by kernel_rfl)
        · simp at ht⟩)
    (by kernel_rfl)
end Go.Proofs.YtpambeengdhhmaaGreatDoor
