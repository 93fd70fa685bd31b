/-
  DecTells: for every input, without condition.
-/
import Derived.Test.YtgphodlkaknkcaaLawI
import Derived.Test.YtgphodlkaknkcaaOpen2
import Derived.Deep.DeepCutAuto
namespace Go.Proofs.Ytgphodlkaknkcaa
open Go.ChangeShapes Go.WideShapes Go.ChangeAt Go.RowKit
open Go.ChangeMaps (open_string shut_string)
set_option linter.unusedVariables false
set_option maxRecDepth 100000

theorem walk_DecTells (b0 : Bool) {p1 q1 : Int} {n1 : Nat} (u1 : IsU p1 q1 n1) {a2 : Int} (u2 : -9223372036854775808 ≤ a2) (t2 : a2 ≤ 9223372036854775807) {a3 : Int} (u3 : -9223372036854775808 ≤ a3) (t3 : a3 ≤ 9223372036854775807) {g4 : Bool} {p4 q4 e4 : Int} {n4 : Nat} (u4 : IsU p4 q4 n4) (t4 : -9223372036854775808 ≤ e4) (s4 : e4 ≤ 9223372036854775807) (w : World) :
    Calls Try.prog 7 #[.bool b0, .agg #[.int .u64 p1, .int .u64 q1], .int .i64 a2, .int .i64 a3, .agg #[.bool g4, .int .u64 p4, .int .u64 q4, .int .i64 e4]] w fun e w' => e = .returned (.bool true) ∧ Below w.heap.size w w' := by
  have l1 := u1.lt
  obtain ⟨rfl, rfl⟩ := u1.hl
  have l4 := u4.lt
  obtain ⟨rfl, rfl⟩ := u4.hl
  exact (c_DecTells b0 l1 u2 t2 u3 t3 l4).walk (vs := [.bool b0, .agg #[.int .u64 (hiW n1), .int .u64 (loW n1)], .int .i64 a2, .int .i64 a3, .agg #[.bool g4, .int .u64 (hiW n4), .int .u64 (loW n4), .int .i64 e4]]) rfl w

set_option maxRecDepth 100000 in
theorem lifted_DecTells (os : Os) (started : os.Started) (H : Type) (enc : TypeId × Value → H) :
    ReturnsInHanded {} Try.checked os 7 .any (Rows.decTellsSpec.pre6 enc Try.prog Try.f7 Rows.decTellsRow.domain false) (Rows.decTellsSpec.post enc Try.prog Try.f7 false true false false) := by
  refine returnsInHanded_of_change (C := Try.checked) row_own started (by kernel_rfl) Try.func7
    (ChangeSpec.witness6 (enc := enc) (C := Try.checked) false ⟨#[], #[.bool false, .agg #[.int .u64 0, .int .u64 0], .int .i64 0, .int .i64 0, .agg #[.bool false, .int .u64 0, .int .u64 0, .int .i64 0]], []⟩ 8 (by kernel_rfl) (by kernel_rfl) (by kernel_rfl) (by kernel_rfl)) ?_
  intro W base args ds gs before hval0 hW hcnd _
  have hval : ∀ (j : Nat) t v, Try.f7.params[j]? = some t → args[j]? = some v → Value.okWide Try.prog W .any base t v := hval0
  have hW' := hW
  obtain ⟨p, q, hA0, hV, rfl, hfz, hnd⟩ := hW
  have hA : DataW.TrodAll enc Try.prog W 0 (fun _ => true) true Try.f7.params.toList args.toList ds p := hA0
  rw [Try.params7] at hA hval
  obtain ⟨v0, vs0, d0, ds0, p0, q0, hargs, rfl, rfl, h0, r0⟩ := trodAll_cons hA
  obtain ⟨v1, vs1, d1, ds1, p1, q1, rfl, rfl, rfl, h1, r1⟩ := trodAll_cons r0
  obtain ⟨v2, vs2, d2, ds2, p2, q2, rfl, rfl, rfl, h2, r2⟩ := trodAll_cons r1
  obtain ⟨v3, vs3, d3, ds3, p3, q3, rfl, rfl, rfl, h3, r3⟩ := trodAll_cons r2
  obtain ⟨v4, vs4, d4, ds4, p4, q4, rfl, rfl, rfl, h4, r4⟩ := trodAll_cons r3
  obtain ⟨rfl, rfl, rfl⟩ := trodAll_nil r4
  obtain rfl : args = #[v0, v1, v2, v3, v4] := by cases args; simp_all
  obtain ⟨rfl, rfl⟩ := trodVars_none hV
  have lt0 : ∀ x ∈ p0, x.block < W.heap.size := by obtain ⟨m, hm⟩ := h0; exact DataW.trod_lt m _ _ _ hm
  have hk0 := h0
  obtain ⟨a0, e0, _, _⟩ := open_bool Try.underlying4 (hval 0 4 v0 rfl rfl) h0
  subst e0
  have lt1 : ∀ x ∈ p1, x.block < W.heap.size := by obtain ⟨m, hm⟩ := h1; exact DataW.trod_lt m _ _ _ hm
  obtain ⟨a1, b1, n1, rfl, u1⟩ := open_U (hval 1 24 v1 rfl rfl) h1
  have lt2 : ∀ x ∈ p2, x.block < W.heap.size := by obtain ⟨m, hm⟩ := h2; exact DataW.trod_lt m _ _ _ hm
  obtain ⟨a2, rfl, u2, t2⟩ := open_I (hval 2 3 v2 rfl rfl) h2
  have lt3 : ∀ x ∈ p3, x.block < W.heap.size := by obtain ⟨m, hm⟩ := h3; exact DataW.trod_lt m _ _ _ hm
  obtain ⟨a3, rfl, u3, t3⟩ := open_I (hval 3 3 v3 rfl rfl) h3
  have lt4 : ∀ x ∈ p4, x.block < W.heap.size := by obtain ⟨m, hm⟩ := h4; exact DataW.trod_lt m _ _ _ hm
  obtain ⟨g4, a4, b4, e4, n4, rfl, u4, t4, s4⟩ := open_Raw (hval 4 26 v4 rfl rfl) h4
  clear hA0 hval0
  refine (walk_DecTells a0 u1 u2 t2 u3 t3 (g4 := g4) u4 t4 s4 W).mono fun e W' ⟨he, bel⟩ => ?_
  subst he
  exact ⟨_, rfl, _, _, _, [], _, [], hW', trodAll_mk1 (shut_bool Try.underlying4 _), (trodAll_cons_mk (Below.trod row_laid (by kernel_rfl) (of_decide_eq_true (by kernel_rfl)) h0 bel lt0) (trodAll_cons_mk (Below.trod row_laid (by kernel_rfl) (of_decide_eq_true (by kernel_rfl)) h1 bel lt1) (trodAll_cons_mk (Below.trod row_laid (by kernel_rfl) (of_decide_eq_true (by kernel_rfl)) h2 bel lt2) (trodAll_cons_mk (Below.trod row_laid (by kernel_rfl) (of_decide_eq_true (by kernel_rfl)) h3 bel lt3) (trodAll_cons_mk (Below.trod row_laid (by kernel_rfl) (of_decide_eq_true (by kernel_rfl)) h4 bel lt4) trodAll_mk0))))), rfl, bel.frame _, fun h => by cases h⟩

theorem over_DecTells : Rows.decTellsRow.holds Try.pinned (OpenSpec.ofChange Rows.decTellsSpec) :=
  OpenClaim.holds_of_wide 7 Try.f7 rfl rfl rfl rfl rfl rfl rfl ⟨rfl, rfl, rfl, rfl, rfl⟩ rfl rfl rfl rfl rfl (by kernel_rfl) Try.func7 (by kernel_rfl)
    (of_decide_eq_true (by kernel_rfl)) (by unfold Func.isWrapper; first | (rw [if_pos (by decide +kernel)]; kernel_rfl) | (rw [if_neg (by decide +kernel)]; exact ⟨rfl, rfl⟩))
    (fun os started H enc _ => lifted_DecTells os started H enc)

theorem holds_DecTells : Rows.DecTellsSaid := over_DecTells
#print axioms holds_DecTells

end Go.Proofs.Ytgphodlkaknkcaa
