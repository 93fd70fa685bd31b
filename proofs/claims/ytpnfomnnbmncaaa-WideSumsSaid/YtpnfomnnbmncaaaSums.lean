/-
  WideSums: for every input, without condition.
-/
import Derived.Test.YtpnfomnnbmncaaaLawC
import Derived.Test.YtpnfomnnbmncaaaOpen
import Derived.Deep.DeepCutAuto
namespace Go.Proofs.Ytpnfomnnbmncaaa
open Go.ChangeShapes Go.WideShapes Go.ChangeAt Go.RowKit
open Go.ChangeMaps (open_string shut_string)
set_option linter.unusedVariables false

theorem walk_WideSums {a1 a0 b1 b0 c1 c0 d1 d0 : Int} {a b c d : Nat} (ha : IsU a1 a0 a) (hb : IsU b1 b0 b) (hc : IsU c1 c0 c) (hd : IsU d1 d0 d) (w : World) :
    Calls Try.prog 6 #[.agg #[.int .u64 a1, .int .u64 a0], .agg #[.int .u64 b1, .int .u64 b0], .agg #[.int .u64 c1, .int .u64 c0], .agg #[.int .u64 d1, .int .u64 d0]] w fun e w' => e = .returned (.bool true) ∧ Below w.heap.size w w' := by
  have ia := ha.lt; have ib := hb.lt; have ic := hc.lt; have id := hd.lt
  obtain ⟨rfl, rfl⟩ := ha.hl
  obtain ⟨rfl, rfl⟩ := hb.hl
  obtain ⟨rfl, rfl⟩ := hc.hl
  obtain ⟨rfl, rfl⟩ := hd.hl
  exact (c_WideSums ia ib ic id).walk (vs := [.agg #[.int .u64 (hiW a), .int .u64 (loW a)], .agg #[.int .u64 (hiW b), .int .u64 (loW b)], .agg #[.int .u64 (hiW c), .int .u64 (loW c)], .agg #[.int .u64 (hiW d), .int .u64 (loW d)]]) rfl w

set_option maxRecDepth 100000 in
theorem lifted_WideSums (os : Os) (started : os.Started) (H : Type) (enc : TypeId × Value → H) :
    ReturnsInHanded {} Try.checked os 6 .any (Rows.wideSumsSpec.pre6 enc Try.prog Try.f6 Rows.wideSumsRow.domain false) (Rows.wideSumsSpec.post enc Try.prog Try.f6 false true false false) := by
  refine returnsInHanded_of_change (C := Try.checked) row_own started (by kernel_rfl) Try.func6
    (ChangeSpec.witness6 (enc := enc) (C := Try.checked) false ⟨#[], #[.agg #[.int .u64 0, .int .u64 0], .agg #[.int .u64 0, .int .u64 0], .agg #[.int .u64 0, .int .u64 0], .agg #[.int .u64 0, .int .u64 0]], []⟩ 8 (by kernel_rfl) (by kernel_rfl) (by kernel_rfl) (by kernel_rfl)) ?_
  intro W base args ds gs before hval0 hW hcnd _
  have hval : ∀ (j : Nat) t v, Try.f6.params[j]? = some t → args[j]? = some v → Value.okWide Try.prog W .any base t v := hval0
  have hW' := hW
  obtain ⟨p, q, hA0, hV, rfl, hfz, hnd⟩ := hW
  have hA : DataW.TrodAll enc Try.prog W 0 (fun _ => true) true Try.f6.params.toList args.toList ds p := hA0
  rw [Try.params6] at hA hval
  obtain ⟨v0, vs0, d0, ds0, p0, q0, hargs, rfl, rfl, h0, r0⟩ := trodAll_cons hA
  obtain ⟨v1, vs1, d1, ds1, p1, q1, rfl, rfl, rfl, h1, r1⟩ := trodAll_cons r0
  obtain ⟨v2, vs2, d2, ds2, p2, q2, rfl, rfl, rfl, h2, r2⟩ := trodAll_cons r1
  obtain ⟨v3, vs3, d3, ds3, p3, q3, rfl, rfl, rfl, h3, r3⟩ := trodAll_cons r2
  obtain ⟨rfl, rfl, rfl⟩ := trodAll_nil r3
  obtain rfl : args = #[v0, v1, v2, v3] := by cases args; simp_all
  obtain ⟨rfl, rfl⟩ := trodVars_none hV
  have lt0 : ∀ x ∈ p0, x.block < W.heap.size := by obtain ⟨m, hm⟩ := h0; exact DataW.trod_lt m _ _ _ hm
  obtain ⟨a0, b0, n0, rfl, u0⟩ := open_U (hval 0 24 v0 rfl rfl) h0
  have lt1 : ∀ x ∈ p1, x.block < W.heap.size := by obtain ⟨m, hm⟩ := h1; exact DataW.trod_lt m _ _ _ hm
  obtain ⟨a1, b1, n1, rfl, u1⟩ := open_U (hval 1 24 v1 rfl rfl) h1
  have lt2 : ∀ x ∈ p2, x.block < W.heap.size := by obtain ⟨m, hm⟩ := h2; exact DataW.trod_lt m _ _ _ hm
  obtain ⟨a2, b2, n2, rfl, u2⟩ := open_U (hval 2 24 v2 rfl rfl) h2
  have lt3 : ∀ x ∈ p3, x.block < W.heap.size := by obtain ⟨m, hm⟩ := h3; exact DataW.trod_lt m _ _ _ hm
  obtain ⟨a3, b3, n3, rfl, u3⟩ := open_U (hval 3 24 v3 rfl rfl) h3
  clear hA0 hval0
  refine (walk_WideSums u0 u1 u2 u3 W).mono fun e W' ⟨he, bel⟩ => ?_
  subst he
  exact ⟨_, rfl, _, _, _, [], _, [], hW', trodAll_mk1 (shut_bool Try.underlying4 _), (trodAll_cons_mk (Below.trod row_laid (by kernel_rfl) (of_decide_eq_true (by kernel_rfl)) h0 bel lt0) (trodAll_cons_mk (Below.trod row_laid (by kernel_rfl) (of_decide_eq_true (by kernel_rfl)) h1 bel lt1) (trodAll_cons_mk (Below.trod row_laid (by kernel_rfl) (of_decide_eq_true (by kernel_rfl)) h2 bel lt2) (trodAll_cons_mk (Below.trod row_laid (by kernel_rfl) (of_decide_eq_true (by kernel_rfl)) h3 bel lt3) trodAll_mk0)))), rfl, bel.frame _, fun h => by cases h⟩

theorem over_WideSums : Rows.wideSumsRow.holds Try.pinned (OpenSpec.ofChange Rows.wideSumsSpec) :=
  OpenClaim.holds_of_wide 6 Try.f6 rfl rfl rfl rfl rfl rfl rfl ⟨rfl, rfl, rfl, rfl, rfl⟩ rfl rfl rfl rfl rfl (by kernel_rfl) Try.func6 (by kernel_rfl)
    (of_decide_eq_true (by kernel_rfl)) (by unfold Func.isWrapper; first | (rw [if_pos (by decide +kernel)]; kernel_rfl) | (rw [if_neg (by decide +kernel)]; exact ⟨rfl, rfl⟩))
    (fun os started H enc _ => lifted_WideSums os started H enc)

theorem holds_WideSums : Rows.WideSumsSaid := over_WideSums
#print axioms holds_WideSums

end Go.Proofs.Ytpnfomnnbmncaaa
