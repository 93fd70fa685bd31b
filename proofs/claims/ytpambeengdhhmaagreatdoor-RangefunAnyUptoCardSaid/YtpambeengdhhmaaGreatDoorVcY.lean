/-
  More of wide's functions, said of numbers.
-/
import Derived.Test.YtpambeengdhhmaaGreatDoorVcX
import Derived.Test.YtpambeengdhhmaaGreatDoorWidA
import Derived.Test.YtpambeengdhhmaaGreatDoorWide5
namespace Go.Proofs.YtpambeengdhhmaaGreatDoor
open Go.RowKit
set_option linter.unusedVariables false
set_option maxRecDepth 100000

section
variable {a b c d h l n : Nat}
theorem cw_Cmp2 (ha : a < B128) (hc : c < B128) (hb : b < B128) (hd : d < B128) : HasC Tryz.prog 125 [dU a, dU c, dU b, dU d] (fun y => y = .v (.int .i64 (cmpN (a * B128 + c) (b * B128 + d)))) :=
  (HasC.ofCalls (vs := [.agg #[.int .u64 (hiW a), .int .u64 (loW a)], .agg #[.int .u64 (hiW c), .int .u64 (loW c)], .agg #[.int .u64 (hiW b), .int .u64 (loW b)], .agg #[.int .u64 (hiW d), .int .u64 (loW d)]]) (R := fun r => r = .int .i64 (cmpN (a * B128 + c) (b * B128 + d))) (fun args w => Tryz.call125 args w) rfl
    (fun w => (wide_Cmp2 (isU_hl ha) (isU_hl hc) (isU_hl hb) (isU_hl hd) w).mono fun e w' ⟨he, hb⟩ => ⟨_, he, rfl, hb⟩)).mono fun y ⟨r, hr, hy⟩ => by subst hr; exact hy
end

theorem rel_bases {Im : Nat → Nat → Prop} {W : World} : ∀ {ds : List DV} {xs : List Value}, DV.bases ds = some xs → DV.relL Im W ds xs
  | [], xs, h => by simp [DV.bases] at h; subst h; rw [DV.relL]
  | .v x :: ds, xs, h => by
    simp only [DV.bases] at h
    split at h
    · rename_i ys hy
      simp at h
      subst h
      rw [DV.relL]
      exact ⟨x, ys, rfl, by rw [DV.rel], rel_bases hy⟩
    · cases h
  | .sl _ _ :: ds, xs, h => by simp [DV.bases] at h
  | .agg _ :: ds, xs, h => by simp [DV.bases] at h
  | .tup _ :: ds, xs, h => by simp [DV.bases] at h
  | .ifc _ _ :: ds, xs, h => by simp [DV.bases] at h
  | .bx _ :: ds, xs, h => by simp [DV.bases] at h
theorem rel_base {Im : Nat → Nat → Prop} {W : World} {d : DV} {x : Value} (h : d.base = some x) : d.rel Im W x := by
  cases d with
  | v z => simp [DV.base] at h; subst h; rw [DV.rel]
  | agg cs =>
    simp only [DV.base] at h
    split at h
    · rename_i xs hx
      simp at h
      subst h
      rw [DV.rel]
      exact ⟨xs.toArray, rfl, by simpa using rel_bases hx⟩
    · cases h
  | sl n cs => simp [DV.base] at h
  | tup n => simp [DV.base] at h
  | ifc t n => simp [DV.base] at h
  | bx n => simp [DV.base] at h
theorem relL_base {Im : Nat → Nat → Prop} {W : World} : ∀ {ds : List DV} {vs : List Value}, ds.map DV.base = vs.map some → DV.relL Im W ds vs
  | [], [], h => by rw [DV.relL]
  | [], v :: vs, h => by simp at h
  | d :: ds, [], h => by simp at h
  | d :: ds, v :: vs, h => by
    simp only [List.map_cons, List.cons.injEq] at h
    rw [DV.relL]
    exact ⟨v, vs, rfl, rel_base h.1, relL_base h.2⟩

/-- A walk, of a law that is known to say yes. -/
theorem HasC.walk {f : FuncId} {ds : List DV} {vs : List Value} (h : HasC Tryz.prog f ds (fun y => y = .v (.bool true))) (hb : ds.map DV.base = vs.map some) (w : World) (hk : Kw w := by first | exact ⟨.inl (by kernel_rfl), .inl (by kernel_rfl)⟩ | exact ⟨.inl (by kernel_rfl), .inl (by kernel_rfl), .inl (by kernel_rfl)⟩) : Calls Tryz.prog f vs.toArray w fun e w' => e = .returned (.bool true) ∧ Below w.heap.size w w' :=
  (h.2.2 w vs.toArray (fun _ _ => False) hk (fun _ _ h => h.elim) (relL_base hb)).mono fun e w' ⟨r, y, h1, h2, h3, h4⟩ => by
    subst h2
    rw [DV.rel] at h3
    subst h3
    exact ⟨h1, h4⟩
end Go.Proofs.YtpambeengdhhmaaGreatDoor
