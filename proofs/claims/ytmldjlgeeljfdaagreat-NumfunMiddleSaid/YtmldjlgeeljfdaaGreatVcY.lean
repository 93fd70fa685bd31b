/-
  More of wide's functions, said of numbers.
-/
import Derived.Test.YtmldjlgeeljfdaaGreatVcX
import Derived.Test.YtmldjlgeeljfdaaGreatWidA
import Derived.Test.YtmldjlgeeljfdaaGreatWide5
namespace Go.Proofs.YtmldjlgeeljfdaaGreat
open Go.RowKit
set_option linter.unusedVariables false
set_option maxRecDepth 100000

theorem dU_0 : dU 0 = .agg [.v (.int .u64 0), .v (.int .u64 0)] := rfl
theorem hi_range {n : Nat} (h : n < B128) : 0 ≤ hiW n ∧ hiW n < 18446744073709551616 := by
  unfold hiW
  unfold B128 at h
  exact ⟨by omega, by omega⟩
theorem lo_range' (n : Nat) : 0 ≤ loW n ∧ loW n < 18446744073709551616 := by
  unfold loW
  exact ⟨by omega, by omega⟩
section
variable {a b c d h l n : Nat}
theorem cw_Div_no (hh : h < B128) (hl : l < B128) (hd : d < B128) (hle : d ≤ h) : HasC Tryz.prog 39 [dU h, dU l, dU d] (fun y => y = .tup [dU 0, dU 0, .v (.bool false)]) :=
  (HasC.ofCalls (vs := [.agg #[.int .u64 (hiW h), .int .u64 (loW h)], .agg #[.int .u64 (hiW l), .int .u64 (loW l)], .agg #[.int .u64 (hiW d), .int .u64 (loW d)]]) (R := fun r => r = .tuple #[.agg #[.int .u64 0, .int .u64 0], .agg #[.int .u64 0, .int .u64 0], .bool false]) (fun args w => Tryz.call39 args w) rfl
    (fun w => (wide_Div_no (isU_hl hh) (isU_hl hd) hle w).mono fun e w' ⟨he, hb⟩ => ⟨_, he, rfl, hb⟩)).mono fun y ⟨r, hr, hy⟩ => by subst hr; exact hy
theorem cw_Div_yes (hh : h < B128) (hl : l < B128) (hd : d < B128) (hlt : h < d) : HasC Tryz.prog 39 [dU h, dU l, dU d] (fun y => y = .tup [dU ((h * B128 + l) / d), dU ((h * B128 + l) % d), .v (.bool true)]) :=
  (HasC.ofCalls (vs := [.agg #[.int .u64 (hiW h), .int .u64 (loW h)], .agg #[.int .u64 (hiW l), .int .u64 (loW l)], .agg #[.int .u64 (hiW d), .int .u64 (loW d)]]) (R := fun r => r = .tuple #[.agg #[.int .u64 (hiW ((h * B128 + l) / d)), .int .u64 (loW ((h * B128 + l) / d))], .agg #[.int .u64 (hiW ((h * B128 + l) % d)), .int .u64 (loW ((h * B128 + l) % d))], .bool true]) (fun args w => Tryz.call39 args w) rfl
    (fun w => (wide_Div_yes (isU_hl hh) (isU_hl hl) (isU_hl hd) hlt w).mono fun e w' ⟨q1, q0, r1, r0, he, h1, h2, hb⟩ => ⟨_, he, by
      obtain ⟨rfl, rfl⟩ := h1.hl; obtain ⟨rfl, rfl⟩ := h2.hl; rfl, hb⟩)).mono fun y ⟨r, hr, hy⟩ => by subst hr; exact hy
theorem cw_DivWord_0 (hh : h < B128) (hl : l < B128) : HasC Tryz.prog 41 [dU h, dU l, .v (.int .u64 0)] (fun y => y = .tup [dU 0, dU 0, .v (.int .u64 0), .v (.bool false)]) :=
  (HasC.ofCalls (vs := [.agg #[.int .u64 (hiW h), .int .u64 (loW h)], .agg #[.int .u64 (hiW l), .int .u64 (loW l)], .int .u64 0]) (R := fun r => r = .tuple #[.agg #[.int .u64 0, .int .u64 0], .agg #[.int .u64 0, .int .u64 0], .int .u64 0, .bool false]) (fun args w => Tryz.call41 args w) rfl
    (fun w => (wide_DivWord_0 w).mono fun e w' ⟨he, hb⟩ => ⟨_, he, rfl, hb⟩)).mono fun y ⟨r, hr, hy⟩ => by subst hr; exact hy
theorem cw_Cmp2 (ha : a < B128) (hc : c < B128) (hb : b < B128) (hd : d < B128) : HasC Tryz.prog 50 [dU a, dU c, dU b, dU d] (fun y => y = .v (.int .i64 (cmpN (a * B128 + c) (b * B128 + d)))) :=
  (HasC.ofCalls (vs := [.agg #[.int .u64 (hiW a), .int .u64 (loW a)], .agg #[.int .u64 (hiW c), .int .u64 (loW c)], .agg #[.int .u64 (hiW b), .int .u64 (loW b)], .agg #[.int .u64 (hiW d), .int .u64 (loW d)]]) (R := fun r => r = .int .i64 (cmpN (a * B128 + c) (b * B128 + d))) (fun args w => Tryz.call50 args w) rfl
    (fun w => (wide_Cmp2 (isU_hl ha) (isU_hl hc) (isU_hl hb) (isU_hl hd) w).mono fun e w' ⟨he, hb⟩ => ⟨_, he, rfl, hb⟩)).mono fun y ⟨r, hr, hy⟩ => by subst hr; exact hy
theorem cw_Sub2 (ha : a < B128) (hc : c < B128) (hb : b < B128) (hd : d < B128) : HasC Tryz.prog 66 [dU a, dU c, dU b, dU d] (fun y => y = .tup [dU ((a * B128 + c + B128 * B128 - (b * B128 + d)) / B128 % B128), dU ((a * B128 + c + B128 * B128 - (b * B128 + d)) % B128), .v (.int .u64 ((lackN (a * B128 + c) (b * B128 + d) : Nat) : Int))]) :=
  (HasC.ofCalls (vs := [.agg #[.int .u64 (hiW a), .int .u64 (loW a)], .agg #[.int .u64 (hiW c), .int .u64 (loW c)], .agg #[.int .u64 (hiW b), .int .u64 (loW b)], .agg #[.int .u64 (hiW d), .int .u64 (loW d)]]) (R := fun r => r = .tuple #[.agg #[.int .u64 (hiW ((a * B128 + c + B128 * B128 - (b * B128 + d)) / B128 % B128)), .int .u64 (loW ((a * B128 + c + B128 * B128 - (b * B128 + d)) / B128 % B128))], .agg #[.int .u64 (hiW ((a * B128 + c + B128 * B128 - (b * B128 + d)) % B128)), .int .u64 (loW ((a * B128 + c + B128 * B128 - (b * B128 + d)) % B128))], .int .u64 ((lackN (a * B128 + c) (b * B128 + d) : Nat) : Int)]) (fun args w => Tryz.call66 args w) rfl
    (fun w => (wide_Sub2 (isU_hl ha) (isU_hl hc) (isU_hl hb) (isU_hl hd) w).mono fun e w' ⟨p1, p0, q1, q0, r, he, h1, h2, h3, hb⟩ => ⟨_, he, by
      obtain ⟨rfl, rfl⟩ := h1.hl; obtain ⟨rfl, rfl⟩ := h2.hl; obtain rfl := h3.eq; rfl, hb⟩)).mono fun y ⟨r, hr, hy⟩ => by subst hr; exact hy
end

theorem rel_bases {Im : Nat → Nat → Prop} {W : World} : ∀ {ds : List DV} {xs : List Value}, DV.bases ds = some xs → DV.relL Im W ds xs
  | [], xs, h => by simp [DV.bases] at h; subst h; rw [DV.relL]
  | .v x :: ds, xs, h => by
    simp only [DV.bases] at h
    split at h
    · rename_i ys hy
      simp at h
      subst h
      rw [DV.relL]
      exact ⟨x, ys, rfl, by rw [DV.rel], rel_bases hy⟩
    · cases h
  | .sl _ _ :: ds, xs, h => by simp [DV.bases] at h
  | .agg _ :: ds, xs, h => by simp [DV.bases] at h
  | .tup _ :: ds, xs, h => by simp [DV.bases] at h
  | .ifc _ _ :: ds, xs, h => by simp [DV.bases] at h
  | .bx _ :: ds, xs, h => by simp [DV.bases] at h
theorem rel_base {Im : Nat → Nat → Prop} {W : World} {d : DV} {x : Value} (h : d.base = some x) : d.rel Im W x := by
  cases d with
  | v z => simp [DV.base] at h; subst h; rw [DV.rel]
  | agg cs =>
    simp only [DV.base] at h
    split at h
    · rename_i xs hx
      simp at h
      subst h
      rw [DV.rel]
      exact ⟨xs.toArray, rfl, by simpa using rel_bases hx⟩
    · cases h
  | sl n cs => simp [DV.base] at h
  | tup n => simp [DV.base] at h
  | ifc t n => simp [DV.base] at h
  | bx n => simp [DV.base] at h
theorem relL_base {Im : Nat → Nat → Prop} {W : World} : ∀ {ds : List DV} {vs : List Value}, ds.map DV.base = vs.map some → DV.relL Im W ds vs
  | [], [], h => by rw [DV.relL]
  | [], v :: vs, h => by simp at h
  | d :: ds, [], h => by simp at h
  | d :: ds, v :: vs, h => by
    simp only [List.map_cons, List.cons.injEq] at h
    rw [DV.relL]
    exact ⟨v, vs, rfl, rel_base h.1, relL_base h.2⟩

/-- A walk, of a law that is known to say yes. -/
theorem HasC.walk {f : FuncId} {ds : List DV} {vs : List Value} (h : HasC Tryz.prog f ds (fun y => y = .v (.bool true))) (hb : ds.map DV.base = vs.map some) (w : World) (hk : Kw w := by first | exact ⟨.inl (by kernel_rfl), .inl (by kernel_rfl)⟩ | exact ⟨.inl (by kernel_rfl), .inl (by kernel_rfl), .inl (by kernel_rfl)⟩) : Calls Tryz.prog f vs.toArray w fun e w' => e = .returned (.bool true) ∧ Below w.heap.size w w' :=
  (h.2.2 w vs.toArray (fun _ _ => False) hk (fun _ _ h => h.elim) (relL_base hb)).mono fun e w' ⟨r, y, h1, h2, h3, h4⟩ => by
    subst h2
    rw [DV.rel] at h3
    subst h3
    exact ⟨h1, h4⟩
end Go.Proofs.YtmldjlgeeljfdaaGreat
