/-
  casuistlaw20.NumfunSpread.
-/
import Derived.Test.YtmldjlgeeljfdaaNfH
namespace Go.Proofs.Ytmldjlgeeljfdaa
open Go.RowKit
set_option linter.unusedVariables false
set_option linter.unusedSimpArgs false
set_option maxRecDepth 100000

theorem v_Sum0  : HasC Try.prog 28 [.sl ((numL []).length) (encL (numL []))] (fun y => ∃ z v o, y = .tup [z, .v (.bool o)] ∧ IsV z v ∧ v = .null ∧ o = true) := by
 refine HasC.of [] (fn := Try.f28) tyOk mixed (fun args w => Try.call28 args w) Try.func28 rfl (by kernel_rfl) (Nat.le_of_ble_eq_true rfl) (⟨_, _, _, _, rfl, .inl rfl, rfl, rfl⟩) ?_
 refine vc_seqr rfl (iQ 2 (iE 18 [(0, .d (.sl ((numL []).length) (encL (numL [])))), (2, .p 2 0), (3, Ba false)] [(2, [.v (.nilIface)])] ?_))
 refine vc_seq (vc_seqr rfl (iQ 1 (iC 29 [.sl ((numL []).length) (encL (numL []))] (some 8) ((c_numbers (ds := []) (by decide)).toC) ?_)))
 rintro _ rfl
 refine iQ 5 (iE 18 [(0, .d (.sl ((numL []).length) (encL (numL [])))), (2, .p 2 0), (3, Ba false), (5, Ba false)] [(2, [.v (.nilIface)])] ?_)
 refine vc_seqr rfl (iQ 1 (iU .not (.bool false) (some 12) ?_))
 refine all_true ((by simp)) ?_
 refine iE 18 [(0, .d (.sl ((numL []).length) (encL (numL [])))), (2, .p 2 0), (3, Ba false), (12, Ba true)] [(2, [.v (.nilIface)])] ?_
 refine iT (vc_seqr rfl (iQ 3 (iE 18 [(0, .d (.sl ((numL []).length) (encL (numL [])))), (2, .p 2 0), (3, Ba true), (12, Ba true)] [(2, [.v (.nilIface)])] ?_)))
 refine vc_ret (seq_r (iS (.agg [.v (.nilIface)]) (Bv true) [] ?_))
 exact ⟨_, .null, _, rfl, IsV.null, rfl, rfl⟩
theorem nullE {P : Program} {f : FuncId} {ds : List DV} (h : HasC P f ds (fun y => ∃ z v o, y = .tup [z, .v (.bool o)] ∧ IsV z v ∧ v = .null ∧ o = true)) : HasC P f ds (fun y => y = .tup [VV .null, .v (.bool true)]) := (h.isVb (q := fun v o => v = .null ∧ o = true)).mono fun r ⟨v, o, h1, h2, h3⟩ => by rw [h1, h2, h3]
theorem v_Mean0  : HasC Try.prog 12 [.sl ((numL []).length) (encL (numL []))] (fun y => ∃ z v o, y = .tup [z, .v (.bool o)] ∧ IsV z v ∧ v = .null ∧ o = true) := by
 refine HasC.of [] (fn := Try.f12) tyOk mixed (fun args w => Try.call12 args w) Try.func12 rfl (by kernel_rfl) (Nat.le_of_ble_eq_true rfl) (⟨_, _, _, _, rfl, .inl rfl, rfl, rfl⟩) ?_
 refine vc_seqr rfl (iQ 2 (iE 26 [(0, .d (.sl ((numL []).length) (encL (numL [])))), (2, .p 2 0), (3, Ba false)] [(2, [.v (.nilIface)])] ?_))
 refine vc_seqr rfl (iQ 1 (iC 28 [.sl ((numL []).length) (encL (numL []))] (some 8) (nullE v_Sum0) ?_))
 rintro _ rfl
 refine iQ 6 (iE 26 [(0, .d (.sl ((numL []).length) (encL (numL [])))), (2, .p 2 0), (3, Ba false), (4, .p 4 0), (5, Ba true)] [(2, [.v (.nilIface)]), (4, [.bx (Vl.null).enc])] ?_)
 refine vc_seq (vc_seqr rfl (iQ 1 (iU .not (.bool true) (some 12) ?_)))
 refine all_false ((by simp)) ?_
 refine iQ 2 (iC 7 [.agg [.bx (Vl.null).enc]] (some 15) (c_Null .null) ?_)
 rintro _ rfl
 refine iQ 1 (iE 26 [(0, .d (.sl ((numL []).length) (encL (numL [])))), (2, .p 2 0), (3, Ba false), (4, .p 4 0), (5, Ba true), (16, Ba true)] [(2, [.v (.nilIface)]), (4, [.bx (Vl.null).enc])] ?_)
 refine iT (vc_seqr rfl (iQ 4 (iE 26 [(0, .d (.sl ((numL []).length) (encL (numL [])))), (2, .p 2 0), (3, Ba true), (4, .p 4 0), (5, Ba true), (16, Ba true)] [(2, [.v (.nilIface)]), (4, [.bx (Vl.null).enc])] ?_)))
 refine vc_ret (seq_r (iS (.agg [.v (.nilIface)]) (Bv true) [] ?_))
 exact ⟨_, .null, _, rfl, IsV.null, rfl, rfl⟩
theorem v_Spread0  : HasC Try.prog 6 [.sl ((numL []).length) (encL (numL []))] (fun y => ∃ z v o, y = .tup [z, .v (.bool o)] ∧ IsV z v ∧ v = .null ∧ o = true) := by
 refine HasC.of [] (fn := Try.f6) tyOk mixed (fun args w => Try.call6 args w) Try.func6 rfl (by kernel_rfl) (Nat.le_of_ble_eq_true rfl) (⟨_, _, _, _, rfl, .inl rfl, rfl, rfl⟩) ?_
 refine vc_seqr rfl (iQ 2 (iE 80 [(0, .d (.sl ((numL []).length) (encL (numL [])))), (2, .p 2 0), (3, Ba false)] [(2, [.v (.nilIface)])] ?_))
 refine vc_seqr rfl (iQ 1 (iC 12 [.sl ((numL []).length) (encL (numL []))] (some 15) (nullE v_Mean0) ?_))
 rintro _ rfl
 refine iQ 6 (iE 80 [(0, .d (.sl ((numL []).length) (encL (numL [])))), (2, .p 2 0), (3, Ba false), (4, .p 4 0), (5, Ba true)] [(2, [.v (.nilIface)]), (4, [.bx (Vl.null).enc])] ?_)
 refine vc_seq (vc_seqr rfl (iQ 1 (iU .not (.bool true) (some 19) ?_)))
 refine all_false ((by simp)) ?_
 refine iQ 2 (iC 7 [.agg [.bx (Vl.null).enc]] (some 22) (c_Null .null) ?_)
 rintro _ rfl
 refine iQ 6 (iE 80 [(0, .d (.sl ((numL []).length) (encL (numL [])))), (2, .p 2 0), (3, Ba false), (4, .p 4 0), (5, Ba true), (28, Ba true)] [(2, [.v (.nilIface)]), (4, [.bx (Vl.null).enc])] ?_)
 refine iT (vc_seqr rfl (iQ 4 (iE 80 [(0, .d (.sl ((numL []).length) (encL (numL [])))), (2, .p 2 0), (3, Ba true), (4, .p 4 0), (5, Ba true), (28, Ba true)] [(2, [.v (.nilIface)]), (4, [.bx (Vl.null).enc])] ?_)))
 refine vc_ret (seq_r (iS (.agg [.v (.nilIface)]) (Bv true) [] ?_))
 exact ⟨_, .null, _, rfl, IsV.null, rfl, rfl⟩
theorem v_Spread1 {x : D3} (hx : x.e = 0) : HasC Try.prog 6 [.sl ((numL [x]).length) (encL (numL [x]))] (fun y => ∃ z v o, y = .tup [z, .v (.bool o)] ∧ IsV z v ∧ v = .null ∧ o = true) := by
 refine HasC.of [] (fn := Try.f6) tyOk mixed (fun args w => Try.call6 args w) Try.func6 rfl (by kernel_rfl) (Nat.le_of_ble_eq_true rfl) (⟨_, _, _, _, rfl, .inl rfl, rfl, rfl⟩) ?_
 have hL : (numL [x]).length = 1 := rfl
 obtain ⟨m, hm, _⟩ := meanO_up (x := x) (r := []) (by decide) (by decide) hx (by simp)
 refine vc_seqr rfl (iQ 2 (iE 80 [(0, .d (.sl ((numL [x]).length) (encL (numL [x])))), (2, .p 2 0), (3, Ba false)] [(2, [.v (.nilIface)])] ?_))
 refine vc_seqr rfl (iQ 1 (iC 12 [.sl ((numL [x]).length) (encL (numL [x]))] (some 15) (optE (v_Mean (x := x) (r := []) (by decide))) ?_))
 rintro _ ⟨v, o, rfl, hv, ho⟩
 rw [hm] at hv ho
 have ho1 : o = true := ho
 refine iQ 6 (iE 80 [(0, .d (.sl ((numL [x]).length) (encL (numL [x])))), (2, .p 2 0), (3, Ba false), (4, .p 4 0), (5, Ba o)] [(2, [.v (.nilIface)]), (4, [.bx (v).enc])] ?_)
 refine vc_seq (vc_seqr rfl (iQ 1 (iU .not (.bool o) (some 19) ?_)))
 intro c19 hc19
 refine iQ 1 ?_
 cases c19
 ·replace hc19 := bf hc19
  refine iQ 1 (iC 7 [.agg [.bx (v).enc]] (some 22) (c_NullN (x := m) hv) ?_)
  rintro _ rfl
  refine iQ 4 (iB .lss 3 (.int .i64 ((((numL [x]).length : Nat) : Int))) (.int .i64 2) (some 27) ?_)
  refine all_true ((by rw [hL]; decide)) ?_
  refine iQ 1 (iE 80 [(0, .d (.sl ((numL [x]).length) (encL (numL [x])))), (2, .p 2 0), (3, Ba false), (4, .p 4 0), (5, Ba o), (28, Ba true)] [(2, [.v (.nilIface)]), (4, [.bx (v).enc])] ?_)
  refine iT (vc_seqr rfl (iQ 4 (iE 80 [(0, .d (.sl ((numL [x]).length) (encL (numL [x])))), (2, .p 2 0), (3, Ba o), (4, .p 4 0), (5, Ba o), (28, Ba true)] [(2, [.v (.nilIface)]), (4, [.bx (v).enc])] ?_)))
  refine vc_ret (seq_r (iS (.agg [.v (.nilIface)]) (Bv o) [] ?_))
  exact ⟨_, .null, _, rfl, IsV.null, rfl, ho1⟩
 ·replace hc19 := bt hc19
  refine iQ 8 (iE 80 [(0, .d (.sl ((numL [x]).length) (encL (numL [x])))), (2, .p 2 0), (3, Ba false), (4, .p 4 0), (5, Ba o), (28, Ba true)] [(2, [.v (.nilIface)]), (4, [.bx (v).enc])] ?_)
  rw [ho1] at hc19; cases hc19
/-- What the spread of whole numbers is. -/
noncomputable def spreadV (vs : List D3) : Vl :=
  match vs with
  | [] => .null
  | [_] => .null
  | x :: y :: r => if h : (y :: r).length < 1000 then sprV (sprO x (y :: r) h) else .null
theorem c_SpreadW {vs : List D3} (h : vs.length ≤ 6) (he : ∀ x ∈ vs, x.e = 0) : HasC Try.prog 6 [.sl (numL vs).length (encL (numL vs))] (fun y => ∃ v o, y = .tup [VV v, .v (.bool o)] ∧ v = spreadV vs ∧ o = true) := by
  match vs, h, he with
  | [], h, he => exact v_Spread0.isVb (q := fun v o => v = .null ∧ o = true)
  | [x], h, he => exact (v_Spread1 (he x (by simp))).isVb (q := fun v o => v = .null ∧ o = true)
  | x :: y :: r, h, he =>
    have hl : (y :: r).length < 1000 := by simp only [List.length_cons] at h ⊢; omega
    obtain ⟨q, h1, h2⟩ := sprO_up hl (by simp only [List.length_cons] at h ⊢; omega) (by simp) (he x (by simp)) (fun z hz => he z (List.mem_cons_of_mem _ hz))
    refine ((v_Spread (x := x) (r := y :: r) hl (by simp) (fun q' hq => by rw [h1] at hq; cases hq; exact h2)).isVb (q := fun v o => v = sprV (sprO x (y :: r) hl) ∧ o = (sprO x (y :: r) hl).isSome)).mono ?_
    rintro r' ⟨v, o, e1, e2, e3⟩
    refine ⟨v, o, e1, ?_, by rw [e3, h1]; rfl⟩
    rw [e2]
    show _ = if h : _ then _ else _
    rw [dif_pos hl]
/-- Null, or a number that is not below 0. -/
def NoMinus (v : Vl) : Prop := v = .null ∨ ∃ x : D3, v = x.vl ∧ x.g = false
theorem spread_ok {vs : List D3} (h : vs.length ≤ 6) (he : ∀ x ∈ vs, x.e = 0) : NoMinus (spreadV vs) ∧ ((spreadV vs).nullB = true ↔ vs.length < 2) := by
  match vs, h, he with
  | [], h, he => exact ⟨.inl rfl, by simp [spreadV, Vl.nullB]⟩
  | [x], h, he => exact ⟨.inl rfl, by simp [spreadV, Vl.nullB]⟩
  | x :: y :: r, h, he =>
    have hl : (y :: r).length < 1000 := by simp only [List.length_cons] at h ⊢; omega
    obtain ⟨q, h1, h2⟩ := sprO_up hl (by simp only [List.length_cons] at h ⊢; omega) (by simp) (he x (by simp)) (fun z hz => he z (List.mem_cons_of_mem _ hz))
    have e : spreadV (x :: y :: r) = (rootD q).vl := by
      show (if h : _ then _ else _) = _
      rw [dif_pos hl, h1]
      rfl
    rw [e]
    exact ⟨.inr ⟨_, rfl, root_sign q⟩, by simp [D3.vl, Vl.nullB]⟩
/-- Null, or a nought. -/
def NoSize (v : Vl) : Prop := v = .null ∨ ∃ x : D3, v = x.vl ∧ x.n = 0
theorem spread_sevens {k : Nat} (h : k ≤ 6) : NoSize (spreadV (List.replicate k (natD 7 (by decide)))) := by
  match k, h with
  | 0, h => exact .inl rfl
  | 1, h => exact .inl rfl
  | k + 2, h =>
    right
    refine ⟨rootD (natD 0 (by decide)), ?_, root_0⟩
    have hl : (List.replicate (k + 1) (natD 7 (by decide))).length < 1000 := by simp; omega
    have := sprO_sevens hl (by omega)
    rw [List.replicate_succ, List.replicate_succ]
    show (if h : _ then _ else _) = _
    rw [dif_pos (by rw [← List.replicate_succ]; exact hl)]
    simp only [← List.replicate_succ]
    rw [this]
    rfl
theorem v_AsNum0  : HasC Try.prog 8 [.agg [.v (.nilIface)]] (fun r => r = .tup [dDec false 0 0, .v (.bool false)]) := by
 refine HasC.of [] (fn := Try.f8) tyOk mixed (fun args w => Try.call8 args w) Try.func8 rfl (by kernel_rfl) (Nat.le_of_ble_eq_true rfl) (⟨_, rfl⟩) ?_
 refine vc_seqr rfl (iQ 3 (iE 14 [(1, .p 1 0), (2, .p 2 0), (3, Ba false)] [(1, [.v (.nilIface)]), (2, [Bv false, Uv 0, Uv 0, Iv 0])] ?_))
 refine vc_seqr rfl (iQ 9 (iE 14 [(2, .p 2 0), (3, Ba false), (4, .p 4 0), (5, Ba false)] [(2, [Bv false, Uv 0, Uv 0, Iv 0]), (4, [Bv false, Uv 0, Uv 0, Iv 0])] ?_))
 refine vc_seqr rfl (iQ 4 (iE 14 [(2, .p 2 0), (3, Ba false), (4, .p 4 0)] [(2, [Bv false, Uv 0, Uv 0, Iv 0]), (4, [Bv false, Uv 0, Uv 0, Iv 0])] ?_))
 refine vc_ret (iS (.agg [Bv false, Uv 0, Uv 0, Iv 0]) (Bv false) [] ?_)
 rfl
theorem c_AsNumNull : HasC Try.prog 8 [VV .null] (fun r => r = .tup [dDec false 0 0, .v (.bool false)]) := HasC.ub (by have := v_AsNum0; rwa [show DV.v .nilIface = Vl.null.enc by rw [Vl.enc]] at this)
theorem c_AsNumS {v : Vl} (h : NoMinus v) : HasC Try.prog 8 [VV v] (fun r => ∃ g n e ok, r = .tup [dDec g n e, .v (.bool ok)] ∧ n < B128 ∧ g = false) := by
  rcases h with rfl | ⟨x, rfl, hx⟩
  · exact c_AsNumNull.mono fun r hr => ⟨_, _, _, _, hr, by decide, rfl⟩
  · exact c_AsNumN.mono fun r hr => ⟨_, _, _, _, hr, x.ltB, hx⟩
theorem c_AsNumZ {v : Vl} (h : NoSize v) : HasC Try.prog 8 [VV v] (fun r => ∃ g n e ok, r = .tup [dDec g n e, .v (.bool ok)] ∧ n < B128 ∧ n = 0) := by
  rcases h with rfl | ⟨x, rfl, hx⟩
  · exact c_AsNumNull.mono fun r hr => ⟨_, _, _, _, hr, by decide, rfl⟩
  · exact c_AsNumN.mono fun r hr => ⟨_, _, _, _, hr, x.ltB, hx⟩
end Go.Proofs.Ytmldjlgeeljfdaa
