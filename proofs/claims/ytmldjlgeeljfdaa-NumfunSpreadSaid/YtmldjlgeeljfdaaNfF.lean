/-
  numfun: sums, means and spreads of numbers.
-/
import Derived.Test.YtmldjlgeeljfdaaNfB
namespace Go.Proofs.Ytmldjlgeeljfdaa
open Go.RowKit
set_option linter.unusedVariables false
set_option linter.unusedSimpArgs false
set_option maxRecDepth 100000

/-- A sum, one by one: none, if one is too great. -/
noncomputable def sumO : D3 → List D3 → Option D3
  | a, [] => some a
  | a, x :: r => (fitO (addX a x)).bind fun b => sumO b r
/-- A natural number. -/
def natD (n : Nat) (h : n < 1000000000) : D3 := ⟨(false, n, 0), by show n < E34; unfold E34; omega, by show (-6176 : Int) ≤ 0; decide, by show (0 : Int) ≤ 6111; decide, fun h => by cases h⟩
theorem natD_vl {n : Nat} (h : n < 1000000000) : intV (n : Int) = (natD n h).vl := by
  have : decide ((n : Int) < 0) = false := by simp
  simp only [intV, natD, D3.vl, this, Int.natAbs_natCast]
noncomputable def meanO (x : D3) (r : List D3) (h : r.length < 1000) : Option D3 := (sumO x r).bind fun s => fitO (divX s (natD (r.length + 1) (by omega)))
theorem sumO_step {a x : D3} {r : List D3} {k : Nat} (h : r[k]? = some x) : sumO a (r.drop k) = (fitO (addX a x)).bind fun b => sumO b (r.drop (k + 1)) := by
  obtain ⟨h1, h2⟩ := List.getElem?_eq_some_iff.1 h
  rw [List.drop_eq_getElem_cons h1, h2, sumO]
theorem v_fold {x : D3} {r : List D3} (h : r.length < 1000) : HasC Try.prog 52 [.v (.string (⟨#[43]⟩)), .sl ((numL (x :: r)).length) (encL (numL (x :: r)))] (fun y => ∃ z v o, y = .tup [z, .v (.bool o)] ∧ IsV z v ∧ v = optV (sumO x r) ∧ o = (sumO x r).isSome) := by
 refine HasC.of [] (fn := Try.f52) tyOk mixed (fun args w => Try.call52 args w) Try.func52 rfl (by kernel_rfl) (Nat.le_of_ble_eq_true rfl) (⟨_, _, _, _, rfl, .inl rfl, rfl, rfl⟩) ?_
 have hL : (numL (x :: r)).length = r.length + 1 := by simp
 have hL2 : (numL r).length = r.length := by simp
 refine vc_seqr rfl (iQ 2 (iE 34 [(0, .d (Sv (⟨#[43]⟩))), (1, .d (.sl ((numL (x :: r)).length) (encL (numL (x :: r))))), (4, .p 4 0), (5, Ba false)] [(4, [.v (.nilIface)])] ?_))
 refine vc_seqr rfl (iQ 1 (vcI_idx1 (q := 0) (n := ((numL (x :: r)).length)) (cs := (encL (numL (x :: r)))) (d := .bx (Vl.num (x).g (x).n (x).e).enc) (dst := (some 12)) (by kernel_rfl) (by omega) (encL_get1 (numL_get rfl)) ?_))
 refine iQ 3 (iE 34 [(0, .d (Sv (⟨#[43]⟩))), (1, .d (.sl ((numL (x :: r)).length) (encL (numL (x :: r))))), (4, .p 4 0), (5, Ba false), (6, .p 6 0)] [(4, [.v (.nilIface)]), (6, [.bx (Vl.num (x).g (x).n (x).e).enc])] ?_)
 refine vc_seq (vc_seqr rfl (iQ 1 (vcI_sl (l := 1) (u := ((((numL (x :: r)).length : Nat) : Int))) (n := ((numL (x :: r)).length)) (cs := (encL (numL (x :: r)))) (z := 1) (m := ((numL r).length)) (ds := (encL (numL r))) (dst := (some 15)) (by kernel_rfl) (by omega) (by omega) (by simp [numL, encL, List.take_of_length_le]) ?_)))
 refine iQ 2 (iE 34 [(0, .d (Sv (⟨#[43]⟩))), (1, .d (.sl ((numL (x :: r)).length) (encL (numL (x :: r))))), (4, .p 4 0), (5, Ba false), (6, .p 6 0), (15, .d (.sl ((numL r).length) (encL (numL r)))), (16, Ia ((((numL r).length : Nat) : Int))), (17, Ia 0)] [(4, [.v (.nilIface)]), (6, [.bx (Vl.num (x).g (x).n (x).e).enc])] ?_)
 refine vc_block (vc_loop 34 (fun (vcx : Nat × Int × Vl) => match vcx with | (k, z, v) => [(0, .d (Sv (⟨#[43]⟩))), (1, .d (.sl ((numL (x :: r)).length) (encL (numL (x :: r))))), (4, .p 4 0), (5, Ba false), (6, .p 6 0), (15, .d (.sl ((numL r).length) (encL (numL r)))), (16, Ia ((((numL r).length : Nat) : Int))), (17, Ia z)]) (fun (vcx : Nat × Int × Vl) => match vcx with | (k, z, v) => [(4, [.v (.nilIface)]), (6, [.bx (v).enc])]) (fun (vcx : Nat × Int × Vl) => match vcx with | (k, z, v) => ∃ a : D3, v = a.vl ∧ z = k ∧ k ≤ r.length ∧ sumO a (r.drop k) = sumO x r) (fun (vcx : Nat × Int × Vl) => match vcx with | (k, z, v) => r.length - k) ((0, 0, x.vl)) (⟨x, rfl, rfl, Nat.zero_le _, rfl⟩) (by kernel_rfl) (by kernel_rfl) ?_)
 rintro ⟨k, z, v⟩ hinv
 simp only at hinv
 obtain ⟨a, ha, h1, h2, h3⟩ := hinv
 refine vc_seqr rfl (iB .lss 3 (.int .i64 z) (.int .i64 ((((numL r).length : Nat) : Int))) (some 18) ?_)
 intro c18 hc18
 refine iE 34 [(0, .d (Sv (⟨#[43]⟩))), (1, .d (.sl ((numL (x :: r)).length) (encL (numL (x :: r))))), (4, .p 4 0), (5, Ba false), (6, .p 6 0), (15, .d (.sl ((numL r).length) (encL (numL r)))), (16, Ia ((((numL r).length : Nat) : Int))), (17, Ia z), (18, Ba c18)] [(4, [.v (.nilIface)]), (6, [.bx (v).enc])] ?_
 refine vc_seq ?_
 cases c18
 ·replace hc18 := bf hc18
  have h4 : sumO x r = some a := by rw [← h3, List.drop_eq_nil_of_le (by omega), sumO]
  refine iF (vc_exit (seq_x (loop_x (block_x rfl (seq_n (vc_seqr rfl (iQ 3 (iE 34 [(0, .d (Sv (⟨#[43]⟩))), (1, .d (.sl ((numL (x :: r)).length) (encL (numL (x :: r))))), (4, .p 4 0), (5, Ba true), (6, .p 6 0), (15, .d (.sl ((numL r).length) (encL (numL r)))), (16, Ia ((((numL r).length : Nat) : Int))), (17, Ia z), (18, Ba false)] [(4, [.bx (v).enc]), (6, [.bx (v).enc])] ?_))))))))
  refine vc_ret (iS (.agg [.bx (v).enc]) (Bv true) [] ?_)
  exact ⟨_, _, _, rfl, .inl rfl, by rw [h4, ha]; rfl, by rw [h4]; rfl⟩
 ·replace hc18 := bt hc18
  obtain ⟨y2, hy⟩ : ∃ y, r[k]? = some y := ⟨_, List.getElem?_eq_getElem (by omega)⟩
  rw [sumO_step hy] at h3
  refine iT (vc_skip (seq_n (vc_seq (vc_block (vc_seqr rfl (vcI_idx1 (q := z) (n := ((numL r).length)) (cs := (encL (numL r))) (d := .bx (Vl.num (y2).g (y2).n (y2).e).enc) (dst := (some 19)) (by kernel_rfl) (by omega) (by rw [h1, Int.toNat_natCast]; exact encL_get1 (numL_get hy)) ?_))))))
  refine iQ 3 (iE 34 [(0, .d (Sv (⟨#[43]⟩))), (1, .d (.sl ((numL (x :: r)).length) (encL (numL (x :: r))))), (4, .p 4 0), (5, Ba false), (6, .p 6 0), (8, .p 8 0), (15, .d (.sl ((numL r).length) (encL (numL r)))), (16, Ia ((((numL r).length : Nat) : Int))), (17, Ia z), (18, Ba true)] [(4, [.v (.nilIface)]), (6, [.bx (v).enc]), (8, [.bx (Vl.num (y2).g (y2).n (y2).e).enc])] ?_)
  refine vc_seqr rfl (iQ 3 (iC 11 [Sv (⟨#[43]⟩), .agg [.bx (v).enc], .agg [.bx (Vl.num (y2).g (y2).n (y2).e).enc]] (some 25) (c_NAddE (y := y2) ha rfl) ?_))
  rintro _ ⟨v2, o2, rfl, hv2, ho2⟩
  refine iQ 6 (iE 34 [(0, .d (Sv (⟨#[43]⟩))), (1, .d (.sl ((numL (x :: r)).length) (encL (numL (x :: r))))), (4, .p 4 0), (5, Ba false), (6, .p 6 0), (8, .p 8 0), (9, .p 9 0), (10, Ba o2), (15, .d (.sl ((numL r).length) (encL (numL r)))), (16, Ia ((((numL r).length : Nat) : Int))), (17, Ia z), (18, Ba true)] [(4, [.v (.nilIface)]), (6, [.bx (v).enc]), (8, [.bx (Vl.num (y2).g (y2).n (y2).e).enc]), (9, [.bx (v2).enc])] ?_)
  refine vc_seq (vc_seqr rfl (iQ 1 (iU .not (.bool o2) (some 29) ?_)))
  intro c29 hc29
  refine iE 34 [(0, .d (Sv (⟨#[43]⟩))), (1, .d (.sl ((numL (x :: r)).length) (encL (numL (x :: r))))), (4, .p 4 0), (5, Ba false), (6, .p 6 0), (8, .p 8 0), (9, .p 9 0), (10, Ba o2), (15, .d (.sl ((numL r).length) (encL (numL r)))), (16, Ia ((((numL r).length : Nat) : Int))), (17, Ia z), (18, Ba true), (29, Ba c29)] [(4, [.v (.nilIface)]), (6, [.bx (v).enc]), (8, [.bx (Vl.num (y2).g (y2).n (y2).e).enc]), (9, [.bx (v2).enc])] ?_
  cases c29
  ·replace hc29 := bf hc29
   obtain ⟨d, q1, q2⟩ := opt_yes hv2 ho2 (by simpa using hc29)
   refine iF (vc_skip (seq_n (vc_reg rfl (iQ 2 (iE 34 [(0, .d (Sv (⟨#[43]⟩))), (1, .d (.sl ((numL (x :: r)).length) (encL (numL (x :: r))))), (4, .p 4 0), (5, Ba false), (6, .p 6 0), (8, .p 8 0), (9, .p 9 0), (10, Ba o2), (15, .d (.sl ((numL r).length) (encL (numL r)))), (16, Ia ((((numL r).length : Nat) : Int))), (17, Ia z), (18, Ba true), (29, Ba false)] [(4, [.v (.nilIface)]), (6, [.bx (v2).enc]), (8, [.bx (Vl.num (y2).g (y2).n (y2).e).enc]), (9, [.bx (v2).enc])] ?_)))))
   refine block_n (seq_n (vc_reg rfl (iB .add 3 (.int .i64 z) (.int .i64 1) (some 32) ?_)))
   intro z32 hz32
   try replace hz32 := hz32.i64 (by omega)
   refine iQ 1 (iE 34 [(0, .d (Sv (⟨#[43]⟩))), (1, .d (.sl ((numL (x :: r)).length) (encL (numL (x :: r))))), (4, .p 4 0), (5, Ba false), (6, .p 6 0), (8, .p 8 0), (9, .p 9 0), (10, Ba o2), (15, .d (.sl ((numL r).length) (encL (numL r)))), (16, Ia ((((numL r).length : Nat) : Int))), (17, Ia z32), (18, Ba true), (29, Ba false)] [(4, [.v (.nilIface)]), (6, [.bx (v2).enc]), (8, [.bx (Vl.num (y2).g (y2).n (y2).e).enc]), (9, [.bx (v2).enc])] ?_)
   refine loop_n (k + 1, z32, v2) (⟨d, q2, by omega, by omega, by rw [← h3, q1]; rfl⟩) (by simp only; omega) (by kernel_rfl) (by kernel_rfl)
  ·replace hc29 := bt hc29
   obtain ⟨q1, q2⟩ := opt_no hv2 ho2 (by simpa using hc29)
   refine iT (vc_seqr rfl (iQ 3 (iE 34 [(0, .d (Sv (⟨#[43]⟩))), (1, .d (.sl ((numL (x :: r)).length) (encL (numL (x :: r))))), (4, .p 4 0), (5, Ba false), (6, .p 6 0), (8, .p 8 0), (9, .p 9 0), (10, Ba o2), (15, .d (.sl ((numL r).length) (encL (numL r)))), (16, Ia ((((numL r).length : Nat) : Int))), (17, Ia z), (18, Ba true), (29, Ba true)] [(4, [.v (.nilIface)]), (6, [.bx (v).enc]), (8, [.bx (Vl.num (y2).g (y2).n (y2).e).enc]), (9, [.bx (v2).enc])] ?_)))
   refine vc_ret (seq_r (block_r (seq_r (loop_r (block_r (seq_r (iS (.agg [.v (.nilIface)]) (Bv false) [] ?_)))))))
   exact ⟨_, .null, _, rfl, IsV.null, by rw [← h3, q1]; rfl, by rw [← h3, q1]; rfl⟩
theorem optE {P : Program} {f : FuncId} {ds : List DV} {o : Option D3} (h : HasC P f ds (fun y => ∃ z v b, y = .tup [z, .v (.bool b)] ∧ IsV z v ∧ v = optV o ∧ b = o.isSome)) : HasC P f ds (fun y => ∃ v b, y = .tup [VV v, .v (.bool b)] ∧ v = optV o ∧ b = o.isSome) := h.isVb (q := fun v b => v = optV o ∧ b = o.isSome)
theorem v_Sum {x : D3} {r : List D3} (h : r.length < 1000) : HasC Try.prog 28 [.sl ((numL (x :: r)).length) (encL (numL (x :: r)))] (fun y => ∃ z v o, y = .tup [z, .v (.bool o)] ∧ IsV z v ∧ v = optV (sumO x r) ∧ o = (sumO x r).isSome) := by
 refine HasC.of [] (fn := Try.f28) tyOk mixed (fun args w => Try.call28 args w) Try.func28 rfl (by kernel_rfl) (Nat.le_of_ble_eq_true rfl) (⟨_, _, _, _, rfl, .inl rfl, rfl, rfl⟩) ?_
 refine vc_seqr rfl (iQ 2 (iE 18 [(0, .d (.sl ((numL (x :: r)).length) (encL (numL (x :: r))))), (2, .p 2 0), (3, Ba false)] [(2, [.v (.nilIface)])] ?_))
 refine vc_seq (vc_seqr rfl (iQ 1 (iC 29 [.sl ((numL (x :: r)).length) (encL (numL (x :: r)))] (some 8) ((c_numbers (ds := x :: r) (by simp; omega)).toC) ?_)))
 rintro _ rfl
 refine iQ 5 (iE 18 [(0, .d (.sl ((numL (x :: r)).length) (encL (numL (x :: r))))), (2, .p 2 0), (3, Ba false), (5, Ba (decide (0 < (x :: r).length)))] [(2, [.v (.nilIface)])] ?_)
 refine vc_seqr rfl (iQ 1 (iU .not (.bool (decide (0 < (x :: r).length))) (some 12) ?_))
 refine all_false ((by simp)) ?_
 refine iE 18 [(0, .d (.sl ((numL (x :: r)).length) (encL (numL (x :: r))))), (2, .p 2 0), (3, Ba false), (12, Ba false)] [(2, [.v (.nilIface)])] ?_
 refine iF (vc_skip (seq_n (vc_seqr rfl (iQ 1 (iC 52 [Sv (⟨#[43]⟩), .sl ((numL (x :: r)).length) (encL (numL (x :: r)))] (some 15) (optE (v_fold (x := x) h)) ?_)))))
 rintro _ ⟨v, o, rfl, hv, ho⟩
 refine iQ 4 (iE 18 [(0, .d (.sl ((numL (x :: r)).length) (encL (numL (x :: r))))), (2, .p 2 0), (3, Ba o), (12, Ba false)] [(2, [.bx (v).enc])] ?_)
 refine vc_ret (iS (.agg [.bx (v).enc]) (Bv o) [] ?_)
 exact ⟨_, _, _, rfl, .inl rfl, hv, ho⟩
theorem v_Mean {x : D3} {r : List D3} (h : r.length < 1000) : HasC Try.prog 12 [.sl ((numL (x :: r)).length) (encL (numL (x :: r)))] (fun y => ∃ z v o, y = .tup [z, .v (.bool o)] ∧ IsV z v ∧ v = optV (meanO x r h) ∧ o = (meanO x r h).isSome) := by
 refine HasC.of [] (fn := Try.f12) tyOk mixed (fun args w => Try.call12 args w) Try.func12 rfl (by kernel_rfl) (Nat.le_of_ble_eq_true rfl) (⟨_, _, _, _, rfl, .inl rfl, rfl, rfl⟩) ?_
 have hL : (numL (x :: r)).length = r.length + 1 := by simp
 refine vc_seqr rfl (iQ 2 (iE 26 [(0, .d (.sl ((numL (x :: r)).length) (encL (numL (x :: r))))), (2, .p 2 0), (3, Ba false)] [(2, [.v (.nilIface)])] ?_))
 refine vc_seqr rfl (iQ 1 (iC 28 [.sl ((numL (x :: r)).length) (encL (numL (x :: r)))] (some 8) (optE (v_Sum (x := x) h)) ?_))
 rintro _ ⟨v, o, rfl, hv, ho⟩
 refine iQ 6 (iE 26 [(0, .d (.sl ((numL (x :: r)).length) (encL (numL (x :: r))))), (2, .p 2 0), (3, Ba false), (4, .p 4 0), (5, Ba o)] [(2, [.v (.nilIface)]), (4, [.bx (v).enc])] ?_)
 refine vc_seq (vc_seqr rfl (iQ 1 (iU .not (.bool o) (some 12) ?_)))
 intro c12 hc12
 refine iQ 1 ?_
 cases c12
 ·replace hc12 := bf hc12
  refine iQ 1 ?_
  obtain ⟨d, q1, q2⟩ := opt_yes hv ho (by simpa using hc12)
  refine iC 7 [.agg [.bx (v).enc]] (some 15) (c_NullN q2) ?_
  rintro _ rfl
  have hw : intV (((numL (x :: r)).length : Nat) : Int) = (natD (r.length + 1) (by omega)).vl := by rw [hL]; exact natD_vl (by omega)
  refine iQ 1 (iE 26 [(0, .d (.sl ((numL (x :: r)).length) (encL (numL (x :: r))))), (2, .p 2 0), (3, Ba false), (4, .p 4 0), (5, Ba o), (16, Ba false)] [(2, [.v (.nilIface)]), (4, [.bx (v).enc])] ?_)
  refine iF (vc_skip (seq_n (vc_seqr rfl (iQ 3 (iC 5 [Iv ((((numL (x :: r)).length : Nat) : Int))] (some 22) (c_vInt (x := (((numL (x :: r)).length : Nat) : Int)) (by omega) (by omega)) ?_)))))
  rintro _ rfl
  refine iC 11 [Sv (⟨#[47]⟩), .agg [.bx (v).enc], .agg [.bx (intV (((numL (x :: r)).length : Nat) : Int)).enc]] (some 23) (c_NDivE (y := natD (r.length + 1) (by omega)) q2 hw (Nat.succ_ne_zero _)) ?_
  rintro _ ⟨v2, o2, rfl, hv2, ho2⟩
  refine iQ 4 (iE 26 [(0, .d (.sl ((numL (x :: r)).length) (encL (numL (x :: r))))), (2, .p 2 0), (3, Ba o2), (4, .p 4 0), (5, Ba o), (16, Ba false)] [(2, [.bx (v2).enc]), (4, [.bx (v).enc])] ?_)
  refine vc_ret (iS (.agg [.bx (v2).enc]) (Bv o2) [] ?_)
  exact ⟨_, _, _, rfl, .inl rfl, by rw [meanO, q1]; exact hv2, by rw [meanO, q1]; exact ho2⟩
 ·replace hc12 := bt hc12
  refine iQ 3 (iE 26 [(0, .d (.sl ((numL (x :: r)).length) (encL (numL (x :: r))))), (2, .p 2 0), (3, Ba false), (4, .p 4 0), (5, Ba o), (16, Ba true)] [(2, [.v (.nilIface)]), (4, [.bx (v).enc])] ?_)
  obtain ⟨q1, q2⟩ := opt_no hv ho (by simpa using hc12)
  have hm : meanO x r h = none := by rw [meanO, q1]; rfl
  refine iT (vc_seqr rfl (iQ 4 (iE 26 [(0, .d (.sl ((numL (x :: r)).length) (encL (numL (x :: r))))), (2, .p 2 0), (3, Ba o), (4, .p 4 0), (5, Ba o), (16, Ba true)] [(2, [.v (.nilIface)]), (4, [.bx (v).enc])] ?_)))
  refine vc_ret (seq_r (iS (.agg [.v (.nilIface)]) (Bv o) [] ?_))
  exact ⟨_, .null, _, rfl, IsV.null, by rw [hm]; rfl, by rw [hm, ho, q1]; first | done | rfl⟩
/-- The sum of the squares of how far numbers are from one. -/
noncomputable def devO (m : D3) : D3 → List D3 → Option D3
  | a, [] => some a
  | a, x :: r => (fitO (subX x m)).bind fun d => (fitO (mulX d d)).bind fun q => (fitO (addX a q)).bind fun b => devO m b r
theorem devO_step {m a x : D3} {r : List D3} {k : Nat} (h : r[k]? = some x) : devO m a (r.drop k) = (fitO (subX x m)).bind fun d => (fitO (mulX d d)).bind fun q => (fitO (addX a q)).bind fun b => devO m b (r.drop (k + 1)) := by
  obtain ⟨h1, h2⟩ := List.getElem?_eq_some_iff.1 h
  rw [List.drop_eq_getElem_cons h1, h2, devO]
/-- What is under the spread's root. -/
noncomputable def sprO (x : D3) (r : List D3) (h : r.length < 1000) : Option D3 :=
  (meanO x r h).bind fun m => (devO m (natD 0 (by decide)) (x :: r)).bind fun s => fitO (divX s (natD r.length (by omega)))
noncomputable def rootX (x : D3) : T4 := rootT x.n x.e
theorem rootT_may {a : Nat} {x : Int} {g : Bool} {k : Nat} {e : Int} {ok : Bool} (h : rootT a x = (g, k, e, ok)) : May g k e := by
  unfold rootT at h
  split at h
  · exact may_of (fitT_range h)
  · exact may_of (fitT_range h)
/-- A root, of a number that is not below 0. -/
noncomputable def rootD (x : D3) : D3 := ⟨((rootX x).1, (rootX x).2.1, (rootX x).2.2.1), rootT_may rfl⟩
theorem c_qRootN {x : D3} (hx : x.g = false) : HasC Try.prog 41 [dDec x.g x.n x.e] (fun y => y = .tup [dDec (rootX x).1 (rootX x).2.1 (rootX x).2.2.1, .v (.bool (rootX x).2.2.2)]) :=
  (c_qRoot x.lt (by have := x.lo; omega) (by have := x.hi; omega)).mono fun y hy => by rw [hy, qRootT, if_neg (fun h => by rw [hx] at h; cases h.2)]; rfl
theorem v_Root {x : D3} (hx : x.g = false) : HasC Try.prog 20 [.agg [.bx (Vl.num (x).g (x).n (x).e).enc]] (fun y => y = VV (rootD x).vl) := by
 refine HasC.of [] (fn := Try.f20) tyOk mixed (fun args w => Try.call20 args w) Try.func20 rfl (by kernel_rfl) (Nat.le_of_ble_eq_true rfl) (⟨_, rfl⟩) ?_
 refine vc_seqr rfl (iQ 2 (iE 27 [(1, .p 1 0), (2, .p 2 0)] [(1, [.bx (Vl.num (x).g (x).n (x).e).enc]), (2, [.v (.nilIface)])] ?_))
 refine vc_seqr rfl (iQ 1 (iC 8 [.agg [.bx (Vl.num (x).g (x).n (x).e).enc]] (some 9) (c_AsNumN) ?_))
 rintro _ rfl
 refine iQ 6 (iE 27 [(2, .p 2 0), (3, .p 3 0), (4, Ba true)] [(2, [.v (.nilIface)]), (3, [Bv ((x).g), Hw ((x).n), Lw ((x).n), Iv ((x).e)])] ?_)
 refine vc_seq (vc_seqr rfl (iQ 1 (iU .not (.bool true) (some 13) ?_)))
 refine all_false ((by simp)) ?_
 refine iQ 2 (iC 9 [.agg [Bv ((x).g), Hw ((x).n), Lw ((x).n), Iv ((x).e)]] (some 16) (c_SignT x.ltB) ?_)
 rintro _ rfl
 have hs : 0 ≤ sgnT x.g x.n := by rw [hx]; unfold sgnT; split <;> simp
 refine iB .lss 3 (.int .i64 (sgnT x.g x.n)) (.int .i64 0) (some 17) ?_
 refine all_false ((by omega)) ?_
 refine iQ 1 (iE 27 [(2, .p 2 0), (3, .p 3 0), (18, Ba false)] [(2, [.v (.nilIface)]), (3, [Bv ((x).g), Hw ((x).n), Lw ((x).n), Iv ((x).e)])] ?_)
 refine iF (vc_skip (seq_n (vc_seqr rfl (iQ 1 (iC 41 [.agg [Bv ((x).g), Hw ((x).n), Lw ((x).n), Iv ((x).e)]] (some 22) (c_qRootN hx) ?_)))))
 rintro _ rfl
 refine iQ 6 (iE 27 [(2, .p 2 0), (3, .p 3 0), (5, .p 5 0), (18, Ba false)] [(2, [.v (.nilIface)]), (3, [Bv ((x).g), Hw ((x).n), Lw ((x).n), Iv ((x).e)]), (5, [Bv ((rootX x).1), Hw ((rootX x).2.1), Lw ((rootX x).2.1), Iv ((rootX x).2.2.1)])] ?_)
 refine vc_seqr rfl (iQ 1 (iC 19 [.agg [Bv ((rootX x).1), Hw ((rootX x).2.1), Lw ((rootX x).2.1), Iv ((rootX x).2.2.1)]] (some 26) (c_vNumD (rootD x)) ?_))
 rintro _ rfl
 refine iQ 1 (iE 27 [(2, .p 2 0), (3, .p 3 0), (5, .p 5 0), (18, Ba false)] [(2, [.bx (Vl.num (rootD x).g (rootD x).n (rootD x).e).enc]), (3, [Bv ((x).g), Hw ((x).n), Lw ((x).n), Iv ((x).e)]), (5, [Bv ((rootX x).1), Hw ((rootX x).2.1), Lw ((rootX x).2.1), Iv ((rootX x).2.2.1)])] ?_)
 refine vc_ret (iR (.agg [.bx (Vl.num (rootD x).g (rootD x).n (rootD x).e).enc]) ?_)
 rfl
theorem c_RootE {v : Vl} {x : D3} (hv : v = x.vl) (hx : x.g = false) : HasC Try.prog 20 [VV v] (fun y => y = VV (.num (rootD x).g (rootD x).n (rootD x).e)) := by subst hv; exact v_Root hx
noncomputable def sprV : Option D3 → Vl
  | some q => (rootD q).vl
  | none => .null
theorem v_Spread {x : D3} {r : List D3} (h : r.length < 1000) (h1 : 0 < r.length) (hg : ∀ q, sprO x r h = some q → q.g = false) : HasC Try.prog 6 [.sl ((numL (x :: r)).length) (encL (numL (x :: r)))] (fun y => ∃ z v o, y = .tup [z, .v (.bool o)] ∧ IsV z v ∧ v = sprV (sprO x r h) ∧ o = (sprO x r h).isSome) := by
 refine HasC.of [] (fn := Try.f6) tyOk mixed (fun args w => Try.call6 args w) Try.func6 rfl (by kernel_rfl) (Nat.le_of_ble_eq_true rfl) (⟨_, _, _, _, rfl, .inl rfl, rfl, rfl⟩) ?_
 have hL : (numL (x :: r)).length = r.length + 1 := by simp
 refine vc_seqr rfl (iQ 2 (iE 80 [(0, .d (.sl ((numL (x :: r)).length) (encL (numL (x :: r))))), (2, .p 2 0), (3, Ba false)] [(2, [.v (.nilIface)])] ?_))
 refine vc_seqr rfl (iQ 1 (iC 12 [.sl ((numL (x :: r)).length) (encL (numL (x :: r)))] (some 15) (optE (v_Mean (x := x) h)) ?_))
 rintro _ ⟨m, o, rfl, hv, ho⟩
 refine iQ 6 (iE 80 [(0, .d (.sl ((numL (x :: r)).length) (encL (numL (x :: r))))), (2, .p 2 0), (3, Ba false), (4, .p 4 0), (5, Ba o)] [(2, [.v (.nilIface)]), (4, [.bx (m).enc])] ?_)
 refine vc_seq (vc_seqr rfl (iQ 1 (iU .not (.bool o) (some 19) ?_)))
 intro c19 hc19
 refine iQ 1 ?_
 cases c19
 ·replace hc19 := bf hc19
  refine iQ 1 ?_
  obtain ⟨dm, q1, q2⟩ := opt_yes hv ho (by simpa using hc19)
  refine iC 7 [.agg [.bx (m).enc]] (some 22) (c_NullN q2) ?_
  rintro _ rfl
  refine iQ 4 (iB .lss 3 (.int .i64 ((((numL (x :: r)).length : Nat) : Int))) (.int .i64 2) (some 27) ?_)
  refine all_false ((by omega)) ?_
  refine iQ 1 (iE 80 [(0, .d (.sl ((numL (x :: r)).length) (encL (numL (x :: r))))), (2, .p 2 0), (3, Ba false), (4, .p 4 0), (5, Ba o), (28, Ba false)] [(2, [.v (.nilIface)]), (4, [.bx (m).enc])] ?_)
  refine iF (vc_skip (seq_n (vc_seqr rfl (iC 5 [Iv 0] (some 31) (c_vInt (x := 0) (by decide) (by decide)) ?_))))
  rintro _ rfl
  refine iQ 2 (iE 80 [(0, .d (.sl ((numL (x :: r)).length) (encL (numL (x :: r))))), (2, .p 2 0), (3, Ba false), (4, .p 4 0), (5, Ba o), (6, .p 6 0), (28, Ba false)] [(2, [.v (.nilIface)]), (4, [.bx (m).enc]), (6, [.bx (intV 0).enc])] ?_)
  refine vc_seq (vc_seqr rfl (iQ 3 (iE 80 [(0, .d (.sl ((numL (x :: r)).length) (encL (numL (x :: r))))), (2, .p 2 0), (3, Ba false), (4, .p 4 0), (5, Ba o), (6, .p 6 0), (28, Ba false), (32, .d (.sl ((numL (x :: r)).length) (encL (numL (x :: r))))), (33, Ia ((((numL (x :: r)).length : Nat) : Int))), (34, Ia 0)] [(2, [.v (.nilIface)]), (4, [.bx (m).enc]), (6, [.bx (intV 0).enc])] ?_)))
  refine vc_block (vc_loop 80 (fun (vcx : Nat × Int × Vl) => match vcx with | (k, z, v) => [(0, .d (.sl ((numL (x :: r)).length) (encL (numL (x :: r))))), (2, .p 2 0), (3, Ba false), (4, .p 4 0), (5, Ba o), (6, .p 6 0), (28, Ba false), (32, .d (.sl ((numL (x :: r)).length) (encL (numL (x :: r))))), (33, Ia ((((numL (x :: r)).length : Nat) : Int))), (34, Ia z)]) (fun (vcx : Nat × Int × Vl) => match vcx with | (k, z, v) => [(2, [.v (.nilIface)]), (4, [.bx (m).enc]), (6, [.bx (v).enc])]) (fun (vcx : Nat × Int × Vl) => match vcx with | (k, z, v) => ∃ a : D3, v = a.vl ∧ z = k ∧ k ≤ r.length + 1 ∧ devO dm a ((x :: r).drop k) = devO dm (natD 0 (by decide)) (x :: r)) (fun (vcx : Nat × Int × Vl) => match vcx with | (k, z, v) => r.length + 1 - k) ((0, 0, intV 0)) (⟨natD 0 (by decide), natD_vl (n := 0) (by decide), rfl, Nat.zero_le _, rfl⟩) (by kernel_rfl) (by kernel_rfl) ?_)
  rintro ⟨k, z, v⟩ hinv
  simp only at hinv
  obtain ⟨a, ha, i1, i2, i3⟩ := hinv
  refine vc_seqr rfl (iB .lss 3 (.int .i64 z) (.int .i64 ((((numL (x :: r)).length : Nat) : Int))) (some 35) ?_)
  intro c35 hc35
  refine iE 80 [(0, .d (.sl ((numL (x :: r)).length) (encL (numL (x :: r))))), (2, .p 2 0), (3, Ba false), (4, .p 4 0), (5, Ba o), (6, .p 6 0), (28, Ba false), (32, .d (.sl ((numL (x :: r)).length) (encL (numL (x :: r))))), (33, Ia ((((numL (x :: r)).length : Nat) : Int))), (34, Ia z), (35, Ba c35)] [(2, [.v (.nilIface)]), (4, [.bx (m).enc]), (6, [.bx (v).enc])] ?_
  refine vc_seq ?_
  cases c35
  ·replace hc35 := bf hc35
   have h4 : devO dm (natD 0 (by decide)) (x :: r) = some a := by rw [← i3, List.drop_eq_nil_of_le (by simp; omega), devO]
   have hw : ∀ z : Int, z = ((numL (x :: r)).length : Nat) - 1 → intV z = (natD r.length (by omega)).vl := fun z hz => by rw [hz, hL, show ((r.length + 1 : Nat) : Int) - 1 = (r.length : Int) by omega]; exact natD_vl (by omega)
   refine iF (vc_exit (seq_x (loop_x (block_x rfl (seq_n (vc_seqr rfl (iQ 3 (iB .sub 3 (.int .i64 ((((numL (x :: r)).length : Nat) : Int))) (.int .i64 1) (some 70) ?_))))))))
   intro z70 hz70
   try replace hz70 := hz70.i64 (by omega)
   refine iC 5 [Iv z70] (some 71) (c_vInt (x := z70) (by omega) (by omega)) ?_
   rintro _ rfl
   refine iC 11 [Sv (⟨#[47]⟩), .agg [.bx (v).enc], .agg [.bx (intV z70).enc]] (some 72) (c_NDivE (y := natD r.length (by omega)) ha (hw z70 (by omega)) (by show r.length ≠ 0; omega)) ?_
   rintro _ ⟨v2, o2, rfl, hv2, ho2⟩
   refine iQ 6 (iE 80 [(0, .d (.sl ((numL (x :: r)).length) (encL (numL (x :: r))))), (2, .p 2 0), (3, Ba false), (4, .p 4 0), (5, Ba o2), (6, .p 6 0), (12, .p 12 0), (28, Ba false), (32, .d (.sl ((numL (x :: r)).length) (encL (numL (x :: r))))), (33, Ia ((((numL (x :: r)).length : Nat) : Int))), (34, Ia z), (35, Ba false)] [(2, [.v (.nilIface)]), (4, [.bx (m).enc]), (6, [.bx (v).enc]), (12, [.bx (v2).enc])] ?_)
   refine vc_seq (vc_seqr rfl (iQ 1 (iU .not (.bool o2) (some 76) ?_)))
   intro c76 hc76
   refine iE 80 [(0, .d (.sl ((numL (x :: r)).length) (encL (numL (x :: r))))), (2, .p 2 0), (3, Ba false), (4, .p 4 0), (5, Ba o2), (6, .p 6 0), (12, .p 12 0), (28, Ba false), (32, .d (.sl ((numL (x :: r)).length) (encL (numL (x :: r))))), (33, Ia ((((numL (x :: r)).length : Nat) : Int))), (34, Ia z), (35, Ba false), (76, Ba c76)] [(2, [.v (.nilIface)]), (4, [.bx (m).enc]), (6, [.bx (v).enc]), (12, [.bx (v2).enc])] ?_
   cases c76
   ·replace hc76 := bf hc76
    obtain ⟨d, p1, p2⟩ := opt_yes hv2 ho2 (by simpa using hc76)
    have hm : sprO x r h = some d := by rw [sprO, q1]; show (devO dm _ _).bind _ = _; rw [h4]; exact p1
    refine iF (vc_skip (seq_n (vc_seqr rfl (iQ 1 (iC 20 [.agg [.bx (v2).enc]] (some 79) (c_RootE p2 (hg d hm)) ?_)))))
    rintro _ rfl
    refine iQ 2 (iE 80 [(0, .d (.sl ((numL (x :: r)).length) (encL (numL (x :: r))))), (2, .p 2 0), (3, Ba true), (4, .p 4 0), (5, Ba o2), (6, .p 6 0), (12, .p 12 0), (28, Ba false), (32, .d (.sl ((numL (x :: r)).length) (encL (numL (x :: r))))), (33, Ia ((((numL (x :: r)).length : Nat) : Int))), (34, Ia z), (35, Ba false), (76, Ba false)] [(2, [.bx (Vl.num (rootD d).g (rootD d).n (rootD d).e).enc]), (4, [.bx (m).enc]), (6, [.bx (v).enc]), (12, [.bx (v2).enc])] ?_)
    refine vc_ret (iS (.agg [.bx (Vl.num (rootD d).g (rootD d).n (rootD d).e).enc]) (Bv true) [] ?_)
    exact ⟨_, _, _, rfl, .inl rfl, by rw [hm]; rfl, by rw [hm]; rfl⟩
   ·replace hc76 := bt hc76
    obtain ⟨p1, p2⟩ := opt_no hv2 ho2 (by simpa using hc76)
    have hm : sprO x r h = none := by rw [sprO, q1]; show (devO dm _ _).bind _ = _; rw [h4]; exact p1
    refine iT (vc_seqr rfl (iQ 3 (iE 80 [(0, .d (.sl ((numL (x :: r)).length) (encL (numL (x :: r))))), (2, .p 2 0), (3, Ba false), (4, .p 4 0), (5, Ba o2), (6, .p 6 0), (12, .p 12 0), (28, Ba false), (32, .d (.sl ((numL (x :: r)).length) (encL (numL (x :: r))))), (33, Ia ((((numL (x :: r)).length : Nat) : Int))), (34, Ia z), (35, Ba false), (76, Ba true)] [(2, [.v (.nilIface)]), (4, [.bx (m).enc]), (6, [.bx (v).enc]), (12, [.bx (v2).enc])] ?_)))
    refine vc_ret (seq_r (iS (.agg [.v (.nilIface)]) (Bv false) [] ?_))
    exact ⟨_, .null, _, rfl, IsV.null, by rw [hm]; rfl, by rw [hm]; rfl⟩
  ·replace hc35 := bt hc35
   obtain ⟨y2, hy⟩ : ∃ y, (x :: r)[k]? = some y := ⟨_, List.getElem?_eq_getElem (by simp; omega)⟩
   rw [devO_step hy] at i3
   refine iT (vc_skip (seq_n (vc_seq (vc_block (vc_seqr rfl (vcI_idx1 (q := z) (n := ((numL (x :: r)).length)) (cs := (encL (numL (x :: r)))) (d := .bx (Vl.num (y2).g (y2).n (y2).e).enc) (dst := (some 36)) (by kernel_rfl) (by omega) (by rw [i1, Int.toNat_natCast]; exact encL_get1 (numL_get hy)) ?_))))))
   refine iQ 3 (iE 80 [(0, .d (.sl ((numL (x :: r)).length) (encL (numL (x :: r))))), (2, .p 2 0), (3, Ba false), (4, .p 4 0), (5, Ba o), (6, .p 6 0), (8, .p 8 0), (28, Ba false), (32, .d (.sl ((numL (x :: r)).length) (encL (numL (x :: r))))), (33, Ia ((((numL (x :: r)).length : Nat) : Int))), (34, Ia z), (35, Ba true)] [(2, [.v (.nilIface)]), (4, [.bx (m).enc]), (6, [.bx (v).enc]), (8, [.bx (Vl.num (y2).g (y2).n (y2).e).enc])] ?_)
   refine vc_seqr rfl (iQ 2 (iC 11 [Sv (⟨#[45]⟩), .agg [.bx (Vl.num (y2).g (y2).n (y2).e).enc], .agg [.bx (m).enc]] (some 41) (c_NSubE (x := y2) rfl q2) ?_))
   rintro _ ⟨v2, o2, rfl, hv2, ho2⟩
   refine iQ 6 (iE 80 [(0, .d (.sl ((numL (x :: r)).length) (encL (numL (x :: r))))), (2, .p 2 0), (3, Ba false), (4, .p 4 0), (5, Ba o), (6, .p 6 0), (8, .p 8 0), (9, .p 9 0), (10, Ba o2), (28, Ba false), (32, .d (.sl ((numL (x :: r)).length) (encL (numL (x :: r))))), (33, Ia ((((numL (x :: r)).length : Nat) : Int))), (34, Ia z), (35, Ba true)] [(2, [.v (.nilIface)]), (4, [.bx (m).enc]), (6, [.bx (v).enc]), (8, [.bx (Vl.num (y2).g (y2).n (y2).e).enc]), (9, [.bx (v2).enc])] ?_)
   refine vc_seq (vc_seqr rfl (iQ 1 (iU .not (.bool o2) (some 45) ?_)))
   intro c45 hc45
   refine iE 80 [(0, .d (.sl ((numL (x :: r)).length) (encL (numL (x :: r))))), (2, .p 2 0), (3, Ba false), (4, .p 4 0), (5, Ba o), (6, .p 6 0), (8, .p 8 0), (9, .p 9 0), (10, Ba o2), (28, Ba false), (32, .d (.sl ((numL (x :: r)).length) (encL (numL (x :: r))))), (33, Ia ((((numL (x :: r)).length : Nat) : Int))), (34, Ia z), (35, Ba true), (45, Ba c45)] [(2, [.v (.nilIface)]), (4, [.bx (m).enc]), (6, [.bx (v).enc]), (8, [.bx (Vl.num (y2).g (y2).n (y2).e).enc]), (9, [.bx (v2).enc])] ?_
   cases c45
   ·replace hc45 := bf hc45
    obtain ⟨d, p1, p2⟩ := opt_yes hv2 ho2 (by simpa using hc45)
    rw [p1] at i3
    refine iF (vc_skip (seq_n (vc_seqr rfl (iQ 2 (iC 11 [Sv (⟨#[42]⟩), .agg [.bx (v2).enc], .agg [.bx (v2).enc]] (some 50) (c_NMulE p2 p2) ?_)))))
    rintro _ ⟨v3, o3, rfl, hv3, ho3⟩
    refine iQ 6 (iE 80 [(0, .d (.sl ((numL (x :: r)).length) (encL (numL (x :: r))))), (2, .p 2 0), (3, Ba false), (4, .p 4 0), (5, Ba o), (6, .p 6 0), (8, .p 8 0), (9, .p 9 0), (10, Ba o3), (11, .p 11 0), (28, Ba false), (32, .d (.sl ((numL (x :: r)).length) (encL (numL (x :: r))))), (33, Ia ((((numL (x :: r)).length : Nat) : Int))), (34, Ia z), (35, Ba true), (45, Ba false)] [(2, [.v (.nilIface)]), (4, [.bx (m).enc]), (6, [.bx (v).enc]), (8, [.bx (Vl.num (y2).g (y2).n (y2).e).enc]), (9, [.bx (v2).enc]), (11, [.bx (v3).enc])] ?_)
    refine vc_seq (vc_seqr rfl (iQ 1 (iU .not (.bool o3) (some 54) ?_)))
    intro c54 hc54
    refine iE 80 [(0, .d (.sl ((numL (x :: r)).length) (encL (numL (x :: r))))), (2, .p 2 0), (3, Ba false), (4, .p 4 0), (5, Ba o), (6, .p 6 0), (8, .p 8 0), (9, .p 9 0), (10, Ba o3), (11, .p 11 0), (28, Ba false), (32, .d (.sl ((numL (x :: r)).length) (encL (numL (x :: r))))), (33, Ia ((((numL (x :: r)).length : Nat) : Int))), (34, Ia z), (35, Ba true), (45, Ba false), (54, Ba c54)] [(2, [.v (.nilIface)]), (4, [.bx (m).enc]), (6, [.bx (v).enc]), (8, [.bx (Vl.num (y2).g (y2).n (y2).e).enc]), (9, [.bx (v2).enc]), (11, [.bx (v3).enc])] ?_
    cases c54
    ·replace hc54 := bf hc54
     obtain ⟨q, p3, p4⟩ := opt_yes hv3 ho3 (by simpa using hc54)
     have i4 : (fitO (addX a q)).bind (fun b => devO dm b ((x :: r).drop (k + 1))) = devO dm (natD 0 (by decide)) (x :: r) := by rw [← i3]; show _ = (fitO (mulX d d)).bind _; rw [p3]; rfl
     refine iF (vc_skip (seq_n (vc_seqr rfl (iQ 2 (iC 11 [Sv (⟨#[43]⟩), .agg [.bx (v).enc], .agg [.bx (v3).enc]] (some 59) (c_NAddE ha p4) ?_)))))
     rintro _ ⟨v4, o4, rfl, hv4, ho4⟩
     refine iQ 5 (iE 80 [(0, .d (.sl ((numL (x :: r)).length) (encL (numL (x :: r))))), (2, .p 2 0), (3, Ba false), (4, .p 4 0), (5, Ba o), (6, .p 6 0), (8, .p 8 0), (9, .p 9 0), (10, Ba o4), (11, .p 11 0), (28, Ba false), (32, .d (.sl ((numL (x :: r)).length) (encL (numL (x :: r))))), (33, Ia ((((numL (x :: r)).length : Nat) : Int))), (34, Ia z), (35, Ba true), (45, Ba false), (54, Ba false)] [(2, [.v (.nilIface)]), (4, [.bx (m).enc]), (6, [.bx (v4).enc]), (8, [.bx (Vl.num (y2).g (y2).n (y2).e).enc]), (9, [.bx (v2).enc]), (11, [.bx (v3).enc])] ?_)
     refine vc_seqr rfl (iQ 1 (iU .not (.bool o4) (some 63) ?_))
     intro c63 hc63
     refine iE 80 [(0, .d (.sl ((numL (x :: r)).length) (encL (numL (x :: r))))), (2, .p 2 0), (3, Ba false), (4, .p 4 0), (5, Ba o), (6, .p 6 0), (8, .p 8 0), (9, .p 9 0), (10, Ba o4), (11, .p 11 0), (28, Ba false), (32, .d (.sl ((numL (x :: r)).length) (encL (numL (x :: r))))), (33, Ia ((((numL (x :: r)).length : Nat) : Int))), (34, Ia z), (35, Ba true), (45, Ba false), (54, Ba false), (63, Ba c63)] [(2, [.v (.nilIface)]), (4, [.bx (m).enc]), (6, [.bx (v4).enc]), (8, [.bx (Vl.num (y2).g (y2).n (y2).e).enc]), (9, [.bx (v2).enc]), (11, [.bx (v3).enc])] ?_
     cases c63
     ·replace hc63 := bf hc63
      obtain ⟨b, p5, p6⟩ := opt_yes hv4 ho4 (by simpa using hc63)
      refine iF (vc_skip (block_n (seq_n (vc_reg rfl (iB .add 3 (.int .i64 z) (.int .i64 1) (some 65) ?_)))))
      intro z65 hz65
      try replace hz65 := hz65.i64 (by omega)
      refine iQ 1 (iE 80 [(0, .d (.sl ((numL (x :: r)).length) (encL (numL (x :: r))))), (2, .p 2 0), (3, Ba false), (4, .p 4 0), (5, Ba o), (6, .p 6 0), (8, .p 8 0), (9, .p 9 0), (10, Ba o4), (11, .p 11 0), (28, Ba false), (32, .d (.sl ((numL (x :: r)).length) (encL (numL (x :: r))))), (33, Ia ((((numL (x :: r)).length : Nat) : Int))), (34, Ia z65), (35, Ba true), (45, Ba false), (54, Ba false), (63, Ba false)] [(2, [.v (.nilIface)]), (4, [.bx (m).enc]), (6, [.bx (v4).enc]), (8, [.bx (Vl.num (y2).g (y2).n (y2).e).enc]), (9, [.bx (v2).enc]), (11, [.bx (v3).enc])] ?_)
      refine loop_n (k + 1, z65, v4) (⟨b, p6, by omega, by omega, by rw [← i4, p5]; rfl⟩) (by simp only; omega) (by kernel_rfl) (by kernel_rfl)
     ·replace hc63 := bt hc63
      obtain ⟨p5, p6⟩ := opt_no hv4 ho4 (by simpa using hc63)
      have hm : sprO x r h = none := by rw [sprO, q1]; show (devO dm _ _).bind _ = _; rw [← i4, p5]; rfl
      refine iT (vc_seqr rfl (iQ 3 (iE 80 [(0, .d (.sl ((numL (x :: r)).length) (encL (numL (x :: r))))), (2, .p 2 0), (3, Ba false), (4, .p 4 0), (5, Ba o), (6, .p 6 0), (8, .p 8 0), (9, .p 9 0), (10, Ba o4), (11, .p 11 0), (28, Ba false), (32, .d (.sl ((numL (x :: r)).length) (encL (numL (x :: r))))), (33, Ia ((((numL (x :: r)).length : Nat) : Int))), (34, Ia z), (35, Ba true), (45, Ba false), (54, Ba false), (63, Ba true)] [(2, [.v (.nilIface)]), (4, [.bx (m).enc]), (6, [.bx (v4).enc]), (8, [.bx (Vl.num (y2).g (y2).n (y2).e).enc]), (9, [.bx (v2).enc]), (11, [.bx (v3).enc])] ?_)))
      refine vc_ret (block_r (seq_r (loop_r (block_r (seq_r (iS (.agg [.v (.nilIface)]) (Bv false) [] ?_))))))
      exact ⟨_, .null, _, rfl, IsV.null, by rw [hm]; rfl, by rw [hm]; rfl⟩
    ·replace hc54 := bt hc54
     obtain ⟨p3, p4⟩ := opt_no hv3 ho3 (by simpa using hc54)
     have hm : sprO x r h = none := by rw [sprO, q1]; show (devO dm _ _).bind _ = _; rw [← i3]; show ((fitO (mulX d d)).bind _).bind _ = _; rw [p3]; rfl
     refine iT (vc_seqr rfl (iQ 3 (iE 80 [(0, .d (.sl ((numL (x :: r)).length) (encL (numL (x :: r))))), (2, .p 2 0), (3, Ba false), (4, .p 4 0), (5, Ba o), (6, .p 6 0), (8, .p 8 0), (9, .p 9 0), (10, Ba o3), (11, .p 11 0), (28, Ba false), (32, .d (.sl ((numL (x :: r)).length) (encL (numL (x :: r))))), (33, Ia ((((numL (x :: r)).length : Nat) : Int))), (34, Ia z), (35, Ba true), (45, Ba false), (54, Ba true)] [(2, [.v (.nilIface)]), (4, [.bx (m).enc]), (6, [.bx (v).enc]), (8, [.bx (Vl.num (y2).g (y2).n (y2).e).enc]), (9, [.bx (v2).enc]), (11, [.bx (v3).enc])] ?_)))
     refine vc_ret (seq_r (block_r (seq_r (loop_r (block_r (seq_r (iS (.agg [.v (.nilIface)]) (Bv false) [] ?_)))))))
     exact ⟨_, .null, _, rfl, IsV.null, by rw [hm]; rfl, by rw [hm]; rfl⟩
   ·replace hc45 := bt hc45
    obtain ⟨p1, p2⟩ := opt_no hv2 ho2 (by simpa using hc45)
    have hm : sprO x r h = none := by rw [sprO, q1]; show (devO dm _ _).bind _ = _; rw [← i3, p1]; rfl
    refine iT (vc_seqr rfl (iQ 3 (iE 80 [(0, .d (.sl ((numL (x :: r)).length) (encL (numL (x :: r))))), (2, .p 2 0), (3, Ba false), (4, .p 4 0), (5, Ba o), (6, .p 6 0), (8, .p 8 0), (9, .p 9 0), (10, Ba o2), (28, Ba false), (32, .d (.sl ((numL (x :: r)).length) (encL (numL (x :: r))))), (33, Ia ((((numL (x :: r)).length : Nat) : Int))), (34, Ia z), (35, Ba true), (45, Ba true)] [(2, [.v (.nilIface)]), (4, [.bx (m).enc]), (6, [.bx (v).enc]), (8, [.bx (Vl.num (y2).g (y2).n (y2).e).enc]), (9, [.bx (v2).enc])] ?_)))
    refine vc_ret (seq_r (block_r (seq_r (loop_r (block_r (seq_r (iS (.agg [.v (.nilIface)]) (Bv false) [] ?_)))))))
    exact ⟨_, .null, _, rfl, IsV.null, by rw [hm]; rfl, by rw [hm]; rfl⟩
 ·replace hc19 := bt hc19
  refine iQ 8 (iE 80 [(0, .d (.sl ((numL (x :: r)).length) (encL (numL (x :: r))))), (2, .p 2 0), (3, Ba false), (4, .p 4 0), (5, Ba o), (28, Ba true)] [(2, [.v (.nilIface)]), (4, [.bx (m).enc])] ?_)
  obtain ⟨q1, q2⟩ := opt_no hv ho (by simpa using hc19)
  have hm : sprO x r h = none := by rw [sprO, q1]; rfl
  refine iT (vc_seqr rfl (iQ 4 (iE 80 [(0, .d (.sl ((numL (x :: r)).length) (encL (numL (x :: r))))), (2, .p 2 0), (3, Ba o), (4, .p 4 0), (5, Ba o), (28, Ba true)] [(2, [.v (.nilIface)]), (4, [.bx (m).enc])] ?_)))
  refine vc_ret (seq_r (iS (.agg [.v (.nilIface)]) (Bv o) [] ?_))
  exact ⟨_, .null, _, rfl, IsV.null, by rw [hm]; rfl, by rw [hm, ho, q1]; first | done | rfl⟩
end Go.Proofs.Ytmldjlgeeljfdaa
