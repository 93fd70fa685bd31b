/-
  numfun: sums, means and spreads of numbers.
-/
import Derived.Test.YtmldjlgeeljfdaaGreatNfB
namespace Go.Proofs.YtmldjlgeeljfdaaGreat
open Go.RowKit
set_option linter.unusedVariables false
set_option linter.unusedSimpArgs false
set_option maxRecDepth 100000

/-- A sum, one by one: none, if one is too great. -/
noncomputable def sumO : D3 → List D3 → Option D3
  | a, [] => some a
  | a, x :: r => (fitO (addX a x)).bind fun b => sumO b r
/-- A natural number. -/
def natD (n : Nat) (h : n < 1000000000) : D3 := ⟨(false, n, 0), by show n < E34; unfold E34; omega, by show (-6176 : Int) ≤ 0; decide, by show (0 : Int) ≤ 6111; decide, fun h => by cases h⟩
theorem natD_vl {n : Nat} (h : n < 1000000000) : intV (n : Int) = (natD n h).vl := by
  have : decide ((n : Int) < 0) = false := by simp
  simp only [intV, natD, D3.vl, this, Int.natAbs_natCast]
noncomputable def meanO (x : D3) (r : List D3) (h : r.length < 1000) : Option D3 := (sumO x r).bind fun s => fitO (divX s (natD (r.length + 1) (by omega)))
theorem sumO_step {a x : D3} {r : List D3} {k : Nat} (h : r[k]? = some x) : sumO a (r.drop k) = (fitO (addX a x)).bind fun b => sumO b (r.drop (k + 1)) := by
  obtain ⟨h1, h2⟩ := List.getElem?_eq_some_iff.1 h
  rw [List.drop_eq_getElem_cons h1, h2, sumO]
theorem v_fold {x : D3} {r : List D3} (h : r.length < 1000) : HasC Tryz.prog 71 [.v (.string (⟨#[43]⟩)), .sl ((numL (x :: r)).length) (encL (numL (x :: r)))] (fun y => ∃ z v o, y = .tup [z, .v (.bool o)] ∧ IsV z v ∧ v = optV (sumO x r) ∧ o = (sumO x r).isSome) := by
 refine HasC.of [] (fn := Tryz.f71) tyOk mixed (fun args w => Tryz.call71 args w) Tryz.func71 rfl (by kernel_rfl) (Nat.le_of_ble_eq_true rfl) (⟨_, _, _, _, rfl, .inl rfl, rfl, rfl⟩) ?_
 have hL : (numL (x :: r)).length = r.length + 1 := by simp
 have hL2 : (numL r).length = r.length := by simp
 refine vc_seqr rfl (iQ 2 (iE 34 [(0, .d (Sv (⟨#[43]⟩))), (1, .d (.sl ((numL (x :: r)).length) (encL (numL (x :: r))))), (4, .p 4 0), (5, Ba false)] [(4, [.v (.nilIface)])] ?_))
 refine vc_seqr rfl (iQ 1 (vcI_idx1 (q := 0) (n := ((numL (x :: r)).length)) (cs := (encL (numL (x :: r)))) (d := .bx (Vl.num (x).g (x).n (x).e).enc) (dst := (some 12)) (by kernel_rfl) (by omega) (encL_get1 (numL_get rfl)) ?_))
 refine iQ 3 (iE 34 [(0, .d (Sv (⟨#[43]⟩))), (1, .d (.sl ((numL (x :: r)).length) (encL (numL (x :: r))))), (4, .p 4 0), (5, Ba false), (6, .p 6 0)] [(4, [.v (.nilIface)]), (6, [.bx (Vl.num (x).g (x).n (x).e).enc])] ?_)
 refine vc_seq (vc_seqr rfl (iQ 1 (vcI_sl (l := 1) (u := ((((numL (x :: r)).length : Nat) : Int))) (n := ((numL (x :: r)).length)) (cs := (encL (numL (x :: r)))) (z := 1) (m := ((numL r).length)) (ds := (encL (numL r))) (dst := (some 15)) (by kernel_rfl) (by omega) (by omega) (by simp [numL, encL, List.take_of_length_le]) ?_)))
 refine iQ 2 (iE 34 [(0, .d (Sv (⟨#[43]⟩))), (1, .d (.sl ((numL (x :: r)).length) (encL (numL (x :: r))))), (4, .p 4 0), (5, Ba false), (6, .p 6 0), (15, .d (.sl ((numL r).length) (encL (numL r)))), (16, Ia ((((numL r).length : Nat) : Int))), (17, Ia 0)] [(4, [.v (.nilIface)]), (6, [.bx (Vl.num (x).g (x).n (x).e).enc])] ?_)
 refine vc_block (vc_loop 34 (fun (vcx : Nat × Int × Vl) => match vcx with | (k, z, v) => [(0, .d (Sv (⟨#[43]⟩))), (1, .d (.sl ((numL (x :: r)).length) (encL (numL (x :: r))))), (4, .p 4 0), (5, Ba false), (6, .p 6 0), (15, .d (.sl ((numL r).length) (encL (numL r)))), (16, Ia ((((numL r).length : Nat) : Int))), (17, Ia z)]) (fun (vcx : Nat × Int × Vl) => match vcx with | (k, z, v) => [(4, [.v (.nilIface)]), (6, [.bx (v).enc])]) (fun (vcx : Nat × Int × Vl) => match vcx with | (k, z, v) => ∃ a : D3, v = a.vl ∧ z = k ∧ k ≤ r.length ∧ sumO a (r.drop k) = sumO x r) (fun (vcx : Nat × Int × Vl) => match vcx with | (k, z, v) => r.length - k) ((0, 0, x.vl)) (⟨x, rfl, rfl, Nat.zero_le _, rfl⟩) (by kernel_rfl) (by kernel_rfl) ?_)
 rintro ⟨k, z, v⟩ hinv
 simp only at hinv
 obtain ⟨a, ha, h1, h2, h3⟩ := hinv
 refine vc_seqr rfl (iB .lss 3 (.int .i64 z) (.int .i64 ((((numL r).length : Nat) : Int))) (some 18) ?_)
 intro c18 hc18
 refine iE 34 [(0, .d (Sv (⟨#[43]⟩))), (1, .d (.sl ((numL (x :: r)).length) (encL (numL (x :: r))))), (4, .p 4 0), (5, Ba false), (6, .p 6 0), (15, .d (.sl ((numL r).length) (encL (numL r)))), (16, Ia ((((numL r).length : Nat) : Int))), (17, Ia z), (18, Ba c18)] [(4, [.v (.nilIface)]), (6, [.bx (v).enc])] ?_
 refine vc_seq ?_
 cases c18
 ·replace hc18 := bf hc18
  have h4 : sumO x r = some a := by rw [← h3, List.drop_eq_nil_of_le (by omega), sumO]
  refine iF (vc_exit (seq_x (loop_x (block_x rfl (seq_n (vc_seqr rfl (iQ 3 (iE 34 [(0, .d (Sv (⟨#[43]⟩))), (1, .d (.sl ((numL (x :: r)).length) (encL (numL (x :: r))))), (4, .p 4 0), (5, Ba true), (6, .p 6 0), (15, .d (.sl ((numL r).length) (encL (numL r)))), (16, Ia ((((numL r).length : Nat) : Int))), (17, Ia z), (18, Ba false)] [(4, [.bx (v).enc]), (6, [.bx (v).enc])] ?_))))))))
  refine vc_ret (iS (.agg [.bx (v).enc]) (Bv true) [] ?_)
  exact ⟨_, _, _, rfl, .inl rfl, by rw [h4, ha]; rfl, by rw [h4]; rfl⟩
 ·replace hc18 := bt hc18
  obtain ⟨y2, hy⟩ : ∃ y, r[k]? = some y := ⟨_, List.getElem?_eq_getElem (by omega)⟩
  rw [sumO_step hy] at h3
  refine iT (vc_skip (seq_n (vc_seq (vc_block (vc_seqr rfl (vcI_idx1 (q := z) (n := ((numL r).length)) (cs := (encL (numL r))) (d := .bx (Vl.num (y2).g (y2).n (y2).e).enc) (dst := (some 19)) (by kernel_rfl) (by omega) (by rw [h1, Int.toNat_natCast]; exact encL_get1 (numL_get hy)) ?_))))))
  refine iQ 3 (iE 34 [(0, .d (Sv (⟨#[43]⟩))), (1, .d (.sl ((numL (x :: r)).length) (encL (numL (x :: r))))), (4, .p 4 0), (5, Ba false), (6, .p 6 0), (8, .p 8 0), (15, .d (.sl ((numL r).length) (encL (numL r)))), (16, Ia ((((numL r).length : Nat) : Int))), (17, Ia z), (18, Ba true)] [(4, [.v (.nilIface)]), (6, [.bx (v).enc]), (8, [.bx (Vl.num (y2).g (y2).n (y2).e).enc])] ?_)
  refine vc_seqr rfl (iQ 3 (iC 12 [Sv (⟨#[43]⟩), .agg [.bx (v).enc], .agg [.bx (Vl.num (y2).g (y2).n (y2).e).enc]] (some 25) (c_NAddE (y := y2) ha rfl) ?_))
  rintro _ ⟨v2, o2, rfl, hv2, ho2⟩
  refine iQ 6 (iE 34 [(0, .d (Sv (⟨#[43]⟩))), (1, .d (.sl ((numL (x :: r)).length) (encL (numL (x :: r))))), (4, .p 4 0), (5, Ba false), (6, .p 6 0), (8, .p 8 0), (9, .p 9 0), (10, Ba o2), (15, .d (.sl ((numL r).length) (encL (numL r)))), (16, Ia ((((numL r).length : Nat) : Int))), (17, Ia z), (18, Ba true)] [(4, [.v (.nilIface)]), (6, [.bx (v).enc]), (8, [.bx (Vl.num (y2).g (y2).n (y2).e).enc]), (9, [.bx (v2).enc])] ?_)
  refine vc_seq (vc_seqr rfl (iQ 1 (iU .not (.bool o2) (some 29) ?_)))
  intro c29 hc29
  refine iE 34 [(0, .d (Sv (⟨#[43]⟩))), (1, .d (.sl ((numL (x :: r)).length) (encL (numL (x :: r))))), (4, .p 4 0), (5, Ba false), (6, .p 6 0), (8, .p 8 0), (9, .p 9 0), (10, Ba o2), (15, .d (.sl ((numL r).length) (encL (numL r)))), (16, Ia ((((numL r).length : Nat) : Int))), (17, Ia z), (18, Ba true), (29, Ba c29)] [(4, [.v (.nilIface)]), (6, [.bx (v).enc]), (8, [.bx (Vl.num (y2).g (y2).n (y2).e).enc]), (9, [.bx (v2).enc])] ?_
  cases c29
  ·replace hc29 := bf hc29
   obtain ⟨d, q1, q2⟩ := opt_yes hv2 ho2 (by simpa using hc29)
   refine iF (vc_skip (seq_n (vc_reg rfl (iQ 2 (iE 34 [(0, .d (Sv (⟨#[43]⟩))), (1, .d (.sl ((numL (x :: r)).length) (encL (numL (x :: r))))), (4, .p 4 0), (5, Ba false), (6, .p 6 0), (8, .p 8 0), (9, .p 9 0), (10, Ba o2), (15, .d (.sl ((numL r).length) (encL (numL r)))), (16, Ia ((((numL r).length : Nat) : Int))), (17, Ia z), (18, Ba true), (29, Ba false)] [(4, [.v (.nilIface)]), (6, [.bx (v2).enc]), (8, [.bx (Vl.num (y2).g (y2).n (y2).e).enc]), (9, [.bx (v2).enc])] ?_)))))
   refine block_n (seq_n (vc_reg rfl (iB .add 3 (.int .i64 z) (.int .i64 1) (some 32) ?_)))
   intro z32 hz32
   try replace hz32 := hz32.i64 (by omega)
   refine iQ 1 (iE 34 [(0, .d (Sv (⟨#[43]⟩))), (1, .d (.sl ((numL (x :: r)).length) (encL (numL (x :: r))))), (4, .p 4 0), (5, Ba false), (6, .p 6 0), (8, .p 8 0), (9, .p 9 0), (10, Ba o2), (15, .d (.sl ((numL r).length) (encL (numL r)))), (16, Ia ((((numL r).length : Nat) : Int))), (17, Ia z32), (18, Ba true), (29, Ba false)] [(4, [.v (.nilIface)]), (6, [.bx (v2).enc]), (8, [.bx (Vl.num (y2).g (y2).n (y2).e).enc]), (9, [.bx (v2).enc])] ?_)
   refine loop_n (k + 1, z32, v2) (⟨d, q2, by omega, by omega, by rw [← h3, q1]; rfl⟩) (by simp only; omega) (by kernel_rfl) (by kernel_rfl)
  ·replace hc29 := bt hc29
   obtain ⟨q1, q2⟩ := opt_no hv2 ho2 (by simpa using hc29)
   refine iT (vc_seqr rfl (iQ 3 (iE 34 [(0, .d (Sv (⟨#[43]⟩))), (1, .d (.sl ((numL (x :: r)).length) (encL (numL (x :: r))))), (4, .p 4 0), (5, Ba false), (6, .p 6 0), (8, .p 8 0), (9, .p 9 0), (10, Ba o2), (15, .d (.sl ((numL r).length) (encL (numL r)))), (16, Ia ((((numL r).length : Nat) : Int))), (17, Ia z), (18, Ba true), (29, Ba true)] [(4, [.v (.nilIface)]), (6, [.bx (v).enc]), (8, [.bx (Vl.num (y2).g (y2).n (y2).e).enc]), (9, [.bx (v2).enc])] ?_)))
   refine vc_ret (seq_r (block_r (seq_r (loop_r (block_r (seq_r (iS (.agg [.v (.nilIface)]) (Bv false) [] ?_)))))))
   exact ⟨_, .null, _, rfl, IsV.null, by rw [← h3, q1]; rfl, by rw [← h3, q1]; rfl⟩
theorem optE {P : Program} {f : FuncId} {ds : List DV} {o : Option D3} (h : HasC P f ds (fun y => ∃ z v b, y = .tup [z, .v (.bool b)] ∧ IsV z v ∧ v = optV o ∧ b = o.isSome)) : HasC P f ds (fun y => ∃ v b, y = .tup [VV v, .v (.bool b)] ∧ v = optV o ∧ b = o.isSome) := h.isVb (q := fun v b => v = optV o ∧ b = o.isSome)
theorem v_Sum {x : D3} {r : List D3} (h : r.length < 1000) : HasC Tryz.prog 35 [.sl ((numL (x :: r)).length) (encL (numL (x :: r)))] (fun y => ∃ z v o, y = .tup [z, .v (.bool o)] ∧ IsV z v ∧ v = optV (sumO x r) ∧ o = (sumO x r).isSome) := by
 refine HasC.of [] (fn := Tryz.f35) tyOk mixed (fun args w => Tryz.call35 args w) Tryz.func35 rfl (by kernel_rfl) (Nat.le_of_ble_eq_true rfl) (⟨_, _, _, _, rfl, .inl rfl, rfl, rfl⟩) ?_
 refine vc_seqr rfl (iQ 2 (iE 18 [(0, .d (.sl ((numL (x :: r)).length) (encL (numL (x :: r))))), (2, .p 2 0), (3, Ba false)] [(2, [.v (.nilIface)])] ?_))
 refine vc_seq (vc_seqr rfl (iQ 1 (iC 19 [.sl ((numL (x :: r)).length) (encL (numL (x :: r)))] (some 8) ((c_numbers (ds := x :: r) (by simp; omega)).toC) ?_)))
 rintro _ rfl
 refine iQ 5 (iE 18 [(0, .d (.sl ((numL (x :: r)).length) (encL (numL (x :: r))))), (2, .p 2 0), (3, Ba false), (5, Ba (decide (0 < (x :: r).length)))] [(2, [.v (.nilIface)])] ?_)
 refine vc_seqr rfl (iQ 1 (iU .not (.bool (decide (0 < (x :: r).length))) (some 12) ?_))
 refine all_false ((by simp)) ?_
 refine iE 18 [(0, .d (.sl ((numL (x :: r)).length) (encL (numL (x :: r))))), (2, .p 2 0), (3, Ba false), (12, Ba false)] [(2, [.v (.nilIface)])] ?_
 refine iF (vc_skip (seq_n (vc_seqr rfl (iQ 1 (iC 71 [Sv (⟨#[43]⟩), .sl ((numL (x :: r)).length) (encL (numL (x :: r)))] (some 15) (optE (v_fold (x := x) h)) ?_)))))
 rintro _ ⟨v, o, rfl, hv, ho⟩
 refine iQ 4 (iE 18 [(0, .d (.sl ((numL (x :: r)).length) (encL (numL (x :: r))))), (2, .p 2 0), (3, Ba o), (12, Ba false)] [(2, [.bx (v).enc])] ?_)
 refine vc_ret (iS (.agg [.bx (v).enc]) (Bv o) [] ?_)
 exact ⟨_, _, _, rfl, .inl rfl, hv, ho⟩
theorem v_Mean {x : D3} {r : List D3} (h : r.length < 1000) : HasC Tryz.prog 14 [.sl ((numL (x :: r)).length) (encL (numL (x :: r)))] (fun y => ∃ z v o, y = .tup [z, .v (.bool o)] ∧ IsV z v ∧ v = optV (meanO x r h) ∧ o = (meanO x r h).isSome) := by
 refine HasC.of [] (fn := Tryz.f14) tyOk mixed (fun args w => Tryz.call14 args w) Tryz.func14 rfl (by kernel_rfl) (Nat.le_of_ble_eq_true rfl) (⟨_, _, _, _, rfl, .inl rfl, rfl, rfl⟩) ?_
 have hL : (numL (x :: r)).length = r.length + 1 := by simp
 refine vc_seqr rfl (iQ 2 (iE 26 [(0, .d (.sl ((numL (x :: r)).length) (encL (numL (x :: r))))), (2, .p 2 0), (3, Ba false)] [(2, [.v (.nilIface)])] ?_))
 refine vc_seqr rfl (iQ 1 (iC 35 [.sl ((numL (x :: r)).length) (encL (numL (x :: r)))] (some 8) (optE (v_Sum (x := x) h)) ?_))
 rintro _ ⟨v, o, rfl, hv, ho⟩
 refine iQ 6 (iE 26 [(0, .d (.sl ((numL (x :: r)).length) (encL (numL (x :: r))))), (2, .p 2 0), (3, Ba false), (4, .p 4 0), (5, Ba o)] [(2, [.v (.nilIface)]), (4, [.bx (v).enc])] ?_)
 refine vc_seq (vc_seqr rfl (iQ 1 (iU .not (.bool o) (some 12) ?_)))
 intro c12 hc12
 refine iQ 1 ?_
 cases c12
 ·replace hc12 := bf hc12
  refine iQ 1 ?_
  obtain ⟨d, q1, q2⟩ := opt_yes hv ho (by simpa using hc12)
  refine iC 9 [.agg [.bx (v).enc]] (some 15) (c_NullN q2) ?_
  rintro _ rfl
  have hw : intV (((numL (x :: r)).length : Nat) : Int) = (natD (r.length + 1) (by omega)).vl := by rw [hL]; exact natD_vl (by omega)
  refine iQ 1 (iE 26 [(0, .d (.sl ((numL (x :: r)).length) (encL (numL (x :: r))))), (2, .p 2 0), (3, Ba false), (4, .p 4 0), (5, Ba o), (16, Ba false)] [(2, [.v (.nilIface)]), (4, [.bx (v).enc])] ?_)
  refine iF (vc_skip (seq_n (vc_seqr rfl (iQ 3 (iC 13 [Iv ((((numL (x :: r)).length : Nat) : Int))] (some 22) (c_vInt (x := (((numL (x :: r)).length : Nat) : Int)) (by omega) (by omega)) ?_)))))
  rintro _ rfl
  refine iC 12 [Sv (⟨#[47]⟩), .agg [.bx (v).enc], .agg [.bx (intV (((numL (x :: r)).length : Nat) : Int)).enc]] (some 23) (c_NDivE (y := natD (r.length + 1) (by omega)) q2 hw (Nat.succ_ne_zero _)) ?_
  rintro _ ⟨v2, o2, rfl, hv2, ho2⟩
  refine iQ 4 (iE 26 [(0, .d (.sl ((numL (x :: r)).length) (encL (numL (x :: r))))), (2, .p 2 0), (3, Ba o2), (4, .p 4 0), (5, Ba o), (16, Ba false)] [(2, [.bx (v2).enc]), (4, [.bx (v).enc])] ?_)
  refine vc_ret (iS (.agg [.bx (v2).enc]) (Bv o2) [] ?_)
  exact ⟨_, _, _, rfl, .inl rfl, by rw [meanO, q1]; exact hv2, by rw [meanO, q1]; exact ho2⟩
 ·replace hc12 := bt hc12
  refine iQ 3 (iE 26 [(0, .d (.sl ((numL (x :: r)).length) (encL (numL (x :: r))))), (2, .p 2 0), (3, Ba false), (4, .p 4 0), (5, Ba o), (16, Ba true)] [(2, [.v (.nilIface)]), (4, [.bx (v).enc])] ?_)
  obtain ⟨q1, q2⟩ := opt_no hv ho (by simpa using hc12)
  have hm : meanO x r h = none := by rw [meanO, q1]; rfl
  refine iT (vc_seqr rfl (iQ 4 (iE 26 [(0, .d (.sl ((numL (x :: r)).length) (encL (numL (x :: r))))), (2, .p 2 0), (3, Ba o), (4, .p 4 0), (5, Ba o), (16, Ba true)] [(2, [.v (.nilIface)]), (4, [.bx (v).enc])] ?_)))
  refine vc_ret (seq_r (iS (.agg [.v (.nilIface)]) (Bv o) [] ?_))
  exact ⟨_, .null, _, rfl, IsV.null, by rw [hm]; rfl, by rw [hm, ho, q1]; first | done | rfl⟩
/-- The sum of the squares of how far numbers are from one. -/
noncomputable def devO (m : D3) : D3 → List D3 → Option D3
  | a, [] => some a
  | a, x :: r => (fitO (subX x m)).bind fun d => (fitO (mulX d d)).bind fun q => (fitO (addX a q)).bind fun b => devO m b r
theorem devO_step {m a x : D3} {r : List D3} {k : Nat} (h : r[k]? = some x) : devO m a (r.drop k) = (fitO (subX x m)).bind fun d => (fitO (mulX d d)).bind fun q => (fitO (addX a q)).bind fun b => devO m b (r.drop (k + 1)) := by
  obtain ⟨h1, h2⟩ := List.getElem?_eq_some_iff.1 h
  rw [List.drop_eq_getElem_cons h1, h2, devO]
/-- What is under the spread's root. -/
noncomputable def sprO (x : D3) (r : List D3) (h : r.length < 1000) : Option D3 :=
  (meanO x r h).bind fun m => (devO m (natD 0 (by decide)) (x :: r)).bind fun s => fitO (divX s (natD r.length (by omega)))
noncomputable def rootX (x : D3) : T4 := rootT x.n x.e
theorem rootT_may {a : Nat} {x : Int} {g : Bool} {k : Nat} {e : Int} {ok : Bool} (h : rootT a x = (g, k, e, ok)) : May g k e := by
  unfold rootT at h
  split at h
  · exact may_of (fitT_range h)
  · exact may_of (fitT_range h)
/-- A root, of a number that is not below 0. -/
noncomputable def rootD (x : D3) : D3 := ⟨((rootX x).1, (rootX x).2.1, (rootX x).2.2.1), rootT_may rfl⟩
noncomputable def sprV : Option D3 → Vl
  | some q => (rootD q).vl
  | none => .null
end Go.Proofs.YtmldjlgeeljfdaaGreat
