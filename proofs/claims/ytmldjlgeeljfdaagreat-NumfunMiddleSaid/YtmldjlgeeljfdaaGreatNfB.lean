/-
  numfun.Arith of two numbers.
-/
import Derived.Test.YtmldjlgeeljfdaaGreatNfA
namespace Go.Proofs.YtmldjlgeeljfdaaGreat
open Go.RowKit
set_option linter.unusedVariables false
set_option linter.unusedSimpArgs false
set_option maxRecDepth 100000
theorem D3.lt (x : D3) : x.n < E34 := x.2.1
theorem D3.ltB (x : D3) : x.n < B128 := Nat.lt_trans x.2.1 e34_lt
theorem D3.lo (x : D3) : -6176 ≤ x.e := x.2.2.1
theorem D3.hi (x : D3) : x.e ≤ 6111 := x.2.2.2.1
theorem numV_may {g : Bool} {n : Nat} {e : Int} (h : May g n e) : numV g n e = .num g n e := by rw [numV, if_pos h]
open Classical in
/-- What a sum, product, quotient is: none, if it is too great. -/
noncomputable def fitO (t : T4) : Option D3 := if h : t.2.2.2 = true ∧ May t.1 t.2.1 t.2.2.1 then some ⟨(t.1, t.2.1, t.2.2.1), h.2⟩ else none
def optV : Option D3 → Vl
  | some d => d.vl
  | none => .null
theorem fitO_some {g : Bool} {k : Nat} {x : Int} (h : May g k x) : fitO (g, k, x, true) = some ⟨(g, k, x), h⟩ := by rw [fitO, dif_pos ⟨rfl, h⟩]
theorem fitO_none {g : Bool} {k : Nat} {x : Int} : fitO (g, k, x, false) = none := by rw [fitO, dif_neg (by simp)]
theorem c_two {x y : D3} : HasC Tryz.prog 28 [.agg [.bx (Vl.num (x).g (x).n (x).e).enc], .agg [.bx (Vl.num (y).g (y).n (y).e).enc]] (fun r => r = .tup [dDec x.g x.n x.e, dDec y.g y.n y.e, .v (.bool true)]) := by
 refine HasC.of [3] (fn := Tryz.f28) tyOk mixed (fun args w => Tryz.call28 args w) Tryz.func28 rfl (by kernel_rfl) (Nat.le_of_ble_eq_true rfl) (⟨_, rfl⟩) ?_
 refine vc_seqr rfl (iQ 5 (iE 27 [(2, .p 2 0), (3, .p 3 0), (4, .p 4 0), (5, .p 5 0), (6, Ba false)] [(2, [.bx (Vl.num (x).g (x).n (x).e).enc]), (3, [.bx (Vl.num (y).g (y).n (y).e).enc]), (4, [Bv false, Uv 0, Uv 0, Iv 0]), (5, [Bv false, Uv 0, Uv 0, Iv 0])] ?_))
 refine vc_seqr rfl (iQ 1 (iC 43 [.agg [.bx (Vl.num (x).g (x).n (x).e).enc]] (some 13) (c_AsNumN) ?_))
 rintro _ rfl
 refine iQ 6 (iE 27 [(3, .p 3 0), (4, .p 4 0), (5, .p 5 0), (6, Ba false), (7, .p 7 0), (8, Ba true)] [(3, [.bx (Vl.num (y).g (y).n (y).e).enc]), (4, [Bv false, Uv 0, Uv 0, Iv 0]), (5, [Bv false, Uv 0, Uv 0, Iv 0]), (7, [Bv ((x).g), Hw ((x).n), Lw ((x).n), Iv ((x).e)])] ?_)
 refine vc_seqr rfl (iQ 1 (iC 43 [.agg [.bx (Vl.num (y).g (y).n (y).e).enc]] (some 18) (c_AsNumN) ?_))
 rintro _ rfl
 refine iQ 6 (iE 27 [(4, .p 4 0), (5, .p 5 0), (6, Ba false), (7, .p 7 0), (8, Ba true), (9, .p 9 0), (10, Ba true)] [(4, [Bv false, Uv 0, Uv 0, Iv 0]), (5, [Bv false, Uv 0, Uv 0, Iv 0]), (7, [Bv ((x).g), Hw ((x).n), Lw ((x).n), Iv ((x).e)]), (9, [Bv ((y).g), Hw ((y).n), Lw ((y).n), Iv ((y).e)])] ?_)
 refine vc_seqrx rfl (by kernel_rfl) ?_
 refine iQ 9 (iE 27 [(4, .p 4 0), (5, .p 5 0), (6, Ba true), (7, .p 7 0), (9, .p 9 0)] [(4, [Bv ((x).g), Hw ((x).n), Lw ((x).n), Iv ((x).e)]), (5, [Bv ((y).g), Hw ((y).n), Lw ((y).n), Iv ((y).e)]), (7, [Bv ((x).g), Hw ((x).n), Lw ((x).n), Iv ((x).e)]), (9, [Bv ((y).g), Hw ((y).n), Lw ((y).n), Iv ((y).e)])] ?_)
 refine vc_ret (iS (.agg [Bv ((x).g), Hw ((x).n), Lw ((x).n), Iv ((x).e)]) (.agg [Bv ((y).g), Hw ((y).n), Lw ((y).n), Iv ((y).e)]) [Bv true] ?_)
 rfl
theorem v_number {g : Bool} {k : Nat} {e : Int} {ok : Bool} (h : ok = true → May g k e) : HasC Tryz.prog 29 [.agg [.v (.bool g), .v (.int .u64 (hiW (k))), .v (.int .u64 (loW (k))), .v (.int .i64 e)], .v (.bool ok)] (fun r => ∃ x v o, r = .tup [x, .v (.bool o)] ∧ IsV x v ∧ v = optV (fitO (g, k, e, ok)) ∧ o = (fitO (g, k, e, ok)).isSome) := by
 refine HasC.of [] (fn := Tryz.f29) tyOk mixed (fun args w => Tryz.call29 args w) Tryz.func29 rfl (by kernel_rfl) (Nat.le_of_ble_eq_true rfl) (⟨_, _, _, _, rfl, .inl rfl, rfl, rfl⟩) ?_
 refine vc_seqr rfl (iQ 3 (iE 11 [(1, Ba ok), (2, .p 2 0), (4, .p 4 0), (5, Ba false)] [(2, [Bv g, Hw k, Lw k, Iv e]), (4, [.v (.nilIface)])] ?_))
 refine vc_seq (vc_seqr rfl (iQ 1 (iU .not (.bool ok) (some 7) ?_)))
 intro c7 hc7
 refine iE 11 [(2, .p 2 0), (4, .p 4 0), (5, Ba false), (7, Ba c7)] [(2, [Bv g, Hw k, Lw k, Iv e]), (4, [.v (.nilIface)])] ?_
 cases c7
 ·replace hc7 := bf hc7
  have hk : ok = true := by simpa using hc7
  have hm := h hk
  refine iF (vc_skip (seq_n (vc_seqr rfl (iQ 1 (iC 22 [.agg [Bv g, Hw k, Lw k, Iv e]] (some 10) (c_vNum (Nat.lt_trans hm.1 e34_lt)) ?_)))))
  rintro _ rfl
  refine iQ 2 (iE 11 [(4, .p 4 0), (5, Ba true), (7, Ba false)] [(4, [.bx (numV g k e).enc])] ?_)
  refine vc_ret (iS (.agg [.bx (numV g k e).enc]) (Bv true) [] ?_)
  exact ⟨_, _, _, rfl, .inl rfl, by rw [hk, fitO_some hm, numV_may hm]; rfl, by rw [hk, fitO_some hm]; rfl⟩
 ·replace hc7 := bt hc7
  have hk : ok = false := by simpa using hc7
  refine iT (vc_seqr rfl (iQ 3 (iE 11 [(2, .p 2 0), (4, .p 4 0), (5, Ba false), (7, Ba true)] [(2, [Bv g, Hw k, Lw k, Iv e]), (4, [.v (.nilIface)])] ?_)))
  refine vc_ret (seq_r (iS (.agg [.v (.nilIface)]) (Bv false) [] ?_))
  exact ⟨_, .null, _, rfl, IsV.null, by rw [hk, fitO_none]; rfl, by rw [hk, fitO_none]; rfl⟩
theorem c_number {g : Bool} {k : Nat} {e : Int} {ok : Bool} (h : ok = true → May g k e) : HasC Tryz.prog 29 [dDec g k e, .v (.bool ok)] (fun r => ∃ v o, r = .tup [VV v, .v (.bool o)] ∧ v = optV (fitO (g, k, e, ok)) ∧ o = (fitO (g, k, e, ok)).isSome) := (v_number h).isVb (q := fun v o => v = optV (fitO (g, k, e, ok)) ∧ o = (fitO (g, k, e, ok)).isSome)

noncomputable def addX (x y : D3) : T4 := addT x.g x.n x.e y.g y.n y.e
noncomputable def subX (x y : D3) : T4 := addT x.g x.n x.e (!y.g && decide (y.n ≠ 0)) y.n y.e
noncomputable def mulX (x y : D3) : T4 := mulT (x.g, x.n, x.e, true) (y.g, y.n, y.e, true)
noncomputable def divX (x y : D3) : T4 := qDivT (x.g != y.g) x.n y.n (x.e - y.e)
theorem fitU_rng {m : Int} {s : Bool} {N : Nat} {e : Int} {more : Bool} {g : Bool} {k : Nat} {x : Int} {ok : Bool} (ht : fitU m s N e more = (g, k, x, ok)) : k < E34 ∧ -6176 ≤ x ∧ x ≤ 6111 ∧ (k = 0 → g = false) :=
  fitE_range (fit2_lt (cutQ_E34 (by unfold fitKU; omega))) ht
theorem may_of {g : Bool} {k : Nat} {x : Int} (h : k < E34 ∧ -6176 ≤ x ∧ x ≤ 6111 ∧ (k = 0 → g = false)) : May g k x := ⟨h.1, h.2.1, h.2.2.1, fun hg hk => by rw [h.2.2.2 hk] at hg; cases hg⟩
theorem add_may {x y : D3} {g : Bool} {k : Nat} {e : Int} {ok : Bool} (h : addX x y = (g, k, e, ok)) : May g k e := may_of (fitU_rng h)
theorem sub_may {x y : D3} {g : Bool} {k : Nat} {e : Int} {ok : Bool} (h : subX x y = (g, k, e, ok)) : May g k e := may_of (fitU_rng h)
theorem mul_may {x y : D3} {g : Bool} {k : Nat} {e : Int} {ok : Bool} (h : mulX x y = (g, k, e, ok)) : May g k e := may_of (mulT_range h)
theorem div_may {x y : D3} {g : Bool} {k : Nat} {e : Int} {ok : Bool} (h : divX x y = (g, k, e, ok)) : May g k e := by
  unfold divX qDivT at h
  split at h
  · cases h
    exact ⟨by decide, by decide, by decide, fun h => by cases h⟩
  · unfold divT at h
    split at h
    · exact may_of (fitT_range h)
    · exact may_of (fitT_range h)
/-- Two numbers by an operator: what is told. -/
def dOpt (o : Option D3) : DV := .tup [VV (optV o), .v (.bool o.isSome)]
theorem dOpt_of {P : Program} {f : FuncId} {ds : List DV} {o : Option D3} (h : HasC P f ds (fun y => ∃ x v ok, y = .tup [x, .v (.bool ok)] ∧ IsV x v ∧ v = optV o ∧ ok = o.isSome)) : HasC P f ds (fun y => y = dOpt o) :=
  (h.isVb (q := fun v ok => v = optV o ∧ ok = o.isSome)).mono fun y ⟨v, ok, h1, h2, h3⟩ => by rw [h1, h2, h3]; rfl
theorem c_ZeroN {g : Bool} {n : Nat} {e : Int} (hn : n < B128) (h : n ≠ 0) : HasC Tryz.prog 33 [dDec g n e] (fun y => y = .v (.bool false)) := (c_Zero hn).mono fun y ⟨b, h1, h2⟩ => by
  cases b with
  | true => exact absurd (h2.1 rfl) h
  | false => exact h1
theorem v_Add {x y : D3} : HasC Tryz.prog 12 [.v (.string (⟨#[43]⟩)), .agg [.bx (Vl.num (x).g (x).n (x).e).enc], .agg [.bx (Vl.num (y).g (y).n (y).e).enc]] (fun r => ∃ z v o, r = .tup [z, .v (.bool o)] ∧ IsV z v ∧ v = optV (fitO (addX x y)) ∧ o = (fitO (addX x y)).isSome) := by
 refine HasC.of [] (fn := Tryz.f12) tyOk mixed (fun args w => Tryz.call12 args w) Tryz.func12 rfl (by kernel_rfl) (Nat.le_of_ble_eq_true rfl) (⟨_, _, _, _, rfl, .inl rfl, rfl, rfl⟩) ?_
 refine vc_seqr rfl (iQ 4 (iE 73 [(0, .d (Sv (⟨#[43]⟩))), (4, .p 4 0), (5, .p 5 0), (6, .p 6 0), (7, Ba false)] [(4, [.bx (Vl.num (x).g (x).n (x).e).enc]), (5, [.bx (Vl.num (y).g (y).n (y).e).enc]), (6, [.v (.nilIface)])] ?_))
 refine vc_seqr rfl (iQ 2 (iC 28 [.agg [.bx (Vl.num (x).g (x).n (x).e).enc], .agg [.bx (Vl.num (y).g (y).n (y).e).enc]] (some 14) (c_two) ?_))
 rintro _ rfl
 refine iQ 9 (iE 73 [(0, .d (Sv (⟨#[43]⟩))), (6, .p 6 0), (7, Ba false), (8, .p 8 0), (9, .p 9 0), (10, Ba true)] [(6, [.v (.nilIface)]), (8, [Bv ((x).g), Hw ((x).n), Lw ((x).n), Iv ((x).e)]), (9, [Bv ((y).g), Hw ((y).n), Lw ((y).n), Iv ((y).e)])] ?_)
 refine vc_seq (vc_seqr rfl (iQ 1 (iU .not (.bool true) (some 19) ?_)))
 refine all_false ((by simp)) ?_
 refine iE 73 [(0, .d (Sv (⟨#[43]⟩))), (6, .p 6 0), (7, Ba false), (8, .p 8 0), (9, .p 9 0), (19, Ba false)] [(6, [.v (.nilIface)]), (8, [Bv ((x).g), Hw ((x).n), Lw ((x).n), Iv ((x).e)]), (9, [Bv ((y).g), Hw ((y).n), Lw ((y).n), Iv ((y).e)])] ?_
 refine iF (vc_skip (seq_n (vc_seq (vc_seqr rfl (iQ 1 (iE 73 [(6, .p 6 0), (7, Ba false), (8, .p 8 0), (9, .p 9 0), (19, Ba false), (21, .d (Sv (⟨#[43]⟩)))] [(6, [.v (.nilIface)]), (8, [Bv ((x).g), Hw ((x).n), Lw ((x).n), Iv ((x).e)]), (9, [Bv ((y).g), Hw ((y).n), Lw ((y).n), Iv ((y).e)])] ?_))))))
 refine vc_block (vc_seqr rfl (iB .eql 9 (.string (⟨#[43]⟩)) (.string (⟨#[43]⟩)) (some 23) ?_))
 refine all_true ((by decide)) ?_
 have b1 := x.lo; have b2 := x.hi; have b3 := y.lo; have b4 := y.hi
 refine iQ 1 (iE 73 [(6, .p 6 0), (7, Ba false), (8, .p 8 0), (9, .p 9 0), (19, Ba false), (21, .d (Sv (⟨#[43]⟩))), (22, Ba true)] [(6, [.v (.nilIface)]), (8, [Bv ((x).g), Hw ((x).n), Lw ((x).n), Iv ((x).e)]), (9, [Bv ((y).g), Hw ((y).n), Lw ((y).n), Iv ((y).e)])] ?_)
 refine iT (vc_seqr rfl (iQ 2 (iC 30 [.agg [Bv ((x).g), Hw ((x).n), Lw ((x).n), Iv ((x).e)], .agg [Bv ((y).g), Hw ((y).n), Lw ((y).n), Iv ((y).e)]] (some 26) (dfit_ex (c_decAdd x.lt y.lt (by omega) (by omega) (by omega) (by omega))) ?_)))
 rintro _ ⟨g, k, e, ok, rfl, hT⟩
 refine iQ 2 (iC 29 [.agg [Bv g, Hw k, Lw k, Iv e], Bv ok] (some 29) (c_number (fun _ ↦ add_may (x := x) (y := y) hT)) ?_)
 rintro _ ⟨v, o, rfl, hv, ho⟩
 refine iQ 4 (iE 73 [(6, .p 6 0), (7, Ba o), (8, .p 8 0), (9, .p 9 0), (19, Ba false), (21, .d (Sv (⟨#[43]⟩))), (22, Ba true)] [(6, [.bx (v).enc]), (8, [Bv ((x).g), Hw ((x).n), Lw ((x).n), Iv ((x).e)]), (9, [Bv ((y).g), Hw ((y).n), Lw ((y).n), Iv ((y).e)])] ?_)
 refine vc_ret (block_r (seq_r (iS (.agg [.bx (v).enc]) (Bv o) [] ?_)))
 exact ⟨_, _, _, rfl, .inl rfl, by rw [hv, addX, hT], by rw [ho, addX, hT]⟩
theorem c_NAdd {x y : D3} : HasC Tryz.prog 12 [.v (.string ⟨#[43]⟩), VV x.vl, VV y.vl] (fun r => r = dOpt (fitO (addX x y))) := dOpt_of v_Add
theorem v_Sub {x y : D3} : HasC Tryz.prog 12 [.v (.string (⟨#[45]⟩)), .agg [.bx (Vl.num (x).g (x).n (x).e).enc], .agg [.bx (Vl.num (y).g (y).n (y).e).enc]] (fun r => ∃ z v o, r = .tup [z, .v (.bool o)] ∧ IsV z v ∧ v = optV (fitO (subX x y)) ∧ o = (fitO (subX x y)).isSome) := by
 refine HasC.of [] (fn := Tryz.f12) tyOk mixed (fun args w => Tryz.call12 args w) Tryz.func12 rfl (by kernel_rfl) (Nat.le_of_ble_eq_true rfl) (⟨_, _, _, _, rfl, .inl rfl, rfl, rfl⟩) ?_
 refine vc_seqr rfl (iQ 4 (iE 73 [(0, .d (Sv (⟨#[45]⟩))), (4, .p 4 0), (5, .p 5 0), (6, .p 6 0), (7, Ba false)] [(4, [.bx (Vl.num (x).g (x).n (x).e).enc]), (5, [.bx (Vl.num (y).g (y).n (y).e).enc]), (6, [.v (.nilIface)])] ?_))
 refine vc_seqr rfl (iQ 2 (iC 28 [.agg [.bx (Vl.num (x).g (x).n (x).e).enc], .agg [.bx (Vl.num (y).g (y).n (y).e).enc]] (some 14) (c_two) ?_))
 rintro _ rfl
 refine iQ 9 (iE 73 [(0, .d (Sv (⟨#[45]⟩))), (6, .p 6 0), (7, Ba false), (8, .p 8 0), (9, .p 9 0), (10, Ba true)] [(6, [.v (.nilIface)]), (8, [Bv ((x).g), Hw ((x).n), Lw ((x).n), Iv ((x).e)]), (9, [Bv ((y).g), Hw ((y).n), Lw ((y).n), Iv ((y).e)])] ?_)
 refine vc_seq (vc_seqr rfl (iQ 1 (iU .not (.bool true) (some 19) ?_)))
 refine all_false ((by simp)) ?_
 refine iE 73 [(0, .d (Sv (⟨#[45]⟩))), (6, .p 6 0), (7, Ba false), (8, .p 8 0), (9, .p 9 0), (19, Ba false)] [(6, [.v (.nilIface)]), (8, [Bv ((x).g), Hw ((x).n), Lw ((x).n), Iv ((x).e)]), (9, [Bv ((y).g), Hw ((y).n), Lw ((y).n), Iv ((y).e)])] ?_
 refine iF (vc_skip (seq_n (vc_seq (vc_seqr rfl (iQ 1 (iE 73 [(6, .p 6 0), (7, Ba false), (8, .p 8 0), (9, .p 9 0), (19, Ba false), (21, .d (Sv (⟨#[45]⟩)))] [(6, [.v (.nilIface)]), (8, [Bv ((x).g), Hw ((x).n), Lw ((x).n), Iv ((x).e)]), (9, [Bv ((y).g), Hw ((y).n), Lw ((y).n), Iv ((y).e)])] ?_))))))
 refine vc_block (vc_seqr rfl (iB .eql 9 (.string (⟨#[45]⟩)) (.string (⟨#[43]⟩)) (some 23) ?_))
 refine all_false ((by decide)) ?_
 refine iQ 1 (iE 73 [(6, .p 6 0), (7, Ba false), (8, .p 8 0), (9, .p 9 0), (19, Ba false), (21, .d (Sv (⟨#[45]⟩))), (22, Ba false)] [(6, [.v (.nilIface)]), (8, [Bv ((x).g), Hw ((x).n), Lw ((x).n), Iv ((x).e)]), (9, [Bv ((y).g), Hw ((y).n), Lw ((y).n), Iv ((y).e)])] ?_)
 refine iF (vc_seqr rfl (iB .eql 9 (.string (⟨#[45]⟩)) (.string (⟨#[45]⟩)) (some 33) ?_))
 refine all_true ((by decide)) ?_
 have b1 := x.lo; have b2 := x.hi; have b3 := y.lo; have b4 := y.hi
 refine iQ 1 (iE 73 [(6, .p 6 0), (7, Ba false), (8, .p 8 0), (9, .p 9 0), (19, Ba false), (21, .d (Sv (⟨#[45]⟩))), (22, Ba false), (32, Ba true)] [(6, [.v (.nilIface)]), (8, [Bv ((x).g), Hw ((x).n), Lw ((x).n), Iv ((x).e)]), (9, [Bv ((y).g), Hw ((y).n), Lw ((y).n), Iv ((y).e)])] ?_)
 refine iT (vc_seqr rfl (iQ 2 (iC 31 [.agg [Bv ((x).g), Hw ((x).n), Lw ((x).n), Iv ((x).e)], .agg [Bv ((y).g), Hw ((y).n), Lw ((y).n), Iv ((y).e)]] (some 36) (dfit_ex (c_decSub x.lt y.lt (by omega) (by omega) (by omega) (by omega))) ?_)))
 rintro _ ⟨g, k, e, ok, rfl, hT⟩
 refine iQ 2 (iC 29 [.agg [Bv g, Hw k, Lw k, Iv e], Bv ok] (some 39) (c_number (fun _ ↦ sub_may (x := x) (y := y) hT)) ?_)
 rintro _ ⟨v, o, rfl, hv, ho⟩
 refine iQ 4 (iE 73 [(6, .p 6 0), (7, Ba o), (8, .p 8 0), (9, .p 9 0), (19, Ba false), (21, .d (Sv (⟨#[45]⟩))), (22, Ba false), (32, Ba true)] [(6, [.bx (v).enc]), (8, [Bv ((x).g), Hw ((x).n), Lw ((x).n), Iv ((x).e)]), (9, [Bv ((y).g), Hw ((y).n), Lw ((y).n), Iv ((y).e)])] ?_)
 refine vc_ret (block_r (seq_r (iS (.agg [.bx (v).enc]) (Bv o) [] ?_)))
 exact ⟨_, _, _, rfl, .inl rfl, by rw [hv, subX, hT], by rw [ho, subX, hT]⟩
theorem c_NSub {x y : D3} : HasC Tryz.prog 12 [.v (.string ⟨#[45]⟩), VV x.vl, VV y.vl] (fun r => r = dOpt (fitO (subX x y))) := dOpt_of v_Sub
theorem v_Mul {x y : D3} : HasC Tryz.prog 12 [.v (.string (⟨#[42]⟩)), .agg [.bx (Vl.num (x).g (x).n (x).e).enc], .agg [.bx (Vl.num (y).g (y).n (y).e).enc]] (fun r => ∃ z v o, r = .tup [z, .v (.bool o)] ∧ IsV z v ∧ v = optV (fitO (mulX x y)) ∧ o = (fitO (mulX x y)).isSome) := by
 refine HasC.of [] (fn := Tryz.f12) tyOk mixed (fun args w => Tryz.call12 args w) Tryz.func12 rfl (by kernel_rfl) (Nat.le_of_ble_eq_true rfl) (⟨_, _, _, _, rfl, .inl rfl, rfl, rfl⟩) ?_
 refine vc_seqr rfl (iQ 4 (iE 73 [(0, .d (Sv (⟨#[42]⟩))), (4, .p 4 0), (5, .p 5 0), (6, .p 6 0), (7, Ba false)] [(4, [.bx (Vl.num (x).g (x).n (x).e).enc]), (5, [.bx (Vl.num (y).g (y).n (y).e).enc]), (6, [.v (.nilIface)])] ?_))
 refine vc_seqr rfl (iQ 2 (iC 28 [.agg [.bx (Vl.num (x).g (x).n (x).e).enc], .agg [.bx (Vl.num (y).g (y).n (y).e).enc]] (some 14) (c_two) ?_))
 rintro _ rfl
 refine iQ 9 (iE 73 [(0, .d (Sv (⟨#[42]⟩))), (6, .p 6 0), (7, Ba false), (8, .p 8 0), (9, .p 9 0), (10, Ba true)] [(6, [.v (.nilIface)]), (8, [Bv ((x).g), Hw ((x).n), Lw ((x).n), Iv ((x).e)]), (9, [Bv ((y).g), Hw ((y).n), Lw ((y).n), Iv ((y).e)])] ?_)
 refine vc_seq (vc_seqr rfl (iQ 1 (iU .not (.bool true) (some 19) ?_)))
 refine all_false ((by simp)) ?_
 refine iE 73 [(0, .d (Sv (⟨#[42]⟩))), (6, .p 6 0), (7, Ba false), (8, .p 8 0), (9, .p 9 0), (19, Ba false)] [(6, [.v (.nilIface)]), (8, [Bv ((x).g), Hw ((x).n), Lw ((x).n), Iv ((x).e)]), (9, [Bv ((y).g), Hw ((y).n), Lw ((y).n), Iv ((y).e)])] ?_
 refine iF (vc_skip (seq_n (vc_seq (vc_seqr rfl (iQ 1 (iE 73 [(6, .p 6 0), (7, Ba false), (8, .p 8 0), (9, .p 9 0), (19, Ba false), (21, .d (Sv (⟨#[42]⟩)))] [(6, [.v (.nilIface)]), (8, [Bv ((x).g), Hw ((x).n), Lw ((x).n), Iv ((x).e)]), (9, [Bv ((y).g), Hw ((y).n), Lw ((y).n), Iv ((y).e)])] ?_))))))
 refine vc_block (vc_seqr rfl (iB .eql 9 (.string (⟨#[42]⟩)) (.string (⟨#[43]⟩)) (some 23) ?_))
 refine all_false ((by decide)) ?_
 refine iQ 1 (iE 73 [(6, .p 6 0), (7, Ba false), (8, .p 8 0), (9, .p 9 0), (19, Ba false), (21, .d (Sv (⟨#[42]⟩))), (22, Ba false)] [(6, [.v (.nilIface)]), (8, [Bv ((x).g), Hw ((x).n), Lw ((x).n), Iv ((x).e)]), (9, [Bv ((y).g), Hw ((y).n), Lw ((y).n), Iv ((y).e)])] ?_)
 refine iF (vc_seqr rfl (iB .eql 9 (.string (⟨#[42]⟩)) (.string (⟨#[45]⟩)) (some 33) ?_))
 refine all_false ((by decide)) ?_
 refine iQ 1 (iE 73 [(6, .p 6 0), (7, Ba false), (8, .p 8 0), (9, .p 9 0), (19, Ba false), (21, .d (Sv (⟨#[42]⟩))), (22, Ba false), (32, Ba false)] [(6, [.v (.nilIface)]), (8, [Bv ((x).g), Hw ((x).n), Lw ((x).n), Iv ((x).e)]), (9, [Bv ((y).g), Hw ((y).n), Lw ((y).n), Iv ((y).e)])] ?_)
 refine iF (vc_seqr rfl (iB .eql 9 (.string (⟨#[42]⟩)) (.string (⟨#[42]⟩)) (some 43) ?_))
 refine all_true ((by decide)) ?_
 have b1 := x.lo; have b2 := x.hi; have b3 := y.lo; have b4 := y.hi
 refine iQ 1 (iE 73 [(6, .p 6 0), (7, Ba false), (8, .p 8 0), (9, .p 9 0), (19, Ba false), (21, .d (Sv (⟨#[42]⟩))), (22, Ba false), (32, Ba false), (42, Ba true)] [(6, [.v (.nilIface)]), (8, [Bv ((x).g), Hw ((x).n), Lw ((x).n), Iv ((x).e)]), (9, [Bv ((y).g), Hw ((y).n), Lw ((y).n), Iv ((y).e)])] ?_)
 refine iT (vc_seqr rfl (iQ 2 (iC 32 [.agg [Bv ((x).g), Hw ((x).n), Lw ((x).n), Iv ((x).e)], .agg [Bv ((y).g), Hw ((y).n), Lw ((y).n), Iv ((y).e)]] (some 46) (c_decMulT (o1 := true) (o2 := true) x.ltB y.ltB (by omega) (by omega) (by omega) (by omega)) ?_)))
 rintro _ ⟨g, k, e, ok, rfl, hT⟩
 refine iQ 2 (iC 29 [.agg [Bv g, Hw k, Lw k, Iv e], Bv ok] (some 49) (c_number (fun _ ↦ mul_may (x := x) (y := y) hT)) ?_)
 rintro _ ⟨v, o, rfl, hv, ho⟩
 refine iQ 4 (iE 73 [(6, .p 6 0), (7, Ba o), (8, .p 8 0), (9, .p 9 0), (19, Ba false), (21, .d (Sv (⟨#[42]⟩))), (22, Ba false), (32, Ba false), (42, Ba true)] [(6, [.bx (v).enc]), (8, [Bv ((x).g), Hw ((x).n), Lw ((x).n), Iv ((x).e)]), (9, [Bv ((y).g), Hw ((y).n), Lw ((y).n), Iv ((y).e)])] ?_)
 refine vc_ret (block_r (seq_r (iS (.agg [.bx (v).enc]) (Bv o) [] ?_)))
 exact ⟨_, _, _, rfl, .inl rfl, by rw [hv, mulX, hT], by rw [ho, mulX, hT]⟩
theorem c_NMul {x y : D3} : HasC Tryz.prog 12 [.v (.string ⟨#[42]⟩), VV x.vl, VV y.vl] (fun r => r = dOpt (fitO (mulX x y))) := dOpt_of v_Mul
theorem v_Div {x y : D3} (hy : y.n ≠ 0) : HasC Tryz.prog 12 [.v (.string (⟨#[47]⟩)), .agg [.bx (Vl.num (x).g (x).n (x).e).enc], .agg [.bx (Vl.num (y).g (y).n (y).e).enc]] (fun r => ∃ z v o, r = .tup [z, .v (.bool o)] ∧ IsV z v ∧ v = optV (fitO (divX x y)) ∧ o = (fitO (divX x y)).isSome) := by
 refine HasC.of [] (fn := Tryz.f12) tyOk mixed (fun args w => Tryz.call12 args w) Tryz.func12 rfl (by kernel_rfl) (Nat.le_of_ble_eq_true rfl) (⟨_, _, _, _, rfl, .inl rfl, rfl, rfl⟩) ?_
 refine vc_seqr rfl (iQ 4 (iE 73 [(0, .d (Sv (⟨#[47]⟩))), (4, .p 4 0), (5, .p 5 0), (6, .p 6 0), (7, Ba false)] [(4, [.bx (Vl.num (x).g (x).n (x).e).enc]), (5, [.bx (Vl.num (y).g (y).n (y).e).enc]), (6, [.v (.nilIface)])] ?_))
 refine vc_seqr rfl (iQ 2 (iC 28 [.agg [.bx (Vl.num (x).g (x).n (x).e).enc], .agg [.bx (Vl.num (y).g (y).n (y).e).enc]] (some 14) (c_two) ?_))
 rintro _ rfl
 refine iQ 9 (iE 73 [(0, .d (Sv (⟨#[47]⟩))), (6, .p 6 0), (7, Ba false), (8, .p 8 0), (9, .p 9 0), (10, Ba true)] [(6, [.v (.nilIface)]), (8, [Bv ((x).g), Hw ((x).n), Lw ((x).n), Iv ((x).e)]), (9, [Bv ((y).g), Hw ((y).n), Lw ((y).n), Iv ((y).e)])] ?_)
 refine vc_seq (vc_seqr rfl (iQ 1 (iU .not (.bool true) (some 19) ?_)))
 refine all_false ((by simp)) ?_
 refine iE 73 [(0, .d (Sv (⟨#[47]⟩))), (6, .p 6 0), (7, Ba false), (8, .p 8 0), (9, .p 9 0), (19, Ba false)] [(6, [.v (.nilIface)]), (8, [Bv ((x).g), Hw ((x).n), Lw ((x).n), Iv ((x).e)]), (9, [Bv ((y).g), Hw ((y).n), Lw ((y).n), Iv ((y).e)])] ?_
 refine iF (vc_skip (seq_n (vc_seq (vc_seqr rfl (iQ 1 (iE 73 [(6, .p 6 0), (7, Ba false), (8, .p 8 0), (9, .p 9 0), (19, Ba false), (21, .d (Sv (⟨#[47]⟩)))] [(6, [.v (.nilIface)]), (8, [Bv ((x).g), Hw ((x).n), Lw ((x).n), Iv ((x).e)]), (9, [Bv ((y).g), Hw ((y).n), Lw ((y).n), Iv ((y).e)])] ?_))))))
 refine vc_block (vc_seqr rfl (iB .eql 9 (.string (⟨#[47]⟩)) (.string (⟨#[43]⟩)) (some 23) ?_))
 refine all_false ((by decide)) ?_
 refine iQ 1 (iE 73 [(6, .p 6 0), (7, Ba false), (8, .p 8 0), (9, .p 9 0), (19, Ba false), (21, .d (Sv (⟨#[47]⟩))), (22, Ba false)] [(6, [.v (.nilIface)]), (8, [Bv ((x).g), Hw ((x).n), Lw ((x).n), Iv ((x).e)]), (9, [Bv ((y).g), Hw ((y).n), Lw ((y).n), Iv ((y).e)])] ?_)
 refine iF (vc_seqr rfl (iB .eql 9 (.string (⟨#[47]⟩)) (.string (⟨#[45]⟩)) (some 33) ?_))
 refine all_false ((by decide)) ?_
 refine iQ 1 (iE 73 [(6, .p 6 0), (7, Ba false), (8, .p 8 0), (9, .p 9 0), (19, Ba false), (21, .d (Sv (⟨#[47]⟩))), (22, Ba false), (32, Ba false)] [(6, [.v (.nilIface)]), (8, [Bv ((x).g), Hw ((x).n), Lw ((x).n), Iv ((x).e)]), (9, [Bv ((y).g), Hw ((y).n), Lw ((y).n), Iv ((y).e)])] ?_)
 refine iF (vc_seqr rfl (iB .eql 9 (.string (⟨#[47]⟩)) (.string (⟨#[42]⟩)) (some 43) ?_))
 refine all_false ((by decide)) ?_
 refine iQ 1 (iE 73 [(6, .p 6 0), (7, Ba false), (8, .p 8 0), (9, .p 9 0), (19, Ba false), (21, .d (Sv (⟨#[47]⟩))), (22, Ba false), (32, Ba false), (42, Ba false)] [(6, [.v (.nilIface)]), (8, [Bv ((x).g), Hw ((x).n), Lw ((x).n), Iv ((x).e)]), (9, [Bv ((y).g), Hw ((y).n), Lw ((y).n), Iv ((y).e)])] ?_)
 refine iF (vc_seqr rfl (iB .eql 9 (.string (⟨#[47]⟩)) (.string (⟨#[47]⟩)) (some 53) ?_))
 refine all_true ((by decide)) ?_
 refine iQ 1 (iE 73 [(6, .p 6 0), (7, Ba false), (8, .p 8 0), (9, .p 9 0), (19, Ba false), (21, .d (Sv (⟨#[47]⟩))), (22, Ba false), (32, Ba false), (42, Ba false), (52, Ba true)] [(6, [.v (.nilIface)]), (8, [Bv ((x).g), Hw ((x).n), Lw ((x).n), Iv ((x).e)]), (9, [Bv ((y).g), Hw ((y).n), Lw ((y).n), Iv ((y).e)])] ?_)
 refine iT (vc_seq (vc_seqr rfl (iQ 1 (iC 33 [.agg [Bv ((y).g), Hw ((y).n), Lw ((y).n), Iv ((y).e)]] (some 55) (c_ZeroN y.ltB hy) ?_))))
 rintro _ rfl
 have b1 := x.lo; have b2 := x.hi; have b3 := y.lo; have b4 := y.hi
 refine iE 73 [(6, .p 6 0), (7, Ba false), (8, .p 8 0), (9, .p 9 0), (19, Ba false), (21, .d (Sv (⟨#[47]⟩))), (22, Ba false), (32, Ba false), (42, Ba false), (52, Ba true), (55, Ba false)] [(6, [.v (.nilIface)]), (8, [Bv ((x).g), Hw ((x).n), Lw ((x).n), Iv ((x).e)]), (9, [Bv ((y).g), Hw ((y).n), Lw ((y).n), Iv ((y).e)])] ?_
 refine iF (vc_skip (seq_n (vc_seqr rfl (iQ 2 (iC 15 [.agg [Bv ((x).g), Hw ((x).n), Lw ((x).n), Iv ((x).e)], .agg [Bv ((y).g), Hw ((y).n), Lw ((y).n), Iv ((y).e)]] (some 59) (c_qDivT x.lt y.lt (by omega) (by omega) (by omega) (by omega)) ?_)))))
 rintro _ ⟨g, k, e, ok, rfl, hT⟩
 refine iQ 2 (iC 29 [.agg [Bv g, Hw k, Lw k, Iv e], Bv ok] (some 62) (c_number (fun _ ↦ div_may (x := x) (y := y) hT)) ?_)
 rintro _ ⟨v, o, rfl, hv, ho⟩
 refine iQ 4 (iE 73 [(6, .p 6 0), (7, Ba o), (8, .p 8 0), (9, .p 9 0), (19, Ba false), (21, .d (Sv (⟨#[47]⟩))), (22, Ba false), (32, Ba false), (42, Ba false), (52, Ba true), (55, Ba false)] [(6, [.bx (v).enc]), (8, [Bv ((x).g), Hw ((x).n), Lw ((x).n), Iv ((x).e)]), (9, [Bv ((y).g), Hw ((y).n), Lw ((y).n), Iv ((y).e)])] ?_)
 refine vc_ret (block_r (seq_r (iS (.agg [.bx (v).enc]) (Bv o) [] ?_)))
 exact ⟨_, _, _, rfl, .inl rfl, by rw [hv, divX, hT], by rw [ho, divX, hT]⟩
theorem c_NDiv {x y : D3} (hy : y.n ≠ 0) : HasC Tryz.prog 12 [.v (.string ⟨#[47]⟩), VV x.vl, VV y.vl] (fun r => r = dOpt (fitO (divX x y))) := dOpt_of (v_Div hy)
theorem dOpt_ex {P : Program} {f : FuncId} {ds : List DV} {o : Option D3} (h : HasC P f ds (fun y => y = dOpt o)) : HasC P f ds (fun y => ∃ v ok, y = .tup [VV v, .v (.bool ok)] ∧ v = optV o ∧ ok = o.isSome) := h.mono fun y hy => ⟨_, _, hy, rfl, rfl⟩
theorem opt_yes {o : Option D3} {v : Vl} {ok : Bool} (h1 : v = optV o) (h2 : ok = o.isSome) (h : ok = true) : ∃ d, o = some d ∧ v = d.vl := by
  cases o with
  | none => rw [h2] at h; cases h
  | some d => exact ⟨d, rfl, h1⟩
theorem opt_no {o : Option D3} {v : Vl} {ok : Bool} (h1 : v = optV o) (h2 : ok = o.isSome) (h : ok = false) : o = none ∧ v = .null := by
  cases o with
  | none => exact ⟨rfl, h1⟩
  | some d => rw [h2] at h; cases h
theorem c_vNumD (x : D3) : HasC Tryz.prog 22 [dDec x.g x.n x.e] (fun r => r = VV (.num x.g x.n x.e)) := (c_vNum x.ltB).mono fun r hr => by rw [hr, numV_may x.2]
theorem c_NAddE {v w : Vl} {x y : D3} (hv : v = x.vl) (hw : w = y.vl) : HasC Tryz.prog 12 [.v (.string ⟨#[43]⟩), VV v, VV w] (fun y' => ∃ v ok, y' = .tup [VV v, .v (.bool ok)] ∧ v = optV (fitO (addX x y)) ∧ ok = (fitO (addX x y)).isSome) := by subst hv hw; exact dOpt_ex c_NAdd
theorem c_NSubE {v w : Vl} {x y : D3} (hv : v = x.vl) (hw : w = y.vl) : HasC Tryz.prog 12 [.v (.string ⟨#[45]⟩), VV v, VV w] (fun y' => ∃ v ok, y' = .tup [VV v, .v (.bool ok)] ∧ v = optV (fitO (subX x y)) ∧ ok = (fitO (subX x y)).isSome) := by subst hv hw; exact dOpt_ex c_NSub
theorem c_NMulE {v w : Vl} {x y : D3} (hv : v = x.vl) (hw : w = y.vl) : HasC Tryz.prog 12 [.v (.string ⟨#[42]⟩), VV v, VV w] (fun y' => ∃ v ok, y' = .tup [VV v, .v (.bool ok)] ∧ v = optV (fitO (mulX x y)) ∧ ok = (fitO (mulX x y)).isSome) := by subst hv hw; exact dOpt_ex c_NMul
theorem c_NDivE {v w : Vl} {x y : D3} (hv : v = x.vl) (hw : w = y.vl) (hy : y.n ≠ 0) : HasC Tryz.prog 12 [.v (.string ⟨#[47]⟩), VV v, VV w] (fun y' => ∃ v ok, y' = .tup [VV v, .v (.bool ok)] ∧ v = optV (fitO (divX x y)) ∧ ok = (fitO (divX x y)).isSome) := by subst hv hw; exact dOpt_ex (c_NDiv hy)
theorem c_NullN {v : Vl} {x : D3} (hv : v = x.vl) : HasC Tryz.prog 9 [VV v] (fun y => y = .v (.bool false)) := by subst hv; exact c_Null _
/-- A whole number. -/
def intD (x : Int) (h0 : -9223372036854775808 ≤ x) (h1 : x ≤ 9223372036854775807) : D3 := ⟨(decide (x < 0), x.natAbs, 0), may_i64 h0 h1⟩
end Go.Proofs.YtmldjlgeeljfdaaGreat
