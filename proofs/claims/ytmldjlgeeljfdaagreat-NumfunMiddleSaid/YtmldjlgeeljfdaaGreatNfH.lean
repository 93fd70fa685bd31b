/-
  casuistlaw20.awake.
-/
import Derived.Test.YtmldjlgeeljfdaaGreatNfG
import Derived.Test.YtmldjlgeeljfdaaGreatNfE
namespace Go.Proofs.YtmldjlgeeljfdaaGreat
open Go.RowKit Go.Sort
set_option linter.unusedVariables false
set_option linter.unusedSimpArgs false
set_option maxRecDepth 100000

def d0 : D3 := natD 0 (by decide)
def d1 : D3 := natD 1 (by decide)
def d2 : D3 := natD 2 (by decide)
def d3 : D3 := natD 3 (by decide)
theorem c_v0 : HasC Tryz.prog 13 [.v (.int .i64 0)] (fun r => r = VV (.num d0.g d0.n d0.e)) := c_vInt (x := 0) (by decide) (by decide)
theorem c_v1 : HasC Tryz.prog 13 [.v (.int .i64 1)] (fun r => r = VV (.num d1.g d1.n d1.e)) := c_vInt (x := 1) (by decide) (by decide)
theorem c_v2 : HasC Tryz.prog 13 [.v (.int .i64 2)] (fun r => r = VV (.num d2.g d2.n d2.e)) := c_vInt (x := 2) (by decide) (by decide)
theorem c_v3 : HasC Tryz.prog 13 [.v (.int .i64 3)] (fun r => r = VV (.num d3.g d3.n d3.e)) := c_vInt (x := 3) (by decide) (by decide)
theorem c_i1 : HasC Tryz.prog 16 [.v (.int .i64 1)] (fun r => r = dDec d1.g d1.n d1.e) := c_Int (x := 1) (by decide) (by decide)
theorem c_i2 : HasC Tryz.prog 16 [.v (.int .i64 2)] (fun r => r = dDec d2.g d2.n d2.e) := c_Int (x := 2) (by decide) (by decide)
theorem c_i3 : HasC Tryz.prog 16 [.v (.int .i64 3)] (fun r => r = dDec d3.g d3.n d3.e) := c_Int (x := 3) (by decide) (by decide)
theorem c_Zero0 {g : Bool} {n : Nat} {e : Int} (hn : n < B128) (h : n = 0) : HasC Tryz.prog 33 [dDec g n e] (fun y => y = .v (.bool true)) := (c_Zero hn).mono fun y ⟨b, h1, h2⟩ => by rw [h1, h2.2 h]
theorem v_Div0 {x y : D3} (hy : y.n = 0) : HasC Tryz.prog 12 [.v (.string (⟨#[47]⟩)), .agg [.bx (Vl.num (x).g (x).n (x).e).enc], .agg [.bx (Vl.num (y).g (y).n (y).e).enc]] (fun r => ∃ z v o, r = .tup [z, .v (.bool o)] ∧ IsV z v ∧ v = .null ∧ o = true) := by
 refine HasC.of [] (fn := Tryz.f12) tyOk mixed (fun args w => Tryz.call12 args w) Tryz.func12 rfl (by kernel_rfl) (Nat.le_of_ble_eq_true rfl) (⟨_, _, _, _, rfl, .inl rfl, rfl, rfl⟩) ?_
 refine vc_seqr rfl (iQ 4 (iE 73 [(0, .d (Sv (⟨#[47]⟩))), (4, .p 4 0), (5, .p 5 0), (6, .p 6 0), (7, Ba false)] [(4, [.bx (Vl.num (x).g (x).n (x).e).enc]), (5, [.bx (Vl.num (y).g (y).n (y).e).enc]), (6, [.v (.nilIface)])] ?_))
 refine vc_seqr rfl (iQ 2 (iC 28 [.agg [.bx (Vl.num (x).g (x).n (x).e).enc], .agg [.bx (Vl.num (y).g (y).n (y).e).enc]] (some 14) (c_two) ?_))
 rintro _ rfl
 refine iQ 9 (iE 73 [(0, .d (Sv (⟨#[47]⟩))), (6, .p 6 0), (7, Ba false), (8, .p 8 0), (9, .p 9 0), (10, Ba true)] [(6, [.v (.nilIface)]), (8, [Bv ((x).g), Hw ((x).n), Lw ((x).n), Iv ((x).e)]), (9, [Bv ((y).g), Hw ((y).n), Lw ((y).n), Iv ((y).e)])] ?_)
 refine vc_seq (vc_seqr rfl (iQ 1 (iU .not (.bool true) (some 19) ?_)))
 refine all_false ((by simp)) ?_
 refine iE 73 [(0, .d (Sv (⟨#[47]⟩))), (6, .p 6 0), (7, Ba false), (8, .p 8 0), (9, .p 9 0), (19, Ba false)] [(6, [.v (.nilIface)]), (8, [Bv ((x).g), Hw ((x).n), Lw ((x).n), Iv ((x).e)]), (9, [Bv ((y).g), Hw ((y).n), Lw ((y).n), Iv ((y).e)])] ?_
 refine iF (vc_skip (seq_n (vc_seq (vc_seqr rfl (iQ 1 (iE 73 [(6, .p 6 0), (7, Ba false), (8, .p 8 0), (9, .p 9 0), (19, Ba false), (21, .d (Sv (⟨#[47]⟩)))] [(6, [.v (.nilIface)]), (8, [Bv ((x).g), Hw ((x).n), Lw ((x).n), Iv ((x).e)]), (9, [Bv ((y).g), Hw ((y).n), Lw ((y).n), Iv ((y).e)])] ?_))))))
 refine vc_block (vc_seqr rfl (iB .eql 9 (.string (⟨#[47]⟩)) (.string (⟨#[43]⟩)) (some 23) ?_))
 refine all_false ((by decide)) ?_
 refine iQ 1 (iE 73 [(6, .p 6 0), (7, Ba false), (8, .p 8 0), (9, .p 9 0), (19, Ba false), (21, .d (Sv (⟨#[47]⟩))), (22, Ba false)] [(6, [.v (.nilIface)]), (8, [Bv ((x).g), Hw ((x).n), Lw ((x).n), Iv ((x).e)]), (9, [Bv ((y).g), Hw ((y).n), Lw ((y).n), Iv ((y).e)])] ?_)
 refine iF (vc_seqr rfl (iB .eql 9 (.string (⟨#[47]⟩)) (.string (⟨#[45]⟩)) (some 33) ?_))
 refine all_false ((by decide)) ?_
 refine iQ 1 (iE 73 [(6, .p 6 0), (7, Ba false), (8, .p 8 0), (9, .p 9 0), (19, Ba false), (21, .d (Sv (⟨#[47]⟩))), (22, Ba false), (32, Ba false)] [(6, [.v (.nilIface)]), (8, [Bv ((x).g), Hw ((x).n), Lw ((x).n), Iv ((x).e)]), (9, [Bv ((y).g), Hw ((y).n), Lw ((y).n), Iv ((y).e)])] ?_)
 refine iF (vc_seqr rfl (iB .eql 9 (.string (⟨#[47]⟩)) (.string (⟨#[42]⟩)) (some 43) ?_))
 refine all_false ((by decide)) ?_
 refine iQ 1 (iE 73 [(6, .p 6 0), (7, Ba false), (8, .p 8 0), (9, .p 9 0), (19, Ba false), (21, .d (Sv (⟨#[47]⟩))), (22, Ba false), (32, Ba false), (42, Ba false)] [(6, [.v (.nilIface)]), (8, [Bv ((x).g), Hw ((x).n), Lw ((x).n), Iv ((x).e)]), (9, [Bv ((y).g), Hw ((y).n), Lw ((y).n), Iv ((y).e)])] ?_)
 refine iF (vc_seqr rfl (iB .eql 9 (.string (⟨#[47]⟩)) (.string (⟨#[47]⟩)) (some 53) ?_))
 refine all_true ((by decide)) ?_
 refine iQ 1 (iE 73 [(6, .p 6 0), (7, Ba false), (8, .p 8 0), (9, .p 9 0), (19, Ba false), (21, .d (Sv (⟨#[47]⟩))), (22, Ba false), (32, Ba false), (42, Ba false), (52, Ba true)] [(6, [.v (.nilIface)]), (8, [Bv ((x).g), Hw ((x).n), Lw ((x).n), Iv ((x).e)]), (9, [Bv ((y).g), Hw ((y).n), Lw ((y).n), Iv ((y).e)])] ?_)
 refine iT (vc_seq (vc_seqr rfl (iQ 1 (iC 33 [.agg [Bv ((y).g), Hw ((y).n), Lw ((y).n), Iv ((y).e)]] (some 55) (c_Zero0 y.ltB hy) ?_))))
 rintro _ rfl
 refine iE 73 [(6, .p 6 0), (7, Ba false), (8, .p 8 0), (9, .p 9 0), (19, Ba false), (21, .d (Sv (⟨#[47]⟩))), (22, Ba false), (32, Ba false), (42, Ba false), (52, Ba true), (55, Ba true)] [(6, [.v (.nilIface)]), (8, [Bv ((x).g), Hw ((x).n), Lw ((x).n), Iv ((x).e)]), (9, [Bv ((y).g), Hw ((y).n), Lw ((y).n), Iv ((y).e)])] ?_
 refine iT (vc_seqr rfl (iQ 3 (iE 73 [(6, .p 6 0), (7, Ba true), (8, .p 8 0), (9, .p 9 0), (19, Ba false), (21, .d (Sv (⟨#[47]⟩))), (22, Ba false), (32, Ba false), (42, Ba false), (52, Ba true), (55, Ba true)] [(6, [.v (.nilIface)]), (8, [Bv ((x).g), Hw ((x).n), Lw ((x).n), Iv ((x).e)]), (9, [Bv ((y).g), Hw ((y).n), Lw ((y).n), Iv ((y).e)])] ?_)))
 refine vc_ret (seq_r (block_r (seq_r (iS (.agg [.v (.nilIface)]) (Bv true) [] ?_))))
 exact ⟨_, .null, _, rfl, IsV.null, rfl, rfl⟩
theorem c_NDiv0 {x y : D3} (hy : y.n = 0) : HasC Tryz.prog 12 [.v (.string ⟨#[47]⟩), VV x.vl, VV y.vl] (fun r => r = .tup [VV .null, .v (.bool true)]) :=
  ((v_Div0 (x := x) hy).isVb (q := fun v o => v = .null ∧ o = true)).mono fun r ⟨v, o, h1, h2, h3⟩ => by rw [h1, h2, h3]
theorem c_isS {x : D3} : HasC Tryz.prog 17 [.agg [.bx (Vl.num (x).g (x).n (x).e).enc], .agg [.v (.bool ((x).g)), .v (.int .u64 (hiW ((x).n))), .v (.int .u64 (loW ((x).n))), .v (.int .i64 ((x).e))]] (fun r => r = .v (.bool true)) := by
 refine HasC.of [] (fn := Tryz.f17) tyOk mixed (fun args w => Tryz.call17 args w) Tryz.func17 rfl (by kernel_rfl) (Nat.le_of_ble_eq_true rfl) (⟨_, rfl⟩) ?_
 refine vc_seqr rfl (iQ 3 (iE 18 [(2, .p 2 0), (3, .p 3 0), (4, Ba false)] [(2, [.bx (Vl.num (x).g (x).n (x).e).enc]), (3, [Bv ((x).g), Hw ((x).n), Lw ((x).n), Iv ((x).e)])] ?_))
 refine vc_seqr rfl (iQ 1 (iC 43 [.agg [.bx (Vl.num (x).g (x).n (x).e).enc]] (some 9) (c_AsNumN) ?_))
 rintro _ rfl
 refine iQ 6 (iE 18 [(3, .p 3 0), (4, Ba false), (5, .p 5 0), (6, Ba true)] [(3, [Bv ((x).g), Hw ((x).n), Lw ((x).n), Iv ((x).e)]), (5, [Bv ((x).g), Hw ((x).n), Lw ((x).n), Iv ((x).e)])] ?_)
 refine vc_seqr rfl (iQ 4 (iB .eql 45 (.agg #[.bool ((x).g), .int .u64 (hiW ((x).n)), .int .u64 (loW ((x).n)), .int .i64 ((x).e)]) (.agg #[.bool ((x).g), .int .u64 (hiW ((x).n)), .int .u64 (loW ((x).n)), .int .i64 ((x).e)]) (some 16) ?_))
 refine all_true (rfl) ?_
 refine iQ 2 (iE 18 [(4, Ba true), (5, .p 5 0)] [(5, [Bv ((x).g), Hw ((x).n), Lw ((x).n), Iv ((x).e)])] ?_)
 refine vc_ret (iR (Bv true) ?_)
 rfl
theorem c_AsListV {vs : List Vl} (h : vs.length ≤ 1073741824) : HasC Tryz.prog 8 [.agg [.ifc 59 (.sl ((vs).length) (encL (vs)))]] (fun r => r = .tup [.sl vs.length (encL vs), .v (.bool true)]) := by
 refine HasC.of [] (fn := Tryz.f8) tyOk mixed (fun args w => Tryz.call8 args w) Tryz.func8 rfl (by kernel_rfl) (Nat.le_of_ble_eq_true rfl) (⟨_, rfl⟩) ?_
 refine vc_seqr rfl (iQ 3 (iE 15 [(1, .p 1 0), (2, .w (.sl 0 []) none), (3, Ba false)] [(1, [.ifc 59 (.sl ((vs).length) (encL (vs)))])] ?_))
 refine vc_seqr rfl (iQ 8 (iE 15 [(2, .w (.sl 0 []) none), (3, Ba false), (4, .d (.sl ((vs).length) (encL (vs)))), (5, Ba true)] [] ?_))
 refine vc_seqr rfl (iQ 1 (iC 24 [.sl ((vs).length) (encL (vs))] (some 13) (c_CloneV h) ?_))
 rintro _ rfl
 refine iQ 3 (iE 15 [(2, .d (.sl ((vs).length) (encL (vs)))), (3, Ba true)] [] ?_)
 refine vc_ret (iS (.sl ((vs).length) (encL (vs))) (Bv true) [] ?_)
 rfl
theorem c_AsListL {vs : List Vl} (h : vs.length ≤ 1073741824) : HasC Tryz.prog 8 [VV (.list vs)] (fun r => r = .tup [.sl vs.length (encL vs), .v (.bool true)]) := HasC.ub (by have := c_AsListV h; rwa [show DV.ifc 59 (.sl vs.length (encL vs)) = (Vl.list vs).enc by rw [Vl.enc]] at this)
theorem encL2 (x y : D3) : encL (numL [x, y]) = [BV x.vl, BV y.vl] := by simp [numL, encL]
theorem encL3 (x y z : D3) : encL (numL [x, y, z]) = [BV x.vl, BV y.vl, BV z.vl] := by simp [numL, encL]
theorem encL4 (x y z w : D3) : encL (numL [x, y, z, w]) = [BV x.vl, BV y.vl, BV z.vl, BV w.vl] := by simp [numL, encL]
theorem fitO_eq {t : T4} {d : D3} (h : fitO t = some d) : t = (d.g, d.n, d.e, true) := by
  obtain ⟨a, b, c, ok⟩ := t
  cases ok with
  | false => rw [fitO_none] at h; cases h
  | true =>
    by_cases hm : May a b c
    · rw [fitO_some hm] at h
      cases h
      rfl
    · rw [fitO, dif_neg (fun k => hm k.2)] at h
      cases h
theorem mean12 : ∃ m : D3, meanO d1 [d2] (by decide) = some m ∧ divX d3 d2 = (m.g, m.n, m.e, true) := by
  obtain ⟨m, h1, _, _⟩ := div_fits (x := d3) (y := d2) (by decide) (B := 0) (by decide) (by decide) (by decide)
  refine ⟨m, ?_, fitO_eq h1⟩
  have hs : sumO d1 [d2] = some d3 := by
    show (fitO (addX d1 d2)).bind _ = _
    have : fitO (addX d1 d2) = some d3 := nat_add (a := 1) (b := 2) (by decide) (by decide) (by decide)
    rw [this]
    rfl
  rw [meanO, hs]
  exact h1
theorem srt3 (a b c : D3) : srtL [a, b, c] = (insInner ltD 0 2 (insInner ltD 0 1 #[a, b, c])).toList := by
  show (insertionSort ltD #[a, b, c] 0 3).toList = _
  unfold insertionSort
  rw [insOuter_go _ _ _ _ _ (by decide), insOuter_go _ _ _ _ _ (by decide), insOuter_stop _ _ _ _ _ (by decide)]
theorem srt4 (a b c d : D3) : srtL [a, b, c, d] = (insInner ltD 0 3 (insInner ltD 0 2 (insInner ltD 0 1 #[a, b, c, d]))).toList := by
  show (insertionSort ltD #[a, b, c, d] 0 4).toList = _
  unfold insertionSort
  rw [insOuter_go _ _ _ _ _ (by decide), insOuter_go _ _ _ _ _ (by decide), insOuter_go _ _ _ _ _ (by decide), insOuter_stop _ _ _ _ _ (by decide)]
theorem srt312 : srtL [d3, d1, d2] = [d1, d2, d3] := by rw [srt3]; kernel_rfl
theorem srt2121 : srtL [d2, d1, d2, d1] = [d1, d1, d2, d2] := by rw [srt4]; kernel_rfl
theorem med312 : medO [d3, d1, d2] = some d2 := by rw [medO_odd (by decide), srt312]; rfl
theorem mode2121 : modeL [d2, d1, d2, d1] = [d1, d2] := by
  rw [modeL, srt2121]
  kernel_rfl
theorem c_mean12 : HasC Tryz.prog 14 [.sl 2 [BV (.num d1.g d1.n d1.e), BV (.num d2.g d2.n d2.e)]] (fun y => ∃ v b, y = .tup [VV v, .v (.bool b)] ∧ v = optV (meanO d1 [d2] (by decide)) ∧ b = (meanO d1 [d2] (by decide)).isSome) := by
  have := optE (v_Mean (x := d1) (r := [d2]) (by decide))
  rw [encL2] at this
  exact this
theorem c_med312 : HasC Tryz.prog 6 [.sl 3 [BV (.num d3.g d3.n d3.e), BV (.num d1.g d1.n d1.e), BV (.num d2.g d2.n d2.e)]] (fun y => y = .tup [VV (.num d2.g d2.n d2.e), .v (.bool true)]) := by
  have := c_Median (ds := [d3, d1, d2]) (by simp) (by decide)
  rw [encL3, med312] at this
  exact this
theorem c_mode2121 : HasC Tryz.prog 7 [.sl 4 [BV (.num d2.g d2.n d2.e), BV (.num d1.g d1.n d1.e), BV (.num d2.g d2.n d2.e), BV (.num d1.g d1.n d1.e)]] (fun y => y = VV (.list (numL [d1, d2]))) := by
  have := c_Mode (ds := [d2, d1, d2, d1]) (by simp) (by decide)
  rw [encL4, mode2121] at this
  exact this
theorem c_list12 : HasC Tryz.prog 8 [VV (.list (numL [d1, d2]))] (fun r => r = .tup [.sl 2 [BV (.num d1.g d1.n d1.e), BV (.num d2.g d2.n d2.e)], .v (.bool true)]) := by
  have := c_AsListL (vs := numL [d1, d2]) (by simp)
  rw [encL2] at this
  exact this
theorem c_div32 {m : D3} (h : divX d3 d2 = (m.g, m.n, m.e, true)) : HasC Tryz.prog 15 [dDec d3.g d3.n d3.e, dDec d2.g d2.n d2.e] (fun y => y = .tup [dDec m.g m.n m.e, .v (.bool true)]) :=
  (c_qDiv (g1 := d3.g) (g2 := d2.g) (x1 := d3.e) (x2 := d2.e) d3.lt d2.lt (by decide) (by decide) (by decide) (by decide)).mono fun y hy => by
    rw [hy]
    show dFit (divX d3 d2) = _
    rw [h]
    rfl
theorem c_isE {v : Vl} {x : D3} (hv : v = x.vl) : HasC Tryz.prog 17 [VV v, dDec x.g x.n x.e] (fun r => r = .v (.bool true)) := by subst hv; exact c_isS
theorem c_awake20  : HasC Tryz.prog 4 [] (fun r => r = .v (.bool true)) := by
 refine HasC.of [] (fn := Tryz.f4) tyOk mixed (fun args w => Tryz.call4 args w) Tryz.func4 rfl (by kernel_rfl) (Nat.le_of_ble_eq_true rfl) (⟨_, rfl⟩) ?_
 obtain ⟨m, hm1, hm2⟩ := mean12
 refine vc_seqr rfl (iQ 1 (iE 88 [(0, Ba false)] [] ?_))
 refine vc_seqr rfl (iC 13 [Iv 1] (some 12) (c_v1) ?_)
 rintro _ rfl
 refine iC 13 [Iv 0] (some 13) (c_v0) ?_
 rintro _ rfl
 refine iC 12 [Sv (⟨#[47]⟩), .agg [.bx (Vl.num (d1).g (d1).n (d1).e).enc], .agg [.bx (Vl.num (d0).g (d0).n (d0).e).enc]] (some 14) (c_NDiv0 (x := d1) (y := d0) rfl) ?_
 rintro _ rfl
 refine iQ 6 (iE 88 [(0, Ba false), (1, .p 1 0), (2, Ba true)] [(1, [.bx (Vl.null).enc])] ?_)
 refine vc_seqr rfl (iC 13 [Iv 1] (some 18) (c_v1) ?_)
 rintro _ rfl
 refine iC 13 [Iv 2] (some 19) (c_v2) ?_
 rintro _ rfl
 refine iQ 1 (iC 14 [.sl 2 [.bx (Vl.num (d1).g (d1).n (d1).e).enc, .bx (Vl.num (d2).g (d2).n (d2).e).enc]] (some 21) (c_mean12) ?_)
 rintro _ ⟨v, o, rfl, hv, ho⟩
 rw [hm1] at hv ho
 have ho1 : o = true := ho
 refine iQ 6 (iE 88 [(0, Ba false), (1, .p 1 0), (2, Ba true), (3, .p 3 0), (4, Ba o)] [(1, [.bx (Vl.null).enc]), (3, [.bx (v).enc])] ?_)
 refine vc_seqr rfl (iC 13 [Iv 3] (some 25) (c_v3) ?_)
 rintro _ rfl
 refine iC 13 [Iv 1] (some 26) (c_v1) ?_
 rintro _ rfl
 refine iC 13 [Iv 2] (some 27) (c_v2) ?_
 rintro _ rfl
 refine iQ 1 (iC 6 [.sl 3 [.bx (Vl.num (d3).g (d3).n (d3).e).enc, .bx (Vl.num (d1).g (d1).n (d1).e).enc, .bx (Vl.num (d2).g (d2).n (d2).e).enc]] (some 29) (c_med312) ?_)
 rintro _ rfl
 refine iQ 6 (iE 88 [(0, Ba false), (1, .p 1 0), (2, Ba true), (3, .p 3 0), (4, Ba o), (5, .p 5 0), (6, Ba true)] [(1, [.bx (Vl.null).enc]), (3, [.bx (v).enc]), (5, [.bx (Vl.num (d2).g (d2).n (d2).e).enc])] ?_)
 refine vc_seqr rfl (iC 16 [Iv 3] (some 33) (c_i3) ?_)
 rintro _ rfl
 refine iC 16 [Iv 2] (some 34) (c_i2) ?_
 rintro _ rfl
 refine iC 15 [.agg [Bv ((d3).g), Hw ((d3).n), Lw ((d3).n), Iv ((d3).e)], .agg [Bv ((d2).g), Hw ((d2).n), Lw ((d2).n), Iv ((d2).e)]] (some 35) (c_div32 hm2) ?_
 rintro _ rfl
 refine iQ 6 (iE 88 [(0, Ba false), (1, .p 1 0), (2, Ba true), (3, .p 3 0), (4, Ba o), (5, .p 5 0), (6, Ba true), (7, .p 7 0)] [(1, [.bx (Vl.null).enc]), (3, [.bx (v).enc]), (5, [.bx (Vl.num (d2).g (d2).n (d2).e).enc]), (7, [Bv ((m).g), Hw ((m).n), Lw ((m).n), Iv ((m).e)])] ?_)
 refine vc_seqr rfl (iC 13 [Iv 2] (some 39) (c_v2) ?_)
 rintro _ rfl
 refine iC 13 [Iv 1] (some 40) (c_v1) ?_
 rintro _ rfl
 refine iC 13 [Iv 2] (some 41) (c_v2) ?_
 rintro _ rfl
 refine iC 13 [Iv 1] (some 42) (c_v1) ?_
 rintro _ rfl
 refine iQ 1 (iC 7 [.sl 4 [.bx (Vl.num (d2).g (d2).n (d2).e).enc, .bx (Vl.num (d1).g (d1).n (d1).e).enc, .bx (Vl.num (d2).g (d2).n (d2).e).enc, .bx (Vl.num (d1).g (d1).n (d1).e).enc]] (some 44) (c_mode2121) ?_)
 rintro _ rfl
 refine iC 8 [.agg [.bx (Vl.list (numL [d1, d2])).enc]] (some 45) (c_list12) ?_
 rintro _ rfl
 refine iQ 5 (iE 88 [(0, Ba false), (1, .p 1 0), (2, Ba true), (3, .p 3 0), (4, Ba o), (5, .p 5 0), (6, Ba true), (7, .p 7 0), (9, .d (.sl 2 ([BV (.num d1.g d1.n d1.e), BV (.num d2.g d2.n d2.e)])))] [(1, [.bx (Vl.null).enc]), (3, [.bx (v).enc]), (5, [.bx (Vl.num (d2).g (d2).n (d2).e).enc]), (7, [Bv ((m).g), Hw ((m).n), Lw ((m).n), Iv ((m).e)])] ?_)
 refine vc_seqr rfl (iQ 1 (iC 9 [.agg [.bx (Vl.null).enc]] (some 49) (c_Null .null) ?_))
 rintro _ rfl
 refine iQ 7 ?_
 cases o
 ·skip
  refine iQ 32 (iE 88 [(0, Ba false), (1, .p 1 0), (3, .p 3 0), (5, .p 5 0), (7, .p 7 0)] [(1, [.bx (Vl.null).enc]), (3, [.bx (v).enc]), (5, [.bx (Vl.num (d2).g (d2).n (d2).e).enc]), (7, [Bv ((m).g), Hw ((m).n), Lw ((m).n), Iv ((m).e)])] ?_)
  cases ho1
 ·skip
  refine iQ 2 (iC 17 [.agg [.bx (v).enc], .agg [Bv ((m).g), Hw ((m).n), Lw ((m).n), Iv ((m).e)]] (some 59) (c_isE hv) ?_)
  rintro _ rfl
  refine iQ 6 (iC 16 [Iv 2] (some 66) (c_i2) ?_)
  rintro _ rfl
  refine iC 17 [.agg [.bx (Vl.num (d2).g (d2).n (d2).e).enc], .agg [Bv ((d2).g), Hw ((d2).n), Lw ((d2).n), Iv ((d2).e)]] (some 67) (c_isS (x := d2)) ?_
  rintro _ rfl
  refine iQ 4 (iB .eql 3 (.int .i64 (((2 : Nat) : Int))) (.int .i64 2) (some 72) ?_)
  refine all_true ((by decide)) ?_
  refine iQ 3 (vcI_idx1 (q := 0) (n := 2) (cs := ([BV (.num d1.g d1.n d1.e), BV (.num d2.g d2.n d2.e)])) (d := .bx (Vl.num (d1).g (d1).n (d1).e).enc) (dst := (some 76)) (by kernel_rfl) (by omega) (rfl) ?_)
  refine iQ 1 (iC 16 [Iv 1] (some 78) (c_i1) ?_)
  rintro _ rfl
  refine iC 17 [.agg [.bx (Vl.num (d1).g (d1).n (d1).e).enc], .agg [Bv ((d1).g), Hw ((d1).n), Lw ((d1).n), Iv ((d1).e)]] (some 79) (c_isS (x := d1)) ?_
  rintro _ rfl
  refine iQ 3 (vcI_idx1 (q := 1) (n := 2) (cs := ([BV (.num d1.g d1.n d1.e), BV (.num d2.g d2.n d2.e)])) (d := .bx (Vl.num (d2).g (d2).n (d2).e).enc) (dst := (some 83)) (by kernel_rfl) (by omega) (rfl) ?_)
  refine iQ 1 (iC 16 [Iv 2] (some 85) (c_i2) ?_)
  rintro _ rfl
  refine iC 17 [.agg [.bx (Vl.num (d2).g (d2).n (d2).e).enc], .agg [Bv ((d2).g), Hw ((d2).n), Lw ((d2).n), Iv ((d2).e)]] (some 86) (c_isS (x := d2)) ?_
  rintro _ rfl
  refine iQ 2 (iE 88 [(0, Ba true), (1, .p 1 0), (3, .p 3 0), (5, .p 5 0), (7, .p 7 0)] [(1, [.bx (Vl.null).enc]), (3, [.bx (v).enc]), (5, [.bx (Vl.num (d2).g (d2).n (d2).e).enc]), (7, [Bv ((m).g), Hw ((m).n), Lw ((m).n), Iv ((m).e)])] ?_)
  refine vc_ret (iR (Bv true) ?_)
  rfl
end Go.Proofs.YtmldjlgeeljfdaaGreat
