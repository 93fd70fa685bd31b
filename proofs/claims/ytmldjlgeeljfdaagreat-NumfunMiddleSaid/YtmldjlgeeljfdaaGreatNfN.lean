/-
  equal's order of numbers; how many of some numbers stand to one so.
-/
import Derived.Test.YtmldjlgeeljfdaaGreatNfM
import Derived.Test.YtmldjlgeeljfdaaGreatNfH
import Derived.Test.YtmldjlgeeljfdaaGreatMkD
namespace Go.Proofs.YtmldjlgeeljfdaaGreat
open Go.RowKit
set_option linter.unusedVariables false
set_option linter.unusedSimpArgs false
set_option maxRecDepth 100000

theorem kind_number (u : Value) (w : World) : Calls Tryz.prog 121 #[u] w fun e w' => e = .returned (.int .i64 3) ∧ Below w.heap.size w w' := by
  go_enter Tryz.func121, Tryz.ntmps121
  go_wp2_with fail
  all_goals (go_returns; exact ⟨rfl, by go_grown⟩)
theorem c_Kind_number {d : DV} : HasC Tryz.prog 52 [.agg [.ifc 88 d]] (fun y => y = .v (.int .i64 3)) :=
  HasC.ofIfc (fun args w => Tryz.call52 args w) fun u w => by
    go_enter Tryz.func52, Tryz.ntmps52
    go_wp2_with fail
    go_call (kind_number u) as e w1 ⟨he, hb⟩
    subst he
    go_wp2_with fail
    go_returns
    exact ⟨rfl, Below.trans (by go_grown) (hb.mono (by go_size))⟩
theorem c_KindN {x : D3} : HasC Tryz.prog 52 [VV (.num x.g x.n x.e)] (fun y => y = .v (.int .i64 3)) := HasC.ub c_Kind_number
theorem c_Ord3  : HasC Tryz.prog 53 [.v (.int .i64 3)] (fun r => r = .v (.bool true)) := by
 refine HasC.of [] (fn := Tryz.f53) tyOk mixed (fun args w => Tryz.call53 args w) Tryz.func53 rfl (by kernel_rfl) (Nat.le_of_ble_eq_true rfl) (⟨_, rfl⟩) ?_
 refine vc_seqr rfl (iQ 1 (iE 9 [(0, Ia 3), (2, Ba false)] [] ?_))
 refine vc_seqr rfl (iQ 1 (iB .geq 89 (.int .i64 3) (.int .i64 3) (some 4) ?_))
 refine all_true ((by decide)) ?_
 refine iQ 2 (iB .leq 89 (.int .i64 3) (.int .i64 9) (some 7) ?_)
 refine all_true ((by decide)) ?_
 refine iQ 2 (iE 9 [(2, Ba true)] [] ?_)
 refine vc_ret (iR (Bv true) ?_)
 rfl
theorem c_Nord {x y : D3} : HasC Tryz.prog 26 [.agg [.bx (Vl.num (x).g (x).n (x).e).enc], .agg [.bx (Vl.num (y).g (y).n (y).e).enc]] (fun r => r = .tup [.v (.int .i64 (cfD x y)), .v (.bool true)]) := by
 refine HasC.of [] (fn := Tryz.f26) tyOk mixed (fun args w => Tryz.call26 args w) Tryz.func26 rfl (by kernel_rfl) (Nat.le_of_ble_eq_true rfl) (⟨_, rfl⟩) ?_
 refine vc_seqr rfl (iQ 4 (iE 123 [(2, .p 2 0), (3, .p 3 0), (4, Ia 0), (5, Ba false)] [(2, [.bx (Vl.num (x).g (x).n (x).e).enc]), (3, [.bx (Vl.num (y).g (y).n (y).e).enc])] ?_))
 refine vc_seqr rfl (iQ 1 (iC 52 [.agg [.bx (Vl.num (x).g (x).n (x).e).enc]] (some 28) (c_KindN) ?_))
 rintro _ rfl
 refine iQ 1 (iE 123 [(2, .p 2 0), (3, .p 3 0), (4, Ia 0), (5, Ba false), (6, Ia 3)] [(2, [.bx (Vl.num (x).g (x).n (x).e).enc]), (3, [.bx (Vl.num (y).g (y).n (y).e).enc])] ?_)
 refine vc_seq (vc_seqr rfl (iQ 1 (iC 52 [.agg [.bx (Vl.num (y).g (y).n (y).e).enc]] (some 30) (c_KindN) ?_)))
 rintro _ rfl
 refine iQ 1 (iB .neq 89 (.int .i64 3) (.int .i64 3) (some 32) ?_)
 refine all_false ((by decide)) ?_
 refine iQ 2 (iC 53 [Iv 3] (some 35) (c_Ord3) ?_)
 rintro _ rfl
 refine iU .not (.bool true) (some 36) ?_
 refine all_false ((by simp)) ?_
 refine iQ 1 (iE 123 [(2, .p 2 0), (3, .p 3 0), (4, Ia 0), (5, Ba false), (6, Ia 3), (37, Ba false)] [(2, [.bx (Vl.num (x).g (x).n (x).e).enc]), (3, [.bx (Vl.num (y).g (y).n (y).e).enc])] ?_)
 refine iF (vc_skip (seq_n (vc_seq (vc_seqr rfl (iQ 1 (iE 123 [(2, .p 2 0), (3, .p 3 0), (4, Ia 0), (5, Ba false), (6, Ia 3), (37, Ba false), (38, Ia 3)] [(2, [.bx (Vl.num (x).g (x).n (x).e).enc]), (3, [.bx (Vl.num (y).g (y).n (y).e).enc])] ?_))))))
 refine vc_block (vc_seqr rfl (iB .eql 89 (.int .i64 3) (.int .i64 3) (some 40) ?_))
 refine all_true ((by decide)) ?_
 refine iQ 1 (iE 123 [(2, .p 2 0), (3, .p 3 0), (4, Ia 0), (5, Ba false), (6, Ia 3), (37, Ba false), (38, Ia 3), (39, Ba true)] [(2, [.bx (Vl.num (x).g (x).n (x).e).enc]), (3, [.bx (Vl.num (y).g (y).n (y).e).enc])] ?_)
 refine iT (vc_seqr rfl (iQ 1 (iC 43 [.agg [.bx (Vl.num (x).g (x).n (x).e).enc]] (some 43) (c_AsNumN) ?_)))
 rintro _ rfl
 refine iQ 6 (iE 123 [(2, .p 2 0), (3, .p 3 0), (4, Ia 0), (5, Ba false), (6, Ia 3), (7, .p 7 0), (37, Ba false), (38, Ia 3), (39, Ba true)] [(2, [.bx (Vl.num (x).g (x).n (x).e).enc]), (3, [.bx (Vl.num (y).g (y).n (y).e).enc]), (7, [Bv ((x).g), Hw ((x).n), Lw ((x).n), Iv ((x).e)])] ?_)
 refine vc_seqr rfl (iQ 1 (iC 43 [.agg [.bx (Vl.num (y).g (y).n (y).e).enc]] (some 48) (c_AsNumN) ?_))
 rintro _ rfl
 refine iQ 6 (iE 123 [(2, .p 2 0), (3, .p 3 0), (4, Ia 0), (5, Ba false), (6, Ia 3), (7, .p 7 0), (9, .p 9 0), (37, Ba false), (38, Ia 3), (39, Ba true)] [(2, [.bx (Vl.num (x).g (x).n (x).e).enc]), (3, [.bx (Vl.num (y).g (y).n (y).e).enc]), (7, [Bv ((x).g), Hw ((x).n), Lw ((x).n), Iv ((x).e)]), (9, [Bv ((y).g), Hw ((y).n), Lw ((y).n), Iv ((y).e)])] ?_)
 refine vc_seqr rfl (iQ 2 (iC 21 [.agg [Bv ((x).g), Hw ((x).n), Lw ((x).n), Iv ((x).e)], .agg [Bv ((y).g), Hw ((y).n), Lw ((y).n), Iv ((y).e)]] (some 53) (c_cmpD x y) ?_))
 rintro _ ⟨c, rfl, hc⟩
 refine iQ 2 (iE 123 [(2, .p 2 0), (3, .p 3 0), (4, Ia c), (5, Ba true), (6, Ia 3), (7, .p 7 0), (9, .p 9 0), (37, Ba false), (38, Ia 3), (39, Ba true)] [(2, [.bx (Vl.num (x).g (x).n (x).e).enc]), (3, [.bx (Vl.num (y).g (y).n (y).e).enc]), (7, [Bv ((x).g), Hw ((x).n), Lw ((x).n), Iv ((x).e)]), (9, [Bv ((y).g), Hw ((y).n), Lw ((y).n), Iv ((y).e)])] ?_)
 refine vc_ret (block_r (seq_r (iS (Iv c) (Bv true) [] ?_)))
 rw [hc]
theorem c_NCmp {x y : D3} : HasC Tryz.prog 25 [.agg [.bx (Vl.num (x).g (x).n (x).e).enc], .agg [.bx (Vl.num (y).g (y).n (y).e).enc]] (fun r => r = .tup [.v (.int .i64 (cfD x y)), .v (.bool true)]) := by
 refine HasC.of [] (fn := Tryz.f25) tyOk mixed (fun args w => Tryz.call25 args w) Tryz.func25 rfl (by kernel_rfl) (Nat.le_of_ble_eq_true rfl) (⟨_, rfl⟩) ?_
 refine vc_seqr rfl (iQ 4 (iE 11 [(2, .p 2 0), (3, .p 3 0), (4, Ia 0), (5, Ba false)] [(2, [.bx (Vl.num (x).g (x).n (x).e).enc]), (3, [.bx (Vl.num (y).g (y).n (y).e).enc])] ?_))
 refine vc_seqr rfl (iQ 2 (iC 26 [.agg [.bx (Vl.num (x).g (x).n (x).e).enc], .agg [.bx (Vl.num (y).g (y).n (y).e).enc]] (some 8) (c_Nord) ?_))
 rintro _ rfl
 refine iQ 4 (iE 11 [(4, Ia (cfD x y)), (5, Ba true)] [] ?_)
 refine vc_ret (iS (Iv (cfD x y)) (Bv true) [] ?_)
 rfl
theorem c_OfT  : HasC Tryz.prog 27 [.v (.bool true)] (fun r => r = .v (.int .i64 2)) := by
 refine HasC.of [] (fn := Tryz.f27) tyOk mixed (fun args w => Tryz.call27 args w) Tryz.func27 rfl (by kernel_rfl) (Nat.le_of_ble_eq_true rfl) (⟨_, rfl⟩) ?_
 refine vc_seqr rfl (iQ 1 (iE 4 [(0, Ba true), (2, Ia 0)] [] ?_))
 refine vc_seq (vc_seqr rfl (iQ 1 (iE 4 [(2, Ia 0), (3, Ba true)] [] ?_)))
 refine iT (vc_seqr rfl (iQ 1 (iE 4 [(2, Ia 2), (3, Ba true)] [] ?_)))
 refine vc_ret (seq_r (iR (Iv 2) ?_))
 rfl
theorem c_NLess {x y : D3} (h : cfD x y < 0) : HasC Tryz.prog 11 [.agg [.bx (Vl.num (x).g (x).n (x).e).enc], .agg [.bx (Vl.num (y).g (y).n (y).e).enc]] (fun r => r = .v (.int .i64 2)) := by
 refine HasC.of [] (fn := Tryz.f11) tyOk mixed (fun args w => Tryz.call11 args w) Tryz.func11 rfl (by kernel_rfl) (Nat.le_of_ble_eq_true rfl) (⟨_, rfl⟩) ?_
 refine vc_seqr rfl (iQ 3 (iE 18 [(2, .p 2 0), (3, .p 3 0), (4, Ia 0)] [(2, [.bx (Vl.num (x).g (x).n (x).e).enc]), (3, [.bx (Vl.num (y).g (y).n (y).e).enc])] ?_))
 refine vc_seqr rfl (iQ 2 (iC 26 [.agg [.bx (Vl.num (x).g (x).n (x).e).enc], .agg [.bx (Vl.num (y).g (y).n (y).e).enc]] (some 10) (c_Nord) ?_))
 rintro _ rfl
 refine iQ 5 (iE 18 [(4, Ia 0), (5, Ia (cfD x y)), (6, Ba true)] [] ?_)
 refine vc_seq (vc_seqr rfl (iQ 1 (iU .not (.bool true) (some 14) ?_)))
 refine all_false ((by simp)) ?_
 refine iE 18 [(4, Ia 0), (5, Ia (cfD x y)), (14, Ba false)] [] ?_
 refine iF (vc_skip (seq_n (vc_seqr rfl (iQ 1 (iB .lss 3 (.int .i64 (cfD x y)) (.int .i64 0) (some 16) ?_)))))
 refine all_true (h) ?_
 refine iC 27 [Bv true] (some 17) (c_OfT) ?_
 rintro _ rfl
 refine iQ 1 (iE 18 [(4, Ia 2), (14, Ba false)] [] ?_)
 refine vc_ret (iR (Iv 2) ?_)
 rfl
theorem cntS_more {x y : D3} {z : Int} {ds : List D3} {k : Nat} (h : ds[k]? = some y) : cntS x z (ds.take (k + 1)) = cntS x z (ds.take k) + if cfD y x = z then 1 else 0 := by
  rw [← take_more h]
  simp [cntS, List.countP_append, List.countP_cons]
theorem c_count {ds : List D3} {x : D3} {z : Int} (h : ds.length ≤ 1000000) : HasC Tryz.prog 10 [.sl ((numL ds).length) (encL (numL ds)), .agg [.bx (Vl.num (x).g (x).n (x).e).enc], .v (.int .i64 z)] (fun r => r = .v (.int .i64 (cntS x z ds : Nat))) := by
 refine HasC.of [] (fn := Tryz.f10) tyOk mixed (fun args w => Tryz.call10 args w) Tryz.func10 rfl (by kernel_rfl) (Nat.le_of_ble_eq_true rfl) (⟨_, rfl⟩) ?_
 have hL := numL_len ds
 refine vc_seqr rfl (iQ 2 (iE 35 [(0, .d (.sl ((numL ds).length) (encL (numL ds)))), (2, Ia z), (4, .p 4 0), (6, Ia 0)] [(4, [.bx (Vl.num (x).g (x).n (x).e).enc])] ?_))
 refine vc_seqr rfl (iQ 1 (iE 35 [(0, .d (.sl ((numL ds).length) (encL (numL ds)))), (2, Ia z), (4, .p 4 0), (6, Ia 0), (7, Ia 0)] [(4, [.bx (Vl.num (x).g (x).n (x).e).enc])] ?_))
 refine vc_seq (vc_seqr rfl (iQ 1 (iE 35 [(0, .d (.sl ((numL ds).length) (encL (numL ds)))), (2, Ia z), (4, .p 4 0), (6, Ia 0), (7, Ia 0), (8, Ia 0)] [(4, [.bx (Vl.num (x).g (x).n (x).e).enc])] ?_)))
 refine vc_block (vc_loop 35 (fun (vcx : Nat × Nat × Int × Int) => match vcx with | (k, n, zk, zn) => [(0, .d (.sl ((numL ds).length) (encL (numL ds)))), (2, Ia z), (4, .p 4 0), (6, Ia 0), (7, Ia zn), (8, Ia zk)]) (fun (vcx : Nat × Nat × Int × Int) => match vcx with | (k, n, zk, zn) => [(4, [.bx (Vl.num (x).g (x).n (x).e).enc])]) (fun (vcx : Nat × Nat × Int × Int) => match vcx with | (k, n, zk, zn) => zk = k ∧ zn = n ∧ k ≤ ds.length ∧ n ≤ k ∧ cntS x z (ds.take k) = n) (fun (vcx : Nat × Nat × Int × Int) => match vcx with | (k, n, zk, zn) => ds.length - k) ((0, 0, 0, 0)) (⟨rfl, rfl, Nat.zero_le _, Nat.le_refl _, rfl⟩) (by kernel_rfl) (by kernel_rfl) ?_)
 rintro ⟨k, n, zk, zn⟩ hinv
 simp only at hinv
 obtain ⟨h1, h2, h3, h4, h5⟩ := hinv
 refine vc_seq (vc_seqr rfl (iQ 3 (iB .lss 3 (.int .i64 zk) (.int .i64 ((((numL ds).length : Nat) : Int))) (some 14) ?_)))
 intro c14 hc14
 refine iE 35 [(0, .d (.sl ((numL ds).length) (encL (numL ds)))), (2, Ia z), (4, .p 4 0), (6, Ia 0), (7, Ia zn), (8, Ia zk), (14, Ba c14)] [(4, [.bx (Vl.num (x).g (x).n (x).e).enc])] ?_
 cases c14
 ·replace hc14 := bf hc14
  have hk : k = ds.length := by omega
  refine iF (vc_exit (seq_x (loop_x (block_x rfl (seq_n (vc_seqr rfl (iQ 2 (iE 35 [(0, .d (.sl ((numL ds).length) (encL (numL ds)))), (2, Ia z), (4, .p 4 0), (6, Ia zn), (7, Ia zn), (8, Ia zk), (14, Ba false)] [(4, [.bx (Vl.num (x).g (x).n (x).e).enc])] ?_))))))))
  refine vc_ret (iR (Iv zn) ?_)
  rw [h2, ← h5, hk, List.take_length]
 ·replace hc14 := bt hc14
  obtain ⟨y, hy⟩ : ∃ y, ds[k]? = some y := ⟨_, List.getElem?_eq_getElem (by omega)⟩
  have hm := cntS_more (x := x) (z := z) hy
  refine iT (vc_skip (seq_n (vc_seq (vc_block (vc_seqr rfl (iQ 2 (vcI_idx1 (q := zk) (n := ((numL ds).length)) (cs := (encL (numL ds))) (d := .bx (Vl.num (y).g (y).n (y).e).enc) (dst := (some 20)) (by kernel_rfl) (by omega) (by rw [h1, Int.toNat_natCast]; exact encL_get1 (numL_get hy)) ?_)))))))
  refine iQ 2 (iC 25 [.agg [.bx (Vl.num (y).g (y).n (y).e).enc], .agg [.bx (Vl.num (x).g (x).n (x).e).enc]] (some 23) (c_NCmp) ?_)
  rintro _ rfl
  refine iQ 5 (iE 35 [(0, .d (.sl ((numL ds).length) (encL (numL ds)))), (2, Ia z), (4, .p 4 0), (6, Ia 0), (7, Ia zn), (8, Ia zk), (9, Ia (cfD y x)), (10, Ba true), (14, Ba true)] [(4, [.bx (Vl.num (x).g (x).n (x).e).enc])] ?_)
  refine vc_seqr rfl (iQ 4 (iB .eql 3 (.int .i64 (cfD y x)) (.int .i64 z) (some 30) ?_))
  intro c30 hc30
  refine iQ 1 (iE 35 [(0, .d (.sl ((numL ds).length) (encL (numL ds)))), (2, Ia z), (4, .p 4 0), (6, Ia 0), (7, Ia zn), (8, Ia zk), (9, Ia (cfD y x)), (10, Ba true), (14, Ba true), (31, Ba c30)] [(4, [.bx (Vl.num (x).g (x).n (x).e).enc])] ?_)
  cases c30
  ·replace hc30 := bf hc30
   rw [if_neg hc30] at hm
   refine iF (vc_skip (block_n (seq_n (vc_reg rfl (iQ 1 (iB .add 3 (.int .i64 zk) (.int .i64 1) (some 16) ?_))))))
   intro z16 hz16
   try replace hz16 := hz16.i64 (by omega)
   refine iQ 1 (iE 35 [(0, .d (.sl ((numL ds).length) (encL (numL ds)))), (2, Ia z), (4, .p 4 0), (6, Ia 0), (7, Ia zn), (8, Ia z16), (9, Ia (cfD y x)), (10, Ba true), (14, Ba true), (31, Ba false)] [(4, [.bx (Vl.num (x).g (x).n (x).e).enc])] ?_)
   refine loop_n (k + 1, n, z16, zn) (⟨by omega, h2, by omega, by omega, by omega⟩) (by simp only; omega) (by kernel_rfl) (by kernel_rfl)
  ·replace hc30 := bt hc30
   rw [if_pos hc30] at hm
   refine iT (vc_reg rfl (iQ 1 (iB .add 3 (.int .i64 zn) (.int .i64 1) (some 33) ?_)))
   intro z33 hz33
   try replace hz33 := hz33.i64 (by omega)
   refine iQ 1 (iE 35 [(0, .d (.sl ((numL ds).length) (encL (numL ds)))), (2, Ia z), (4, .p 4 0), (6, Ia 0), (7, Ia z33), (8, Ia zk), (9, Ia (cfD y x)), (10, Ba true), (14, Ba true), (31, Ba true)] [(4, [.bx (Vl.num (x).g (x).n (x).e).enc])] ?_)
   refine block_n (seq_n (vc_reg rfl (iQ 1 (iB .add 3 (.int .i64 zk) (.int .i64 1) (some 16) ?_))))
   intro z16 hz16
   try replace hz16 := hz16.i64 (by omega)
   refine iQ 1 (iE 35 [(0, .d (.sl ((numL ds).length) (encL (numL ds)))), (2, Ia z), (4, .p 4 0), (6, Ia 0), (7, Ia z33), (8, Ia z16), (9, Ia (cfD y x)), (10, Ba true), (14, Ba true), (31, Ba true)] [(4, [.bx (Vl.num (x).g (x).n (x).e).enc])] ?_)
   refine loop_n (k + 1, n + 1, z16, z33) (⟨by omega, by omega, by omega, by omega, by omega⟩) (by simp only; omega) (by kernel_rfl) (by kernel_rfl)
theorem c_countE {ds : List D3} {x : D3} {z : Int} {v : Vl} (hv : v = x.vl) (h : ds.length ≤ 1000000) : HasC Tryz.prog 10 [.sl (numL ds).length (encL (numL ds)), VV v, .v (.int .i64 z)] (fun r => r = .v (.int .i64 (cntS x z ds : Nat))) := by subst hv; exact c_count h
-- what is drawn
abbrev Raw := Bool × Nat × Int
def rawC (x : Raw) : List DV := [.v (.bool x.1), .v (.int .u64 (hiW x.2.1)), .v (.int .u64 (loW x.2.1)), .v (.int .i64 x.2.2)]
def rawL (xs : List Raw) : List DV := xs.flatMap rawC
theorem rawL_len : ∀ xs : List Raw, (rawL xs).length = xs.length * 4
  | [] => rfl
  | x :: xs => by
    have := rawL_len xs
    simp only [rawL, List.flatMap_cons, List.length_append, List.length_cons] at this ⊢
    rw [this]
    simp only [rawC, List.length_cons, List.length_nil]
    omega
theorem rawL_get : ∀ {xs : List Raw} {k : Nat} {x : Raw}, xs[k]? = some x → ((rawL xs).drop (k * 4)).take 4 = rawC x
  | [], k, x, h => by simp at h
  | y :: xs, 0, x, h => by
    have : y = x := by simpa using h
    subst this
    simp [rawL, rawC]
  | y :: xs, k + 1, x, h => by
    have e : (k + 1) * 4 = 4 + k * 4 := by omega
    have : rawL (y :: xs) = rawC y ++ rawL xs := by simp [rawL]
    rw [e, this, ← List.drop_drop, List.drop_left' (by rfl)]
    exact rawL_get (by simpa using h)
theorem c_num20 {g : Bool} {n : Nat} {e : Int} (hn : n < B128) : HasC Tryz.prog 18 [.agg [.v (.bool g), .v (.int .u64 (hiW (n))), .v (.int .u64 (loW (n))), .v (.int .i64 e)]] (fun r => ∃ d : D3, r = VV (.num d.g d.n d.e)) := by
 refine HasC.of [] (fn := Tryz.f18) tyOk mixed (fun args w => Tryz.call18 args w) Tryz.func18 rfl (by kernel_rfl) (Nat.le_of_ble_eq_true rfl) (⟨_, default, rfl⟩) ?_
 refine vc_seqr rfl (iQ 2 (iE 6 [(1, .p 1 0), (2, .p 2 0)] [(1, [Bv g, Hw n, Lw n, Iv e]), (2, [.v (.nilIface)])] ?_))
 refine vc_seqr rfl (iQ 1 (iC 44 [.agg [Bv g, Hw n, Lw n, Iv e]] (some 4) (c_Make hn) ?_))
 rintro _ ⟨s, c, x, rfl, h1, h2, h3, h4⟩
 have hm : May s c x := ⟨h1, h2, h3, fun hs hc => by rw [h4 hc] at hs; cases hs⟩
 refine iC 22 [.agg [Bv s, Hw c, Lw c, Iv x]] (some 5) (c_vNumD ⟨(s, c, x), hm⟩) ?_
 rintro _ rfl
 refine iQ 1 (iE 6 [(2, .p 2 0)] [(2, [.bx (Vl.num s c x).enc])] ?_)
 refine vc_ret (iR (.agg [.bx (Vl.num s c x).enc]) ?_)
 exact ⟨⟨(s, c, x), hm⟩, rfl⟩
theorem c_values {xs : List Raw} (hn : ∀ x ∈ xs, x.2.1 < B128) (hl : xs.length ≤ 9223372036854775807) : HasC Tryz.prog 5 [.sl xs.length (rawL xs)] (fun r => ∃ ds : List D3, r = .sl (numL ds).length (encL (numL ds)) ∧ ds.length ≤ 10) := by
 refine HasC.of [] (fn := Tryz.f5) tyOk mixed (fun args w => Tryz.call5 args w) Tryz.func5 rfl (by kernel_rfl) (Nat.le_of_ble_eq_true rfl) (⟨_, [], rfl, by decide⟩) ?_
 refine vc_seqr rfl (iQ 1 (iE 24 [(0, .d (.sl xs.length (rawL xs))), (2, .w (.sl 0 []) none)] [] ?_))
 refine vc_seqr rfl (iQ 1 (iE 24 [(0, .d (.sl xs.length (rawL xs))), (2, .w (.sl 0 []) none), (3, .w (.sl 0 []) none)] [] ?_))
 refine vc_seq (vc_seqr rfl (iQ 1 (iE 24 [(0, .d (.sl xs.length (rawL xs))), (2, .w (.sl 0 []) none), (3, .w (.sl 0 []) none), (4, Ia 0)] [] ?_)))
 refine vc_block (vc_loop 24 (fun (vcx : Nat × Int × (List D3)) => match vcx with | (k, zk, ds) => [(0, .d (.sl xs.length (rawL xs))), (2, .w (.sl 0 []) none), (3, .w (.sl ((numL ds).length) (encL (numL ds))) (some ⟨3, 0, 29, 1⟩)), (4, Ia zk)]) (fun (vcx : Nat × Int × (List D3)) => match vcx with | (k, zk, ds) => []) (fun (vcx : Nat × Int × (List D3)) => match vcx with | (k, zk, ds) => zk = k ∧ k ≤ 10 ∧ ds.length = k) (fun (vcx : Nat × Int × (List D3)) => match vcx with | (k, zk, ds) => 10 - k) ((0, 0, [])) (⟨rfl, by decide, rfl⟩) (by kernel_rfl) (by kernel_rfl) ?_)
 rintro ⟨k, zk, ds⟩ hinv
 simp only at hinv
 obtain ⟨h1, h2, h3⟩ := hinv
 refine vc_seq (vc_seqr rfl (iQ 3 (iB .lss 3 (.int .i64 zk) (.int .i64 (((xs.length : Nat) : Int))) (some 8) ?_)))
 intro c8 hc8
 refine iQ 1 ?_
 cases c8
 ·replace hc8 := bf hc8
  refine iQ 3 (iE 24 [(0, .d (.sl xs.length (rawL xs))), (2, .w (.sl 0 []) none), (3, .w (.sl ((numL ds).length) (encL (numL ds))) (some ⟨3, 0, 29, 1⟩)), (4, Ia zk), (12, Ba false)] [] ?_)
  refine iF (vc_exit (seq_x (loop_x (block_x rfl (seq_n (vc_seqr rfl (iQ 2 (iE 24 [(0, .d (.sl xs.length (rawL xs))), (2, .w (.sl ((numL ds).length) (encL (numL ds))) (some ⟨3, 0, 29, 1⟩)), (3, .w (.sl ((numL ds).length) (encL (numL ds))) (some ⟨3, 0, 29, 1⟩)), (4, Ia zk), (12, Ba false)] [] ?_))))))))
  refine vc_ret (iR (.sl ((numL ds).length) (encL (numL ds))) ?_)
  exact ⟨ds, rfl, by omega⟩
 ·replace hc8 := bt hc8
  refine iQ 1 (iB .lss 3 (.int .i64 zk) (.int .i64 10) (some 11) ?_)
  intro c11 hc11
  refine iQ 1 (iE 24 [(0, .d (.sl xs.length (rawL xs))), (2, .w (.sl 0 []) none), (3, .w (.sl ((numL ds).length) (encL (numL ds))) (some ⟨3, 0, 29, 1⟩)), (4, Ia zk), (12, Ba c11)] [] ?_)
  cases c11
  ·replace hc11 := bf hc11
   refine iF (vc_exit (seq_x (loop_x (block_x rfl (seq_n (vc_seqr rfl (iQ 2 (iE 24 [(0, .d (.sl xs.length (rawL xs))), (2, .w (.sl ((numL ds).length) (encL (numL ds))) (some ⟨3, 0, 29, 1⟩)), (3, .w (.sl ((numL ds).length) (encL (numL ds))) (some ⟨3, 0, 29, 1⟩)), (4, Ia zk), (12, Ba false)] [] ?_))))))))
   refine vc_ret (iR (.sl ((numL ds).length) (encL (numL ds))) ?_)
   exact ⟨ds, rfl, by omega⟩
  ·replace hc11 := bt hc11
   obtain ⟨x, hx⟩ : ∃ x, xs[k]? = some x := ⟨_, List.getElem?_eq_getElem (by omega)⟩
   refine iT (vc_skip (seq_n (vc_seq (vc_block (vc_reg rfl (iQ 3 (vcI_idx (q := zk) (n := xs.length) (cs := (rawL xs)) (z := 4) (ds := [.v (.bool x.1), .v (.int .u64 (hiW (x.2.1))), .v (.int .u64 (loW (x.2.1))), .v (.int .i64 x.2.2)]) (dst := (some 18)) (by kernel_rfl) (by omega) (by rw [h1, Int.toNat_natCast]; exact rawL_get hx) ?_)))))))
   refine iQ 1 (iC 18 [.agg [Bv x.1, Hw x.2.1, Lw x.2.1, Iv x.2.2]] (some 20) (c_num20 (hn x (List.mem_of_getElem? hx))) ?_)
   rintro _ ⟨d, rfl⟩
   refine iQ 1 (vcI_app (n := ((numL ds).length)) (cs := (encL (numL ds))) (m := 1) (ds := [.bx (Vl.num (d).g (d).n (d).e).enc]) (N := ((numL (ds ++ [d])).length)) (es := (encL (numL (ds ++ [d])))) (j := 3) (e := 29) (z := 1) (dst := (some 22)) (by kernel_rfl) (by first | rfl | omega | (rw [Nat.mul_one]; exact dg_len _) | (simp [dg]; done) | (simp [dg]; omega)) (by first | rfl | omega | (rw [Nat.mul_one]; exact dg_len _) | (simp [dg]; done) | (simp [dg]; omega)) (rfl) (by rw [numL_len]; omega) (by simp [numL]) (numL_one ds d) ?_)
   refine iQ 1 (iE 24 [(0, .d (.sl xs.length (rawL xs))), (2, .w (.sl 0 []) none), (3, .w (.sl ((numL (ds ++ [d])).length) (encL (numL (ds ++ [d])))) (some ⟨3, 0, 29, 1⟩)), (4, Ia zk), (12, Ba true)] [] ?_)
   refine block_n (seq_n (vc_reg rfl (iQ 1 (iB .add 3 (.int .i64 zk) (.int .i64 1) (some 14) ?_))))
   intro z14 hz14
   try replace hz14 := hz14.i64 (by omega)
   refine iQ 1 (iE 24 [(0, .d (.sl xs.length (rawL xs))), (2, .w (.sl 0 []) none), (3, .w (.sl ((numL (ds ++ [d])).length) (encL (numL (ds ++ [d])))) (some ⟨3, 0, 29, 1⟩)), (4, Ia z14), (12, Ba true)] [] ?_)
   refine loop_n (k + 1, z14, ds ++ [d]) (⟨by omega, by omega, by simp; omega⟩) (by simp only; omega) (by kernel_rfl) (by kernel_rfl)
end Go.Proofs.YtmldjlgeeljfdaaGreat
