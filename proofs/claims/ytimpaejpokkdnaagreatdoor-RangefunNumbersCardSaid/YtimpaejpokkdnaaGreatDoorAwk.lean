/-
  casuistlaw23's awake.
-/
import Derived.Test.YtimpaejpokkdnaaGreatDoorHol
namespace Go.Proofs.YtimpaejpokkdnaaGreatDoor
open Go.RowKit
set_option linter.unusedVariables false
set_option linter.unusedSimpArgs false
set_option maxRecDepth 100000

theorem c_LessT {x : Int} {t : ByteArray} : HasC Tryz.prog 51 [.agg [.ifc 77 (.agg [.v (.bool (decide ((x) < 0))), .v (.int .u64 (hiW ((x).natAbs))), .v (.int .u64 (loW ((x).natAbs))), .v (.int .i64 0)])], .agg [.ifc 62 (.v (.string t))]] (fun r => r = .v (.int .i64 0)) := by
  refine HasC.of [] (fn := Tryz.f51) tyOk mixed (fun args w => Tryz.call51 args w) Tryz.func51 rfl (by kernel_rfl) (Nat.le_of_ble_eq_true rfl) (⟨_, rfl⟩) ?_
  refine vc_seqr rfl (iQ 3 (iE 18 [(2, .p 2 0), (3, .p 3 0), (4, Ia 0)] [(2, [.ifc 77 (.agg [Bv (decide ((x) < 0)), Hw ((x).natAbs), Lw ((x).natAbs), Iv 0])]), (3, [.ifc 62 (Sv t)])] ?_))
  refine vc_seqr rfl (iQ 2 (iC 52 [.agg [.ifc 77 (.agg [Bv (decide ((x) < 0)), Hw ((x).natAbs), Lw ((x).natAbs), Iv 0])], .agg [.ifc 62 (Sv t)]] (some 10) (c_eOrderT) ?_))
  rintro _ rfl
  refine iQ 5 (iE 18 [(4, Ia 0), (5, Ia 0), (6, Ba false)] [] ?_)
  refine vc_seq (vc_seqr rfl (iQ 1 (iU .not (.bool false) (some 14) ?_)))
  refine all_true (rfl) ?_
  refine iE 18 [(4, Ia 0), (5, Ia 0), (14, Ba true)] [] ?_
  refine iT (vc_seqr rfl (iQ 1 (iE 18 [(4, Ia 0), (5, Ia 0), (14, Ba true)] [] ?_)))
  refine vc_ret (seq_r (iR (Iv 0) ?_))
  rfl
theorem c_CmpT {x : Int} {t : ByteArray} : HasC Tryz.prog 49 [.agg [.ifc 77 (.agg [.v (.bool (decide ((x) < 0))), .v (.int .u64 (hiW ((x).natAbs))), .v (.int .u64 (loW ((x).natAbs))), .v (.int .i64 0)])], .agg [.ifc 62 (.v (.string t))]] (fun r => r = .tup [.v (.int .i64 0), .v (.bool false)]) := by
  refine HasC.of [] (fn := Tryz.f49) tyOk mixed (fun args w => Tryz.call49 args w) Tryz.func49 rfl (by kernel_rfl) (Nat.le_of_ble_eq_true rfl) (⟨_, rfl⟩) ?_
  refine vc_seqr rfl (iQ 4 (iE 11 [(2, .p 2 0), (3, .p 3 0), (4, Ia 0), (5, Ba false)] [(2, [.ifc 77 (.agg [Bv (decide ((x) < 0)), Hw ((x).natAbs), Lw ((x).natAbs), Iv 0])]), (3, [.ifc 62 (Sv t)])] ?_))
  refine vc_seqr rfl (iQ 2 (iC 52 [.agg [.ifc 77 (.agg [Bv (decide ((x) < 0)), Hw ((x).natAbs), Lw ((x).natAbs), Iv 0])], .agg [.ifc 62 (Sv t)]] (some 8) (c_eOrderT) ?_))
  rintro _ rfl
  refine iQ 4 (iE 11 [(4, Ia 0), (5, Ba false)] [] ?_)
  refine vc_ret (iS (Iv 0) (Bv false) [] ?_)
  rfl
theorem c_lessT {x : Int} {t : ByteArray} : HasC Tryz.prog 48 [.agg [.ifc 77 (.agg [.v (.bool (decide ((x) < 0))), .v (.int .u64 (hiW ((x).natAbs))), .v (.int .u64 (loW ((x).natAbs))), .v (.int .i64 0)])], .agg [.ifc 62 (.v (.string t))]] (fun r => r = .v (.int .i64 0)) := by
  refine HasC.of [] (fn := Tryz.f48) tyOk mixed (fun args w => Tryz.call48 args w) Tryz.func48 rfl (by kernel_rfl) (Nat.le_of_ble_eq_true rfl) (⟨_, rfl⟩) ?_
  refine vc_seqr rfl (iQ 3 (iE 8 [(2, .p 2 0), (3, .p 3 0), (4, Ia 0)] [(2, [.ifc 77 (.agg [Bv (decide ((x) < 0)), Hw ((x).natAbs), Lw ((x).natAbs), Iv 0])]), (3, [.ifc 62 (Sv t)])] ?_))
  refine vc_seqr rfl (iQ 2 (iC 51 [.agg [.ifc 77 (.agg [Bv (decide ((x) < 0)), Hw ((x).natAbs), Lw ((x).natAbs), Iv 0])], .agg [.ifc 62 (Sv t)]] (some 7) (c_LessT) ?_))
  rintro _ rfl
  refine iQ 1 (iE 8 [(4, Ia 0)] [] ?_)
  refine vc_ret (iR (Iv 0) ?_)
  rfl
theorem c_sameT {x : Int} {t : ByteArray} : HasC Tryz.prog 42 [.agg [.ifc 77 (.agg [.v (.bool (decide ((x) < 0))), .v (.int .u64 (hiW ((x).natAbs))), .v (.int .u64 (loW ((x).natAbs))), .v (.int .i64 0)])], .agg [.ifc 62 (.v (.string t))]] (fun r => r = .v (.int .i64 0)) := by
  refine HasC.of [] (fn := Tryz.f42) tyOk mixed (fun args w => Tryz.call42 args w) Tryz.func42 rfl (by kernel_rfl) (Nat.le_of_ble_eq_true rfl) (⟨_, rfl⟩) ?_
  refine vc_seqr rfl (iQ 3 (iE 18 [(2, .p 2 0), (3, .p 3 0), (4, Ia 0)] [(2, [.ifc 77 (.agg [Bv (decide ((x) < 0)), Hw ((x).natAbs), Lw ((x).natAbs), Iv 0])]), (3, [.ifc 62 (Sv t)])] ?_))
  refine vc_seqr rfl (iQ 2 (iC 49 [.agg [.ifc 77 (.agg [Bv (decide ((x) < 0)), Hw ((x).natAbs), Lw ((x).natAbs), Iv 0])], .agg [.ifc 62 (Sv t)]] (some 10) (c_CmpT) ?_))
  rintro _ rfl
  refine iQ 5 (iE 18 [(4, Ia 0), (5, Ia 0), (6, Ba false)] [] ?_)
  refine vc_seq (vc_seqr rfl (iQ 1 (iU .not (.bool false) (some 14) ?_)))
  refine all_true (rfl) ?_
  refine iE 18 [(4, Ia 0), (5, Ia 0), (14, Ba true)] [] ?_
  refine iT (vc_seqr rfl (iQ 1 (iE 18 [(4, Ia 0), (5, Ia 0), (14, Ba true)] [] ?_)))
  refine vc_ret (seq_r (iR (Iv 0) ?_))
  rfl
theorem c_eitherT {x : Int} {t : ByteArray} : HasC Tryz.prog 41 [.agg [.ifc 77 (.agg [.v (.bool (decide ((x) < 0))), .v (.int .u64 (hiW ((x).natAbs))), .v (.int .u64 (loW ((x).natAbs))), .v (.int .i64 0)])], .agg [.ifc 62 (.v (.string t))], .v (.bool false)] (fun r => r = .v (.int .i64 0)) := by
  refine HasC.of [] (fn := Tryz.f41) tyOk mixed (fun args w => Tryz.call41 args w) Tryz.func41 rfl (by kernel_rfl) (Nat.le_of_ble_eq_true rfl) (⟨_, rfl⟩) ?_
  refine vc_seqr rfl (iQ 3 (iE 17 [(2, Ba false), (3, .p 3 0), (4, .p 4 0), (6, Ia 0)] [(3, [.ifc 77 (.agg [Bv (decide ((x) < 0)), Hw ((x).natAbs), Lw ((x).natAbs), Iv 0])]), (4, [.ifc 62 (Sv t)])] ?_))
  refine vc_seqr rfl (iQ 2 (iC 48 [.agg [.ifc 77 (.agg [Bv (decide ((x) < 0)), Hw ((x).natAbs), Lw ((x).natAbs), Iv 0])], .agg [.ifc 62 (Sv t)]] (some 9) (c_lessT) ?_))
  rintro _ rfl
  refine iQ 2 (iC 42 [.agg [.ifc 77 (.agg [Bv (decide ((x) < 0)), Hw ((x).natAbs), Lw ((x).natAbs), Iv 0])], .agg [.ifc 62 (Sv t)]] (some 12) (c_sameT) ?_)
  rintro _ rfl
  refine iQ 1 (iC 43 [Bv false] (some 14) (c_eOf) ?_)
  rintro _ rfl
  refine iC 32 [Iv 0, Iv (ofI false)] (some 15) (c_eAnd) ?_
  rintro _ rfl
  refine iC 47 [Iv 0, Iv (andI 0 (ofI false))] (some 16) (c_eOr) ?_
  rintro _ rfl
  refine iQ 1 (iE 17 [(6, Ia (notI (andI (notI 0) (notI (andI 0 (ofI false))))))] [] ?_)
  refine vc_ret (iR (Iv (notI (andI (notI 0) (notI (andI 0 (ofI false)))))) ?_)
  rfl
theorem c_beforeT {x : Int} {t : ByteArray} : HasC Tryz.prog 29 [.agg [.ifc 77 (.agg [.v (.bool (decide ((x) < 0))), .v (.int .u64 (hiW ((x).natAbs))), .v (.int .u64 (loW ((x).natAbs))), .v (.int .i64 0)]), .ifc 77 (.agg [.v (.bool (decide ((x) < 0))), .v (.int .u64 (hiW ((x).natAbs))), .v (.int .u64 (loW ((x).natAbs))), .v (.int .i64 0)]), .v (.bool true), .v (.bool true), .v (.bool true)], .agg [.ifc 62 (.v (.string t)), .ifc 62 (.v (.string t)), .v (.bool true), .v (.bool true), .v (.bool true)]] (fun r => r = .v (.int .i64 0)) := by
  refine HasC.of [] (fn := Tryz.f29) tyOk mixed (fun args w => Tryz.call29 args w) Tryz.func29 rfl (by kernel_rfl) (Nat.le_of_ble_eq_true rfl) (⟨_, rfl⟩) ?_
  refine vc_seqr rfl (iQ 3 (iE 20 [(2, .p 2 0), (3, .p 3 0), (4, Ia 0)] [(2, [.ifc 77 (.agg [Bv (decide ((x) < 0)), Hw ((x).natAbs), Lw ((x).natAbs), Iv 0]), .ifc 77 (.agg [Bv (decide ((x) < 0)), Hw ((x).natAbs), Lw ((x).natAbs), Iv 0]), Bv true, Bv true, Bv true]), (3, [.ifc 62 (Sv t), .ifc 62 (Sv t), Bv true, Bv true, Bv true])] ?_))
  refine vc_seqr rfl (iQ 7 (iU .not (.bool true) (some 12) ?_))
  refine all_false ((by simp)) ?_
  refine iQ 4 (iU .not (.bool true) (some 17) ?_)
  refine all_false ((by simp)) ?_
  refine iQ 1 (iC 41 [.agg [.ifc 77 (.agg [Bv (decide ((x) < 0)), Hw ((x).natAbs), Lw ((x).natAbs), Iv 0])], .agg [.ifc 62 (Sv t)], Bv false] (some 19) (c_eitherT) ?_)
  rintro _ rfl
  refine iQ 1 (iE 20 [(4, Ia 0)] [] ?_)
  refine vc_ret (iR (Iv 0) ?_)
  rfl
theorem h_beforeT {x : Int} {t : ByteArray} : HasC Tryz.prog 19 [.v (.string (⟨#[98, 101, 102, 111, 114, 101]⟩)), .agg [.ifc 77 (.agg [.v (.bool (decide ((x) < 0))), .v (.int .u64 (hiW ((x).natAbs))), .v (.int .u64 (loW ((x).natAbs))), .v (.int .i64 0)]), .ifc 77 (.agg [.v (.bool (decide ((x) < 0))), .v (.int .u64 (hiW ((x).natAbs))), .v (.int .u64 (loW ((x).natAbs))), .v (.int .i64 0)]), .v (.bool true), .v (.bool true), .v (.bool true)], .agg [.ifc 62 (.v (.string t)), .ifc 62 (.v (.string t)), .v (.bool true), .v (.bool true), .v (.bool true)]] (fun r => r = .v (.int .i64 0)) := by
  refine HasC.of [] (fn := Tryz.f19) tyOk mixed (fun args w => Tryz.call19 args w) Tryz.func19 rfl (by kernel_rfl) (Nat.le_of_ble_eq_true rfl) (⟨_, rfl⟩) ?_
  refine vc_seqr rfl (iQ 3 (iE 104 [(0, .d (Sv (⟨#[98, 101, 102, 111, 114, 101]⟩))), (4, .p 4 0), (5, .p 5 0), (6, Ia 0)] [(4, [.ifc 77 (.agg [Bv (decide ((x) < 0)), Hw ((x).natAbs), Lw ((x).natAbs), Iv 0]), .ifc 77 (.agg [Bv (decide ((x) < 0)), Hw ((x).natAbs), Lw ((x).natAbs), Iv 0]), Bv true, Bv true, Bv true]), (5, [.ifc 62 (Sv t), .ifc 62 (Sv t), Bv true, Bv true, Bv true])] ?_))
  refine vc_seq (vc_seqr rfl (iQ 1 (iE 104 [(4, .p 4 0), (5, .p 5 0), (6, Ia 0), (7, .d (Sv (⟨#[98, 101, 102, 111, 114, 101]⟩)))] [(4, [.ifc 77 (.agg [Bv (decide ((x) < 0)), Hw ((x).natAbs), Lw ((x).natAbs), Iv 0]), .ifc 77 (.agg [Bv (decide ((x) < 0)), Hw ((x).natAbs), Lw ((x).natAbs), Iv 0]), Bv true, Bv true, Bv true]), (5, [.ifc 62 (Sv t), .ifc 62 (Sv t), Bv true, Bv true, Bv true])] ?_)))
  refine vc_block (vc_seqr rfl (iB .eql 9 (.string (⟨#[98, 101, 102, 111, 114, 101]⟩)) (.string (⟨#[98, 101, 102, 111, 114, 101]⟩)) (some 9) ?_))
  refine all_true ((by decide)) ?_
  refine iQ 1 (iE 104 [(4, .p 4 0), (5, .p 5 0), (6, Ia 0), (7, .d (Sv (⟨#[98, 101, 102, 111, 114, 101]⟩))), (8, Ba true)] [(4, [.ifc 77 (.agg [Bv (decide ((x) < 0)), Hw ((x).natAbs), Lw ((x).natAbs), Iv 0]), .ifc 77 (.agg [Bv (decide ((x) < 0)), Hw ((x).natAbs), Lw ((x).natAbs), Iv 0]), Bv true, Bv true, Bv true]), (5, [.ifc 62 (Sv t), .ifc 62 (Sv t), Bv true, Bv true, Bv true])] ?_)
  refine iT (vc_seqr rfl (iQ 2 (iC 29 [.agg [.ifc 77 (.agg [Bv (decide ((x) < 0)), Hw ((x).natAbs), Lw ((x).natAbs), Iv 0]), .ifc 77 (.agg [Bv (decide ((x) < 0)), Hw ((x).natAbs), Lw ((x).natAbs), Iv 0]), Bv true, Bv true, Bv true], .agg [.ifc 62 (Sv t), .ifc 62 (Sv t), Bv true, Bv true, Bv true]] (some 12) (c_beforeT) ?_)))
  rintro _ rfl
  refine iQ 1 (iE 104 [(4, .p 4 0), (5, .p 5 0), (6, Ia 0), (7, .d (Sv (⟨#[98, 101, 102, 111, 114, 101]⟩))), (8, Ba true)] [(4, [.ifc 77 (.agg [Bv (decide ((x) < 0)), Hw ((x).natAbs), Lw ((x).natAbs), Iv 0]), .ifc 77 (.agg [Bv (decide ((x) < 0)), Hw ((x).natAbs), Lw ((x).natAbs), Iv 0]), Bv true, Bv true, Bv true]), (5, [.ifc 62 (Sv t), .ifc 62 (Sv t), Bv true, Bv true, Bv true])] ?_)
  refine vc_ret (block_r (seq_r (iR (Iv 0) ?_)))
  rfl
theorem c_HoldsT {x : Int} {t : ByteArray} : HasC Tryz.prog 9 [.v (.string (⟨#[98, 101, 102, 111, 114, 101]⟩)), .agg [.ifc 77 (.agg [.v (.bool (decide ((x) < 0))), .v (.int .u64 (hiW ((x).natAbs))), .v (.int .u64 (loW ((x).natAbs))), .v (.int .i64 0)])], .agg [.ifc 62 (.v (.string t))]] (fun r => r = .agg [.v .nilIface]) := by
  refine HasC.of [] (fn := Tryz.f9) tyOk mixed (fun args w => Tryz.call9 args w) Tryz.func9 rfl (by kernel_rfl) (Nat.le_of_ble_eq_true rfl) (⟨_, rfl⟩) ?_
  refine vc_seqr rfl (iQ 3 (iE 77 [(0, .d (Sv (⟨#[98, 101, 102, 111, 114, 101]⟩))), (4, .p 4 0), (5, .p 5 0), (6, .p 6 0)] [(4, [.ifc 77 (.agg [Bv (decide ((x) < 0)), Hw ((x).natAbs), Lw ((x).natAbs), Iv 0])]), (5, [.ifc 62 (Sv t)]), (6, [.v (.nilIface)])] ?_))
  refine vc_seqr rfl (iQ 1 (iC 16 [.agg [.ifc 77 (.agg [Bv (decide ((x) < 0)), Hw ((x).natAbs), Lw ((x).natAbs), Iv 0])]] (some 14) (c_ofN) ?_))
  rintro _ rfl
  refine iQ 6 (iE 77 [(0, .d (Sv (⟨#[98, 101, 102, 111, 114, 101]⟩))), (5, .p 5 0), (6, .p 6 0), (7, .p 7 0), (8, Ba true)] [(5, [.ifc 62 (Sv t)]), (6, [.v (.nilIface)]), (7, [.ifc 77 (.agg [Bv (decide ((x) < 0)), Hw ((x).natAbs), Lw ((x).natAbs), Iv 0]), .ifc 77 (.agg [Bv (decide ((x) < 0)), Hw ((x).natAbs), Lw ((x).natAbs), Iv 0]), Bv true, Bv true, Bv true])] ?_)
  refine vc_seqr rfl (iQ 1 (iC 16 [.agg [.ifc 62 (Sv t)]] (some 19) (c_ofT) ?_))
  rintro _ rfl
  refine iQ 6 (iE 77 [(0, .d (Sv (⟨#[98, 101, 102, 111, 114, 101]⟩))), (6, .p 6 0), (7, .p 7 0), (8, Ba true), (9, .p 9 0), (10, Ba true)] [(6, [.v (.nilIface)]), (7, [.ifc 77 (.agg [Bv (decide ((x) < 0)), Hw ((x).natAbs), Lw ((x).natAbs), Iv 0]), .ifc 77 (.agg [Bv (decide ((x) < 0)), Hw ((x).natAbs), Lw ((x).natAbs), Iv 0]), Bv true, Bv true, Bv true]), (9, [.ifc 62 (Sv t), .ifc 62 (Sv t), Bv true, Bv true, Bv true])] ?_)
  refine vc_seqr rfl (iQ 1 (iC 17 [Sv (⟨#[98, 101, 102, 111, 114, 101]⟩)] (some 23) (p_before) ?_))
  rintro _ rfl
  refine iQ 1 (iE 77 [(0, .d (Sv (⟨#[98, 101, 102, 111, 114, 101]⟩))), (6, .p 6 0), (7, .p 7 0), (8, Ba true), (9, .p 9 0), (10, Ba true), (11, Ia 3)] [(6, [.v (.nilIface)]), (7, [.ifc 77 (.agg [Bv (decide ((x) < 0)), Hw ((x).natAbs), Lw ((x).natAbs), Iv 0]), .ifc 77 (.agg [Bv (decide ((x) < 0)), Hw ((x).natAbs), Lw ((x).natAbs), Iv 0]), Bv true, Bv true, Bv true]), (9, [.ifc 62 (Sv t), .ifc 62 (Sv t), Bv true, Bv true, Bv true])] ?_)
  refine vc_seq (vc_seqr rfl (iQ 1 (iU .not (.bool true) (some 25) ?_)))
  refine all_false ((by simp)) ?_
  refine iQ 2 (iU .not (.bool true) (some 28) ?_)
  refine all_false ((by simp)) ?_
  refine iQ 6 (iB .and 3 (.int .i64 3) (.int .i64 1) (some 35) ?_)
  intro z35 hz35
  refine iB .eql 3 (.int .i64 z35) (.int .i64 0) (some 36) ?_
  refine all_false ((by rw [show z35 = 1 from hz35]; decide)) ?_
  refine iQ 7 (iB .and 3 (.int .i64 3) (.int .i64 2) (some 44) ?_)
  intro z44 hz44
  refine iB .eql 3 (.int .i64 z44) (.int .i64 0) (some 45) ?_
  refine all_false ((by rw [show z44 = 2 from hz44]; decide)) ?_
  refine iQ 4 (iB .eql 9 (.string (⟨#[98, 101, 102, 111, 114, 101]⟩)) (.string (⟨#[99, 111, 105, 110, 99, 105, 100, 101, 115]⟩)) (some 50) ?_)
  refine all_false ((by decide)) ?_
  refine iQ 10 (iB .neq 3 (.int .i64 3) (.int .i64 3) (some 61) ?_)
  refine all_false ((by decide)) ?_
  refine iQ 9 (iE 77 [(0, .d (Sv (⟨#[98, 101, 102, 111, 114, 101]⟩))), (6, .p 6 0), (7, .p 7 0), (9, .p 9 0), (70, Ba false)] [(6, [.v (.nilIface)]), (7, [.ifc 77 (.agg [Bv (decide ((x) < 0)), Hw ((x).natAbs), Lw ((x).natAbs), Iv 0]), .ifc 77 (.agg [Bv (decide ((x) < 0)), Hw ((x).natAbs), Lw ((x).natAbs), Iv 0]), Bv true, Bv true, Bv true]), (9, [.ifc 62 (Sv t), .ifc 62 (Sv t), Bv true, Bv true, Bv true])] ?_)
  refine iF (vc_skip (seq_n (vc_seqr rfl (iQ 3 (iC 19 [Sv (⟨#[98, 101, 102, 111, 114, 101]⟩), .agg [.ifc 77 (.agg [Bv (decide ((x) < 0)), Hw ((x).natAbs), Lw ((x).natAbs), Iv 0]), .ifc 77 (.agg [Bv (decide ((x) < 0)), Hw ((x).natAbs), Lw ((x).natAbs), Iv 0]), Bv true, Bv true, Bv true], .agg [.ifc 62 (Sv t), .ifc 62 (Sv t), Bv true, Bv true, Bv true]] (some 75) (h_beforeT) ?_)))))
  rintro _ rfl
  refine iC 18 [Iv 0] (some 76) (c_eValue0) ?_
  rintro _ rfl
  refine iQ 1 (iE 77 [(0, .d (Sv (⟨#[98, 101, 102, 111, 114, 101]⟩))), (6, .p 6 0), (7, .p 7 0), (9, .p 9 0), (70, Ba false)] [(6, [.v (.nilIface)]), (7, [.ifc 77 (.agg [Bv (decide ((x) < 0)), Hw ((x).natAbs), Lw ((x).natAbs), Iv 0]), .ifc 77 (.agg [Bv (decide ((x) < 0)), Hw ((x).natAbs), Lw ((x).natAbs), Iv 0]), Bv true, Bv true, Bv true]), (9, [.ifc 62 (Sv t), .ifc 62 (Sv t), Bv true, Bv true, Bv true])] ?_)
  refine vc_ret (iR (.agg [.v (.nilIface)]) ?_)
  rfl
theorem mem_before : w_before ∈ words := by simp [words]
theorem mem_after : w_after ∈ words := by simp [words]
theorem mem_meets : w_meets ∈ words := by simp [words]
theorem mem_met_by : w_met_by ∈ words := by simp [words]
theorem mem_overlaps : w_overlaps ∈ words := by simp [words]
theorem mem_overlaps_before : w_overlaps_before ∈ words := by simp [words]
theorem mem_overlaps_after : w_overlaps_after ∈ words := by simp [words]
theorem mem_finishes : w_finishes ∈ words := by simp [words]
theorem mem_finished_by : w_finished_by ∈ words := by simp [words]
theorem mem_includes : w_includes ∈ words := by simp [words]
theorem mem_during : w_during ∈ words := by simp [words]
theorem mem_starts : w_starts ∈ words := by simp [words]
theorem mem_started_by : w_started_by ∈ words := by simp [words]
theorem mem_coincides : w_coincides ∈ words := by simp [words]
theorem c_awake  : HasC Tryz.prog 4 [] (fun r => r = .v (.bool true)) := by
  refine HasC.of [] (fn := Tryz.f4) tyOk mixed (fun args w => Tryz.call4 args w) Tryz.func4 rfl (by kernel_rfl) (Nat.le_of_ble_eq_true rfl) (⟨_, rfl⟩) ?_
  refine vc_seqr rfl (iQ 1 (iE 43 [(0, Ba false)] [] ?_))
  refine vc_seqr rfl (iC 11 [Iv 1] (some 2) (c_vInt (x := 1) (by decide) (by decide)) ?_)
  rintro _ rfl
  refine iQ 2 (iE 43 [(0, Ba false), (1, .p 1 0)] [(1, [.ifc 77 (.agg [Bv (decide (((1 : Int)) < 0)), Hw (((1 : Int)).natAbs), Lw (((1 : Int)).natAbs), Iv 0])])] ?_)
  refine vc_seqr rfl (iQ 1 (iC 12 [Iv 2, Iv 3, Bv true, Bv true] (some 4) (c_span (x := 2) (y := 3) (p := true) (q := true) ⟨by decide, by decide⟩ ⟨by decide, by decide⟩) ?_))
  rintro _ rfl
  refine iC 9 [Sv (⟨#[98, 101, 102, 111, 114, 101]⟩), .agg [.ifc 77 (.agg [Bv (decide (((1 : Int)) < 0)), Hw (((1 : Int)).natAbs), Lw (((1 : Int)).natAbs), Iv 0])], .agg [.ifc (tV false) (cV 2 3 true true false)]] (some 5) (c_Holds (w := w_before) (a0 := 1) (a1 := 1) (p0 := true) (p1 := true) (pa := true) (b0 := 2) (b1 := 3) (q0 := true) (q1 := true) (pb := false) mem_before ⟨by decide, by decide⟩ ⟨by decide, by decide⟩ ⟨by decide, by decide⟩ ⟨by decide, by decide⟩) ?_
  rintro _ rfl
  refine iC 8 [.agg [cT (HI w_before 1 1 true true true 2 3 true true false)]] (some 6) (c_yes (HI_cases ..)) ?_
  rintro _ rfl
  refine iB .eql 3 (.int .i64 (HI w_before 1 1 true true true 2 3 true true false - 1)) (.int .i64 1) (some 7) ?_
  refine all_true ((by decide)) ?_
  refine iQ 1 (iC 12 [Iv 1, Iv 2, Bv true, Bv false] (some 9) (c_span (x := 1) (y := 2) (p := true) (q := false) ⟨by decide, by decide⟩ ⟨by decide, by decide⟩) ?_)
  rintro _ rfl
  refine iC 12 [Iv 2, Iv 3, Bv true, Bv true] (some 10) (c_span (x := 2) (y := 3) (p := true) (q := true) ⟨by decide, by decide⟩ ⟨by decide, by decide⟩) ?_
  rintro _ rfl
  refine iC 9 [Sv (⟨#[98, 101, 102, 111, 114, 101]⟩), .agg [.ifc (tV false) (cV 1 2 true false false)], .agg [.ifc (tV false) (cV 2 3 true true false)]] (some 11) (c_Holds (w := w_before) (a0 := 1) (a1 := 2) (p0 := true) (p1 := false) (pa := false) (b0 := 2) (b1 := 3) (q0 := true) (q1 := true) (pb := false) mem_before ⟨by decide, by decide⟩ ⟨by decide, by decide⟩ ⟨by decide, by decide⟩ ⟨by decide, by decide⟩) ?_
  rintro _ rfl
  refine iC 8 [.agg [cT (HI w_before 1 2 true false false 2 3 true true false)]] (some 12) (c_yes (HI_cases ..)) ?_
  rintro _ rfl
  refine iB .eql 3 (.int .i64 (HI w_before 1 2 true false false 2 3 true true false - 1)) (.int .i64 1) (some 13) ?_
  refine all_true ((by decide)) ?_
  refine iQ 2 (iC 12 [Iv 1, Iv 2, Bv true, Bv true] (some 16) (c_span (x := 1) (y := 2) (p := true) (q := true) ⟨by decide, by decide⟩ ⟨by decide, by decide⟩) ?_)
  rintro _ rfl
  refine iC 12 [Iv 2, Iv 3, Bv true, Bv true] (some 17) (c_span (x := 2) (y := 3) (p := true) (q := true) ⟨by decide, by decide⟩ ⟨by decide, by decide⟩) ?_
  rintro _ rfl
  refine iC 9 [Sv (⟨#[109, 101, 101, 116, 115]⟩), .agg [.ifc (tV false) (cV 1 2 true true false)], .agg [.ifc (tV false) (cV 2 3 true true false)]] (some 18) (c_Holds (w := w_meets) (a0 := 1) (a1 := 2) (p0 := true) (p1 := true) (pa := false) (b0 := 2) (b1 := 3) (q0 := true) (q1 := true) (pb := false) mem_meets ⟨by decide, by decide⟩ ⟨by decide, by decide⟩ ⟨by decide, by decide⟩ ⟨by decide, by decide⟩) ?_
  rintro _ rfl
  refine iC 8 [.agg [cT (HI w_meets 1 2 true true false 2 3 true true false)]] (some 19) (c_yes (HI_cases ..)) ?_
  rintro _ rfl
  refine iB .eql 3 (.int .i64 (HI w_meets 1 2 true true false 2 3 true true false - 1)) (.int .i64 1) (some 20) ?_
  refine all_true ((by decide)) ?_
  refine iQ 2 (iC 12 [Iv 1, Iv 5, Bv true, Bv true] (some 23) (c_span (x := 1) (y := 5) (p := true) (q := true) ⟨by decide, by decide⟩ ⟨by decide, by decide⟩) ?_)
  rintro _ rfl
  refine iC 11 [Iv 5] (some 24) (c_vInt (x := 5) (by decide) (by decide)) ?_
  rintro _ rfl
  refine iC 9 [Sv (⟨#[105, 110, 99, 108, 117, 100, 101, 115]⟩), .agg [.ifc (tV false) (cV 1 5 true true false)], .agg [.ifc 77 (.agg [Bv (decide (((5 : Int)) < 0)), Hw (((5 : Int)).natAbs), Lw (((5 : Int)).natAbs), Iv 0])]] (some 25) (c_Holds (w := w_includes) (a0 := 1) (a1 := 5) (p0 := true) (p1 := true) (pa := false) (b0 := 5) (b1 := 5) (q0 := true) (q1 := true) (pb := true) mem_includes ⟨by decide, by decide⟩ ⟨by decide, by decide⟩ ⟨by decide, by decide⟩ ⟨by decide, by decide⟩) ?_
  rintro _ rfl
  refine iC 8 [.agg [cT (HI w_includes 1 5 true true false 5 5 true true true)]] (some 26) (c_yes (HI_cases ..)) ?_
  rintro _ rfl
  refine iB .eql 3 (.int .i64 (HI w_includes 1 5 true true false 5 5 true true true - 1)) (.int .i64 1) (some 27) ?_
  refine all_true ((by decide)) ?_
  refine iQ 3 (iC 12 [Iv 1, Iv 5, Bv false, Bv true] (some 31) (c_span (x := 1) (y := 5) (p := false) (q := true) ⟨by decide, by decide⟩ ⟨by decide, by decide⟩) ?_)
  rintro _ rfl
  refine iC 9 [Sv (⟨#[100, 117, 114, 105, 110, 103]⟩), .agg [.ifc 77 (.agg [Bv (decide (((1 : Int)) < 0)), Hw (((1 : Int)).natAbs), Lw (((1 : Int)).natAbs), Iv 0])], .agg [.ifc (tV false) (cV 1 5 false true false)]] (some 32) (c_Holds (w := w_during) (a0 := 1) (a1 := 1) (p0 := true) (p1 := true) (pa := true) (b0 := 1) (b1 := 5) (q0 := false) (q1 := true) (pb := false) mem_during ⟨by decide, by decide⟩ ⟨by decide, by decide⟩ ⟨by decide, by decide⟩ ⟨by decide, by decide⟩) ?_
  rintro _ rfl
  refine iC 8 [.agg [cT (HI w_during 1 1 true true true 1 5 false true false)]] (some 33) (c_yes (HI_cases ..)) ?_
  rintro _ rfl
  refine iB .eql 3 (.int .i64 (HI w_during 1 1 true true true 1 5 false true false - 1)) (.int .i64 0) (some 34) ?_
  refine all_true ((by decide)) ?_
  refine iQ 3 (iC 13 [Sv (⟨#[97]⟩)] (some 38) (c_TextA) ?_)
  rintro _ rfl
  refine iC 9 [Sv (⟨#[98, 101, 102, 111, 114, 101]⟩), .agg [.ifc 77 (.agg [Bv (decide (((1 : Int)) < 0)), Hw (((1 : Int)).natAbs), Lw (((1 : Int)).natAbs), Iv 0])], .agg [.ifc 62 (Sv (⟨#[97]⟩))]] (some 39) (c_HoldsT) ?_
  rintro _ rfl
  refine iC 8 [.agg [.v (.nilIface)]] (some 40) (c_yes0) ?_
  rintro _ rfl
  refine iB .eql 3 (.int .i64 (-1)) (.int .i64 (-1)) (some 41) ?_
  refine all_true ((by decide)) ?_
  refine iQ 2 (iE 43 [(0, Ba true), (1, .p 1 0)] [(1, [.ifc 77 (.agg [Bv (decide (((1 : Int)) < 0)), Hw (((1 : Int)).natAbs), Lw (((1 : Int)).natAbs), Iv 0])])] ?_)
  refine vc_ret (iR (Bv true) ?_)
  rfl
end Go.Proofs.YtimpaejpokkdnaaGreatDoor
