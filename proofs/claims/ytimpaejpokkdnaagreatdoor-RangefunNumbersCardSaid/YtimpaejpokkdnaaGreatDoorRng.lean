/-
  What equal and rangefun say of ends that are whole numbers.
-/
import Derived.Test.YtimpaejpokkdnaaGreatDoorEql
namespace Go.Proofs.YtimpaejpokkdnaaGreatDoor
open Go.RowKit
set_option linter.unusedVariables false
set_option linter.unusedSimpArgs false
set_option maxRecDepth 100000

def ltE (x y : Int) (m : Bool) : Bool := decide (x < y) || (decide (x = y) && m)
theorem ltE_F {x y : Int} : ltE x y false = decide (x < y) := by unfold ltE; simp
theorem andI_of (p q : Bool) : andI (ofI p) (ofI q) = ofI (p && q) := by cases p <;> cases q <;> rfl
theorem notI_of (p : Bool) : notI (ofI p) = ofI (!p) := by cases p <;> rfl
theorem orI_of (p q : Bool) : notI (andI (notI (ofI p)) (notI (ofI q))) = ofI (p || q) := by cases p <;> cases q <;> rfl
theorem cmpD_lt (x y : Int) : decide (cmpI x y < 0) = decide (x < y) := by
  unfold cmpI
  repeat' split
  all_goals simp <;> omega
theorem cmpD_eq (x y : Int) : decide (cmpI x y = 0) = decide (x = y) := by
  unfold cmpI
  repeat' split
  all_goals simp <;> omega
theorem b_dec {c : Bool} {p : Prop} [Decidable p] (h : c = true ↔ p) : c = decide p := by
  cases c <;> simp_all
theorem b_eq {c p q : Bool} (h : c = true ↔ p = q) : c = (p == q) := by
  cases c <;> cases p <;> cases q <;> simp_all
def Ok (x : Int) : Prop := -1000000 ≤ x ∧ x ≤ 1000000

theorem c_Less {x y : Int} (hx : Ok x) (hy : Ok y) : HasC Tryz.prog 51 [.agg [.ifc 77 (.agg [.v (.bool (decide ((x) < 0))), .v (.int .u64 (hiW ((x).natAbs))), .v (.int .u64 (loW ((x).natAbs))), .v (.int .i64 0)])], .agg [.ifc 77 (.agg [.v (.bool (decide ((y) < 0))), .v (.int .u64 (hiW ((y).natAbs))), .v (.int .u64 (loW ((y).natAbs))), .v (.int .i64 0)])]] (fun r => r = .v (.int .i64 (ofI (decide (x < y))))) := by
  refine HasC.of [] (fn := Tryz.f51) tyOk mixed (fun args w => Tryz.call51 args w) Tryz.func51 rfl (by kernel_rfl) (Nat.le_of_ble_eq_true rfl) (⟨_, rfl⟩) ?_
  refine vc_seqr rfl (iQ 3 (iE 18 [(2, .p 2 0), (3, .p 3 0), (4, Ia 0)] [(2, [.ifc 77 (.agg [Bv (decide ((x) < 0)), Hw ((x).natAbs), Lw ((x).natAbs), Iv 0])]), (3, [.ifc 77 (.agg [Bv (decide ((y) < 0)), Hw ((y).natAbs), Lw ((y).natAbs), Iv 0])])] ?_))
  refine vc_seqr rfl (iQ 2 (iC 52 [.agg [.ifc 77 (.agg [Bv (decide ((x) < 0)), Hw ((x).natAbs), Lw ((x).natAbs), Iv 0])], .agg [.ifc 77 (.agg [Bv (decide ((y) < 0)), Hw ((y).natAbs), Lw ((y).natAbs), Iv 0])]] (some 10) (c_eOrder hx.1 hx.2 hy.1 hy.2) ?_))
  rintro _ rfl
  refine iQ 5 (iE 18 [(4, Ia 0), (5, Ia (cmpI x y)), (6, Ba true)] [] ?_)
  refine vc_seq (vc_seqr rfl (iQ 1 (iU .not (.bool true) (some 14) ?_)))
  refine all_false ((by simp)) ?_
  refine iE 18 [(4, Ia 0), (5, Ia (cmpI x y)), (14, Ba false)] [] ?_
  refine iF (vc_skip (seq_n (vc_seqr rfl (iQ 1 (iB .lss 3 (.int .i64 (cmpI x y)) (.int .i64 0) (some 16) ?_)))))
  intro c16 hc16
  refine iC 43 [Bv c16] (some 17) (c_eOf) ?_
  rintro _ rfl
  refine iQ 1 (iE 18 [(4, Ia (ofI c16)), (14, Ba false)] [] ?_)
  refine vc_ret (iR (Iv (ofI c16)) ?_)
  rw [b_dec hc16, cmpD_lt]
theorem c_Cmp {x y : Int} (hx : Ok x) (hy : Ok y) : HasC Tryz.prog 49 [.agg [.ifc 77 (.agg [.v (.bool (decide ((x) < 0))), .v (.int .u64 (hiW ((x).natAbs))), .v (.int .u64 (loW ((x).natAbs))), .v (.int .i64 0)])], .agg [.ifc 77 (.agg [.v (.bool (decide ((y) < 0))), .v (.int .u64 (hiW ((y).natAbs))), .v (.int .u64 (loW ((y).natAbs))), .v (.int .i64 0)])]] (fun r => r = .tup [.v (.int .i64 (cmpI x y)), .v (.bool true)]) := by
  refine HasC.of [] (fn := Tryz.f49) tyOk mixed (fun args w => Tryz.call49 args w) Tryz.func49 rfl (by kernel_rfl) (Nat.le_of_ble_eq_true rfl) (⟨_, rfl⟩) ?_
  refine vc_seqr rfl (iQ 4 (iE 11 [(2, .p 2 0), (3, .p 3 0), (4, Ia 0), (5, Ba false)] [(2, [.ifc 77 (.agg [Bv (decide ((x) < 0)), Hw ((x).natAbs), Lw ((x).natAbs), Iv 0])]), (3, [.ifc 77 (.agg [Bv (decide ((y) < 0)), Hw ((y).natAbs), Lw ((y).natAbs), Iv 0])])] ?_))
  refine vc_seqr rfl (iQ 2 (iC 52 [.agg [.ifc 77 (.agg [Bv (decide ((x) < 0)), Hw ((x).natAbs), Lw ((x).natAbs), Iv 0])], .agg [.ifc 77 (.agg [Bv (decide ((y) < 0)), Hw ((y).natAbs), Lw ((y).natAbs), Iv 0])]] (some 8) (c_eOrder hx.1 hx.2 hy.1 hy.2) ?_))
  rintro _ rfl
  refine iQ 4 (iE 11 [(4, Ia (cmpI x y)), (5, Ba true)] [] ?_)
  refine vc_ret (iS (Iv (cmpI x y)) (Bv true) [] ?_)
  rfl
theorem c_less {x y : Int} (hx : Ok x) (hy : Ok y) : HasC Tryz.prog 48 [.agg [.ifc 77 (.agg [.v (.bool (decide ((x) < 0))), .v (.int .u64 (hiW ((x).natAbs))), .v (.int .u64 (loW ((x).natAbs))), .v (.int .i64 0)])], .agg [.ifc 77 (.agg [.v (.bool (decide ((y) < 0))), .v (.int .u64 (hiW ((y).natAbs))), .v (.int .u64 (loW ((y).natAbs))), .v (.int .i64 0)])]] (fun r => r = .v (.int .i64 (ofI (decide (x < y))))) := by
  refine HasC.of [] (fn := Tryz.f48) tyOk mixed (fun args w => Tryz.call48 args w) Tryz.func48 rfl (by kernel_rfl) (Nat.le_of_ble_eq_true rfl) (⟨_, rfl⟩) ?_
  refine vc_seqr rfl (iQ 3 (iE 8 [(2, .p 2 0), (3, .p 3 0), (4, Ia 0)] [(2, [.ifc 77 (.agg [Bv (decide ((x) < 0)), Hw ((x).natAbs), Lw ((x).natAbs), Iv 0])]), (3, [.ifc 77 (.agg [Bv (decide ((y) < 0)), Hw ((y).natAbs), Lw ((y).natAbs), Iv 0])])] ?_))
  refine vc_seqr rfl (iQ 2 (iC 51 [.agg [.ifc 77 (.agg [Bv (decide ((x) < 0)), Hw ((x).natAbs), Lw ((x).natAbs), Iv 0])], .agg [.ifc 77 (.agg [Bv (decide ((y) < 0)), Hw ((y).natAbs), Lw ((y).natAbs), Iv 0])]] (some 7) (c_Less hx hy) ?_))
  rintro _ rfl
  refine iQ 1 (iE 8 [(4, Ia (ofI (decide (x < y))))] [] ?_)
  refine vc_ret (iR (Iv (ofI (decide (x < y)))) ?_)
  rfl
theorem c_same {x y : Int} (hx : Ok x) (hy : Ok y) : HasC Tryz.prog 42 [.agg [.ifc 77 (.agg [.v (.bool (decide ((x) < 0))), .v (.int .u64 (hiW ((x).natAbs))), .v (.int .u64 (loW ((x).natAbs))), .v (.int .i64 0)])], .agg [.ifc 77 (.agg [.v (.bool (decide ((y) < 0))), .v (.int .u64 (hiW ((y).natAbs))), .v (.int .u64 (loW ((y).natAbs))), .v (.int .i64 0)])]] (fun r => r = .v (.int .i64 (ofI (decide (x = y))))) := by
  refine HasC.of [] (fn := Tryz.f42) tyOk mixed (fun args w => Tryz.call42 args w) Tryz.func42 rfl (by kernel_rfl) (Nat.le_of_ble_eq_true rfl) (⟨_, rfl⟩) ?_
  refine vc_seqr rfl (iQ 3 (iE 18 [(2, .p 2 0), (3, .p 3 0), (4, Ia 0)] [(2, [.ifc 77 (.agg [Bv (decide ((x) < 0)), Hw ((x).natAbs), Lw ((x).natAbs), Iv 0])]), (3, [.ifc 77 (.agg [Bv (decide ((y) < 0)), Hw ((y).natAbs), Lw ((y).natAbs), Iv 0])])] ?_))
  refine vc_seqr rfl (iQ 2 (iC 49 [.agg [.ifc 77 (.agg [Bv (decide ((x) < 0)), Hw ((x).natAbs), Lw ((x).natAbs), Iv 0])], .agg [.ifc 77 (.agg [Bv (decide ((y) < 0)), Hw ((y).natAbs), Lw ((y).natAbs), Iv 0])]] (some 10) (c_Cmp hx hy) ?_))
  rintro _ rfl
  refine iQ 5 (iE 18 [(4, Ia 0), (5, Ia (cmpI x y)), (6, Ba true)] [] ?_)
  refine vc_seq (vc_seqr rfl (iQ 1 (iU .not (.bool true) (some 14) ?_)))
  refine all_false ((by simp)) ?_
  refine iE 18 [(4, Ia 0), (5, Ia (cmpI x y)), (14, Ba false)] [] ?_
  refine iF (vc_skip (seq_n (vc_seqr rfl (iQ 1 (iB .eql 3 (.int .i64 (cmpI x y)) (.int .i64 0) (some 16) ?_)))))
  intro c16 hc16
  refine iC 43 [Bv c16] (some 17) (c_eOf) ?_
  rintro _ rfl
  refine iQ 1 (iE 18 [(4, Ia (ofI c16)), (14, Ba false)] [] ?_)
  refine vc_ret (iR (Iv (ofI c16)) ?_)
  rw [b_dec hc16, cmpD_eq]
theorem c_either {x y : Int} {m : Bool} (hx : Ok x) (hy : Ok y) : HasC Tryz.prog 41 [.agg [.ifc 77 (.agg [.v (.bool (decide ((x) < 0))), .v (.int .u64 (hiW ((x).natAbs))), .v (.int .u64 (loW ((x).natAbs))), .v (.int .i64 0)])], .agg [.ifc 77 (.agg [.v (.bool (decide ((y) < 0))), .v (.int .u64 (hiW ((y).natAbs))), .v (.int .u64 (loW ((y).natAbs))), .v (.int .i64 0)])], .v (.bool m)] (fun r => r = .v (.int .i64 (ofI (ltE x y m)))) := by
  refine HasC.of [] (fn := Tryz.f41) tyOk mixed (fun args w => Tryz.call41 args w) Tryz.func41 rfl (by kernel_rfl) (Nat.le_of_ble_eq_true rfl) (⟨_, rfl⟩) ?_
  refine vc_seqr rfl (iQ 3 (iE 17 [(2, Ba m), (3, .p 3 0), (4, .p 4 0), (6, Ia 0)] [(3, [.ifc 77 (.agg [Bv (decide ((x) < 0)), Hw ((x).natAbs), Lw ((x).natAbs), Iv 0])]), (4, [.ifc 77 (.agg [Bv (decide ((y) < 0)), Hw ((y).natAbs), Lw ((y).natAbs), Iv 0])])] ?_))
  refine vc_seqr rfl (iQ 2 (iC 48 [.agg [.ifc 77 (.agg [Bv (decide ((x) < 0)), Hw ((x).natAbs), Lw ((x).natAbs), Iv 0])], .agg [.ifc 77 (.agg [Bv (decide ((y) < 0)), Hw ((y).natAbs), Lw ((y).natAbs), Iv 0])]] (some 9) (c_less hx hy) ?_))
  rintro _ rfl
  refine iQ 2 (iC 42 [.agg [.ifc 77 (.agg [Bv (decide ((x) < 0)), Hw ((x).natAbs), Lw ((x).natAbs), Iv 0])], .agg [.ifc 77 (.agg [Bv (decide ((y) < 0)), Hw ((y).natAbs), Lw ((y).natAbs), Iv 0])]] (some 12) (c_same hx hy) ?_)
  rintro _ rfl
  refine iQ 1 (iC 43 [Bv m] (some 14) (c_eOf) ?_)
  rintro _ rfl
  refine iC 32 [Iv (ofI (decide (x = y))), Iv (ofI m)] (some 15) (c_eAnd) ?_
  rintro _ rfl
  refine iC 47 [Iv (ofI (decide (x < y))), Iv (andI (ofI (decide (x = y))) (ofI m))] (some 16) (c_eOr) ?_
  rintro _ rfl
  refine iQ 1 (iE 17 [(6, Ia (notI (andI (notI (ofI (decide (x < y)))) (notI (andI (ofI (decide (x = y))) (ofI m))))))] [] ?_)
  refine vc_ret (iR (Iv (notI (andI (notI (ofI (decide (x < y)))) (notI (andI (ofI (decide (x = y))) (ofI m)))))) ?_)
  rw [andI_of, orI_of]; rfl

theorem c_before {a0 a1 b0 b1 : Int} {p0 p1 q0 q1 pa pb : Bool} (ha0 : Ok a0) (ha1 : Ok a1) (hb0 : Ok b0) (hb1 : Ok b1) : HasC Tryz.prog 29 [.agg [.ifc 77 (.agg [.v (.bool (decide ((a0) < 0))), .v (.int .u64 (hiW ((a0).natAbs))), .v (.int .u64 (loW ((a0).natAbs))), .v (.int .i64 0)]), .ifc 77 (.agg [.v (.bool (decide ((a1) < 0))), .v (.int .u64 (hiW ((a1).natAbs))), .v (.int .u64 (loW ((a1).natAbs))), .v (.int .i64 0)]), .v (.bool p0), .v (.bool p1), .v (.bool pa)], .agg [.ifc 77 (.agg [.v (.bool (decide ((b0) < 0))), .v (.int .u64 (hiW ((b0).natAbs))), .v (.int .u64 (loW ((b0).natAbs))), .v (.int .i64 0)]), .ifc 77 (.agg [.v (.bool (decide ((b1) < 0))), .v (.int .u64 (hiW ((b1).natAbs))), .v (.int .u64 (loW ((b1).natAbs))), .v (.int .i64 0)]), .v (.bool q0), .v (.bool q1), .v (.bool pb)]] (fun r => r = .v (.int .i64 (ofI (ltE a1 b0 (!p1 || !q0))))) := by
  refine HasC.of [] (fn := Tryz.f29) tyOk mixed (fun args w => Tryz.call29 args w) Tryz.func29 rfl (by kernel_rfl) (Nat.le_of_ble_eq_true rfl) (⟨_, rfl⟩) ?_
  refine vc_seqr rfl (iQ 3 (iE 20 [(2, .p 2 0), (3, .p 3 0), (4, Ia 0)] [(2, [.ifc 77 (.agg [Bv (decide ((a0) < 0)), Hw ((a0).natAbs), Lw ((a0).natAbs), Iv 0]), .ifc 77 (.agg [Bv (decide ((a1) < 0)), Hw ((a1).natAbs), Lw ((a1).natAbs), Iv 0]), Bv p0, Bv p1, Bv pa]), (3, [.ifc 77 (.agg [Bv (decide ((b0) < 0)), Hw ((b0).natAbs), Lw ((b0).natAbs), Iv 0]), .ifc 77 (.agg [Bv (decide ((b1) < 0)), Hw ((b1).natAbs), Lw ((b1).natAbs), Iv 0]), Bv q0, Bv q1, Bv pb])] ?_))
  refine vc_seqr rfl (iQ 7 (iU .not (.bool p1) (some 12) ?_))
  intro c12 hc12
  refine iQ 1 ?_
  cases c12
  · replace hc12 := bf hc12
    refine iQ 3 (iU .not (.bool q0) (some 17) ?_)
    intro c17 hc17
    refine iQ 1 (iC 41 [.agg [.ifc 77 (.agg [Bv (decide ((a1) < 0)), Hw ((a1).natAbs), Lw ((a1).natAbs), Iv 0])], .agg [.ifc 77 (.agg [Bv (decide ((b0) < 0)), Hw ((b0).natAbs), Lw ((b0).natAbs), Iv 0])], Bv c17] (some 19) (c_either ha1 hb0) ?_)
    rintro _ rfl
    refine iQ 1 (iE 20 [(4, Ia (ofI (ltE a1 b0 c17)))] [] ?_)
    refine vc_ret (iR (Iv (ofI (ltE a1 b0 c17))) ?_)
    rw [show p1 = true by simpa using hc12, bnot_eq hc17]; rfl
  · replace hc12 := bt hc12
    refine iQ 5 (iC 41 [.agg [.ifc 77 (.agg [Bv (decide ((a1) < 0)), Hw ((a1).natAbs), Lw ((a1).natAbs), Iv 0])], .agg [.ifc 77 (.agg [Bv (decide ((b0) < 0)), Hw ((b0).natAbs), Lw ((b0).natAbs), Iv 0])], Bv true] (some 19) (c_either ha1 hb0) ?_)
    rintro _ rfl
    refine iQ 1 (iE 20 [(4, Ia (ofI (ltE a1 b0 true)))] [] ?_)
    refine vc_ret (iR (Iv (ofI (ltE a1 b0 true))) ?_)
    rw [hc12]; rfl
theorem c_from {a0 a1 b0 b1 : Int} {p0 p1 q0 q1 pa pb : Bool} (ha0 : Ok a0) (ha1 : Ok a1) (hb0 : Ok b0) (hb1 : Ok b1) : HasC Tryz.prog 34 [.agg [.ifc 77 (.agg [.v (.bool (decide ((a0) < 0))), .v (.int .u64 (hiW ((a0).natAbs))), .v (.int .u64 (loW ((a0).natAbs))), .v (.int .i64 0)]), .ifc 77 (.agg [.v (.bool (decide ((a1) < 0))), .v (.int .u64 (hiW ((a1).natAbs))), .v (.int .u64 (loW ((a1).natAbs))), .v (.int .i64 0)]), .v (.bool p0), .v (.bool p1), .v (.bool pa)], .agg [.ifc 77 (.agg [.v (.bool (decide ((b0) < 0))), .v (.int .u64 (hiW ((b0).natAbs))), .v (.int .u64 (loW ((b0).natAbs))), .v (.int .i64 0)]), .ifc 77 (.agg [.v (.bool (decide ((b1) < 0))), .v (.int .u64 (hiW ((b1).natAbs))), .v (.int .u64 (loW ((b1).natAbs))), .v (.int .i64 0)]), .v (.bool q0), .v (.bool q1), .v (.bool pb)]] (fun r => r = .v (.int .i64 (ofI (ltE a0 b0 (p0 || !q0))))) := by
  refine HasC.of [] (fn := Tryz.f34) tyOk mixed (fun args w => Tryz.call34 args w) Tryz.func34 rfl (by kernel_rfl) (Nat.le_of_ble_eq_true rfl) (⟨_, rfl⟩) ?_
  refine vc_seqr rfl (iQ 3 (iE 19 [(2, .p 2 0), (3, .p 3 0), (4, Ia 0)] [(2, [.ifc 77 (.agg [Bv (decide ((a0) < 0)), Hw ((a0).natAbs), Lw ((a0).natAbs), Iv 0]), .ifc 77 (.agg [Bv (decide ((a1) < 0)), Hw ((a1).natAbs), Lw ((a1).natAbs), Iv 0]), Bv p0, Bv p1, Bv pa]), (3, [.ifc 77 (.agg [Bv (decide ((b0) < 0)), Hw ((b0).natAbs), Lw ((b0).natAbs), Iv 0]), .ifc 77 (.agg [Bv (decide ((b1) < 0)), Hw ((b1).natAbs), Lw ((b1).natAbs), Iv 0]), Bv q0, Bv q1, Bv pb])] ?_))
  refine vc_seqr rfl (iQ 8 ?_)
  cases p0
  · skip
    refine iQ 3 (iU .not (.bool q0) (some 16) ?_)
    intro c16 hc16
    refine iQ 1 (iC 41 [.agg [.ifc 77 (.agg [Bv (decide ((a0) < 0)), Hw ((a0).natAbs), Lw ((a0).natAbs), Iv 0])], .agg [.ifc 77 (.agg [Bv (decide ((b0) < 0)), Hw ((b0).natAbs), Lw ((b0).natAbs), Iv 0])], Bv c16] (some 18) (c_either ha0 hb0) ?_)
    rintro _ rfl
    refine iQ 1 (iE 19 [(4, Ia (ofI (ltE a0 b0 c16)))] [] ?_)
    refine vc_ret (iR (Iv (ofI (ltE a0 b0 c16))) ?_)
    rw [bnot_eq hc16]; rfl
  · skip
    refine iQ 5 (iC 41 [.agg [.ifc 77 (.agg [Bv (decide ((a0) < 0)), Hw ((a0).natAbs), Lw ((a0).natAbs), Iv 0])], .agg [.ifc 77 (.agg [Bv (decide ((b0) < 0)), Hw ((b0).natAbs), Lw ((b0).natAbs), Iv 0])], Bv true] (some 18) (c_either ha0 hb0) ?_)
    rintro _ rfl
    refine iQ 1 (iE 19 [(4, Ia (ofI (ltE a0 b0 true)))] [] ?_)
    refine vc_ret (iR (Iv (ofI (ltE a0 b0 true))) ?_)
    rfl
theorem c_to {a0 a1 b0 b1 : Int} {p0 p1 q0 q1 pa pb : Bool} (ha0 : Ok a0) (ha1 : Ok a1) (hb0 : Ok b0) (hb1 : Ok b1) : HasC Tryz.prog 35 [.agg [.ifc 77 (.agg [.v (.bool (decide ((a0) < 0))), .v (.int .u64 (hiW ((a0).natAbs))), .v (.int .u64 (loW ((a0).natAbs))), .v (.int .i64 0)]), .ifc 77 (.agg [.v (.bool (decide ((a1) < 0))), .v (.int .u64 (hiW ((a1).natAbs))), .v (.int .u64 (loW ((a1).natAbs))), .v (.int .i64 0)]), .v (.bool p0), .v (.bool p1), .v (.bool pa)], .agg [.ifc 77 (.agg [.v (.bool (decide ((b0) < 0))), .v (.int .u64 (hiW ((b0).natAbs))), .v (.int .u64 (loW ((b0).natAbs))), .v (.int .i64 0)]), .ifc 77 (.agg [.v (.bool (decide ((b1) < 0))), .v (.int .u64 (hiW ((b1).natAbs))), .v (.int .u64 (loW ((b1).natAbs))), .v (.int .i64 0)]), .v (.bool q0), .v (.bool q1), .v (.bool pb)]] (fun r => r = .v (.int .i64 (ofI (ltE b1 a1 (p1 || !q1))))) := by
  refine HasC.of [] (fn := Tryz.f35) tyOk mixed (fun args w => Tryz.call35 args w) Tryz.func35 rfl (by kernel_rfl) (Nat.le_of_ble_eq_true rfl) (⟨_, rfl⟩) ?_
  refine vc_seqr rfl (iQ 3 (iE 19 [(2, .p 2 0), (3, .p 3 0), (4, Ia 0)] [(2, [.ifc 77 (.agg [Bv (decide ((a0) < 0)), Hw ((a0).natAbs), Lw ((a0).natAbs), Iv 0]), .ifc 77 (.agg [Bv (decide ((a1) < 0)), Hw ((a1).natAbs), Lw ((a1).natAbs), Iv 0]), Bv p0, Bv p1, Bv pa]), (3, [.ifc 77 (.agg [Bv (decide ((b0) < 0)), Hw ((b0).natAbs), Lw ((b0).natAbs), Iv 0]), .ifc 77 (.agg [Bv (decide ((b1) < 0)), Hw ((b1).natAbs), Lw ((b1).natAbs), Iv 0]), Bv q0, Bv q1, Bv pb])] ?_))
  refine vc_seqr rfl (iQ 8 ?_)
  cases p1
  · skip
    refine iQ 3 (iU .not (.bool q1) (some 16) ?_)
    intro c16 hc16
    refine iQ 1 (iC 41 [.agg [.ifc 77 (.agg [Bv (decide ((b1) < 0)), Hw ((b1).natAbs), Lw ((b1).natAbs), Iv 0])], .agg [.ifc 77 (.agg [Bv (decide ((a1) < 0)), Hw ((a1).natAbs), Lw ((a1).natAbs), Iv 0])], Bv c16] (some 18) (c_either hb1 ha1) ?_)
    rintro _ rfl
    refine iQ 1 (iE 19 [(4, Ia (ofI (ltE b1 a1 c16)))] [] ?_)
    refine vc_ret (iR (Iv (ofI (ltE b1 a1 c16))) ?_)
    rw [bnot_eq hc16]; rfl
  · skip
    refine iQ 5 (iC 41 [.agg [.ifc 77 (.agg [Bv (decide ((b1) < 0)), Hw ((b1).natAbs), Lw ((b1).natAbs), Iv 0])], .agg [.ifc 77 (.agg [Bv (decide ((a1) < 0)), Hw ((a1).natAbs), Lw ((a1).natAbs), Iv 0])], Bv true] (some 18) (c_either hb1 ha1) ?_)
    rintro _ rfl
    refine iQ 1 (iE 19 [(4, Ia (ofI (ltE b1 a1 true)))] [] ?_)
    refine vc_ret (iR (Iv (ofI (ltE b1 a1 true))) ?_)
    rfl
theorem c_meets {a0 a1 b0 b1 : Int} {p0 p1 q0 q1 pa pb : Bool} (ha0 : Ok a0) (ha1 : Ok a1) (hb0 : Ok b0) (hb1 : Ok b1) : HasC Tryz.prog 30 [.agg [.ifc 77 (.agg [.v (.bool (decide ((a0) < 0))), .v (.int .u64 (hiW ((a0).natAbs))), .v (.int .u64 (loW ((a0).natAbs))), .v (.int .i64 0)]), .ifc 77 (.agg [.v (.bool (decide ((a1) < 0))), .v (.int .u64 (hiW ((a1).natAbs))), .v (.int .u64 (loW ((a1).natAbs))), .v (.int .i64 0)]), .v (.bool p0), .v (.bool p1), .v (.bool pa)], .agg [.ifc 77 (.agg [.v (.bool (decide ((b0) < 0))), .v (.int .u64 (hiW ((b0).natAbs))), .v (.int .u64 (loW ((b0).natAbs))), .v (.int .i64 0)]), .ifc 77 (.agg [.v (.bool (decide ((b1) < 0))), .v (.int .u64 (hiW ((b1).natAbs))), .v (.int .u64 (loW ((b1).natAbs))), .v (.int .i64 0)]), .v (.bool q0), .v (.bool q1), .v (.bool pb)]] (fun r => r = .v (.int .i64 (ofI (decide (a1 = b0) && (p1 && q0))))) := by
  refine HasC.of [] (fn := Tryz.f30) tyOk mixed (fun args w => Tryz.call30 args w) Tryz.func30 rfl (by kernel_rfl) (Nat.le_of_ble_eq_true rfl) (⟨_, rfl⟩) ?_
  refine vc_seqr rfl (iQ 3 (iE 20 [(2, .p 2 0), (3, .p 3 0), (4, Ia 0)] [(2, [.ifc 77 (.agg [Bv (decide ((a0) < 0)), Hw ((a0).natAbs), Lw ((a0).natAbs), Iv 0]), .ifc 77 (.agg [Bv (decide ((a1) < 0)), Hw ((a1).natAbs), Lw ((a1).natAbs), Iv 0]), Bv p0, Bv p1, Bv pa]), (3, [.ifc 77 (.agg [Bv (decide ((b0) < 0)), Hw ((b0).natAbs), Lw ((b0).natAbs), Iv 0]), .ifc 77 (.agg [Bv (decide ((b1) < 0)), Hw ((b1).natAbs), Lw ((b1).natAbs), Iv 0]), Bv q0, Bv q1, Bv pb])] ?_))
  refine vc_seqr rfl (iQ 4 (iC 42 [.agg [.ifc 77 (.agg [Bv (decide ((a1) < 0)), Hw ((a1).natAbs), Lw ((a1).natAbs), Iv 0])], .agg [.ifc 77 (.agg [Bv (decide ((b0) < 0)), Hw ((b0).natAbs), Lw ((b0).natAbs), Iv 0])]] (some 9) (c_same ha1 hb0) ?_))
  rintro _ rfl
  refine iQ 4 ?_
  cases p1
  · skip
    refine iQ 4 (iC 43 [Bv false] (some 18) (c_eOf) ?_)
    rintro _ rfl
    refine iC 32 [Iv (ofI (decide (a1 = b0))), Iv (ofI false)] (some 19) (c_eAnd) ?_
    rintro _ rfl
    refine iQ 1 (iE 20 [(4, Ia (andI (ofI (decide (a1 = b0))) (ofI false)))] [] ?_)
    refine vc_ret (iR (Iv (andI (ofI (decide (a1 = b0))) (ofI false))) ?_)
    rw [andI_of]; rfl
  · skip
    refine iQ 4 (iC 43 [Bv q0] (some 18) (c_eOf) ?_)
    rintro _ rfl
    refine iC 32 [Iv (ofI (decide (a1 = b0))), Iv (ofI q0)] (some 19) (c_eAnd) ?_
    rintro _ rfl
    refine iQ 1 (iE 20 [(4, Ia (andI (ofI (decide (a1 = b0))) (ofI q0)))] [] ?_)
    refine vc_ret (iR (Iv (andI (ofI (decide (a1 = b0))) (ofI q0))) ?_)
    rw [andI_of]; rfl
theorem c_starts {a0 a1 b0 b1 : Int} {p0 p1 q0 q1 pa pb : Bool} (ha0 : Ok a0) (ha1 : Ok a1) (hb0 : Ok b0) (hb1 : Ok b1) : HasC Tryz.prog 37 [.agg [.ifc 77 (.agg [.v (.bool (decide ((a0) < 0))), .v (.int .u64 (hiW ((a0).natAbs))), .v (.int .u64 (loW ((a0).natAbs))), .v (.int .i64 0)]), .ifc 77 (.agg [.v (.bool (decide ((a1) < 0))), .v (.int .u64 (hiW ((a1).natAbs))), .v (.int .u64 (loW ((a1).natAbs))), .v (.int .i64 0)]), .v (.bool p0), .v (.bool p1), .v (.bool pa)], .agg [.ifc 77 (.agg [.v (.bool (decide ((b0) < 0))), .v (.int .u64 (hiW ((b0).natAbs))), .v (.int .u64 (loW ((b0).natAbs))), .v (.int .i64 0)]), .ifc 77 (.agg [.v (.bool (decide ((b1) < 0))), .v (.int .u64 (hiW ((b1).natAbs))), .v (.int .u64 (loW ((b1).natAbs))), .v (.int .i64 0)]), .v (.bool q0), .v (.bool q1), .v (.bool pb)]] (fun r => r = .v (.int .i64 (ofI (decide (a0 = b0) && (p0 == q0))))) := by
  refine HasC.of [] (fn := Tryz.f37) tyOk mixed (fun args w => Tryz.call37 args w) Tryz.func37 rfl (by kernel_rfl) (Nat.le_of_ble_eq_true rfl) (⟨_, rfl⟩) ?_
  refine vc_seqr rfl (iQ 3 (iE 19 [(2, .p 2 0), (3, .p 3 0), (4, Ia 0)] [(2, [.ifc 77 (.agg [Bv (decide ((a0) < 0)), Hw ((a0).natAbs), Lw ((a0).natAbs), Iv 0]), .ifc 77 (.agg [Bv (decide ((a1) < 0)), Hw ((a1).natAbs), Lw ((a1).natAbs), Iv 0]), Bv p0, Bv p1, Bv pa]), (3, [.ifc 77 (.agg [Bv (decide ((b0) < 0)), Hw ((b0).natAbs), Lw ((b0).natAbs), Iv 0]), .ifc 77 (.agg [Bv (decide ((b1) < 0)), Hw ((b1).natAbs), Lw ((b1).natAbs), Iv 0]), Bv q0, Bv q1, Bv pb])] ?_))
  refine vc_seqr rfl (iQ 4 (iC 42 [.agg [.ifc 77 (.agg [Bv (decide ((a0) < 0)), Hw ((a0).natAbs), Lw ((a0).natAbs), Iv 0])], .agg [.ifc 77 (.agg [Bv (decide ((b0) < 0)), Hw ((b0).natAbs), Lw ((b0).natAbs), Iv 0])]] (some 9) (c_same ha0 hb0) ?_))
  rintro _ rfl
  refine iQ 6 (iB .eql 4 (.bool p0) (.bool q0) (some 16) ?_)
  intro c16 hc16
  refine iC 43 [Bv c16] (some 17) (c_eOf) ?_
  rintro _ rfl
  refine iC 32 [Iv (ofI (decide (a0 = b0))), Iv (ofI c16)] (some 18) (c_eAnd) ?_
  rintro _ rfl
  refine iQ 1 (iE 19 [(4, Ia (andI (ofI (decide (a0 = b0))) (ofI c16)))] [] ?_)
  refine vc_ret (iR (Iv (andI (ofI (decide (a0 = b0))) (ofI c16))) ?_)
  rw [andI_of, b_eq hc16]
theorem c_ends {a0 a1 b0 b1 : Int} {p0 p1 q0 q1 pa pb : Bool} (ha0 : Ok a0) (ha1 : Ok a1) (hb0 : Ok b0) (hb1 : Ok b1) : HasC Tryz.prog 36 [.agg [.ifc 77 (.agg [.v (.bool (decide ((a0) < 0))), .v (.int .u64 (hiW ((a0).natAbs))), .v (.int .u64 (loW ((a0).natAbs))), .v (.int .i64 0)]), .ifc 77 (.agg [.v (.bool (decide ((a1) < 0))), .v (.int .u64 (hiW ((a1).natAbs))), .v (.int .u64 (loW ((a1).natAbs))), .v (.int .i64 0)]), .v (.bool p0), .v (.bool p1), .v (.bool pa)], .agg [.ifc 77 (.agg [.v (.bool (decide ((b0) < 0))), .v (.int .u64 (hiW ((b0).natAbs))), .v (.int .u64 (loW ((b0).natAbs))), .v (.int .i64 0)]), .ifc 77 (.agg [.v (.bool (decide ((b1) < 0))), .v (.int .u64 (hiW ((b1).natAbs))), .v (.int .u64 (loW ((b1).natAbs))), .v (.int .i64 0)]), .v (.bool q0), .v (.bool q1), .v (.bool pb)]] (fun r => r = .v (.int .i64 (ofI (decide (a1 = b1) && (p1 == q1))))) := by
  refine HasC.of [] (fn := Tryz.f36) tyOk mixed (fun args w => Tryz.call36 args w) Tryz.func36 rfl (by kernel_rfl) (Nat.le_of_ble_eq_true rfl) (⟨_, rfl⟩) ?_
  refine vc_seqr rfl (iQ 3 (iE 19 [(2, .p 2 0), (3, .p 3 0), (4, Ia 0)] [(2, [.ifc 77 (.agg [Bv (decide ((a0) < 0)), Hw ((a0).natAbs), Lw ((a0).natAbs), Iv 0]), .ifc 77 (.agg [Bv (decide ((a1) < 0)), Hw ((a1).natAbs), Lw ((a1).natAbs), Iv 0]), Bv p0, Bv p1, Bv pa]), (3, [.ifc 77 (.agg [Bv (decide ((b0) < 0)), Hw ((b0).natAbs), Lw ((b0).natAbs), Iv 0]), .ifc 77 (.agg [Bv (decide ((b1) < 0)), Hw ((b1).natAbs), Lw ((b1).natAbs), Iv 0]), Bv q0, Bv q1, Bv pb])] ?_))
  refine vc_seqr rfl (iQ 4 (iC 42 [.agg [.ifc 77 (.agg [Bv (decide ((a1) < 0)), Hw ((a1).natAbs), Lw ((a1).natAbs), Iv 0])], .agg [.ifc 77 (.agg [Bv (decide ((b1) < 0)), Hw ((b1).natAbs), Lw ((b1).natAbs), Iv 0])]] (some 9) (c_same ha1 hb1) ?_))
  rintro _ rfl
  refine iQ 6 (iB .eql 4 (.bool p1) (.bool q1) (some 16) ?_)
  intro c16 hc16
  refine iC 43 [Bv c16] (some 17) (c_eOf) ?_
  rintro _ rfl
  refine iC 32 [Iv (ofI (decide (a1 = b1))), Iv (ofI c16)] (some 18) (c_eAnd) ?_
  rintro _ rfl
  refine iQ 1 (iE 19 [(4, Ia (andI (ofI (decide (a1 = b1))) (ofI c16)))] [] ?_)
  refine vc_ret (iR (Iv (andI (ofI (decide (a1 = b1))) (ofI c16))) ?_)
  rw [andI_of, b_eq hc16]
theorem c_overlaps {a0 a1 b0 b1 : Int} {p0 p1 q0 q1 pa pb : Bool} (ha0 : Ok a0) (ha1 : Ok a1) (hb0 : Ok b0) (hb1 : Ok b1) : HasC Tryz.prog 31 [.agg [.ifc 77 (.agg [.v (.bool (decide ((a0) < 0))), .v (.int .u64 (hiW ((a0).natAbs))), .v (.int .u64 (loW ((a0).natAbs))), .v (.int .i64 0)]), .ifc 77 (.agg [.v (.bool (decide ((a1) < 0))), .v (.int .u64 (hiW ((a1).natAbs))), .v (.int .u64 (loW ((a1).natAbs))), .v (.int .i64 0)]), .v (.bool p0), .v (.bool p1), .v (.bool pa)], .agg [.ifc 77 (.agg [.v (.bool (decide ((b0) < 0))), .v (.int .u64 (hiW ((b0).natAbs))), .v (.int .u64 (loW ((b0).natAbs))), .v (.int .i64 0)]), .ifc 77 (.agg [.v (.bool (decide ((b1) < 0))), .v (.int .u64 (hiW ((b1).natAbs))), .v (.int .u64 (loW ((b1).natAbs))), .v (.int .i64 0)]), .v (.bool q0), .v (.bool q1), .v (.bool pb)]] (fun r => r = .v (.int .i64 (ofI (ltE b0 a1 (q0 && p1) && ltE a0 b1 (p0 && q1))))) := by
  refine HasC.of [] (fn := Tryz.f31) tyOk mixed (fun args w => Tryz.call31 args w) Tryz.func31 rfl (by kernel_rfl) (Nat.le_of_ble_eq_true rfl) (⟨_, rfl⟩) ?_
  refine vc_seqr rfl (iQ 3 (iE 32 [(2, .p 2 0), (3, .p 3 0), (4, Ia 0)] [(2, [.ifc 77 (.agg [Bv (decide ((a0) < 0)), Hw ((a0).natAbs), Lw ((a0).natAbs), Iv 0]), .ifc 77 (.agg [Bv (decide ((a1) < 0)), Hw ((a1).natAbs), Lw ((a1).natAbs), Iv 0]), Bv p0, Bv p1, Bv pa]), (3, [.ifc 77 (.agg [Bv (decide ((b0) < 0)), Hw ((b0).natAbs), Lw ((b0).natAbs), Iv 0]), .ifc 77 (.agg [Bv (decide ((b1) < 0)), Hw ((b1).natAbs), Lw ((b1).natAbs), Iv 0]), Bv q0, Bv q1, Bv pb])] ?_))
  refine vc_seqr rfl (iQ 8 ?_)
  cases q0
  · skip
    refine iQ 4 (iC 41 [.agg [.ifc 77 (.agg [Bv (decide ((b0) < 0)), Hw ((b0).natAbs), Lw ((b0).natAbs), Iv 0])], .agg [.ifc 77 (.agg [Bv (decide ((a1) < 0)), Hw ((a1).natAbs), Lw ((a1).natAbs), Iv 0])], Bv false] (some 17) (c_either hb0 ha1) ?_)
    rintro _ rfl
    refine iQ 8 ?_
    cases p0
    · skip
      refine iQ 4 (iC 41 [.agg [.ifc 77 (.agg [Bv (decide ((a0) < 0)), Hw ((a0).natAbs), Lw ((a0).natAbs), Iv 0])], .agg [.ifc 77 (.agg [Bv (decide ((b1) < 0)), Hw ((b1).natAbs), Lw ((b1).natAbs), Iv 0])], Bv false] (some 30) (c_either ha0 hb1) ?_)
      rintro _ rfl
      refine iC 32 [Iv (ofI (ltE b0 a1 false)), Iv (ofI (ltE a0 b1 false))] (some 31) (c_eAnd) ?_
      rintro _ rfl
      refine iQ 1 (iE 32 [(4, Ia (andI (ofI (ltE b0 a1 false)) (ofI (ltE a0 b1 false))))] [] ?_)
      refine vc_ret (iR (Iv (andI (ofI (ltE b0 a1 false)) (ofI (ltE a0 b1 false)))) ?_)
      rw [andI_of]; rfl
    · skip
      refine iQ 4 (iC 41 [.agg [.ifc 77 (.agg [Bv (decide ((a0) < 0)), Hw ((a0).natAbs), Lw ((a0).natAbs), Iv 0])], .agg [.ifc 77 (.agg [Bv (decide ((b1) < 0)), Hw ((b1).natAbs), Lw ((b1).natAbs), Iv 0])], Bv q1] (some 30) (c_either ha0 hb1) ?_)
      rintro _ rfl
      refine iC 32 [Iv (ofI (ltE b0 a1 false)), Iv (ofI (ltE a0 b1 q1))] (some 31) (c_eAnd) ?_
      rintro _ rfl
      refine iQ 1 (iE 32 [(4, Ia (andI (ofI (ltE b0 a1 false)) (ofI (ltE a0 b1 q1))))] [] ?_)
      refine vc_ret (iR (Iv (andI (ofI (ltE b0 a1 false)) (ofI (ltE a0 b1 q1)))) ?_)
      rw [andI_of]; rfl
  · skip
    refine iQ 4 (iC 41 [.agg [.ifc 77 (.agg [Bv (decide ((b0) < 0)), Hw ((b0).natAbs), Lw ((b0).natAbs), Iv 0])], .agg [.ifc 77 (.agg [Bv (decide ((a1) < 0)), Hw ((a1).natAbs), Lw ((a1).natAbs), Iv 0])], Bv p1] (some 17) (c_either hb0 ha1) ?_)
    rintro _ rfl
    refine iQ 8 ?_
    cases p0
    · skip
      refine iQ 4 (iC 41 [.agg [.ifc 77 (.agg [Bv (decide ((a0) < 0)), Hw ((a0).natAbs), Lw ((a0).natAbs), Iv 0])], .agg [.ifc 77 (.agg [Bv (decide ((b1) < 0)), Hw ((b1).natAbs), Lw ((b1).natAbs), Iv 0])], Bv false] (some 30) (c_either ha0 hb1) ?_)
      rintro _ rfl
      refine iC 32 [Iv (ofI (ltE b0 a1 p1)), Iv (ofI (ltE a0 b1 false))] (some 31) (c_eAnd) ?_
      rintro _ rfl
      refine iQ 1 (iE 32 [(4, Ia (andI (ofI (ltE b0 a1 p1)) (ofI (ltE a0 b1 false))))] [] ?_)
      refine vc_ret (iR (Iv (andI (ofI (ltE b0 a1 p1)) (ofI (ltE a0 b1 false)))) ?_)
      rw [andI_of]; rfl
    · skip
      refine iQ 4 (iC 41 [.agg [.ifc 77 (.agg [Bv (decide ((a0) < 0)), Hw ((a0).natAbs), Lw ((a0).natAbs), Iv 0])], .agg [.ifc 77 (.agg [Bv (decide ((b1) < 0)), Hw ((b1).natAbs), Lw ((b1).natAbs), Iv 0])], Bv q1] (some 30) (c_either ha0 hb1) ?_)
      rintro _ rfl
      refine iC 32 [Iv (ofI (ltE b0 a1 p1)), Iv (ofI (ltE a0 b1 q1))] (some 31) (c_eAnd) ?_
      rintro _ rfl
      refine iQ 1 (iE 32 [(4, Ia (andI (ofI (ltE b0 a1 p1)) (ofI (ltE a0 b1 q1))))] [] ?_)
      refine vc_ret (iR (Iv (andI (ofI (ltE b0 a1 p1)) (ofI (ltE a0 b1 q1)))) ?_)
      rw [andI_of]; rfl
abbrev w_before : ByteArray := ⟨#[98, 101, 102, 111, 114, 101]⟩
abbrev w_after : ByteArray := ⟨#[97, 102, 116, 101, 114]⟩
abbrev w_meets : ByteArray := ⟨#[109, 101, 101, 116, 115]⟩
abbrev w_met_by : ByteArray := ⟨#[109, 101, 116, 32, 98, 121]⟩
abbrev w_overlaps : ByteArray := ⟨#[111, 118, 101, 114, 108, 97, 112, 115]⟩
abbrev w_overlaps_before : ByteArray := ⟨#[111, 118, 101, 114, 108, 97, 112, 115, 32, 98, 101, 102, 111, 114, 101]⟩
abbrev w_overlaps_after : ByteArray := ⟨#[111, 118, 101, 114, 108, 97, 112, 115, 32, 97, 102, 116, 101, 114]⟩
abbrev w_finishes : ByteArray := ⟨#[102, 105, 110, 105, 115, 104, 101, 115]⟩
abbrev w_finished_by : ByteArray := ⟨#[102, 105, 110, 105, 115, 104, 101, 100, 32, 98, 121]⟩
abbrev w_includes : ByteArray := ⟨#[105, 110, 99, 108, 117, 100, 101, 115]⟩
abbrev w_during : ByteArray := ⟨#[100, 117, 114, 105, 110, 103]⟩
abbrev w_starts : ByteArray := ⟨#[115, 116, 97, 114, 116, 115]⟩
abbrev w_started_by : ByteArray := ⟨#[115, 116, 97, 114, 116, 101, 100, 32, 98, 121]⟩
abbrev w_coincides : ByteArray := ⟨#[99, 111, 105, 110, 99, 105, 100, 101, 115]⟩
def words : List ByteArray := [w_before, w_after, w_meets, w_met_by, w_overlaps, w_overlaps_before, w_overlaps_after, w_finishes, w_finished_by, w_includes, w_during, w_starts, w_started_by, w_coincides]
/-- What a word says of two ranges, from their ends. -/
def hB (w : ByteArray) (a0 a1 : Int) (p0 p1 : Bool) (b0 b1 : Int) (q0 q1 : Bool) : Bool :=
  if w = w_before then ltE a1 b0 (!p1 || !q0) else
  if w = w_after then ltE b1 a0 (!q1 || !p0) else
  if w = w_meets then decide (a1 = b0) && (p1 && q0) else
  if w = w_met_by then decide (b1 = a0) && (q1 && p0) else
  if w = w_overlaps then ltE b0 a1 (q0 && p1) && ltE a0 b1 (p0 && q1) else
  if w = w_overlaps_before then (ltE b0 a1 (q0 && p1) && ltE a0 b1 (p0 && q1)) && (!(ltE b0 a0 (q0 || !p0)) && !(ltE b1 a1 (p1 || !q1))) else
  if w = w_overlaps_after then (ltE a0 b1 (p0 && q1) && ltE b0 a1 (q0 && p1)) && (!(ltE a0 b0 (p0 || !q0)) && !(ltE a1 b1 (q1 || !p1))) else
  if w = w_finishes then (decide (a1 = b1) && (p1 == q1)) && ltE b0 a0 (q0 || !p0) else
  if w = w_finished_by then (decide (b1 = a1) && (q1 == p1)) && ltE a0 b0 (p0 || !q0) else
  if w = w_includes then ltE a0 b0 (p0 || !q0) && ltE b1 a1 (p1 || !q1) else
  if w = w_during then ltE b0 a0 (q0 || !p0) && ltE a1 b1 (q1 || !p1) else
  if w = w_starts then (decide (a0 = b0) && (p0 == q0)) && ltE a1 b1 (q1 || !p1) else
  if w = w_started_by then (decide (b0 = a0) && (q0 == p0)) && ltE b1 a1 (p1 || !q1) else
  if w = w_coincides then (decide (a0 = b0) && (p0 == q0)) && (decide (a1 = b1) && (p1 == q1)) else
  false
theorem hB_before {a0 a1 b0 b1 : Int} {p0 p1 q0 q1 : Bool} : hB w_before a0 a1 p0 p1 b0 b1 q0 q1 = (ltE a1 b0 (!p1 || !q0)) := by
  simp [hB]
theorem hB_after {a0 a1 b0 b1 : Int} {p0 p1 q0 q1 : Bool} : hB w_after a0 a1 p0 p1 b0 b1 q0 q1 = (ltE b1 a0 (!q1 || !p0)) := by
  simp [hB]
theorem hB_meets {a0 a1 b0 b1 : Int} {p0 p1 q0 q1 : Bool} : hB w_meets a0 a1 p0 p1 b0 b1 q0 q1 = (decide (a1 = b0) && (p1 && q0)) := by
  simp [hB]
theorem hB_met_by {a0 a1 b0 b1 : Int} {p0 p1 q0 q1 : Bool} : hB w_met_by a0 a1 p0 p1 b0 b1 q0 q1 = (decide (b1 = a0) && (q1 && p0)) := by
  simp [hB]
theorem hB_overlaps {a0 a1 b0 b1 : Int} {p0 p1 q0 q1 : Bool} : hB w_overlaps a0 a1 p0 p1 b0 b1 q0 q1 = (ltE b0 a1 (q0 && p1) && ltE a0 b1 (p0 && q1)) := by
  simp [hB]
theorem hB_overlaps_before {a0 a1 b0 b1 : Int} {p0 p1 q0 q1 : Bool} : hB w_overlaps_before a0 a1 p0 p1 b0 b1 q0 q1 = ((ltE b0 a1 (q0 && p1) && ltE a0 b1 (p0 && q1)) && (!(ltE b0 a0 (q0 || !p0)) && !(ltE b1 a1 (p1 || !q1)))) := by
  simp [hB]
theorem hB_overlaps_after {a0 a1 b0 b1 : Int} {p0 p1 q0 q1 : Bool} : hB w_overlaps_after a0 a1 p0 p1 b0 b1 q0 q1 = ((ltE a0 b1 (p0 && q1) && ltE b0 a1 (q0 && p1)) && (!(ltE a0 b0 (p0 || !q0)) && !(ltE a1 b1 (q1 || !p1)))) := by
  simp [hB]
theorem hB_finishes {a0 a1 b0 b1 : Int} {p0 p1 q0 q1 : Bool} : hB w_finishes a0 a1 p0 p1 b0 b1 q0 q1 = ((decide (a1 = b1) && (p1 == q1)) && ltE b0 a0 (q0 || !p0)) := by
  simp [hB]
theorem hB_finished_by {a0 a1 b0 b1 : Int} {p0 p1 q0 q1 : Bool} : hB w_finished_by a0 a1 p0 p1 b0 b1 q0 q1 = ((decide (b1 = a1) && (q1 == p1)) && ltE a0 b0 (p0 || !q0)) := by
  simp [hB]
theorem hB_includes {a0 a1 b0 b1 : Int} {p0 p1 q0 q1 : Bool} : hB w_includes a0 a1 p0 p1 b0 b1 q0 q1 = (ltE a0 b0 (p0 || !q0) && ltE b1 a1 (p1 || !q1)) := by
  simp [hB]
theorem hB_during {a0 a1 b0 b1 : Int} {p0 p1 q0 q1 : Bool} : hB w_during a0 a1 p0 p1 b0 b1 q0 q1 = (ltE b0 a0 (q0 || !p0) && ltE a1 b1 (q1 || !p1)) := by
  simp [hB]
theorem hB_starts {a0 a1 b0 b1 : Int} {p0 p1 q0 q1 : Bool} : hB w_starts a0 a1 p0 p1 b0 b1 q0 q1 = ((decide (a0 = b0) && (p0 == q0)) && ltE a1 b1 (q1 || !p1)) := by
  simp [hB]
theorem hB_started_by {a0 a1 b0 b1 : Int} {p0 p1 q0 q1 : Bool} : hB w_started_by a0 a1 p0 p1 b0 b1 q0 q1 = ((decide (b0 = a0) && (q0 == p0)) && ltE b1 a1 (p1 || !q1)) := by
  simp [hB]
theorem hB_coincides {a0 a1 b0 b1 : Int} {p0 p1 q0 q1 : Bool} : hB w_coincides a0 a1 p0 p1 b0 b1 q0 q1 = ((decide (a0 = b0) && (p0 == q0)) && (decide (a1 = b1) && (p1 == q1))) := by
  simp [hB]
end Go.Proofs.YtimpaejpokkdnaaGreatDoor
