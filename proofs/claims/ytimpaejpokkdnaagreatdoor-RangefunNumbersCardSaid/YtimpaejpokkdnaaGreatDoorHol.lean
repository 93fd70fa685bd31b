/-
  rangefun.Holds of points and ranges of whole numbers; casuistlaw23's Make, yes, span, awake.
-/
import Derived.Test.YtimpaejpokkdnaaGreatDoorHld
namespace Go.Proofs.YtimpaejpokkdnaaGreatDoor
open Go.RowKit
set_option linter.unusedVariables false
set_option linter.unusedSimpArgs false
set_option maxRecDepth 100000
def tV (r : Bool) : Nat := if r = true then 77 else 76
def cV (x y : Int) (p q r : Bool) : DV := if r = true then dDec (decide (x < 0)) x.natAbs 0 else .agg [dNm x, dNm y, .v (.bool p), .v (.bool q)]
/-- A truth, as a value. -/
def cT (t : Int) : DV := if t = 2 then .ifc 63 (.v (.bool true)) else if t = 1 then .ifc 63 (.v (.bool false)) else .v .nilIface
def hiV (x y : Int) (r : Bool) : Int := if r = true then x else y

theorem c_eValue {t : Int} : HasC Tryz.prog 18 [.v (.int .i64 t)] (fun r => r = .agg [cT t]) := by
  refine HasC.of [] (fn := Tryz.f18) tyOk mixed (fun args w => Tryz.call18 args w) Tryz.func18 rfl (by kernel_rfl) (Nat.le_of_ble_eq_true rfl) (⟨_, rfl⟩) ?_
  refine vc_seqr rfl (iQ 1 (iE 11 [(0, Ia t), (2, .p 2 0)] [(2, [.v (.nilIface)])] ?_))
  refine vc_seq (vc_seqr rfl (iQ 1 (iE 11 [(2, .p 2 0), (3, Ia t)] [(2, [.v (.nilIface)])] ?_)))
  refine vc_block (vc_seqr rfl (iB .eql 51 (.int .i64 t) (.int .i64 2) (some 5) ?_))
  intro c5 hc5
  refine iQ 1 (iE 11 [(2, .p 2 0), (3, Ia t), (4, Ba c5)] [(2, [.v (.nilIface)])] ?_)
  cases c5
  · replace hc5 := bf hc5
    refine iF (vc_seqr rfl (iB .eql 51 (.int .i64 t) (.int .i64 1) (some 8) ?_))
    intro c8 hc8
    refine iQ 1 (iE 11 [(2, .p 2 0), (3, Ia t), (4, Ba false), (7, Ba c8)] [(2, [.v (.nilIface)])] ?_)
    cases c8
    · replace hc8 := bf hc8
      refine iF (vc_skip (block_n (seq_n (vc_seqr rfl (iQ 2 (iE 11 [(2, .p 2 0), (3, Ia t), (4, Ba false), (7, Ba false)] [(2, [.v (.nilIface)])] ?_))))))
      refine vc_ret (iR (.agg [.v (.nilIface)]) ?_)
      rw [cT, if_neg hc5, if_neg hc8]
    · replace hc8 := bt hc8
      refine iT (vc_seqr rfl (iC 28 [Bv false] (some 9) (c_vBool) ?_))
      rintro _ rfl
      refine iQ 1 (iE 11 [(2, .p 2 0), (3, Ia t), (4, Ba false), (7, Ba true)] [(2, [.ifc 63 (Bv false)])] ?_)
      refine vc_ret (block_r (seq_r (iR (.agg [.ifc 63 (Bv false)]) ?_)))
      rw [cT, if_neg hc5, if_pos hc8]
  · replace hc5 := bt hc5
    refine iT (vc_seqr rfl (iC 28 [Bv true] (some 6) (c_vBool) ?_))
    rintro _ rfl
    refine iQ 1 (iE 11 [(2, .p 2 0), (3, Ia t), (4, Ba true)] [(2, [.ifc 63 (Bv true)])] ?_)
    refine vc_ret (block_r (seq_r (iR (.agg [.ifc 63 (Bv true)]) ?_)))
    rw [cT, if_pos hc5]
theorem cT_of (b : Bool) : cT (ofI b) = .ifc 63 (.v (.bool b)) := by cases b <;> rfl
theorem c_eValueB {b : Bool} : HasC Tryz.prog 18 [.v (.int .i64 (ofI b))] (fun r => r = .agg [.ifc 63 (.v (.bool b))]) := by
  rw [← cT_of]
  exact c_eValue
theorem c_of {x y : Int} {p q r : Bool} : HasC Tryz.prog 16 [.agg [.ifc (tV r) (cV x y p q r)]] (fun z => z = .tup [dSp x (hiV x y r) (r || p) (r || q) r, .v (.bool true)]) := by
  cases r
  · exact c_ofR
  · exact c_ofN
def nullB (w : ByteArray) (pa pb : Bool) : Bool := (pa && decide (ptI w = 0 ∨ ptI w = 2)) || (pb && decide (ptI w = 0 ∨ ptI w = 1)) || (decide (w = w_coincides) && (pa != pb)) || (decide (ptI w ≠ 3) && pa && pb)
/-- What Holds says of two points or ranges: 2 true, 1 false, 0 null. -/
def HI (w : ByteArray) (a0 a1 : Int) (p0 p1 pa : Bool) (b0 b1 : Int) (q0 q1 pb : Bool) : Int :=
  if nullB w pa pb = true then 0 else ofI (hB w a0 (hiV a0 a1 pa) (pa || p0) (pa || p1) b0 (hiV b0 b1 pb) (pb || q0) (pb || q1))
theorem pt_cases (w : ByteArray) : ptI w = 0 ∨ ptI w = 1 ∨ ptI w = 2 ∨ ptI w = 3 := by
  unfold ptI
  split
  · simp
  · split
    · simp
    · split <;> simp
theorem pt_one {n z : Int} (hn : n = 0 ∨ n = 1 ∨ n = 2 ∨ n = 3) (h : BitIs .and .i64 n 1 z) : (z = 0 ↔ n = 0 ∨ n = 2) := by
  rcases hn with rfl | rfl | rfl | rfl <;> rw [h] <;> decide
theorem pt_two {n z : Int} (hn : n = 0 ∨ n = 1 ∨ n = 2 ∨ n = 3) (h : BitIs .and .i64 n 2 z) : (z = 0 ↔ n = 0 ∨ n = 1) := by
  rcases hn with rfl | rfl | rfl | rfl <;> rw [h] <;> decide
theorem hiV_ok {x y : Int} {r : Bool} (hx : Ok x) (hy : Ok y) : Ok (hiV x y r) := by unfold hiV; split <;> assumption
theorem cT_null {w : ByteArray} {a0 a1 b0 b1 : Int} {p0 p1 q0 q1 pa pb : Bool} (h : nullB w pa pb = true) : DV.agg [DV.v Value.nilIface] = DV.agg [cT (HI w a0 a1 p0 p1 pa b0 b1 q0 q1 pb)] := by
  rw [HI, if_pos h]; rfl
theorem cT_some {w : ByteArray} {a0 a1 b0 b1 : Int} {p0 p1 q0 q1 pa pb : Bool} {t : Bool} (h : nullB w pa pb = false) (e : t = (hB w a0 (hiV a0 a1 pa) (pa || p0) (pa || p1) b0 (hiV b0 b1 pb) (pb || q0) (pb || q1))) : DV.agg [.ifc 63 (.v (.bool t))] = DV.agg [cT (HI w a0 a1 p0 p1 pa b0 b1 q0 q1 pb)] := by
  rw [HI, if_neg (by rw [h]; decide), e, cT_of]

set_option maxHeartbeats 1600000 in
theorem c_Holds {w : ByteArray} (hw : w ∈ words) {a0 a1 b0 b1 : Int} {p0 p1 q0 q1 pa pb : Bool} (ha0 : Ok a0) (ha1 : Ok a1) (hb0 : Ok b0) (hb1 : Ok b1) : HasC Tryz.prog 9 [.v (.string w), .agg [.ifc (tV pa) (cV a0 a1 p0 p1 pa)], .agg [.ifc (tV pb) (cV b0 b1 q0 q1 pb)]] (fun r => r = .agg [cT (HI w a0 a1 p0 p1 pa b0 b1 q0 q1 pb)]) := by
  refine HasC.of [] (fn := Tryz.f9) tyOk mixed (fun args w => Tryz.call9 args w) Tryz.func9 rfl (by kernel_rfl) (Nat.le_of_ble_eq_true rfl) (⟨_, rfl⟩) ?_
  refine vc_seqr rfl (iQ 3 (iE 77 [(0, .d (Sv w)), (4, .p 4 0), (5, .p 5 0), (6, .p 6 0)] [(4, [.ifc (tV pa) (cV a0 a1 p0 p1 pa)]), (5, [.ifc (tV pb) (cV b0 b1 q0 q1 pb)]), (6, [.v (.nilIface)])] ?_))
  refine vc_seqr rfl (iQ 1 (iC 16 [.agg [.ifc (tV pa) (cV a0 a1 p0 p1 pa)]] (some 14) (c_of) ?_))
  rintro _ rfl
  refine iQ 6 (iE 77 [(0, .d (Sv w)), (5, .p 5 0), (6, .p 6 0), (7, .p 7 0), (8, Ba true)] [(5, [.ifc (tV pb) (cV b0 b1 q0 q1 pb)]), (6, [.v (.nilIface)]), (7, [.ifc 77 (.agg [Bv (decide ((a0) < 0)), Hw ((a0).natAbs), Lw ((a0).natAbs), Iv 0]), .ifc 77 (.agg [Bv (decide ((hiV a0 a1 pa) < 0)), Hw ((hiV a0 a1 pa).natAbs), Lw ((hiV a0 a1 pa).natAbs), Iv 0]), Bv (pa || p0), Bv (pa || p1), Bv pa])] ?_)
  refine vc_seqr rfl (iQ 1 (iC 16 [.agg [.ifc (tV pb) (cV b0 b1 q0 q1 pb)]] (some 19) (c_of) ?_))
  rintro _ rfl
  refine iQ 6 (iE 77 [(0, .d (Sv w)), (6, .p 6 0), (7, .p 7 0), (8, Ba true), (9, .p 9 0), (10, Ba true)] [(6, [.v (.nilIface)]), (7, [.ifc 77 (.agg [Bv (decide ((a0) < 0)), Hw ((a0).natAbs), Lw ((a0).natAbs), Iv 0]), .ifc 77 (.agg [Bv (decide ((hiV a0 a1 pa) < 0)), Hw ((hiV a0 a1 pa).natAbs), Lw ((hiV a0 a1 pa).natAbs), Iv 0]), Bv (pa || p0), Bv (pa || p1), Bv pa]), (9, [.ifc 77 (.agg [Bv (decide ((b0) < 0)), Hw ((b0).natAbs), Lw ((b0).natAbs), Iv 0]), .ifc 77 (.agg [Bv (decide ((hiV b0 b1 pb) < 0)), Hw ((hiV b0 b1 pb).natAbs), Lw ((hiV b0 b1 pb).natAbs), Iv 0]), Bv (pb || q0), Bv (pb || q1), Bv pb])] ?_)
  refine vc_seqr rfl (iQ 1 (iC 17 [Sv w] (some 23) (c_points hw) ?_))
  rintro _ rfl
  refine iQ 1 (iE 77 [(0, .d (Sv w)), (6, .p 6 0), (7, .p 7 0), (8, Ba true), (9, .p 9 0), (10, Ba true), (11, Ia (ptI w))] [(6, [.v (.nilIface)]), (7, [.ifc 77 (.agg [Bv (decide ((a0) < 0)), Hw ((a0).natAbs), Lw ((a0).natAbs), Iv 0]), .ifc 77 (.agg [Bv (decide ((hiV a0 a1 pa) < 0)), Hw ((hiV a0 a1 pa).natAbs), Lw ((hiV a0 a1 pa).natAbs), Iv 0]), Bv (pa || p0), Bv (pa || p1), Bv pa]), (9, [.ifc 77 (.agg [Bv (decide ((b0) < 0)), Hw ((b0).natAbs), Lw ((b0).natAbs), Iv 0]), .ifc 77 (.agg [Bv (decide ((hiV b0 b1 pb) < 0)), Hw ((hiV b0 b1 pb).natAbs), Lw ((hiV b0 b1 pb).natAbs), Iv 0]), Bv (pb || q0), Bv (pb || q1), Bv pb])] ?_)
  refine vc_seq (vc_seqr rfl (iQ 1 (iU .not (.bool true) (some 25) ?_)))
  refine all_false ((by simp)) ?_
  refine iQ 2 (iU .not (.bool true) (some 28) ?_)
  refine all_false ((by simp)) ?_
  refine iQ 5 ?_
  cases pa
  · skip
    refine iQ 9 ?_
    cases pb
    · skip
      refine iQ 7 (iB .eql 9 (.string w) (.string (⟨#[99, 111, 105, 110, 99, 105, 100, 101, 115]⟩)) (some 50) ?_)
      intro c50 hc50
      refine iQ 1 ?_
      cases c50
      · replace hc50 := bf hc50
        refine iQ 9 (iB .neq 3 (.int .i64 (ptI w)) (.int .i64 3) (some 61) ?_)
        intro c61 hc61
        refine iQ 1 ?_
        cases c61
        · replace hc61 := bf hc61
          refine iQ 8 (iE 77 [(0, .d (Sv w)), (6, .p 6 0), (7, .p 7 0), (9, .p 9 0), (70, Ba false)] [(6, [.v (.nilIface)]), (7, [.ifc 77 (.agg [Bv (decide ((a0) < 0)), Hw ((a0).natAbs), Lw ((a0).natAbs), Iv 0]), .ifc 77 (.agg [Bv (decide ((hiV a0 a1 false) < 0)), Hw ((hiV a0 a1 false).natAbs), Lw ((hiV a0 a1 false).natAbs), Iv 0]), Bv (false || p0), Bv (false || p1), Bv false]), (9, [.ifc 77 (.agg [Bv (decide ((b0) < 0)), Hw ((b0).natAbs), Lw ((b0).natAbs), Iv 0]), .ifc 77 (.agg [Bv (decide ((hiV b0 b1 false) < 0)), Hw ((hiV b0 b1 false).natAbs), Lw ((hiV b0 b1 false).natAbs), Iv 0]), Bv (false || q0), Bv (false || q1), Bv false])] ?_)
          refine iF (vc_skip (seq_n (vc_seqr rfl (iQ 3 (iC 19 [Sv w, .agg [.ifc 77 (.agg [Bv (decide ((a0) < 0)), Hw ((a0).natAbs), Lw ((a0).natAbs), Iv 0]), .ifc 77 (.agg [Bv (decide ((hiV a0 a1 false) < 0)), Hw ((hiV a0 a1 false).natAbs), Lw ((hiV a0 a1 false).natAbs), Iv 0]), Bv (false || p0), Bv (false || p1), Bv false], .agg [.ifc 77 (.agg [Bv (decide ((b0) < 0)), Hw ((b0).natAbs), Lw ((b0).natAbs), Iv 0]), .ifc 77 (.agg [Bv (decide ((hiV b0 b1 false) < 0)), Hw ((hiV b0 b1 false).natAbs), Lw ((hiV b0 b1 false).natAbs), Iv 0]), Bv (false || q0), Bv (false || q1), Bv false]] (some 75) (c_holds hw ha0 (hiV_ok ha0 ha1) hb0 (hiV_ok hb0 hb1)) ?_)))))
          rintro _ rfl
          refine iC 18 [Iv (ofI (hB w a0 (hiV a0 a1 false) (false || p0) (false || p1) b0 (hiV b0 b1 false) (false || q0) (false || q1)))] (some 76) (c_eValueB) ?_
          rintro _ rfl
          refine iQ 1 (iE 77 [(0, .d (Sv w)), (6, .p 6 0), (7, .p 7 0), (9, .p 9 0), (70, Ba false)] [(6, [.ifc 63 (Bv (hB w a0 (hiV a0 a1 false) (false || p0) (false || p1) b0 (hiV b0 b1 false) (false || q0) (false || q1)))]), (7, [.ifc 77 (.agg [Bv (decide ((a0) < 0)), Hw ((a0).natAbs), Lw ((a0).natAbs), Iv 0]), .ifc 77 (.agg [Bv (decide ((hiV a0 a1 false) < 0)), Hw ((hiV a0 a1 false).natAbs), Lw ((hiV a0 a1 false).natAbs), Iv 0]), Bv (false || p0), Bv (false || p1), Bv false]), (9, [.ifc 77 (.agg [Bv (decide ((b0) < 0)), Hw ((b0).natAbs), Lw ((b0).natAbs), Iv 0]), .ifc 77 (.agg [Bv (decide ((hiV b0 b1 false) < 0)), Hw ((hiV b0 b1 false).natAbs), Lw ((hiV b0 b1 false).natAbs), Iv 0]), Bv (false || q0), Bv (false || q1), Bv false])] ?_)
          refine vc_ret (iR (.agg [.ifc 63 (Bv (hB w a0 (hiV a0 a1 false) (false || p0) (false || p1) b0 (hiV b0 b1 false) (false || q0) (false || q1)))]) ?_)
          exact cT_some (by simp [nullB, Bool.false_and, hc50, hc61]) rfl
        · replace hc61 := bt hc61
          refine iQ 8 (iE 77 [(0, .d (Sv w)), (6, .p 6 0), (7, .p 7 0), (9, .p 9 0), (70, Ba false)] [(6, [.v (.nilIface)]), (7, [.ifc 77 (.agg [Bv (decide ((a0) < 0)), Hw ((a0).natAbs), Lw ((a0).natAbs), Iv 0]), .ifc 77 (.agg [Bv (decide ((hiV a0 a1 false) < 0)), Hw ((hiV a0 a1 false).natAbs), Lw ((hiV a0 a1 false).natAbs), Iv 0]), Bv (false || p0), Bv (false || p1), Bv false]), (9, [.ifc 77 (.agg [Bv (decide ((b0) < 0)), Hw ((b0).natAbs), Lw ((b0).natAbs), Iv 0]), .ifc 77 (.agg [Bv (decide ((hiV b0 b1 false) < 0)), Hw ((hiV b0 b1 false).natAbs), Lw ((hiV b0 b1 false).natAbs), Iv 0]), Bv (false || q0), Bv (false || q1), Bv false])] ?_)
          refine iF (vc_skip (seq_n (vc_seqr rfl (iQ 3 (iC 19 [Sv w, .agg [.ifc 77 (.agg [Bv (decide ((a0) < 0)), Hw ((a0).natAbs), Lw ((a0).natAbs), Iv 0]), .ifc 77 (.agg [Bv (decide ((hiV a0 a1 false) < 0)), Hw ((hiV a0 a1 false).natAbs), Lw ((hiV a0 a1 false).natAbs), Iv 0]), Bv (false || p0), Bv (false || p1), Bv false], .agg [.ifc 77 (.agg [Bv (decide ((b0) < 0)), Hw ((b0).natAbs), Lw ((b0).natAbs), Iv 0]), .ifc 77 (.agg [Bv (decide ((hiV b0 b1 false) < 0)), Hw ((hiV b0 b1 false).natAbs), Lw ((hiV b0 b1 false).natAbs), Iv 0]), Bv (false || q0), Bv (false || q1), Bv false]] (some 75) (c_holds hw ha0 (hiV_ok ha0 ha1) hb0 (hiV_ok hb0 hb1)) ?_)))))
          rintro _ rfl
          refine iC 18 [Iv (ofI (hB w a0 (hiV a0 a1 false) (false || p0) (false || p1) b0 (hiV b0 b1 false) (false || q0) (false || q1)))] (some 76) (c_eValueB) ?_
          rintro _ rfl
          refine iQ 1 (iE 77 [(0, .d (Sv w)), (6, .p 6 0), (7, .p 7 0), (9, .p 9 0), (70, Ba false)] [(6, [.ifc 63 (Bv (hB w a0 (hiV a0 a1 false) (false || p0) (false || p1) b0 (hiV b0 b1 false) (false || q0) (false || q1)))]), (7, [.ifc 77 (.agg [Bv (decide ((a0) < 0)), Hw ((a0).natAbs), Lw ((a0).natAbs), Iv 0]), .ifc 77 (.agg [Bv (decide ((hiV a0 a1 false) < 0)), Hw ((hiV a0 a1 false).natAbs), Lw ((hiV a0 a1 false).natAbs), Iv 0]), Bv (false || p0), Bv (false || p1), Bv false]), (9, [.ifc 77 (.agg [Bv (decide ((b0) < 0)), Hw ((b0).natAbs), Lw ((b0).natAbs), Iv 0]), .ifc 77 (.agg [Bv (decide ((hiV b0 b1 false) < 0)), Hw ((hiV b0 b1 false).natAbs), Lw ((hiV b0 b1 false).natAbs), Iv 0]), Bv (false || q0), Bv (false || q1), Bv false])] ?_)
          refine vc_ret (iR (.agg [.ifc 63 (Bv (hB w a0 (hiV a0 a1 false) (false || p0) (false || p1) b0 (hiV b0 b1 false) (false || q0) (false || q1)))]) ?_)
          exact cT_some (by simp [nullB, Bool.false_and, hc50, hc61]) rfl
      · replace hc50 := bt hc50
        refine iQ 4 (iB .neq 4 (.bool false) (.bool false) (some 56) ?_)
        refine all_false ((by simp)) ?_
        refine iQ 4 (iB .neq 3 (.int .i64 (ptI w)) (.int .i64 3) (some 61) ?_)
        intro c61 hc61
        refine iQ 1 ?_
        cases c61
        · replace hc61 := bf hc61
          refine iQ 8 (iE 77 [(0, .d (Sv w)), (6, .p 6 0), (7, .p 7 0), (9, .p 9 0), (70, Ba false)] [(6, [.v (.nilIface)]), (7, [.ifc 77 (.agg [Bv (decide ((a0) < 0)), Hw ((a0).natAbs), Lw ((a0).natAbs), Iv 0]), .ifc 77 (.agg [Bv (decide ((hiV a0 a1 false) < 0)), Hw ((hiV a0 a1 false).natAbs), Lw ((hiV a0 a1 false).natAbs), Iv 0]), Bv (false || p0), Bv (false || p1), Bv false]), (9, [.ifc 77 (.agg [Bv (decide ((b0) < 0)), Hw ((b0).natAbs), Lw ((b0).natAbs), Iv 0]), .ifc 77 (.agg [Bv (decide ((hiV b0 b1 false) < 0)), Hw ((hiV b0 b1 false).natAbs), Lw ((hiV b0 b1 false).natAbs), Iv 0]), Bv (false || q0), Bv (false || q1), Bv false])] ?_)
          refine iF (vc_skip (seq_n (vc_seqr rfl (iQ 3 (iC 19 [Sv w, .agg [.ifc 77 (.agg [Bv (decide ((a0) < 0)), Hw ((a0).natAbs), Lw ((a0).natAbs), Iv 0]), .ifc 77 (.agg [Bv (decide ((hiV a0 a1 false) < 0)), Hw ((hiV a0 a1 false).natAbs), Lw ((hiV a0 a1 false).natAbs), Iv 0]), Bv (false || p0), Bv (false || p1), Bv false], .agg [.ifc 77 (.agg [Bv (decide ((b0) < 0)), Hw ((b0).natAbs), Lw ((b0).natAbs), Iv 0]), .ifc 77 (.agg [Bv (decide ((hiV b0 b1 false) < 0)), Hw ((hiV b0 b1 false).natAbs), Lw ((hiV b0 b1 false).natAbs), Iv 0]), Bv (false || q0), Bv (false || q1), Bv false]] (some 75) (c_holds hw ha0 (hiV_ok ha0 ha1) hb0 (hiV_ok hb0 hb1)) ?_)))))
          rintro _ rfl
          refine iC 18 [Iv (ofI (hB w a0 (hiV a0 a1 false) (false || p0) (false || p1) b0 (hiV b0 b1 false) (false || q0) (false || q1)))] (some 76) (c_eValueB) ?_
          rintro _ rfl
          refine iQ 1 (iE 77 [(0, .d (Sv w)), (6, .p 6 0), (7, .p 7 0), (9, .p 9 0), (70, Ba false)] [(6, [.ifc 63 (Bv (hB w a0 (hiV a0 a1 false) (false || p0) (false || p1) b0 (hiV b0 b1 false) (false || q0) (false || q1)))]), (7, [.ifc 77 (.agg [Bv (decide ((a0) < 0)), Hw ((a0).natAbs), Lw ((a0).natAbs), Iv 0]), .ifc 77 (.agg [Bv (decide ((hiV a0 a1 false) < 0)), Hw ((hiV a0 a1 false).natAbs), Lw ((hiV a0 a1 false).natAbs), Iv 0]), Bv (false || p0), Bv (false || p1), Bv false]), (9, [.ifc 77 (.agg [Bv (decide ((b0) < 0)), Hw ((b0).natAbs), Lw ((b0).natAbs), Iv 0]), .ifc 77 (.agg [Bv (decide ((hiV b0 b1 false) < 0)), Hw ((hiV b0 b1 false).natAbs), Lw ((hiV b0 b1 false).natAbs), Iv 0]), Bv (false || q0), Bv (false || q1), Bv false])] ?_)
          refine vc_ret (iR (.agg [.ifc 63 (Bv (hB w a0 (hiV a0 a1 false) (false || p0) (false || p1) b0 (hiV b0 b1 false) (false || q0) (false || q1)))]) ?_)
          exact cT_some (by first | (rw [hc50]; decide) | (rw [hc50] at hc61; exact absurd (by decide) hc61)) rfl
        · replace hc61 := bt hc61
          refine iQ 8 (iE 77 [(0, .d (Sv w)), (6, .p 6 0), (7, .p 7 0), (9, .p 9 0), (70, Ba false)] [(6, [.v (.nilIface)]), (7, [.ifc 77 (.agg [Bv (decide ((a0) < 0)), Hw ((a0).natAbs), Lw ((a0).natAbs), Iv 0]), .ifc 77 (.agg [Bv (decide ((hiV a0 a1 false) < 0)), Hw ((hiV a0 a1 false).natAbs), Lw ((hiV a0 a1 false).natAbs), Iv 0]), Bv (false || p0), Bv (false || p1), Bv false]), (9, [.ifc 77 (.agg [Bv (decide ((b0) < 0)), Hw ((b0).natAbs), Lw ((b0).natAbs), Iv 0]), .ifc 77 (.agg [Bv (decide ((hiV b0 b1 false) < 0)), Hw ((hiV b0 b1 false).natAbs), Lw ((hiV b0 b1 false).natAbs), Iv 0]), Bv (false || q0), Bv (false || q1), Bv false])] ?_)
          refine iF (vc_skip (seq_n (vc_seqr rfl (iQ 3 (iC 19 [Sv w, .agg [.ifc 77 (.agg [Bv (decide ((a0) < 0)), Hw ((a0).natAbs), Lw ((a0).natAbs), Iv 0]), .ifc 77 (.agg [Bv (decide ((hiV a0 a1 false) < 0)), Hw ((hiV a0 a1 false).natAbs), Lw ((hiV a0 a1 false).natAbs), Iv 0]), Bv (false || p0), Bv (false || p1), Bv false], .agg [.ifc 77 (.agg [Bv (decide ((b0) < 0)), Hw ((b0).natAbs), Lw ((b0).natAbs), Iv 0]), .ifc 77 (.agg [Bv (decide ((hiV b0 b1 false) < 0)), Hw ((hiV b0 b1 false).natAbs), Lw ((hiV b0 b1 false).natAbs), Iv 0]), Bv (false || q0), Bv (false || q1), Bv false]] (some 75) (c_holds hw ha0 (hiV_ok ha0 ha1) hb0 (hiV_ok hb0 hb1)) ?_)))))
          rintro _ rfl
          refine iC 18 [Iv (ofI (hB w a0 (hiV a0 a1 false) (false || p0) (false || p1) b0 (hiV b0 b1 false) (false || q0) (false || q1)))] (some 76) (c_eValueB) ?_
          rintro _ rfl
          refine iQ 1 (iE 77 [(0, .d (Sv w)), (6, .p 6 0), (7, .p 7 0), (9, .p 9 0), (70, Ba false)] [(6, [.ifc 63 (Bv (hB w a0 (hiV a0 a1 false) (false || p0) (false || p1) b0 (hiV b0 b1 false) (false || q0) (false || q1)))]), (7, [.ifc 77 (.agg [Bv (decide ((a0) < 0)), Hw ((a0).natAbs), Lw ((a0).natAbs), Iv 0]), .ifc 77 (.agg [Bv (decide ((hiV a0 a1 false) < 0)), Hw ((hiV a0 a1 false).natAbs), Lw ((hiV a0 a1 false).natAbs), Iv 0]), Bv (false || p0), Bv (false || p1), Bv false]), (9, [.ifc 77 (.agg [Bv (decide ((b0) < 0)), Hw ((b0).natAbs), Lw ((b0).natAbs), Iv 0]), .ifc 77 (.agg [Bv (decide ((hiV b0 b1 false) < 0)), Hw ((hiV b0 b1 false).natAbs), Lw ((hiV b0 b1 false).natAbs), Iv 0]), Bv (false || q0), Bv (false || q1), Bv false])] ?_)
          refine vc_ret (iR (.agg [.ifc 63 (Bv (hB w a0 (hiV a0 a1 false) (false || p0) (false || p1) b0 (hiV b0 b1 false) (false || q0) (false || q1)))]) ?_)
          exact cT_some (by first | (rw [hc50]; decide) | (rw [hc50] at hc61; exact absurd (by decide) hc61)) rfl
    · skip
      refine iQ 1 (iB .and 3 (.int .i64 (ptI w)) (.int .i64 2) (some 44) ?_)
      intro z44 hz44
      have e44 := pt_two (pt_cases w) hz44
      refine iB .eql 3 (.int .i64 z44) (.int .i64 0) (some 45) ?_
      intro c45 hc45
      refine iQ 3 ?_
      cases c45
      · replace hc45 := bf hc45
        refine iQ 1 (iB .eql 9 (.string w) (.string (⟨#[99, 111, 105, 110, 99, 105, 100, 101, 115]⟩)) (some 50) ?_)
        rw [e44] at hc45
        intro c50 hc50
        refine iQ 1 ?_
        cases c50
        · replace hc50 := bf hc50
          refine iQ 9 (iB .neq 3 (.int .i64 (ptI w)) (.int .i64 3) (some 61) ?_)
          intro c61 hc61
          refine iQ 1 ?_
          cases c61
          · replace hc61 := bf hc61
            refine iQ 8 (iE 77 [(0, .d (Sv w)), (6, .p 6 0), (7, .p 7 0), (9, .p 9 0), (70, Ba false)] [(6, [.v (.nilIface)]), (7, [.ifc 77 (.agg [Bv (decide ((a0) < 0)), Hw ((a0).natAbs), Lw ((a0).natAbs), Iv 0]), .ifc 77 (.agg [Bv (decide ((hiV a0 a1 false) < 0)), Hw ((hiV a0 a1 false).natAbs), Lw ((hiV a0 a1 false).natAbs), Iv 0]), Bv (false || p0), Bv (false || p1), Bv false]), (9, [.ifc 77 (.agg [Bv (decide ((b0) < 0)), Hw ((b0).natAbs), Lw ((b0).natAbs), Iv 0]), .ifc 77 (.agg [Bv (decide ((hiV b0 b1 true) < 0)), Hw ((hiV b0 b1 true).natAbs), Lw ((hiV b0 b1 true).natAbs), Iv 0]), Bv (true || q0), Bv (true || q1), Bv true])] ?_)
            refine iF (vc_skip (seq_n (vc_seqr rfl (iQ 3 (iC 19 [Sv w, .agg [.ifc 77 (.agg [Bv (decide ((a0) < 0)), Hw ((a0).natAbs), Lw ((a0).natAbs), Iv 0]), .ifc 77 (.agg [Bv (decide ((hiV a0 a1 false) < 0)), Hw ((hiV a0 a1 false).natAbs), Lw ((hiV a0 a1 false).natAbs), Iv 0]), Bv (false || p0), Bv (false || p1), Bv false], .agg [.ifc 77 (.agg [Bv (decide ((b0) < 0)), Hw ((b0).natAbs), Lw ((b0).natAbs), Iv 0]), .ifc 77 (.agg [Bv (decide ((hiV b0 b1 true) < 0)), Hw ((hiV b0 b1 true).natAbs), Lw ((hiV b0 b1 true).natAbs), Iv 0]), Bv (true || q0), Bv (true || q1), Bv true]] (some 75) (c_holds hw ha0 (hiV_ok ha0 ha1) hb0 (hiV_ok hb0 hb1)) ?_)))))
            rintro _ rfl
            refine iC 18 [Iv (ofI (hB w a0 (hiV a0 a1 false) (false || p0) (false || p1) b0 (hiV b0 b1 true) (true || q0) (true || q1)))] (some 76) (c_eValueB) ?_
            rintro _ rfl
            refine iQ 1 (iE 77 [(0, .d (Sv w)), (6, .p 6 0), (7, .p 7 0), (9, .p 9 0), (70, Ba false)] [(6, [.ifc 63 (Bv (hB w a0 (hiV a0 a1 false) (false || p0) (false || p1) b0 (hiV b0 b1 true) (true || q0) (true || q1)))]), (7, [.ifc 77 (.agg [Bv (decide ((a0) < 0)), Hw ((a0).natAbs), Lw ((a0).natAbs), Iv 0]), .ifc 77 (.agg [Bv (decide ((hiV a0 a1 false) < 0)), Hw ((hiV a0 a1 false).natAbs), Lw ((hiV a0 a1 false).natAbs), Iv 0]), Bv (false || p0), Bv (false || p1), Bv false]), (9, [.ifc 77 (.agg [Bv (decide ((b0) < 0)), Hw ((b0).natAbs), Lw ((b0).natAbs), Iv 0]), .ifc 77 (.agg [Bv (decide ((hiV b0 b1 true) < 0)), Hw ((hiV b0 b1 true).natAbs), Lw ((hiV b0 b1 true).natAbs), Iv 0]), Bv (true || q0), Bv (true || q1), Bv true])] ?_)
            refine vc_ret (iR (.agg [.ifc 63 (Bv (hB w a0 (hiV a0 a1 false) (false || p0) (false || p1) b0 (hiV b0 b1 true) (true || q0) (true || q1)))]) ?_)
            exact cT_some (by simp [nullB, Bool.false_and, hc45, hc50, hc61]) rfl
          · replace hc61 := bt hc61
            refine iQ 8 (iE 77 [(0, .d (Sv w)), (6, .p 6 0), (7, .p 7 0), (9, .p 9 0), (70, Ba false)] [(6, [.v (.nilIface)]), (7, [.ifc 77 (.agg [Bv (decide ((a0) < 0)), Hw ((a0).natAbs), Lw ((a0).natAbs), Iv 0]), .ifc 77 (.agg [Bv (decide ((hiV a0 a1 false) < 0)), Hw ((hiV a0 a1 false).natAbs), Lw ((hiV a0 a1 false).natAbs), Iv 0]), Bv (false || p0), Bv (false || p1), Bv false]), (9, [.ifc 77 (.agg [Bv (decide ((b0) < 0)), Hw ((b0).natAbs), Lw ((b0).natAbs), Iv 0]), .ifc 77 (.agg [Bv (decide ((hiV b0 b1 true) < 0)), Hw ((hiV b0 b1 true).natAbs), Lw ((hiV b0 b1 true).natAbs), Iv 0]), Bv (true || q0), Bv (true || q1), Bv true])] ?_)
            refine iF (vc_skip (seq_n (vc_seqr rfl (iQ 3 (iC 19 [Sv w, .agg [.ifc 77 (.agg [Bv (decide ((a0) < 0)), Hw ((a0).natAbs), Lw ((a0).natAbs), Iv 0]), .ifc 77 (.agg [Bv (decide ((hiV a0 a1 false) < 0)), Hw ((hiV a0 a1 false).natAbs), Lw ((hiV a0 a1 false).natAbs), Iv 0]), Bv (false || p0), Bv (false || p1), Bv false], .agg [.ifc 77 (.agg [Bv (decide ((b0) < 0)), Hw ((b0).natAbs), Lw ((b0).natAbs), Iv 0]), .ifc 77 (.agg [Bv (decide ((hiV b0 b1 true) < 0)), Hw ((hiV b0 b1 true).natAbs), Lw ((hiV b0 b1 true).natAbs), Iv 0]), Bv (true || q0), Bv (true || q1), Bv true]] (some 75) (c_holds hw ha0 (hiV_ok ha0 ha1) hb0 (hiV_ok hb0 hb1)) ?_)))))
            rintro _ rfl
            refine iC 18 [Iv (ofI (hB w a0 (hiV a0 a1 false) (false || p0) (false || p1) b0 (hiV b0 b1 true) (true || q0) (true || q1)))] (some 76) (c_eValueB) ?_
            rintro _ rfl
            refine iQ 1 (iE 77 [(0, .d (Sv w)), (6, .p 6 0), (7, .p 7 0), (9, .p 9 0), (70, Ba false)] [(6, [.ifc 63 (Bv (hB w a0 (hiV a0 a1 false) (false || p0) (false || p1) b0 (hiV b0 b1 true) (true || q0) (true || q1)))]), (7, [.ifc 77 (.agg [Bv (decide ((a0) < 0)), Hw ((a0).natAbs), Lw ((a0).natAbs), Iv 0]), .ifc 77 (.agg [Bv (decide ((hiV a0 a1 false) < 0)), Hw ((hiV a0 a1 false).natAbs), Lw ((hiV a0 a1 false).natAbs), Iv 0]), Bv (false || p0), Bv (false || p1), Bv false]), (9, [.ifc 77 (.agg [Bv (decide ((b0) < 0)), Hw ((b0).natAbs), Lw ((b0).natAbs), Iv 0]), .ifc 77 (.agg [Bv (decide ((hiV b0 b1 true) < 0)), Hw ((hiV b0 b1 true).natAbs), Lw ((hiV b0 b1 true).natAbs), Iv 0]), Bv (true || q0), Bv (true || q1), Bv true])] ?_)
            refine vc_ret (iR (.agg [.ifc 63 (Bv (hB w a0 (hiV a0 a1 false) (false || p0) (false || p1) b0 (hiV b0 b1 true) (true || q0) (true || q1)))]) ?_)
            exact cT_some (by simp [nullB, Bool.false_and, hc45, hc50, hc61]) rfl
        · replace hc50 := bt hc50
          refine iQ 4 (iB .neq 4 (.bool false) (.bool true) (some 56) ?_)
          refine all_true ((by simp)) ?_
          refine iQ 14 (iE 77 [(0, .d (Sv w)), (6, .p 6 0), (7, .p 7 0), (9, .p 9 0), (70, Ba true)] [(6, [.v (.nilIface)]), (7, [.ifc 77 (.agg [Bv (decide ((a0) < 0)), Hw ((a0).natAbs), Lw ((a0).natAbs), Iv 0]), .ifc 77 (.agg [Bv (decide ((hiV a0 a1 false) < 0)), Hw ((hiV a0 a1 false).natAbs), Lw ((hiV a0 a1 false).natAbs), Iv 0]), Bv (false || p0), Bv (false || p1), Bv false]), (9, [.ifc 77 (.agg [Bv (decide ((b0) < 0)), Hw ((b0).natAbs), Lw ((b0).natAbs), Iv 0]), .ifc 77 (.agg [Bv (decide ((hiV b0 b1 true) < 0)), Hw ((hiV b0 b1 true).natAbs), Lw ((hiV b0 b1 true).natAbs), Iv 0]), Bv (true || q0), Bv (true || q1), Bv true])] ?_)
          refine iT (vc_seqr rfl (iQ 2 (iE 77 [(0, .d (Sv w)), (6, .p 6 0), (7, .p 7 0), (9, .p 9 0), (70, Ba true)] [(6, [.v (.nilIface)]), (7, [.ifc 77 (.agg [Bv (decide ((a0) < 0)), Hw ((a0).natAbs), Lw ((a0).natAbs), Iv 0]), .ifc 77 (.agg [Bv (decide ((hiV a0 a1 false) < 0)), Hw ((hiV a0 a1 false).natAbs), Lw ((hiV a0 a1 false).natAbs), Iv 0]), Bv (false || p0), Bv (false || p1), Bv false]), (9, [.ifc 77 (.agg [Bv (decide ((b0) < 0)), Hw ((b0).natAbs), Lw ((b0).natAbs), Iv 0]), .ifc 77 (.agg [Bv (decide ((hiV b0 b1 true) < 0)), Hw ((hiV b0 b1 true).natAbs), Lw ((hiV b0 b1 true).natAbs), Iv 0]), Bv (true || q0), Bv (true || q1), Bv true])] ?_)))
          refine vc_ret (seq_r (iR (.agg [.v (.nilIface)]) ?_))
          exact cT_null (by simp [nullB, Bool.false_and, hc45, hc50])
      · replace hc45 := bt hc45
        refine iQ 22 (iE 77 [(0, .d (Sv w)), (6, .p 6 0), (7, .p 7 0), (9, .p 9 0), (70, Ba true)] [(6, [.v (.nilIface)]), (7, [.ifc 77 (.agg [Bv (decide ((a0) < 0)), Hw ((a0).natAbs), Lw ((a0).natAbs), Iv 0]), .ifc 77 (.agg [Bv (decide ((hiV a0 a1 false) < 0)), Hw ((hiV a0 a1 false).natAbs), Lw ((hiV a0 a1 false).natAbs), Iv 0]), Bv (false || p0), Bv (false || p1), Bv false]), (9, [.ifc 77 (.agg [Bv (decide ((b0) < 0)), Hw ((b0).natAbs), Lw ((b0).natAbs), Iv 0]), .ifc 77 (.agg [Bv (decide ((hiV b0 b1 true) < 0)), Hw ((hiV b0 b1 true).natAbs), Lw ((hiV b0 b1 true).natAbs), Iv 0]), Bv (true || q0), Bv (true || q1), Bv true])] ?_)
        rw [e44] at hc45
        refine iT (vc_seqr rfl (iQ 2 (iE 77 [(0, .d (Sv w)), (6, .p 6 0), (7, .p 7 0), (9, .p 9 0), (70, Ba true)] [(6, [.v (.nilIface)]), (7, [.ifc 77 (.agg [Bv (decide ((a0) < 0)), Hw ((a0).natAbs), Lw ((a0).natAbs), Iv 0]), .ifc 77 (.agg [Bv (decide ((hiV a0 a1 false) < 0)), Hw ((hiV a0 a1 false).natAbs), Lw ((hiV a0 a1 false).natAbs), Iv 0]), Bv (false || p0), Bv (false || p1), Bv false]), (9, [.ifc 77 (.agg [Bv (decide ((b0) < 0)), Hw ((b0).natAbs), Lw ((b0).natAbs), Iv 0]), .ifc 77 (.agg [Bv (decide ((hiV b0 b1 true) < 0)), Hw ((hiV b0 b1 true).natAbs), Lw ((hiV b0 b1 true).natAbs), Iv 0]), Bv (true || q0), Bv (true || q1), Bv true])] ?_)))
        refine vc_ret (seq_r (iR (.agg [.v (.nilIface)]) ?_))
        exact cT_null (by simp [nullB, Bool.false_and, hc45])
  · skip
    refine iQ 1 (iB .and 3 (.int .i64 (ptI w)) (.int .i64 1) (some 35) ?_)
    intro z35 hz35
    have e35 := pt_one (pt_cases w) hz35
    refine iB .eql 3 (.int .i64 z35) (.int .i64 0) (some 36) ?_
    intro c36 hc36
    refine iQ 3 ?_
    cases c36
    · replace hc36 := bf hc36
      refine iQ 3 ?_
      rw [e35] at hc36
      cases pb
      · skip
        refine iQ 7 (iB .eql 9 (.string w) (.string (⟨#[99, 111, 105, 110, 99, 105, 100, 101, 115]⟩)) (some 50) ?_)
        intro c50 hc50
        refine iQ 1 ?_
        cases c50
        · replace hc50 := bf hc50
          refine iQ 9 (iB .neq 3 (.int .i64 (ptI w)) (.int .i64 3) (some 61) ?_)
          intro c61 hc61
          refine iQ 1 ?_
          cases c61
          · replace hc61 := bf hc61
            refine iQ 8 (iE 77 [(0, .d (Sv w)), (6, .p 6 0), (7, .p 7 0), (9, .p 9 0), (70, Ba false)] [(6, [.v (.nilIface)]), (7, [.ifc 77 (.agg [Bv (decide ((a0) < 0)), Hw ((a0).natAbs), Lw ((a0).natAbs), Iv 0]), .ifc 77 (.agg [Bv (decide ((hiV a0 a1 true) < 0)), Hw ((hiV a0 a1 true).natAbs), Lw ((hiV a0 a1 true).natAbs), Iv 0]), Bv (true || p0), Bv (true || p1), Bv true]), (9, [.ifc 77 (.agg [Bv (decide ((b0) < 0)), Hw ((b0).natAbs), Lw ((b0).natAbs), Iv 0]), .ifc 77 (.agg [Bv (decide ((hiV b0 b1 false) < 0)), Hw ((hiV b0 b1 false).natAbs), Lw ((hiV b0 b1 false).natAbs), Iv 0]), Bv (false || q0), Bv (false || q1), Bv false])] ?_)
            refine iF (vc_skip (seq_n (vc_seqr rfl (iQ 3 (iC 19 [Sv w, .agg [.ifc 77 (.agg [Bv (decide ((a0) < 0)), Hw ((a0).natAbs), Lw ((a0).natAbs), Iv 0]), .ifc 77 (.agg [Bv (decide ((hiV a0 a1 true) < 0)), Hw ((hiV a0 a1 true).natAbs), Lw ((hiV a0 a1 true).natAbs), Iv 0]), Bv (true || p0), Bv (true || p1), Bv true], .agg [.ifc 77 (.agg [Bv (decide ((b0) < 0)), Hw ((b0).natAbs), Lw ((b0).natAbs), Iv 0]), .ifc 77 (.agg [Bv (decide ((hiV b0 b1 false) < 0)), Hw ((hiV b0 b1 false).natAbs), Lw ((hiV b0 b1 false).natAbs), Iv 0]), Bv (false || q0), Bv (false || q1), Bv false]] (some 75) (c_holds hw ha0 (hiV_ok ha0 ha1) hb0 (hiV_ok hb0 hb1)) ?_)))))
            rintro _ rfl
            refine iC 18 [Iv (ofI (hB w a0 (hiV a0 a1 true) (true || p0) (true || p1) b0 (hiV b0 b1 false) (false || q0) (false || q1)))] (some 76) (c_eValueB) ?_
            rintro _ rfl
            refine iQ 1 (iE 77 [(0, .d (Sv w)), (6, .p 6 0), (7, .p 7 0), (9, .p 9 0), (70, Ba false)] [(6, [.ifc 63 (Bv (hB w a0 (hiV a0 a1 true) (true || p0) (true || p1) b0 (hiV b0 b1 false) (false || q0) (false || q1)))]), (7, [.ifc 77 (.agg [Bv (decide ((a0) < 0)), Hw ((a0).natAbs), Lw ((a0).natAbs), Iv 0]), .ifc 77 (.agg [Bv (decide ((hiV a0 a1 true) < 0)), Hw ((hiV a0 a1 true).natAbs), Lw ((hiV a0 a1 true).natAbs), Iv 0]), Bv (true || p0), Bv (true || p1), Bv true]), (9, [.ifc 77 (.agg [Bv (decide ((b0) < 0)), Hw ((b0).natAbs), Lw ((b0).natAbs), Iv 0]), .ifc 77 (.agg [Bv (decide ((hiV b0 b1 false) < 0)), Hw ((hiV b0 b1 false).natAbs), Lw ((hiV b0 b1 false).natAbs), Iv 0]), Bv (false || q0), Bv (false || q1), Bv false])] ?_)
            refine vc_ret (iR (.agg [.ifc 63 (Bv (hB w a0 (hiV a0 a1 true) (true || p0) (true || p1) b0 (hiV b0 b1 false) (false || q0) (false || q1)))]) ?_)
            exact cT_some (by simp [nullB, hc36, hc50, hc61]) rfl
          · replace hc61 := bt hc61
            refine iQ 8 (iE 77 [(0, .d (Sv w)), (6, .p 6 0), (7, .p 7 0), (9, .p 9 0), (70, Ba false)] [(6, [.v (.nilIface)]), (7, [.ifc 77 (.agg [Bv (decide ((a0) < 0)), Hw ((a0).natAbs), Lw ((a0).natAbs), Iv 0]), .ifc 77 (.agg [Bv (decide ((hiV a0 a1 true) < 0)), Hw ((hiV a0 a1 true).natAbs), Lw ((hiV a0 a1 true).natAbs), Iv 0]), Bv (true || p0), Bv (true || p1), Bv true]), (9, [.ifc 77 (.agg [Bv (decide ((b0) < 0)), Hw ((b0).natAbs), Lw ((b0).natAbs), Iv 0]), .ifc 77 (.agg [Bv (decide ((hiV b0 b1 false) < 0)), Hw ((hiV b0 b1 false).natAbs), Lw ((hiV b0 b1 false).natAbs), Iv 0]), Bv (false || q0), Bv (false || q1), Bv false])] ?_)
            refine iF (vc_skip (seq_n (vc_seqr rfl (iQ 3 (iC 19 [Sv w, .agg [.ifc 77 (.agg [Bv (decide ((a0) < 0)), Hw ((a0).natAbs), Lw ((a0).natAbs), Iv 0]), .ifc 77 (.agg [Bv (decide ((hiV a0 a1 true) < 0)), Hw ((hiV a0 a1 true).natAbs), Lw ((hiV a0 a1 true).natAbs), Iv 0]), Bv (true || p0), Bv (true || p1), Bv true], .agg [.ifc 77 (.agg [Bv (decide ((b0) < 0)), Hw ((b0).natAbs), Lw ((b0).natAbs), Iv 0]), .ifc 77 (.agg [Bv (decide ((hiV b0 b1 false) < 0)), Hw ((hiV b0 b1 false).natAbs), Lw ((hiV b0 b1 false).natAbs), Iv 0]), Bv (false || q0), Bv (false || q1), Bv false]] (some 75) (c_holds hw ha0 (hiV_ok ha0 ha1) hb0 (hiV_ok hb0 hb1)) ?_)))))
            rintro _ rfl
            refine iC 18 [Iv (ofI (hB w a0 (hiV a0 a1 true) (true || p0) (true || p1) b0 (hiV b0 b1 false) (false || q0) (false || q1)))] (some 76) (c_eValueB) ?_
            rintro _ rfl
            refine iQ 1 (iE 77 [(0, .d (Sv w)), (6, .p 6 0), (7, .p 7 0), (9, .p 9 0), (70, Ba false)] [(6, [.ifc 63 (Bv (hB w a0 (hiV a0 a1 true) (true || p0) (true || p1) b0 (hiV b0 b1 false) (false || q0) (false || q1)))]), (7, [.ifc 77 (.agg [Bv (decide ((a0) < 0)), Hw ((a0).natAbs), Lw ((a0).natAbs), Iv 0]), .ifc 77 (.agg [Bv (decide ((hiV a0 a1 true) < 0)), Hw ((hiV a0 a1 true).natAbs), Lw ((hiV a0 a1 true).natAbs), Iv 0]), Bv (true || p0), Bv (true || p1), Bv true]), (9, [.ifc 77 (.agg [Bv (decide ((b0) < 0)), Hw ((b0).natAbs), Lw ((b0).natAbs), Iv 0]), .ifc 77 (.agg [Bv (decide ((hiV b0 b1 false) < 0)), Hw ((hiV b0 b1 false).natAbs), Lw ((hiV b0 b1 false).natAbs), Iv 0]), Bv (false || q0), Bv (false || q1), Bv false])] ?_)
            refine vc_ret (iR (.agg [.ifc 63 (Bv (hB w a0 (hiV a0 a1 true) (true || p0) (true || p1) b0 (hiV b0 b1 false) (false || q0) (false || q1)))]) ?_)
            exact cT_some (by simp [nullB, hc36, hc50, hc61]) rfl
        · replace hc50 := bt hc50
          refine iQ 4 (iB .neq 4 (.bool true) (.bool false) (some 56) ?_)
          refine all_true ((by simp)) ?_
          refine iQ 14 (iE 77 [(0, .d (Sv w)), (6, .p 6 0), (7, .p 7 0), (9, .p 9 0), (70, Ba true)] [(6, [.v (.nilIface)]), (7, [.ifc 77 (.agg [Bv (decide ((a0) < 0)), Hw ((a0).natAbs), Lw ((a0).natAbs), Iv 0]), .ifc 77 (.agg [Bv (decide ((hiV a0 a1 true) < 0)), Hw ((hiV a0 a1 true).natAbs), Lw ((hiV a0 a1 true).natAbs), Iv 0]), Bv (true || p0), Bv (true || p1), Bv true]), (9, [.ifc 77 (.agg [Bv (decide ((b0) < 0)), Hw ((b0).natAbs), Lw ((b0).natAbs), Iv 0]), .ifc 77 (.agg [Bv (decide ((hiV b0 b1 false) < 0)), Hw ((hiV b0 b1 false).natAbs), Lw ((hiV b0 b1 false).natAbs), Iv 0]), Bv (false || q0), Bv (false || q1), Bv false])] ?_)
          refine iT (vc_seqr rfl (iQ 2 (iE 77 [(0, .d (Sv w)), (6, .p 6 0), (7, .p 7 0), (9, .p 9 0), (70, Ba true)] [(6, [.v (.nilIface)]), (7, [.ifc 77 (.agg [Bv (decide ((a0) < 0)), Hw ((a0).natAbs), Lw ((a0).natAbs), Iv 0]), .ifc 77 (.agg [Bv (decide ((hiV a0 a1 true) < 0)), Hw ((hiV a0 a1 true).natAbs), Lw ((hiV a0 a1 true).natAbs), Iv 0]), Bv (true || p0), Bv (true || p1), Bv true]), (9, [.ifc 77 (.agg [Bv (decide ((b0) < 0)), Hw ((b0).natAbs), Lw ((b0).natAbs), Iv 0]), .ifc 77 (.agg [Bv (decide ((hiV b0 b1 false) < 0)), Hw ((hiV b0 b1 false).natAbs), Lw ((hiV b0 b1 false).natAbs), Iv 0]), Bv (false || q0), Bv (false || q1), Bv false])] ?_)))
          refine vc_ret (seq_r (iR (.agg [.v (.nilIface)]) ?_))
          exact cT_null (by simp [nullB, hc36, hc50])
      · skip
        refine iQ 1 (iB .and 3 (.int .i64 (ptI w)) (.int .i64 2) (some 44) ?_)
        intro z44 hz44
        have e44 := pt_two (pt_cases w) hz44
        refine iB .eql 3 (.int .i64 z44) (.int .i64 0) (some 45) ?_
        intro c45 hc45
        refine iQ 3 ?_
        cases c45
        · replace hc45 := bf hc45
          refine iQ 1 (iB .eql 9 (.string w) (.string (⟨#[99, 111, 105, 110, 99, 105, 100, 101, 115]⟩)) (some 50) ?_)
          rw [e44] at hc45
          intro c50 hc50
          refine iQ 1 ?_
          cases c50
          · replace hc50 := bf hc50
            refine iQ 9 (iB .neq 3 (.int .i64 (ptI w)) (.int .i64 3) (some 61) ?_)
            intro c61 hc61
            refine iQ 1 ?_
            cases c61
            · replace hc61 := bf hc61
              refine iQ 8 (iE 77 [(0, .d (Sv w)), (6, .p 6 0), (7, .p 7 0), (9, .p 9 0), (70, Ba false)] [(6, [.v (.nilIface)]), (7, [.ifc 77 (.agg [Bv (decide ((a0) < 0)), Hw ((a0).natAbs), Lw ((a0).natAbs), Iv 0]), .ifc 77 (.agg [Bv (decide ((hiV a0 a1 true) < 0)), Hw ((hiV a0 a1 true).natAbs), Lw ((hiV a0 a1 true).natAbs), Iv 0]), Bv (true || p0), Bv (true || p1), Bv true]), (9, [.ifc 77 (.agg [Bv (decide ((b0) < 0)), Hw ((b0).natAbs), Lw ((b0).natAbs), Iv 0]), .ifc 77 (.agg [Bv (decide ((hiV b0 b1 true) < 0)), Hw ((hiV b0 b1 true).natAbs), Lw ((hiV b0 b1 true).natAbs), Iv 0]), Bv (true || q0), Bv (true || q1), Bv true])] ?_)
              refine iF (vc_skip (seq_n (vc_seqr rfl (iQ 3 (iC 19 [Sv w, .agg [.ifc 77 (.agg [Bv (decide ((a0) < 0)), Hw ((a0).natAbs), Lw ((a0).natAbs), Iv 0]), .ifc 77 (.agg [Bv (decide ((hiV a0 a1 true) < 0)), Hw ((hiV a0 a1 true).natAbs), Lw ((hiV a0 a1 true).natAbs), Iv 0]), Bv (true || p0), Bv (true || p1), Bv true], .agg [.ifc 77 (.agg [Bv (decide ((b0) < 0)), Hw ((b0).natAbs), Lw ((b0).natAbs), Iv 0]), .ifc 77 (.agg [Bv (decide ((hiV b0 b1 true) < 0)), Hw ((hiV b0 b1 true).natAbs), Lw ((hiV b0 b1 true).natAbs), Iv 0]), Bv (true || q0), Bv (true || q1), Bv true]] (some 75) (c_holds hw ha0 (hiV_ok ha0 ha1) hb0 (hiV_ok hb0 hb1)) ?_)))))
              rintro _ rfl
              refine iC 18 [Iv (ofI (hB w a0 (hiV a0 a1 true) (true || p0) (true || p1) b0 (hiV b0 b1 true) (true || q0) (true || q1)))] (some 76) (c_eValueB) ?_
              rintro _ rfl
              refine iQ 1 (iE 77 [(0, .d (Sv w)), (6, .p 6 0), (7, .p 7 0), (9, .p 9 0), (70, Ba false)] [(6, [.ifc 63 (Bv (hB w a0 (hiV a0 a1 true) (true || p0) (true || p1) b0 (hiV b0 b1 true) (true || q0) (true || q1)))]), (7, [.ifc 77 (.agg [Bv (decide ((a0) < 0)), Hw ((a0).natAbs), Lw ((a0).natAbs), Iv 0]), .ifc 77 (.agg [Bv (decide ((hiV a0 a1 true) < 0)), Hw ((hiV a0 a1 true).natAbs), Lw ((hiV a0 a1 true).natAbs), Iv 0]), Bv (true || p0), Bv (true || p1), Bv true]), (9, [.ifc 77 (.agg [Bv (decide ((b0) < 0)), Hw ((b0).natAbs), Lw ((b0).natAbs), Iv 0]), .ifc 77 (.agg [Bv (decide ((hiV b0 b1 true) < 0)), Hw ((hiV b0 b1 true).natAbs), Lw ((hiV b0 b1 true).natAbs), Iv 0]), Bv (true || q0), Bv (true || q1), Bv true])] ?_)
              refine vc_ret (iR (.agg [.ifc 63 (Bv (hB w a0 (hiV a0 a1 true) (true || p0) (true || p1) b0 (hiV b0 b1 true) (true || q0) (true || q1)))]) ?_)
              exact cT_some (by simp [nullB, hc36, hc45, hc50, hc61]) rfl
            · replace hc61 := bt hc61
              refine iQ 8 (iE 77 [(0, .d (Sv w)), (6, .p 6 0), (7, .p 7 0), (9, .p 9 0), (70, Ba true)] [(6, [.v (.nilIface)]), (7, [.ifc 77 (.agg [Bv (decide ((a0) < 0)), Hw ((a0).natAbs), Lw ((a0).natAbs), Iv 0]), .ifc 77 (.agg [Bv (decide ((hiV a0 a1 true) < 0)), Hw ((hiV a0 a1 true).natAbs), Lw ((hiV a0 a1 true).natAbs), Iv 0]), Bv (true || p0), Bv (true || p1), Bv true]), (9, [.ifc 77 (.agg [Bv (decide ((b0) < 0)), Hw ((b0).natAbs), Lw ((b0).natAbs), Iv 0]), .ifc 77 (.agg [Bv (decide ((hiV b0 b1 true) < 0)), Hw ((hiV b0 b1 true).natAbs), Lw ((hiV b0 b1 true).natAbs), Iv 0]), Bv (true || q0), Bv (true || q1), Bv true])] ?_)
              refine iT (vc_seqr rfl (iQ 2 (iE 77 [(0, .d (Sv w)), (6, .p 6 0), (7, .p 7 0), (9, .p 9 0), (70, Ba true)] [(6, [.v (.nilIface)]), (7, [.ifc 77 (.agg [Bv (decide ((a0) < 0)), Hw ((a0).natAbs), Lw ((a0).natAbs), Iv 0]), .ifc 77 (.agg [Bv (decide ((hiV a0 a1 true) < 0)), Hw ((hiV a0 a1 true).natAbs), Lw ((hiV a0 a1 true).natAbs), Iv 0]), Bv (true || p0), Bv (true || p1), Bv true]), (9, [.ifc 77 (.agg [Bv (decide ((b0) < 0)), Hw ((b0).natAbs), Lw ((b0).natAbs), Iv 0]), .ifc 77 (.agg [Bv (decide ((hiV b0 b1 true) < 0)), Hw ((hiV b0 b1 true).natAbs), Lw ((hiV b0 b1 true).natAbs), Iv 0]), Bv (true || q0), Bv (true || q1), Bv true])] ?_)))
              refine vc_ret (seq_r (iR (.agg [.v (.nilIface)]) ?_))
              exact cT_null (by simp [nullB, hc36, hc45, hc50, hc61])
          · replace hc50 := bt hc50
            refine iQ 4 (iB .neq 4 (.bool true) (.bool true) (some 56) ?_)
            refine all_false ((by simp)) ?_
            refine iQ 4 (iB .neq 3 (.int .i64 (ptI w)) (.int .i64 3) (some 61) ?_)
            intro c61 hc61
            refine iQ 1 ?_
            cases c61
            · replace hc61 := bf hc61
              refine iQ 8 (iE 77 [(0, .d (Sv w)), (6, .p 6 0), (7, .p 7 0), (9, .p 9 0), (70, Ba false)] [(6, [.v (.nilIface)]), (7, [.ifc 77 (.agg [Bv (decide ((a0) < 0)), Hw ((a0).natAbs), Lw ((a0).natAbs), Iv 0]), .ifc 77 (.agg [Bv (decide ((hiV a0 a1 true) < 0)), Hw ((hiV a0 a1 true).natAbs), Lw ((hiV a0 a1 true).natAbs), Iv 0]), Bv (true || p0), Bv (true || p1), Bv true]), (9, [.ifc 77 (.agg [Bv (decide ((b0) < 0)), Hw ((b0).natAbs), Lw ((b0).natAbs), Iv 0]), .ifc 77 (.agg [Bv (decide ((hiV b0 b1 true) < 0)), Hw ((hiV b0 b1 true).natAbs), Lw ((hiV b0 b1 true).natAbs), Iv 0]), Bv (true || q0), Bv (true || q1), Bv true])] ?_)
              refine iF (vc_skip (seq_n (vc_seqr rfl (iQ 3 (iC 19 [Sv w, .agg [.ifc 77 (.agg [Bv (decide ((a0) < 0)), Hw ((a0).natAbs), Lw ((a0).natAbs), Iv 0]), .ifc 77 (.agg [Bv (decide ((hiV a0 a1 true) < 0)), Hw ((hiV a0 a1 true).natAbs), Lw ((hiV a0 a1 true).natAbs), Iv 0]), Bv (true || p0), Bv (true || p1), Bv true], .agg [.ifc 77 (.agg [Bv (decide ((b0) < 0)), Hw ((b0).natAbs), Lw ((b0).natAbs), Iv 0]), .ifc 77 (.agg [Bv (decide ((hiV b0 b1 true) < 0)), Hw ((hiV b0 b1 true).natAbs), Lw ((hiV b0 b1 true).natAbs), Iv 0]), Bv (true || q0), Bv (true || q1), Bv true]] (some 75) (c_holds hw ha0 (hiV_ok ha0 ha1) hb0 (hiV_ok hb0 hb1)) ?_)))))
              rintro _ rfl
              refine iC 18 [Iv (ofI (hB w a0 (hiV a0 a1 true) (true || p0) (true || p1) b0 (hiV b0 b1 true) (true || q0) (true || q1)))] (some 76) (c_eValueB) ?_
              rintro _ rfl
              refine iQ 1 (iE 77 [(0, .d (Sv w)), (6, .p 6 0), (7, .p 7 0), (9, .p 9 0), (70, Ba false)] [(6, [.ifc 63 (Bv (hB w a0 (hiV a0 a1 true) (true || p0) (true || p1) b0 (hiV b0 b1 true) (true || q0) (true || q1)))]), (7, [.ifc 77 (.agg [Bv (decide ((a0) < 0)), Hw ((a0).natAbs), Lw ((a0).natAbs), Iv 0]), .ifc 77 (.agg [Bv (decide ((hiV a0 a1 true) < 0)), Hw ((hiV a0 a1 true).natAbs), Lw ((hiV a0 a1 true).natAbs), Iv 0]), Bv (true || p0), Bv (true || p1), Bv true]), (9, [.ifc 77 (.agg [Bv (decide ((b0) < 0)), Hw ((b0).natAbs), Lw ((b0).natAbs), Iv 0]), .ifc 77 (.agg [Bv (decide ((hiV b0 b1 true) < 0)), Hw ((hiV b0 b1 true).natAbs), Lw ((hiV b0 b1 true).natAbs), Iv 0]), Bv (true || q0), Bv (true || q1), Bv true])] ?_)
              refine vc_ret (iR (.agg [.ifc 63 (Bv (hB w a0 (hiV a0 a1 true) (true || p0) (true || p1) b0 (hiV b0 b1 true) (true || q0) (true || q1)))]) ?_)
              exact cT_some (by first | (rw [hc50]; decide) | (rw [hc50] at hc61; exact absurd (by decide) hc61)) rfl
            · replace hc61 := bt hc61
              refine iQ 8 (iE 77 [(0, .d (Sv w)), (6, .p 6 0), (7, .p 7 0), (9, .p 9 0), (70, Ba true)] [(6, [.v (.nilIface)]), (7, [.ifc 77 (.agg [Bv (decide ((a0) < 0)), Hw ((a0).natAbs), Lw ((a0).natAbs), Iv 0]), .ifc 77 (.agg [Bv (decide ((hiV a0 a1 true) < 0)), Hw ((hiV a0 a1 true).natAbs), Lw ((hiV a0 a1 true).natAbs), Iv 0]), Bv (true || p0), Bv (true || p1), Bv true]), (9, [.ifc 77 (.agg [Bv (decide ((b0) < 0)), Hw ((b0).natAbs), Lw ((b0).natAbs), Iv 0]), .ifc 77 (.agg [Bv (decide ((hiV b0 b1 true) < 0)), Hw ((hiV b0 b1 true).natAbs), Lw ((hiV b0 b1 true).natAbs), Iv 0]), Bv (true || q0), Bv (true || q1), Bv true])] ?_)
              refine iT (vc_seqr rfl (iQ 2 (iE 77 [(0, .d (Sv w)), (6, .p 6 0), (7, .p 7 0), (9, .p 9 0), (70, Ba true)] [(6, [.v (.nilIface)]), (7, [.ifc 77 (.agg [Bv (decide ((a0) < 0)), Hw ((a0).natAbs), Lw ((a0).natAbs), Iv 0]), .ifc 77 (.agg [Bv (decide ((hiV a0 a1 true) < 0)), Hw ((hiV a0 a1 true).natAbs), Lw ((hiV a0 a1 true).natAbs), Iv 0]), Bv (true || p0), Bv (true || p1), Bv true]), (9, [.ifc 77 (.agg [Bv (decide ((b0) < 0)), Hw ((b0).natAbs), Lw ((b0).natAbs), Iv 0]), .ifc 77 (.agg [Bv (decide ((hiV b0 b1 true) < 0)), Hw ((hiV b0 b1 true).natAbs), Lw ((hiV b0 b1 true).natAbs), Iv 0]), Bv (true || q0), Bv (true || q1), Bv true])] ?_)))
              refine vc_ret (seq_r (iR (.agg [.v (.nilIface)]) ?_))
              exact cT_null (by first | (rw [hc50]; decide) | (rw [hc50] at hc61; exact absurd (by decide) hc61))
        · replace hc45 := bt hc45
          refine iQ 22 (iE 77 [(0, .d (Sv w)), (6, .p 6 0), (7, .p 7 0), (9, .p 9 0), (70, Ba true)] [(6, [.v (.nilIface)]), (7, [.ifc 77 (.agg [Bv (decide ((a0) < 0)), Hw ((a0).natAbs), Lw ((a0).natAbs), Iv 0]), .ifc 77 (.agg [Bv (decide ((hiV a0 a1 true) < 0)), Hw ((hiV a0 a1 true).natAbs), Lw ((hiV a0 a1 true).natAbs), Iv 0]), Bv (true || p0), Bv (true || p1), Bv true]), (9, [.ifc 77 (.agg [Bv (decide ((b0) < 0)), Hw ((b0).natAbs), Lw ((b0).natAbs), Iv 0]), .ifc 77 (.agg [Bv (decide ((hiV b0 b1 true) < 0)), Hw ((hiV b0 b1 true).natAbs), Lw ((hiV b0 b1 true).natAbs), Iv 0]), Bv (true || q0), Bv (true || q1), Bv true])] ?_)
          rw [e44] at hc45
          refine iT (vc_seqr rfl (iQ 2 (iE 77 [(0, .d (Sv w)), (6, .p 6 0), (7, .p 7 0), (9, .p 9 0), (70, Ba true)] [(6, [.v (.nilIface)]), (7, [.ifc 77 (.agg [Bv (decide ((a0) < 0)), Hw ((a0).natAbs), Lw ((a0).natAbs), Iv 0]), .ifc 77 (.agg [Bv (decide ((hiV a0 a1 true) < 0)), Hw ((hiV a0 a1 true).natAbs), Lw ((hiV a0 a1 true).natAbs), Iv 0]), Bv (true || p0), Bv (true || p1), Bv true]), (9, [.ifc 77 (.agg [Bv (decide ((b0) < 0)), Hw ((b0).natAbs), Lw ((b0).natAbs), Iv 0]), .ifc 77 (.agg [Bv (decide ((hiV b0 b1 true) < 0)), Hw ((hiV b0 b1 true).natAbs), Lw ((hiV b0 b1 true).natAbs), Iv 0]), Bv (true || q0), Bv (true || q1), Bv true])] ?_)))
          refine vc_ret (seq_r (iR (.agg [.v (.nilIface)]) ?_))
          exact cT_null (by simp [nullB, hc36, hc45])
    · replace hc36 := bt hc36
      refine iQ 31 (iE 77 [(0, .d (Sv w)), (6, .p 6 0), (7, .p 7 0), (9, .p 9 0), (70, Ba true)] [(6, [.v (.nilIface)]), (7, [.ifc 77 (.agg [Bv (decide ((a0) < 0)), Hw ((a0).natAbs), Lw ((a0).natAbs), Iv 0]), .ifc 77 (.agg [Bv (decide ((hiV a0 a1 true) < 0)), Hw ((hiV a0 a1 true).natAbs), Lw ((hiV a0 a1 true).natAbs), Iv 0]), Bv (true || p0), Bv (true || p1), Bv true]), (9, [.ifc 77 (.agg [Bv (decide ((b0) < 0)), Hw ((b0).natAbs), Lw ((b0).natAbs), Iv 0]), .ifc 77 (.agg [Bv (decide ((hiV b0 b1 pb) < 0)), Hw ((hiV b0 b1 pb).natAbs), Lw ((hiV b0 b1 pb).natAbs), Iv 0]), Bv (pb || q0), Bv (pb || q1), Bv pb])] ?_)
      rw [e35] at hc36
      refine iT (vc_seqr rfl (iQ 2 (iE 77 [(0, .d (Sv w)), (6, .p 6 0), (7, .p 7 0), (9, .p 9 0), (70, Ba true)] [(6, [.v (.nilIface)]), (7, [.ifc 77 (.agg [Bv (decide ((a0) < 0)), Hw ((a0).natAbs), Lw ((a0).natAbs), Iv 0]), .ifc 77 (.agg [Bv (decide ((hiV a0 a1 true) < 0)), Hw ((hiV a0 a1 true).natAbs), Lw ((hiV a0 a1 true).natAbs), Iv 0]), Bv (true || p0), Bv (true || p1), Bv true]), (9, [.ifc 77 (.agg [Bv (decide ((b0) < 0)), Hw ((b0).natAbs), Lw ((b0).natAbs), Iv 0]), .ifc 77 (.agg [Bv (decide ((hiV b0 b1 pb) < 0)), Hw ((hiV b0 b1 pb).natAbs), Lw ((hiV b0 b1 pb).natAbs), Iv 0]), Bv (pb || q0), Bv (pb || q1), Bv pb])] ?_)))
      refine vc_ret (seq_r (iR (.agg [.v (.nilIface)]) ?_))
      exact cT_null (by simp [nullB, hc36])

theorem c_eValue0 : HasC Tryz.prog 18 [.v (.int .i64 0)] (fun r => r = .agg [.v .nilIface]) := c_eValue (t := 0)
theorem c_yes0  : HasC Tryz.prog 8 [.agg [.v (.nilIface)]] (fun r => r = .v (.int .i64 (-1))) := by
  refine HasC.of [] (fn := Tryz.f8) tyOk mixed (fun args w => Tryz.call8 args w) Tryz.func8 rfl (by kernel_rfl) (Nat.le_of_ble_eq_true rfl) (⟨_, rfl⟩) ?_
  refine vc_seqr rfl (iQ 2 (iE 13 [(1, .p 1 0), (2, Ia 0)] [(1, [.v (.nilIface)])] ?_))
  refine vc_seqr rfl (iQ 1 (iC 15 [.agg [.v (.nilIface)]] (some 7) (c_AsBool0) ?_))
  rintro _ rfl
  refine iQ 5 (iE 13 [(2, Ia 0), (3, Ba false), (4, Ba false)] [] ?_)
  refine vc_seq (vc_seqr rfl (iQ 1 (iU .not (.bool false) (some 11) ?_)))
  refine all_true ((by simp)) ?_
  refine iE 13 [(2, Ia 0), (3, Ba false), (11, Ba true)] [] ?_
  refine iT (vc_seqr rfl (iQ 1 (iE 13 [(2, Ia (-1)), (3, Ba false), (11, Ba true)] [] ?_)))
  refine vc_ret (seq_r (iR (Iv (-1)) ?_))
  rfl
theorem c_yesB {p : Bool} : HasC Tryz.prog 8 [.agg [.ifc 63 (.v (.bool p))]] (fun r => r = .v (.int .i64 (ofI p - 1))) := by
  refine HasC.of [] (fn := Tryz.f8) tyOk mixed (fun args w => Tryz.call8 args w) Tryz.func8 rfl (by kernel_rfl) (Nat.le_of_ble_eq_true rfl) (⟨_, rfl⟩) ?_
  refine vc_seqr rfl (iQ 2 (iE 13 [(1, .p 1 0), (2, Ia 0)] [(1, [.ifc 63 (Bv p)])] ?_))
  refine vc_seqr rfl (iQ 1 (iC 15 [.agg [.ifc 63 (Bv p)]] (some 7) (c_AsBoolB) ?_))
  rintro _ rfl
  refine iQ 5 (iE 13 [(2, Ia 0), (3, Ba p), (4, Ba true)] [] ?_)
  refine vc_seq (vc_seqr rfl (iQ 1 (iU .not (.bool true) (some 11) ?_)))
  refine all_false ((by simp)) ?_
  refine iE 13 [(2, Ia 0), (3, Ba p), (11, Ba false)] [] ?_
  refine iF (vc_skip (seq_n (vc_seq (vc_seqr rfl (iQ 1 (iE 13 [(2, Ia 0), (11, Ba false), (12, Ba p)] [] ?_))))))
  cases p
  · skip
    refine iF (vc_skip (seq_n (vc_seqr rfl (iQ 1 (iE 13 [(2, Ia 0), (11, Ba false), (12, Ba false)] [] ?_)))))
    refine vc_ret (iR (Iv 0) ?_)
    rfl
  · skip
    refine iT (vc_seqr rfl (iQ 1 (iE 13 [(2, Ia 1), (11, Ba false), (12, Ba true)] [] ?_)))
    refine vc_ret (seq_r (iR (Iv 1) ?_))
    rfl
theorem c_yes {t : Int} (h : t = 0 ∨ t = 1 ∨ t = 2) : HasC Tryz.prog 8 [.agg [cT t]] (fun r => r = .v (.int .i64 (t - 1))) := by
  rcases h with rfl | rfl | rfl
  · exact c_yes0
  · exact c_yesB (p := false)
  · exact c_yesB (p := true)
theorem HI_cases (w : ByteArray) (a0 a1 : Int) (p0 p1 pa : Bool) (b0 b1 : Int) (q0 q1 pb : Bool) : HI w a0 a1 p0 p1 pa b0 b1 q0 q1 pb = 0 ∨ HI w a0 a1 p0 p1 pa b0 b1 q0 q1 pb = 1 ∨ HI w a0 a1 p0 p1 pa b0 b1 q0 q1 pb = 2 := by
  unfold HI
  split
  · exact .inl rfl
  · unfold ofI
    split
    · exact .inr (.inr rfl)
    · exact .inr (.inl rfl)
theorem c_span {x y : Int} {p q : Bool} (hx : Ok x) (hy : Ok y) : HasC Tryz.prog 12 [.v (.int .i64 x), .v (.int .i64 y), .v (.bool p), .v (.bool q)] (fun r => r = .agg [.ifc (tV false) (cV x y p q false)]) := by
  refine HasC.of [] (fn := Tryz.f12) tyOk mixed (fun args w => Tryz.call12 args w) Tryz.func12 rfl (by kernel_rfl) (Nat.le_of_ble_eq_true rfl) (⟨_, rfl⟩) ?_
  refine vc_seqr rfl (iQ 1 (iE 17 [(0, Ia x), (1, Ia y), (2, Ba p), (3, Ba q), (8, .p 8 0)] [(8, [.v (.nilIface)])] ?_))
  refine vc_seqr rfl (iQ 1 (iC 11 [Iv x] (some 10) (c_vInt hx.1 hx.2) ?_))
  rintro _ rfl
  refine iQ 1 (iC 11 [Iv y] (some 12) (c_vInt hy.1 hy.2) ?_)
  rintro _ rfl
  refine iQ 3 (iC 20 [.agg [.ifc 77 (.agg [Bv (decide ((x) < 0)), Hw ((x).natAbs), Lw ((x).natAbs), Iv 0])], .agg [.ifc 77 (.agg [Bv (decide ((y) < 0)), Hw ((y).natAbs), Lw ((y).natAbs), Iv 0])], .agg [Bv p, Bv q]] (some 16) (c_vRange) ?_)
  rintro _ rfl
  refine iQ 1 (iE 17 [(8, .p 8 0)] [(8, [.ifc 76 (.agg [.ifc 77 (.agg [Bv (decide ((x) < 0)), Hw ((x).natAbs), Lw ((x).natAbs), Iv 0]), .ifc 77 (.agg [Bv (decide ((y) < 0)), Hw ((y).natAbs), Lw ((y).natAbs), Iv 0]), Bv p, Bv q])])] ?_)
  refine vc_ret (iR (.agg [.ifc 76 (.agg [.ifc 77 (.agg [Bv (decide ((x) < 0)), Hw ((x).natAbs), Lw ((x).natAbs), Iv 0]), .ifc 77 (.agg [Bv (decide ((y) < 0)), Hw ((y).natAbs), Lw ((y).natAbs), Iv 0]), Bv p, Bv q])]) ?_)
  rfl
theorem c_Make {x y : Int} {p q pt : Bool} (hx : -32768 ≤ x ∧ x ≤ 32767) (hy : -32768 ≤ y ∧ y ≤ 32767) : HasC Tryz.prog 10 [.agg [.v (.int .i16 x), .v (.int .i16 y), .v (.bool p), .v (.bool q), .v (.bool pt)]] (fun r => r = .agg [.ifc (tV pt) (cV x y p q pt)]) := by
  refine HasC.of [] (fn := Tryz.f10) tyOk mixed (fun args w => Tryz.call10 args w) Tryz.func10 rfl (by kernel_rfl) (Nat.le_of_ble_eq_true rfl) (⟨_, rfl⟩) ?_
  refine vc_seqr rfl (iQ 2 (iE 20 [(1, .p 1 0), (2, .p 2 0)] [(1, [.v (.int .i16 x), .v (.int .i16 y), Bv p, Bv q, Bv pt]), (2, [.v (.nilIface)])] ?_))
  refine vc_seq (vc_seqr rfl (iQ 2 (iE 20 [(1, .p 1 0), (2, .p 2 0), (4, Ba pt)] [(1, [.v (.int .i16 x), .v (.int .i16 y), Bv p, Bv q, Bv pt]), (2, [.v (.nilIface)])] ?_)))
  cases pt
  · skip
    refine iF (vc_skip (seq_n (vc_seqr rfl (iQ 2 (iV 22 3 (.int .i16 x) (some 11) ?_)))))
    intro z11 hz11
    try replace hz11 := hz11.i64 (by omega)
    refine iC 11 [Iv z11] (some 12) (c_vInt (x := z11) (by omega) (by omega)) ?_
    rintro _ rfl
    refine iQ 2 (iV 22 3 (.int .i16 y) (some 15) ?_)
    intro z15 hz15
    try replace hz15 := hz15.i64 (by omega)
    refine iC 11 [Iv z15] (some 16) (c_vInt (x := z15) (by omega) (by omega)) ?_
    rintro _ rfl
    refine iQ 2 (iC 20 [.agg [.ifc 77 (.agg [Bv (decide ((z11) < 0)), Hw ((z11).natAbs), Lw ((z11).natAbs), Iv 0])], .agg [.ifc 77 (.agg [Bv (decide ((z15) < 0)), Hw ((z15).natAbs), Lw ((z15).natAbs), Iv 0])], .agg [Bv p, Bv q]] (some 19) (c_vRange) ?_)
    rintro _ rfl
    refine iQ 1 (iE 20 [(1, .p 1 0), (2, .p 2 0), (4, Ba false)] [(1, [.v (.int .i16 x), .v (.int .i16 y), Bv p, Bv q, Bv false]), (2, [.ifc 76 (.agg [.ifc 77 (.agg [Bv (decide ((z11) < 0)), Hw ((z11).natAbs), Lw ((z11).natAbs), Iv 0]), .ifc 77 (.agg [Bv (decide ((z15) < 0)), Hw ((z15).natAbs), Lw ((z15).natAbs), Iv 0]), Bv p, Bv q])])] ?_)
    refine vc_ret (iR (.agg [.ifc 76 (.agg [.ifc 77 (.agg [Bv (decide ((z11) < 0)), Hw ((z11).natAbs), Lw ((z11).natAbs), Iv 0]), .ifc 77 (.agg [Bv (decide ((z15) < 0)), Hw ((z15).natAbs), Lw ((z15).natAbs), Iv 0]), Bv p, Bv q])]) ?_)
    rw [hz11, hz15]; rfl
  · skip
    refine iT (vc_seqr rfl (iQ 2 (iV 22 3 (.int .i16 x) (some 7) ?_)))
    intro z7 hz7
    try replace hz7 := hz7.i64 (by omega)
    refine iC 11 [Iv z7] (some 8) (c_vInt (x := z7) (by omega) (by omega)) ?_
    rintro _ rfl
    refine iQ 1 (iE 20 [(1, .p 1 0), (2, .p 2 0), (4, Ba true)] [(1, [.v (.int .i16 x), .v (.int .i16 y), Bv p, Bv q, Bv true]), (2, [.ifc 77 (.agg [Bv (decide ((z7) < 0)), Hw ((z7).natAbs), Lw ((z7).natAbs), Iv 0])])] ?_)
    refine vc_ret (seq_r (iR (.agg [.ifc 77 (.agg [Bv (decide ((z7) < 0)), Hw ((z7).natAbs), Lw ((z7).natAbs), Iv 0])]) ?_))
    rw [hz7]; rfl
end Go.Proofs.YtimpaejpokkdnaaGreatDoor
