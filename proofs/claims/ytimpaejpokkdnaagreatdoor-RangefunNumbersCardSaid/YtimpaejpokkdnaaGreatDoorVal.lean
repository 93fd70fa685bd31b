/-
  value: what is null, of which kind a value is.
-/
import Derived.Test.YtimpaejpokkdnaaGreatDoorDecZ
import Derived.Test.YtimpaejpokkdnaaGreatDoorVcG
import Derived.Handy
namespace Go.Proofs.YtimpaejpokkdnaaGreatDoor
open Go.RowKit
set_option linter.unusedVariables false
set_option linter.unusedSimpArgs false
set_option maxRecDepth 100000

/-- A function of one value behind an interface, of which it asks the type alone. -/
theorem HasC.ofIfc {f : FuncId} {t : TypeId} {r : Value} {d : DV} (hent : Enters Tryz.prog f) (h : ∀ u w, Calls Tryz.prog f #[.agg #[.iface t u]] w fun e w' => e = .returned r ∧ Below w.heap.size w w') : HasC Tryz.prog f [.agg [.ifc t d]] (fun y => y = .v r) := by
  refine ⟨hent, ⟨_, rfl⟩, fun W vs Im hIm hr => ?_⟩
  rw [DV.relL] at hr
  obtain ⟨a, r0, e1, h1, h2⟩ := hr
  rw [DV.relL] at h2
  subst h2
  rw [DV.rel] at h1
  obtain ⟨xs, rfl, h3⟩ := h1
  rw [DV.relL] at h3
  obtain ⟨b, bs, e2, h4, h5⟩ := h3
  rw [DV.relL] at h5
  subst h5
  rw [DV.rel] at h4
  obtain ⟨u, rfl, h6⟩ := h4
  have ex : xs = #[.iface t u] := Array.ext' e2
  have ev : vs = #[.agg #[.iface t u]] := Array.ext' (by rw [e1, ex])
  subst ev
  exact (h u W).mono fun e w' ⟨he, hb⟩ => ⟨r, _, he, rfl, v_rel r, hb⟩
theorem HasC.ofNil {f : FuncId} {r : Value} (hent : Enters Tryz.prog f) (h : ∀ w, Calls Tryz.prog f #[.agg #[.nilIface]] w fun e w' => e = .returned r ∧ Below w.heap.size w w') : HasC Tryz.prog f [.agg [.v .nilIface]] (fun y => y = .v r) := by
  refine ⟨hent, ⟨_, rfl⟩, fun W vs Im hIm hr => ?_⟩
  rw [DV.relL] at hr
  obtain ⟨a, r0, e1, h1, h2⟩ := hr
  rw [DV.relL] at h2
  subst h2
  rw [DV.rel] at h1
  obtain ⟨xs, rfl, h3⟩ := h1
  rw [DV.relL] at h3
  obtain ⟨b, bs, e2, h4, h5⟩ := h3
  rw [DV.relL] at h5
  subst h5
  rw [DV.rel] at h4
  subst h4
  have ex : xs = #[.nilIface] := Array.ext' e2
  have ev : vs = #[.agg #[.nilIface]] := Array.ext' (by rw [e1, ex])
  subst ev
  exact (h W).mono fun e w' ⟨he, hb⟩ => ⟨r, _, he, rfl, v_rel r, hb⟩

theorem inner_ms : Tryz.prog.underlying 33 = some (.interface (Tryz.prog.methodsAt 33)) := by kernel_rfl

theorem c_NullI {t : TypeId} {d : DV} : HasC Tryz.prog 27 [.agg [.ifc t d]] (fun y => y = .v (.bool false)) :=
  HasC.ofIfc (fun args w => Tryz.call27 args w) fun u w => by
    go_enter Tryz.func27, Tryz.ntmps27
    go_wp2_with fail
    go_returns
    exact ⟨rfl, by go_grown⟩

theorem kind_num (u : Value) (w : World) : Calls Tryz.prog 110 #[u] w fun e w' => e = .returned (.int .i64 3) ∧ Below w.heap.size w w' := by
  go_enter Tryz.func110, Tryz.ntmps110
  go_wp2_with fail
  all_goals (go_returns; exact ⟨rfl, by go_grown⟩)

theorem c_KindN {d : DV} : HasC Tryz.prog 26 [.agg [.ifc 77 d]] (fun y => y = .v (.int .i64 3)) :=
  HasC.ofIfc (fun args w => Tryz.call26 args w) fun u w => by
    go_enter Tryz.func26, Tryz.ntmps26
    go_wp2_with fail
    go_call (kind_num u) as e w1 ⟨he, hb⟩
    subst he
    go_wp2_with fail
    go_returns
    exact ⟨rfl, Below.trans (by go_grown) (hb.mono (by go_size))⟩

theorem kind_itv (u : Value) (w : World) : Calls Tryz.prog 109 #[u] w fun e w' => e = .returned (.int .i64 12) ∧ Below w.heap.size w w' := by
  go_enter Tryz.func109, Tryz.ntmps109
  go_wp2_with fail
  all_goals (go_returns; exact ⟨rfl, by go_grown⟩)
theorem c_Kind_itv {d : DV} : HasC Tryz.prog 26 [.agg [.ifc 76 d]] (fun y => y = .v (.int .i64 12)) :=
  HasC.ofIfc (fun args w => Tryz.call26 args w) fun u w => by
    go_enter Tryz.func26, Tryz.ntmps26
    go_wp2_with fail
    go_call (kind_itv u) as e w1 ⟨he, hb⟩
    subst he
    go_wp2_with fail
    go_returns
    exact ⟨rfl, Below.trans (by go_grown) (hb.mono (by go_size))⟩

theorem kind_txt (u : Value) (w : World) : Calls Tryz.prog 107 #[u] w fun e w' => e = .returned (.int .i64 4) ∧ Below w.heap.size w w' := by
  go_enter Tryz.func107, Tryz.ntmps107
  go_wp2_with fail
  all_goals (go_returns; exact ⟨rfl, by go_grown⟩)
theorem c_Kind_txt {d : DV} : HasC Tryz.prog 26 [.agg [.ifc 62 d]] (fun y => y = .v (.int .i64 4)) :=
  HasC.ofIfc (fun args w => Tryz.call26 args w) fun u w => by
    go_enter Tryz.func26, Tryz.ntmps26
    go_wp2_with fail
    go_call (kind_txt u) as e w1 ⟨he, hb⟩
    subst he
    go_wp2_with fail
    go_returns
    exact ⟨rfl, Below.trans (by go_grown) (hb.mono (by go_size))⟩


/-- A whole number, as a value. -/
abbrev dNm (x : Int) : DV := .ifc 77 (dDec (decide (x < 0)) x.natAbs 0)
abbrev dRg (x y : Int) (p q : Bool) : DV := .ifc 76 (.agg [dNm x, dNm y, .v (.bool p), .v (.bool q)])
abbrev dSp (x y : Int) (p q r : Bool) : DV := .agg [dNm x, dNm y, .v (.bool p), .v (.bool q), .v (.bool r)]

theorem c_vNum {g : Bool} {n : Nat} {e : Int} (hm : May g n e) : HasC Tryz.prog 21 [.agg [.v (.bool g), .v (.int .u64 (hiW (n))), .v (.int .u64 (loW (n))), .v (.int .i64 e)]] (fun r => r = .agg [.ifc 77 (dDec g n e)]) := by
  refine HasC.of [] (fn := Tryz.f21) tyOk mixed (fun args w => Tryz.call21 args w) Tryz.func21 rfl (by kernel_rfl) (Nat.le_of_ble_eq_true rfl) (⟨_, rfl⟩) ?_
  refine vc_seqr rfl (iQ 2 (iE 10 [(1, .p 1 0), (2, .p 2 0)] [(1, [Bv g, Hw n, Lw n, Iv e]), (2, [.v (.nilIface)])] ?_))
  refine vc_seq (vc_seqr rfl (iQ 1 (iC 38 [.agg [Bv g, Hw n, Lw n, Iv e]] (some 4) (c_May (Nat.lt_trans hm.1 e34_lt)) ?_)))
  rintro _ ⟨w, rfl, hw⟩
  refine iU .not (.bool w) (some 5) ?_
  refine all_false ((by rw [hw.2 hm]; simp)) ?_
  refine iE 10 [(1, .p 1 0), (2, .p 2 0), (5, Ba false)] [(1, [Bv g, Hw n, Lw n, Iv e]), (2, [.v (.nilIface)])] ?_
  refine iF (vc_skip (seq_n (vc_seqr rfl (iQ 4 (iE 10 [(1, .p 1 0), (2, .p 2 0), (5, Ba false)] [(1, [Bv g, Hw n, Lw n, Iv e]), (2, [.ifc 77 (.agg [Bv g, Hw n, Lw n, Iv e])])] ?_)))))
  refine vc_ret (iR (.agg [.ifc 77 (.agg [Bv g, Hw n, Lw n, Iv e])]) ?_)
  rfl
theorem may_int {x : Int} (h0 : -1000000 ≤ x) (h1 : x ≤ 1000000) : May (decide (x < 0)) x.natAbs 0 := ⟨by unfold E34; omega, by decide, by decide, fun h h2 => by have : x < 0 := (by simpa using h); omega⟩
theorem c_vInt {x : Int} (h0 : -1000000 ≤ x) (h1 : x ≤ 1000000) : HasC Tryz.prog 11 [.v (.int .i64 x)] (fun r => r = .agg [dNm x]) := by
  refine HasC.of [] (fn := Tryz.f11) tyOk mixed (fun args w => Tryz.call11 args w) Tryz.func11 rfl (by kernel_rfl) (Nat.le_of_ble_eq_true rfl) (⟨_, rfl⟩) ?_
  refine vc_seqr rfl (iQ 1 (iE 6 [(0, Ia x), (2, .p 2 0)] [(2, [.v (.nilIface)])] ?_))
  refine vc_seqr rfl (iQ 1 (iC 22 [Iv x] (some 4) (c_Int (x := x) (by omega) (by omega)) ?_))
  rintro _ rfl
  refine iC 21 [.agg [Bv (decide ((x) < 0)), Hw ((x).natAbs), Lw ((x).natAbs), Iv 0]] (some 5) (c_vNum (may_int h0 h1)) ?_
  rintro _ rfl
  refine iQ 1 (iE 6 [(2, .p 2 0)] [(2, [.ifc 77 (.agg [Bv (decide ((x) < 0)), Hw ((x).natAbs), Lw ((x).natAbs), Iv 0])])] ?_)
  refine vc_ret (iR (.agg [.ifc 77 (.agg [Bv (decide ((x) < 0)), Hw ((x).natAbs), Lw ((x).natAbs), Iv 0])]) ?_)
  rfl
theorem c_vBool {p : Bool} : HasC Tryz.prog 28 [.v (.bool p)] (fun r => r = .agg [.ifc 63 (.v (.bool p))]) := by
  refine HasC.of [] (fn := Tryz.f28) tyOk mixed (fun args w => Tryz.call28 args w) Tryz.func28 rfl (by kernel_rfl) (Nat.le_of_ble_eq_true rfl) (⟨_, rfl⟩) ?_
  refine vc_seqr rfl (iQ 1 (iE 6 [(0, Ba p), (2, .p 2 0)] [(2, [.v (.nilIface)])] ?_))
  refine vc_seqr rfl (iQ 4 (iE 6 [(2, .p 2 0)] [(2, [.ifc 63 (Bv p)])] ?_))
  refine vc_ret (iR (.agg [.ifc 63 (Bv p)]) ?_)
  rfl
theorem c_AsBoolB {p : Bool} : HasC Tryz.prog 15 [.agg [.ifc 63 (.v (.bool p))]] (fun r => r = .tup [.v (.bool p), .v (.bool true)]) := by
  refine HasC.of [] (fn := Tryz.f15) tyOk mixed (fun args w => Tryz.call15 args w) Tryz.func15 rfl (by kernel_rfl) (Nat.le_of_ble_eq_true rfl) (⟨_, rfl⟩) ?_
  refine vc_seqr rfl (iQ 3 (iE 14 [(1, .p 1 0), (2, Ba false), (3, Ba false)] [(1, [.ifc 63 (Bv p)])] ?_))
  refine vc_seqr rfl (iQ 8 (iE 14 [(2, Ba false), (3, Ba false), (4, Ba p), (5, Ba true)] [] ?_))
  refine vc_seqr rfl (iQ 4 (iE 14 [(2, Ba p), (3, Ba true)] [] ?_))
  refine vc_ret (iS (Bv p) (Bv true) [] ?_)
  rfl
theorem c_AsBool0  : HasC Tryz.prog 15 [.agg [.v (.nilIface)]] (fun r => r = .tup [.v (.bool false), .v (.bool false)]) := by
  refine HasC.of [] (fn := Tryz.f15) tyOk mixed (fun args w => Tryz.call15 args w) Tryz.func15 rfl (by kernel_rfl) (Nat.le_of_ble_eq_true rfl) (⟨_, rfl⟩) ?_
  refine vc_seqr rfl (iQ 3 (iE 14 [(1, .p 1 0), (2, Ba false), (3, Ba false)] [(1, [.v (.nilIface)])] ?_))
  refine vc_seqr rfl (iQ 8 (iE 14 [(2, Ba false), (3, Ba false), (4, Ba false), (5, Ba false)] [] ?_))
  refine vc_seqr rfl (iQ 4 (iE 14 [(2, Ba false), (3, Ba false)] [] ?_))
  refine vc_ret (iS (Bv false) (Bv false) [] ?_)
  rfl
theorem c_AsNumN {g : Bool} {n : Nat} {e : Int} : HasC Tryz.prog 54 [.agg [.ifc 77 (.agg [.v (.bool g), .v (.int .u64 (hiW (n))), .v (.int .u64 (loW (n))), .v (.int .i64 e)])]] (fun r => r = .tup [dDec g n e, .v (.bool true)]) := by
  refine HasC.of [] (fn := Tryz.f54) tyOk mixed (fun args w => Tryz.call54 args w) Tryz.func54 rfl (by kernel_rfl) (Nat.le_of_ble_eq_true rfl) (⟨_, rfl⟩) ?_
  refine vc_seqr rfl (iQ 3 (iE 14 [(1, .p 1 0), (2, .p 2 0), (3, Ba false)] [(1, [.ifc 77 (.agg [Bv g, Hw n, Lw n, Iv e])]), (2, [Bv false, Uv 0, Uv 0, Iv 0])] ?_))
  refine vc_seqr rfl (iQ 9 (iE 14 [(2, .p 2 0), (3, Ba false), (4, .p 4 0), (5, Ba true)] [(2, [Bv false, Uv 0, Uv 0, Iv 0]), (4, [Bv g, Hw n, Lw n, Iv e])] ?_))
  refine vc_seqr rfl (iQ 4 (iE 14 [(2, .p 2 0), (3, Ba true), (4, .p 4 0)] [(2, [Bv g, Hw n, Lw n, Iv e]), (4, [Bv g, Hw n, Lw n, Iv e])] ?_))
  refine vc_ret (iS (.agg [Bv g, Hw n, Lw n, Iv e]) (Bv true) [] ?_)
  rfl
theorem c_AsRangeR {x y : Int} {p q : Bool} : HasC Tryz.prog 24 [.agg [.ifc 76 (.agg [.ifc 77 (.agg [.v (.bool (decide ((x) < 0))), .v (.int .u64 (hiW ((x).natAbs))), .v (.int .u64 (loW ((x).natAbs))), .v (.int .i64 0)]), .ifc 77 (.agg [.v (.bool (decide ((y) < 0))), .v (.int .u64 (hiW ((y).natAbs))), .v (.int .u64 (loW ((y).natAbs))), .v (.int .i64 0)]), .v (.bool p), .v (.bool q)])]] (fun r => r = .tup [.agg [dNm x, dNm y], .agg [.v (.bool p), .v (.bool q)], .v (.bool true)]) := by
  refine HasC.of [2] (fn := Tryz.f24) tyOk mixed (fun args w => Tryz.call24 args w) Tryz.func24 rfl (by kernel_rfl) (Nat.le_of_ble_eq_true rfl) (⟨_, rfl⟩) ?_
  refine vc_seqr rfl (iQ 4 (iE 18 [(1, .p 1 0), (2, .p 2 0), (3, .p 3 0), (4, Ba false)] [(1, [.ifc 76 (.agg [.ifc 77 (.agg [Bv (decide ((x) < 0)), Hw ((x).natAbs), Lw ((x).natAbs), Iv 0]), .ifc 77 (.agg [Bv (decide ((y) < 0)), Hw ((y).natAbs), Lw ((y).natAbs), Iv 0]), Bv p, Bv q])]), (2, [.v (.nilIface), .v (.nilIface)]), (3, [Bv false, Bv false])] ?_))
  refine vc_seqr rfl (iQ 9 (iE 18 [(2, .p 2 0), (3, .p 3 0), (4, Ba false), (5, .p 5 0), (6, Ba true)] [(2, [.v (.nilIface), .v (.nilIface)]), (3, [Bv false, Bv false]), (5, [.ifc 77 (.agg [Bv (decide ((x) < 0)), Hw ((x).natAbs), Lw ((x).natAbs), Iv 0]), .ifc 77 (.agg [Bv (decide ((y) < 0)), Hw ((y).natAbs), Lw ((y).natAbs), Iv 0]), Bv p, Bv q])] ?_))
  refine vc_seqrx rfl (by kernel_rfl) ?_
  refine iQ 8 (iE 18 [(2, .p 2 0), (3, .p 3 0), (4, Ba true), (5, .p 5 0)] [(2, [.ifc 77 (.agg [Bv (decide ((x) < 0)), Hw ((x).natAbs), Lw ((x).natAbs), Iv 0]), .ifc 77 (.agg [Bv (decide ((y) < 0)), Hw ((y).natAbs), Lw ((y).natAbs), Iv 0])]), (3, [Bv p, Bv q]), (5, [.ifc 77 (.agg [Bv (decide ((x) < 0)), Hw ((x).natAbs), Lw ((x).natAbs), Iv 0]), .ifc 77 (.agg [Bv (decide ((y) < 0)), Hw ((y).natAbs), Lw ((y).natAbs), Iv 0]), Bv p, Bv q])] ?_)
  refine vc_ret (iS (.agg [.ifc 77 (.agg [Bv (decide ((x) < 0)), Hw ((x).natAbs), Lw ((x).natAbs), Iv 0]), .ifc 77 (.agg [Bv (decide ((y) < 0)), Hw ((y).natAbs), Lw ((y).natAbs), Iv 0])]) (.agg [Bv p, Bv q]) [Bv true] ?_)
  rfl
theorem c_AsRangeN {x : Int} : HasC Tryz.prog 24 [.agg [.ifc 77 (.agg [.v (.bool (decide ((x) < 0))), .v (.int .u64 (hiW ((x).natAbs))), .v (.int .u64 (loW ((x).natAbs))), .v (.int .i64 0)])]] (fun r => r = .tup [.agg [.v .nilIface, .v .nilIface], .agg [.v (.bool false), .v (.bool false)], .v (.bool false)]) := by
  refine HasC.of [2] (fn := Tryz.f24) tyOk mixed (fun args w => Tryz.call24 args w) Tryz.func24 rfl (by kernel_rfl) (Nat.le_of_ble_eq_true rfl) (⟨_, rfl⟩) ?_
  refine vc_seqr rfl (iQ 4 (iE 18 [(1, .p 1 0), (2, .p 2 0), (3, .p 3 0), (4, Ba false)] [(1, [.ifc 77 (.agg [Bv (decide ((x) < 0)), Hw ((x).natAbs), Lw ((x).natAbs), Iv 0])]), (2, [.v (.nilIface), .v (.nilIface)]), (3, [Bv false, Bv false])] ?_))
  refine vc_seqr rfl (iQ 9 (iE 18 [(2, .p 2 0), (3, .p 3 0), (4, Ba false), (5, .p 5 0), (6, Ba false)] [(2, [.v (.nilIface), .v (.nilIface)]), (3, [Bv false, Bv false]), (5, [.v (.nilIface), .v (.nilIface), Bv false, Bv false])] ?_))
  refine vc_seqrx rfl (by kernel_rfl) ?_
  refine iQ 8 (iE 18 [(2, .p 2 0), (3, .p 3 0), (4, Ba false), (5, .p 5 0)] [(2, [.v (.nilIface), .v (.nilIface)]), (3, [Bv false, Bv false]), (5, [.v (.nilIface), .v (.nilIface), Bv false, Bv false])] ?_)
  refine vc_ret (iS (.agg [.v (.nilIface), .v (.nilIface)]) (.agg [Bv false, Bv false]) [Bv false] ?_)
  rfl
theorem c_AsRangeT {s : ByteArray} : HasC Tryz.prog 24 [.agg [.ifc 62 (.v (.string s))]] (fun r => r = .tup [.agg [.v .nilIface, .v .nilIface], .agg [.v (.bool false), .v (.bool false)], .v (.bool false)]) := by
  refine HasC.of [2] (fn := Tryz.f24) tyOk mixed (fun args w => Tryz.call24 args w) Tryz.func24 rfl (by kernel_rfl) (Nat.le_of_ble_eq_true rfl) (⟨_, rfl⟩) ?_
  refine vc_seqr rfl (iQ 4 (iE 18 [(1, .p 1 0), (2, .p 2 0), (3, .p 3 0), (4, Ba false)] [(1, [.ifc 62 (Sv s)]), (2, [.v (.nilIface), .v (.nilIface)]), (3, [Bv false, Bv false])] ?_))
  refine vc_seqr rfl (iQ 9 (iE 18 [(2, .p 2 0), (3, .p 3 0), (4, Ba false), (5, .p 5 0), (6, Ba false)] [(2, [.v (.nilIface), .v (.nilIface)]), (3, [Bv false, Bv false]), (5, [.v (.nilIface), .v (.nilIface), Bv false, Bv false])] ?_))
  refine vc_seqrx rfl (by kernel_rfl) ?_
  refine iQ 8 (iE 18 [(2, .p 2 0), (3, .p 3 0), (4, Ba false), (5, .p 5 0)] [(2, [.v (.nilIface), .v (.nilIface)]), (3, [Bv false, Bv false]), (5, [.v (.nilIface), .v (.nilIface), Bv false, Bv false])] ?_)
  refine vc_ret (iS (.agg [.v (.nilIface), .v (.nilIface)]) (.agg [Bv false, Bv false]) [Bv false] ?_)
  rfl
theorem c_OrdT {k : Int} (h0 : 3 ≤ k) (h1 : k ≤ 9) : HasC Tryz.prog 25 [.v (.int .i64 k)] (fun r => r = .v (.bool true)) := by
  refine HasC.of [] (fn := Tryz.f25) tyOk mixed (fun args w => Tryz.call25 args w) Tryz.func25 rfl (by kernel_rfl) (Nat.le_of_ble_eq_true rfl) (⟨_, rfl⟩) ?_
  refine vc_seqr rfl (iQ 1 (iE 9 [(0, Ia k), (2, Ba false)] [] ?_))
  refine vc_seqr rfl (iQ 1 (iB .geq 69 (.int .i64 k) (.int .i64 3) (some 4) ?_))
  refine all_true (h0) ?_
  refine iQ 2 (iB .leq 69 (.int .i64 k) (.int .i64 9) (some 7) ?_)
  refine all_true (h1) ?_
  refine iQ 2 (iE 9 [(2, Ba true)] [] ?_)
  refine vc_ret (iR (Bv true) ?_)
  rfl
set_option maxHeartbeats 1600000 in
theorem c_vRange {x y : Int} {p q : Bool} : HasC Tryz.prog 20 [.agg [.ifc 77 (.agg [.v (.bool (decide ((x) < 0))), .v (.int .u64 (hiW ((x).natAbs))), .v (.int .u64 (loW ((x).natAbs))), .v (.int .i64 0)])], .agg [.ifc 77 (.agg [.v (.bool (decide ((y) < 0))), .v (.int .u64 (hiW ((y).natAbs))), .v (.int .u64 (loW ((y).natAbs))), .v (.int .i64 0)])], .agg [.v (.bool p), .v (.bool q)]] (fun r => r = .agg [dRg x y p q]) := by
  refine HasC.of [] (fn := Tryz.f20) tyOk mixed (fun args w => Tryz.call20 args w) Tryz.func20 rfl (by kernel_rfl) (Nat.le_of_ble_eq_true rfl) (⟨_, rfl⟩) ?_
  refine vc_seqr rfl (iQ 4 (iE 71 [(3, .p 3 0), (4, .p 4 0), (5, .p 5 0), (6, .p 6 0)] [(3, [.ifc 77 (.agg [Bv (decide ((x) < 0)), Hw ((x).natAbs), Lw ((x).natAbs), Iv 0])]), (4, [.ifc 77 (.agg [Bv (decide ((y) < 0)), Hw ((y).natAbs), Lw ((y).natAbs), Iv 0])]), (5, [Bv p, Bv q]), (6, [.v (.nilIface)])] ?_))
  refine vc_seqr rfl (iQ 1 (iC 26 [.agg [.ifc 77 (.agg [Bv (decide ((x) < 0)), Hw ((x).natAbs), Lw ((x).natAbs), Iv 0])]] (some 9) (c_KindN) ?_))
  rintro _ rfl
  refine iQ 1 (iE 71 [(3, .p 3 0), (4, .p 4 0), (5, .p 5 0), (6, .p 6 0), (7, Ia 3)] [(3, [.ifc 77 (.agg [Bv (decide ((x) < 0)), Hw ((x).natAbs), Lw ((x).natAbs), Iv 0])]), (4, [.ifc 77 (.agg [Bv (decide ((y) < 0)), Hw ((y).natAbs), Lw ((y).natAbs), Iv 0])]), (5, [Bv p, Bv q]), (6, [.v (.nilIface)])] ?_)
  refine vc_seq (vc_seqr rfl (iQ 1 (iC 27 [.agg [.ifc 77 (.agg [Bv (decide ((x) < 0)), Hw ((x).natAbs), Lw ((x).natAbs), Iv 0])]] (some 11) (c_NullI) ?_)))
  rintro _ rfl
  refine iE 71 [(3, .p 3 0), (4, .p 4 0), (5, .p 5 0), (6, .p 6 0), (7, Ia 3), (11, Ba false)] [(3, [.ifc 77 (.agg [Bv (decide ((x) < 0)), Hw ((x).natAbs), Lw ((x).natAbs), Iv 0])]), (4, [.ifc 77 (.agg [Bv (decide ((y) < 0)), Hw ((y).natAbs), Lw ((y).natAbs), Iv 0])]), (5, [Bv p, Bv q]), (6, [.v (.nilIface)])] ?_
  refine iF (vc_skip (seq_n (vc_seq (vc_seqr rfl (iQ 1 (iC 27 [.agg [.ifc 77 (.agg [Bv (decide ((y) < 0)), Hw ((y).natAbs), Lw ((y).natAbs), Iv 0])]] (some 15) (c_NullI) ?_))))))
  rintro _ rfl
  refine iU .not (.bool false) (some 16) ?_
  refine all_true (rfl) ?_
  refine iQ 2 (iC 26 [.agg [.ifc 77 (.agg [Bv (decide ((y) < 0)), Hw ((y).natAbs), Lw ((y).natAbs), Iv 0])]] (some 19) (c_KindN) ?_)
  rintro _ rfl
  refine iQ 1 (iB .neq 69 (.int .i64 3) (.int .i64 3) (some 21) ?_)
  refine all_false ((by simp)) ?_
  refine iQ 3 (iC 27 [.agg [.ifc 77 (.agg [Bv (decide ((x) < 0)), Hw ((x).natAbs), Lw ((x).natAbs), Iv 0])]] (some 25) (c_NullI) ?_)
  rintro _ rfl
  refine iU .not (.bool false) (some 26) ?_
  refine all_true (rfl) ?_
  refine iQ 2 (iC 27 [.agg [.ifc 77 (.agg [Bv (decide ((y) < 0)), Hw ((y).natAbs), Lw ((y).natAbs), Iv 0])]] (some 29) (c_NullI) ?_)
  rintro _ rfl
  refine iU .not (.bool false) (some 30) ?_
  refine all_true (rfl) ?_
  refine iQ 3 (iC 26 [.agg [.ifc 77 (.agg [Bv (decide ((x) < 0)), Hw ((x).natAbs), Lw ((x).natAbs), Iv 0])]] (some 34) (c_KindN) ?_)
  rintro _ rfl
  refine iQ 1 (iC 26 [.agg [.ifc 77 (.agg [Bv (decide ((y) < 0)), Hw ((y).natAbs), Lw ((y).natAbs), Iv 0])]] (some 36) (c_KindN) ?_)
  rintro _ rfl
  refine iB .neq 69 (.int .i64 3) (.int .i64 3) (some 37) ?_
  refine all_false ((by simp)) ?_
  refine iQ 4 (iC 25 [Iv 3] (some 42) (c_OrdT (by decide) (by decide)) ?_)
  rintro _ rfl
  refine iU .not (.bool true) (some 43) ?_
  refine all_false ((by simp)) ?_
  refine iQ 5 (iE 71 [(3, .p 3 0), (4, .p 4 0), (5, .p 5 0), (6, .p 6 0), (11, Ba false), (48, Ba false)] [(3, [.ifc 77 (.agg [Bv (decide ((x) < 0)), Hw ((x).natAbs), Lw ((x).natAbs), Iv 0])]), (4, [.ifc 77 (.agg [Bv (decide ((y) < 0)), Hw ((y).natAbs), Lw ((y).natAbs), Iv 0])]), (5, [Bv p, Bv q]), (6, [.v (.nilIface)])] ?_)
  refine iF (vc_skip (seq_n (vc_seqr rfl (iQ 6 ?_))))
  cases p
  · skip
    refine iQ 7 ?_
    cases q
    · skip
      refine iQ 9 (iE 71 [(3, .p 3 0), (4, .p 4 0), (6, .p 6 0), (11, Ba false), (48, Ba false)] [(3, [.ifc 77 (.agg [Bv (decide ((x) < 0)), Hw ((x).natAbs), Lw ((x).natAbs), Iv 0])]), (4, [.ifc 77 (.agg [Bv (decide ((y) < 0)), Hw ((y).natAbs), Lw ((y).natAbs), Iv 0])]), (6, [.ifc 76 (.agg [.ifc 77 (.agg [Bv (decide ((x) < 0)), Hw ((x).natAbs), Lw ((x).natAbs), Iv 0]), .ifc 77 (.agg [Bv (decide ((y) < 0)), Hw ((y).natAbs), Lw ((y).natAbs), Iv 0]), Bv false, Bv false])])] ?_)
      refine vc_ret (iR (.agg [.ifc 76 (.agg [.ifc 77 (.agg [Bv (decide ((x) < 0)), Hw ((x).natAbs), Lw ((x).natAbs), Iv 0]), .ifc 77 (.agg [Bv (decide ((y) < 0)), Hw ((y).natAbs), Lw ((y).natAbs), Iv 0]), Bv false, Bv false])]) ?_)
      rfl
    · skip
      refine iQ 1 (iC 27 [.agg [.ifc 77 (.agg [Bv (decide ((y) < 0)), Hw ((y).natAbs), Lw ((y).natAbs), Iv 0])]] (some 64) (c_NullI) ?_)
      rintro _ rfl
      refine iU .not (.bool false) (some 65) ?_
      refine all_true (rfl) ?_
      refine iQ 6 (iE 71 [(3, .p 3 0), (4, .p 4 0), (6, .p 6 0), (11, Ba false), (48, Ba false)] [(3, [.ifc 77 (.agg [Bv (decide ((x) < 0)), Hw ((x).natAbs), Lw ((x).natAbs), Iv 0])]), (4, [.ifc 77 (.agg [Bv (decide ((y) < 0)), Hw ((y).natAbs), Lw ((y).natAbs), Iv 0])]), (6, [.ifc 76 (.agg [.ifc 77 (.agg [Bv (decide ((x) < 0)), Hw ((x).natAbs), Lw ((x).natAbs), Iv 0]), .ifc 77 (.agg [Bv (decide ((y) < 0)), Hw ((y).natAbs), Lw ((y).natAbs), Iv 0]), Bv false, Bv true])])] ?_)
      refine vc_ret (iR (.agg [.ifc 76 (.agg [.ifc 77 (.agg [Bv (decide ((x) < 0)), Hw ((x).natAbs), Lw ((x).natAbs), Iv 0]), .ifc 77 (.agg [Bv (decide ((y) < 0)), Hw ((y).natAbs), Lw ((y).natAbs), Iv 0]), Bv false, Bv true])]) ?_)
      rfl
  · skip
    refine iQ 1 (iC 27 [.agg [.ifc 77 (.agg [Bv (decide ((x) < 0)), Hw ((x).natAbs), Lw ((x).natAbs), Iv 0])]] (some 57) (c_NullI) ?_)
    rintro _ rfl
    refine iU .not (.bool false) (some 58) ?_
    refine all_true (rfl) ?_
    refine iQ 4 ?_
    cases q
    · skip
      refine iQ 9 (iE 71 [(3, .p 3 0), (4, .p 4 0), (6, .p 6 0), (11, Ba false), (48, Ba false)] [(3, [.ifc 77 (.agg [Bv (decide ((x) < 0)), Hw ((x).natAbs), Lw ((x).natAbs), Iv 0])]), (4, [.ifc 77 (.agg [Bv (decide ((y) < 0)), Hw ((y).natAbs), Lw ((y).natAbs), Iv 0])]), (6, [.ifc 76 (.agg [.ifc 77 (.agg [Bv (decide ((x) < 0)), Hw ((x).natAbs), Lw ((x).natAbs), Iv 0]), .ifc 77 (.agg [Bv (decide ((y) < 0)), Hw ((y).natAbs), Lw ((y).natAbs), Iv 0]), Bv true, Bv false])])] ?_)
      refine vc_ret (iR (.agg [.ifc 76 (.agg [.ifc 77 (.agg [Bv (decide ((x) < 0)), Hw ((x).natAbs), Lw ((x).natAbs), Iv 0]), .ifc 77 (.agg [Bv (decide ((y) < 0)), Hw ((y).natAbs), Lw ((y).natAbs), Iv 0]), Bv true, Bv false])]) ?_)
      rfl
    · skip
      refine iQ 1 (iC 27 [.agg [.ifc 77 (.agg [Bv (decide ((y) < 0)), Hw ((y).natAbs), Lw ((y).natAbs), Iv 0])]] (some 64) (c_NullI) ?_)
      rintro _ rfl
      refine iU .not (.bool false) (some 65) ?_
      refine all_true (rfl) ?_
      refine iQ 6 (iE 71 [(3, .p 3 0), (4, .p 4 0), (6, .p 6 0), (11, Ba false), (48, Ba false)] [(3, [.ifc 77 (.agg [Bv (decide ((x) < 0)), Hw ((x).natAbs), Lw ((x).natAbs), Iv 0])]), (4, [.ifc 77 (.agg [Bv (decide ((y) < 0)), Hw ((y).natAbs), Lw ((y).natAbs), Iv 0])]), (6, [.ifc 76 (.agg [.ifc 77 (.agg [Bv (decide ((x) < 0)), Hw ((x).natAbs), Lw ((x).natAbs), Iv 0]), .ifc 77 (.agg [Bv (decide ((y) < 0)), Hw ((y).natAbs), Lw ((y).natAbs), Iv 0]), Bv true, Bv true])])] ?_)
      refine vc_ret (iR (.agg [.ifc 76 (.agg [.ifc 77 (.agg [Bv (decide ((x) < 0)), Hw ((x).natAbs), Lw ((x).natAbs), Iv 0]), .ifc 77 (.agg [Bv (decide ((y) < 0)), Hw ((y).natAbs), Lw ((y).natAbs), Iv 0]), Bv true, Bv true])]) ?_)
      rfl
theorem c_ofN {x : Int} : HasC Tryz.prog 16 [.agg [.ifc 77 (.agg [.v (.bool (decide ((x) < 0))), .v (.int .u64 (hiW ((x).natAbs))), .v (.int .u64 (loW ((x).natAbs))), .v (.int .i64 0)])]] (fun r => r = .tup [dSp x x true true true, .v (.bool true)]) := by
  refine HasC.of [] (fn := Tryz.f16) tyOk mixed (fun args w => Tryz.call16 args w) Tryz.func16 rfl (by kernel_rfl) (Nat.le_of_ble_eq_true rfl) (⟨_, rfl⟩) ?_
  refine vc_seqr rfl (iQ 3 (iE 38 [(1, .p 1 0), (2, .p 2 0), (3, Ba false)] [(1, [.ifc 77 (.agg [Bv (decide ((x) < 0)), Hw ((x).natAbs), Lw ((x).natAbs), Iv 0])]), (2, [.v (.nilIface), .v (.nilIface), Bv false, Bv false, Bv false])] ?_))
  refine vc_seqr rfl (iQ 1 (iC 24 [.agg [.ifc 77 (.agg [Bv (decide ((x) < 0)), Hw ((x).natAbs), Lw ((x).natAbs), Iv 0])]] (some 9) (c_AsRangeN) ?_))
  rintro _ rfl
  refine iQ 9 (iE 38 [(1, .p 1 0), (2, .p 2 0), (3, Ba false), (4, .p 4 0), (5, .p 5 0), (6, Ba false)] [(1, [.ifc 77 (.agg [Bv (decide ((x) < 0)), Hw ((x).natAbs), Lw ((x).natAbs), Iv 0])]), (2, [.v (.nilIface), .v (.nilIface), Bv false, Bv false, Bv false]), (4, [.v (.nilIface), .v (.nilIface)]), (5, [Bv false, Bv false])] ?_)
  refine vc_seq (vc_seqr rfl (iQ 1 (iU .not (.bool false) (some 14) ?_)))
  refine all_true (rfl) ?_
  refine iE 38 [(1, .p 1 0), (2, .p 2 0), (3, Ba false), (4, .p 4 0), (5, .p 5 0), (14, Ba true)] [(1, [.ifc 77 (.agg [Bv (decide ((x) < 0)), Hw ((x).natAbs), Lw ((x).natAbs), Iv 0])]), (2, [.v (.nilIface), .v (.nilIface), Bv false, Bv false, Bv false]), (4, [.v (.nilIface), .v (.nilIface)]), (5, [Bv false, Bv false])] ?_
  refine iT (vc_seqr rfl (iQ 5 (iC 26 [.agg [.ifc 77 (.agg [Bv (decide ((x) < 0)), Hw ((x).natAbs), Lw ((x).natAbs), Iv 0])]] (some 20) (c_KindN) ?_)))
  rintro _ rfl
  refine iC 25 [Iv 3] (some 21) (c_OrdT (by decide) (by decide)) ?_
  rintro _ rfl
  refine iQ 2 (iE 38 [(1, .p 1 0), (2, .p 2 0), (3, Ba true), (4, .p 4 0), (5, .p 5 0), (14, Ba true)] [(1, [.ifc 77 (.agg [Bv (decide ((x) < 0)), Hw ((x).natAbs), Lw ((x).natAbs), Iv 0])]), (2, [.ifc 77 (.agg [Bv (decide ((x) < 0)), Hw ((x).natAbs), Lw ((x).natAbs), Iv 0]), .ifc 77 (.agg [Bv (decide ((x) < 0)), Hw ((x).natAbs), Lw ((x).natAbs), Iv 0]), Bv true, Bv true, Bv true]), (4, [.v (.nilIface), .v (.nilIface)]), (5, [Bv false, Bv false])] ?_)
  refine vc_ret (seq_r (iS (.agg [.ifc 77 (.agg [Bv (decide ((x) < 0)), Hw ((x).natAbs), Lw ((x).natAbs), Iv 0]), .ifc 77 (.agg [Bv (decide ((x) < 0)), Hw ((x).natAbs), Lw ((x).natAbs), Iv 0]), Bv true, Bv true, Bv true]) (Bv true) [] ?_))
  rfl
theorem c_ofR {x y : Int} {p q : Bool} : HasC Tryz.prog 16 [.agg [.ifc 76 (.agg [.ifc 77 (.agg [.v (.bool (decide ((x) < 0))), .v (.int .u64 (hiW ((x).natAbs))), .v (.int .u64 (loW ((x).natAbs))), .v (.int .i64 0)]), .ifc 77 (.agg [.v (.bool (decide ((y) < 0))), .v (.int .u64 (hiW ((y).natAbs))), .v (.int .u64 (loW ((y).natAbs))), .v (.int .i64 0)]), .v (.bool p), .v (.bool q)])]] (fun r => r = .tup [dSp x y p q false, .v (.bool true)]) := by
  refine HasC.of [] (fn := Tryz.f16) tyOk mixed (fun args w => Tryz.call16 args w) Tryz.func16 rfl (by kernel_rfl) (Nat.le_of_ble_eq_true rfl) (⟨_, rfl⟩) ?_
  refine vc_seqr rfl (iQ 3 (iE 38 [(1, .p 1 0), (2, .p 2 0), (3, Ba false)] [(1, [.ifc 76 (.agg [.ifc 77 (.agg [Bv (decide ((x) < 0)), Hw ((x).natAbs), Lw ((x).natAbs), Iv 0]), .ifc 77 (.agg [Bv (decide ((y) < 0)), Hw ((y).natAbs), Lw ((y).natAbs), Iv 0]), Bv p, Bv q])]), (2, [.v (.nilIface), .v (.nilIface), Bv false, Bv false, Bv false])] ?_))
  refine vc_seqr rfl (iQ 1 (iC 24 [.agg [.ifc 76 (.agg [.ifc 77 (.agg [Bv (decide ((x) < 0)), Hw ((x).natAbs), Lw ((x).natAbs), Iv 0]), .ifc 77 (.agg [Bv (decide ((y) < 0)), Hw ((y).natAbs), Lw ((y).natAbs), Iv 0]), Bv p, Bv q])]] (some 9) (c_AsRangeR) ?_))
  rintro _ rfl
  refine iQ 9 (iE 38 [(1, .p 1 0), (2, .p 2 0), (3, Ba false), (4, .p 4 0), (5, .p 5 0), (6, Ba true)] [(1, [.ifc 76 (.agg [.ifc 77 (.agg [Bv (decide ((x) < 0)), Hw ((x).natAbs), Lw ((x).natAbs), Iv 0]), .ifc 77 (.agg [Bv (decide ((y) < 0)), Hw ((y).natAbs), Lw ((y).natAbs), Iv 0]), Bv p, Bv q])]), (2, [.v (.nilIface), .v (.nilIface), Bv false, Bv false, Bv false]), (4, [.ifc 77 (.agg [Bv (decide ((x) < 0)), Hw ((x).natAbs), Lw ((x).natAbs), Iv 0]), .ifc 77 (.agg [Bv (decide ((y) < 0)), Hw ((y).natAbs), Lw ((y).natAbs), Iv 0])]), (5, [Bv p, Bv q])] ?_)
  refine vc_seq (vc_seqr rfl (iQ 1 (iU .not (.bool true) (some 14) ?_)))
  refine all_false ((by simp)) ?_
  refine iE 38 [(1, .p 1 0), (2, .p 2 0), (3, Ba false), (4, .p 4 0), (5, .p 5 0), (14, Ba false)] [(1, [.ifc 76 (.agg [.ifc 77 (.agg [Bv (decide ((x) < 0)), Hw ((x).natAbs), Lw ((x).natAbs), Iv 0]), .ifc 77 (.agg [Bv (decide ((y) < 0)), Hw ((y).natAbs), Lw ((y).natAbs), Iv 0]), Bv p, Bv q])]), (2, [.v (.nilIface), .v (.nilIface), Bv false, Bv false, Bv false]), (4, [.ifc 77 (.agg [Bv (decide ((x) < 0)), Hw ((x).natAbs), Lw ((x).natAbs), Iv 0]), .ifc 77 (.agg [Bv (decide ((y) < 0)), Hw ((y).natAbs), Lw ((y).natAbs), Iv 0])]), (5, [Bv p, Bv q])] ?_
  refine iF (vc_skip (seq_n (vc_seqr rfl (iQ 8 (iC 27 [.agg [.ifc 77 (.agg [Bv (decide ((x) < 0)), Hw ((x).natAbs), Lw ((x).natAbs), Iv 0])]] (some 30) (c_NullI) ?_)))))
  rintro _ rfl
  refine iU .not (.bool false) (some 31) ?_
  refine all_true (rfl) ?_
  refine iQ 3 (iC 27 [.agg [.ifc 77 (.agg [Bv (decide ((y) < 0)), Hw ((y).natAbs), Lw ((y).natAbs), Iv 0])]] (some 35) (c_NullI) ?_)
  rintro _ rfl
  refine iU .not (.bool false) (some 36) ?_
  refine all_true (rfl) ?_
  refine iQ 3 (iE 38 [(1, .p 1 0), (2, .p 2 0), (3, Ba true), (4, .p 4 0), (5, .p 5 0), (14, Ba false)] [(1, [.ifc 76 (.agg [.ifc 77 (.agg [Bv (decide ((x) < 0)), Hw ((x).natAbs), Lw ((x).natAbs), Iv 0]), .ifc 77 (.agg [Bv (decide ((y) < 0)), Hw ((y).natAbs), Lw ((y).natAbs), Iv 0]), Bv p, Bv q])]), (2, [.ifc 77 (.agg [Bv (decide ((x) < 0)), Hw ((x).natAbs), Lw ((x).natAbs), Iv 0]), .ifc 77 (.agg [Bv (decide ((y) < 0)), Hw ((y).natAbs), Lw ((y).natAbs), Iv 0]), Bv p, Bv q, Bv false]), (4, [.ifc 77 (.agg [Bv (decide ((x) < 0)), Hw ((x).natAbs), Lw ((x).natAbs), Iv 0]), .ifc 77 (.agg [Bv (decide ((y) < 0)), Hw ((y).natAbs), Lw ((y).natAbs), Iv 0])]), (5, [Bv p, Bv q])] ?_)
  refine vc_ret (iS (.agg [.ifc 77 (.agg [Bv (decide ((x) < 0)), Hw ((x).natAbs), Lw ((x).natAbs), Iv 0]), .ifc 77 (.agg [Bv (decide ((y) < 0)), Hw ((y).natAbs), Lw ((y).natAbs), Iv 0]), Bv p, Bv q, Bv false]) (Bv true) [] ?_)
  rfl
theorem c_ofT {s : ByteArray} : HasC Tryz.prog 16 [.agg [.ifc 62 (.v (.string s))]] (fun r => r = .tup [.agg [.ifc 62 (.v (.string s)), .ifc 62 (.v (.string s)), .v (.bool true), .v (.bool true), .v (.bool true)], .v (.bool true)]) := by
  refine HasC.of [] (fn := Tryz.f16) tyOk mixed (fun args w => Tryz.call16 args w) Tryz.func16 rfl (by kernel_rfl) (Nat.le_of_ble_eq_true rfl) (⟨_, rfl⟩) ?_
  refine vc_seqr rfl (iQ 3 (iE 38 [(1, .p 1 0), (2, .p 2 0), (3, Ba false)] [(1, [.ifc 62 (Sv s)]), (2, [.v (.nilIface), .v (.nilIface), Bv false, Bv false, Bv false])] ?_))
  refine vc_seqr rfl (iQ 1 (iC 24 [.agg [.ifc 62 (Sv s)]] (some 9) (c_AsRangeT) ?_))
  rintro _ rfl
  refine iQ 9 (iE 38 [(1, .p 1 0), (2, .p 2 0), (3, Ba false), (4, .p 4 0), (5, .p 5 0), (6, Ba false)] [(1, [.ifc 62 (Sv s)]), (2, [.v (.nilIface), .v (.nilIface), Bv false, Bv false, Bv false]), (4, [.v (.nilIface), .v (.nilIface)]), (5, [Bv false, Bv false])] ?_)
  refine vc_seq (vc_seqr rfl (iQ 1 (iU .not (.bool false) (some 14) ?_)))
  refine all_true (rfl) ?_
  refine iE 38 [(1, .p 1 0), (2, .p 2 0), (3, Ba false), (4, .p 4 0), (5, .p 5 0), (14, Ba true)] [(1, [.ifc 62 (Sv s)]), (2, [.v (.nilIface), .v (.nilIface), Bv false, Bv false, Bv false]), (4, [.v (.nilIface), .v (.nilIface)]), (5, [Bv false, Bv false])] ?_
  refine iT (vc_seqr rfl (iQ 5 (iC 26 [.agg [.ifc 62 (Sv s)]] (some 20) (c_Kind_txt) ?_)))
  rintro _ rfl
  refine iC 25 [Iv 4] (some 21) (c_OrdT (by decide) (by decide)) ?_
  rintro _ rfl
  refine iQ 2 (iE 38 [(1, .p 1 0), (2, .p 2 0), (3, Ba true), (4, .p 4 0), (5, .p 5 0), (14, Ba true)] [(1, [.ifc 62 (Sv s)]), (2, [.ifc 62 (Sv s), .ifc 62 (Sv s), Bv true, Bv true, Bv true]), (4, [.v (.nilIface), .v (.nilIface)]), (5, [Bv false, Bv false])] ?_)
  refine vc_ret (seq_r (iS (.agg [.ifc 62 (Sv s), .ifc 62 (Sv s), Bv true, Bv true, Bv true]) (Bv true) [] ?_))
  rfl

-- truths
def notI (x : Int) : Int := if x = 2 then 1 else if x = 1 then 2 else 0
def andI (x y : Int) : Int := if x = 1 ∨ y = 1 then 1 else if x = 2 ∧ y = 2 then 2 else 0
def ofI (p : Bool) : Int := if p = true then 2 else 1
theorem c_eOf {p : Bool} : HasC Tryz.prog 43 [.v (.bool p)] (fun r => r = .v (.int .i64 (ofI p))) := by
  refine HasC.of [] (fn := Tryz.f43) tyOk mixed (fun args w => Tryz.call43 args w) Tryz.func43 rfl (by kernel_rfl) (Nat.le_of_ble_eq_true rfl) (⟨_, rfl⟩) ?_
  refine vc_seqr rfl (iQ 1 (iE 4 [(0, Ba p), (2, Ia 0)] [] ?_))
  refine vc_seq (vc_seqr rfl (iQ 1 (iE 4 [(2, Ia 0), (3, Ba p)] [] ?_)))
  cases p
  · skip
    refine iF (vc_skip (seq_n (vc_seqr rfl (iQ 1 (iE 4 [(2, Ia 1), (3, Ba false)] [] ?_)))))
    refine vc_ret (iR (Iv 1) ?_)
    rfl
  · skip
    refine iT (vc_seqr rfl (iQ 1 (iE 4 [(2, Ia 2), (3, Ba true)] [] ?_)))
    refine vc_ret (seq_r (iR (Iv 2) ?_))
    rfl
theorem c_eNot {x : Int} : HasC Tryz.prog 33 [.v (.int .i64 x)] (fun r => r = .v (.int .i64 (notI x))) := by
  refine HasC.of [] (fn := Tryz.f33) tyOk mixed (fun args w => Tryz.call33 args w) Tryz.func33 rfl (by kernel_rfl) (Nat.le_of_ble_eq_true rfl) (⟨_, rfl⟩) ?_
  refine vc_seqr rfl (iQ 1 (iE 8 [(0, Ia x), (2, Ia 0)] [] ?_))
  refine vc_seq (vc_seqr rfl (iQ 1 (iE 8 [(2, Ia 0), (3, Ia x)] [] ?_)))
  refine vc_block (vc_seqr rfl (iB .eql 51 (.int .i64 x) (.int .i64 2) (some 5) ?_))
  intro c5 hc5
  refine iQ 1 (iE 8 [(2, Ia 0), (3, Ia x), (4, Ba c5)] [] ?_)
  cases c5
  · replace hc5 := bf hc5
    refine iF (vc_seqr rfl (iB .eql 51 (.int .i64 x) (.int .i64 1) (some 7) ?_))
    intro c7 hc7
    refine iQ 1 (iE 8 [(2, Ia 0), (3, Ia x), (4, Ba false), (6, Ba c7)] [] ?_)
    cases c7
    · replace hc7 := bf hc7
      refine iF (vc_skip (block_n (seq_n (vc_seqr rfl (iQ 1 (iE 8 [(2, Ia 0), (3, Ia x), (4, Ba false), (6, Ba false)] [] ?_))))))
      refine vc_ret (iR (Iv 0) ?_)
      rw [notI, if_neg hc5, if_neg hc7]
    · replace hc7 := bt hc7
      refine iT (vc_seqr rfl (iQ 1 (iE 8 [(2, Ia 2), (3, Ia x), (4, Ba false), (6, Ba true)] [] ?_)))
      refine vc_ret (block_r (seq_r (iR (Iv 2) ?_)))
      rw [notI, if_neg hc5, if_pos hc7]
  · replace hc5 := bt hc5
    refine iT (vc_seqr rfl (iQ 1 (iE 8 [(2, Ia 1), (3, Ia x), (4, Ba true)] [] ?_)))
    refine vc_ret (block_r (seq_r (iR (Iv 1) ?_)))
    rw [notI, if_pos hc5]
theorem c_eAnd {x y : Int} : HasC Tryz.prog 32 [.v (.int .i64 x), .v (.int .i64 y)] (fun r => r = .v (.int .i64 (andI x y))) := by
  refine HasC.of [] (fn := Tryz.f32) tyOk mixed (fun args w => Tryz.call32 args w) Tryz.func32 rfl (by kernel_rfl) (Nat.le_of_ble_eq_true rfl) (⟨_, rfl⟩) ?_
  refine vc_seqr rfl (iQ 1 (iE 19 [(0, Ia x), (1, Ia y), (4, Ia 0)] [] ?_))
  refine vc_seq (vc_block (vc_seqr rfl (iQ 1 (iB .eql 51 (.int .i64 x) (.int .i64 1) (some 7) ?_))))
  intro c7 hc7
  refine iQ 1 ?_
  cases c7
  · replace hc7 := bf hc7
    refine iQ 1 (iB .eql 51 (.int .i64 y) (.int .i64 1) (some 10) ?_)
    intro c10 hc10
    refine iQ 2 (iE 19 [(0, Ia x), (1, Ia y), (4, Ia 0), (5, Ba c10)] [] ?_)
    cases c10
    · replace hc10 := bf hc10
      refine iF (vc_seqr rfl (iQ 1 (iB .eql 51 (.int .i64 x) (.int .i64 2) (some 14) ?_)))
      intro c14 hc14
      refine iQ 1 ?_
      cases c14
      · replace hc14 := bf hc14
        refine iQ 4 (iE 19 [(0, Ia x), (1, Ia y), (4, Ia 0), (5, Ba false), (12, Ba false)] [] ?_)
        refine iF (vc_skip (block_n (seq_n (vc_seqr rfl (iQ 1 (iE 19 [(0, Ia x), (1, Ia y), (4, Ia 0), (5, Ba false), (12, Ba false)] [] ?_))))))
        refine vc_ret (iR (Iv 0) ?_)
        rw [andI, if_neg (by omega), if_neg (by omega)]
      · replace hc14 := bt hc14
        refine iQ 1 (iB .eql 51 (.int .i64 y) (.int .i64 2) (some 17) ?_)
        intro c17 hc17
        refine iQ 2 (iE 19 [(0, Ia x), (1, Ia y), (4, Ia 0), (5, Ba false), (12, Ba c17)] [] ?_)
        cases c17
        · replace hc17 := bf hc17
          refine iF (vc_skip (block_n (seq_n (vc_seqr rfl (iQ 1 (iE 19 [(0, Ia x), (1, Ia y), (4, Ia 0), (5, Ba false), (12, Ba false)] [] ?_))))))
          refine vc_ret (iR (Iv 0) ?_)
          rw [andI, if_neg (by omega), if_neg (by omega)]
        · replace hc17 := bt hc17
          refine iT (vc_seqr rfl (iQ 1 (iE 19 [(0, Ia x), (1, Ia y), (4, Ia 2), (5, Ba false), (12, Ba true)] [] ?_)))
          refine vc_ret (block_r (seq_r (iR (Iv 2) ?_)))
          rw [andI, if_neg (by omega), if_pos (by omega)]
    · replace hc10 := bt hc10
      refine iT (vc_seqr rfl (iQ 1 (iE 19 [(0, Ia x), (1, Ia y), (4, Ia 1), (5, Ba true)] [] ?_)))
      refine vc_ret (block_r (seq_r (iR (Iv 1) ?_)))
      rw [andI, if_pos (by omega)]
  · replace hc7 := bt hc7
    refine iQ 4 (iE 19 [(0, Ia x), (1, Ia y), (4, Ia 0), (5, Ba true)] [] ?_)
    refine iT (vc_seqr rfl (iQ 1 (iE 19 [(0, Ia x), (1, Ia y), (4, Ia 1), (5, Ba true)] [] ?_)))
    refine vc_ret (block_r (seq_r (iR (Iv 1) ?_)))
    rw [andI, if_pos (by omega)]
theorem c_eOr {x y : Int} : HasC Tryz.prog 47 [.v (.int .i64 x), .v (.int .i64 y)] (fun r => r = .v (.int .i64 (notI (andI (notI x) (notI y))))) := by
  refine HasC.of [] (fn := Tryz.f47) tyOk mixed (fun args w => Tryz.call47 args w) Tryz.func47 rfl (by kernel_rfl) (Nat.le_of_ble_eq_true rfl) (⟨_, rfl⟩) ?_
  refine vc_seqr rfl (iQ 1 (iE 11 [(0, Ia x), (1, Ia y), (4, Ia 0)] [] ?_))
  refine vc_seqr rfl (iQ 1 (iC 33 [Iv x] (some 6) (c_eNot) ?_))
  rintro _ rfl
  refine iQ 1 (iC 33 [Iv y] (some 8) (c_eNot) ?_)
  rintro _ rfl
  refine iC 32 [Iv (notI (x)), Iv (notI (y))] (some 9) (c_eAnd) ?_
  rintro _ rfl
  refine iC 33 [Iv (andI (notI (x)) (notI (y)))] (some 10) (c_eNot) ?_
  rintro _ rfl
  refine iQ 1 (iE 11 [(4, Ia (notI (andI (notI (x)) (notI (y)))))] [] ?_)
  refine vc_ret (iR (Iv (notI (andI (notI (x)) (notI (y))))) ?_)
  rfl
theorem sgnV_absV (x : Int) : sgnV (decide (x < 0)) x.natAbs = x := by
  unfold sgnV
  split
  · rename_i h
    have : x < 0 := by simpa using h
    omega
  · rename_i h
    have : ¬ x < 0 := by simpa using h
    omega
theorem cmp_two (x y : Int) : cmpZ (decide (x < 0)) x.natAbs 0 (decide (y < 0)) y.natAbs 0 = cmpI x y := by
  rw [cmpZ_any (E := 0) (Int.le_refl _) (Int.le_refl _), V_own, V_own, sgnV_absV, sgnV_absV]
theorem c_eOrder {x y : Int} (h0 : -1000000 ≤ x) (h1 : x ≤ 1000000) (h2 : -1000000 ≤ y) (h3 : y ≤ 1000000) : HasC Tryz.prog 52 [.agg [.ifc 77 (.agg [.v (.bool (decide ((x) < 0))), .v (.int .u64 (hiW ((x).natAbs))), .v (.int .u64 (loW ((x).natAbs))), .v (.int .i64 0)])], .agg [.ifc 77 (.agg [.v (.bool (decide ((y) < 0))), .v (.int .u64 (hiW ((y).natAbs))), .v (.int .u64 (loW ((y).natAbs))), .v (.int .i64 0)])]] (fun r => r = .tup [.v (.int .i64 (cmpI x y)), .v (.bool true)]) := by
  refine HasC.of [] (fn := Tryz.f52) tyOk mixed (fun args w => Tryz.call52 args w) Tryz.func52 rfl (by kernel_rfl) (Nat.le_of_ble_eq_true rfl) (⟨_, rfl⟩) ?_
  refine vc_seqr rfl (iQ 4 (iE 123 [(2, .p 2 0), (3, .p 3 0), (4, Ia 0), (5, Ba false)] [(2, [.ifc 77 (.agg [Bv (decide ((x) < 0)), Hw ((x).natAbs), Lw ((x).natAbs), Iv 0])]), (3, [.ifc 77 (.agg [Bv (decide ((y) < 0)), Hw ((y).natAbs), Lw ((y).natAbs), Iv 0])])] ?_))
  refine vc_seqr rfl (iQ 1 (iC 26 [.agg [.ifc 77 (.agg [Bv (decide ((x) < 0)), Hw ((x).natAbs), Lw ((x).natAbs), Iv 0])]] (some 28) (c_KindN) ?_))
  rintro _ rfl
  refine iQ 1 (iE 123 [(2, .p 2 0), (3, .p 3 0), (4, Ia 0), (5, Ba false), (6, Ia 3)] [(2, [.ifc 77 (.agg [Bv (decide ((x) < 0)), Hw ((x).natAbs), Lw ((x).natAbs), Iv 0])]), (3, [.ifc 77 (.agg [Bv (decide ((y) < 0)), Hw ((y).natAbs), Lw ((y).natAbs), Iv 0])])] ?_)
  refine vc_seq (vc_seqr rfl (iQ 1 (iC 26 [.agg [.ifc 77 (.agg [Bv (decide ((y) < 0)), Hw ((y).natAbs), Lw ((y).natAbs), Iv 0])]] (some 30) (c_KindN) ?_)))
  rintro _ rfl
  refine iQ 1 (iB .neq 69 (.int .i64 3) (.int .i64 3) (some 32) ?_)
  refine all_false ((by simp)) ?_
  refine iQ 2 (iC 25 [Iv 3] (some 35) (c_OrdT (by decide) (by decide)) ?_)
  rintro _ rfl
  refine iU .not (.bool true) (some 36) ?_
  refine all_false ((by simp)) ?_
  refine iQ 1 (iE 123 [(2, .p 2 0), (3, .p 3 0), (4, Ia 0), (5, Ba false), (6, Ia 3), (37, Ba false)] [(2, [.ifc 77 (.agg [Bv (decide ((x) < 0)), Hw ((x).natAbs), Lw ((x).natAbs), Iv 0])]), (3, [.ifc 77 (.agg [Bv (decide ((y) < 0)), Hw ((y).natAbs), Lw ((y).natAbs), Iv 0])])] ?_)
  refine iF (vc_skip (seq_n (vc_seq (vc_seqr rfl (iQ 1 (iE 123 [(2, .p 2 0), (3, .p 3 0), (4, Ia 0), (5, Ba false), (6, Ia 3), (37, Ba false), (38, Ia 3)] [(2, [.ifc 77 (.agg [Bv (decide ((x) < 0)), Hw ((x).natAbs), Lw ((x).natAbs), Iv 0])]), (3, [.ifc 77 (.agg [Bv (decide ((y) < 0)), Hw ((y).natAbs), Lw ((y).natAbs), Iv 0])])] ?_))))))
  refine vc_block (vc_seqr rfl (iB .eql 69 (.int .i64 3) (.int .i64 3) (some 40) ?_))
  refine all_true (rfl) ?_
  refine iQ 1 (iE 123 [(2, .p 2 0), (3, .p 3 0), (4, Ia 0), (5, Ba false), (6, Ia 3), (37, Ba false), (38, Ia 3), (39, Ba true)] [(2, [.ifc 77 (.agg [Bv (decide ((x) < 0)), Hw ((x).natAbs), Lw ((x).natAbs), Iv 0])]), (3, [.ifc 77 (.agg [Bv (decide ((y) < 0)), Hw ((y).natAbs), Lw ((y).natAbs), Iv 0])])] ?_)
  refine iT (vc_seqr rfl (iQ 1 (iC 54 [.agg [.ifc 77 (.agg [Bv (decide ((x) < 0)), Hw ((x).natAbs), Lw ((x).natAbs), Iv 0])]] (some 43) (c_AsNumN) ?_)))
  rintro _ rfl
  refine iQ 6 (iE 123 [(2, .p 2 0), (3, .p 3 0), (4, Ia 0), (5, Ba false), (6, Ia 3), (7, .p 7 0), (37, Ba false), (38, Ia 3), (39, Ba true)] [(2, [.ifc 77 (.agg [Bv (decide ((x) < 0)), Hw ((x).natAbs), Lw ((x).natAbs), Iv 0])]), (3, [.ifc 77 (.agg [Bv (decide ((y) < 0)), Hw ((y).natAbs), Lw ((y).natAbs), Iv 0])]), (7, [Bv (decide ((x) < 0)), Hw ((x).natAbs), Lw ((x).natAbs), Iv 0])] ?_)
  refine vc_seqr rfl (iQ 1 (iC 54 [.agg [.ifc 77 (.agg [Bv (decide ((y) < 0)), Hw ((y).natAbs), Lw ((y).natAbs), Iv 0])]] (some 48) (c_AsNumN) ?_))
  rintro _ rfl
  refine iQ 6 (iE 123 [(2, .p 2 0), (3, .p 3 0), (4, Ia 0), (5, Ba false), (6, Ia 3), (7, .p 7 0), (9, .p 9 0), (37, Ba false), (38, Ia 3), (39, Ba true)] [(2, [.ifc 77 (.agg [Bv (decide ((x) < 0)), Hw ((x).natAbs), Lw ((x).natAbs), Iv 0])]), (3, [.ifc 77 (.agg [Bv (decide ((y) < 0)), Hw ((y).natAbs), Lw ((y).natAbs), Iv 0])]), (7, [Bv (decide ((x) < 0)), Hw ((x).natAbs), Lw ((x).natAbs), Iv 0]), (9, [Bv (decide ((y) < 0)), Hw ((y).natAbs), Lw ((y).natAbs), Iv 0])] ?_)
  refine vc_seqr rfl (iQ 2 (iC 55 [.agg [Bv (decide ((x) < 0)), Hw ((x).natAbs), Lw ((x).natAbs), Iv 0], .agg [Bv (decide ((y) < 0)), Hw ((y).natAbs), Lw ((y).natAbs), Iv 0]] (some 53) (c_decCmp (by unfold E34; omega) (by unfold E34; omega) (by decide) (by decide) (by decide) (by decide)) ?_))
  rintro _ rfl
  refine iQ 2 (iE 123 [(2, .p 2 0), (3, .p 3 0), (4, Ia (cmpZ (decide ((x) < 0)) (x).natAbs 0 (decide ((y) < 0)) (y).natAbs 0)), (5, Ba true), (6, Ia 3), (7, .p 7 0), (9, .p 9 0), (37, Ba false), (38, Ia 3), (39, Ba true)] [(2, [.ifc 77 (.agg [Bv (decide ((x) < 0)), Hw ((x).natAbs), Lw ((x).natAbs), Iv 0])]), (3, [.ifc 77 (.agg [Bv (decide ((y) < 0)), Hw ((y).natAbs), Lw ((y).natAbs), Iv 0])]), (7, [Bv (decide ((x) < 0)), Hw ((x).natAbs), Lw ((x).natAbs), Iv 0]), (9, [Bv (decide ((y) < 0)), Hw ((y).natAbs), Lw ((y).natAbs), Iv 0])] ?_)
  refine vc_ret (block_r (seq_r (iS (Iv (cmpZ (decide ((x) < 0)) (x).natAbs 0 (decide ((y) < 0)) (y).natAbs 0)) (Bv true) [] ?_)))
  rw [cmp_two x y]
theorem c_eOrderT {x : Int} {s : ByteArray} : HasC Tryz.prog 52 [.agg [.ifc 77 (.agg [.v (.bool (decide ((x) < 0))), .v (.int .u64 (hiW ((x).natAbs))), .v (.int .u64 (loW ((x).natAbs))), .v (.int .i64 0)])], .agg [.ifc 62 (.v (.string s))]] (fun r => r = .tup [.v (.int .i64 0), .v (.bool false)]) := by
  refine HasC.of [] (fn := Tryz.f52) tyOk mixed (fun args w => Tryz.call52 args w) Tryz.func52 rfl (by kernel_rfl) (Nat.le_of_ble_eq_true rfl) (⟨_, rfl⟩) ?_
  refine vc_seqr rfl (iQ 4 (iE 123 [(2, .p 2 0), (3, .p 3 0), (4, Ia 0), (5, Ba false)] [(2, [.ifc 77 (.agg [Bv (decide ((x) < 0)), Hw ((x).natAbs), Lw ((x).natAbs), Iv 0])]), (3, [.ifc 62 (Sv s)])] ?_))
  refine vc_seqr rfl (iQ 1 (iC 26 [.agg [.ifc 77 (.agg [Bv (decide ((x) < 0)), Hw ((x).natAbs), Lw ((x).natAbs), Iv 0])]] (some 28) (c_KindN) ?_))
  rintro _ rfl
  refine iQ 1 (iE 123 [(2, .p 2 0), (3, .p 3 0), (4, Ia 0), (5, Ba false), (6, Ia 3)] [(2, [.ifc 77 (.agg [Bv (decide ((x) < 0)), Hw ((x).natAbs), Lw ((x).natAbs), Iv 0])]), (3, [.ifc 62 (Sv s)])] ?_)
  refine vc_seq (vc_seqr rfl (iQ 1 (iC 26 [.agg [.ifc 62 (Sv s)]] (some 30) (c_Kind_txt) ?_)))
  rintro _ rfl
  refine iQ 1 (iB .neq 69 (.int .i64 4) (.int .i64 3) (some 32) ?_)
  refine all_true ((by decide)) ?_
  refine iQ 5 (iE 123 [(2, .p 2 0), (3, .p 3 0), (4, Ia 0), (5, Ba false), (6, Ia 3), (37, Ba true)] [(2, [.ifc 77 (.agg [Bv (decide ((x) < 0)), Hw ((x).natAbs), Lw ((x).natAbs), Iv 0])]), (3, [.ifc 62 (Sv s)])] ?_)
  refine iT (vc_seqr rfl (iQ 2 (iE 123 [(2, .p 2 0), (3, .p 3 0), (4, Ia 0), (5, Ba false), (6, Ia 3), (37, Ba true)] [(2, [.ifc 77 (.agg [Bv (decide ((x) < 0)), Hw ((x).natAbs), Lw ((x).natAbs), Iv 0])]), (3, [.ifc 62 (Sv s)])] ?_)))
  refine vc_ret (seq_r (iS (Iv 0) (Bv false) [] ?_))
  rfl

end Go.Proofs.YtimpaejpokkdnaaGreatDoor
