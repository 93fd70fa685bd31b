/-
  casuistlaw01's laws of quotients and of sums. The directives are printed by wip/mklawc.py.
-/
import Derived.Test.YtpnfomnnbmncaaaLawB
namespace Go.Proofs.Ytpnfomnnbmncaaa
open Go.RowKit
set_option linter.unusedVariables false
set_option linter.unusedSimpArgs false
set_option maxRecDepth 100000

theorem B_pos : 0 < B128 := by decide
theorem N2_lt {h l : Nat} (hh : h < B128) (hl : l < B128) : h * B128 + l < B128 * B128 := by
  have : (h + 1) * B128 ≤ B128 * B128 := Nat.mul_le_mul_right _ hh
  rw [Nat.add_mul] at this
  omega
theorem div_lt128 {h l d : Nat} (hl : l < B128) (hlt : h < d) : (h * B128 + l) / d < B128 := by
  refine Nat.div_lt_of_lt_mul ?_
  have : (h + 1) * B128 ≤ d * B128 := Nat.mul_le_mul_right _ hlt
  rw [Nat.add_mul] at this
  omega

set_option maxHeartbeats 3200000 in
theorem c_WideDivs_yes_0 {h l d x : Nat} (hh : h < B128) (hl : l < B128) (hd : d < B128) (hx : x < 18446744073709551616) (hlt : h < d) : HasC Try.prog 4 [.agg [.v (.int .u64 (hiW (h))), .v (.int .u64 (loW (h)))], .agg [.v (.int .u64 (hiW (l))), .v (.int .u64 (loW (l)))], .agg [.v (.int .u64 (hiW (d))), .v (.int .u64 (loW (d)))], .v (.int .u64 0)] (fun y => y = .v (.bool true)) := by
  refine HasC.of [] (fn := Try.f4) tyOk mixed (fun args w => Try.call4 args w) Try.func4 rfl (by kernel_rfl) (Nat.le_of_ble_eq_true rfl) (⟨_, rfl⟩) ?_
  have n1 := nd_U2 hh hl; have n2 := nd_U hd; have n3 := nd_U hh
  have hq := div_lt128 hl hlt
  have hr : (h * B128 + l) % d < B128 := Nat.lt_trans (Nat.mod_lt _ (by omega)) hd
  refine vc_seqr rfl ?_
  refine vcI_q 4 (by kernel_rfl) ?_
  refine vcI_end 123 [(3, .d (.v (.int .u64 0))), (4, .p 4 0), (5, .p 5 0), (6, .p 6 0), (8, .d (.v (.bool false)))] [(4, [.v (.int .u64 (hiW (h))), .v (.int .u64 (loW (h)))]), (5, [.v (.int .u64 (hiW (l))), .v (.int .u64 (loW (l)))]), (6, [.v (.int .u64 (hiW (d))), .v (.int .u64 (loW (d)))])] (by kernel_rfl) (by kernel_rfl) (by kernel_rfl) ?_
  refine vc_seq ?_
  refine vc_seqr rfl ?_
  refine vcI_call (f := 9) (ds := []) (dst := (some 20)) (by kernel_rfl) (c_awake) ?_
  rintro _ rfl
  refine vcI_un (op := .not) (a := .bool true) (dst := (some 21)) (by kernel_rfl) ?_
  intro c21 hc21
  refine vcI_end 123 [(3, .d (.v (.int .u64 0))), (4, .p 4 0), (5, .p 5 0), (6, .p 6 0), (8, .d (.v (.bool false))), (21, .d (.v (.bool c21)))] [(4, [.v (.int .u64 (hiW (h))), .v (.int .u64 (loW (h)))]), (5, [.v (.int .u64 (hiW (l))), .v (.int .u64 (loW (l)))]), (6, [.v (.int .u64 (hiW (d))), .v (.int .u64 (loW (d)))])] (by kernel_rfl) (by kernel_rfl) (by kernel_rfl) ?_
  obtain rfl : c21 = false := bff hc21 (by simp)
  refine vc_condf (by kernel_rfl) ?_
  refine vc_skip ?_
  refine seq_n ?_
  refine vc_seqr rfl ?_
  refine vcI_q 3 (by kernel_rfl) ?_
  refine vcI_call (f := 20) (ds := [.agg [.v (.int .u64 (hiW (h))), .v (.int .u64 (loW (h)))], .agg [.v (.int .u64 (hiW (l))), .v (.int .u64 (loW (l)))], .agg [.v (.int .u64 (hiW (d))), .v (.int .u64 (loW (d)))]]) (dst := (some 26)) (by kernel_rfl) (cw_Div_yes hh hl hd hlt) ?_
  rintro _ rfl
  refine vcI_q 9 (by kernel_rfl) ?_
  refine vcI_end 123 [(3, .d (.v (.int .u64 0))), (4, .p 4 0), (5, .p 5 0), (6, .p 6 0), (8, .d (.v (.bool false))), (9, .p 9 0), (10, .p 10 0), (11, .d (.v (.bool true))), (21, .d (.v (.bool false)))] [(4, [.v (.int .u64 (hiW (h))), .v (.int .u64 (loW (h)))]), (5, [.v (.int .u64 (hiW (l))), .v (.int .u64 (loW (l)))]), (6, [.v (.int .u64 (hiW (d))), .v (.int .u64 (loW (d)))]), (9, [.v (.int .u64 (hiW ((h * B128 + l) / d))), .v (.int .u64 (loW ((h * B128 + l) / d)))]), (10, [.v (.int .u64 (hiW ((h * B128 + l) % d))), .v (.int .u64 (loW ((h * B128 + l) % d)))])] (by kernel_rfl) (by kernel_rfl) (by kernel_rfl) ?_
  refine vc_seq ?_
  refine vc_seqr rfl ?_
  refine vcI_q 2 (by kernel_rfl) ?_
  refine vcI_call (f := 15) (ds := [.agg [.v (.int .u64 (hiW (h))), .v (.int .u64 (loW (h)))]]) (dst := (some 32)) (by kernel_rfl) (c_N hh) ?_
  rintro _ rfl
  refine vcI_q 1 (by kernel_rfl) ?_
  refine vcI_call (f := 15) (ds := [.agg [.v (.int .u64 (hiW (d))), .v (.int .u64 (loW (d)))]]) (dst := (some 34)) (by kernel_rfl) (c_N hd) ?_
  rintro _ rfl
  refine vcI_call (f := 21) (ds := [.sl (nd (h)) (dg (digs (h))), .sl (nd (d)) (dg (digs (d)))]) (dst := (some 35)) (by kernel_rfl) (c_Cmp (a := h) (b := d) (by omega) (by omega)) ?_
  rintro _ rfl
  refine vcI_bin (op := .lss) (t := 3) (a := .int .i64 (cmpN h d)) (b := .int .i64 0) (dst := (some 36)) (by kernel_rfl) ?_
  intro c36 hc36
  refine vcI_bin (op := .neq) (t := 4) (a := .bool true) (b := .bool c36) (dst := (some 37)) (by kernel_rfl) ?_
  intro c37 hc37
  refine vcI_q 1 (by kernel_rfl) ?_
  obtain rfl : c37 = false := bff hc37 (fun hne => hne (by rw [eq_comm, hc36, cN_lt]; exact hlt))
  refine vcI_q 1 (by kernel_rfl) ?_
  refine vcI_un (op := .not) (a := .bool true) (dst := (some 40)) (by kernel_rfl) ?_
  intro c40 hc40
  refine vcI_q 1 (by kernel_rfl) ?_
  obtain rfl : c40 = false := bff hc40 (by simp)
  refine vcI_q 9 (by kernel_rfl) ?_
  refine vcI_end 123 [(3, .d (.v (.int .u64 0))), (4, .p 4 0), (5, .p 5 0), (6, .p 6 0), (8, .d (.v (.bool false))), (9, .p 9 0), (10, .p 10 0), (11, .d (.v (.bool true))), (21, .d (.v (.bool false))), (50, .d (.v (.bool false)))] [(4, [.v (.int .u64 (hiW (h))), .v (.int .u64 (loW (h)))]), (5, [.v (.int .u64 (hiW (l))), .v (.int .u64 (loW (l)))]), (6, [.v (.int .u64 (hiW (d))), .v (.int .u64 (loW (d)))]), (9, [.v (.int .u64 (hiW ((h * B128 + l) / d))), .v (.int .u64 (loW ((h * B128 + l) / d)))]), (10, [.v (.int .u64 (hiW ((h * B128 + l) % d))), .v (.int .u64 (loW ((h * B128 + l) % d)))])] (by kernel_rfl) (by kernel_rfl) (by kernel_rfl) ?_
  refine vc_condf (by kernel_rfl) ?_
  refine vc_skip ?_
  refine seq_n ?_
  refine vc_seq ?_
  refine vc_seqr rfl ?_
  refine vcI_q 1 (by kernel_rfl) ?_
  refine vcI_end 123 [(3, .d (.v (.int .u64 0))), (4, .p 4 0), (5, .p 5 0), (6, .p 6 0), (8, .d (.v (.bool false))), (9, .p 9 0), (10, .p 10 0), (11, .d (.v (.bool true))), (21, .d (.v (.bool false))), (50, .d (.v (.bool false))), (51, .d (.v (.bool true)))] [(4, [.v (.int .u64 (hiW (h))), .v (.int .u64 (loW (h)))]), (5, [.v (.int .u64 (hiW (l))), .v (.int .u64 (loW (l)))]), (6, [.v (.int .u64 (hiW (d))), .v (.int .u64 (loW (d)))]), (9, [.v (.int .u64 (hiW ((h * B128 + l) / d))), .v (.int .u64 (loW ((h * B128 + l) / d)))]), (10, [.v (.int .u64 (hiW ((h * B128 + l) % d))), .v (.int .u64 (loW ((h * B128 + l) % d)))])] (by kernel_rfl) (by kernel_rfl) (by kernel_rfl) ?_
  refine vc_condt (by kernel_rfl) ?_
  refine vc_seqr rfl ?_
  refine vcI_q 2 (by kernel_rfl) ?_
  refine vcI_call (f := 13) (ds := [.agg [.v (.int .u64 (hiW (h))), .v (.int .u64 (loW (h)))], .agg [.v (.int .u64 (hiW (l))), .v (.int .u64 (loW (l)))]]) (dst := (some 55)) (by kernel_rfl) (c_Two hh hl) ?_
  rintro _ rfl
  refine vcI_q 1 (by kernel_rfl) ?_
  refine vcI_call (f := 15) (ds := [.agg [.v (.int .u64 (hiW (d))), .v (.int .u64 (loW (d)))]]) (dst := (some 57)) (by kernel_rfl) (c_N hd) ?_
  rintro _ rfl
  refine vcI_call (f := 23) (ds := [.sl (nd (h * B128 + l)) (dg (digs (h * B128 + l))), .sl (nd (d)) (dg (digs (d)))]) (dst := (some 58)) (by kernel_rfl) (c_Div (a := h * B128 + l) (b := d) (by omega) (by omega) (by omega)) ?_
  rintro _ rfl
  refine vcI_q 5 (by kernel_rfl) ?_
  refine vcI_end 123 [(3, .d (.v (.int .u64 0))), (4, .p 4 0), (5, .p 5 0), (6, .p 6 0), (8, .d (.v (.bool false))), (9, .p 9 0), (10, .p 10 0), (11, .d (.v (.bool true))), (12, .d (.sl (nd ((h * B128 + l) / d)) (dg (digs ((h * B128 + l) / d))))), (13, .d (.sl (nd ((h * B128 + l) % d)) (dg (digs ((h * B128 + l) % d))))), (21, .d (.v (.bool false))), (50, .d (.v (.bool false))), (51, .d (.v (.bool true)))] [(4, [.v (.int .u64 (hiW (h))), .v (.int .u64 (loW (h)))]), (5, [.v (.int .u64 (hiW (l))), .v (.int .u64 (loW (l)))]), (6, [.v (.int .u64 (hiW (d))), .v (.int .u64 (loW (d)))]), (9, [.v (.int .u64 (hiW ((h * B128 + l) / d))), .v (.int .u64 (loW ((h * B128 + l) / d)))]), (10, [.v (.int .u64 (hiW ((h * B128 + l) % d))), .v (.int .u64 (loW ((h * B128 + l) % d)))])] (by kernel_rfl) (by kernel_rfl) (by kernel_rfl) ?_
  refine vc_seqr rfl ?_
  refine vcI_q 1 (by kernel_rfl) ?_
  refine vcI_call (f := 15) (ds := [.agg [.v (.int .u64 (hiW ((h * B128 + l) / d))), .v (.int .u64 (loW ((h * B128 + l) / d)))]]) (dst := (some 62)) (by kernel_rfl) (c_N hq) ?_
  rintro _ rfl
  refine vcI_q 1 (by kernel_rfl) ?_
  refine vcI_call (f := 12) (ds := [.sl (nd ((h * B128 + l) / d)) (dg (digs ((h * B128 + l) / d))), .sl (nd ((h * B128 + l) / d)) (dg (digs ((h * B128 + l) / d)))]) (dst := (some 64)) (by kernel_rfl) (c_sameT rfl (by have := nd_U hq; omega)) ?_
  rintro _ rfl
  refine vcI_un (op := .not) (a := .bool true) (dst := (some 65)) (by kernel_rfl) ?_
  intro c65 hc65
  refine vcI_q 1 (by kernel_rfl) ?_
  obtain rfl : c65 = false := bff hc65 (by simp)
  refine vcI_q 1 (by kernel_rfl) ?_
  refine vcI_call (f := 15) (ds := [.agg [.v (.int .u64 (hiW ((h * B128 + l) % d))), .v (.int .u64 (loW ((h * B128 + l) % d)))]]) (dst := (some 68)) (by kernel_rfl) (c_N hr) ?_
  rintro _ rfl
  refine vcI_q 1 (by kernel_rfl) ?_
  refine vcI_call (f := 12) (ds := [.sl (nd ((h * B128 + l) % d)) (dg (digs ((h * B128 + l) % d))), .sl (nd ((h * B128 + l) % d)) (dg (digs ((h * B128 + l) % d)))]) (dst := (some 70)) (by kernel_rfl) (c_sameT rfl (by have := nd_U hr; omega)) ?_
  rintro _ rfl
  refine vcI_un (op := .not) (a := .bool true) (dst := (some 71)) (by kernel_rfl) ?_
  intro c71 hc71
  refine vcI_q 1 (by kernel_rfl) ?_
  refine vcI_end 123 [(3, .d (.v (.int .u64 0))), (4, .p 4 0), (5, .p 5 0), (6, .p 6 0), (8, .d (.v (.bool false))), (9, .p 9 0), (10, .p 10 0), (11, .d (.v (.bool true))), (21, .d (.v (.bool false))), (50, .d (.v (.bool false))), (51, .d (.v (.bool true))), (72, .d (.v (.bool c71)))] [(4, [.v (.int .u64 (hiW (h))), .v (.int .u64 (loW (h)))]), (5, [.v (.int .u64 (hiW (l))), .v (.int .u64 (loW (l)))]), (6, [.v (.int .u64 (hiW (d))), .v (.int .u64 (loW (d)))]), (9, [.v (.int .u64 (hiW ((h * B128 + l) / d))), .v (.int .u64 (loW ((h * B128 + l) / d)))]), (10, [.v (.int .u64 (hiW ((h * B128 + l) % d))), .v (.int .u64 (loW ((h * B128 + l) % d)))])] (by kernel_rfl) (by kernel_rfl) (by kernel_rfl) ?_
  obtain rfl : c71 = false := bff hc71 (by simp)
  refine vc_condf (by kernel_rfl) ?_
  refine vc_skip ?_
  refine seq_n ?_
  refine vc_seqr rfl ?_
  refine vcI_q 3 (by kernel_rfl) ?_
  refine vcI_call (f := 24) (ds := [.agg [.v (.int .u64 (hiW (h))), .v (.int .u64 (loW (h)))], .agg [.v (.int .u64 (hiW (l))), .v (.int .u64 (loW (l)))], .v (.int .u64 0)]) (dst := (some 77)) (by kernel_rfl) (cw_DivWord_0 hh hl) ?_
  rintro _ rfl
  refine vcI_q 11 (by kernel_rfl) ?_
  refine vcI_end 123 [(3, .d (.v (.int .u64 0))), (4, .p 4 0), (5, .p 5 0), (6, .p 6 0), (8, .d (.v (.bool false))), (9, .p 9 0), (10, .p 10 0), (11, .d (.v (.bool true))), (14, .p 14 0), (15, .p 15 0), (16, .d (.v (.int .u64 0))), (17, .d (.v (.bool false))), (21, .d (.v (.bool false))), (50, .d (.v (.bool false))), (51, .d (.v (.bool true))), (72, .d (.v (.bool false)))] [(4, [.v (.int .u64 (hiW (h))), .v (.int .u64 (loW (h)))]), (5, [.v (.int .u64 (hiW (l))), .v (.int .u64 (loW (l)))]), (6, [.v (.int .u64 (hiW (d))), .v (.int .u64 (loW (d)))]), (9, [.v (.int .u64 (hiW ((h * B128 + l) / d))), .v (.int .u64 (loW ((h * B128 + l) / d)))]), (10, [.v (.int .u64 (hiW ((h * B128 + l) % d))), .v (.int .u64 (loW ((h * B128 + l) % d)))]), (14, [.v (.int .u64 (hiW (0))), .v (.int .u64 (loW (0)))]), (15, [.v (.int .u64 (hiW (0))), .v (.int .u64 (loW (0)))])] (by kernel_rfl) (by kernel_rfl) (by kernel_rfl) ?_
  refine vc_seq ?_
  refine vc_seqr rfl ?_
  refine vcI_q 1 (by kernel_rfl) ?_
  refine vcI_bin (op := .eql) (t := 22) (a := .int .u64 0) (b := .int .u64 0) (dst := (some 83)) (by kernel_rfl) ?_
  intro c83 hc83
  refine vcI_end 123 [(3, .d (.v (.int .u64 0))), (4, .p 4 0), (5, .p 5 0), (6, .p 6 0), (8, .d (.v (.bool false))), (9, .p 9 0), (10, .p 10 0), (11, .d (.v (.bool true))), (14, .p 14 0), (15, .p 15 0), (16, .d (.v (.int .u64 0))), (17, .d (.v (.bool false))), (21, .d (.v (.bool false))), (50, .d (.v (.bool false))), (51, .d (.v (.bool true))), (72, .d (.v (.bool false))), (83, .d (.v (.bool c83)))] [(4, [.v (.int .u64 (hiW (h))), .v (.int .u64 (loW (h)))]), (5, [.v (.int .u64 (hiW (l))), .v (.int .u64 (loW (l)))]), (6, [.v (.int .u64 (hiW (d))), .v (.int .u64 (loW (d)))]), (9, [.v (.int .u64 (hiW ((h * B128 + l) / d))), .v (.int .u64 (loW ((h * B128 + l) / d)))]), (10, [.v (.int .u64 (hiW ((h * B128 + l) % d))), .v (.int .u64 (loW ((h * B128 + l) % d)))]), (14, [.v (.int .u64 (hiW (0))), .v (.int .u64 (loW (0)))]), (15, [.v (.int .u64 (hiW (0))), .v (.int .u64 (loW (0)))])] (by kernel_rfl) (by kernel_rfl) (by kernel_rfl) ?_
  obtain rfl : c83 = true := hc83.2 (rfl)
  refine vc_condt (by kernel_rfl) ?_
  refine vc_seqr rfl ?_
  refine vcI_q 1 (by kernel_rfl) ?_
  refine vcI_un (op := .not) (a := .bool false) (dst := (some 85)) (by kernel_rfl) ?_
  intro c85 hc85
  refine vcI_q 1 (by kernel_rfl) ?_
  obtain rfl : c85 = true := hc85.2 (rfl)
  refine vcI_q 1 (by kernel_rfl) ?_
  refine vcI_call (f := 22) (ds := [.agg [.v (.int .u64 (hiW (0))), .v (.int .u64 (loW (0)))]]) (dst := (some 88)) (by kernel_rfl) (cw_Zero (a := 0) (by decide)) ?_
  rintro _ ⟨z1, rfl, hz1⟩
  refine vcI_q 2 (by kernel_rfl) ?_
  obtain rfl : z1 = true := hz1.2 (rfl)
  refine vcI_q 1 (by kernel_rfl) ?_
  refine vcI_call (f := 22) (ds := [.agg [.v (.int .u64 (hiW (0))), .v (.int .u64 (loW (0)))]]) (dst := (some 92)) (by kernel_rfl) (cw_Zero (a := 0) (by decide)) ?_
  rintro _ ⟨z2, rfl, hz2⟩
  refine vcI_q 2 (by kernel_rfl) ?_
  obtain rfl : z2 = true := hz2.2 (rfl)
  refine vcI_q 1 (by kernel_rfl) ?_
  refine vcI_bin (op := .eql) (t := 22) (a := .int .u64 0) (b := .int .u64 0) (dst := (some 96)) (by kernel_rfl) ?_
  intro c96 hc96
  refine vcI_q 2 (by kernel_rfl) ?_
  refine vcI_end 123 [(3, .d (.v (.int .u64 0))), (4, .p 4 0), (5, .p 5 0), (6, .p 6 0), (8, .d (.v (.bool c96))), (9, .p 9 0), (10, .p 10 0), (11, .d (.v (.bool true))), (14, .p 14 0), (15, .p 15 0), (16, .d (.v (.int .u64 0))), (17, .d (.v (.bool false))), (21, .d (.v (.bool false))), (50, .d (.v (.bool false))), (51, .d (.v (.bool true))), (72, .d (.v (.bool false))), (83, .d (.v (.bool true)))] [(4, [.v (.int .u64 (hiW (h))), .v (.int .u64 (loW (h)))]), (5, [.v (.int .u64 (hiW (l))), .v (.int .u64 (loW (l)))]), (6, [.v (.int .u64 (hiW (d))), .v (.int .u64 (loW (d)))]), (9, [.v (.int .u64 (hiW ((h * B128 + l) / d))), .v (.int .u64 (loW ((h * B128 + l) / d)))]), (10, [.v (.int .u64 (hiW ((h * B128 + l) % d))), .v (.int .u64 (loW ((h * B128 + l) % d)))]), (14, [.v (.int .u64 (hiW (0))), .v (.int .u64 (loW (0)))]), (15, [.v (.int .u64 (hiW (0))), .v (.int .u64 (loW (0)))])] (by kernel_rfl) (by kernel_rfl) (by kernel_rfl) ?_
  refine vc_ret ?_
  refine seq_r ?_
  refine ret_1 (d := .v (.bool c96)) (by kernel_rfl) ?_
  rw [hc96.2 rfl]

set_option maxHeartbeats 3200000 in
theorem c_WideDivs_yes_x {h l d x : Nat} (hh : h < B128) (hl : l < B128) (hd : d < B128) (hx : x < 18446744073709551616) (hx0 : 0 < x) (hlt : h < d) : HasC Try.prog 4 [.agg [.v (.int .u64 (hiW (h))), .v (.int .u64 (loW (h)))], .agg [.v (.int .u64 (hiW (l))), .v (.int .u64 (loW (l)))], .agg [.v (.int .u64 (hiW (d))), .v (.int .u64 (loW (d)))], .v (.int .u64 ((x : Int)))] (fun y => y = .v (.bool true)) := by
  refine HasC.of [] (fn := Try.f4) tyOk mixed (fun args w => Try.call4 args w) Try.func4 rfl (by kernel_rfl) (Nat.le_of_ble_eq_true rfl) (⟨_, rfl⟩) ?_
  have n1 := nd_U2 hh hl; have n2 := nd_U hd; have n3 := nd_U hh
  have hq := div_lt128 hl hlt
  have hr : (h * B128 + l) % d < B128 := Nat.lt_trans (Nat.mod_lt _ (by omega)) hd
  refine vc_seqr rfl ?_
  refine vcI_q 4 (by kernel_rfl) ?_
  refine vcI_end 123 [(3, .d (.v (.int .u64 ((x : Int))))), (4, .p 4 0), (5, .p 5 0), (6, .p 6 0), (8, .d (.v (.bool false)))] [(4, [.v (.int .u64 (hiW (h))), .v (.int .u64 (loW (h)))]), (5, [.v (.int .u64 (hiW (l))), .v (.int .u64 (loW (l)))]), (6, [.v (.int .u64 (hiW (d))), .v (.int .u64 (loW (d)))])] (by kernel_rfl) (by kernel_rfl) (by kernel_rfl) ?_
  refine vc_seq ?_
  refine vc_seqr rfl ?_
  refine vcI_call (f := 9) (ds := []) (dst := (some 20)) (by kernel_rfl) (c_awake) ?_
  rintro _ rfl
  refine vcI_un (op := .not) (a := .bool true) (dst := (some 21)) (by kernel_rfl) ?_
  intro c21 hc21
  refine vcI_end 123 [(3, .d (.v (.int .u64 ((x : Int))))), (4, .p 4 0), (5, .p 5 0), (6, .p 6 0), (8, .d (.v (.bool false))), (21, .d (.v (.bool c21)))] [(4, [.v (.int .u64 (hiW (h))), .v (.int .u64 (loW (h)))]), (5, [.v (.int .u64 (hiW (l))), .v (.int .u64 (loW (l)))]), (6, [.v (.int .u64 (hiW (d))), .v (.int .u64 (loW (d)))])] (by kernel_rfl) (by kernel_rfl) (by kernel_rfl) ?_
  obtain rfl : c21 = false := bff hc21 (by simp)
  refine vc_condf (by kernel_rfl) ?_
  refine vc_skip ?_
  refine seq_n ?_
  refine vc_seqr rfl ?_
  refine vcI_q 3 (by kernel_rfl) ?_
  refine vcI_call (f := 20) (ds := [.agg [.v (.int .u64 (hiW (h))), .v (.int .u64 (loW (h)))], .agg [.v (.int .u64 (hiW (l))), .v (.int .u64 (loW (l)))], .agg [.v (.int .u64 (hiW (d))), .v (.int .u64 (loW (d)))]]) (dst := (some 26)) (by kernel_rfl) (cw_Div_yes hh hl hd hlt) ?_
  rintro _ rfl
  refine vcI_q 9 (by kernel_rfl) ?_
  refine vcI_end 123 [(3, .d (.v (.int .u64 ((x : Int))))), (4, .p 4 0), (5, .p 5 0), (6, .p 6 0), (8, .d (.v (.bool false))), (9, .p 9 0), (10, .p 10 0), (11, .d (.v (.bool true))), (21, .d (.v (.bool false)))] [(4, [.v (.int .u64 (hiW (h))), .v (.int .u64 (loW (h)))]), (5, [.v (.int .u64 (hiW (l))), .v (.int .u64 (loW (l)))]), (6, [.v (.int .u64 (hiW (d))), .v (.int .u64 (loW (d)))]), (9, [.v (.int .u64 (hiW ((h * B128 + l) / d))), .v (.int .u64 (loW ((h * B128 + l) / d)))]), (10, [.v (.int .u64 (hiW ((h * B128 + l) % d))), .v (.int .u64 (loW ((h * B128 + l) % d)))])] (by kernel_rfl) (by kernel_rfl) (by kernel_rfl) ?_
  refine vc_seq ?_
  refine vc_seqr rfl ?_
  refine vcI_q 2 (by kernel_rfl) ?_
  refine vcI_call (f := 15) (ds := [.agg [.v (.int .u64 (hiW (h))), .v (.int .u64 (loW (h)))]]) (dst := (some 32)) (by kernel_rfl) (c_N hh) ?_
  rintro _ rfl
  refine vcI_q 1 (by kernel_rfl) ?_
  refine vcI_call (f := 15) (ds := [.agg [.v (.int .u64 (hiW (d))), .v (.int .u64 (loW (d)))]]) (dst := (some 34)) (by kernel_rfl) (c_N hd) ?_
  rintro _ rfl
  refine vcI_call (f := 21) (ds := [.sl (nd (h)) (dg (digs (h))), .sl (nd (d)) (dg (digs (d)))]) (dst := (some 35)) (by kernel_rfl) (c_Cmp (a := h) (b := d) (by omega) (by omega)) ?_
  rintro _ rfl
  refine vcI_bin (op := .lss) (t := 3) (a := .int .i64 (cmpN h d)) (b := .int .i64 0) (dst := (some 36)) (by kernel_rfl) ?_
  intro c36 hc36
  refine vcI_bin (op := .neq) (t := 4) (a := .bool true) (b := .bool c36) (dst := (some 37)) (by kernel_rfl) ?_
  intro c37 hc37
  refine vcI_q 1 (by kernel_rfl) ?_
  obtain rfl : c37 = false := bff hc37 (fun hne => hne (by rw [eq_comm, hc36, cN_lt]; exact hlt))
  refine vcI_q 1 (by kernel_rfl) ?_
  refine vcI_un (op := .not) (a := .bool true) (dst := (some 40)) (by kernel_rfl) ?_
  intro c40 hc40
  refine vcI_q 1 (by kernel_rfl) ?_
  obtain rfl : c40 = false := bff hc40 (by simp)
  refine vcI_q 9 (by kernel_rfl) ?_
  refine vcI_end 123 [(3, .d (.v (.int .u64 ((x : Int))))), (4, .p 4 0), (5, .p 5 0), (6, .p 6 0), (8, .d (.v (.bool false))), (9, .p 9 0), (10, .p 10 0), (11, .d (.v (.bool true))), (21, .d (.v (.bool false))), (50, .d (.v (.bool false)))] [(4, [.v (.int .u64 (hiW (h))), .v (.int .u64 (loW (h)))]), (5, [.v (.int .u64 (hiW (l))), .v (.int .u64 (loW (l)))]), (6, [.v (.int .u64 (hiW (d))), .v (.int .u64 (loW (d)))]), (9, [.v (.int .u64 (hiW ((h * B128 + l) / d))), .v (.int .u64 (loW ((h * B128 + l) / d)))]), (10, [.v (.int .u64 (hiW ((h * B128 + l) % d))), .v (.int .u64 (loW ((h * B128 + l) % d)))])] (by kernel_rfl) (by kernel_rfl) (by kernel_rfl) ?_
  refine vc_condf (by kernel_rfl) ?_
  refine vc_skip ?_
  refine seq_n ?_
  refine vc_seq ?_
  refine vc_seqr rfl ?_
  refine vcI_q 1 (by kernel_rfl) ?_
  refine vcI_end 123 [(3, .d (.v (.int .u64 ((x : Int))))), (4, .p 4 0), (5, .p 5 0), (6, .p 6 0), (8, .d (.v (.bool false))), (9, .p 9 0), (10, .p 10 0), (11, .d (.v (.bool true))), (21, .d (.v (.bool false))), (50, .d (.v (.bool false))), (51, .d (.v (.bool true)))] [(4, [.v (.int .u64 (hiW (h))), .v (.int .u64 (loW (h)))]), (5, [.v (.int .u64 (hiW (l))), .v (.int .u64 (loW (l)))]), (6, [.v (.int .u64 (hiW (d))), .v (.int .u64 (loW (d)))]), (9, [.v (.int .u64 (hiW ((h * B128 + l) / d))), .v (.int .u64 (loW ((h * B128 + l) / d)))]), (10, [.v (.int .u64 (hiW ((h * B128 + l) % d))), .v (.int .u64 (loW ((h * B128 + l) % d)))])] (by kernel_rfl) (by kernel_rfl) (by kernel_rfl) ?_
  refine vc_condt (by kernel_rfl) ?_
  refine vc_seqr rfl ?_
  refine vcI_q 2 (by kernel_rfl) ?_
  refine vcI_call (f := 13) (ds := [.agg [.v (.int .u64 (hiW (h))), .v (.int .u64 (loW (h)))], .agg [.v (.int .u64 (hiW (l))), .v (.int .u64 (loW (l)))]]) (dst := (some 55)) (by kernel_rfl) (c_Two hh hl) ?_
  rintro _ rfl
  refine vcI_q 1 (by kernel_rfl) ?_
  refine vcI_call (f := 15) (ds := [.agg [.v (.int .u64 (hiW (d))), .v (.int .u64 (loW (d)))]]) (dst := (some 57)) (by kernel_rfl) (c_N hd) ?_
  rintro _ rfl
  refine vcI_call (f := 23) (ds := [.sl (nd (h * B128 + l)) (dg (digs (h * B128 + l))), .sl (nd (d)) (dg (digs (d)))]) (dst := (some 58)) (by kernel_rfl) (c_Div (a := h * B128 + l) (b := d) (by omega) (by omega) (by omega)) ?_
  rintro _ rfl
  refine vcI_q 5 (by kernel_rfl) ?_
  refine vcI_end 123 [(3, .d (.v (.int .u64 ((x : Int))))), (4, .p 4 0), (5, .p 5 0), (6, .p 6 0), (8, .d (.v (.bool false))), (9, .p 9 0), (10, .p 10 0), (11, .d (.v (.bool true))), (12, .d (.sl (nd ((h * B128 + l) / d)) (dg (digs ((h * B128 + l) / d))))), (13, .d (.sl (nd ((h * B128 + l) % d)) (dg (digs ((h * B128 + l) % d))))), (21, .d (.v (.bool false))), (50, .d (.v (.bool false))), (51, .d (.v (.bool true)))] [(4, [.v (.int .u64 (hiW (h))), .v (.int .u64 (loW (h)))]), (5, [.v (.int .u64 (hiW (l))), .v (.int .u64 (loW (l)))]), (6, [.v (.int .u64 (hiW (d))), .v (.int .u64 (loW (d)))]), (9, [.v (.int .u64 (hiW ((h * B128 + l) / d))), .v (.int .u64 (loW ((h * B128 + l) / d)))]), (10, [.v (.int .u64 (hiW ((h * B128 + l) % d))), .v (.int .u64 (loW ((h * B128 + l) % d)))])] (by kernel_rfl) (by kernel_rfl) (by kernel_rfl) ?_
  refine vc_seqr rfl ?_
  refine vcI_q 1 (by kernel_rfl) ?_
  refine vcI_call (f := 15) (ds := [.agg [.v (.int .u64 (hiW ((h * B128 + l) / d))), .v (.int .u64 (loW ((h * B128 + l) / d)))]]) (dst := (some 62)) (by kernel_rfl) (c_N hq) ?_
  rintro _ rfl
  refine vcI_q 1 (by kernel_rfl) ?_
  refine vcI_call (f := 12) (ds := [.sl (nd ((h * B128 + l) / d)) (dg (digs ((h * B128 + l) / d))), .sl (nd ((h * B128 + l) / d)) (dg (digs ((h * B128 + l) / d)))]) (dst := (some 64)) (by kernel_rfl) (c_sameT rfl (by have := nd_U hq; omega)) ?_
  rintro _ rfl
  refine vcI_un (op := .not) (a := .bool true) (dst := (some 65)) (by kernel_rfl) ?_
  intro c65 hc65
  refine vcI_q 1 (by kernel_rfl) ?_
  obtain rfl : c65 = false := bff hc65 (by simp)
  refine vcI_q 1 (by kernel_rfl) ?_
  refine vcI_call (f := 15) (ds := [.agg [.v (.int .u64 (hiW ((h * B128 + l) % d))), .v (.int .u64 (loW ((h * B128 + l) % d)))]]) (dst := (some 68)) (by kernel_rfl) (c_N hr) ?_
  rintro _ rfl
  refine vcI_q 1 (by kernel_rfl) ?_
  refine vcI_call (f := 12) (ds := [.sl (nd ((h * B128 + l) % d)) (dg (digs ((h * B128 + l) % d))), .sl (nd ((h * B128 + l) % d)) (dg (digs ((h * B128 + l) % d)))]) (dst := (some 70)) (by kernel_rfl) (c_sameT rfl (by have := nd_U hr; omega)) ?_
  rintro _ rfl
  refine vcI_un (op := .not) (a := .bool true) (dst := (some 71)) (by kernel_rfl) ?_
  intro c71 hc71
  refine vcI_q 1 (by kernel_rfl) ?_
  refine vcI_end 123 [(3, .d (.v (.int .u64 ((x : Int))))), (4, .p 4 0), (5, .p 5 0), (6, .p 6 0), (8, .d (.v (.bool false))), (9, .p 9 0), (10, .p 10 0), (11, .d (.v (.bool true))), (21, .d (.v (.bool false))), (50, .d (.v (.bool false))), (51, .d (.v (.bool true))), (72, .d (.v (.bool c71)))] [(4, [.v (.int .u64 (hiW (h))), .v (.int .u64 (loW (h)))]), (5, [.v (.int .u64 (hiW (l))), .v (.int .u64 (loW (l)))]), (6, [.v (.int .u64 (hiW (d))), .v (.int .u64 (loW (d)))]), (9, [.v (.int .u64 (hiW ((h * B128 + l) / d))), .v (.int .u64 (loW ((h * B128 + l) / d)))]), (10, [.v (.int .u64 (hiW ((h * B128 + l) % d))), .v (.int .u64 (loW ((h * B128 + l) % d)))])] (by kernel_rfl) (by kernel_rfl) (by kernel_rfl) ?_
  obtain rfl : c71 = false := bff hc71 (by simp)
  have hp1 : (h * B128 + l) / x / B128 < B128 := Nat.div_lt_of_lt_mul (Nat.lt_of_le_of_lt (Nat.div_le_self _ _) (N2_lt hh hl))
  have hp2 := mod_lt128 ((h * B128 + l) / x)
  have hx64 : (h * B128 + l) % x < 18446744073709551616 := Nat.lt_trans (Nat.mod_lt _ hx0) hx
  refine vc_condf (by kernel_rfl) ?_
  refine vc_skip ?_
  refine seq_n ?_
  refine vc_seqr rfl ?_
  refine vcI_q 3 (by kernel_rfl) ?_
  refine vcI_call (f := 24) (ds := [.agg [.v (.int .u64 (hiW (h))), .v (.int .u64 (loW (h)))], .agg [.v (.int .u64 (hiW (l))), .v (.int .u64 (loW (l)))], .v (.int .u64 ((x : Int)))]) (dst := (some 77)) (by kernel_rfl) (cw_DivWord (n := x) hh hl hx hx0) ?_
  rintro _ rfl
  refine vcI_q 11 (by kernel_rfl) ?_
  refine vcI_end 123 [(3, .d (.v (.int .u64 ((x : Int))))), (4, .p 4 0), (5, .p 5 0), (6, .p 6 0), (8, .d (.v (.bool false))), (9, .p 9 0), (10, .p 10 0), (11, .d (.v (.bool true))), (14, .p 14 0), (15, .p 15 0), (16, .d (.v (.int .u64 ((((h * B128 + l) % x : Nat) : Int))))), (17, .d (.v (.bool true))), (21, .d (.v (.bool false))), (50, .d (.v (.bool false))), (51, .d (.v (.bool true))), (72, .d (.v (.bool false)))] [(4, [.v (.int .u64 (hiW (h))), .v (.int .u64 (loW (h)))]), (5, [.v (.int .u64 (hiW (l))), .v (.int .u64 (loW (l)))]), (6, [.v (.int .u64 (hiW (d))), .v (.int .u64 (loW (d)))]), (9, [.v (.int .u64 (hiW ((h * B128 + l) / d))), .v (.int .u64 (loW ((h * B128 + l) / d)))]), (10, [.v (.int .u64 (hiW ((h * B128 + l) % d))), .v (.int .u64 (loW ((h * B128 + l) % d)))]), (14, [.v (.int .u64 (hiW ((h * B128 + l) / x / B128))), .v (.int .u64 (loW ((h * B128 + l) / x / B128)))]), (15, [.v (.int .u64 (hiW ((h * B128 + l) / x % B128))), .v (.int .u64 (loW ((h * B128 + l) / x % B128)))])] (by kernel_rfl) (by kernel_rfl) (by kernel_rfl) ?_
  refine vc_seq ?_
  refine vc_seqr rfl ?_
  refine vcI_q 1 (by kernel_rfl) ?_
  refine vcI_bin (op := .eql) (t := 22) (a := .int .u64 ((x : Int))) (b := .int .u64 0) (dst := (some 83)) (by kernel_rfl) ?_
  intro c83 hc83
  refine vcI_end 123 [(3, .d (.v (.int .u64 ((x : Int))))), (4, .p 4 0), (5, .p 5 0), (6, .p 6 0), (8, .d (.v (.bool false))), (9, .p 9 0), (10, .p 10 0), (11, .d (.v (.bool true))), (14, .p 14 0), (15, .p 15 0), (16, .d (.v (.int .u64 ((((h * B128 + l) % x : Nat) : Int))))), (17, .d (.v (.bool true))), (21, .d (.v (.bool false))), (50, .d (.v (.bool false))), (51, .d (.v (.bool true))), (72, .d (.v (.bool false))), (83, .d (.v (.bool c83)))] [(4, [.v (.int .u64 (hiW (h))), .v (.int .u64 (loW (h)))]), (5, [.v (.int .u64 (hiW (l))), .v (.int .u64 (loW (l)))]), (6, [.v (.int .u64 (hiW (d))), .v (.int .u64 (loW (d)))]), (9, [.v (.int .u64 (hiW ((h * B128 + l) / d))), .v (.int .u64 (loW ((h * B128 + l) / d)))]), (10, [.v (.int .u64 (hiW ((h * B128 + l) % d))), .v (.int .u64 (loW ((h * B128 + l) % d)))]), (14, [.v (.int .u64 (hiW ((h * B128 + l) / x / B128))), .v (.int .u64 (loW ((h * B128 + l) / x / B128)))]), (15, [.v (.int .u64 (hiW ((h * B128 + l) / x % B128))), .v (.int .u64 (loW ((h * B128 + l) / x % B128)))])] (by kernel_rfl) (by kernel_rfl) (by kernel_rfl) ?_
  obtain rfl : c83 = false := bff hc83 (by omega)
  refine vc_condf (by kernel_rfl) ?_
  refine vc_skip ?_
  refine seq_n ?_
  refine vc_seqr rfl ?_
  refine vcI_q 2 (by kernel_rfl) ?_
  refine vcI_call (f := 13) (ds := [.agg [.v (.int .u64 (hiW (h))), .v (.int .u64 (loW (h)))], .agg [.v (.int .u64 (hiW (l))), .v (.int .u64 (loW (l)))]]) (dst := (some 101)) (by kernel_rfl) (c_Two hh hl) ?_
  rintro _ rfl
  refine vcI_q 2 (by kernel_rfl) ?_
  refine vcI_call (f := 18) (ds := [.sl 1 [.v (.int .u64 ((x : Int)))]]) (dst := (some 104)) (by kernel_rfl) (c_Word hx) ?_
  rintro _ rfl
  refine vcI_call (f := 23) (ds := [.sl (nd (h * B128 + l)) (dg (digs (h * B128 + l))), .sl (nd (x)) (dg (digs (x)))]) (dst := (some 105)) (by kernel_rfl) (c_Div (a := h * B128 + l) (b := x) (by omega) hx0 (by have := nd_word hx; omega)) ?_
  rintro _ rfl
  refine vcI_q 5 (by kernel_rfl) ?_
  refine vcI_end 123 [(3, .d (.v (.int .u64 ((x : Int))))), (4, .p 4 0), (5, .p 5 0), (6, .p 6 0), (8, .d (.v (.bool false))), (9, .p 9 0), (10, .p 10 0), (11, .d (.v (.bool true))), (14, .p 14 0), (15, .p 15 0), (16, .d (.v (.int .u64 ((((h * B128 + l) % x : Nat) : Int))))), (17, .d (.v (.bool true))), (18, .d (.sl (nd ((h * B128 + l) / x)) (dg (digs ((h * B128 + l) / x))))), (19, .d (.sl (nd ((h * B128 + l) % x)) (dg (digs ((h * B128 + l) % x))))), (21, .d (.v (.bool false))), (50, .d (.v (.bool false))), (51, .d (.v (.bool true))), (72, .d (.v (.bool false))), (83, .d (.v (.bool false)))] [(4, [.v (.int .u64 (hiW (h))), .v (.int .u64 (loW (h)))]), (5, [.v (.int .u64 (hiW (l))), .v (.int .u64 (loW (l)))]), (6, [.v (.int .u64 (hiW (d))), .v (.int .u64 (loW (d)))]), (9, [.v (.int .u64 (hiW ((h * B128 + l) / d))), .v (.int .u64 (loW ((h * B128 + l) / d)))]), (10, [.v (.int .u64 (hiW ((h * B128 + l) % d))), .v (.int .u64 (loW ((h * B128 + l) % d)))]), (14, [.v (.int .u64 (hiW ((h * B128 + l) / x / B128))), .v (.int .u64 (loW ((h * B128 + l) / x / B128)))]), (15, [.v (.int .u64 (hiW ((h * B128 + l) / x % B128))), .v (.int .u64 (loW ((h * B128 + l) / x % B128)))])] (by kernel_rfl) (by kernel_rfl) (by kernel_rfl) ?_
  refine vc_seqr rfl ?_
  refine vcI_q 4 (by kernel_rfl) ?_
  refine vcI_call (f := 13) (ds := [.agg [.v (.int .u64 (hiW ((h * B128 + l) / x / B128))), .v (.int .u64 (loW ((h * B128 + l) / x / B128)))], .agg [.v (.int .u64 (hiW ((h * B128 + l) / x % B128))), .v (.int .u64 (loW ((h * B128 + l) / x % B128)))]]) (dst := (some 112)) (by kernel_rfl) (c_Two hp1 hp2) ?_
  rintro _ rfl
  refine vcI_q 1 (by kernel_rfl) ?_
  refine vcI_call (f := 12) (ds := [.sl (nd ((h * B128 + l) / x / B128 * B128 + (h * B128 + l) / x % B128)) (dg (digs ((h * B128 + l) / x / B128 * B128 + (h * B128 + l) / x % B128))), .sl (nd ((h * B128 + l) / x)) (dg (digs ((h * B128 + l) / x)))]) (dst := (some 114)) (by kernel_rfl) (c_sameT (Nat.div_add_mod' _ _) (by have := nd_U2 hp1 hp2; omega)) ?_
  rintro _ rfl
  refine vcI_q 4 (by kernel_rfl) ?_
  refine vcI_call (f := 18) (ds := [.sl 1 [.v (.int .u64 ((((h * B128 + l) % x : Nat) : Int)))]]) (dst := (some 119)) (by kernel_rfl) (c_Word hx64) ?_
  rintro _ rfl
  refine vcI_q 1 (by kernel_rfl) ?_
  refine vcI_call (f := 12) (ds := [.sl (nd ((h * B128 + l) % x)) (dg (digs ((h * B128 + l) % x))), .sl (nd ((h * B128 + l) % x)) (dg (digs ((h * B128 + l) % x)))]) (dst := (some 121)) (by kernel_rfl) (c_sameT rfl (by have := nd_word hx64; omega)) ?_
  rintro _ rfl
  refine vcI_q 2 (by kernel_rfl) ?_
  refine vcI_end 123 [(3, .d (.v (.int .u64 ((x : Int))))), (4, .p 4 0), (5, .p 5 0), (6, .p 6 0), (8, .d (.v (.bool true))), (9, .p 9 0), (10, .p 10 0), (11, .d (.v (.bool true))), (14, .p 14 0), (15, .p 15 0), (16, .d (.v (.int .u64 ((((h * B128 + l) % x : Nat) : Int))))), (17, .d (.v (.bool true))), (21, .d (.v (.bool false))), (50, .d (.v (.bool false))), (51, .d (.v (.bool true))), (72, .d (.v (.bool false))), (83, .d (.v (.bool false)))] [(4, [.v (.int .u64 (hiW (h))), .v (.int .u64 (loW (h)))]), (5, [.v (.int .u64 (hiW (l))), .v (.int .u64 (loW (l)))]), (6, [.v (.int .u64 (hiW (d))), .v (.int .u64 (loW (d)))]), (9, [.v (.int .u64 (hiW ((h * B128 + l) / d))), .v (.int .u64 (loW ((h * B128 + l) / d)))]), (10, [.v (.int .u64 (hiW ((h * B128 + l) % d))), .v (.int .u64 (loW ((h * B128 + l) % d)))]), (14, [.v (.int .u64 (hiW ((h * B128 + l) / x / B128))), .v (.int .u64 (loW ((h * B128 + l) / x / B128)))]), (15, [.v (.int .u64 (hiW ((h * B128 + l) / x % B128))), .v (.int .u64 (loW ((h * B128 + l) / x % B128)))])] (by kernel_rfl) (by kernel_rfl) (by kernel_rfl) ?_
  refine vc_ret ?_
  refine ret_1 (d := .v (.bool true)) (by kernel_rfl) ?_
  rfl

set_option maxHeartbeats 3200000 in
theorem c_WideDivs_no_0 {h l d x : Nat} (hh : h < B128) (hl : l < B128) (hd : d < B128) (hx : x < 18446744073709551616) (hle : d ≤ h) : HasC Try.prog 4 [.agg [.v (.int .u64 (hiW (h))), .v (.int .u64 (loW (h)))], .agg [.v (.int .u64 (hiW (l))), .v (.int .u64 (loW (l)))], .agg [.v (.int .u64 (hiW (d))), .v (.int .u64 (loW (d)))], .v (.int .u64 0)] (fun y => y = .v (.bool true)) := by
  refine HasC.of [] (fn := Try.f4) tyOk mixed (fun args w => Try.call4 args w) Try.func4 rfl (by kernel_rfl) (Nat.le_of_ble_eq_true rfl) (⟨_, rfl⟩) ?_
  have n1 := nd_U2 hh hl; have n2 := nd_U hd; have n3 := nd_U hh
  refine vc_seqr rfl ?_
  refine vcI_q 4 (by kernel_rfl) ?_
  refine vcI_end 123 [(3, .d (.v (.int .u64 0))), (4, .p 4 0), (5, .p 5 0), (6, .p 6 0), (8, .d (.v (.bool false)))] [(4, [.v (.int .u64 (hiW (h))), .v (.int .u64 (loW (h)))]), (5, [.v (.int .u64 (hiW (l))), .v (.int .u64 (loW (l)))]), (6, [.v (.int .u64 (hiW (d))), .v (.int .u64 (loW (d)))])] (by kernel_rfl) (by kernel_rfl) (by kernel_rfl) ?_
  refine vc_seq ?_
  refine vc_seqr rfl ?_
  refine vcI_call (f := 9) (ds := []) (dst := (some 20)) (by kernel_rfl) (c_awake) ?_
  rintro _ rfl
  refine vcI_un (op := .not) (a := .bool true) (dst := (some 21)) (by kernel_rfl) ?_
  intro c21 hc21
  refine vcI_end 123 [(3, .d (.v (.int .u64 0))), (4, .p 4 0), (5, .p 5 0), (6, .p 6 0), (8, .d (.v (.bool false))), (21, .d (.v (.bool c21)))] [(4, [.v (.int .u64 (hiW (h))), .v (.int .u64 (loW (h)))]), (5, [.v (.int .u64 (hiW (l))), .v (.int .u64 (loW (l)))]), (6, [.v (.int .u64 (hiW (d))), .v (.int .u64 (loW (d)))])] (by kernel_rfl) (by kernel_rfl) (by kernel_rfl) ?_
  obtain rfl : c21 = false := bff hc21 (by simp)
  refine vc_condf (by kernel_rfl) ?_
  refine vc_skip ?_
  refine seq_n ?_
  refine vc_seqr rfl ?_
  refine vcI_q 3 (by kernel_rfl) ?_
  refine vcI_call (f := 20) (ds := [.agg [.v (.int .u64 (hiW (h))), .v (.int .u64 (loW (h)))], .agg [.v (.int .u64 (hiW (l))), .v (.int .u64 (loW (l)))], .agg [.v (.int .u64 (hiW (d))), .v (.int .u64 (loW (d)))]]) (dst := (some 26)) (by kernel_rfl) (cw_Div_no hh hl hd hle) ?_
  rintro _ rfl
  refine vcI_q 9 (by kernel_rfl) ?_
  refine vcI_end 123 [(3, .d (.v (.int .u64 0))), (4, .p 4 0), (5, .p 5 0), (6, .p 6 0), (8, .d (.v (.bool false))), (9, .p 9 0), (10, .p 10 0), (11, .d (.v (.bool false))), (21, .d (.v (.bool false)))] [(4, [.v (.int .u64 (hiW (h))), .v (.int .u64 (loW (h)))]), (5, [.v (.int .u64 (hiW (l))), .v (.int .u64 (loW (l)))]), (6, [.v (.int .u64 (hiW (d))), .v (.int .u64 (loW (d)))]), (9, [.v (.int .u64 (hiW (0))), .v (.int .u64 (loW (0)))]), (10, [.v (.int .u64 (hiW (0))), .v (.int .u64 (loW (0)))])] (by kernel_rfl) (by kernel_rfl) (by kernel_rfl) ?_
  refine vc_seq ?_
  refine vc_seqr rfl ?_
  refine vcI_q 2 (by kernel_rfl) ?_
  refine vcI_call (f := 15) (ds := [.agg [.v (.int .u64 (hiW (h))), .v (.int .u64 (loW (h)))]]) (dst := (some 32)) (by kernel_rfl) (c_N hh) ?_
  rintro _ rfl
  refine vcI_q 1 (by kernel_rfl) ?_
  refine vcI_call (f := 15) (ds := [.agg [.v (.int .u64 (hiW (d))), .v (.int .u64 (loW (d)))]]) (dst := (some 34)) (by kernel_rfl) (c_N hd) ?_
  rintro _ rfl
  refine vcI_call (f := 21) (ds := [.sl (nd (h)) (dg (digs (h))), .sl (nd (d)) (dg (digs (d)))]) (dst := (some 35)) (by kernel_rfl) (c_Cmp (a := h) (b := d) (by omega) (by omega)) ?_
  rintro _ rfl
  refine vcI_bin (op := .lss) (t := 3) (a := .int .i64 (cmpN h d)) (b := .int .i64 0) (dst := (some 36)) (by kernel_rfl) ?_
  intro c36 hc36
  refine vcI_bin (op := .neq) (t := 4) (a := .bool false) (b := .bool c36) (dst := (some 37)) (by kernel_rfl) ?_
  intro c37 hc37
  refine vcI_q 1 (by kernel_rfl) ?_
  obtain rfl : c37 = false := bff hc37 (fun hne => hne (by rw [eq_comm]; exact bff hc36 (by rw [cN_lt]; omega)))
  refine vcI_q 1 (by kernel_rfl) ?_
  refine vcI_un (op := .not) (a := .bool false) (dst := (some 40)) (by kernel_rfl) ?_
  intro c40 hc40
  refine vcI_q 1 (by kernel_rfl) ?_
  obtain rfl : c40 = true := hc40.2 (rfl)
  refine vcI_q 1 (by kernel_rfl) ?_
  refine vcI_call (f := 22) (ds := [.agg [.v (.int .u64 (hiW (0))), .v (.int .u64 (loW (0)))]]) (dst := (some 43)) (by kernel_rfl) (cw_Zero (a := 0) (by decide)) ?_
  rintro _ ⟨y1, rfl, hy1⟩
  refine vcI_q 1 (by kernel_rfl) ?_
  obtain rfl : y1 = true := hy1.2 (rfl)
  refine vcI_q 1 (by kernel_rfl) ?_
  refine vcI_call (f := 22) (ds := [.agg [.v (.int .u64 (hiW (0))), .v (.int .u64 (loW (0)))]]) (dst := (some 46)) (by kernel_rfl) (cw_Zero (a := 0) (by decide)) ?_
  rintro _ ⟨y2, rfl, hy2⟩
  refine vcI_q 1 (by kernel_rfl) ?_
  refine vcI_un (op := .not) (a := .bool y2) (dst := (some 48)) (by kernel_rfl) ?_
  intro c48 hc48
  refine vcI_q 2 (by kernel_rfl) ?_
  refine vcI_end 123 [(3, .d (.v (.int .u64 0))), (4, .p 4 0), (5, .p 5 0), (6, .p 6 0), (8, .d (.v (.bool false))), (9, .p 9 0), (10, .p 10 0), (11, .d (.v (.bool false))), (21, .d (.v (.bool false))), (50, .d (.v (.bool c48)))] [(4, [.v (.int .u64 (hiW (h))), .v (.int .u64 (loW (h)))]), (5, [.v (.int .u64 (hiW (l))), .v (.int .u64 (loW (l)))]), (6, [.v (.int .u64 (hiW (d))), .v (.int .u64 (loW (d)))]), (9, [.v (.int .u64 (hiW (0))), .v (.int .u64 (loW (0)))]), (10, [.v (.int .u64 (hiW (0))), .v (.int .u64 (loW (0)))])] (by kernel_rfl) (by kernel_rfl) (by kernel_rfl) ?_
  obtain rfl : c48 = false := bff hc48 (by rw [hy2.2 rfl]; simp)
  refine vc_condf (by kernel_rfl) ?_
  refine vc_skip ?_
  refine seq_n ?_
  refine vc_seq ?_
  refine vc_seqr rfl ?_
  refine vcI_q 1 (by kernel_rfl) ?_
  refine vcI_end 123 [(3, .d (.v (.int .u64 0))), (4, .p 4 0), (5, .p 5 0), (6, .p 6 0), (8, .d (.v (.bool false))), (9, .p 9 0), (10, .p 10 0), (11, .d (.v (.bool false))), (21, .d (.v (.bool false))), (50, .d (.v (.bool false))), (51, .d (.v (.bool false)))] [(4, [.v (.int .u64 (hiW (h))), .v (.int .u64 (loW (h)))]), (5, [.v (.int .u64 (hiW (l))), .v (.int .u64 (loW (l)))]), (6, [.v (.int .u64 (hiW (d))), .v (.int .u64 (loW (d)))]), (9, [.v (.int .u64 (hiW (0))), .v (.int .u64 (loW (0)))]), (10, [.v (.int .u64 (hiW (0))), .v (.int .u64 (loW (0)))])] (by kernel_rfl) (by kernel_rfl) (by kernel_rfl) ?_
  refine vc_condf (by kernel_rfl) ?_
  refine vc_skip ?_
  refine seq_n ?_
  refine vc_seqr rfl ?_
  refine vcI_q 3 (by kernel_rfl) ?_
  refine vcI_call (f := 24) (ds := [.agg [.v (.int .u64 (hiW (h))), .v (.int .u64 (loW (h)))], .agg [.v (.int .u64 (hiW (l))), .v (.int .u64 (loW (l)))], .v (.int .u64 0)]) (dst := (some 77)) (by kernel_rfl) (cw_DivWord_0 hh hl) ?_
  rintro _ rfl
  refine vcI_q 11 (by kernel_rfl) ?_
  refine vcI_end 123 [(3, .d (.v (.int .u64 0))), (4, .p 4 0), (5, .p 5 0), (6, .p 6 0), (8, .d (.v (.bool false))), (9, .p 9 0), (10, .p 10 0), (11, .d (.v (.bool false))), (14, .p 14 0), (15, .p 15 0), (16, .d (.v (.int .u64 0))), (17, .d (.v (.bool false))), (21, .d (.v (.bool false))), (50, .d (.v (.bool false))), (51, .d (.v (.bool false)))] [(4, [.v (.int .u64 (hiW (h))), .v (.int .u64 (loW (h)))]), (5, [.v (.int .u64 (hiW (l))), .v (.int .u64 (loW (l)))]), (6, [.v (.int .u64 (hiW (d))), .v (.int .u64 (loW (d)))]), (9, [.v (.int .u64 (hiW (0))), .v (.int .u64 (loW (0)))]), (10, [.v (.int .u64 (hiW (0))), .v (.int .u64 (loW (0)))]), (14, [.v (.int .u64 (hiW (0))), .v (.int .u64 (loW (0)))]), (15, [.v (.int .u64 (hiW (0))), .v (.int .u64 (loW (0)))])] (by kernel_rfl) (by kernel_rfl) (by kernel_rfl) ?_
  refine vc_seq ?_
  refine vc_seqr rfl ?_
  refine vcI_q 1 (by kernel_rfl) ?_
  refine vcI_bin (op := .eql) (t := 22) (a := .int .u64 0) (b := .int .u64 0) (dst := (some 83)) (by kernel_rfl) ?_
  intro c83 hc83
  refine vcI_end 123 [(3, .d (.v (.int .u64 0))), (4, .p 4 0), (5, .p 5 0), (6, .p 6 0), (8, .d (.v (.bool false))), (9, .p 9 0), (10, .p 10 0), (11, .d (.v (.bool false))), (14, .p 14 0), (15, .p 15 0), (16, .d (.v (.int .u64 0))), (17, .d (.v (.bool false))), (21, .d (.v (.bool false))), (50, .d (.v (.bool false))), (51, .d (.v (.bool false))), (83, .d (.v (.bool c83)))] [(4, [.v (.int .u64 (hiW (h))), .v (.int .u64 (loW (h)))]), (5, [.v (.int .u64 (hiW (l))), .v (.int .u64 (loW (l)))]), (6, [.v (.int .u64 (hiW (d))), .v (.int .u64 (loW (d)))]), (9, [.v (.int .u64 (hiW (0))), .v (.int .u64 (loW (0)))]), (10, [.v (.int .u64 (hiW (0))), .v (.int .u64 (loW (0)))]), (14, [.v (.int .u64 (hiW (0))), .v (.int .u64 (loW (0)))]), (15, [.v (.int .u64 (hiW (0))), .v (.int .u64 (loW (0)))])] (by kernel_rfl) (by kernel_rfl) (by kernel_rfl) ?_
  obtain rfl : c83 = true := hc83.2 (rfl)
  refine vc_condt (by kernel_rfl) ?_
  refine vc_seqr rfl ?_
  refine vcI_q 1 (by kernel_rfl) ?_
  refine vcI_un (op := .not) (a := .bool false) (dst := (some 85)) (by kernel_rfl) ?_
  intro c85 hc85
  refine vcI_q 1 (by kernel_rfl) ?_
  obtain rfl : c85 = true := hc85.2 (rfl)
  refine vcI_q 1 (by kernel_rfl) ?_
  refine vcI_call (f := 22) (ds := [.agg [.v (.int .u64 (hiW (0))), .v (.int .u64 (loW (0)))]]) (dst := (some 88)) (by kernel_rfl) (cw_Zero (a := 0) (by decide)) ?_
  rintro _ ⟨z1, rfl, hz1⟩
  refine vcI_q 2 (by kernel_rfl) ?_
  obtain rfl : z1 = true := hz1.2 (rfl)
  refine vcI_q 1 (by kernel_rfl) ?_
  refine vcI_call (f := 22) (ds := [.agg [.v (.int .u64 (hiW (0))), .v (.int .u64 (loW (0)))]]) (dst := (some 92)) (by kernel_rfl) (cw_Zero (a := 0) (by decide)) ?_
  rintro _ ⟨z2, rfl, hz2⟩
  refine vcI_q 2 (by kernel_rfl) ?_
  obtain rfl : z2 = true := hz2.2 (rfl)
  refine vcI_q 1 (by kernel_rfl) ?_
  refine vcI_bin (op := .eql) (t := 22) (a := .int .u64 0) (b := .int .u64 0) (dst := (some 96)) (by kernel_rfl) ?_
  intro c96 hc96
  refine vcI_q 2 (by kernel_rfl) ?_
  refine vcI_end 123 [(3, .d (.v (.int .u64 0))), (4, .p 4 0), (5, .p 5 0), (6, .p 6 0), (8, .d (.v (.bool c96))), (9, .p 9 0), (10, .p 10 0), (11, .d (.v (.bool false))), (14, .p 14 0), (15, .p 15 0), (16, .d (.v (.int .u64 0))), (17, .d (.v (.bool false))), (21, .d (.v (.bool false))), (50, .d (.v (.bool false))), (51, .d (.v (.bool false))), (83, .d (.v (.bool true)))] [(4, [.v (.int .u64 (hiW (h))), .v (.int .u64 (loW (h)))]), (5, [.v (.int .u64 (hiW (l))), .v (.int .u64 (loW (l)))]), (6, [.v (.int .u64 (hiW (d))), .v (.int .u64 (loW (d)))]), (9, [.v (.int .u64 (hiW (0))), .v (.int .u64 (loW (0)))]), (10, [.v (.int .u64 (hiW (0))), .v (.int .u64 (loW (0)))]), (14, [.v (.int .u64 (hiW (0))), .v (.int .u64 (loW (0)))]), (15, [.v (.int .u64 (hiW (0))), .v (.int .u64 (loW (0)))])] (by kernel_rfl) (by kernel_rfl) (by kernel_rfl) ?_
  refine vc_ret ?_
  refine seq_r ?_
  refine ret_1 (d := .v (.bool c96)) (by kernel_rfl) ?_
  rw [hc96.2 rfl]

set_option maxHeartbeats 3200000 in
theorem c_WideDivs_no_x {h l d x : Nat} (hh : h < B128) (hl : l < B128) (hd : d < B128) (hx : x < 18446744073709551616) (hx0 : 0 < x) (hle : d ≤ h) : HasC Try.prog 4 [.agg [.v (.int .u64 (hiW (h))), .v (.int .u64 (loW (h)))], .agg [.v (.int .u64 (hiW (l))), .v (.int .u64 (loW (l)))], .agg [.v (.int .u64 (hiW (d))), .v (.int .u64 (loW (d)))], .v (.int .u64 ((x : Int)))] (fun y => y = .v (.bool true)) := by
  refine HasC.of [] (fn := Try.f4) tyOk mixed (fun args w => Try.call4 args w) Try.func4 rfl (by kernel_rfl) (Nat.le_of_ble_eq_true rfl) (⟨_, rfl⟩) ?_
  have n1 := nd_U2 hh hl; have n2 := nd_U hd; have n3 := nd_U hh
  refine vc_seqr rfl ?_
  refine vcI_q 4 (by kernel_rfl) ?_
  refine vcI_end 123 [(3, .d (.v (.int .u64 ((x : Int))))), (4, .p 4 0), (5, .p 5 0), (6, .p 6 0), (8, .d (.v (.bool false)))] [(4, [.v (.int .u64 (hiW (h))), .v (.int .u64 (loW (h)))]), (5, [.v (.int .u64 (hiW (l))), .v (.int .u64 (loW (l)))]), (6, [.v (.int .u64 (hiW (d))), .v (.int .u64 (loW (d)))])] (by kernel_rfl) (by kernel_rfl) (by kernel_rfl) ?_
  refine vc_seq ?_
  refine vc_seqr rfl ?_
  refine vcI_call (f := 9) (ds := []) (dst := (some 20)) (by kernel_rfl) (c_awake) ?_
  rintro _ rfl
  refine vcI_un (op := .not) (a := .bool true) (dst := (some 21)) (by kernel_rfl) ?_
  intro c21 hc21
  refine vcI_end 123 [(3, .d (.v (.int .u64 ((x : Int))))), (4, .p 4 0), (5, .p 5 0), (6, .p 6 0), (8, .d (.v (.bool false))), (21, .d (.v (.bool c21)))] [(4, [.v (.int .u64 (hiW (h))), .v (.int .u64 (loW (h)))]), (5, [.v (.int .u64 (hiW (l))), .v (.int .u64 (loW (l)))]), (6, [.v (.int .u64 (hiW (d))), .v (.int .u64 (loW (d)))])] (by kernel_rfl) (by kernel_rfl) (by kernel_rfl) ?_
  obtain rfl : c21 = false := bff hc21 (by simp)
  refine vc_condf (by kernel_rfl) ?_
  refine vc_skip ?_
  refine seq_n ?_
  refine vc_seqr rfl ?_
  refine vcI_q 3 (by kernel_rfl) ?_
  refine vcI_call (f := 20) (ds := [.agg [.v (.int .u64 (hiW (h))), .v (.int .u64 (loW (h)))], .agg [.v (.int .u64 (hiW (l))), .v (.int .u64 (loW (l)))], .agg [.v (.int .u64 (hiW (d))), .v (.int .u64 (loW (d)))]]) (dst := (some 26)) (by kernel_rfl) (cw_Div_no hh hl hd hle) ?_
  rintro _ rfl
  refine vcI_q 9 (by kernel_rfl) ?_
  refine vcI_end 123 [(3, .d (.v (.int .u64 ((x : Int))))), (4, .p 4 0), (5, .p 5 0), (6, .p 6 0), (8, .d (.v (.bool false))), (9, .p 9 0), (10, .p 10 0), (11, .d (.v (.bool false))), (21, .d (.v (.bool false)))] [(4, [.v (.int .u64 (hiW (h))), .v (.int .u64 (loW (h)))]), (5, [.v (.int .u64 (hiW (l))), .v (.int .u64 (loW (l)))]), (6, [.v (.int .u64 (hiW (d))), .v (.int .u64 (loW (d)))]), (9, [.v (.int .u64 (hiW (0))), .v (.int .u64 (loW (0)))]), (10, [.v (.int .u64 (hiW (0))), .v (.int .u64 (loW (0)))])] (by kernel_rfl) (by kernel_rfl) (by kernel_rfl) ?_
  refine vc_seq ?_
  refine vc_seqr rfl ?_
  refine vcI_q 2 (by kernel_rfl) ?_
  refine vcI_call (f := 15) (ds := [.agg [.v (.int .u64 (hiW (h))), .v (.int .u64 (loW (h)))]]) (dst := (some 32)) (by kernel_rfl) (c_N hh) ?_
  rintro _ rfl
  refine vcI_q 1 (by kernel_rfl) ?_
  refine vcI_call (f := 15) (ds := [.agg [.v (.int .u64 (hiW (d))), .v (.int .u64 (loW (d)))]]) (dst := (some 34)) (by kernel_rfl) (c_N hd) ?_
  rintro _ rfl
  refine vcI_call (f := 21) (ds := [.sl (nd (h)) (dg (digs (h))), .sl (nd (d)) (dg (digs (d)))]) (dst := (some 35)) (by kernel_rfl) (c_Cmp (a := h) (b := d) (by omega) (by omega)) ?_
  rintro _ rfl
  refine vcI_bin (op := .lss) (t := 3) (a := .int .i64 (cmpN h d)) (b := .int .i64 0) (dst := (some 36)) (by kernel_rfl) ?_
  intro c36 hc36
  refine vcI_bin (op := .neq) (t := 4) (a := .bool false) (b := .bool c36) (dst := (some 37)) (by kernel_rfl) ?_
  intro c37 hc37
  refine vcI_q 1 (by kernel_rfl) ?_
  obtain rfl : c37 = false := bff hc37 (fun hne => hne (by rw [eq_comm]; exact bff hc36 (by rw [cN_lt]; omega)))
  refine vcI_q 1 (by kernel_rfl) ?_
  refine vcI_un (op := .not) (a := .bool false) (dst := (some 40)) (by kernel_rfl) ?_
  intro c40 hc40
  refine vcI_q 1 (by kernel_rfl) ?_
  obtain rfl : c40 = true := hc40.2 (rfl)
  refine vcI_q 1 (by kernel_rfl) ?_
  refine vcI_call (f := 22) (ds := [.agg [.v (.int .u64 (hiW (0))), .v (.int .u64 (loW (0)))]]) (dst := (some 43)) (by kernel_rfl) (cw_Zero (a := 0) (by decide)) ?_
  rintro _ ⟨y1, rfl, hy1⟩
  refine vcI_q 1 (by kernel_rfl) ?_
  obtain rfl : y1 = true := hy1.2 (rfl)
  refine vcI_q 1 (by kernel_rfl) ?_
  refine vcI_call (f := 22) (ds := [.agg [.v (.int .u64 (hiW (0))), .v (.int .u64 (loW (0)))]]) (dst := (some 46)) (by kernel_rfl) (cw_Zero (a := 0) (by decide)) ?_
  rintro _ ⟨y2, rfl, hy2⟩
  refine vcI_q 1 (by kernel_rfl) ?_
  refine vcI_un (op := .not) (a := .bool y2) (dst := (some 48)) (by kernel_rfl) ?_
  intro c48 hc48
  refine vcI_q 2 (by kernel_rfl) ?_
  refine vcI_end 123 [(3, .d (.v (.int .u64 ((x : Int))))), (4, .p 4 0), (5, .p 5 0), (6, .p 6 0), (8, .d (.v (.bool false))), (9, .p 9 0), (10, .p 10 0), (11, .d (.v (.bool false))), (21, .d (.v (.bool false))), (50, .d (.v (.bool c48)))] [(4, [.v (.int .u64 (hiW (h))), .v (.int .u64 (loW (h)))]), (5, [.v (.int .u64 (hiW (l))), .v (.int .u64 (loW (l)))]), (6, [.v (.int .u64 (hiW (d))), .v (.int .u64 (loW (d)))]), (9, [.v (.int .u64 (hiW (0))), .v (.int .u64 (loW (0)))]), (10, [.v (.int .u64 (hiW (0))), .v (.int .u64 (loW (0)))])] (by kernel_rfl) (by kernel_rfl) (by kernel_rfl) ?_
  obtain rfl : c48 = false := bff hc48 (by rw [hy2.2 rfl]; simp)
  have hp1 : (h * B128 + l) / x / B128 < B128 := Nat.div_lt_of_lt_mul (Nat.lt_of_le_of_lt (Nat.div_le_self _ _) (N2_lt hh hl))
  have hp2 := mod_lt128 ((h * B128 + l) / x)
  have hx64 : (h * B128 + l) % x < 18446744073709551616 := Nat.lt_trans (Nat.mod_lt _ hx0) hx
  refine vc_condf (by kernel_rfl) ?_
  refine vc_skip ?_
  refine seq_n ?_
  refine vc_seq ?_
  refine vc_seqr rfl ?_
  refine vcI_q 1 (by kernel_rfl) ?_
  refine vcI_end 123 [(3, .d (.v (.int .u64 ((x : Int))))), (4, .p 4 0), (5, .p 5 0), (6, .p 6 0), (8, .d (.v (.bool false))), (9, .p 9 0), (10, .p 10 0), (11, .d (.v (.bool false))), (21, .d (.v (.bool false))), (50, .d (.v (.bool false))), (51, .d (.v (.bool false)))] [(4, [.v (.int .u64 (hiW (h))), .v (.int .u64 (loW (h)))]), (5, [.v (.int .u64 (hiW (l))), .v (.int .u64 (loW (l)))]), (6, [.v (.int .u64 (hiW (d))), .v (.int .u64 (loW (d)))]), (9, [.v (.int .u64 (hiW (0))), .v (.int .u64 (loW (0)))]), (10, [.v (.int .u64 (hiW (0))), .v (.int .u64 (loW (0)))])] (by kernel_rfl) (by kernel_rfl) (by kernel_rfl) ?_
  refine vc_condf (by kernel_rfl) ?_
  refine vc_skip ?_
  refine seq_n ?_
  refine vc_seqr rfl ?_
  refine vcI_q 3 (by kernel_rfl) ?_
  refine vcI_call (f := 24) (ds := [.agg [.v (.int .u64 (hiW (h))), .v (.int .u64 (loW (h)))], .agg [.v (.int .u64 (hiW (l))), .v (.int .u64 (loW (l)))], .v (.int .u64 ((x : Int)))]) (dst := (some 77)) (by kernel_rfl) (cw_DivWord (n := x) hh hl hx hx0) ?_
  rintro _ rfl
  refine vcI_q 11 (by kernel_rfl) ?_
  refine vcI_end 123 [(3, .d (.v (.int .u64 ((x : Int))))), (4, .p 4 0), (5, .p 5 0), (6, .p 6 0), (8, .d (.v (.bool false))), (9, .p 9 0), (10, .p 10 0), (11, .d (.v (.bool false))), (14, .p 14 0), (15, .p 15 0), (16, .d (.v (.int .u64 ((((h * B128 + l) % x : Nat) : Int))))), (17, .d (.v (.bool true))), (21, .d (.v (.bool false))), (50, .d (.v (.bool false))), (51, .d (.v (.bool false)))] [(4, [.v (.int .u64 (hiW (h))), .v (.int .u64 (loW (h)))]), (5, [.v (.int .u64 (hiW (l))), .v (.int .u64 (loW (l)))]), (6, [.v (.int .u64 (hiW (d))), .v (.int .u64 (loW (d)))]), (9, [.v (.int .u64 (hiW (0))), .v (.int .u64 (loW (0)))]), (10, [.v (.int .u64 (hiW (0))), .v (.int .u64 (loW (0)))]), (14, [.v (.int .u64 (hiW ((h * B128 + l) / x / B128))), .v (.int .u64 (loW ((h * B128 + l) / x / B128)))]), (15, [.v (.int .u64 (hiW ((h * B128 + l) / x % B128))), .v (.int .u64 (loW ((h * B128 + l) / x % B128)))])] (by kernel_rfl) (by kernel_rfl) (by kernel_rfl) ?_
  refine vc_seq ?_
  refine vc_seqr rfl ?_
  refine vcI_q 1 (by kernel_rfl) ?_
  refine vcI_bin (op := .eql) (t := 22) (a := .int .u64 ((x : Int))) (b := .int .u64 0) (dst := (some 83)) (by kernel_rfl) ?_
  intro c83 hc83
  refine vcI_end 123 [(3, .d (.v (.int .u64 ((x : Int))))), (4, .p 4 0), (5, .p 5 0), (6, .p 6 0), (8, .d (.v (.bool false))), (9, .p 9 0), (10, .p 10 0), (11, .d (.v (.bool false))), (14, .p 14 0), (15, .p 15 0), (16, .d (.v (.int .u64 ((((h * B128 + l) % x : Nat) : Int))))), (17, .d (.v (.bool true))), (21, .d (.v (.bool false))), (50, .d (.v (.bool false))), (51, .d (.v (.bool false))), (83, .d (.v (.bool c83)))] [(4, [.v (.int .u64 (hiW (h))), .v (.int .u64 (loW (h)))]), (5, [.v (.int .u64 (hiW (l))), .v (.int .u64 (loW (l)))]), (6, [.v (.int .u64 (hiW (d))), .v (.int .u64 (loW (d)))]), (9, [.v (.int .u64 (hiW (0))), .v (.int .u64 (loW (0)))]), (10, [.v (.int .u64 (hiW (0))), .v (.int .u64 (loW (0)))]), (14, [.v (.int .u64 (hiW ((h * B128 + l) / x / B128))), .v (.int .u64 (loW ((h * B128 + l) / x / B128)))]), (15, [.v (.int .u64 (hiW ((h * B128 + l) / x % B128))), .v (.int .u64 (loW ((h * B128 + l) / x % B128)))])] (by kernel_rfl) (by kernel_rfl) (by kernel_rfl) ?_
  obtain rfl : c83 = false := bff hc83 (by omega)
  refine vc_condf (by kernel_rfl) ?_
  refine vc_skip ?_
  refine seq_n ?_
  refine vc_seqr rfl ?_
  refine vcI_q 2 (by kernel_rfl) ?_
  refine vcI_call (f := 13) (ds := [.agg [.v (.int .u64 (hiW (h))), .v (.int .u64 (loW (h)))], .agg [.v (.int .u64 (hiW (l))), .v (.int .u64 (loW (l)))]]) (dst := (some 101)) (by kernel_rfl) (c_Two hh hl) ?_
  rintro _ rfl
  refine vcI_q 2 (by kernel_rfl) ?_
  refine vcI_call (f := 18) (ds := [.sl 1 [.v (.int .u64 ((x : Int)))]]) (dst := (some 104)) (by kernel_rfl) (c_Word hx) ?_
  rintro _ rfl
  refine vcI_call (f := 23) (ds := [.sl (nd (h * B128 + l)) (dg (digs (h * B128 + l))), .sl (nd (x)) (dg (digs (x)))]) (dst := (some 105)) (by kernel_rfl) (c_Div (a := h * B128 + l) (b := x) (by omega) hx0 (by have := nd_word hx; omega)) ?_
  rintro _ rfl
  refine vcI_q 5 (by kernel_rfl) ?_
  refine vcI_end 123 [(3, .d (.v (.int .u64 ((x : Int))))), (4, .p 4 0), (5, .p 5 0), (6, .p 6 0), (8, .d (.v (.bool false))), (9, .p 9 0), (10, .p 10 0), (11, .d (.v (.bool false))), (14, .p 14 0), (15, .p 15 0), (16, .d (.v (.int .u64 ((((h * B128 + l) % x : Nat) : Int))))), (17, .d (.v (.bool true))), (18, .d (.sl (nd ((h * B128 + l) / x)) (dg (digs ((h * B128 + l) / x))))), (19, .d (.sl (nd ((h * B128 + l) % x)) (dg (digs ((h * B128 + l) % x))))), (21, .d (.v (.bool false))), (50, .d (.v (.bool false))), (51, .d (.v (.bool false))), (83, .d (.v (.bool false)))] [(4, [.v (.int .u64 (hiW (h))), .v (.int .u64 (loW (h)))]), (5, [.v (.int .u64 (hiW (l))), .v (.int .u64 (loW (l)))]), (6, [.v (.int .u64 (hiW (d))), .v (.int .u64 (loW (d)))]), (9, [.v (.int .u64 (hiW (0))), .v (.int .u64 (loW (0)))]), (10, [.v (.int .u64 (hiW (0))), .v (.int .u64 (loW (0)))]), (14, [.v (.int .u64 (hiW ((h * B128 + l) / x / B128))), .v (.int .u64 (loW ((h * B128 + l) / x / B128)))]), (15, [.v (.int .u64 (hiW ((h * B128 + l) / x % B128))), .v (.int .u64 (loW ((h * B128 + l) / x % B128)))])] (by kernel_rfl) (by kernel_rfl) (by kernel_rfl) ?_
  refine vc_seqr rfl ?_
  refine vcI_q 4 (by kernel_rfl) ?_
  refine vcI_call (f := 13) (ds := [.agg [.v (.int .u64 (hiW ((h * B128 + l) / x / B128))), .v (.int .u64 (loW ((h * B128 + l) / x / B128)))], .agg [.v (.int .u64 (hiW ((h * B128 + l) / x % B128))), .v (.int .u64 (loW ((h * B128 + l) / x % B128)))]]) (dst := (some 112)) (by kernel_rfl) (c_Two hp1 hp2) ?_
  rintro _ rfl
  refine vcI_q 1 (by kernel_rfl) ?_
  refine vcI_call (f := 12) (ds := [.sl (nd ((h * B128 + l) / x / B128 * B128 + (h * B128 + l) / x % B128)) (dg (digs ((h * B128 + l) / x / B128 * B128 + (h * B128 + l) / x % B128))), .sl (nd ((h * B128 + l) / x)) (dg (digs ((h * B128 + l) / x)))]) (dst := (some 114)) (by kernel_rfl) (c_sameT (Nat.div_add_mod' _ _) (by have := nd_U2 hp1 hp2; omega)) ?_
  rintro _ rfl
  refine vcI_q 4 (by kernel_rfl) ?_
  refine vcI_call (f := 18) (ds := [.sl 1 [.v (.int .u64 ((((h * B128 + l) % x : Nat) : Int)))]]) (dst := (some 119)) (by kernel_rfl) (c_Word hx64) ?_
  rintro _ rfl
  refine vcI_q 1 (by kernel_rfl) ?_
  refine vcI_call (f := 12) (ds := [.sl (nd ((h * B128 + l) % x)) (dg (digs ((h * B128 + l) % x))), .sl (nd ((h * B128 + l) % x)) (dg (digs ((h * B128 + l) % x)))]) (dst := (some 121)) (by kernel_rfl) (c_sameT rfl (by have := nd_word hx64; omega)) ?_
  rintro _ rfl
  refine vcI_q 2 (by kernel_rfl) ?_
  refine vcI_end 123 [(3, .d (.v (.int .u64 ((x : Int))))), (4, .p 4 0), (5, .p 5 0), (6, .p 6 0), (8, .d (.v (.bool true))), (9, .p 9 0), (10, .p 10 0), (11, .d (.v (.bool false))), (14, .p 14 0), (15, .p 15 0), (16, .d (.v (.int .u64 ((((h * B128 + l) % x : Nat) : Int))))), (17, .d (.v (.bool true))), (21, .d (.v (.bool false))), (50, .d (.v (.bool false))), (51, .d (.v (.bool false))), (83, .d (.v (.bool false)))] [(4, [.v (.int .u64 (hiW (h))), .v (.int .u64 (loW (h)))]), (5, [.v (.int .u64 (hiW (l))), .v (.int .u64 (loW (l)))]), (6, [.v (.int .u64 (hiW (d))), .v (.int .u64 (loW (d)))]), (9, [.v (.int .u64 (hiW (0))), .v (.int .u64 (loW (0)))]), (10, [.v (.int .u64 (hiW (0))), .v (.int .u64 (loW (0)))]), (14, [.v (.int .u64 (hiW ((h * B128 + l) / x / B128))), .v (.int .u64 (loW ((h * B128 + l) / x / B128)))]), (15, [.v (.int .u64 (hiW ((h * B128 + l) / x % B128))), .v (.int .u64 (loW ((h * B128 + l) / x % B128)))])] (by kernel_rfl) (by kernel_rfl) (by kernel_rfl) ?_
  refine vc_ret ?_
  refine ret_1 (d := .v (.bool true)) (by kernel_rfl) ?_
  rfl

theorem sum1 (a b : Nat) : (a + b) % B128 + (a + b) / B128 * 2 ^ 128 = a + b := by
  rw [Nat.add_comm]
  exact Nat.div_add_mod' (a + b) B128
theorem sub1 {a b : Nat} (ha : a < B128) (hb : b < B128) : (a + B128 - b) % B128 + b = a + lackN a b * 2 ^ 128 := by
  unfold lackN
  unfold B128 at *
  split <;> omega
theorem two_mod (M : Nat) : M / B128 % B128 * B128 + M % B128 = M % (B128 * B128) := by
  rw [Nat.mod_mul, Nat.mul_comm]
  omega
theorem BB : B128 * B128 = 2 ^ 256 := by decide
theorem sum2 (M : Nat) : M / B128 % B128 * B128 + M % B128 + M / (B128 * B128) * 2 ^ 256 = M := by
  rw [two_mod, ← BB, Nat.add_comm]
  exact Nat.div_add_mod' _ _
theorem sub2 {X Y : Nat} (hX : X < B128 * B128) (hY : Y < B128 * B128) : (X + B128 * B128 - Y) / B128 % B128 * B128 + (X + B128 * B128 - Y) % B128 + Y = X + lackN X Y * 2 ^ 256 := by
  rw [two_mod, ← BB]
  unfold lackN
  split
  · rw [Nat.mod_eq_of_lt (by omega)]
    omega
  · rw [show X + B128 * B128 - Y = (X - Y) + B128 * B128 by omega, Nat.add_mod_right, Nat.mod_eq_of_lt (by omega)]
    omega
theorem nd_iff (a : Nat) : nd a = 0 ↔ a = 0 := by
  constructor
  · intro h
    rcases Nat.eq_zero_or_pos a with h0 | h0
    · exact h0
    · have := nd_pos (show a ≠ 0 by omega)
      omega
  · intro h
    rw [h, nd_zero]
theorem one_of {M K : Nat} (h : M < 2 * K) (hK : 0 < K) : M / K ≤ 1 := by
  have := Nat.div_lt_of_lt_mul (show M < K * 2 by omega)
  omega

set_option maxHeartbeats 6400000 in
theorem c_WideSums {a b c d : Nat} (ha : a < B128) (hb : b < B128) (hc : c < B128) (hd : d < B128) : HasC Try.prog 6 [.agg [.v (.int .u64 (hiW (a))), .v (.int .u64 (loW (a)))], .agg [.v (.int .u64 (hiW (b))), .v (.int .u64 (loW (b)))], .agg [.v (.int .u64 (hiW (c))), .v (.int .u64 (loW (c)))], .agg [.v (.int .u64 (hiW (d))), .v (.int .u64 (loW (d)))]] (fun y => y = .v (.bool true)) := by
  refine HasC.of [] (fn := Try.f6) tyOk mixed (fun args w => Try.call6 args w) Try.func6 rfl (by kernel_rfl) (Nat.le_of_ble_eq_true rfl) (⟨_, rfl⟩) ?_
  have o1 : (a + b) / B128 ≤ 1 := one_of (by omega) B_pos
  have o2 := lackN_01 a b
  have X := N2_lt ha hc; have Y := N2_lt hb hd
  have o3 : (a * B128 + c + (b * B128 + d)) / (B128 * B128) ≤ 1 := one_of (by omega) (by decide)
  have o4 := lackN_01 (a * B128 + c) (b * B128 + d)
  have na := nd_U ha; have nb := nd_U hb; have nX := nd_U2 ha hc; have nY := nd_U2 hb hd
  have m1 := mod_lt128 (a + b); have m2 := mod_lt128 (a + B128 - b)
  have m3 := mod_lt128 ((a * B128 + c + (b * B128 + d)) / B128); have m4 := mod_lt128 (a * B128 + c + (b * B128 + d))
  have m5 := mod_lt128 ((a * B128 + c + B128 * B128 - (b * B128 + d)) / B128); have m6 := mod_lt128 (a * B128 + c + B128 * B128 - (b * B128 + d))
  have ov : ∀ n k, n ≤ 1 → k ≤ 300 → nd (n * 2 ^ k) ≤ 400 := fun n k hn hk => by have h1 := nd_mul n (2 ^ k); have h2 := nd_two k; have h3 := nd_small (show n < 10 by omega); omega
  refine vc_seqr rfl ?_
  refine vcI_q 5 (by kernel_rfl) ?_
  refine vcI_end 156 [(4, .p 4 0), (5, .p 5 0), (6, .p 6 0), (7, .p 7 0), (8, .d (.v (.bool false)))] [(4, [.v (.int .u64 (hiW (a))), .v (.int .u64 (loW (a)))]), (5, [.v (.int .u64 (hiW (b))), .v (.int .u64 (loW (b)))]), (6, [.v (.int .u64 (hiW (c))), .v (.int .u64 (loW (c)))]), (7, [.v (.int .u64 (hiW (d))), .v (.int .u64 (loW (d)))])] (by kernel_rfl) (by kernel_rfl) (by kernel_rfl) ?_
  refine vc_seq ?_
  refine vc_seqr rfl ?_
  refine vcI_call (f := 9) (ds := []) (dst := (some 19)) (by kernel_rfl) (c_awake) ?_
  rintro _ rfl
  refine vcI_un (op := .not) (a := .bool true) (dst := (some 20)) (by kernel_rfl) ?_
  intro c20 hc20
  refine vcI_end 156 [(4, .p 4 0), (5, .p 5 0), (6, .p 6 0), (7, .p 7 0), (8, .d (.v (.bool false))), (20, .d (.v (.bool c20)))] [(4, [.v (.int .u64 (hiW (a))), .v (.int .u64 (loW (a)))]), (5, [.v (.int .u64 (hiW (b))), .v (.int .u64 (loW (b)))]), (6, [.v (.int .u64 (hiW (c))), .v (.int .u64 (loW (c)))]), (7, [.v (.int .u64 (hiW (d))), .v (.int .u64 (loW (d)))])] (by kernel_rfl) (by kernel_rfl) (by kernel_rfl) ?_
  obtain rfl : c20 = false := bff hc20 (by simp)
  refine vc_condf (by kernel_rfl) ?_
  refine vc_skip ?_
  refine seq_n ?_
  refine vc_seqr rfl ?_
  refine vcI_q 2 (by kernel_rfl) ?_
  refine vcI_call (f := 27) (ds := [.agg [.v (.int .u64 (hiW (a))), .v (.int .u64 (loW (a)))], .agg [.v (.int .u64 (hiW (b))), .v (.int .u64 (loW (b)))]]) (dst := (some 24)) (by kernel_rfl) (cw_Add ha hb) ?_
  rintro _ rfl
  refine vcI_q 6 (by kernel_rfl) ?_
  refine vcI_end 156 [(4, .p 4 0), (5, .p 5 0), (6, .p 6 0), (7, .p 7 0), (8, .d (.v (.bool false))), (9, .p 9 0), (10, .d (.v (.int .u64 ((((a + b) / B128 : Nat) : Int))))), (20, .d (.v (.bool false)))] [(4, [.v (.int .u64 (hiW (a))), .v (.int .u64 (loW (a)))]), (5, [.v (.int .u64 (hiW (b))), .v (.int .u64 (loW (b)))]), (6, [.v (.int .u64 (hiW (c))), .v (.int .u64 (loW (c)))]), (7, [.v (.int .u64 (hiW (d))), .v (.int .u64 (loW (d)))]), (9, [.v (.int .u64 (hiW ((a + b) % B128))), .v (.int .u64 (loW ((a + b) % B128)))])] (by kernel_rfl) (by kernel_rfl) (by kernel_rfl) ?_
  refine vc_seqr rfl ?_
  refine vcI_q 2 (by kernel_rfl) ?_
  refine vcI_call (f := 28) (ds := [.agg [.v (.int .u64 (hiW (a))), .v (.int .u64 (loW (a)))], .agg [.v (.int .u64 (hiW (b))), .v (.int .u64 (loW (b)))]]) (dst := (some 30)) (by kernel_rfl) (cw_Sub ha hb) ?_
  rintro _ rfl
  refine vcI_q 6 (by kernel_rfl) ?_
  refine vcI_end 156 [(4, .p 4 0), (5, .p 5 0), (6, .p 6 0), (7, .p 7 0), (8, .d (.v (.bool false))), (9, .p 9 0), (10, .d (.v (.int .u64 ((((a + b) / B128 : Nat) : Int))))), (11, .p 11 0), (12, .d (.v (.int .u64 (((lackN a b : Nat) : Int))))), (20, .d (.v (.bool false)))] [(4, [.v (.int .u64 (hiW (a))), .v (.int .u64 (loW (a)))]), (5, [.v (.int .u64 (hiW (b))), .v (.int .u64 (loW (b)))]), (6, [.v (.int .u64 (hiW (c))), .v (.int .u64 (loW (c)))]), (7, [.v (.int .u64 (hiW (d))), .v (.int .u64 (loW (d)))]), (9, [.v (.int .u64 (hiW ((a + b) % B128))), .v (.int .u64 (loW ((a + b) % B128)))]), (11, [.v (.int .u64 (hiW ((a + B128 - b) % B128))), .v (.int .u64 (loW ((a + B128 - b) % B128)))])] (by kernel_rfl) (by kernel_rfl) (by kernel_rfl) ?_
  refine vc_seqr rfl ?_
  refine vcI_q 4 (by kernel_rfl) ?_
  refine vcI_call (f := 29) (ds := [.agg [.v (.int .u64 (hiW (a))), .v (.int .u64 (loW (a)))], .agg [.v (.int .u64 (hiW (c))), .v (.int .u64 (loW (c)))], .agg [.v (.int .u64 (hiW (b))), .v (.int .u64 (loW (b)))], .agg [.v (.int .u64 (hiW (d))), .v (.int .u64 (loW (d)))]]) (dst := (some 38)) (by kernel_rfl) (cw_Add2 ha hc hb hd) ?_
  rintro _ rfl
  refine vcI_q 9 (by kernel_rfl) ?_
  refine vcI_end 156 [(4, .p 4 0), (5, .p 5 0), (6, .p 6 0), (7, .p 7 0), (8, .d (.v (.bool false))), (9, .p 9 0), (10, .d (.v (.int .u64 ((((a + b) / B128 : Nat) : Int))))), (11, .p 11 0), (12, .d (.v (.int .u64 (((lackN a b : Nat) : Int))))), (13, .p 13 0), (14, .p 14 0), (15, .d (.v (.int .u64 ((((a * B128 + c + (b * B128 + d)) / (B128 * B128) : Nat) : Int))))), (20, .d (.v (.bool false)))] [(4, [.v (.int .u64 (hiW (a))), .v (.int .u64 (loW (a)))]), (5, [.v (.int .u64 (hiW (b))), .v (.int .u64 (loW (b)))]), (6, [.v (.int .u64 (hiW (c))), .v (.int .u64 (loW (c)))]), (7, [.v (.int .u64 (hiW (d))), .v (.int .u64 (loW (d)))]), (9, [.v (.int .u64 (hiW ((a + b) % B128))), .v (.int .u64 (loW ((a + b) % B128)))]), (11, [.v (.int .u64 (hiW ((a + B128 - b) % B128))), .v (.int .u64 (loW ((a + B128 - b) % B128)))]), (13, [.v (.int .u64 (hiW ((a * B128 + c + (b * B128 + d)) / B128 % B128))), .v (.int .u64 (loW ((a * B128 + c + (b * B128 + d)) / B128 % B128)))]), (14, [.v (.int .u64 (hiW ((a * B128 + c + (b * B128 + d)) % B128))), .v (.int .u64 (loW ((a * B128 + c + (b * B128 + d)) % B128)))])] (by kernel_rfl) (by kernel_rfl) (by kernel_rfl) ?_
  refine vc_seqr rfl ?_
  refine vcI_q 4 (by kernel_rfl) ?_
  refine vcI_call (f := 30) (ds := [.agg [.v (.int .u64 (hiW (a))), .v (.int .u64 (loW (a)))], .agg [.v (.int .u64 (hiW (c))), .v (.int .u64 (loW (c)))], .agg [.v (.int .u64 (hiW (b))), .v (.int .u64 (loW (b)))], .agg [.v (.int .u64 (hiW (d))), .v (.int .u64 (loW (d)))]]) (dst := (some 47)) (by kernel_rfl) (cw_Sub2 ha hc hb hd) ?_
  rintro _ rfl
  refine vcI_q 9 (by kernel_rfl) ?_
  refine vcI_end 156 [(4, .p 4 0), (5, .p 5 0), (6, .p 6 0), (7, .p 7 0), (8, .d (.v (.bool false))), (9, .p 9 0), (10, .d (.v (.int .u64 ((((a + b) / B128 : Nat) : Int))))), (11, .p 11 0), (12, .d (.v (.int .u64 (((lackN a b : Nat) : Int))))), (13, .p 13 0), (14, .p 14 0), (15, .d (.v (.int .u64 ((((a * B128 + c + (b * B128 + d)) / (B128 * B128) : Nat) : Int))))), (16, .p 16 0), (17, .p 17 0), (18, .d (.v (.int .u64 (((lackN (a * B128 + c) (b * B128 + d) : Nat) : Int))))), (20, .d (.v (.bool false)))] [(4, [.v (.int .u64 (hiW (a))), .v (.int .u64 (loW (a)))]), (5, [.v (.int .u64 (hiW (b))), .v (.int .u64 (loW (b)))]), (6, [.v (.int .u64 (hiW (c))), .v (.int .u64 (loW (c)))]), (7, [.v (.int .u64 (hiW (d))), .v (.int .u64 (loW (d)))]), (9, [.v (.int .u64 (hiW ((a + b) % B128))), .v (.int .u64 (loW ((a + b) % B128)))]), (11, [.v (.int .u64 (hiW ((a + B128 - b) % B128))), .v (.int .u64 (loW ((a + B128 - b) % B128)))]), (13, [.v (.int .u64 (hiW ((a * B128 + c + (b * B128 + d)) / B128 % B128))), .v (.int .u64 (loW ((a * B128 + c + (b * B128 + d)) / B128 % B128)))]), (14, [.v (.int .u64 (hiW ((a * B128 + c + (b * B128 + d)) % B128))), .v (.int .u64 (loW ((a * B128 + c + (b * B128 + d)) % B128)))]), (16, [.v (.int .u64 (hiW ((a * B128 + c + B128 * B128 - (b * B128 + d)) / B128 % B128))), .v (.int .u64 (loW ((a * B128 + c + B128 * B128 - (b * B128 + d)) / B128 % B128)))]), (17, [.v (.int .u64 (hiW ((a * B128 + c + B128 * B128 - (b * B128 + d)) % B128))), .v (.int .u64 (loW ((a * B128 + c + B128 * B128 - (b * B128 + d)) % B128)))])] (by kernel_rfl) (by kernel_rfl) (by kernel_rfl) ?_
  refine vc_seq ?_
  refine vc_seqr rfl ?_
  refine vcI_q 1 (by kernel_rfl) ?_
  refine vcI_bin (op := .gtr) (t := 22) (a := .int .u64 ((((a + b) / B128 : Nat) : Int))) (b := .int .u64 1) (dst := (some 52)) (by kernel_rfl) ?_
  intro c52 hc52
  refine vcI_q 1 (by kernel_rfl) ?_
  obtain rfl : c52 = false := bff hc52 (by omega)
  refine vcI_q 1 (by kernel_rfl) ?_
  refine vcI_bin (op := .gtr) (t := 22) (a := .int .u64 (((lackN a b : Nat) : Int))) (b := .int .u64 1) (dst := (some 55)) (by kernel_rfl) ?_
  intro c55 hc55
  refine vcI_q 2 (by kernel_rfl) ?_
  obtain rfl : c55 = false := bff hc55 (by omega)
  refine vcI_q 1 (by kernel_rfl) ?_
  refine vcI_bin (op := .gtr) (t := 22) (a := .int .u64 ((((a * B128 + c + (b * B128 + d)) / (B128 * B128) : Nat) : Int))) (b := .int .u64 1) (dst := (some 59)) (by kernel_rfl) ?_
  intro c59 hc59
  refine vcI_q 2 (by kernel_rfl) ?_
  obtain rfl : c59 = false := bff hc59 (by omega)
  refine vcI_q 1 (by kernel_rfl) ?_
  refine vcI_bin (op := .gtr) (t := 22) (a := .int .u64 (((lackN (a * B128 + c) (b * B128 + d) : Nat) : Int))) (b := .int .u64 1) (dst := (some 63)) (by kernel_rfl) ?_
  intro c63 hc63
  refine vcI_q 2 (by kernel_rfl) ?_
  obtain rfl : c63 = false := bff hc63 (by omega)
  refine vcI_q 2 (by kernel_rfl) ?_
  refine vcI_call (f := 31) (ds := [.agg [.v (.int .u64 (hiW (a))), .v (.int .u64 (loW (a)))], .agg [.v (.int .u64 (hiW (b))), .v (.int .u64 (loW (b)))]]) (dst := (some 68)) (by kernel_rfl) (cw_Cmp ha hb) ?_
  rintro _ rfl
  refine vcI_q 1 (by kernel_rfl) ?_
  refine vcI_call (f := 15) (ds := [.agg [.v (.int .u64 (hiW (a))), .v (.int .u64 (loW (a)))]]) (dst := (some 70)) (by kernel_rfl) (c_N ha) ?_
  rintro _ rfl
  refine vcI_q 1 (by kernel_rfl) ?_
  refine vcI_call (f := 15) (ds := [.agg [.v (.int .u64 (hiW (b))), .v (.int .u64 (loW (b)))]]) (dst := (some 72)) (by kernel_rfl) (c_N hb) ?_
  rintro _ rfl
  refine vcI_call (f := 21) (ds := [.sl (nd (a)) (dg (digs (a))), .sl (nd (b)) (dg (digs (b)))]) (dst := (some 73)) (by kernel_rfl) (c_Cmp (a := a) (b := b) (by omega) (by omega)) ?_
  rintro _ rfl
  refine vcI_bin (op := .neq) (t := 3) (a := .int .i64 (cmpN a b)) (b := .int .i64 (cmpN a b)) (dst := (some 74)) (by kernel_rfl) ?_
  intro c74 hc74
  refine vcI_q 2 (by kernel_rfl) ?_
  obtain rfl : c74 = false := bff hc74 (by simp)
  refine vcI_q 4 (by kernel_rfl) ?_
  refine vcI_call (f := 26) (ds := [.agg [.v (.int .u64 (hiW (a))), .v (.int .u64 (loW (a)))], .agg [.v (.int .u64 (hiW (c))), .v (.int .u64 (loW (c)))], .agg [.v (.int .u64 (hiW (b))), .v (.int .u64 (loW (b)))], .agg [.v (.int .u64 (hiW (d))), .v (.int .u64 (loW (d)))]]) (dst := (some 81)) (by kernel_rfl) (cw_Cmp2 ha hc hb hd) ?_
  rintro _ rfl
  refine vcI_q 2 (by kernel_rfl) ?_
  refine vcI_call (f := 13) (ds := [.agg [.v (.int .u64 (hiW (a))), .v (.int .u64 (loW (a)))], .agg [.v (.int .u64 (hiW (c))), .v (.int .u64 (loW (c)))]]) (dst := (some 84)) (by kernel_rfl) (c_Two ha hc) ?_
  rintro _ rfl
  refine vcI_q 2 (by kernel_rfl) ?_
  refine vcI_call (f := 13) (ds := [.agg [.v (.int .u64 (hiW (b))), .v (.int .u64 (loW (b)))], .agg [.v (.int .u64 (hiW (d))), .v (.int .u64 (loW (d)))]]) (dst := (some 87)) (by kernel_rfl) (c_Two hb hd) ?_
  rintro _ rfl
  refine vcI_call (f := 21) (ds := [.sl (nd (a * B128 + c)) (dg (digs (a * B128 + c))), .sl (nd (b * B128 + d)) (dg (digs (b * B128 + d)))]) (dst := (some 88)) (by kernel_rfl) (c_Cmp (a := a * B128 + c) (b := b * B128 + d) (by omega) (by omega)) ?_
  rintro _ rfl
  refine vcI_bin (op := .neq) (t := 3) (a := .int .i64 (cmpN (a * B128 + c) (b * B128 + d))) (b := .int .i64 (cmpN (a * B128 + c) (b * B128 + d))) (dst := (some 89)) (by kernel_rfl) ?_
  intro c89 hc89
  refine vcI_q 2 (by kernel_rfl) ?_
  obtain rfl : c89 = false := bff hc89 (by simp)
  refine vcI_q 1 (by kernel_rfl) ?_
  refine vcI_call (f := 22) (ds := [.agg [.v (.int .u64 (hiW (a))), .v (.int .u64 (loW (a)))]]) (dst := (some 93)) (by kernel_rfl) (cw_Zero ha) ?_
  rintro _ ⟨z1, rfl, hz1⟩
  refine vcI_q 1 (by kernel_rfl) ?_
  refine vcI_call (f := 15) (ds := [.agg [.v (.int .u64 (hiW (a))), .v (.int .u64 (loW (a)))]]) (dst := (some 95)) (by kernel_rfl) (c_N ha) ?_
  rintro _ rfl
  refine vcI_q 1 (by kernel_rfl) ?_
  refine vcI_bin (op := .eql) (t := 3) (a := .int .i64 (((nd (a) : Nat) : Int))) (b := .int .i64 0) (dst := (some 97)) (by kernel_rfl) ?_
  intro c97 hc97
  refine vcI_bin (op := .neq) (t := 4) (a := .bool z1) (b := .bool c97) (dst := (some 98)) (by kernel_rfl) ?_
  intro c98 hc98
  refine vcI_q 1 (by kernel_rfl) ?_
  refine vcI_end 156 [(4, .p 4 0), (5, .p 5 0), (6, .p 6 0), (7, .p 7 0), (8, .d (.v (.bool false))), (9, .p 9 0), (10, .d (.v (.int .u64 ((((a + b) / B128 : Nat) : Int))))), (11, .p 11 0), (12, .d (.v (.int .u64 (((lackN a b : Nat) : Int))))), (13, .p 13 0), (14, .p 14 0), (15, .d (.v (.int .u64 ((((a * B128 + c + (b * B128 + d)) / (B128 * B128) : Nat) : Int))))), (16, .p 16 0), (17, .p 17 0), (18, .d (.v (.int .u64 (((lackN (a * B128 + c) (b * B128 + d) : Nat) : Int))))), (20, .d (.v (.bool false))), (99, .d (.v (.bool c98)))] [(4, [.v (.int .u64 (hiW (a))), .v (.int .u64 (loW (a)))]), (5, [.v (.int .u64 (hiW (b))), .v (.int .u64 (loW (b)))]), (6, [.v (.int .u64 (hiW (c))), .v (.int .u64 (loW (c)))]), (7, [.v (.int .u64 (hiW (d))), .v (.int .u64 (loW (d)))]), (9, [.v (.int .u64 (hiW ((a + b) % B128))), .v (.int .u64 (loW ((a + b) % B128)))]), (11, [.v (.int .u64 (hiW ((a + B128 - b) % B128))), .v (.int .u64 (loW ((a + B128 - b) % B128)))]), (13, [.v (.int .u64 (hiW ((a * B128 + c + (b * B128 + d)) / B128 % B128))), .v (.int .u64 (loW ((a * B128 + c + (b * B128 + d)) / B128 % B128)))]), (14, [.v (.int .u64 (hiW ((a * B128 + c + (b * B128 + d)) % B128))), .v (.int .u64 (loW ((a * B128 + c + (b * B128 + d)) % B128)))]), (16, [.v (.int .u64 (hiW ((a * B128 + c + B128 * B128 - (b * B128 + d)) / B128 % B128))), .v (.int .u64 (loW ((a * B128 + c + B128 * B128 - (b * B128 + d)) / B128 % B128)))]), (17, [.v (.int .u64 (hiW ((a * B128 + c + B128 * B128 - (b * B128 + d)) % B128))), .v (.int .u64 (loW ((a * B128 + c + B128 * B128 - (b * B128 + d)) % B128)))])] (by kernel_rfl) (by kernel_rfl) (by kernel_rfl) ?_
  obtain rfl : c98 = false := bff hc98 (fun hne => hne (by rw [Bool.eq_iff_iff, hz1, hc97]; have := nd_iff a; omega))
  refine vc_condf (by kernel_rfl) ?_
  refine vc_skip ?_
  refine seq_n ?_
  refine vc_seqr rfl ?_
  refine vcI_q 1 (by kernel_rfl) ?_
  refine vcI_call (f := 15) (ds := [.agg [.v (.int .u64 (hiW ((a + b) % B128))), .v (.int .u64 (loW ((a + b) % B128)))]]) (dst := (some 101)) (by kernel_rfl) (c_N m1) ?_
  rintro _ rfl
  refine vcI_q 1 (by kernel_rfl) ?_
  refine vcI_call (f := 17) (ds := [.v (.int .u64 ((((a + b) / B128 : Nat) : Int))), .v (.int .i64 128)]) (dst := (some 103)) (by kernel_rfl) (c_over (n := (a + b) / B128) (k := 128) (by omega) (by decide)) ?_
  rintro _ rfl
  refine vcI_call (f := 16) (ds := [.sl (nd ((a + b) % B128)) (dg (digs ((a + b) % B128))), .sl (nd ((a + b) / B128 * 2 ^ 128)) (dg (digs ((a + b) / B128 * 2 ^ 128)))]) (dst := (some 104)) (by kernel_rfl) (c_Add (a := (a + b) % B128) (b := (a + b) / B128 * 2 ^ 128) (by have := nd_U m1; omega) (by have := ov _ 128 o1 (by decide); omega)) ?_
  rintro _ rfl
  refine vcI_q 1 (by kernel_rfl) ?_
  refine vcI_call (f := 15) (ds := [.agg [.v (.int .u64 (hiW (a))), .v (.int .u64 (loW (a)))]]) (dst := (some 106)) (by kernel_rfl) (c_N ha) ?_
  rintro _ rfl
  refine vcI_q 1 (by kernel_rfl) ?_
  refine vcI_call (f := 15) (ds := [.agg [.v (.int .u64 (hiW (b))), .v (.int .u64 (loW (b)))]]) (dst := (some 108)) (by kernel_rfl) (c_N hb) ?_
  rintro _ rfl
  refine vcI_call (f := 16) (ds := [.sl (nd (a)) (dg (digs (a))), .sl (nd (b)) (dg (digs (b)))]) (dst := (some 109)) (by kernel_rfl) (c_Add (a := a) (b := b) (by omega) (by omega)) ?_
  rintro _ rfl
  refine vcI_call (f := 12) (ds := [.sl (nd ((a + b) % B128 + (a + b) / B128 * 2 ^ 128)) (dg (digs ((a + b) % B128 + (a + b) / B128 * 2 ^ 128))), .sl (nd (a + b)) (dg (digs (a + b)))]) (dst := (some 110)) (by kernel_rfl) (c_sameT (sum1 a b) (by rw [sum1]; have := nd_add (x := a) (y := b) (m := 100) (by omega) (by omega); omega)) ?_
  rintro _ rfl
  refine vcI_q 2 (by kernel_rfl) ?_
  refine vcI_call (f := 15) (ds := [.agg [.v (.int .u64 (hiW ((a + B128 - b) % B128))), .v (.int .u64 (loW ((a + B128 - b) % B128)))]]) (dst := (some 113)) (by kernel_rfl) (c_N m2) ?_
  rintro _ rfl
  refine vcI_q 1 (by kernel_rfl) ?_
  refine vcI_call (f := 15) (ds := [.agg [.v (.int .u64 (hiW (b))), .v (.int .u64 (loW (b)))]]) (dst := (some 115)) (by kernel_rfl) (c_N hb) ?_
  rintro _ rfl
  refine vcI_call (f := 16) (ds := [.sl (nd ((a + B128 - b) % B128)) (dg (digs ((a + B128 - b) % B128))), .sl (nd (b)) (dg (digs (b)))]) (dst := (some 116)) (by kernel_rfl) (c_Add (a := (a + B128 - b) % B128) (b := b) (by have := nd_U m2; omega) (by omega)) ?_
  rintro _ rfl
  refine vcI_q 1 (by kernel_rfl) ?_
  refine vcI_call (f := 15) (ds := [.agg [.v (.int .u64 (hiW (a))), .v (.int .u64 (loW (a)))]]) (dst := (some 118)) (by kernel_rfl) (c_N ha) ?_
  rintro _ rfl
  refine vcI_q 1 (by kernel_rfl) ?_
  refine vcI_call (f := 17) (ds := [.v (.int .u64 (((lackN a b : Nat) : Int))), .v (.int .i64 128)]) (dst := (some 120)) (by kernel_rfl) (c_over (n := lackN a b) (k := 128) (by omega) (by decide)) ?_
  rintro _ rfl
  refine vcI_call (f := 16) (ds := [.sl (nd (a)) (dg (digs (a))), .sl (nd (lackN a b * 2 ^ 128)) (dg (digs (lackN a b * 2 ^ 128)))]) (dst := (some 121)) (by kernel_rfl) (c_Add (a := a) (b := lackN a b * 2 ^ 128) (by omega) (by have := ov _ 128 o2 (by decide); omega)) ?_
  rintro _ rfl
  refine vcI_call (f := 12) (ds := [.sl (nd ((a + B128 - b) % B128 + b)) (dg (digs ((a + B128 - b) % B128 + b))), .sl (nd (a + lackN a b * 2 ^ 128)) (dg (digs (a + lackN a b * 2 ^ 128)))]) (dst := (some 122)) (by kernel_rfl) (c_sameT (sub1 ha hb) (by have := nd_add (x := (a + B128 - b) % B128) (y := b) (m := 100) (by have := nd_U m2; omega) (by omega); omega)) ?_
  rintro _ rfl
  refine vcI_q 4 (by kernel_rfl) ?_
  refine vcI_call (f := 13) (ds := [.agg [.v (.int .u64 (hiW ((a * B128 + c + (b * B128 + d)) / B128 % B128))), .v (.int .u64 (loW ((a * B128 + c + (b * B128 + d)) / B128 % B128)))], .agg [.v (.int .u64 (hiW ((a * B128 + c + (b * B128 + d)) % B128))), .v (.int .u64 (loW ((a * B128 + c + (b * B128 + d)) % B128)))]]) (dst := (some 127)) (by kernel_rfl) (c_Two m3 m4) ?_
  rintro _ rfl
  refine vcI_q 1 (by kernel_rfl) ?_
  refine vcI_call (f := 17) (ds := [.v (.int .u64 ((((a * B128 + c + (b * B128 + d)) / (B128 * B128) : Nat) : Int))), .v (.int .i64 256)]) (dst := (some 129)) (by kernel_rfl) (c_over (n := (a * B128 + c + (b * B128 + d)) / (B128 * B128)) (k := 256) (by omega) (by decide)) ?_
  rintro _ rfl
  refine vcI_call (f := 16) (ds := [.sl (nd ((a * B128 + c + (b * B128 + d)) / B128 % B128 * B128 + (a * B128 + c + (b * B128 + d)) % B128)) (dg (digs ((a * B128 + c + (b * B128 + d)) / B128 % B128 * B128 + (a * B128 + c + (b * B128 + d)) % B128))), .sl (nd ((a * B128 + c + (b * B128 + d)) / (B128 * B128) * 2 ^ 256)) (dg (digs ((a * B128 + c + (b * B128 + d)) / (B128 * B128) * 2 ^ 256)))]) (dst := (some 130)) (by kernel_rfl) (c_Add (a := (a * B128 + c + (b * B128 + d)) / B128 % B128 * B128 + (a * B128 + c + (b * B128 + d)) % B128) (b := (a * B128 + c + (b * B128 + d)) / (B128 * B128) * 2 ^ 256) (by have := nd_U2 m3 m4; omega) (by have := ov _ 256 o3 (by decide); omega)) ?_
  rintro _ rfl
  refine vcI_q 2 (by kernel_rfl) ?_
  refine vcI_call (f := 13) (ds := [.agg [.v (.int .u64 (hiW (a))), .v (.int .u64 (loW (a)))], .agg [.v (.int .u64 (hiW (c))), .v (.int .u64 (loW (c)))]]) (dst := (some 133)) (by kernel_rfl) (c_Two ha hc) ?_
  rintro _ rfl
  refine vcI_q 2 (by kernel_rfl) ?_
  refine vcI_call (f := 13) (ds := [.agg [.v (.int .u64 (hiW (b))), .v (.int .u64 (loW (b)))], .agg [.v (.int .u64 (hiW (d))), .v (.int .u64 (loW (d)))]]) (dst := (some 136)) (by kernel_rfl) (c_Two hb hd) ?_
  rintro _ rfl
  refine vcI_call (f := 16) (ds := [.sl (nd (a * B128 + c)) (dg (digs (a * B128 + c))), .sl (nd (b * B128 + d)) (dg (digs (b * B128 + d)))]) (dst := (some 137)) (by kernel_rfl) (c_Add (a := a * B128 + c) (b := b * B128 + d) (by omega) (by omega)) ?_
  rintro _ rfl
  refine vcI_call (f := 12) (ds := [.sl (nd ((a * B128 + c + (b * B128 + d)) / B128 % B128 * B128 + (a * B128 + c + (b * B128 + d)) % B128 + (a * B128 + c + (b * B128 + d)) / (B128 * B128) * 2 ^ 256)) (dg (digs ((a * B128 + c + (b * B128 + d)) / B128 % B128 * B128 + (a * B128 + c + (b * B128 + d)) % B128 + (a * B128 + c + (b * B128 + d)) / (B128 * B128) * 2 ^ 256))), .sl (nd (a * B128 + c + (b * B128 + d))) (dg (digs (a * B128 + c + (b * B128 + d))))]) (dst := (some 138)) (by kernel_rfl) (c_sameT (sum2 _) (by rw [sum2]; have := nd_add (x := a * B128 + c) (y := b * B128 + d) (m := 100) (by omega) (by omega); omega)) ?_
  rintro _ rfl
  refine vcI_q 4 (by kernel_rfl) ?_
  refine vcI_call (f := 13) (ds := [.agg [.v (.int .u64 (hiW ((a * B128 + c + B128 * B128 - (b * B128 + d)) / B128 % B128))), .v (.int .u64 (loW ((a * B128 + c + B128 * B128 - (b * B128 + d)) / B128 % B128)))], .agg [.v (.int .u64 (hiW ((a * B128 + c + B128 * B128 - (b * B128 + d)) % B128))), .v (.int .u64 (loW ((a * B128 + c + B128 * B128 - (b * B128 + d)) % B128)))]]) (dst := (some 143)) (by kernel_rfl) (c_Two m5 m6) ?_
  rintro _ rfl
  refine vcI_q 2 (by kernel_rfl) ?_
  refine vcI_call (f := 13) (ds := [.agg [.v (.int .u64 (hiW (b))), .v (.int .u64 (loW (b)))], .agg [.v (.int .u64 (hiW (d))), .v (.int .u64 (loW (d)))]]) (dst := (some 146)) (by kernel_rfl) (c_Two hb hd) ?_
  rintro _ rfl
  refine vcI_call (f := 16) (ds := [.sl (nd ((a * B128 + c + B128 * B128 - (b * B128 + d)) / B128 % B128 * B128 + (a * B128 + c + B128 * B128 - (b * B128 + d)) % B128)) (dg (digs ((a * B128 + c + B128 * B128 - (b * B128 + d)) / B128 % B128 * B128 + (a * B128 + c + B128 * B128 - (b * B128 + d)) % B128))), .sl (nd (b * B128 + d)) (dg (digs (b * B128 + d)))]) (dst := (some 147)) (by kernel_rfl) (c_Add (a := (a * B128 + c + B128 * B128 - (b * B128 + d)) / B128 % B128 * B128 + (a * B128 + c + B128 * B128 - (b * B128 + d)) % B128) (b := b * B128 + d) (by have := nd_U2 m5 m6; omega) (by omega)) ?_
  rintro _ rfl
  refine vcI_q 2 (by kernel_rfl) ?_
  refine vcI_call (f := 13) (ds := [.agg [.v (.int .u64 (hiW (a))), .v (.int .u64 (loW (a)))], .agg [.v (.int .u64 (hiW (c))), .v (.int .u64 (loW (c)))]]) (dst := (some 150)) (by kernel_rfl) (c_Two ha hc) ?_
  rintro _ rfl
  refine vcI_q 1 (by kernel_rfl) ?_
  refine vcI_call (f := 17) (ds := [.v (.int .u64 (((lackN (a * B128 + c) (b * B128 + d) : Nat) : Int))), .v (.int .i64 256)]) (dst := (some 152)) (by kernel_rfl) (c_over (n := lackN (a * B128 + c) (b * B128 + d)) (k := 256) (by omega) (by decide)) ?_
  rintro _ rfl
  refine vcI_call (f := 16) (ds := [.sl (nd (a * B128 + c)) (dg (digs (a * B128 + c))), .sl (nd (lackN (a * B128 + c) (b * B128 + d) * 2 ^ 256)) (dg (digs (lackN (a * B128 + c) (b * B128 + d) * 2 ^ 256)))]) (dst := (some 153)) (by kernel_rfl) (c_Add (a := a * B128 + c) (b := lackN (a * B128 + c) (b * B128 + d) * 2 ^ 256) (by omega) (by have := ov _ 256 o4 (by decide); omega)) ?_
  rintro _ rfl
  refine vcI_call (f := 12) (ds := [.sl (nd ((a * B128 + c + B128 * B128 - (b * B128 + d)) / B128 % B128 * B128 + (a * B128 + c + B128 * B128 - (b * B128 + d)) % B128 + (b * B128 + d))) (dg (digs ((a * B128 + c + B128 * B128 - (b * B128 + d)) / B128 % B128 * B128 + (a * B128 + c + B128 * B128 - (b * B128 + d)) % B128 + (b * B128 + d)))), .sl (nd (a * B128 + c + lackN (a * B128 + c) (b * B128 + d) * 2 ^ 256)) (dg (digs (a * B128 + c + lackN (a * B128 + c) (b * B128 + d) * 2 ^ 256)))]) (dst := (some 154)) (by kernel_rfl) (c_sameT (sub2 X Y) (by have := nd_add (x := (a * B128 + c + B128 * B128 - (b * B128 + d)) / B128 % B128 * B128 + (a * B128 + c + B128 * B128 - (b * B128 + d)) % B128) (y := b * B128 + d) (m := 100) (by have := nd_U2 m5 m6; omega) (by omega); omega)) ?_
  rintro _ rfl
  refine vcI_q 2 (by kernel_rfl) ?_
  refine vcI_end 156 [(4, .p 4 0), (5, .p 5 0), (6, .p 6 0), (7, .p 7 0), (8, .d (.v (.bool true))), (9, .p 9 0), (10, .d (.v (.int .u64 ((((a + b) / B128 : Nat) : Int))))), (11, .p 11 0), (12, .d (.v (.int .u64 (((lackN a b : Nat) : Int))))), (13, .p 13 0), (14, .p 14 0), (15, .d (.v (.int .u64 ((((a * B128 + c + (b * B128 + d)) / (B128 * B128) : Nat) : Int))))), (16, .p 16 0), (17, .p 17 0), (18, .d (.v (.int .u64 (((lackN (a * B128 + c) (b * B128 + d) : Nat) : Int))))), (20, .d (.v (.bool false))), (99, .d (.v (.bool false)))] [(4, [.v (.int .u64 (hiW (a))), .v (.int .u64 (loW (a)))]), (5, [.v (.int .u64 (hiW (b))), .v (.int .u64 (loW (b)))]), (6, [.v (.int .u64 (hiW (c))), .v (.int .u64 (loW (c)))]), (7, [.v (.int .u64 (hiW (d))), .v (.int .u64 (loW (d)))]), (9, [.v (.int .u64 (hiW ((a + b) % B128))), .v (.int .u64 (loW ((a + b) % B128)))]), (11, [.v (.int .u64 (hiW ((a + B128 - b) % B128))), .v (.int .u64 (loW ((a + B128 - b) % B128)))]), (13, [.v (.int .u64 (hiW ((a * B128 + c + (b * B128 + d)) / B128 % B128))), .v (.int .u64 (loW ((a * B128 + c + (b * B128 + d)) / B128 % B128)))]), (14, [.v (.int .u64 (hiW ((a * B128 + c + (b * B128 + d)) % B128))), .v (.int .u64 (loW ((a * B128 + c + (b * B128 + d)) % B128)))]), (16, [.v (.int .u64 (hiW ((a * B128 + c + B128 * B128 - (b * B128 + d)) / B128 % B128))), .v (.int .u64 (loW ((a * B128 + c + B128 * B128 - (b * B128 + d)) / B128 % B128)))]), (17, [.v (.int .u64 (hiW ((a * B128 + c + B128 * B128 - (b * B128 + d)) % B128))), .v (.int .u64 (loW ((a * B128 + c + B128 * B128 - (b * B128 + d)) % B128)))])] (by kernel_rfl) (by kernel_rfl) (by kernel_rfl) ?_
  refine vc_ret ?_
  refine ret_1 (d := .v (.bool true)) (by kernel_rfl) ?_
  rfl

end Go.Proofs.Ytpnfomnnbmncaaa
