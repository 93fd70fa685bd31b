/-
  The laws of dec: sums, products, order.
-/
import Derived.Test.YtgphodlkaknkcaaLawG
namespace Go.Proofs.Ytgphodlkaknkcaa
open Go.RowKit
set_option linter.unusedVariables false
set_option linter.unusedSimpArgs false
set_option maxRecDepth 100000

theorem nd34 {a : Nat} (h : a < E34) : nd a ≤ 100 := Nat.le_trans (nd_le 34 a h) (by decide)

set_option maxHeartbeats 3200000 in
theorem c_DecSums {g1 g2 : Bool} {n1 n2 : Nat} {e1 e2 : Int} (h1 : n1 < B128) (h2 : n2 < B128) : HasC Try.prog 3 [.agg [.v (.bool g1), .v (.int .u64 (hiW (n1))), .v (.int .u64 (loW (n1))), .v (.int .i64 e1)], .agg [.v (.bool g2), .v (.int .u64 (hiW (n2))), .v (.int .u64 (loW (n2))), .v (.int .i64 e2)]] (fun y => y = .v (.bool true)) := by
  refine HasC.of [] (fn := Try.f3) tyOk mixed (fun args w => Try.call3 args w) Try.func3 rfl (by kernel_rfl) (Nat.le_of_ble_eq_true rfl) (⟨_, rfl⟩) ?_
  refine vc_seqr rfl ?_
  refine vcI_q 3 (by kernel_rfl) ?_
  refine vcI_end 105 [(2, .p 2 0), (3, .p 3 0), (4, Ba false)] [(2, [Bv g1, Hw n1, Lw n1, Iv e1]), (3, [Bv g2, Hw n2, Lw n2, Iv e2])] (by kernel_rfl) (by kernel_rfl) (by kernel_rfl) ?_
  refine vc_seq ?_
  refine vc_seqr rfl ?_
  refine vcI_call (f := 8) (ds := []) (dst := (some 21)) (by kernel_rfl) (c_awake02) ?_
  rintro _ rfl
  refine vcI_un (op := .not) (a := .bool true) (dst := (some 22)) (by kernel_rfl) ?_
  intro c22 hc22
  refine vcI_end 105 [(2, .p 2 0), (3, .p 3 0), (4, Ba false), (22, Ba c22)] [(2, [Bv g1, Hw n1, Lw n1, Iv e1]), (3, [Bv g2, Hw n2, Lw n2, Iv e2])] (by kernel_rfl) (by kernel_rfl) (by kernel_rfl) ?_
  obtain rfl : c22 = false := bff hc22 ((by simp))
  refine vc_condf (by kernel_rfl) ?_
  refine vc_skip ?_
  refine seq_n ?_
  refine vc_seqr rfl ?_
  refine vcI_q 1 (by kernel_rfl) ?_
  refine vcI_call (f := 9) (ds := [.agg [.v (.bool g1), .v (.int .u64 (hiW (n1))), .v (.int .u64 (loW (n1))), .v (.int .i64 e1)]]) (dst := (some 24)) (by kernel_rfl) (c_Make h1) ?_
  rintro _ ⟨s1, a, x1, rfl, ha, hx1, hy1, hs1⟩
  refine vcI_q 1 (by kernel_rfl) ?_
  refine vcI_call (f := 9) (ds := [.agg [.v (.bool g2), .v (.int .u64 (hiW (n2))), .v (.int .u64 (loW (n2))), .v (.int .i64 e2)]]) (dst := (some 26)) (by kernel_rfl) (c_Make h2) ?_
  rintro _ ⟨s2, b, x2, rfl, hb, hx2, hy2, hs2⟩
  have haB := Nat.lt_trans ha e34_lt; have hbB := Nat.lt_trans hb e34_lt
  have hna := nd34 ha; have hnb := nd34 hb
  refine vcI_q 4 (by kernel_rfl) ?_
  refine vcI_end 105 [(4, Ba false), (5, .p 5 0), (6, .p 6 0), (22, Ba false)] [(5, [Bv s1, Hw a, Lw a, Iv x1]), (6, [Bv s2, Hw b, Lw b, Iv x2])] (by kernel_rfl) (by kernel_rfl) (by kernel_rfl) ?_
  refine vc_seqr rfl ?_
  refine vcI_q 1 (by kernel_rfl) ?_
  refine vcI_call (f := 10) (ds := [.agg [.v (.bool s1), .v (.int .u64 (hiW (a))), .v (.int .u64 (loW (a))), .v (.int .i64 x1)]]) (dst := (some 28)) (by kernel_rfl) (c_Ref haB) ?_
  rintro _ rfl
  refine vcI_q 1 (by kernel_rfl) ?_
  refine vcI_call (f := 10) (ds := [.agg [.v (.bool s2), .v (.int .u64 (hiW (b))), .v (.int .u64 (loW (b))), .v (.int .i64 x2)]]) (dst := (some 30)) (by kernel_rfl) (c_Ref hbB) ?_
  rintro _ rfl
  refine vcI_q 4 (by kernel_rfl) ?_
  refine vcI_end 105 [(4, Ba false), (5, .p 5 0), (6, .p 6 0), (7, .p 7 0), (8, .p 8 0), (22, Ba false)] [(5, [Bv s1, Hw a, Lw a, Iv x1]), (6, [Bv s2, Hw b, Lw b, Iv x2]), (7, [Bv s1, .sl (nd (a)) (dg (digs (a))), Iv x1]), (8, [Bv s2, .sl (nd (b)) (dg (digs (b))), Iv x2])] (by kernel_rfl) (by kernel_rfl) (by kernel_rfl) ?_
  refine vc_seqr rfl ?_
  refine vcI_q 2 (by kernel_rfl) ?_
  refine vcI_call (f := 11) (ds := [.agg [.v (.bool s1), .v (.int .u64 (hiW (a))), .v (.int .u64 (loW (a))), .v (.int .i64 x1)], .agg [.v (.bool s2), .v (.int .u64 (hiW (b))), .v (.int .u64 (loW (b))), .v (.int .i64 x2)]]) (dst := (some 34)) (by kernel_rfl) (dfit_ex (c_decAdd ha hb (by omega) (by omega) (by omega) (by omega))) ?_
  rintro _ ⟨g, k, x, ok, rfl, hT⟩
  refine vcI_q 6 (by kernel_rfl) ?_
  refine vcI_end 105 [(4, Ba false), (5, .p 5 0), (6, .p 6 0), (7, .p 7 0), (8, .p 8 0), (9, .p 9 0), (10, Ba ok), (22, Ba false)] [(5, [Bv s1, Hw a, Lw a, Iv x1]), (6, [Bv s2, Hw b, Lw b, Iv x2]), (7, [Bv s1, .sl (nd (a)) (dg (digs (a))), Iv x1]), (8, [Bv s2, .sl (nd (b)) (dg (digs (b))), Iv x2]), (9, [Bv g, Hw k, Lw k, Iv x])] (by kernel_rfl) (by kernel_rfl) (by kernel_rfl) ?_
  refine vc_seqr rfl ?_
  refine vcI_q 2 (by kernel_rfl) ?_
  refine vcI_call (f := 12) (ds := [.agg [.v (.bool s1), .v (.int .u64 (hiW (a))), .v (.int .u64 (loW (a))), .v (.int .i64 x1)], .agg [.v (.bool s2), .v (.int .u64 (hiW (b))), .v (.int .u64 (loW (b))), .v (.int .i64 x2)]]) (dst := (some 40)) (by kernel_rfl) (dfit_ex (c_decSub ha hb (by omega) (by omega) (by omega) (by omega))) ?_
  rintro _ ⟨g', k', x', ok', rfl, hT'⟩
  refine vcI_q 6 (by kernel_rfl) ?_
  refine vcI_end 105 [(4, Ba false), (5, .p 5 0), (6, .p 6 0), (7, .p 7 0), (8, .p 8 0), (9, .p 9 0), (10, Ba ok), (11, .p 11 0), (12, Ba ok'), (22, Ba false)] [(5, [Bv s1, Hw a, Lw a, Iv x1]), (6, [Bv s2, Hw b, Lw b, Iv x2]), (7, [Bv s1, .sl (nd (a)) (dg (digs (a))), Iv x1]), (8, [Bv s2, .sl (nd (b)) (dg (digs (b))), Iv x2]), (9, [Bv g, Hw k, Lw k, Iv x]), (11, [Bv g', Hw k', Lw k', Iv x'])] (by kernel_rfl) (by kernel_rfl) (by kernel_rfl) ?_
  refine vc_seqr rfl ?_
  refine vcI_q 2 (by kernel_rfl) ?_
  refine vcI_call (f := 13) (ds := [.agg [.v (.bool s1), .v (.int .u64 (hiW (a))), .v (.int .u64 (loW (a))), .v (.int .i64 x1)], .agg [.v (.bool s2), .v (.int .u64 (hiW (b))), .v (.int .u64 (loW (b))), .v (.int .i64 x2)]]) (dst := (some 46)) (by kernel_rfl) (c_decMulT (o1 := true) (o2 := true) haB hbB (by omega) (by omega) (by omega) (by omega)) ?_
  rintro _ ⟨m, l, y, ol, rfl, hM⟩
  have hk := (fitU_range hT).1; have hk' := (fitU_range hT').1; have hl := (mulT_range hM).1
  rw [mulT_U ha hb] at hM
  refine vcI_q 6 (by kernel_rfl) ?_
  refine vcI_end 105 [(4, Ba false), (5, .p 5 0), (6, .p 6 0), (7, .p 7 0), (8, .p 8 0), (9, .p 9 0), (10, Ba ok), (11, .p 11 0), (12, Ba ok'), (13, .p 13 0), (14, Ba ol), (22, Ba false)] [(5, [Bv s1, Hw a, Lw a, Iv x1]), (6, [Bv s2, Hw b, Lw b, Iv x2]), (7, [Bv s1, .sl (nd (a)) (dg (digs (a))), Iv x1]), (8, [Bv s2, .sl (nd (b)) (dg (digs (b))), Iv x2]), (9, [Bv g, Hw k, Lw k, Iv x]), (11, [Bv g', Hw k', Lw k', Iv x']), (13, [Bv m, Hw l, Lw l, Iv y])] (by kernel_rfl) (by kernel_rfl) (by kernel_rfl) ?_
  refine vc_seqr rfl ?_
  refine vcI_q 2 (by kernel_rfl) ?_
  refine vcI_call (f := 14) (ds := [.agg [.v (.bool s1), .sl (nd (a)) (dg (digs (a))), .v (.int .i64 x1)], .agg [.v (.bool s2), .sl (nd (b)) (dg (digs (b))), .v (.int .i64 x2)]]) (dst := (some 52)) (by kernel_rfl) (rfit_as (c_rAdd hna hnb (by omega) (by omega) (by omega) (by omega)) hT) ?_
  rintro _ rfl
  refine vcI_q 6 (by kernel_rfl) ?_
  refine vcI_end 105 [(4, Ba false), (5, .p 5 0), (6, .p 6 0), (7, .p 7 0), (8, .p 8 0), (9, .p 9 0), (10, Ba ok), (11, .p 11 0), (12, Ba ok'), (13, .p 13 0), (14, Ba ol), (15, .p 15 0), (16, Ba ok), (22, Ba false)] [(5, [Bv s1, Hw a, Lw a, Iv x1]), (6, [Bv s2, Hw b, Lw b, Iv x2]), (7, [Bv s1, .sl (nd (a)) (dg (digs (a))), Iv x1]), (8, [Bv s2, .sl (nd (b)) (dg (digs (b))), Iv x2]), (9, [Bv g, Hw k, Lw k, Iv x]), (11, [Bv g', Hw k', Lw k', Iv x']), (13, [Bv m, Hw l, Lw l, Iv y]), (15, [Bv g, .sl (nd (k)) (dg (digs (k))), Iv x])] (by kernel_rfl) (by kernel_rfl) (by kernel_rfl) ?_
  refine vc_seqr rfl ?_
  refine vcI_q 2 (by kernel_rfl) ?_
  refine vcI_call (f := 15) (ds := [.agg [.v (.bool s2), .sl (nd (b)) (dg (digs (b))), .v (.int .i64 x2)]]) (dst := (some 58)) (by kernel_rfl) (c_rNeg) ?_
  rintro _ rfl
  refine vcI_call (f := 14) (ds := [.agg [.v (.bool s1), .sl (nd (a)) (dg (digs (a))), .v (.int .i64 x1)], .agg [.v (.bool ((!s2 && decide (b ≠ 0)))), .sl (nd (b)) (dg (digs (b))), .v (.int .i64 x2)]]) (dst := (some 59)) (by kernel_rfl) (rfit_as (c_rAdd hna hnb (by omega) (by omega) (by omega) (by omega)) hT') ?_
  rintro _ rfl
  refine vcI_q 6 (by kernel_rfl) ?_
  refine vcI_end 105 [(4, Ba false), (5, .p 5 0), (6, .p 6 0), (7, .p 7 0), (8, .p 8 0), (9, .p 9 0), (10, Ba ok), (11, .p 11 0), (12, Ba ok'), (13, .p 13 0), (14, Ba ol), (15, .p 15 0), (16, Ba ok), (17, .p 17 0), (18, Ba ok'), (22, Ba false)] [(5, [Bv s1, Hw a, Lw a, Iv x1]), (6, [Bv s2, Hw b, Lw b, Iv x2]), (7, [Bv s1, .sl (nd (a)) (dg (digs (a))), Iv x1]), (8, [Bv s2, .sl (nd (b)) (dg (digs (b))), Iv x2]), (9, [Bv g, Hw k, Lw k, Iv x]), (11, [Bv g', Hw k', Lw k', Iv x']), (13, [Bv m, Hw l, Lw l, Iv y]), (15, [Bv g, .sl (nd (k)) (dg (digs (k))), Iv x]), (17, [Bv g', .sl (nd (k')) (dg (digs (k'))), Iv x'])] (by kernel_rfl) (by kernel_rfl) (by kernel_rfl) ?_
  refine vc_seqr rfl ?_
  refine vcI_q 2 (by kernel_rfl) ?_
  refine vcI_call (f := 16) (ds := [.agg [.v (.bool s1), .sl (nd (a)) (dg (digs (a))), .v (.int .i64 x1)], .agg [.v (.bool s2), .sl (nd (b)) (dg (digs (b))), .v (.int .i64 x2)]]) (dst := (some 65)) (by kernel_rfl) (rfit_as (c_rMul (by omega) (by omega) (by omega) (by omega) (by omega) (by omega)) hM) ?_
  rintro _ rfl
  refine vcI_q 6 (by kernel_rfl) ?_
  refine vcI_end 105 [(4, Ba false), (5, .p 5 0), (6, .p 6 0), (7, .p 7 0), (8, .p 8 0), (9, .p 9 0), (10, Ba ok), (11, .p 11 0), (12, Ba ok'), (13, .p 13 0), (14, Ba ol), (15, .p 15 0), (16, Ba ok), (17, .p 17 0), (18, Ba ok'), (19, .p 19 0), (20, Ba ol), (22, Ba false)] [(5, [Bv s1, Hw a, Lw a, Iv x1]), (6, [Bv s2, Hw b, Lw b, Iv x2]), (7, [Bv s1, .sl (nd (a)) (dg (digs (a))), Iv x1]), (8, [Bv s2, .sl (nd (b)) (dg (digs (b))), Iv x2]), (9, [Bv g, Hw k, Lw k, Iv x]), (11, [Bv g', Hw k', Lw k', Iv x']), (13, [Bv m, Hw l, Lw l, Iv y]), (15, [Bv g, .sl (nd (k)) (dg (digs (k))), Iv x]), (17, [Bv g', .sl (nd (k')) (dg (digs (k'))), Iv x']), (19, [Bv m, .sl (nd (l)) (dg (digs (l))), Iv y])] (by kernel_rfl) (by kernel_rfl) (by kernel_rfl) ?_
  refine vc_seqr rfl ?_
  refine vcI_q 2 (by kernel_rfl) ?_
  refine vcI_bin (op := .eql) (t := 4) (a := .bool ok) (b := .bool ok) (dst := (some 70)) (by kernel_rfl) ?_
  intro c70 hc70
  refine vcI_q 1 (by kernel_rfl) ?_
  obtain rfl : c70 = true := hc70.2 (rfl)
  refine vcI_q 2 (by kernel_rfl) ?_
  refine vcI_call (f := 17) (ds := [.agg [.v (.bool g), .v (.int .u64 (hiW (k))), .v (.int .u64 (loW (k))), .v (.int .i64 x)], .agg [.v (.bool g), .sl (nd (k)) (dg (digs (k))), .v (.int .i64 x)]]) (dst := (some 74)) (by kernel_rfl) (c_LikeT (Nat.lt_trans hk e34_lt)) ?_
  rintro _ rfl
  refine vcI_q 4 (by kernel_rfl) ?_
  refine vcI_bin (op := .eql) (t := 4) (a := .bool ok') (b := .bool ok') (dst := (some 79)) (by kernel_rfl) ?_
  intro c79 hc79
  refine vcI_q 2 (by kernel_rfl) ?_
  obtain rfl : c79 = true := hc79.2 (rfl)
  refine vcI_q 2 (by kernel_rfl) ?_
  refine vcI_call (f := 17) (ds := [.agg [.v (.bool g'), .v (.int .u64 (hiW (k'))), .v (.int .u64 (loW (k'))), .v (.int .i64 x')], .agg [.v (.bool g'), .sl (nd (k')) (dg (digs (k'))), .v (.int .i64 x')]]) (dst := (some 84)) (by kernel_rfl) (c_LikeT (Nat.lt_trans hk' e34_lt)) ?_
  rintro _ rfl
  refine vcI_q 4 (by kernel_rfl) ?_
  refine vcI_bin (op := .eql) (t := 4) (a := .bool ol) (b := .bool ol) (dst := (some 89)) (by kernel_rfl) ?_
  intro c89 hc89
  refine vcI_q 2 (by kernel_rfl) ?_
  obtain rfl : c89 = true := hc89.2 (rfl)
  refine vcI_q 2 (by kernel_rfl) ?_
  refine vcI_call (f := 17) (ds := [.agg [.v (.bool m), .v (.int .u64 (hiW (l))), .v (.int .u64 (loW (l))), .v (.int .i64 y)], .agg [.v (.bool m), .sl (nd (l)) (dg (digs (l))), .v (.int .i64 y)]]) (dst := (some 94)) (by kernel_rfl) (c_LikeT (Nat.lt_trans hl e34_lt)) ?_
  rintro _ rfl
  refine vcI_q 4 (by kernel_rfl) ?_
  refine vcI_call (f := 18) (ds := [.agg [.v (.bool s1), .v (.int .u64 (hiW (a))), .v (.int .u64 (loW (a))), .v (.int .i64 x1)], .agg [.v (.bool s2), .v (.int .u64 (hiW (b))), .v (.int .u64 (loW (b))), .v (.int .i64 x2)]]) (dst := (some 99)) (by kernel_rfl) (c_decCmp ha hb (by omega) (by omega) (by omega) (by omega)) ?_
  rintro _ rfl
  refine vcI_q 2 (by kernel_rfl) ?_
  refine vcI_call (f := 19) (ds := [.agg [.v (.bool s1), .sl (nd (a)) (dg (digs (a))), .v (.int .i64 x1)], .agg [.v (.bool s2), .sl (nd (b)) (dg (digs (b))), .v (.int .i64 x2)]]) (dst := (some 102)) (by kernel_rfl) (c_rCmp hna hnb (by omega) (by omega) (by omega) (by omega)) ?_
  rintro _ rfl
  refine vcI_bin (op := .eql) (t := 3) (a := .int .i64 (cmpZ s1 a x1 s2 b x2)) (b := .int .i64 (cmpZ s1 a x1 s2 b x2)) (dst := (some 103)) (by kernel_rfl) ?_
  intro c103 hc103
  refine vcI_q 2 (by kernel_rfl) ?_
  refine vcI_end 105 [(4, Ba c103), (5, .p 5 0), (6, .p 6 0), (7, .p 7 0), (8, .p 8 0), (9, .p 9 0), (11, .p 11 0), (13, .p 13 0), (15, .p 15 0), (17, .p 17 0), (19, .p 19 0), (22, Ba false)] [(5, [Bv s1, Hw a, Lw a, Iv x1]), (6, [Bv s2, Hw b, Lw b, Iv x2]), (7, [Bv s1, .sl (nd (a)) (dg (digs (a))), Iv x1]), (8, [Bv s2, .sl (nd (b)) (dg (digs (b))), Iv x2]), (9, [Bv g, Hw k, Lw k, Iv x]), (11, [Bv g', Hw k', Lw k', Iv x']), (13, [Bv m, Hw l, Lw l, Iv y]), (15, [Bv g, .sl (nd (k)) (dg (digs (k))), Iv x]), (17, [Bv g', .sl (nd (k')) (dg (digs (k'))), Iv x']), (19, [Bv m, .sl (nd (l)) (dg (digs (l))), Iv y])] (by kernel_rfl) (by kernel_rfl) (by kernel_rfl) ?_
  refine vc_ret ?_
  refine ret_1 (d := .v (.bool c103)) (by kernel_rfl) ?_
  rw [hc103.2 rfl]

theorem mulT_comm (s1 s2 o1 o2 : Bool) (a b : Nat) (x1 x2 : Int) : mulT (s1, a, x1, o1) (s2, b, x2, o2) = mulT (s2, b, x2, o2) (s1, a, x1, o1) := by
  show fitT 1 (s1 != s2) (a * b) (x1 + x2) false = fitT 1 (s2 != s1) (b * a) (x2 + x1) false
  rw [Nat.mul_comm, Int.add_comm]
  congr 1
  cases s1 <;> cases s2 <;> rfl
theorem mul_one1 {s o o' : Bool} {a : Nat} {x : Int} (ha : a < E34) (h0 : a = 0 → s = false) (h1 : -6176 ≤ x) (h2 : x ≤ 6111) : mulT (s, a, x, o) (false, 1, 0, o') = (s, a, x, true) := by
  show fitT 1 (s != false) (a * 1) (x + 0) false = _
  rw [Nat.mul_one, Int.add_zero, fitT_own ha h1 h2]
  by_cases k : a = 0
  · rw [if_pos k, h0 k]
  · rw [if_neg k]
    cases s <;> rfl
theorem add_neg {s : Bool} {a : Nat} {x : Int} (h0 : a = 0 → s = false) (h1 : -6176 ≤ x) (h2 : x ≤ 6111) : addT s a x (!s && decide (a ≠ 0)) a x = (false, 0, x, true) := by
  have hs : (sumT s a x (!s && decide (a ≠ 0)) a x).2.1 = 0 ∧ (sumT s a x (!s && decide (a ≠ 0)) a x).2.2 = x := by
    unfold sumT
    rw [show min x x = x by omega, show (x - x).toNat = 0 by omega, Nat.pow_zero, Nat.mul_one]
    by_cases k : a = 0
    · rw [h0 k, k]
      simp
    · have hd : decide (a ≠ 0) = true := by simp [k]
      rw [hd, Bool.and_true, if_neg (by cases s <;> simp), if_pos (Nat.le_refl _)]
      simp
  rw [addT, hs.1, hs.2, fitU_own (by decide) h1 h2, if_pos rfl]

set_option maxHeartbeats 3200000 in
theorem c_DecRing {g1 g2 : Bool} {n1 n2 : Nat} {e1 e2 : Int} (h1 : n1 < B128) (h2 : n2 < B128) : HasC Try.prog 6 [.agg [.v (.bool g1), .v (.int .u64 (hiW (n1))), .v (.int .u64 (loW (n1))), .v (.int .i64 e1)], .agg [.v (.bool g2), .v (.int .u64 (hiW (n2))), .v (.int .u64 (loW (n2))), .v (.int .i64 e2)]] (fun y => y = .v (.bool true)) := by
  refine HasC.of [] (fn := Try.f6) tyOk mixed (fun args w => Try.call6 args w) Try.func6 rfl (by kernel_rfl) (Nat.le_of_ble_eq_true rfl) (⟨_, rfl⟩) ?_
  refine vc_seqr rfl ?_
  refine vcI_q 3 (by kernel_rfl) ?_
  refine vcI_end 111 [(2, .p 2 0), (3, .p 3 0), (4, Ba false)] [(2, [Bv g1, Hw n1, Lw n1, Iv e1]), (3, [Bv g2, Hw n2, Lw n2, Iv e2])] (by kernel_rfl) (by kernel_rfl) (by kernel_rfl) ?_
  refine vc_seq ?_
  refine vc_seqr rfl ?_
  refine vcI_call (f := 8) (ds := []) (dst := (some 19)) (by kernel_rfl) (c_awake02) ?_
  rintro _ rfl
  refine vcI_un (op := .not) (a := .bool true) (dst := (some 20)) (by kernel_rfl) ?_
  intro c20 hc20
  refine vcI_end 111 [(2, .p 2 0), (3, .p 3 0), (4, Ba false), (20, Ba c20)] [(2, [Bv g1, Hw n1, Lw n1, Iv e1]), (3, [Bv g2, Hw n2, Lw n2, Iv e2])] (by kernel_rfl) (by kernel_rfl) (by kernel_rfl) ?_
  obtain rfl : c20 = false := bff hc20 ((by simp))
  refine vc_condf (by kernel_rfl) ?_
  refine vc_skip ?_
  refine seq_n ?_
  refine vc_seqr rfl ?_
  refine vcI_q 1 (by kernel_rfl) ?_
  refine vcI_call (f := 9) (ds := [.agg [.v (.bool g1), .v (.int .u64 (hiW (n1))), .v (.int .u64 (loW (n1))), .v (.int .i64 e1)]]) (dst := (some 22)) (by kernel_rfl) (c_Make h1) ?_
  rintro _ ⟨s1, a, x1, rfl, ha, hx1, hy1, hs1⟩
  refine vcI_q 1 (by kernel_rfl) ?_
  refine vcI_call (f := 9) (ds := [.agg [.v (.bool g2), .v (.int .u64 (hiW (n2))), .v (.int .u64 (loW (n2))), .v (.int .i64 e2)]]) (dst := (some 24)) (by kernel_rfl) (c_Make h2) ?_
  rintro _ ⟨s2, b, x2, rfl, hb, hx2, hy2, hs2⟩
  have haB := Nat.lt_trans ha e34_lt; have hbB := Nat.lt_trans hb e34_lt
  refine vcI_q 4 (by kernel_rfl) ?_
  refine vcI_end 111 [(4, Ba false), (5, .p 5 0), (6, .p 6 0), (20, Ba false)] [(5, [Bv s1, Hw a, Lw a, Iv x1]), (6, [Bv s2, Hw b, Lw b, Iv x2])] (by kernel_rfl) (by kernel_rfl) (by kernel_rfl) ?_
  refine vc_seqr rfl ?_
  refine vcI_q 2 (by kernel_rfl) ?_
  refine vcI_call (f := 11) (ds := [.agg [.v (.bool s1), .v (.int .u64 (hiW (a))), .v (.int .u64 (loW (a))), .v (.int .i64 x1)], .agg [.v (.bool s2), .v (.int .u64 (hiW (b))), .v (.int .u64 (loW (b))), .v (.int .i64 x2)]]) (dst := (some 28)) (by kernel_rfl) (dfit_ex (c_decAdd ha hb (by omega) (by omega) (by omega) (by omega))) ?_
  rintro _ ⟨g, k, x, ok, rfl, hT⟩
  refine vcI_q 6 (by kernel_rfl) ?_
  refine vcI_end 111 [(4, Ba false), (5, .p 5 0), (6, .p 6 0), (7, .p 7 0), (8, Ba ok), (20, Ba false)] [(5, [Bv s1, Hw a, Lw a, Iv x1]), (6, [Bv s2, Hw b, Lw b, Iv x2]), (7, [Bv g, Hw k, Lw k, Iv x])] (by kernel_rfl) (by kernel_rfl) (by kernel_rfl) ?_
  refine vc_seqr rfl ?_
  refine vcI_q 2 (by kernel_rfl) ?_
  refine vcI_call (f := 11) (ds := [.agg [.v (.bool s2), .v (.int .u64 (hiW (b))), .v (.int .u64 (loW (b))), .v (.int .i64 x2)], .agg [.v (.bool s1), .v (.int .u64 (hiW (a))), .v (.int .u64 (loW (a))), .v (.int .i64 x1)]]) (dst := (some 34)) (by kernel_rfl) (fit_as (c_decAdd hb ha (by omega) (by omega) (by omega) (by omega)) ((addT_comm _ _ _ _ _ _).trans hT)) ?_
  rintro _ rfl
  refine vcI_q 6 (by kernel_rfl) ?_
  refine vcI_end 111 [(4, Ba false), (5, .p 5 0), (6, .p 6 0), (7, .p 7 0), (8, Ba ok), (9, .p 9 0), (10, Ba ok), (20, Ba false)] [(5, [Bv s1, Hw a, Lw a, Iv x1]), (6, [Bv s2, Hw b, Lw b, Iv x2]), (7, [Bv g, Hw k, Lw k, Iv x]), (9, [Bv g, Hw k, Lw k, Iv x])] (by kernel_rfl) (by kernel_rfl) (by kernel_rfl) ?_
  refine vc_seqr rfl ?_
  refine vcI_q 2 (by kernel_rfl) ?_
  refine vcI_call (f := 13) (ds := [.agg [.v (.bool s1), .v (.int .u64 (hiW (a))), .v (.int .u64 (loW (a))), .v (.int .i64 x1)], .agg [.v (.bool s2), .v (.int .u64 (hiW (b))), .v (.int .u64 (loW (b))), .v (.int .i64 x2)]]) (dst := (some 40)) (by kernel_rfl) (c_decMulT (o1 := true) (o2 := true) haB hbB (by omega) (by omega) (by omega) (by omega)) ?_
  rintro _ ⟨m, l, y, ol, rfl, hM⟩
  refine vcI_q 6 (by kernel_rfl) ?_
  refine vcI_end 111 [(4, Ba false), (5, .p 5 0), (6, .p 6 0), (7, .p 7 0), (8, Ba ok), (9, .p 9 0), (10, Ba ok), (11, .p 11 0), (12, Ba ol), (20, Ba false)] [(5, [Bv s1, Hw a, Lw a, Iv x1]), (6, [Bv s2, Hw b, Lw b, Iv x2]), (7, [Bv g, Hw k, Lw k, Iv x]), (9, [Bv g, Hw k, Lw k, Iv x]), (11, [Bv m, Hw l, Lw l, Iv y])] (by kernel_rfl) (by kernel_rfl) (by kernel_rfl) ?_
  refine vc_seqr rfl ?_
  refine vcI_q 2 (by kernel_rfl) ?_
  refine vcI_call (f := 13) (ds := [.agg [.v (.bool s2), .v (.int .u64 (hiW (b))), .v (.int .u64 (loW (b))), .v (.int .i64 x2)], .agg [.v (.bool s1), .v (.int .u64 (hiW (a))), .v (.int .u64 (loW (a))), .v (.int .i64 x1)]]) (dst := (some 46)) (by kernel_rfl) (c_decMulA ((mulT_comm _ _ true true _ _ _ _).trans hM) hbB haB (by omega) (by omega) (by omega) (by omega)) ?_
  rintro _ rfl
  refine vcI_q 6 (by kernel_rfl) ?_
  refine vcI_end 111 [(4, Ba false), (5, .p 5 0), (6, .p 6 0), (7, .p 7 0), (8, Ba ok), (9, .p 9 0), (10, Ba ok), (11, .p 11 0), (12, Ba ol), (13, .p 13 0), (14, Ba ol), (20, Ba false)] [(5, [Bv s1, Hw a, Lw a, Iv x1]), (6, [Bv s2, Hw b, Lw b, Iv x2]), (7, [Bv g, Hw k, Lw k, Iv x]), (9, [Bv g, Hw k, Lw k, Iv x]), (11, [Bv m, Hw l, Lw l, Iv y]), (13, [Bv m, Hw l, Lw l, Iv y])] (by kernel_rfl) (by kernel_rfl) (by kernel_rfl) ?_
  refine vc_seqr rfl ?_
  refine vcI_q 2 (by kernel_rfl) ?_
  refine vcI_call (f := 22) (ds := [.agg [.v (.bool s1), .v (.int .u64 (hiW (a))), .v (.int .u64 (loW (a))), .v (.int .i64 x1)]]) (dst := (some 52)) (by kernel_rfl) (c_Neg haB) ?_
  rintro _ rfl
  refine vcI_call (f := 11) (ds := [.agg [.v (.bool s1), .v (.int .u64 (hiW (a))), .v (.int .u64 (loW (a))), .v (.int .i64 x1)], .agg [.v (.bool ((!s1 && decide (a ≠ 0)))), .v (.int .u64 (hiW (a))), .v (.int .u64 (loW (a))), .v (.int .i64 x1)]]) (dst := (some 53)) (by kernel_rfl) (fit_as (c_decAdd ha ha (by omega) (by omega) (by omega) (by omega)) (add_neg hs1 hx1 hy1)) ?_
  rintro _ rfl
  refine vcI_q 6 (by kernel_rfl) ?_
  refine vcI_end 111 [(4, Ba false), (5, .p 5 0), (6, .p 6 0), (7, .p 7 0), (8, Ba ok), (9, .p 9 0), (10, Ba ok), (11, .p 11 0), (12, Ba ol), (13, .p 13 0), (14, Ba ol), (15, .p 15 0), (16, Ba true), (20, Ba false)] [(5, [Bv s1, Hw a, Lw a, Iv x1]), (6, [Bv s2, Hw b, Lw b, Iv x2]), (7, [Bv g, Hw k, Lw k, Iv x]), (9, [Bv g, Hw k, Lw k, Iv x]), (11, [Bv m, Hw l, Lw l, Iv y]), (13, [Bv m, Hw l, Lw l, Iv y]), (15, [Bv false, Hw 0, Lw 0, Iv x1])] (by kernel_rfl) (by kernel_rfl) (by kernel_rfl) ?_
  refine vc_seqr rfl ?_
  refine vcI_q 1 (by kernel_rfl) ?_
  refine vcI_call (f := 24) (ds := [.v (.int .i64 1)]) (dst := (some 58)) (by kernel_rfl) (c_Int1) ?_
  rintro _ rfl
  refine vcI_call (f := 13) (ds := [.agg [.v (.bool s1), .v (.int .u64 (hiW (a))), .v (.int .u64 (loW (a))), .v (.int .i64 x1)], .agg [.v (.bool false), .v (.int .u64 (hiW (1))), .v (.int .u64 (loW (1))), .v (.int .i64 0)]]) (dst := (some 59)) (by kernel_rfl) (c_decMulA (mul_one1 (o := true) (o' := true) ha hs1 hx1 hy1) haB (by decide) (by omega) (by omega) (by omega) (by omega)) ?_
  rintro _ rfl
  obtain ⟨r1, r2, r3, r4⟩ := fitU_range hT
  obtain ⟨q1, q2, q3, q4⟩ := mulT_range hM
  refine vcI_q 6 (by kernel_rfl) ?_
  refine vcI_end 111 [(4, Ba false), (5, .p 5 0), (6, .p 6 0), (7, .p 7 0), (8, Ba ok), (9, .p 9 0), (10, Ba ok), (11, .p 11 0), (12, Ba ol), (13, .p 13 0), (14, Ba ol), (15, .p 15 0), (16, Ba true), (17, .p 17 0), (18, Ba true), (20, Ba false)] [(5, [Bv s1, Hw a, Lw a, Iv x1]), (6, [Bv s2, Hw b, Lw b, Iv x2]), (7, [Bv g, Hw k, Lw k, Iv x]), (9, [Bv g, Hw k, Lw k, Iv x]), (11, [Bv m, Hw l, Lw l, Iv y]), (13, [Bv m, Hw l, Lw l, Iv y]), (15, [Bv false, Hw 0, Lw 0, Iv x1]), (17, [Bv s1, Hw a, Lw a, Iv x1])] (by kernel_rfl) (by kernel_rfl) (by kernel_rfl) ?_
  refine vc_seqr rfl ?_
  refine vcI_q 2 (by kernel_rfl) ?_
  refine vcI_bin (op := .eql) (t := 4) (a := .bool ok) (b := .bool ok) (dst := (some 64)) (by kernel_rfl) ?_
  intro c64 hc64
  refine vcI_q 1 (by kernel_rfl) ?_
  obtain rfl : c64 = true := hc64.2 (rfl)
  refine vcI_q 2 (by kernel_rfl) ?_
  refine vcI_bin (op := .eql) (t := 28) (a := .agg #[.bool g, .int .u64 (hiW (k)), .int .u64 (loW (k)), .int .i64 x]) (b := .agg #[.bool g, .int .u64 (hiW (k)), .int .u64 (loW (k)), .int .i64 x]) (dst := (some 68)) (by kernel_rfl) ?_
  intro c68 hc68
  try simp only [Array.mk.injEq, List.cons.injEq, Value.int.injEq, Value.bool.injEq, Value.string.injEq, true_and, and_true] at hc68
  refine vcI_q 2 (by kernel_rfl) ?_
  obtain rfl : c68 = true := hc68.2 (trivial)
  refine vcI_q 2 (by kernel_rfl) ?_
  refine vcI_bin (op := .eql) (t := 4) (a := .bool ol) (b := .bool ol) (dst := (some 73)) (by kernel_rfl) ?_
  intro c73 hc73
  refine vcI_q 2 (by kernel_rfl) ?_
  obtain rfl : c73 = true := hc73.2 (rfl)
  refine vcI_q 2 (by kernel_rfl) ?_
  refine vcI_bin (op := .eql) (t := 28) (a := .agg #[.bool m, .int .u64 (hiW (l)), .int .u64 (loW (l)), .int .i64 y]) (b := .agg #[.bool m, .int .u64 (hiW (l)), .int .u64 (loW (l)), .int .i64 y]) (dst := (some 78)) (by kernel_rfl) ?_
  intro c78 hc78
  try simp only [Array.mk.injEq, List.cons.injEq, Value.int.injEq, Value.bool.injEq, Value.string.injEq, true_and, and_true] at hc78
  refine vcI_q 2 (by kernel_rfl) ?_
  obtain rfl : c78 = true := hc78.2 (trivial)
  refine vcI_q 4 (by kernel_rfl) ?_
  refine vcI_call (f := 25) (ds := [.agg [.v (.bool false), .v (.int .u64 (hiW (0))), .v (.int .u64 (loW (0))), .v (.int .i64 x1)]]) (dst := (some 85)) (by kernel_rfl) (c_Zero (n := 0) (by decide)) ?_
  rintro _ ⟨z, rfl, hz⟩
  refine vcI_q 2 (by kernel_rfl) ?_
  obtain rfl : z = true := hz.2 (rfl)
  refine vcI_q 5 (by kernel_rfl) ?_
  refine vcI_bin (op := .eql) (t := 28) (a := .agg #[.bool s1, .int .u64 (hiW (a)), .int .u64 (loW (a)), .int .i64 x1]) (b := .agg #[.bool s1, .int .u64 (hiW (a)), .int .u64 (loW (a)), .int .i64 x1]) (dst := (some 93)) (by kernel_rfl) ?_
  intro c93 hc93
  try simp only [Array.mk.injEq, List.cons.injEq, Value.int.injEq, Value.bool.injEq, Value.string.injEq, true_and, and_true] at hc93
  refine vcI_q 2 (by kernel_rfl) ?_
  obtain rfl : c93 = true := hc93.2 (trivial)
  refine vcI_q 1 (by kernel_rfl) ?_
  refine vcI_un (op := .not) (a := .bool ok) (dst := (some 97)) (by kernel_rfl) ?_
  intro c97 hc97
  refine vcI_q 1 (by kernel_rfl) ?_
  cases c97
  · replace hc97 := bf hc97
    refine vcI_q 1 (by kernel_rfl) ?_
    refine vcI_call (f := 21) (ds := [.agg [.v (.bool g), .v (.int .u64 (hiW (k))), .v (.int .u64 (loW (k))), .v (.int .i64 x)]]) (dst := (some 100)) (by kernel_rfl) (c_May (Nat.lt_trans r1 e34_lt)) ?_
    rintro _ ⟨w, rfl, hw⟩
    refine vcI_q 3 (by kernel_rfl) ?_
    obtain rfl : w = true := hw.2 (⟨r1, r2, r3, fun h k => by rw [r4 k] at h; cases h⟩)
    refine vcI_q 1 (by kernel_rfl) ?_
    refine vcI_un (op := .not) (a := .bool ol) (dst := (some 105)) (by kernel_rfl) ?_
    intro c105 hc105
    refine vcI_q 1 (by kernel_rfl) ?_
    cases c105
    · replace hc105 := bf hc105
      refine vcI_q 1 (by kernel_rfl) ?_
      refine vcI_call (f := 21) (ds := [.agg [.v (.bool m), .v (.int .u64 (hiW (l))), .v (.int .u64 (loW (l))), .v (.int .i64 y)]]) (dst := (some 108)) (by kernel_rfl) (c_May (Nat.lt_trans q1 e34_lt)) ?_
      rintro _ ⟨w2, rfl, hw2⟩
      refine vcI_q 3 (by kernel_rfl) ?_
      refine vcI_end 111 [(4, Ba w2), (5, .p 5 0), (6, .p 6 0), (7, .p 7 0), (9, .p 9 0), (11, .p 11 0), (13, .p 13 0), (15, .p 15 0), (17, .p 17 0), (20, Ba false)] [(5, [Bv s1, Hw a, Lw a, Iv x1]), (6, [Bv s2, Hw b, Lw b, Iv x2]), (7, [Bv g, Hw k, Lw k, Iv x]), (9, [Bv g, Hw k, Lw k, Iv x]), (11, [Bv m, Hw l, Lw l, Iv y]), (13, [Bv m, Hw l, Lw l, Iv y]), (15, [Bv false, Hw 0, Lw 0, Iv x1]), (17, [Bv s1, Hw a, Lw a, Iv x1])] (by kernel_rfl) (by kernel_rfl) (by kernel_rfl) ?_
      refine vc_ret ?_
      refine ret_1 (d := .v (.bool w2)) (by kernel_rfl) ?_
      rw [hw2.2 ⟨q1, q2, q3, fun h k => by rw [q4 k] at h; cases h⟩]
    · replace hc105 := bt hc105
      refine vcI_q 5 (by kernel_rfl) ?_
      refine vcI_end 111 [(4, Ba true), (5, .p 5 0), (6, .p 6 0), (7, .p 7 0), (9, .p 9 0), (11, .p 11 0), (13, .p 13 0), (15, .p 15 0), (17, .p 17 0), (20, Ba false)] [(5, [Bv s1, Hw a, Lw a, Iv x1]), (6, [Bv s2, Hw b, Lw b, Iv x2]), (7, [Bv g, Hw k, Lw k, Iv x]), (9, [Bv g, Hw k, Lw k, Iv x]), (11, [Bv m, Hw l, Lw l, Iv y]), (13, [Bv m, Hw l, Lw l, Iv y]), (15, [Bv false, Hw 0, Lw 0, Iv x1]), (17, [Bv s1, Hw a, Lw a, Iv x1])] (by kernel_rfl) (by kernel_rfl) (by kernel_rfl) ?_
      refine vc_ret ?_
      refine ret_1 (d := .v (.bool true)) (by kernel_rfl) ?_
      rfl
  · replace hc97 := bt hc97
    refine vcI_q 6 (by kernel_rfl) ?_
    refine vcI_un (op := .not) (a := .bool ol) (dst := (some 105)) (by kernel_rfl) ?_
    intro c105 hc105
    refine vcI_q 1 (by kernel_rfl) ?_
    cases c105
    · replace hc105 := bf hc105
      refine vcI_q 1 (by kernel_rfl) ?_
      refine vcI_call (f := 21) (ds := [.agg [.v (.bool m), .v (.int .u64 (hiW (l))), .v (.int .u64 (loW (l))), .v (.int .i64 y)]]) (dst := (some 108)) (by kernel_rfl) (c_May (Nat.lt_trans q1 e34_lt)) ?_
      rintro _ ⟨w2, rfl, hw2⟩
      refine vcI_q 3 (by kernel_rfl) ?_
      refine vcI_end 111 [(4, Ba w2), (5, .p 5 0), (6, .p 6 0), (7, .p 7 0), (9, .p 9 0), (11, .p 11 0), (13, .p 13 0), (15, .p 15 0), (17, .p 17 0), (20, Ba false)] [(5, [Bv s1, Hw a, Lw a, Iv x1]), (6, [Bv s2, Hw b, Lw b, Iv x2]), (7, [Bv g, Hw k, Lw k, Iv x]), (9, [Bv g, Hw k, Lw k, Iv x]), (11, [Bv m, Hw l, Lw l, Iv y]), (13, [Bv m, Hw l, Lw l, Iv y]), (15, [Bv false, Hw 0, Lw 0, Iv x1]), (17, [Bv s1, Hw a, Lw a, Iv x1])] (by kernel_rfl) (by kernel_rfl) (by kernel_rfl) ?_
      refine vc_ret ?_
      refine ret_1 (d := .v (.bool w2)) (by kernel_rfl) ?_
      rw [hw2.2 ⟨q1, q2, q3, fun h k => by rw [q4 k] at h; cases h⟩]
    · replace hc105 := bt hc105
      refine vcI_q 5 (by kernel_rfl) ?_
      refine vcI_end 111 [(4, Ba true), (5, .p 5 0), (6, .p 6 0), (7, .p 7 0), (9, .p 9 0), (11, .p 11 0), (13, .p 13 0), (15, .p 15 0), (17, .p 17 0), (20, Ba false)] [(5, [Bv s1, Hw a, Lw a, Iv x1]), (6, [Bv s2, Hw b, Lw b, Iv x2]), (7, [Bv g, Hw k, Lw k, Iv x]), (9, [Bv g, Hw k, Lw k, Iv x]), (11, [Bv m, Hw l, Lw l, Iv y]), (13, [Bv m, Hw l, Lw l, Iv y]), (15, [Bv false, Hw 0, Lw 0, Iv x1]), (17, [Bv s1, Hw a, Lw a, Iv x1])] (by kernel_rfl) (by kernel_rfl) (by kernel_rfl) ?_
      refine vc_ret ?_
      refine ret_1 (d := .v (.bool true)) (by kernel_rfl) ?_
      rfl

theorem cmpZ_range (s1 s2 : Bool) (A B : Nat) (e1 e2 : Int) : -1 ≤ cmpZ s1 A e1 s2 B e2 ∧ cmpZ s1 A e1 s2 B e2 ≤ 1 := by
  unfold cmpZ cmpI
  split
  · omega
  · split <;> omega
theorem cmpZ_trans {s1 s2 s3 : Bool} {A B C : Nat} {e1 e2 e3 : Int} (h1 : cmpZ s1 A e1 s2 B e2 ≤ 0) (h2 : cmpZ s2 B e2 s3 C e3 ≤ 0) : cmpZ s1 A e1 s3 C e3 ≤ 0 := by
  obtain ⟨E, hE⟩ : ∃ E, E = min (min e1 e2) e3 := ⟨_, rfl⟩
  rw [cmpZ_any (E := E) (by omega) (by omega), cmpI_le] at *
  omega
theorem V_neg0 (s : Bool) (A : Nat) (e E : Int) : V (!s && decide (A ≠ 0)) A e E = -V s A e E := by
  by_cases h : A = 0
  · subst h
    rw [V_0, V_0]
    rfl
  · have hd : decide (A ≠ 0) = true := by simp [h]
    rw [hd, Bool.and_true, V_neg]
theorem cmpZ_neg (s1 s2 : Bool) (A B : Nat) (e1 e2 : Int) : cmpZ (!s1 && decide (A ≠ 0)) A e1 (!s2 && decide (B ≠ 0)) B e2 = -cmpZ s1 A e1 s2 B e2 := by
  unfold cmpZ
  rw [V_neg0, V_neg0, cmpI_neg]

set_option maxHeartbeats 3200000 in
theorem c_DecOrder {g1 g2 g3 : Bool} {n1 n2 n3 : Nat} {e1 e2 e3 : Int} (h1 : n1 < B128) (h2 : n2 < B128) (h3 : n3 < B128) : HasC Try.prog 5 [.agg [.v (.bool g1), .v (.int .u64 (hiW (n1))), .v (.int .u64 (loW (n1))), .v (.int .i64 e1)], .agg [.v (.bool g2), .v (.int .u64 (hiW (n2))), .v (.int .u64 (loW (n2))), .v (.int .i64 e2)], .agg [.v (.bool g3), .v (.int .u64 (hiW (n3))), .v (.int .u64 (loW (n3))), .v (.int .i64 e3)]] (fun y => y = .v (.bool true)) := by
  refine HasC.of [] (fn := Try.f5) tyOk mixed (fun args w => Try.call5 args w) Try.func5 rfl (by kernel_rfl) (Nat.le_of_ble_eq_true rfl) (⟨_, rfl⟩) ?_
  refine vc_seqr rfl ?_
  refine vcI_q 4 (by kernel_rfl) ?_
  refine vcI_end 71 [(3, .p 3 0), (4, .p 4 0), (5, .p 5 0), (6, Ba false)] [(3, [Bv g1, Hw n1, Lw n1, Iv e1]), (4, [Bv g2, Hw n2, Lw n2, Iv e2]), (5, [Bv g3, Hw n3, Lw n3, Iv e3])] (by kernel_rfl) (by kernel_rfl) (by kernel_rfl) ?_
  refine vc_seq ?_
  refine vc_seqr rfl ?_
  refine vcI_call (f := 8) (ds := []) (dst := (some 13)) (by kernel_rfl) (c_awake02) ?_
  rintro _ rfl
  refine vcI_un (op := .not) (a := .bool true) (dst := (some 14)) (by kernel_rfl) ?_
  intro c14 hc14
  refine vcI_end 71 [(3, .p 3 0), (4, .p 4 0), (5, .p 5 0), (6, Ba false), (14, Ba c14)] [(3, [Bv g1, Hw n1, Lw n1, Iv e1]), (4, [Bv g2, Hw n2, Lw n2, Iv e2]), (5, [Bv g3, Hw n3, Lw n3, Iv e3])] (by kernel_rfl) (by kernel_rfl) (by kernel_rfl) ?_
  obtain rfl : c14 = false := bff hc14 ((by simp))
  refine vc_condf (by kernel_rfl) ?_
  refine vc_skip ?_
  refine seq_n ?_
  refine vc_seqr rfl ?_
  refine vcI_q 1 (by kernel_rfl) ?_
  refine vcI_call (f := 9) (ds := [.agg [.v (.bool g1), .v (.int .u64 (hiW (n1))), .v (.int .u64 (loW (n1))), .v (.int .i64 e1)]]) (dst := (some 16)) (by kernel_rfl) (c_Make h1) ?_
  rintro _ ⟨s1, a, x1, rfl, ha, hx1, hy1, hs1⟩
  refine vcI_q 1 (by kernel_rfl) ?_
  refine vcI_call (f := 9) (ds := [.agg [.v (.bool g2), .v (.int .u64 (hiW (n2))), .v (.int .u64 (loW (n2))), .v (.int .i64 e2)]]) (dst := (some 18)) (by kernel_rfl) (c_Make h2) ?_
  rintro _ ⟨s2, b, x2, rfl, hb, hx2, hy2, hs2⟩
  refine vcI_q 1 (by kernel_rfl) ?_
  refine vcI_call (f := 9) (ds := [.agg [.v (.bool g3), .v (.int .u64 (hiW (n3))), .v (.int .u64 (loW (n3))), .v (.int .i64 e3)]]) (dst := (some 20)) (by kernel_rfl) (c_Make h3) ?_
  rintro _ ⟨s3, c, x3, rfl, hc, hx3, hy3, hs3⟩
  have haB := Nat.lt_trans ha e34_lt; have hbB := Nat.lt_trans hb e34_lt; have hcB := Nat.lt_trans hc e34_lt
  have hr1 := cmpZ_range s1 s2 a b x1 x2; have hr2 := cmpZ_range s2 s1 b a x2 x1
  have hsw := cmpZ_swap s1 s2 a b x1 x2
  refine vcI_q 6 (by kernel_rfl) ?_
  refine vcI_end 71 [(6, Ba false), (7, .p 7 0), (8, .p 8 0), (9, .p 9 0), (14, Ba false)] [(7, [Bv s1, Hw a, Lw a, Iv x1]), (8, [Bv s2, Hw b, Lw b, Iv x2]), (9, [Bv s3, Hw c, Lw c, Iv x3])] (by kernel_rfl) (by kernel_rfl) (by kernel_rfl) ?_
  refine vc_seqr rfl ?_
  refine vcI_q 2 (by kernel_rfl) ?_
  refine vcI_call (f := 18) (ds := [.agg [.v (.bool s1), .v (.int .u64 (hiW (a))), .v (.int .u64 (loW (a))), .v (.int .i64 x1)], .agg [.v (.bool s2), .v (.int .u64 (hiW (b))), .v (.int .u64 (loW (b))), .v (.int .i64 x2)]]) (dst := (some 23)) (by kernel_rfl) (c_decCmp ha hb (by omega) (by omega) (by omega) (by omega)) ?_
  rintro _ rfl
  refine vcI_q 1 (by kernel_rfl) ?_
  refine vcI_end 71 [(6, Ba false), (7, .p 7 0), (8, .p 8 0), (9, .p 9 0), (10, Ia (cmpZ s1 a x1 s2 b x2)), (14, Ba false)] [(7, [Bv s1, Hw a, Lw a, Iv x1]), (8, [Bv s2, Hw b, Lw b, Iv x2]), (9, [Bv s3, Hw c, Lw c, Iv x3])] (by kernel_rfl) (by kernel_rfl) (by kernel_rfl) ?_
  refine vc_seq ?_
  refine vc_seqr rfl ?_
  refine vcI_q 3 (by kernel_rfl) ?_
  refine vcI_call (f := 18) (ds := [.agg [.v (.bool s2), .v (.int .u64 (hiW (b))), .v (.int .u64 (loW (b))), .v (.int .i64 x2)], .agg [.v (.bool s1), .v (.int .u64 (hiW (a))), .v (.int .u64 (loW (a))), .v (.int .i64 x1)]]) (dst := (some 27)) (by kernel_rfl) (c_decCmp hb ha (by omega) (by omega) (by omega) (by omega)) ?_
  rintro _ rfl
  refine vcI_un (op := .neg) (a := .int .i64 (cmpZ s2 b x2 s1 a x1)) (dst := (some 28)) (by kernel_rfl) ?_
  intro z28 hz28
  first | (replace hz28 := hz28.i64 (by omega)) | skip
  refine vcI_bin (op := .neq) (t := 3) (a := .int .i64 (cmpZ s1 a x1 s2 b x2)) (b := .int .i64 z28) (dst := (some 29)) (by kernel_rfl) ?_
  intro c29 hc29
  refine vcI_q 1 (by kernel_rfl) ?_
  obtain rfl : c29 = false := bff hc29 ((by omega))
  refine vcI_q 1 (by kernel_rfl) ?_
  refine vcI_bin (op := .leq) (t := 3) (a := .int .i64 (cmpZ s1 a x1 s2 b x2)) (b := .int .i64 0) (dst := (some 32)) (by kernel_rfl) ?_
  intro c32 hc32
  refine vcI_q 1 (by kernel_rfl) ?_
  cases c32
  · replace hc32 := bf hc32
    refine vcI_q 14 (by kernel_rfl) ?_
    refine vcI_call (f := 22) (ds := [.agg [.v (.bool s1), .v (.int .u64 (hiW (a))), .v (.int .u64 (loW (a))), .v (.int .i64 x1)]]) (dst := (some 48)) (by kernel_rfl) (c_Neg haB) ?_
    rintro _ rfl
    refine vcI_q 1 (by kernel_rfl) ?_
    refine vcI_call (f := 22) (ds := [.agg [.v (.bool s2), .v (.int .u64 (hiW (b))), .v (.int .u64 (loW (b))), .v (.int .i64 x2)]]) (dst := (some 50)) (by kernel_rfl) (c_Neg hbB) ?_
    rintro _ rfl
    refine vcI_call (f := 18) (ds := [.agg [.v (.bool ((!s1 && decide (a ≠ 0)))), .v (.int .u64 (hiW (a))), .v (.int .u64 (loW (a))), .v (.int .i64 x1)], .agg [.v (.bool ((!s2 && decide (b ≠ 0)))), .v (.int .u64 (hiW (b))), .v (.int .u64 (loW (b))), .v (.int .i64 x2)]]) (dst := (some 51)) (by kernel_rfl) (c_decCmp ha hb (by omega) (by omega) (by omega) (by omega)) ?_
    rintro _ rfl
    have hng := cmpZ_neg s1 s2 a b x1 x2
    refine vcI_q 1 (by kernel_rfl) ?_
    refine vcI_un (op := .neg) (a := .int .i64 (cmpZ s1 a x1 s2 b x2)) (dst := (some 53)) (by kernel_rfl) ?_
    intro z53 hz53
    first | (replace hz53 := hz53.i64 (by omega)) | skip
    refine vcI_bin (op := .neq) (t := 3) (a := .int .i64 (cmpZ (!s1 && decide (a ≠ 0)) a x1 (!s2 && decide (b ≠ 0)) b x2)) (b := .int .i64 z53) (dst := (some 54)) (by kernel_rfl) ?_
    intro c54 hc54
    refine vcI_q 1 (by kernel_rfl) ?_
    refine vcI_end 71 [(6, Ba false), (7, .p 7 0), (8, .p 8 0), (9, .p 9 0), (14, Ba false), (55, Ba c54)] [(7, [Bv s1, Hw a, Lw a, Iv x1]), (8, [Bv s2, Hw b, Lw b, Iv x2]), (9, [Bv s3, Hw c, Lw c, Iv x3])] (by kernel_rfl) (by kernel_rfl) (by kernel_rfl) ?_
    obtain rfl : c54 = false := bff hc54 ((by omega))
    refine vc_condf (by kernel_rfl) ?_
    refine vc_skip ?_
    refine seq_n ?_
    refine vc_seqr rfl ?_
    refine vcI_q 2 (by kernel_rfl) ?_
    refine vcI_call (f := 23) (ds := [.agg [.v (.bool s2), .v (.int .u64 (hiW (b))), .v (.int .u64 (loW (b))), .v (.int .i64 x2)]]) (dst := (some 59)) (by kernel_rfl) (c_Abs) ?_
    rintro _ rfl
    refine vcI_call (f := 11) (ds := [.agg [.v (.bool s1), .v (.int .u64 (hiW (a))), .v (.int .u64 (loW (a))), .v (.int .i64 x1)], .agg [.v (.bool false), .v (.int .u64 (hiW (b))), .v (.int .u64 (loW (b))), .v (.int .i64 x2)]]) (dst := (some 60)) (by kernel_rfl) (dfit_ex (c_decAdd ha hb (by omega) (by omega) (by omega) (by omega))) ?_
    rintro _ ⟨g, k, x, ok, rfl, hT⟩
    obtain ⟨r1, r2, r3, r4⟩ := fitU_range hT
    refine vcI_q 6 (by kernel_rfl) ?_
    refine vcI_end 71 [(6, Ba false), (7, .p 7 0), (8, .p 8 0), (9, .p 9 0), (11, .p 11 0), (12, Ba ok), (14, Ba false), (55, Ba false)] [(7, [Bv s1, Hw a, Lw a, Iv x1]), (8, [Bv s2, Hw b, Lw b, Iv x2]), (9, [Bv s3, Hw c, Lw c, Iv x3]), (11, [Bv g, Hw k, Lw k, Iv x])] (by kernel_rfl) (by kernel_rfl) (by kernel_rfl) ?_
    refine vc_seqr rfl ?_
    refine vcI_q 1 (by kernel_rfl) ?_
    refine vcI_un (op := .not) (a := .bool ok) (dst := (some 64)) (by kernel_rfl) ?_
    intro c64 hc64
    refine vcI_q 1 (by kernel_rfl) ?_
    cases c64
    · replace hc64 := bf hc64
      refine vcI_q 2 (by kernel_rfl) ?_
      have hok : ok = true := by simpa using hc64
      refine vcI_call (f := 18) (ds := [.agg [.v (.bool g), .v (.int .u64 (hiW (k))), .v (.int .u64 (loW (k))), .v (.int .i64 x)], .agg [.v (.bool s1), .v (.int .u64 (hiW (a))), .v (.int .u64 (loW (a))), .v (.int .i64 x1)]]) (dst := (some 68)) (by kernel_rfl) (c_decCmp r1 ha (by omega) (by omega) (by omega) (by omega)) ?_
      rintro _ rfl
      refine vcI_bin (op := .geq) (t := 3) (a := .int .i64 (cmpZ g k x s1 a x1)) (b := .int .i64 0) (dst := (some 69)) (by kernel_rfl) ?_
      intro c69 hc69
      refine vcI_q 2 (by kernel_rfl) ?_
      refine vcI_end 71 [(6, Ba c69), (7, .p 7 0), (8, .p 8 0), (9, .p 9 0), (11, .p 11 0), (14, Ba false), (55, Ba false)] [(7, [Bv s1, Hw a, Lw a, Iv x1]), (8, [Bv s2, Hw b, Lw b, Iv x2]), (9, [Bv s3, Hw c, Lw c, Iv x3]), (11, [Bv g, Hw k, Lw k, Iv x])] (by kernel_rfl) (by kernel_rfl) (by kernel_rfl) ?_
      refine vc_ret ?_
      refine ret_1 (d := .v (.bool c69)) (by kernel_rfl) ?_
      rw [hc69.2 (add_ge ha hx1 (by rw [hT, hok]))]
    · replace hc64 := bt hc64
      refine vcI_q 6 (by kernel_rfl) ?_
      refine vcI_end 71 [(6, Ba true), (7, .p 7 0), (8, .p 8 0), (9, .p 9 0), (11, .p 11 0), (14, Ba false), (55, Ba false)] [(7, [Bv s1, Hw a, Lw a, Iv x1]), (8, [Bv s2, Hw b, Lw b, Iv x2]), (9, [Bv s3, Hw c, Lw c, Iv x3]), (11, [Bv g, Hw k, Lw k, Iv x])] (by kernel_rfl) (by kernel_rfl) (by kernel_rfl) ?_
      refine vc_ret ?_
      refine ret_1 (d := .v (.bool true)) (by kernel_rfl) ?_
      rfl
  · replace hc32 := bt hc32
    refine vcI_q 2 (by kernel_rfl) ?_
    refine vcI_call (f := 18) (ds := [.agg [.v (.bool s2), .v (.int .u64 (hiW (b))), .v (.int .u64 (loW (b))), .v (.int .i64 x2)], .agg [.v (.bool s3), .v (.int .u64 (hiW (c))), .v (.int .u64 (loW (c))), .v (.int .i64 x3)]]) (dst := (some 36)) (by kernel_rfl) (c_decCmp hb hc (by omega) (by omega) (by omega) (by omega)) ?_
    rintro _ rfl
    refine vcI_bin (op := .leq) (t := 3) (a := .int .i64 (cmpZ s2 b x2 s3 c x3)) (b := .int .i64 0) (dst := (some 37)) (by kernel_rfl) ?_
    intro c37 hc37
    refine vcI_q 2 (by kernel_rfl) ?_
    cases c37
    · replace hc37 := bf hc37
      refine vcI_q 8 (by kernel_rfl) ?_
      refine vcI_call (f := 22) (ds := [.agg [.v (.bool s1), .v (.int .u64 (hiW (a))), .v (.int .u64 (loW (a))), .v (.int .i64 x1)]]) (dst := (some 48)) (by kernel_rfl) (c_Neg haB) ?_
      rintro _ rfl
      refine vcI_q 1 (by kernel_rfl) ?_
      refine vcI_call (f := 22) (ds := [.agg [.v (.bool s2), .v (.int .u64 (hiW (b))), .v (.int .u64 (loW (b))), .v (.int .i64 x2)]]) (dst := (some 50)) (by kernel_rfl) (c_Neg hbB) ?_
      rintro _ rfl
      refine vcI_call (f := 18) (ds := [.agg [.v (.bool ((!s1 && decide (a ≠ 0)))), .v (.int .u64 (hiW (a))), .v (.int .u64 (loW (a))), .v (.int .i64 x1)], .agg [.v (.bool ((!s2 && decide (b ≠ 0)))), .v (.int .u64 (hiW (b))), .v (.int .u64 (loW (b))), .v (.int .i64 x2)]]) (dst := (some 51)) (by kernel_rfl) (c_decCmp ha hb (by omega) (by omega) (by omega) (by omega)) ?_
      rintro _ rfl
      have hng := cmpZ_neg s1 s2 a b x1 x2
      refine vcI_q 1 (by kernel_rfl) ?_
      refine vcI_un (op := .neg) (a := .int .i64 (cmpZ s1 a x1 s2 b x2)) (dst := (some 53)) (by kernel_rfl) ?_
      intro z53 hz53
      first | (replace hz53 := hz53.i64 (by omega)) | skip
      refine vcI_bin (op := .neq) (t := 3) (a := .int .i64 (cmpZ (!s1 && decide (a ≠ 0)) a x1 (!s2 && decide (b ≠ 0)) b x2)) (b := .int .i64 z53) (dst := (some 54)) (by kernel_rfl) ?_
      intro c54 hc54
      refine vcI_q 1 (by kernel_rfl) ?_
      refine vcI_end 71 [(6, Ba false), (7, .p 7 0), (8, .p 8 0), (9, .p 9 0), (14, Ba false), (55, Ba c54)] [(7, [Bv s1, Hw a, Lw a, Iv x1]), (8, [Bv s2, Hw b, Lw b, Iv x2]), (9, [Bv s3, Hw c, Lw c, Iv x3])] (by kernel_rfl) (by kernel_rfl) (by kernel_rfl) ?_
      obtain rfl : c54 = false := bff hc54 ((by omega))
      refine vc_condf (by kernel_rfl) ?_
      refine vc_skip ?_
      refine seq_n ?_
      refine vc_seqr rfl ?_
      refine vcI_q 2 (by kernel_rfl) ?_
      refine vcI_call (f := 23) (ds := [.agg [.v (.bool s2), .v (.int .u64 (hiW (b))), .v (.int .u64 (loW (b))), .v (.int .i64 x2)]]) (dst := (some 59)) (by kernel_rfl) (c_Abs) ?_
      rintro _ rfl
      refine vcI_call (f := 11) (ds := [.agg [.v (.bool s1), .v (.int .u64 (hiW (a))), .v (.int .u64 (loW (a))), .v (.int .i64 x1)], .agg [.v (.bool false), .v (.int .u64 (hiW (b))), .v (.int .u64 (loW (b))), .v (.int .i64 x2)]]) (dst := (some 60)) (by kernel_rfl) (dfit_ex (c_decAdd ha hb (by omega) (by omega) (by omega) (by omega))) ?_
      rintro _ ⟨g, k, x, ok, rfl, hT⟩
      obtain ⟨r1, r2, r3, r4⟩ := fitU_range hT
      refine vcI_q 6 (by kernel_rfl) ?_
      refine vcI_end 71 [(6, Ba false), (7, .p 7 0), (8, .p 8 0), (9, .p 9 0), (11, .p 11 0), (12, Ba ok), (14, Ba false), (55, Ba false)] [(7, [Bv s1, Hw a, Lw a, Iv x1]), (8, [Bv s2, Hw b, Lw b, Iv x2]), (9, [Bv s3, Hw c, Lw c, Iv x3]), (11, [Bv g, Hw k, Lw k, Iv x])] (by kernel_rfl) (by kernel_rfl) (by kernel_rfl) ?_
      refine vc_seqr rfl ?_
      refine vcI_q 1 (by kernel_rfl) ?_
      refine vcI_un (op := .not) (a := .bool ok) (dst := (some 64)) (by kernel_rfl) ?_
      intro c64 hc64
      refine vcI_q 1 (by kernel_rfl) ?_
      cases c64
      · replace hc64 := bf hc64
        refine vcI_q 2 (by kernel_rfl) ?_
        have hok : ok = true := by simpa using hc64
        refine vcI_call (f := 18) (ds := [.agg [.v (.bool g), .v (.int .u64 (hiW (k))), .v (.int .u64 (loW (k))), .v (.int .i64 x)], .agg [.v (.bool s1), .v (.int .u64 (hiW (a))), .v (.int .u64 (loW (a))), .v (.int .i64 x1)]]) (dst := (some 68)) (by kernel_rfl) (c_decCmp r1 ha (by omega) (by omega) (by omega) (by omega)) ?_
        rintro _ rfl
        refine vcI_bin (op := .geq) (t := 3) (a := .int .i64 (cmpZ g k x s1 a x1)) (b := .int .i64 0) (dst := (some 69)) (by kernel_rfl) ?_
        intro c69 hc69
        refine vcI_q 2 (by kernel_rfl) ?_
        refine vcI_end 71 [(6, Ba c69), (7, .p 7 0), (8, .p 8 0), (9, .p 9 0), (11, .p 11 0), (14, Ba false), (55, Ba false)] [(7, [Bv s1, Hw a, Lw a, Iv x1]), (8, [Bv s2, Hw b, Lw b, Iv x2]), (9, [Bv s3, Hw c, Lw c, Iv x3]), (11, [Bv g, Hw k, Lw k, Iv x])] (by kernel_rfl) (by kernel_rfl) (by kernel_rfl) ?_
        refine vc_ret ?_
        refine ret_1 (d := .v (.bool c69)) (by kernel_rfl) ?_
        rw [hc69.2 (add_ge ha hx1 (by rw [hT, hok]))]
      · replace hc64 := bt hc64
        refine vcI_q 6 (by kernel_rfl) ?_
        refine vcI_end 71 [(6, Ba true), (7, .p 7 0), (8, .p 8 0), (9, .p 9 0), (11, .p 11 0), (14, Ba false), (55, Ba false)] [(7, [Bv s1, Hw a, Lw a, Iv x1]), (8, [Bv s2, Hw b, Lw b, Iv x2]), (9, [Bv s3, Hw c, Lw c, Iv x3]), (11, [Bv g, Hw k, Lw k, Iv x])] (by kernel_rfl) (by kernel_rfl) (by kernel_rfl) ?_
        refine vc_ret ?_
        refine ret_1 (d := .v (.bool true)) (by kernel_rfl) ?_
        rfl
    · replace hc37 := bt hc37
      refine vcI_q 2 (by kernel_rfl) ?_
      refine vcI_call (f := 18) (ds := [.agg [.v (.bool s1), .v (.int .u64 (hiW (a))), .v (.int .u64 (loW (a))), .v (.int .i64 x1)], .agg [.v (.bool s3), .v (.int .u64 (hiW (c))), .v (.int .u64 (loW (c))), .v (.int .i64 x3)]]) (dst := (some 42)) (by kernel_rfl) (c_decCmp ha hc (by omega) (by omega) (by omega) (by omega)) ?_
      rintro _ rfl
      have htr := cmpZ_trans hc32 hc37
      refine vcI_bin (op := .gtr) (t := 3) (a := .int .i64 (cmpZ s1 a x1 s3 c x3)) (b := .int .i64 0) (dst := (some 43)) (by kernel_rfl) ?_
      intro c43 hc43
      refine vcI_q 3 (by kernel_rfl) ?_
      obtain rfl : c43 = false := bff hc43 ((by omega))
      refine vcI_q 1 (by kernel_rfl) ?_
      refine vcI_call (f := 22) (ds := [.agg [.v (.bool s1), .v (.int .u64 (hiW (a))), .v (.int .u64 (loW (a))), .v (.int .i64 x1)]]) (dst := (some 48)) (by kernel_rfl) (c_Neg haB) ?_
      rintro _ rfl
      refine vcI_q 1 (by kernel_rfl) ?_
      refine vcI_call (f := 22) (ds := [.agg [.v (.bool s2), .v (.int .u64 (hiW (b))), .v (.int .u64 (loW (b))), .v (.int .i64 x2)]]) (dst := (some 50)) (by kernel_rfl) (c_Neg hbB) ?_
      rintro _ rfl
      refine vcI_call (f := 18) (ds := [.agg [.v (.bool ((!s1 && decide (a ≠ 0)))), .v (.int .u64 (hiW (a))), .v (.int .u64 (loW (a))), .v (.int .i64 x1)], .agg [.v (.bool ((!s2 && decide (b ≠ 0)))), .v (.int .u64 (hiW (b))), .v (.int .u64 (loW (b))), .v (.int .i64 x2)]]) (dst := (some 51)) (by kernel_rfl) (c_decCmp ha hb (by omega) (by omega) (by omega) (by omega)) ?_
      rintro _ rfl
      have hng := cmpZ_neg s1 s2 a b x1 x2
      refine vcI_q 1 (by kernel_rfl) ?_
      refine vcI_un (op := .neg) (a := .int .i64 (cmpZ s1 a x1 s2 b x2)) (dst := (some 53)) (by kernel_rfl) ?_
      intro z53 hz53
      first | (replace hz53 := hz53.i64 (by omega)) | skip
      refine vcI_bin (op := .neq) (t := 3) (a := .int .i64 (cmpZ (!s1 && decide (a ≠ 0)) a x1 (!s2 && decide (b ≠ 0)) b x2)) (b := .int .i64 z53) (dst := (some 54)) (by kernel_rfl) ?_
      intro c54 hc54
      refine vcI_q 1 (by kernel_rfl) ?_
      refine vcI_end 71 [(6, Ba false), (7, .p 7 0), (8, .p 8 0), (9, .p 9 0), (14, Ba false), (55, Ba c54)] [(7, [Bv s1, Hw a, Lw a, Iv x1]), (8, [Bv s2, Hw b, Lw b, Iv x2]), (9, [Bv s3, Hw c, Lw c, Iv x3])] (by kernel_rfl) (by kernel_rfl) (by kernel_rfl) ?_
      obtain rfl : c54 = false := bff hc54 ((by omega))
      refine vc_condf (by kernel_rfl) ?_
      refine vc_skip ?_
      refine seq_n ?_
      refine vc_seqr rfl ?_
      refine vcI_q 2 (by kernel_rfl) ?_
      refine vcI_call (f := 23) (ds := [.agg [.v (.bool s2), .v (.int .u64 (hiW (b))), .v (.int .u64 (loW (b))), .v (.int .i64 x2)]]) (dst := (some 59)) (by kernel_rfl) (c_Abs) ?_
      rintro _ rfl
      refine vcI_call (f := 11) (ds := [.agg [.v (.bool s1), .v (.int .u64 (hiW (a))), .v (.int .u64 (loW (a))), .v (.int .i64 x1)], .agg [.v (.bool false), .v (.int .u64 (hiW (b))), .v (.int .u64 (loW (b))), .v (.int .i64 x2)]]) (dst := (some 60)) (by kernel_rfl) (dfit_ex (c_decAdd ha hb (by omega) (by omega) (by omega) (by omega))) ?_
      rintro _ ⟨g, k, x, ok, rfl, hT⟩
      obtain ⟨r1, r2, r3, r4⟩ := fitU_range hT
      refine vcI_q 6 (by kernel_rfl) ?_
      refine vcI_end 71 [(6, Ba false), (7, .p 7 0), (8, .p 8 0), (9, .p 9 0), (11, .p 11 0), (12, Ba ok), (14, Ba false), (55, Ba false)] [(7, [Bv s1, Hw a, Lw a, Iv x1]), (8, [Bv s2, Hw b, Lw b, Iv x2]), (9, [Bv s3, Hw c, Lw c, Iv x3]), (11, [Bv g, Hw k, Lw k, Iv x])] (by kernel_rfl) (by kernel_rfl) (by kernel_rfl) ?_
      refine vc_seqr rfl ?_
      refine vcI_q 1 (by kernel_rfl) ?_
      refine vcI_un (op := .not) (a := .bool ok) (dst := (some 64)) (by kernel_rfl) ?_
      intro c64 hc64
      refine vcI_q 1 (by kernel_rfl) ?_
      cases c64
      · replace hc64 := bf hc64
        refine vcI_q 2 (by kernel_rfl) ?_
        have hok : ok = true := by simpa using hc64
        refine vcI_call (f := 18) (ds := [.agg [.v (.bool g), .v (.int .u64 (hiW (k))), .v (.int .u64 (loW (k))), .v (.int .i64 x)], .agg [.v (.bool s1), .v (.int .u64 (hiW (a))), .v (.int .u64 (loW (a))), .v (.int .i64 x1)]]) (dst := (some 68)) (by kernel_rfl) (c_decCmp r1 ha (by omega) (by omega) (by omega) (by omega)) ?_
        rintro _ rfl
        refine vcI_bin (op := .geq) (t := 3) (a := .int .i64 (cmpZ g k x s1 a x1)) (b := .int .i64 0) (dst := (some 69)) (by kernel_rfl) ?_
        intro c69 hc69
        refine vcI_q 2 (by kernel_rfl) ?_
        refine vcI_end 71 [(6, Ba c69), (7, .p 7 0), (8, .p 8 0), (9, .p 9 0), (11, .p 11 0), (14, Ba false), (55, Ba false)] [(7, [Bv s1, Hw a, Lw a, Iv x1]), (8, [Bv s2, Hw b, Lw b, Iv x2]), (9, [Bv s3, Hw c, Lw c, Iv x3]), (11, [Bv g, Hw k, Lw k, Iv x])] (by kernel_rfl) (by kernel_rfl) (by kernel_rfl) ?_
        refine vc_ret ?_
        refine ret_1 (d := .v (.bool c69)) (by kernel_rfl) ?_
        rw [hc69.2 (add_ge ha hx1 (by rw [hT, hok]))]
      · replace hc64 := bt hc64
        refine vcI_q 6 (by kernel_rfl) ?_
        refine vcI_end 71 [(6, Ba true), (7, .p 7 0), (8, .p 8 0), (9, .p 9 0), (11, .p 11 0), (14, Ba false), (55, Ba false)] [(7, [Bv s1, Hw a, Lw a, Iv x1]), (8, [Bv s2, Hw b, Lw b, Iv x2]), (9, [Bv s3, Hw c, Lw c, Iv x3]), (11, [Bv g, Hw k, Lw k, Iv x])] (by kernel_rfl) (by kernel_rfl) (by kernel_rfl) ?_
        refine vc_ret ?_
        refine ret_1 (d := .v (.bool true)) (by kernel_rfl) ?_
        rfl

theorem c_FitA {m e : Int} {neg : Bool} {N : Nat} {g : Bool} {k : Nat} {x : Int} {ok : Bool} (h : fitT m neg N e false = (g, k, x, ok)) (hN : N < B128) (he0 : -1000000000000000000 ≤ e) (he1 : e ≤ 1000000000000000000) :
    HasC Try.prog 20 [.agg [.v (.bool neg), .v (.int .u64 0), .v (.int .u64 0), .v (.int .u64 (hiW N)), .v (.int .u64 (loW N)), .v (.int .i64 e), .v (.bool false)], .v (.int .i64 m)] (fun y => y = .tup [dDec g k x, .v (.bool ok)]) :=
  (c_FitT1 (m := m) (neg := neg) (more := false) hN he0 he1).mono fun y ⟨g', k', x', ok', h1, h2⟩ => by
    rw [h] at h2
    obtain ⟨a1, a2, a3, a4⟩ := T4.inj h2
    rw [h1, a1, a2, a3, a4]
theorem wide_lt {hi lo : Nat} (h : hi < B128) (k : lo < B128) : nd (hi * B128 + lo) ≤ 78 := nd_U2 h k

set_option maxHeartbeats 3200000 in
theorem c_DecFit {g1 : Bool} {n1 m : Nat} {e1 : Int} {wn wm : Bool} {hi lo : Nat} {we : Int} (h1 : n1 < B128) (hm1 : m < 256) (hhi : hi < B128) (hlo : lo < B128) (hw0 : -9223372036854775808 ≤ we) (hw1 : we ≤ 9223372036854775807) : HasC Try.prog 4 [.agg [.v (.bool g1), .v (.int .u64 (hiW (n1))), .v (.int .u64 (loW (n1))), .v (.int .i64 e1)], .v (.int .u8 ((m : Int))), .agg [.v (.bool wn), .v (.int .u64 (hiW (hi))), .v (.int .u64 (loW (hi))), .v (.int .u64 (hiW (lo))), .v (.int .u64 (loW (lo))), .v (.int .i64 we), .v (.bool wm)]] (fun y => y = .v (.bool true)) := by
  refine HasC.of [] (fn := Try.f4) tyOk mixed (fun args w => Try.call4 args w) Try.func4 rfl (by kernel_rfl) (Nat.le_of_ble_eq_true rfl) (⟨_, rfl⟩) ?_
  refine vc_seqr rfl ?_
  refine vcI_q 3 (by kernel_rfl) ?_
  refine vcI_end 103 [(1, .d (.v (.int .u8 ((m : Int))))), (3, .p 3 0), (5, .p 5 0), (6, Ba false)] [(3, [Bv g1, Hw n1, Lw n1, Iv e1]), (5, [Bv wn, Hw hi, Lw hi, Hw lo, Lw lo, Iv we, Bv wm])] (by kernel_rfl) (by kernel_rfl) (by kernel_rfl) ?_
  refine vc_seq ?_
  refine vc_seqr rfl ?_
  refine vcI_call (f := 8) (ds := []) (dst := (some 16)) (by kernel_rfl) (c_awake02) ?_
  rintro _ rfl
  refine vcI_un (op := .not) (a := .bool true) (dst := (some 17)) (by kernel_rfl) ?_
  intro c17 hc17
  refine vcI_end 103 [(1, .d (.v (.int .u8 ((m : Int))))), (3, .p 3 0), (5, .p 5 0), (6, Ba false), (17, Ba c17)] [(3, [Bv g1, Hw n1, Lw n1, Iv e1]), (5, [Bv wn, Hw hi, Lw hi, Hw lo, Lw lo, Iv we, Bv wm])] (by kernel_rfl) (by kernel_rfl) (by kernel_rfl) ?_
  obtain rfl : c17 = false := bff hc17 ((by simp))
  refine vc_condf (by kernel_rfl) ?_
  refine vc_skip ?_
  refine seq_n ?_
  refine vc_seqr rfl ?_
  refine vcI_q 1 (by kernel_rfl) ?_
  refine vcI_call (f := 9) (ds := [.agg [.v (.bool g1), .v (.int .u64 (hiW (n1))), .v (.int .u64 (loW (n1))), .v (.int .i64 e1)]]) (dst := (some 19)) (by kernel_rfl) (c_Make h1) ?_
  rintro _ ⟨s, a, x, rfl, ha, hx, hy, hs⟩
  refine vcI_q 2 (by kernel_rfl) ?_
  refine vcI_end 103 [(1, .d (.v (.int .u8 ((m : Int))))), (5, .p 5 0), (6, Ba false), (7, .p 7 0), (17, Ba false)] [(5, [Bv wn, Hw hi, Lw hi, Hw lo, Lw lo, Iv we, Bv wm]), (7, [Bv s, Hw a, Lw a, Iv x])] (by kernel_rfl) (by kernel_rfl) (by kernel_rfl) ?_
  refine vc_seqr rfl ?_
  refine vcI_q 8 (by kernel_rfl) ?_
  refine vcI_bin (op := .rem) (t := 5) (a := .int .u8 ((m : Int))) (b := .int .u8 7) (dst := (some 29)) (by kernel_rfl) ?_
  refine And.intro (by omega) ?_
  intro z29 hz29
  refine vcI_bin (op := .add) (t := 5) (a := .int .u8 1) (b := .int .u8 z29) (dst := (some 30)) (by kernel_rfl) ?_
  intro z30 hz30
  first | (replace hz30 := hz30.u8 (by omega)) | skip
  refine vcI_conv (t := 5) (t' := 47) (a := .int .u8 z30) (dst := (some 31)) (by kernel_rfl) ?_
  intro z31 hz31
  first | (replace hz31 := hz31.i64 (by omega)) | skip
  refine vcI_call (f := 20) (ds := [.agg [.v (.bool s), .v (.int .u64 0), .v (.int .u64 0), .v (.int .u64 (hiW (a))), .v (.int .u64 (loW (a))), .v (.int .i64 x), .v (.bool false)], .v (.int .i64 z31)]) (dst := (some 32)) (by kernel_rfl) (c_FitA (g := s) (k := a) (x := x) (ok := true) (by rw [fitT_own ha hx hy]; by_cases k : a = 0; rw [if_pos k, hs k]; rw [if_neg k]) (Nat.lt_trans ha e34_lt) (by omega) (by omega)) ?_
  rintro _ rfl
  refine vcI_q 6 (by kernel_rfl) ?_
  refine vcI_end 103 [(5, .p 5 0), (6, Ba false), (7, .p 7 0), (8, .p 8 0), (9, Ba true), (17, Ba false)] [(5, [Bv wn, Hw hi, Lw hi, Hw lo, Lw lo, Iv we, Bv wm]), (7, [Bv s, Hw a, Lw a, Iv x]), (8, [Bv s, Hw a, Lw a, Iv x])] (by kernel_rfl) (by kernel_rfl) (by kernel_rfl) ?_
  refine vc_seq ?_
  refine vc_seqr rfl ?_
  refine vcI_q 1 (by kernel_rfl) ?_
  refine vcI_un (op := .not) (a := .bool true) (dst := (some 36)) (by kernel_rfl) ?_
  intro c36 hc36
  refine vcI_q 1 (by kernel_rfl) ?_
  obtain rfl : c36 = false := bff hc36 ((by simp))
  refine vcI_q 2 (by kernel_rfl) ?_
  refine vcI_bin (op := .neq) (t := 28) (a := .agg #[.bool s, .int .u64 (hiW (a)), .int .u64 (loW (a)), .int .i64 x]) (b := .agg #[.bool s, .int .u64 (hiW (a)), .int .u64 (loW (a)), .int .i64 x]) (dst := (some 40)) (by kernel_rfl) ?_
  intro c40 hc40
  try simp only [Array.mk.injEq, List.cons.injEq, Value.int.injEq, Value.bool.injEq, Value.string.injEq, true_and, and_true] at hc40
  refine vcI_q 1 (by kernel_rfl) ?_
  refine vcI_end 103 [(5, .p 5 0), (6, Ba false), (7, .p 7 0), (8, .p 8 0), (17, Ba false), (41, Ba c40)] [(5, [Bv wn, Hw hi, Lw hi, Hw lo, Lw lo, Iv we, Bv wm]), (7, [Bv s, Hw a, Lw a, Iv x]), (8, [Bv s, Hw a, Lw a, Iv x])] (by kernel_rfl) (by kernel_rfl) (by kernel_rfl) ?_
  obtain rfl : c40 = false := bff hc40 ((by simp))
  refine vc_condf (by kernel_rfl) ?_
  refine vc_skip ?_
  refine seq_n ?_
  refine vc_seq ?_
  refine vc_seqr rfl ?_
  refine vcI_q 2 (by kernel_rfl) ?_
  refine vcI_bin (op := .lss) (t := 3) (a := .int .i64 we) (b := .int .i64 (-7000)) (dst := (some 44)) (by kernel_rfl) ?_
  intro c44 hc44
  refine vcI_q 1 (by kernel_rfl) ?_
  cases c44
  · replace hc44 := bf hc44
    refine vcI_q 2 (by kernel_rfl) ?_
    refine vcI_bin (op := .gtr) (t := 3) (a := .int .i64 we) (b := .int .i64 7000) (dst := (some 48)) (by kernel_rfl) ?_
    intro c48 hc48
    refine vcI_q 1 (by kernel_rfl) ?_
    refine vcI_end 103 [(5, .p 5 0), (6, Ba false), (7, .p 7 0), (8, .p 8 0), (17, Ba false), (41, Ba false), (49, Ba c48)] [(5, [Bv wn, Hw hi, Lw hi, Hw lo, Lw lo, Iv we, Bv wm]), (7, [Bv s, Hw a, Lw a, Iv x]), (8, [Bv s, Hw a, Lw a, Iv x])] (by kernel_rfl) (by kernel_rfl) (by kernel_rfl) ?_
    cases c48
    · replace hc48 := bf hc48
      refine vc_condf (by kernel_rfl) ?_
      refine vc_skip ?_
      refine seq_n ?_
      refine vc_seqr rfl ?_
      refine vcI_q 1 (by kernel_rfl) ?_
      refine vcI_call (f := 20) (ds := [.agg [.v (.bool wn), .v (.int .u64 (hiW (hi))), .v (.int .u64 (loW (hi))), .v (.int .u64 (hiW (lo))), .v (.int .u64 (loW (lo))), .v (.int .i64 we), .v (.bool wm)], .v (.int .i64 6)]) (dst := (some 52)) (by kernel_rfl) (c_FitT (m := 6) (N := hi * B128 + lo) rfl hhi hlo (by omega) (by omega)) ?_
      rintro _ ⟨ga, ka, xa, oka, rfl, ra⟩
      refine vcI_q 6 (by kernel_rfl) ?_
      refine vcI_end 103 [(5, .p 5 0), (6, Ba false), (7, .p 7 0), (8, .p 8 0), (10, .p 10 0), (11, Ba oka), (17, Ba false), (41, Ba false), (49, Ba false)] [(5, [Bv wn, Hw hi, Lw hi, Hw lo, Lw lo, Iv we, Bv wm]), (7, [Bv s, Hw a, Lw a, Iv x]), (8, [Bv s, Hw a, Lw a, Iv x]), (10, [Bv ga, Hw ka, Lw ka, Iv xa])] (by kernel_rfl) (by kernel_rfl) (by kernel_rfl) ?_
      refine vc_seqr rfl ?_
      refine vcI_q 1 (by kernel_rfl) ?_
      refine vcI_call (f := 20) (ds := [.agg [.v (.bool wn), .v (.int .u64 (hiW (hi))), .v (.int .u64 (loW (hi))), .v (.int .u64 (hiW (lo))), .v (.int .u64 (loW (lo))), .v (.int .i64 we), .v (.bool wm)], .v (.int .i64 7)]) (dst := (some 57)) (by kernel_rfl) (c_FitT (m := 7) (N := hi * B128 + lo) rfl hhi hlo (by omega) (by omega)) ?_
      rintro _ ⟨gb, kb, xb, okb, rfl, rb⟩
      refine vcI_q 6 (by kernel_rfl) ?_
      refine vcI_end 103 [(5, .p 5 0), (6, Ba false), (7, .p 7 0), (8, .p 8 0), (10, .p 10 0), (11, Ba oka), (12, .p 12 0), (13, Ba okb), (17, Ba false), (41, Ba false), (49, Ba false)] [(5, [Bv wn, Hw hi, Lw hi, Hw lo, Lw lo, Iv we, Bv wm]), (7, [Bv s, Hw a, Lw a, Iv x]), (8, [Bv s, Hw a, Lw a, Iv x]), (10, [Bv ga, Hw ka, Lw ka, Iv xa]), (12, [Bv gb, Hw kb, Lw kb, Iv xb])] (by kernel_rfl) (by kernel_rfl) (by kernel_rfl) ?_
      refine vc_seqr rfl ?_
      refine vcI_q 1 (by kernel_rfl) ?_
      refine vcI_call (f := 20) (ds := [.agg [.v (.bool wn), .v (.int .u64 (hiW (hi))), .v (.int .u64 (loW (hi))), .v (.int .u64 (hiW (lo))), .v (.int .u64 (loW (lo))), .v (.int .i64 we), .v (.bool wm)], .v (.int .i64 1)]) (dst := (some 62)) (by kernel_rfl) (c_FitT (m := 1) (N := hi * B128 + lo) rfl hhi hlo (by omega) (by omega)) ?_
      rintro _ ⟨gc, kc, xc, okc, rfl, rc⟩
      obtain ⟨a1, a2, a3, a4⟩ := fitT_range ra
      obtain ⟨b1, b2, b3, b4⟩ := fitT_range rb
      obtain ⟨c1, c2, c3, c4⟩ := fitT_range rc
      refine vcI_q 6 (by kernel_rfl) ?_
      refine vcI_end 103 [(5, .p 5 0), (6, Ba false), (7, .p 7 0), (8, .p 8 0), (10, .p 10 0), (11, Ba oka), (12, .p 12 0), (13, Ba okb), (14, .p 14 0), (15, Ba okc), (17, Ba false), (41, Ba false), (49, Ba false)] [(5, [Bv wn, Hw hi, Lw hi, Hw lo, Lw lo, Iv we, Bv wm]), (7, [Bv s, Hw a, Lw a, Iv x]), (8, [Bv s, Hw a, Lw a, Iv x]), (10, [Bv ga, Hw ka, Lw ka, Iv xa]), (12, [Bv gb, Hw kb, Lw kb, Iv xb]), (14, [Bv gc, Hw kc, Lw kc, Iv xc])] (by kernel_rfl) (by kernel_rfl) (by kernel_rfl) ?_
      refine vc_seq ?_
      refine vc_seqr rfl ?_
      refine vcI_q 1 (by kernel_rfl) ?_
      refine vcI_un (op := .not) (a := .bool oka) (dst := (some 66)) (by kernel_rfl) ?_
      intro c66 hc66
      refine vcI_q 1 (by kernel_rfl) ?_
      cases c66
      · replace hc66 := bf hc66
        refine vcI_q 1 (by kernel_rfl) ?_
        refine vcI_un (op := .not) (a := .bool okb) (dst := (some 69)) (by kernel_rfl) ?_
        intro c69 hc69
        refine vcI_q 2 (by kernel_rfl) ?_
        cases c69
        · replace hc69 := bf hc69
          refine vcI_q 1 (by kernel_rfl) ?_
          refine vcI_un (op := .not) (a := .bool okc) (dst := (some 73)) (by kernel_rfl) ?_
          intro c73 hc73
          refine vcI_q 1 (by kernel_rfl) ?_
          refine vcI_end 103 [(5, .p 5 0), (6, Ba false), (7, .p 7 0), (8, .p 8 0), (10, .p 10 0), (12, .p 12 0), (14, .p 14 0), (17, Ba false), (41, Ba false), (49, Ba false), (74, Ba c73)] [(5, [Bv wn, Hw hi, Lw hi, Hw lo, Lw lo, Iv we, Bv wm]), (7, [Bv s, Hw a, Lw a, Iv x]), (8, [Bv s, Hw a, Lw a, Iv x]), (10, [Bv ga, Hw ka, Lw ka, Iv xa]), (12, [Bv gb, Hw kb, Lw kb, Iv xb]), (14, [Bv gc, Hw kc, Lw kc, Iv xc])] (by kernel_rfl) (by kernel_rfl) (by kernel_rfl) ?_
          cases c73
          · replace hc73 := bf hc73
            have oa : oka = true := by simpa using hc66
            have ob : okb = true := by simpa using hc69
            have oc : okc = true := by simpa using hc73
            rw [fitT_U _ _ _ _ (wide_lt hhi hlo), oa] at ra
            rw [fitT_U _ _ _ _ (wide_lt hhi hlo), ob] at rb
            rw [fitT_U _ _ _ _ (wide_lt hhi hlo), oc] at rc
            obtain ⟨l1, l2⟩ := fit_modes ra rb rc
            refine vc_condf (by kernel_rfl) ?_
            refine vc_skip ?_
            refine seq_n ?_
            refine vc_seqr rfl ?_
            refine vcI_q 1 (by kernel_rfl) ?_
            refine vcI_call (f := 21) (ds := [.agg [.v (.bool ga), .v (.int .u64 (hiW (ka))), .v (.int .u64 (loW (ka))), .v (.int .i64 xa)]]) (dst := (some 76)) (by kernel_rfl) (c_May (Nat.lt_trans a1 e34_lt)) ?_
            rintro _ ⟨w1, rfl, hw1'⟩
            have hw1 := hw1'
            refine vcI_q 1 (by kernel_rfl) ?_
            obtain rfl : w1 = true := hw1.2 (⟨a1, a2, a3, fun h k => by rw [a4 k] at h; cases h⟩)
            refine vcI_q 1 (by kernel_rfl) ?_
            refine vcI_call (f := 21) (ds := [.agg [.v (.bool gb), .v (.int .u64 (hiW (kb))), .v (.int .u64 (loW (kb))), .v (.int .i64 xb)]]) (dst := (some 79)) (by kernel_rfl) (c_May (Nat.lt_trans b1 e34_lt)) ?_
            rintro _ ⟨w2, rfl, hw2⟩
            refine vcI_q 2 (by kernel_rfl) ?_
            obtain rfl : w2 = true := hw2.2 (⟨b1, b2, b3, fun h k => by rw [b4 k] at h; cases h⟩)
            refine vcI_q 1 (by kernel_rfl) ?_
            refine vcI_call (f := 21) (ds := [.agg [.v (.bool gc), .v (.int .u64 (hiW (kc))), .v (.int .u64 (loW (kc))), .v (.int .i64 xc)]]) (dst := (some 83)) (by kernel_rfl) (c_May (Nat.lt_trans c1 e34_lt)) ?_
            rintro _ ⟨w3, rfl, hw3⟩
            refine vcI_q 2 (by kernel_rfl) ?_
            obtain rfl : w3 = true := hw3.2 (⟨c1, c2, c3, fun h k => by rw [c4 k] at h; cases h⟩)
            refine vcI_q 2 (by kernel_rfl) ?_
            refine vcI_call (f := 18) (ds := [.agg [.v (.bool ga), .v (.int .u64 (hiW (ka))), .v (.int .u64 (loW (ka))), .v (.int .i64 xa)], .agg [.v (.bool gb), .v (.int .u64 (hiW (kb))), .v (.int .u64 (loW (kb))), .v (.int .i64 xb)]]) (dst := (some 88)) (by kernel_rfl) (c_decCmp a1 b1 (by omega) (by omega) (by omega) (by omega)) ?_
            rintro _ rfl
            refine vcI_bin (op := .leq) (t := 3) (a := .int .i64 (cmpZ ga ka xa gb kb xb)) (b := .int .i64 0) (dst := (some 89)) (by kernel_rfl) ?_
            intro c89 hc89
            refine vcI_q 2 (by kernel_rfl) ?_
            obtain rfl : c89 = true := hc89.2 (l1)
            refine vcI_q 2 (by kernel_rfl) ?_
            refine vcI_call (f := 18) (ds := [.agg [.v (.bool gc), .v (.int .u64 (hiW (kc))), .v (.int .u64 (loW (kc))), .v (.int .i64 xc)], .agg [.v (.bool ga), .v (.int .u64 (hiW (ka))), .v (.int .u64 (loW (ka))), .v (.int .i64 xa)]]) (dst := (some 94)) (by kernel_rfl) (c_decCmp c1 a1 (by omega) (by omega) (by omega) (by omega)) ?_
            rintro _ rfl
            refine vcI_bin (op := .eql) (t := 3) (a := .int .i64 (cmpZ gc kc xc ga ka xa)) (b := .int .i64 0) (dst := (some 95)) (by kernel_rfl) ?_
            intro c95 hc95
            refine vcI_q 1 (by kernel_rfl) ?_
            cases c95
            · replace hc95 := bf hc95
              refine vcI_q 2 (by kernel_rfl) ?_
              refine vcI_call (f := 18) (ds := [.agg [.v (.bool gc), .v (.int .u64 (hiW (kc))), .v (.int .u64 (loW (kc))), .v (.int .i64 xc)], .agg [.v (.bool gb), .v (.int .u64 (hiW (kb))), .v (.int .u64 (loW (kb))), .v (.int .i64 xb)]]) (dst := (some 99)) (by kernel_rfl) (c_decCmp c1 b1 (by omega) (by omega) (by omega) (by omega)) ?_
              rintro _ rfl
              refine vcI_bin (op := .eql) (t := 3) (a := .int .i64 (cmpZ gc kc xc gb kb xb)) (b := .int .i64 0) (dst := (some 100)) (by kernel_rfl) ?_
              intro c100 hc100
              refine vcI_q 3 (by kernel_rfl) ?_
              refine vcI_end 103 [(5, .p 5 0), (6, Ba c100), (7, .p 7 0), (8, .p 8 0), (10, .p 10 0), (12, .p 12 0), (14, .p 14 0), (17, Ba false), (41, Ba false), (49, Ba false), (74, Ba false)] [(5, [Bv wn, Hw hi, Lw hi, Hw lo, Lw lo, Iv we, Bv wm]), (7, [Bv s, Hw a, Lw a, Iv x]), (8, [Bv s, Hw a, Lw a, Iv x]), (10, [Bv ga, Hw ka, Lw ka, Iv xa]), (12, [Bv gb, Hw kb, Lw kb, Iv xb]), (14, [Bv gc, Hw kc, Lw kc, Iv xc])] (by kernel_rfl) (by kernel_rfl) (by kernel_rfl) ?_
              refine vc_ret ?_
              refine ret_1 (d := .v (.bool c100)) (by kernel_rfl) ?_
              rw [hc100.2 (l2.resolve_left hc95)]
            · replace hc95 := bt hc95
              refine vcI_q 7 (by kernel_rfl) ?_
              refine vcI_end 103 [(5, .p 5 0), (6, Ba true), (7, .p 7 0), (8, .p 8 0), (10, .p 10 0), (12, .p 12 0), (14, .p 14 0), (17, Ba false), (41, Ba false), (49, Ba false), (74, Ba false)] [(5, [Bv wn, Hw hi, Lw hi, Hw lo, Lw lo, Iv we, Bv wm]), (7, [Bv s, Hw a, Lw a, Iv x]), (8, [Bv s, Hw a, Lw a, Iv x]), (10, [Bv ga, Hw ka, Lw ka, Iv xa]), (12, [Bv gb, Hw kb, Lw kb, Iv xb]), (14, [Bv gc, Hw kc, Lw kc, Iv xc])] (by kernel_rfl) (by kernel_rfl) (by kernel_rfl) ?_
              refine vc_ret ?_
              refine ret_1 (d := .v (.bool true)) (by kernel_rfl) ?_
              rfl
          · replace hc73 := bt hc73
            refine vc_condt (by kernel_rfl) ?_
            refine vc_seqr rfl ?_
            refine vcI_q 1 (by kernel_rfl) ?_
            refine vcI_end 103 [(5, .p 5 0), (6, Ba true), (7, .p 7 0), (8, .p 8 0), (10, .p 10 0), (12, .p 12 0), (14, .p 14 0), (17, Ba false), (41, Ba false), (49, Ba false), (74, Ba true)] [(5, [Bv wn, Hw hi, Lw hi, Hw lo, Lw lo, Iv we, Bv wm]), (7, [Bv s, Hw a, Lw a, Iv x]), (8, [Bv s, Hw a, Lw a, Iv x]), (10, [Bv ga, Hw ka, Lw ka, Iv xa]), (12, [Bv gb, Hw kb, Lw kb, Iv xb]), (14, [Bv gc, Hw kc, Lw kc, Iv xc])] (by kernel_rfl) (by kernel_rfl) (by kernel_rfl) ?_
            refine vc_ret ?_
            refine seq_r ?_
            refine ret_1 (d := .v (.bool true)) (by kernel_rfl) ?_
            rfl
        · replace hc69 := bt hc69
          refine vcI_q 3 (by kernel_rfl) ?_
          refine vcI_end 103 [(5, .p 5 0), (6, Ba false), (7, .p 7 0), (8, .p 8 0), (10, .p 10 0), (12, .p 12 0), (14, .p 14 0), (17, Ba false), (41, Ba false), (49, Ba false), (74, Ba true)] [(5, [Bv wn, Hw hi, Lw hi, Hw lo, Lw lo, Iv we, Bv wm]), (7, [Bv s, Hw a, Lw a, Iv x]), (8, [Bv s, Hw a, Lw a, Iv x]), (10, [Bv ga, Hw ka, Lw ka, Iv xa]), (12, [Bv gb, Hw kb, Lw kb, Iv xb]), (14, [Bv gc, Hw kc, Lw kc, Iv xc])] (by kernel_rfl) (by kernel_rfl) (by kernel_rfl) ?_
          refine vc_condt (by kernel_rfl) ?_
          refine vc_seqr rfl ?_
          refine vcI_q 1 (by kernel_rfl) ?_
          refine vcI_end 103 [(5, .p 5 0), (6, Ba true), (7, .p 7 0), (8, .p 8 0), (10, .p 10 0), (12, .p 12 0), (14, .p 14 0), (17, Ba false), (41, Ba false), (49, Ba false), (74, Ba true)] [(5, [Bv wn, Hw hi, Lw hi, Hw lo, Lw lo, Iv we, Bv wm]), (7, [Bv s, Hw a, Lw a, Iv x]), (8, [Bv s, Hw a, Lw a, Iv x]), (10, [Bv ga, Hw ka, Lw ka, Iv xa]), (12, [Bv gb, Hw kb, Lw kb, Iv xb]), (14, [Bv gc, Hw kc, Lw kc, Iv xc])] (by kernel_rfl) (by kernel_rfl) (by kernel_rfl) ?_
          refine vc_ret ?_
          refine seq_r ?_
          refine ret_1 (d := .v (.bool true)) (by kernel_rfl) ?_
          rfl
      · replace hc66 := bt hc66
        refine vcI_q 7 (by kernel_rfl) ?_
        refine vcI_end 103 [(5, .p 5 0), (6, Ba false), (7, .p 7 0), (8, .p 8 0), (10, .p 10 0), (12, .p 12 0), (14, .p 14 0), (17, Ba false), (41, Ba false), (49, Ba false), (74, Ba true)] [(5, [Bv wn, Hw hi, Lw hi, Hw lo, Lw lo, Iv we, Bv wm]), (7, [Bv s, Hw a, Lw a, Iv x]), (8, [Bv s, Hw a, Lw a, Iv x]), (10, [Bv ga, Hw ka, Lw ka, Iv xa]), (12, [Bv gb, Hw kb, Lw kb, Iv xb]), (14, [Bv gc, Hw kc, Lw kc, Iv xc])] (by kernel_rfl) (by kernel_rfl) (by kernel_rfl) ?_
        refine vc_condt (by kernel_rfl) ?_
        refine vc_seqr rfl ?_
        refine vcI_q 1 (by kernel_rfl) ?_
        refine vcI_end 103 [(5, .p 5 0), (6, Ba true), (7, .p 7 0), (8, .p 8 0), (10, .p 10 0), (12, .p 12 0), (14, .p 14 0), (17, Ba false), (41, Ba false), (49, Ba false), (74, Ba true)] [(5, [Bv wn, Hw hi, Lw hi, Hw lo, Lw lo, Iv we, Bv wm]), (7, [Bv s, Hw a, Lw a, Iv x]), (8, [Bv s, Hw a, Lw a, Iv x]), (10, [Bv ga, Hw ka, Lw ka, Iv xa]), (12, [Bv gb, Hw kb, Lw kb, Iv xb]), (14, [Bv gc, Hw kc, Lw kc, Iv xc])] (by kernel_rfl) (by kernel_rfl) (by kernel_rfl) ?_
        refine vc_ret ?_
        refine seq_r ?_
        refine ret_1 (d := .v (.bool true)) (by kernel_rfl) ?_
        rfl
    · replace hc48 := bt hc48
      refine vc_condt (by kernel_rfl) ?_
      refine vc_seqr rfl ?_
      refine vcI_q 1 (by kernel_rfl) ?_
      refine vcI_end 103 [(5, .p 5 0), (6, Ba true), (7, .p 7 0), (8, .p 8 0), (17, Ba false), (41, Ba false), (49, Ba true)] [(5, [Bv wn, Hw hi, Lw hi, Hw lo, Lw lo, Iv we, Bv wm]), (7, [Bv s, Hw a, Lw a, Iv x]), (8, [Bv s, Hw a, Lw a, Iv x])] (by kernel_rfl) (by kernel_rfl) (by kernel_rfl) ?_
      refine vc_ret ?_
      refine seq_r ?_
      refine ret_1 (d := .v (.bool true)) (by kernel_rfl) ?_
      rfl
  · replace hc44 := bt hc44
    refine vcI_q 4 (by kernel_rfl) ?_
    refine vcI_end 103 [(5, .p 5 0), (6, Ba false), (7, .p 7 0), (8, .p 8 0), (17, Ba false), (41, Ba false), (49, Ba true)] [(5, [Bv wn, Hw hi, Lw hi, Hw lo, Lw lo, Iv we, Bv wm]), (7, [Bv s, Hw a, Lw a, Iv x]), (8, [Bv s, Hw a, Lw a, Iv x])] (by kernel_rfl) (by kernel_rfl) (by kernel_rfl) ?_
    refine vc_condt (by kernel_rfl) ?_
    refine vc_seqr rfl ?_
    refine vcI_q 1 (by kernel_rfl) ?_
    refine vcI_end 103 [(5, .p 5 0), (6, Ba true), (7, .p 7 0), (8, .p 8 0), (17, Ba false), (41, Ba false), (49, Ba true)] [(5, [Bv wn, Hw hi, Lw hi, Hw lo, Lw lo, Iv we, Bv wm]), (7, [Bv s, Hw a, Lw a, Iv x]), (8, [Bv s, Hw a, Lw a, Iv x])] (by kernel_rfl) (by kernel_rfl) (by kernel_rfl) ?_
    refine vc_ret ?_
    refine seq_r ?_
    refine ret_1 (d := .v (.bool true)) (by kernel_rfl) ?_
    rfl

end Go.Proofs.Ytgphodlkaknkcaa
