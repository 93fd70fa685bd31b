/-
  The laws of quot: each says yes.
-/
import Derived.Test.YtdlfgliokkgceaaLawD
namespace Go.Proofs.Ytdlfgliokkgceaa
open Go.RowKit
set_option linter.unusedVariables false
set_option linter.unusedSimpArgs false
set_option maxRecDepth 100000

theorem tru {c : Bool} (h : c = true) : c = true ↔ True := by simp [h]
theorem none4 {g : Bool} {k : Nat} {x : Int} {ok : Bool} (h : ((false, 0, 0, false) : T4) = (g, k, x, ok)) : g = false ∧ k = 0 ∧ x = 0 ∧ ok = false := by
  obtain ⟨h1, h2, h3, h4⟩ := T4.inj h
  exact ⟨h1.symm, h2.symm, h3.symm, h4.symm⟩

theorem divT_range {s : Bool} {a b : Nat} {like : Int} {g : Bool} {k : Nat} {x : Int} {ok : Bool} (hT : divT s a b like = (g, k, x, ok)) : k < E34 ∧ -6176 ≤ x ∧ x ≤ 6111 ∧ (k = 0 → g = false) := by
  rw [divT] at hT
  split at hT <;> exact fitT_range hT
theorem none_range {g : Bool} {k : Nat} {x : Int} {ok : Bool} (h : ((false, 0, 0, false) : T4) = (g, k, x, ok)) : k < E34 ∧ -6176 ≤ x ∧ x ≤ 6111 ∧ (k = 0 → g = false) := by
  obtain ⟨h1, h2, h3, h4⟩ := none4 h
  subst h1 h2 h3
  exact ⟨by decide, by decide, by decide, fun _ => rfl⟩
theorem qDivT_range {s : Bool} {a b : Nat} {like : Int} {g : Bool} {k : Nat} {x : Int} {ok : Bool} (hT : qDivT s a b like = (g, k, x, ok)) : k < E34 ∧ -6176 ≤ x ∧ x ≤ 6111 ∧ (k = 0 → g = false) := by
  rw [qDivT] at hT
  split at hT
  · exact none_range hT
  · exact divT_range hT
theorem rootT_range {a : Nat} {like : Int} {g : Bool} {k : Nat} {x : Int} {ok : Bool} (hT : rootT a like = (g, k, x, ok)) : k < E34 ∧ -6176 ≤ x ∧ x ≤ 6111 ∧ (k = 0 → g = false) := by
  rw [rootT] at hT
  split at hT <;> exact fitT_range hT
theorem powStep_range {a t : T4} {b : Bool} : (powStep a b t).2.1 < E34 := by
  rw [powStep]
  split
  · exact (mulT_range (g := (mulT (mulT t t) a).1) (k := (mulT (mulT t t) a).2.1) (x := (mulT (mulT t t) a).2.2.1) (ok := (mulT (mulT t t) a).2.2.2) rfl).1
  · exact (mulT_range (g := (mulT t t).1) (k := (mulT t t).2.1) (x := (mulT t t).2.2.1) (ok := (mulT t t).2.2.2) rfl).1
theorem powGo_range {a : T4} {m : Nat} : ∀ {j : Nat} {t : T4}, t.2.1 < E34 → (powGo a m j t).2.1 < E34
  | 0, t, h => h
  | j + 1, t, h => by
    rw [powGo]
    split
    · exact powGo_range powStep_range
    · exact powStep_range
theorem pow_range {a : T4} {n : Int} {g : Bool} {k : Nat} {x : Int} {ok : Bool} (hT : powT a n = (g, k, x, ok)) (_ : a.2.1 < E34) : k < E34 := by
  rw [powT] at hT
  split at hT
  · exact (none_range hT).1
  · split at hT
    · exact (none_range hT).1
    · split at hT
      · exact (qDivT_range hT).1
      · have := powGo_range (a := a) (m := n.natAbs) (j := 31) (t := (false, 1, 0, true)) (by decide)
        rw [hT] at this
        exact this
theorem sg_pos {a : Nat} {g : Bool} (h : ¬ (if a = 0 then 0 else if g = true then -1 else 1 : Int) < 0) : a = 0 ∨ g = false := by
  by_cases k : a = 0
  · exact .inl k
  · rw [if_neg k] at h
    cases g with
    | false => exact .inr rfl
    | true => exact absurd (by decide) h

set_option maxHeartbeats 1600000 in
theorem c_QuotDivs {g1 g2 : Bool} {n1 n2 : Nat} {e1 e2 : Int} (h1 : n1 < B128) (h2 : n2 < B128) : HasC Try.prog 3 [.agg [.v (.bool g1), .v (.int .u64 (hiW (n1))), .v (.int .u64 (loW (n1))), .v (.int .i64 e1)], .agg [.v (.bool g2), .v (.int .u64 (hiW (n2))), .v (.int .u64 (loW (n2))), .v (.int .i64 e2)]] (fun y => y = .v (.bool true)) := by
  refine HasC.of [] (fn := Try.f3) tyOk mixed (fun args w => Try.call3 args w) Try.func3 rfl (by kernel_rfl) (Nat.le_of_ble_eq_true rfl) (⟨_, rfl⟩) ?_
  refine vc_seqr rfl ?_
  refine vcI_q 3 (by kernel_rfl) ?_
  refine vcI_end 48 [(2, .p 2 0), (3, .p 3 0), (4, .d (.v (.bool false)))] [(2, [.v (.bool g1), .v (.int .u64 (hiW (n1))), .v (.int .u64 (loW (n1))), .v (.int .i64 e1)]), (3, [.v (.bool g2), .v (.int .u64 (hiW (n2))), .v (.int .u64 (loW (n2))), .v (.int .i64 e2)])] (by kernel_rfl) (by kernel_rfl) (by kernel_rfl) ?_
  refine vc_seq ?_
  refine vc_seqr rfl ?_
  refine vcI_call (f := 9) (ds := []) (dst := (some 11)) (by kernel_rfl) (c_awake03) ?_
  rintro _ rfl
  refine vcI_un (op := .not) (a := .bool true) (dst := (some 12)) (by kernel_rfl) ?_
  intro c12 hc12
  refine vcI_end 48 [(2, .p 2 0), (3, .p 3 0), (4, .d (.v (.bool false))), (12, .d (.v (.bool c12)))] [(2, [.v (.bool g1), .v (.int .u64 (hiW (n1))), .v (.int .u64 (loW (n1))), .v (.int .i64 e1)]), (3, [.v (.bool g2), .v (.int .u64 (hiW (n2))), .v (.int .u64 (loW (n2))), .v (.int .i64 e2)])] (by kernel_rfl) (by kernel_rfl) (by kernel_rfl) ?_
  obtain rfl : c12 = false := bff hc12 ((by simp))
  refine vc_condf (by kernel_rfl) ?_
  refine vc_skip ?_
  refine seq_n ?_
  refine vc_seqr rfl ?_
  refine vcI_q 1 (by kernel_rfl) ?_
  refine vcI_call (f := 10) (ds := [.agg [.v (.bool g1), .v (.int .u64 (hiW (n1))), .v (.int .u64 (loW (n1))), .v (.int .i64 e1)]]) (dst := (some 14)) (by kernel_rfl) (c_Make h1) ?_
  rintro _ ⟨s1, a, x1, rfl, ha, hx1, hy1, hs1⟩
  refine vcI_q 1 (by kernel_rfl) ?_
  refine vcI_call (f := 10) (ds := [.agg [.v (.bool g2), .v (.int .u64 (hiW (n2))), .v (.int .u64 (loW (n2))), .v (.int .i64 e2)]]) (dst := (some 16)) (by kernel_rfl) (c_Make h2) ?_
  rintro _ ⟨s2, b, x2, rfl, hb, hx2, hy2, hs2⟩
  have haB := Nat.lt_trans ha e34_lt; have hbB := Nat.lt_trans hb e34_lt
  refine vcI_q 4 (by kernel_rfl) ?_
  refine vcI_end 48 [(4, .d (.v (.bool false))), (5, .p 5 0), (6, .p 6 0), (12, .d (.v (.bool false)))] [(5, [.v (.bool s1), .v (.int .u64 (hiW (a))), .v (.int .u64 (loW (a))), .v (.int .i64 x1)]), (6, [.v (.bool s2), .v (.int .u64 (hiW (b))), .v (.int .u64 (loW (b))), .v (.int .i64 x2)])] (by kernel_rfl) (by kernel_rfl) (by kernel_rfl) ?_
  refine vc_seqr rfl ?_
  refine vcI_q 2 (by kernel_rfl) ?_
  refine vcI_call (f := 11) (ds := [.agg [.v (.bool s1), .v (.int .u64 (hiW (a))), .v (.int .u64 (loW (a))), .v (.int .i64 x1)], .agg [.v (.bool s2), .v (.int .u64 (hiW (b))), .v (.int .u64 (loW (b))), .v (.int .i64 x2)]]) (dst := (some 20)) (by kernel_rfl) (c_qDivT ha hb (by omega) (by omega) (by omega) (by omega)) ?_
  rintro _ ⟨g, k, x, ok, rfl, hT⟩
  refine vcI_q 6 (by kernel_rfl) ?_
  refine vcI_end 48 [(4, .d (.v (.bool false))), (5, .p 5 0), (6, .p 6 0), (7, .p 7 0), (8, .d (.v (.bool ok))), (12, .d (.v (.bool false)))] [(5, [.v (.bool s1), .v (.int .u64 (hiW (a))), .v (.int .u64 (loW (a))), .v (.int .i64 x1)]), (6, [.v (.bool s2), .v (.int .u64 (hiW (b))), .v (.int .u64 (loW (b))), .v (.int .i64 x2)]), (7, [.v (.bool g), .v (.int .u64 (hiW (k))), .v (.int .u64 (loW (k))), .v (.int .i64 x)])] (by kernel_rfl) (by kernel_rfl) (by kernel_rfl) ?_
  refine vc_seq ?_
  refine vc_seqr rfl ?_
  refine vcI_q 1 (by kernel_rfl) ?_
  refine vcI_call (f := 12) (ds := [.agg [.v (.bool s2), .v (.int .u64 (hiW (b))), .v (.int .u64 (loW (b))), .v (.int .i64 x2)]]) (dst := (some 24)) (by kernel_rfl) (c_Zero hbB) ?_
  rintro _ ⟨z, rfl, hz⟩
  refine vcI_end 48 [(4, .d (.v (.bool false))), (5, .p 5 0), (6, .p 6 0), (7, .p 7 0), (8, .d (.v (.bool ok))), (12, .d (.v (.bool false))), (24, .d (.v (.bool z)))] [(5, [.v (.bool s1), .v (.int .u64 (hiW (a))), .v (.int .u64 (loW (a))), .v (.int .i64 x1)]), (6, [.v (.bool s2), .v (.int .u64 (hiW (b))), .v (.int .u64 (loW (b))), .v (.int .i64 x2)]), (7, [.v (.bool g), .v (.int .u64 (hiW (k))), .v (.int .u64 (loW (k))), .v (.int .i64 x)])] (by kernel_rfl) (by kernel_rfl) (by kernel_rfl) ?_
  cases z
  · replace hz := bf hz
    rw [qDivT, if_neg hz] at hT
    refine vc_condf (by kernel_rfl) ?_
    refine vc_skip ?_
    refine seq_n ?_
    refine vc_seqr rfl ?_
    refine vcI_q 1 (by kernel_rfl) ?_
    refine vcI_call (f := 14) (ds := [.agg [.v (.bool s1), .v (.int .u64 (hiW (a))), .v (.int .u64 (loW (a))), .v (.int .i64 x1)]]) (dst := (some 34)) (by kernel_rfl) (c_Ref haB) ?_
    rintro _ rfl
    refine vcI_q 1 (by kernel_rfl) ?_
    refine vcI_call (f := 14) (ds := [.agg [.v (.bool s2), .v (.int .u64 (hiW (b))), .v (.int .u64 (loW (b))), .v (.int .i64 x2)]]) (dst := (some 36)) (by kernel_rfl) (c_Ref hbB) ?_
    rintro _ rfl
    refine vcI_call (f := 13) (ds := [.agg [.v (.bool s1), .sl (nd (a)) (dg (digs (a))), .v (.int .i64 x1)], .agg [.v (.bool s2), .sl (nd (b)) (dg (digs (b))), .v (.int .i64 x2)]]) (dst := (some 37)) (by kernel_rfl) (rfit_as (c_rDiv ha hb hz (by omega) (by omega) (by omega) (by omega)) hT) ?_
    rintro _ rfl
    refine vcI_q 6 (by kernel_rfl) ?_
    refine vcI_end 48 [(4, .d (.v (.bool false))), (5, .p 5 0), (6, .p 6 0), (7, .p 7 0), (8, .d (.v (.bool ok))), (9, .p 9 0), (10, .d (.v (.bool ok))), (12, .d (.v (.bool false))), (24, .d (.v (.bool false)))] [(5, [.v (.bool s1), .v (.int .u64 (hiW (a))), .v (.int .u64 (loW (a))), .v (.int .i64 x1)]), (6, [.v (.bool s2), .v (.int .u64 (hiW (b))), .v (.int .u64 (loW (b))), .v (.int .i64 x2)]), (7, [.v (.bool g), .v (.int .u64 (hiW (k))), .v (.int .u64 (loW (k))), .v (.int .i64 x)]), (9, [.v (.bool g), .sl (nd (k)) (dg (digs (k))), .v (.int .i64 x)])] (by kernel_rfl) (by kernel_rfl) (by kernel_rfl) ?_
    refine vc_seqr rfl ?_
    refine vcI_q 2 (by kernel_rfl) ?_
    refine vcI_bin (op := .eql) (t := 4) (a := .bool ok) (b := .bool ok) (dst := (some 42)) (by kernel_rfl) ?_
    intro c42 hc42
    refine vcI_q 1 (by kernel_rfl) ?_
    obtain rfl : c42 = true := hc42.2 (rfl)
    refine vcI_q 2 (by kernel_rfl) ?_
    have hk : k < E34 := (divT_range hT).1
    refine vcI_call (f := 15) (ds := [.agg [.v (.bool g), .v (.int .u64 (hiW (k))), .v (.int .u64 (loW (k))), .v (.int .i64 x)], .agg [.v (.bool g), .sl (nd (k)) (dg (digs (k))), .v (.int .i64 x)]]) (dst := (some 46)) (by kernel_rfl) (c_LikeT (Nat.lt_trans hk e34_lt)) ?_
    rintro _ rfl
    refine vcI_q 2 (by kernel_rfl) ?_
    refine vcI_end 48 [(4, .d (.v (.bool true))), (5, .p 5 0), (6, .p 6 0), (7, .p 7 0), (8, .d (.v (.bool ok))), (9, .p 9 0), (12, .d (.v (.bool false))), (24, .d (.v (.bool false)))] [(5, [.v (.bool s1), .v (.int .u64 (hiW (a))), .v (.int .u64 (loW (a))), .v (.int .i64 x1)]), (6, [.v (.bool s2), .v (.int .u64 (hiW (b))), .v (.int .u64 (loW (b))), .v (.int .i64 x2)]), (7, [.v (.bool g), .v (.int .u64 (hiW (k))), .v (.int .u64 (loW (k))), .v (.int .i64 x)]), (9, [.v (.bool g), .sl (nd (k)) (dg (digs (k))), .v (.int .i64 x)])] (by kernel_rfl) (by kernel_rfl) (by kernel_rfl) ?_
    refine vc_ret ?_
    refine ret_1 (d := .v (.bool true)) (by kernel_rfl) ?_
    rfl
  · replace hz := bt hz
    rw [qDivT, if_pos hz] at hT
    obtain ⟨q1, q2, q3, q4⟩ := none4 hT
    refine vc_condt (by kernel_rfl) ?_
    refine vc_seqr rfl ?_
    refine vcI_q 1 (by kernel_rfl) ?_
    refine vcI_un (op := .not) (a := .bool ok) (dst := (some 26)) (by kernel_rfl) ?_
    intro c26 hc26
    refine vcI_q 1 (by kernel_rfl) ?_
    obtain rfl : c26 = true := hc26.2 ((by rw [q4]))
    refine vcI_q 2 (by kernel_rfl) ?_
    refine vcI_bin (op := .eql) (t := 28) (a := .agg #[.bool g, .int .u64 (hiW (k)), .int .u64 (loW (k)), .int .i64 x]) (b := .agg #[.bool false, .int .u64 0, .int .u64 0, .int .i64 0]) (dst := (some 30)) (by kernel_rfl) ?_
    intro c30 hc30
    simp only [Array.mk.injEq, List.cons.injEq, Value.int.injEq, Value.bool.injEq, Value.string.injEq, true_and, and_true] at hc30
    refine vcI_q 2 (by kernel_rfl) ?_
    refine vcI_end 48 [(4, .d (.v (.bool c30))), (5, .p 5 0), (6, .p 6 0), (7, .p 7 0), (8, .d (.v (.bool ok))), (12, .d (.v (.bool false))), (24, .d (.v (.bool true)))] [(5, [.v (.bool s1), .v (.int .u64 (hiW (a))), .v (.int .u64 (loW (a))), .v (.int .i64 x1)]), (6, [.v (.bool s2), .v (.int .u64 (hiW (b))), .v (.int .u64 (loW (b))), .v (.int .i64 x2)]), (7, [.v (.bool g), .v (.int .u64 (hiW (k))), .v (.int .u64 (loW (k))), .v (.int .i64 x)])] (by kernel_rfl) (by kernel_rfl) (by kernel_rfl) ?_
    refine vc_ret ?_
    refine seq_r ?_
    refine ret_1 (d := .v (.bool c30)) (by kernel_rfl) ?_
    rw [hc30.2 (by rw [q1, q2, q3]; simp [hi0, lo0])]

set_option maxHeartbeats 1600000 in
theorem c_QuotPowers {g1 : Bool} {n1 : Nat} {e1 n : Int} (h1 : n1 < B128) (h2 : -9223372036854775808 ≤ n) (h3 : n ≤ 9223372036854775807) : HasC Try.prog 4 [.agg [.v (.bool g1), .v (.int .u64 (hiW (n1))), .v (.int .u64 (loW (n1))), .v (.int .i64 e1)], .v (.int .i64 n)] (fun y => y = .v (.bool true)) := by
  refine HasC.of [] (fn := Try.f4) tyOk mixed (fun args w => Try.call4 args w) Try.func4 rfl (by kernel_rfl) (Nat.le_of_ble_eq_true rfl) (⟨_, rfl⟩) ?_
  refine vc_seqr rfl ?_
  refine vcI_q 2 (by kernel_rfl) ?_
  refine vcI_end 35 [(1, .d (.v (.int .i64 n))), (2, .p 2 0), (4, .d (.v (.bool false)))] [(2, [.v (.bool g1), .v (.int .u64 (hiW (n1))), .v (.int .u64 (loW (n1))), .v (.int .i64 e1)])] (by kernel_rfl) (by kernel_rfl) (by kernel_rfl) ?_
  refine vc_seq ?_
  refine vc_seqr rfl ?_
  refine vcI_call (f := 9) (ds := []) (dst := (some 10)) (by kernel_rfl) (c_awake03) ?_
  rintro _ rfl
  refine vcI_un (op := .not) (a := .bool true) (dst := (some 11)) (by kernel_rfl) ?_
  intro c11 hc11
  refine vcI_end 35 [(1, .d (.v (.int .i64 n))), (2, .p 2 0), (4, .d (.v (.bool false))), (11, .d (.v (.bool c11)))] [(2, [.v (.bool g1), .v (.int .u64 (hiW (n1))), .v (.int .u64 (loW (n1))), .v (.int .i64 e1)])] (by kernel_rfl) (by kernel_rfl) (by kernel_rfl) ?_
  obtain rfl : c11 = false := bff hc11 ((by simp))
  refine vc_condf (by kernel_rfl) ?_
  refine vc_skip ?_
  refine seq_n ?_
  refine vc_seqr rfl ?_
  refine vcI_q 1 (by kernel_rfl) ?_
  refine vcI_call (f := 10) (ds := [.agg [.v (.bool g1), .v (.int .u64 (hiW (n1))), .v (.int .u64 (loW (n1))), .v (.int .i64 e1)]]) (dst := (some 13)) (by kernel_rfl) (c_Make h1) ?_
  rintro _ ⟨s1, a, x1, rfl, ha, hx1, hy1, hs1⟩
  have haB := Nat.lt_trans ha e34_lt
  refine vcI_q 2 (by kernel_rfl) ?_
  refine vcI_end 35 [(1, .d (.v (.int .i64 n))), (4, .d (.v (.bool false))), (5, .p 5 0), (11, .d (.v (.bool false)))] [(5, [.v (.bool s1), .v (.int .u64 (hiW (a))), .v (.int .u64 (loW (a))), .v (.int .i64 x1)])] (by kernel_rfl) (by kernel_rfl) (by kernel_rfl) ?_
  refine vc_seqr rfl ?_
  refine vcI_q 2 (by kernel_rfl) ?_
  refine vcI_call (f := 16) (ds := [.agg [.v (.bool s1), .v (.int .u64 (hiW (a))), .v (.int .u64 (loW (a))), .v (.int .i64 x1)], .v (.int .i64 n)]) (dst := (some 17)) (by kernel_rfl) (dfit_ex (c_qPower ha hx1 hy1 h2 h3)) ?_
  rintro _ ⟨g, k, x, ok, rfl, hT⟩
  refine vcI_q 6 (by kernel_rfl) ?_
  refine vcI_end 35 [(1, .d (.v (.int .i64 n))), (4, .d (.v (.bool false))), (5, .p 5 0), (6, .p 6 0), (7, .d (.v (.bool ok))), (11, .d (.v (.bool false)))] [(5, [.v (.bool s1), .v (.int .u64 (hiW (a))), .v (.int .u64 (loW (a))), .v (.int .i64 x1)]), (6, [.v (.bool g), .v (.int .u64 (hiW (k))), .v (.int .u64 (loW (k))), .v (.int .i64 x)])] (by kernel_rfl) (by kernel_rfl) (by kernel_rfl) ?_
  refine vc_seqr rfl ?_
  refine vcI_q 1 (by kernel_rfl) ?_
  refine vcI_call (f := 14) (ds := [.agg [.v (.bool s1), .v (.int .u64 (hiW (a))), .v (.int .u64 (loW (a))), .v (.int .i64 x1)]]) (dst := (some 22)) (by kernel_rfl) (c_Ref haB) ?_
  rintro _ rfl
  refine vcI_q 1 (by kernel_rfl) ?_
  refine vcI_call (f := 17) (ds := [.agg [.v (.bool s1), .sl (nd (a)) (dg (digs (a))), .v (.int .i64 x1)], .v (.int .i64 n)]) (dst := (some 24)) (by kernel_rfl) (rfit_as (c_rPower ha hx1 hy1 h2 h3) hT) ?_
  rintro _ rfl
  refine vcI_q 6 (by kernel_rfl) ?_
  refine vcI_end 35 [(1, .d (.v (.int .i64 n))), (4, .d (.v (.bool false))), (5, .p 5 0), (6, .p 6 0), (7, .d (.v (.bool ok))), (8, .p 8 0), (9, .d (.v (.bool ok))), (11, .d (.v (.bool false)))] [(5, [.v (.bool s1), .v (.int .u64 (hiW (a))), .v (.int .u64 (loW (a))), .v (.int .i64 x1)]), (6, [.v (.bool g), .v (.int .u64 (hiW (k))), .v (.int .u64 (loW (k))), .v (.int .i64 x)]), (8, [.v (.bool g), .sl (nd (k)) (dg (digs (k))), .v (.int .i64 x)])] (by kernel_rfl) (by kernel_rfl) (by kernel_rfl) ?_
  refine vc_seqr rfl ?_
  refine vcI_q 2 (by kernel_rfl) ?_
  refine vcI_bin (op := .eql) (t := 4) (a := .bool ok) (b := .bool ok) (dst := (some 29)) (by kernel_rfl) ?_
  intro c29 hc29
  refine vcI_q 1 (by kernel_rfl) ?_
  obtain rfl : c29 = true := hc29.2 (rfl)
  refine vcI_q 2 (by kernel_rfl) ?_
  have hk : k < E34 := pow_range hT ha
  refine vcI_call (f := 15) (ds := [.agg [.v (.bool g), .v (.int .u64 (hiW (k))), .v (.int .u64 (loW (k))), .v (.int .i64 x)], .agg [.v (.bool g), .sl (nd (k)) (dg (digs (k))), .v (.int .i64 x)]]) (dst := (some 33)) (by kernel_rfl) (c_LikeT (Nat.lt_trans hk e34_lt)) ?_
  rintro _ rfl
  refine vcI_q 2 (by kernel_rfl) ?_
  refine vcI_end 35 [(1, .d (.v (.int .i64 n))), (4, .d (.v (.bool true))), (5, .p 5 0), (6, .p 6 0), (8, .p 8 0), (11, .d (.v (.bool false)))] [(5, [.v (.bool s1), .v (.int .u64 (hiW (a))), .v (.int .u64 (loW (a))), .v (.int .i64 x1)]), (6, [.v (.bool g), .v (.int .u64 (hiW (k))), .v (.int .u64 (loW (k))), .v (.int .i64 x)]), (8, [.v (.bool g), .sl (nd (k)) (dg (digs (k))), .v (.int .i64 x)])] (by kernel_rfl) (by kernel_rfl) (by kernel_rfl) ?_
  refine vc_ret ?_
  refine ret_1 (d := .v (.bool true)) (by kernel_rfl) ?_
  rfl

set_option maxHeartbeats 1600000 in
theorem c_QuotRoots {g1 : Bool} {n1 : Nat} {e1 : Int} (h1 : n1 < B128) : HasC Try.prog 5 [.agg [.v (.bool g1), .v (.int .u64 (hiW (n1))), .v (.int .u64 (loW (n1))), .v (.int .i64 e1)]] (fun y => y = .v (.bool true)) := by
  refine HasC.of [] (fn := Try.f5) tyOk mixed (fun args w => Try.call5 args w) Try.func5 rfl (by kernel_rfl) (Nat.le_of_ble_eq_true rfl) (⟨_, rfl⟩) ?_
  refine vc_seqr rfl ?_
  refine vcI_q 2 (by kernel_rfl) ?_
  refine vcI_end 41 [(1, .p 1 0), (2, .d (.v (.bool false)))] [(1, [.v (.bool g1), .v (.int .u64 (hiW (n1))), .v (.int .u64 (loW (n1))), .v (.int .i64 e1)])] (by kernel_rfl) (by kernel_rfl) (by kernel_rfl) ?_
  refine vc_seq ?_
  refine vc_seqr rfl ?_
  refine vcI_call (f := 9) (ds := []) (dst := (some 8)) (by kernel_rfl) (c_awake03) ?_
  rintro _ rfl
  refine vcI_un (op := .not) (a := .bool true) (dst := (some 9)) (by kernel_rfl) ?_
  intro c9 hc9
  refine vcI_end 41 [(1, .p 1 0), (2, .d (.v (.bool false))), (9, .d (.v (.bool c9)))] [(1, [.v (.bool g1), .v (.int .u64 (hiW (n1))), .v (.int .u64 (loW (n1))), .v (.int .i64 e1)])] (by kernel_rfl) (by kernel_rfl) (by kernel_rfl) ?_
  obtain rfl : c9 = false := bff hc9 ((by simp))
  refine vc_condf (by kernel_rfl) ?_
  refine vc_skip ?_
  refine seq_n ?_
  refine vc_seqr rfl ?_
  refine vcI_q 1 (by kernel_rfl) ?_
  refine vcI_call (f := 10) (ds := [.agg [.v (.bool g1), .v (.int .u64 (hiW (n1))), .v (.int .u64 (loW (n1))), .v (.int .i64 e1)]]) (dst := (some 11)) (by kernel_rfl) (c_Make h1) ?_
  rintro _ ⟨s1, a, x1, rfl, ha, hx1, hy1, hs1⟩
  have haB := Nat.lt_trans ha e34_lt
  refine vcI_q 2 (by kernel_rfl) ?_
  refine vcI_end 41 [(2, .d (.v (.bool false))), (3, .p 3 0), (9, .d (.v (.bool false)))] [(3, [.v (.bool s1), .v (.int .u64 (hiW (a))), .v (.int .u64 (loW (a))), .v (.int .i64 x1)])] (by kernel_rfl) (by kernel_rfl) (by kernel_rfl) ?_
  refine vc_seqr rfl ?_
  refine vcI_q 1 (by kernel_rfl) ?_
  refine vcI_call (f := 18) (ds := [.agg [.v (.bool s1), .v (.int .u64 (hiW (a))), .v (.int .u64 (loW (a))), .v (.int .i64 x1)]]) (dst := (some 14)) (by kernel_rfl) (dfit_ex (c_qRoot ha (by omega) (by omega))) ?_
  rintro _ ⟨g, k, x, ok, rfl, hT⟩
  refine vcI_q 6 (by kernel_rfl) ?_
  refine vcI_end 41 [(2, .d (.v (.bool false))), (3, .p 3 0), (4, .p 4 0), (5, .d (.v (.bool ok))), (9, .d (.v (.bool false)))] [(3, [.v (.bool s1), .v (.int .u64 (hiW (a))), .v (.int .u64 (loW (a))), .v (.int .i64 x1)]), (4, [.v (.bool g), .v (.int .u64 (hiW (k))), .v (.int .u64 (loW (k))), .v (.int .i64 x)])] (by kernel_rfl) (by kernel_rfl) (by kernel_rfl) ?_
  refine vc_seq ?_
  refine vc_seqr rfl ?_
  refine vcI_q 1 (by kernel_rfl) ?_
  refine vcI_call (f := 19) (ds := [.agg [.v (.bool s1), .v (.int .u64 (hiW (a))), .v (.int .u64 (loW (a))), .v (.int .i64 x1)]]) (dst := (some 18)) (by kernel_rfl) (c_Sign haB) ?_
  rintro _ rfl
  refine vcI_bin (op := .lss) (t := 3) (a := .int .i64 ((if a = 0 then 0 else if s1 = true then -1 else 1 : Int))) (b := .int .i64 0) (dst := (some 19)) (by kernel_rfl) ?_
  intro c19 hc19
  refine vcI_end 41 [(2, .d (.v (.bool false))), (3, .p 3 0), (4, .p 4 0), (5, .d (.v (.bool ok))), (9, .d (.v (.bool false))), (19, .d (.v (.bool c19)))] [(3, [.v (.bool s1), .v (.int .u64 (hiW (a))), .v (.int .u64 (loW (a))), .v (.int .i64 x1)]), (4, [.v (.bool g), .v (.int .u64 (hiW (k))), .v (.int .u64 (loW (k))), .v (.int .i64 x)])] (by kernel_rfl) (by kernel_rfl) (by kernel_rfl) ?_
  cases c19
  · replace hc19 := bf hc19
    rw [qRoot_pos (sg_pos hc19)] at hT
    refine vc_condf (by kernel_rfl) ?_
    refine vc_skip ?_
    refine seq_n ?_
    refine vc_seqr rfl ?_
    refine vcI_q 1 (by kernel_rfl) ?_
    refine vcI_call (f := 14) (ds := [.agg [.v (.bool s1), .v (.int .u64 (hiW (a))), .v (.int .u64 (loW (a))), .v (.int .i64 x1)]]) (dst := (some 29)) (by kernel_rfl) (c_Ref haB) ?_
    rintro _ rfl
    refine vcI_call (f := 20) (ds := [.agg [.v (.bool s1), .sl (nd (a)) (dg (digs (a))), .v (.int .i64 x1)]]) (dst := (some 30)) (by kernel_rfl) (rfit_as (c_rRoot ha (by omega) (by omega)) hT) ?_
    rintro _ rfl
    refine vcI_q 6 (by kernel_rfl) ?_
    refine vcI_end 41 [(2, .d (.v (.bool false))), (3, .p 3 0), (4, .p 4 0), (5, .d (.v (.bool ok))), (6, .p 6 0), (7, .d (.v (.bool ok))), (9, .d (.v (.bool false))), (19, .d (.v (.bool false)))] [(3, [.v (.bool s1), .v (.int .u64 (hiW (a))), .v (.int .u64 (loW (a))), .v (.int .i64 x1)]), (4, [.v (.bool g), .v (.int .u64 (hiW (k))), .v (.int .u64 (loW (k))), .v (.int .i64 x)]), (6, [.v (.bool g), .sl (nd (k)) (dg (digs (k))), .v (.int .i64 x)])] (by kernel_rfl) (by kernel_rfl) (by kernel_rfl) ?_
    refine vc_seqr rfl ?_
    refine vcI_q 2 (by kernel_rfl) ?_
    refine vcI_bin (op := .eql) (t := 4) (a := .bool ok) (b := .bool ok) (dst := (some 35)) (by kernel_rfl) ?_
    intro c35 hc35
    refine vcI_q 1 (by kernel_rfl) ?_
    obtain rfl : c35 = true := hc35.2 (rfl)
    refine vcI_q 2 (by kernel_rfl) ?_
    have hk : k < E34 := (rootT_range hT).1
    refine vcI_call (f := 15) (ds := [.agg [.v (.bool g), .v (.int .u64 (hiW (k))), .v (.int .u64 (loW (k))), .v (.int .i64 x)], .agg [.v (.bool g), .sl (nd (k)) (dg (digs (k))), .v (.int .i64 x)]]) (dst := (some 39)) (by kernel_rfl) (c_LikeT (Nat.lt_trans hk e34_lt)) ?_
    rintro _ rfl
    refine vcI_q 2 (by kernel_rfl) ?_
    refine vcI_end 41 [(2, .d (.v (.bool true))), (3, .p 3 0), (4, .p 4 0), (5, .d (.v (.bool ok))), (6, .p 6 0), (9, .d (.v (.bool false))), (19, .d (.v (.bool false)))] [(3, [.v (.bool s1), .v (.int .u64 (hiW (a))), .v (.int .u64 (loW (a))), .v (.int .i64 x1)]), (4, [.v (.bool g), .v (.int .u64 (hiW (k))), .v (.int .u64 (loW (k))), .v (.int .i64 x)]), (6, [.v (.bool g), .sl (nd (k)) (dg (digs (k))), .v (.int .i64 x)])] (by kernel_rfl) (by kernel_rfl) (by kernel_rfl) ?_
    refine vc_ret ?_
    refine ret_1 (d := .v (.bool true)) (by kernel_rfl) ?_
    rfl
  · replace hc19 := bt hc19
    rw [qRootT, if_pos (sg_neg hc19)] at hT
    obtain ⟨q1, q2, q3, q4⟩ := none4 hT
    refine vc_condt (by kernel_rfl) ?_
    refine vc_seqr rfl ?_
    refine vcI_q 1 (by kernel_rfl) ?_
    refine vcI_un (op := .not) (a := .bool ok) (dst := (some 21)) (by kernel_rfl) ?_
    intro c21 hc21
    refine vcI_q 1 (by kernel_rfl) ?_
    obtain rfl : c21 = true := hc21.2 ((by rw [q4]))
    refine vcI_q 2 (by kernel_rfl) ?_
    refine vcI_bin (op := .eql) (t := 28) (a := .agg #[.bool g, .int .u64 (hiW (k)), .int .u64 (loW (k)), .int .i64 x]) (b := .agg #[.bool false, .int .u64 0, .int .u64 0, .int .i64 0]) (dst := (some 25)) (by kernel_rfl) ?_
    intro c25 hc25
    simp only [Array.mk.injEq, List.cons.injEq, Value.int.injEq, Value.bool.injEq, Value.string.injEq, true_and, and_true] at hc25
    refine vcI_q 2 (by kernel_rfl) ?_
    refine vcI_end 41 [(2, .d (.v (.bool c25))), (3, .p 3 0), (4, .p 4 0), (5, .d (.v (.bool ok))), (9, .d (.v (.bool false))), (19, .d (.v (.bool true)))] [(3, [.v (.bool s1), .v (.int .u64 (hiW (a))), .v (.int .u64 (loW (a))), .v (.int .i64 x1)]), (4, [.v (.bool g), .v (.int .u64 (hiW (k))), .v (.int .u64 (loW (k))), .v (.int .i64 x)])] (by kernel_rfl) (by kernel_rfl) (by kernel_rfl) ?_
    refine vc_ret ?_
    refine seq_r ?_
    refine ret_1 (d := .v (.bool c25)) (by kernel_rfl) ?_
    rw [hc25.2 (by rw [q1, q2, q3]; simp [hi0, lo0])]

end Go.Proofs.Ytdlfgliokkgceaa
