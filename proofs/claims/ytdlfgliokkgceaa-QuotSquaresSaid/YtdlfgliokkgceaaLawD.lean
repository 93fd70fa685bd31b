/-
  The laws' own functions: Make, Ref, Like.
-/
import Derived.Test.YtdlfgliokkgceaaFitC
import Derived.Test.YtdlfgliokkgceaaLawA
namespace Go.Proofs.Ytdlfgliokkgceaa
open Go.RowKit
set_option linter.unusedVariables false
set_option linter.unusedSimpArgs false
set_option maxRecDepth 100000

theorem cw_Div34 {n : Nat} (hn : n < B128) : HasC Try.prog 28 [.agg [.v (.int .u64 0), .v (.int .u64 0)], dU n, dU (10 ^ (34 : Int).toNat)] (fun y => y = .tup [dU (n / E34), dU (n % E34), .v (.bool true)]) := by
  have e : (10 : Nat) ^ (34 : Int).toNat = E34 := by decide
  rw [e, ← dU_0']
  have h := cw_Div_yes (h := 0) (l := n) (d := E34) (by decide) hn (by decide) (by decide)
  rw [Nat.zero_mul, Nat.zero_add] at h
  exact h
theorem tmod6000 {e z : Int} (h : z = e.tmod 6000) : -6176 ≤ z ∧ z ≤ 6111 := by
  have h1 := Int.tmod_lt_of_pos e (show (0 : Int) < 6000 by decide)
  have h2 := Int.lt_tmod_of_pos e (show (0 : Int) < 6000 by decide)
  omega

set_option maxHeartbeats 1600000 in
theorem c_Make {g : Bool} {n : Nat} {e : Int} (hn : n < B128) : HasC Try.prog 10 [.agg [.v (.bool g), .v (.int .u64 (hiW (n))), .v (.int .u64 (loW (n))), .v (.int .i64 e)]] (fun y => ∃ s c x, y = dDec s c x ∧ c < E34 ∧ -6176 ≤ x ∧ x ≤ 6111 ∧ (c = 0 → s = false)) := by
  refine HasC.of [] (fn := Try.f10) tyOk mixed (fun args w => Try.call10 args w) Try.func10 rfl (by kernel_rfl) (Nat.le_of_ble_eq_true rfl) (⟨_, false, 0, 0, rfl, by decide, by decide, by decide, fun _ => rfl⟩) ?_
  refine vc_seqr rfl ?_
  refine vcI_q 2 (by kernel_rfl) ?_
  refine vcI_end 42 [(1, .p 1 0), (2, .p 2 0)] [(1, [.v (.bool g), .v (.int .u64 (hiW (n))), .v (.int .u64 (loW (n))), .v (.int .i64 e)]), (2, [.v (.bool false), .v (.int .u64 0), .v (.int .u64 0), .v (.int .i64 0)])] (by kernel_rfl) (by kernel_rfl) (by kernel_rfl) ?_
  refine vc_seqr rfl ?_
  refine vcI_call (f := 27) (ds := [.v (.int .i64 34)]) (dst := (some 10)) (by kernel_rfl) (cw_Ten (k := 34) (by decide) (by decide)) ?_
  rintro _ rfl
  refine vcI_q 6 (by kernel_rfl) ?_
  refine vcI_end 42 [(1, .p 1 0), (2, .p 2 0), (3, .p 3 0)] [(1, [.v (.bool g), .v (.int .u64 (hiW (n))), .v (.int .u64 (loW (n))), .v (.int .i64 e)]), (2, [.v (.bool false), .v (.int .u64 0), .v (.int .u64 0), .v (.int .i64 0)]), (3, [.v (.int .u64 (hiW (10 ^ (34 : Int).toNat))), .v (.int .u64 (loW (10 ^ (34 : Int).toNat)))])] (by kernel_rfl) (by kernel_rfl) (by kernel_rfl) ?_
  refine vc_seqr rfl ?_
  refine vcI_q 4 (by kernel_rfl) ?_
  refine vcI_call (f := 28) (ds := [.agg [.v (.int .u64 0), .v (.int .u64 0)], .agg [.v (.int .u64 (hiW (n))), .v (.int .u64 (loW (n)))], .agg [.v (.int .u64 (hiW (10 ^ (34 : Int).toNat))), .v (.int .u64 (loW (10 ^ (34 : Int).toNat)))]]) (dst := (some 18)) (by kernel_rfl) (cw_Div34 hn) ?_
  rintro _ rfl
  have hc : n % E34 < E34 := Nat.mod_lt _ (by decide)
  have hcB := Nat.lt_trans hc e34_lt
  refine vcI_q 9 (by kernel_rfl) ?_
  refine vcI_end 42 [(1, .p 1 0), (2, .p 2 0), (3, .p 3 0), (6, .p 6 0)] [(1, [.v (.bool g), .v (.int .u64 (hiW (n))), .v (.int .u64 (loW (n))), .v (.int .i64 e)]), (2, [.v (.bool false), .v (.int .u64 0), .v (.int .u64 0), .v (.int .i64 0)]), (3, [.v (.int .u64 (hiW (10 ^ (34 : Int).toNat))), .v (.int .u64 (loW (10 ^ (34 : Int).toNat)))]), (6, [.v (.int .u64 (hiW (n % E34))), .v (.int .u64 (loW (n % E34)))])] (by kernel_rfl) (by kernel_rfl) (by kernel_rfl) ?_
  refine vc_seqr rfl ?_
  refine vcI_q 3 (by kernel_rfl) ?_
  refine vcI_end 42 [(1, .p 1 0), (2, .p 2 0), (3, .p 3 0), (6, .p 6 0), (8, .d (.v (.int .i64 e)))] [(1, [.v (.bool g), .v (.int .u64 (hiW (n))), .v (.int .u64 (loW (n))), .v (.int .i64 e)]), (2, [.v (.bool false), .v (.int .u64 0), .v (.int .u64 0), .v (.int .i64 0)]), (3, [.v (.int .u64 (hiW (10 ^ (34 : Int).toNat))), .v (.int .u64 (loW (10 ^ (34 : Int).toNat)))]), (6, [.v (.int .u64 (hiW (n % E34))), .v (.int .u64 (loW (n % E34)))])] (by kernel_rfl) (by kernel_rfl) (by kernel_rfl) ?_
  refine vc_mid 42 (fun (vcx : Int × Bool) => match vcx with | (x, vb29) => [(1, .p 1 0), (2, .p 2 0), (3, .p 3 0), (6, .p 6 0), (8, .d (.v (.int .i64 x))), (29, .d (.v (.bool vb29)))]) (fun (vcx : Int × Bool) => match vcx with | (x, vb29) => [(1, [.v (.bool g), .v (.int .u64 (hiW (n))), .v (.int .u64 (loW (n))), .v (.int .i64 e)]), (2, [.v (.bool false), .v (.int .u64 0), .v (.int .u64 0), .v (.int .i64 0)]), (3, [.v (.int .u64 (hiW (10 ^ (34 : Int).toNat))), .v (.int .u64 (loW (10 ^ (34 : Int).toNat)))]), (6, [.v (.int .u64 (hiW (n % E34))), .v (.int .u64 (loW (n % E34)))])]) (fun (vcx : Int × Bool) => match vcx with | (x, vb29) => -6176 ≤ x ∧ x ≤ 6111) ?_ ?_
  · rintro ⟨x, vb29⟩ hinv
    simp only at hinv
    refine vc_seqr rfl ?_
    refine vcI_q 3 (by kernel_rfl) ?_
    cases g
    · skip
      refine vcI_q 8 (by kernel_rfl) ?_
      refine vcI_end 42 [(1, .p 1 0), (2, .p 2 0), (3, .p 3 0), (6, .p 6 0), (8, .d (.v (.int .i64 x))), (29, .d (.v (.bool vb29)))] [(1, [.v (.bool false), .v (.int .u64 (hiW (n))), .v (.int .u64 (loW (n))), .v (.int .i64 e)]), (2, [.v (.bool false), .v (.int .u64 (hiW (n % E34))), .v (.int .u64 (loW (n % E34))), .v (.int .i64 x)]), (3, [.v (.int .u64 (hiW (10 ^ (34 : Int).toNat))), .v (.int .u64 (loW (10 ^ (34 : Int).toNat)))]), (6, [.v (.int .u64 (hiW (n % E34))), .v (.int .u64 (loW (n % E34)))])] (by kernel_rfl) (by kernel_rfl) (by kernel_rfl) ?_
      refine vc_ret ?_
      refine ret_1 (d := .agg [.v (.bool false), .v (.int .u64 (hiW (n % E34))), .v (.int .u64 (loW (n % E34))), .v (.int .i64 x)]) (by kernel_rfl) ?_
      exact ⟨_, _, _, rfl, hc, hinv.1, hinv.2, fun _ => rfl⟩
    · skip
      refine vcI_q 1 (by kernel_rfl) ?_
      refine vcI_call (f := 29) (ds := [.agg [.v (.int .u64 (hiW (n % E34))), .v (.int .u64 (loW (n % E34)))]]) (dst := (some 36)) (by kernel_rfl) (cw_Zero hcB) ?_
      rintro _ ⟨z, rfl, hz⟩
      refine vcI_un (op := .not) (a := .bool z) (dst := (some 37)) (by kernel_rfl) ?_
      intro c37 hc37
      refine vcI_q 5 (by kernel_rfl) ?_
      refine vcI_end 42 [(1, .p 1 0), (2, .p 2 0), (3, .p 3 0), (6, .p 6 0), (8, .d (.v (.int .i64 x))), (29, .d (.v (.bool vb29)))] [(1, [.v (.bool true), .v (.int .u64 (hiW (n))), .v (.int .u64 (loW (n))), .v (.int .i64 e)]), (2, [.v (.bool c37), .v (.int .u64 (hiW (n % E34))), .v (.int .u64 (loW (n % E34))), .v (.int .i64 x)]), (3, [.v (.int .u64 (hiW (10 ^ (34 : Int).toNat))), .v (.int .u64 (loW (10 ^ (34 : Int).toNat)))]), (6, [.v (.int .u64 (hiW (n % E34))), .v (.int .u64 (loW (n % E34)))])] (by kernel_rfl) (by kernel_rfl) (by kernel_rfl) ?_
      refine vc_ret ?_
      refine ret_1 (d := .agg [.v (.bool c37), .v (.int .u64 (hiW (n % E34))), .v (.int .u64 (loW (n % E34))), .v (.int .i64 x)]) (by kernel_rfl) ?_
      exact ⟨_, _, _, rfl, hc, hinv.1, hinv.2, fun h => by rw [hz.2 h] at hc37; exact bff hc37 (by simp)⟩
  intro hmid
  refine vc_seqr rfl ?_
  refine vcI_q 1 (by kernel_rfl) ?_
  refine vcI_bin (op := .lss) (t := 3) (a := .int .i64 e) (b := .int .i64 (-6176)) (dst := (some 25)) (by kernel_rfl) ?_
  intro c25 hc25
  refine vcI_q 1 (by kernel_rfl) ?_
  cases c25
  · replace hc25 := bf hc25
    refine vcI_q 1 (by kernel_rfl) ?_
    refine vcI_bin (op := .gtr) (t := 3) (a := .int .i64 e) (b := .int .i64 6111) (dst := (some 28)) (by kernel_rfl) ?_
    intro c28 hc28
    refine vcI_q 1 (by kernel_rfl) ?_
    refine vcI_end 42 [(1, .p 1 0), (2, .p 2 0), (3, .p 3 0), (6, .p 6 0), (8, .d (.v (.int .i64 e))), (29, .d (.v (.bool c28)))] [(1, [.v (.bool g), .v (.int .u64 (hiW (n))), .v (.int .u64 (loW (n))), .v (.int .i64 e)]), (2, [.v (.bool false), .v (.int .u64 0), .v (.int .u64 0), .v (.int .i64 0)]), (3, [.v (.int .u64 (hiW (10 ^ (34 : Int).toNat))), .v (.int .u64 (loW (10 ^ (34 : Int).toNat)))]), (6, [.v (.int .u64 (hiW (n % E34))), .v (.int .u64 (loW (n % E34)))])] (by kernel_rfl) (by kernel_rfl) (by kernel_rfl) ?_
    cases c28
    · replace hc28 := bf hc28
      refine vc_condf (by kernel_rfl) ?_
      refine vc_skip ?_
      refine mid_n hmid (e, false) (by omega) (by kernel_rfl)
    · replace hc28 := bt hc28
      refine vc_condt (by kernel_rfl) ?_
      refine vc_reg rfl ?_
      refine vcI_q 1 (by kernel_rfl) ?_
      refine vcI_bin (op := .rem) (t := 3) (a := .int .i64 e) (b := .int .i64 6000) (dst := (some 31)) (by kernel_rfl) ?_
      refine And.intro (by omega) ?_
      intro z31 hz31
      have h31 := tmod6000 hz31
      refine vcI_q 1 (by kernel_rfl) ?_
      refine vcI_end 42 [(1, .p 1 0), (2, .p 2 0), (3, .p 3 0), (6, .p 6 0), (8, .d (.v (.int .i64 z31))), (29, .d (.v (.bool true)))] [(1, [.v (.bool g), .v (.int .u64 (hiW (n))), .v (.int .u64 (loW (n))), .v (.int .i64 e)]), (2, [.v (.bool false), .v (.int .u64 0), .v (.int .u64 0), .v (.int .i64 0)]), (3, [.v (.int .u64 (hiW (10 ^ (34 : Int).toNat))), .v (.int .u64 (loW (10 ^ (34 : Int).toNat)))]), (6, [.v (.int .u64 (hiW (n % E34))), .v (.int .u64 (loW (n % E34)))])] (by kernel_rfl) (by kernel_rfl) (by kernel_rfl) ?_
      refine mid_n hmid (z31, true) (h31) (by kernel_rfl)
  · replace hc25 := bt hc25
    refine vcI_q 3 (by kernel_rfl) ?_
    refine vcI_end 42 [(1, .p 1 0), (2, .p 2 0), (3, .p 3 0), (6, .p 6 0), (8, .d (.v (.int .i64 e))), (29, .d (.v (.bool true)))] [(1, [.v (.bool g), .v (.int .u64 (hiW (n))), .v (.int .u64 (loW (n))), .v (.int .i64 e)]), (2, [.v (.bool false), .v (.int .u64 0), .v (.int .u64 0), .v (.int .i64 0)]), (3, [.v (.int .u64 (hiW (10 ^ (34 : Int).toNat))), .v (.int .u64 (loW (10 ^ (34 : Int).toNat)))]), (6, [.v (.int .u64 (hiW (n % E34))), .v (.int .u64 (loW (n % E34)))])] (by kernel_rfl) (by kernel_rfl) (by kernel_rfl) ?_
    refine vc_condt (by kernel_rfl) ?_
    refine vc_reg rfl ?_
    refine vcI_q 1 (by kernel_rfl) ?_
    refine vcI_bin (op := .rem) (t := 3) (a := .int .i64 e) (b := .int .i64 6000) (dst := (some 31)) (by kernel_rfl) ?_
    refine And.intro (by omega) ?_
    intro z31 hz31
    have h31 := tmod6000 hz31
    refine vcI_q 1 (by kernel_rfl) ?_
    refine vcI_end 42 [(1, .p 1 0), (2, .p 2 0), (3, .p 3 0), (6, .p 6 0), (8, .d (.v (.int .i64 z31))), (29, .d (.v (.bool true)))] [(1, [.v (.bool g), .v (.int .u64 (hiW (n))), .v (.int .u64 (loW (n))), .v (.int .i64 e)]), (2, [.v (.bool false), .v (.int .u64 0), .v (.int .u64 0), .v (.int .i64 0)]), (3, [.v (.int .u64 (hiW (10 ^ (34 : Int).toNat))), .v (.int .u64 (loW (10 ^ (34 : Int).toNat)))]), (6, [.v (.int .u64 (hiW (n % E34))), .v (.int .u64 (loW (n % E34)))])] (by kernel_rfl) (by kernel_rfl) (by kernel_rfl) ?_
    refine mid_n hmid (z31, true) (h31) (by kernel_rfl)

theorem c_Ref {g : Bool} {n : Nat} {e : Int} (hn : n < B128) : HasC Try.prog 14 [.agg [.v (.bool g), .v (.int .u64 (hiW (n))), .v (.int .u64 (loW (n))), .v (.int .i64 e)]] (fun y => y = dRD g n e) := by
  refine HasC.of [] (fn := Try.f14) tyOk mixed (fun args w => Try.call14 args w) Try.func14 rfl (by kernel_rfl) (Nat.le_of_ble_eq_true rfl) (⟨_, rfl⟩) ?_
  refine vc_seqr rfl ?_
  refine vcI_q 2 (by kernel_rfl) ?_
  refine vcI_end 11 [(1, .p 1 0), (2, .p 2 0)] [(1, [.v (.bool g), .v (.int .u64 (hiW (n))), .v (.int .u64 (loW (n))), .v (.int .i64 e)]), (2, [.v (.bool false), .sl 0 [], .v (.int .i64 0)])] (by kernel_rfl) (by kernel_rfl) (by kernel_rfl) ?_
  refine vc_seqr rfl ?_
  refine vcI_q 4 (by kernel_rfl) ?_
  refine vcI_call (f := 38) (ds := [.agg [.v (.int .u64 (hiW (n))), .v (.int .u64 (loW (n)))]]) (dst := (some 7)) (by kernel_rfl) (c_N hn) ?_
  rintro _ rfl
  refine vcI_q 4 (by kernel_rfl) ?_
  refine vcI_end 11 [(2, .p 2 0)] [(2, [.v (.bool g), .sl (nd (n)) (dg (digs (n))), .v (.int .i64 e)])] (by kernel_rfl) (by kernel_rfl) (by kernel_rfl) ?_
  refine vc_ret ?_
  refine ret_1 (d := .agg [.v (.bool g), .sl (nd (n)) (dg (digs (n))), .v (.int .i64 e)]) (by kernel_rfl) ?_
  rfl

theorem c_LikeT {g : Bool} {n : Nat} {e : Int} (hn : n < B128) : HasC Try.prog 15 [.agg [.v (.bool g), .v (.int .u64 (hiW (n))), .v (.int .u64 (loW (n))), .v (.int .i64 e)], .agg [.v (.bool g), .sl (nd (n)) (dg (digs (n))), .v (.int .i64 e)]] (fun y => y = .v (.bool true)) := by
  refine HasC.of [] (fn := Try.f15) tyOk mixed (fun args w => Try.call15 args w) Try.func15 rfl (by kernel_rfl) (Nat.le_of_ble_eq_true rfl) (⟨_, rfl⟩) ?_
  refine vc_seqr rfl ?_
  refine vcI_q 3 (by kernel_rfl) ?_
  refine vcI_end 26 [(2, .p 2 0), (3, .p 3 0), (4, .d (.v (.bool false)))] [(2, [.v (.bool g), .v (.int .u64 (hiW (n))), .v (.int .u64 (loW (n))), .v (.int .i64 e)]), (3, [.v (.bool g), .sl (nd (n)) (dg (digs (n))), .v (.int .i64 e)])] (by kernel_rfl) (by kernel_rfl) (by kernel_rfl) ?_
  refine vc_seqr rfl ?_
  refine vcI_q 4 (by kernel_rfl) ?_
  refine vcI_bin (op := .eql) (t := 4) (a := .bool g) (b := .bool g) (dst := (some 9)) (by kernel_rfl) ?_
  intro c9 hc9
  refine vcI_q 1 (by kernel_rfl) ?_
  obtain rfl : c9 = true := hc9.2 (rfl)
  refine vcI_q 4 (by kernel_rfl) ?_
  refine vcI_bin (op := .eql) (t := 3) (a := .int .i64 e) (b := .int .i64 e) (dst := (some 15)) (by kernel_rfl) ?_
  intro c15 hc15
  refine vcI_q 2 (by kernel_rfl) ?_
  obtain rfl : c15 = true := hc15.2 (rfl)
  refine vcI_q 2 (by kernel_rfl) ?_
  refine vcI_call (f := 38) (ds := [.agg [.v (.int .u64 (hiW (n))), .v (.int .u64 (loW (n)))]]) (dst := (some 20)) (by kernel_rfl) (c_N hn) ?_
  rintro _ rfl
  have hnn := nd_U hn
  refine vcI_q 2 (by kernel_rfl) ?_
  refine vcI_call (f := 39) (ds := [.sl (nd (n)) (dg (digs (n))), .sl (nd (n)) (dg (digs (n)))]) (dst := (some 23)) (by kernel_rfl) (c_Cmp (a := n) (b := n) (by omega) (by omega)) ?_
  rintro _ rfl
  refine vcI_bin (op := .eql) (t := 3) (a := .int .i64 (cmpN n n)) (b := .int .i64 0) (dst := (some 24)) (by kernel_rfl) ?_
  intro c24 hc24
  refine vcI_q 2 (by kernel_rfl) ?_
  refine vcI_end 26 [(4, .d (.v (.bool c24)))] [] (by kernel_rfl) (by kernel_rfl) (by kernel_rfl) ?_
  refine vc_ret ?_
  refine ret_1 (d := .v (.bool c24)) (by kernel_rfl) ?_
  rw [hc24.2 (cmpN_eq n)]

theorem c_Of03 {n : Nat} {z e : Int} (hz : z = (n : Int)) (hn : n < 18446744073709551616) : HasC Try.prog 22 [.v (.int .u64 z), .v (.int .i64 e)] (fun y => y = dDec false n e) := by
  refine HasC.of [] (fn := Try.f22) tyOk mixed (fun args w => Try.call22 args w) Try.func22 rfl (by kernel_rfl) (Nat.le_of_ble_eq_true rfl) (⟨_, rfl⟩) ?_
  refine vc_seqr rfl ?_
  refine vcI_q 1 (by kernel_rfl) ?_
  refine vcI_end 9 [(0, .d (.v (.int .u64 z))), (1, .d (.v (.int .i64 e))), (4, .p 4 0)] [(4, [.v (.bool false), .v (.int .u64 0), .v (.int .u64 0), .v (.int .i64 0)])] (by kernel_rfl) (by kernel_rfl) (by kernel_rfl) ?_
  refine vc_seqr rfl ?_
  refine vcI_q 1 (by kernel_rfl) ?_
  refine vcI_call (f := 21) (ds := [.v (.int .u64 z)]) (dst := (some 6)) (by kernel_rfl) (cw_OfI hz hn) ?_
  rintro _ rfl
  refine vcI_q 3 (by kernel_rfl) ?_
  refine vcI_end 9 [(4, .p 4 0)] [(4, [.v (.bool false), .v (.int .u64 (hiW (n))), .v (.int .u64 (loW (n))), .v (.int .i64 e)])] (by kernel_rfl) (by kernel_rfl) (by kernel_rfl) ?_
  refine vc_ret ?_
  refine ret_1 (d := .agg [.v (.bool false), .v (.int .u64 (hiW (n))), .v (.int .u64 (loW (n))), .v (.int .i64 e)]) (by kernel_rfl) ?_
  rfl

theorem T4.inj {a a' : Bool} {b b' : Nat} {c c' : Int} {d d' : Bool} (h : ((a, b, c, d) : T4) = (a', b', c', d')) : a = a' ∧ b = b' ∧ c = c' ∧ d = d' := by
  simp only [Prod.mk.injEq] at h
  exact h
theorem fit_as {P : Program} {f : FuncId} {ds : List DV} {t : T4} {g : Bool} {k : Nat} {x : Int} {ok : Bool} (h : HasC P f ds (fun y => y = dFit t)) (ht : t = (g, k, x, ok)) : HasC P f ds (fun y => y = .tup [dDec g k x, .v (.bool ok)]) := by
  subst ht
  exact h
theorem rfit_as {P : Program} {f : FuncId} {ds : List DV} {t : T4} {g : Bool} {k : Nat} {x : Int} {ok : Bool} (h : HasC P f ds (fun y => y = dRFit t)) (ht : t = (g, k, x, ok)) : HasC P f ds (fun y => y = .tup [dRD g k x, .v (.bool ok)]) := by
  subst ht
  exact h
theorem rroot_225 : qRootT false 225 (-2) = (false, 15, -1, true) := by
  rw [qRoot_pos (.inr rfl), show (225 : Nat) = 15 * 15 from rfl, show (-2 : Int) = 2 * (-1) from rfl]
  exact root_exact (p := 15) (y := -1) (by decide) (by decide) (by decide) (by decide)
theorem rroot_100 : qRootT false 100 0 = (false, 10, 0, true) := by
  rw [qRoot_pos (.inr rfl), show (100 : Nat) = 10 * 10 from rfl]
  exact root_exact (p := 10) (y := 0) (by decide) (by decide) (by decide) (by decide)
theorem nd_le_n {n k : Nat} (h : n < 10 ^ k) (hk : k ≤ 34) : nd n ≤ 34 := Nat.le_trans (nd_le k n h) hk
theorem div_60_2 : qDivT (false != false) 60 2 (-1 - 0) = (false, 30, -1, true) := qdiv_exact (j := 0) (c := 30) (by decide) (by decide) (by decide) (Nat.zero_le _) (.inl rfl) (by decide) (by decide) (by decide)
theorem div_1_8 : qDivT (false != false) 1 8 (0 - 0) = (false, 125, -3, true) := qdiv_exact (j := 3) (c := 125) (by decide) (by decide) (by decide) (by unfold divN; rw [nd_1 (by decide) (by decide), nd_1 (by decide) (by decide)]; decide) (.inr (by decide)) (by decide) (by decide) (by decide)

set_option maxHeartbeats 1600000 in
theorem c_awake03  : HasC Try.prog 9 [] (fun y => y = .v (.bool true)) := by
  refine HasC.of [] (fn := Try.f9) tyOk mixed (fun args w => Try.call9 args w) Try.func9 rfl (by kernel_rfl) (Nat.le_of_ble_eq_true rfl) (⟨_, rfl⟩) ?_
  refine vc_seqr rfl ?_
  refine vcI_q 1 (by kernel_rfl) ?_
  refine vcI_end 92 [(0, .d (.v (.bool false)))] [] (by kernel_rfl) (by kernel_rfl) (by kernel_rfl) ?_
  refine vc_seqr rfl ?_
  refine vcI_call (f := 22) (ds := [.v (.int .u64 60), .v (.int .i64 (-1))]) (dst := (some 14)) (by kernel_rfl) (c_Of03 (n := 60) rfl (by decide)) ?_
  rintro _ rfl
  refine vcI_call (f := 22) (ds := [.v (.int .u64 2), .v (.int .i64 0)]) (dst := (some 15)) (by kernel_rfl) (c_Of03 (n := 2) rfl (by decide)) ?_
  rintro _ rfl
  refine vcI_call (f := 11) (ds := [.agg [.v (.bool false), .v (.int .u64 (hiW (60))), .v (.int .u64 (loW (60))), .v (.int .i64 (-1))], .agg [.v (.bool false), .v (.int .u64 (hiW (2))), .v (.int .u64 (loW (2))), .v (.int .i64 0)]]) (dst := (some 16)) (by kernel_rfl) (fit_as (c_qDiv (by decide) (by decide) (by decide) (by decide) (by decide) (by decide)) div_60_2) ?_
  rintro _ rfl
  refine vcI_q 6 (by kernel_rfl) ?_
  refine vcI_end 92 [(0, .d (.v (.bool false))), (1, .p 1 0), (2, .d (.v (.bool true)))] [(1, [.v (.bool false), .v (.int .u64 (hiW (30))), .v (.int .u64 (loW (30))), .v (.int .i64 (-1))])] (by kernel_rfl) (by kernel_rfl) (by kernel_rfl) ?_
  refine vc_seqr rfl ?_
  refine vcI_call (f := 22) (ds := [.v (.int .u64 1), .v (.int .i64 0)]) (dst := (some 20)) (by kernel_rfl) (c_Of03 (n := 1) rfl (by decide)) ?_
  rintro _ rfl
  refine vcI_call (f := 22) (ds := [.v (.int .u64 8), .v (.int .i64 0)]) (dst := (some 21)) (by kernel_rfl) (c_Of03 (n := 8) rfl (by decide)) ?_
  rintro _ rfl
  refine vcI_call (f := 11) (ds := [.agg [.v (.bool false), .v (.int .u64 (hiW (1))), .v (.int .u64 (loW (1))), .v (.int .i64 0)], .agg [.v (.bool false), .v (.int .u64 (hiW (8))), .v (.int .u64 (loW (8))), .v (.int .i64 0)]]) (dst := (some 22)) (by kernel_rfl) (fit_as (c_qDiv (by decide) (by decide) (by decide) (by decide) (by decide) (by decide)) div_1_8) ?_
  rintro _ rfl
  refine vcI_q 6 (by kernel_rfl) ?_
  refine vcI_end 92 [(0, .d (.v (.bool false))), (1, .p 1 0), (2, .d (.v (.bool true))), (3, .p 3 0), (4, .d (.v (.bool true)))] [(1, [.v (.bool false), .v (.int .u64 (hiW (30))), .v (.int .u64 (loW (30))), .v (.int .i64 (-1))]), (3, [.v (.bool false), .v (.int .u64 (hiW (125))), .v (.int .u64 (loW (125))), .v (.int .i64 (-3))])] (by kernel_rfl) (by kernel_rfl) (by kernel_rfl) ?_
  refine vc_seqr rfl ?_
  refine vcI_call (f := 22) (ds := [.v (.int .u64 2), .v (.int .i64 0)]) (dst := (some 26)) (by kernel_rfl) (c_Of03 (n := 2) rfl (by decide)) ?_
  rintro _ rfl
  refine vcI_call (f := 16) (ds := [.agg [.v (.bool false), .v (.int .u64 (hiW (2))), .v (.int .u64 (loW (2))), .v (.int .i64 0)], .v (.int .i64 (-2))]) (dst := (some 27)) (by kernel_rfl) (fit_as (c_qPower (by decide) (by decide) (by decide) (by decide) (by decide)) pow_m2) ?_
  rintro _ rfl
  refine vcI_q 6 (by kernel_rfl) ?_
  refine vcI_end 92 [(0, .d (.v (.bool false))), (1, .p 1 0), (2, .d (.v (.bool true))), (3, .p 3 0), (4, .d (.v (.bool true))), (5, .p 5 0), (6, .d (.v (.bool true)))] [(1, [.v (.bool false), .v (.int .u64 (hiW (30))), .v (.int .u64 (loW (30))), .v (.int .i64 (-1))]), (3, [.v (.bool false), .v (.int .u64 (hiW (125))), .v (.int .u64 (loW (125))), .v (.int .i64 (-3))]), (5, [.v (.bool false), .v (.int .u64 (hiW (25))), .v (.int .u64 (loW (25))), .v (.int .i64 (-2))])] (by kernel_rfl) (by kernel_rfl) (by kernel_rfl) ?_
  refine vc_seqr rfl ?_
  refine vcI_call (f := 22) (ds := [.v (.int .u64 225), .v (.int .i64 (-2))]) (dst := (some 31)) (by kernel_rfl) (c_Of03 (n := 225) rfl (by decide)) ?_
  rintro _ rfl
  refine vcI_call (f := 18) (ds := [.agg [.v (.bool false), .v (.int .u64 (hiW (225))), .v (.int .u64 (loW (225))), .v (.int .i64 (-2))]]) (dst := (some 32)) (by kernel_rfl) (fit_as (c_qRoot (by decide) (by decide) (by decide)) rroot_225) ?_
  rintro _ rfl
  refine vcI_q 6 (by kernel_rfl) ?_
  refine vcI_end 92 [(0, .d (.v (.bool false))), (1, .p 1 0), (2, .d (.v (.bool true))), (3, .p 3 0), (4, .d (.v (.bool true))), (5, .p 5 0), (6, .d (.v (.bool true))), (7, .p 7 0), (8, .d (.v (.bool true)))] [(1, [.v (.bool false), .v (.int .u64 (hiW (30))), .v (.int .u64 (loW (30))), .v (.int .i64 (-1))]), (3, [.v (.bool false), .v (.int .u64 (hiW (125))), .v (.int .u64 (loW (125))), .v (.int .i64 (-3))]), (5, [.v (.bool false), .v (.int .u64 (hiW (25))), .v (.int .u64 (loW (25))), .v (.int .i64 (-2))]), (7, [.v (.bool false), .v (.int .u64 (hiW (15))), .v (.int .u64 (loW (15))), .v (.int .i64 (-1))])] (by kernel_rfl) (by kernel_rfl) (by kernel_rfl) ?_
  refine vc_seqr rfl ?_
  refine vcI_call (f := 22) (ds := [.v (.int .u64 100), .v (.int .i64 0)]) (dst := (some 36)) (by kernel_rfl) (c_Of03 (n := 100) rfl (by decide)) ?_
  rintro _ rfl
  refine vcI_call (f := 18) (ds := [.agg [.v (.bool false), .v (.int .u64 (hiW (100))), .v (.int .u64 (loW (100))), .v (.int .i64 0)]]) (dst := (some 37)) (by kernel_rfl) (fit_as (c_qRoot (by decide) (by decide) (by decide)) rroot_100) ?_
  rintro _ rfl
  refine vcI_q 6 (by kernel_rfl) ?_
  refine vcI_end 92 [(0, .d (.v (.bool false))), (1, .p 1 0), (2, .d (.v (.bool true))), (3, .p 3 0), (4, .d (.v (.bool true))), (5, .p 5 0), (6, .d (.v (.bool true))), (7, .p 7 0), (8, .d (.v (.bool true))), (9, .p 9 0), (10, .d (.v (.bool true)))] [(1, [.v (.bool false), .v (.int .u64 (hiW (30))), .v (.int .u64 (loW (30))), .v (.int .i64 (-1))]), (3, [.v (.bool false), .v (.int .u64 (hiW (125))), .v (.int .u64 (loW (125))), .v (.int .i64 (-3))]), (5, [.v (.bool false), .v (.int .u64 (hiW (25))), .v (.int .u64 (loW (25))), .v (.int .i64 (-2))]), (7, [.v (.bool false), .v (.int .u64 (hiW (15))), .v (.int .u64 (loW (15))), .v (.int .i64 (-1))]), (9, [.v (.bool false), .v (.int .u64 (hiW (10))), .v (.int .u64 (loW (10))), .v (.int .i64 0)])] (by kernel_rfl) (by kernel_rfl) (by kernel_rfl) ?_
  refine vc_seqr rfl ?_
  refine vcI_call (f := 22) (ds := [.v (.int .u64 1), .v (.int .i64 0)]) (dst := (some 41)) (by kernel_rfl) (c_Of03 (n := 1) rfl (by decide)) ?_
  rintro _ rfl
  refine vcI_call (f := 22) (ds := [.v (.int .u64 3), .v (.int .i64 0)]) (dst := (some 42)) (by kernel_rfl) (c_Of03 (n := 3) rfl (by decide)) ?_
  rintro _ rfl
  obtain ⟨c, hc3⟩ := div_third
  refine vcI_call (f := 11) (ds := [.agg [.v (.bool false), .v (.int .u64 (hiW (1))), .v (.int .u64 (loW (1))), .v (.int .i64 0)], .agg [.v (.bool false), .v (.int .u64 (hiW (3))), .v (.int .u64 (loW (3))), .v (.int .i64 0)]]) (dst := (some 43)) (by kernel_rfl) (fit_as (c_qDiv (by decide) (by decide) (by decide) (by decide) (by decide) (by decide)) hc3) ?_
  rintro _ rfl
  refine vcI_q 6 (by kernel_rfl) ?_
  refine vcI_end 92 [(0, .d (.v (.bool false))), (1, .p 1 0), (2, .d (.v (.bool true))), (3, .p 3 0), (4, .d (.v (.bool true))), (5, .p 5 0), (6, .d (.v (.bool true))), (7, .p 7 0), (8, .d (.v (.bool true))), (9, .p 9 0), (10, .d (.v (.bool true))), (11, .p 11 0), (12, .d (.v (.bool true)))] [(1, [.v (.bool false), .v (.int .u64 (hiW (30))), .v (.int .u64 (loW (30))), .v (.int .i64 (-1))]), (3, [.v (.bool false), .v (.int .u64 (hiW (125))), .v (.int .u64 (loW (125))), .v (.int .i64 (-3))]), (5, [.v (.bool false), .v (.int .u64 (hiW (25))), .v (.int .u64 (loW (25))), .v (.int .i64 (-2))]), (7, [.v (.bool false), .v (.int .u64 (hiW (15))), .v (.int .u64 (loW (15))), .v (.int .i64 (-1))]), (9, [.v (.bool false), .v (.int .u64 (hiW (10))), .v (.int .u64 (loW (10))), .v (.int .i64 0)]), (11, [.v (.bool false), .v (.int .u64 (hiW (c))), .v (.int .u64 (loW (c))), .v (.int .i64 (-34))])] (by kernel_rfl) (by kernel_rfl) (by kernel_rfl) ?_
  refine vc_seqr rfl ?_
  refine vcI_q 3 (by kernel_rfl) ?_
  refine vcI_call (f := 22) (ds := [.v (.int .u64 30), .v (.int .i64 (-1))]) (dst := (some 49)) (by kernel_rfl) (c_Of03 (n := 30) rfl (by decide)) ?_
  rintro _ rfl
  refine vcI_bin (op := .eql) (t := 28) (a := .agg #[.bool false, .int .u64 (hiW (30)), .int .u64 (loW (30)), .int .i64 (-1)]) (b := .agg #[.bool false, .int .u64 (hiW (30)), .int .u64 (loW (30)), .int .i64 (-1)]) (dst := (some 50)) (by kernel_rfl) ?_
  intro c50 hc50
  simp only [Array.mk.injEq, List.cons.injEq, Value.int.injEq, Value.bool.injEq, Value.string.injEq, true_and, and_true] at hc50
  refine vcI_q 2 (by kernel_rfl) ?_
  obtain rfl : c50 = true := hc50.2 (trivial)
  refine vcI_q 4 (by kernel_rfl) ?_
  refine vcI_call (f := 22) (ds := [.v (.int .u64 125), .v (.int .i64 (-3))]) (dst := (some 57)) (by kernel_rfl) (c_Of03 (n := 125) rfl (by decide)) ?_
  rintro _ rfl
  refine vcI_bin (op := .eql) (t := 28) (a := .agg #[.bool false, .int .u64 (hiW (125)), .int .u64 (loW (125)), .int .i64 (-3)]) (b := .agg #[.bool false, .int .u64 (hiW (125)), .int .u64 (loW (125)), .int .i64 (-3)]) (dst := (some 58)) (by kernel_rfl) ?_
  intro c58 hc58
  simp only [Array.mk.injEq, List.cons.injEq, Value.int.injEq, Value.bool.injEq, Value.string.injEq, true_and, and_true] at hc58
  refine vcI_q 2 (by kernel_rfl) ?_
  obtain rfl : c58 = true := hc58.2 (trivial)
  refine vcI_q 4 (by kernel_rfl) ?_
  refine vcI_call (f := 22) (ds := [.v (.int .u64 25), .v (.int .i64 (-2))]) (dst := (some 65)) (by kernel_rfl) (c_Of03 (n := 25) rfl (by decide)) ?_
  rintro _ rfl
  refine vcI_bin (op := .eql) (t := 28) (a := .agg #[.bool false, .int .u64 (hiW (25)), .int .u64 (loW (25)), .int .i64 (-2)]) (b := .agg #[.bool false, .int .u64 (hiW (25)), .int .u64 (loW (25)), .int .i64 (-2)]) (dst := (some 66)) (by kernel_rfl) ?_
  intro c66 hc66
  simp only [Array.mk.injEq, List.cons.injEq, Value.int.injEq, Value.bool.injEq, Value.string.injEq, true_and, and_true] at hc66
  refine vcI_q 2 (by kernel_rfl) ?_
  obtain rfl : c66 = true := hc66.2 (trivial)
  refine vcI_q 4 (by kernel_rfl) ?_
  refine vcI_call (f := 22) (ds := [.v (.int .u64 15), .v (.int .i64 (-1))]) (dst := (some 73)) (by kernel_rfl) (c_Of03 (n := 15) rfl (by decide)) ?_
  rintro _ rfl
  refine vcI_bin (op := .eql) (t := 28) (a := .agg #[.bool false, .int .u64 (hiW (15)), .int .u64 (loW (15)), .int .i64 (-1)]) (b := .agg #[.bool false, .int .u64 (hiW (15)), .int .u64 (loW (15)), .int .i64 (-1)]) (dst := (some 74)) (by kernel_rfl) ?_
  intro c74 hc74
  simp only [Array.mk.injEq, List.cons.injEq, Value.int.injEq, Value.bool.injEq, Value.string.injEq, true_and, and_true] at hc74
  refine vcI_q 2 (by kernel_rfl) ?_
  obtain rfl : c74 = true := hc74.2 (trivial)
  refine vcI_q 4 (by kernel_rfl) ?_
  refine vcI_call (f := 22) (ds := [.v (.int .u64 10), .v (.int .i64 0)]) (dst := (some 81)) (by kernel_rfl) (c_Of03 (n := 10) rfl (by decide)) ?_
  rintro _ rfl
  refine vcI_bin (op := .eql) (t := 28) (a := .agg #[.bool false, .int .u64 (hiW (10)), .int .u64 (loW (10)), .int .i64 0]) (b := .agg #[.bool false, .int .u64 (hiW (10)), .int .u64 (loW (10)), .int .i64 0]) (dst := (some 82)) (by kernel_rfl) ?_
  intro c82 hc82
  simp only [Array.mk.injEq, List.cons.injEq, Value.int.injEq, Value.bool.injEq, Value.string.injEq, true_and, and_true] at hc82
  refine vcI_q 2 (by kernel_rfl) ?_
  obtain rfl : c82 = true := hc82.2 (trivial)
  refine vcI_q 5 (by kernel_rfl) ?_
  refine vcI_bin (op := .eql) (t := 3) (a := .int .i64 (-34)) (b := .int .i64 (-34)) (dst := (some 90)) (by kernel_rfl) ?_
  intro c90 hc90
  refine vcI_q 2 (by kernel_rfl) ?_
  refine vcI_end 92 [(0, .d (.v (.bool c90))), (1, .p 1 0), (3, .p 3 0), (5, .p 5 0), (7, .p 7 0), (9, .p 9 0), (11, .p 11 0)] [(1, [.v (.bool false), .v (.int .u64 (hiW (30))), .v (.int .u64 (loW (30))), .v (.int .i64 (-1))]), (3, [.v (.bool false), .v (.int .u64 (hiW (125))), .v (.int .u64 (loW (125))), .v (.int .i64 (-3))]), (5, [.v (.bool false), .v (.int .u64 (hiW (25))), .v (.int .u64 (loW (25))), .v (.int .i64 (-2))]), (7, [.v (.bool false), .v (.int .u64 (hiW (15))), .v (.int .u64 (loW (15))), .v (.int .i64 (-1))]), (9, [.v (.bool false), .v (.int .u64 (hiW (10))), .v (.int .u64 (loW (10))), .v (.int .i64 0)]), (11, [.v (.bool false), .v (.int .u64 (hiW (c))), .v (.int .u64 (loW (c))), .v (.int .i64 (-34))])] (by kernel_rfl) (by kernel_rfl) (by kernel_rfl) ?_
  refine vc_ret ?_
  refine ret_1 (d := .v (.bool c90)) (by kernel_rfl) ?_
  rw [hc90.2 rfl]

end Go.Proofs.Ytdlfgliokkgceaa
