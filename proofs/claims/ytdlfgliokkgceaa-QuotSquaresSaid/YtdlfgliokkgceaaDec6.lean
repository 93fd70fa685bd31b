/-
  quot.Div.
-/
import Derived.Test.YtdlfgliokkgceaaDec5
import Derived.Test.YtdlfgliokkgceaaVcY
namespace Go.Proofs.Ytdlfgliokkgceaa
open Go.RowKit
set_option linter.unusedVariables false
set_option linter.unusedSimpArgs false
set_option maxRecDepth 100000

/-- How many noughts more the number is given before it is divided. -/
def divN (a b : Nat) : Nat := 35 + nd b - nd a
/-- Without noughts at the end, at most k of them taken off: the number, how many were taken. -/
def strip : Nat → Nat → Nat × Nat
  | 0, q => (q, 0)
  | k + 1, q => if q % 10 = 0 then ((strip k (q / 10)).1, (strip k (q / 10)).2 + 1) else (q, 0)
theorem strip_step {k q : Nat} (h : q % 10 = 0) : strip (k + 1) q = ((strip k (q / 10)).1, (strip k (q / 10)).2 + 1) := by rw [strip, if_pos h]
theorem strip_stop {k q : Nat} (h : q % 10 ≠ 0) : strip (k + 1) q = (q, 0) := by rw [strip, if_neg h]
theorem strip_0 (q : Nat) : strip 0 q = (q, 0) := rfl
/-- The quotient that Div fits. -/
def divQ (a b : Nat) : Nat × Nat := if a * 10 ^ divN a b % b = 0 then strip (divN a b) (a * 10 ^ divN a b / b) else (a * 10 ^ divN a b / b, 0)
def divMore (a b : Nat) : Bool := decide (a * 10 ^ divN a b % b ≠ 0)

theorem div_room {a b : Nat} (ha : a < E34) (hb : b < E34) (h0 : 0 < b) : a * 10 ^ divN a b < 10 ^ 36 * b ∧ a * 10 ^ divN a b < B128 * B128 ∧ divN a b ≤ 1000 := by
  have h1 : nd a ≤ 34 := nd_le _ _ ha
  have h2 : nd b ≤ 34 := nd_le _ _ hb
  have h3 : a * 10 ^ divN a b < 10 ^ (35 + nd b) := by
    by_cases hz : a = 0
    · subst hz; simp; exact Nat.pow_pos (by decide)
    · have h4 := Nat.mul_lt_mul_of_pos_right (lt_nd a) (show 0 < 10 ^ divN a b from Nat.pow_pos (by decide))
      rw [← Nat.pow_add] at h4
      have h5 : nd a + divN a b = 35 + nd b := by unfold divN; omega
      rwa [h5] at h4
  have h6 : 10 ^ nd b ≤ 10 * b := by
    rw [nd_pos (show b ≠ 0 by omega), Nat.pow_succ, Nat.mul_comm]
    refine Nat.mul_le_mul_left _ ?_
    rcases Nat.lt_or_ge b (10 ^ nd (b / 10)) with h | h
    · exfalso
      have h7 := nd_le _ _ h
      rw [nd_pos (show b ≠ 0 by omega)] at h7
      omega
    · exact h
  refine ⟨?_, ?_, by unfold divN; omega⟩
  · refine Nat.lt_of_lt_of_le h3 ?_
    rw [Nat.pow_add]
    have := Nat.mul_le_mul_left (10 ^ 35) h6
    have e : (10 : Nat) ^ 36 = 10 ^ 35 * 10 := by decide
    rw [e, Nat.mul_assoc]
    exact this
  · exact Nat.lt_of_lt_of_le h3 (Nat.le_trans (Nat.pow_le_pow_right (by decide) (show 35 + nd b ≤ 69 by omega)) (by decide))

theorem dWide_0 (e : Int) : dWide false 0 0 e false = .agg [.v (.bool false), .v (.int .u64 0), .v (.int .u64 0), .v (.int .u64 0), .v (.int .u64 0), .v (.int .i64 e), .v (.bool false)] := by kernel_rfl
theorem dWide_1 (s : Bool) (n : Nat) (e : Int) (more : Bool) : dWide s 0 n e more = .agg [.v (.bool s), .v (.int .u64 0), .v (.int .u64 0), .v (.int .u64 (hiW n)), .v (.int .u64 (loW n)), .v (.int .i64 e), .v (.bool more)] := by kernel_rfl
theorem c_FitT0 {m e : Int} (he0 : -1000000000000000000 ≤ e) (he1 : e ≤ 1000000000000000000) :
    HasC Try.prog 30 [.agg [.v (.bool false), .v (.int .u64 0), .v (.int .u64 0), .v (.int .u64 0), .v (.int .u64 0), .v (.int .i64 e), .v (.bool false)], .v (.int .i64 m)] (fun y => ∃ g k x ok, y = .tup [dDec g k x, .v (.bool ok)] ∧ fitT m false 0 e false = (g, k, x, ok)) := by
  rw [← dWide_0]
  exact c_FitT (by decide) (by decide) (by decide) he0 he1
theorem c_FitT1 {m e : Int} {neg more : Bool} {N : Nat} (hN : N < B128) (he0 : -1000000000000000000 ≤ e) (he1 : e ≤ 1000000000000000000) :
    HasC Try.prog 30 [.agg [.v (.bool neg), .v (.int .u64 0), .v (.int .u64 0), .v (.int .u64 (hiW N)), .v (.int .u64 (loW N)), .v (.int .i64 e), .v (.bool more)], .v (.int .i64 m)] (fun y => ∃ g k x ok, y = .tup [dDec g k x, .v (.bool ok)] ∧ fitT m neg N e more = (g, k, x, ok)) := by
  rw [← dWide_1]
  exact c_FitT (by omega) (by decide) hN he0 he1
theorem c_raisedI {a n : Nat} {X : Int} (hX : X = (n : Int)) (ha : a < B128) (hn : n ≤ 1000) (hb : a * 10 ^ n < B128 * B128) : HasC Try.prog 32 [dU a, .v (.int .i64 X)] (fun y => y = .tup [dU (a * 10 ^ n / B128), dU (a * 10 ^ n % B128)]) := by
  subst hX
  exact c_raised ha hn hb
theorem cw_DivN {A d : Nat} (hd : d < B128) (hA : A < B128 * d) : HasC Try.prog 28 [dU (A / B128), dU (A % B128), dU d] (fun y => y = .tup [dU (A / d), dU (A % d), .v (.bool true)]) := by
  have h := Nat.div_lt_of_lt_mul hA
  have e := cw_Div_yes (h := A / B128) (l := A % B128) (Nat.lt_trans h hd) (mod_lt128 _) hd h
  rw [Nat.div_add_mod'] at e
  exact e
theorem cw_DivWord10 {l : Nat} (hl : l < B128) : HasC Try.prog 33 [.agg [.v (.int .u64 0), .v (.int .u64 0)], dU l, .v (.int .u64 10)] (fun y => y = .tup [dU 0, dU (l / 10), .v (.int .u64 ((l % 10 : Nat) : Int)), .v (.bool true)]) := by
  rw [← dU_0']
  have e := cw_DivWord (h := 0) (l := l) (n := 10) (by decide) hl (by decide) (by decide)
  rw [Nat.zero_mul, Nat.zero_add] at e
  have h1 : l / 10 < B128 := by omega
  rw [Nat.div_eq_of_lt h1, Nat.mod_eq_of_lt h1] at e
  exact e

/-- What Div answers, of a divisor that is not 0. -/
noncomputable def divT (s : Bool) (a b : Nat) (like : Int) : Bool × Nat × Int × Bool :=
  if a = 0 then fitT 1 false 0 like false else fitT 1 s (divQ a b).1 (like - (divN a b : Nat) + ((divQ a b).2 : Nat)) (divMore a b)
noncomputable def qDivT (s : Bool) (a b : Nat) (like : Int) : Bool × Nat × Int × Bool := if b = 0 then (false, 0, 0, false) else divT s a b like
def dFit (t : Bool × Nat × Int × Bool) : DV := .tup [dDec t.1 t.2.1 t.2.2.1, .v (.bool t.2.2.2)]
theorem bne_of {c g1 g2 : Bool} (h : c = true ↔ g1 ≠ g2) : (g1 != g2) = c := by
  cases c <;> cases g1 <;> cases g2 <;> simp_all

set_option maxHeartbeats 1600000 in
theorem c_qDiv {g1 g2 : Bool} {a b : Nat} {x1 x2 : Int} (ha : a < E34) (hb : b < E34) (h1 : -100000000000000000 ≤ x1) (h2 : x1 ≤ 100000000000000000) (h3 : -100000000000000000 ≤ x2) (h4 : x2 ≤ 100000000000000000) : HasC Try.prog 11 [.agg [.v (.bool g1), .v (.int .u64 (hiW (a))), .v (.int .u64 (loW (a))), .v (.int .i64 x1)], .agg [.v (.bool g2), .v (.int .u64 (hiW (b))), .v (.int .u64 (loW (b))), .v (.int .i64 x2)]] (fun y => y = dFit (qDivT (g1 != g2) a b (x1 - x2))) := by
  refine HasC.of [] (fn := Try.f11) tyOk mixed (fun args w => Try.call11 args w) Try.func11 rfl (by kernel_rfl) (Nat.le_of_ble_eq_true rfl) (⟨_, rfl⟩) ?_
  have haB := Nat.lt_trans ha e34_lt; have hbB := Nat.lt_trans hb e34_lt
  refine vc_seqr rfl ?_
  refine vcI_q 4 (by kernel_rfl) ?_
  refine vcI_end 99 [(2, .p 2 0), (3, .p 3 0), (4, .p 4 0), (5, .d (.v (.bool false)))] [(2, [.v (.bool g1), .v (.int .u64 (hiW (a))), .v (.int .u64 (loW (a))), .v (.int .i64 x1)]), (3, [.v (.bool g2), .v (.int .u64 (hiW (b))), .v (.int .u64 (loW (b))), .v (.int .i64 x2)]), (4, [.v (.bool false), .v (.int .u64 0), .v (.int .u64 0), .v (.int .i64 0)])] (by kernel_rfl) (by kernel_rfl) (by kernel_rfl) ?_
  refine vc_seq ?_
  refine vc_seqr rfl ?_
  refine vcI_q 1 (by kernel_rfl) ?_
  refine vcI_call (f := 12) (ds := [.agg [.v (.bool g2), .v (.int .u64 (hiW (b))), .v (.int .u64 (loW (b))), .v (.int .i64 x2)]]) (dst := (some 19)) (by kernel_rfl) (c_Zero hbB) ?_
  rintro _ ⟨z, rfl, hz⟩
  refine vcI_end 99 [(2, .p 2 0), (3, .p 3 0), (4, .p 4 0), (5, .d (.v (.bool false))), (19, .d (.v (.bool z)))] [(2, [.v (.bool g1), .v (.int .u64 (hiW (a))), .v (.int .u64 (loW (a))), .v (.int .i64 x1)]), (3, [.v (.bool g2), .v (.int .u64 (hiW (b))), .v (.int .u64 (loW (b))), .v (.int .i64 x2)]), (4, [.v (.bool false), .v (.int .u64 0), .v (.int .u64 0), .v (.int .i64 0)])] (by kernel_rfl) (by kernel_rfl) (by kernel_rfl) ?_
  cases z
  · replace hz := bf hz
    refine vc_condf (by kernel_rfl) ?_
    refine vc_skip ?_
    refine seq_n ?_
    refine vc_seqr rfl ?_
    refine vcI_q 4 (by kernel_rfl) ?_
    refine vcI_bin (op := .sub) (t := 3) (a := .int .i64 x1) (b := .int .i64 x2) (dst := (some 25)) (by kernel_rfl) ?_
    intro z25 hz25
    first | (replace hz25 := hz25.i64 (by omega)) | skip
    refine vcI_q 1 (by kernel_rfl) ?_
    refine vcI_end 99 [(2, .p 2 0), (3, .p 3 0), (4, .p 4 0), (5, .d (.v (.bool false))), (6, .d (.v (.int .i64 z25))), (19, .d (.v (.bool false)))] [(2, [.v (.bool g1), .v (.int .u64 (hiW (a))), .v (.int .u64 (loW (a))), .v (.int .i64 x1)]), (3, [.v (.bool g2), .v (.int .u64 (hiW (b))), .v (.int .u64 (loW (b))), .v (.int .i64 x2)]), (4, [.v (.bool false), .v (.int .u64 0), .v (.int .u64 0), .v (.int .i64 0)])] (by kernel_rfl) (by kernel_rfl) (by kernel_rfl) ?_
    refine vc_seq ?_
    refine vc_seqr rfl ?_
    refine vcI_q 1 (by kernel_rfl) ?_
    refine vcI_call (f := 12) (ds := [.agg [.v (.bool g1), .v (.int .u64 (hiW (a))), .v (.int .u64 (loW (a))), .v (.int .i64 x1)]]) (dst := (some 27)) (by kernel_rfl) (c_Zero haB) ?_
    rintro _ ⟨z', rfl, hz'⟩
    refine vcI_end 99 [(2, .p 2 0), (3, .p 3 0), (4, .p 4 0), (5, .d (.v (.bool false))), (6, .d (.v (.int .i64 z25))), (19, .d (.v (.bool false))), (27, .d (.v (.bool z')))] [(2, [.v (.bool g1), .v (.int .u64 (hiW (a))), .v (.int .u64 (loW (a))), .v (.int .i64 x1)]), (3, [.v (.bool g2), .v (.int .u64 (hiW (b))), .v (.int .u64 (loW (b))), .v (.int .i64 x2)]), (4, [.v (.bool false), .v (.int .u64 0), .v (.int .u64 0), .v (.int .i64 0)])] (by kernel_rfl) (by kernel_rfl) (by kernel_rfl) ?_
    cases z'
    · replace hz' := bf hz'
      obtain ⟨r1, r2, r3⟩ := div_room ha hb (Nat.pos_of_ne_zero hz)
      obtain ⟨n, hn⟩ : ∃ n, n = divN a b := ⟨_, rfl⟩
      rw [← hn] at r1 r2 r3
      have hnd := hn; unfold divN at hnd
      have hnda := nd_le 34 a ha; have hndb := nd_le 34 b hb
      refine vc_condf (by kernel_rfl) ?_
      refine vc_skip ?_
      refine seq_n ?_
      refine vc_seqr rfl ?_
      refine vcI_q 1 (by kernel_rfl) ?_
      refine vcI_call (f := 31) (ds := [.agg [.v (.bool g2), .v (.int .u64 (hiW (b))), .v (.int .u64 (loW (b))), .v (.int .i64 x2)]]) (dst := (some 34)) (by kernel_rfl) (c_qdigits hbB) ?_
      rintro _ rfl
      refine vcI_bin (op := .add) (t := 3) (a := .int .i64 35) (b := .int .i64 ((nd b : Int))) (dst := (some 35)) (by kernel_rfl) ?_
      intro z35 hz35
      first | (replace hz35 := hz35.i64 (by omega)) | skip
      refine vcI_q 1 (by kernel_rfl) ?_
      refine vcI_call (f := 31) (ds := [.agg [.v (.bool g1), .v (.int .u64 (hiW (a))), .v (.int .u64 (loW (a))), .v (.int .i64 x1)]]) (dst := (some 37)) (by kernel_rfl) (c_qdigits haB) ?_
      rintro _ rfl
      refine vcI_bin (op := .sub) (t := 3) (a := .int .i64 z35) (b := .int .i64 ((nd a : Int))) (dst := (some 38)) (by kernel_rfl) ?_
      intro z38 hz38
      first | (replace hz38 := hz38.i64 (by omega)) | skip
      refine vcI_blt (b := .max) (tys := [3, 3]) (vs := [.int .i64 0, .int .i64 z38]) (dst := (some 39)) (by kernel_rfl) ?_
      intro z39 hz39
      simp only at hz39
      refine vcI_q 1 (by kernel_rfl) ?_
      refine vcI_end 99 [(2, .p 2 0), (3, .p 3 0), (4, .p 4 0), (5, .d (.v (.bool false))), (6, .d (.v (.int .i64 z25))), (7, .d (.v (.int .i64 z39))), (19, .d (.v (.bool false))), (27, .d (.v (.bool false)))] [(2, [.v (.bool g1), .v (.int .u64 (hiW (a))), .v (.int .u64 (loW (a))), .v (.int .i64 x1)]), (3, [.v (.bool g2), .v (.int .u64 (hiW (b))), .v (.int .u64 (loW (b))), .v (.int .i64 x2)]), (4, [.v (.bool false), .v (.int .u64 0), .v (.int .u64 0), .v (.int .i64 0)])] (by kernel_rfl) (by kernel_rfl) (by kernel_rfl) ?_
      refine vc_seqr rfl ?_
      refine vcI_q 3 (by kernel_rfl) ?_
      refine vcI_call (f := 32) (ds := [.agg [.v (.int .u64 (hiW (a))), .v (.int .u64 (loW (a)))], .v (.int .i64 z39)]) (dst := (some 44)) (by kernel_rfl) (c_raisedI (n := n) (by omega) haB r3 r2) ?_
      rintro _ rfl
      have hAb : a * 10 ^ n < B128 * b := Nat.lt_of_lt_of_le r1 (Nat.mul_le_mul_right _ (by decide))
      refine vcI_q 7 (by kernel_rfl) ?_
      refine vcI_end 99 [(2, .p 2 0), (3, .p 3 0), (4, .p 4 0), (5, .d (.v (.bool false))), (6, .d (.v (.int .i64 z25))), (7, .d (.v (.int .i64 z39))), (8, .p 8 0), (9, .p 9 0), (19, .d (.v (.bool false))), (27, .d (.v (.bool false)))] [(2, [.v (.bool g1), .v (.int .u64 (hiW (a))), .v (.int .u64 (loW (a))), .v (.int .i64 x1)]), (3, [.v (.bool g2), .v (.int .u64 (hiW (b))), .v (.int .u64 (loW (b))), .v (.int .i64 x2)]), (4, [.v (.bool false), .v (.int .u64 0), .v (.int .u64 0), .v (.int .i64 0)]), (8, [.v (.int .u64 (hiW (a * 10 ^ n / B128))), .v (.int .u64 (loW (a * 10 ^ n / B128)))]), (9, [.v (.int .u64 (hiW (a * 10 ^ n % B128))), .v (.int .u64 (loW (a * 10 ^ n % B128)))])] (by kernel_rfl) (by kernel_rfl) (by kernel_rfl) ?_
      refine vc_seqr rfl ?_
      refine vcI_q 4 (by kernel_rfl) ?_
      refine vcI_call (f := 28) (ds := [.agg [.v (.int .u64 (hiW (a * 10 ^ n / B128))), .v (.int .u64 (loW (a * 10 ^ n / B128)))], .agg [.v (.int .u64 (hiW (a * 10 ^ n % B128))), .v (.int .u64 (loW (a * 10 ^ n % B128)))], .agg [.v (.int .u64 (hiW (b))), .v (.int .u64 (loW (b)))]]) (dst := (some 52)) (by kernel_rfl) (cw_DivN hbB hAb) ?_
      rintro _ rfl
      have hqB : a * 10 ^ n / b < B128 := Nat.div_lt_of_lt_mul (by rw [Nat.mul_comm b]; exact hAb)
      have hrB : a * 10 ^ n % b < B128 := Nat.lt_trans (Nat.mod_lt _ (Nat.pos_of_ne_zero hz)) hbB
      refine vcI_q 9 (by kernel_rfl) ?_
      refine vcI_end 99 [(2, .p 2 0), (3, .p 3 0), (4, .p 4 0), (5, .d (.v (.bool false))), (6, .d (.v (.int .i64 z25))), (7, .d (.v (.int .i64 z39))), (8, .p 8 0), (9, .p 9 0), (10, .p 10 0), (11, .p 11 0), (19, .d (.v (.bool false))), (27, .d (.v (.bool false)))] [(2, [.v (.bool g1), .v (.int .u64 (hiW (a))), .v (.int .u64 (loW (a))), .v (.int .i64 x1)]), (3, [.v (.bool g2), .v (.int .u64 (hiW (b))), .v (.int .u64 (loW (b))), .v (.int .i64 x2)]), (4, [.v (.bool false), .v (.int .u64 0), .v (.int .u64 0), .v (.int .i64 0)]), (8, [.v (.int .u64 (hiW (a * 10 ^ n / B128))), .v (.int .u64 (loW (a * 10 ^ n / B128)))]), (9, [.v (.int .u64 (hiW (a * 10 ^ n % B128))), .v (.int .u64 (loW (a * 10 ^ n % B128)))]), (10, [.v (.int .u64 (hiW (a * 10 ^ n / b))), .v (.int .u64 (loW (a * 10 ^ n / b)))]), (11, [.v (.int .u64 (hiW (a * 10 ^ n % b))), .v (.int .u64 (loW (a * 10 ^ n % b)))])] (by kernel_rfl) (by kernel_rfl) (by kernel_rfl) ?_
      refine vc_seqr rfl ?_
      refine vcI_q 4 (by kernel_rfl) ?_
      refine vcI_bin (op := .neq) (t := 4) (a := .bool g1) (b := .bool g2) (dst := (some 60)) (by kernel_rfl) ?_
      intro c60 hc60
      refine vcI_q 3 (by kernel_rfl) ?_
      refine vcI_bin (op := .sub) (t := 3) (a := .int .i64 z25) (b := .int .i64 z39) (dst := (some 64)) (by kernel_rfl) ?_
      intro z64 hz64
      first | (replace hz64 := hz64.i64 (by omega)) | skip
      refine vcI_q 1 (by kernel_rfl) ?_
      refine vcI_call (f := 29) (ds := [.agg [.v (.int .u64 (hiW (a * 10 ^ n % b))), .v (.int .u64 (loW (a * 10 ^ n % b)))]]) (dst := (some 66)) (by kernel_rfl) (cw_Zero hrB) ?_
      rintro _ ⟨zr, rfl, hzr⟩
      refine vcI_un (op := .not) (a := .bool zr) (dst := (some 67)) (by kernel_rfl) ?_
      intro c67 hc67
      refine vcI_q 3 (by kernel_rfl) ?_
      refine vcI_end 99 [(2, .p 2 0), (3, .p 3 0), (4, .p 4 0), (5, .d (.v (.bool false))), (6, .d (.v (.int .i64 z25))), (7, .d (.v (.int .i64 z39))), (8, .p 8 0), (9, .p 9 0), (10, .p 10 0), (11, .p 11 0), (13, .p 13 0), (19, .d (.v (.bool false))), (27, .d (.v (.bool false)))] [(2, [.v (.bool g1), .v (.int .u64 (hiW (a))), .v (.int .u64 (loW (a))), .v (.int .i64 x1)]), (3, [.v (.bool g2), .v (.int .u64 (hiW (b))), .v (.int .u64 (loW (b))), .v (.int .i64 x2)]), (4, [.v (.bool false), .v (.int .u64 0), .v (.int .u64 0), .v (.int .i64 0)]), (8, [.v (.int .u64 (hiW (a * 10 ^ n / B128))), .v (.int .u64 (loW (a * 10 ^ n / B128)))]), (9, [.v (.int .u64 (hiW (a * 10 ^ n % B128))), .v (.int .u64 (loW (a * 10 ^ n % B128)))]), (10, [.v (.int .u64 (hiW (a * 10 ^ n / b))), .v (.int .u64 (loW (a * 10 ^ n / b)))]), (11, [.v (.int .u64 (hiW (a * 10 ^ n % b))), .v (.int .u64 (loW (a * 10 ^ n % b)))]), (13, [.v (.bool c60), .v (.int .u64 0), .v (.int .u64 0), .v (.int .u64 (hiW (a * 10 ^ n / b))), .v (.int .u64 (loW (a * 10 ^ n / b))), .v (.int .i64 z64), .v (.bool c67)])] (by kernel_rfl) (by kernel_rfl) (by kernel_rfl) ?_
      refine vc_seq ?_
      refine vc_block ?_
      refine vc_loop 99 (fun (vcx : Nat × Nat × Int) => match vcx with | (j, p, x) => [(2, .p 2 0), (3, .p 3 0), (4, .p 4 0), (5, .d (.v (.bool false))), (6, .d (.v (.int .i64 z25))), (7, .d (.v (.int .i64 z39))), (8, .p 8 0), (9, .p 9 0), (10, .p 10 0), (11, .p 11 0), (13, .p 13 0), (19, .d (.v (.bool false))), (27, .d (.v (.bool false)))]) (fun (vcx : Nat × Nat × Int) => match vcx with | (j, p, x) => [(2, [.v (.bool g1), .v (.int .u64 (hiW (a))), .v (.int .u64 (loW (a))), .v (.int .i64 x1)]), (3, [.v (.bool g2), .v (.int .u64 (hiW (b))), .v (.int .u64 (loW (b))), .v (.int .i64 x2)]), (4, [.v (.bool false), .v (.int .u64 0), .v (.int .u64 0), .v (.int .i64 0)]), (8, [.v (.int .u64 (hiW (a * 10 ^ n / B128))), .v (.int .u64 (loW (a * 10 ^ n / B128)))]), (9, [.v (.int .u64 (hiW (a * 10 ^ n % B128))), .v (.int .u64 (loW (a * 10 ^ n % B128)))]), (10, [.v (.int .u64 (hiW (a * 10 ^ n / b))), .v (.int .u64 (loW (a * 10 ^ n / b)))]), (11, [.v (.int .u64 (hiW (a * 10 ^ n % b))), .v (.int .u64 (loW (a * 10 ^ n % b)))]), (13, [.v (.bool c60), .v (.int .u64 0), .v (.int .u64 0), .v (.int .u64 (hiW (p))), .v (.int .u64 (loW (p))), .v (.int .i64 x), .v (.bool c67)])]) (fun (vcx : Nat × Nat × Int) => match vcx with | (j, p, x) => j ≤ n ∧ x = x1 - x2 - (n : Int) + (j : Int) ∧ p < B128 ∧ strip n (a * 10 ^ n / b) = ((strip (n - j) p).1, (strip (n - j) p).2 + j) ∧ (c67 = true → j = 0 ∧ p = a * 10 ^ n / b)) (fun (vcx : Nat × Nat × Int) => match vcx with | (j, p, x) => n - j) ((0, a * 10 ^ n / b, z64)) (⟨by omega, by omega, hqB, by simp, fun _ => ⟨rfl, rfl⟩⟩) (by kernel_rfl) (by kernel_rfl) ?_
      rintro ⟨j, p, x⟩ hinv
      simp only at hinv
      obtain ⟨hj, hjx, hp, hs, hm0⟩ := hinv
      refine vc_seq ?_
      refine vc_seqr rfl ?_
      refine vcI_q 2 (by kernel_rfl) ?_
      refine vcI_un (op := .not) (a := .bool c67) (dst := (some 71)) (by kernel_rfl) ?_
      intro c71 hc71
      refine vcI_q 1 (by kernel_rfl) ?_
      cases c71
      · replace hc71 := bf hc71
        refine vcI_q 5 (by kernel_rfl) ?_
        refine vcI_end 99 [(2, .p 2 0), (3, .p 3 0), (4, .p 4 0), (5, .d (.v (.bool false))), (6, .d (.v (.int .i64 z25))), (7, .d (.v (.int .i64 z39))), (8, .p 8 0), (9, .p 9 0), (10, .p 10 0), (11, .p 11 0), (13, .p 13 0), (19, .d (.v (.bool false))), (27, .d (.v (.bool false))), (77, .d (.v (.bool false)))] [(2, [.v (.bool g1), .v (.int .u64 (hiW (a))), .v (.int .u64 (loW (a))), .v (.int .i64 x1)]), (3, [.v (.bool g2), .v (.int .u64 (hiW (b))), .v (.int .u64 (loW (b))), .v (.int .i64 x2)]), (4, [.v (.bool false), .v (.int .u64 0), .v (.int .u64 0), .v (.int .i64 0)]), (8, [.v (.int .u64 (hiW (a * 10 ^ n / B128))), .v (.int .u64 (loW (a * 10 ^ n / B128)))]), (9, [.v (.int .u64 (hiW (a * 10 ^ n % B128))), .v (.int .u64 (loW (a * 10 ^ n % B128)))]), (10, [.v (.int .u64 (hiW (a * 10 ^ n / b))), .v (.int .u64 (loW (a * 10 ^ n / b)))]), (11, [.v (.int .u64 (hiW (a * 10 ^ n % b))), .v (.int .u64 (loW (a * 10 ^ n % b)))]), (13, [.v (.bool c60), .v (.int .u64 0), .v (.int .u64 0), .v (.int .u64 (hiW (p))), .v (.int .u64 (loW (p))), .v (.int .i64 x), .v (.bool c67)])] (by kernel_rfl) (by kernel_rfl) (by kernel_rfl) ?_
        have hc : c67 = true := by simpa using hc71
        obtain ⟨hj0, hpq⟩ := hm0 hc
        have hr0 : a * 10 ^ n % b ≠ 0 := fun h => by rw [hzr.2 h] at hc67; simp [hc] at hc67
        have hq : divQ a b = (p, j) := by rw [divQ, ← hn, if_neg hr0, hj0, hpq]
        have hm : divMore a b = c67 := by rw [divMore, ← hn, hc]; simpa using hr0
        refine vc_condf (by kernel_rfl) ?_
        refine vc_exit ?_
        refine seq_x ?_
        refine loop_x ?_
        refine block_x rfl ?_
        refine seq_n ?_
        refine vc_seqr rfl ?_
        refine vcI_q 1 (by kernel_rfl) ?_
        refine vcI_call (f := 30) (ds := [.agg [.v (.bool c60), .v (.int .u64 0), .v (.int .u64 0), .v (.int .u64 (hiW (p))), .v (.int .u64 (loW (p))), .v (.int .i64 x), .v (.bool c67)], .v (.int .i64 1)]) (dst := (some 96)) (by kernel_rfl) (c_FitT1 (m := 1) (N := p) hp (by omega) (by omega)) ?_
        rintro _ ⟨g, k, x', ok, rfl, hT⟩
        refine vcI_q 4 (by kernel_rfl) ?_
        refine vcI_end 99 [(2, .p 2 0), (3, .p 3 0), (4, .p 4 0), (5, .d (.v (.bool ok))), (6, .d (.v (.int .i64 z25))), (7, .d (.v (.int .i64 z39))), (8, .p 8 0), (9, .p 9 0), (10, .p 10 0), (11, .p 11 0), (13, .p 13 0), (19, .d (.v (.bool false))), (27, .d (.v (.bool false))), (77, .d (.v (.bool false)))] [(2, [.v (.bool g1), .v (.int .u64 (hiW (a))), .v (.int .u64 (loW (a))), .v (.int .i64 x1)]), (3, [.v (.bool g2), .v (.int .u64 (hiW (b))), .v (.int .u64 (loW (b))), .v (.int .i64 x2)]), (4, [.v (.bool g), .v (.int .u64 (hiW (k))), .v (.int .u64 (loW (k))), .v (.int .i64 x')]), (8, [.v (.int .u64 (hiW (a * 10 ^ n / B128))), .v (.int .u64 (loW (a * 10 ^ n / B128)))]), (9, [.v (.int .u64 (hiW (a * 10 ^ n % B128))), .v (.int .u64 (loW (a * 10 ^ n % B128)))]), (10, [.v (.int .u64 (hiW (a * 10 ^ n / b))), .v (.int .u64 (loW (a * 10 ^ n / b)))]), (11, [.v (.int .u64 (hiW (a * 10 ^ n % b))), .v (.int .u64 (loW (a * 10 ^ n % b)))]), (13, [.v (.bool c60), .v (.int .u64 0), .v (.int .u64 0), .v (.int .u64 (hiW (p))), .v (.int .u64 (loW (p))), .v (.int .i64 x), .v (.bool c67)])] (by kernel_rfl) (by kernel_rfl) (by kernel_rfl) ?_
        refine vc_ret ?_
        refine ret_2 (d := .agg [.v (.bool g), .v (.int .u64 (hiW (k))), .v (.int .u64 (loW (k))), .v (.int .i64 x')]) (e := .v (.bool ok)) (ds := []) (by kernel_rfl) ?_
        rw [qDivT, if_neg hz, divT, if_neg hz', ← hn, hq, hm, bne_of hc60, ← hjx, hT]
        rfl
      · replace hc71 := bt hc71
        refine vcI_q 3 (by kernel_rfl) ?_
        refine vcI_bin (op := .lss) (t := 3) (a := .int .i64 x) (b := .int .i64 z25) (dst := (some 76)) (by kernel_rfl) ?_
        intro c76 hc76
        have hc : c67 = false := by simpa using hc71
        have hr0 : a * 10 ^ n % b = 0 := hzr.1 (by rw [hc] at hc67; simpa using hc67)
        have hm : divMore a b = c67 := by rw [divMore, ← hn, hc]; simpa using hr0
        refine vcI_q 1 (by kernel_rfl) ?_
        refine vcI_end 99 [(2, .p 2 0), (3, .p 3 0), (4, .p 4 0), (5, .d (.v (.bool false))), (6, .d (.v (.int .i64 z25))), (7, .d (.v (.int .i64 z39))), (8, .p 8 0), (9, .p 9 0), (10, .p 10 0), (11, .p 11 0), (13, .p 13 0), (19, .d (.v (.bool false))), (27, .d (.v (.bool false))), (77, .d (.v (.bool c76)))] [(2, [.v (.bool g1), .v (.int .u64 (hiW (a))), .v (.int .u64 (loW (a))), .v (.int .i64 x1)]), (3, [.v (.bool g2), .v (.int .u64 (hiW (b))), .v (.int .u64 (loW (b))), .v (.int .i64 x2)]), (4, [.v (.bool false), .v (.int .u64 0), .v (.int .u64 0), .v (.int .i64 0)]), (8, [.v (.int .u64 (hiW (a * 10 ^ n / B128))), .v (.int .u64 (loW (a * 10 ^ n / B128)))]), (9, [.v (.int .u64 (hiW (a * 10 ^ n % B128))), .v (.int .u64 (loW (a * 10 ^ n % B128)))]), (10, [.v (.int .u64 (hiW (a * 10 ^ n / b))), .v (.int .u64 (loW (a * 10 ^ n / b)))]), (11, [.v (.int .u64 (hiW (a * 10 ^ n % b))), .v (.int .u64 (loW (a * 10 ^ n % b)))]), (13, [.v (.bool c60), .v (.int .u64 0), .v (.int .u64 0), .v (.int .u64 (hiW (p))), .v (.int .u64 (loW (p))), .v (.int .i64 x), .v (.bool c67)])] (by kernel_rfl) (by kernel_rfl) (by kernel_rfl) ?_
        cases c76
        · replace hc76 := bf hc76
          have hq : divQ a b = (p, j) := by rw [divQ, ← hn, if_pos hr0, hs, show n - j = 0 by omega]; simp [strip_0]
          refine vc_condf (by kernel_rfl) ?_
          refine vc_exit ?_
          refine seq_x ?_
          refine loop_x ?_
          refine block_x rfl ?_
          refine seq_n ?_
          refine vc_seqr rfl ?_
          refine vcI_q 1 (by kernel_rfl) ?_
          refine vcI_call (f := 30) (ds := [.agg [.v (.bool c60), .v (.int .u64 0), .v (.int .u64 0), .v (.int .u64 (hiW (p))), .v (.int .u64 (loW (p))), .v (.int .i64 x), .v (.bool c67)], .v (.int .i64 1)]) (dst := (some 96)) (by kernel_rfl) (c_FitT1 (m := 1) (N := p) hp (by omega) (by omega)) ?_
          rintro _ ⟨g, k, x', ok, rfl, hT⟩
          refine vcI_q 4 (by kernel_rfl) ?_
          refine vcI_end 99 [(2, .p 2 0), (3, .p 3 0), (4, .p 4 0), (5, .d (.v (.bool ok))), (6, .d (.v (.int .i64 z25))), (7, .d (.v (.int .i64 z39))), (8, .p 8 0), (9, .p 9 0), (10, .p 10 0), (11, .p 11 0), (13, .p 13 0), (19, .d (.v (.bool false))), (27, .d (.v (.bool false))), (77, .d (.v (.bool false)))] [(2, [.v (.bool g1), .v (.int .u64 (hiW (a))), .v (.int .u64 (loW (a))), .v (.int .i64 x1)]), (3, [.v (.bool g2), .v (.int .u64 (hiW (b))), .v (.int .u64 (loW (b))), .v (.int .i64 x2)]), (4, [.v (.bool g), .v (.int .u64 (hiW (k))), .v (.int .u64 (loW (k))), .v (.int .i64 x')]), (8, [.v (.int .u64 (hiW (a * 10 ^ n / B128))), .v (.int .u64 (loW (a * 10 ^ n / B128)))]), (9, [.v (.int .u64 (hiW (a * 10 ^ n % B128))), .v (.int .u64 (loW (a * 10 ^ n % B128)))]), (10, [.v (.int .u64 (hiW (a * 10 ^ n / b))), .v (.int .u64 (loW (a * 10 ^ n / b)))]), (11, [.v (.int .u64 (hiW (a * 10 ^ n % b))), .v (.int .u64 (loW (a * 10 ^ n % b)))]), (13, [.v (.bool c60), .v (.int .u64 0), .v (.int .u64 0), .v (.int .u64 (hiW (p))), .v (.int .u64 (loW (p))), .v (.int .i64 x), .v (.bool c67)])] (by kernel_rfl) (by kernel_rfl) (by kernel_rfl) ?_
          refine vc_ret ?_
          refine ret_2 (d := .agg [.v (.bool g), .v (.int .u64 (hiW (k))), .v (.int .u64 (loW (k))), .v (.int .i64 x')]) (e := .v (.bool ok)) (ds := []) (by kernel_rfl) ?_
          rw [qDivT, if_neg hz, divT, if_neg hz', ← hn, hq, hm, bne_of hc60, ← hjx, hT]
          rfl
        · replace hc76 := bt hc76
          refine vc_condt (by kernel_rfl) ?_
          refine vc_skip ?_
          refine seq_n ?_
          refine vc_block ?_
          refine vc_seqr rfl ?_
          refine vcI_q 3 (by kernel_rfl) ?_
          refine vcI_call (f := 33) (ds := [.agg [.v (.int .u64 0), .v (.int .u64 0)], .agg [.v (.int .u64 (hiW (p))), .v (.int .u64 (loW (p)))], .v (.int .u64 10)]) (dst := (some 82)) (by kernel_rfl) (cw_DivWord10 hp) ?_
          rintro _ rfl
          refine vcI_q 11 (by kernel_rfl) ?_
          refine vcI_end 99 [(2, .p 2 0), (3, .p 3 0), (4, .p 4 0), (5, .d (.v (.bool false))), (6, .d (.v (.int .i64 z25))), (7, .d (.v (.int .i64 z39))), (8, .p 8 0), (9, .p 9 0), (10, .p 10 0), (11, .p 11 0), (13, .p 13 0), (15, .p 15 0), (16, .d (.v (.int .u64 (((p % 10 : Nat) : Int))))), (19, .d (.v (.bool false))), (27, .d (.v (.bool false))), (77, .d (.v (.bool true)))] [(2, [.v (.bool g1), .v (.int .u64 (hiW (a))), .v (.int .u64 (loW (a))), .v (.int .i64 x1)]), (3, [.v (.bool g2), .v (.int .u64 (hiW (b))), .v (.int .u64 (loW (b))), .v (.int .i64 x2)]), (4, [.v (.bool false), .v (.int .u64 0), .v (.int .u64 0), .v (.int .i64 0)]), (8, [.v (.int .u64 (hiW (a * 10 ^ n / B128))), .v (.int .u64 (loW (a * 10 ^ n / B128)))]), (9, [.v (.int .u64 (hiW (a * 10 ^ n % B128))), .v (.int .u64 (loW (a * 10 ^ n % B128)))]), (10, [.v (.int .u64 (hiW (a * 10 ^ n / b))), .v (.int .u64 (loW (a * 10 ^ n / b)))]), (11, [.v (.int .u64 (hiW (a * 10 ^ n % b))), .v (.int .u64 (loW (a * 10 ^ n % b)))]), (13, [.v (.bool c60), .v (.int .u64 0), .v (.int .u64 0), .v (.int .u64 (hiW (p))), .v (.int .u64 (loW (p))), .v (.int .i64 x), .v (.bool c67)]), (15, [.v (.int .u64 (hiW (p / 10))), .v (.int .u64 (loW (p / 10)))])] (by kernel_rfl) (by kernel_rfl) (by kernel_rfl) ?_
          refine vc_seq ?_
          refine vc_seqr rfl ?_
          refine vcI_q 1 (by kernel_rfl) ?_
          refine vcI_bin (op := .neq) (t := 22) (a := .int .u64 (((p % 10 : Nat) : Int))) (b := .int .u64 0) (dst := (some 88)) (by kernel_rfl) ?_
          intro c88 hc88
          refine vcI_end 99 [(2, .p 2 0), (3, .p 3 0), (4, .p 4 0), (5, .d (.v (.bool false))), (6, .d (.v (.int .i64 z25))), (7, .d (.v (.int .i64 z39))), (8, .p 8 0), (9, .p 9 0), (10, .p 10 0), (11, .p 11 0), (13, .p 13 0), (15, .p 15 0), (16, .d (.v (.int .u64 (((p % 10 : Nat) : Int))))), (19, .d (.v (.bool false))), (27, .d (.v (.bool false))), (77, .d (.v (.bool true))), (88, .d (.v (.bool c88)))] [(2, [.v (.bool g1), .v (.int .u64 (hiW (a))), .v (.int .u64 (loW (a))), .v (.int .i64 x1)]), (3, [.v (.bool g2), .v (.int .u64 (hiW (b))), .v (.int .u64 (loW (b))), .v (.int .i64 x2)]), (4, [.v (.bool false), .v (.int .u64 0), .v (.int .u64 0), .v (.int .i64 0)]), (8, [.v (.int .u64 (hiW (a * 10 ^ n / B128))), .v (.int .u64 (loW (a * 10 ^ n / B128)))]), (9, [.v (.int .u64 (hiW (a * 10 ^ n % B128))), .v (.int .u64 (loW (a * 10 ^ n % B128)))]), (10, [.v (.int .u64 (hiW (a * 10 ^ n / b))), .v (.int .u64 (loW (a * 10 ^ n / b)))]), (11, [.v (.int .u64 (hiW (a * 10 ^ n % b))), .v (.int .u64 (loW (a * 10 ^ n % b)))]), (13, [.v (.bool c60), .v (.int .u64 0), .v (.int .u64 0), .v (.int .u64 (hiW (p))), .v (.int .u64 (loW (p))), .v (.int .i64 x), .v (.bool c67)]), (15, [.v (.int .u64 (hiW (p / 10))), .v (.int .u64 (loW (p / 10)))])] (by kernel_rfl) (by kernel_rfl) (by kernel_rfl) ?_
          cases c88
          · replace hc88 := bf hc88
            have hp10 : p % 10 = 0 := by omega
            refine vc_condf (by kernel_rfl) ?_
            refine vc_skip ?_
            refine seq_n ?_
            refine vc_reg rfl ?_
            refine vcI_q 3 (by kernel_rfl) ?_
            refine vcI_bin (op := .add) (t := 3) (a := .int .i64 x) (b := .int .i64 1) (dst := (some 92)) (by kernel_rfl) ?_
            intro z92 hz92
            first | (replace hz92 := hz92.i64 (by omega)) | skip
            refine vcI_q 4 (by kernel_rfl) ?_
            refine vcI_end 99 [(2, .p 2 0), (3, .p 3 0), (4, .p 4 0), (5, .d (.v (.bool false))), (6, .d (.v (.int .i64 z25))), (7, .d (.v (.int .i64 z39))), (8, .p 8 0), (9, .p 9 0), (10, .p 10 0), (11, .p 11 0), (13, .p 13 0), (15, .p 15 0), (16, .d (.v (.int .u64 (((p % 10 : Nat) : Int))))), (19, .d (.v (.bool false))), (27, .d (.v (.bool false))), (77, .d (.v (.bool true))), (88, .d (.v (.bool false)))] [(2, [.v (.bool g1), .v (.int .u64 (hiW (a))), .v (.int .u64 (loW (a))), .v (.int .i64 x1)]), (3, [.v (.bool g2), .v (.int .u64 (hiW (b))), .v (.int .u64 (loW (b))), .v (.int .i64 x2)]), (4, [.v (.bool false), .v (.int .u64 0), .v (.int .u64 0), .v (.int .i64 0)]), (8, [.v (.int .u64 (hiW (a * 10 ^ n / B128))), .v (.int .u64 (loW (a * 10 ^ n / B128)))]), (9, [.v (.int .u64 (hiW (a * 10 ^ n % B128))), .v (.int .u64 (loW (a * 10 ^ n % B128)))]), (10, [.v (.int .u64 (hiW (a * 10 ^ n / b))), .v (.int .u64 (loW (a * 10 ^ n / b)))]), (11, [.v (.int .u64 (hiW (a * 10 ^ n % b))), .v (.int .u64 (loW (a * 10 ^ n % b)))]), (13, [.v (.bool c60), .v (.int .u64 0), .v (.int .u64 0), .v (.int .u64 (hiW (p / 10))), .v (.int .u64 (loW (p / 10))), .v (.int .i64 z92), .v (.bool c67)]), (15, [.v (.int .u64 (hiW (p / 10))), .v (.int .u64 (loW (p / 10)))])] (by kernel_rfl) (by kernel_rfl) (by kernel_rfl) ?_
            refine block_n ?_
            refine loop_n (j + 1, p / 10, z92) (⟨by omega, by omega, by omega, by rw [hs, show n - j = (n - (j + 1)) + 1 by omega, strip_step hp10]; exact Prod.ext rfl (by simp; omega), fun h => by rw [hc] at h; cases h⟩) (by show n - (j + 1) < n - j; omega) (by kernel_rfl) (by kernel_rfl)
          · replace hc88 := bt hc88
            have hp10 : p % 10 ≠ 0 := by omega
            have hq : divQ a b = (p, j) := by rw [divQ, ← hn, if_pos hr0, hs, show n - j = (n - (j + 1)) + 1 by omega, strip_stop hp10]; simp
            refine vc_condt (by kernel_rfl) ?_
            refine vc_exit ?_
            refine seq_x ?_
            refine block_e rfl ?_
            refine loop_x ?_
            refine block_x rfl ?_
            refine seq_n ?_
            refine vc_seqr rfl ?_
            refine vcI_q 1 (by kernel_rfl) ?_
            refine vcI_call (f := 30) (ds := [.agg [.v (.bool c60), .v (.int .u64 0), .v (.int .u64 0), .v (.int .u64 (hiW (p))), .v (.int .u64 (loW (p))), .v (.int .i64 x), .v (.bool c67)], .v (.int .i64 1)]) (dst := (some 96)) (by kernel_rfl) (c_FitT1 (m := 1) (N := p) hp (by omega) (by omega)) ?_
            rintro _ ⟨g, k, x', ok, rfl, hT⟩
            refine vcI_q 4 (by kernel_rfl) ?_
            refine vcI_end 99 [(2, .p 2 0), (3, .p 3 0), (4, .p 4 0), (5, .d (.v (.bool ok))), (6, .d (.v (.int .i64 z25))), (7, .d (.v (.int .i64 z39))), (8, .p 8 0), (9, .p 9 0), (10, .p 10 0), (11, .p 11 0), (13, .p 13 0), (15, .p 15 0), (16, .d (.v (.int .u64 (((p % 10 : Nat) : Int))))), (19, .d (.v (.bool false))), (27, .d (.v (.bool false))), (77, .d (.v (.bool true))), (88, .d (.v (.bool true)))] [(2, [.v (.bool g1), .v (.int .u64 (hiW (a))), .v (.int .u64 (loW (a))), .v (.int .i64 x1)]), (3, [.v (.bool g2), .v (.int .u64 (hiW (b))), .v (.int .u64 (loW (b))), .v (.int .i64 x2)]), (4, [.v (.bool g), .v (.int .u64 (hiW (k))), .v (.int .u64 (loW (k))), .v (.int .i64 x')]), (8, [.v (.int .u64 (hiW (a * 10 ^ n / B128))), .v (.int .u64 (loW (a * 10 ^ n / B128)))]), (9, [.v (.int .u64 (hiW (a * 10 ^ n % B128))), .v (.int .u64 (loW (a * 10 ^ n % B128)))]), (10, [.v (.int .u64 (hiW (a * 10 ^ n / b))), .v (.int .u64 (loW (a * 10 ^ n / b)))]), (11, [.v (.int .u64 (hiW (a * 10 ^ n % b))), .v (.int .u64 (loW (a * 10 ^ n % b)))]), (13, [.v (.bool c60), .v (.int .u64 0), .v (.int .u64 0), .v (.int .u64 (hiW (p))), .v (.int .u64 (loW (p))), .v (.int .i64 x), .v (.bool c67)]), (15, [.v (.int .u64 (hiW (p / 10))), .v (.int .u64 (loW (p / 10)))])] (by kernel_rfl) (by kernel_rfl) (by kernel_rfl) ?_
            refine vc_ret ?_
            refine ret_2 (d := .agg [.v (.bool g), .v (.int .u64 (hiW (k))), .v (.int .u64 (loW (k))), .v (.int .i64 x')]) (e := .v (.bool ok)) (ds := []) (by kernel_rfl) ?_
            rw [qDivT, if_neg hz, divT, if_neg hz', ← hn, hq, hm, bne_of hc60, ← hjx, hT]
            rfl
    · replace hz' := bt hz'
      refine vc_condt (by kernel_rfl) ?_
      refine vc_seqr rfl ?_
      refine vcI_q 2 (by kernel_rfl) ?_
      refine vcI_call (f := 30) (ds := [.agg [.v (.bool false), .v (.int .u64 0), .v (.int .u64 0), .v (.int .u64 0), .v (.int .u64 0), .v (.int .i64 z25), .v (.bool false)], .v (.int .i64 1)]) (dst := (some 30)) (by kernel_rfl) (c_FitT0 (m := 1) (by omega) (by omega)) ?_
      rintro _ ⟨g, k, x, ok, rfl, hT⟩
      refine vcI_q 4 (by kernel_rfl) ?_
      refine vcI_end 99 [(2, .p 2 0), (3, .p 3 0), (4, .p 4 0), (5, .d (.v (.bool ok))), (6, .d (.v (.int .i64 z25))), (19, .d (.v (.bool false))), (27, .d (.v (.bool true)))] [(2, [.v (.bool g1), .v (.int .u64 (hiW (a))), .v (.int .u64 (loW (a))), .v (.int .i64 x1)]), (3, [.v (.bool g2), .v (.int .u64 (hiW (b))), .v (.int .u64 (loW (b))), .v (.int .i64 x2)]), (4, [.v (.bool g), .v (.int .u64 (hiW (k))), .v (.int .u64 (loW (k))), .v (.int .i64 x)])] (by kernel_rfl) (by kernel_rfl) (by kernel_rfl) ?_
      refine vc_ret ?_
      refine seq_r ?_
      refine ret_2 (d := .agg [.v (.bool g), .v (.int .u64 (hiW (k))), .v (.int .u64 (loW (k))), .v (.int .i64 x)]) (e := .v (.bool ok)) (ds := []) (by kernel_rfl) ?_
      rw [qDivT, if_neg hz, divT, if_pos hz', ← hz25, hT]
      rfl
  · replace hz := bt hz
    refine vc_condt (by kernel_rfl) ?_
    refine vc_seqr rfl ?_
    refine vcI_q 3 (by kernel_rfl) ?_
    refine vcI_end 99 [(2, .p 2 0), (3, .p 3 0), (4, .p 4 0), (5, .d (.v (.bool false))), (19, .d (.v (.bool true)))] [(2, [.v (.bool g1), .v (.int .u64 (hiW (a))), .v (.int .u64 (loW (a))), .v (.int .i64 x1)]), (3, [.v (.bool g2), .v (.int .u64 (hiW (b))), .v (.int .u64 (loW (b))), .v (.int .i64 x2)]), (4, [.v (.bool false), .v (.int .u64 0), .v (.int .u64 0), .v (.int .i64 0)])] (by kernel_rfl) (by kernel_rfl) (by kernel_rfl) ?_
    refine vc_ret ?_
    refine seq_r ?_
    refine ret_2 (d := .agg [.v (.bool false), .v (.int .u64 0), .v (.int .u64 0), .v (.int .i64 0)]) (e := .v (.bool false)) (ds := []) (by kernel_rfl) ?_
    rw [qDivT, if_pos hz]
    rfl

end Go.Proofs.Ytdlfgliokkgceaa
