/-
  dec.Fit's answer as plain data; dec.Mul, Abs, Sign; quot.digits.
-/
import Derived.Test.YtdlfgliokkgceaaDec3
namespace Go.Proofs.Ytdlfgliokkgceaa
open Go.RowKit
set_option linter.unusedVariables false
set_option linter.unusedSimpArgs false
set_option maxRecDepth 100000

def fitE (neg : Bool) (n : Nat) (e : Int) : Bool × Nat × Int × Bool :=
  if n = 0 then (false, 0, max (-6176) (min e 6111), true)
  else if 6111 < e - fitD n e then (false, 0, 0, false)
  else (neg, n * 10 ^ fitD n e, max (e - fitD n e) (-6176), true)
/-- Sign, coefficient, exponent of the number that is fitted, and whether there is one. -/
noncomputable def fitT (m : Int) (neg : Bool) (N : Nat) (e : Int) (more : Bool) : Bool × Nat × Int × Bool := fitE neg (fit2N m neg (fit1N m neg N e more)) (fit2E (fit1N m neg N e more) (fit1E N e more))
theorem fitEnd_eq (neg : Bool) (n : Nat) (e : Int) : ∃ g k x ok, fitEnd neg n e = .tup [dDec g k x, .v (.bool ok)] ∧ fitE neg n e = (g, k, x, ok) := by
  unfold fitEnd fitE
  split
  · exact ⟨_, _, _, _, rfl, rfl⟩
  · split
    · exact ⟨_, _, _, _, rfl, rfl⟩
    · exact ⟨_, _, _, _, rfl, rfl⟩
theorem c_FitT {m e : Int} {neg more : Bool} {hi lo N : Nat} (hN : N = hi * B128 + lo) (hhi : hi < B128) (hlo : lo < B128) (he0 : -1000000000000000000 ≤ e) (he1 : e ≤ 1000000000000000000) :
    HasC Try.prog 30 [dWide neg hi lo e more, .v (.int .i64 m)] (fun y => ∃ g k x ok, y = .tup [dDec g k x, .v (.bool ok)] ∧ fitT m neg N e more = (g, k, x, ok)) := by
  subst hN
  refine (c_Fit hhi hlo he0 he1).mono fun y hy => ?_
  obtain ⟨g, k, x, ok, h1, h2⟩ := fitEnd_eq neg (fit2N m neg (fit1N m neg (hi * B128 + lo) e more)) (fit2E (fit1N m neg (hi * B128 + lo) e more) (fit1E (hi * B128 + lo) e more))
  exact ⟨g, k, x, ok, hy.trans h1, h2⟩

theorem c_decMul {g1 g2 : Bool} {a b : Nat} {x1 x2 : Int} (ha : a < B128) (hb : b < B128) (h1 : -100000000000000000 ≤ x1) (h2 : x1 ≤ 100000000000000000) (h3 : -100000000000000000 ≤ x2) (h4 : x2 ≤ 100000000000000000) : HasC Try.prog 23 [.agg [.v (.bool g1), .v (.int .u64 (hiW (a))), .v (.int .u64 (loW (a))), .v (.int .i64 x1)], .agg [.v (.bool g2), .v (.int .u64 (hiW (b))), .v (.int .u64 (loW (b))), .v (.int .i64 x2)]] (fun y => ∃ g k x ok s, y = .tup [dDec g k x, .v (.bool ok)] ∧ (s = true ↔ g1 ≠ g2) ∧ fitT 1 s (a * b) (x1 + x2) false = (g, k, x, ok)) := by
  refine HasC.of [] (fn := Try.f23) tyOk mixed (fun args w => Try.call23 args w) Try.func23 rfl (by kernel_rfl) (Nat.le_of_ble_eq_true rfl) (⟨_, _, _, _, _, g1 != g2, rfl, by simp, rfl⟩) ?_
  refine vc_seqr rfl ?_
  refine vcI_q 4 (by kernel_rfl) ?_
  refine vcI_end 32 [(2, .p 2 0), (3, .p 3 0), (4, .p 4 0), (5, .d (.v (.bool false)))] [(2, [.v (.bool g1), .v (.int .u64 (hiW (a))), .v (.int .u64 (loW (a))), .v (.int .i64 x1)]), (3, [.v (.bool g2), .v (.int .u64 (hiW (b))), .v (.int .u64 (loW (b))), .v (.int .i64 x2)]), (4, [.v (.bool false), .v (.int .u64 0), .v (.int .u64 0), .v (.int .i64 0)])] (by kernel_rfl) (by kernel_rfl) (by kernel_rfl) ?_
  refine vc_seqr rfl ?_
  refine vcI_q 4 (by kernel_rfl) ?_
  refine vcI_call (f := 44) (ds := [.agg [.v (.int .u64 (hiW (a))), .v (.int .u64 (loW (a)))], .agg [.v (.int .u64 (hiW (b))), .v (.int .u64 (loW (b)))]]) (dst := (some 13)) (by kernel_rfl) (cw_Mul ha hb) ?_
  rintro _ rfl
  refine vcI_q 7 (by kernel_rfl) ?_
  refine vcI_end 32 [(2, .p 2 0), (3, .p 3 0), (4, .p 4 0), (5, .d (.v (.bool false))), (6, .p 6 0), (7, .p 7 0)] [(2, [.v (.bool g1), .v (.int .u64 (hiW (a))), .v (.int .u64 (loW (a))), .v (.int .i64 x1)]), (3, [.v (.bool g2), .v (.int .u64 (hiW (b))), .v (.int .u64 (loW (b))), .v (.int .i64 x2)]), (4, [.v (.bool false), .v (.int .u64 0), .v (.int .u64 0), .v (.int .i64 0)]), (6, [.v (.int .u64 (hiW (a * b / B128))), .v (.int .u64 (loW (a * b / B128)))]), (7, [.v (.int .u64 (hiW (a * b % B128))), .v (.int .u64 (loW (a * b % B128)))])] (by kernel_rfl) (by kernel_rfl) (by kernel_rfl) ?_
  refine vc_seqr rfl ?_
  refine vcI_q 4 (by kernel_rfl) ?_
  refine vcI_bin (op := .neq) (t := 4) (a := .bool g1) (b := .bool g2) (dst := (some 20)) (by kernel_rfl) ?_
  intro c20 hc20
  refine vcI_q 6 (by kernel_rfl) ?_
  refine vcI_bin (op := .add) (t := 3) (a := .int .i64 x1) (b := .int .i64 x2) (dst := (some 27)) (by kernel_rfl) ?_
  intro z27 hz27
  first | (replace hz27 := hz27.i64 (by omega)) | skip
  refine vcI_q 1 (by kernel_rfl) ?_
  refine vcI_call (f := 30) (ds := [.agg [.v (.bool c20), .v (.int .u64 (hiW (a * b / B128))), .v (.int .u64 (loW (a * b / B128))), .v (.int .u64 (hiW (a * b % B128))), .v (.int .u64 (loW (a * b % B128))), .v (.int .i64 z27), .v (.bool false)], .v (.int .i64 1)]) (dst := (some 29)) (by kernel_rfl) (c_FitT (m := 1) (N := a * b) (Nat.div_add_mod' (a * b) B128).symm (Nat.div_lt_of_lt_mul (Nat.mul_lt_mul'' ha hb)) (mod_lt128 _) (by omega) (by omega)) ?_
  rintro _ ⟨g, k, x, ok, rfl, hT⟩
  refine vcI_q 4 (by kernel_rfl) ?_
  refine vcI_end 32 [(2, .p 2 0), (3, .p 3 0), (4, .p 4 0), (5, .d (.v (.bool ok))), (6, .p 6 0), (7, .p 7 0)] [(2, [.v (.bool g1), .v (.int .u64 (hiW (a))), .v (.int .u64 (loW (a))), .v (.int .i64 x1)]), (3, [.v (.bool g2), .v (.int .u64 (hiW (b))), .v (.int .u64 (loW (b))), .v (.int .i64 x2)]), (4, [.v (.bool g), .v (.int .u64 (hiW (k))), .v (.int .u64 (loW (k))), .v (.int .i64 x)]), (6, [.v (.int .u64 (hiW (a * b / B128))), .v (.int .u64 (loW (a * b / B128)))]), (7, [.v (.int .u64 (hiW (a * b % B128))), .v (.int .u64 (loW (a * b % B128)))])] (by kernel_rfl) (by kernel_rfl) (by kernel_rfl) ?_
  refine vc_ret ?_
  refine ret_2 (d := .agg [.v (.bool g), .v (.int .u64 (hiW (k))), .v (.int .u64 (loW (k))), .v (.int .i64 x)]) (e := .v (.bool ok)) (ds := []) (by kernel_rfl) ?_
  exact ⟨_, _, _, _, _, rfl, hc20, hz27 ▸ hT⟩

theorem c_qdigits {g : Bool} {a : Nat} {x : Int} (ha : a < B128) : HasC Try.prog 31 [.agg [.v (.bool g), .v (.int .u64 (hiW (a))), .v (.int .u64 (loW (a))), .v (.int .i64 x)]] (fun y => y = .v (.int .i64 (nd a))) := by
  refine HasC.of [] (fn := Try.f31) tyOk mixed (fun args w => Try.call31 args w) Try.func31 rfl (by kernel_rfl) (Nat.le_of_ble_eq_true rfl) (⟨_, rfl⟩) ?_
  refine vc_seqr rfl ?_
  refine vcI_q 2 (by kernel_rfl) ?_
  refine vcI_end 7 [(1, .p 1 0), (2, .d (.v (.int .i64 0)))] [(1, [.v (.bool g), .v (.int .u64 (hiW (a))), .v (.int .u64 (loW (a))), .v (.int .i64 x)])] (by kernel_rfl) (by kernel_rfl) (by kernel_rfl) ?_
  refine vc_seqr rfl ?_
  refine vcI_q 3 (by kernel_rfl) ?_
  refine vcI_call (f := 50) (ds := [.agg [.v (.int .u64 0), .v (.int .u64 0)], .agg [.v (.int .u64 (hiW (a))), .v (.int .u64 (loW (a)))]]) (dst := (some 6)) (by kernel_rfl) (cw_Digits0 ha) ?_
  rintro _ rfl
  refine vcI_q 1 (by kernel_rfl) ?_
  refine vcI_end 7 [(2, .d (.v (.int .i64 ((nd a : Int)))))] [] (by kernel_rfl) (by kernel_rfl) (by kernel_rfl) ?_
  refine vc_ret ?_
  refine ret_1 (d := .v (.int .i64 ((nd a : Int)))) (by kernel_rfl) ?_
  rfl

theorem c_Abs {g : Bool} {a : Nat} {x : Int} : HasC Try.prog 25 [.agg [.v (.bool g), .v (.int .u64 (hiW (a))), .v (.int .u64 (loW (a))), .v (.int .i64 x)]] (fun y => y = dDec false a x) := by
  refine HasC.of [] (fn := Try.f25) tyOk mixed (fun args w => Try.call25 args w) Try.func25 rfl (by kernel_rfl) (Nat.le_of_ble_eq_true rfl) (⟨_, rfl⟩) ?_
  refine vc_seqr rfl ?_
  refine vcI_q 2 (by kernel_rfl) ?_
  refine vcI_end 5 [(1, .p 1 0), (2, .p 2 0)] [(1, [.v (.bool g), .v (.int .u64 (hiW (a))), .v (.int .u64 (loW (a))), .v (.int .i64 x)]), (2, [.v (.bool false), .v (.int .u64 0), .v (.int .u64 0), .v (.int .i64 0)])] (by kernel_rfl) (by kernel_rfl) (by kernel_rfl) ?_
  refine vc_seqr rfl ?_
  refine vcI_q 2 (by kernel_rfl) ?_
  refine vcI_end 5 [(1, .p 1 0), (2, .p 2 0)] [(1, [.v (.bool false), .v (.int .u64 (hiW (a))), .v (.int .u64 (loW (a))), .v (.int .i64 x)]), (2, [.v (.bool false), .v (.int .u64 0), .v (.int .u64 0), .v (.int .i64 0)])] (by kernel_rfl) (by kernel_rfl) (by kernel_rfl) ?_
  refine vc_seqr rfl ?_
  refine vcI_q 2 (by kernel_rfl) ?_
  refine vcI_end 5 [(1, .p 1 0), (2, .p 2 0)] [(1, [.v (.bool false), .v (.int .u64 (hiW (a))), .v (.int .u64 (loW (a))), .v (.int .i64 x)]), (2, [.v (.bool false), .v (.int .u64 (hiW (a))), .v (.int .u64 (loW (a))), .v (.int .i64 x)])] (by kernel_rfl) (by kernel_rfl) (by kernel_rfl) ?_
  refine vc_ret ?_
  refine ret_1 (d := .agg [.v (.bool false), .v (.int .u64 (hiW (a))), .v (.int .u64 (loW (a))), .v (.int .i64 x)]) (by kernel_rfl) ?_
  rfl

end Go.Proofs.Ytdlfgliokkgceaa
