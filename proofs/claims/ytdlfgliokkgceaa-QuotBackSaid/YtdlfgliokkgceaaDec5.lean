/-
  dec.Sign, dec.Int; quot.raised.
-/
import Derived.Test.YtdlfgliokkgceaaDec4
namespace Go.Proofs.Ytdlfgliokkgceaa
open Go.RowKit
set_option linter.unusedVariables false
set_option linter.unusedSimpArgs false
set_option maxRecDepth 100000

theorem c_Sign {g : Bool} {a : Nat} {x : Int} (ha : a < B128) : HasC Try.prog 19 [.agg [.v (.bool g), .v (.int .u64 (hiW (a))), .v (.int .u64 (loW (a))), .v (.int .i64 x)]] (fun y => y = .v (.int .i64 (if a = 0 then 0 else if g = true then -1 else 1))) := by
  refine HasC.of [] (fn := Try.f19) tyOk mixed (fun args w => Try.call19 args w) Try.func19 rfl (by kernel_rfl) (Nat.le_of_ble_eq_true rfl) (⟨_, rfl⟩) ?_
  refine vc_seqr rfl ?_
  refine vcI_q 2 (by kernel_rfl) ?_
  refine vcI_end 10 [(1, .p 1 0), (2, .d (.v (.int .i64 0)))] [(1, [.v (.bool g), .v (.int .u64 (hiW (a))), .v (.int .u64 (loW (a))), .v (.int .i64 x)])] (by kernel_rfl) (by kernel_rfl) (by kernel_rfl) ?_
  refine vc_seq ?_
  refine vc_block ?_
  refine vc_seqr rfl ?_
  refine vcI_q 2 (by kernel_rfl) ?_
  refine vcI_call (f := 29) (ds := [.agg [.v (.int .u64 (hiW (a))), .v (.int .u64 (loW (a)))]]) (dst := (some 6)) (by kernel_rfl) (cw_Zero ha) ?_
  rintro _ ⟨z, rfl, hz⟩
  refine vcI_q 1 (by kernel_rfl) ?_
  refine vcI_end 10 [(1, .p 1 0), (2, .d (.v (.int .i64 0))), (3, .d (.v (.bool z)))] [(1, [.v (.bool g), .v (.int .u64 (hiW (a))), .v (.int .u64 (loW (a))), .v (.int .i64 x)])] (by kernel_rfl) (by kernel_rfl) (by kernel_rfl) ?_
  cases z
  · replace hz := bf hz
    refine vc_condf (by kernel_rfl) ?_
    refine vc_seqr rfl ?_
    refine vcI_q 3 (by kernel_rfl) ?_
    refine vcI_end 10 [(1, .p 1 0), (2, .d (.v (.int .i64 0))), (3, .d (.v (.bool false))), (7, .d (.v (.bool g)))] [(1, [.v (.bool g), .v (.int .u64 (hiW (a))), .v (.int .u64 (loW (a))), .v (.int .i64 x)])] (by kernel_rfl) (by kernel_rfl) (by kernel_rfl) ?_
    cases g
    · skip
      refine vc_condf (by kernel_rfl) ?_
      refine vc_skip ?_
      refine block_n ?_
      refine seq_n ?_
      refine vc_seqr rfl ?_
      refine vcI_q 1 (by kernel_rfl) ?_
      refine vcI_end 10 [(1, .p 1 0), (2, .d (.v (.int .i64 1))), (3, .d (.v (.bool false))), (7, .d (.v (.bool false)))] [(1, [.v (.bool false), .v (.int .u64 (hiW (a))), .v (.int .u64 (loW (a))), .v (.int .i64 x)])] (by kernel_rfl) (by kernel_rfl) (by kernel_rfl) ?_
      refine vc_ret ?_
      refine ret_1 (d := .v (.int .i64 1)) (by kernel_rfl) ?_
      rw [if_neg hz, if_neg (by simp)]
    · skip
      refine vc_condt (by kernel_rfl) ?_
      refine vc_seqr rfl ?_
      refine vcI_q 1 (by kernel_rfl) ?_
      refine vcI_end 10 [(1, .p 1 0), (2, .d (.v (.int .i64 (-1)))), (3, .d (.v (.bool false))), (7, .d (.v (.bool true)))] [(1, [.v (.bool true), .v (.int .u64 (hiW (a))), .v (.int .u64 (loW (a))), .v (.int .i64 x)])] (by kernel_rfl) (by kernel_rfl) (by kernel_rfl) ?_
      refine vc_ret ?_
      refine block_r ?_
      refine seq_r ?_
      refine ret_1 (d := .v (.int .i64 (-1))) (by kernel_rfl) ?_
      rw [if_neg hz, if_pos rfl]
  · replace hz := bt hz
    refine vc_condt (by kernel_rfl) ?_
    refine vc_seqr rfl ?_
    refine vcI_q 1 (by kernel_rfl) ?_
    refine vcI_end 10 [(1, .p 1 0), (2, .d (.v (.int .i64 0))), (3, .d (.v (.bool true)))] [(1, [.v (.bool g), .v (.int .u64 (hiW (a))), .v (.int .u64 (loW (a))), .v (.int .i64 x)])] (by kernel_rfl) (by kernel_rfl) (by kernel_rfl) ?_
    refine vc_ret ?_
    refine block_r ?_
    refine seq_r ?_
    refine ret_1 (d := .v (.int .i64 0)) (by kernel_rfl) ?_
    rw [if_pos hz]

theorem raise_step {h l T : Nat} (hT : T = h * B128 + l) (hh : h < B128) (hl : l < B128) (hb : T * 10 < B128 * B128) :
    (h * 10 % B128 + l * 10 / B128) % B128 * B128 + l * 10 % B128 = T * 10 ∧ l * 10 / B128 < 18446744073709551616 := by
  have hp : 0 < B128 := by decide
  have h1 : l * 10 / B128 < 10 := Nat.div_lt_of_lt_mul (by omega)
  have e1 := Nat.div_add_mod' (l * 10) B128
  have e2 : (h * 10 + l * 10 / B128) * B128 ≤ T * 10 := by rw [Nat.add_mul, hT, Nat.mul_right_comm h 10 B128]; omega
  have h2 : h * 10 + l * 10 / B128 < B128 := Nat.lt_of_mul_lt_mul_right (a := B128) (Nat.lt_of_le_of_lt e2 hb)
  refine ⟨?_, by omega⟩
  rw [Nat.mod_eq_of_lt (Nat.lt_of_le_of_lt (Nat.le_add_right _ _) h2), Nat.mod_eq_of_lt h2, Nat.add_mul, hT, Nat.mul_right_comm h 10 B128]
  omega

set_option maxHeartbeats 1600000 in
theorem c_raised {a n : Nat} (ha : a < B128) (hn : n ≤ 1000) (hb : a * 10 ^ n < B128 * B128) : HasC Try.prog 32 [.agg [.v (.int .u64 (hiW (a))), .v (.int .u64 (loW (a)))], .v (.int .i64 ((n : Int)))] (fun y => y = .tup [dU (a * 10 ^ n / B128), dU (a * 10 ^ n % B128)]) := by
  refine HasC.of [10] (fn := Try.f32) tyOk mixed (fun args w => Try.call32 args w) Try.func32 rfl (by kernel_rfl) (Nat.le_of_ble_eq_true rfl) (⟨_, rfl⟩) ?_
  refine vc_seqr rfl ?_
  refine vcI_q 3 (by kernel_rfl) ?_
  refine vcI_end 50 [(1, .d (.v (.int .i64 ((n : Int))))), (2, .p 2 0), (4, .p 4 0), (5, .p 5 0)] [(2, [.v (.int .u64 (hiW (a))), .v (.int .u64 (loW (a)))]), (4, [.v (.int .u64 0), .v (.int .u64 0)]), (5, [.v (.int .u64 0), .v (.int .u64 0)])] (by kernel_rfl) (by kernel_rfl) (by kernel_rfl) ?_
  refine vc_seqr rfl ?_
  refine vcI_q 1 (by kernel_rfl) ?_
  refine vcI_blt (b := .min) (tys := [3, 3]) (vs := [.int .i64 ((n : Int)), .int .i64 38]) (dst := (some 14)) (by kernel_rfl) ?_
  intro z14 hz14
  simp only at hz14
  refine vcI_call (f := 27) (ds := [.v (.int .i64 z14)]) (dst := (some 15)) (by kernel_rfl) (cw_Ten (k := z14) (by omega) (by omega)) ?_
  rintro _ rfl
  have ht : 10 ^ z14.toNat < B128 := Nat.lt_of_le_of_lt (Nat.pow_le_pow_right (by decide) (show z14.toNat ≤ 38 by omega)) (by decide)
  refine vcI_q 6 (by kernel_rfl) ?_
  refine vcI_end 50 [(1, .d (.v (.int .i64 ((n : Int))))), (2, .p 2 0), (4, .p 4 0), (5, .p 5 0), (6, .p 6 0)] [(2, [.v (.int .u64 (hiW (a))), .v (.int .u64 (loW (a)))]), (4, [.v (.int .u64 0), .v (.int .u64 0)]), (5, [.v (.int .u64 0), .v (.int .u64 0)]), (6, [.v (.int .u64 (hiW (10 ^ z14.toNat))), .v (.int .u64 (loW (10 ^ z14.toNat)))])] (by kernel_rfl) (by kernel_rfl) (by kernel_rfl) ?_
  refine vc_seqr rfl ?_
  refine vcI_q 2 (by kernel_rfl) ?_
  refine vcI_call (f := 44) (ds := [.agg [.v (.int .u64 (hiW (a))), .v (.int .u64 (loW (a)))], .agg [.v (.int .u64 (hiW (10 ^ z14.toNat))), .v (.int .u64 (loW (10 ^ z14.toNat)))]]) (dst := (some 21)) (by kernel_rfl) (cw_Mul ha ht) ?_
  rintro _ rfl
  refine vcI_q 7 (by kernel_rfl) ?_
  refine vcI_end 50 [(1, .d (.v (.int .i64 ((n : Int))))), (4, .p 4 0), (5, .p 5 0), (6, .p 6 0), (8, .p 8 0), (9, .p 9 0)] [(4, [.v (.int .u64 0), .v (.int .u64 0)]), (5, [.v (.int .u64 0), .v (.int .u64 0)]), (6, [.v (.int .u64 (hiW (10 ^ z14.toNat))), .v (.int .u64 (loW (10 ^ z14.toNat)))]), (8, [.v (.int .u64 (hiW (a * 10 ^ z14.toNat / B128))), .v (.int .u64 (loW (a * 10 ^ z14.toNat / B128)))]), (9, [.v (.int .u64 (hiW (a * 10 ^ z14.toNat % B128))), .v (.int .u64 (loW (a * 10 ^ z14.toNat % B128)))])] (by kernel_rfl) (by kernel_rfl) (by kernel_rfl) ?_
  refine vc_seq ?_
  refine vc_seqr rfl ?_
  refine vcI_q 1 (by kernel_rfl) ?_
  refine vcI_bin (op := .sub) (t := 3) (a := .int .i64 ((n : Int))) (b := .int .i64 38) (dst := (some 25)) (by kernel_rfl) ?_
  intro z25 hz25
  first | (replace hz25 := hz25.i64 (by omega)) | skip
  refine vcI_q 1 (by kernel_rfl) ?_
  refine vcI_end 50 [(1, .d (.v (.int .i64 z25))), (4, .p 4 0), (5, .p 5 0), (6, .p 6 0), (8, .p 8 0), (9, .p 9 0)] [(4, [.v (.int .u64 0), .v (.int .u64 0)]), (5, [.v (.int .u64 0), .v (.int .u64 0)]), (6, [.v (.int .u64 (hiW (10 ^ z14.toNat))), .v (.int .u64 (loW (10 ^ z14.toNat)))]), (8, [.v (.int .u64 (hiW (a * 10 ^ z14.toNat / B128))), .v (.int .u64 (loW (a * 10 ^ z14.toNat / B128)))]), (9, [.v (.int .u64 (hiW (a * 10 ^ z14.toNat % B128))), .v (.int .u64 (loW (a * 10 ^ z14.toNat % B128)))])] (by kernel_rfl) (by kernel_rfl) (by kernel_rfl) ?_
  refine vc_block ?_
  refine vc_loop 50 (fun (vcx : Nat × Nat × Nat × Int) => match vcx with | (j, h, l, c) => [(1, .d (.v (.int .i64 c))), (4, .p 4 0), (5, .p 5 0), (6, .p 6 0), (8, .p 8 0), (9, .p 9 0)]) (fun (vcx : Nat × Nat × Nat × Int) => match vcx with | (j, h, l, c) => [(4, [.v (.int .u64 0), .v (.int .u64 0)]), (5, [.v (.int .u64 0), .v (.int .u64 0)]), (6, [.v (.int .u64 (hiW (10 ^ z14.toNat))), .v (.int .u64 (loW (10 ^ z14.toNat)))]), (8, [.v (.int .u64 (hiW (h))), .v (.int .u64 (loW (h)))]), (9, [.v (.int .u64 (hiW (l))), .v (.int .u64 (loW (l)))])]) (fun (vcx : Nat × Nat × Nat × Int) => match vcx with | (j, h, l, c) => a * 10 ^ j = h * B128 + l ∧ h < B128 ∧ l < B128 ∧ (j : Int) + max 0 c = n) (fun (vcx : Nat × Nat × Nat × Int) => match vcx with | (j, h, l, c) => c.toNat) ((z14.toNat, a * 10 ^ z14.toNat / B128, a * 10 ^ z14.toNat % B128, z25)) (⟨(Nat.div_add_mod' _ _).symm, Nat.div_lt_of_lt_mul (Nat.mul_lt_mul'' ha ht), mod_lt128 _, by omega⟩) (by kernel_rfl) (by kernel_rfl) ?_
  rintro ⟨j, h, l, c⟩ hinv
  simp only at hinv
  obtain ⟨i1, i2, i3, i4⟩ := hinv
  refine vc_seq ?_
  refine vc_seqr rfl ?_
  refine vcI_q 1 (by kernel_rfl) ?_
  refine vcI_bin (op := .gtr) (t := 3) (a := .int .i64 c) (b := .int .i64 0) (dst := (some 27)) (by kernel_rfl) ?_
  intro c27 hc27
  refine vcI_end 50 [(1, .d (.v (.int .i64 c))), (4, .p 4 0), (5, .p 5 0), (6, .p 6 0), (8, .p 8 0), (9, .p 9 0), (27, .d (.v (.bool c27)))] [(4, [.v (.int .u64 0), .v (.int .u64 0)]), (5, [.v (.int .u64 0), .v (.int .u64 0)]), (6, [.v (.int .u64 (hiW (10 ^ z14.toNat))), .v (.int .u64 (loW (10 ^ z14.toNat)))]), (8, [.v (.int .u64 (hiW (h))), .v (.int .u64 (loW (h)))]), (9, [.v (.int .u64 (hiW (l))), .v (.int .u64 (loW (l)))])] (by kernel_rfl) (by kernel_rfl) (by kernel_rfl) ?_
  cases c27
  · replace hc27 := bf hc27
    have hj : j = n := by omega
    have e1 : a * 10 ^ n / B128 = h ∧ a * 10 ^ n % B128 = l := by rw [← hj, i1]; exact b128_div i3
    refine vc_condf (by kernel_rfl) ?_
    refine vc_exit ?_
    refine seq_x ?_
    refine loop_x ?_
    refine block_x rfl ?_
    refine seq_n ?_
    refine vc_seqrx rfl (by kernel_rfl) ?_
    refine vcI_q 4 (by kernel_rfl) ?_
    refine vcI_end 50 [(1, .d (.v (.int .i64 c))), (4, .p 4 0), (5, .p 5 0), (6, .p 6 0), (8, .p 8 0), (9, .p 9 0), (27, .d (.v (.bool false)))] [(4, [.v (.int .u64 (hiW (h))), .v (.int .u64 (loW (h)))]), (5, [.v (.int .u64 (hiW (l))), .v (.int .u64 (loW (l)))]), (6, [.v (.int .u64 (hiW (10 ^ z14.toNat))), .v (.int .u64 (loW (10 ^ z14.toNat)))]), (8, [.v (.int .u64 (hiW (h))), .v (.int .u64 (loW (h)))]), (9, [.v (.int .u64 (hiW (l))), .v (.int .u64 (loW (l)))])] (by kernel_rfl) (by kernel_rfl) (by kernel_rfl) ?_
    refine vc_ret ?_
    refine ret_2 (d := .agg [.v (.int .u64 (hiW (h))), .v (.int .u64 (loW (h)))]) (e := .agg [.v (.int .u64 (hiW (l))), .v (.int .u64 (loW (l)))]) (ds := []) (by kernel_rfl) ?_
    rw [e1.1, e1.2]
    rfl
  · replace hc27 := bt hc27
    have hjn : a * 10 ^ j * 10 < B128 * B128 := by rw [Nat.mul_assoc, ← Nat.pow_succ]; exact Nat.lt_of_le_of_lt (Nat.mul_le_mul_left _ (Nat.pow_le_pow_right (by decide) (by omega))) hb
    obtain ⟨r1, r2⟩ := raise_step i1 i2 i3 hjn
    refine vc_condt (by kernel_rfl) ?_
    refine vc_skip ?_
    refine seq_n ?_
    refine vc_seq ?_
    refine vc_block ?_
    refine vc_seqr rfl ?_
    refine vcI_q 1 (by kernel_rfl) ?_
    refine vcI_call (f := 47) (ds := [.agg [.v (.int .u64 (hiW (l))), .v (.int .u64 (loW (l)))], .v (.int .u64 10)]) (dst := (some 32)) (by kernel_rfl) (cw_MulWord (n := 10) i3 (by decide)) ?_
    rintro _ rfl
    refine vcI_q 6 (by kernel_rfl) ?_
    refine vcI_end 50 [(1, .d (.v (.int .i64 c))), (4, .p 4 0), (5, .p 5 0), (6, .p 6 0), (8, .p 8 0), (9, .p 9 0), (10, .d (.v (.int .u64 (((l * 10 / B128 : Nat) : Int))))), (11, .p 11 0), (27, .d (.v (.bool true)))] [(4, [.v (.int .u64 0), .v (.int .u64 0)]), (5, [.v (.int .u64 0), .v (.int .u64 0)]), (6, [.v (.int .u64 (hiW (10 ^ z14.toNat))), .v (.int .u64 (loW (10 ^ z14.toNat)))]), (8, [.v (.int .u64 (hiW (h))), .v (.int .u64 (loW (h)))]), (9, [.v (.int .u64 (hiW (l))), .v (.int .u64 (loW (l)))]), (11, [.v (.int .u64 (hiW (l * 10 % B128))), .v (.int .u64 (loW (l * 10 % B128)))])] (by kernel_rfl) (by kernel_rfl) (by kernel_rfl) ?_
    refine vc_seqr rfl ?_
    refine vcI_q 1 (by kernel_rfl) ?_
    refine vcI_call (f := 47) (ds := [.agg [.v (.int .u64 (hiW (h))), .v (.int .u64 (loW (h)))], .v (.int .u64 10)]) (dst := (some 37)) (by kernel_rfl) (cw_MulWord (n := 10) i2 (by decide)) ?_
    rintro _ rfl
    refine vcI_q 4 (by kernel_rfl) ?_
    refine vcI_end 50 [(1, .d (.v (.int .i64 c))), (4, .p 4 0), (5, .p 5 0), (6, .p 6 0), (8, .p 8 0), (9, .p 9 0), (10, .d (.v (.int .u64 (((l * 10 / B128 : Nat) : Int))))), (11, .p 11 0), (27, .d (.v (.bool true)))] [(4, [.v (.int .u64 0), .v (.int .u64 0)]), (5, [.v (.int .u64 0), .v (.int .u64 0)]), (6, [.v (.int .u64 (hiW (10 ^ z14.toNat))), .v (.int .u64 (loW (10 ^ z14.toNat)))]), (8, [.v (.int .u64 (hiW (h * 10 % B128))), .v (.int .u64 (loW (h * 10 % B128)))]), (9, [.v (.int .u64 (hiW (l))), .v (.int .u64 (loW (l)))]), (11, [.v (.int .u64 (hiW (l * 10 % B128))), .v (.int .u64 (loW (l * 10 % B128)))])] (by kernel_rfl) (by kernel_rfl) (by kernel_rfl) ?_
    refine vc_seqr rfl ?_
    refine vcI_q 2 (by kernel_rfl) ?_
    refine vcI_call (f := 21) (ds := [.v (.int .u64 (((l * 10 / B128 : Nat) : Int)))]) (dst := (some 43)) (by kernel_rfl) (cw_OfN r2) ?_
    rintro _ rfl
    refine vcI_call (f := 52) (ds := [.agg [.v (.int .u64 (hiW (h * 10 % B128))), .v (.int .u64 (loW (h * 10 % B128)))], .agg [.v (.int .u64 (hiW (l * 10 / B128))), .v (.int .u64 (loW (l * 10 / B128)))]]) (dst := (some 44)) (by kernel_rfl) (cw_Add (mod_lt128 (h * 10)) (Nat.lt_trans r2 (by decide))) ?_
    rintro _ rfl
    refine vcI_q 4 (by kernel_rfl) ?_
    refine vcI_end 50 [(1, .d (.v (.int .i64 c))), (4, .p 4 0), (5, .p 5 0), (6, .p 6 0), (8, .p 8 0), (9, .p 9 0), (10, .d (.v (.int .u64 (((l * 10 / B128 : Nat) : Int))))), (11, .p 11 0), (27, .d (.v (.bool true)))] [(4, [.v (.int .u64 0), .v (.int .u64 0)]), (5, [.v (.int .u64 0), .v (.int .u64 0)]), (6, [.v (.int .u64 (hiW (10 ^ z14.toNat))), .v (.int .u64 (loW (10 ^ z14.toNat)))]), (8, [.v (.int .u64 (hiW ((h * 10 % B128 + l * 10 / B128) % B128))), .v (.int .u64 (loW ((h * 10 % B128 + l * 10 / B128) % B128)))]), (9, [.v (.int .u64 (hiW (l))), .v (.int .u64 (loW (l)))]), (11, [.v (.int .u64 (hiW (l * 10 % B128))), .v (.int .u64 (loW (l * 10 % B128)))])] (by kernel_rfl) (by kernel_rfl) (by kernel_rfl) ?_
    refine vc_reg rfl ?_
    refine vcI_q 2 (by kernel_rfl) ?_
    refine vcI_end 50 [(1, .d (.v (.int .i64 c))), (4, .p 4 0), (5, .p 5 0), (6, .p 6 0), (8, .p 8 0), (9, .p 9 0), (10, .d (.v (.int .u64 (((l * 10 / B128 : Nat) : Int))))), (11, .p 11 0), (27, .d (.v (.bool true)))] [(4, [.v (.int .u64 0), .v (.int .u64 0)]), (5, [.v (.int .u64 0), .v (.int .u64 0)]), (6, [.v (.int .u64 (hiW (10 ^ z14.toNat))), .v (.int .u64 (loW (10 ^ z14.toNat)))]), (8, [.v (.int .u64 (hiW ((h * 10 % B128 + l * 10 / B128) % B128))), .v (.int .u64 (loW ((h * 10 % B128 + l * 10 / B128) % B128)))]), (9, [.v (.int .u64 (hiW (l * 10 % B128))), .v (.int .u64 (loW (l * 10 % B128)))]), (11, [.v (.int .u64 (hiW (l * 10 % B128))), .v (.int .u64 (loW (l * 10 % B128)))])] (by kernel_rfl) (by kernel_rfl) (by kernel_rfl) ?_
    refine block_n ?_
    refine seq_n ?_
    refine vc_reg rfl ?_
    refine vcI_q 1 (by kernel_rfl) ?_
    refine vcI_bin (op := .sub) (t := 3) (a := .int .i64 c) (b := .int .i64 1) (dst := (some 29)) (by kernel_rfl) ?_
    intro z29 hz29
    first | (replace hz29 := hz29.i64 (by omega)) | skip
    refine vcI_q 1 (by kernel_rfl) ?_
    refine vcI_end 50 [(1, .d (.v (.int .i64 z29))), (4, .p 4 0), (5, .p 5 0), (6, .p 6 0), (8, .p 8 0), (9, .p 9 0), (10, .d (.v (.int .u64 (((l * 10 / B128 : Nat) : Int))))), (11, .p 11 0), (27, .d (.v (.bool true)))] [(4, [.v (.int .u64 0), .v (.int .u64 0)]), (5, [.v (.int .u64 0), .v (.int .u64 0)]), (6, [.v (.int .u64 (hiW (10 ^ z14.toNat))), .v (.int .u64 (loW (10 ^ z14.toNat)))]), (8, [.v (.int .u64 (hiW ((h * 10 % B128 + l * 10 / B128) % B128))), .v (.int .u64 (loW ((h * 10 % B128 + l * 10 / B128) % B128)))]), (9, [.v (.int .u64 (hiW (l * 10 % B128))), .v (.int .u64 (loW (l * 10 % B128)))]), (11, [.v (.int .u64 (hiW (l * 10 % B128))), .v (.int .u64 (loW (l * 10 % B128)))])] (by kernel_rfl) (by kernel_rfl) (by kernel_rfl) ?_
    refine loop_n (j + 1, (h * 10 % B128 + l * 10 / B128) % B128, l * 10 % B128, z29) (⟨by rw [r1, Nat.pow_succ, Nat.mul_assoc], mod_lt128 _, mod_lt128 _, by omega⟩) (by show z29.toNat < c.toNat; omega) (by kernel_rfl) (by kernel_rfl)

theorem wrap_u64 (e : Int) : IntKind.u64.wrap e = e % 18446744073709551616 := by
  unfold IntKind.wrap
  simp [IntKind.signed, IntKind.bits]

theorem cw_OfI {n : Nat} {z : Int} (hz : z = (n : Int)) (hn : n < 18446744073709551616) : HasC Try.prog 21 [.v (.int .u64 z)] (fun y => y = dU n) := by
  subst hz
  exact cw_OfN hn

theorem c_Int {x : Int} (h0 : -9223372036854775808 ≤ x) (h1 : x ≤ 9223372036854775807) : HasC Try.prog 24 [.v (.int .i64 x)] (fun y => y = dDec (decide (x < 0)) x.natAbs 0) := by
  refine HasC.of [] (fn := Try.f24) tyOk mixed (fun args w => Try.call24 args w) Try.func24 rfl (by kernel_rfl) (Nat.le_of_ble_eq_true rfl) (⟨_, rfl⟩) ?_
  refine vc_seqr rfl ?_
  refine vcI_q 1 (by kernel_rfl) ?_
  refine vcI_end 15 [(0, .d (.v (.int .i64 x))), (2, .p 2 0)] [(2, [.v (.bool false), .v (.int .u64 0), .v (.int .u64 0), .v (.int .i64 0)])] (by kernel_rfl) (by kernel_rfl) (by kernel_rfl) ?_
  refine vc_seqr rfl ?_
  refine vcI_q 1 (by kernel_rfl) ?_
  refine vcI_conv (t := 3) (t' := 22) (a := .int .i64 x) (dst := (some 5)) (by kernel_rfl) ?_
  intro z5 hz5
  first | (replace hz5 := hz5.u64 (by omega)) | skip
  replace hz5 : z5 = x % 18446744073709551616 := by have h : z5 = IntKind.u64.wrap x := hz5; rw [h, wrap_u64]
  refine vcI_q 1 (by kernel_rfl) ?_
  refine vcI_end 15 [(0, .d (.v (.int .i64 x))), (2, .p 2 0), (3, .d (.v (.int .u64 z5)))] [(2, [.v (.bool false), .v (.int .u64 0), .v (.int .u64 0), .v (.int .i64 0)])] (by kernel_rfl) (by kernel_rfl) (by kernel_rfl) ?_
  refine vc_seq ?_
  refine vc_seqr rfl ?_
  refine vcI_q 1 (by kernel_rfl) ?_
  refine vcI_bin (op := .lss) (t := 3) (a := .int .i64 x) (b := .int .i64 0) (dst := (some 7)) (by kernel_rfl) ?_
  intro c7 hc7
  refine vcI_end 15 [(0, .d (.v (.int .i64 x))), (2, .p 2 0), (3, .d (.v (.int .u64 z5))), (7, .d (.v (.bool c7)))] [(2, [.v (.bool false), .v (.int .u64 0), .v (.int .u64 0), .v (.int .i64 0)])] (by kernel_rfl) (by kernel_rfl) (by kernel_rfl) ?_
  cases c7
  · replace hc7 := bf hc7
    have ez : z5 = (x.natAbs : Int) := by omega
    refine vc_condf (by kernel_rfl) ?_
    refine vc_skip ?_
    refine seq_n ?_
    refine vc_seqr rfl ?_
    refine vcI_q 1 (by kernel_rfl) ?_
    refine vcI_bin (op := .lss) (t := 3) (a := .int .i64 x) (b := .int .i64 0) (dst := (some 11)) (by kernel_rfl) ?_
    intro c11 hc11
    refine vcI_q 1 (by kernel_rfl) ?_
    refine vcI_call (f := 21) (ds := [.v (.int .u64 z5)]) (dst := (some 13)) (by kernel_rfl) (cw_OfI ez (by omega)) ?_
    rintro _ rfl
    refine vcI_q 2 (by kernel_rfl) ?_
    refine vcI_end 15 [(0, .d (.v (.int .i64 x))), (2, .p 2 0), (3, .d (.v (.int .u64 z5))), (7, .d (.v (.bool false)))] [(2, [.v (.bool c11), .v (.int .u64 (hiW (x.natAbs))), .v (.int .u64 (loW (x.natAbs))), .v (.int .i64 0)])] (by kernel_rfl) (by kernel_rfl) (by kernel_rfl) ?_
    refine vc_ret ?_
    refine ret_1 (d := .agg [.v (.bool c11), .v (.int .u64 (hiW (x.natAbs))), .v (.int .u64 (loW (x.natAbs))), .v (.int .i64 0)]) (by kernel_rfl) ?_
    have e1 : c11 = decide (x < 0) := by rw [Bool.eq_iff_iff, hc11]; simp
    rw [← e1]; rfl
  · replace hc7 := bt hc7
    refine vc_condt (by kernel_rfl) ?_
    refine vc_reg rfl ?_
    refine vcI_q 1 (by kernel_rfl) ?_
    refine vcI_un (op := .neg) (a := .int .u64 z5) (dst := (some 9)) (by kernel_rfl) ?_
    intro z9 hz9
    first | (replace hz9 := hz9.u64 (by omega)) | skip
    have ez : z9 = (x.natAbs : Int) := by have h : z9 = IntKind.u64.wrap (0 - z5) := hz9; rw [wrap_u64] at h; omega
    refine vcI_q 1 (by kernel_rfl) ?_
    refine vcI_end 15 [(0, .d (.v (.int .i64 x))), (2, .p 2 0), (3, .d (.v (.int .u64 z9))), (7, .d (.v (.bool true)))] [(2, [.v (.bool false), .v (.int .u64 0), .v (.int .u64 0), .v (.int .i64 0)])] (by kernel_rfl) (by kernel_rfl) (by kernel_rfl) ?_
    refine seq_n ?_
    refine vc_seqr rfl ?_
    refine vcI_q 1 (by kernel_rfl) ?_
    refine vcI_bin (op := .lss) (t := 3) (a := .int .i64 x) (b := .int .i64 0) (dst := (some 11)) (by kernel_rfl) ?_
    intro c11 hc11
    refine vcI_q 1 (by kernel_rfl) ?_
    refine vcI_call (f := 21) (ds := [.v (.int .u64 z9)]) (dst := (some 13)) (by kernel_rfl) (cw_OfI ez (by omega)) ?_
    rintro _ rfl
    refine vcI_q 2 (by kernel_rfl) ?_
    refine vcI_end 15 [(0, .d (.v (.int .i64 x))), (2, .p 2 0), (3, .d (.v (.int .u64 z9))), (7, .d (.v (.bool true)))] [(2, [.v (.bool c11), .v (.int .u64 (hiW (x.natAbs))), .v (.int .u64 (loW (x.natAbs))), .v (.int .i64 0)])] (by kernel_rfl) (by kernel_rfl) (by kernel_rfl) ?_
    refine vc_ret ?_
    refine ret_1 (d := .agg [.v (.bool c11), .v (.int .u64 (hiW (x.natAbs))), .v (.int .u64 (loW (x.natAbs))), .v (.int .i64 0)]) (by kernel_rfl) ?_
    have e1 : c11 = decide (x < 0) := by rw [Bool.eq_iff_iff, hc11]; simp
    rw [← e1]; rfl

end Go.Proofs.Ytdlfgliokkgceaa
