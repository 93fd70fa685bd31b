/-
  dec.Fit: a number fitted to 34 digits and its exponents.
-/
import Derived.Test.YtdlfgliokkgceaaDec2
import Derived.Test.YtdlfgliokkgceaaVcG
import Derived.Test.YtdlfgliokkgceaaPure
namespace Go.Proofs.Ytdlfgliokkgceaa
open Go.RowKit
set_option linter.unusedVariables false
set_option linter.unusedSimpArgs false
set_option maxRecDepth 100000

def fitK (N : Nat) (e : Int) : Int := max (max 0 ((nd N : Int) - 34)) (min (-6176 - e) 100)
open Classical in
noncomputable def fit1N (m : Int) (neg : Bool) (N : Nat) (e : Int) (more : Bool) : Nat := if 0 < fitK N e ∨ more = true then cutQ m neg N more (fitK N e).toNat else N
open Classical in
noncomputable def fit1E (N : Nat) (e : Int) (more : Bool) : Int := if 0 < fitK N e ∨ more = true then e + (fitK N e).toNat else e
noncomputable def fit2N (m : Int) (neg : Bool) (n : Nat) : Nat := if E34 ≤ n then cutQ m neg n false 1 else n
def fit2E (n : Nat) (e : Int) : Int := if E34 ≤ n then e + 1 else e
def fitD (n : Nat) (e : Int) : Nat := min (e - 6111).toNat (34 - nd n)
def fitEnd (neg : Bool) (n : Nat) (e : Int) : DV :=
  if n = 0 then .tup [dDec false 0 (max (-6176) (min e 6111)), .v (.bool true)]
  else if 6111 < e - fitD n e then .tup [dDec false 0 0, .v (.bool false)]
  else .tup [dDec neg (n * 10 ^ fitD n e) (max (e - fitD n e) (-6176)), .v (.bool true)]

theorem cutQ_le {m : Int} {neg more : Bool} {N k : Nat} (h : N < 10 ^ (k + 34)) : cutQ m neg N more k ≤ E34 := by
  have h1 : N / 10 ^ k < E34 := Nat.div_lt_of_lt_mul (by rw [Nat.pow_add] at h; exact h)
  unfold cutQ
  cases upB m neg N more k <;> simp <;> omega
theorem fitK_lt (N : Nat) (e : Int) : N < 10 ^ ((fitK N e).toNat + 34) := by
  refine Nat.lt_of_lt_of_le (lt_nd N) (Nat.pow_le_pow_right (by decide) ?_)
  unfold fitK
  omega
theorem nd_up10 {n : Nat} (h : 0 < n) (j : Nat) : nd (n * 10 ^ j) = nd n + j := by
  induction j with
  | zero => simp
  | succ j ih =>
    have hp : 0 < n * 10 ^ j := Nat.mul_pos h (Nat.pow_pos (by decide))
    rw [Nat.pow_succ, ← Nat.mul_assoc, nd_pos (by omega), Nat.mul_div_cancel _ (by decide), ih]
    omega

theorem cutQ_le1 {m : Int} {neg more : Bool} {N k : Nat} : cutQ m neg N more k ≤ N / 10 ^ k + 1 := by
  unfold cutQ
  cases upB m neg N more k <;> simp
theorem div10_lt {n : Nat} (h : n ≤ E34) : n / 10 ^ (1 : Int).toNat + 1 < E34 := by
  have e : (10 : Nat) ^ (1 : Int).toNat = 10 := by decide
  rw [e]
  unfold E34 at *
  omega
theorem mul10_lt {n : Nat} (h : n < E34) : n * 10 < B128 := by
  unfold E34 at h
  unfold B128
  omega
theorem cw_Digits0 {n : Nat} (h : n < B128) : HasC Try.prog 50 [.agg [.v (.int .u64 0), .v (.int .u64 0)], dU n] (fun y => y = .v (.int .i64 (nd n))) := by
  rw [← dU_0']
  refine (cw_Digits (h := 0) (l := n) (by decide) h).mono fun y hy => ?_
  rw [hy, Nat.zero_mul, Nat.zero_add]
theorem fitK_small {N : Nat} {e : Int} (h : fitK N e ≤ 0) : N < E34 := by
  have h1 : nd N ≤ 34 := by
    unfold fitK at h
    omega
  exact Nat.lt_of_lt_of_le (lt_nd N) (Nat.pow_le_pow_right (by decide) h1)
theorem hi_none {N hi lo : Nat} (h : N = hi * B128 + lo) (hN : N < E34) : hi = 0 := by
  have := e34_lt
  rcases Nat.eq_zero_or_pos hi with h0 | h0
  · exact h0
  · have : 1 * B128 ≤ hi * B128 := Nat.mul_le_mul_right _ h0
    omega
theorem fit1_no (m : Int) (neg : Bool) {N : Nat} {e : Int} (h : fitK N e ≤ 0) : fit1N m neg N e false = N ∧ fit1E N e false = e := by
  have h' : ¬ (0 < fitK N e ∨ false = true) := by simp; omega
  unfold fit1N fit1E
  exact ⟨if_neg h', if_neg h'⟩
theorem fit1_yes (m : Int) (neg : Bool) {N : Nat} {e : Int} {more : Bool} (h : 0 < fitK N e ∨ more = true) : fit1N m neg N e more = cutQ m neg N more (fitK N e).toNat ∧ fit1E N e more = e + (fitK N e).toNat := by
  unfold fit1N fit1E
  exact ⟨if_pos h, if_pos h⟩

theorem c_CutS {m n e : Int} {neg more : Bool} {hi lo : Nat} {Q : Nat} (hhi : hi < B128) (hlo : lo < B128) (hn : n ≤ 2305843009213693952) (he0 : -2305843009213693952 ≤ e) (he1 : e ≤ 2305843009213693952) (hQ : Q = cutQ m neg (hi * B128 + lo) more n.toNat) (hb : Q ≤ E34) :
    HasC Try.prog 51 [dWide neg hi lo e more, .v (.int .i64 n), .v (.int .i64 m)] (fun y => y = dWide neg 0 Q (e + n.toNat) false) :=
  (c_Cut hhi hlo hn he0 he1).mono fun y hy => by
    have h1 : Q < B128 := Nat.lt_of_le_of_lt hb e34_lt
    rw [hy, ← hQ, Nat.div_eq_of_lt h1, Nat.mod_eq_of_lt h1]
    rfl

set_option maxHeartbeats 1600000 in
theorem c_Fit {m e : Int} {neg more : Bool} {hi lo : Nat} (hhi : hi < B128) (hlo : lo < B128) (he0 : -1000000000000000000 ≤ e) (he1 : e ≤ 1000000000000000000) : HasC Try.prog 30 [.agg [.v (.bool neg), .v (.int .u64 (hiW (hi))), .v (.int .u64 (loW (hi))), .v (.int .u64 (hiW (lo))), .v (.int .u64 (loW (lo))), .v (.int .i64 e), .v (.bool more)], .v (.int .i64 m)] (fun y => y = fitEnd neg (fit2N m neg (fit1N m neg (hi * B128 + lo) e more)) (fit2E (fit1N m neg (hi * B128 + lo) e more) (fit1E (hi * B128 + lo) e more))) := by
  refine HasC.of [] (fn := Try.f30) tyOk mixed (fun args w => Try.call30 args w) Try.func30 rfl (by kernel_rfl) (Nat.le_of_ble_eq_true rfl) (⟨_, rfl⟩) ?_
  obtain ⟨N, hN⟩ : ∃ N, N = hi * B128 + lo := ⟨_, rfl⟩
  have hnd : nd N ≤ 78 := by rw [hN]; exact nd_le _ _ (by unfold B128 at *; omega)
  rw [← hN]
  refine vc_seqr rfl ?_
  refine vcI_q 3 (by kernel_rfl) ?_
  refine vcI_end 79 [(1, .d (.v (.int .i64 m))), (2, .p 2 0), (4, .p 4 0), (5, .d (.v (.bool false)))] [(2, [.v (.bool neg), .v (.int .u64 (hiW (hi))), .v (.int .u64 (loW (hi))), .v (.int .u64 (hiW (lo))), .v (.int .u64 (loW (lo))), .v (.int .i64 e), .v (.bool more)]), (4, [.v (.bool false), .v (.int .u64 0), .v (.int .u64 0), .v (.int .i64 0)])] (by kernel_rfl) (by kernel_rfl) (by kernel_rfl) ?_
  refine vc_seqr rfl ?_
  refine vcI_q 4 (by kernel_rfl) ?_
  refine vcI_call (f := 50) (ds := [.agg [.v (.int .u64 (hiW (hi))), .v (.int .u64 (loW (hi)))], .agg [.v (.int .u64 (hiW (lo))), .v (.int .u64 (loW (lo)))]]) (dst := (some 11)) (by kernel_rfl) (cw_Digits hhi hlo) ?_
  rintro _ rfl
  refine vcI_bin (op := .sub) (t := 3) (a := .int .i64 ((nd (hi * B128 + lo) : Int))) (b := .int .i64 34) (dst := (some 12)) (by kernel_rfl) ?_
  intro z12 hz12
  first | (replace hz12 := hz12.i64 (by omega)) | skip
  replace hz12 : z12 = (nd N : Int) - 34 := by rw [← hN] at hz12; exact hz12.i64 (by omega)
  refine vcI_blt (b := .max) (tys := [3, 3]) (vs := [.int .i64 0, .int .i64 z12]) (dst := (some 13)) (by kernel_rfl) ?_
  intro z13 hz13
  simp only at hz13
  refine vcI_q 1 (by kernel_rfl) ?_
  refine vcI_end 79 [(1, .d (.v (.int .i64 m))), (2, .p 2 0), (4, .p 4 0), (5, .d (.v (.bool false))), (6, .d (.v (.int .i64 z13)))] [(2, [.v (.bool neg), .v (.int .u64 (hiW (hi))), .v (.int .u64 (loW (hi))), .v (.int .u64 (hiW (lo))), .v (.int .u64 (loW (lo))), .v (.int .i64 e), .v (.bool more)]), (4, [.v (.bool false), .v (.int .u64 0), .v (.int .u64 0), .v (.int .i64 0)])] (by kernel_rfl) (by kernel_rfl) (by kernel_rfl) ?_
  refine vc_seqr rfl ?_
  refine vcI_q 3 (by kernel_rfl) ?_
  refine vcI_bin (op := .sub) (t := 3) (a := .int .i64 (-6176)) (b := .int .i64 e) (dst := (some 17)) (by kernel_rfl) ?_
  intro z17 hz17
  first | (replace hz17 := hz17.i64 (by omega)) | skip
  refine vcI_blt (b := .min) (tys := [3, 3]) (vs := [.int .i64 z17, .int .i64 100]) (dst := (some 18)) (by kernel_rfl) ?_
  intro z18 hz18
  simp only at hz18
  refine vcI_blt (b := .max) (tys := [3, 3]) (vs := [.int .i64 z13, .int .i64 z18]) (dst := (some 19)) (by kernel_rfl) ?_
  intro z19 hz19
  simp only at hz19
  have hK : z19 = fitK N e := by unfold fitK; omega
  refine vcI_q 1 (by kernel_rfl) ?_
  refine vcI_end 79 [(1, .d (.v (.int .i64 m))), (2, .p 2 0), (4, .p 4 0), (5, .d (.v (.bool false))), (6, .d (.v (.int .i64 z19)))] [(2, [.v (.bool neg), .v (.int .u64 (hiW (hi))), .v (.int .u64 (loW (hi))), .v (.int .u64 (hiW (lo))), .v (.int .u64 (loW (lo))), .v (.int .i64 e), .v (.bool more)]), (4, [.v (.bool false), .v (.int .u64 0), .v (.int .u64 0), .v (.int .i64 0)])] (by kernel_rfl) (by kernel_rfl) (by kernel_rfl) ?_
  refine vc_mid 79 (fun (vcx : Nat × Int × Bool) => match vcx with | (N1, e1, vb25) => [(1, .d (.v (.int .i64 m))), (2, .p 2 0), (4, .p 4 0), (5, .d (.v (.bool false))), (6, .d (.v (.int .i64 z19))), (25, .d (.v (.bool vb25)))]) (fun (vcx : Nat × Int × Bool) => match vcx with | (N1, e1, vb25) => [(2, [.v (.bool neg), .v (.int .u64 (hiW (0))), .v (.int .u64 (loW (0))), .v (.int .u64 (hiW (N1))), .v (.int .u64 (loW (N1))), .v (.int .i64 e1), .v (.bool false)]), (4, [.v (.bool false), .v (.int .u64 0), .v (.int .u64 0), .v (.int .i64 0)])]) (fun (vcx : Nat × Int × Bool) => match vcx with | (N1, e1, vb25) => N1 = fit1N m neg N e more ∧ e1 = fit1E N e more ∧ N1 ≤ E34 ∧ -1000000000000000000 ≤ e1 ∧ e1 ≤ 1000000000000000100) ?_ ?_
  · rintro ⟨N1, e1, vb25⟩ hinv
    simp only at hinv
    obtain ⟨i1, i2, i3, i4, i5⟩ := hinv
    rw [← i1, ← i2]
    have hN1 : N1 < B128 := Nat.lt_of_le_of_lt i3 e34_lt
    refine vc_mid 79 (fun (vcx : Nat × Int × Bool) => match vcx with | (N2, e2, vb34) => [(1, .d (.v (.int .i64 m))), (2, .p 2 0), (4, .p 4 0), (5, .d (.v (.bool false))), (6, .d (.v (.int .i64 z19))), (25, .d (.v (.bool vb25))), (34, .d (.v (.bool vb34)))]) (fun (vcx : Nat × Int × Bool) => match vcx with | (N2, e2, vb34) => [(2, [.v (.bool neg), .v (.int .u64 (hiW (0))), .v (.int .u64 (loW (0))), .v (.int .u64 (hiW (N2))), .v (.int .u64 (loW (N2))), .v (.int .i64 e2), .v (.bool false)]), (4, [.v (.bool false), .v (.int .u64 0), .v (.int .u64 0), .v (.int .i64 0)])]) (fun (vcx : Nat × Int × Bool) => match vcx with | (N2, e2, vb34) => N2 = fit2N m neg N1 ∧ e2 = fit2E N1 e1 ∧ N2 < E34 ∧ -1000000000000000000 ≤ e2 ∧ e2 ≤ 1000000000000000101) ?_ ?_
    · rintro ⟨N2, e2, vb34⟩ hinv
      simp only at hinv
      obtain ⟨j1, j2, j3, j4, j5⟩ := hinv
      rw [← j1, ← j2]
      have hN2 : N2 < B128 := Nat.lt_trans j3 e34_lt
      refine vc_seq ?_
      refine vc_seqr rfl ?_
      refine vcI_q 2 (by kernel_rfl) ?_
      refine vcI_call (f := 29) (ds := [.agg [.v (.int .u64 (hiW (N2))), .v (.int .u64 (loW (N2)))]]) (dst := (some 40)) (by kernel_rfl) (cw_Zero hN2) ?_
      rintro _ ⟨z, rfl, hz⟩
      refine vcI_end 79 [(1, .d (.v (.int .i64 m))), (2, .p 2 0), (4, .p 4 0), (5, .d (.v (.bool false))), (6, .d (.v (.int .i64 z19))), (25, .d (.v (.bool vb25))), (34, .d (.v (.bool vb34))), (40, .d (.v (.bool z)))] [(2, [.v (.bool neg), .v (.int .u64 (hiW (0))), .v (.int .u64 (loW (0))), .v (.int .u64 (hiW (N2))), .v (.int .u64 (loW (N2))), .v (.int .i64 e2), .v (.bool false)]), (4, [.v (.bool false), .v (.int .u64 0), .v (.int .u64 0), .v (.int .i64 0)])] (by kernel_rfl) (by kernel_rfl) (by kernel_rfl) ?_
      cases z
      · replace hz := bf hz
        refine vc_condf (by kernel_rfl) ?_
        refine vc_skip ?_
        refine seq_n ?_
        refine vc_seq ?_
        refine vc_block ?_
        refine vc_loop 79 (fun (vcx : Nat × Nat × Int) => match vcx with | (j, n, x) => [(1, .d (.v (.int .i64 m))), (2, .p 2 0), (4, .p 4 0), (5, .d (.v (.bool false))), (6, .d (.v (.int .i64 z19))), (25, .d (.v (.bool vb25))), (34, .d (.v (.bool vb34))), (40, .d (.v (.bool false)))]) (fun (vcx : Nat × Nat × Int) => match vcx with | (j, n, x) => [(2, [.v (.bool neg), .v (.int .u64 (hiW (0))), .v (.int .u64 (loW (0))), .v (.int .u64 (hiW (n))), .v (.int .u64 (loW (n))), .v (.int .i64 x), .v (.bool false)]), (4, [.v (.bool false), .v (.int .u64 0), .v (.int .u64 0), .v (.int .i64 0)])]) (fun (vcx : Nat × Nat × Int) => match vcx with | (j, n, x) => j ≤ fitD N2 e2 ∧ n = N2 * 10 ^ j ∧ x = e2 - (j : Int)) (fun (vcx : Nat × Nat × Int) => match vcx with | (j, n, x) => fitD N2 e2 - j) ((0, N2, e2)) (⟨by omega, by simp, by simp⟩) (by kernel_rfl) (by kernel_rfl) ?_
        rintro ⟨j, n, x⟩ hinv
        simp only at hinv
        obtain ⟨hj1, hj2, hj3⟩ := hinv
        have hnn : nd n = nd N2 + j := by rw [hj2]; exact nd_up10 (by omega) j
        have hnd34 : nd n ≤ 34 := by have h7 := nd_le _ _ (show N2 < 10 ^ 34 from j3); unfold fitD at hj1; omega
        have hnE : n < E34 := Nat.lt_of_lt_of_le (lt_nd n) (Nat.pow_le_pow_right (by decide) hnd34)
        have hnB : n < B128 := Nat.lt_trans hnE e34_lt
        refine vc_seq ?_
        refine vc_seqr rfl ?_
        refine vcI_q 2 (by kernel_rfl) ?_
        refine vcI_bin (op := .gtr) (t := 3) (a := .int .i64 x) (b := .int .i64 6111) (dst := (some 48)) (by kernel_rfl) ?_
        intro c48 hc48
        refine vcI_q 1 (by kernel_rfl) ?_
        cases c48
        · replace hc48 := bf hc48
          refine vcI_q 6 (by kernel_rfl) ?_
          refine vcI_end 79 [(1, .d (.v (.int .i64 m))), (2, .p 2 0), (4, .p 4 0), (5, .d (.v (.bool false))), (6, .d (.v (.int .i64 z19))), (25, .d (.v (.bool vb25))), (34, .d (.v (.bool vb34))), (40, .d (.v (.bool false))), (55, .d (.v (.bool false)))] [(2, [.v (.bool neg), .v (.int .u64 (hiW (0))), .v (.int .u64 (loW (0))), .v (.int .u64 (hiW (n))), .v (.int .u64 (loW (n))), .v (.int .i64 x), .v (.bool false)]), (4, [.v (.bool false), .v (.int .u64 0), .v (.int .u64 0), .v (.int .i64 0)])] (by kernel_rfl) (by kernel_rfl) (by kernel_rfl) ?_
          have hjd : j = fitD N2 e2 := by unfold fitD at hj1 ⊢; omega
          refine vc_condf (by kernel_rfl) ?_
          refine vc_exit ?_
          refine seq_x ?_
          refine loop_x ?_
          refine block_x rfl ?_
          refine seq_n ?_
          refine vc_seq ?_
          refine vc_seqr rfl ?_
          refine vcI_q 2 (by kernel_rfl) ?_
          refine vcI_bin (op := .gtr) (t := 3) (a := .int .i64 x) (b := .int .i64 6111) (dst := (some 69)) (by kernel_rfl) ?_
          intro c69 hc69
          refine vcI_end 79 [(1, .d (.v (.int .i64 m))), (2, .p 2 0), (4, .p 4 0), (5, .d (.v (.bool false))), (6, .d (.v (.int .i64 z19))), (25, .d (.v (.bool vb25))), (34, .d (.v (.bool vb34))), (40, .d (.v (.bool false))), (55, .d (.v (.bool false))), (69, .d (.v (.bool c69)))] [(2, [.v (.bool neg), .v (.int .u64 (hiW (0))), .v (.int .u64 (loW (0))), .v (.int .u64 (hiW (n))), .v (.int .u64 (loW (n))), .v (.int .i64 x), .v (.bool false)]), (4, [.v (.bool false), .v (.int .u64 0), .v (.int .u64 0), .v (.int .i64 0)])] (by kernel_rfl) (by kernel_rfl) (by kernel_rfl) ?_
          cases c69
          · replace hc69 := bf hc69
            refine vc_condf (by kernel_rfl) ?_
            refine vc_skip ?_
            refine seq_n ?_
            refine vc_seqr rfl ?_
            refine vcI_q 6 (by kernel_rfl) ?_
            refine vcI_blt (b := .max) (tys := [3, 3]) (vs := [.int .i64 x, .int .i64 (-6176)]) (dst := (some 77)) (by kernel_rfl) ?_
            intro z77 hz77
            simp only at hz77
            refine vcI_q 3 (by kernel_rfl) ?_
            refine vcI_end 79 [(1, .d (.v (.int .i64 m))), (2, .p 2 0), (4, .p 4 0), (5, .d (.v (.bool true))), (6, .d (.v (.int .i64 z19))), (25, .d (.v (.bool vb25))), (34, .d (.v (.bool vb34))), (40, .d (.v (.bool false))), (55, .d (.v (.bool false))), (69, .d (.v (.bool false)))] [(2, [.v (.bool neg), .v (.int .u64 (hiW (0))), .v (.int .u64 (loW (0))), .v (.int .u64 (hiW (n))), .v (.int .u64 (loW (n))), .v (.int .i64 x), .v (.bool false)]), (4, [.v (.bool neg), .v (.int .u64 (hiW (n))), .v (.int .u64 (loW (n))), .v (.int .i64 z77)])] (by kernel_rfl) (by kernel_rfl) (by kernel_rfl) ?_
            refine vc_ret ?_
            refine ret_2 (d := .agg [.v (.bool neg), .v (.int .u64 (hiW (n))), .v (.int .u64 (loW (n))), .v (.int .i64 z77)]) (e := .v (.bool true)) (ds := []) (by kernel_rfl) ?_
            unfold fitEnd
            rw [if_neg hz, ← hjd, if_neg (by omega), ← hj2, ← hj3, hz77]
            rfl
          · replace hc69 := bt hc69
            refine vc_condt (by kernel_rfl) ?_
            refine vc_seqr rfl ?_
            refine vcI_q 3 (by kernel_rfl) ?_
            refine vcI_end 79 [(1, .d (.v (.int .i64 m))), (2, .p 2 0), (4, .p 4 0), (5, .d (.v (.bool false))), (6, .d (.v (.int .i64 z19))), (25, .d (.v (.bool vb25))), (34, .d (.v (.bool vb34))), (40, .d (.v (.bool false))), (55, .d (.v (.bool false))), (69, .d (.v (.bool true)))] [(2, [.v (.bool neg), .v (.int .u64 (hiW (0))), .v (.int .u64 (loW (0))), .v (.int .u64 (hiW (n))), .v (.int .u64 (loW (n))), .v (.int .i64 x), .v (.bool false)]), (4, [.v (.bool false), .v (.int .u64 0), .v (.int .u64 0), .v (.int .i64 0)])] (by kernel_rfl) (by kernel_rfl) (by kernel_rfl) ?_
            refine vc_ret ?_
            refine seq_r ?_
            refine ret_2 (d := .agg [.v (.bool false), .v (.int .u64 0), .v (.int .u64 0), .v (.int .i64 0)]) (e := .v (.bool false)) (ds := []) (by kernel_rfl) ?_
            unfold fitEnd
            rw [if_neg hz, ← hjd, if_pos (by omega)]
            rfl
        · replace hc48 := bt hc48
          refine vcI_q 3 (by kernel_rfl) ?_
          refine vcI_call (f := 50) (ds := [.agg [.v (.int .u64 0), .v (.int .u64 0)], .agg [.v (.int .u64 (hiW (n))), .v (.int .u64 (loW (n)))]]) (dst := (some 53)) (by kernel_rfl) (cw_Digits0 hnB) ?_
          rintro _ rfl
          refine vcI_bin (op := .lss) (t := 3) (a := .int .i64 ((nd n : Int))) (b := .int .i64 34) (dst := (some 54)) (by kernel_rfl) ?_
          intro c54 hc54
          refine vcI_q 1 (by kernel_rfl) ?_
          refine vcI_end 79 [(1, .d (.v (.int .i64 m))), (2, .p 2 0), (4, .p 4 0), (5, .d (.v (.bool false))), (6, .d (.v (.int .i64 z19))), (25, .d (.v (.bool vb25))), (34, .d (.v (.bool vb34))), (40, .d (.v (.bool false))), (55, .d (.v (.bool c54)))] [(2, [.v (.bool neg), .v (.int .u64 (hiW (0))), .v (.int .u64 (loW (0))), .v (.int .u64 (hiW (n))), .v (.int .u64 (loW (n))), .v (.int .i64 x), .v (.bool false)]), (4, [.v (.bool false), .v (.int .u64 0), .v (.int .u64 0), .v (.int .i64 0)])] (by kernel_rfl) (by kernel_rfl) (by kernel_rfl) ?_
          cases c54
          · replace hc54 := bf hc54
            have hjd : j = fitD N2 e2 := by unfold fitD at hj1 ⊢; omega
            refine vc_condf (by kernel_rfl) ?_
            refine vc_exit ?_
            refine seq_x ?_
            refine loop_x ?_
            refine block_x rfl ?_
            refine seq_n ?_
            refine vc_seq ?_
            refine vc_seqr rfl ?_
            refine vcI_q 2 (by kernel_rfl) ?_
            refine vcI_bin (op := .gtr) (t := 3) (a := .int .i64 x) (b := .int .i64 6111) (dst := (some 69)) (by kernel_rfl) ?_
            intro c69 hc69
            refine vcI_end 79 [(1, .d (.v (.int .i64 m))), (2, .p 2 0), (4, .p 4 0), (5, .d (.v (.bool false))), (6, .d (.v (.int .i64 z19))), (25, .d (.v (.bool vb25))), (34, .d (.v (.bool vb34))), (40, .d (.v (.bool false))), (55, .d (.v (.bool false))), (69, .d (.v (.bool c69)))] [(2, [.v (.bool neg), .v (.int .u64 (hiW (0))), .v (.int .u64 (loW (0))), .v (.int .u64 (hiW (n))), .v (.int .u64 (loW (n))), .v (.int .i64 x), .v (.bool false)]), (4, [.v (.bool false), .v (.int .u64 0), .v (.int .u64 0), .v (.int .i64 0)])] (by kernel_rfl) (by kernel_rfl) (by kernel_rfl) ?_
            cases c69
            · replace hc69 := bf hc69
              refine vc_condf (by kernel_rfl) ?_
              refine vc_skip ?_
              refine seq_n ?_
              refine vc_seqr rfl ?_
              refine vcI_q 6 (by kernel_rfl) ?_
              refine vcI_blt (b := .max) (tys := [3, 3]) (vs := [.int .i64 x, .int .i64 (-6176)]) (dst := (some 77)) (by kernel_rfl) ?_
              intro z77 hz77
              simp only at hz77
              refine vcI_q 3 (by kernel_rfl) ?_
              refine vcI_end 79 [(1, .d (.v (.int .i64 m))), (2, .p 2 0), (4, .p 4 0), (5, .d (.v (.bool true))), (6, .d (.v (.int .i64 z19))), (25, .d (.v (.bool vb25))), (34, .d (.v (.bool vb34))), (40, .d (.v (.bool false))), (55, .d (.v (.bool false))), (69, .d (.v (.bool false)))] [(2, [.v (.bool neg), .v (.int .u64 (hiW (0))), .v (.int .u64 (loW (0))), .v (.int .u64 (hiW (n))), .v (.int .u64 (loW (n))), .v (.int .i64 x), .v (.bool false)]), (4, [.v (.bool neg), .v (.int .u64 (hiW (n))), .v (.int .u64 (loW (n))), .v (.int .i64 z77)])] (by kernel_rfl) (by kernel_rfl) (by kernel_rfl) ?_
              refine vc_ret ?_
              refine ret_2 (d := .agg [.v (.bool neg), .v (.int .u64 (hiW (n))), .v (.int .u64 (loW (n))), .v (.int .i64 z77)]) (e := .v (.bool true)) (ds := []) (by kernel_rfl) ?_
              unfold fitEnd
              rw [if_neg hz, ← hjd, if_neg (by omega), ← hj2, ← hj3, hz77]
              rfl
            · replace hc69 := bt hc69
              refine vc_condt (by kernel_rfl) ?_
              refine vc_seqr rfl ?_
              refine vcI_q 3 (by kernel_rfl) ?_
              refine vcI_end 79 [(1, .d (.v (.int .i64 m))), (2, .p 2 0), (4, .p 4 0), (5, .d (.v (.bool false))), (6, .d (.v (.int .i64 z19))), (25, .d (.v (.bool vb25))), (34, .d (.v (.bool vb34))), (40, .d (.v (.bool false))), (55, .d (.v (.bool false))), (69, .d (.v (.bool true)))] [(2, [.v (.bool neg), .v (.int .u64 (hiW (0))), .v (.int .u64 (loW (0))), .v (.int .u64 (hiW (n))), .v (.int .u64 (loW (n))), .v (.int .i64 x), .v (.bool false)]), (4, [.v (.bool false), .v (.int .u64 0), .v (.int .u64 0), .v (.int .i64 0)])] (by kernel_rfl) (by kernel_rfl) (by kernel_rfl) ?_
              refine vc_ret ?_
              refine seq_r ?_
              refine ret_2 (d := .agg [.v (.bool false), .v (.int .u64 0), .v (.int .u64 0), .v (.int .i64 0)]) (e := .v (.bool false)) (ds := []) (by kernel_rfl) ?_
              unfold fitEnd
              rw [if_neg hz, ← hjd, if_pos (by omega)]
              rfl
          · replace hc54 := bt hc54
            refine vc_condt (by kernel_rfl) ?_
            refine vc_skip ?_
            refine seq_n ?_
            refine vc_block ?_
            refine vc_seqr rfl ?_
            refine vcI_q 2 (by kernel_rfl) ?_
            refine vcI_call (f := 47) (ds := [.agg [.v (.int .u64 (hiW (n))), .v (.int .u64 (loW (n)))], .v (.int .u64 10)]) (dst := (some 59)) (by kernel_rfl) (cw_MulWord (n := 10) hnB (by decide)) ?_
            rintro _ rfl
            refine vcI_q 5 (by kernel_rfl) ?_
            refine vcI_end 79 [(1, .d (.v (.int .i64 m))), (2, .p 2 0), (4, .p 4 0), (5, .d (.v (.bool false))), (6, .d (.v (.int .i64 z19))), (25, .d (.v (.bool vb25))), (34, .d (.v (.bool vb34))), (40, .d (.v (.bool false))), (55, .d (.v (.bool true)))] [(2, [.v (.bool neg), .v (.int .u64 (hiW (0))), .v (.int .u64 (loW (0))), .v (.int .u64 (hiW (n * 10 % B128))), .v (.int .u64 (loW (n * 10 % B128))), .v (.int .i64 x), .v (.bool false)]), (4, [.v (.bool false), .v (.int .u64 0), .v (.int .u64 0), .v (.int .i64 0)])] (by kernel_rfl) (by kernel_rfl) (by kernel_rfl) ?_
            refine vc_reg rfl ?_
            refine vcI_q 2 (by kernel_rfl) ?_
            refine vcI_bin (op := .sub) (t := 3) (a := .int .i64 x) (b := .int .i64 1) (dst := (some 65)) (by kernel_rfl) ?_
            intro z65 hz65
            first | (replace hz65 := hz65.i64 (by omega)) | skip
            refine vcI_q 2 (by kernel_rfl) ?_
            refine vcI_end 79 [(1, .d (.v (.int .i64 m))), (2, .p 2 0), (4, .p 4 0), (5, .d (.v (.bool false))), (6, .d (.v (.int .i64 z19))), (25, .d (.v (.bool vb25))), (34, .d (.v (.bool vb34))), (40, .d (.v (.bool false))), (55, .d (.v (.bool true)))] [(2, [.v (.bool neg), .v (.int .u64 (hiW (0))), .v (.int .u64 (loW (0))), .v (.int .u64 (hiW (n * 10 % B128))), .v (.int .u64 (loW (n * 10 % B128))), .v (.int .i64 z65), .v (.bool false)]), (4, [.v (.bool false), .v (.int .u64 0), .v (.int .u64 0), .v (.int .i64 0)])] (by kernel_rfl) (by kernel_rfl) (by kernel_rfl) ?_
            refine block_n ?_
            refine loop_n (j + 1, n * 10 % B128, z65) (⟨by unfold fitD at hj1 ⊢; omega, by rw [Nat.mod_eq_of_lt (mul10_lt hnE), hj2, Nat.pow_succ, Nat.mul_assoc], by omega⟩) (by show fitD N2 e2 - (j + 1) < fitD N2 e2 - j; unfold fitD; omega) (by kernel_rfl) (by kernel_rfl)
      · replace hz := bt hz
        refine vc_condt (by kernel_rfl) ?_
        refine vc_seqr rfl ?_
        refine vcI_q 2 (by kernel_rfl) ?_
        refine vcI_blt (b := .min) (tys := [3, 3]) (vs := [.int .i64 e2, .int .i64 6111]) (dst := (some 43)) (by kernel_rfl) ?_
        intro z43 hz43
        simp only at hz43
        refine vcI_blt (b := .max) (tys := [3, 3]) (vs := [.int .i64 (-6176), .int .i64 z43]) (dst := (some 44)) (by kernel_rfl) ?_
        intro z44 hz44
        simp only at hz44
        refine vcI_q 3 (by kernel_rfl) ?_
        refine vcI_end 79 [(1, .d (.v (.int .i64 m))), (2, .p 2 0), (4, .p 4 0), (5, .d (.v (.bool true))), (6, .d (.v (.int .i64 z19))), (25, .d (.v (.bool vb25))), (34, .d (.v (.bool vb34))), (40, .d (.v (.bool true)))] [(2, [.v (.bool neg), .v (.int .u64 (hiW (0))), .v (.int .u64 (loW (0))), .v (.int .u64 (hiW (N2))), .v (.int .u64 (loW (N2))), .v (.int .i64 e2), .v (.bool false)]), (4, [.v (.bool false), .v (.int .u64 0), .v (.int .u64 0), .v (.int .i64 z44)])] (by kernel_rfl) (by kernel_rfl) (by kernel_rfl) ?_
        refine vc_ret ?_
        refine seq_r ?_
        refine ret_2 (d := .agg [.v (.bool false), .v (.int .u64 0), .v (.int .u64 0), .v (.int .i64 z44)]) (e := .v (.bool true)) (ds := []) (by kernel_rfl) ?_
        unfold fitEnd
        rw [if_pos hz, hz44, hz43]
        rfl
    intro hmid
    refine vc_seqr rfl ?_
    refine vcI_q 2 (by kernel_rfl) ?_
    refine vcI_call (f := 46) (ds := []) (dst := (some 32)) (by kernel_rfl) (c_most) ?_
    rintro _ rfl
    refine vcI_call (f := 45) (ds := [.agg [.v (.int .u64 (hiW (N1))), .v (.int .u64 (loW (N1)))], .agg [.v (.int .u64 (hiW (E34))), .v (.int .u64 (loW (E34)))]]) (dst := (some 33)) (by kernel_rfl) (cw_Cmp hN1 e34_lt) ?_
    rintro _ rfl
    refine vcI_bin (op := .geq) (t := 3) (a := .int .i64 (cmpN N1 E34)) (b := .int .i64 0) (dst := (some 34)) (by kernel_rfl) ?_
    intro c34 hc34
    refine vcI_end 79 [(1, .d (.v (.int .i64 m))), (2, .p 2 0), (4, .p 4 0), (5, .d (.v (.bool false))), (6, .d (.v (.int .i64 z19))), (25, .d (.v (.bool vb25))), (34, .d (.v (.bool c34)))] [(2, [.v (.bool neg), .v (.int .u64 (hiW (0))), .v (.int .u64 (loW (0))), .v (.int .u64 (hiW (N1))), .v (.int .u64 (loW (N1))), .v (.int .i64 e1), .v (.bool false)]), (4, [.v (.bool false), .v (.int .u64 0), .v (.int .u64 0), .v (.int .i64 0)])] (by kernel_rfl) (by kernel_rfl) (by kernel_rfl) ?_
    cases c34
    · replace hc34 := bf hc34
      rw [cN_ge] at hc34
      refine vc_condf (by kernel_rfl) ?_
      refine vc_skip ?_
      refine mid_n hmid (N1, e1, false) (⟨by unfold fit2N; rw [if_neg (by omega)], by unfold fit2E; rw [if_neg (by omega)], by omega, by omega, by omega⟩) (by kernel_rfl)
    · replace hc34 := bt hc34
      rw [cN_ge] at hc34
      have hq1 : cutQ m neg (0 * B128 + N1) false (1 : Int).toNat < E34 := Nat.lt_of_le_of_lt cutQ_le1 (by rw [Nat.zero_mul, Nat.zero_add]; exact div10_lt i3)
      refine vc_condt (by kernel_rfl) ?_
      refine vc_reg rfl ?_
      refine vcI_q 2 (by kernel_rfl) ?_
      refine vcI_call (f := 51) (ds := [.agg [.v (.bool neg), .v (.int .u64 (hiW (0))), .v (.int .u64 (loW (0))), .v (.int .u64 (hiW (N1))), .v (.int .u64 (loW (N1))), .v (.int .i64 e1), .v (.bool false)], .v (.int .i64 1), .v (.int .i64 m)]) (dst := (some 37)) (by kernel_rfl) (c_CutS (n := 1) (hi := 0) (by decide) hN1 (by omega) (by omega) (by omega) rfl (Nat.le_of_lt hq1)) ?_
      rintro _ rfl
      refine vcI_q 1 (by kernel_rfl) ?_
      refine vcI_end 79 [(1, .d (.v (.int .i64 m))), (2, .p 2 0), (4, .p 4 0), (5, .d (.v (.bool false))), (6, .d (.v (.int .i64 z19))), (25, .d (.v (.bool vb25))), (34, .d (.v (.bool true)))] [(2, [.v (.bool neg), .v (.int .u64 (hiW (0))), .v (.int .u64 (loW (0))), .v (.int .u64 (hiW (cutQ m neg (0 * B128 + N1) false (1 : Int).toNat))), .v (.int .u64 (loW (cutQ m neg (0 * B128 + N1) false (1 : Int).toNat))), .v (.int .i64 (e1 + (1 : Int).toNat)), .v (.bool false)]), (4, [.v (.bool false), .v (.int .u64 0), .v (.int .u64 0), .v (.int .i64 0)])] (by kernel_rfl) (by kernel_rfl) (by kernel_rfl) ?_
      refine mid_n hmid (cutQ m neg (0 * B128 + N1) false (1 : Int).toNat, e1 + (1 : Int).toNat, true) (⟨by unfold fit2N; rw [if_pos (by omega), Nat.zero_mul, Nat.zero_add]; rfl, by unfold fit2E; rw [if_pos (by omega)]; rfl, hq1, by simp; omega, by simp; omega⟩) (by kernel_rfl)
  intro hmid
  refine vc_seqr rfl ?_
  refine vcI_q 1 (by kernel_rfl) ?_
  refine vcI_bin (op := .gtr) (t := 3) (a := .int .i64 z19) (b := .int .i64 0) (dst := (some 21)) (by kernel_rfl) ?_
  intro c21 hc21
  refine vcI_q 1 (by kernel_rfl) ?_
  cases c21
  · replace hc21 := bf hc21
    refine vcI_q 3 (by kernel_rfl) ?_
    refine vcI_end 79 [(1, .d (.v (.int .i64 m))), (2, .p 2 0), (4, .p 4 0), (5, .d (.v (.bool false))), (6, .d (.v (.int .i64 z19))), (25, .d (.v (.bool more)))] [(2, [.v (.bool neg), .v (.int .u64 (hiW (hi))), .v (.int .u64 (loW (hi))), .v (.int .u64 (hiW (lo))), .v (.int .u64 (loW (lo))), .v (.int .i64 e), .v (.bool more)]), (4, [.v (.bool false), .v (.int .u64 0), .v (.int .u64 0), .v (.int .i64 0)])] (by kernel_rfl) (by kernel_rfl) (by kernel_rfl) ?_
    cases more
    · skip
      have hN34 := fitK_small (N := N) (e := e) (by omega)
      have hhi0 := hi_none hN hN34
      refine vc_condf (by kernel_rfl) ?_
      refine vc_skip ?_
      subst hhi0
      refine mid_n hmid (lo, e, false) (⟨by rw [(fit1_no m neg (by omega)).1, hN]; simp, (fit1_no m neg (by omega)).2.symm, by omega, by omega, by omega⟩) (by kernel_rfl)
    · skip
      refine vc_condt (by kernel_rfl) ?_
      refine vc_reg rfl ?_
      refine vcI_q 3 (by kernel_rfl) ?_
      refine vcI_call (f := 51) (ds := [.agg [.v (.bool neg), .v (.int .u64 (hiW (hi))), .v (.int .u64 (loW (hi))), .v (.int .u64 (hiW (lo))), .v (.int .u64 (loW (lo))), .v (.int .i64 e), .v (.bool true)], .v (.int .i64 z19), .v (.int .i64 m)]) (dst := (some 29)) (by kernel_rfl) (c_CutS hhi hlo (by omega) (by omega) (by omega) rfl (by rw [← hN, hK]; exact cutQ_le (fitK_lt N e))) ?_
      rintro _ rfl
      refine vcI_q 1 (by kernel_rfl) ?_
      refine vcI_end 79 [(1, .d (.v (.int .i64 m))), (2, .p 2 0), (4, .p 4 0), (5, .d (.v (.bool false))), (6, .d (.v (.int .i64 z19))), (25, .d (.v (.bool true)))] [(2, [.v (.bool neg), .v (.int .u64 (hiW (0))), .v (.int .u64 (loW (0))), .v (.int .u64 (hiW (cutQ m neg (hi * B128 + lo) true z19.toNat))), .v (.int .u64 (loW (cutQ m neg (hi * B128 + lo) true z19.toNat))), .v (.int .i64 (e + z19.toNat)), .v (.bool false)]), (4, [.v (.bool false), .v (.int .u64 0), .v (.int .u64 0), .v (.int .i64 0)])] (by kernel_rfl) (by kernel_rfl) (by kernel_rfl) ?_
      refine mid_n hmid (cutQ m neg (hi * B128 + lo) true z19.toNat, e + z19.toNat, true) (⟨by rw [(fit1_yes m neg (.inr rfl)).1, ← hN, hK], by rw [(fit1_yes m neg (.inr rfl)).2, hK], by rw [← hN, hK]; exact cutQ_le (fitK_lt N e), by omega, by omega⟩) (by kernel_rfl)
  · replace hc21 := bt hc21
    refine vcI_q 3 (by kernel_rfl) ?_
    refine vcI_end 79 [(1, .d (.v (.int .i64 m))), (2, .p 2 0), (4, .p 4 0), (5, .d (.v (.bool false))), (6, .d (.v (.int .i64 z19))), (25, .d (.v (.bool true)))] [(2, [.v (.bool neg), .v (.int .u64 (hiW (hi))), .v (.int .u64 (loW (hi))), .v (.int .u64 (hiW (lo))), .v (.int .u64 (loW (lo))), .v (.int .i64 e), .v (.bool more)]), (4, [.v (.bool false), .v (.int .u64 0), .v (.int .u64 0), .v (.int .i64 0)])] (by kernel_rfl) (by kernel_rfl) (by kernel_rfl) ?_
    refine vc_condt (by kernel_rfl) ?_
    refine vc_reg rfl ?_
    refine vcI_q 3 (by kernel_rfl) ?_
    refine vcI_call (f := 51) (ds := [.agg [.v (.bool neg), .v (.int .u64 (hiW (hi))), .v (.int .u64 (loW (hi))), .v (.int .u64 (hiW (lo))), .v (.int .u64 (loW (lo))), .v (.int .i64 e), .v (.bool more)], .v (.int .i64 z19), .v (.int .i64 m)]) (dst := (some 29)) (by kernel_rfl) (c_CutS hhi hlo (by omega) (by omega) (by omega) rfl (by rw [← hN, hK]; exact cutQ_le (fitK_lt N e))) ?_
    rintro _ rfl
    refine vcI_q 1 (by kernel_rfl) ?_
    refine vcI_end 79 [(1, .d (.v (.int .i64 m))), (2, .p 2 0), (4, .p 4 0), (5, .d (.v (.bool false))), (6, .d (.v (.int .i64 z19))), (25, .d (.v (.bool true)))] [(2, [.v (.bool neg), .v (.int .u64 (hiW (0))), .v (.int .u64 (loW (0))), .v (.int .u64 (hiW (cutQ m neg (hi * B128 + lo) more z19.toNat))), .v (.int .u64 (loW (cutQ m neg (hi * B128 + lo) more z19.toNat))), .v (.int .i64 (e + z19.toNat)), .v (.bool false)]), (4, [.v (.bool false), .v (.int .u64 0), .v (.int .u64 0), .v (.int .i64 0)])] (by kernel_rfl) (by kernel_rfl) (by kernel_rfl) ?_
    refine mid_n hmid (cutQ m neg (hi * B128 + lo) more z19.toNat, e + z19.toNat, true) (⟨by rw [(fit1_yes m neg (.inl (by omega))).1, ← hN, hK], by rw [(fit1_yes m neg (.inl (by omega))).2, hK], by rw [← hN, hK]; exact cutQ_le (fitK_lt N e), by omega, by omega⟩) (by kernel_rfl)

end Go.Proofs.Ytdlfgliokkgceaa
