/-
  dec.Cut: a number without its last digits, rounded.
-/
import Derived.Test.YtdlfgliokkgceaaDec1
namespace Go.Proofs.Ytdlfgliokkgceaa
open Go.RowKit
set_option linter.unusedVariables false
set_option linter.unusedSimpArgs false
set_option maxRecDepth 100000

def lastD (N : Nat) : Nat → Nat
  | 0 => 0
  | k + 1 => N / 10 ^ k % 10
def restP (more : Bool) (N : Nat) : Nat → Prop
  | 0 => more = true
  | k + 1 => more = true ∨ N % 10 ^ k ≠ 0
theorem mod_pow_succ (N k : Nat) : N % 10 ^ (k + 1) ≠ 0 ↔ N % 10 ^ k ≠ 0 ∨ N / 10 ^ k % 10 ≠ 0 := by
  have e : N % 10 ^ (k + 1) = N % 10 ^ k + 10 ^ k * (N / 10 ^ k % 10) := by
    rw [Nat.pow_succ, Nat.mod_mul]
  rw [e]
  have hp : 0 < 10 ^ k := Nat.pow_pos (by decide)
  constructor
  · intro h
    by_cases h1 : N % 10 ^ k = 0
    · right
      intro h2
      rw [h1, h2] at h
      simp at h
    · exact .inl h1
  · rintro (h | h) h2
    · omega
    · have : 10 ^ k * (N / 10 ^ k % 10) = 0 := by omega
      rcases Nat.mul_eq_zero.1 this with h3 | h3
      · omega
      · exact h h3
theorem restP_succ {more : Bool} {N k : Nat} : restP more N (k + 1) ↔ restP more N k ∨ lastD N k ≠ 0 := by
  cases k with
  | zero => simp [restP, lastD, Nat.mod_one]
  | succ k =>
    show more = true ∨ _ ↔ (more = true ∨ _) ∨ _
    rw [mod_pow_succ]
    simp only [lastD]
    rw [or_assoc]
theorem lastD_lt {N k : Nat} : lastD N k < 10 := by
  cases k with
  | zero => simp [lastD]
  | succ k => exact Nat.mod_lt _ (by decide)
theorem cut_stop {more : Bool} {N k : Nat} (h1 : N / 10 ^ k = 0) (h2 : lastD N k = 0) : ∀ j, N / 10 ^ (k + j) = 0 ∧ lastD N (k + j) = 0 ∧ (restP more N (k + j) ↔ restP more N k) := by
  intro j
  induction j with
  | zero => exact ⟨h1, h2, Iff.rfl⟩
  | succ j ih =>
    obtain ⟨i1, i2, i3⟩ := ih
    refine ⟨?_, ?_, ?_⟩
    · rw [← Nat.add_assoc, Nat.pow_succ, ← Nat.div_div_eq_div_mul, i1]
    · show N / 10 ^ (k + j) % 10 = 0
      rw [i1]
    · rw [← Nat.add_assoc, restP_succ, i2, ← i3]
      simp

open Classical in
/-- Whether it is rounded to one more. -/
noncomputable def upB (m : Int) (neg : Bool) (N : Nat) (more : Bool) (k : Nat) : Bool := decide (UpP m neg (decide (N / 10 ^ k % 2 = 1)) (lastD N k : Nat) (decide (restP more N k)))
noncomputable def cutQ (m : Int) (neg : Bool) (N : Nat) (more : Bool) (k : Nat) : Nat := N / 10 ^ k + (upB m neg N more k).toNat

theorem lo_odd (h l : Nat) : (loW l % 2 = 1) ↔ (h * B128 + l) % 2 = 1 := by
  unfold loW B128
  omega
theorem lo_range (l : Nat) : 0 ≤ loW l ∧ loW l < 18446744073709551616 := by
  unfold loW
  omega
theorem b128_div {h l : Nat} (hl : l < B128) : (h * B128 + l) / B128 = h ∧ (h * B128 + l) % B128 = l := by
  have hp : 0 < B128 := by decide
  rw [Nat.mul_comm]
  exact ⟨by rw [Nat.mul_add_div hp, Nat.div_eq_of_lt hl]; omega, by rw [Nat.mul_add_mod, Nat.mod_eq_of_lt hl]⟩

theorem dU_0' : dU 0 = .agg [.v (.int .u64 0), .v (.int .u64 0)] := by kernel_rfl
theorem dU_1' : dU 1 = .agg [.v (.int .u64 0), .v (.int .u64 1)] := by kernel_rfl
theorem cw_Add2_1 {h l : Nat} (hh : h < B128) (hl : l < B128) : HasC Try.prog 65 [dU h, dU l, .agg [.v (.int .u64 0), .v (.int .u64 0)], .agg [.v (.int .u64 0), .v (.int .u64 1)]] (fun y => y = .tup [dU ((h * B128 + l + (0 * B128 + 1)) / B128 % B128), dU ((h * B128 + l + (0 * B128 + 1)) % B128), .v (.int .u64 (((h * B128 + l + (0 * B128 + 1)) / (B128 * B128) : Nat) : Int))]) := by
  rw [← dU_0', ← dU_1']
  exact cw_Add2 hh hl (by decide) (by decide)

/-- What the loop of Cut keeps. -/
structure CutInv (N : Nat) (more : Bool) (n e : Int) (k h l d : Nat) (c x : Int) (mo : Bool) : Prop where
  hh : h < B128
  hl : l < B128
  q : h * B128 + l = N / 10 ^ k
  d : d = lastD N k
  mo : mo = true ↔ restP more N k
  c : c = n - k
  x : x = e + k
  k : k = 0 ∨ (k : Int) ≤ n

theorem cut_fin {N : Nat} {more : Bool} {n e : Int} {k h l d : Nat} {c x : Int} {mo : Bool} (i : CutInv N more n e k h l d c x mo) (hs : c ≤ 0 ∨ (l = 0 ∧ h = 0 ∧ d = 0)) :
    h * B128 + l = N / 10 ^ n.toNat ∧ d = lastD N n.toNat ∧ (mo = true ↔ restP more N n.toNat) ∧ x + max 0 c = e + (n.toNat : Int) := by
  obtain ⟨i1, i2, i3, i4, i5, i6, i7, i8⟩ := i
  by_cases hc : c ≤ 0
  · have : n.toNat = k := by omega
    rw [this]
    exact ⟨i3, i4, i5, by omega⟩
  · obtain ⟨rfl, rfl, rfl⟩ := hs.resolve_left hc
    obtain ⟨j, hj⟩ : ∃ j, n.toNat = k + j := ⟨n.toNat - k, by omega⟩
    obtain ⟨s1, s2, s3⟩ := cut_stop (more := more) (by rw [← i3]; simp) i4.symm j
    rw [hj]
    exact ⟨by rw [s1]; simp, s2.symm, i5.trans s3.symm, by omega⟩

theorem upB_eq {m : Int} {neg more : Bool} {N nn h l d : Nat} {mo odd u : Bool} (f1 : h * B128 + l = N / 10 ^ nn) (f2 : d = lastD N nn) (f3 : mo = true ↔ restP more N nn) (ho : odd = true ↔ (h * B128 + l) % 2 = 1) (hu : u = true ↔ UpP m neg odd (d : Int) mo) : upB m neg N more nn = u := by
  unfold upB
  have e1 : odd = decide (N / 10 ^ nn % 2 = 1) := by rw [Bool.eq_iff_iff, ho, f1]; simp
  have e2 : mo = @decide (restP more N nn) (Classical.propDecidable _) := by rw [Bool.eq_iff_iff, f3]; simp
  rw [Bool.eq_iff_iff, hu, ← e1, ← e2, ← f2]
  simp
theorem CutInv.next {N : Nat} {more : Bool} {n e : Int} {k h l d : Nat} {c x c' x' : Int} {mo mo' : Bool} (i : CutInv N more n e k h l d c x mo) (hc : 0 < c) (hm : mo' = true ↔ (mo = true ∨ d ≠ 0)) (h1 : c' = c - 1) (h2 : x' = x + 1) :
    CutInv N more n e (k + 1) ((h * B128 + l) / 10 / B128) ((h * B128 + l) / 10 % B128) ((h * B128 + l) % 10) c' x' mo' := by
  obtain ⟨i1, i2, i3, i4, i5, i6, i7, i8⟩ := i
  have hB : h * B128 + l < B128 * B128 := by
    have : (h + 1) * B128 ≤ B128 * B128 := Nat.mul_le_mul_right _ i1
    rw [Nat.add_mul] at this
    omega
  refine ⟨?_, mod_lt128 _, ?_, ?_, ?_, by omega, by omega, .inr (by omega)⟩
  · exact Nat.div_lt_of_lt_mul (Nat.lt_of_le_of_lt (Nat.div_le_self _ _) hB)
  · rw [Nat.div_add_mod', i3, Nat.div_div_eq_div_mul, ← Nat.pow_succ]
  · rw [i3]; rfl
  · rw [hm, i5, i4]
    exact restP_succ.symm

set_option maxHeartbeats 1600000 in
theorem c_Cut {m n e : Int} {neg more : Bool} {hi lo : Nat} (hhi : hi < B128) (hlo : lo < B128) (hn : n ≤ 2305843009213693952) (he0 : -2305843009213693952 ≤ e) (he1 : e ≤ 2305843009213693952) : HasC Try.prog 51 [.agg [.v (.bool neg), .v (.int .u64 (hiW (hi))), .v (.int .u64 (loW (hi))), .v (.int .u64 (hiW (lo))), .v (.int .u64 (loW (lo))), .v (.int .i64 e), .v (.bool more)], .v (.int .i64 n), .v (.int .i64 m)] (fun y => y = dWide neg (cutQ m neg (hi * B128 + lo) more n.toNat / B128 % B128) (cutQ m neg (hi * B128 + lo) more n.toNat % B128) (e + n.toNat) false) := by
  refine HasC.of [] (fn := Try.f51) tyOk mixed (fun args w => Try.call51 args w) Try.func51 rfl (by kernel_rfl) (Nat.le_of_ble_eq_true rfl) (⟨_, rfl⟩) ?_
  obtain ⟨N, hN⟩ : ∃ N, N = hi * B128 + lo := ⟨_, rfl⟩
  rw [← hN]
  refine vc_seqr rfl ?_
  refine vcI_q 2 (by kernel_rfl) ?_
  refine vcI_end 84 [(1, .d (.v (.int .i64 n))), (2, .d (.v (.int .i64 m))), (3, .p 3 0), (6, .p 6 0)] [(3, [.v (.bool neg), .v (.int .u64 (hiW (hi))), .v (.int .u64 (loW (hi))), .v (.int .u64 (hiW (lo))), .v (.int .u64 (loW (lo))), .v (.int .i64 e), .v (.bool more)]), (6, [.v (.bool false), .v (.int .u64 0), .v (.int .u64 0), .v (.int .u64 0), .v (.int .u64 0), .v (.int .i64 0), .v (.bool false)])] (by kernel_rfl) (by kernel_rfl) (by kernel_rfl) ?_
  refine vc_seqr rfl ?_
  refine vcI_q 1 (by kernel_rfl) ?_
  refine vcI_end 84 [(1, .d (.v (.int .i64 n))), (2, .d (.v (.int .i64 m))), (3, .p 3 0), (6, .p 6 0), (7, .d (.v (.int .u64 0)))] [(3, [.v (.bool neg), .v (.int .u64 (hiW (hi))), .v (.int .u64 (loW (hi))), .v (.int .u64 (hiW (lo))), .v (.int .u64 (loW (lo))), .v (.int .i64 e), .v (.bool more)]), (6, [.v (.bool false), .v (.int .u64 0), .v (.int .u64 0), .v (.int .u64 0), .v (.int .u64 0), .v (.int .i64 0), .v (.bool false)])] (by kernel_rfl) (by kernel_rfl) (by kernel_rfl) ?_
  refine vc_seq ?_
  refine vc_block ?_
  refine vc_loop 84 (fun (vcx : Nat × Nat × Nat × Nat × Int × Int × Bool) => match vcx with | (k, h, l, d, c, x, mo) => [(1, .d (.v (.int .i64 c))), (2, .d (.v (.int .i64 m))), (3, .p 3 0), (6, .p 6 0), (7, .d (.v (.int .u64 ((d : Int)))))]) (fun (vcx : Nat × Nat × Nat × Nat × Int × Int × Bool) => match vcx with | (k, h, l, d, c, x, mo) => [(3, [.v (.bool neg), .v (.int .u64 (hiW (h))), .v (.int .u64 (loW (h))), .v (.int .u64 (hiW (l))), .v (.int .u64 (loW (l))), .v (.int .i64 x), .v (.bool mo)]), (6, [.v (.bool false), .v (.int .u64 0), .v (.int .u64 0), .v (.int .u64 0), .v (.int .u64 0), .v (.int .i64 0), .v (.bool false)])]) (fun (vcx : Nat × Nat × Nat × Nat × Int × Int × Bool) => match vcx with | (k, h, l, d, c, x, mo) => CutInv N more n e k h l d c x mo) (fun (vcx : Nat × Nat × Nat × Nat × Int × Int × Bool) => match vcx with | (k, h, l, d, c, x, mo) => n.toNat - k) ((0, hi, lo, 0, n, e, more)) (⟨hhi, hlo, by rw [hN]; simp, rfl, Iff.rfl, by omega, by omega, .inl rfl⟩) (by kernel_rfl) (by kernel_rfl) ?_
  rintro ⟨k, h, l, d, c, x, mo⟩ hinv
  simp only at hinv
  have hd := lastD_lt (N := N) (k := k)
  rw [← hinv.d] at hd
  have ic := hinv.c; have ix := hinv.x; have ik := hinv.k; have hh := hinv.hh; have hl := hinv.hl
  refine vc_seq ?_
  refine vc_seqr rfl ?_
  refine vcI_q 1 (by kernel_rfl) ?_
  refine vcI_bin (op := .gtr) (t := 3) (a := .int .i64 c) (b := .int .i64 0) (dst := (some 9)) (by kernel_rfl) ?_
  intro c9 hc9
  refine vcI_q 1 (by kernel_rfl) ?_
  cases c9
  · replace hc9 := bf hc9
    refine vcI_q 15 (by kernel_rfl) ?_
    refine vcI_end 84 [(1, .d (.v (.int .i64 c))), (2, .d (.v (.int .i64 m))), (3, .p 3 0), (6, .p 6 0), (7, .d (.v (.int .u64 ((d : Int))))), (25, .d (.v (.bool false)))] [(3, [.v (.bool neg), .v (.int .u64 (hiW (h))), .v (.int .u64 (loW (h))), .v (.int .u64 (hiW (l))), .v (.int .u64 (loW (l))), .v (.int .i64 x), .v (.bool mo)]), (6, [.v (.bool false), .v (.int .u64 0), .v (.int .u64 0), .v (.int .u64 0), .v (.int .u64 0), .v (.int .i64 0), .v (.bool false)])] (by kernel_rfl) (by kernel_rfl) (by kernel_rfl) ?_
    obtain ⟨f1, f2, f3, f4⟩ := cut_fin hinv (.inl (by omega))
    clear hinv
    refine vc_condf (by kernel_rfl) ?_
    refine vc_exit ?_
    refine seq_x ?_
    refine loop_x ?_
    refine block_x rfl ?_
    refine seq_n ?_
    refine vc_seqr rfl ?_
    refine vcI_q 3 (by kernel_rfl) ?_
    refine vcI_blt (b := .max) (tys := [3, 3]) (vs := [.int .i64 0, .int .i64 c]) (dst := (some 54)) (by kernel_rfl) ?_
    intro z54 hz54
    simp only at hz54
    refine vcI_bin (op := .add) (t := 3) (a := .int .i64 x) (b := .int .i64 z54) (dst := (some 55)) (by kernel_rfl) ?_
    intro z55 hz55
    first | (replace hz55 := hz55.i64 (by omega)) | skip
    refine vcI_q 2 (by kernel_rfl) ?_
    refine vcI_end 84 [(1, .d (.v (.int .i64 c))), (2, .d (.v (.int .i64 m))), (3, .p 3 0), (6, .p 6 0), (7, .d (.v (.int .u64 ((d : Int))))), (25, .d (.v (.bool false)))] [(3, [.v (.bool neg), .v (.int .u64 (hiW (h))), .v (.int .u64 (loW (h))), .v (.int .u64 (hiW (l))), .v (.int .u64 (loW (l))), .v (.int .i64 z55), .v (.bool mo)]), (6, [.v (.bool false), .v (.int .u64 0), .v (.int .u64 0), .v (.int .u64 0), .v (.int .u64 0), .v (.int .i64 0), .v (.bool false)])] (by kernel_rfl) (by kernel_rfl) (by kernel_rfl) ?_
    refine vc_seq ?_
    refine vc_seqr rfl ?_
    refine vcI_q 6 (by kernel_rfl) ?_
    refine vcI_bin (op := .and) (t := 22) (a := .int .u64 (loW (l))) (b := .int .u64 1) (dst := (some 63)) (by kernel_rfl) ?_
    intro z63 hz63
    refine vcI_bin (op := .eql) (t := 22) (a := .int .u64 z63) (b := .int .u64 1) (dst := (some 64)) (by kernel_rfl) ?_
    intro c64 hc64
    refine vcI_q 3 (by kernel_rfl) ?_
    refine vcI_call (f := 64) (ds := [.v (.int .i64 m), .v (.bool neg), .v (.bool c64), .v (.int .u64 ((d : Int))), .v (.bool mo)]) (dst := (some 68)) (by kernel_rfl) (c_up) ?_
    rintro _ ⟨u, rfl, hu⟩
    have ho : c64 = true ↔ (h * B128 + l) % 2 = 1 := by rw [hc64, ← lo_odd h l, and_one hz63 (lo_range l).1 (lo_range l).2]
    have hup := upB_eq f1 f2 f3 ho hu
    have ez : z55 = e + (n.toNat : Int) := by omega
    refine vcI_end 84 [(1, .d (.v (.int .i64 c))), (3, .p 3 0), (6, .p 6 0), (7, .d (.v (.int .u64 ((d : Int))))), (25, .d (.v (.bool false))), (68, .d (.v (.bool u)))] [(3, [.v (.bool neg), .v (.int .u64 (hiW (h))), .v (.int .u64 (loW (h))), .v (.int .u64 (hiW (l))), .v (.int .u64 (loW (l))), .v (.int .i64 z55), .v (.bool mo)]), (6, [.v (.bool false), .v (.int .u64 0), .v (.int .u64 0), .v (.int .u64 0), .v (.int .u64 0), .v (.int .i64 0), .v (.bool false)])] (by kernel_rfl) (by kernel_rfl) (by kernel_rfl) ?_
    cases u
    · replace hu := bf hu
      refine vc_condf (by kernel_rfl) ?_
      refine vc_skip ?_
      refine seq_n ?_
      refine vc_seqr rfl ?_
      refine vcI_q 2 (by kernel_rfl) ?_
      refine vcI_end 84 [(1, .d (.v (.int .i64 c))), (3, .p 3 0), (6, .p 6 0), (7, .d (.v (.int .u64 ((d : Int))))), (25, .d (.v (.bool false))), (68, .d (.v (.bool false)))] [(3, [.v (.bool neg), .v (.int .u64 (hiW (h))), .v (.int .u64 (loW (h))), .v (.int .u64 (hiW (l))), .v (.int .u64 (loW (l))), .v (.int .i64 z55), .v (.bool false)]), (6, [.v (.bool false), .v (.int .u64 0), .v (.int .u64 0), .v (.int .u64 0), .v (.int .u64 0), .v (.int .i64 0), .v (.bool false)])] (by kernel_rfl) (by kernel_rfl) (by kernel_rfl) ?_
      refine vc_seqr rfl ?_
      refine vcI_q 2 (by kernel_rfl) ?_
      refine vcI_end 84 [(1, .d (.v (.int .i64 c))), (3, .p 3 0), (6, .p 6 0), (7, .d (.v (.int .u64 ((d : Int))))), (25, .d (.v (.bool false))), (68, .d (.v (.bool false)))] [(3, [.v (.bool neg), .v (.int .u64 (hiW (h))), .v (.int .u64 (loW (h))), .v (.int .u64 (hiW (l))), .v (.int .u64 (loW (l))), .v (.int .i64 z55), .v (.bool false)]), (6, [.v (.bool neg), .v (.int .u64 (hiW (h))), .v (.int .u64 (loW (h))), .v (.int .u64 (hiW (l))), .v (.int .u64 (loW (l))), .v (.int .i64 z55), .v (.bool false)])] (by kernel_rfl) (by kernel_rfl) (by kernel_rfl) ?_
      refine vc_ret ?_
      refine ret_1 (d := .agg [.v (.bool neg), .v (.int .u64 (hiW (h))), .v (.int .u64 (loW (h))), .v (.int .u64 (hiW (l))), .v (.int .u64 (loW (l))), .v (.int .i64 z55), .v (.bool false)]) (by kernel_rfl) ?_
      have hQ : cutQ m neg N more n.toNat = h * B128 + l := by unfold cutQ; rw [hup, ← f1]; exact Nat.add_zero _
      rw [hQ, (b128_div hl).1, (b128_div hl).2, Nat.mod_eq_of_lt hh, ez]
      rfl
    · replace hu := bt hu
      refine vc_condt (by kernel_rfl) ?_
      refine vc_reg rfl ?_
      refine vcI_q 5 (by kernel_rfl) ?_
      refine vcI_call (f := 21) (ds := [.v (.int .u64 1)]) (dst := (some 75)) (by kernel_rfl) (cw_Of 1) ?_
      rintro _ rfl
      refine vcI_call (f := 65) (ds := [.agg [.v (.int .u64 (hiW (h))), .v (.int .u64 (loW (h)))], .agg [.v (.int .u64 (hiW (l))), .v (.int .u64 (loW (l)))], .agg [.v (.int .u64 0), .v (.int .u64 0)], .agg [.v (.int .u64 0), .v (.int .u64 1)]]) (dst := (some 76)) (by kernel_rfl) (cw_Add2_1 hh hl) ?_
      rintro _ rfl
      refine vcI_q 8 (by kernel_rfl) ?_
      refine vcI_end 84 [(1, .d (.v (.int .i64 c))), (3, .p 3 0), (6, .p 6 0), (7, .d (.v (.int .u64 ((d : Int))))), (25, .d (.v (.bool false))), (68, .d (.v (.bool true)))] [(3, [.v (.bool neg), .v (.int .u64 (hiW ((h * B128 + l + (0 * B128 + 1)) / B128 % B128))), .v (.int .u64 (loW ((h * B128 + l + (0 * B128 + 1)) / B128 % B128))), .v (.int .u64 (hiW ((h * B128 + l + (0 * B128 + 1)) % B128))), .v (.int .u64 (loW ((h * B128 + l + (0 * B128 + 1)) % B128))), .v (.int .i64 z55), .v (.bool mo)]), (6, [.v (.bool false), .v (.int .u64 0), .v (.int .u64 0), .v (.int .u64 0), .v (.int .u64 0), .v (.int .i64 0), .v (.bool false)])] (by kernel_rfl) (by kernel_rfl) (by kernel_rfl) ?_
      refine seq_n ?_
      refine vc_seqr rfl ?_
      refine vcI_q 2 (by kernel_rfl) ?_
      refine vcI_end 84 [(1, .d (.v (.int .i64 c))), (3, .p 3 0), (6, .p 6 0), (7, .d (.v (.int .u64 ((d : Int))))), (25, .d (.v (.bool false))), (68, .d (.v (.bool true)))] [(3, [.v (.bool neg), .v (.int .u64 (hiW ((h * B128 + l + (0 * B128 + 1)) / B128 % B128))), .v (.int .u64 (loW ((h * B128 + l + (0 * B128 + 1)) / B128 % B128))), .v (.int .u64 (hiW ((h * B128 + l + (0 * B128 + 1)) % B128))), .v (.int .u64 (loW ((h * B128 + l + (0 * B128 + 1)) % B128))), .v (.int .i64 z55), .v (.bool false)]), (6, [.v (.bool false), .v (.int .u64 0), .v (.int .u64 0), .v (.int .u64 0), .v (.int .u64 0), .v (.int .i64 0), .v (.bool false)])] (by kernel_rfl) (by kernel_rfl) (by kernel_rfl) ?_
      refine vc_seqr rfl ?_
      refine vcI_q 2 (by kernel_rfl) ?_
      refine vcI_end 84 [(1, .d (.v (.int .i64 c))), (3, .p 3 0), (6, .p 6 0), (7, .d (.v (.int .u64 ((d : Int))))), (25, .d (.v (.bool false))), (68, .d (.v (.bool true)))] [(3, [.v (.bool neg), .v (.int .u64 (hiW ((h * B128 + l + (0 * B128 + 1)) / B128 % B128))), .v (.int .u64 (loW ((h * B128 + l + (0 * B128 + 1)) / B128 % B128))), .v (.int .u64 (hiW ((h * B128 + l + (0 * B128 + 1)) % B128))), .v (.int .u64 (loW ((h * B128 + l + (0 * B128 + 1)) % B128))), .v (.int .i64 z55), .v (.bool false)]), (6, [.v (.bool neg), .v (.int .u64 (hiW ((h * B128 + l + (0 * B128 + 1)) / B128 % B128))), .v (.int .u64 (loW ((h * B128 + l + (0 * B128 + 1)) / B128 % B128))), .v (.int .u64 (hiW ((h * B128 + l + (0 * B128 + 1)) % B128))), .v (.int .u64 (loW ((h * B128 + l + (0 * B128 + 1)) % B128))), .v (.int .i64 z55), .v (.bool false)])] (by kernel_rfl) (by kernel_rfl) (by kernel_rfl) ?_
      refine vc_ret ?_
      refine ret_1 (d := .agg [.v (.bool neg), .v (.int .u64 (hiW ((h * B128 + l + (0 * B128 + 1)) / B128 % B128))), .v (.int .u64 (loW ((h * B128 + l + (0 * B128 + 1)) / B128 % B128))), .v (.int .u64 (hiW ((h * B128 + l + (0 * B128 + 1)) % B128))), .v (.int .u64 (loW ((h * B128 + l + (0 * B128 + 1)) % B128))), .v (.int .i64 z55), .v (.bool false)]) (by kernel_rfl) ?_
      have hQ : cutQ m neg N more n.toNat = h * B128 + l + (0 * B128 + 1) := by unfold cutQ; rw [hup, ← f1]; simp
      rw [hQ, ez]
      rfl
  · replace hc9 := bt hc9
    refine vcI_q 2 (by kernel_rfl) ?_
    refine vcI_call (f := 29) (ds := [.agg [.v (.int .u64 (hiW (h))), .v (.int .u64 (loW (h)))]]) (dst := (some 13)) (by kernel_rfl) (cw_Zero hinv.hh) ?_
    rintro _ ⟨zh, rfl, hzh⟩
    refine vcI_un (op := .not) (a := .bool zh) (dst := (some 14)) (by kernel_rfl) ?_
    intro c14 hc14
    refine vcI_q 1 (by kernel_rfl) ?_
    cases c14
    · replace hc14 := bf hc14
      refine vcI_q 2 (by kernel_rfl) ?_
      have hh0 : h = 0 := hzh.1 (by cases zh; exact absurd rfl (fun e => hc14 e); rfl)
      refine vcI_call (f := 29) (ds := [.agg [.v (.int .u64 (hiW (l))), .v (.int .u64 (loW (l)))]]) (dst := (some 18)) (by kernel_rfl) (cw_Zero hinv.hl) ?_
      rintro _ ⟨zl, rfl, hzl⟩
      refine vcI_un (op := .not) (a := .bool zl) (dst := (some 19)) (by kernel_rfl) ?_
      intro c19 hc19
      refine vcI_q 2 (by kernel_rfl) ?_
      cases c19
      · replace hc19 := bf hc19
        refine vcI_q 1 (by kernel_rfl) ?_
        refine vcI_bin (op := .neq) (t := 22) (a := .int .u64 ((d : Int))) (b := .int .u64 0) (dst := (some 23)) (by kernel_rfl) ?_
        intro c23 hc23
        have hl0 : l = 0 := hzl.1 (by cases zl; exact absurd rfl (fun e => hc19 e); rfl)
        refine vcI_q 2 (by kernel_rfl) ?_
        refine vcI_end 84 [(1, .d (.v (.int .i64 c))), (2, .d (.v (.int .i64 m))), (3, .p 3 0), (6, .p 6 0), (7, .d (.v (.int .u64 ((d : Int))))), (25, .d (.v (.bool c23)))] [(3, [.v (.bool neg), .v (.int .u64 (hiW (h))), .v (.int .u64 (loW (h))), .v (.int .u64 (hiW (l))), .v (.int .u64 (loW (l))), .v (.int .i64 x), .v (.bool mo)]), (6, [.v (.bool false), .v (.int .u64 0), .v (.int .u64 0), .v (.int .u64 0), .v (.int .u64 0), .v (.int .i64 0), .v (.bool false)])] (by kernel_rfl) (by kernel_rfl) (by kernel_rfl) ?_
        cases c23
        · replace hc23 := bf hc23
          obtain ⟨f1, f2, f3, f4⟩ := cut_fin hinv (.inr ⟨hl0, hh0, by omega⟩)
          clear hinv
          refine vc_condf (by kernel_rfl) ?_
          refine vc_exit ?_
          refine seq_x ?_
          refine loop_x ?_
          refine block_x rfl ?_
          refine seq_n ?_
          refine vc_seqr rfl ?_
          refine vcI_q 3 (by kernel_rfl) ?_
          refine vcI_blt (b := .max) (tys := [3, 3]) (vs := [.int .i64 0, .int .i64 c]) (dst := (some 54)) (by kernel_rfl) ?_
          intro z54 hz54
          simp only at hz54
          refine vcI_bin (op := .add) (t := 3) (a := .int .i64 x) (b := .int .i64 z54) (dst := (some 55)) (by kernel_rfl) ?_
          intro z55 hz55
          first | (replace hz55 := hz55.i64 (by omega)) | skip
          refine vcI_q 2 (by kernel_rfl) ?_
          refine vcI_end 84 [(1, .d (.v (.int .i64 c))), (2, .d (.v (.int .i64 m))), (3, .p 3 0), (6, .p 6 0), (7, .d (.v (.int .u64 ((d : Int))))), (25, .d (.v (.bool false)))] [(3, [.v (.bool neg), .v (.int .u64 (hiW (h))), .v (.int .u64 (loW (h))), .v (.int .u64 (hiW (l))), .v (.int .u64 (loW (l))), .v (.int .i64 z55), .v (.bool mo)]), (6, [.v (.bool false), .v (.int .u64 0), .v (.int .u64 0), .v (.int .u64 0), .v (.int .u64 0), .v (.int .i64 0), .v (.bool false)])] (by kernel_rfl) (by kernel_rfl) (by kernel_rfl) ?_
          refine vc_seq ?_
          refine vc_seqr rfl ?_
          refine vcI_q 6 (by kernel_rfl) ?_
          refine vcI_bin (op := .and) (t := 22) (a := .int .u64 (loW (l))) (b := .int .u64 1) (dst := (some 63)) (by kernel_rfl) ?_
          intro z63 hz63
          refine vcI_bin (op := .eql) (t := 22) (a := .int .u64 z63) (b := .int .u64 1) (dst := (some 64)) (by kernel_rfl) ?_
          intro c64 hc64
          refine vcI_q 3 (by kernel_rfl) ?_
          refine vcI_call (f := 64) (ds := [.v (.int .i64 m), .v (.bool neg), .v (.bool c64), .v (.int .u64 ((d : Int))), .v (.bool mo)]) (dst := (some 68)) (by kernel_rfl) (c_up) ?_
          rintro _ ⟨u, rfl, hu⟩
          have ho : c64 = true ↔ (h * B128 + l) % 2 = 1 := by rw [hc64, ← lo_odd h l, and_one hz63 (lo_range l).1 (lo_range l).2]
          have hup := upB_eq f1 f2 f3 ho hu
          have ez : z55 = e + (n.toNat : Int) := by omega
          refine vcI_end 84 [(1, .d (.v (.int .i64 c))), (3, .p 3 0), (6, .p 6 0), (7, .d (.v (.int .u64 ((d : Int))))), (25, .d (.v (.bool false))), (68, .d (.v (.bool u)))] [(3, [.v (.bool neg), .v (.int .u64 (hiW (h))), .v (.int .u64 (loW (h))), .v (.int .u64 (hiW (l))), .v (.int .u64 (loW (l))), .v (.int .i64 z55), .v (.bool mo)]), (6, [.v (.bool false), .v (.int .u64 0), .v (.int .u64 0), .v (.int .u64 0), .v (.int .u64 0), .v (.int .i64 0), .v (.bool false)])] (by kernel_rfl) (by kernel_rfl) (by kernel_rfl) ?_
          cases u
          · replace hu := bf hu
            refine vc_condf (by kernel_rfl) ?_
            refine vc_skip ?_
            refine seq_n ?_
            refine vc_seqr rfl ?_
            refine vcI_q 2 (by kernel_rfl) ?_
            refine vcI_end 84 [(1, .d (.v (.int .i64 c))), (3, .p 3 0), (6, .p 6 0), (7, .d (.v (.int .u64 ((d : Int))))), (25, .d (.v (.bool false))), (68, .d (.v (.bool false)))] [(3, [.v (.bool neg), .v (.int .u64 (hiW (h))), .v (.int .u64 (loW (h))), .v (.int .u64 (hiW (l))), .v (.int .u64 (loW (l))), .v (.int .i64 z55), .v (.bool false)]), (6, [.v (.bool false), .v (.int .u64 0), .v (.int .u64 0), .v (.int .u64 0), .v (.int .u64 0), .v (.int .i64 0), .v (.bool false)])] (by kernel_rfl) (by kernel_rfl) (by kernel_rfl) ?_
            refine vc_seqr rfl ?_
            refine vcI_q 2 (by kernel_rfl) ?_
            refine vcI_end 84 [(1, .d (.v (.int .i64 c))), (3, .p 3 0), (6, .p 6 0), (7, .d (.v (.int .u64 ((d : Int))))), (25, .d (.v (.bool false))), (68, .d (.v (.bool false)))] [(3, [.v (.bool neg), .v (.int .u64 (hiW (h))), .v (.int .u64 (loW (h))), .v (.int .u64 (hiW (l))), .v (.int .u64 (loW (l))), .v (.int .i64 z55), .v (.bool false)]), (6, [.v (.bool neg), .v (.int .u64 (hiW (h))), .v (.int .u64 (loW (h))), .v (.int .u64 (hiW (l))), .v (.int .u64 (loW (l))), .v (.int .i64 z55), .v (.bool false)])] (by kernel_rfl) (by kernel_rfl) (by kernel_rfl) ?_
            refine vc_ret ?_
            refine ret_1 (d := .agg [.v (.bool neg), .v (.int .u64 (hiW (h))), .v (.int .u64 (loW (h))), .v (.int .u64 (hiW (l))), .v (.int .u64 (loW (l))), .v (.int .i64 z55), .v (.bool false)]) (by kernel_rfl) ?_
            have hQ : cutQ m neg N more n.toNat = h * B128 + l := by unfold cutQ; rw [hup, ← f1]; exact Nat.add_zero _
            rw [hQ, (b128_div hl).1, (b128_div hl).2, Nat.mod_eq_of_lt hh, ez]
            rfl
          · replace hu := bt hu
            refine vc_condt (by kernel_rfl) ?_
            refine vc_reg rfl ?_
            refine vcI_q 5 (by kernel_rfl) ?_
            refine vcI_call (f := 21) (ds := [.v (.int .u64 1)]) (dst := (some 75)) (by kernel_rfl) (cw_Of 1) ?_
            rintro _ rfl
            refine vcI_call (f := 65) (ds := [.agg [.v (.int .u64 (hiW (h))), .v (.int .u64 (loW (h)))], .agg [.v (.int .u64 (hiW (l))), .v (.int .u64 (loW (l)))], .agg [.v (.int .u64 0), .v (.int .u64 0)], .agg [.v (.int .u64 0), .v (.int .u64 1)]]) (dst := (some 76)) (by kernel_rfl) (cw_Add2_1 hh hl) ?_
            rintro _ rfl
            refine vcI_q 8 (by kernel_rfl) ?_
            refine vcI_end 84 [(1, .d (.v (.int .i64 c))), (3, .p 3 0), (6, .p 6 0), (7, .d (.v (.int .u64 ((d : Int))))), (25, .d (.v (.bool false))), (68, .d (.v (.bool true)))] [(3, [.v (.bool neg), .v (.int .u64 (hiW ((h * B128 + l + (0 * B128 + 1)) / B128 % B128))), .v (.int .u64 (loW ((h * B128 + l + (0 * B128 + 1)) / B128 % B128))), .v (.int .u64 (hiW ((h * B128 + l + (0 * B128 + 1)) % B128))), .v (.int .u64 (loW ((h * B128 + l + (0 * B128 + 1)) % B128))), .v (.int .i64 z55), .v (.bool mo)]), (6, [.v (.bool false), .v (.int .u64 0), .v (.int .u64 0), .v (.int .u64 0), .v (.int .u64 0), .v (.int .i64 0), .v (.bool false)])] (by kernel_rfl) (by kernel_rfl) (by kernel_rfl) ?_
            refine seq_n ?_
            refine vc_seqr rfl ?_
            refine vcI_q 2 (by kernel_rfl) ?_
            refine vcI_end 84 [(1, .d (.v (.int .i64 c))), (3, .p 3 0), (6, .p 6 0), (7, .d (.v (.int .u64 ((d : Int))))), (25, .d (.v (.bool false))), (68, .d (.v (.bool true)))] [(3, [.v (.bool neg), .v (.int .u64 (hiW ((h * B128 + l + (0 * B128 + 1)) / B128 % B128))), .v (.int .u64 (loW ((h * B128 + l + (0 * B128 + 1)) / B128 % B128))), .v (.int .u64 (hiW ((h * B128 + l + (0 * B128 + 1)) % B128))), .v (.int .u64 (loW ((h * B128 + l + (0 * B128 + 1)) % B128))), .v (.int .i64 z55), .v (.bool false)]), (6, [.v (.bool false), .v (.int .u64 0), .v (.int .u64 0), .v (.int .u64 0), .v (.int .u64 0), .v (.int .i64 0), .v (.bool false)])] (by kernel_rfl) (by kernel_rfl) (by kernel_rfl) ?_
            refine vc_seqr rfl ?_
            refine vcI_q 2 (by kernel_rfl) ?_
            refine vcI_end 84 [(1, .d (.v (.int .i64 c))), (3, .p 3 0), (6, .p 6 0), (7, .d (.v (.int .u64 ((d : Int))))), (25, .d (.v (.bool false))), (68, .d (.v (.bool true)))] [(3, [.v (.bool neg), .v (.int .u64 (hiW ((h * B128 + l + (0 * B128 + 1)) / B128 % B128))), .v (.int .u64 (loW ((h * B128 + l + (0 * B128 + 1)) / B128 % B128))), .v (.int .u64 (hiW ((h * B128 + l + (0 * B128 + 1)) % B128))), .v (.int .u64 (loW ((h * B128 + l + (0 * B128 + 1)) % B128))), .v (.int .i64 z55), .v (.bool false)]), (6, [.v (.bool neg), .v (.int .u64 (hiW ((h * B128 + l + (0 * B128 + 1)) / B128 % B128))), .v (.int .u64 (loW ((h * B128 + l + (0 * B128 + 1)) / B128 % B128))), .v (.int .u64 (hiW ((h * B128 + l + (0 * B128 + 1)) % B128))), .v (.int .u64 (loW ((h * B128 + l + (0 * B128 + 1)) % B128))), .v (.int .i64 z55), .v (.bool false)])] (by kernel_rfl) (by kernel_rfl) (by kernel_rfl) ?_
            refine vc_ret ?_
            refine ret_1 (d := .agg [.v (.bool neg), .v (.int .u64 (hiW ((h * B128 + l + (0 * B128 + 1)) / B128 % B128))), .v (.int .u64 (loW ((h * B128 + l + (0 * B128 + 1)) / B128 % B128))), .v (.int .u64 (hiW ((h * B128 + l + (0 * B128 + 1)) % B128))), .v (.int .u64 (loW ((h * B128 + l + (0 * B128 + 1)) % B128))), .v (.int .i64 z55), .v (.bool false)]) (by kernel_rfl) ?_
            have hQ : cutQ m neg N more n.toNat = h * B128 + l + (0 * B128 + 1) := by unfold cutQ; rw [hup, ← f1]; simp
            rw [hQ, ez]
            rfl
        · replace hc23 := bt hc23
          refine vc_condt (by kernel_rfl) ?_
          refine vc_skip ?_
          refine seq_n ?_
          refine vc_seq ?_
          refine vc_block ?_
          refine vc_seqr rfl ?_
          refine vcI_q 3 (by kernel_rfl) ?_
          cases mo
          · skip
            refine vcI_q 1 (by kernel_rfl) ?_
            refine vcI_bin (op := .neq) (t := 22) (a := .int .u64 ((d : Int))) (b := .int .u64 0) (dst := (some 32)) (by kernel_rfl) ?_
            intro c32 hc32
            refine vcI_q 3 (by kernel_rfl) ?_
            refine vcI_end 84 [(1, .d (.v (.int .i64 c))), (2, .d (.v (.int .i64 m))), (3, .p 3 0), (6, .p 6 0), (7, .d (.v (.int .u64 ((d : Int))))), (25, .d (.v (.bool true)))] [(3, [.v (.bool neg), .v (.int .u64 (hiW (h))), .v (.int .u64 (loW (h))), .v (.int .u64 (hiW (l))), .v (.int .u64 (loW (l))), .v (.int .i64 x), .v (.bool c32)]), (6, [.v (.bool false), .v (.int .u64 0), .v (.int .u64 0), .v (.int .u64 0), .v (.int .u64 0), .v (.int .i64 0), .v (.bool false)])] (by kernel_rfl) (by kernel_rfl) (by kernel_rfl) ?_
            refine vc_seqr rfl ?_
            refine vcI_q 4 (by kernel_rfl) ?_
            refine vcI_call (f := 33) (ds := [.agg [.v (.int .u64 (hiW (h))), .v (.int .u64 (loW (h)))], .agg [.v (.int .u64 (hiW (l))), .v (.int .u64 (loW (l)))], .v (.int .u64 10)]) (dst := (some 40)) (by kernel_rfl) (cw_DivWord (n := 10) hh hl (by decide) (by decide)) ?_
            rintro _ rfl
            refine vcI_q 10 (by kernel_rfl) ?_
            refine vcI_end 84 [(1, .d (.v (.int .i64 c))), (2, .d (.v (.int .i64 m))), (3, .p 3 0), (6, .p 6 0), (7, .d (.v (.int .u64 ((((h * B128 + l) % 10 : Nat) : Int))))), (25, .d (.v (.bool true)))] [(3, [.v (.bool neg), .v (.int .u64 (hiW ((h * B128 + l) / 10 / B128))), .v (.int .u64 (loW ((h * B128 + l) / 10 / B128))), .v (.int .u64 (hiW ((h * B128 + l) / 10 % B128))), .v (.int .u64 (loW ((h * B128 + l) / 10 % B128))), .v (.int .i64 x), .v (.bool c32)]), (6, [.v (.bool false), .v (.int .u64 0), .v (.int .u64 0), .v (.int .u64 0), .v (.int .u64 0), .v (.int .i64 0), .v (.bool false)])] (by kernel_rfl) (by kernel_rfl) (by kernel_rfl) ?_
            refine vc_reg rfl ?_
            refine vcI_q 2 (by kernel_rfl) ?_
            refine vcI_bin (op := .add) (t := 3) (a := .int .i64 x) (b := .int .i64 1) (dst := (some 49)) (by kernel_rfl) ?_
            intro z49 hz49
            first | (replace hz49 := hz49.i64 (by omega)) | skip
            refine vcI_q 2 (by kernel_rfl) ?_
            refine vcI_end 84 [(1, .d (.v (.int .i64 c))), (2, .d (.v (.int .i64 m))), (3, .p 3 0), (6, .p 6 0), (7, .d (.v (.int .u64 ((((h * B128 + l) % 10 : Nat) : Int))))), (25, .d (.v (.bool true)))] [(3, [.v (.bool neg), .v (.int .u64 (hiW ((h * B128 + l) / 10 / B128))), .v (.int .u64 (loW ((h * B128 + l) / 10 / B128))), .v (.int .u64 (hiW ((h * B128 + l) / 10 % B128))), .v (.int .u64 (loW ((h * B128 + l) / 10 % B128))), .v (.int .i64 z49), .v (.bool c32)]), (6, [.v (.bool false), .v (.int .u64 0), .v (.int .u64 0), .v (.int .u64 0), .v (.int .u64 0), .v (.int .i64 0), .v (.bool false)])] (by kernel_rfl) (by kernel_rfl) (by kernel_rfl) ?_
            refine block_n ?_
            refine seq_n ?_
            refine vc_reg rfl ?_
            refine vcI_q 1 (by kernel_rfl) ?_
            refine vcI_bin (op := .sub) (t := 3) (a := .int .i64 c) (b := .int .i64 1) (dst := (some 27)) (by kernel_rfl) ?_
            intro z27 hz27
            first | (replace hz27 := hz27.i64 (by omega)) | skip
            refine vcI_q 1 (by kernel_rfl) ?_
            refine vcI_end 84 [(1, .d (.v (.int .i64 z27))), (2, .d (.v (.int .i64 m))), (3, .p 3 0), (6, .p 6 0), (7, .d (.v (.int .u64 ((((h * B128 + l) % 10 : Nat) : Int))))), (25, .d (.v (.bool true)))] [(3, [.v (.bool neg), .v (.int .u64 (hiW ((h * B128 + l) / 10 / B128))), .v (.int .u64 (loW ((h * B128 + l) / 10 / B128))), .v (.int .u64 (hiW ((h * B128 + l) / 10 % B128))), .v (.int .u64 (loW ((h * B128 + l) / 10 % B128))), .v (.int .i64 z49), .v (.bool c32)]), (6, [.v (.bool false), .v (.int .u64 0), .v (.int .u64 0), .v (.int .u64 0), .v (.int .u64 0), .v (.int .i64 0), .v (.bool false)])] (by kernel_rfl) (by kernel_rfl) (by kernel_rfl) ?_
            refine loop_n (k + 1, (h * B128 + l) / 10 / B128, (h * B128 + l) / 10 % B128, (h * B128 + l) % 10, z27, z49, c32) (hinv.next (by omega) (by rw [hc32]; simp) hz27 hz49) (by show n.toNat - (k + 1) < n.toNat - k; omega) (by kernel_rfl) (by kernel_rfl)
          · skip
            refine vcI_q 5 (by kernel_rfl) ?_
            refine vcI_end 84 [(1, .d (.v (.int .i64 c))), (2, .d (.v (.int .i64 m))), (3, .p 3 0), (6, .p 6 0), (7, .d (.v (.int .u64 ((d : Int))))), (25, .d (.v (.bool true)))] [(3, [.v (.bool neg), .v (.int .u64 (hiW (h))), .v (.int .u64 (loW (h))), .v (.int .u64 (hiW (l))), .v (.int .u64 (loW (l))), .v (.int .i64 x), .v (.bool true)]), (6, [.v (.bool false), .v (.int .u64 0), .v (.int .u64 0), .v (.int .u64 0), .v (.int .u64 0), .v (.int .i64 0), .v (.bool false)])] (by kernel_rfl) (by kernel_rfl) (by kernel_rfl) ?_
            refine vc_seqr rfl ?_
            refine vcI_q 4 (by kernel_rfl) ?_
            refine vcI_call (f := 33) (ds := [.agg [.v (.int .u64 (hiW (h))), .v (.int .u64 (loW (h)))], .agg [.v (.int .u64 (hiW (l))), .v (.int .u64 (loW (l)))], .v (.int .u64 10)]) (dst := (some 40)) (by kernel_rfl) (cw_DivWord (n := 10) hh hl (by decide) (by decide)) ?_
            rintro _ rfl
            refine vcI_q 10 (by kernel_rfl) ?_
            refine vcI_end 84 [(1, .d (.v (.int .i64 c))), (2, .d (.v (.int .i64 m))), (3, .p 3 0), (6, .p 6 0), (7, .d (.v (.int .u64 ((((h * B128 + l) % 10 : Nat) : Int))))), (25, .d (.v (.bool true)))] [(3, [.v (.bool neg), .v (.int .u64 (hiW ((h * B128 + l) / 10 / B128))), .v (.int .u64 (loW ((h * B128 + l) / 10 / B128))), .v (.int .u64 (hiW ((h * B128 + l) / 10 % B128))), .v (.int .u64 (loW ((h * B128 + l) / 10 % B128))), .v (.int .i64 x), .v (.bool true)]), (6, [.v (.bool false), .v (.int .u64 0), .v (.int .u64 0), .v (.int .u64 0), .v (.int .u64 0), .v (.int .i64 0), .v (.bool false)])] (by kernel_rfl) (by kernel_rfl) (by kernel_rfl) ?_
            refine vc_reg rfl ?_
            refine vcI_q 2 (by kernel_rfl) ?_
            refine vcI_bin (op := .add) (t := 3) (a := .int .i64 x) (b := .int .i64 1) (dst := (some 49)) (by kernel_rfl) ?_
            intro z49 hz49
            first | (replace hz49 := hz49.i64 (by omega)) | skip
            refine vcI_q 2 (by kernel_rfl) ?_
            refine vcI_end 84 [(1, .d (.v (.int .i64 c))), (2, .d (.v (.int .i64 m))), (3, .p 3 0), (6, .p 6 0), (7, .d (.v (.int .u64 ((((h * B128 + l) % 10 : Nat) : Int))))), (25, .d (.v (.bool true)))] [(3, [.v (.bool neg), .v (.int .u64 (hiW ((h * B128 + l) / 10 / B128))), .v (.int .u64 (loW ((h * B128 + l) / 10 / B128))), .v (.int .u64 (hiW ((h * B128 + l) / 10 % B128))), .v (.int .u64 (loW ((h * B128 + l) / 10 % B128))), .v (.int .i64 z49), .v (.bool true)]), (6, [.v (.bool false), .v (.int .u64 0), .v (.int .u64 0), .v (.int .u64 0), .v (.int .u64 0), .v (.int .i64 0), .v (.bool false)])] (by kernel_rfl) (by kernel_rfl) (by kernel_rfl) ?_
            refine block_n ?_
            refine seq_n ?_
            refine vc_reg rfl ?_
            refine vcI_q 1 (by kernel_rfl) ?_
            refine vcI_bin (op := .sub) (t := 3) (a := .int .i64 c) (b := .int .i64 1) (dst := (some 27)) (by kernel_rfl) ?_
            intro z27 hz27
            first | (replace hz27 := hz27.i64 (by omega)) | skip
            refine vcI_q 1 (by kernel_rfl) ?_
            refine vcI_end 84 [(1, .d (.v (.int .i64 z27))), (2, .d (.v (.int .i64 m))), (3, .p 3 0), (6, .p 6 0), (7, .d (.v (.int .u64 ((((h * B128 + l) % 10 : Nat) : Int))))), (25, .d (.v (.bool true)))] [(3, [.v (.bool neg), .v (.int .u64 (hiW ((h * B128 + l) / 10 / B128))), .v (.int .u64 (loW ((h * B128 + l) / 10 / B128))), .v (.int .u64 (hiW ((h * B128 + l) / 10 % B128))), .v (.int .u64 (loW ((h * B128 + l) / 10 % B128))), .v (.int .i64 z49), .v (.bool true)]), (6, [.v (.bool false), .v (.int .u64 0), .v (.int .u64 0), .v (.int .u64 0), .v (.int .u64 0), .v (.int .i64 0), .v (.bool false)])] (by kernel_rfl) (by kernel_rfl) (by kernel_rfl) ?_
            refine loop_n (k + 1, (h * B128 + l) / 10 / B128, (h * B128 + l) / 10 % B128, (h * B128 + l) % 10, z27, z49, true) (hinv.next (by omega) (by simp) hz27 hz49) (by show n.toNat - (k + 1) < n.toNat - k; omega) (by kernel_rfl) (by kernel_rfl)
      · replace hc19 := bt hc19
        refine vcI_q 4 (by kernel_rfl) ?_
        refine vcI_end 84 [(1, .d (.v (.int .i64 c))), (2, .d (.v (.int .i64 m))), (3, .p 3 0), (6, .p 6 0), (7, .d (.v (.int .u64 ((d : Int))))), (25, .d (.v (.bool true)))] [(3, [.v (.bool neg), .v (.int .u64 (hiW (h))), .v (.int .u64 (loW (h))), .v (.int .u64 (hiW (l))), .v (.int .u64 (loW (l))), .v (.int .i64 x), .v (.bool mo)]), (6, [.v (.bool false), .v (.int .u64 0), .v (.int .u64 0), .v (.int .u64 0), .v (.int .u64 0), .v (.int .i64 0), .v (.bool false)])] (by kernel_rfl) (by kernel_rfl) (by kernel_rfl) ?_
        refine vc_condt (by kernel_rfl) ?_
        refine vc_skip ?_
        refine seq_n ?_
        refine vc_seq ?_
        refine vc_block ?_
        refine vc_seqr rfl ?_
        refine vcI_q 3 (by kernel_rfl) ?_
        cases mo
        · skip
          refine vcI_q 1 (by kernel_rfl) ?_
          refine vcI_bin (op := .neq) (t := 22) (a := .int .u64 ((d : Int))) (b := .int .u64 0) (dst := (some 32)) (by kernel_rfl) ?_
          intro c32 hc32
          refine vcI_q 3 (by kernel_rfl) ?_
          refine vcI_end 84 [(1, .d (.v (.int .i64 c))), (2, .d (.v (.int .i64 m))), (3, .p 3 0), (6, .p 6 0), (7, .d (.v (.int .u64 ((d : Int))))), (25, .d (.v (.bool true)))] [(3, [.v (.bool neg), .v (.int .u64 (hiW (h))), .v (.int .u64 (loW (h))), .v (.int .u64 (hiW (l))), .v (.int .u64 (loW (l))), .v (.int .i64 x), .v (.bool c32)]), (6, [.v (.bool false), .v (.int .u64 0), .v (.int .u64 0), .v (.int .u64 0), .v (.int .u64 0), .v (.int .i64 0), .v (.bool false)])] (by kernel_rfl) (by kernel_rfl) (by kernel_rfl) ?_
          refine vc_seqr rfl ?_
          refine vcI_q 4 (by kernel_rfl) ?_
          refine vcI_call (f := 33) (ds := [.agg [.v (.int .u64 (hiW (h))), .v (.int .u64 (loW (h)))], .agg [.v (.int .u64 (hiW (l))), .v (.int .u64 (loW (l)))], .v (.int .u64 10)]) (dst := (some 40)) (by kernel_rfl) (cw_DivWord (n := 10) hh hl (by decide) (by decide)) ?_
          rintro _ rfl
          refine vcI_q 10 (by kernel_rfl) ?_
          refine vcI_end 84 [(1, .d (.v (.int .i64 c))), (2, .d (.v (.int .i64 m))), (3, .p 3 0), (6, .p 6 0), (7, .d (.v (.int .u64 ((((h * B128 + l) % 10 : Nat) : Int))))), (25, .d (.v (.bool true)))] [(3, [.v (.bool neg), .v (.int .u64 (hiW ((h * B128 + l) / 10 / B128))), .v (.int .u64 (loW ((h * B128 + l) / 10 / B128))), .v (.int .u64 (hiW ((h * B128 + l) / 10 % B128))), .v (.int .u64 (loW ((h * B128 + l) / 10 % B128))), .v (.int .i64 x), .v (.bool c32)]), (6, [.v (.bool false), .v (.int .u64 0), .v (.int .u64 0), .v (.int .u64 0), .v (.int .u64 0), .v (.int .i64 0), .v (.bool false)])] (by kernel_rfl) (by kernel_rfl) (by kernel_rfl) ?_
          refine vc_reg rfl ?_
          refine vcI_q 2 (by kernel_rfl) ?_
          refine vcI_bin (op := .add) (t := 3) (a := .int .i64 x) (b := .int .i64 1) (dst := (some 49)) (by kernel_rfl) ?_
          intro z49 hz49
          first | (replace hz49 := hz49.i64 (by omega)) | skip
          refine vcI_q 2 (by kernel_rfl) ?_
          refine vcI_end 84 [(1, .d (.v (.int .i64 c))), (2, .d (.v (.int .i64 m))), (3, .p 3 0), (6, .p 6 0), (7, .d (.v (.int .u64 ((((h * B128 + l) % 10 : Nat) : Int))))), (25, .d (.v (.bool true)))] [(3, [.v (.bool neg), .v (.int .u64 (hiW ((h * B128 + l) / 10 / B128))), .v (.int .u64 (loW ((h * B128 + l) / 10 / B128))), .v (.int .u64 (hiW ((h * B128 + l) / 10 % B128))), .v (.int .u64 (loW ((h * B128 + l) / 10 % B128))), .v (.int .i64 z49), .v (.bool c32)]), (6, [.v (.bool false), .v (.int .u64 0), .v (.int .u64 0), .v (.int .u64 0), .v (.int .u64 0), .v (.int .i64 0), .v (.bool false)])] (by kernel_rfl) (by kernel_rfl) (by kernel_rfl) ?_
          refine block_n ?_
          refine seq_n ?_
          refine vc_reg rfl ?_
          refine vcI_q 1 (by kernel_rfl) ?_
          refine vcI_bin (op := .sub) (t := 3) (a := .int .i64 c) (b := .int .i64 1) (dst := (some 27)) (by kernel_rfl) ?_
          intro z27 hz27
          first | (replace hz27 := hz27.i64 (by omega)) | skip
          refine vcI_q 1 (by kernel_rfl) ?_
          refine vcI_end 84 [(1, .d (.v (.int .i64 z27))), (2, .d (.v (.int .i64 m))), (3, .p 3 0), (6, .p 6 0), (7, .d (.v (.int .u64 ((((h * B128 + l) % 10 : Nat) : Int))))), (25, .d (.v (.bool true)))] [(3, [.v (.bool neg), .v (.int .u64 (hiW ((h * B128 + l) / 10 / B128))), .v (.int .u64 (loW ((h * B128 + l) / 10 / B128))), .v (.int .u64 (hiW ((h * B128 + l) / 10 % B128))), .v (.int .u64 (loW ((h * B128 + l) / 10 % B128))), .v (.int .i64 z49), .v (.bool c32)]), (6, [.v (.bool false), .v (.int .u64 0), .v (.int .u64 0), .v (.int .u64 0), .v (.int .u64 0), .v (.int .i64 0), .v (.bool false)])] (by kernel_rfl) (by kernel_rfl) (by kernel_rfl) ?_
          refine loop_n (k + 1, (h * B128 + l) / 10 / B128, (h * B128 + l) / 10 % B128, (h * B128 + l) % 10, z27, z49, c32) (hinv.next (by omega) (by rw [hc32]; simp) hz27 hz49) (by show n.toNat - (k + 1) < n.toNat - k; omega) (by kernel_rfl) (by kernel_rfl)
        · skip
          refine vcI_q 5 (by kernel_rfl) ?_
          refine vcI_end 84 [(1, .d (.v (.int .i64 c))), (2, .d (.v (.int .i64 m))), (3, .p 3 0), (6, .p 6 0), (7, .d (.v (.int .u64 ((d : Int))))), (25, .d (.v (.bool true)))] [(3, [.v (.bool neg), .v (.int .u64 (hiW (h))), .v (.int .u64 (loW (h))), .v (.int .u64 (hiW (l))), .v (.int .u64 (loW (l))), .v (.int .i64 x), .v (.bool true)]), (6, [.v (.bool false), .v (.int .u64 0), .v (.int .u64 0), .v (.int .u64 0), .v (.int .u64 0), .v (.int .i64 0), .v (.bool false)])] (by kernel_rfl) (by kernel_rfl) (by kernel_rfl) ?_
          refine vc_seqr rfl ?_
          refine vcI_q 4 (by kernel_rfl) ?_
          refine vcI_call (f := 33) (ds := [.agg [.v (.int .u64 (hiW (h))), .v (.int .u64 (loW (h)))], .agg [.v (.int .u64 (hiW (l))), .v (.int .u64 (loW (l)))], .v (.int .u64 10)]) (dst := (some 40)) (by kernel_rfl) (cw_DivWord (n := 10) hh hl (by decide) (by decide)) ?_
          rintro _ rfl
          refine vcI_q 10 (by kernel_rfl) ?_
          refine vcI_end 84 [(1, .d (.v (.int .i64 c))), (2, .d (.v (.int .i64 m))), (3, .p 3 0), (6, .p 6 0), (7, .d (.v (.int .u64 ((((h * B128 + l) % 10 : Nat) : Int))))), (25, .d (.v (.bool true)))] [(3, [.v (.bool neg), .v (.int .u64 (hiW ((h * B128 + l) / 10 / B128))), .v (.int .u64 (loW ((h * B128 + l) / 10 / B128))), .v (.int .u64 (hiW ((h * B128 + l) / 10 % B128))), .v (.int .u64 (loW ((h * B128 + l) / 10 % B128))), .v (.int .i64 x), .v (.bool true)]), (6, [.v (.bool false), .v (.int .u64 0), .v (.int .u64 0), .v (.int .u64 0), .v (.int .u64 0), .v (.int .i64 0), .v (.bool false)])] (by kernel_rfl) (by kernel_rfl) (by kernel_rfl) ?_
          refine vc_reg rfl ?_
          refine vcI_q 2 (by kernel_rfl) ?_
          refine vcI_bin (op := .add) (t := 3) (a := .int .i64 x) (b := .int .i64 1) (dst := (some 49)) (by kernel_rfl) ?_
          intro z49 hz49
          first | (replace hz49 := hz49.i64 (by omega)) | skip
          refine vcI_q 2 (by kernel_rfl) ?_
          refine vcI_end 84 [(1, .d (.v (.int .i64 c))), (2, .d (.v (.int .i64 m))), (3, .p 3 0), (6, .p 6 0), (7, .d (.v (.int .u64 ((((h * B128 + l) % 10 : Nat) : Int))))), (25, .d (.v (.bool true)))] [(3, [.v (.bool neg), .v (.int .u64 (hiW ((h * B128 + l) / 10 / B128))), .v (.int .u64 (loW ((h * B128 + l) / 10 / B128))), .v (.int .u64 (hiW ((h * B128 + l) / 10 % B128))), .v (.int .u64 (loW ((h * B128 + l) / 10 % B128))), .v (.int .i64 z49), .v (.bool true)]), (6, [.v (.bool false), .v (.int .u64 0), .v (.int .u64 0), .v (.int .u64 0), .v (.int .u64 0), .v (.int .i64 0), .v (.bool false)])] (by kernel_rfl) (by kernel_rfl) (by kernel_rfl) ?_
          refine block_n ?_
          refine seq_n ?_
          refine vc_reg rfl ?_
          refine vcI_q 1 (by kernel_rfl) ?_
          refine vcI_bin (op := .sub) (t := 3) (a := .int .i64 c) (b := .int .i64 1) (dst := (some 27)) (by kernel_rfl) ?_
          intro z27 hz27
          first | (replace hz27 := hz27.i64 (by omega)) | skip
          refine vcI_q 1 (by kernel_rfl) ?_
          refine vcI_end 84 [(1, .d (.v (.int .i64 z27))), (2, .d (.v (.int .i64 m))), (3, .p 3 0), (6, .p 6 0), (7, .d (.v (.int .u64 ((((h * B128 + l) % 10 : Nat) : Int))))), (25, .d (.v (.bool true)))] [(3, [.v (.bool neg), .v (.int .u64 (hiW ((h * B128 + l) / 10 / B128))), .v (.int .u64 (loW ((h * B128 + l) / 10 / B128))), .v (.int .u64 (hiW ((h * B128 + l) / 10 % B128))), .v (.int .u64 (loW ((h * B128 + l) / 10 % B128))), .v (.int .i64 z49), .v (.bool true)]), (6, [.v (.bool false), .v (.int .u64 0), .v (.int .u64 0), .v (.int .u64 0), .v (.int .u64 0), .v (.int .i64 0), .v (.bool false)])] (by kernel_rfl) (by kernel_rfl) (by kernel_rfl) ?_
          refine loop_n (k + 1, (h * B128 + l) / 10 / B128, (h * B128 + l) / 10 % B128, (h * B128 + l) % 10, z27, z49, true) (hinv.next (by omega) (by simp) hz27 hz49) (by show n.toNat - (k + 1) < n.toNat - k; omega) (by kernel_rfl) (by kernel_rfl)
    · replace hc14 := bt hc14
      refine vcI_q 10 (by kernel_rfl) ?_
      refine vcI_end 84 [(1, .d (.v (.int .i64 c))), (2, .d (.v (.int .i64 m))), (3, .p 3 0), (6, .p 6 0), (7, .d (.v (.int .u64 ((d : Int))))), (25, .d (.v (.bool true)))] [(3, [.v (.bool neg), .v (.int .u64 (hiW (h))), .v (.int .u64 (loW (h))), .v (.int .u64 (hiW (l))), .v (.int .u64 (loW (l))), .v (.int .i64 x), .v (.bool mo)]), (6, [.v (.bool false), .v (.int .u64 0), .v (.int .u64 0), .v (.int .u64 0), .v (.int .u64 0), .v (.int .i64 0), .v (.bool false)])] (by kernel_rfl) (by kernel_rfl) (by kernel_rfl) ?_
      refine vc_condt (by kernel_rfl) ?_
      refine vc_skip ?_
      refine seq_n ?_
      refine vc_seq ?_
      refine vc_block ?_
      refine vc_seqr rfl ?_
      refine vcI_q 3 (by kernel_rfl) ?_
      cases mo
      · skip
        refine vcI_q 1 (by kernel_rfl) ?_
        refine vcI_bin (op := .neq) (t := 22) (a := .int .u64 ((d : Int))) (b := .int .u64 0) (dst := (some 32)) (by kernel_rfl) ?_
        intro c32 hc32
        refine vcI_q 3 (by kernel_rfl) ?_
        refine vcI_end 84 [(1, .d (.v (.int .i64 c))), (2, .d (.v (.int .i64 m))), (3, .p 3 0), (6, .p 6 0), (7, .d (.v (.int .u64 ((d : Int))))), (25, .d (.v (.bool true)))] [(3, [.v (.bool neg), .v (.int .u64 (hiW (h))), .v (.int .u64 (loW (h))), .v (.int .u64 (hiW (l))), .v (.int .u64 (loW (l))), .v (.int .i64 x), .v (.bool c32)]), (6, [.v (.bool false), .v (.int .u64 0), .v (.int .u64 0), .v (.int .u64 0), .v (.int .u64 0), .v (.int .i64 0), .v (.bool false)])] (by kernel_rfl) (by kernel_rfl) (by kernel_rfl) ?_
        refine vc_seqr rfl ?_
        refine vcI_q 4 (by kernel_rfl) ?_
        refine vcI_call (f := 33) (ds := [.agg [.v (.int .u64 (hiW (h))), .v (.int .u64 (loW (h)))], .agg [.v (.int .u64 (hiW (l))), .v (.int .u64 (loW (l)))], .v (.int .u64 10)]) (dst := (some 40)) (by kernel_rfl) (cw_DivWord (n := 10) hh hl (by decide) (by decide)) ?_
        rintro _ rfl
        refine vcI_q 10 (by kernel_rfl) ?_
        refine vcI_end 84 [(1, .d (.v (.int .i64 c))), (2, .d (.v (.int .i64 m))), (3, .p 3 0), (6, .p 6 0), (7, .d (.v (.int .u64 ((((h * B128 + l) % 10 : Nat) : Int))))), (25, .d (.v (.bool true)))] [(3, [.v (.bool neg), .v (.int .u64 (hiW ((h * B128 + l) / 10 / B128))), .v (.int .u64 (loW ((h * B128 + l) / 10 / B128))), .v (.int .u64 (hiW ((h * B128 + l) / 10 % B128))), .v (.int .u64 (loW ((h * B128 + l) / 10 % B128))), .v (.int .i64 x), .v (.bool c32)]), (6, [.v (.bool false), .v (.int .u64 0), .v (.int .u64 0), .v (.int .u64 0), .v (.int .u64 0), .v (.int .i64 0), .v (.bool false)])] (by kernel_rfl) (by kernel_rfl) (by kernel_rfl) ?_
        refine vc_reg rfl ?_
        refine vcI_q 2 (by kernel_rfl) ?_
        refine vcI_bin (op := .add) (t := 3) (a := .int .i64 x) (b := .int .i64 1) (dst := (some 49)) (by kernel_rfl) ?_
        intro z49 hz49
        first | (replace hz49 := hz49.i64 (by omega)) | skip
        refine vcI_q 2 (by kernel_rfl) ?_
        refine vcI_end 84 [(1, .d (.v (.int .i64 c))), (2, .d (.v (.int .i64 m))), (3, .p 3 0), (6, .p 6 0), (7, .d (.v (.int .u64 ((((h * B128 + l) % 10 : Nat) : Int))))), (25, .d (.v (.bool true)))] [(3, [.v (.bool neg), .v (.int .u64 (hiW ((h * B128 + l) / 10 / B128))), .v (.int .u64 (loW ((h * B128 + l) / 10 / B128))), .v (.int .u64 (hiW ((h * B128 + l) / 10 % B128))), .v (.int .u64 (loW ((h * B128 + l) / 10 % B128))), .v (.int .i64 z49), .v (.bool c32)]), (6, [.v (.bool false), .v (.int .u64 0), .v (.int .u64 0), .v (.int .u64 0), .v (.int .u64 0), .v (.int .i64 0), .v (.bool false)])] (by kernel_rfl) (by kernel_rfl) (by kernel_rfl) ?_
        refine block_n ?_
        refine seq_n ?_
        refine vc_reg rfl ?_
        refine vcI_q 1 (by kernel_rfl) ?_
        refine vcI_bin (op := .sub) (t := 3) (a := .int .i64 c) (b := .int .i64 1) (dst := (some 27)) (by kernel_rfl) ?_
        intro z27 hz27
        first | (replace hz27 := hz27.i64 (by omega)) | skip
        refine vcI_q 1 (by kernel_rfl) ?_
        refine vcI_end 84 [(1, .d (.v (.int .i64 z27))), (2, .d (.v (.int .i64 m))), (3, .p 3 0), (6, .p 6 0), (7, .d (.v (.int .u64 ((((h * B128 + l) % 10 : Nat) : Int))))), (25, .d (.v (.bool true)))] [(3, [.v (.bool neg), .v (.int .u64 (hiW ((h * B128 + l) / 10 / B128))), .v (.int .u64 (loW ((h * B128 + l) / 10 / B128))), .v (.int .u64 (hiW ((h * B128 + l) / 10 % B128))), .v (.int .u64 (loW ((h * B128 + l) / 10 % B128))), .v (.int .i64 z49), .v (.bool c32)]), (6, [.v (.bool false), .v (.int .u64 0), .v (.int .u64 0), .v (.int .u64 0), .v (.int .u64 0), .v (.int .i64 0), .v (.bool false)])] (by kernel_rfl) (by kernel_rfl) (by kernel_rfl) ?_
        refine loop_n (k + 1, (h * B128 + l) / 10 / B128, (h * B128 + l) / 10 % B128, (h * B128 + l) % 10, z27, z49, c32) (hinv.next (by omega) (by rw [hc32]; simp) hz27 hz49) (by show n.toNat - (k + 1) < n.toNat - k; omega) (by kernel_rfl) (by kernel_rfl)
      · skip
        refine vcI_q 5 (by kernel_rfl) ?_
        refine vcI_end 84 [(1, .d (.v (.int .i64 c))), (2, .d (.v (.int .i64 m))), (3, .p 3 0), (6, .p 6 0), (7, .d (.v (.int .u64 ((d : Int))))), (25, .d (.v (.bool true)))] [(3, [.v (.bool neg), .v (.int .u64 (hiW (h))), .v (.int .u64 (loW (h))), .v (.int .u64 (hiW (l))), .v (.int .u64 (loW (l))), .v (.int .i64 x), .v (.bool true)]), (6, [.v (.bool false), .v (.int .u64 0), .v (.int .u64 0), .v (.int .u64 0), .v (.int .u64 0), .v (.int .i64 0), .v (.bool false)])] (by kernel_rfl) (by kernel_rfl) (by kernel_rfl) ?_
        refine vc_seqr rfl ?_
        refine vcI_q 4 (by kernel_rfl) ?_
        refine vcI_call (f := 33) (ds := [.agg [.v (.int .u64 (hiW (h))), .v (.int .u64 (loW (h)))], .agg [.v (.int .u64 (hiW (l))), .v (.int .u64 (loW (l)))], .v (.int .u64 10)]) (dst := (some 40)) (by kernel_rfl) (cw_DivWord (n := 10) hh hl (by decide) (by decide)) ?_
        rintro _ rfl
        refine vcI_q 10 (by kernel_rfl) ?_
        refine vcI_end 84 [(1, .d (.v (.int .i64 c))), (2, .d (.v (.int .i64 m))), (3, .p 3 0), (6, .p 6 0), (7, .d (.v (.int .u64 ((((h * B128 + l) % 10 : Nat) : Int))))), (25, .d (.v (.bool true)))] [(3, [.v (.bool neg), .v (.int .u64 (hiW ((h * B128 + l) / 10 / B128))), .v (.int .u64 (loW ((h * B128 + l) / 10 / B128))), .v (.int .u64 (hiW ((h * B128 + l) / 10 % B128))), .v (.int .u64 (loW ((h * B128 + l) / 10 % B128))), .v (.int .i64 x), .v (.bool true)]), (6, [.v (.bool false), .v (.int .u64 0), .v (.int .u64 0), .v (.int .u64 0), .v (.int .u64 0), .v (.int .i64 0), .v (.bool false)])] (by kernel_rfl) (by kernel_rfl) (by kernel_rfl) ?_
        refine vc_reg rfl ?_
        refine vcI_q 2 (by kernel_rfl) ?_
        refine vcI_bin (op := .add) (t := 3) (a := .int .i64 x) (b := .int .i64 1) (dst := (some 49)) (by kernel_rfl) ?_
        intro z49 hz49
        first | (replace hz49 := hz49.i64 (by omega)) | skip
        refine vcI_q 2 (by kernel_rfl) ?_
        refine vcI_end 84 [(1, .d (.v (.int .i64 c))), (2, .d (.v (.int .i64 m))), (3, .p 3 0), (6, .p 6 0), (7, .d (.v (.int .u64 ((((h * B128 + l) % 10 : Nat) : Int))))), (25, .d (.v (.bool true)))] [(3, [.v (.bool neg), .v (.int .u64 (hiW ((h * B128 + l) / 10 / B128))), .v (.int .u64 (loW ((h * B128 + l) / 10 / B128))), .v (.int .u64 (hiW ((h * B128 + l) / 10 % B128))), .v (.int .u64 (loW ((h * B128 + l) / 10 % B128))), .v (.int .i64 z49), .v (.bool true)]), (6, [.v (.bool false), .v (.int .u64 0), .v (.int .u64 0), .v (.int .u64 0), .v (.int .u64 0), .v (.int .i64 0), .v (.bool false)])] (by kernel_rfl) (by kernel_rfl) (by kernel_rfl) ?_
        refine block_n ?_
        refine seq_n ?_
        refine vc_reg rfl ?_
        refine vcI_q 1 (by kernel_rfl) ?_
        refine vcI_bin (op := .sub) (t := 3) (a := .int .i64 c) (b := .int .i64 1) (dst := (some 27)) (by kernel_rfl) ?_
        intro z27 hz27
        first | (replace hz27 := hz27.i64 (by omega)) | skip
        refine vcI_q 1 (by kernel_rfl) ?_
        refine vcI_end 84 [(1, .d (.v (.int .i64 z27))), (2, .d (.v (.int .i64 m))), (3, .p 3 0), (6, .p 6 0), (7, .d (.v (.int .u64 ((((h * B128 + l) % 10 : Nat) : Int))))), (25, .d (.v (.bool true)))] [(3, [.v (.bool neg), .v (.int .u64 (hiW ((h * B128 + l) / 10 / B128))), .v (.int .u64 (loW ((h * B128 + l) / 10 / B128))), .v (.int .u64 (hiW ((h * B128 + l) / 10 % B128))), .v (.int .u64 (loW ((h * B128 + l) / 10 % B128))), .v (.int .i64 z49), .v (.bool true)]), (6, [.v (.bool false), .v (.int .u64 0), .v (.int .u64 0), .v (.int .u64 0), .v (.int .u64 0), .v (.int .i64 0), .v (.bool false)])] (by kernel_rfl) (by kernel_rfl) (by kernel_rfl) ?_
        refine loop_n (k + 1, (h * B128 + l) / 10 / B128, (h * B128 + l) / 10 % B128, (h * B128 + l) % 10, z27, z49, true) (hinv.next (by omega) (by simp) hz27 hz49) (by show n.toNat - (k + 1) < n.toNat - k; omega) (by kernel_rfl) (by kernel_rfl)

end Go.Proofs.Ytdlfgliokkgceaa
