/-
  What casuistlaw01's own functions do.
-/
import Derived.Test.YtpnfomnnbmncaaaVcM2
import Derived.Test.YtpnfomnnbmncaaaVcY
namespace Go.Proofs.Ytpnfomnnbmncaaa
open Go.RowKit
set_option linter.unusedVariables false
set_option linter.unusedSimpArgs false
set_option maxRecDepth 100000

theorem wval_hl {a : Nat} (h : a < B128) : wval [hiW a, loW a] = a := by
  unfold B128 at h
  simp [wval, hiW, loW]
  omega
theorem wval_hl2 {a b : Nat} (h : a < B128) (k : b < B128) : wval [hiW a, loW a, hiW b, loW b] = a * B128 + b := by
  unfold B128 at *
  simp [wval, hiW, loW]
  omega
theorem nd_word {n : Nat} (h : n < 18446744073709551616) : nd n ≤ 20 := nd_le _ _ (Nat.lt_trans h (by decide))
theorem nd_U {n : Nat} (h : n < B128) : nd n ≤ 39 := nd_le _ _ (Nat.lt_trans h (by decide))
theorem nd_U2 {a b : Nat} (h : a < B128) (k : b < B128) : nd (a * B128 + b) ≤ 78 := nd_le _ _ (by
  unfold B128 at *
  omega)
theorem nd_two (n : Nat) : nd (2 ^ n) ≤ n + 1 := nd_le _ _ (Nat.lt_of_lt_of_le (Nat.pow_lt_pow_right (by decide) (by omega : n < n + 1)) (Nat.pow_le_pow_left (by decide) _))

theorem c_N {a : Nat} (ha : a < B128) : HasC Try.prog 15 [.agg [.v (.int .u64 (hiW (a))), .v (.int .u64 (loW (a)))]] (fun y => y = .sl (nd a) (dg (digs a))) := by
  refine HasC.of [] (fn := Try.f15) tyOk mixed (fun args w => Try.call15 args w) Try.func15 rfl (by kernel_rfl) (Nat.le_of_ble_eq_true rfl) (⟨_, rfl⟩) ?_
  have h1 := hi_range ha; have h2 := lo_range' a
  refine vc_seqr rfl ?_
  refine vcI_q 2 (by kernel_rfl) ?_
  refine vcI_end 9 [(1, .p 1 0), (2, .w (.sl 0 []) none)] [(1, [.v (.int .u64 (hiW (a))), .v (.int .u64 (loW (a)))])] (by kernel_rfl) (by kernel_rfl) (by kernel_rfl) ?_
  refine vc_seqr rfl ?_
  refine vcI_q 5 (by kernel_rfl) ?_
  refine vcI_call (f := 18) (ds := [.sl 2 [.v (.int .u64 (hiW (a))), .v (.int .u64 (loW (a)))]]) (dst := (some 8)) (by kernel_rfl) (c_Words (ws := [hiW a, loW a]) (by intro x hx; simp at hx; omega) (by intro x hx; simp at hx; omega) (by simp)) ?_
  rintro _ rfl
  refine vcI_q 1 (by kernel_rfl) ?_
  refine vcI_end 9 [(2, .d (.sl (nd (wval [hiW a, loW a])) (dg (digs (wval [hiW a, loW a])))))] [] (by kernel_rfl) (by kernel_rfl) (by kernel_rfl) ?_
  refine vc_ret ?_
  refine ret_1 (d := .sl (nd (wval [hiW a, loW a])) (dg (digs (wval [hiW a, loW a])))) (by kernel_rfl) ?_
  rw [wval_hl ha]

theorem c_Two {a b : Nat} (ha : a < B128) (hb : b < B128) : HasC Try.prog 13 [.agg [.v (.int .u64 (hiW (a))), .v (.int .u64 (loW (a)))], .agg [.v (.int .u64 (hiW (b))), .v (.int .u64 (loW (b)))]] (fun y => y = .sl (nd (a * B128 + b)) (dg (digs (a * B128 + b)))) := by
  refine HasC.of [] (fn := Try.f13) tyOk mixed (fun args w => Try.call13 args w) Try.func13 rfl (by kernel_rfl) (Nat.le_of_ble_eq_true rfl) (⟨_, rfl⟩) ?_
  have h1 := hi_range ha; have h2 := lo_range' a; have h3 := hi_range hb; have h4 := lo_range' b
  refine vc_seqr rfl ?_
  refine vcI_q 3 (by kernel_rfl) ?_
  refine vcI_end 15 [(2, .p 2 0), (3, .p 3 0), (4, .w (.sl 0 []) none)] [(2, [.v (.int .u64 (hiW (a))), .v (.int .u64 (loW (a)))]), (3, [.v (.int .u64 (hiW (b))), .v (.int .u64 (loW (b)))])] (by kernel_rfl) (by kernel_rfl) (by kernel_rfl) ?_
  refine vc_seqr rfl ?_
  refine vcI_q 9 (by kernel_rfl) ?_
  refine vcI_call (f := 18) (ds := [.sl 4 [.v (.int .u64 (hiW (a))), .v (.int .u64 (loW (a))), .v (.int .u64 (hiW (b))), .v (.int .u64 (loW (b)))]]) (dst := (some 14)) (by kernel_rfl) (c_Words (ws := [hiW a, loW a, hiW b, loW b]) (by intro x hx; simp at hx; omega) (by intro x hx; simp at hx; omega) (by simp)) ?_
  rintro _ rfl
  refine vcI_q 1 (by kernel_rfl) ?_
  refine vcI_end 15 [(4, .d (.sl (nd (wval [hiW a, loW a, hiW b, loW b])) (dg (digs (wval [hiW a, loW a, hiW b, loW b])))))] [] (by kernel_rfl) (by kernel_rfl) (by kernel_rfl) ?_
  refine vc_ret ?_
  refine ret_1 (d := .sl (nd (wval [hiW a, loW a, hiW b, loW b])) (dg (digs (wval [hiW a, loW a, hiW b, loW b])))) (by kernel_rfl) ?_
  rw [wval_hl2 ha hb]

theorem c_Word {n : Nat} (hn : n < 18446744073709551616) : HasC Try.prog 18 [.sl 1 [.v (.int .u64 (n : Int))]] (fun y => y = .sl (nd n) (dg (digs n))) :=
  (c_Words (ws := [(n : Int)]) (by intro x hx; simp at hx; omega) (by intro x hx; simp at hx; omega) (by simp)).mono fun y hy => by
    have e : wval [(n : Int)] = n := by simp [wval]
    rw [hy, e]

theorem c_over {n k : Nat} (hn : n < 18446744073709551616) (hk : k ≤ 9000) : HasC Try.prog 17 [.v (.int .u64 ((n : Int))), .v (.int .i64 ((k : Int)))] (fun y => y = .sl (nd (n * 2 ^ k)) (dg (digs (n * 2 ^ k)))) := by
  refine HasC.of [] (fn := Try.f17) tyOk mixed (fun args w => Try.call17 args w) Try.func17 rfl (by kernel_rfl) (Nat.le_of_ble_eq_true rfl) (⟨_, rfl⟩) ?_
  refine vc_seqr rfl ?_
  refine vcI_q 1 (by kernel_rfl) ?_
  refine vcI_end 11 [(0, .d (.v (.int .u64 ((n : Int))))), (1, .d (.v (.int .i64 ((k : Int))))), (4, .w (.sl 0 []) none)] [] (by kernel_rfl) (by kernel_rfl) (by kernel_rfl) ?_
  refine vc_seqr rfl ?_
  refine vcI_q 2 (by kernel_rfl) ?_
  refine vcI_call (f := 18) (ds := [.sl 1 [.v (.int .u64 ((n : Int)))]]) (dst := (some 7)) (by kernel_rfl) (c_Word hn) ?_
  rintro _ rfl
  refine vcI_q 1 (by kernel_rfl) ?_
  refine vcI_call (f := 35) (ds := [.v (.int .i64 ((k : Int)))]) (dst := (some 9)) (by kernel_rfl) (c_Power hk) ?_
  rintro _ rfl
  have h1 := nd_word hn; have h2 := nd_two k
  refine vcI_call (f := 14) (ds := [.sl (nd (n)) (dg (digs (n))), .sl (nd (2 ^ k)) (dg (digs (2 ^ k)))]) (dst := (some 10)) (by kernel_rfl) (c_Mul (a := n) (b := 2 ^ k) (by omega) (by omega)) ?_
  rintro _ rfl
  refine vcI_q 1 (by kernel_rfl) ?_
  refine vcI_end 11 [(4, .d (.sl (nd (n * 2 ^ k)) (dg (digs (n * 2 ^ k)))))] [] (by kernel_rfl) (by kernel_rfl) (by kernel_rfl) ?_
  refine vc_ret ?_
  refine ret_1 (d := .sl (nd (n * 2 ^ k)) (dg (digs (n * 2 ^ k)))) (by kernel_rfl) ?_
  rfl

theorem c_same {a b : Nat} (ha : nd a ≤ 90000000) (hb : nd b ≤ 90000000) : HasC Try.prog 12 [.sl (nd (a)) (dg (digs (a))), .sl (nd (b)) (dg (digs (b)))] (fun y => ∃ c, y = .v (.bool c) ∧ (c = true ↔ a = b)) := by
  refine HasC.of [] (fn := Try.f12) tyOk mixed (fun args w => Try.call12 args w) Try.func12 rfl (by kernel_rfl) (Nat.le_of_ble_eq_true rfl) (⟨_, decide (a = b), rfl, by simp⟩) ?_
  refine vc_seqr rfl ?_
  refine vcI_q 1 (by kernel_rfl) ?_
  refine vcI_end 9 [(0, .d (.sl (nd (a)) (dg (digs (a))))), (1, .d (.sl (nd (b)) (dg (digs (b))))), (4, .d (.v (.bool false)))] [] (by kernel_rfl) (by kernel_rfl) (by kernel_rfl) ?_
  refine vc_seqr rfl ?_
  refine vcI_q 2 (by kernel_rfl) ?_
  refine vcI_call (f := 21) (ds := [.sl (nd (a)) (dg (digs (a))), .sl (nd (b)) (dg (digs (b)))]) (dst := (some 7)) (by kernel_rfl) (c_Cmp ha hb) ?_
  rintro _ rfl
  refine vcI_bin (op := .eql) (t := 3) (a := .int .i64 (cmpN a b)) (b := .int .i64 0) (dst := (some 8)) (by kernel_rfl) ?_
  intro c8 hc8
  refine vcI_q 1 (by kernel_rfl) ?_
  refine vcI_end 9 [(4, .d (.v (.bool c8)))] [] (by kernel_rfl) (by kernel_rfl) (by kernel_rfl) ?_
  refine vc_ret ?_
  refine ret_1 (d := .v (.bool c8)) (by kernel_rfl) ?_
  exact ⟨_, rfl, hc8.trans cN_eq⟩
theorem c_sameT {a b : Nat} (h : a = b) (ha : nd a ≤ 90000000) : HasC Try.prog 12 [.sl (nd a) (dg (digs a)), .sl (nd b) (dg (digs b))] (fun y => y = .v (.bool true)) :=
  (c_same ha (h ▸ ha)).mono fun y ⟨c, hy, hc⟩ => by rw [hy, hc.2 h]

theorem nd_pow (k : Nat) : nd (10 ^ k) = k + 1 := by
  have h := nd_shift k (10 ^ k) (Nat.le_refl _)
  rw [Nat.div_self (Nat.pow_pos (by decide))] at h
  have h1 : nd 1 = nd (1 / 10) + 1 := nd_pos (show (1 : Nat) ≠ 0 by decide)
  have h2 : nd (1 / 10) = 0 := nd_zero
  omega

end Go.Proofs.Ytpnfomnnbmncaaa
