/-
  What casuistlaw01's own functions do.
-/
import Derived.Test.YtbabmopplnbmdaaGreatDoorVcM2
import Derived.Test.YtbabmopplnbmdaaGreatDoorVcY
namespace Go.Proofs.YtbabmopplnbmdaaGreatDoor
open Go.RowKit
set_option linter.unusedVariables false
set_option linter.unusedSimpArgs false
set_option maxRecDepth 100000

theorem wval_hl {a : Nat} (h : a < B128) : wval [hiW a, loW a] = a := by
  unfold B128 at h
  simp [wval, hiW, loW]
  omega
theorem wval_hl2 {a b : Nat} (h : a < B128) (k : b < B128) : wval [hiW a, loW a, hiW b, loW b] = a * B128 + b := by
  unfold B128 at *
  simp [wval, hiW, loW]
  omega
theorem nd_word {n : Nat} (h : n < 18446744073709551616) : nd n ≤ 20 := nd_le _ _ (Nat.lt_trans h (by decide))
theorem nd_U {n : Nat} (h : n < B128) : nd n ≤ 39 := nd_le _ _ (Nat.lt_trans h (by decide))
theorem nd_U2 {a b : Nat} (h : a < B128) (k : b < B128) : nd (a * B128 + b) ≤ 78 := nd_le _ _ (by
  unfold B128 at *
  omega)
theorem nd_two (n : Nat) : nd (2 ^ n) ≤ n + 1 := nd_le _ _ (Nat.lt_of_lt_of_le (Nat.pow_lt_pow_right (by decide) (by omega : n < n + 1)) (Nat.pow_le_pow_left (by decide) _))

theorem c_N {a : Nat} (ha : a < B128) : HasC Tryz.prog 30 [.agg [.v (.int .u64 (hiW (a))), .v (.int .u64 (loW (a)))]] (fun y => y = .sl (nd a) (dg (digs a))) := by
  refine HasC.of [] (fn := Tryz.f30) tyOk mixed (fun args w => Tryz.call30 args w) Tryz.func30 rfl (by kernel_rfl) (Nat.le_of_ble_eq_true rfl) (⟨_, rfl⟩) ?_
  have h1 := hi_range ha; have h2 := lo_range' a
  refine vc_seqr rfl (iQ 2 (iE 9 [(1, .p 1 0), (2, .w (.sl 0 []) none)] [(1, [Hw a, Lw a])] ?_))
  refine vc_seqr rfl (iQ 5 (iC 61 [.sl 2 [.v (.int .u64 (hiW (a))), .v (.int .u64 (loW (a)))]] (some 8) (c_Words (ws := [hiW a, loW a]) (by intro x hx; simp at hx; omega) (by intro x hx; simp at hx; omega) (by simp)) ?_))
  rintro _ rfl
  refine iQ 1 (iE 9 [(2, .d (.sl (nd (wval [hiW a, loW a])) (dg (digs (wval [hiW a, loW a])))))] [] ?_)
  refine vc_ret (iR (.sl (nd (wval [hiW a, loW a])) (dg (digs (wval [hiW a, loW a])))) ?_)
  rw [wval_hl ha]

theorem c_Word {n : Nat} (hn : n < 18446744073709551616) : HasC Tryz.prog 61 [.sl 1 [.v (.int .u64 (n : Int))]] (fun y => y = .sl (nd n) (dg (digs n))) :=
  (c_Words (ws := [(n : Int)]) (by intro x hx; simp at hx; omega) (by intro x hx; simp at hx; omega) (by simp)).mono fun y hy => by
    have e : wval [(n : Int)] = n := by simp [wval]
    rw [hy, e]

theorem nd_pow (k : Nat) : nd (10 ^ k) = k + 1 := by
  have h := nd_shift k (10 ^ k) (Nat.le_refl _)
  rw [Nat.div_self (Nat.pow_pos (by decide))] at h
  have h1 : nd 1 = nd (1 / 10) + 1 := nd_pos (show (1 : Nat) ≠ 0 by decide)
  have h2 : nd (1 / 10) = 0 := nd_zero
  omega

end Go.Proofs.YtbabmopplnbmdaaGreatDoor
