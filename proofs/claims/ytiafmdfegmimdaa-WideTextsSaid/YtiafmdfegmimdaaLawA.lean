/-
  What casuistlaw01's own functions do.
-/
import Derived.Test.YtiafmdfegmimdaaVcM2
import Derived.Test.YtiafmdfegmimdaaVcY
namespace Go.Proofs.Ytiafmdfegmimdaa
open Go.RowKit
set_option linter.unusedVariables false
set_option linter.unusedSimpArgs false
set_option maxRecDepth 100000

theorem wval_hl {a : Nat} (h : a < B128) : wval [hiW a, loW a] = a := by
  unfold B128 at h
  simp [wval, hiW, loW]
  omega
theorem wval_hl2 {a b : Nat} (h : a < B128) (k : b < B128) : wval [hiW a, loW a, hiW b, loW b] = a * B128 + b := by
  unfold B128 at *
  simp [wval, hiW, loW]
  omega
theorem nd_word {n : Nat} (h : n < 18446744073709551616) : nd n ≤ 20 := nd_le _ _ (Nat.lt_trans h (by decide))
theorem nd_U {n : Nat} (h : n < B128) : nd n ≤ 39 := nd_le _ _ (Nat.lt_trans h (by decide))
theorem nd_U2 {a b : Nat} (h : a < B128) (k : b < B128) : nd (a * B128 + b) ≤ 78 := nd_le _ _ (by
  unfold B128 at *
  omega)
theorem nd_two (n : Nat) : nd (2 ^ n) ≤ n + 1 := nd_le _ _ (Nat.lt_of_lt_of_le (Nat.pow_lt_pow_right (by decide) (by omega : n < n + 1)) (Nat.pow_le_pow_left (by decide) _))

theorem c_N {a : Nat} (ha : a < B128) : HasC Try.prog 7 [.agg [.v (.int .u64 (hiW (a))), .v (.int .u64 (loW (a)))]] (fun y => y = .sl (nd a) (dg (digs a))) := by
  refine HasC.of [] (fn := Try.f7) tyOk mixed (fun args w => Try.call7 args w) Try.func7 rfl (by kernel_rfl) (Nat.le_of_ble_eq_true rfl) (⟨_, rfl⟩) ?_
  have h1 := hi_range ha; have h2 := lo_range' a
  refine vc_seqr rfl (iQ 2 (iE 9 [(1, .p 1 0), (2, .w (.sl 0 []) none)] [(1, [Hw a, Lw a])] ?_))
  refine vc_seqr rfl (iQ 5 (iC 23 [.sl 2 [.v (.int .u64 (hiW (a))), .v (.int .u64 (loW (a)))]] (some 8) (c_Words (ws := [hiW a, loW a]) (by intro x hx; simp at hx; omega) (by intro x hx; simp at hx; omega) (by simp)) ?_))
  rintro _ rfl
  refine iQ 1 (iE 9 [(2, .d (.sl (nd (wval [hiW a, loW a])) (dg (digs (wval [hiW a, loW a])))))] [] ?_)
  refine vc_ret (iR (.sl (nd (wval [hiW a, loW a])) (dg (digs (wval [hiW a, loW a])))) ?_)
  rw [wval_hl ha]

theorem c_Two {a b : Nat} (ha : a < B128) (hb : b < B128) : HasC Try.prog 17 [.agg [.v (.int .u64 (hiW (a))), .v (.int .u64 (loW (a)))], .agg [.v (.int .u64 (hiW (b))), .v (.int .u64 (loW (b)))]] (fun y => y = .sl (nd (a * B128 + b)) (dg (digs (a * B128 + b)))) := by
  refine HasC.of [] (fn := Try.f17) tyOk mixed (fun args w => Try.call17 args w) Try.func17 rfl (by kernel_rfl) (Nat.le_of_ble_eq_true rfl) (⟨_, rfl⟩) ?_
  have h1 := hi_range ha; have h2 := lo_range' a; have h3 := hi_range hb; have h4 := lo_range' b
  refine vc_seqr rfl (iQ 3 (iE 15 [(2, .p 2 0), (3, .p 3 0), (4, .w (.sl 0 []) none)] [(2, [Hw a, Lw a]), (3, [Hw b, Lw b])] ?_))
  refine vc_seqr rfl (iQ 9 (iC 23 [.sl 4 [.v (.int .u64 (hiW (a))), .v (.int .u64 (loW (a))), .v (.int .u64 (hiW (b))), .v (.int .u64 (loW (b)))]] (some 14) (c_Words (ws := [hiW a, loW a, hiW b, loW b]) (by intro x hx; simp at hx; omega) (by intro x hx; simp at hx; omega) (by simp)) ?_))
  rintro _ rfl
  refine iQ 1 (iE 15 [(4, .d (.sl (nd (wval [hiW a, loW a, hiW b, loW b])) (dg (digs (wval [hiW a, loW a, hiW b, loW b])))))] [] ?_)
  refine vc_ret (iR (.sl (nd (wval [hiW a, loW a, hiW b, loW b])) (dg (digs (wval [hiW a, loW a, hiW b, loW b])))) ?_)
  rw [wval_hl2 ha hb]

theorem c_Word {n : Nat} (hn : n < 18446744073709551616) : HasC Try.prog 23 [.sl 1 [.v (.int .u64 (n : Int))]] (fun y => y = .sl (nd n) (dg (digs n))) :=
  (c_Words (ws := [(n : Int)]) (by intro x hx; simp at hx; omega) (by intro x hx; simp at hx; omega) (by simp)).mono fun y hy => by
    have e : wval [(n : Int)] = n := by simp [wval]
    rw [hy, e]

theorem c_same {a b : Nat} (ha : nd a ≤ 90000000) (hb : nd b ≤ 90000000) : HasC Try.prog 6 [.sl (nd (a)) (dg (digs (a))), .sl (nd (b)) (dg (digs (b)))] (fun y => ∃ c, y = .v (.bool c) ∧ (c = true ↔ a = b)) := by
  refine HasC.of [] (fn := Try.f6) tyOk mixed (fun args w => Try.call6 args w) Try.func6 rfl (by kernel_rfl) (Nat.le_of_ble_eq_true rfl) (⟨_, decide (a = b), rfl, by simp⟩) ?_
  refine vc_seqr rfl (iQ 1 (iE 9 [(0, .d (.sl (nd (a)) (dg (digs (a))))), (1, .d (.sl (nd (b)) (dg (digs (b))))), (4, Ba false)] [] ?_))
  refine vc_seqr rfl (iQ 2 (iC 11 [.sl (nd (a)) (dg (digs (a))), .sl (nd (b)) (dg (digs (b)))] (some 7) (c_Cmp ha hb) ?_))
  rintro _ rfl
  refine iB .eql 3 (.int .i64 (cmpN a b)) (.int .i64 0) (some 8) ?_
  intro c8 hc8
  refine iQ 1 (iE 9 [(4, Ba c8)] [] ?_)
  refine vc_ret (iR (Bv c8) ?_)
  exact ⟨_, rfl, hc8.trans cN_eq⟩
theorem c_sameT {a b : Nat} (h : a = b) (ha : nd a ≤ 90000000) : HasC Try.prog 6 [.sl (nd a) (dg (digs a)), .sl (nd b) (dg (digs b))] (fun y => y = .v (.bool true)) :=
  (c_same ha (h ▸ ha)).mono fun y ⟨c, hy, hc⟩ => by rw [hy, hc.2 h]

theorem nd_pow (k : Nat) : nd (10 ^ k) = k + 1 := by
  have h := nd_shift k (10 ^ k) (Nat.le_refl _)
  rw [Nat.div_self (Nat.pow_pos (by decide))] at h
  have h1 : nd 1 = nd (1 / 10) + 1 := nd_pos (show (1 : Nat) ≠ 0 by decide)
  have h2 : nd (1 / 10) = 0 := nd_zero
  omega

end Go.Proofs.Ytiafmdfegmimdaa
