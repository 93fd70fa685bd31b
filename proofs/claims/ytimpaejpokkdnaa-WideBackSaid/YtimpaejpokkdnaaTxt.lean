/-
  wide: a number's text; the number of a text.
-/
import Derived.Test.YtimpaejpokkdnaaVcM
import Derived.Test.YtimpaejpokkdnaaVcY
import Derived.Laws.RangeAny
namespace Go.Proofs.Ytimpaejpokkdnaa
open Go.RowKit
set_option linter.unusedVariables false
set_option linter.unusedSimpArgs false
set_option maxRecDepth 100000

-- texts out of digits
def bz (z : Int) : DV := .v (.int .u8 z)
def tl (a : Nat) : Nat → List Int
  | 0 => []
  | k + 1 => ((48 + dig a k : Nat) : Int) :: tl a k
theorem tl_len (a : Nat) : ∀ k, (tl a k).length = k
  | 0 => rfl
  | k + 1 => by simp [tl, tl_len a k]
/-- A number's decimal text. -/
def txS (a : Nat) : ByteArray := if a = 0 then ⟨#[48]⟩ else strOf (tl a (nd a))
/-- The row of bytes when k digits stand. -/
def tcs (a k : Nat) : List DV := List.replicate (40 - k) (.v (.int .u8 0)) ++ (tl a k).map fun z => .v (.int .u8 z)
theorem tcs_len {a k : Nat} (h : k ≤ 40) : (tcs a k).length = 40 := by simp [tcs, tl_len]; omega
theorem itCs_len {cs : List DV} (h : cs.length ≠ 1) : itCs cs = false := by
  unfold itCs
  split
  · simp at h
  · rfl
theorem tcs_it {a k : Nat} (h : k ≤ 40) : itCs (tcs a k) = false := itCs_len (by rw [tcs_len h]; decide)
theorem tcs_step {a k : Nat} {c z : Int} (hk : k < 40) (hc : c = 39 - (k : Int)) (hz : z = ((48 + dig a k : Nat) : Int)) : splice (tcs a k) (0 + c.toNat * 1) [.v (.int .u8 z)] = tcs a (k + 1) := by
  have e : 0 + c.toNat * 1 = 39 - k := by omega
  rw [e]
  unfold splice tcs
  have e1 : 40 - k = (39 - k) + 1 := by omega
  have e2 : 40 - (k + 1) = 39 - k := by omega
  rw [e1, e2, List.replicate_succ', List.append_assoc]
  have hl : (List.replicate (39 - k) (DV.v (.int .u8 0))).length = 39 - k := by simp
  generalize List.replicate (39 - k) (DV.v (.int .u8 0)) = r at hl ⊢
  rw [← hl]
  simp [tl, hz]
theorem tcs_drop {a k : Nat} {c : Int} (hk : k ≤ 40) (hc : c = 40 - (k : Int)) : ((tcs a k).drop (c.toNat * 1)).take (k * 1) = (tl a k).map fun z => .v (.int .u8 z) := by
  have e : c.toNat * 1 = 40 - k := by omega
  rw [e]
  unfold tcs
  rw [List.drop_append_of_le_length (by simp), List.drop_of_length_le (by simp), List.nil_append, List.take_of_length_le (by simp [tl_len])]

theorem div_ten_step {a m k : Nat} (h : m = a / 10 ^ k) (hm : m < B128) : (0 * B128 + m) / 10 % B128 = a / 10 ^ (k + 1) := by
  rw [Nat.zero_mul, Nat.zero_add, Nat.mod_eq_of_lt (by omega), h, Nat.div_div_eq_div_mul, ← Nat.pow_succ]
theorem rem_ten_step {a m k : Nat} (h : m = a / 10 ^ k) : (0 * B128 + m) % 10 = dig a k := by
  rw [Nat.zero_mul, Nat.zero_add, h]; rfl
theorem pow39 : B128 ≤ 10 ^ 39 := by decide
theorem small_k {a k : Nat} (ha : a < B128) (h : a / 10 ^ k ≠ 0) : k < 39 := by
  apply Classical.byContradiction
  intro hn
  apply h
  apply Nat.div_eq_of_lt
  have h1 : 10 ^ 39 ≤ 10 ^ k := Nat.pow_le_pow_right (by decide) (by omega)
  have := pow39
  omega
theorem nd_of {a k : Nat} (h0 : a / 10 ^ k = 0) (h1 : k = 0 ∨ a / 10 ^ (k - 1) ≠ 0) : nd a = k := by
  have hlt : a < 10 ^ k := by
    apply Classical.byContradiction
    intro hn
    have : 1 ≤ a / 10 ^ k := (Nat.le_div_iff_mul_le (Nat.pow_pos (by decide))).2 (by omega)
    omega
  have hle := nd_le _ _ hlt
  rcases h1 with h1 | h1
  · omega
  · apply Classical.byContradiction
    intro hne
    apply h1
    exact div_nd (by omega)
theorem hl_zero {m : Nat} : hiW m = 0 ∧ loW m = 0 ↔ m = 0 := by
  constructor
  · rintro ⟨h1, h2⟩
    exact hl_inj (b := 0) h1 h2
  · rintro rfl; exact ⟨rfl, rfl⟩

theorem cw_ZeroB {m : Nat} (hm : m < B128) : HasC Try.prog 10 [dU m] (fun y => ∃ c, y = .v (.bool c) ∧ (c = true ↔ m = 0)) :=
  (cw_Zero hm).mono fun y ⟨c, h1, h2⟩ => ⟨c, h1, h2⟩
theorem cw_DivTen {m : Nat} (hm : m < B128) : HasC Try.prog 31 [.agg [.v (.int .u64 0), .v (.int .u64 0)], dU m, .v (.int .u64 10)] (fun y => y = .tup [dU ((0 * B128 + m) / 10 / B128), dU ((0 * B128 + m) / 10 % B128), .v (.int .u64 (((0 * B128 + m) % 10 : Nat) : Int)), .v (.bool true)]) := by
  rw [← dU_0]
  exact cw_DivWord (n := 10) (by decide) hm (by decide) (by decide)
theorem c_Text {a : Nat} (ha : a < B128) : HasC Try.prog 15 [.agg [.v (.int .u64 (hiW (a))), .v (.int .u64 (loW (a)))]] (fun r => r = .v (.string (txS a))) := by
  refine HasC.of [] (fn := Try.f15) tyOk mixed (fun args w => Try.call15 args w) Try.func15 rfl (by kernel_rfl) (Nat.le_of_ble_eq_true rfl) (⟨_, rfl⟩) ?_
  refine vc_seqr rfl (iQ 2 (iE 33 [(1, .p 1 0), (2, .d (Sv (⟨#[]⟩)))] [(1, [Hw a, Lw a])] ?_))
  refine vc_seq (vc_seqr rfl (iQ 1 (iC 10 [.agg [Hw a, Lw a]] (some 10) (cw_ZeroB ha) ?_)))
  rintro _ ⟨c10, rfl, hc10⟩
  refine iE 33 [(1, .p 1 0), (2, .d (Sv (⟨#[]⟩))), (10, Ba c10)] [(1, [Hw a, Lw a])] ?_
  cases c10
  · replace hc10 := bf hc10
    refine iF (vc_skip (seq_n (vc_seqr rfl (iQ 1 (iE 33 [(1, .p 1 0), (2, .d (Sv (⟨#[]⟩))), (3, .p 3 0), (10, Ba false)] [(1, [Hw a, Lw a]), (3, [.v (.int .u8 0), .v (.int .u8 0), .v (.int .u8 0), .v (.int .u8 0), .v (.int .u8 0), .v (.int .u8 0), .v (.int .u8 0), .v (.int .u8 0), .v (.int .u8 0), .v (.int .u8 0), .v (.int .u8 0), .v (.int .u8 0), .v (.int .u8 0), .v (.int .u8 0), .v (.int .u8 0), .v (.int .u8 0), .v (.int .u8 0), .v (.int .u8 0), .v (.int .u8 0), .v (.int .u8 0), .v (.int .u8 0), .v (.int .u8 0), .v (.int .u8 0), .v (.int .u8 0), .v (.int .u8 0), .v (.int .u8 0), .v (.int .u8 0), .v (.int .u8 0), .v (.int .u8 0), .v (.int .u8 0), .v (.int .u8 0), .v (.int .u8 0), .v (.int .u8 0), .v (.int .u8 0), .v (.int .u8 0), .v (.int .u8 0), .v (.int .u8 0), .v (.int .u8 0), .v (.int .u8 0), .v (.int .u8 0)])] ?_)))))
    refine vc_seqr rfl (iQ 1 (iE 33 [(1, .p 1 0), (2, .d (Sv (⟨#[]⟩))), (3, .p 3 0), (4, Ia 40), (10, Ba false)] [(1, [Hw a, Lw a]), (3, [.v (.int .u8 0), .v (.int .u8 0), .v (.int .u8 0), .v (.int .u8 0), .v (.int .u8 0), .v (.int .u8 0), .v (.int .u8 0), .v (.int .u8 0), .v (.int .u8 0), .v (.int .u8 0), .v (.int .u8 0), .v (.int .u8 0), .v (.int .u8 0), .v (.int .u8 0), .v (.int .u8 0), .v (.int .u8 0), .v (.int .u8 0), .v (.int .u8 0), .v (.int .u8 0), .v (.int .u8 0), .v (.int .u8 0), .v (.int .u8 0), .v (.int .u8 0), .v (.int .u8 0), .v (.int .u8 0), .v (.int .u8 0), .v (.int .u8 0), .v (.int .u8 0), .v (.int .u8 0), .v (.int .u8 0), .v (.int .u8 0), .v (.int .u8 0), .v (.int .u8 0), .v (.int .u8 0), .v (.int .u8 0), .v (.int .u8 0), .v (.int .u8 0), .v (.int .u8 0), .v (.int .u8 0), .v (.int .u8 0)])] ?_))
    refine vc_seq (vc_block (vc_loop 33 (fun (vcx : Nat × Nat × Int) => match vcx with | (k, m, c) => [(1, .p 1 0), (2, .d (Sv (⟨#[]⟩))), (3, .p 3 0), (4, Ia c), (10, Ba false)]) (fun (vcx : Nat × Nat × Int) => match vcx with | (k, m, c) => [(1, [Hw m, Lw m]), (3, tcs a k)]) (fun (vcx : Nat × Nat × Int) => match vcx with | (k, m, c) => c = 40 - (k : Int) ∧ m = a / 10 ^ k ∧ k ≤ 39 ∧ (k = 0 ∨ a / 10 ^ (k - 1) ≠ 0)) (fun (vcx : Nat × Nat × Int) => match vcx with | (k, m, c) => m) ((0, a, 40)) (⟨rfl, by simp, by omega, .inl rfl⟩) (by kernel_rfl) (by kernel_rfl) ?_))
    rintro ⟨k, m, c⟩ hinv
    simp only at hinv
    obtain ⟨h1, h2, h3, h4⟩ := hinv
    have hm : m < B128 := by rw [h2]; exact Nat.lt_of_le_of_lt (Nat.div_le_self _ _) ha
    refine vc_seq (vc_seqr rfl (iQ 1 (iC 10 [.agg [Hw m, Lw m]] (some 12) (cw_ZeroB hm) ?_)))
    rintro _ ⟨c12, rfl, hc12⟩
    refine iU .not (.bool c12) (some 13) ?_
    intro c13 hc13
    refine iE 33 [(1, .p 1 0), (2, .d (Sv (⟨#[]⟩))), (3, .p 3 0), (4, Ia c), (10, Ba false), (13, Ba c13)] [(1, [Hw m, Lw m]), (3, tcs a k)] ?_
    cases c13
    · replace hc13 := bf hc13
      have hm0 : m = 0 := by rw [← hc12]; simpa using hc13
      refine iF (vc_exit (seq_x (loop_x (block_x rfl (seq_n (vc_seqr rfl (iQ 1 (vcI_ha (n := 3) (m := 40) (z := 1) (l := c) (cs := (tcs a k)) (d := 31) (q := k) (ds := ((tl a k).map fun z => .v (.int .u8 z))) (by kernel_rfl) (by omega) (tcs_len (by omega)) (tcs_it (by omega)) (by omega) (tcs_drop (by omega) h1) ?_))))))))
      refine vcI_cv (n := k) (cs := ((tl a k).map fun z => .v (.int .u8 z))) (d := 32) (b := (txS a)) (tl a k) (by kernel_rfl) (rfl) ((tl_len a k).symm) (by rw [txS, if_neg hc10, nd_of (by omega) h4]) ?_
      refine iQ 1 (iE 33 [(1, .p 1 0), (2, .d (Sv (txS a))), (4, Ia c), (10, Ba false), (13, Ba false)] [(1, [Hw m, Lw m])] ?_)
      refine vc_ret (iR (Sv (txS a)) ?_)
      rfl
    · replace hc13 := bt hc13
      have hm0 : m ≠ 0 := by intro e; rw [hc12.2 e] at hc13; cases hc13
      have hk := small_k ha (by rw [← h2]; exact hm0)
      refine iT (vc_skip (seq_n (vc_block (vc_seqr rfl (iQ 2 (iC 31 [.agg [Uv 0, Uv 0], .agg [Hw m, Lw m], Uv 10] (some 17) (cw_DivTen hm) ?_))))))
      rintro _ rfl
      refine iQ 11 (iE 33 [(1, .p 1 0), (2, .d (Sv (⟨#[]⟩))), (3, .p 3 0), (4, Ia c), (6, .p 6 0), (7, .d (Uv ((((0 * B128 + m) % 10 : Nat) : Int)))), (10, Ba false), (13, Ba true)] [(1, [Hw m, Lw m]), (3, tcs a k), (6, [Hw ((0 * B128 + m) / 10 % B128), Lw ((0 * B128 + m) / 10 % B128)])] ?_)
      refine vc_seqr rfl (iQ 1 (iB .sub 3 (.int .i64 c) (.int .i64 1) (some 23) ?_))
      intro z23 hz23
      try replace hz23 := hz23.i64 (by omega)
      refine iQ 1 (iE 33 [(1, .p 1 0), (2, .d (Sv (⟨#[]⟩))), (3, .p 3 0), (4, Ia z23), (6, .p 6 0), (7, .d (Uv ((((0 * B128 + m) % 10 : Nat) : Int)))), (10, Ba false), (13, Ba true)] [(1, [Hw m, Lw m]), (3, tcs a k), (6, [Hw ((0 * B128 + m) / 10 % B128), Lw ((0 * B128 + m) / 10 % B128)])] ?_)
      refine vc_seqr rfl (iQ 2 (iB .add 22 (.int .u64 48) (.int .u64 ((((0 * B128 + m) % 10 : Nat) : Int))) (some 26) ?_))
      intro z26 hz26
      try replace hz26 := hz26.u64 (by omega)
      refine iV 22 5 (.int .u64 z26) (some 27) ?_
      intro z27 hz27
      try replace hz27 := hz27.u8 (by omega)
      refine vcI_ia (n := 3) (k := 0) (m := 40) (z := 1) (q := z23) (dst := (some 28)) (by kernel_rfl) (by omega) ?_
      refine vcI_st (n := 3) (k := (0 + z23.toNat * 1)) (z := 1) (d := .v (.int .u8 z27)) (cs := (tcs a k)) (ds := (tcs a (k + 1))) (by kernel_rfl) rfl rfl (tcs_it (by omega)) (by rw [tcs_len (by omega)]; omega) (tcs_step (by omega) (by omega) (by rw [← rem_ten_step h2]; omega)) ?_
      refine iE 33 [(1, .p 1 0), (2, .d (Sv (⟨#[]⟩))), (3, .p 3 0), (4, Ia z23), (6, .p 6 0), (7, .d (Uv ((((0 * B128 + m) % 10 : Nat) : Int)))), (10, Ba false), (13, Ba true)] [(1, [Hw m, Lw m]), (3, tcs a (k + 1)), (6, [Hw ((0 * B128 + m) / 10 % B128), Lw ((0 * B128 + m) / 10 % B128)])] ?_
      refine vc_reg rfl (iQ 2 (iE 33 [(1, .p 1 0), (2, .d (Sv (⟨#[]⟩))), (3, .p 3 0), (4, Ia z23), (6, .p 6 0), (7, .d (Uv ((((0 * B128 + m) % 10 : Nat) : Int)))), (10, Ba false), (13, Ba true)] [(1, [Hw ((0 * B128 + m) / 10 % B128), Lw ((0 * B128 + m) / 10 % B128)]), (3, tcs a (k + 1)), (6, [Hw ((0 * B128 + m) / 10 % B128), Lw ((0 * B128 + m) / 10 % B128)])] ?_))
      refine block_n ?_
      refine loop_n (k + 1, (0 * B128 + m) / 10 % B128, z23) (⟨by omega, div_ten_step h2 hm, by omega, .inr (by rw [Nat.add_sub_cancel, ← h2]; exact hm0)⟩) (by show (0 * B128 + m) / 10 % B128 < m; rw [div_ten_step h2 hm, Nat.pow_succ, ← Nat.div_div_eq_div_mul, ← h2]; omega) (by kernel_rfl) (by kernel_rfl)
  · replace hc10 := bt hc10
    refine iT (vc_seqr rfl (iQ 1 (iE 33 [(1, .p 1 0), (2, .d (Sv (⟨#[48]⟩))), (10, Ba true)] [(1, [Hw a, Lw a])] ?_)))
    refine vc_ret (seq_r (iR (Sv (⟨#[48]⟩)) ?_))
    rw [txS, if_pos hc10]
end Go.Proofs.Ytimpaejpokkdnaa
