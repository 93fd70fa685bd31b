/-
  casuistlaw01: a number comes back from its text; WideBack.
-/
import Derived.Test.YtimpaejpokkdnaaRed
import Derived.Test.YtimpaejpokkdnaaLawB
namespace Go.Proofs.Ytimpaejpokkdnaa
open Go.RowKit
set_option linter.unusedVariables false
set_option linter.unusedSimpArgs false
set_option maxRecDepth 100000

theorem strOf_size (l : List Int) : (strOf l).size = l.length := by simp [strOf, ByteArray.size]
theorem strOf_at {l : List Int} {k : Nat} {z : Int} (h : l[k]? = some z) (h0 : 0 ≤ z) (h1 : z < 256) : bAt (strOf l) k = z.toNat := by
  unfold bAt strOf
  simp only [List.getElem?_toArray, List.getElem?_map, h, Option.map_some, Option.getD_some]
  simp [UInt8.toNat_ofNat']
  omega
theorem tl_get (a : Nat) : ∀ (k j : Nat), j < k → (tl a k)[j]? = some ((48 + dig a (k - 1 - j) : Nat) : Int)
  | 0, j, h => by omega
  | k + 1, 0, h => by simp [tl]
  | k + 1, j + 1, h => by
    rw [tl, List.getElem?_cons_succ, tl_get a k j (by omega)]
    congr 4
    omega
theorem tl_at {a k j : Nat} (h : j < k) : bAt (strOf (tl a k)) j = 48 + dig a (k - 1 - j) := by
  have hd := dig_lt a (k - 1 - j)
  rw [strOf_at (tl_get a k j h) (by omega) (by omega)]
  omega
theorem pv_tl {a k : Nat} (h0 : a / 10 ^ k = 0) : ∀ j, j ≤ k → pv (strOf (tl a k)) j = a / 10 ^ (k - j)
  | 0, h => by rw [pv, Nat.sub_zero, h0]
  | j + 1, h => by
    have h2 := mul_digit a (k := k - j) (by omega)
    rw [pv, pv_tl h0 j (by omega), tl_at (by omega), show k - 1 - j = k - j - 1 by omega, show k - (j + 1) = k - j - 1 by omega]
    omega
theorem nd_pos' {a : Nat} (h : a ≠ 0) : 0 < nd a := by
  apply Nat.pos_of_ne_zero
  intro e
  have := lt_nd a
  rw [e] at this
  omega
theorem txS_dig (a : Nat) : Dig (txS a) ∧ pv (txS a) (txS a).size = a := by
  unfold txS
  split
  · rename_i h
    subst h
    refine ⟨⟨by decide, fun k hk => ?_⟩, by decide⟩
    have : k = 0 := by
      have : (⟨#[48]⟩ : ByteArray).size = 1 := rfl
      omega
    subst this
    exact ⟨by decide, by decide⟩
  · rename_i h
    have h0 := div_nd (Nat.le_refl (nd a))
    refine ⟨⟨by rw [strOf_size, tl_len]; exact nd_pos' h, fun k hk => ?_⟩, ?_⟩
    · rw [strOf_size, tl_len] at hk
      have := dig_lt a (nd a - 1 - k)
      unfold isD
      rw [tl_at hk]
      omega
    · rw [strOf_size, tl_len, pv_tl h0 _ (Nat.le_refl _)]
      simp
theorem txS_ok {a : Nat} (h : a < B128) : RdOk (txS a) := ⟨(txS_dig a).1, by rw [(txS_dig a).2]; exact h⟩
theorem txS_rd {a : Nat} (h : a < B128) : rdV (txS a) = a := by rw [rdV, if_pos (txS_ok h), (txS_dig a).2]

theorem cw_DivB {h l d : Nat} (hh : h < B128) (hl : l < B128) (hd : d < B128) : HasC Try.prog 21 [dU h, dU l, dU d] (fun y => ∃ (q r : Nat) (b : Bool), y = .tup [dU q, dU r, .v (.bool b)] ∧ (b = true ↔ h < d) ∧ (h < d → q = (h * B128 + l) / d ∧ r = (h * B128 + l) % d)) := by
  by_cases e : d ≤ h
  · exact (cw_Div_no hh hl hd e).mono fun y hy => ⟨0, 0, false, hy, by simp; omega, fun h => by omega⟩
  · exact (cw_Div_yes hh hl hd (by omega)).mono fun y hy => ⟨_, _, true, hy, by simp; omega, fun h => ⟨rfl, rfl⟩⟩
theorem cw_Add20 {a c d : Nat} (ha : a < B128) (hc : c < B128) (hd : d < B128) : HasC Try.prog 24 [dU a, dU c, .agg [.v (.int .u64 0), .v (.int .u64 0)], dU d] (fun y => y = .tup [dU ((a * B128 + c + (0 * B128 + d)) / B128 % B128), dU ((a * B128 + c + (0 * B128 + d)) % B128), .v (.int .u64 (((a * B128 + c + (0 * B128 + d)) / (B128 * B128) : Nat) : Int))]) := by
  rw [← dU_0]
  exact cw_Add2 ha hc (by decide) hd
theorem sub_back {a b : Nat} (ha : a < B128) (hb : b < B128) : ((a + b) % B128 + B128 - b) % B128 = a ∧ ((a + b) / B128 : Nat) = lackN ((a + b) % B128) b := by
  by_cases h : a + b < B128
  · rw [Nat.mod_eq_of_lt h, Nat.div_eq_of_lt h, show a + b + B128 - b = a + B128 by omega, Nat.add_mod_right, Nat.mod_eq_of_lt ha]
    exact ⟨rfl, by unfold lackN; rw [if_neg (by omega)]⟩
  · have e1 : (a + b) % B128 = a + b - B128 := by rw [Nat.mod_eq_sub_mod (by omega), Nat.mod_eq_of_lt (by omega)]
    have e2 : (a + b) / B128 = 1 := by rw [Nat.div_eq_sub_div (by decide) (by omega), Nat.div_eq_of_lt (by omega)]
    rw [e1, e2, show a + b - B128 + B128 - b = a by omega, Nat.mod_eq_of_lt ha]
    exact ⟨rfl, by unfold lackN; rw [if_pos (by omega)]⟩
theorem c_ReadT {a : Nat} (ha : a < B128) : HasC Try.prog 14 [.v (.string (txS a))] (fun y => y = .tup [dU a, .v (.bool true)]) :=
  c_Read.mono fun y ⟨b, h1, h2⟩ => by rw [h1, txS_rd ha, h2.2 (txS_ok ha)]
theorem cmpN_ge {a d : Nat} (h : ¬ a < d) : 0 ≤ cmpN a d := by
  unfold cmpN
  rw [if_neg h]
  split <;> decide
theorem back_sum {a b d q r : Nat} (ha : a < B128) (hb : b < B128) (hd : a < d) (hq : q = (a * B128 + b) / d) (hr : r = (a * B128 + b) % d) :
    q * d / B128 * B128 + q * d % B128 + (0 * B128 + r) = a * B128 + b := by
  have h1 := Nat.div_add_mod (a * B128 + b) d
  have h2 := Nat.div_add_mod (q * d) B128
  rw [← hq, ← hr] at h1
  have e1 : B128 * (q * d / B128) = q * d / B128 * B128 := Nat.mul_comm _ _
  have e2 : d * q = q * d := Nat.mul_comm _ _
  omega
theorem q_lt {a b d q : Nat} (ha : a < d) (hb : b < B128) (hq : q = (a * B128 + b) / d) : q < B128 := by
  rw [hq]
  apply Nat.div_lt_of_lt_mul
  have : (a + 1) * B128 ≤ d * B128 := Nat.mul_le_mul_right _ ha
  rw [Nat.add_mul, Nat.one_mul] at this
  omega

set_option maxHeartbeats 1600000 in
theorem c_WideBack {a b d : Nat} (ha : a < B128) (hb : b < B128) (hd : d < B128) : HasC Try.prog 4 [.agg [.v (.int .u64 (hiW (a))), .v (.int .u64 (loW (a)))], .agg [.v (.int .u64 (hiW (b))), .v (.int .u64 (loW (b)))], .agg [.v (.int .u64 (hiW (d))), .v (.int .u64 (loW (d)))]] (fun y => y = .v (.bool true)) := by
  refine HasC.of [] (fn := Try.f4) tyOk mixed (fun args w => Try.call4 args w) Try.func4 rfl (by kernel_rfl) (Nat.le_of_ble_eq_true rfl) (⟨_, rfl⟩) ?_
  refine vc_seqr rfl (iQ 4 (iE 103 [(3, .p 3 0), (4, .p 4 0), (5, .p 5 0), (6, Ba false)] [(3, [Hw a, Lw a]), (4, [Hw b, Lw b]), (5, [Hw d, Lw d])] ?_))
  refine vc_seq (vc_seqr rfl (iC 5 [] (some 19) (c_awake) ?_))
  rintro _ rfl
  refine iU .not (.bool true) (some 20) ?_
  refine all_false ((by simp)) ?_
  refine iE 103 [(3, .p 3 0), (4, .p 4 0), (5, .p 5 0), (6, Ba false), (20, Ba false)] [(3, [Hw a, Lw a]), (4, [Hw b, Lw b]), (5, [Hw d, Lw d])] ?_
  refine iF (vc_skip (seq_n (vc_seqr rfl (iQ 2 (iC 19 [.agg [Hw a, Lw a], .agg [Hw b, Lw b]] (some 24) (cw_Add ha hb) ?_)))))
  rintro _ rfl
  refine iQ 6 (iE 103 [(3, .p 3 0), (4, .p 4 0), (5, .p 5 0), (6, Ba false), (7, .p 7 0), (8, .d (Uv ((((a + b) / B128 : Nat) : Int)))), (20, Ba false)] [(3, [Hw a, Lw a]), (4, [Hw b, Lw b]), (5, [Hw d, Lw d]), (7, [Hw ((a + b) % B128), Lw ((a + b) % B128)])] ?_)
  refine vc_seqr rfl (iQ 2 (iC 20 [.agg [Hw ((a + b) % B128), Lw ((a + b) % B128)], .agg [Hw b, Lw b]] (some 30) (cw_Sub (mod_lt128 _) hb) ?_))
  rintro _ rfl
  refine iQ 6 (iE 103 [(3, .p 3 0), (4, .p 4 0), (5, .p 5 0), (6, Ba false), (7, .p 7 0), (8, .d (Uv ((((a + b) / B128 : Nat) : Int)))), (9, .p 9 0), (10, .d (Uv (((lackN ((a + b) % B128) b : Nat) : Int)))), (20, Ba false)] [(3, [Hw a, Lw a]), (4, [Hw b, Lw b]), (5, [Hw d, Lw d]), (7, [Hw ((a + b) % B128), Lw ((a + b) % B128)]), (9, [Hw (((a + b) % B128 + B128 - b) % B128), Lw (((a + b) % B128 + B128 - b) % B128)])] ?_)
  refine vc_seqr rfl (iQ 1 (iC 15 [.agg [Hw a, Lw a]] (some 35) (c_Text ha) ?_))
  rintro _ rfl
  refine iC 14 [Sv (txS a)] (some 36) (c_ReadT ha) ?_
  rintro _ rfl
  have e1 := (sub_back ha hb).1
  have e2 := (sub_back ha hb).2
  refine iQ 6 (iE 103 [(3, .p 3 0), (4, .p 4 0), (5, .p 5 0), (6, Ba false), (7, .p 7 0), (8, .d (Uv ((((a + b) / B128 : Nat) : Int)))), (9, .p 9 0), (10, .d (Uv (((lackN ((a + b) % B128) b : Nat) : Int)))), (11, .p 11 0), (12, Ba true), (20, Ba false)] [(3, [Hw a, Lw a]), (4, [Hw b, Lw b]), (5, [Hw d, Lw d]), (7, [Hw ((a + b) % B128), Lw ((a + b) % B128)]), (9, [Hw (((a + b) % B128 + B128 - b) % B128), Lw (((a + b) % B128 + B128 - b) % B128)]), (11, [Hw a, Lw a])] ?_)
  refine vc_seq (vc_seqr rfl (iQ 2 (iB .neq 24 (.agg #[.int .u64 (hiW (((a + b) % B128 + B128 - b) % B128)), .int .u64 (loW (((a + b) % B128 + B128 - b) % B128))]) (.agg #[.int .u64 (hiW (a)), .int .u64 (loW (a))]) (some 41) ?_)))
  refine all_false ((fun h => h (by rw [e1]))) ?_
  refine iQ 3 (iB .neq 22 (.int .u64 ((((a + b) / B128 : Nat) : Int))) (.int .u64 (((lackN ((a + b) % B128) b : Nat) : Int))) (some 45) ?_)
  refine all_false ((fun h => h (by rw [e2]))) ?_
  refine iQ 3 (iU .not (.bool true) (some 49) ?_)
  refine all_false ((by simp)) ?_
  refine iQ 4 (iB .neq 24 (.agg #[.int .u64 (hiW (a)), .int .u64 (loW (a))]) (.agg #[.int .u64 (hiW (a)), .int .u64 (loW (a))]) (some 54) ?_)
  refine all_false ((fun h => h rfl)) ?_
  refine iQ 1 (iE 103 [(3, .p 3 0), (4, .p 4 0), (5, .p 5 0), (6, Ba false), (7, .p 7 0), (9, .p 9 0), (11, .p 11 0), (20, Ba false), (55, Ba false)] [(3, [Hw a, Lw a]), (4, [Hw b, Lw b]), (5, [Hw d, Lw d]), (7, [Hw ((a + b) % B128), Lw ((a + b) % B128)]), (9, [Hw (((a + b) % B128 + B128 - b) % B128), Lw (((a + b) % B128 + B128 - b) % B128)]), (11, [Hw a, Lw a])] ?_)
  refine iF (vc_skip (seq_n (vc_seqr rfl (iQ 3 (iC 21 [.agg [Hw a, Lw a], .agg [Hw b, Lw b], .agg [Hw d, Lw d]] (some 60) (cw_DivB ha hb hd) ?_)))))
  rintro _ ⟨q, r, ok, rfl, h1, h2⟩
  refine iQ 9 (iE 103 [(3, .p 3 0), (4, .p 4 0), (5, .p 5 0), (6, Ba false), (7, .p 7 0), (9, .p 9 0), (11, .p 11 0), (13, .p 13 0), (14, .p 14 0), (15, Ba ok), (20, Ba false), (55, Ba false)] [(3, [Hw a, Lw a]), (4, [Hw b, Lw b]), (5, [Hw d, Lw d]), (7, [Hw ((a + b) % B128), Lw ((a + b) % B128)]), (9, [Hw (((a + b) % B128 + B128 - b) % B128), Lw (((a + b) % B128 + B128 - b) % B128)]), (11, [Hw a, Lw a]), (13, [Hw q, Lw q]), (14, [Hw r, Lw r])] ?_)
  refine vc_seq (vc_seqr rfl (iQ 1 (iU .not (.bool ok) (some 65) ?_)))
  intro c65 hc65
  refine iE 103 [(3, .p 3 0), (4, .p 4 0), (5, .p 5 0), (6, Ba false), (7, .p 7 0), (9, .p 9 0), (11, .p 11 0), (13, .p 13 0), (14, .p 14 0), (20, Ba false), (55, Ba false), (65, Ba c65)] [(3, [Hw a, Lw a]), (4, [Hw b, Lw b]), (5, [Hw d, Lw d]), (7, [Hw ((a + b) % B128), Lw ((a + b) % B128)]), (9, [Hw (((a + b) % B128 + B128 - b) % B128), Lw (((a + b) % B128 + B128 - b) % B128)]), (11, [Hw a, Lw a]), (13, [Hw q, Lw q]), (14, [Hw r, Lw r])] ?_
  cases c65
  · replace hc65 := bf hc65
    have hlt : a < d := h1.1 (by simpa using hc65)
    obtain ⟨hq, hr⟩ := h2 hlt
    have lq := q_lt hlt hb hq
    have lr : r < d := by rw [hr]; exact Nat.mod_lt _ (by omega)
    have hs := back_sum ha hb hlt hq hr
    have hp : q * d / B128 < B128 := Nat.div_lt_of_lt_mul (Nat.mul_lt_mul'' lq hd)
    refine iF (vc_skip (seq_n (vc_seqr rfl (iQ 2 (iC 23 [.agg [Hw q, Lw q], .agg [Hw d, Lw d]] (some 73) (cw_Mul lq hd) ?_)))))
    rintro _ rfl
    refine iQ 7 (iE 103 [(3, .p 3 0), (4, .p 4 0), (5, .p 5 0), (6, Ba false), (7, .p 7 0), (9, .p 9 0), (11, .p 11 0), (13, .p 13 0), (14, .p 14 0), (16, .p 16 0), (17, .p 17 0), (20, Ba false), (55, Ba false), (65, Ba false)] [(3, [Hw a, Lw a]), (4, [Hw b, Lw b]), (5, [Hw d, Lw d]), (7, [Hw ((a + b) % B128), Lw ((a + b) % B128)]), (9, [Hw (((a + b) % B128 + B128 - b) % B128), Lw (((a + b) % B128 + B128 - b) % B128)]), (11, [Hw a, Lw a]), (13, [Hw q, Lw q]), (14, [Hw r, Lw r]), (16, [Hw (q * d / B128), Lw (q * d / B128)]), (17, [Hw (q * d % B128), Lw (q * d % B128)])] ?_)
    refine vc_seqr rfl (iQ 4 (iC 24 [.agg [Hw (q * d / B128), Lw (q * d / B128)], .agg [Hw (q * d % B128), Lw (q * d % B128)], .agg [Uv 0, Uv 0], .agg [Hw r, Lw r]] (some 81) (cw_Add20 hp (mod_lt128 _) (by omega)) ?_))
    rintro _ rfl
    have f1 : (q * d / B128 * B128 + q * d % B128 + (0 * B128 + r)) / B128 % B128 = a := by rw [hs, Nat.mul_comm, Nat.mul_add_div (by decide), Nat.div_eq_of_lt hb, Nat.add_zero, Nat.mod_eq_of_lt ha]
    have f2 : (q * d / B128 * B128 + q * d % B128 + (0 * B128 + r)) % B128 = b := by rw [hs, Nat.mul_comm, Nat.mul_add_mod, Nat.mod_eq_of_lt hb]
    have f3 : (q * d / B128 * B128 + q * d % B128 + (0 * B128 + r)) / (B128 * B128) = 0 := by rw [hs]; apply Nat.div_eq_of_lt; have : (a + 1) * B128 ≤ B128 * B128 := Nat.mul_le_mul_right _ ha; rw [Nat.add_mul, Nat.one_mul] at this; omega
    refine iQ 7 (iE 103 [(3, .p 3 0), (4, .p 4 0), (5, .p 5 0), (6, Ba false), (7, .p 7 0), (9, .p 9 0), (11, .p 11 0), (13, .p 13 0), (14, .p 14 0), (16, .p 16 0), (17, .p 17 0), (18, .d (Uv ((((q * d / B128 * B128 + q * d % B128 + (0 * B128 + r)) / (B128 * B128) : Nat) : Int)))), (20, Ba false), (55, Ba false), (65, Ba false)] [(3, [Hw a, Lw a]), (4, [Hw b, Lw b]), (5, [Hw d, Lw d]), (7, [Hw ((a + b) % B128), Lw ((a + b) % B128)]), (9, [Hw (((a + b) % B128 + B128 - b) % B128), Lw (((a + b) % B128 + B128 - b) % B128)]), (11, [Hw a, Lw a]), (13, [Hw q, Lw q]), (14, [Hw r, Lw r]), (16, [Hw ((q * d / B128 * B128 + q * d % B128 + (0 * B128 + r)) / B128 % B128), Lw ((q * d / B128 * B128 + q * d % B128 + (0 * B128 + r)) / B128 % B128)]), (17, [Hw ((q * d / B128 * B128 + q * d % B128 + (0 * B128 + r)) % B128), Lw ((q * d / B128 * B128 + q * d % B128 + (0 * B128 + r)) % B128)])] ?_)
    refine vc_seqr rfl (iQ 1 (iB .eql 22 (.int .u64 ((((q * d / B128 * B128 + q * d % B128 + (0 * B128 + r)) / (B128 * B128) : Nat) : Int))) (.int .u64 0) (some 86) ?_))
    refine all_true ((by rw [f3]; rfl)) ?_
    refine iQ 3 (iB .eql 24 (.agg #[.int .u64 (hiW ((q * d / B128 * B128 + q * d % B128 + (0 * B128 + r)) / B128 % B128)), .int .u64 (loW ((q * d / B128 * B128 + q * d % B128 + (0 * B128 + r)) / B128 % B128))]) (.agg #[.int .u64 (hiW (a)), .int .u64 (loW (a))]) (some 90) ?_)
    refine all_true ((by rw [f1])) ?_
    refine iQ 4 (iB .eql 24 (.agg #[.int .u64 (hiW ((q * d / B128 * B128 + q * d % B128 + (0 * B128 + r)) % B128)), .int .u64 (loW ((q * d / B128 * B128 + q * d % B128 + (0 * B128 + r)) % B128))]) (.agg #[.int .u64 (hiW (b)), .int .u64 (loW (b))]) (some 95) ?_)
    refine all_true ((by rw [f2])) ?_
    refine iQ 4 (iC 22 [.agg [Hw r, Lw r], .agg [Hw d, Lw d]] (some 100) (cw_Cmp (by omega) hd) ?_)
    rintro _ rfl
    refine iB .lss 3 (.int .i64 (cmpN r d)) (.int .i64 0) (some 101) ?_
    intro c101 hc101
    refine iQ 2 (iE 103 [(3, .p 3 0), (4, .p 4 0), (5, .p 5 0), (6, Ba c101), (7, .p 7 0), (9, .p 9 0), (11, .p 11 0), (13, .p 13 0), (14, .p 14 0), (16, .p 16 0), (17, .p 17 0), (20, Ba false), (55, Ba false), (65, Ba false)] [(3, [Hw a, Lw a]), (4, [Hw b, Lw b]), (5, [Hw d, Lw d]), (7, [Hw ((a + b) % B128), Lw ((a + b) % B128)]), (9, [Hw (((a + b) % B128 + B128 - b) % B128), Lw (((a + b) % B128 + B128 - b) % B128)]), (11, [Hw a, Lw a]), (13, [Hw q, Lw q]), (14, [Hw r, Lw r]), (16, [Hw ((q * d / B128 * B128 + q * d % B128 + (0 * B128 + r)) / B128 % B128), Lw ((q * d / B128 * B128 + q * d % B128 + (0 * B128 + r)) / B128 % B128)]), (17, [Hw ((q * d / B128 * B128 + q * d % B128 + (0 * B128 + r)) % B128), Lw ((q * d / B128 * B128 + q * d % B128 + (0 * B128 + r)) % B128)])] ?_)
    refine vc_ret (iR (Bv c101) ?_)
    rw [show c101 = true from hc101.2 (by rw [cmpN_lt lr]; decide)]
  · replace hc65 := bt hc65
    refine iT (vc_seqr rfl (iQ 2 (iC 22 [.agg [Hw a, Lw a], .agg [Hw d, Lw d]] (some 68) (cw_Cmp ha hd) ?_)))
    rintro _ rfl
    refine iB .geq 3 (.int .i64 (cmpN a d)) (.int .i64 0) (some 69) ?_
    intro c69 hc69
    refine iQ 1 (iE 103 [(3, .p 3 0), (4, .p 4 0), (5, .p 5 0), (6, Ba c69), (7, .p 7 0), (9, .p 9 0), (11, .p 11 0), (13, .p 13 0), (14, .p 14 0), (20, Ba false), (55, Ba false), (65, Ba true)] [(3, [Hw a, Lw a]), (4, [Hw b, Lw b]), (5, [Hw d, Lw d]), (7, [Hw ((a + b) % B128), Lw ((a + b) % B128)]), (9, [Hw (((a + b) % B128 + B128 - b) % B128), Lw (((a + b) % B128 + B128 - b) % B128)]), (11, [Hw a, Lw a]), (13, [Hw q, Lw q]), (14, [Hw r, Lw r])] ?_)
    refine vc_ret (seq_r (iR (Bv c69) ?_))
    rw [show c69 = true from hc69.2 (cmpN_ge (by rw [← h1]; simpa using hc65))]
end Go.Proofs.Ytimpaejpokkdnaa
