/-
  casuistlaw05: awake.
-/
import Derived.Test.YtbabmopplnbmdaaGreatDoorNrW
namespace Go.Proofs.YtbabmopplnbmdaaGreatDoor
open Go.RowKit
set_option linter.unusedVariables false
set_option linter.unusedSimpArgs false
set_option maxRecDepth 100000

theorem c_ShapeA {l : L8} {s : ByteArray} {b : Bool} (hs : s = tx l) (hL : l.length ≤ 1000000000000000) (h : shapeB l = b) : HasC Tryz.prog 8 [.v (.string s)] (fun r => r = .v (.bool b)) := by
  subst hs
  exact (c_Shape hL).mono fun r ⟨b', hr, hb⟩ => by rw [hr, show b' = b by rw [Bool.eq_iff_iff, hb, h]]
theorem c_PlainA {l : L8} {s : ByteArray} {b : Bool} {g : Bool} {k : Nat} {x : Int} {ok : Bool} (hs : s = tx l) (hL : l.length ≤ 1000000000000000) (hT : signT l = (g, k, x, ok)) (h : b = true ↔ ok = true ∧ textL g k x = l) : HasC Tryz.prog 12 [.v (.string s)] (fun r => r = .v (.bool b)) := by
  subst hs
  exact (c_Plain hT hL).mono fun r ⟨b', hr, hb⟩ => by rw [hr, show b' = b by rw [Bool.eq_iff_iff, hb, h]]
theorem c_nTextE {g : Bool} {n : Nat} {e : Int} {s : ByteArray} (hn : n < B128) (h1 : -999999 ≤ e) (h2 : e ≤ 999999) (h : tx (textL g n e) = s) : HasC Tryz.prog 15 [dDec g n e] (fun r => r = .v (.string s)) := by
  subst h
  exact c_nText hn h1 h2
theorem c_of05 {c : Nat} {e : Int} (hc : c < 18446744073709551616) : HasC Tryz.prog 17 [.v (.int .u64 ((c : Int))), .v (.int .i64 e)] (fun y => y = dDec false c e) := by
  refine HasC.of [] (fn := Tryz.f17) tyOk mixed (fun args w => Tryz.call17 args w) Tryz.func17 rfl (by kernel_rfl) (Nat.le_of_ble_eq_true rfl) (⟨_, rfl⟩) ?_
  refine vc_seqr rfl (iQ 1 (iE 9 [(0, .d (Uv ((c : Int)))), (1, Ia e), (4, .p 4 0)] [(4, [Bv false, Uv 0, Uv 0, Iv 0])] ?_))
  refine vc_seqr rfl (iQ 1 (iC 39 [Uv ((c : Int))] (some 6) (cw_OfN hc) ?_))
  rintro _ rfl
  refine iQ 3 (iE 9 [(4, .p 4 0)] [(4, [Bv false, Hw c, Lw c, Iv e])] ?_)
  refine vc_ret (iR (.agg [Bv false, Hw c, Lw c, Iv e]) ?_)
  rfl
-- the document's examples
theorem d1 {n : Nat} (h : n < 10) : Lib.decDigits n = [UInt8.ofNat (48 + n)] := by rw [Lib.decDigits, dif_pos h]
theorem d2 {n : Nat} (h : 10 ≤ n) (h2 : n < 100) : Lib.decDigits n = [UInt8.ofNat (48 + n / 10), UInt8.ofNat (48 + n % 10)] := by
  rw [Lib.decDigits, dif_neg (by omega), d1 (by omega)]
  rfl
theorem d3 {n : Nat} (h : 100 ≤ n) (h2 : n < 1000) : Lib.decDigits n = [UInt8.ofNat (48 + n / 10 / 10), UInt8.ofNat (48 + n / 10 % 10), UInt8.ofNat (48 + n % 10)] := by
  rw [Lib.decDigits, dif_neg (by omega), d2 (by omega) (by omega)]
  rfl
theorem aw_t1 : tx (textL false 250 (-2)) = ⟨#[50, 46, 53, 48]⟩ := by
  rw [textL, if_neg (by simp), bodyL, if_pos (by decide), d3 (by decide) (by decide)]
  rfl
theorem aw_t2 : tx (textL false 5 (-3)) = ⟨#[48, 46, 48, 48, 53]⟩ := by
  rw [textL, if_neg (by simp), bodyL, if_pos (by decide), d1 (by decide)]
  rfl
theorem aw_t3 : tx (textL false 12 3) = ⟨#[49, 50, 69, 51]⟩ := by
  rw [textL, if_neg (by simp), bodyL, if_neg (by decide), if_neg (by decide), d2 (by decide) (by decide), itoa_nn (by decide), show (3 : Int).toNat = 3 from rfl, d1 (n := 3) (by decide)]
  rfl
theorem aw_r1 : readT [49, 46, 50, 48, 69, 43, 51] = (false, 120, 1, true) := readT_own (by decide) (by decide) (by decide) (by decide) (by decide) (by decide)
theorem aw_r2 : readT [46, 53] = (false, 5, -1, true) := readT_own (by decide) (by decide) (by decide) (by decide) (by decide) (by decide)
theorem aw_s0 : signT [45, 48] = (false, 0, 0, true) := by
  have h : readT [48] = (false, 0, 0, true) := readT_own (by decide) (by decide) (by decide) (by decide) (by decide) (by decide)
  rw [signT, if_pos (by decide), List.tail_cons, h]
  rfl
theorem aw_p1 : signT [49, 69, 48] = (false, 1, 0, true) := by
  rw [signT, if_neg (by decide)]
  exact readT_own (by decide) (by decide) (by decide) (by decide) (by decide) (by decide)
theorem aw_p2 : signT [50, 46, 53, 48] = (false, 250, -2, true) := by
  rw [signT, if_neg (by decide)]
  exact readT_own (by decide) (by decide) (by decide) (by decide) (by decide) (by decide)
theorem aw_n1 : ¬ textL false 1 0 = [49, 69, 48] := by
  rw [textL, if_neg (by simp), bodyL, if_neg (by decide), if_pos rfl, d1 (by decide)]
  decide
theorem c_awake05  : HasC Tryz.prog 5 [] (fun r => r = .v (.bool true)) := by
  refine HasC.of [] (fn := Tryz.f5) tyOk mixed (fun args w => Tryz.call5 args w) Tryz.func5 rfl (by kernel_rfl) (Nat.le_of_ble_eq_true rfl) (⟨_, rfl⟩) ?_
  refine vc_seqr rfl (iQ 1 (iE 67 [(0, Ba false)] [] ?_))
  refine vc_seqr rfl (iC 6 [Sv (⟨#[49, 46, 50, 48, 69, 43, 51]⟩)] (some 8) (c_nReadE (l := [49, 46, 50, 48, 69, 43, 51]) (s := ⟨#[49, 46, 50, 48, 69, 43, 51]⟩) rfl aw_r1 (by decide)) ?_)
  rintro _ rfl
  refine iQ 6 (iE 67 [(0, Ba false), (1, .p 1 0), (2, Ba true)] [(1, [Bv false, Hw 120, Lw 120, Iv 1])] ?_)
  refine vc_seqr rfl (iC 6 [Sv (⟨#[46, 53]⟩)] (some 12) (c_nReadE (l := [46, 53]) (s := ⟨#[46, 53]⟩) rfl aw_r2 (by decide)) ?_)
  rintro _ rfl
  refine iQ 6 (iE 67 [(0, Ba false), (1, .p 1 0), (2, Ba true), (3, .p 3 0), (4, Ba true)] [(1, [Bv false, Hw 120, Lw 120, Iv 1]), (3, [Bv false, Hw 5, Lw 5, Iv (-1)])] ?_)
  refine vc_seqr rfl (iC 10 [Sv (⟨#[45, 48]⟩)] (some 16) (c_SignedE (l := [45, 48]) (s := ⟨#[45, 48]⟩) rfl aw_s0 (by decide)) ?_)
  rintro _ rfl
  refine iQ 6 (iE 67 [(0, Ba false), (1, .p 1 0), (2, Ba true), (3, .p 3 0), (4, Ba true), (5, .p 5 0), (6, Ba true)] [(1, [Bv false, Hw 120, Lw 120, Iv 1]), (3, [Bv false, Hw 5, Lw 5, Iv (-1)]), (5, [Bv false, Hw 0, Lw 0, Iv 0])] ?_)
  refine vc_seqr rfl (iC 17 [Uv 250, Iv (-2)] (some 19) (c_of05 (c := 250) (e := -2) (by decide)) ?_)
  rintro _ rfl
  refine iC 15 [.agg [Bv false, Hw 250, Lw 250, Iv (-2)]] (some 20) (c_nTextE (g := false) (n := 250) (e := -2) (by decide) (by decide) (by decide) aw_t1) ?_
  rintro _ rfl
  refine iB .eql 9 (.string (⟨#[50, 46, 53, 48]⟩)) (.string (⟨#[50, 46, 53, 48]⟩)) (some 21) ?_
  intro c21 hc21
  refine iQ 1 ?_
  obtain rfl : c21 = true := hc21.2 (rfl)
  refine iC 17 [Uv 5, Iv (-3)] (some 23) (c_of05 (c := 5) (e := -3) (by decide)) ?_
  rintro _ rfl
  refine iC 15 [.agg [Bv false, Hw 5, Lw 5, Iv (-3)]] (some 24) (c_nTextE (g := false) (n := 5) (e := -3) (by decide) (by decide) (by decide) aw_t2) ?_
  rintro _ rfl
  refine iB .eql 9 (.string (⟨#[48, 46, 48, 48, 53]⟩)) (.string (⟨#[48, 46, 48, 48, 53]⟩)) (some 25) ?_
  intro c25 hc25
  refine iQ 2 ?_
  obtain rfl : c25 = true := hc25.2 (rfl)
  refine iC 17 [Uv 12, Iv 3] (some 28) (c_of05 (c := 12) (e := 3) (by decide)) ?_
  rintro _ rfl
  refine iC 15 [.agg [Bv false, Hw 12, Lw 12, Iv 3]] (some 29) (c_nTextE (g := false) (n := 12) (e := 3) (by decide) (by decide) (by decide) aw_t3) ?_
  rintro _ rfl
  refine iB .eql 9 (.string (⟨#[49, 50, 69, 51]⟩)) (.string (⟨#[49, 50, 69, 51]⟩)) (some 30) ?_
  intro c30 hc30
  refine iQ 2 ?_
  obtain rfl : c30 = true := hc30.2 (rfl)
  refine iQ 4 (iC 17 [Uv 120, Iv 1] (some 37) (c_of05 (c := 120) (e := 1) (by decide)) ?_)
  rintro _ rfl
  refine iB .eql 27 (.agg #[.bool false, .int .u64 (hiW (120)), .int .u64 (loW (120)), .int .i64 1]) (.agg #[.bool false, .int .u64 (hiW (120)), .int .u64 (loW (120)), .int .i64 1]) (some 38) ?_
  intro c38 hc38
  try simp only [Array.mk.injEq, List.cons.injEq, Value.int.injEq, Value.bool.injEq, Value.string.injEq, true_and, and_true] at hc38
  refine iQ 2 ?_
  obtain rfl : c38 = true := hc38.2 (by simp)
  refine iQ 4 (iC 17 [Uv 5, Iv (-1)] (some 45) (c_of05 (c := 5) (e := -1) (by decide)) ?_)
  rintro _ rfl
  refine iB .eql 27 (.agg #[.bool false, .int .u64 (hiW (5)), .int .u64 (loW (5)), .int .i64 (-1)]) (.agg #[.bool false, .int .u64 (hiW (5)), .int .u64 (loW (5)), .int .i64 (-1)]) (some 46) ?_
  intro c46 hc46
  try simp only [Array.mk.injEq, List.cons.injEq, Value.int.injEq, Value.bool.injEq, Value.string.injEq, true_and, and_true] at hc46
  refine iQ 2 ?_
  obtain rfl : c46 = true := hc46.2 (by simp)
  refine iC 8 [Sv (⟨#[49, 46]⟩)] (some 49) (c_ShapeA (l := [49, 46]) (s := ⟨#[49, 46]⟩) (b := false) rfl (by decide) (by decide)) ?_
  rintro _ rfl
  refine iU .not (.bool false) (some 50) ?_
  intro c50 hc50
  refine iQ 2 ?_
  obtain rfl : c50 = true := hc50.2 (by simp)
  refine iQ 4 (iC 17 [Uv 0, Iv 0] (some 57) (c_of05 (c := 0) (e := 0) (by decide)) ?_)
  rintro _ rfl
  refine iB .eql 27 (.agg #[.bool false, .int .u64 (hiW (0)), .int .u64 (loW (0)), .int .i64 0]) (.agg #[.bool false, .int .u64 (hiW (0)), .int .u64 (loW (0)), .int .i64 0]) (some 58) ?_
  intro c58 hc58
  try simp only [Array.mk.injEq, List.cons.injEq, Value.int.injEq, Value.bool.injEq, Value.string.injEq, true_and, and_true] at hc58
  refine iQ 2 ?_
  obtain rfl : c58 = true := hc58.2 (by simp)
  refine iC 12 [Sv (⟨#[49, 69, 48]⟩)] (some 61) (c_PlainA (l := [49, 69, 48]) (s := ⟨#[49, 69, 48]⟩) (b := false) rfl (by decide) aw_p1 (by simp [aw_n1])) ?_
  rintro _ rfl
  refine iU .not (.bool false) (some 62) ?_
  intro c62 hc62
  refine iQ 2 ?_
  obtain rfl : c62 = true := hc62.2 (by simp)
  refine iC 12 [Sv (⟨#[50, 46, 53, 48]⟩)] (some 65) (c_PlainA (l := [50, 46, 53, 48]) (s := ⟨#[50, 46, 53, 48]⟩) (b := true) rfl (by decide) aw_p2 ⟨fun _ ↦ ⟨rfl, tx_inj aw_t1⟩, fun _ ↦ rfl⟩) ?_
  rintro _ rfl
  refine iQ 2 (iE 67 [(0, Ba true), (1, .p 1 0), (3, .p 3 0), (5, .p 5 0)] [(1, [Bv false, Hw 120, Lw 120, Iv 1]), (3, [Bv false, Hw 5, Lw 5, Iv (-1)]), (5, [Bv false, Hw 0, Lw 0, Iv 0])] ?_)
  refine vc_ret (iR (Bv true) ?_)
  rfl

theorem text_le {g : Bool} {n : Nat} {e : Int} (hn : n < B128) (h1 : -999999 ≤ e) (h2 : e ≤ 999999) : (textL g n e).length ≤ 200 := by
  have hd := dec_le39 hn
  have hi := itoa_len e ⟨by omega, by omega⟩
  have hb : (bodyL n e).length ≤ 150 := by
    unfold bodyL
    split
    · simp only [List.length_append, List.length_take, List.length_drop, List.length_replicate, List.length_cons]
      omega
    · split
      · omega
      · simp only [List.length_append, List.length_cons]
        omega
  unfold textL
  split
  · simp only [List.length_cons]; omega
  · omega
end Go.Proofs.YtbabmopplnbmdaaGreatDoor
