/-
  casuistlaw05: awake; NumeralBack, NumeralOne, NumeralShifts.
-/
import Derived.Test.YtjpaedjhihiakaaDoorNrB
import Derived.Test.YtjpaedjhihiakaaDoorDecY
import Derived.Test.YtjpaedjhihiakaaDoorMkD
namespace Go.Proofs.YtjpaedjhihiakaaDoor
open Go.RowKit
set_option linter.unusedVariables false
set_option linter.unusedSimpArgs false
set_option maxRecDepth 100000

theorem c_ShapeA {l : L8} {s : ByteArray} {b : Bool} (hs : s = tx l) (hL : l.length ≤ 1000000000000000) (h : shapeB l = b) : HasC Tryd.prog 40 [.v (.string s)] (fun r => r = .v (.bool b)) := by
  subst hs
  exact (c_Shape hL).mono fun r ⟨b', hr, hb⟩ => by rw [hr, show b' = b by rw [Bool.eq_iff_iff, hb, h]]
theorem c_PlainA {l : L8} {s : ByteArray} {b : Bool} {g : Bool} {k : Nat} {x : Int} {ok : Bool} (hs : s = tx l) (hL : l.length ≤ 1000000000000000) (hT : signT l = (g, k, x, ok)) (h : b = true ↔ ok = true ∧ textL g k x = l) : HasC Tryd.prog 72 [.v (.string s)] (fun r => r = .v (.bool b)) := by
  subst hs
  exact (c_Plain hT hL).mono fun r ⟨b', hr, hb⟩ => by rw [hr, show b' = b by rw [Bool.eq_iff_iff, hb, h]]
theorem c_nTextE {g : Bool} {n : Nat} {e : Int} {s : ByteArray} (hn : n < B128) (h1 : -999999 ≤ e) (h2 : e ≤ 999999) (h : tx (textL g n e) = s) : HasC Tryd.prog 37 [dDec g n e] (fun r => r = .v (.string s)) := by
  subst h
  exact c_nText hn h1 h2
theorem c_of05 {c : Nat} {e : Int} (hc : c < 18446744073709551616) : HasC Tryd.prog 45 [.v (.int .u64 ((c : Int))), .v (.int .i64 e)] (fun y => y = dDec false c e) := by
  refine HasC.of [] (fn := Tryd.f45) tyOk mixed (fun args w => Tryd.call45 args w) Tryd.func45 rfl (by kernel_rfl) (Nat.le_of_ble_eq_true rfl) (⟨_, rfl⟩) ?_
  refine vc_seqr rfl (iQ 1 (iE 9 [(0, .d (Uv ((c : Int)))), (1, Ia e), (4, .p 4 0)] [(4, [Bv false, Uv 0, Uv 0, Iv 0])] ?_))
  refine vc_seqr rfl (iQ 1 (iC 42 [Uv ((c : Int))] (some 6) (cw_OfN hc) ?_))
  rintro _ rfl
  refine iQ 3 (iE 9 [(4, .p 4 0)] [(4, [Bv false, Hw c, Lw c, Iv e])] ?_)
  refine vc_ret (iR (.agg [Bv false, Hw c, Lw c, Iv e]) ?_)
  rfl
-- the document's examples
theorem d1 {n : Nat} (h : n < 10) : Lib.decDigits n = [UInt8.ofNat (48 + n)] := by rw [Lib.decDigits, dif_pos h]
theorem d2 {n : Nat} (h : 10 ≤ n) (h2 : n < 100) : Lib.decDigits n = [UInt8.ofNat (48 + n / 10), UInt8.ofNat (48 + n % 10)] := by
  rw [Lib.decDigits, dif_neg (by omega), d1 (by omega)]
  rfl
theorem d3 {n : Nat} (h : 100 ≤ n) (h2 : n < 1000) : Lib.decDigits n = [UInt8.ofNat (48 + n / 10 / 10), UInt8.ofNat (48 + n / 10 % 10), UInt8.ofNat (48 + n % 10)] := by
  rw [Lib.decDigits, dif_neg (by omega), d2 (by omega) (by omega)]
  rfl
theorem aw_t1 : tx (textL false 250 (-2)) = ⟨#[50, 46, 53, 48]⟩ := by
  rw [textL, if_neg (by simp), bodyL, if_pos (by decide), d3 (by decide) (by decide)]
  rfl
theorem aw_t2 : tx (textL false 5 (-3)) = ⟨#[48, 46, 48, 48, 53]⟩ := by
  rw [textL, if_neg (by simp), bodyL, if_pos (by decide), d1 (by decide)]
  rfl
theorem aw_t3 : tx (textL false 12 3) = ⟨#[49, 50, 69, 51]⟩ := by
  rw [textL, if_neg (by simp), bodyL, if_neg (by decide), if_neg (by decide), d2 (by decide) (by decide), itoa_nn (by decide), show (3 : Int).toNat = 3 from rfl, d1 (n := 3) (by decide)]
  rfl
theorem aw_r1 : readT [49, 46, 50, 48, 69, 43, 51] = (false, 120, 1, true) := readT_own (by decide) (by decide) (by decide) (by decide) (by decide) (by decide)
theorem aw_r2 : readT [46, 53] = (false, 5, -1, true) := readT_own (by decide) (by decide) (by decide) (by decide) (by decide) (by decide)
theorem aw_s0 : signT [45, 48] = (false, 0, 0, true) := by
  have h : readT [48] = (false, 0, 0, true) := readT_own (by decide) (by decide) (by decide) (by decide) (by decide) (by decide)
  rw [signT, if_pos (by decide), List.tail_cons, h]
  rfl
theorem aw_p1 : signT [49, 69, 48] = (false, 1, 0, true) := by
  rw [signT, if_neg (by decide)]
  exact readT_own (by decide) (by decide) (by decide) (by decide) (by decide) (by decide)
theorem aw_p2 : signT [50, 46, 53, 48] = (false, 250, -2, true) := by
  rw [signT, if_neg (by decide)]
  exact readT_own (by decide) (by decide) (by decide) (by decide) (by decide) (by decide)
theorem aw_n1 : ¬ textL false 1 0 = [49, 69, 48] := by
  rw [textL, if_neg (by simp), bodyL, if_neg (by decide), if_pos rfl, d1 (by decide)]
  decide
theorem c_awake05  : HasC Tryd.prog 35 [] (fun r => r = .v (.bool true)) := by
  refine HasC.of [] (fn := Tryd.f35) tyOk mixed (fun args w => Tryd.call35 args w) Tryd.func35 rfl (by kernel_rfl) (Nat.le_of_ble_eq_true rfl) (⟨_, rfl⟩) ?_
  refine vc_seqr rfl (iQ 1 (iE 67 [(0, Ba false)] [] ?_))
  refine vc_seqr rfl (iC 36 [Sv (⟨#[49, 46, 50, 48, 69, 43, 51]⟩)] (some 8) (c_nReadE (l := [49, 46, 50, 48, 69, 43, 51]) (s := ⟨#[49, 46, 50, 48, 69, 43, 51]⟩) rfl aw_r1 (by decide)) ?_)
  rintro _ rfl
  refine iQ 6 (iE 67 [(0, Ba false), (1, .p 1 0), (2, Ba true)] [(1, [Bv false, Hw 120, Lw 120, Iv 1])] ?_)
  refine vc_seqr rfl (iC 36 [Sv (⟨#[46, 53]⟩)] (some 12) (c_nReadE (l := [46, 53]) (s := ⟨#[46, 53]⟩) rfl aw_r2 (by decide)) ?_)
  rintro _ rfl
  refine iQ 6 (iE 67 [(0, Ba false), (1, .p 1 0), (2, Ba true), (3, .p 3 0), (4, Ba true)] [(1, [Bv false, Hw 120, Lw 120, Iv 1]), (3, [Bv false, Hw 5, Lw 5, Iv (-1)])] ?_)
  refine vc_seqr rfl (iC 71 [Sv (⟨#[45, 48]⟩)] (some 16) (c_SignedE (l := [45, 48]) (s := ⟨#[45, 48]⟩) rfl aw_s0 (by decide)) ?_)
  rintro _ rfl
  refine iQ 6 (iE 67 [(0, Ba false), (1, .p 1 0), (2, Ba true), (3, .p 3 0), (4, Ba true), (5, .p 5 0), (6, Ba true)] [(1, [Bv false, Hw 120, Lw 120, Iv 1]), (3, [Bv false, Hw 5, Lw 5, Iv (-1)]), (5, [Bv false, Hw 0, Lw 0, Iv 0])] ?_)
  refine vc_seqr rfl (iC 45 [Uv 250, Iv (-2)] (some 19) (c_of05 (c := 250) (e := -2) (by decide)) ?_)
  rintro _ rfl
  refine iC 37 [.agg [Bv false, Hw 250, Lw 250, Iv (-2)]] (some 20) (c_nTextE (g := false) (n := 250) (e := -2) (by decide) (by decide) (by decide) aw_t1) ?_
  rintro _ rfl
  refine iB .eql 9 (.string (⟨#[50, 46, 53, 48]⟩)) (.string (⟨#[50, 46, 53, 48]⟩)) (some 21) ?_
  intro c21 hc21
  refine iQ 1 ?_
  obtain rfl : c21 = true := hc21.2 (rfl)
  refine iC 45 [Uv 5, Iv (-3)] (some 23) (c_of05 (c := 5) (e := -3) (by decide)) ?_
  rintro _ rfl
  refine iC 37 [.agg [Bv false, Hw 5, Lw 5, Iv (-3)]] (some 24) (c_nTextE (g := false) (n := 5) (e := -3) (by decide) (by decide) (by decide) aw_t2) ?_
  rintro _ rfl
  refine iB .eql 9 (.string (⟨#[48, 46, 48, 48, 53]⟩)) (.string (⟨#[48, 46, 48, 48, 53]⟩)) (some 25) ?_
  intro c25 hc25
  refine iQ 2 ?_
  obtain rfl : c25 = true := hc25.2 (rfl)
  refine iC 45 [Uv 12, Iv 3] (some 28) (c_of05 (c := 12) (e := 3) (by decide)) ?_
  rintro _ rfl
  refine iC 37 [.agg [Bv false, Hw 12, Lw 12, Iv 3]] (some 29) (c_nTextE (g := false) (n := 12) (e := 3) (by decide) (by decide) (by decide) aw_t3) ?_
  rintro _ rfl
  refine iB .eql 9 (.string (⟨#[49, 50, 69, 51]⟩)) (.string (⟨#[49, 50, 69, 51]⟩)) (some 30) ?_
  intro c30 hc30
  refine iQ 2 ?_
  obtain rfl : c30 = true := hc30.2 (rfl)
  refine iQ 4 (iC 45 [Uv 120, Iv 1] (some 37) (c_of05 (c := 120) (e := 1) (by decide)) ?_)
  rintro _ rfl
  refine iB .eql 58 (.agg #[.bool false, .int .u64 (hiW (120)), .int .u64 (loW (120)), .int .i64 1]) (.agg #[.bool false, .int .u64 (hiW (120)), .int .u64 (loW (120)), .int .i64 1]) (some 38) ?_
  intro c38 hc38
  try simp only [Array.mk.injEq, List.cons.injEq, Value.int.injEq, Value.bool.injEq, Value.string.injEq, true_and, and_true] at hc38
  refine iQ 2 ?_
  obtain rfl : c38 = true := hc38.2 (by simp)
  refine iQ 4 (iC 45 [Uv 5, Iv (-1)] (some 45) (c_of05 (c := 5) (e := -1) (by decide)) ?_)
  rintro _ rfl
  refine iB .eql 58 (.agg #[.bool false, .int .u64 (hiW (5)), .int .u64 (loW (5)), .int .i64 (-1)]) (.agg #[.bool false, .int .u64 (hiW (5)), .int .u64 (loW (5)), .int .i64 (-1)]) (some 46) ?_
  intro c46 hc46
  try simp only [Array.mk.injEq, List.cons.injEq, Value.int.injEq, Value.bool.injEq, Value.string.injEq, true_and, and_true] at hc46
  refine iQ 2 ?_
  obtain rfl : c46 = true := hc46.2 (by simp)
  refine iC 40 [Sv (⟨#[49, 46]⟩)] (some 49) (c_ShapeA (l := [49, 46]) (s := ⟨#[49, 46]⟩) (b := false) rfl (by decide) (by decide)) ?_
  rintro _ rfl
  refine iU .not (.bool false) (some 50) ?_
  intro c50 hc50
  refine iQ 2 ?_
  obtain rfl : c50 = true := hc50.2 (by simp)
  refine iQ 4 (iC 45 [Uv 0, Iv 0] (some 57) (c_of05 (c := 0) (e := 0) (by decide)) ?_)
  rintro _ rfl
  refine iB .eql 58 (.agg #[.bool false, .int .u64 (hiW (0)), .int .u64 (loW (0)), .int .i64 0]) (.agg #[.bool false, .int .u64 (hiW (0)), .int .u64 (loW (0)), .int .i64 0]) (some 58) ?_
  intro c58 hc58
  try simp only [Array.mk.injEq, List.cons.injEq, Value.int.injEq, Value.bool.injEq, Value.string.injEq, true_and, and_true] at hc58
  refine iQ 2 ?_
  obtain rfl : c58 = true := hc58.2 (by simp)
  refine iC 72 [Sv (⟨#[49, 69, 48]⟩)] (some 61) (c_PlainA (l := [49, 69, 48]) (s := ⟨#[49, 69, 48]⟩) (b := false) rfl (by decide) aw_p1 (by simp [aw_n1])) ?_
  rintro _ rfl
  refine iU .not (.bool false) (some 62) ?_
  intro c62 hc62
  refine iQ 2 ?_
  obtain rfl : c62 = true := hc62.2 (by simp)
  refine iC 72 [Sv (⟨#[50, 46, 53, 48]⟩)] (some 65) (c_PlainA (l := [50, 46, 53, 48]) (s := ⟨#[50, 46, 53, 48]⟩) (b := true) rfl (by decide) aw_p2 ⟨fun _ ↦ ⟨rfl, tx_inj aw_t1⟩, fun _ ↦ rfl⟩) ?_
  rintro _ rfl
  refine iQ 2 (iE 67 [(0, Ba true), (1, .p 1 0), (3, .p 3 0), (5, .p 5 0)] [(1, [Bv false, Hw 120, Lw 120, Iv 1]), (3, [Bv false, Hw 5, Lw 5, Iv (-1)]), (5, [Bv false, Hw 0, Lw 0, Iv 0])] ?_)
  refine vc_ret (iR (Bv true) ?_)
  rfl

theorem text_le {g : Bool} {n : Nat} {e : Int} (hn : n < B128) (h1 : -999999 ≤ e) (h2 : e ≤ 999999) : (textL g n e).length ≤ 200 := by
  have hd := dec_le39 hn
  have hi := itoa_len e ⟨by omega, by omega⟩
  have hb : (bodyL n e).length ≤ 150 := by
    unfold bodyL
    split
    · simp only [List.length_append, List.length_take, List.length_drop, List.length_replicate, List.length_cons]
      omega
    · split
      · omega
      · simp only [List.length_append, List.length_cons]
        omega
  unfold textL
  split
  · simp only [List.length_cons]; omega
  · omega
theorem c_MayT {neg : Bool} {n : Nat} {e : Int} (h : May neg n e) : HasC Tryd.prog 38 [dDec neg n e] (fun y => y = .v (.bool true)) := (c_May (Nat.lt_trans h.1 e34_lt)).mono fun y ⟨b, hy, hb⟩ => by rw [hy, hb.2 h]
theorem sgn_ge {k : Nat} : 0 ≤ (if k = 0 then (0 : Int) else if false = true then -1 else 1) := by split <;> simp

theorem c_NumeralBack {l : L8} (hL : l.length ≤ 1000000000000000) : HasC Tryd.prog 8 [.v (.string (tx l))] (fun r => r = .v (.bool true)) := by
  refine HasC.of [] (fn := Tryd.f8) tyOk mixed (fun args w => Tryd.call8 args w) Tryd.func8 rfl (by kernel_rfl) (Nat.le_of_ble_eq_true rfl) (⟨_, rfl⟩) ?_
  obtain ⟨g0, k, x, ok, hR⟩ : ∃ a b c d, readT l = (a, b, c, d) := ⟨_, _, _, _, rfl⟩
  have hrg := readT_rng hR
  have hps := readT_pos hR
  obtain rfl : g0 = false := hps.1
  refine vc_seqr rfl (iQ 1 (iE 44 [(0, .d (Sv (tx l))), (2, Ba false)] [] ?_))
  refine vc_seq (vc_seqr rfl (iC 35 [] (some 7) (c_awake05) ?_))
  rintro _ rfl
  refine iU .not (.bool true) (some 8) ?_
  intro c8 hc8
  refine iE 44 [(0, .d (Sv (tx l))), (2, Ba false), (8, Ba c8)] [] ?_
  obtain rfl : c8 = false := bff hc8 (by simp)
  refine iF (vc_skip (seq_n (vc_seqr rfl (iQ 1 (iC 36 [Sv (tx l)] (some 11) (c_nReadE (l := l) rfl hR hL) ?_)))))
  rintro _ rfl
  refine iQ 6 (iE 44 [(0, .d (Sv (tx l))), (2, Ba false), (3, .p 3 0), (4, Ba ok), (8, Ba false)] [(3, [Bv false, Hw k, Lw k, Iv x])] ?_)
  refine vc_seq (vc_seqr rfl (iQ 1 (iU .not (.bool ok) (some 15) ?_)))
  intro c15 hc15
  refine iE 44 [(0, .d (Sv (tx l))), (2, Ba false), (3, .p 3 0), (8, Ba false), (15, Ba c15)] [(3, [Bv false, Hw k, Lw k, Iv x])] ?_
  cases c15
  · replace hc15 := bf hc15
    have hok : ok = true := by simpa using hc15
    have hB := Nat.lt_trans hrg.1 e34_lt
    have hb : readT (textL false k x) = (false, k, x, true) := readT_body hrg.1 hrg.2.1 hrg.2.2.1
    refine iF (vc_skip (seq_n (vc_seqr rfl (iQ 1 (iC 37 [.agg [Bv false, Hw k, Lw k, Iv x]] (some 21) (c_nText (g := false) hB (by omega) (by omega)) ?_)))))
    rintro _ rfl
    refine iC 36 [Sv (tx (textL false k x))] (some 22) (c_nReadE (l := textL false k x) rfl hb (Nat.le_trans (text_le hB (by omega) (by omega)) (by decide))) ?_
    rintro _ rfl
    refine iQ 6 (iE 44 [(0, .d (Sv (tx l))), (2, Ba false), (3, .p 3 0), (5, .p 5 0), (6, Ba true), (8, Ba false), (15, Ba false)] [(3, [Bv false, Hw k, Lw k, Iv x]), (5, [Bv false, Hw k, Lw k, Iv x])] ?_)
    refine vc_seqr rfl (iQ 4 (iB .eql 58 (.agg #[.bool false, .int .u64 (hiW (k)), .int .u64 (loW (k)), .int .i64 x]) (.agg #[.bool false, .int .u64 (hiW (k)), .int .u64 (loW (k)), .int .i64 x]) (some 29) ?_))
    intro c29 hc29
    try simp only [Array.mk.injEq, List.cons.injEq, Value.int.injEq, Value.bool.injEq, Value.string.injEq, true_and, and_true] at hc29
    refine iQ 2 ?_
    obtain rfl : c29 = true := hc29.2 (by simp)
    refine iQ 1 (iC 38 [.agg [Bv false, Hw k, Lw k, Iv x]] (some 33) (c_MayT ⟨hrg.1, hrg.2.1, hrg.2.2.1, fun h ↦ by cases h⟩) ?_)
    rintro _ rfl
    refine iQ 3 (iC 39 [.agg [Bv false, Hw k, Lw k, Iv x]] (some 37) (c_Sign (g := false) (a := k) (x := x) hB) ?_)
    rintro _ rfl
    refine iB .geq 3 (.int .i64 (if k = 0 then 0 else if false = true then -1 else 1)) (.int .i64 0) (some 38) ?_
    intro c38 hc38
    refine iQ 2 ?_
    obtain rfl : c38 = true := hc38.2 (sgn_ge)
    refine iQ 1 (iC 40 [Sv (tx l)] (some 42) (c_ShapeA (l := l) (b := true) rfl hL (hps.2.2 hok)) ?_)
    rintro _ rfl
    refine iQ 2 (iE 44 [(0, .d (Sv (tx l))), (2, Ba true), (3, .p 3 0), (5, .p 5 0), (8, Ba false), (15, Ba false)] [(3, [Bv false, Hw k, Lw k, Iv x]), (5, [Bv false, Hw k, Lw k, Iv x])] ?_)
    refine vc_ret (iR (Bv true) ?_)
    rfl
  · replace hc15 := bt hc15
    have hz := hps.2.1 (by simpa using hc15)
    refine iT (vc_seqr rfl (iQ 2 (iB .eql 58 (.agg #[.bool false, .int .u64 (hiW (k)), .int .u64 (loW (k)), .int .i64 x]) (.agg #[.bool false, .int .u64 0, .int .u64 0, .int .i64 0]) (some 18) ?_)))
    intro c18 hc18
    try simp only [Array.mk.injEq, List.cons.injEq, Value.int.injEq, Value.bool.injEq, Value.string.injEq, true_and, and_true] at hc18
    refine iQ 1 (iE 44 [(0, .d (Sv (tx l))), (2, Ba c18), (3, .p 3 0), (8, Ba false), (15, Ba true)] [(3, [Bv false, Hw k, Lw k, Iv x])] ?_)
    refine vc_ret (seq_r (iR (Bv c18) ?_))
    rw [hc18.2 (by simp [hz.1, hz.2, hiW, loW])]

theorem c_NumeralOne {g1 g2 : Bool} {n1 n2 : Nat} {e1 e2 : Int} (h1 : n1 < B128) (h2 : n2 < B128) : HasC Tryd.prog 9 [.agg [.v (.bool g1), .v (.int .u64 (hiW (n1))), .v (.int .u64 (loW (n1))), .v (.int .i64 e1)], .agg [.v (.bool g2), .v (.int .u64 (hiW (n2))), .v (.int .u64 (loW (n2))), .v (.int .i64 e2)]] (fun r => r = .v (.bool true)) := by
  refine HasC.of [] (fn := Tryd.f9) tyOk mixed (fun args w => Tryd.call9 args w) Tryd.func9 rfl (by kernel_rfl) (Nat.le_of_ble_eq_true rfl) (⟨_, rfl⟩) ?_
  refine vc_seqr rfl (iQ 3 (iE 22 [(2, .p 2 0), (3, .p 3 0), (4, Ba false)] [(2, [Bv g1, Hw n1, Lw n1, Iv e1]), (3, [Bv g2, Hw n2, Lw n2, Iv e2])] ?_))
  refine vc_seq (vc_seqr rfl (iC 35 [] (some 7) (c_awake05) ?_))
  rintro _ rfl
  refine iU .not (.bool true) (some 8) ?_
  intro c8 hc8
  refine iE 22 [(2, .p 2 0), (3, .p 3 0), (4, Ba false), (8, Ba c8)] [(2, [Bv g1, Hw n1, Lw n1, Iv e1]), (3, [Bv g2, Hw n2, Lw n2, Iv e2])] ?_
  obtain rfl : c8 = false := bff hc8 (by simp)
  refine iF (vc_skip (seq_n (vc_seqr rfl (iQ 1 (iC 41 [.agg [Bv g1, Hw n1, Lw n1, Iv e1]] (some 10) (c_Make (g := g1) (e := e1) h1) ?_)))))
  rintro _ ⟨s1, c1, x1, rfl, p1, p2, p3, p4⟩
  refine iQ 1 (iC 41 [.agg [Bv g2, Hw n2, Lw n2, Iv e2]] (some 12) (c_Make (g := g2) (e := e2) h2) ?_)
  rintro _ ⟨s2, c2, x2, rfl, q1, q2, q3, q4⟩
  refine iQ 4 (iE 22 [(4, Ba false), (5, .p 5 0), (6, .p 6 0), (8, Ba false)] [(5, [Bv s1, Hw c1, Lw c1, Iv x1]), (6, [Bv s2, Hw c2, Lw c2, Iv x2])] ?_)
  refine vc_seqr rfl (iQ 1 (iC 37 [.agg [Bv s1, Hw c1, Lw c1, Iv x1]] (some 14) (c_nText (g := s1) (Nat.lt_trans p1 e34_lt) (by omega) (by omega)) ?_))
  rintro _ rfl
  refine iQ 1 (iC 37 [.agg [Bv s2, Hw c2, Lw c2, Iv x2]] (some 16) (c_nText (g := s2) (Nat.lt_trans q1 e34_lt) (by omega) (by omega)) ?_)
  rintro _ rfl
  refine iB .eql 9 (.string (tx (textL s1 c1 x1))) (.string (tx (textL s2 c2 x2))) (some 17) ?_
  intro c17 hc17
  refine iQ 2 (iB .eql 58 (.agg #[.bool s1, .int .u64 (hiW (c1)), .int .u64 (loW (c1)), .int .i64 x1]) (.agg #[.bool s2, .int .u64 (hiW (c2)), .int .u64 (loW (c2)), .int .i64 x2]) (some 20) ?_)
  intro c20 hc20
  try simp only [Array.mk.injEq, List.cons.injEq, Value.int.injEq, Value.bool.injEq, Value.string.injEq, true_and, and_true] at hc20
  refine iB .eql 4 (.bool c17) (.bool c20) (some 21) ?_
  intro c21 hc21
  refine iQ 1 (iE 22 [(4, Ba c21), (5, .p 5 0), (6, .p 6 0), (8, Ba false)] [(5, [Bv s1, Hw c1, Lw c1, Iv x1]), (6, [Bv s2, Hw c2, Lw c2, Iv x2])] ?_)
  refine vc_ret (iR (Bv c21) ?_)
  rw [hc21.2 (by rw [Bool.eq_iff_iff, hc17, hc20, tx_iff]; constructor; intro h; obtain ⟨a1, a2, a3⟩ := text_inj (by omega) (by omega) (by omega) (by omega) h; simp [a1, a2, a3]; intro h; rw [h.1, hl_inj h.2.1 h.2.2.1, h.2.2.2])]

-- one nought more
theorem dig_nv {n : Nat} : (Lib.decDigits n).all isDg = true ∧ nvL (Lib.decDigits n) = n ∧ Lib.decDigits n ≠ [] := ⟨dec_all n, dec_nv n, dec_ne n⟩
theorem nv_snoc0 (l : L8) : nvL (l ++ [48]) = nvL l * 10 := by
  rw [nvL_app]
  show nvL l * 10 ^ 1 + 0 = _
  omega
theorem read_digs {l : L8} {N : Nat} (h : l.all isDg = true) (h0 : l ≠ []) (hN : nvL l = N) (hl : N < E34) : readT l = (false, N, 0, true) := by
  have c1 : cutL 69 l = (l, [], false) := cutL_no (not_mem_dg h (by decide))
  have c2 : cutL 46 l = (l, [], false) := cutL_no (not_mem_dg h (by decide))
  have hb : digsB l = true := digsB_iff.2 ⟨h0, h⟩
  refine readT_own (by simp [shapeB, expB, pntB, c1, c2, hb]) (by simp [rawN, allS, c1, c2, hN]) ?_ hl (by decide) (by decide)
  simp only [rawE, c1, c2]
  rfl
theorem read_sh1 {n : Nat} (hn : n < 18446744073709551616) : readT (Lib.decDigits n ++ [48]) = (false, n * 10, 0, true) := by
  obtain ⟨a, b, c⟩ := dig_nv (n := n)
  exact read_digs (by rw [List.all_append, a]; rfl) (by simp) (by rw [nv_snoc0, b]) (Nat.lt_of_lt_of_le (Nat.mul_lt_mul_of_pos_right hn (by decide)) (by decide))
theorem read_sh2 {n : Nat} (hn : n < 18446744073709551616) : readT ([48] ++ Lib.decDigits n) = (false, n, 0, true) := by
  obtain ⟨a, b, c⟩ := dig_nv (n := n)
  refine read_digs (by rw [List.all_append, a]; rfl) (by simp) ?_ (Nat.lt_trans hn (by decide))
  have := nvL_pad 1 (Lib.decDigits n)
  rw [b] at this
  exact this
theorem read_sh3 {n : Nat} (hn : n < 18446744073709551616) : readT (Lib.decDigits n ++ [46, 48]) = (false, n * 10, -1, true) := by
  obtain ⟨a, b, c⟩ := dig_nv (n := n)
  have c1 : cutL 69 (Lib.decDigits n ++ [46, 48]) = (Lib.decDigits n ++ [46, 48], [], false) := cutL_no (by
    simp only [List.mem_append, not_or]
    exact ⟨not_mem_dg a (by decide), by decide⟩)
  have c2 : cutL 46 (Lib.decDigits n ++ [46, 48]) = (Lib.decDigits n, [48], true) := cutL_app [48] (not_mem_dg a (by decide))
  have hb : digsB (Lib.decDigits n) = true := digsB_iff.2 ⟨c, a⟩
  have h48 : digsB [48] = true := by decide
  refine readT_own (by simp [shapeB, expB, pntB, c1, c2, hb, h48]) (by simp only [rawN, allS, c1, c2]; rw [nv_snoc0, b]) ?_ (Nat.lt_of_lt_of_le (Nat.mul_lt_mul_of_pos_right hn (by decide)) (by decide)) (by decide) (by decide)
  simp only [rawE, c1, c2]
  rfl
theorem read_sh4 {n : Nat} (hn : n < 18446744073709551616) : readT (Lib.decDigits n ++ [69, 49]) = (false, n, 1, true) := by
  obtain ⟨a, b, c⟩ := dig_nv (n := n)
  have c1 : cutL 69 (Lib.decDigits n ++ [69, 49]) = (Lib.decDigits n, [49], true) := cutL_app [49] (not_mem_dg a (by decide))
  have c2 : cutL 46 (Lib.decDigits n) = (Lib.decDigits n, [], false) := cutL_no (not_mem_dg a (by decide))
  have hb : digsB (Lib.decDigits n) = true := digsB_iff.2 ⟨c, a⟩
  have h49 : digsB (signP [49]) = true ∧ (signP [49]).length ≤ 6 := by decide
  refine readT_own (by simp [shapeB, expB, pntB, c1, c2, hb, h49.1, h49.2]) (by simp [rawN, allS, c1, c2, b]) ?_ (Nat.lt_trans hn (by decide)) (by decide) (by decide)
  simp only [rawE, c1, c2]
  rfl
theorem mul_ten {n : Nat} (hn : n < 18446744073709551616) : mulT (false, n, 0, true) (false, 10, 0, true) = (false, n * 10, 0, true) := by
  have h1 : n * 10 < E34 := Nat.lt_of_lt_of_le (Nat.mul_lt_mul_of_pos_right hn (by decide)) (by decide)
  show fitT 1 (false != false) (n * 10) (0 + 0) false = _
  rw [fitT_U _ _ _ _ (Nat.le_trans (nd_le 34 _ h1) (by decide)), show ((0 : Int) + 0) = 0 from rfl, fitU_own h1 (by decide) (by decide)]
  simp
theorem c_MulTen {n : Nat} (hn : n < 18446744073709551616) : HasC Tryd.prog 44 [dDec false n 0, dDec false 10 0] (fun y => y = .tup [dDec false (n * 10) 0, .v (.bool true)]) :=
  (c_decMulT (o1 := true) (o2 := true) (Nat.lt_trans hn (by decide)) (by decide) (by decide) (by decide) (by decide) (by decide)).mono fun y ⟨g, k, x, ok, h1, h2⟩ => by
    rw [mul_ten hn] at h2
    simp only [Prod.mk.injEq] at h2
    obtain ⟨a1, a2, a3, a4⟩ := h2
    rw [h1, ← a1, ← a2, ← a3, ← a4]
theorem c_Int10 : HasC Tryd.prog 46 [.v (.int .i64 10)] (fun y => y = dDec false 10 0) := (c_Int (x := 10) (by decide) (by decide)).mono fun y hy => by rw [hy]; rfl
theorem cmp_shift (n : Nat) : cmpZ false (n * 10) (-1) false n 0 = 0 := by
  unfold cmpZ V
  rw [show min (-1 : Int) 0 = -1 from rfl]
  have : n * 10 * 10 ^ ((-1 : Int) - -1).toNat = n * 10 ^ ((0 : Int) - -1).toNat := by
    show n * 10 * 10 ^ 0 = n * 10 ^ 1
    omega
  rw [this]
  exact cmpI_eq.2 rfl
theorem dec20 {n : Nat} (hn : n < 18446744073709551616) : (Lib.decDigits n).length ≤ 39 := dec_le39 (Nat.lt_trans hn (by decide))

theorem c_NumeralShifts {n : Nat} (hn : n < 18446744073709551616) : HasC Tryd.prog 10 [.v (.int .u64 ((n : Int)))] (fun r => r = .v (.bool true)) := by
  refine HasC.of [] (fn := Tryd.f10) tyOk mixed (fun args w => Tryd.call10 args w) Tryd.func10 rfl (by kernel_rfl) (Nat.le_of_ble_eq_true rfl) (⟨_, rfl⟩) ?_
  have hB : n < B128 := Nat.lt_trans hn (by decide)
  have hdl := dec20 hn
  refine vc_seqr rfl (iQ 1 (iE 91 [(0, .d (Uv ((n : Int)))), (2, Ba false)] [] ?_))
  refine vc_seq (vc_seqr rfl (iC 35 [] (some 14) (c_awake05) ?_))
  rintro _ rfl
  refine iU .not (.bool true) (some 15) ?_
  intro c15 hc15
  refine iE 91 [(0, .d (Uv ((n : Int)))), (2, Ba false), (15, Ba c15)] [] ?_
  obtain rfl : c15 = false := bff hc15 (by simp)
  refine iF (vc_skip (seq_n (vc_seqr rfl (iQ 1 (iC 42 [Uv ((n : Int))] (some 17) (cw_OfN hn) ?_)))))
  rintro _ rfl
  refine iC 43 [.agg [Hw n, Lw n]] (some 18) (c_TxT hB) ?_
  rintro _ rfl
  refine iQ 1 (iE 91 [(0, .d (Uv ((n : Int)))), (2, Ba false), (3, .d (Sv (tx (Lib.decDigits n)))), (15, Ba false)] [] ?_)
  refine vc_seqr rfl (iQ 1 (iB .add 9 (.string (tx (Lib.decDigits n))) (.string (⟨#[48]⟩)) (some 21) ?_))
  refine And.intro (sz_le (m := ((Lib.decDigits n)).length) (n := 1) rfl rfl (by omega)) ?_
  intro s21 hs21
  have hl21 : (s21 : ByteArray).size = ((Lib.decDigits n)).length + 1 := sz_add hs21 rfl rfl
  have e21 : s21 = tx (Lib.decDigits n ++ [48]) := by rw [hs21]; exact tx_append _ [48]
  refine iC 36 [Sv s21] (some 22) (c_nReadE e21 (read_sh1 hn) (by simp; omega)) ?_
  rintro _ rfl
  refine iQ 6 (iE 91 [(0, .d (Uv ((n : Int)))), (2, Ba false), (3, .d (Sv (tx (Lib.decDigits n)))), (4, .p 4 0), (5, Ba true), (15, Ba false)] [(4, [Bv false, Hw (n * 10), Lw (n * 10), Iv 0])] ?_)
  refine vc_seqr rfl (iQ 1 (iB .add 9 (.string (⟨#[48]⟩)) (.string (tx (Lib.decDigits n))) (some 27) ?_))
  refine And.intro (sz_le (m := 1) (n := ((Lib.decDigits n)).length) rfl rfl (by omega)) ?_
  intro s27 hs27
  have hl27 : (s27 : ByteArray).size = 1 + ((Lib.decDigits n)).length := sz_add hs27 rfl rfl
  have e27 : s27 = tx ([48] ++ Lib.decDigits n) := by rw [hs27]; exact tx_append [48] _
  refine iC 36 [Sv s27] (some 28) (c_nReadE e27 (read_sh2 hn) (by simp; omega)) ?_
  rintro _ rfl
  refine iQ 6 (iE 91 [(0, .d (Uv ((n : Int)))), (2, Ba false), (3, .d (Sv (tx (Lib.decDigits n)))), (4, .p 4 0), (5, Ba true), (6, .p 6 0), (7, Ba true), (15, Ba false)] [(4, [Bv false, Hw (n * 10), Lw (n * 10), Iv 0]), (6, [Bv false, Hw n, Lw n, Iv 0])] ?_)
  refine vc_seqr rfl (iQ 1 (iB .add 9 (.string (tx (Lib.decDigits n))) (.string (⟨#[46, 48]⟩)) (some 33) ?_))
  refine And.intro (sz_le (m := ((Lib.decDigits n)).length) (n := 2) rfl rfl (by omega)) ?_
  intro s33 hs33
  have hl33 : (s33 : ByteArray).size = ((Lib.decDigits n)).length + 2 := sz_add hs33 rfl rfl
  have e33 : s33 = tx (Lib.decDigits n ++ [46, 48]) := by rw [hs33]; exact tx_append _ [46, 48]
  refine iC 36 [Sv s33] (some 34) (c_nReadE e33 (read_sh3 hn) (by simp; omega)) ?_
  rintro _ rfl
  refine iQ 6 (iE 91 [(0, .d (Uv ((n : Int)))), (2, Ba false), (3, .d (Sv (tx (Lib.decDigits n)))), (4, .p 4 0), (5, Ba true), (6, .p 6 0), (7, Ba true), (8, .p 8 0), (9, Ba true), (15, Ba false)] [(4, [Bv false, Hw (n * 10), Lw (n * 10), Iv 0]), (6, [Bv false, Hw n, Lw n, Iv 0]), (8, [Bv false, Hw (n * 10), Lw (n * 10), Iv (-1)])] ?_)
  refine vc_seqr rfl (iQ 1 (iB .add 9 (.string (tx (Lib.decDigits n))) (.string (⟨#[69, 49]⟩)) (some 39) ?_))
  refine And.intro (sz_le (m := ((Lib.decDigits n)).length) (n := 2) rfl rfl (by omega)) ?_
  intro s39 hs39
  have hl39 : (s39 : ByteArray).size = ((Lib.decDigits n)).length + 2 := sz_add hs39 rfl rfl
  have e39 : s39 = tx (Lib.decDigits n ++ [69, 49]) := by rw [hs39]; exact tx_append _ [69, 49]
  refine iC 36 [Sv s39] (some 40) (c_nReadE e39 (read_sh4 hn) (by simp; omega)) ?_
  rintro _ rfl
  refine iQ 6 (iE 91 [(0, .d (Uv ((n : Int)))), (2, Ba false), (3, .d (Sv (tx (Lib.decDigits n)))), (4, .p 4 0), (5, Ba true), (6, .p 6 0), (7, Ba true), (8, .p 8 0), (9, Ba true), (10, .p 10 0), (11, Ba true), (15, Ba false)] [(4, [Bv false, Hw (n * 10), Lw (n * 10), Iv 0]), (6, [Bv false, Hw n, Lw n, Iv 0]), (8, [Bv false, Hw (n * 10), Lw (n * 10), Iv (-1)]), (10, [Bv false, Hw n, Lw n, Iv 1])] ?_)
  refine vc_seqr rfl (iQ 1 (iC 45 [Uv ((n : Int)), Iv 0] (some 45) (c_of05 (c := n) (e := 0) hn) ?_))
  rintro _ rfl
  refine iC 46 [Iv 10] (some 46) (c_Int10) ?_
  rintro _ rfl
  refine iC 44 [.agg [Bv false, Hw n, Lw n, Iv 0], .agg [Bv false, Hw 10, Lw 10, Iv 0]] (some 47) (c_MulTen hn) ?_
  rintro _ rfl
  refine iQ 6 (iE 91 [(0, .d (Uv ((n : Int)))), (2, Ba false), (3, .d (Sv (tx (Lib.decDigits n)))), (4, .p 4 0), (5, Ba true), (6, .p 6 0), (7, Ba true), (8, .p 8 0), (9, Ba true), (10, .p 10 0), (11, Ba true), (12, .p 12 0), (13, Ba true), (15, Ba false)] [(4, [Bv false, Hw (n * 10), Lw (n * 10), Iv 0]), (6, [Bv false, Hw n, Lw n, Iv 0]), (8, [Bv false, Hw (n * 10), Lw (n * 10), Iv (-1)]), (10, [Bv false, Hw n, Lw n, Iv 1]), (12, [Bv false, Hw (n * 10), Lw (n * 10), Iv 0])] ?_)
  refine vc_seqr rfl (iQ 16 (iB .eql 58 (.agg #[.bool false, .int .u64 (hiW (n * 10)), .int .u64 (loW (n * 10)), .int .i64 0]) (.agg #[.bool false, .int .u64 (hiW (n * 10)), .int .u64 (loW (n * 10)), .int .i64 0]) (some 66) ?_))
  intro c66 hc66
  try simp only [Array.mk.injEq, List.cons.injEq, Value.int.injEq, Value.bool.injEq, Value.string.injEq, true_and, and_true] at hc66
  refine iQ 2 ?_
  obtain rfl : c66 = true := hc66.2 (by simp)
  refine iQ 2 (iC 45 [Uv ((n : Int)), Iv 0] (some 71) (c_of05 (c := n) (e := 0) hn) ?_)
  rintro _ rfl
  refine iB .eql 58 (.agg #[.bool false, .int .u64 (hiW (n)), .int .u64 (loW (n)), .int .i64 0]) (.agg #[.bool false, .int .u64 (hiW (n)), .int .u64 (loW (n)), .int .i64 0]) (some 72) ?_
  intro c72 hc72
  try simp only [Array.mk.injEq, List.cons.injEq, Value.int.injEq, Value.bool.injEq, Value.string.injEq, true_and, and_true] at hc72
  refine iQ 2 ?_
  obtain rfl : c72 = true := hc72.2 (by simp)
  refine iQ 2 (iC 47 [.agg [Bv false, Hw (n * 10), Lw (n * 10), Iv (-1)], .agg [Bv false, Hw n, Lw n, Iv 0]] (some 77) (c_decCmp (s1 := false) (s2 := false) (A := n * 10) (B := n) (e1 := -1) (e2 := 0) (Nat.lt_of_lt_of_le (Nat.mul_lt_mul_of_pos_right hn (by decide)) (by decide)) (Nat.lt_trans hn (by decide)) (by decide) (by decide) (by decide) (by decide)) ?_)
  rintro _ rfl
  refine iB .eql 3 (.int .i64 (cmpZ false (n * 10) (-1) false n 0)) (.int .i64 0) (some 78) ?_
  intro c78 hc78
  refine iQ 2 ?_
  obtain rfl : c78 = true := hc78.2 (cmp_shift n)
  refine iQ 2 (iB .eql 3 (.int .i64 (-1)) (.int .i64 (-1)) (some 83) ?_)
  intro c83 hc83
  refine iQ 2 ?_
  obtain rfl : c83 = true := hc83.2 (by simp)
  refine iQ 2 (iC 45 [Uv ((n : Int)), Iv 1] (some 88) (c_of05 (c := n) (e := 1) hn) ?_)
  rintro _ rfl
  refine iB .eql 58 (.agg #[.bool false, .int .u64 (hiW (n)), .int .u64 (loW (n)), .int .i64 1]) (.agg #[.bool false, .int .u64 (hiW (n)), .int .u64 (loW (n)), .int .i64 1]) (some 89) ?_
  intro c89 hc89
  try simp only [Array.mk.injEq, List.cons.injEq, Value.int.injEq, Value.bool.injEq, Value.string.injEq, true_and, and_true] at hc89
  refine iQ 2 (iE 91 [(0, .d (Uv ((n : Int)))), (2, Ba c89), (3, .d (Sv (tx (Lib.decDigits n)))), (4, .p 4 0), (6, .p 6 0), (8, .p 8 0), (10, .p 10 0), (12, .p 12 0), (15, Ba false)] [(4, [Bv false, Hw (n * 10), Lw (n * 10), Iv 0]), (6, [Bv false, Hw n, Lw n, Iv 0]), (8, [Bv false, Hw (n * 10), Lw (n * 10), Iv (-1)]), (10, [Bv false, Hw n, Lw n, Iv 1]), (12, [Bv false, Hw (n * 10), Lw (n * 10), Iv 0])] ?_)
  refine vc_ret (iR (Bv c89) ?_)
  rw [hc89.2 (by simp)]
end Go.Proofs.YtjpaedjhihiakaaDoor
