/-
  Texts as lists of bytes: signs at places. strings.Cut at a sign of one byte, TrimPrefix, TrimLeft, Trim, strconv.Atoi, wide.Read: as what reads so, of lists of bytes.
-/
import Derived.Test.YtpambeengdhhmaaGreatDoorTxS
import Derived.Test.YtpambeengdhhmaaGreatDoorRed
import Derived.Test.YtpambeengdhhmaaGreatDoorNrP
import Derived.Test.YtpambeengdhhmaaGreatDoorLayZ
import Derived.Test.YtpambeengdhhmaaGreatDoorIto
namespace Go.Proofs.YtpambeengdhhmaaGreatDoor

open Go.RowKit
set_option linter.unusedVariables false
set_option linter.unusedSimpArgs false
set_option maxRecDepth 100000

theorem bAt_tx (l : L8) (k : Nat) : bAt (tx l) k = ((l[k]?).getD 0).toNat := by simp [bAt, tx]
theorem isD_tx {l : L8} {k : Nat} {c : UInt8} (h : l[k]? = some c) : isD (tx l) k ↔ isDg c = true := by
  unfold isD
  rw [bAt_tx, h, isDg_iff]
  rfl
theorem strAt_tx {l : L8} {k : Nat} {c : UInt8} (h : l[k]? = some c) : strAt (tx l) k = (c.toNat : Int) := by rw [tx_at, h]; rfl
theorem bempty (l : L8) : tx l = ⟨#[]⟩ ↔ l = [] := by rw [← tx_nil, tx_iff]
theorem at0_tx {l : L8} {z : Int} {c : UInt8} (h : l ≠ []) (hz : z = strAt (tx l) 0) : z = (c.toNat : Int) ↔ l.head? = some c := by
  cases l with
  | nil => exact absurd rfl h
  | cons x r =>
    rw [hz, strAt_tx (l := x :: r) (k := 0) (c := x) rfl]
    simp only [List.head?_cons, Option.some.injEq]
    constructor
    · intro e; exact UInt8.toNat_inj.1 (by omega)
    · rintro rfl; rfl
theorem tail_tx {l : L8} {s : ByteArray} (hs : s = (tx l).extract 1 (tx l).size) : s = tx l.tail := by
  rw [hs, tx_extract, tx_size, ← List.drop_one, List.take_of_length_le (by rw [List.length_drop]; omega)]
theorem drop_tx {l : L8} {s : ByteArray} {k : Nat} (hs : s = (tx l).extract k (tx l).size) : s = tx (l.drop k) := by
  rw [hs, tx_extract, tx_size, List.take_of_length_le (by rw [List.length_drop]; exact Nat.le_refl _)]
theorem all_not {l : L8} {k : Nat} {c : UInt8} (h : l[k]? = some c) (hc : isDg c = false) : ¬ l.all isDg = true := fun ha => by
  have := List.all_eq_true.1 ha c (List.mem_of_getElem? h)
  rw [hc] at this
  cases this
theorem take_snoc_all {l : L8} {k : Nat} {c : UInt8} (h : l[k]? = some c) (ha : (l.take k).all isDg = true) (hc : isDg c = true) : (l.take (k + 1)).all isDg = true := by
  obtain ⟨hk, e⟩ := List.getElem?_eq_some_iff.1 h
  rw [List.take_succ_eq_append_getElem hk, e, List.all_append, ha]
  simp [hc]


open Go.Shelf Go.RowKit
set_option linter.unusedVariables false
set_option linter.unusedSimpArgs false
set_option maxRecDepth 100000

theorem take_tx {l : L8} {s : ByteArray} {k : Nat} (hs : s = (tx l).extract 0 k) : s = tx (l.take k) := by
  rw [hs, tx_extract]
  rfl
-- Cut
theorem ixB_eq (c : UInt8) : ∀ l : L8, Lib.indexByte l c = if idxC c l < l.length then (idxC c l : Int) else -1
  | [] => rfl
  | x :: l => by
    have ih := ixB_eq c l
    unfold Lib.indexByte idxC
    by_cases h : x = c
    · subst h
      simp
    · have h1 : (x == c) = false := by simpa using h
      simp only [h1, if_neg h, ih, List.length_cons, Nat.add_lt_add_iff_right]
      by_cases h2 : idxC c l < l.length
      · have h3 : ((idxC c l : Int) == -1) = false := by
          rw [beq_eq_false_iff_ne]
          omega
        simp [h2, h3]
      · simp [h2]
theorem c_IxB {l : L8} {c : UInt8} {z : Int} (hz : z = (c.toNat : Int)) : HasC Tryz.prog 169 [.v (.string (tx l)), .v (.int .u8 z)] (fun y => y = .v (.int .i64 (if idxC c l < l.length then (idxC c l : Int) else -1))) :=
  (HasC.ofCallsK (vs := [.string (tx l), .int .u8 z]) (R := fun r => r = .int .i64 (if idxC c l < l.length then (idxC c l : Int) else -1)) (fun args w => Tryz.call169 args w) ⟨_, rfl⟩ rfl fun w hk =>
    (Any.stringslite_IndexByte laysIxB (tx l) z w).mono fun e w' ⟨he, hw⟩ => ⟨_, he, by rw [hz, Int.toNat_natCast, show c.toNat.toUInt8 = c by simp, ← ixB_eq]; rfl, by rw [hw]; exact Below.refl _ _⟩).mono fun y ⟨r, hr, hy⟩ => by rw [hy, hr]; rfl
theorem c_Ix1 {l : L8} {c : UInt8} : HasC Tryz.prog 132 [.v (.string (tx l)), .v (.string (tx [c]))] (fun y => y = .v (.int .i64 (if idxC c l < l.length then (idxC c l : Int) else -1))) := by
 refine HasC.of [] (fn := Tryz.f132) tyOk mixed (fun args w => Tryz.call132 args w) Tryz.func132 rfl (by kernel_rfl) (Nat.le_of_ble_eq_true rfl) (⟨_, rfl⟩) ?_
 refine vc_seqr rfl (iQ 1 (iE 143 [(0, .d (Sv (tx l))), (1, .d (Sv (tx [c]))), (4, Ia 0)] [] ?_))
 refine vc_seqr rfl (iQ 1 (iL .len [9] [.string (tx [c])] (some 15) ?_))
 intro n15 hn15
 have e15 : n15 = 1 := by rw [hn15]; exact tx_size [c]
 refine iQ 1 (iE 143 [(0, .d (Sv (tx l))), (1, .d (Sv (tx [c]))), (4, Ia 0), (5, Ia ((n15 : Nat)))] [] ?_)
 refine vc_seq (vc_block (vc_seqr rfl (iQ 1 (iB .eql 3 (.int .i64 ((n15 : Nat))) (.int .i64 0) (some 18) ?_))))
 intro c18 hc18
 refine iQ 1 ?_
 obtain rfl : c18 = false := bff hc18 (by omega)
 refine iQ 2 (iB .eql 9 (.string (tx [c])) (.string (tx l)) (some 22) ?_)
 intro c22 hc22
 refine iQ 2 (iE 143 [(0, .d (Sv (tx l))), (1, .d (Sv (tx [c]))), (4, Ia 0), (5, Ia ((n15 : Nat))), (16, Ba c22)] [] ?_)
 cases c22
 ·replace hc22 := bf hc22
  refine iF (vc_seqr rfl (iQ 1 (iB .eql 3 (.int .i64 ((n15 : Nat))) (.int .i64 1) (some 26) ?_)))
  intro c26 hc26
  refine iQ 1 (iE 143 [(0, .d (Sv (tx l))), (1, .d (Sv (tx [c]))), (4, Ia 0), (5, Ia ((n15 : Nat))), (16, Ba false), (24, Ba c26)] [] ?_)
  obtain rfl : c26 = true := hc26.2 (by omega)
  refine iT (vc_seqr rfl (iQ 2 (iX 9 (.string (tx [c])) (.int .i64 0) (some 29) ?_)))
  refine And.intro (by rw [tx_size, List.length_singleton]; omega) ?_
  intro z29 hz29
  refine iC 169 [Sv (tx l), .v (.int .u8 z29)] (some 30) (c_IxB (c := c) (z := z29) (by rw [hz29]; exact strAt_tx rfl)) ?_
  rintro _ rfl
  refine iQ 1 (iE 143 [(0, .d (Sv (tx l))), (1, .d (Sv (tx [c]))), (4, Ia (if idxC c l < l.length then (idxC c l : Int) else -1)), (5, Ia ((n15 : Nat))), (16, Ba false), (24, Ba true)] [] ?_)
  refine vc_ret (block_r (seq_r (iR (Iv (if idxC c l < l.length then (idxC c l : Int) else -1)) ?_)))
  rfl
 ·replace hc22 := bt hc22
  refine iT (vc_seqr rfl (iQ 1 (iE 143 [(0, .d (Sv (tx l))), (1, .d (Sv (tx [c]))), (4, Ia 0), (5, Ia ((n15 : Nat))), (16, Ba true)] [] ?_)))
  refine vc_ret (block_r (seq_r (iR (Iv 0) ?_)))
  have hl : l = [c] := (tx_inj hc22).symm
  rw [hl, if_pos (by simp [idxC])]; simp [idxC]
theorem c_Ix1E {l : L8} {c : UInt8} {i : Int} (h : i = if idxC c l < l.length then (idxC c l : Int) else -1) : HasC Tryz.prog 132 [.v (.string (tx l)), .v (.string (tx [c]))] (fun y => y = .v (.int .i64 i)) := by subst h; exact c_Ix1
theorem c_Cut1 {l : L8} {c : UInt8} (hL : l.length ≤ 9223372036854775806) : HasC Tryz.prog 87 [.v (.string (tx l)), .v (.string (tx [c]))] (fun y => y = .tup [.v (.string (tx (cutL c l).1)), .v (.string (tx (cutL c l).2.1)), .v (.bool (cutL c l).2.2)]) := by
 refine HasC.of [] (fn := Tryz.f87) tyOk mixed (fun args w => Tryz.call87 args w) Tryz.func87 rfl (by kernel_rfl) (Nat.le_of_ble_eq_true rfl) (⟨_, rfl⟩) ?_
 obtain ⟨i, hi⟩ : ∃ i : Int, i = if idxC c l < l.length then (idxC c l : Int) else -1 := ⟨_, rfl⟩
 refine vc_seqr rfl (iQ 3 (iE 23 [(0, .d (Sv (tx l))), (1, .d (Sv (tx [c]))), (4, .d (Sv (⟨#[]⟩))), (5, .d (Sv (⟨#[]⟩))), (6, Ba false)] [] ?_))
 refine vc_seq (vc_seqr rfl (iQ 2 (iC 132 [Sv (tx l), Sv (tx [c])] (some 10) (c_Ix1E (l := l) (c := c) hi) ?_)))
 rintro _ rfl
 refine iQ 1 (iE 23 [(0, .d (Sv (tx l))), (1, .d (Sv (tx [c]))), (4, .d (Sv (⟨#[]⟩))), (5, .d (Sv (⟨#[]⟩))), (6, Ba false), (7, Ia i)] [] ?_)
 refine vc_seqr rfl (iQ 1 (iB .geq 3 (.int .i64 i) (.int .i64 0) (some 12) ?_))
 intro c12 hc12
 refine iE 23 [(0, .d (Sv (tx l))), (1, .d (Sv (tx [c]))), (4, .d (Sv (⟨#[]⟩))), (5, .d (Sv (⟨#[]⟩))), (6, Ba false), (7, Ia i), (12, Ba c12)] [] ?_
 cases c12
 ·replace hc12 := bf hc12
  have hlt : ¬ idxC c l < l.length := fun h => by rw [if_pos h] at hi; omega
  refine iF (vc_skip (seq_n (vc_seqr rfl (iQ 4 (iE 23 [(0, .d (Sv (tx l))), (1, .d (Sv (tx [c]))), (4, .d (Sv (tx l))), (5, .d (Sv (⟨#[]⟩))), (6, Ba false), (7, Ia i), (12, Ba false)] [] ?_)))))
  refine vc_ret (iS (Sv (tx l)) (Sv (⟨#[]⟩)) [Bv false] ?_)
  rw [cutL, if_neg hlt]; rfl
 ·replace hc12 := bt hc12
  have hlt : idxC c l < l.length := by apply Classical.byContradiction; intro h; rw [if_neg h] at hi; omega
  rw [if_pos hlt] at hi
  refine iT (vc_seqr rfl (iQ 2 (iY 9 (tx l) (0) (i) (some 15) ?_)))
  refine And.intro (by rw [tx_size]; omega) ?_
  intro s15 hs15
  have e15 : s15 = tx (l.take (idxC c l)) := take_tx (by rw [hs15, hi]; rfl)
  refine iQ 3 (iL .len [9] [.string (tx [c])] (some 19) ?_)
  intro n19 hn19
  have e19 : n19 = 1 := by rw [hn19]; exact tx_size [c]
  refine iB .add 3 (.int .i64 i) (.int .i64 ((n19 : Nat))) (some 20) ?_
  intro z20 hz20
  try replace hz20 := hz20.i64 (by omega)
  refine iY 9 (tx l) (z20) (((tx l : ByteArray).size : Int)) (some 21) ?_
  refine And.intro (by rw [tx_size]; omega) ?_
  intro s21 hs21
  have e21 : s21 = tx (l.drop (idxC c l + 1)) := drop_tx (by rw [hs21, show z20.toNat = idxC c l + 1 by omega, Int.toNat_natCast])
  refine iQ 3 (iE 23 [(0, .d (Sv (tx l))), (1, .d (Sv (tx [c]))), (4, .d (Sv s15)), (5, .d (Sv s21)), (6, Ba true), (7, Ia i), (12, Ba true)] [] ?_)
  refine vc_ret (seq_r (iS (Sv s15) (Sv s21) [Bv true] ?_))
  rw [e15, e21, cutL, if_pos hlt]
theorem c_Cut1E {l a b : L8} {c : UInt8} {g : Bool} (h : cutL c l = (a, b, g)) (hL : l.length ≤ 9223372036854775806) : HasC Tryz.prog 87 [.v (.string (tx l)), .v (.string (tx [c]))] (fun y => y = .tup [.v (.string (tx a)), .v (.string (tx b)), .v (.bool g)]) := by
  have k := c_Cut1 (l := l) (c := c) hL
  rwa [h] at k
theorem c_CutE {l a b : L8} {c : UInt8} {g : Bool} (h : cutL c l = (a, b, g)) (hL : l.length ≤ 9223372036854775806) : HasC Tryz.prog 53 [.v (.string (tx l)), .v (.string (tx [c]))] (fun y => y = .tup [.v (.string (tx a)), .v (.string (tx b)), .v (.bool g)]) := by
 refine HasC.of [] (fn := Tryz.f53) tyOk mixed (fun args w => Tryz.call53 args w) Tryz.func53 rfl (by kernel_rfl) (Nat.le_of_ble_eq_true rfl) (⟨_, rfl⟩) ?_
 refine vc_seqr rfl (iQ 3 (iE 13 [(0, .d (Sv (tx l))), (1, .d (Sv (tx [c]))), (4, .d (Sv (⟨#[]⟩))), (5, .d (Sv (⟨#[]⟩))), (6, Ba false)] [] ?_))
 refine vc_seqr rfl (iQ 2 (iC 87 [Sv (tx l), Sv (tx [c])] (some 9) (c_Cut1E h hL) ?_))
 rintro _ rfl
 refine iQ 6 (iE 13 [(4, .d (Sv (tx a))), (5, .d (Sv (tx b))), (6, Ba g)] [] ?_)
 refine vc_ret (iS (Sv (tx a)) (Sv (tx b)) [Bv g] ?_)
 rfl

-- TrimPrefix of one sign
def trimP (c : UInt8) (l : L8) : L8 := if l.head? = some c then l.tail else l
theorem one_tx {l : L8} {c : UInt8} (h : l ≠ []) : (tx l).extract 0 1 = tx [c] ↔ l.head? = some c := by
  rw [tx_extract, tx_iff]
  cases l with
  | nil => exact absurd rfl h
  | cons c r => simp
theorem c_hasP {l : L8} {c : UInt8} : HasC Tryz.prog 138 [.v (.string (tx l)), .v (.string (tx [c]))] (fun r => ∃ b, r = .v (.bool b) ∧ (b = true ↔ l.head? = some c)) := by
 refine HasC.of [] (fn := Tryz.f138) tyOk mixed (fun args w => Tryz.call138 args w) Tryz.func138 rfl (by kernel_rfl) (Nat.le_of_ble_eq_true rfl) (⟨_, decide (l.head? = some c), rfl, by simp⟩) ?_
 refine vc_seqr rfl (iQ 1 (iE 18 [(0, .d (Sv (tx l))), (1, .d (Sv (tx [c]))), (4, Ba false)] [] ?_))
 refine vc_seqr rfl (iQ 1 (iL .len [9] [.string (tx l)] (some 6) ?_))
 intro n6 hn6
 have e6 : n6 = l.length := by rw [hn6]; exact tx_size l
 refine iQ 1 (iL .len [9] [.string (tx [c])] (some 8) ?_)
 intro n8 hn8
 have e8 : n8 = 1 := by rw [hn8]; exact tx_size [c]
 refine iB .geq 3 (.int .i64 ((n6 : Nat))) (.int .i64 ((n8 : Nat))) (some 9) ?_
 intro c9 hc9
 refine iQ 1 ?_
 cases c9
 ·replace hc9 := bf hc9
  refine iQ 8 (iE 18 [(4, Ba false)] [] ?_)
  have h0 : l = [] := List.eq_nil_of_length_eq_zero (by omega)
  refine vc_ret (iR (Bv false) ?_)
  subst h0; exact ⟨_, rfl, by simp⟩
 ·replace hc9 := bt hc9
  refine iQ 2 (iL .len [9] [.string (tx [c])] (some 13) ?_)
  intro n13 hn13
  have e13 : n13 = 1 := by rw [hn13]; exact tx_size [c]
  refine iY 9 (tx l) (0) ((n13 : Nat)) (some 14) ?_
  refine And.intro (by rw [tx_size]; omega) ?_
  intro s14 hs14
  have hl14 := sz_ext hs14 (by rw [tx_size]; omega)
  refine iQ 1 (iB .eql 9 (.string s14) (.string (tx [c])) (some 16) ?_)
  intro c16 hc16
  refine iQ 2 (iE 18 [(4, Ba c16)] [] ?_)
  refine vc_ret (iR (Bv c16) ?_)
  exact ⟨_, rfl, by rw [hc16, hs14, e13]; exact one_tx (fun e => by rw [e] at e6; simp at e6; omega)⟩
theorem c_trimL {l : L8} {c : UInt8} : HasC Tryz.prog 90 [.v (.string (tx l)), .v (.string (tx [c]))] (fun r => r = .v (.string (tx (trimP c l)))) := by
 refine HasC.of [] (fn := Tryz.f90) tyOk mixed (fun args w => Tryz.call90 args w) Tryz.func90 rfl (by kernel_rfl) (Nat.le_of_ble_eq_true rfl) (⟨_, rfl⟩) ?_
 refine vc_seqr rfl (iQ 1 (iE 13 [(0, .d (Sv (tx l))), (1, .d (Sv (tx [c]))), (4, .d (Sv (⟨#[]⟩)))] [] ?_))
 refine vc_seq (vc_seqr rfl (iQ 2 (iC 138 [Sv (tx l), Sv (tx [c])] (some 7) (c_hasP) ?_)))
 rintro _ ⟨b, rfl, hb⟩
 refine iE 13 [(0, .d (Sv (tx l))), (1, .d (Sv (tx [c]))), (4, .d (Sv (⟨#[]⟩))), (7, Ba b)] [] ?_
 cases b
 ·replace hb := bf hb
  refine iF (vc_skip (seq_n (vc_seqr rfl (iQ 2 (iE 13 [(0, .d (Sv (tx l))), (1, .d (Sv (tx [c]))), (4, .d (Sv (tx l))), (7, Ba false)] [] ?_)))))
  refine vc_ret (iR (Sv (tx l)) ?_)
  rw [trimP, if_neg hb]
 ·replace hb := bt hb
  refine iT (vc_seqr rfl (iQ 2 (iL .len [9] [.string (tx [c])] (some 10) ?_)))
  intro n10 hn10
  have e10 : n10 = 1 := by rw [hn10]; exact tx_size [c]
  have hl : 1 ≤ l.length := by cases l with | nil => cases hb | cons c r => simp
  refine iY 9 (tx l) ((n10 : Nat)) (((tx l : ByteArray).size : Int)) (some 11) ?_
  refine And.intro (by rw [tx_size]; omega) ?_
  intro s11 hs11
  have hl11 := sz_ext hs11 (by rw [tx_size]; omega)
  refine iQ 1 (iE 13 [(0, .d (Sv (tx l))), (1, .d (Sv (tx [c]))), (4, .d (Sv s11)), (7, Ba true)] [] ?_)
  refine vc_ret (seq_r (iR (Sv s11) ?_))
  rw [tail_tx (l := l) (s := s11) (by rw [hs11, e10, Int.toNat_natCast, Int.toNat_natCast]), trimP, if_pos hb]
theorem c_trim {l : L8} {c : UInt8} : HasC Tryz.prog 55 [.v (.string (tx l)), .v (.string (tx [c]))] (fun r => r = .v (.string (tx (trimP c l)))) := by
 refine HasC.of [] (fn := Tryz.f55) tyOk mixed (fun args w => Tryz.call55 args w) Tryz.func55 rfl (by kernel_rfl) (Nat.le_of_ble_eq_true rfl) (⟨_, rfl⟩) ?_
 refine vc_seqr rfl (iQ 1 (iE 8 [(0, .d (Sv (tx l))), (1, .d (Sv (tx [c]))), (4, .d (Sv (⟨#[]⟩)))] [] ?_))
 refine vc_seqr rfl (iQ 2 (iC 90 [Sv (tx l), Sv (tx [c])] (some 7) (c_trimL) ?_))
 rintro _ rfl
 refine iQ 1 (iE 8 [(4, .d (Sv (tx (trimP c l))))] [] ?_)
 refine vc_ret (iR (Sv (tx (trimP c l))) ?_)
 rfl

-- TrimLeft, Trim of noughts
theorem c_TrimL0 {l : L8} {s : ByteArray} (hs : s = tx l) : HasC Tryz.prog 56 [.v (.string s), .v (.string ⟨#[48]⟩)] (fun y => y = .v (.string (tx (lz l)))) := by
  subst hs
  exact (HasC.ofCallsK (vs := [.string (tx l), .string ⟨#[48]⟩]) (R := fun r => r = .string (tx (lz l))) (fun args w => Tryz.call56 args w) ⟨_, rfl⟩ rfl fun w hk =>
    (Any.strings_TrimLeft_one laysTrimL (tx l) 48 (by decide) w).mono fun e w' ⟨he, hw⟩ => ⟨_, he, rfl, by rw [hw]; exact Below.refl _ _⟩).mono fun y ⟨r, hr, hy⟩ => by rw [hy, hr]; rfl
theorem trimB_nil (l : L8) : Lib.trimB l 48 = [] ↔ l.all (· == 48) = true := by
  have hw : ∀ m : L8, m.dropWhile (· == (48 : UInt8)) = [] ↔ m.all (· == 48) = true := fun m => by
    induction m with
    | nil => simp
    | cons x r ih =>
      rw [List.dropWhile_cons, List.all_cons]
      by_cases hx : (x == 48) = true
      · rw [if_pos hx, ih, hx, Bool.true_and]
      · rw [if_neg hx]
        simp only [hx, Bool.false_and]
        simp
  unfold Lib.trimB Lib.trimLeftB Lib.trimRightB
  rw [hw]
  constructor
  · intro h
    rw [← List.all_reverse, ← hw]
    apply Classical.byContradiction
    intro hn
    obtain ⟨x, r, hx⟩ : ∃ x r, l.reverse.dropWhile (· == (48 : UInt8)) = x :: r := by
      cases hd : l.reverse.dropWhile (· == (48 : UInt8)) with
      | nil => exact absurd hd hn
      | cons x r => exact ⟨x, r, rfl⟩
    have h1 := List.head?_dropWhile_not (p := (· == (48 : UInt8))) l.reverse
    rw [hx] at h1 h
    simp only [List.head?_cons] at h1
    rw [List.all_reverse, List.all_cons, Bool.and_eq_true] at h
    have h2 := h.1
    rw [h1] at h2
    cases h2
  · intro h
    have : l.reverse.dropWhile (· == (48 : UInt8)) = [] := by rw [hw, List.all_reverse]; exact h
    rw [this]
    rfl
theorem c_Trim0 {l : L8} {s : ByteArray} (hs : s = tx l) (hL : l.length ≤ 9223372036854775807) : HasC Tryz.prog 57 [.v (.string s), .v (.string ⟨#[48]⟩)] (fun y => ∃ t : L8, y = .v (.string (tx t)) ∧ (t = [] ↔ l.all (· == 48) = true)) := by
  subst hs
  exact (HasC.ofCallsK (vs := [.string (tx l), .string ⟨#[48]⟩]) (R := fun r => r = .string (tx (Lib.trimB l 48))) (fun args w => Tryz.call57 args w) ⟨_, rfl⟩ rfl fun w hk =>
    (Any.strings_Trim_one laysTrim (tx l) 48 (by decide) w (by rw [tx_size]; exact hL)).mono fun e w' ⟨he, hw⟩ => ⟨_, he, rfl, by
      rcases hw with rfl | rfl
      · exact Below.refl _ _
      · exact (Below.refl _ _).drew⟩).mono fun y ⟨r, hr, hy⟩ => ⟨_, by rw [hy, hr]; rfl, trimB_nil l⟩

-- Atoi
theorem pu10 : ∀ (l : L8) (a k : Nat), l.all isDg = true → a < 10 ^ k → k + l.length ≤ 18 → Lib.parseUint10 a l = .ok (nvA a l)
  | [], a, k, h, _, _ => rfl
  | c :: l, a, k, h, h1, h2 => by
    simp only [List.all_cons, Bool.and_eq_true] at h
    have hc := isDg_iff.1 h.1
    simp only [List.length_cons] at h2
    have h3 : 10 ^ k ≤ 10 ^ 17 := Nat.pow_le_pow_right (by decide) (by omega)
    have h4 : a * 10 + (c.toNat - 48) < 10 ^ (k + 1) := by rw [Nat.pow_succ]; omega
    have h5 : 10 ^ (k + 1) ≤ 10 ^ 18 := Nat.pow_le_pow_right (by decide) (by omega)
    unfold Lib.parseUint10
    rw [if_pos hc, if_neg (by omega), if_neg (by omega)]
    exact pu10 l _ (k + 1) h.2 h4 (by omega)
theorem pmag {l : L8} (h : l.all isDg = true) (h0 : l ≠ []) (hl : l.length ≤ 6) : Lib.parseMag l = .ok (nvL l) ∧ nvL l < 1000000 := by
  unfold Lib.parseMag
  rw [if_neg h0]
  exact ⟨pu10 l 0 0 h (by decide) (by omega), nvL_lt h hl⟩
theorem atoi_exp {e : L8} (h1 : digsB (signP e) = true) (h2 : (signP e).length ≤ 6) : Lib.atoiAll (trimP 43 e) = .ok (expS e) := by
  obtain ⟨h3, h4⟩ := digsB_iff.1 h1
  obtain ⟨m1, m2⟩ := pmag h4 h3 h2
  cases e with
  | nil => exact absurd rfl h3
  | cons c r =>
    by_cases hp : c = 43
    · subst hp
      have hs : signP (43 :: r) = r := by simp [signP]
      have ht : trimP 43 (43 :: r) = r := by simp [trimP]
      rw [hs] at h3 h4 m1 m2
      rw [ht, expS, hs, if_neg (by simp)]
      cases r with
      | nil => exact absurd rfl h3
      | cons d q =>
        have hd : isDg d = true := by simp only [List.all_cons, Bool.and_eq_true] at h4; exact h4.1
        have hd2 := isDg_iff.1 hd
        unfold Lib.atoiAll
        simp only
        rw [if_neg (by omega), m1]
        simp only
        rw [if_neg (by omega), if_neg (by omega), if_neg (by omega)]
    · have ht : trimP 43 (c :: r) = c :: r := by simp [trimP, hp]
      rw [ht]
      by_cases hm : c = 45
      · subst hm
        have hs : signP (45 :: r) = r := by simp [signP]
        rw [hs] at h3 h4 m1 m2
        rw [expS, hs, if_pos (by simp)]
        unfold Lib.atoiAll
        simp only
        rw [if_pos (by decide), m1]
        simp only
        rw [if_neg (by simp), if_neg (by omega), if_pos (by decide)]
      · have hs : signP (c :: r) = c :: r := by simp [signP, hp, hm]
        rw [hs] at h3 h4 m1 m2
        have hd : isDg c = true := by simp only [List.all_cons, Bool.and_eq_true] at h4; exact h4.1
        have hd2 := isDg_iff.1 hd
        rw [expS, hs, if_neg (by simp [hm])]
        unfold Lib.atoiAll
        simp only
        rw [if_neg (by omega), m1]
        simp only
        rw [if_neg (by omega), if_neg (by omega), if_neg (by omega)]
theorem Kw.errSyn {w : World} (h : Kw w) : ∃ ev, w.cell? ⟨3, 0, none⟩ = some ev ∧ (ev = .nilIface ∨ ∃ te pe, ev = .iface te pe) := by
  rcases h.syn with h | ⟨cs, h1, t, p, rfl⟩
  · have h2 : (Tryz.prog.globalNamed "strconv.ErrSyntax").isSome = true := by kernel_rfl
    rw [h] at h2
    cases h2
  · have := World.var?_cell (show Tryz.prog.globalNamed "strconv.ErrSyntax" = some 3 by kernel_rfl) h1 0
    exact ⟨.iface t p, by rw [this]; rfl, .inr ⟨t, p, rfl⟩⟩
theorem c_Atoi {e : L8} {v : Int} (h : e = [] ∧ v = 0 ∨ Lib.atoiAll e = .ok v ∧ e.length ≤ 100) : HasC Tryz.prog 54 [.v (.string (tx e))] (fun y => ∃ x : Value, y = .tup [.v (.int .i64 v), .v x]) :=
  (HasC.ofCallsK (vs := [.string (tx e)]) (R := fun r => r = .tuple #[.int .i64 v, .nilIface] ∨ ∃ t p, r = .tuple #[.int .i64 v, .iface t p]) (fun args w => Tryz.call54 args w) ⟨_, .inl rfl⟩ rfl fun w hk => by
    rcases h with ⟨rfl, rfl⟩ | ⟨h, hl⟩
    · obtain ⟨ev, h1, h2⟩ := hk.errSyn
      exact (Any.strconv_Atoi_syntax laysAtoi (tx []) (by rw [tx_size]; decide) rfl ev w h1 h2).mono fun e w' ⟨N, he, _, _, hb⟩ => ⟨_, he, .inr ⟨_, _, rfl⟩, hb⟩
    · exact (Any.strconv_Atoi_ok laysAtoi (tx e) (by rw [tx_size]; omega) v h w).mono fun e w' ⟨he, hw⟩ => ⟨_, he, .inl rfl, by
        rcases hw with rfl | ⟨t, rfl⟩
        · exact Below.refl _ _
        · exact Lib.bytesWorld_below _ _ _⟩).mono fun y ⟨r, hr, hy⟩ => by
      rcases hr with hr | ⟨t, p, hr⟩
      · exact ⟨.nilIface, by rw [hy, hr]; rfl⟩
      · exact ⟨.iface t p, by rw [hy, hr]; rfl⟩

-- wide.Read
theorem pv_tx {l : L8} : ∀ k, k ≤ l.length → pv (tx l) k = nvL (l.take k)
  | 0, h => rfl
  | k + 1, h => by
    have hg := List.getElem?_eq_getElem (show k < l.length by omega)
    rw [pv, pv_tx k (by omega), nvL_take hg, bAt_tx, hg]
    rfl
theorem c_wRead {l : L8} {s : ByteArray} (hs : s = tx l) (hd : l.all isDg = true) (h0 : l ≠ []) (hl : l.length ≤ 38) : HasC Tryz.prog 58 [.v (.string s)] (fun y => y = .tup [dU (nvL l), .v (.bool true)]) := by
  subst hs
  have hpv : pv (tx l) (tx l).size = nvL l := by rw [tx_size, pv_tx _ (Nat.le_refl _), List.take_length]
  have hok : RdOk (tx l) := by
    refine ⟨⟨by rw [tx_size]; exact List.length_pos_iff.2 h0, fun k hk => ?_⟩, ?_⟩
    · rw [tx_size] at hk
      have hg := List.getElem?_eq_getElem hk
      rw [isD_tx hg]
      exact List.all_eq_true.1 hd _ (List.mem_of_getElem? hg)
    · rw [hpv]
      exact Nat.lt_trans (nvL_lt hd hl) (by decide)
  exact c_Read.mono fun r ⟨b, hr, hb⟩ => by rw [hr, hb.2 hok, rdV, if_pos hok, hpv]
end Go.Proofs.YtpambeengdhhmaaGreatDoor
