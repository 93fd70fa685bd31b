/-
  casuistlaw12: awake; EqualTruths.
-/
import Derived.Test.YtpambeengdhhmaaGreatDoorVlY
import Derived.Test.YtpambeengdhhmaaGreatDoorNrW
namespace Go.Proofs.YtpambeengdhhmaaGreatDoor
open Go.RowKit
set_option linter.unusedVariables false
set_option linter.unusedSimpArgs false
set_option maxRecDepth 100000

theorem c_nReadE' {l : L8} {s : ByteArray} {g : Bool} {k : Nat} {x : Int} {ok : Bool} (hs : s = tx l) (hT : readT l = (g, k, x, ok)) (hL : l.length ≤ 1000000000000000) : HasC Tryz.prog 31 [.v (.string s)] (fun y => y = .tup [dDec g k x, .v (.bool ok)]) := c_nReadE hs hT hL
theorem c_vTextE {l : L8} {s : ByteArray} (hs : s = tx l) (h : Lib.validD l = true ∧ l.length ≤ 1048576) : HasC Tryz.prog 34 [.v (.string s)] (fun r => r = VV (.text l)) := by
  subst hs
  have := c_vText (l := l) (Nat.le_trans h.2 (by decide))
  rwa [textV, if_pos h] at this
theorem c_vNumE {g : Bool} {n : Nat} {e : Int} (h : May g n e) : HasC Tryz.prog 33 [dDec g n e] (fun r => r = VV (.num g n e)) := by
  have := c_vNum (g := g) (e := e) (Nat.lt_trans h.1 e34_lt)
  rwa [numV, if_pos h] at this
theorem rel_sl2 {Im : Nat → Nat → Prop} {W : World} {a b a' b' : DV} {y : Value} (h1 : ∀ z, a.rel Im W z → a'.rel Im W z) (h2 : ∀ z, b.rel Im W z → b'.rel Im W z) (k : (DV.sl 2 [a, b]).rel Im W y) : (DV.sl 2 [a', b']).rel Im W y := by
  rw [DV.rel] at k ⊢
  rcases k with ⟨_, k, _⟩ | ⟨g, o, cap, e, k1, k2, k3⟩
  · cases k
  · refine .inr ⟨g, o, cap, e, k1, k2, ?_⟩
    simp only [DV.relC] at k3 ⊢
    obtain ⟨i1, ⟨u, c1, r1⟩, i2, ⟨u', c2, r2⟩, _⟩ := k3
    exact ⟨i1, ⟨u, c1, h1 _ r1⟩, i2, ⟨u', c2, h2 _ r2⟩, trivial⟩
theorem c_vList2 {v : Vl} : HasC Tryz.prog 32 [.sl 2 [.bx v.enc, .v .nilIface]] (fun r => r = VV (.list [v, .null])) := by
  have h := c_vList (vs := [v, .null]) (by simp)
  simp only [encL, List.length_cons, List.length_nil, Vl.enc] at h
  refine h.args fun Im W vs k => ?_
  rw [DV.relL] at k ⊢
  obtain ⟨u, us, e, k1, k2⟩ := k
  exact ⟨u, us, e, rel_sl2 (fun z hz => hz) (fun z hz => rel_bx rfl hz) k1, k2⟩
theorem c_vList2v {v w : Vl} : HasC Tryz.prog 32 [.sl 2 [.bx v.enc, .bx w.enc]] (fun r => r = VV (.list [v, w])) := by
  have h := c_vList (vs := [v, w]) (by simp)
  simp only [encL, List.length_cons, List.length_nil] at h
  exact h
theorem aw_read : readT [49, 46, 48] = (false, 10, -1, true) := readT_own (by decide) (by decide) (by decide) (by decide) (by decide) (by decide)
theorem aw_may : May false 10 (-1) := ⟨by decide, by decide, by decide, fun h => by cases h⟩
theorem ord_int (x y : Int) : ordV (intV x) (intV y) = some (cmpZ (decide (x < 0)) x.natAbs 0 (decide (y < 0)) y.natAbs 0) := rfl
theorem sgnV_absV (x : Int) : sgnV (decide (x < 0)) x.natAbs = x := by
  unfold sgnV
  split
  · rename_i h
    have : x < 0 := by simpa using h
    omega
  · rename_i h
    have : ¬ x < 0 := by simpa using h
    omega
theorem cmp_two (x y : Int) : cmpZ (decide (x < 0)) x.natAbs 0 (decide (y < 0)) y.natAbs 0 = cmpI x y := by
  rw [cmpZ_any (E := 0) (Int.le_refl _) (Int.le_refl _), V_own, V_own, sgnV_absV, sgnV_absV]
theorem ord_ints (x y : Int) : ordV (intV x) (intV y) = some (cmpI x y) := by rw [ord_int, cmp_two]
theorem aw_s1 : sameV (intV 1) (.num false 10 (-1)) = 2 := by
  show simpS (.num (decide ((1 : Int) < 0)) (1 : Int).natAbs 0) (.num false 10 (-1)) = 2
  unfold simpS ordV
  rw [if_neg (by simp [Vl.nullB])]
  have : cmpZ (decide ((1 : Int) < 0)) (1 : Int).natAbs 0 false 10 (-1) = 0 := by
    unfold cmpZ V
    decide
  simp only [this]
  rfl
theorem aw_s2 : sameV (intV 1) (.text [49]) = 0 := by
  show simpS (.num (decide ((1 : Int) < 0)) (1 : Int).natAbs 0) (.text [49]) = 0
  unfold simpS ordV
  rw [if_neg (by simp [Vl.nullB])]
theorem aw_s3 : sameV (.list [intV 1, .null]) (.list [intV 1, intV 2]) = 1 := by
  simp only [sameV, allV, List.length_cons, List.length_nil, if_true]
  rw [show ofI (intV 2).nullB = 1 from rfl]
  unfold andI
  rw [if_pos (.inr rfl)]
theorem aw_l : lessI (.text [97]) (intV 1) = 0 := rfl
theorem aw_rng : rangeV (intV 1) (intV 5) true false = .rng (intV 1) (intV 5) true false := by
  rw [rangeV, if_pos (by decide)]
  rfl
theorem within_rng (v lo hi : Vl) (p q : Bool) : withinI v (.rng lo hi p q) = if lo.kindI = 1 ∧ hi.kindI = 1 then 0 else highI (lowI v lo p) v hi q := by
  rw [withinI, if_pos (show (rngOf (.rng lo hi p q)).is = true from rfl)]
  rfl
theorem aw_w : withinI (intV 5) (.rng (intV 1) (intV 5) true false) = 1 := by
  rw [within_rng, if_neg (by decide), highI, if_neg (by decide)]
  have : endI false (intV 5) (intV 5) = 1 := by
    rw [endI, if_neg (by simp), lessI, ord_ints]
    rfl
  rw [this]
  unfold andI
  rw [if_pos (.inr rfl)]
theorem rng_okA : (Vl.rng (intV 1) (intV 5) true false).ok := by
  rw [← aw_rng]
  exact range_ok (int_ok (by decide) (by decide)) (int_ok (by decide) (by decide))
theorem okA (x : Int) (h : -1000 ≤ x ∧ x ≤ 1000) : (intV x).ok := int_ok (by omega) (by omega)
theorem okT (l : L8) (h : l.length ≤ 1000) : (Vl.text l).ok := by rw [Vl.ok]; omega
theorem okL2 {a b : Vl} (ha : a.ok) (hb : b.ok) : (Vl.list [a, b]).ok := by rw [Vl.ok]; exact ⟨by simp, by simp [okL, ha, hb]⟩
set_option maxHeartbeats 3200000 in
theorem c_awake12  : HasC Tryz.prog 8 [] (fun r => r = .v (.bool true)) := by
  refine HasC.of [] (fn := Tryz.f8) tyOk mixed (fun args w => Tryz.call8 args w) Tryz.func8 rfl (by kernel_rfl) (Nat.le_of_ble_eq_true rfl) (⟨_, rfl⟩) ?_
  refine vc_seqr rfl (iQ 1 (iE 57 [(0, Ba false)] [] ?_))
  refine vc_seqr rfl (iC 17 [Iv 1] (some 7) (c_vInt (x := 1) (by decide) (by decide)) ?_)
  rintro _ rfl
  refine iQ 2 (iE 57 [(0, Ba false), (1, .p 1 0)] [(1, [.bx (intV 1).enc])] ?_)
  refine vc_seqr rfl (iC 31 [Sv (⟨#[49, 46, 48]⟩)] (some 9) (c_nReadE' (l := [49, 46, 48]) (s := ⟨#[49, 46, 48]⟩) rfl aw_read (by decide)) ?_)
  rintro _ rfl
  refine iQ 6 (iE 57 [(0, Ba false), (1, .p 1 0), (2, .p 2 0)] [(1, [.bx (intV 1).enc]), (2, [Bv false, Hw 10, Lw 10, Iv (-1)])] ?_)
  refine vc_seqr rfl (iQ 3 (iC 32 [.sl 2 [.bx (intV 1).enc, .v (.nilIface)]] (some 15) (c_vList2 (v := intV 1)) ?_))
  rintro _ rfl
  refine iQ 2 (iE 57 [(0, Ba false), (1, .p 1 0), (2, .p 2 0), (4, .p 4 0)] [(1, [.bx (intV 1).enc]), (2, [Bv false, Hw 10, Lw 10, Iv (-1)]), (4, [.bx (Vl.list [intV 1, .null]).enc])] ?_)
  refine vc_seqr rfl (iQ 1 (iC 17 [Iv 2] (some 17) (c_vInt (x := 2) (by decide) (by decide)) ?_))
  rintro _ rfl
  refine iQ 1 (iC 32 [.sl 2 [.bx (intV 1).enc, .bx (intV 2).enc]] (some 19) (c_vList2v (v := intV 1) (w := intV 2)) ?_)
  rintro _ rfl
  refine iQ 2 (iE 57 [(0, Ba false), (1, .p 1 0), (2, .p 2 0), (4, .p 4 0), (5, .p 5 0)] [(1, [.bx (intV 1).enc]), (2, [Bv false, Hw 10, Lw 10, Iv (-1)]), (4, [.bx (Vl.list [intV 1, .null]).enc]), (5, [.bx (Vl.list [intV 1, intV 2]).enc])] ?_)
  refine vc_seqr rfl (iQ 1 (iC 17 [Iv 5] (some 21) (c_vInt (x := 5) (by decide) (by decide)) ?_))
  rintro _ rfl
  refine iQ 1 (iC 20 [.agg [.bx (intV 1).enc], .agg [.bx (intV 5).enc], .agg [Bv true, Bv false]] (some 23) (c_vRange (lo := intV 1) (hi := intV 5) (p := true) (q := false)) ?_)
  rintro _ rfl
  refine iQ 2 (iE 57 [(0, Ba false), (1, .p 1 0), (2, .p 2 0), (4, .p 4 0), (5, .p 5 0), (6, .p 6 0)] [(1, [.bx (intV 1).enc]), (2, [Bv false, Hw 10, Lw 10, Iv (-1)]), (4, [.bx (Vl.list [intV 1, .null]).enc]), (5, [.bx (Vl.list [intV 1, intV 2]).enc]), (6, [.bx (rangeV (intV 1) (intV 5) true false).enc])] ?_)
  refine vc_seqr rfl (iQ 2 (iC 33 [.agg [Bv false, Hw 10, Lw 10, Iv (-1)]] (some 26) (c_vNumE aw_may) ?_))
  rintro _ rfl
  refine iC 23 [.agg [.bx (intV 1).enc], .agg [.bx (Vl.num false 10 (-1)).enc]] (some 27) (c_Same (intV 1) (.num false 10 (-1)) (okA 1 (by decide)) (by rw [Vl.ok]; exact aw_may)) ?_
  rintro _ rfl
  refine iB .eql 23 (.int .i64 (sameV (intV 1) (.num false 10 (-1)))) (.int .i64 2) (some 28) ?_
  refine all_true (aw_s1) ?_
  refine iQ 2 (iC 34 [Sv (⟨#[49]⟩)] (some 31) (c_vTextE (l := [49]) (s := ⟨#[49]⟩) rfl (by decide)) ?_)
  rintro _ rfl
  refine iC 23 [.agg [.bx (intV 1).enc], .agg [.bx (Vl.text [49]).enc]] (some 32) (c_Same (intV 1) (.text [49]) (okA 1 (by decide)) (okT [49] (by decide))) ?_
  rintro _ rfl
  refine iB .eql 23 (.int .i64 (sameV (intV 1) (.text [49]))) (.int .i64 0) (some 33) ?_
  refine all_true (aw_s2) ?_
  refine iQ 4 (iC 23 [.agg [.bx (Vl.list [intV 1, .null]).enc], .agg [.bx (Vl.list [intV 1, intV 2]).enc]] (some 38) (c_Same (.list [intV 1, .null]) (.list [intV 1, intV 2]) (okL2 (okA 1 (by decide)) null_ok) (okL2 (okA 1 (by decide)) (okA 2 (by decide)))) ?_)
  rintro _ rfl
  refine iB .eql 23 (.int .i64 (sameV (.list [intV 1, .null]) (.list [intV 1, intV 2]))) (.int .i64 1) (some 39) ?_
  refine all_true (aw_s3) ?_
  refine iQ 2 (iC 34 [Sv (⟨#[97]⟩)] (some 42) (c_vTextE (l := [97]) (s := ⟨#[97]⟩) rfl (by decide)) ?_)
  rintro _ rfl
  refine iQ 1 (iC 35 [.agg [.bx (Vl.text [97]).enc], .agg [.bx (intV 1).enc]] (some 44) (c_Less (a := .text [97]) (b := intV 1) (okT [97] (by decide)) (okA 1 (by decide))) ?_)
  rintro _ rfl
  refine iB .eql 23 (.int .i64 (lessI (.text [97]) (intV 1))) (.int .i64 0) (some 45) ?_
  refine all_true (aw_l) ?_
  refine iQ 2 (iC 17 [Iv 5] (some 48) (c_vInt (x := 5) (by decide) (by decide)) ?_)
  rintro _ rfl
  refine iQ 1 (iC 21 [.agg [.bx (intV 5).enc], .agg [.bx (rangeV (intV 1) (intV 5) true false).enc]] (some 50) (c_Within (v := intV 5) (r := rangeV (intV 1) (intV 5) true false) (okA 5 (by decide)) (range_ok (okA 1 (by decide)) (okA 5 (by decide)))) ?_)
  rintro _ rfl
  refine iB .eql 23 (.int .i64 (withinI (intV 5) (rangeV (intV 1) (intV 5) true false))) (.int .i64 1) (some 51) ?_
  refine all_true ((by rw [aw_rng]; exact aw_w)) ?_
  refine iQ 2 (iC 11 [Iv 0, Iv 1] (some 54) (c_eAnd (x := 0) (y := 1)) ?_)
  rintro _ rfl
  refine iB .eql 23 (.int .i64 (andI 0 1)) (.int .i64 1) (some 55) ?_
  refine all_true ((by decide)) ?_
  refine iQ 2 (iE 57 [(0, Ba true), (1, .p 1 0), (2, .p 2 0), (4, .p 4 0), (5, .p 5 0), (6, .p 6 0)] [(1, [.bx (intV 1).enc]), (2, [Bv false, Hw 10, Lw 10, Iv (-1)]), (4, [.bx (Vl.list [intV 1, .null]).enc]), (5, [.bx (Vl.list [intV 1, intV 2]).enc]), (6, [.bx (rangeV (intV 1) (intV 5) true false).enc])] ?_)
  refine vc_ret (iR (Bv true) ?_)
  rfl
-- truths
theorem notnot {t : Int} (h : t = 0 ∨ t = 1 ∨ t = 2) : notI (notI t) = t := by rcases h with rfl | rfl | rfl <;> rfl
theorem and_assoc' {a b c : Int} (ha : a = 0 ∨ a = 1 ∨ a = 2) (hb : b = 0 ∨ b = 1 ∨ b = 2) (hc : c = 0 ∨ c = 1 ∨ c = 2) : andI a (andI b c) = andI (andI a b) c := by
  rcases ha with rfl | rfl | rfl <;> rcases hb with rfl | rfl | rfl <;> rcases hc with rfl | rfl | rfl <;> rfl
theorem null_truth {t : Int} {n c : Bool} (h : t = 0 ∨ t = 1 ∨ t = 2) (hn : n = true ↔ (truthV t).kindI = 1) (hc : c = true ↔ t = 0) : n = c := by
  rw [Bool.eq_iff_iff, hn, hc]
  rcases h with rfl | rfl | rfl <;> decide
theorem odd_not {x : Int} (h : x < 0 ∨ 2 < x) : notI x = 0 ∧ andI x 2 = 0 ∧ truthV x = .null := by
  refine ⟨by unfold notI; rw [if_neg (by omega), if_neg (by omega)], by unfold andI; rw [if_neg (by omega), if_neg (by omega)], by unfold truthV; rw [if_neg (by omega), if_neg (by omega)]⟩
theorem c_truth12 {n : Nat} (h : n < 256) : HasC Tryz.prog 9 [.v (.int .u8 ((n : Int)))] (fun r => ∃ t : Int, r = .v (.int .i64 t) ∧ (t = 0 ∨ t = 1 ∨ t = 2)) := by
  refine HasC.of [] (fn := Tryz.f9) tyOk mixed (fun args w => Tryz.call9 args w) Tryz.func9 rfl (by kernel_rfl) (Nat.le_of_ble_eq_true rfl) (⟨_, 0, rfl, .inl rfl⟩) ?_
  refine vc_seqr rfl (iQ 1 (iE 6 [(0, .d (.v (.int .u8 ((n : Int))))), (2, Ia 0)] [] ?_))
  refine vc_seqr rfl (iQ 1 (iB .rem 5 (.int .u8 ((n : Int))) (.int .u8 3) (some 4) ?_))
  refine And.intro (by omega) ?_
  intro z4 hz4
  have h4 : z4 = ((n % 3 : Nat) : Int) := by rw [hz4, Int.tmod_eq_emod_of_nonneg (by omega)]; omega
  refine iV 5 23 (.int .u8 z4) (some 5) ?_
  intro z5 hz5
  try replace hz5 := hz5.i64 (by omega)
  refine iQ 1 (iE 6 [(2, Ia z5)] [] ?_)
  refine vc_ret (iR (Iv z5) ?_)
  exact ⟨_, rfl, by omega⟩
set_option maxHeartbeats 3200000 in
theorem c_EqualTruths {p q r : Nat} {x : Int} (hp : p < 256) (hq : q < 256) (hr : r < 256) : HasC Tryz.prog 3 [.v (.int .u8 ((p : Int))), .v (.int .u8 ((q : Int))), .v (.int .u8 ((r : Int))), .v (.int .i64 x)] (fun r => r = .v (.bool true)) := by
  refine HasC.of [] (fn := Tryz.f3) tyOk mixed (fun args w => Tryz.call3 args w) Tryz.func3 rfl (by kernel_rfl) (Nat.le_of_ble_eq_true rfl) (⟨_, rfl⟩) ?_
  refine vc_seqr rfl (iQ 1 (iE 113 [(0, .d (.v (.int .u8 ((p : Int))))), (1, .d (.v (.int .u8 ((q : Int))))), (2, .d (.v (.int .u8 ((r : Int))))), (3, Ia x), (8, Ba false)] [] ?_))
  refine vc_seq (vc_seqr rfl (iC 8 [] (some 14) (c_awake12) ?_))
  rintro _ rfl
  refine iU .not (.bool true) (some 15) ?_
  refine all_false ((by simp)) ?_
  refine iE 113 [(0, .d (.v (.int .u8 ((p : Int))))), (1, .d (.v (.int .u8 ((q : Int))))), (2, .d (.v (.int .u8 ((r : Int))))), (3, Ia x), (8, Ba false), (15, Ba false)] [] ?_
  refine iF (vc_skip (seq_n (vc_seqr rfl (iQ 1 (iC 9 [.v (.int .u8 ((p : Int)))] (some 17) (c_truth12 hp) ?_)))))
  rintro _ ⟨ta, rfl, ha⟩
  refine iQ 1 (iC 9 [.v (.int .u8 ((q : Int)))] (some 19) (c_truth12 hq) ?_)
  rintro _ ⟨tb, rfl, hb⟩
  refine iQ 1 (iC 9 [.v (.int .u8 ((r : Int)))] (some 21) (c_truth12 hr) ?_)
  rintro _ ⟨tc, rfl, hc⟩
  refine iQ 3 (iE 113 [(3, Ia x), (8, Ba false), (9, Ia ta), (10, Ia tb), (11, Ia tc), (15, Ba false)] [] ?_)
  refine vc_seqr rfl (iQ 2 (iE 113 [(8, Ba false), (9, Ia ta), (10, Ia tb), (11, Ia tc), (12, Ia x), (15, Ba false)] [] ?_))
  refine vc_seq (vc_seqr rfl (iQ 1 (iB .lss 23 (.int .i64 x) (.int .i64 0) (some 24) ?_)))
  intro c24 hc24
  refine iQ 1 ?_
  cases c24
  · replace hc24 := bf hc24
    refine iQ 1 (iB .gtr 23 (.int .i64 x) (.int .i64 2) (some 27) ?_)
    intro c27 hc27
    refine iQ 1 (iE 113 [(8, Ba false), (9, Ia ta), (10, Ia tb), (11, Ia tc), (12, Ia x), (15, Ba false), (28, Ba c27)] [] ?_)
    cases c27
    · replace hc27 := bf hc27
      refine iF (vc_skip (seq_n (vc_seq (vc_seqr rfl (iQ 2 (iC 11 [Iv ta, Iv tb] (some 50) (c_eAnd) ?_))))))
      rintro _ rfl
      refine iQ 2 (iC 15 [Iv ta, Iv tb] (some 53) (c_and12) ?_)
      rintro _ rfl
      refine iB .neq 23 (.int .i64 (andI ta tb)) (.int .i64 (andI ta tb)) (some 54) ?_
      refine all_false ((by simp)) ?_
      refine iQ 2 (iC 10 [Iv ta] (some 57) (c_eNot) ?_)
      rintro _ rfl
      refine iC 10 [Iv (notI ta)] (some 58) (c_eNot) ?_
      rintro _ rfl
      refine iQ 1 (iB .neq 23 (.int .i64 (notI (notI ta))) (.int .i64 ta) (some 60) ?_)
      refine all_false ((by rw [notnot ha]; simp)) ?_
      refine iQ 4 (iC 12 [Iv ta, Iv tb] (some 65) (c_eOr) ?_)
      rintro _ rfl
      refine iQ 1 (iC 10 [Iv ta] (some 67) (c_eNot) ?_)
      rintro _ rfl
      refine iQ 1 (iC 10 [Iv tb] (some 69) (c_eNot) ?_)
      rintro _ rfl
      refine iC 15 [Iv (notI ta), Iv (notI tb)] (some 70) (c_and12) ?_
      rintro _ rfl
      refine iC 10 [Iv (andI (notI ta) (notI tb))] (some 71) (c_eNot) ?_
      rintro _ rfl
      refine iB .neq 23 (.int .i64 (notI (andI (notI (ta)) (notI (tb))))) (.int .i64 (notI (andI (notI ta) (notI tb)))) (some 72) ?_
      refine all_false ((by simp)) ?_
      refine iQ 5 (iC 11 [Iv tb, Iv tc] (some 78) (c_eAnd) ?_)
      rintro _ rfl
      refine iC 11 [Iv ta, Iv (andI tb tc)] (some 79) (c_eAnd) ?_
      rintro _ rfl
      refine iQ 2 (iC 11 [Iv ta, Iv tb] (some 82) (c_eAnd) ?_)
      rintro _ rfl
      refine iQ 1 (iC 11 [Iv (andI ta tb), Iv tc] (some 84) (c_eAnd) ?_)
      rintro _ rfl
      refine iB .neq 23 (.int .i64 (andI ta (andI tb tc))) (.int .i64 (andI (andI ta tb) tc)) (some 85) ?_
      refine all_false ((by rw [and_assoc' ha hb hc]; simp)) ?_
      refine iQ 1 (iE 113 [(8, Ba false), (9, Ia ta), (12, Ia x), (15, Ba false), (28, Ba false), (86, Ba false)] [] ?_)
      refine iF (vc_skip (seq_n (vc_seqr rfl (iQ 1 (iC 13 [Iv ta] (some 88) (c_eValue) ?_)))))
      rintro _ rfl
      refine iQ 2 (iE 113 [(8, Ba false), (9, Ia ta), (12, Ia x), (13, .p 13 0), (15, Ba false), (28, Ba false), (86, Ba false)] [(13, [.bx (truthV ta).enc])] ?_)
      refine vc_seqr rfl (iQ 1 (iC 16 [.agg [.bx (truthV ta).enc]] (some 90) (c_eTruth) ?_))
      rintro _ rfl
      refine iQ 1 (iB .eql 23 (.int .i64 (truthI (truthV ta))) (.int .i64 ta) (some 92) ?_)
      refine all_true ((truth_truthV ha)) ?_
      refine iQ 2 (iC 14 [.agg [.bx (truthV ta).enc]] (some 95) (c_NullE (v := truthV ta)) ?_)
      rintro _ ⟨n, rfl, hn⟩
      refine iQ 1 (iB .eql 23 (.int .i64 ta) (.int .i64 0) (some 97) ?_)
      intro c97 hc97
      refine iB .eql 4 (.bool n) (.bool c97) (some 98) ?_
      refine all_true ((null_truth ha hn hc97)) ?_
      refine iQ 2 (iC 17 [Iv 1] (some 101) (c_vInt (x := 1) (by decide) (by decide)) ?_)
      rintro _ rfl
      refine iC 16 [.agg [.bx (intV 1).enc]] (some 102) (c_eTruth (v := intV 1)) ?_
      rintro _ rfl
      refine iB .eql 23 (.int .i64 (truthI (intV 1))) (.int .i64 0) (some 103) ?_
      refine all_true (rfl) ?_
      refine iQ 2 (iC 18 [Bv true] (some 106) (c_eOf (p := true)) ?_)
      rintro _ rfl
      refine iB .eql 23 (.int .i64 (ofI true)) (.int .i64 2) (some 107) ?_
      refine all_true (rfl) ?_
      refine iQ 2 (iC 18 [Bv false] (some 110) (c_eOf (p := false)) ?_)
      rintro _ rfl
      refine iB .eql 23 (.int .i64 (ofI false)) (.int .i64 1) (some 111) ?_
      refine all_true (rfl) ?_
      refine iQ 2 (iE 113 [(8, Ba true), (9, Ia ta), (12, Ia x), (13, .p 13 0), (15, Ba false), (28, Ba false), (86, Ba false)] [(13, [.bx (truthV ta).enc])] ?_)
      refine vc_ret (iR (Bv true) ?_)
      rfl
    · replace hc27 := bt hc27
      obtain ⟨o1, o2, o3⟩ := odd_not (x := x) (by omega)
      refine iT (vc_seqr rfl (iQ 1 (iC 10 [Iv x] (some 30) (c_eNot) ?_)))
      rintro _ rfl
      refine iB .neq 23 (.int .i64 (notI x)) (.int .i64 0) (some 31) ?_
      refine all_false ((by rw [o1]; simp)) ?_
      refine iQ 2 (iC 11 [Iv x, Iv 2] (some 34) (c_eAnd) ?_)
      rintro _ rfl
      refine iB .neq 23 (.int .i64 (andI x 2)) (.int .i64 0) (some 35) ?_
      refine all_false ((by rw [o2]; simp)) ?_
      refine iQ 3 (iC 12 [Iv x, Iv 1] (some 39) (c_eOr) ?_)
      rintro _ rfl
      refine iB .neq 23 (.int .i64 (notI (andI (notI (x)) (notI (1))))) (.int .i64 0) (some 40) ?_
      refine all_false ((by rw [o1]; decide)) ?_
      refine iQ 3 (iC 13 [Iv x] (some 44) (c_eValue) ?_)
      rintro _ rfl
      refine iC 14 [.agg [.bx (truthV x).enc]] (some 45) (c_NullT (by rw [o3]; rfl)) ?_
      rintro _ rfl
      refine iU .not (.bool true) (some 46) ?_
      refine all_false ((by simp)) ?_
      refine iQ 1 (iE 113 [(8, Ba false), (9, Ia ta), (10, Ia tb), (11, Ia tc), (12, Ia x), (15, Ba false), (28, Ba true), (47, Ba false)] [] ?_)
      refine iF (vc_skip (seq_n (vc_seq (vc_seqr rfl (iQ 2 (iC 11 [Iv ta, Iv tb] (some 50) (c_eAnd) ?_))))))
      rintro _ rfl
      refine iQ 2 (iC 15 [Iv ta, Iv tb] (some 53) (c_and12) ?_)
      rintro _ rfl
      refine iB .neq 23 (.int .i64 (andI ta tb)) (.int .i64 (andI ta tb)) (some 54) ?_
      refine all_false ((by simp)) ?_
      refine iQ 2 (iC 10 [Iv ta] (some 57) (c_eNot) ?_)
      rintro _ rfl
      refine iC 10 [Iv (notI ta)] (some 58) (c_eNot) ?_
      rintro _ rfl
      refine iQ 1 (iB .neq 23 (.int .i64 (notI (notI ta))) (.int .i64 ta) (some 60) ?_)
      refine all_false ((by rw [notnot ha]; simp)) ?_
      refine iQ 4 (iC 12 [Iv ta, Iv tb] (some 65) (c_eOr) ?_)
      rintro _ rfl
      refine iQ 1 (iC 10 [Iv ta] (some 67) (c_eNot) ?_)
      rintro _ rfl
      refine iQ 1 (iC 10 [Iv tb] (some 69) (c_eNot) ?_)
      rintro _ rfl
      refine iC 15 [Iv (notI ta), Iv (notI tb)] (some 70) (c_and12) ?_
      rintro _ rfl
      refine iC 10 [Iv (andI (notI ta) (notI tb))] (some 71) (c_eNot) ?_
      rintro _ rfl
      refine iB .neq 23 (.int .i64 (notI (andI (notI (ta)) (notI (tb))))) (.int .i64 (notI (andI (notI ta) (notI tb)))) (some 72) ?_
      refine all_false ((by simp)) ?_
      refine iQ 5 (iC 11 [Iv tb, Iv tc] (some 78) (c_eAnd) ?_)
      rintro _ rfl
      refine iC 11 [Iv ta, Iv (andI tb tc)] (some 79) (c_eAnd) ?_
      rintro _ rfl
      refine iQ 2 (iC 11 [Iv ta, Iv tb] (some 82) (c_eAnd) ?_)
      rintro _ rfl
      refine iQ 1 (iC 11 [Iv (andI ta tb), Iv tc] (some 84) (c_eAnd) ?_)
      rintro _ rfl
      refine iB .neq 23 (.int .i64 (andI ta (andI tb tc))) (.int .i64 (andI (andI ta tb) tc)) (some 85) ?_
      refine all_false ((by rw [and_assoc' ha hb hc]; simp)) ?_
      refine iQ 1 (iE 113 [(8, Ba false), (9, Ia ta), (12, Ia x), (15, Ba false), (28, Ba true), (47, Ba false), (86, Ba false)] [] ?_)
      refine iF (vc_skip (seq_n (vc_seqr rfl (iQ 1 (iC 13 [Iv ta] (some 88) (c_eValue) ?_)))))
      rintro _ rfl
      refine iQ 2 (iE 113 [(8, Ba false), (9, Ia ta), (12, Ia x), (13, .p 13 0), (15, Ba false), (28, Ba true), (47, Ba false), (86, Ba false)] [(13, [.bx (truthV ta).enc])] ?_)
      refine vc_seqr rfl (iQ 1 (iC 16 [.agg [.bx (truthV ta).enc]] (some 90) (c_eTruth) ?_))
      rintro _ rfl
      refine iQ 1 (iB .eql 23 (.int .i64 (truthI (truthV ta))) (.int .i64 ta) (some 92) ?_)
      refine all_true ((truth_truthV ha)) ?_
      refine iQ 2 (iC 14 [.agg [.bx (truthV ta).enc]] (some 95) (c_NullE (v := truthV ta)) ?_)
      rintro _ ⟨n, rfl, hn⟩
      refine iQ 1 (iB .eql 23 (.int .i64 ta) (.int .i64 0) (some 97) ?_)
      intro c97 hc97
      refine iB .eql 4 (.bool n) (.bool c97) (some 98) ?_
      refine all_true ((null_truth ha hn hc97)) ?_
      refine iQ 2 (iC 17 [Iv 1] (some 101) (c_vInt (x := 1) (by decide) (by decide)) ?_)
      rintro _ rfl
      refine iC 16 [.agg [.bx (intV 1).enc]] (some 102) (c_eTruth (v := intV 1)) ?_
      rintro _ rfl
      refine iB .eql 23 (.int .i64 (truthI (intV 1))) (.int .i64 0) (some 103) ?_
      refine all_true (rfl) ?_
      refine iQ 2 (iC 18 [Bv true] (some 106) (c_eOf (p := true)) ?_)
      rintro _ rfl
      refine iB .eql 23 (.int .i64 (ofI true)) (.int .i64 2) (some 107) ?_
      refine all_true (rfl) ?_
      refine iQ 2 (iC 18 [Bv false] (some 110) (c_eOf (p := false)) ?_)
      rintro _ rfl
      refine iB .eql 23 (.int .i64 (ofI false)) (.int .i64 1) (some 111) ?_
      refine all_true (rfl) ?_
      refine iQ 2 (iE 113 [(8, Ba true), (9, Ia ta), (12, Ia x), (13, .p 13 0), (15, Ba false), (28, Ba true), (47, Ba false), (86, Ba false)] [(13, [.bx (truthV ta).enc])] ?_)
      refine vc_ret (iR (Bv true) ?_)
      rfl
  · replace hc24 := bt hc24
    refine iQ 3 (iE 113 [(8, Ba false), (9, Ia ta), (10, Ia tb), (11, Ia tc), (12, Ia x), (15, Ba false), (28, Ba true)] [] ?_)
    obtain ⟨o1, o2, o3⟩ := odd_not (x := x) (by omega)
    refine iT (vc_seqr rfl (iQ 1 (iC 10 [Iv x] (some 30) (c_eNot) ?_)))
    rintro _ rfl
    refine iB .neq 23 (.int .i64 (notI x)) (.int .i64 0) (some 31) ?_
    refine all_false ((by rw [o1]; simp)) ?_
    refine iQ 2 (iC 11 [Iv x, Iv 2] (some 34) (c_eAnd) ?_)
    rintro _ rfl
    refine iB .neq 23 (.int .i64 (andI x 2)) (.int .i64 0) (some 35) ?_
    refine all_false ((by rw [o2]; simp)) ?_
    refine iQ 3 (iC 12 [Iv x, Iv 1] (some 39) (c_eOr) ?_)
    rintro _ rfl
    refine iB .neq 23 (.int .i64 (notI (andI (notI (x)) (notI (1))))) (.int .i64 0) (some 40) ?_
    refine all_false ((by rw [o1]; decide)) ?_
    refine iQ 3 (iC 13 [Iv x] (some 44) (c_eValue) ?_)
    rintro _ rfl
    refine iC 14 [.agg [.bx (truthV x).enc]] (some 45) (c_NullT (by rw [o3]; rfl)) ?_
    rintro _ rfl
    refine iU .not (.bool true) (some 46) ?_
    refine all_false ((by simp)) ?_
    refine iQ 1 (iE 113 [(8, Ba false), (9, Ia ta), (10, Ia tb), (11, Ia tc), (12, Ia x), (15, Ba false), (28, Ba true), (47, Ba false)] [] ?_)
    refine iF (vc_skip (seq_n (vc_seq (vc_seqr rfl (iQ 2 (iC 11 [Iv ta, Iv tb] (some 50) (c_eAnd) ?_))))))
    rintro _ rfl
    refine iQ 2 (iC 15 [Iv ta, Iv tb] (some 53) (c_and12) ?_)
    rintro _ rfl
    refine iB .neq 23 (.int .i64 (andI ta tb)) (.int .i64 (andI ta tb)) (some 54) ?_
    refine all_false ((by simp)) ?_
    refine iQ 2 (iC 10 [Iv ta] (some 57) (c_eNot) ?_)
    rintro _ rfl
    refine iC 10 [Iv (notI ta)] (some 58) (c_eNot) ?_
    rintro _ rfl
    refine iQ 1 (iB .neq 23 (.int .i64 (notI (notI ta))) (.int .i64 ta) (some 60) ?_)
    refine all_false ((by rw [notnot ha]; simp)) ?_
    refine iQ 4 (iC 12 [Iv ta, Iv tb] (some 65) (c_eOr) ?_)
    rintro _ rfl
    refine iQ 1 (iC 10 [Iv ta] (some 67) (c_eNot) ?_)
    rintro _ rfl
    refine iQ 1 (iC 10 [Iv tb] (some 69) (c_eNot) ?_)
    rintro _ rfl
    refine iC 15 [Iv (notI ta), Iv (notI tb)] (some 70) (c_and12) ?_
    rintro _ rfl
    refine iC 10 [Iv (andI (notI ta) (notI tb))] (some 71) (c_eNot) ?_
    rintro _ rfl
    refine iB .neq 23 (.int .i64 (notI (andI (notI (ta)) (notI (tb))))) (.int .i64 (notI (andI (notI ta) (notI tb)))) (some 72) ?_
    refine all_false ((by simp)) ?_
    refine iQ 5 (iC 11 [Iv tb, Iv tc] (some 78) (c_eAnd) ?_)
    rintro _ rfl
    refine iC 11 [Iv ta, Iv (andI tb tc)] (some 79) (c_eAnd) ?_
    rintro _ rfl
    refine iQ 2 (iC 11 [Iv ta, Iv tb] (some 82) (c_eAnd) ?_)
    rintro _ rfl
    refine iQ 1 (iC 11 [Iv (andI ta tb), Iv tc] (some 84) (c_eAnd) ?_)
    rintro _ rfl
    refine iB .neq 23 (.int .i64 (andI ta (andI tb tc))) (.int .i64 (andI (andI ta tb) tc)) (some 85) ?_
    refine all_false ((by rw [and_assoc' ha hb hc]; simp)) ?_
    refine iQ 1 (iE 113 [(8, Ba false), (9, Ia ta), (12, Ia x), (15, Ba false), (28, Ba true), (47, Ba false), (86, Ba false)] [] ?_)
    refine iF (vc_skip (seq_n (vc_seqr rfl (iQ 1 (iC 13 [Iv ta] (some 88) (c_eValue) ?_)))))
    rintro _ rfl
    refine iQ 2 (iE 113 [(8, Ba false), (9, Ia ta), (12, Ia x), (13, .p 13 0), (15, Ba false), (28, Ba true), (47, Ba false), (86, Ba false)] [(13, [.bx (truthV ta).enc])] ?_)
    refine vc_seqr rfl (iQ 1 (iC 16 [.agg [.bx (truthV ta).enc]] (some 90) (c_eTruth) ?_))
    rintro _ rfl
    refine iQ 1 (iB .eql 23 (.int .i64 (truthI (truthV ta))) (.int .i64 ta) (some 92) ?_)
    refine all_true ((truth_truthV ha)) ?_
    refine iQ 2 (iC 14 [.agg [.bx (truthV ta).enc]] (some 95) (c_NullE (v := truthV ta)) ?_)
    rintro _ ⟨n, rfl, hn⟩
    refine iQ 1 (iB .eql 23 (.int .i64 ta) (.int .i64 0) (some 97) ?_)
    intro c97 hc97
    refine iB .eql 4 (.bool n) (.bool c97) (some 98) ?_
    refine all_true ((null_truth ha hn hc97)) ?_
    refine iQ 2 (iC 17 [Iv 1] (some 101) (c_vInt (x := 1) (by decide) (by decide)) ?_)
    rintro _ rfl
    refine iC 16 [.agg [.bx (intV 1).enc]] (some 102) (c_eTruth (v := intV 1)) ?_
    rintro _ rfl
    refine iB .eql 23 (.int .i64 (truthI (intV 1))) (.int .i64 0) (some 103) ?_
    refine all_true (rfl) ?_
    refine iQ 2 (iC 18 [Bv true] (some 106) (c_eOf (p := true)) ?_)
    rintro _ rfl
    refine iB .eql 23 (.int .i64 (ofI true)) (.int .i64 2) (some 107) ?_
    refine all_true (rfl) ?_
    refine iQ 2 (iC 18 [Bv false] (some 110) (c_eOf (p := false)) ?_)
    rintro _ rfl
    refine iB .eql 23 (.int .i64 (ofI false)) (.int .i64 1) (some 111) ?_
    refine all_true (rfl) ?_
    refine iQ 2 (iE 113 [(8, Ba true), (9, Ia ta), (12, Ia x), (13, .p 13 0), (15, Ba false), (28, Ba true), (47, Ba false), (86, Ba false)] [(13, [.bx (truthV ta).enc])] ?_)
    refine vc_ret (iR (Bv true) ?_)
    rfl
end Go.Proofs.YtpambeengdhhmaaGreatDoor
