/-
  The document's texts of days, times, durations; LexicalTells.
-/
import Derived.Test.YtjpaedjhihiakaaDoorLexD
import Derived.Test.YtjpaedjhihiakaaDoorRtT
import Derived.Test.YtjpaedjhihiakaaDoorMk
namespace Go.Proofs.YtjpaedjhihiakaaDoor
open Go.RowKit
set_option linter.unusedVariables false
set_option linter.unusedSimpArgs false
set_option maxRecDepth 100000

theorem i62.r {n : Int} (h : i62 n) : i64R n := by unfold i62 at h; exact ⟨by omega, by omega⟩
theorem c_wide09 {n : Int} {w : Nat} (hn : i62 n) (hw : w ≤ 10) : HasC Tryd.prog 55 [.v (.int .i64 n), .v (.int .i64 ((w : Int)))] (fun y => y = .v (.string (tx (padL n w)))) := by
  refine HasC.of [] (fn := Tryd.f55) tyOk mixed (fun args w => Tryd.call55 args w) Tryd.func55 rfl (by kernel_rfl) (Nat.le_of_ble_eq_true rfl) (⟨_, rfl⟩) ?_
  refine vc_seqr rfl (iQ 1 (iE 15 [(0, Ia n), (1, Ia ((w : Int))), (4, .d (Sv (⟨#[]⟩)))] [] ?_))
  refine vc_seqr rfl (iQ 1 (iC 61 [Iv n] (some 7) (c_rItoa hn) ?_))
  rintro _ rfl
  have hi := itoa_len n hn.r
  refine iQ 1 (iE 15 [(1, Ia ((w : Int))), (4, .d (Sv (⟨#[]⟩))), (5, .d (Sv (tx (Lib.itoa n))))] [] ?_)
  refine vc_seq (vc_block (vc_loop 15 (fun (vcx : Nat) => match vcx with | k => [(1, Ia ((w : Int))), (4, .d (Sv (⟨#[]⟩))), (5, .d (Sv (tx (List.replicate k 48 ++ Lib.itoa n))))]) (fun (vcx : Nat) => match vcx with | k => []) (fun (vcx : Nat) => match vcx with | k => k ≤ w - (Lib.itoa n).length) (fun (vcx : Nat) => match vcx with | k => w - k) 0 (by omega) (by kernel_rfl) (by kernel_rfl) ?_))
  rintro k hinv
  simp only at hinv
  refine vc_seq (vc_seqr rfl (iQ 1 (iL .len [9] [.string (tx (List.replicate k 48 ++ Lib.itoa n))] (some 9) ?_)))
  intro n9 hn9
  have h9 : n9 = k + (Lib.itoa n).length := by rw [hn9]; simp
  refine iQ 1 (iB .lss 3 (.int .i64 ((n9 : Nat))) (.int .i64 ((w : Int))) (some 11) ?_)
  intro c11 hc11
  refine iE 15 [(1, Ia ((w : Int))), (4, .d (Sv (⟨#[]⟩))), (5, .d (Sv (tx (List.replicate k 48 ++ Lib.itoa n)))), (11, Ba c11)] [] ?_
  cases c11
  · replace hc11 := bf hc11
    refine iF (vc_exit (seq_x (loop_x (block_x rfl (seq_n (vc_seqr rfl (iQ 2 (iE 15 [(1, Ia ((w : Int))), (4, .d (Sv (tx (List.replicate k 48 ++ Lib.itoa n)))), (5, .d (Sv (tx (List.replicate k 48 ++ Lib.itoa n)))), (11, Ba false)] [] ?_))))))))
    refine vc_ret (iR (Sv (tx (List.replicate k 48 ++ Lib.itoa n))) ?_)
    rw [padL, show w - (Lib.itoa n).length = k by omega]
  · replace hc11 := bt hc11
    refine iT (vc_skip (seq_n (vc_block (vc_reg rfl (iQ 1 (iB .add 9 (.string (⟨#[48]⟩)) (.string (tx (List.replicate k 48 ++ Lib.itoa n))) (some 13) ?_))))))
    refine And.intro (sz_le (m := 1) (n := ((List.replicate k 48 ++ Lib.itoa n)).length) rfl rfl (by simp; omega)) ?_
    intro s13 hs13
    have hl13 : (s13 : ByteArray).size = 1 + ((List.replicate k 48 ++ Lib.itoa n)).length := sz_add hs13 rfl rfl
    refine iQ 1 (iE 15 [(1, Ia ((w : Int))), (4, .d (Sv (⟨#[]⟩))), (5, .d (Sv s13)), (11, Ba true)] [] ?_)
    refine block_n ?_
    obtain rfl : s13 = tx (List.replicate (k + 1) 48 ++ Lib.itoa n) := by rw [hs13]; exact tx_append [48] _
    refine loop_n (k + 1) (by omega) (by show w - (k + 1) < w - k; omega) (by kernel_rfl) (by kernel_rfl)

theorem c_date09 {y m d : Int} (hb : mayD y m d) : HasC Tryd.prog 18 [.agg [.v (.int .i64 y), .v (.int .i64 m), .v (.int .i64 d)]] (fun r => r = .v (.string (tx (dateL y m d)))) := by
  refine HasC.of [] (fn := Tryd.f18) tyOk mixed (fun args w => Tryd.call18 args w) Tryd.func18 rfl (by kernel_rfl) (Nat.le_of_ble_eq_true rfl) (⟨_, rfl⟩) ?_
  have hr := mayD_rng hb
  refine vc_seqr rfl (iQ 2 (iE 25 [(1, .p 1 0), (2, .d (Sv (⟨#[]⟩)))] [(1, [Iv y, Iv m, Iv d])] ?_))
  refine vc_seqr rfl (iQ 1 (iE 25 [(1, .p 1 0), (2, .d (Sv (⟨#[]⟩))), (3, .d (Sv (⟨#[]⟩)))] [(1, [Iv y, Iv m, Iv d])] ?_))
  refine vc_seqr rfl (iQ 3 (iE 25 [(1, .p 1 0), (2, .d (Sv (⟨#[]⟩))), (3, .d (Sv (⟨#[]⟩))), (4, Ia y)] [(1, [Iv y, Iv m, Iv d])] ?_))
  refine vc_seq (vc_seqr rfl (iQ 1 (iB .lss 3 (.int .i64 y) (.int .i64 0) (some 8) ?_)))
  intro c8 hc8
  refine iE 25 [(1, .p 1 0), (2, .d (Sv (⟨#[]⟩))), (3, .d (Sv (⟨#[]⟩))), (4, Ia y), (8, Ba c8)] [(1, [Iv y, Iv m, Iv d])] ?_
  cases c8
  · replace hc8 := bf hc8
    refine iF (vc_skip (seq_n (vc_seqr rfl (iQ 2 (iC 55 [Iv y, Iv 4] (some 13) (c_wide09 (n := y) (w := 4) ⟨by omega, by omega⟩ (by decide)) ?_)))))
    rintro _ rfl
    have p1 := padL_le (n := y) (w := 4) ⟨by omega, by omega⟩ (by decide)
    have p2 := padL_le (n := m) (w := 2) ⟨by omega, by omega⟩ (by decide)
    have p3 := padL_le (n := d) (w := 2) ⟨by omega, by omega⟩ (by decide)
    refine iB .add 9 (.string (⟨#[]⟩)) (.string (tx (padL y 4))) (some 14) ?_
    refine And.intro (sz_le (m := 0) (n := ((padL y 4)).length) rfl rfl (by omega)) ?_
    intro s14 hs14
    have hl14 : (s14 : ByteArray).size = 0 + ((padL y 4)).length := sz_add hs14 rfl rfl
    refine iB .add 9 (.string s14) (.string (⟨#[45]⟩)) (some 15) ?_
    refine And.intro (sz_le (m := (s14 : ByteArray).size) (n := 1) rfl rfl (by omega)) ?_
    intro s15 hs15
    have hl15 : (s15 : ByteArray).size = (s14 : ByteArray).size + 1 := sz_add hs15 rfl rfl
    refine iQ 2 (iC 55 [Iv m, Iv 2] (some 18) (c_wide09 (n := m) (w := 2) ⟨by omega, by omega⟩ (by decide)) ?_)
    rintro _ rfl
    refine iB .add 9 (.string s15) (.string (tx (padL m 2))) (some 19) ?_
    refine And.intro (sz_le (m := (s15 : ByteArray).size) (n := ((padL m 2)).length) rfl rfl (by omega)) ?_
    intro s19 hs19
    have hl19 : (s19 : ByteArray).size = (s15 : ByteArray).size + ((padL m 2)).length := sz_add hs19 rfl rfl
    refine iB .add 9 (.string s19) (.string (⟨#[45]⟩)) (some 20) ?_
    refine And.intro (sz_le (m := (s19 : ByteArray).size) (n := 1) rfl rfl (by omega)) ?_
    intro s20 hs20
    have hl20 : (s20 : ByteArray).size = (s19 : ByteArray).size + 1 := sz_add hs20 rfl rfl
    refine iQ 2 (iC 55 [Iv d, Iv 2] (some 23) (c_wide09 (n := d) (w := 2) ⟨by omega, by omega⟩ (by decide)) ?_)
    rintro _ rfl
    refine iB .add 9 (.string s20) (.string (tx (padL d 2))) (some 24) ?_
    refine And.intro (sz_le (m := (s20 : ByteArray).size) (n := ((padL d 2)).length) rfl rfl (by omega)) ?_
    intro s24 hs24
    have hl24 : (s24 : ByteArray).size = (s20 : ByteArray).size + ((padL d 2)).length := sz_add hs24 rfl rfl
    refine iQ 1 (iE 25 [(1, .p 1 0), (2, .d (Sv s24)), (4, Ia y), (8, Ba false)] [(1, [Iv y, Iv m, Iv d])] ?_)
    refine vc_ret (iR (Sv s24) ?_)
    rw [hs24, hs20, hs19, hs15, hs14, dateL, if_neg hc8, if_neg hc8]; simp only [tx_lit, tx_append, tx_nil.symm, List.append_assoc]
  · replace hc8 := bt hc8
    refine iT (vc_seqr rfl (iQ 1 (iE 25 [(1, .p 1 0), (2, .d (Sv (⟨#[]⟩))), (3, .d (Sv (⟨#[45]⟩))), (4, Ia y), (8, Ba true)] [(1, [Iv y, Iv m, Iv d])] ?_)))
    refine vc_reg rfl (iQ 1 (iU .neg (.int .i64 y) (some 10) ?_))
    intro z10 hz10
    try replace hz10 := hz10.i64 (by omega)
    refine iQ 1 (iE 25 [(1, .p 1 0), (2, .d (Sv (⟨#[]⟩))), (3, .d (Sv (⟨#[45]⟩))), (4, Ia z10), (8, Ba true)] [(1, [Iv y, Iv m, Iv d])] ?_)
    refine seq_n (vc_seqr rfl (iQ 2 (iC 55 [Iv z10, Iv 4] (some 13) (c_wide09 (n := z10) (w := 4) ⟨by omega, by omega⟩ (by decide)) ?_)))
    rintro _ rfl
    have p1 := padL_le (n := z10) (w := 4) ⟨by omega, by omega⟩ (by decide)
    have p2 := padL_le (n := m) (w := 2) ⟨by omega, by omega⟩ (by decide)
    have p3 := padL_le (n := d) (w := 2) ⟨by omega, by omega⟩ (by decide)
    refine iB .add 9 (.string (⟨#[45]⟩)) (.string (tx (padL z10 4))) (some 14) ?_
    refine And.intro (sz_le (m := 1) (n := ((padL z10 4)).length) rfl rfl (by omega)) ?_
    intro s14 hs14
    have hl14 : (s14 : ByteArray).size = 1 + ((padL z10 4)).length := sz_add hs14 rfl rfl
    refine iB .add 9 (.string s14) (.string (⟨#[45]⟩)) (some 15) ?_
    refine And.intro (sz_le (m := (s14 : ByteArray).size) (n := 1) rfl rfl (by omega)) ?_
    intro s15 hs15
    have hl15 : (s15 : ByteArray).size = (s14 : ByteArray).size + 1 := sz_add hs15 rfl rfl
    refine iQ 2 (iC 55 [Iv m, Iv 2] (some 18) (c_wide09 (n := m) (w := 2) ⟨by omega, by omega⟩ (by decide)) ?_)
    rintro _ rfl
    refine iB .add 9 (.string s15) (.string (tx (padL m 2))) (some 19) ?_
    refine And.intro (sz_le (m := (s15 : ByteArray).size) (n := ((padL m 2)).length) rfl rfl (by omega)) ?_
    intro s19 hs19
    have hl19 : (s19 : ByteArray).size = (s15 : ByteArray).size + ((padL m 2)).length := sz_add hs19 rfl rfl
    refine iB .add 9 (.string s19) (.string (⟨#[45]⟩)) (some 20) ?_
    refine And.intro (sz_le (m := (s19 : ByteArray).size) (n := 1) rfl rfl (by omega)) ?_
    intro s20 hs20
    have hl20 : (s20 : ByteArray).size = (s19 : ByteArray).size + 1 := sz_add hs20 rfl rfl
    refine iQ 2 (iC 55 [Iv d, Iv 2] (some 23) (c_wide09 (n := d) (w := 2) ⟨by omega, by omega⟩ (by decide)) ?_)
    rintro _ rfl
    refine iB .add 9 (.string s20) (.string (tx (padL d 2))) (some 24) ?_
    refine And.intro (sz_le (m := (s20 : ByteArray).size) (n := ((padL d 2)).length) rfl rfl (by omega)) ?_
    intro s24 hs24
    have hl24 : (s24 : ByteArray).size = (s20 : ByteArray).size + ((padL d 2)).length := sz_add hs24 rfl rfl
    refine iQ 1 (iE 25 [(1, .p 1 0), (2, .d (Sv s24)), (4, Ia z10), (8, Ba true)] [(1, [Iv y, Iv m, Iv d])] ?_)
    refine vc_ret (iR (Sv s24) ?_)
    rw [hs24, hs20, hs19, hs15, hs14, dateL, if_pos hc8, if_pos hc8, hz10]; simp only [tx_lit, tx_append, List.append_assoc, Int.zero_sub]

theorem c_zone09 {s o : Int} {z : Bool} (h1 : -64800 ≤ o) (h2 : o ≤ 64800) : HasC Tryd.prog 59 [.agg [.v (.int .i64 s), .v (.bool z), .v (.int .i64 o)]] (fun r => r = .v (.string (tx (zoneL z o)))) := by
  refine HasC.of [] (fn := Tryd.f59) tyOk mixed (fun args w => Tryd.call59 args w) Tryd.func59 rfl (by kernel_rfl) (Nat.le_of_ble_eq_true rfl) (⟨_, rfl⟩) ?_
  refine vc_seqr rfl (iQ 2 (iE 38 [(1, .p 1 0), (2, .d (Sv (⟨#[]⟩)))] [(1, [Iv s, Bv z, Iv o])] ?_))
  refine vc_seq (vc_seqr rfl (iQ 2 (iU .not (.bool z) (some 7) ?_)))
  intro c7 hc7
  refine iE 38 [(1, .p 1 0), (2, .d (Sv (⟨#[]⟩))), (7, Ba c7)] [(1, [Iv s, Bv z, Iv o])] ?_
  cases c7
  · replace hc7 := bf hc7
    refine iF (vc_skip (seq_n (vc_seq (vc_seqr rfl (iQ 2 (iB .eql 3 (.int .i64 o) (.int .i64 0) (some 10) ?_))))))
    intro c10 hc10
    refine iE 38 [(1, .p 1 0), (2, .d (Sv (⟨#[]⟩))), (7, Ba false), (10, Ba c10)] [(1, [Iv s, Bv z, Iv o])] ?_
    cases c10
    · replace hc10 := bf hc10
      refine iF (vc_skip (seq_n (vc_seqr rfl (iQ 4 (iE 38 [(1, .p 1 0), (2, .d (Sv (⟨#[]⟩))), (3, .d (Sv (⟨#[43]⟩))), (4, Ia o), (7, Ba false), (10, Ba false)] [(1, [Iv s, Bv z, Iv o])] ?_)))))
      refine vc_seq (vc_seqr rfl (iQ 1 (iB .lss 3 (.int .i64 o) (.int .i64 0) (some 14) ?_)))
      intro c14 hc14
      refine iE 38 [(1, .p 1 0), (2, .d (Sv (⟨#[]⟩))), (3, .d (Sv (⟨#[43]⟩))), (4, Ia o), (7, Ba false), (10, Ba false), (14, Ba c14)] [(1, [Iv s, Bv z, Iv o])] ?_
      cases c14
      · replace hc14 := bf hc14
        have hzl : zoneL z o = 43 :: offL o := by rw [zoneL, if_neg hc7, if_neg hc10, if_neg hc14]
        refine iF (vc_skip (seq_n (vc_seqr rfl (iQ 2 (iB .quo 3 (.int .i64 o) (.int .i64 3600) (some 19) ?_)))))
        refine And.intro (by omega) ?_
        intro z19 hz19
        have e19 : z19 = o / 3600 := quo_pos hz19 (by decide) (by omega) (by omega)
        refine iC 55 [Iv z19, Iv 2] (some 20) (c_wide09 (n := z19) (w := 2) ⟨by omega, by omega⟩ (by decide)) ?_
        rintro _ rfl
        have p40 := padL_le (n := z19) (w := 2) ⟨by omega, by omega⟩ (by decide)
        refine iB .add 9 (.string (⟨#[43]⟩)) (.string (tx (padL z19 2))) (some 21) ?_
        refine And.intro (sz_le (m := 1) (n := ((padL z19 2)).length) rfl rfl (by omega)) ?_
        intro s21 hs21
        have hl21 : (s21 : ByteArray).size = 1 + ((padL z19 2)).length := sz_add hs21 rfl rfl
        refine iB .add 9 (.string s21) (.string (⟨#[58]⟩)) (some 22) ?_
        refine And.intro (sz_le (m := (s21 : ByteArray).size) (n := 1) rfl rfl (by omega)) ?_
        intro s22 hs22
        have hl22 : (s22 : ByteArray).size = (s21 : ByteArray).size + 1 := sz_add hs22 rfl rfl
        refine iQ 1 (iB .rem 3 (.int .i64 o) (.int .i64 3600) (some 24) ?_)
        refine And.intro (by omega) ?_
        intro z24 hz24
        have e24 : z24 = o % 3600 := tm_pos hz24 (by omega)
        refine iB .quo 3 (.int .i64 z24) (.int .i64 60) (some 25) ?_
        refine And.intro (by omega) ?_
        intro z25 hz25
        have e25 : z25 = o % 3600 / 60 := by rw [quo_pos hz25 (by decide) (by omega) (by omega), e24]
        refine iC 55 [Iv z25, Iv 2] (some 26) (c_wide09 (n := z25) (w := 2) ⟨by omega, by omega⟩ (by decide)) ?_
        rintro _ rfl
        have p46 := padL_le (n := z25) (w := 2) ⟨by omega, by omega⟩ (by decide)
        refine iB .add 9 (.string s22) (.string (tx (padL z25 2))) (some 27) ?_
        refine And.intro (sz_le (m := (s22 : ByteArray).size) (n := ((padL z25 2)).length) rfl rfl (by omega)) ?_
        intro s27 hs27
        have hl27 : (s27 : ByteArray).size = (s22 : ByteArray).size + ((padL z25 2)).length := sz_add hs27 rfl rfl
        refine iQ 1 (iE 38 [(1, .p 1 0), (2, .d (Sv (⟨#[]⟩))), (3, .d (Sv s27)), (4, Ia o), (7, Ba false), (10, Ba false), (14, Ba false)] [(1, [Iv s, Bv z, Iv o])] ?_)
        refine vc_seq (vc_seqr rfl (iQ 1 (iB .rem 3 (.int .i64 o) (.int .i64 60) (some 29) ?_)))
        refine And.intro (by omega) ?_
        intro z29 hz29
        have e29 : z29 = o % 60 := tm_pos hz29 (by omega)
        refine iB .gtr 3 (.int .i64 z29) (.int .i64 0) (some 30) ?_
        intro c30 hc30
        refine iE 38 [(1, .p 1 0), (2, .d (Sv (⟨#[]⟩))), (3, .d (Sv s27)), (4, Ia o), (7, Ba false), (10, Ba false), (14, Ba false), (30, Ba c30)] [(1, [Iv s, Bv z, Iv o])] ?_
        cases c30
        · replace hc30 := bf hc30
          refine iF (vc_skip (seq_n (vc_seqr rfl (iQ 2 (iE 38 [(1, .p 1 0), (2, .d (Sv s27)), (3, .d (Sv s27)), (4, Ia o), (7, Ba false), (10, Ba false), (14, Ba false), (30, Ba false)] [(1, [Iv s, Bv z, Iv o])] ?_)))))
          refine vc_ret (iR (Sv s27) ?_)
          simp only [hs27, hs22, hs21, tx_lit, tx_append, e19, e25]; rw [hzl, offL, if_pos (by omega)]; all_goals simp only [List.append_assoc, List.cons_append, List.nil_append, List.append_nil]
        · replace hc30 := bt hc30
          refine iT (vc_reg rfl (iQ 1 (iB .add 9 (.string s27) (.string (⟨#[58]⟩)) (some 32) ?_)))
          refine And.intro (sz_le (m := (s27 : ByteArray).size) (n := 1) rfl rfl (by omega)) ?_
          intro s32 hs32
          have hl32 : (s32 : ByteArray).size = (s27 : ByteArray).size + 1 := sz_add hs32 rfl rfl
          refine iQ 1 (iB .rem 3 (.int .i64 o) (.int .i64 60) (some 34) ?_)
          refine And.intro (by omega) ?_
          intro z34 hz34
          have e34 : z34 = o % 60 := tm_pos hz34 (by omega)
          refine iC 55 [Iv z34, Iv 2] (some 35) (c_wide09 (n := z34) (w := 2) ⟨by omega, by omega⟩ (by decide)) ?_
          rintro _ rfl
          have p55 := padL_le (n := z34) (w := 2) ⟨by omega, by omega⟩ (by decide)
          refine iB .add 9 (.string s32) (.string (tx (padL z34 2))) (some 36) ?_
          refine And.intro (sz_le (m := (s32 : ByteArray).size) (n := ((padL z34 2)).length) rfl rfl (by omega)) ?_
          intro s36 hs36
          have hl36 : (s36 : ByteArray).size = (s32 : ByteArray).size + ((padL z34 2)).length := sz_add hs36 rfl rfl
          refine iQ 1 (iE 38 [(1, .p 1 0), (2, .d (Sv (⟨#[]⟩))), (3, .d (Sv s36)), (4, Ia o), (7, Ba false), (10, Ba false), (14, Ba false), (30, Ba true)] [(1, [Iv s, Bv z, Iv o])] ?_)
          refine seq_n (vc_seqr rfl (iQ 2 (iE 38 [(1, .p 1 0), (2, .d (Sv s36)), (3, .d (Sv s36)), (4, Ia o), (7, Ba false), (10, Ba false), (14, Ba false), (30, Ba true)] [(1, [Iv s, Bv z, Iv o])] ?_)))
          refine vc_ret (iR (Sv s36) ?_)
          simp only [hs36, hs32, hs27, hs22, hs21, tx_lit, tx_append, e19, e25, e34]; rw [hzl, offL, if_neg (by omega)]; all_goals simp only [List.append_assoc, List.cons_append, List.nil_append, List.append_nil]
      · replace hc14 := bt hc14
        refine iT (vc_reg rfl (iQ 1 (iU .neg (.int .i64 o) (some 16) ?_)))
        intro z16 hz16
        try replace hz16 := hz16.i64 (by omega)
        have e16 : z16 = -o := by omega
        have hzl : zoneL z o = 45 :: offL z16 := by rw [zoneL, if_neg hc7, if_neg hc10, if_pos hc14, e16]
        refine iQ 2 (iE 38 [(1, .p 1 0), (2, .d (Sv (⟨#[]⟩))), (3, .d (Sv (⟨#[45]⟩))), (4, Ia z16), (7, Ba false), (10, Ba false), (14, Ba true)] [(1, [Iv s, Bv z, Iv o])] ?_)
        refine seq_n (vc_seqr rfl (iQ 2 (iB .quo 3 (.int .i64 z16) (.int .i64 3600) (some 19) ?_)))
        refine And.intro (by omega) ?_
        intro z19 hz19
        have e19 : z19 = z16 / 3600 := quo_pos hz19 (by decide) (by omega) (by omega)
        refine iC 55 [Iv z19, Iv 2] (some 20) (c_wide09 (n := z19) (w := 2) ⟨by omega, by omega⟩ (by decide)) ?_
        rintro _ rfl
        have p40 := padL_le (n := z19) (w := 2) ⟨by omega, by omega⟩ (by decide)
        refine iB .add 9 (.string (⟨#[45]⟩)) (.string (tx (padL z19 2))) (some 21) ?_
        refine And.intro (sz_le (m := 1) (n := ((padL z19 2)).length) rfl rfl (by omega)) ?_
        intro s21 hs21
        have hl21 : (s21 : ByteArray).size = 1 + ((padL z19 2)).length := sz_add hs21 rfl rfl
        refine iB .add 9 (.string s21) (.string (⟨#[58]⟩)) (some 22) ?_
        refine And.intro (sz_le (m := (s21 : ByteArray).size) (n := 1) rfl rfl (by omega)) ?_
        intro s22 hs22
        have hl22 : (s22 : ByteArray).size = (s21 : ByteArray).size + 1 := sz_add hs22 rfl rfl
        refine iQ 1 (iB .rem 3 (.int .i64 z16) (.int .i64 3600) (some 24) ?_)
        refine And.intro (by omega) ?_
        intro z24 hz24
        have e24 : z24 = z16 % 3600 := tm_pos hz24 (by omega)
        refine iB .quo 3 (.int .i64 z24) (.int .i64 60) (some 25) ?_
        refine And.intro (by omega) ?_
        intro z25 hz25
        have e25 : z25 = z16 % 3600 / 60 := by rw [quo_pos hz25 (by decide) (by omega) (by omega), e24]
        refine iC 55 [Iv z25, Iv 2] (some 26) (c_wide09 (n := z25) (w := 2) ⟨by omega, by omega⟩ (by decide)) ?_
        rintro _ rfl
        have p46 := padL_le (n := z25) (w := 2) ⟨by omega, by omega⟩ (by decide)
        refine iB .add 9 (.string s22) (.string (tx (padL z25 2))) (some 27) ?_
        refine And.intro (sz_le (m := (s22 : ByteArray).size) (n := ((padL z25 2)).length) rfl rfl (by omega)) ?_
        intro s27 hs27
        have hl27 : (s27 : ByteArray).size = (s22 : ByteArray).size + ((padL z25 2)).length := sz_add hs27 rfl rfl
        refine iQ 1 (iE 38 [(1, .p 1 0), (2, .d (Sv (⟨#[]⟩))), (3, .d (Sv s27)), (4, Ia z16), (7, Ba false), (10, Ba false), (14, Ba true)] [(1, [Iv s, Bv z, Iv o])] ?_)
        refine vc_seq (vc_seqr rfl (iQ 1 (iB .rem 3 (.int .i64 z16) (.int .i64 60) (some 29) ?_)))
        refine And.intro (by omega) ?_
        intro z29 hz29
        have e29 : z29 = z16 % 60 := tm_pos hz29 (by omega)
        refine iB .gtr 3 (.int .i64 z29) (.int .i64 0) (some 30) ?_
        intro c30 hc30
        refine iE 38 [(1, .p 1 0), (2, .d (Sv (⟨#[]⟩))), (3, .d (Sv s27)), (4, Ia z16), (7, Ba false), (10, Ba false), (14, Ba true), (30, Ba c30)] [(1, [Iv s, Bv z, Iv o])] ?_
        cases c30
        · replace hc30 := bf hc30
          refine iF (vc_skip (seq_n (vc_seqr rfl (iQ 2 (iE 38 [(1, .p 1 0), (2, .d (Sv s27)), (3, .d (Sv s27)), (4, Ia z16), (7, Ba false), (10, Ba false), (14, Ba true), (30, Ba false)] [(1, [Iv s, Bv z, Iv o])] ?_)))))
          refine vc_ret (iR (Sv s27) ?_)
          simp only [hs27, hs22, hs21, tx_lit, tx_append, e19, e25]; rw [hzl, offL, if_pos (by omega)]; all_goals simp only [List.append_assoc, List.cons_append, List.nil_append, List.append_nil]
        · replace hc30 := bt hc30
          refine iT (vc_reg rfl (iQ 1 (iB .add 9 (.string s27) (.string (⟨#[58]⟩)) (some 32) ?_)))
          refine And.intro (sz_le (m := (s27 : ByteArray).size) (n := 1) rfl rfl (by omega)) ?_
          intro s32 hs32
          have hl32 : (s32 : ByteArray).size = (s27 : ByteArray).size + 1 := sz_add hs32 rfl rfl
          refine iQ 1 (iB .rem 3 (.int .i64 z16) (.int .i64 60) (some 34) ?_)
          refine And.intro (by omega) ?_
          intro z34 hz34
          have e34 : z34 = z16 % 60 := tm_pos hz34 (by omega)
          refine iC 55 [Iv z34, Iv 2] (some 35) (c_wide09 (n := z34) (w := 2) ⟨by omega, by omega⟩ (by decide)) ?_
          rintro _ rfl
          have p55 := padL_le (n := z34) (w := 2) ⟨by omega, by omega⟩ (by decide)
          refine iB .add 9 (.string s32) (.string (tx (padL z34 2))) (some 36) ?_
          refine And.intro (sz_le (m := (s32 : ByteArray).size) (n := ((padL z34 2)).length) rfl rfl (by omega)) ?_
          intro s36 hs36
          have hl36 : (s36 : ByteArray).size = (s32 : ByteArray).size + ((padL z34 2)).length := sz_add hs36 rfl rfl
          refine iQ 1 (iE 38 [(1, .p 1 0), (2, .d (Sv (⟨#[]⟩))), (3, .d (Sv s36)), (4, Ia z16), (7, Ba false), (10, Ba false), (14, Ba true), (30, Ba true)] [(1, [Iv s, Bv z, Iv o])] ?_)
          refine seq_n (vc_seqr rfl (iQ 2 (iE 38 [(1, .p 1 0), (2, .d (Sv s36)), (3, .d (Sv s36)), (4, Ia z16), (7, Ba false), (10, Ba false), (14, Ba true), (30, Ba true)] [(1, [Iv s, Bv z, Iv o])] ?_)))
          refine vc_ret (iR (Sv s36) ?_)
          simp only [hs36, hs32, hs27, hs22, hs21, tx_lit, tx_append, e19, e25, e34]; rw [hzl, offL, if_neg (by omega)]; all_goals simp only [List.append_assoc, List.cons_append, List.nil_append, List.append_nil]
    · replace hc10 := bt hc10
      refine iT (vc_seqr rfl (iQ 1 (iE 38 [(1, .p 1 0), (2, .d (Sv (⟨#[90]⟩))), (7, Ba false), (10, Ba true)] [(1, [Iv s, Bv z, Iv o])] ?_)))
      refine vc_ret (seq_r (iR (Sv (⟨#[90]⟩)) ?_))
      rw [zoneL, if_neg hc7, if_pos hc10]; rfl
  · replace hc7 := bt hc7
    refine iT (vc_seqr rfl (iQ 1 (iE 38 [(1, .p 1 0), (2, .d (Sv (⟨#[]⟩))), (7, Ba true)] [(1, [Iv s, Bv z, Iv o])] ?_)))
    refine vc_ret (seq_r (iR (Sv (⟨#[]⟩)) ?_))
    rw [zoneL, if_pos hc7]; rfl

theorem c_time09 {s o : Int} {z : Bool} (hb : mayT s z o) : HasC Tryd.prog 20 [.agg [.v (.int .i64 s), .v (.bool z), .v (.int .i64 o)]] (fun r => r = .v (.string (tx (timeL s z o)))) := by
  refine HasC.of [] (fn := Tryd.f20) tyOk mixed (fun args w => Tryd.call20 args w) Tryd.func20 rfl (by kernel_rfl) (Nat.le_of_ble_eq_true rfl) (⟨_, rfl⟩) ?_
  have hb' := hb
  unfold mayT at hb'
  refine vc_seqr rfl (iQ 2 (iE 23 [(1, .p 1 0), (2, .d (Sv (⟨#[]⟩)))] [(1, [Iv s, Bv z, Iv o])] ?_))
  refine vc_seqr rfl (iQ 2 (iB .quo 3 (.int .i64 s) (.int .i64 3600) (some 5) ?_))
  refine And.intro (by omega) ?_
  intro z5 hz5
  have e5 : z5 = s / 3600 := quo_pos hz5 (by decide) (by omega) (by omega)
  refine iC 55 [Iv z5, Iv 2] (some 6) (c_wide09 (n := z5) (w := 2) ⟨by omega, by omega⟩ (by decide)) ?_
  rintro _ rfl
  have p1 := padL_le (n := z5) (w := 2) ⟨by omega, by omega⟩ (by decide)
  refine iB .add 9 (.string (tx (padL z5 2))) (.string (⟨#[58]⟩)) (some 7) ?_
  refine And.intro (sz_le (m := ((padL z5 2)).length) (n := 1) rfl rfl (by omega)) ?_
  intro s7 hs7
  have hl7 : (s7 : ByteArray).size = ((padL z5 2)).length + 1 := sz_add hs7 rfl rfl
  refine iQ 2 (iB .rem 3 (.int .i64 s) (.int .i64 3600) (some 10) ?_)
  refine And.intro (by omega) ?_
  intro z10 hz10
  have e10 : z10 = s % 3600 := tm_pos hz10 (by omega)
  refine iB .quo 3 (.int .i64 z10) (.int .i64 60) (some 11) ?_
  refine And.intro (by omega) ?_
  intro z11 hz11
  have e11 : z11 = s % 3600 / 60 := by rw [quo_pos hz11 (by decide) (by omega) (by omega), e10]
  refine iC 55 [Iv z11, Iv 2] (some 12) (c_wide09 (n := z11) (w := 2) ⟨by omega, by omega⟩ (by decide)) ?_
  rintro _ rfl
  have p2 := padL_le (n := z11) (w := 2) ⟨by omega, by omega⟩ (by decide)
  refine iB .add 9 (.string s7) (.string (tx (padL z11 2))) (some 13) ?_
  refine And.intro (sz_le (m := (s7 : ByteArray).size) (n := ((padL z11 2)).length) rfl rfl (by omega)) ?_
  intro s13 hs13
  have hl13 : (s13 : ByteArray).size = (s7 : ByteArray).size + ((padL z11 2)).length := sz_add hs13 rfl rfl
  refine iB .add 9 (.string s13) (.string (⟨#[58]⟩)) (some 14) ?_
  refine And.intro (sz_le (m := (s13 : ByteArray).size) (n := 1) rfl rfl (by omega)) ?_
  intro s14 hs14
  have hl14 : (s14 : ByteArray).size = (s13 : ByteArray).size + 1 := sz_add hs14 rfl rfl
  refine iQ 2 (iB .rem 3 (.int .i64 s) (.int .i64 60) (some 17) ?_)
  refine And.intro (by omega) ?_
  intro z17 hz17
  have e17 : z17 = s % 60 := tm_pos hz17 (by omega)
  refine iC 55 [Iv z17, Iv 2] (some 18) (c_wide09 (n := z17) (w := 2) ⟨by omega, by omega⟩ (by decide)) ?_
  rintro _ rfl
  have p3 := padL_le (n := z17) (w := 2) ⟨by omega, by omega⟩ (by decide)
  refine iB .add 9 (.string s14) (.string (tx (padL z17 2))) (some 19) ?_
  refine And.intro (sz_le (m := (s14 : ByteArray).size) (n := ((padL z17 2)).length) rfl rfl (by omega)) ?_
  intro s19 hs19
  have hl19 : (s19 : ByteArray).size = (s14 : ByteArray).size + ((padL z17 2)).length := sz_add hs19 rfl rfl
  refine iQ 1 (iC 59 [.agg [Iv s, Bv z, Iv o]] (some 21) (c_zone09 (by omega) (by omega)) ?_)
  rintro _ rfl
  have p4 := zoneL_le (o := o) z ⟨by omega, by omega⟩
  refine iB .add 9 (.string s19) (.string (tx (zoneL z o))) (some 22) ?_
  refine And.intro (sz_le (m := (s19 : ByteArray).size) (n := ((zoneL z o)).length) rfl rfl (by omega)) ?_
  intro s22 hs22
  have hl22 : (s22 : ByteArray).size = (s19 : ByteArray).size + ((zoneL z o)).length := sz_add hs22 rfl rfl
  refine iQ 1 (iE 23 [(2, .d (Sv s22))] [] ?_)
  refine vc_ret (iR (Sv s22) ?_)
  simp only [hs22, hs19, hs14, hs13, hs7, tx_lit, tx_append, e5, e11, e17]; rw [timeL]
theorem c_some {n : Int} {l : L8} (hn : i62 n) (hl : l.length ≤ 100) : HasC Tryd.prog 24 [.v (.int .i64 n), .v (.string (tx l))] (fun r => r = .v (.string (tx (pieceL n l)))) := by
  refine HasC.of [] (fn := Tryd.f24) tyOk mixed (fun args w => Tryd.call24 args w) Tryd.func24 rfl (by kernel_rfl) (Nat.le_of_ble_eq_true rfl) (⟨_, rfl⟩) ?_
  refine vc_seqr rfl (iQ 1 (iE 11 [(0, Ia n), (1, .d (Sv (tx l))), (4, .d (Sv (⟨#[]⟩)))] [] ?_))
  refine vc_seq (vc_seqr rfl (iQ 1 (iB .eql 3 (.int .i64 n) (.int .i64 0) (some 6) ?_)))
  intro c6 hc6
  refine iE 11 [(0, Ia n), (1, .d (Sv (tx l))), (4, .d (Sv (⟨#[]⟩))), (6, Ba c6)] [] ?_
  cases c6
  · replace hc6 := bf hc6
    refine iF (vc_skip (seq_n (vc_seqr rfl (iQ 1 (iC 61 [Iv n] (some 8) (c_rItoa hn) ?_)))))
    rintro _ rfl
    have p := itoa_len n hn.r
    refine iQ 1 (iB .add 9 (.string (tx (Lib.itoa n))) (.string (tx l)) (some 10) ?_)
    refine And.intro (sz_le (m := ((Lib.itoa n)).length) (n := (l).length) rfl rfl (by omega)) ?_
    intro s10 hs10
    have hl10 : (s10 : ByteArray).size = ((Lib.itoa n)).length + (l).length := sz_add hs10 rfl rfl
    refine iQ 1 (iE 11 [(0, Ia n), (4, .d (Sv s10)), (6, Ba false)] [] ?_)
    refine vc_ret (iR (Sv s10) ?_)
    simp only [hs10, tx_append]; rw [pieceL, if_neg hc6]
  · replace hc6 := bt hc6
    refine iT (vc_seqr rfl (iQ 1 (iE 11 [(0, Ia n), (1, .d (Sv (tx l))), (4, .d (Sv (⟨#[]⟩))), (6, Ba true)] [] ?_)))
    refine vc_ret (seq_r (iR (Sv (⟨#[]⟩)) ?_))
    rw [pieceL, if_pos hc6]; rfl
theorem c_lexDateM {y m d : Int} (h : mayD y m d) : HasC Tryd.prog 17 [.agg [.v (.int .i64 y), .v (.int .i64 m), .v (.int .i64 d)]] (fun r => r = .v (.string (tx (dateL y m d)))) := by
  have c := c_lexDate (y := y) (m := m) (d := d)
  rwa [dateT, if_pos h] at c
theorem c_lexTimeM {s o : Int} {z : Bool} (h : mayT s z o) : HasC Tryd.prog 19 [.agg [.v (.int .i64 s), .v (.bool z), .v (.int .i64 o)]] (fun r => r = .v (.string (tx (timeL s z o)))) := by
  have c := c_lexTime (s := s) (z := z) (o := o)
  rwa [timeT, if_pos h] at c
theorem c_lexMomentM {y m d s o : Int} {z : Bool} (h : mayD y m d) (k : mayT s z o) : HasC Tryd.prog 21 [.agg [.v (.int .i64 y), .v (.int .i64 m), .v (.int .i64 d), .v (.int .i64 s), .v (.bool z), .v (.int .i64 o)]] (fun r => r = .v (.string (tx (dateL y m d ++ [84] ++ timeL s z o)))) := by
  have c := c_lexMoment (y := y) (m := m) (d := d) (s := s) (z := z) (o := o)
  rw [momT, if_pos ⟨h, k⟩] at c
  simpa using c

set_option maxHeartbeats 1600000 in
theorem c_LexicalTells {y m d s o n : Int} {z : Bool} (hn : i64R n) : HasC Tryd.prog 4 [.agg [.v (.int .i64 y), .v (.int .i64 m), .v (.int .i64 d), .v (.int .i64 s), .v (.int .i64 o), .v (.bool z)], .v (.int .i64 n)] (fun r => r = .v (.bool true)) := by
  refine HasC.of [] (fn := Tryd.f4) tyOk mixed (fun args w => Tryd.call4 args w) Tryd.func4 rfl (by kernel_rfl) (Nat.le_of_ble_eq_true rfl) (⟨_, rfl⟩) ?_
  refine vc_seqr rfl (iQ 2 (iE 108 [(1, Ia n), (2, .p 2 0), (4, Ba false)] [(2, [Iv y, Iv m, Iv d, Iv s, Iv o, Bv z])] ?_))
  refine vc_seq (vc_seqr rfl (iC 11 [] (some 11) (c_awake09) ?_))
  rintro _ rfl
  refine iU .not (.bool true) (some 12) ?_
  intro c12 hc12
  refine iE 108 [(1, Ia n), (2, .p 2 0), (4, Ba false), (12, Ba c12)] [(2, [Iv y, Iv m, Iv d, Iv s, Iv o, Bv z])] ?_
  obtain rfl : c12 = false := bff hc12 (by simp)
  refine iF (vc_skip (seq_n (vc_seqr rfl (iQ 1 (iC 16 [.agg [Iv y, Iv m, Iv d, Iv s, Iv o, Bv z]] (some 14) (c_mkMom) ?_)))))
  rintro _ ⟨y', m', d', s', o', rfl, hd, ht⟩
  have pd := dateL_le hd
  have pt := timeL_le ht
  refine iQ 2 (iE 108 [(1, Ia n), (4, Ba false), (5, .p 5 0), (12, Ba false)] [(5, [Iv y', Iv m', Iv d', Iv s', Bv z, Iv o'])] ?_)
  refine vc_seq (vc_seqr rfl (iQ 2 (iC 17 [.agg [Iv y', Iv m', Iv d']] (some 17) (c_lexDateM hd) ?_)))
  rintro _ rfl
  refine iQ 2 (iC 18 [.agg [Iv y', Iv m', Iv d']] (some 20) (c_date09 hd) ?_)
  rintro _ rfl
  refine iB .neq 9 (.string (tx (dateL y' m' d'))) (.string (tx (dateL y' m' d'))) (some 21) ?_
  intro c21 hc21
  refine iQ 1 ?_
  obtain rfl : c21 = false := bff hc21 (by simp)
  refine iQ 2 (iC 19 [.agg [Iv s', Bv z, Iv o']] (some 25) (c_lexTimeM ht) ?_)
  rintro _ rfl
  refine iQ 2 (iC 20 [.agg [Iv s', Bv z, Iv o']] (some 28) (c_time09 ht) ?_)
  rintro _ rfl
  refine iB .neq 9 (.string (tx (timeL s' z o'))) (.string (tx (timeL s' z o'))) (some 29) ?_
  intro c29 hc29
  refine iQ 2 ?_
  obtain rfl : c29 = false := bff hc29 (by simp)
  refine iQ 1 (iC 21 [.agg [Iv y', Iv m', Iv d', Iv s', Bv z, Iv o']] (some 33) (c_lexMomentM hd ht) ?_)
  rintro _ rfl
  refine iQ 2 (iC 18 [.agg [Iv y', Iv m', Iv d']] (some 36) (c_date09 hd) ?_)
  rintro _ rfl
  refine iB .add 9 (.string (tx (dateL y' m' d'))) (.string (⟨#[84]⟩)) (some 37) ?_
  refine And.intro (sz_le (m := ((dateL y' m' d')).length) (n := 1) rfl rfl (by omega)) ?_
  intro s37 hs37
  have hl37 : (s37 : ByteArray).size = ((dateL y' m' d')).length + 1 := sz_add hs37 rfl rfl
  refine iQ 2 (iC 20 [.agg [Iv s', Bv z, Iv o']] (some 40) (c_time09 ht) ?_)
  rintro _ rfl
  refine iB .add 9 (.string s37) (.string (tx (timeL s' z o'))) (some 41) ?_
  refine And.intro (sz_le (m := (s37 : ByteArray).size) (n := ((timeL s' z o')).length) rfl rfl (by omega)) ?_
  intro s41 hs41
  have hl41 : (s41 : ByteArray).size = (s37 : ByteArray).size + ((timeL s' z o')).length := sz_add hs41 rfl rfl
  refine iB .neq 9 (.string (tx (dateL y' m' d' ++ [84] ++ timeL s' z o'))) (.string s41) (some 42) ?_
  intro c42 hc42
  refine iQ 1 (iE 108 [(1, Ia n), (4, Ba false), (5, .p 5 0), (12, Ba false), (43, Ba c42)] [(5, [Iv y', Iv m', Iv d', Iv s', Bv z, Iv o'])] ?_)
  obtain rfl : c42 = false := bff hc42 (by simp only [hs41, hs37, tx_lit, tx_append]; simp)
  refine iF (vc_skip (seq_n (vc_seq (vc_seqr rfl (iQ 1 (iB .lss 3 (.int .i64 n) (.int .i64 (-9007199254740992)) (some 45) ?_))))))
  intro c45 hc45
  refine iQ 1 ?_
  cases c45
  · replace hc45 := bf hc45
    refine iQ 1 (iB .gtr 3 (.int .i64 n) (.int .i64 9007199254740992) (some 48) ?_)
    intro c48 hc48
    refine iQ 1 (iE 108 [(1, Ia n), (4, Ba false), (5, .p 5 0), (12, Ba false), (43, Ba false), (49, Ba c48)] [(5, [Iv y', Iv m', Iv d', Iv s', Bv z, Iv o'])] ?_)
    cases c48
    · replace hc48 := bf hc48
      refine iF (vc_skip (seq_n (vc_seqr rfl (iQ 3 (iE 108 [(1, Ia n), (4, Ba false), (5, .p 5 0), (6, .d (Sv (⟨#[80]⟩))), (7, Ia n), (12, Ba false), (43, Ba false), (49, Ba false)] [(5, [Iv y', Iv m', Iv d', Iv s', Bv z, Iv o'])] ?_)))))
      refine vc_seq (vc_seqr rfl (iQ 1 (iB .lss 3 (.int .i64 n) (.int .i64 0) (some 60) ?_)))
      intro c60 hc60
      refine iE 108 [(1, Ia n), (4, Ba false), (5, .p 5 0), (6, .d (Sv (⟨#[80]⟩))), (7, Ia n), (12, Ba false), (43, Ba false), (49, Ba false), (60, Ba c60)] [(5, [Iv y', Iv m', Iv d', Iv s', Bv z, Iv o'])] ?_
      cases c60
      · replace hc60 := bf hc60
        have hab : absI n = n := by unfold absI; rw [if_neg hc60]
        have hsg : signL n = [] := by unfold signL; rw [if_neg hc60]
        refine iF (vc_skip (seq_n (vc_seqr rfl (iQ 1 (iB .rem 3 (.int .i64 n) (.int .i64 86400) (some 64) ?_)))))
        refine And.intro (by omega) ?_
        intro z64 hz64
        have e64 : z64 = n % 86400 := tm_pos hz64 (by omega)
        refine iB .quo 3 (.int .i64 z64) (.int .i64 3600) (some 65) ?_
        refine And.intro (by omega) ?_
        intro z65 hz65
        have e65 : z65 = n % 86400 / 3600 := by rw [quo_pos hz65 (by decide) (by omega) (by omega), e64]
        refine iC 24 [Iv z65, Sv (⟨#[72]⟩)] (some 66) (c_some (l := [72]) ⟨by omega, by omega⟩ (by decide)) ?_
        rintro _ rfl
        have p65 := pieceL_le [72] (n := z65) ⟨by omega, by omega⟩
        simp only [List.length_cons, List.length_nil] at p65
        refine iQ 1 (iB .rem 3 (.int .i64 n) (.int .i64 3600) (some 68) ?_)
        refine And.intro (by omega) ?_
        intro z68 hz68
        have e68 : z68 = n % 3600 := tm_pos hz68 (by omega)
        refine iB .quo 3 (.int .i64 z68) (.int .i64 60) (some 69) ?_
        refine And.intro (by omega) ?_
        intro z69 hz69
        have e69 : z69 = n % 3600 / 60 := by rw [quo_pos hz69 (by decide) (by omega) (by omega), e68]
        refine iC 24 [Iv z69, Sv (⟨#[77]⟩)] (some 70) (c_some (l := [77]) ⟨by omega, by omega⟩ (by decide)) ?_
        rintro _ rfl
        have p69 := pieceL_le [77] (n := z69) ⟨by omega, by omega⟩
        simp only [List.length_cons, List.length_nil] at p69
        refine iB .add 9 (.string (tx (pieceL z65 [72]))) (.string (tx (pieceL z69 [77]))) (some 71) ?_
        refine And.intro (sz_le (m := ((pieceL z65 [72])).length) (n := ((pieceL z69 [77])).length) rfl rfl (by omega)) ?_
        intro s71 hs71
        have hl71 : (s71 : ByteArray).size = ((pieceL z65 [72])).length + ((pieceL z69 [77])).length := sz_add hs71 rfl rfl
        refine iQ 1 (iB .rem 3 (.int .i64 n) (.int .i64 60) (some 73) ?_)
        refine And.intro (by omega) ?_
        intro z73 hz73
        have e73 : z73 = n % 60 := tm_pos hz73 (by omega)
        refine iC 24 [Iv z73, Sv (⟨#[83]⟩)] (some 74) (c_some (l := [83]) ⟨by omega, by omega⟩ (by decide)) ?_
        rintro _ rfl
        have p73 := pieceL_le [83] (n := z73) ⟨by omega, by omega⟩
        simp only [List.length_cons, List.length_nil] at p73
        refine iB .add 9 (.string s71) (.string (tx (pieceL z73 [83]))) (some 75) ?_
        refine And.intro (sz_le (m := (s71 : ByteArray).size) (n := ((pieceL z73 [83])).length) rfl rfl (by omega)) ?_
        intro s75 hs75
        have hl75 : (s75 : ByteArray).size = (s71 : ByteArray).size + ((pieceL z73 [83])).length := sz_add hs75 rfl rfl
        have e75 : s75 = tx (restL n) := by rw [hs75, hs71, tx_append, tx_append, e65, e69, e73]; rfl
        refine iQ 1 (iE 108 [(1, Ia n), (4, Ba false), (5, .p 5 0), (6, .d (Sv (⟨#[80]⟩))), (7, Ia n), (8, .d (Sv s75)), (12, Ba false), (43, Ba false), (49, Ba false), (60, Ba false)] [(5, [Iv y', Iv m', Iv d', Iv s', Bv z, Iv o'])] ?_)
        refine vc_seq (vc_seqr rfl (iQ 1 (iB .neq 9 (.string s75) (.string (⟨#[]⟩)) (some 77) ?_)))
        intro c77 hc77
        refine iE 108 [(1, Ia n), (4, Ba false), (5, .p 5 0), (6, .d (Sv (⟨#[80]⟩))), (7, Ia n), (8, .d (Sv s75)), (12, Ba false), (43, Ba false), (49, Ba false), (60, Ba false), (77, Ba c77)] [(5, [Iv y', Iv m', Iv d', Iv s', Bv z, Iv o'])] ?_
        cases c77
        · replace hc77 := bf hc77
          have k1 : restL n = [] := (txn_iff e75).1 (Classical.not_not.1 hc77)
          refine iF (vc_skip (seq_n (vc_seqr rfl (iQ 2 (iB .quo 3 (.int .i64 n) (.int .i64 86400) (some 82) ?_)))))
          refine And.intro (by omega) ?_
          intro z82 hz82
          have e82 : z82 = n / 86400 := quo_pos hz82 (by decide) (by omega) (by omega)
          refine iC 24 [Iv z82, Sv (⟨#[68]⟩)] (some 83) (c_some (l := [68]) ⟨by omega, by omega⟩ (by decide)) ?_
          rintro _ rfl
          have p82 := pieceL_le [68] (n := z82) ⟨by omega, by omega⟩
          simp only [List.length_cons, List.length_nil] at p82
          refine iB .add 9 (.string (⟨#[80]⟩)) (.string (tx (pieceL z82 [68]))) (some 84) ?_
          refine And.intro (sz_le (m := 1) (n := ((pieceL z82 [68])).length) rfl rfl (by omega)) ?_
          intro s84 hs84
          have hl84 : (s84 : ByteArray).size = 1 + ((pieceL z82 [68])).length := sz_add hs84 rfl rfl
          refine iQ 1 (iB .add 9 (.string s84) (.string s75) (some 86) ?_)
          refine And.intro (sz_le (m := (s84 : ByteArray).size) (n := (s75 : ByteArray).size) rfl rfl (by omega)) ?_
          intro s86 hs86
          have hl86 : (s86 : ByteArray).size = (s84 : ByteArray).size + (s75 : ByteArray).size := sz_add hs86 rfl rfl
          refine iQ 2 (iB .quo 3 (.int .i64 n) (.int .i64 12) (some 89) ?_)
          refine And.intro (by omega) ?_
          intro z89 hz89
          have e89 : z89 = n / 12 := quo_pos hz89 (by decide) (by omega) (by omega)
          refine iC 24 [Iv z89, Sv (⟨#[89]⟩)] (some 90) (c_some (l := [89]) ⟨by omega, by omega⟩ (by decide)) ?_
          rintro _ rfl
          have p89 := pieceL_le [89] (n := z89) ⟨by omega, by omega⟩
          simp only [List.length_cons, List.length_nil] at p89
          refine iB .add 9 (.string (⟨#[80]⟩)) (.string (tx (pieceL z89 [89]))) (some 91) ?_
          refine And.intro (sz_le (m := 1) (n := ((pieceL z89 [89])).length) rfl rfl (by omega)) ?_
          intro s91 hs91
          have hl91 : (s91 : ByteArray).size = 1 + ((pieceL z89 [89])).length := sz_add hs91 rfl rfl
          refine iQ 1 (iB .rem 3 (.int .i64 n) (.int .i64 12) (some 93) ?_)
          refine And.intro (by omega) ?_
          intro z93 hz93
          have e93 : z93 = n % 12 := tm_pos hz93 (by omega)
          refine iC 24 [Iv z93, Sv (⟨#[77]⟩)] (some 94) (c_some (l := [77]) ⟨by omega, by omega⟩ (by decide)) ?_
          rintro _ rfl
          have p93 := pieceL_le [77] (n := z93) ⟨by omega, by omega⟩
          simp only [List.length_cons, List.length_nil] at p93
          refine iB .add 9 (.string s91) (.string (tx (pieceL z93 [77]))) (some 95) ?_
          refine And.intro (sz_le (m := (s91 : ByteArray).size) (n := ((pieceL z93 [77])).length) rfl rfl (by omega)) ?_
          intro s95 hs95
          have hl95 : (s95 : ByteArray).size = (s91 : ByteArray).size + ((pieceL z93 [77])).length := sz_add hs95 rfl rfl
          refine iQ 2 (iE 108 [(1, Ia n), (4, Ba false), (5, .p 5 0), (7, Ia n), (8, .d (Sv s75)), (9, .d (Sv s86)), (10, .d (Sv s95)), (12, Ba false), (43, Ba false), (49, Ba false), (60, Ba false), (77, Ba false)] [(5, [Iv y', Iv m', Iv d', Iv s', Bv z, Iv o'])] ?_)
          refine vc_seq (vc_seqr rfl (iQ 1 (iB .eql 3 (.int .i64 n) (.int .i64 0) (some 97) ?_)))
          intro c97 hc97
          refine iE 108 [(1, Ia n), (4, Ba false), (5, .p 5 0), (7, Ia n), (8, .d (Sv s75)), (9, .d (Sv s86)), (10, .d (Sv s95)), (12, Ba false), (43, Ba false), (49, Ba false), (60, Ba false), (77, Ba false), (97, Ba c97)] [(5, [Iv y', Iv m', Iv d', Iv s', Bv z, Iv o'])] ?_
          cases c97
          · replace hc97 := bf hc97
            refine iF (vc_skip (seq_n (vc_seqr rfl (iQ 1 (iC 22 [Iv n] (some 99) (c_lexDays) ?_)))))
            rintro _ rfl
            refine iQ 1 (iB .eql 9 (.string (tx (daysT n))) (.string s86) (some 101) ?_)
            intro c101 hc101
            refine iQ 1 ?_
            obtain rfl : c101 = true := hc101.2 ((by rw [daysT, if_neg (by omega), if_neg hc97, hab, hsg, hs86, hs84]; first | (rw [if_neg k1, hs79, e75]; simp only [tx_lit, tx_append, e82, List.append_assoc, List.cons_append, List.nil_append]) | (rw [if_pos k1, e75, k1]; simp only [tx_lit, tx_append, e82, List.append_assoc, List.cons_append, List.nil_append])))
            refine iQ 1 (iC 23 [Iv n] (some 104) (c_lexMonths) ?_)
            rintro _ rfl
            refine iQ 1 (iB .eql 9 (.string (tx (monthsT n))) (.string s95) (some 106) ?_)
            intro c106 hc106
            refine iQ 2 (iE 108 [(1, Ia n), (4, Ba c106), (5, .p 5 0), (7, Ia n), (8, .d (Sv s75)), (12, Ba false), (43, Ba false), (49, Ba false), (60, Ba false), (77, Ba false), (97, Ba false)] [(5, [Iv y', Iv m', Iv d', Iv s', Bv z, Iv o'])] ?_)
            refine vc_ret (iR (Bv c106) ?_)
            rw [hc106.2 (by rw [monthsT, if_neg (by omega), if_neg hc97, hab, hsg, hs95, hs91]; simp only [tx_lit, tx_append, e89, e93, List.append_assoc, List.cons_append, List.nil_append])]
          · replace hc97 := bt hc97
            refine iT (vc_reg rfl (iQ 2 (iE 108 [(1, Ia n), (4, Ba false), (5, .p 5 0), (7, Ia n), (8, .d (Sv s75)), (9, .d (Sv (⟨#[80, 84, 48, 83]⟩))), (10, .d (Sv (⟨#[80, 48, 77]⟩))), (12, Ba false), (43, Ba false), (49, Ba false), (60, Ba false), (77, Ba false), (97, Ba true)] [(5, [Iv y', Iv m', Iv d', Iv s', Bv z, Iv o'])] ?_)))
            refine seq_n (vc_seqr rfl (iQ 1 (iC 22 [Iv n] (some 99) (c_lexDays) ?_)))
            rintro _ rfl
            refine iQ 1 (iB .eql 9 (.string (tx (daysT n))) (.string (⟨#[80, 84, 48, 83]⟩)) (some 101) ?_)
            intro c101 hc101
            refine iQ 1 ?_
            obtain rfl : c101 = true := hc101.2 ((by rw [daysT, if_neg (by omega), if_pos hc97]; rfl))
            refine iQ 1 (iC 23 [Iv n] (some 104) (c_lexMonths) ?_)
            rintro _ rfl
            refine iQ 1 (iB .eql 9 (.string (tx (monthsT n))) (.string (⟨#[80, 48, 77]⟩)) (some 106) ?_)
            intro c106 hc106
            refine iQ 2 (iE 108 [(1, Ia n), (4, Ba c106), (5, .p 5 0), (7, Ia n), (8, .d (Sv s75)), (12, Ba false), (43, Ba false), (49, Ba false), (60, Ba false), (77, Ba false), (97, Ba true)] [(5, [Iv y', Iv m', Iv d', Iv s', Bv z, Iv o'])] ?_)
            refine vc_ret (iR (Bv c106) ?_)
            rw [hc106.2 (by rw [monthsT, if_neg (by omega), if_pos hc97]; rfl)]
        · replace hc77 := bt hc77
          have k1 : restL n ≠ [] := fun h => hc77 ((txn_iff e75).2 h)
          refine iT (vc_reg rfl (iQ 1 (iB .add 9 (.string (⟨#[84]⟩)) (.string s75) (some 79) ?_)))
          refine And.intro (sz_le (m := 1) (n := (s75 : ByteArray).size) rfl rfl (by omega)) ?_
          intro s79 hs79
          have hl79 : (s79 : ByteArray).size = 1 + (s75 : ByteArray).size := sz_add hs79 rfl rfl
          refine iQ 1 (iE 108 [(1, Ia n), (4, Ba false), (5, .p 5 0), (6, .d (Sv (⟨#[80]⟩))), (7, Ia n), (8, .d (Sv s79)), (12, Ba false), (43, Ba false), (49, Ba false), (60, Ba false), (77, Ba true)] [(5, [Iv y', Iv m', Iv d', Iv s', Bv z, Iv o'])] ?_)
          refine seq_n (vc_seqr rfl (iQ 2 (iB .quo 3 (.int .i64 n) (.int .i64 86400) (some 82) ?_)))
          refine And.intro (by omega) ?_
          intro z82 hz82
          have e82 : z82 = n / 86400 := quo_pos hz82 (by decide) (by omega) (by omega)
          refine iC 24 [Iv z82, Sv (⟨#[68]⟩)] (some 83) (c_some (l := [68]) ⟨by omega, by omega⟩ (by decide)) ?_
          rintro _ rfl
          have p82 := pieceL_le [68] (n := z82) ⟨by omega, by omega⟩
          simp only [List.length_cons, List.length_nil] at p82
          refine iB .add 9 (.string (⟨#[80]⟩)) (.string (tx (pieceL z82 [68]))) (some 84) ?_
          refine And.intro (sz_le (m := 1) (n := ((pieceL z82 [68])).length) rfl rfl (by omega)) ?_
          intro s84 hs84
          have hl84 : (s84 : ByteArray).size = 1 + ((pieceL z82 [68])).length := sz_add hs84 rfl rfl
          refine iQ 1 (iB .add 9 (.string s84) (.string s79) (some 86) ?_)
          refine And.intro (sz_le (m := (s84 : ByteArray).size) (n := (s79 : ByteArray).size) rfl rfl (by omega)) ?_
          intro s86 hs86
          have hl86 : (s86 : ByteArray).size = (s84 : ByteArray).size + (s79 : ByteArray).size := sz_add hs86 rfl rfl
          refine iQ 2 (iB .quo 3 (.int .i64 n) (.int .i64 12) (some 89) ?_)
          refine And.intro (by omega) ?_
          intro z89 hz89
          have e89 : z89 = n / 12 := quo_pos hz89 (by decide) (by omega) (by omega)
          refine iC 24 [Iv z89, Sv (⟨#[89]⟩)] (some 90) (c_some (l := [89]) ⟨by omega, by omega⟩ (by decide)) ?_
          rintro _ rfl
          have p89 := pieceL_le [89] (n := z89) ⟨by omega, by omega⟩
          simp only [List.length_cons, List.length_nil] at p89
          refine iB .add 9 (.string (⟨#[80]⟩)) (.string (tx (pieceL z89 [89]))) (some 91) ?_
          refine And.intro (sz_le (m := 1) (n := ((pieceL z89 [89])).length) rfl rfl (by omega)) ?_
          intro s91 hs91
          have hl91 : (s91 : ByteArray).size = 1 + ((pieceL z89 [89])).length := sz_add hs91 rfl rfl
          refine iQ 1 (iB .rem 3 (.int .i64 n) (.int .i64 12) (some 93) ?_)
          refine And.intro (by omega) ?_
          intro z93 hz93
          have e93 : z93 = n % 12 := tm_pos hz93 (by omega)
          refine iC 24 [Iv z93, Sv (⟨#[77]⟩)] (some 94) (c_some (l := [77]) ⟨by omega, by omega⟩ (by decide)) ?_
          rintro _ rfl
          have p93 := pieceL_le [77] (n := z93) ⟨by omega, by omega⟩
          simp only [List.length_cons, List.length_nil] at p93
          refine iB .add 9 (.string s91) (.string (tx (pieceL z93 [77]))) (some 95) ?_
          refine And.intro (sz_le (m := (s91 : ByteArray).size) (n := ((pieceL z93 [77])).length) rfl rfl (by omega)) ?_
          intro s95 hs95
          have hl95 : (s95 : ByteArray).size = (s91 : ByteArray).size + ((pieceL z93 [77])).length := sz_add hs95 rfl rfl
          refine iQ 2 (iE 108 [(1, Ia n), (4, Ba false), (5, .p 5 0), (7, Ia n), (8, .d (Sv s79)), (9, .d (Sv s86)), (10, .d (Sv s95)), (12, Ba false), (43, Ba false), (49, Ba false), (60, Ba false), (77, Ba true)] [(5, [Iv y', Iv m', Iv d', Iv s', Bv z, Iv o'])] ?_)
          refine vc_seq (vc_seqr rfl (iQ 1 (iB .eql 3 (.int .i64 n) (.int .i64 0) (some 97) ?_)))
          intro c97 hc97
          refine iE 108 [(1, Ia n), (4, Ba false), (5, .p 5 0), (7, Ia n), (8, .d (Sv s79)), (9, .d (Sv s86)), (10, .d (Sv s95)), (12, Ba false), (43, Ba false), (49, Ba false), (60, Ba false), (77, Ba true), (97, Ba c97)] [(5, [Iv y', Iv m', Iv d', Iv s', Bv z, Iv o'])] ?_
          cases c97
          · replace hc97 := bf hc97
            refine iF (vc_skip (seq_n (vc_seqr rfl (iQ 1 (iC 22 [Iv n] (some 99) (c_lexDays) ?_)))))
            rintro _ rfl
            refine iQ 1 (iB .eql 9 (.string (tx (daysT n))) (.string s86) (some 101) ?_)
            intro c101 hc101
            refine iQ 1 ?_
            obtain rfl : c101 = true := hc101.2 ((by rw [daysT, if_neg (by omega), if_neg hc97, hab, hsg, hs86, hs84]; first | (rw [if_neg k1, hs79, e75]; simp only [tx_lit, tx_append, e82, List.append_assoc, List.cons_append, List.nil_append]) | (rw [if_pos k1, e75, k1]; simp only [tx_lit, tx_append, e82, List.append_assoc, List.cons_append, List.nil_append])))
            refine iQ 1 (iC 23 [Iv n] (some 104) (c_lexMonths) ?_)
            rintro _ rfl
            refine iQ 1 (iB .eql 9 (.string (tx (monthsT n))) (.string s95) (some 106) ?_)
            intro c106 hc106
            refine iQ 2 (iE 108 [(1, Ia n), (4, Ba c106), (5, .p 5 0), (7, Ia n), (8, .d (Sv s79)), (12, Ba false), (43, Ba false), (49, Ba false), (60, Ba false), (77, Ba true), (97, Ba false)] [(5, [Iv y', Iv m', Iv d', Iv s', Bv z, Iv o'])] ?_)
            refine vc_ret (iR (Bv c106) ?_)
            rw [hc106.2 (by rw [monthsT, if_neg (by omega), if_neg hc97, hab, hsg, hs95, hs91]; simp only [tx_lit, tx_append, e89, e93, List.append_assoc, List.cons_append, List.nil_append])]
          · replace hc97 := bt hc97
            refine iT (vc_reg rfl (iQ 2 (iE 108 [(1, Ia n), (4, Ba false), (5, .p 5 0), (7, Ia n), (8, .d (Sv s79)), (9, .d (Sv (⟨#[80, 84, 48, 83]⟩))), (10, .d (Sv (⟨#[80, 48, 77]⟩))), (12, Ba false), (43, Ba false), (49, Ba false), (60, Ba false), (77, Ba true), (97, Ba true)] [(5, [Iv y', Iv m', Iv d', Iv s', Bv z, Iv o'])] ?_)))
            refine seq_n (vc_seqr rfl (iQ 1 (iC 22 [Iv n] (some 99) (c_lexDays) ?_)))
            rintro _ rfl
            refine iQ 1 (iB .eql 9 (.string (tx (daysT n))) (.string (⟨#[80, 84, 48, 83]⟩)) (some 101) ?_)
            intro c101 hc101
            refine iQ 1 ?_
            obtain rfl : c101 = true := hc101.2 ((by rw [daysT, if_neg (by omega), if_pos hc97]; rfl))
            refine iQ 1 (iC 23 [Iv n] (some 104) (c_lexMonths) ?_)
            rintro _ rfl
            refine iQ 1 (iB .eql 9 (.string (tx (monthsT n))) (.string (⟨#[80, 48, 77]⟩)) (some 106) ?_)
            intro c106 hc106
            refine iQ 2 (iE 108 [(1, Ia n), (4, Ba c106), (5, .p 5 0), (7, Ia n), (8, .d (Sv s79)), (12, Ba false), (43, Ba false), (49, Ba false), (60, Ba false), (77, Ba true), (97, Ba true)] [(5, [Iv y', Iv m', Iv d', Iv s', Bv z, Iv o'])] ?_)
            refine vc_ret (iR (Bv c106) ?_)
            rw [hc106.2 (by rw [monthsT, if_neg (by omega), if_pos hc97]; rfl)]
      · replace hc60 := bt hc60
        refine iT (vc_reg rfl (iQ 1 (iU .neg (.int .i64 n) (some 62) ?_)))
        intro z62 hz62
        try replace hz62 := hz62.i64 (by omega)
        have e62 : z62 = -n := by omega
        have hab : absI n = z62 := by unfold absI; rw [if_pos hc60, e62]
        have hsg : signL n = [45] := by unfold signL; rw [if_pos hc60]
        refine iQ 2 (iE 108 [(1, Ia n), (4, Ba false), (5, .p 5 0), (6, .d (Sv (⟨#[45, 80]⟩))), (7, Ia z62), (12, Ba false), (43, Ba false), (49, Ba false), (60, Ba true)] [(5, [Iv y', Iv m', Iv d', Iv s', Bv z, Iv o'])] ?_)
        refine seq_n (vc_seqr rfl (iQ 1 (iB .rem 3 (.int .i64 z62) (.int .i64 86400) (some 64) ?_)))
        refine And.intro (by omega) ?_
        intro z64 hz64
        have e64 : z64 = z62 % 86400 := tm_pos hz64 (by omega)
        refine iB .quo 3 (.int .i64 z64) (.int .i64 3600) (some 65) ?_
        refine And.intro (by omega) ?_
        intro z65 hz65
        have e65 : z65 = z62 % 86400 / 3600 := by rw [quo_pos hz65 (by decide) (by omega) (by omega), e64]
        refine iC 24 [Iv z65, Sv (⟨#[72]⟩)] (some 66) (c_some (l := [72]) ⟨by omega, by omega⟩ (by decide)) ?_
        rintro _ rfl
        have p65 := pieceL_le [72] (n := z65) ⟨by omega, by omega⟩
        simp only [List.length_cons, List.length_nil] at p65
        refine iQ 1 (iB .rem 3 (.int .i64 z62) (.int .i64 3600) (some 68) ?_)
        refine And.intro (by omega) ?_
        intro z68 hz68
        have e68 : z68 = z62 % 3600 := tm_pos hz68 (by omega)
        refine iB .quo 3 (.int .i64 z68) (.int .i64 60) (some 69) ?_
        refine And.intro (by omega) ?_
        intro z69 hz69
        have e69 : z69 = z62 % 3600 / 60 := by rw [quo_pos hz69 (by decide) (by omega) (by omega), e68]
        refine iC 24 [Iv z69, Sv (⟨#[77]⟩)] (some 70) (c_some (l := [77]) ⟨by omega, by omega⟩ (by decide)) ?_
        rintro _ rfl
        have p69 := pieceL_le [77] (n := z69) ⟨by omega, by omega⟩
        simp only [List.length_cons, List.length_nil] at p69
        refine iB .add 9 (.string (tx (pieceL z65 [72]))) (.string (tx (pieceL z69 [77]))) (some 71) ?_
        refine And.intro (sz_le (m := ((pieceL z65 [72])).length) (n := ((pieceL z69 [77])).length) rfl rfl (by omega)) ?_
        intro s71 hs71
        have hl71 : (s71 : ByteArray).size = ((pieceL z65 [72])).length + ((pieceL z69 [77])).length := sz_add hs71 rfl rfl
        refine iQ 1 (iB .rem 3 (.int .i64 z62) (.int .i64 60) (some 73) ?_)
        refine And.intro (by omega) ?_
        intro z73 hz73
        have e73 : z73 = z62 % 60 := tm_pos hz73 (by omega)
        refine iC 24 [Iv z73, Sv (⟨#[83]⟩)] (some 74) (c_some (l := [83]) ⟨by omega, by omega⟩ (by decide)) ?_
        rintro _ rfl
        have p73 := pieceL_le [83] (n := z73) ⟨by omega, by omega⟩
        simp only [List.length_cons, List.length_nil] at p73
        refine iB .add 9 (.string s71) (.string (tx (pieceL z73 [83]))) (some 75) ?_
        refine And.intro (sz_le (m := (s71 : ByteArray).size) (n := ((pieceL z73 [83])).length) rfl rfl (by omega)) ?_
        intro s75 hs75
        have hl75 : (s75 : ByteArray).size = (s71 : ByteArray).size + ((pieceL z73 [83])).length := sz_add hs75 rfl rfl
        have e75 : s75 = tx (restL z62) := by rw [hs75, hs71, tx_append, tx_append, e65, e69, e73]; rfl
        refine iQ 1 (iE 108 [(1, Ia n), (4, Ba false), (5, .p 5 0), (6, .d (Sv (⟨#[45, 80]⟩))), (7, Ia z62), (8, .d (Sv s75)), (12, Ba false), (43, Ba false), (49, Ba false), (60, Ba true)] [(5, [Iv y', Iv m', Iv d', Iv s', Bv z, Iv o'])] ?_)
        refine vc_seq (vc_seqr rfl (iQ 1 (iB .neq 9 (.string s75) (.string (⟨#[]⟩)) (some 77) ?_)))
        intro c77 hc77
        refine iE 108 [(1, Ia n), (4, Ba false), (5, .p 5 0), (6, .d (Sv (⟨#[45, 80]⟩))), (7, Ia z62), (8, .d (Sv s75)), (12, Ba false), (43, Ba false), (49, Ba false), (60, Ba true), (77, Ba c77)] [(5, [Iv y', Iv m', Iv d', Iv s', Bv z, Iv o'])] ?_
        cases c77
        · replace hc77 := bf hc77
          have k1 : restL z62 = [] := (txn_iff e75).1 (Classical.not_not.1 hc77)
          refine iF (vc_skip (seq_n (vc_seqr rfl (iQ 2 (iB .quo 3 (.int .i64 z62) (.int .i64 86400) (some 82) ?_)))))
          refine And.intro (by omega) ?_
          intro z82 hz82
          have e82 : z82 = z62 / 86400 := quo_pos hz82 (by decide) (by omega) (by omega)
          refine iC 24 [Iv z82, Sv (⟨#[68]⟩)] (some 83) (c_some (l := [68]) ⟨by omega, by omega⟩ (by decide)) ?_
          rintro _ rfl
          have p82 := pieceL_le [68] (n := z82) ⟨by omega, by omega⟩
          simp only [List.length_cons, List.length_nil] at p82
          refine iB .add 9 (.string (⟨#[45, 80]⟩)) (.string (tx (pieceL z82 [68]))) (some 84) ?_
          refine And.intro (sz_le (m := 2) (n := ((pieceL z82 [68])).length) rfl rfl (by omega)) ?_
          intro s84 hs84
          have hl84 : (s84 : ByteArray).size = 2 + ((pieceL z82 [68])).length := sz_add hs84 rfl rfl
          refine iQ 1 (iB .add 9 (.string s84) (.string s75) (some 86) ?_)
          refine And.intro (sz_le (m := (s84 : ByteArray).size) (n := (s75 : ByteArray).size) rfl rfl (by omega)) ?_
          intro s86 hs86
          have hl86 : (s86 : ByteArray).size = (s84 : ByteArray).size + (s75 : ByteArray).size := sz_add hs86 rfl rfl
          refine iQ 2 (iB .quo 3 (.int .i64 z62) (.int .i64 12) (some 89) ?_)
          refine And.intro (by omega) ?_
          intro z89 hz89
          have e89 : z89 = z62 / 12 := quo_pos hz89 (by decide) (by omega) (by omega)
          refine iC 24 [Iv z89, Sv (⟨#[89]⟩)] (some 90) (c_some (l := [89]) ⟨by omega, by omega⟩ (by decide)) ?_
          rintro _ rfl
          have p89 := pieceL_le [89] (n := z89) ⟨by omega, by omega⟩
          simp only [List.length_cons, List.length_nil] at p89
          refine iB .add 9 (.string (⟨#[45, 80]⟩)) (.string (tx (pieceL z89 [89]))) (some 91) ?_
          refine And.intro (sz_le (m := 2) (n := ((pieceL z89 [89])).length) rfl rfl (by omega)) ?_
          intro s91 hs91
          have hl91 : (s91 : ByteArray).size = 2 + ((pieceL z89 [89])).length := sz_add hs91 rfl rfl
          refine iQ 1 (iB .rem 3 (.int .i64 z62) (.int .i64 12) (some 93) ?_)
          refine And.intro (by omega) ?_
          intro z93 hz93
          have e93 : z93 = z62 % 12 := tm_pos hz93 (by omega)
          refine iC 24 [Iv z93, Sv (⟨#[77]⟩)] (some 94) (c_some (l := [77]) ⟨by omega, by omega⟩ (by decide)) ?_
          rintro _ rfl
          have p93 := pieceL_le [77] (n := z93) ⟨by omega, by omega⟩
          simp only [List.length_cons, List.length_nil] at p93
          refine iB .add 9 (.string s91) (.string (tx (pieceL z93 [77]))) (some 95) ?_
          refine And.intro (sz_le (m := (s91 : ByteArray).size) (n := ((pieceL z93 [77])).length) rfl rfl (by omega)) ?_
          intro s95 hs95
          have hl95 : (s95 : ByteArray).size = (s91 : ByteArray).size + ((pieceL z93 [77])).length := sz_add hs95 rfl rfl
          refine iQ 2 (iE 108 [(1, Ia n), (4, Ba false), (5, .p 5 0), (7, Ia z62), (8, .d (Sv s75)), (9, .d (Sv s86)), (10, .d (Sv s95)), (12, Ba false), (43, Ba false), (49, Ba false), (60, Ba true), (77, Ba false)] [(5, [Iv y', Iv m', Iv d', Iv s', Bv z, Iv o'])] ?_)
          refine vc_seq (vc_seqr rfl (iQ 1 (iB .eql 3 (.int .i64 n) (.int .i64 0) (some 97) ?_)))
          intro c97 hc97
          refine iE 108 [(1, Ia n), (4, Ba false), (5, .p 5 0), (7, Ia z62), (8, .d (Sv s75)), (9, .d (Sv s86)), (10, .d (Sv s95)), (12, Ba false), (43, Ba false), (49, Ba false), (60, Ba true), (77, Ba false), (97, Ba c97)] [(5, [Iv y', Iv m', Iv d', Iv s', Bv z, Iv o'])] ?_
          cases c97
          · replace hc97 := bf hc97
            refine iF (vc_skip (seq_n (vc_seqr rfl (iQ 1 (iC 22 [Iv n] (some 99) (c_lexDays) ?_)))))
            rintro _ rfl
            refine iQ 1 (iB .eql 9 (.string (tx (daysT n))) (.string s86) (some 101) ?_)
            intro c101 hc101
            refine iQ 1 ?_
            obtain rfl : c101 = true := hc101.2 ((by rw [daysT, if_neg (by omega), if_neg hc97, hab, hsg, hs86, hs84]; first | (rw [if_neg k1, hs79, e75]; simp only [tx_lit, tx_append, e82, List.append_assoc, List.cons_append, List.nil_append]) | (rw [if_pos k1, e75, k1]; simp only [tx_lit, tx_append, e82, List.append_assoc, List.cons_append, List.nil_append])))
            refine iQ 1 (iC 23 [Iv n] (some 104) (c_lexMonths) ?_)
            rintro _ rfl
            refine iQ 1 (iB .eql 9 (.string (tx (monthsT n))) (.string s95) (some 106) ?_)
            intro c106 hc106
            refine iQ 2 (iE 108 [(1, Ia n), (4, Ba c106), (5, .p 5 0), (7, Ia z62), (8, .d (Sv s75)), (12, Ba false), (43, Ba false), (49, Ba false), (60, Ba true), (77, Ba false), (97, Ba false)] [(5, [Iv y', Iv m', Iv d', Iv s', Bv z, Iv o'])] ?_)
            refine vc_ret (iR (Bv c106) ?_)
            rw [hc106.2 (by rw [monthsT, if_neg (by omega), if_neg hc97, hab, hsg, hs95, hs91]; simp only [tx_lit, tx_append, e89, e93, List.append_assoc, List.cons_append, List.nil_append])]
          · replace hc97 := bt hc97
            refine iT (vc_reg rfl (iQ 2 (iE 108 [(1, Ia n), (4, Ba false), (5, .p 5 0), (7, Ia z62), (8, .d (Sv s75)), (9, .d (Sv (⟨#[80, 84, 48, 83]⟩))), (10, .d (Sv (⟨#[80, 48, 77]⟩))), (12, Ba false), (43, Ba false), (49, Ba false), (60, Ba true), (77, Ba false), (97, Ba true)] [(5, [Iv y', Iv m', Iv d', Iv s', Bv z, Iv o'])] ?_)))
            refine seq_n (vc_seqr rfl (iQ 1 (iC 22 [Iv n] (some 99) (c_lexDays) ?_)))
            rintro _ rfl
            refine iQ 1 (iB .eql 9 (.string (tx (daysT n))) (.string (⟨#[80, 84, 48, 83]⟩)) (some 101) ?_)
            intro c101 hc101
            refine iQ 1 ?_
            obtain rfl : c101 = true := hc101.2 ((by rw [daysT, if_neg (by omega), if_pos hc97]; rfl))
            refine iQ 1 (iC 23 [Iv n] (some 104) (c_lexMonths) ?_)
            rintro _ rfl
            refine iQ 1 (iB .eql 9 (.string (tx (monthsT n))) (.string (⟨#[80, 48, 77]⟩)) (some 106) ?_)
            intro c106 hc106
            refine iQ 2 (iE 108 [(1, Ia n), (4, Ba c106), (5, .p 5 0), (7, Ia z62), (8, .d (Sv s75)), (12, Ba false), (43, Ba false), (49, Ba false), (60, Ba true), (77, Ba false), (97, Ba true)] [(5, [Iv y', Iv m', Iv d', Iv s', Bv z, Iv o'])] ?_)
            refine vc_ret (iR (Bv c106) ?_)
            rw [hc106.2 (by rw [monthsT, if_neg (by omega), if_pos hc97]; rfl)]
        · replace hc77 := bt hc77
          have k1 : restL z62 ≠ [] := fun h => hc77 ((txn_iff e75).2 h)
          refine iT (vc_reg rfl (iQ 1 (iB .add 9 (.string (⟨#[84]⟩)) (.string s75) (some 79) ?_)))
          refine And.intro (sz_le (m := 1) (n := (s75 : ByteArray).size) rfl rfl (by omega)) ?_
          intro s79 hs79
          have hl79 : (s79 : ByteArray).size = 1 + (s75 : ByteArray).size := sz_add hs79 rfl rfl
          refine iQ 1 (iE 108 [(1, Ia n), (4, Ba false), (5, .p 5 0), (6, .d (Sv (⟨#[45, 80]⟩))), (7, Ia z62), (8, .d (Sv s79)), (12, Ba false), (43, Ba false), (49, Ba false), (60, Ba true), (77, Ba true)] [(5, [Iv y', Iv m', Iv d', Iv s', Bv z, Iv o'])] ?_)
          refine seq_n (vc_seqr rfl (iQ 2 (iB .quo 3 (.int .i64 z62) (.int .i64 86400) (some 82) ?_)))
          refine And.intro (by omega) ?_
          intro z82 hz82
          have e82 : z82 = z62 / 86400 := quo_pos hz82 (by decide) (by omega) (by omega)
          refine iC 24 [Iv z82, Sv (⟨#[68]⟩)] (some 83) (c_some (l := [68]) ⟨by omega, by omega⟩ (by decide)) ?_
          rintro _ rfl
          have p82 := pieceL_le [68] (n := z82) ⟨by omega, by omega⟩
          simp only [List.length_cons, List.length_nil] at p82
          refine iB .add 9 (.string (⟨#[45, 80]⟩)) (.string (tx (pieceL z82 [68]))) (some 84) ?_
          refine And.intro (sz_le (m := 2) (n := ((pieceL z82 [68])).length) rfl rfl (by omega)) ?_
          intro s84 hs84
          have hl84 : (s84 : ByteArray).size = 2 + ((pieceL z82 [68])).length := sz_add hs84 rfl rfl
          refine iQ 1 (iB .add 9 (.string s84) (.string s79) (some 86) ?_)
          refine And.intro (sz_le (m := (s84 : ByteArray).size) (n := (s79 : ByteArray).size) rfl rfl (by omega)) ?_
          intro s86 hs86
          have hl86 : (s86 : ByteArray).size = (s84 : ByteArray).size + (s79 : ByteArray).size := sz_add hs86 rfl rfl
          refine iQ 2 (iB .quo 3 (.int .i64 z62) (.int .i64 12) (some 89) ?_)
          refine And.intro (by omega) ?_
          intro z89 hz89
          have e89 : z89 = z62 / 12 := quo_pos hz89 (by decide) (by omega) (by omega)
          refine iC 24 [Iv z89, Sv (⟨#[89]⟩)] (some 90) (c_some (l := [89]) ⟨by omega, by omega⟩ (by decide)) ?_
          rintro _ rfl
          have p89 := pieceL_le [89] (n := z89) ⟨by omega, by omega⟩
          simp only [List.length_cons, List.length_nil] at p89
          refine iB .add 9 (.string (⟨#[45, 80]⟩)) (.string (tx (pieceL z89 [89]))) (some 91) ?_
          refine And.intro (sz_le (m := 2) (n := ((pieceL z89 [89])).length) rfl rfl (by omega)) ?_
          intro s91 hs91
          have hl91 : (s91 : ByteArray).size = 2 + ((pieceL z89 [89])).length := sz_add hs91 rfl rfl
          refine iQ 1 (iB .rem 3 (.int .i64 z62) (.int .i64 12) (some 93) ?_)
          refine And.intro (by omega) ?_
          intro z93 hz93
          have e93 : z93 = z62 % 12 := tm_pos hz93 (by omega)
          refine iC 24 [Iv z93, Sv (⟨#[77]⟩)] (some 94) (c_some (l := [77]) ⟨by omega, by omega⟩ (by decide)) ?_
          rintro _ rfl
          have p93 := pieceL_le [77] (n := z93) ⟨by omega, by omega⟩
          simp only [List.length_cons, List.length_nil] at p93
          refine iB .add 9 (.string s91) (.string (tx (pieceL z93 [77]))) (some 95) ?_
          refine And.intro (sz_le (m := (s91 : ByteArray).size) (n := ((pieceL z93 [77])).length) rfl rfl (by omega)) ?_
          intro s95 hs95
          have hl95 : (s95 : ByteArray).size = (s91 : ByteArray).size + ((pieceL z93 [77])).length := sz_add hs95 rfl rfl
          refine iQ 2 (iE 108 [(1, Ia n), (4, Ba false), (5, .p 5 0), (7, Ia z62), (8, .d (Sv s79)), (9, .d (Sv s86)), (10, .d (Sv s95)), (12, Ba false), (43, Ba false), (49, Ba false), (60, Ba true), (77, Ba true)] [(5, [Iv y', Iv m', Iv d', Iv s', Bv z, Iv o'])] ?_)
          refine vc_seq (vc_seqr rfl (iQ 1 (iB .eql 3 (.int .i64 n) (.int .i64 0) (some 97) ?_)))
          intro c97 hc97
          refine iE 108 [(1, Ia n), (4, Ba false), (5, .p 5 0), (7, Ia z62), (8, .d (Sv s79)), (9, .d (Sv s86)), (10, .d (Sv s95)), (12, Ba false), (43, Ba false), (49, Ba false), (60, Ba true), (77, Ba true), (97, Ba c97)] [(5, [Iv y', Iv m', Iv d', Iv s', Bv z, Iv o'])] ?_
          cases c97
          · replace hc97 := bf hc97
            refine iF (vc_skip (seq_n (vc_seqr rfl (iQ 1 (iC 22 [Iv n] (some 99) (c_lexDays) ?_)))))
            rintro _ rfl
            refine iQ 1 (iB .eql 9 (.string (tx (daysT n))) (.string s86) (some 101) ?_)
            intro c101 hc101
            refine iQ 1 ?_
            obtain rfl : c101 = true := hc101.2 ((by rw [daysT, if_neg (by omega), if_neg hc97, hab, hsg, hs86, hs84]; first | (rw [if_neg k1, hs79, e75]; simp only [tx_lit, tx_append, e82, List.append_assoc, List.cons_append, List.nil_append]) | (rw [if_pos k1, e75, k1]; simp only [tx_lit, tx_append, e82, List.append_assoc, List.cons_append, List.nil_append])))
            refine iQ 1 (iC 23 [Iv n] (some 104) (c_lexMonths) ?_)
            rintro _ rfl
            refine iQ 1 (iB .eql 9 (.string (tx (monthsT n))) (.string s95) (some 106) ?_)
            intro c106 hc106
            refine iQ 2 (iE 108 [(1, Ia n), (4, Ba c106), (5, .p 5 0), (7, Ia z62), (8, .d (Sv s79)), (12, Ba false), (43, Ba false), (49, Ba false), (60, Ba true), (77, Ba true), (97, Ba false)] [(5, [Iv y', Iv m', Iv d', Iv s', Bv z, Iv o'])] ?_)
            refine vc_ret (iR (Bv c106) ?_)
            rw [hc106.2 (by rw [monthsT, if_neg (by omega), if_neg hc97, hab, hsg, hs95, hs91]; simp only [tx_lit, tx_append, e89, e93, List.append_assoc, List.cons_append, List.nil_append])]
          · replace hc97 := bt hc97
            refine iT (vc_reg rfl (iQ 2 (iE 108 [(1, Ia n), (4, Ba false), (5, .p 5 0), (7, Ia z62), (8, .d (Sv s79)), (9, .d (Sv (⟨#[80, 84, 48, 83]⟩))), (10, .d (Sv (⟨#[80, 48, 77]⟩))), (12, Ba false), (43, Ba false), (49, Ba false), (60, Ba true), (77, Ba true), (97, Ba true)] [(5, [Iv y', Iv m', Iv d', Iv s', Bv z, Iv o'])] ?_)))
            refine seq_n (vc_seqr rfl (iQ 1 (iC 22 [Iv n] (some 99) (c_lexDays) ?_)))
            rintro _ rfl
            refine iQ 1 (iB .eql 9 (.string (tx (daysT n))) (.string (⟨#[80, 84, 48, 83]⟩)) (some 101) ?_)
            intro c101 hc101
            refine iQ 1 ?_
            obtain rfl : c101 = true := hc101.2 ((by rw [daysT, if_neg (by omega), if_pos hc97]; rfl))
            refine iQ 1 (iC 23 [Iv n] (some 104) (c_lexMonths) ?_)
            rintro _ rfl
            refine iQ 1 (iB .eql 9 (.string (tx (monthsT n))) (.string (⟨#[80, 48, 77]⟩)) (some 106) ?_)
            intro c106 hc106
            refine iQ 2 (iE 108 [(1, Ia n), (4, Ba c106), (5, .p 5 0), (7, Ia z62), (8, .d (Sv s79)), (12, Ba false), (43, Ba false), (49, Ba false), (60, Ba true), (77, Ba true), (97, Ba true)] [(5, [Iv y', Iv m', Iv d', Iv s', Bv z, Iv o'])] ?_)
            refine vc_ret (iR (Bv c106) ?_)
            rw [hc106.2 (by rw [monthsT, if_neg (by omega), if_pos hc97]; rfl)]
    · replace hc48 := bt hc48
      refine iT (vc_seqr rfl (iQ 1 (iC 22 [Iv n] (some 51) (c_lexDays) ?_)))
      rintro _ rfl
      refine iB .eql 9 (.string (tx (daysT n))) (.string (⟨#[]⟩)) (some 52) ?_
      intro c52 hc52
      refine iQ 1 ?_
      obtain rfl : c52 = true := hc52.2 ((by rw [daysT, if_pos (by omega)]; rfl))
      refine iQ 1 (iC 23 [Iv n] (some 55) (c_lexMonths) ?_)
      rintro _ rfl
      refine iB .eql 9 (.string (tx (monthsT n))) (.string (⟨#[]⟩)) (some 56) ?_
      intro c56 hc56
      refine iQ 2 (iE 108 [(1, Ia n), (4, Ba c56), (5, .p 5 0), (12, Ba false), (43, Ba false), (49, Ba true)] [(5, [Iv y', Iv m', Iv d', Iv s', Bv z, Iv o'])] ?_)
      refine vc_ret (seq_r (iR (Bv c56) ?_))
      rw [hc56.2 (by rw [monthsT, if_pos (by omega)]; rfl)]
  · replace hc45 := bt hc45
    refine iQ 3 (iE 108 [(1, Ia n), (4, Ba false), (5, .p 5 0), (12, Ba false), (43, Ba false), (49, Ba true)] [(5, [Iv y', Iv m', Iv d', Iv s', Bv z, Iv o'])] ?_)
    refine iT (vc_seqr rfl (iQ 1 (iC 22 [Iv n] (some 51) (c_lexDays) ?_)))
    rintro _ rfl
    refine iB .eql 9 (.string (tx (daysT n))) (.string (⟨#[]⟩)) (some 52) ?_
    intro c52 hc52
    refine iQ 1 ?_
    obtain rfl : c52 = true := hc52.2 ((by rw [daysT, if_pos (by omega)]; rfl))
    refine iQ 1 (iC 23 [Iv n] (some 55) (c_lexMonths) ?_)
    rintro _ rfl
    refine iB .eql 9 (.string (tx (monthsT n))) (.string (⟨#[]⟩)) (some 56) ?_
    intro c56 hc56
    refine iQ 2 (iE 108 [(1, Ia n), (4, Ba c56), (5, .p 5 0), (12, Ba false), (43, Ba false), (49, Ba true)] [(5, [Iv y', Iv m', Iv d', Iv s', Bv z, Iv o'])] ?_)
    refine vc_ret (seq_r (iR (Bv c56) ?_))
    rw [hc56.2 (by rw [monthsT, if_pos (by omega)]; rfl)]
end Go.Proofs.YtjpaedjhihiakaaDoor
