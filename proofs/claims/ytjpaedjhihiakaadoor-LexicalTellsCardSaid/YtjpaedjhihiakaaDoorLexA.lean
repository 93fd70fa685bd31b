/-
  lexical: the texts of days, times, moments and durations.
-/
import Derived.Test.YtjpaedjhihiakaaDoorLexP
import Derived.Test.YtjpaedjhihiakaaDoorIto
namespace Go.Proofs.YtjpaedjhihiakaaDoor
open Go.RowKit
set_option linter.unusedVariables false
set_option linter.unusedSimpArgs false
set_option maxRecDepth 100000

theorem tx_lit (l : L8) : (⟨l.toArray⟩ : ByteArray) = tx l := rfl
def i64R (n : Int) : Prop := -9223372036854775808 ≤ n ∧ n ≤ 9223372036854775807
theorem tm_pos {a b z : Int} (h : z = a.tmod b) (h0 : 0 ≤ a) : z = a % b := by rw [h, Int.tmod_eq_emod_of_nonneg h0]
theorem padL_le {n : Int} {w : Nat} (h : i64R n) (hw : w ≤ 10) : (padL n w).length ≤ 21 := by
  rw [padL_len]
  have := itoa_len n h
  omega
theorem dateL_le {y m d : Int} (h : mayD y m d) : (dateL y m d).length ≤ 70 := by
  have hm := lenI_pos (y := y) (m := m) (by unfold mayD at h; omega)
  have hl := lenI_le y m
  unfold mayD at h
  have h1 := padL_le (n := if y < 0 then -y else y) (w := 4) (by unfold i64R; split <;> omega) (by decide)
  have h2 := padL_le (n := m) (w := 2) ⟨by omega, by omega⟩ (by decide)
  have h3 := padL_le (n := d) (w := 2) ⟨by omega, by omega⟩ (by decide)
  unfold dateL
  simp only [List.length_append, List.length_cons, List.length_nil]
  have : (if y < 0 then [45] else ([] : L8)).length ≤ 1 := by split <;> simp
  omega
theorem dateT_le (y m d : Int) : (dateT y m d).length ≤ 70 := by
  unfold dateT
  split
  · rename_i h; exact dateL_le h
  · simp
theorem zoneL_le {o : Int} (z : Bool) (h : -64800 ≤ o ∧ o ≤ 64800) : (zoneL z o).length ≤ 70 := by
  have hp : ∀ n : Int, 0 ≤ n → n ≤ 64800 → (padL n 2).length ≤ 21 := fun n h0 h1 => padL_le ⟨by omega, by omega⟩ (by decide)
  have ho : ∀ o : Int, 0 ≤ o → o ≤ 64800 → (offL o).length ≤ 69 := fun o h0 h1 => by
    have h1 := hp (o / 3600) (by omega) (by omega)
    have h2 := hp (o % 3600 / 60) (by omega) (by omega)
    have h3 := hp (o % 60) (by omega) (by omega)
    unfold offL
    split <;> simp only [List.length_append, List.length_cons, List.length_nil] <;> omega
  unfold zoneL
  split
  · simp
  · split
    · simp
    · split
      · have := ho (-o) (by omega) (by omega)
        simp only [List.length_cons]
        omega
      · have := ho o (by omega) (by omega)
        simp only [List.length_cons]
        omega
theorem timeL_le {s o : Int} {z : Bool} (h : mayT s z o) : (timeL s z o).length ≤ 140 := by
  unfold mayT at h
  have hp : ∀ n : Int, 0 ≤ n → n ≤ 86400 → (padL n 2).length ≤ 21 := fun n h0 h1 => padL_le ⟨by omega, by omega⟩ (by decide)
  have h1 := hp (s / 3600) (by omega) (by omega)
  have h2 := hp (s % 3600 / 60) (by omega) (by omega)
  have h3 := hp (s % 60) (by omega) (by omega)
  have h4 := zoneL_le (o := o) z ⟨by omega, by omega⟩
  unfold timeL
  simp only [List.length_append, List.length_cons, List.length_nil]
  omega
theorem timeT_le (s o : Int) (z : Bool) : (timeT s z o).length ≤ 140 := by
  unfold timeT
  split
  · rename_i h; exact timeL_le h
  · simp
theorem pieceL_le {n : Int} (l : L8) (h : i64R n) : (pieceL n l).length ≤ 21 + l.length := by
  have := itoa_len n h
  unfold pieceL
  split <;> simp
  omega

theorem c_padded {n : Int} {w : Nat} (hn : i64R n) (hw : w ≤ 10) : HasC Tryd.prog 54 [.v (.int .i64 n), .v (.int .i64 ((w : Int)))] (fun y => y = .v (.string (tx (padL n w)))) := by
  refine HasC.of [] (fn := Tryd.f54) tyOk mixed (fun args w => Tryd.call54 args w) Tryd.func54 rfl (by kernel_rfl) (Nat.le_of_ble_eq_true rfl) (⟨_, rfl⟩) ?_
  refine vc_seqr rfl (iQ 1 (iE 15 [(0, Ia n), (1, Ia ((w : Int))), (4, .d (Sv (⟨#[]⟩)))] [] ?_))
  refine vc_seqr rfl (iQ 1 (iC 78 [Iv n] (some 7) (c_Itoa hn) ?_))
  rintro _ rfl
  have hi := itoa_len n hn
  refine iQ 1 (iE 15 [(1, Ia ((w : Int))), (4, .d (Sv (⟨#[]⟩))), (5, .d (Sv (tx (Lib.itoa n))))] [] ?_)
  refine vc_seq (vc_block (vc_loop 15 (fun (vcx : Nat) => match vcx with | k => [(1, Ia ((w : Int))), (4, .d (Sv (⟨#[]⟩))), (5, .d (Sv (tx (List.replicate k 48 ++ Lib.itoa n))))]) (fun (vcx : Nat) => match vcx with | k => []) (fun (vcx : Nat) => match vcx with | k => k ≤ w - (Lib.itoa n).length) (fun (vcx : Nat) => match vcx with | k => w - k) 0 (by omega) (by kernel_rfl) (by kernel_rfl) ?_))
  rintro k hinv
  simp only at hinv
  refine vc_seq (vc_seqr rfl (iQ 1 (iL .len [9] [.string (tx (List.replicate k 48 ++ Lib.itoa n))] (some 9) ?_)))
  intro n9 hn9
  have h9 : n9 = k + (Lib.itoa n).length := by rw [hn9]; simp
  refine iQ 1 (iB .lss 3 (.int .i64 ((n9 : Nat))) (.int .i64 ((w : Int))) (some 11) ?_)
  intro c11 hc11
  refine iE 15 [(1, Ia ((w : Int))), (4, .d (Sv (⟨#[]⟩))), (5, .d (Sv (tx (List.replicate k 48 ++ Lib.itoa n)))), (11, Ba c11)] [] ?_
  cases c11
  · replace hc11 := bf hc11
    refine iF (vc_exit (seq_x (loop_x (block_x rfl (seq_n (vc_seqr rfl (iQ 2 (iE 15 [(1, Ia ((w : Int))), (4, .d (Sv (tx (List.replicate k 48 ++ Lib.itoa n)))), (5, .d (Sv (tx (List.replicate k 48 ++ Lib.itoa n)))), (11, Ba false)] [] ?_))))))))
    refine vc_ret (iR (Sv (tx (List.replicate k 48 ++ Lib.itoa n))) ?_)
    rw [padL, show w - (Lib.itoa n).length = k by omega]
  · replace hc11 := bt hc11
    refine iT (vc_skip (seq_n (vc_block (vc_reg rfl (iQ 1 (iB .add 9 (.string (⟨#[48]⟩)) (.string (tx (List.replicate k 48 ++ Lib.itoa n))) (some 13) ?_))))))
    refine And.intro (sz_le (m := 1) (n := ((List.replicate k 48 ++ Lib.itoa n)).length) rfl rfl (by simp; omega)) ?_
    intro s13 hs13
    have hl13 : (s13 : ByteArray).size = 1 + ((List.replicate k 48 ++ Lib.itoa n)).length := sz_add hs13 rfl rfl
    refine iQ 1 (iE 15 [(1, Ia ((w : Int))), (4, .d (Sv (⟨#[]⟩))), (5, .d (Sv s13)), (11, Ba true)] [] ?_)
    refine block_n ?_
    obtain rfl : s13 = tx (List.replicate (k + 1) 48 ++ Lib.itoa n) := by rw [hs13]; exact tx_append [48] _
    refine loop_n (k + 1) (by omega) (by show w - (k + 1) < w - k; omega) (by kernel_rfl) (by kernel_rfl)

theorem c_lexDate {y m d : Int} : HasC Tryd.prog 17 [.agg [.v (.int .i64 y), .v (.int .i64 m), .v (.int .i64 d)]] (fun r => r = .v (.string (tx (dateT y m d)))) := by
  refine HasC.of [] (fn := Tryd.f17) tyOk mixed (fun args w => Tryd.call17 args w) Tryd.func17 rfl (by kernel_rfl) (Nat.le_of_ble_eq_true rfl) (⟨_, rfl⟩) ?_
  refine vc_seqr rfl (iQ 2 (iE 28 [(1, .p 1 0), (2, .d (Sv (⟨#[]⟩)))] [(1, [Iv y, Iv m, Iv d])] ?_))
  refine vc_seq (vc_seqr rfl (iQ 1 (iC 27 [.agg [Iv y, Iv m, Iv d]] (some 6) (c_DateMay) ?_)))
  rintro _ ⟨b, rfl, hb⟩
  refine iU .not (.bool b) (some 7) ?_
  intro c7 hc7
  refine iE 28 [(1, .p 1 0), (2, .d (Sv (⟨#[]⟩))), (7, Ba c7)] [(1, [Iv y, Iv m, Iv d])] ?_
  cases c7
  · replace hc7 := bf hc7
    replace hb : mayD y m d := hb.1 (by simpa using hc7)
    have hm := lenI_pos (y := y) (m := m) (by unfold mayD at hb; omega)
    have hl := lenI_le y m
    have hy : -999999999 ≤ y ∧ y ≤ 999999999 ∧ 1 ≤ d ∧ d ≤ lenI y m := hb
    refine iF (vc_skip (seq_n (vc_seqr rfl (iQ 4 (iE 28 [(1, .p 1 0), (2, .d (Sv (⟨#[]⟩))), (3, .d (Sv (⟨#[]⟩))), (4, Ia y), (7, Ba false)] [(1, [Iv y, Iv m, Iv d])] ?_)))))
    refine vc_seq (vc_seqr rfl (iQ 1 (iB .lss 3 (.int .i64 y) (.int .i64 0) (some 11) ?_)))
    intro c11 hc11
    refine iE 28 [(1, .p 1 0), (2, .d (Sv (⟨#[]⟩))), (3, .d (Sv (⟨#[]⟩))), (4, Ia y), (7, Ba false), (11, Ba c11)] [(1, [Iv y, Iv m, Iv d])] ?_
    cases c11
    · replace hc11 := bf hc11
      refine iF (vc_skip (seq_n (vc_seqr rfl (iQ 2 (iC 54 [Iv y, Iv 4] (some 16) (c_padded (n := y) (w := 4) ⟨by omega, by omega⟩ (by decide)) ?_)))))
      rintro _ rfl
      have p1 := padL_le (n := y) (w := 4) ⟨by omega, by omega⟩ (by decide)
      have p2 := padL_le (n := m) (w := 2) ⟨by omega, by omega⟩ (by decide)
      have p3 := padL_le (n := d) (w := 2) ⟨by omega, by omega⟩ (by decide)
      refine iB .add 9 (.string (⟨#[]⟩)) (.string (tx (padL y 4))) (some 17) ?_
      refine And.intro (sz_le (m := 0) (n := ((padL y 4)).length) rfl rfl (by omega)) ?_
      intro s17 hs17
      have hl17 : (s17 : ByteArray).size = 0 + ((padL y 4)).length := sz_add hs17 rfl rfl
      refine iB .add 9 (.string s17) (.string (⟨#[45]⟩)) (some 18) ?_
      refine And.intro (sz_le (m := (s17 : ByteArray).size) (n := 1) rfl rfl (by omega)) ?_
      intro s18 hs18
      have hl18 : (s18 : ByteArray).size = (s17 : ByteArray).size + 1 := sz_add hs18 rfl rfl
      refine iQ 2 (iC 54 [Iv m, Iv 2] (some 21) (c_padded (n := m) (w := 2) ⟨by omega, by omega⟩ (by decide)) ?_)
      rintro _ rfl
      refine iB .add 9 (.string s18) (.string (tx (padL m 2))) (some 22) ?_
      refine And.intro (sz_le (m := (s18 : ByteArray).size) (n := ((padL m 2)).length) rfl rfl (by omega)) ?_
      intro s22 hs22
      have hl22 : (s22 : ByteArray).size = (s18 : ByteArray).size + ((padL m 2)).length := sz_add hs22 rfl rfl
      refine iB .add 9 (.string s22) (.string (⟨#[45]⟩)) (some 23) ?_
      refine And.intro (sz_le (m := (s22 : ByteArray).size) (n := 1) rfl rfl (by omega)) ?_
      intro s23 hs23
      have hl23 : (s23 : ByteArray).size = (s22 : ByteArray).size + 1 := sz_add hs23 rfl rfl
      refine iQ 2 (iC 54 [Iv d, Iv 2] (some 26) (c_padded (n := d) (w := 2) ⟨by omega, by omega⟩ (by decide)) ?_)
      rintro _ rfl
      refine iB .add 9 (.string s23) (.string (tx (padL d 2))) (some 27) ?_
      refine And.intro (sz_le (m := (s23 : ByteArray).size) (n := ((padL d 2)).length) rfl rfl (by omega)) ?_
      intro s27 hs27
      have hl27 : (s27 : ByteArray).size = (s23 : ByteArray).size + ((padL d 2)).length := sz_add hs27 rfl rfl
      refine iQ 1 (iE 28 [(1, .p 1 0), (2, .d (Sv s27)), (4, Ia y), (7, Ba false), (11, Ba false)] [(1, [Iv y, Iv m, Iv d])] ?_)
      refine vc_ret (iR (Sv s27) ?_)
      rw [hs27, hs23, hs22, hs18, hs17, dateT, if_pos hb, dateL, if_neg hc11, if_neg hc11]; simp only [tx_lit, tx_append, tx_nil.symm, List.append_assoc]
    · replace hc11 := bt hc11
      refine iT (vc_reg rfl (iQ 1 (iU .neg (.int .i64 y) (some 13) ?_)))
      intro z13 hz13
      try replace hz13 := hz13.i64 (by omega)
      refine iQ 2 (iE 28 [(1, .p 1 0), (2, .d (Sv (⟨#[]⟩))), (3, .d (Sv (⟨#[45]⟩))), (4, Ia z13), (7, Ba false), (11, Ba true)] [(1, [Iv y, Iv m, Iv d])] ?_)
      refine seq_n (vc_seqr rfl (iQ 2 (iC 54 [Iv z13, Iv 4] (some 16) (c_padded (n := z13) (w := 4) ⟨by omega, by omega⟩ (by decide)) ?_)))
      rintro _ rfl
      have p1 := padL_le (n := z13) (w := 4) ⟨by omega, by omega⟩ (by decide)
      have p2 := padL_le (n := m) (w := 2) ⟨by omega, by omega⟩ (by decide)
      have p3 := padL_le (n := d) (w := 2) ⟨by omega, by omega⟩ (by decide)
      refine iB .add 9 (.string (⟨#[45]⟩)) (.string (tx (padL z13 4))) (some 17) ?_
      refine And.intro (sz_le (m := 1) (n := ((padL z13 4)).length) rfl rfl (by omega)) ?_
      intro s17 hs17
      have hl17 : (s17 : ByteArray).size = 1 + ((padL z13 4)).length := sz_add hs17 rfl rfl
      refine iB .add 9 (.string s17) (.string (⟨#[45]⟩)) (some 18) ?_
      refine And.intro (sz_le (m := (s17 : ByteArray).size) (n := 1) rfl rfl (by omega)) ?_
      intro s18 hs18
      have hl18 : (s18 : ByteArray).size = (s17 : ByteArray).size + 1 := sz_add hs18 rfl rfl
      refine iQ 2 (iC 54 [Iv m, Iv 2] (some 21) (c_padded (n := m) (w := 2) ⟨by omega, by omega⟩ (by decide)) ?_)
      rintro _ rfl
      refine iB .add 9 (.string s18) (.string (tx (padL m 2))) (some 22) ?_
      refine And.intro (sz_le (m := (s18 : ByteArray).size) (n := ((padL m 2)).length) rfl rfl (by omega)) ?_
      intro s22 hs22
      have hl22 : (s22 : ByteArray).size = (s18 : ByteArray).size + ((padL m 2)).length := sz_add hs22 rfl rfl
      refine iB .add 9 (.string s22) (.string (⟨#[45]⟩)) (some 23) ?_
      refine And.intro (sz_le (m := (s22 : ByteArray).size) (n := 1) rfl rfl (by omega)) ?_
      intro s23 hs23
      have hl23 : (s23 : ByteArray).size = (s22 : ByteArray).size + 1 := sz_add hs23 rfl rfl
      refine iQ 2 (iC 54 [Iv d, Iv 2] (some 26) (c_padded (n := d) (w := 2) ⟨by omega, by omega⟩ (by decide)) ?_)
      rintro _ rfl
      refine iB .add 9 (.string s23) (.string (tx (padL d 2))) (some 27) ?_
      refine And.intro (sz_le (m := (s23 : ByteArray).size) (n := ((padL d 2)).length) rfl rfl (by omega)) ?_
      intro s27 hs27
      have hl27 : (s27 : ByteArray).size = (s23 : ByteArray).size + ((padL d 2)).length := sz_add hs27 rfl rfl
      refine iQ 1 (iE 28 [(1, .p 1 0), (2, .d (Sv s27)), (4, Ia z13), (7, Ba false), (11, Ba true)] [(1, [Iv y, Iv m, Iv d])] ?_)
      refine vc_ret (iR (Sv s27) ?_)
      rw [hs27, hs23, hs22, hs18, hs17, dateT, if_pos hb, dateL, if_pos hc11, if_pos hc11, hz13]; simp only [tx_lit, tx_append, List.append_assoc, Int.zero_sub]
  · replace hc7 := bt hc7
    refine iT (vc_seqr rfl (iQ 1 (iE 28 [(1, .p 1 0), (2, .d (Sv (⟨#[]⟩))), (7, Ba true)] [(1, [Iv y, Iv m, Iv d])] ?_)))
    refine vc_ret (seq_r (iR (Sv (⟨#[]⟩)) ?_))
    rw [dateT, if_neg (fun h => by have := hb.2 h; rw [hc7] at this; cases this)]; rfl
theorem c_TMay {s o : Int} {z : Bool} : HasC Tryd.prog 28 [.agg [.v (.int .i64 s), .v (.bool z), .v (.int .i64 o)]] (fun r => ∃ b, r = .v (.bool b) ∧ (b = true ↔ mayT s z o)) := by
  refine HasC.of [] (fn := Tryd.f28) tyOk mixed (fun args w => Tryd.call28 args w) Tryd.func28 rfl (by kernel_rfl) (Nat.le_of_ble_eq_true rfl) (⟨_, decide (mayT s z o), rfl, by simp⟩) ?_
  refine vc_seqr rfl (iQ 2 (iE 30 [(1, .p 1 0), (2, Ba false)] [(1, [Iv s, Bv z, Iv o])] ?_))
  refine vc_seqr rfl (iQ 2 (iB .geq 3 (.int .i64 s) (.int .i64 0) (some 5) ?_))
  intro c5 hc5
  refine iQ 1 ?_
  cases c5
  · replace hc5 := bf hc5
    refine iQ 24 (iE 30 [(2, Ba false)] [] ?_)
    refine vc_ret (iR (Bv false) ?_)
    exact ⟨_, rfl, by unfold mayT; grind⟩
  · replace hc5 := bt hc5
    refine iQ 2 (iB .lss 3 (.int .i64 s) (.int .i64 86400) (some 9) ?_)
    intro c9 hc9
    refine iQ 2 ?_
    cases c9
    · replace hc9 := bf hc9
      refine iQ 19 (iE 30 [(2, Ba false)] [] ?_)
      refine vc_ret (iR (Bv false) ?_)
      exact ⟨_, rfl, by unfold mayT; grind⟩
    · replace hc9 := bt hc9
      refine iQ 2 (iB .geq 3 (.int .i64 o) (.int .i64 (-64800)) (some 14) ?_)
      intro c14 hc14
      refine iQ 2 ?_
      cases c14
      · replace hc14 := bf hc14
        refine iQ 14 (iE 30 [(2, Ba false)] [] ?_)
        refine vc_ret (iR (Bv false) ?_)
        exact ⟨_, rfl, by unfold mayT; grind⟩
      · replace hc14 := bt hc14
        refine iQ 2 (iB .leq 3 (.int .i64 o) (.int .i64 64800) (some 19) ?_)
        intro c19 hc19
        refine iQ 2 ?_
        cases c19
        · replace hc19 := bf hc19
          refine iQ 9 (iE 30 [(2, Ba false)] [] ?_)
          refine vc_ret (iR (Bv false) ?_)
          exact ⟨_, rfl, by unfold mayT; grind⟩
        · replace hc19 := bt hc19
          refine iQ 3 ?_
          cases z
          · skip
            refine iQ 2 (iB .eql 3 (.int .i64 o) (.int .i64 0) (some 27) ?_)
            intro c27 hc27
            refine iQ 3 (iE 30 [(2, Ba c27)] [] ?_)
            refine vc_ret (iR (Bv c27) ?_)
            exact ⟨_, rfl, by unfold mayT; grind⟩
          · skip
            refine iQ 6 (iE 30 [(2, Ba true)] [] ?_)
            refine vc_ret (iR (Bv true) ?_)
            exact ⟨_, rfl, by unfold mayT; grind⟩
theorem c_Hour {s o : Int} {z : Bool} (h0 : 0 ≤ s) (h1 : s < 86400) : HasC Tryd.prog 56 [.agg [.v (.int .i64 s), .v (.bool z), .v (.int .i64 o)]] (fun r => r = .v (.int .i64 (s / 3600))) := by
  refine HasC.of [] (fn := Tryd.f56) tyOk mixed (fun args w => Tryd.call56 args w) Tryd.func56 rfl (by kernel_rfl) (Nat.le_of_ble_eq_true rfl) (⟨_, rfl⟩) ?_
  refine vc_seqr rfl (iQ 2 (iE 6 [(1, .p 1 0), (2, Ia 0)] [(1, [Iv s, Bv z, Iv o])] ?_))
  refine vc_seqr rfl (iQ 2 (iB .quo 3 (.int .i64 s) (.int .i64 3600) (some 5) ?_))
  refine And.intro (by omega) ?_
  intro z5 hz5
  refine iQ 1 (iE 6 [(2, Ia z5)] [] ?_)
  refine vc_ret (iR (Iv z5) ?_)
  rw [quo_pos hz5 (by decide) (by omega) (by omega)]
theorem c_Minute {s o : Int} {z : Bool} (h0 : 0 ≤ s) (h1 : s < 86400) : HasC Tryd.prog 57 [.agg [.v (.int .i64 s), .v (.bool z), .v (.int .i64 o)]] (fun r => r = .v (.int .i64 (s % 3600 / 60))) := by
  refine HasC.of [] (fn := Tryd.f57) tyOk mixed (fun args w => Tryd.call57 args w) Tryd.func57 rfl (by kernel_rfl) (Nat.le_of_ble_eq_true rfl) (⟨_, rfl⟩) ?_
  refine vc_seqr rfl (iQ 2 (iE 7 [(1, .p 1 0), (2, Ia 0)] [(1, [Iv s, Bv z, Iv o])] ?_))
  refine vc_seqr rfl (iQ 2 (iB .quo 3 (.int .i64 s) (.int .i64 60) (some 5) ?_))
  refine And.intro (by omega) ?_
  intro z5 hz5
  have e5 : z5 = s / 60 := quo_pos hz5 (by decide) (by omega) (by omega)
  refine iB .rem 3 (.int .i64 z5) (.int .i64 60) (some 6) ?_
  refine And.intro (by omega) ?_
  intro z6 hz6
  refine iQ 1 (iE 7 [(2, Ia z6)] [] ?_)
  refine vc_ret (iR (Iv z6) ?_)
  rw [tm_pos hz6 (by omega), show z5 % 60 = s % 3600 / 60 by omega]
theorem c_Second {s o : Int} {z : Bool} (h0 : 0 ≤ s) (h1 : s < 86400) : HasC Tryd.prog 58 [.agg [.v (.int .i64 s), .v (.bool z), .v (.int .i64 o)]] (fun r => r = .v (.int .i64 (s % 60))) := by
  refine HasC.of [] (fn := Tryd.f58) tyOk mixed (fun args w => Tryd.call58 args w) Tryd.func58 rfl (by kernel_rfl) (Nat.le_of_ble_eq_true rfl) (⟨_, rfl⟩) ?_
  refine vc_seqr rfl (iQ 2 (iE 6 [(1, .p 1 0), (2, Ia 0)] [(1, [Iv s, Bv z, Iv o])] ?_))
  refine vc_seqr rfl (iQ 2 (iB .rem 3 (.int .i64 s) (.int .i64 60) (some 5) ?_))
  refine And.intro (by omega) ?_
  intro z5 hz5
  refine iQ 1 (iE 6 [(2, Ia z5)] [] ?_)
  refine vc_ret (iR (Iv z5) ?_)
  rw [tm_pos hz5 (by omega)]

theorem c_lexTime {s o : Int} {z : Bool} : HasC Tryd.prog 19 [.agg [.v (.int .i64 s), .v (.bool z), .v (.int .i64 o)]] (fun r => r = .v (.string (tx (timeT s z o)))) := by
  refine HasC.of [] (fn := Tryd.f19) tyOk mixed (fun args w => Tryd.call19 args w) Tryd.func19 rfl (by kernel_rfl) (Nat.le_of_ble_eq_true rfl) (⟨_, rfl⟩) ?_
  refine vc_seqr rfl (iQ 2 (iE 60 [(1, .p 1 0), (2, .d (Sv (⟨#[]⟩)))] [(1, [Iv s, Bv z, Iv o])] ?_))
  refine vc_seq (vc_seqr rfl (iQ 1 (iC 28 [.agg [Iv s, Bv z, Iv o]] (some 7) (c_TMay) ?_)))
  rintro _ ⟨b, rfl, hb⟩
  refine iU .not (.bool b) (some 8) ?_
  intro c8 hc8
  refine iE 60 [(1, .p 1 0), (2, .d (Sv (⟨#[]⟩))), (8, Ba c8)] [(1, [Iv s, Bv z, Iv o])] ?_
  cases c8
  · replace hc8 := bf hc8
    replace hb : mayT s z o := hb.1 (by simpa using hc8)
    have hb' := hb
    unfold mayT at hb'
    refine iF (vc_skip (seq_n (vc_seqr rfl (iQ 1 (iC 56 [.agg [Iv s, Bv z, Iv o]] (some 10) (c_Hour (by omega) (by omega)) ?_)))))
    rintro _ rfl
    refine iC 54 [Iv (s / 3600), Iv 2] (some 11) (c_padded (n := s / 3600) (w := 2) ⟨by omega, by omega⟩ (by decide)) ?_
    rintro _ rfl
    have p1 := padL_le (n := s / 3600) (w := 2) ⟨by omega, by omega⟩ (by decide)
    have p2 := padL_le (n := s % 3600 / 60) (w := 2) ⟨by omega, by omega⟩ (by decide)
    have p3 := padL_le (n := s % 60) (w := 2) ⟨by omega, by omega⟩ (by decide)
    refine iB .add 9 (.string (tx (padL (s / 3600) 2))) (.string (⟨#[58]⟩)) (some 12) ?_
    refine And.intro (sz_le (m := ((padL (s / 3600) 2)).length) (n := 1) rfl rfl (by omega)) ?_
    intro s12 hs12
    have hl12 : (s12 : ByteArray).size = ((padL (s / 3600) 2)).length + 1 := sz_add hs12 rfl rfl
    refine iQ 1 (iC 57 [.agg [Iv s, Bv z, Iv o]] (some 14) (c_Minute (by omega) (by omega)) ?_)
    rintro _ rfl
    refine iC 54 [Iv (s % 3600 / 60), Iv 2] (some 15) (c_padded (n := s % 3600 / 60) (w := 2) ⟨by omega, by omega⟩ (by decide)) ?_
    rintro _ rfl
    refine iB .add 9 (.string s12) (.string (tx (padL (s % 3600 / 60) 2))) (some 16) ?_
    refine And.intro (sz_le (m := (s12 : ByteArray).size) (n := ((padL (s % 3600 / 60) 2)).length) rfl rfl (by omega)) ?_
    intro s16 hs16
    have hl16 : (s16 : ByteArray).size = (s12 : ByteArray).size + ((padL (s % 3600 / 60) 2)).length := sz_add hs16 rfl rfl
    refine iB .add 9 (.string s16) (.string (⟨#[58]⟩)) (some 17) ?_
    refine And.intro (sz_le (m := (s16 : ByteArray).size) (n := 1) rfl rfl (by omega)) ?_
    intro s17 hs17
    have hl17 : (s17 : ByteArray).size = (s16 : ByteArray).size + 1 := sz_add hs17 rfl rfl
    refine iQ 1 (iC 58 [.agg [Iv s, Bv z, Iv o]] (some 19) (c_Second (by omega) (by omega)) ?_)
    rintro _ rfl
    refine iC 54 [Iv (s % 60), Iv 2] (some 20) (c_padded (n := s % 60) (w := 2) ⟨by omega, by omega⟩ (by decide)) ?_
    rintro _ rfl
    refine iB .add 9 (.string s17) (.string (tx (padL (s % 60) 2))) (some 21) ?_
    refine And.intro (sz_le (m := (s17 : ByteArray).size) (n := ((padL (s % 60) 2)).length) rfl rfl (by omega)) ?_
    intro s21 hs21
    have hl21 : (s21 : ByteArray).size = (s17 : ByteArray).size + ((padL (s % 60) 2)).length := sz_add hs21 rfl rfl
    refine iQ 1 (iE 60 [(1, .p 1 0), (2, .d (Sv (⟨#[]⟩))), (3, .d (Sv s21)), (8, Ba false)] [(1, [Iv s, Bv z, Iv o])] ?_)
    refine vc_seq (vc_seqr rfl (iQ 2 (iU .not (.bool z) (some 24) ?_)))
    intro c24 hc24
    refine iE 60 [(1, .p 1 0), (2, .d (Sv (⟨#[]⟩))), (3, .d (Sv s21)), (8, Ba false), (24, Ba c24)] [(1, [Iv s, Bv z, Iv o])] ?_
    cases c24
    · replace hc24 := bf hc24
      refine iF (vc_skip (seq_n (vc_seq (vc_seqr rfl (iQ 2 (iB .eql 3 (.int .i64 o) (.int .i64 0) (some 28) ?_))))))
      intro c28 hc28
      refine iE 60 [(1, .p 1 0), (2, .d (Sv (⟨#[]⟩))), (3, .d (Sv s21)), (8, Ba false), (24, Ba false), (28, Ba c28)] [(1, [Iv s, Bv z, Iv o])] ?_
      cases c28
      · replace hc28 := bf hc28
        refine iF (vc_skip (seq_n (vc_seqr rfl (iQ 4 (iE 60 [(1, .p 1 0), (2, .d (Sv (⟨#[]⟩))), (3, .d (Sv s21)), (4, .d (Sv (⟨#[43]⟩))), (5, Ia o), (8, Ba false), (24, Ba false), (28, Ba false)] [(1, [Iv s, Bv z, Iv o])] ?_)))))
        refine vc_seq (vc_seqr rfl (iQ 1 (iB .lss 3 (.int .i64 o) (.int .i64 0) (some 34) ?_)))
        intro c34 hc34
        refine iE 60 [(1, .p 1 0), (2, .d (Sv (⟨#[]⟩))), (3, .d (Sv s21)), (4, .d (Sv (⟨#[43]⟩))), (5, Ia o), (8, Ba false), (24, Ba false), (28, Ba false), (34, Ba c34)] [(1, [Iv s, Bv z, Iv o])] ?_
        cases c34
        · replace hc34 := bf hc34
          have hzl : zoneL z o = 43 :: offL o := by rw [zoneL, if_neg hc24, if_neg hc28, if_neg hc34]
          refine iF (vc_skip (seq_n (vc_seqr rfl (iQ 3 (iB .quo 3 (.int .i64 o) (.int .i64 3600) (some 40) ?_)))))
          refine And.intro (by omega) ?_
          intro z40 hz40
          have e40 : z40 = o / 3600 := quo_pos hz40 (by decide) (by omega) (by omega)
          refine iC 54 [Iv z40, Iv 2] (some 41) (c_padded (n := z40) (w := 2) ⟨by omega, by omega⟩ (by decide)) ?_
          rintro _ rfl
          have p40 := padL_le (n := z40) (w := 2) ⟨by omega, by omega⟩ (by decide)
          refine iB .add 9 (.string (⟨#[43]⟩)) (.string (tx (padL z40 2))) (some 42) ?_
          refine And.intro (sz_le (m := 1) (n := ((padL z40 2)).length) rfl rfl (by omega)) ?_
          intro s42 hs42
          have hl42 : (s42 : ByteArray).size = 1 + ((padL z40 2)).length := sz_add hs42 rfl rfl
          refine iB .add 9 (.string s42) (.string (⟨#[58]⟩)) (some 43) ?_
          refine And.intro (sz_le (m := (s42 : ByteArray).size) (n := 1) rfl rfl (by omega)) ?_
          intro s43 hs43
          have hl43 : (s43 : ByteArray).size = (s42 : ByteArray).size + 1 := sz_add hs43 rfl rfl
          refine iQ 1 (iB .quo 3 (.int .i64 o) (.int .i64 60) (some 45) ?_)
          refine And.intro (by omega) ?_
          intro z45 hz45
          have e45 : z45 = o / 60 := quo_pos hz45 (by decide) (by omega) (by omega)
          refine iB .rem 3 (.int .i64 z45) (.int .i64 60) (some 46) ?_
          refine And.intro (by omega) ?_
          intro z46 hz46
          have e46 : z46 = o % 3600 / 60 := by rw [tm_pos hz46 (by omega), e45]; omega
          refine iC 54 [Iv z46, Iv 2] (some 47) (c_padded (n := z46) (w := 2) ⟨by omega, by omega⟩ (by decide)) ?_
          rintro _ rfl
          have p46 := padL_le (n := z46) (w := 2) ⟨by omega, by omega⟩ (by decide)
          refine iB .add 9 (.string s43) (.string (tx (padL z46 2))) (some 48) ?_
          refine And.intro (sz_le (m := (s43 : ByteArray).size) (n := ((padL z46 2)).length) rfl rfl (by omega)) ?_
          intro s48 hs48
          have hl48 : (s48 : ByteArray).size = (s43 : ByteArray).size + ((padL z46 2)).length := sz_add hs48 rfl rfl
          refine iB .add 9 (.string s21) (.string s48) (some 49) ?_
          refine And.intro (sz_le (m := (s21 : ByteArray).size) (n := (s48 : ByteArray).size) rfl rfl (by omega)) ?_
          intro s49 hs49
          have hl49 : (s49 : ByteArray).size = (s21 : ByteArray).size + (s48 : ByteArray).size := sz_add hs49 rfl rfl
          refine iQ 1 (iE 60 [(1, .p 1 0), (2, .d (Sv (⟨#[]⟩))), (3, .d (Sv s49)), (5, Ia o), (8, Ba false), (24, Ba false), (28, Ba false), (34, Ba false)] [(1, [Iv s, Bv z, Iv o])] ?_)
          refine vc_seq (vc_seqr rfl (iQ 1 (iB .rem 3 (.int .i64 o) (.int .i64 60) (some 51) ?_)))
          refine And.intro (by omega) ?_
          intro z51 hz51
          have e51 : z51 = o % 60 := tm_pos hz51 (by omega)
          refine iB .neq 3 (.int .i64 z51) (.int .i64 0) (some 52) ?_
          intro c52 hc52
          refine iE 60 [(1, .p 1 0), (2, .d (Sv (⟨#[]⟩))), (3, .d (Sv s49)), (5, Ia o), (8, Ba false), (24, Ba false), (28, Ba false), (34, Ba false), (52, Ba c52)] [(1, [Iv s, Bv z, Iv o])] ?_
          cases c52
          · replace hc52 := bf hc52
            refine iF (vc_skip (seq_n (vc_seqr rfl (iQ 2 (iE 60 [(1, .p 1 0), (2, .d (Sv s49)), (3, .d (Sv s49)), (5, Ia o), (8, Ba false), (24, Ba false), (28, Ba false), (34, Ba false), (52, Ba false)] [(1, [Iv s, Bv z, Iv o])] ?_)))))
            refine vc_ret (iR (Sv s49) ?_)
            simp only [hs49, hs48, hs43, hs42, hs21, hs17, hs16, hs12, tx_lit, tx_append, e40, e46]; rw [timeT, if_pos hb, timeL, hzl]; rw [offL, if_pos (by omega)]; all_goals simp only [List.append_assoc, List.cons_append, List.nil_append, List.append_nil]
          · replace hc52 := bt hc52
            refine iT (vc_reg rfl (iQ 2 (iB .rem 3 (.int .i64 o) (.int .i64 60) (some 55) ?_)))
            refine And.intro (by omega) ?_
            intro z55 hz55
            have e55 : z55 = o % 60 := tm_pos hz55 (by omega)
            refine iC 54 [Iv z55, Iv 2] (some 56) (c_padded (n := z55) (w := 2) ⟨by omega, by omega⟩ (by decide)) ?_
            rintro _ rfl
            have p55 := padL_le (n := z55) (w := 2) ⟨by omega, by omega⟩ (by decide)
            refine iB .add 9 (.string (⟨#[58]⟩)) (.string (tx (padL z55 2))) (some 57) ?_
            refine And.intro (sz_le (m := 1) (n := ((padL z55 2)).length) rfl rfl (by omega)) ?_
            intro s57 hs57
            have hl57 : (s57 : ByteArray).size = 1 + ((padL z55 2)).length := sz_add hs57 rfl rfl
            refine iB .add 9 (.string s49) (.string s57) (some 58) ?_
            refine And.intro (sz_le (m := (s49 : ByteArray).size) (n := (s57 : ByteArray).size) rfl rfl (by omega)) ?_
            intro s58 hs58
            have hl58 : (s58 : ByteArray).size = (s49 : ByteArray).size + (s57 : ByteArray).size := sz_add hs58 rfl rfl
            refine iQ 1 (iE 60 [(1, .p 1 0), (2, .d (Sv (⟨#[]⟩))), (3, .d (Sv s58)), (5, Ia o), (8, Ba false), (24, Ba false), (28, Ba false), (34, Ba false), (52, Ba true)] [(1, [Iv s, Bv z, Iv o])] ?_)
            refine seq_n (vc_seqr rfl (iQ 2 (iE 60 [(1, .p 1 0), (2, .d (Sv s58)), (3, .d (Sv s58)), (5, Ia o), (8, Ba false), (24, Ba false), (28, Ba false), (34, Ba false), (52, Ba true)] [(1, [Iv s, Bv z, Iv o])] ?_)))
            refine vc_ret (iR (Sv s58) ?_)
            simp only [hs58, hs57, hs49, hs48, hs43, hs42, hs21, hs17, hs16, hs12, tx_lit, tx_append, e40, e46, e55]; rw [timeT, if_pos hb, timeL, hzl]; rw [offL, if_neg (by omega)]; all_goals simp only [List.append_assoc, List.cons_append, List.nil_append, List.append_nil]
        · replace hc34 := bt hc34
          refine iT (vc_reg rfl (iQ 1 (iU .neg (.int .i64 o) (some 36) ?_)))
          intro z36 hz36
          try replace hz36 := hz36.i64 (by omega)
          have e36 : z36 = -o := by omega
          have hzl : zoneL z o = 45 :: offL z36 := by rw [zoneL, if_neg hc24, if_neg hc28, if_pos hc34, e36]
          refine iQ 2 (iE 60 [(1, .p 1 0), (2, .d (Sv (⟨#[]⟩))), (3, .d (Sv s21)), (4, .d (Sv (⟨#[45]⟩))), (5, Ia z36), (8, Ba false), (24, Ba false), (28, Ba false), (34, Ba true)] [(1, [Iv s, Bv z, Iv o])] ?_)
          refine seq_n (vc_seqr rfl (iQ 3 (iB .quo 3 (.int .i64 z36) (.int .i64 3600) (some 40) ?_)))
          refine And.intro (by omega) ?_
          intro z40 hz40
          have e40 : z40 = z36 / 3600 := quo_pos hz40 (by decide) (by omega) (by omega)
          refine iC 54 [Iv z40, Iv 2] (some 41) (c_padded (n := z40) (w := 2) ⟨by omega, by omega⟩ (by decide)) ?_
          rintro _ rfl
          have p40 := padL_le (n := z40) (w := 2) ⟨by omega, by omega⟩ (by decide)
          refine iB .add 9 (.string (⟨#[45]⟩)) (.string (tx (padL z40 2))) (some 42) ?_
          refine And.intro (sz_le (m := 1) (n := ((padL z40 2)).length) rfl rfl (by omega)) ?_
          intro s42 hs42
          have hl42 : (s42 : ByteArray).size = 1 + ((padL z40 2)).length := sz_add hs42 rfl rfl
          refine iB .add 9 (.string s42) (.string (⟨#[58]⟩)) (some 43) ?_
          refine And.intro (sz_le (m := (s42 : ByteArray).size) (n := 1) rfl rfl (by omega)) ?_
          intro s43 hs43
          have hl43 : (s43 : ByteArray).size = (s42 : ByteArray).size + 1 := sz_add hs43 rfl rfl
          refine iQ 1 (iB .quo 3 (.int .i64 z36) (.int .i64 60) (some 45) ?_)
          refine And.intro (by omega) ?_
          intro z45 hz45
          have e45 : z45 = z36 / 60 := quo_pos hz45 (by decide) (by omega) (by omega)
          refine iB .rem 3 (.int .i64 z45) (.int .i64 60) (some 46) ?_
          refine And.intro (by omega) ?_
          intro z46 hz46
          have e46 : z46 = z36 % 3600 / 60 := by rw [tm_pos hz46 (by omega), e45]; omega
          refine iC 54 [Iv z46, Iv 2] (some 47) (c_padded (n := z46) (w := 2) ⟨by omega, by omega⟩ (by decide)) ?_
          rintro _ rfl
          have p46 := padL_le (n := z46) (w := 2) ⟨by omega, by omega⟩ (by decide)
          refine iB .add 9 (.string s43) (.string (tx (padL z46 2))) (some 48) ?_
          refine And.intro (sz_le (m := (s43 : ByteArray).size) (n := ((padL z46 2)).length) rfl rfl (by omega)) ?_
          intro s48 hs48
          have hl48 : (s48 : ByteArray).size = (s43 : ByteArray).size + ((padL z46 2)).length := sz_add hs48 rfl rfl
          refine iB .add 9 (.string s21) (.string s48) (some 49) ?_
          refine And.intro (sz_le (m := (s21 : ByteArray).size) (n := (s48 : ByteArray).size) rfl rfl (by omega)) ?_
          intro s49 hs49
          have hl49 : (s49 : ByteArray).size = (s21 : ByteArray).size + (s48 : ByteArray).size := sz_add hs49 rfl rfl
          refine iQ 1 (iE 60 [(1, .p 1 0), (2, .d (Sv (⟨#[]⟩))), (3, .d (Sv s49)), (5, Ia z36), (8, Ba false), (24, Ba false), (28, Ba false), (34, Ba true)] [(1, [Iv s, Bv z, Iv o])] ?_)
          refine vc_seq (vc_seqr rfl (iQ 1 (iB .rem 3 (.int .i64 z36) (.int .i64 60) (some 51) ?_)))
          refine And.intro (by omega) ?_
          intro z51 hz51
          have e51 : z51 = z36 % 60 := tm_pos hz51 (by omega)
          refine iB .neq 3 (.int .i64 z51) (.int .i64 0) (some 52) ?_
          intro c52 hc52
          refine iE 60 [(1, .p 1 0), (2, .d (Sv (⟨#[]⟩))), (3, .d (Sv s49)), (5, Ia z36), (8, Ba false), (24, Ba false), (28, Ba false), (34, Ba true), (52, Ba c52)] [(1, [Iv s, Bv z, Iv o])] ?_
          cases c52
          · replace hc52 := bf hc52
            refine iF (vc_skip (seq_n (vc_seqr rfl (iQ 2 (iE 60 [(1, .p 1 0), (2, .d (Sv s49)), (3, .d (Sv s49)), (5, Ia z36), (8, Ba false), (24, Ba false), (28, Ba false), (34, Ba true), (52, Ba false)] [(1, [Iv s, Bv z, Iv o])] ?_)))))
            refine vc_ret (iR (Sv s49) ?_)
            simp only [hs49, hs48, hs43, hs42, hs21, hs17, hs16, hs12, tx_lit, tx_append, e40, e46]; rw [timeT, if_pos hb, timeL, hzl]; rw [offL, if_pos (by omega)]; all_goals simp only [List.append_assoc, List.cons_append, List.nil_append, List.append_nil]
          · replace hc52 := bt hc52
            refine iT (vc_reg rfl (iQ 2 (iB .rem 3 (.int .i64 z36) (.int .i64 60) (some 55) ?_)))
            refine And.intro (by omega) ?_
            intro z55 hz55
            have e55 : z55 = z36 % 60 := tm_pos hz55 (by omega)
            refine iC 54 [Iv z55, Iv 2] (some 56) (c_padded (n := z55) (w := 2) ⟨by omega, by omega⟩ (by decide)) ?_
            rintro _ rfl
            have p55 := padL_le (n := z55) (w := 2) ⟨by omega, by omega⟩ (by decide)
            refine iB .add 9 (.string (⟨#[58]⟩)) (.string (tx (padL z55 2))) (some 57) ?_
            refine And.intro (sz_le (m := 1) (n := ((padL z55 2)).length) rfl rfl (by omega)) ?_
            intro s57 hs57
            have hl57 : (s57 : ByteArray).size = 1 + ((padL z55 2)).length := sz_add hs57 rfl rfl
            refine iB .add 9 (.string s49) (.string s57) (some 58) ?_
            refine And.intro (sz_le (m := (s49 : ByteArray).size) (n := (s57 : ByteArray).size) rfl rfl (by omega)) ?_
            intro s58 hs58
            have hl58 : (s58 : ByteArray).size = (s49 : ByteArray).size + (s57 : ByteArray).size := sz_add hs58 rfl rfl
            refine iQ 1 (iE 60 [(1, .p 1 0), (2, .d (Sv (⟨#[]⟩))), (3, .d (Sv s58)), (5, Ia z36), (8, Ba false), (24, Ba false), (28, Ba false), (34, Ba true), (52, Ba true)] [(1, [Iv s, Bv z, Iv o])] ?_)
            refine seq_n (vc_seqr rfl (iQ 2 (iE 60 [(1, .p 1 0), (2, .d (Sv s58)), (3, .d (Sv s58)), (5, Ia z36), (8, Ba false), (24, Ba false), (28, Ba false), (34, Ba true), (52, Ba true)] [(1, [Iv s, Bv z, Iv o])] ?_)))
            refine vc_ret (iR (Sv s58) ?_)
            simp only [hs58, hs57, hs49, hs48, hs43, hs42, hs21, hs17, hs16, hs12, tx_lit, tx_append, e40, e46, e55]; rw [timeT, if_pos hb, timeL, hzl]; rw [offL, if_neg (by omega)]; all_goals simp only [List.append_assoc, List.cons_append, List.nil_append, List.append_nil]
      · replace hc28 := bt hc28
        refine iT (vc_seqr rfl (iQ 1 (iB .add 9 (.string s21) (.string (⟨#[90]⟩)) (some 30) ?_)))
        refine And.intro (sz_le (m := (s21 : ByteArray).size) (n := 1) rfl rfl (by omega)) ?_
        intro s30 hs30
        have hl30 : (s30 : ByteArray).size = (s21 : ByteArray).size + 1 := sz_add hs30 rfl rfl
        refine iQ 1 (iE 60 [(1, .p 1 0), (2, .d (Sv s30)), (3, .d (Sv s21)), (8, Ba false), (24, Ba false), (28, Ba true)] [(1, [Iv s, Bv z, Iv o])] ?_)
        refine vc_ret (seq_r (iR (Sv s30) ?_))
        simp only [hs30, hs21, hs17, hs16, hs12, tx_lit, tx_append]; rw [timeT, if_pos hb, timeL, zoneL, if_neg hc24, if_pos hc28]
    · replace hc24 := bt hc24
      refine iT (vc_seqr rfl (iQ 2 (iE 60 [(1, .p 1 0), (2, .d (Sv s21)), (3, .d (Sv s21)), (8, Ba false), (24, Ba true)] [(1, [Iv s, Bv z, Iv o])] ?_)))
      refine vc_ret (seq_r (iR (Sv s21) ?_))
      simp only [hs21, hs17, hs16, hs12, tx_lit, tx_append]; rw [timeT, if_pos hb, timeL, zoneL, if_pos hc24, List.append_nil]
  · replace hc8 := bt hc8
    refine iT (vc_seqr rfl (iQ 1 (iE 60 [(1, .p 1 0), (2, .d (Sv (⟨#[]⟩))), (8, Ba true)] [(1, [Iv s, Bv z, Iv o])] ?_)))
    refine vc_ret (seq_r (iR (Sv (⟨#[]⟩)) ?_))
    rw [timeT, if_neg (fun h => by have := hb.2 h; rw [hc8] at this; cases this)]; rfl

theorem c_mMay {y m d s o : Int} {z : Bool} : HasC Tryd.prog 29 [.agg [.v (.int .i64 y), .v (.int .i64 m), .v (.int .i64 d), .v (.int .i64 s), .v (.bool z), .v (.int .i64 o)]] (fun r => ∃ b, r = .v (.bool b) ∧ (b = true ↔ mayD y m d ∧ mayT s z o)) := by
  refine HasC.of [] (fn := Tryd.f29) tyOk mixed (fun args w => Tryd.call29 args w) Tryd.func29 rfl (by kernel_rfl) (Nat.le_of_ble_eq_true rfl) (⟨_, decide (mayD y m d ∧ mayT s z o), rfl, by simp⟩) ?_
  refine vc_seqr rfl (iQ 2 (iE 11 [(1, .p 1 0), (2, Ba false)] [(1, [Iv y, Iv m, Iv d, Iv s, Bv z, Iv o])] ?_))
  refine vc_seqr rfl (iQ 2 (iC 27 [.agg [Iv y, Iv m, Iv d]] (some 5) (c_DateMay) ?_))
  rintro _ ⟨b5, rfl, hb5⟩
  refine iQ 1 ?_
  cases b5
  · replace hb5 := bf hb5
    refine iQ 5 (iE 11 [(2, Ba false)] [] ?_)
    refine vc_ret (iR (Bv false) ?_)
    exact ⟨_, rfl, by grind⟩
  · replace hb5 := bt hb5
    refine iQ 2 (iC 28 [.agg [Iv s, Bv z, Iv o]] (some 9) (c_TMay) ?_)
    rintro _ ⟨b9, rfl, hb9⟩
    refine iQ 2 (iE 11 [(2, Ba b9)] [] ?_)
    refine vc_ret (iR (Bv b9) ?_)
    exact ⟨_, rfl, by grind⟩
theorem c_lexMoment {y m d s o : Int} {z : Bool} : HasC Tryd.prog 21 [.agg [.v (.int .i64 y), .v (.int .i64 m), .v (.int .i64 d), .v (.int .i64 s), .v (.bool z), .v (.int .i64 o)]] (fun r => r = .v (.string (tx (momT y m d s z o)))) := by
  refine HasC.of [] (fn := Tryd.f21) tyOk mixed (fun args w => Tryd.call21 args w) Tryd.func21 rfl (by kernel_rfl) (Nat.le_of_ble_eq_true rfl) (⟨_, rfl⟩) ?_
  refine vc_seqr rfl (iQ 2 (iE 14 [(1, .p 1 0), (2, .d (Sv (⟨#[]⟩)))] [(1, [Iv y, Iv m, Iv d, Iv s, Bv z, Iv o])] ?_))
  refine vc_seq (vc_seqr rfl (iQ 1 (iC 29 [.agg [Iv y, Iv m, Iv d, Iv s, Bv z, Iv o]] (some 4) (c_mMay) ?_)))
  rintro _ ⟨b, rfl, hb⟩
  refine iU .not (.bool b) (some 5) ?_
  intro c5 hc5
  refine iE 14 [(1, .p 1 0), (2, .d (Sv (⟨#[]⟩))), (5, Ba c5)] [(1, [Iv y, Iv m, Iv d, Iv s, Bv z, Iv o])] ?_
  cases c5
  · replace hc5 := bf hc5
    replace hb : mayD y m d ∧ mayT s z o := hb.1 (by simpa using hc5)
    refine iF (vc_skip (seq_n (vc_seqr rfl (iQ 2 (iC 17 [.agg [Iv y, Iv m, Iv d]] (some 8) (c_lexDate) ?_)))))
    rintro _ rfl
    have p1 := dateT_le y m d
    have p2 := timeT_le s o z
    refine iB .add 9 (.string (tx (dateT y m d))) (.string (⟨#[84]⟩)) (some 9) ?_
    refine And.intro (sz_le (m := ((dateT y m d)).length) (n := 1) rfl rfl (by omega)) ?_
    intro s9 hs9
    have hl9 : (s9 : ByteArray).size = ((dateT y m d)).length + 1 := sz_add hs9 rfl rfl
    refine iQ 2 (iC 19 [.agg [Iv s, Bv z, Iv o]] (some 12) (c_lexTime) ?_)
    rintro _ rfl
    refine iB .add 9 (.string s9) (.string (tx (timeT s z o))) (some 13) ?_
    refine And.intro (sz_le (m := (s9 : ByteArray).size) (n := ((timeT s z o)).length) rfl rfl (by omega)) ?_
    intro s13 hs13
    have hl13 : (s13 : ByteArray).size = (s9 : ByteArray).size + ((timeT s z o)).length := sz_add hs13 rfl rfl
    refine iQ 1 (iE 14 [(1, .p 1 0), (2, .d (Sv s13)), (5, Ba false)] [(1, [Iv y, Iv m, Iv d, Iv s, Bv z, Iv o])] ?_)
    refine vc_ret (iR (Sv s13) ?_)
    simp only [hs13, hs9, tx_lit, tx_append]; rw [momT, if_pos hb, dateT, if_pos hb.1, timeT, if_pos hb.2]
  · replace hc5 := bt hc5
    refine iT (vc_seqr rfl (iQ 1 (iE 14 [(1, .p 1 0), (2, .d (Sv (⟨#[]⟩))), (5, Ba true)] [(1, [Iv y, Iv m, Iv d, Iv s, Bv z, Iv o])] ?_)))
    refine vc_ret (seq_r (iR (Sv (⟨#[]⟩)) ?_))
    rw [momT, if_neg (fun h => by have := hb.2 h; rw [hc5] at this; cases this)]; rfl

theorem c_piece {n : Int} {l : L8} (hn : i64R n) (hl : l.length ≤ 100) : HasC Tryd.prog 60 [.v (.int .i64 n), .v (.string (tx l))] (fun r => r = .v (.string (tx (pieceL n l)))) := by
  refine HasC.of [] (fn := Tryd.f60) tyOk mixed (fun args w => Tryd.call60 args w) Tryd.func60 rfl (by kernel_rfl) (Nat.le_of_ble_eq_true rfl) (⟨_, rfl⟩) ?_
  refine vc_seqr rfl (iQ 1 (iE 11 [(0, Ia n), (1, .d (Sv (tx l))), (4, .d (Sv (⟨#[]⟩)))] [] ?_))
  refine vc_seq (vc_seqr rfl (iQ 1 (iB .eql 3 (.int .i64 n) (.int .i64 0) (some 6) ?_)))
  intro c6 hc6
  refine iE 11 [(0, Ia n), (1, .d (Sv (tx l))), (4, .d (Sv (⟨#[]⟩))), (6, Ba c6)] [] ?_
  cases c6
  · replace hc6 := bf hc6
    refine iF (vc_skip (seq_n (vc_seqr rfl (iQ 1 (iC 78 [Iv n] (some 8) (c_Itoa hn) ?_)))))
    rintro _ rfl
    have p := itoa_len n hn
    refine iQ 1 (iB .add 9 (.string (tx (Lib.itoa n))) (.string (tx l)) (some 10) ?_)
    refine And.intro (sz_le (m := ((Lib.itoa n)).length) (n := (l).length) rfl rfl (by omega)) ?_
    intro s10 hs10
    have hl10 : (s10 : ByteArray).size = ((Lib.itoa n)).length + (l).length := sz_add hs10 rfl rfl
    refine iQ 1 (iE 11 [(0, Ia n), (4, .d (Sv s10)), (6, Ba false)] [] ?_)
    refine vc_ret (iR (Sv s10) ?_)
    simp only [hs10, tx_append]; rw [pieceL, if_neg hc6]
  · replace hc6 := bt hc6
    refine iT (vc_seqr rfl (iQ 1 (iE 11 [(0, Ia n), (1, .d (Sv (tx l))), (4, .d (Sv (⟨#[]⟩))), (6, Ba true)] [] ?_)))
    refine vc_ret (seq_r (iR (Sv (⟨#[]⟩)) ?_))
    rw [pieceL, if_pos hc6]; rfl
theorem restL_le {k : Int} (h : 0 ≤ k) (h1 : k ≤ 9007199254740992) : (restL k).length ≤ 66 := by
  have a := pieceL_le [72] (n := k % 86400 / 3600) ⟨by omega, by omega⟩
  have b := pieceL_le [77] (n := k % 3600 / 60) ⟨by omega, by omega⟩
  have c := pieceL_le [83] (n := k % 60) ⟨by omega, by omega⟩
  unfold restL
  simp only [List.length_append, List.length_cons, List.length_nil] at *
  omega
theorem pieceL_nil {n : Int} {l : L8} : pieceL n l = [] ↔ n = 0 := by
  unfold pieceL
  split
  · rename_i h; simp [h]
  · rename_i h
    have := itoa_pos (n := n)
    simp only [List.append_eq_nil_iff, h, iff_false, not_and]
    intro e
    rw [e] at this
    simp at this
theorem txn_iff {l : L8} {s : ByteArray} (h : s = tx l) : s = ⟨#[]⟩ ↔ l = [] := by
  rw [h, ← tx_nil, tx_iff]
theorem restL_nil {k : Int} (h : 0 ≤ k) : restL k = [] ↔ k % 86400 = 0 := by
  unfold restL
  simp only [List.append_eq_nil_iff, pieceL_nil]
  omega

theorem c_lexDays {n : Int} : HasC Tryd.prog 22 [.v (.int .i64 n)] (fun r => r = .v (.string (tx (daysT n)))) := by
  refine HasC.of [] (fn := Tryd.f22) tyOk mixed (fun args w => Tryd.call22 args w) Tryd.func22 rfl (by kernel_rfl) (Nat.le_of_ble_eq_true rfl) (⟨_, rfl⟩) ?_
  refine vc_seqr rfl (iQ 1 (iE 52 [(0, Ia n), (2, .d (Sv (⟨#[]⟩)))] [] ?_))
  refine vc_seq (vc_seqr rfl (iQ 1 (iB .lss 3 (.int .i64 n) (.int .i64 (-9007199254740992)) (some 8) ?_)))
  intro c8 hc8
  refine iQ 1 ?_
  cases c8
  · replace hc8 := bf hc8
    refine iQ 1 (iB .gtr 3 (.int .i64 n) (.int .i64 9007199254740992) (some 11) ?_)
    intro c11 hc11
    refine iQ 1 (iE 52 [(0, Ia n), (2, .d (Sv (⟨#[]⟩))), (12, Ba c11)] [] ?_)
    cases c11
    · replace hc11 := bf hc11
      refine iF (vc_skip (seq_n (vc_seqr rfl (iQ 1 (iE 52 [(0, Ia n), (2, .d (Sv (⟨#[]⟩))), (3, .d (Sv (⟨#[]⟩))), (12, Ba false)] [] ?_)))))
      refine vc_seq (vc_seqr rfl (iQ 1 (iB .lss 3 (.int .i64 n) (.int .i64 0) (some 14) ?_)))
      intro c14 hc14
      refine iE 52 [(0, Ia n), (2, .d (Sv (⟨#[]⟩))), (3, .d (Sv (⟨#[]⟩))), (12, Ba false), (14, Ba c14)] [] ?_
      cases c14
      · replace hc14 := bf hc14
        have hab : absI n = n := by unfold absI; rw [if_neg hc14]
        have hsg : signL n = [] := by unfold signL; rw [if_neg hc14]
        refine iF (vc_skip (seq_n (vc_seqr rfl (iQ 1 (iB .quo 3 (.int .i64 n) (.int .i64 86400) (some 18) ?_)))))
        refine And.intro (by omega) ?_
        intro z18 hz18
        have e18 : z18 = n / 86400 := quo_pos hz18 (by decide) (by omega) (by omega)
        refine iC 60 [Iv z18, Sv (⟨#[68]⟩)] (some 19) (c_piece (l := [68]) ⟨by omega, by omega⟩ (by decide)) ?_
        rintro _ rfl
        have p18 := pieceL_le [68] (n := z18) ⟨by omega, by omega⟩
        simp only [List.length_cons, List.length_nil] at p18
        refine iQ 1 (iB .rem 3 (.int .i64 n) (.int .i64 86400) (some 21) ?_)
        refine And.intro (by omega) ?_
        intro z21 hz21
        have e21 : z21 = n % 86400 := tm_pos hz21 (by omega)
        refine iQ 2 (iE 52 [(0, Ia n), (2, .d (Sv (⟨#[]⟩))), (3, .d (Sv (⟨#[]⟩))), (4, .d (Sv (tx (pieceL z18 [68])))), (5, Ia z21), (12, Ba false), (14, Ba false)] [] ?_)
        refine vc_seqr rfl (iQ 1 (iB .quo 3 (.int .i64 z21) (.int .i64 3600) (some 23) ?_))
        refine And.intro (by omega) ?_
        intro z23 hz23
        have e23 : z23 = n % 86400 / 3600 := by rw [quo_pos hz23 (by decide) (by omega) (by omega), e21]
        refine iC 60 [Iv z23, Sv (⟨#[72]⟩)] (some 24) (c_piece (l := [72]) ⟨by omega, by omega⟩ (by decide)) ?_
        rintro _ rfl
        have p23 := pieceL_le [72] (n := z23) ⟨by omega, by omega⟩
        simp only [List.length_cons, List.length_nil] at p23
        refine iQ 1 (iB .quo 3 (.int .i64 z21) (.int .i64 60) (some 26) ?_)
        refine And.intro (by omega) ?_
        intro z26 hz26
        have e26 : z26 = z21 / 60 := quo_pos hz26 (by decide) (by omega) (by omega)
        refine iB .rem 3 (.int .i64 z26) (.int .i64 60) (some 27) ?_
        refine And.intro (by omega) ?_
        intro z27 hz27
        have e27 : z27 = n % 3600 / 60 := by rw [tm_pos hz27 (by omega), e26, e21]; omega
        refine iC 60 [Iv z27, Sv (⟨#[77]⟩)] (some 28) (c_piece (l := [77]) ⟨by omega, by omega⟩ (by decide)) ?_
        rintro _ rfl
        have p27 := pieceL_le [77] (n := z27) ⟨by omega, by omega⟩
        simp only [List.length_cons, List.length_nil] at p27
        refine iB .add 9 (.string (tx (pieceL z23 [72]))) (.string (tx (pieceL z27 [77]))) (some 29) ?_
        refine And.intro (sz_le (m := ((pieceL z23 [72])).length) (n := ((pieceL z27 [77])).length) rfl rfl (by omega)) ?_
        intro s29 hs29
        have hl29 : (s29 : ByteArray).size = ((pieceL z23 [72])).length + ((pieceL z27 [77])).length := sz_add hs29 rfl rfl
        refine iQ 1 (iB .rem 3 (.int .i64 z21) (.int .i64 60) (some 31) ?_)
        refine And.intro (by omega) ?_
        intro z31 hz31
        have e31 : z31 = n % 60 := by rw [tm_pos hz31 (by omega), e21]; omega
        refine iC 60 [Iv z31, Sv (⟨#[83]⟩)] (some 32) (c_piece (l := [83]) ⟨by omega, by omega⟩ (by decide)) ?_
        rintro _ rfl
        have p31 := pieceL_le [83] (n := z31) ⟨by omega, by omega⟩
        simp only [List.length_cons, List.length_nil] at p31
        refine iB .add 9 (.string s29) (.string (tx (pieceL z31 [83]))) (some 33) ?_
        refine And.intro (sz_le (m := (s29 : ByteArray).size) (n := ((pieceL z31 [83])).length) rfl rfl (by omega)) ?_
        intro s33 hs33
        have hl33 : (s33 : ByteArray).size = (s29 : ByteArray).size + ((pieceL z31 [83])).length := sz_add hs33 rfl rfl
        have e33 : s33 = tx (restL n) := by rw [hs33, hs29, tx_append, tx_append, e23, e27, e31]; rfl
        refine iQ 1 (iE 52 [(0, Ia n), (2, .d (Sv (⟨#[]⟩))), (3, .d (Sv (⟨#[]⟩))), (4, .d (Sv (tx (pieceL z18 [68])))), (6, .d (Sv s33)), (12, Ba false), (14, Ba false)] [] ?_)
        refine vc_seq (vc_block (vc_seqr rfl (iQ 1 (iB .eql 9 (.string (tx (pieceL z18 [68]))) (.string (⟨#[]⟩)) (some 36) ?_))))
        intro c36 hc36
        refine iQ 1 ?_
        cases c36
        · replace hc36 := bf hc36
          refine iQ 4 (iE 52 [(0, Ia n), (2, .d (Sv (⟨#[]⟩))), (3, .d (Sv (⟨#[]⟩))), (4, .d (Sv (tx (pieceL z18 [68])))), (6, .d (Sv s33)), (12, Ba false), (14, Ba false), (34, Ba false)] [] ?_)
          have k0 : ¬ n / 86400 = 0 := fun h => hc36 ((txn_iff rfl).2 (pieceL_nil.2 (by rw [e18]; exact h)))
          refine iF (vc_seqr rfl (iQ 1 (iB .neq 9 (.string s33) (.string (⟨#[]⟩)) (some 43) ?_)))
          intro c43 hc43
          refine iQ 1 (iE 52 [(0, Ia n), (2, .d (Sv (⟨#[]⟩))), (3, .d (Sv (⟨#[]⟩))), (4, .d (Sv (tx (pieceL z18 [68])))), (6, .d (Sv s33)), (12, Ba false), (14, Ba false), (34, Ba false), (41, Ba c43)] [] ?_)
          cases c43
          · replace hc43 := bf hc43
            have k1 : restL n = [] := (txn_iff e33).1 (by simpa using hc43)
            refine iF (vc_skip (block_n (seq_n (vc_seqr rfl (iQ 1 (iB .add 9 (.string (⟨#[]⟩)) (.string (⟨#[80]⟩)) (some 47) ?_))))))
            refine And.intro (sz_le (m := 0) (n := 1) rfl rfl (by omega)) ?_
            intro s47 hs47
            have hl47 : (s47 : ByteArray).size = 0 + 1 := sz_add hs47 rfl rfl
            refine iQ 1 (iB .add 9 (.string s47) (.string (tx (pieceL z18 [68]))) (some 49) ?_)
            refine And.intro (sz_le (m := (s47 : ByteArray).size) (n := ((pieceL z18 [68])).length) rfl rfl (by omega)) ?_
            intro s49 hs49
            have hl49 : (s49 : ByteArray).size = (s47 : ByteArray).size + ((pieceL z18 [68])).length := sz_add hs49 rfl rfl
            refine iQ 1 (iB .add 9 (.string s49) (.string s33) (some 51) ?_)
            refine And.intro (sz_le (m := (s49 : ByteArray).size) (n := (s33 : ByteArray).size) rfl rfl (by omega)) ?_
            intro s51 hs51
            have hl51 : (s51 : ByteArray).size = (s49 : ByteArray).size + (s33 : ByteArray).size := sz_add hs51 rfl rfl
            refine iQ 1 (iE 52 [(0, Ia n), (2, .d (Sv s51)), (4, .d (Sv (tx (pieceL z18 [68])))), (6, .d (Sv s33)), (12, Ba false), (14, Ba false), (34, Ba false), (41, Ba false)] [] ?_)
            refine vc_ret (iR (Sv s51) ?_)
            simp only [hs51, hs49, hs47, e33, tx_lit, tx_append, e18]; rw [daysT, if_neg (by omega), if_neg (by omega), hab, if_pos k1, hsg, k1]; all_goals simp only [List.append_assoc, List.cons_append, List.nil_append, List.append_nil]
          · replace hc43 := bt hc43
            have k1 : ¬ restL n = [] := fun h => hc43 ((txn_iff e33).2 h)
            refine iT (vc_reg rfl (iQ 1 (iB .add 9 (.string (⟨#[84]⟩)) (.string s33) (some 45) ?_)))
            refine And.intro (sz_le (m := 1) (n := (s33 : ByteArray).size) rfl rfl (by omega)) ?_
            intro s45 hs45
            have hl45 : (s45 : ByteArray).size = 1 + (s33 : ByteArray).size := sz_add hs45 rfl rfl
            refine iQ 1 (iE 52 [(0, Ia n), (2, .d (Sv (⟨#[]⟩))), (3, .d (Sv (⟨#[]⟩))), (4, .d (Sv (tx (pieceL z18 [68])))), (6, .d (Sv s45)), (12, Ba false), (14, Ba false), (34, Ba false), (41, Ba true)] [] ?_)
            refine block_n (seq_n (vc_seqr rfl (iQ 1 (iB .add 9 (.string (⟨#[]⟩)) (.string (⟨#[80]⟩)) (some 47) ?_))))
            refine And.intro (sz_le (m := 0) (n := 1) rfl rfl (by omega)) ?_
            intro s47 hs47
            have hl47 : (s47 : ByteArray).size = 0 + 1 := sz_add hs47 rfl rfl
            refine iQ 1 (iB .add 9 (.string s47) (.string (tx (pieceL z18 [68]))) (some 49) ?_)
            refine And.intro (sz_le (m := (s47 : ByteArray).size) (n := ((pieceL z18 [68])).length) rfl rfl (by omega)) ?_
            intro s49 hs49
            have hl49 : (s49 : ByteArray).size = (s47 : ByteArray).size + ((pieceL z18 [68])).length := sz_add hs49 rfl rfl
            refine iQ 1 (iB .add 9 (.string s49) (.string s45) (some 51) ?_)
            refine And.intro (sz_le (m := (s49 : ByteArray).size) (n := (s45 : ByteArray).size) rfl rfl (by omega)) ?_
            intro s51 hs51
            have hl51 : (s51 : ByteArray).size = (s49 : ByteArray).size + (s45 : ByteArray).size := sz_add hs51 rfl rfl
            refine iQ 1 (iE 52 [(0, Ia n), (2, .d (Sv s51)), (4, .d (Sv (tx (pieceL z18 [68])))), (6, .d (Sv s45)), (12, Ba false), (14, Ba false), (34, Ba false), (41, Ba true)] [] ?_)
            refine vc_ret (iR (Sv s51) ?_)
            simp only [hs51, hs49, hs47, hs45, e33, tx_lit, tx_append, e18]; rw [daysT, if_neg (by omega), if_neg (by omega), hab, if_neg k1, hsg]; all_goals simp only [List.append_assoc, List.cons_append, List.nil_append, List.append_nil]
        · replace hc36 := bt hc36
          refine iQ 1 (iB .eql 9 (.string s33) (.string (⟨#[]⟩)) (some 39) ?_)
          have k0 : n / 86400 = 0 := by rw [← e18]; exact pieceL_nil.1 ((txn_iff rfl).1 hc36)
          intro c39 hc39
          refine iQ 2 (iE 52 [(0, Ia n), (2, .d (Sv (⟨#[]⟩))), (3, .d (Sv (⟨#[]⟩))), (4, .d (Sv (tx (pieceL z18 [68])))), (6, .d (Sv s33)), (12, Ba false), (14, Ba false), (34, Ba c39)] [] ?_)
          cases c39
          · replace hc39 := bf hc39
            have k1 : ¬ restL n = [] := fun h => hc39 ((txn_iff e33).2 h)
            have k2 : ¬ n = 0 := fun h => k1 ((restL_nil (by omega)).2 (by omega))
            refine iF (vc_seqr rfl (iQ 1 (iB .neq 9 (.string s33) (.string (⟨#[]⟩)) (some 43) ?_)))
            refine all_true (hc39) ?_
            refine iQ 1 (iE 52 [(0, Ia n), (2, .d (Sv (⟨#[]⟩))), (3, .d (Sv (⟨#[]⟩))), (4, .d (Sv (tx (pieceL z18 [68])))), (6, .d (Sv s33)), (12, Ba false), (14, Ba false), (34, Ba false), (41, Ba true)] [] ?_)
            refine iT (vc_reg rfl (iQ 1 (iB .add 9 (.string (⟨#[84]⟩)) (.string s33) (some 45) ?_)))
            refine And.intro (sz_le (m := 1) (n := (s33 : ByteArray).size) rfl rfl (by omega)) ?_
            intro s45 hs45
            have hl45 : (s45 : ByteArray).size = 1 + (s33 : ByteArray).size := sz_add hs45 rfl rfl
            refine iQ 1 (iE 52 [(0, Ia n), (2, .d (Sv (⟨#[]⟩))), (3, .d (Sv (⟨#[]⟩))), (4, .d (Sv (tx (pieceL z18 [68])))), (6, .d (Sv s45)), (12, Ba false), (14, Ba false), (34, Ba false), (41, Ba true)] [] ?_)
            refine block_n (seq_n (vc_seqr rfl (iQ 1 (iB .add 9 (.string (⟨#[]⟩)) (.string (⟨#[80]⟩)) (some 47) ?_))))
            refine And.intro (sz_le (m := 0) (n := 1) rfl rfl (by omega)) ?_
            intro s47 hs47
            have hl47 : (s47 : ByteArray).size = 0 + 1 := sz_add hs47 rfl rfl
            refine iQ 1 (iB .add 9 (.string s47) (.string (tx (pieceL z18 [68]))) (some 49) ?_)
            refine And.intro (sz_le (m := (s47 : ByteArray).size) (n := ((pieceL z18 [68])).length) rfl rfl (by omega)) ?_
            intro s49 hs49
            have hl49 : (s49 : ByteArray).size = (s47 : ByteArray).size + ((pieceL z18 [68])).length := sz_add hs49 rfl rfl
            refine iQ 1 (iB .add 9 (.string s49) (.string s45) (some 51) ?_)
            refine And.intro (sz_le (m := (s49 : ByteArray).size) (n := (s45 : ByteArray).size) rfl rfl (by omega)) ?_
            intro s51 hs51
            have hl51 : (s51 : ByteArray).size = (s49 : ByteArray).size + (s45 : ByteArray).size := sz_add hs51 rfl rfl
            refine iQ 1 (iE 52 [(0, Ia n), (2, .d (Sv s51)), (4, .d (Sv (tx (pieceL z18 [68])))), (6, .d (Sv s45)), (12, Ba false), (14, Ba false), (34, Ba false), (41, Ba true)] [] ?_)
            refine vc_ret (iR (Sv s51) ?_)
            simp only [hs51, hs49, hs47, hs45, e33, tx_lit, tx_append, e18]; rw [daysT, if_neg (by omega), if_neg k2, hab, if_neg k1, hsg]; all_goals simp only [List.append_assoc, List.cons_append, List.nil_append, List.append_nil]
          · replace hc39 := bt hc39
            have k1 : n % 86400 = 0 := (restL_nil (by omega)).1 ((txn_iff e33).1 hc39)
            refine iT (vc_seqr rfl (iQ 1 (iE 52 [(0, Ia n), (2, .d (Sv (⟨#[80, 84, 48, 83]⟩))), (3, .d (Sv (⟨#[]⟩))), (4, .d (Sv (tx (pieceL z18 [68])))), (6, .d (Sv s33)), (12, Ba false), (14, Ba false), (34, Ba true)] [] ?_)))
            refine vc_ret (block_r (seq_r (iR (Sv (⟨#[80, 84, 48, 83]⟩)) ?_)))
            rw [daysT, if_neg (by omega), if_pos (by omega)]; rfl
      · replace hc14 := bt hc14
        refine iT (vc_reg rfl (iQ 1 (iU .neg (.int .i64 n) (some 16) ?_)))
        intro z16 hz16
        try replace hz16 := hz16.i64 (by omega)
        have e16 : z16 = -n := by omega
        have hab : absI n = z16 := by unfold absI; rw [if_pos hc14, e16]
        have hsg : signL n = [45] := by unfold signL; rw [if_pos hc14]
        refine iQ 2 (iE 52 [(0, Ia z16), (2, .d (Sv (⟨#[]⟩))), (3, .d (Sv (⟨#[45]⟩))), (12, Ba false), (14, Ba true)] [] ?_)
        refine seq_n (vc_seqr rfl (iQ 1 (iB .quo 3 (.int .i64 z16) (.int .i64 86400) (some 18) ?_)))
        refine And.intro (by omega) ?_
        intro z18 hz18
        have e18 : z18 = z16 / 86400 := quo_pos hz18 (by decide) (by omega) (by omega)
        refine iC 60 [Iv z18, Sv (⟨#[68]⟩)] (some 19) (c_piece (l := [68]) ⟨by omega, by omega⟩ (by decide)) ?_
        rintro _ rfl
        have p18 := pieceL_le [68] (n := z18) ⟨by omega, by omega⟩
        simp only [List.length_cons, List.length_nil] at p18
        refine iQ 1 (iB .rem 3 (.int .i64 z16) (.int .i64 86400) (some 21) ?_)
        refine And.intro (by omega) ?_
        intro z21 hz21
        have e21 : z21 = z16 % 86400 := tm_pos hz21 (by omega)
        refine iQ 2 (iE 52 [(0, Ia z16), (2, .d (Sv (⟨#[]⟩))), (3, .d (Sv (⟨#[45]⟩))), (4, .d (Sv (tx (pieceL z18 [68])))), (5, Ia z21), (12, Ba false), (14, Ba true)] [] ?_)
        refine vc_seqr rfl (iQ 1 (iB .quo 3 (.int .i64 z21) (.int .i64 3600) (some 23) ?_))
        refine And.intro (by omega) ?_
        intro z23 hz23
        have e23 : z23 = z16 % 86400 / 3600 := by rw [quo_pos hz23 (by decide) (by omega) (by omega), e21]
        refine iC 60 [Iv z23, Sv (⟨#[72]⟩)] (some 24) (c_piece (l := [72]) ⟨by omega, by omega⟩ (by decide)) ?_
        rintro _ rfl
        have p23 := pieceL_le [72] (n := z23) ⟨by omega, by omega⟩
        simp only [List.length_cons, List.length_nil] at p23
        refine iQ 1 (iB .quo 3 (.int .i64 z21) (.int .i64 60) (some 26) ?_)
        refine And.intro (by omega) ?_
        intro z26 hz26
        have e26 : z26 = z21 / 60 := quo_pos hz26 (by decide) (by omega) (by omega)
        refine iB .rem 3 (.int .i64 z26) (.int .i64 60) (some 27) ?_
        refine And.intro (by omega) ?_
        intro z27 hz27
        have e27 : z27 = z16 % 3600 / 60 := by rw [tm_pos hz27 (by omega), e26, e21]; omega
        refine iC 60 [Iv z27, Sv (⟨#[77]⟩)] (some 28) (c_piece (l := [77]) ⟨by omega, by omega⟩ (by decide)) ?_
        rintro _ rfl
        have p27 := pieceL_le [77] (n := z27) ⟨by omega, by omega⟩
        simp only [List.length_cons, List.length_nil] at p27
        refine iB .add 9 (.string (tx (pieceL z23 [72]))) (.string (tx (pieceL z27 [77]))) (some 29) ?_
        refine And.intro (sz_le (m := ((pieceL z23 [72])).length) (n := ((pieceL z27 [77])).length) rfl rfl (by omega)) ?_
        intro s29 hs29
        have hl29 : (s29 : ByteArray).size = ((pieceL z23 [72])).length + ((pieceL z27 [77])).length := sz_add hs29 rfl rfl
        refine iQ 1 (iB .rem 3 (.int .i64 z21) (.int .i64 60) (some 31) ?_)
        refine And.intro (by omega) ?_
        intro z31 hz31
        have e31 : z31 = z16 % 60 := by rw [tm_pos hz31 (by omega), e21]; omega
        refine iC 60 [Iv z31, Sv (⟨#[83]⟩)] (some 32) (c_piece (l := [83]) ⟨by omega, by omega⟩ (by decide)) ?_
        rintro _ rfl
        have p31 := pieceL_le [83] (n := z31) ⟨by omega, by omega⟩
        simp only [List.length_cons, List.length_nil] at p31
        refine iB .add 9 (.string s29) (.string (tx (pieceL z31 [83]))) (some 33) ?_
        refine And.intro (sz_le (m := (s29 : ByteArray).size) (n := ((pieceL z31 [83])).length) rfl rfl (by omega)) ?_
        intro s33 hs33
        have hl33 : (s33 : ByteArray).size = (s29 : ByteArray).size + ((pieceL z31 [83])).length := sz_add hs33 rfl rfl
        have e33 : s33 = tx (restL z16) := by rw [hs33, hs29, tx_append, tx_append, e23, e27, e31]; rfl
        refine iQ 1 (iE 52 [(0, Ia z16), (2, .d (Sv (⟨#[]⟩))), (3, .d (Sv (⟨#[45]⟩))), (4, .d (Sv (tx (pieceL z18 [68])))), (6, .d (Sv s33)), (12, Ba false), (14, Ba true)] [] ?_)
        refine vc_seq (vc_block (vc_seqr rfl (iQ 1 (iB .eql 9 (.string (tx (pieceL z18 [68]))) (.string (⟨#[]⟩)) (some 36) ?_))))
        intro c36 hc36
        refine iQ 1 ?_
        cases c36
        · replace hc36 := bf hc36
          refine iQ 4 (iE 52 [(0, Ia z16), (2, .d (Sv (⟨#[]⟩))), (3, .d (Sv (⟨#[45]⟩))), (4, .d (Sv (tx (pieceL z18 [68])))), (6, .d (Sv s33)), (12, Ba false), (14, Ba true), (34, Ba false)] [] ?_)
          have k0 : ¬ z16 / 86400 = 0 := fun h => hc36 ((txn_iff rfl).2 (pieceL_nil.2 (by rw [e18]; exact h)))
          refine iF (vc_seqr rfl (iQ 1 (iB .neq 9 (.string s33) (.string (⟨#[]⟩)) (some 43) ?_)))
          intro c43 hc43
          refine iQ 1 (iE 52 [(0, Ia z16), (2, .d (Sv (⟨#[]⟩))), (3, .d (Sv (⟨#[45]⟩))), (4, .d (Sv (tx (pieceL z18 [68])))), (6, .d (Sv s33)), (12, Ba false), (14, Ba true), (34, Ba false), (41, Ba c43)] [] ?_)
          cases c43
          · replace hc43 := bf hc43
            have k1 : restL z16 = [] := (txn_iff e33).1 (by simpa using hc43)
            refine iF (vc_skip (block_n (seq_n (vc_seqr rfl (iQ 1 (iB .add 9 (.string (⟨#[45]⟩)) (.string (⟨#[80]⟩)) (some 47) ?_))))))
            refine And.intro (sz_le (m := 1) (n := 1) rfl rfl (by omega)) ?_
            intro s47 hs47
            have hl47 : (s47 : ByteArray).size = 1 + 1 := sz_add hs47 rfl rfl
            refine iQ 1 (iB .add 9 (.string s47) (.string (tx (pieceL z18 [68]))) (some 49) ?_)
            refine And.intro (sz_le (m := (s47 : ByteArray).size) (n := ((pieceL z18 [68])).length) rfl rfl (by omega)) ?_
            intro s49 hs49
            have hl49 : (s49 : ByteArray).size = (s47 : ByteArray).size + ((pieceL z18 [68])).length := sz_add hs49 rfl rfl
            refine iQ 1 (iB .add 9 (.string s49) (.string s33) (some 51) ?_)
            refine And.intro (sz_le (m := (s49 : ByteArray).size) (n := (s33 : ByteArray).size) rfl rfl (by omega)) ?_
            intro s51 hs51
            have hl51 : (s51 : ByteArray).size = (s49 : ByteArray).size + (s33 : ByteArray).size := sz_add hs51 rfl rfl
            refine iQ 1 (iE 52 [(0, Ia z16), (2, .d (Sv s51)), (4, .d (Sv (tx (pieceL z18 [68])))), (6, .d (Sv s33)), (12, Ba false), (14, Ba true), (34, Ba false), (41, Ba false)] [] ?_)
            refine vc_ret (iR (Sv s51) ?_)
            simp only [hs51, hs49, hs47, e33, tx_lit, tx_append, e18]; rw [daysT, if_neg (by omega), if_neg (by omega), hab, if_pos k1, hsg, k1]; all_goals simp only [List.append_assoc, List.cons_append, List.nil_append, List.append_nil]
          · replace hc43 := bt hc43
            have k1 : ¬ restL z16 = [] := fun h => hc43 ((txn_iff e33).2 h)
            refine iT (vc_reg rfl (iQ 1 (iB .add 9 (.string (⟨#[84]⟩)) (.string s33) (some 45) ?_)))
            refine And.intro (sz_le (m := 1) (n := (s33 : ByteArray).size) rfl rfl (by omega)) ?_
            intro s45 hs45
            have hl45 : (s45 : ByteArray).size = 1 + (s33 : ByteArray).size := sz_add hs45 rfl rfl
            refine iQ 1 (iE 52 [(0, Ia z16), (2, .d (Sv (⟨#[]⟩))), (3, .d (Sv (⟨#[45]⟩))), (4, .d (Sv (tx (pieceL z18 [68])))), (6, .d (Sv s45)), (12, Ba false), (14, Ba true), (34, Ba false), (41, Ba true)] [] ?_)
            refine block_n (seq_n (vc_seqr rfl (iQ 1 (iB .add 9 (.string (⟨#[45]⟩)) (.string (⟨#[80]⟩)) (some 47) ?_))))
            refine And.intro (sz_le (m := 1) (n := 1) rfl rfl (by omega)) ?_
            intro s47 hs47
            have hl47 : (s47 : ByteArray).size = 1 + 1 := sz_add hs47 rfl rfl
            refine iQ 1 (iB .add 9 (.string s47) (.string (tx (pieceL z18 [68]))) (some 49) ?_)
            refine And.intro (sz_le (m := (s47 : ByteArray).size) (n := ((pieceL z18 [68])).length) rfl rfl (by omega)) ?_
            intro s49 hs49
            have hl49 : (s49 : ByteArray).size = (s47 : ByteArray).size + ((pieceL z18 [68])).length := sz_add hs49 rfl rfl
            refine iQ 1 (iB .add 9 (.string s49) (.string s45) (some 51) ?_)
            refine And.intro (sz_le (m := (s49 : ByteArray).size) (n := (s45 : ByteArray).size) rfl rfl (by omega)) ?_
            intro s51 hs51
            have hl51 : (s51 : ByteArray).size = (s49 : ByteArray).size + (s45 : ByteArray).size := sz_add hs51 rfl rfl
            refine iQ 1 (iE 52 [(0, Ia z16), (2, .d (Sv s51)), (4, .d (Sv (tx (pieceL z18 [68])))), (6, .d (Sv s45)), (12, Ba false), (14, Ba true), (34, Ba false), (41, Ba true)] [] ?_)
            refine vc_ret (iR (Sv s51) ?_)
            simp only [hs51, hs49, hs47, hs45, e33, tx_lit, tx_append, e18]; rw [daysT, if_neg (by omega), if_neg (by omega), hab, if_neg k1, hsg]; all_goals simp only [List.append_assoc, List.cons_append, List.nil_append, List.append_nil]
        · replace hc36 := bt hc36
          refine iQ 1 (iB .eql 9 (.string s33) (.string (⟨#[]⟩)) (some 39) ?_)
          have k0 : z16 / 86400 = 0 := by rw [← e18]; exact pieceL_nil.1 ((txn_iff rfl).1 hc36)
          intro c39 hc39
          refine iQ 2 (iE 52 [(0, Ia z16), (2, .d (Sv (⟨#[]⟩))), (3, .d (Sv (⟨#[45]⟩))), (4, .d (Sv (tx (pieceL z18 [68])))), (6, .d (Sv s33)), (12, Ba false), (14, Ba true), (34, Ba c39)] [] ?_)
          cases c39
          · replace hc39 := bf hc39
            have k1 : ¬ restL z16 = [] := fun h => hc39 ((txn_iff e33).2 h)
            have k2 : ¬ n = 0 := fun h => k1 ((restL_nil (by omega)).2 (by omega))
            refine iF (vc_seqr rfl (iQ 1 (iB .neq 9 (.string s33) (.string (⟨#[]⟩)) (some 43) ?_)))
            refine all_true (hc39) ?_
            refine iQ 1 (iE 52 [(0, Ia z16), (2, .d (Sv (⟨#[]⟩))), (3, .d (Sv (⟨#[45]⟩))), (4, .d (Sv (tx (pieceL z18 [68])))), (6, .d (Sv s33)), (12, Ba false), (14, Ba true), (34, Ba false), (41, Ba true)] [] ?_)
            refine iT (vc_reg rfl (iQ 1 (iB .add 9 (.string (⟨#[84]⟩)) (.string s33) (some 45) ?_)))
            refine And.intro (sz_le (m := 1) (n := (s33 : ByteArray).size) rfl rfl (by omega)) ?_
            intro s45 hs45
            have hl45 : (s45 : ByteArray).size = 1 + (s33 : ByteArray).size := sz_add hs45 rfl rfl
            refine iQ 1 (iE 52 [(0, Ia z16), (2, .d (Sv (⟨#[]⟩))), (3, .d (Sv (⟨#[45]⟩))), (4, .d (Sv (tx (pieceL z18 [68])))), (6, .d (Sv s45)), (12, Ba false), (14, Ba true), (34, Ba false), (41, Ba true)] [] ?_)
            refine block_n (seq_n (vc_seqr rfl (iQ 1 (iB .add 9 (.string (⟨#[45]⟩)) (.string (⟨#[80]⟩)) (some 47) ?_))))
            refine And.intro (sz_le (m := 1) (n := 1) rfl rfl (by omega)) ?_
            intro s47 hs47
            have hl47 : (s47 : ByteArray).size = 1 + 1 := sz_add hs47 rfl rfl
            refine iQ 1 (iB .add 9 (.string s47) (.string (tx (pieceL z18 [68]))) (some 49) ?_)
            refine And.intro (sz_le (m := (s47 : ByteArray).size) (n := ((pieceL z18 [68])).length) rfl rfl (by omega)) ?_
            intro s49 hs49
            have hl49 : (s49 : ByteArray).size = (s47 : ByteArray).size + ((pieceL z18 [68])).length := sz_add hs49 rfl rfl
            refine iQ 1 (iB .add 9 (.string s49) (.string s45) (some 51) ?_)
            refine And.intro (sz_le (m := (s49 : ByteArray).size) (n := (s45 : ByteArray).size) rfl rfl (by omega)) ?_
            intro s51 hs51
            have hl51 : (s51 : ByteArray).size = (s49 : ByteArray).size + (s45 : ByteArray).size := sz_add hs51 rfl rfl
            refine iQ 1 (iE 52 [(0, Ia z16), (2, .d (Sv s51)), (4, .d (Sv (tx (pieceL z18 [68])))), (6, .d (Sv s45)), (12, Ba false), (14, Ba true), (34, Ba false), (41, Ba true)] [] ?_)
            refine vc_ret (iR (Sv s51) ?_)
            simp only [hs51, hs49, hs47, hs45, e33, tx_lit, tx_append, e18]; rw [daysT, if_neg (by omega), if_neg k2, hab, if_neg k1, hsg]; all_goals simp only [List.append_assoc, List.cons_append, List.nil_append, List.append_nil]
          · replace hc39 := bt hc39
            have k1 : z16 % 86400 = 0 := (restL_nil (by omega)).1 ((txn_iff e33).1 hc39)
            refine iT (vc_seqr rfl (iQ 1 (iE 52 [(0, Ia z16), (2, .d (Sv (⟨#[80, 84, 48, 83]⟩))), (3, .d (Sv (⟨#[45]⟩))), (4, .d (Sv (tx (pieceL z18 [68])))), (6, .d (Sv s33)), (12, Ba false), (14, Ba true), (34, Ba true)] [] ?_)))
            refine vc_ret (block_r (seq_r (iR (Sv (⟨#[80, 84, 48, 83]⟩)) ?_)))
            rw [daysT, if_neg (by omega), if_pos (by omega)]; rfl
    · replace hc11 := bt hc11
      refine iT (vc_seqr rfl (iQ 1 (iE 52 [(0, Ia n), (2, .d (Sv (⟨#[]⟩))), (12, Ba true)] [] ?_)))
      refine vc_ret (seq_r (iR (Sv (⟨#[]⟩)) ?_))
      rw [daysT, if_pos (by omega)]; rfl
  · replace hc8 := bt hc8
    refine iQ 3 (iE 52 [(0, Ia n), (2, .d (Sv (⟨#[]⟩))), (12, Ba true)] [] ?_)
    refine iT (vc_seqr rfl (iQ 1 (iE 52 [(0, Ia n), (2, .d (Sv (⟨#[]⟩))), (12, Ba true)] [] ?_)))
    refine vc_ret (seq_r (iR (Sv (⟨#[]⟩)) ?_))
    rw [daysT, if_pos (by omega)]; rfl

theorem c_lexMonths {n : Int} : HasC Tryd.prog 23 [.v (.int .i64 n)] (fun r => r = .v (.string (tx (monthsT n)))) := by
  refine HasC.of [] (fn := Tryd.f23) tyOk mixed (fun args w => Tryd.call23 args w) Tryd.func23 rfl (by kernel_rfl) (Nat.le_of_ble_eq_true rfl) (⟨_, rfl⟩) ?_
  refine vc_seqr rfl (iQ 1 (iE 26 [(0, Ia n), (2, .d (Sv (⟨#[]⟩)))] [] ?_))
  refine vc_seq (vc_seqr rfl (iQ 1 (iB .lss 3 (.int .i64 n) (.int .i64 (-9007199254740992)) (some 5) ?_)))
  intro c5 hc5
  refine iQ 1 ?_
  cases c5
  · replace hc5 := bf hc5
    refine iQ 1 (iB .gtr 3 (.int .i64 n) (.int .i64 9007199254740992) (some 8) ?_)
    intro c8 hc8
    refine iQ 1 (iE 26 [(0, Ia n), (2, .d (Sv (⟨#[]⟩))), (9, Ba c8)] [] ?_)
    cases c8
    · replace hc8 := bf hc8
      refine iF (vc_skip (seq_n (vc_seqr rfl (iQ 1 (iE 26 [(0, Ia n), (2, .d (Sv (⟨#[]⟩))), (3, .d (Sv (⟨#[]⟩))), (9, Ba false)] [] ?_)))))
      refine vc_seq (vc_seqr rfl (iQ 1 (iB .lss 3 (.int .i64 n) (.int .i64 0) (some 11) ?_)))
      intro c11 hc11
      refine iE 26 [(0, Ia n), (2, .d (Sv (⟨#[]⟩))), (3, .d (Sv (⟨#[]⟩))), (9, Ba false), (11, Ba c11)] [] ?_
      cases c11
      · replace hc11 := bf hc11
        have hab : absI n = n := by unfold absI; rw [if_neg hc11]
        have hsg : signL n = [] := by unfold signL; rw [if_neg hc11]
        refine iF (vc_skip (seq_n (vc_seq (vc_seqr rfl (iQ 1 (iB .eql 3 (.int .i64 n) (.int .i64 0) (some 15) ?_))))))
        intro c15 hc15
        refine iE 26 [(0, Ia n), (2, .d (Sv (⟨#[]⟩))), (3, .d (Sv (⟨#[]⟩))), (9, Ba false), (11, Ba false), (15, Ba c15)] [] ?_
        cases c15
        · replace hc15 := bf hc15
          refine iF (vc_skip (seq_n (vc_seqr rfl (iQ 1 (iB .add 9 (.string (⟨#[]⟩)) (.string (⟨#[80]⟩)) (some 17) ?_)))))
          refine And.intro (sz_le (m := 0) (n := 1) rfl rfl (by omega)) ?_
          intro s17 hs17
          have hl17 : (s17 : ByteArray).size = 0 + 1 := sz_add hs17 rfl rfl
          refine iQ 1 (iB .quo 3 (.int .i64 n) (.int .i64 12) (some 19) ?_)
          refine And.intro (by omega) ?_
          intro z19 hz19
          have e19 : z19 = n / 12 := quo_pos hz19 (by decide) (by omega) (by omega)
          refine iC 60 [Iv z19, Sv (⟨#[89]⟩)] (some 20) (c_piece (l := [89]) ⟨by omega, by omega⟩ (by decide)) ?_
          rintro _ rfl
          have p19 := pieceL_le [89] (n := z19) ⟨by omega, by omega⟩
          simp only [List.length_cons, List.length_nil] at p19
          refine iB .add 9 (.string s17) (.string (tx (pieceL z19 [89]))) (some 21) ?_
          refine And.intro (sz_le (m := (s17 : ByteArray).size) (n := ((pieceL z19 [89])).length) rfl rfl (by omega)) ?_
          intro s21 hs21
          have hl21 : (s21 : ByteArray).size = (s17 : ByteArray).size + ((pieceL z19 [89])).length := sz_add hs21 rfl rfl
          refine iQ 1 (iB .rem 3 (.int .i64 n) (.int .i64 12) (some 23) ?_)
          refine And.intro (by omega) ?_
          intro z23 hz23
          have e23 : z23 = n % 12 := tm_pos hz23 (by omega)
          refine iC 60 [Iv z23, Sv (⟨#[77]⟩)] (some 24) (c_piece (l := [77]) ⟨by omega, by omega⟩ (by decide)) ?_
          rintro _ rfl
          have p23 := pieceL_le [77] (n := z23) ⟨by omega, by omega⟩
          simp only [List.length_cons, List.length_nil] at p23
          refine iB .add 9 (.string s21) (.string (tx (pieceL z23 [77]))) (some 25) ?_
          refine And.intro (sz_le (m := (s21 : ByteArray).size) (n := ((pieceL z23 [77])).length) rfl rfl (by omega)) ?_
          intro s25 hs25
          have hl25 : (s25 : ByteArray).size = (s21 : ByteArray).size + ((pieceL z23 [77])).length := sz_add hs25 rfl rfl
          refine iQ 1 (iE 26 [(0, Ia n), (2, .d (Sv s25)), (9, Ba false), (11, Ba false), (15, Ba false)] [] ?_)
          refine vc_ret (iR (Sv s25) ?_)
          simp only [hs25, hs21, hs17, tx_lit, tx_append, e19, e23]; rw [monthsT, if_neg (by omega), if_neg (by omega), hab, hsg]; all_goals simp only [List.append_assoc, List.cons_append, List.nil_append, List.append_nil]
        · replace hc15 := bt hc15
          refine iT (vc_seqr rfl (iQ 1 (iE 26 [(0, Ia n), (2, .d (Sv (⟨#[80, 48, 77]⟩))), (3, .d (Sv (⟨#[]⟩))), (9, Ba false), (11, Ba false), (15, Ba true)] [] ?_)))
          refine vc_ret (seq_r (iR (Sv (⟨#[80, 48, 77]⟩)) ?_))
          rw [monthsT, if_neg (by omega), if_pos (by omega)]; rfl
      · replace hc11 := bt hc11
        refine iT (vc_reg rfl (iQ 1 (iU .neg (.int .i64 n) (some 13) ?_)))
        intro z13 hz13
        try replace hz13 := hz13.i64 (by omega)
        have e13 : z13 = -n := by omega
        have hab : absI n = z13 := by unfold absI; rw [if_pos hc11, e13]
        have hsg : signL n = [45] := by unfold signL; rw [if_pos hc11]
        refine iQ 2 (iE 26 [(0, Ia z13), (2, .d (Sv (⟨#[]⟩))), (3, .d (Sv (⟨#[45]⟩))), (9, Ba false), (11, Ba true)] [] ?_)
        refine seq_n (vc_seq (vc_seqr rfl (iQ 1 (iB .eql 3 (.int .i64 z13) (.int .i64 0) (some 15) ?_))))
        intro c15 hc15
        refine iE 26 [(0, Ia z13), (2, .d (Sv (⟨#[]⟩))), (3, .d (Sv (⟨#[45]⟩))), (9, Ba false), (11, Ba true), (15, Ba c15)] [] ?_
        cases c15
        · replace hc15 := bf hc15
          refine iF (vc_skip (seq_n (vc_seqr rfl (iQ 1 (iB .add 9 (.string (⟨#[45]⟩)) (.string (⟨#[80]⟩)) (some 17) ?_)))))
          refine And.intro (sz_le (m := 1) (n := 1) rfl rfl (by omega)) ?_
          intro s17 hs17
          have hl17 : (s17 : ByteArray).size = 1 + 1 := sz_add hs17 rfl rfl
          refine iQ 1 (iB .quo 3 (.int .i64 z13) (.int .i64 12) (some 19) ?_)
          refine And.intro (by omega) ?_
          intro z19 hz19
          have e19 : z19 = z13 / 12 := quo_pos hz19 (by decide) (by omega) (by omega)
          refine iC 60 [Iv z19, Sv (⟨#[89]⟩)] (some 20) (c_piece (l := [89]) ⟨by omega, by omega⟩ (by decide)) ?_
          rintro _ rfl
          have p19 := pieceL_le [89] (n := z19) ⟨by omega, by omega⟩
          simp only [List.length_cons, List.length_nil] at p19
          refine iB .add 9 (.string s17) (.string (tx (pieceL z19 [89]))) (some 21) ?_
          refine And.intro (sz_le (m := (s17 : ByteArray).size) (n := ((pieceL z19 [89])).length) rfl rfl (by omega)) ?_
          intro s21 hs21
          have hl21 : (s21 : ByteArray).size = (s17 : ByteArray).size + ((pieceL z19 [89])).length := sz_add hs21 rfl rfl
          refine iQ 1 (iB .rem 3 (.int .i64 z13) (.int .i64 12) (some 23) ?_)
          refine And.intro (by omega) ?_
          intro z23 hz23
          have e23 : z23 = z13 % 12 := tm_pos hz23 (by omega)
          refine iC 60 [Iv z23, Sv (⟨#[77]⟩)] (some 24) (c_piece (l := [77]) ⟨by omega, by omega⟩ (by decide)) ?_
          rintro _ rfl
          have p23 := pieceL_le [77] (n := z23) ⟨by omega, by omega⟩
          simp only [List.length_cons, List.length_nil] at p23
          refine iB .add 9 (.string s21) (.string (tx (pieceL z23 [77]))) (some 25) ?_
          refine And.intro (sz_le (m := (s21 : ByteArray).size) (n := ((pieceL z23 [77])).length) rfl rfl (by omega)) ?_
          intro s25 hs25
          have hl25 : (s25 : ByteArray).size = (s21 : ByteArray).size + ((pieceL z23 [77])).length := sz_add hs25 rfl rfl
          refine iQ 1 (iE 26 [(0, Ia z13), (2, .d (Sv s25)), (9, Ba false), (11, Ba true), (15, Ba false)] [] ?_)
          refine vc_ret (iR (Sv s25) ?_)
          simp only [hs25, hs21, hs17, tx_lit, tx_append, e19, e23]; rw [monthsT, if_neg (by omega), if_neg (by omega), hab, hsg]; all_goals simp only [List.append_assoc, List.cons_append, List.nil_append, List.append_nil]
        · replace hc15 := bt hc15
          refine iT (vc_seqr rfl (iQ 1 (iE 26 [(0, Ia z13), (2, .d (Sv (⟨#[80, 48, 77]⟩))), (3, .d (Sv (⟨#[45]⟩))), (9, Ba false), (11, Ba true), (15, Ba true)] [] ?_)))
          refine vc_ret (seq_r (iR (Sv (⟨#[80, 48, 77]⟩)) ?_))
          rw [monthsT, if_neg (by omega), if_pos (by omega)]; rfl
    · replace hc8 := bt hc8
      refine iT (vc_seqr rfl (iQ 1 (iE 26 [(0, Ia n), (2, .d (Sv (⟨#[]⟩))), (9, Ba true)] [] ?_)))
      refine vc_ret (seq_r (iR (Sv (⟨#[]⟩)) ?_))
      rw [monthsT, if_pos (by omega)]; rfl
  · replace hc5 := bt hc5
    refine iQ 3 (iE 26 [(0, Ia n), (2, .d (Sv (⟨#[]⟩))), (9, Ba true)] [] ?_)
    refine iT (vc_seqr rfl (iQ 1 (iE 26 [(0, Ia n), (2, .d (Sv (⟨#[]⟩))), (9, Ba true)] [] ?_)))
    refine vc_ret (seq_r (iR (Sv (⟨#[]⟩)) ?_))
    rw [monthsT, if_pos (by omega)]; rfl
end Go.Proofs.YtjpaedjhihiakaaDoor
