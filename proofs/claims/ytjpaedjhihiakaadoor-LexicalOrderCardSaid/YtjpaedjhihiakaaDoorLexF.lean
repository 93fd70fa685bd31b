/-
  LexicalMays, LexicalOrder.
-/
import Derived.Test.YtjpaedjhihiakaaDoorLexE
import Derived.Test.YtjpaedjhihiakaaDoorLexO
namespace Go.Proofs.YtjpaedjhihiakaaDoor
open Go.RowKit
set_option linter.unusedVariables false
set_option linter.unusedSimpArgs false
set_option maxRecDepth 100000

theorem ne_empty {l : L8} : tx l ≠ ⟨#[]⟩ ↔ l ≠ [] := not_congr (bempty l)
theorem dateT_ne (y m d : Int) : tx (dateT y m d) ≠ ⟨#[]⟩ ↔ mayD y m d := by
  rw [ne_empty, dateT]
  split
  · rename_i h
    simp [dateL, h]
  · rename_i h
    simp [h]
theorem timeT_ne (s o : Int) (z : Bool) : tx (timeT s z o) ≠ ⟨#[]⟩ ↔ mayT s z o := by
  rw [ne_empty, timeT]
  split
  · rename_i h
    simp [timeL, h]
  · rename_i h
    simp [h]
theorem momT_ne (y m d s o : Int) (z : Bool) : tx (momT y m d s z o) ≠ ⟨#[]⟩ ↔ mayD y m d ∧ mayT s z o := by
  rw [ne_empty, momT]
  split
  · rename_i h
    simp [h]
  · rename_i h
    simp [h]
theorem mom_ne (y m d s o : Int) (z : Bool) : tx (dateL y m d ++ [84] ++ timeL s z o) ≠ ⟨#[]⟩ := by
  rw [ne_empty]
  simp
theorem c_LexicalMays {y m d s o y0 sec : Int} {z : Bool} : HasC Tryd.prog 5 [.agg [.v (.int .i64 y), .v (.int .i64 m), .v (.int .i64 d)], .agg [.v (.int .i64 s), .v (.bool z), .v (.int .i64 o)], .v (.int .i64 y0), .v (.int .i64 sec)] (fun r => r = .v (.bool true)) := by
  refine HasC.of [] (fn := Tryd.f5) tyOk mixed (fun args w => Tryd.call5 args w) Tryd.func5 rfl (by kernel_rfl) (Nat.le_of_ble_eq_true rfl) (⟨_, rfl⟩) ?_
  refine vc_seqr rfl (iQ 3 (iE 51 [(2, Ia y0), (3, Ia sec), (4, .p 4 0), (5, .p 5 0), (8, Ba false)] [(4, [Iv y, Iv m, Iv d]), (5, [Iv s, Bv z, Iv o])] ?_))
  refine vc_seq (vc_seqr rfl (iC 11 [] (some 11) (c_awake09) ?_))
  rintro _ rfl
  refine iU .not (.bool true) (some 12) ?_
  intro c12 hc12
  refine iE 51 [(2, Ia y0), (3, Ia sec), (4, .p 4 0), (5, .p 5 0), (8, Ba false), (12, Ba c12)] [(4, [Iv y, Iv m, Iv d]), (5, [Iv s, Bv z, Iv o])] ?_
  obtain rfl : c12 = false := bff hc12 (by simp)
  refine iF (vc_skip (seq_n (vc_seqr rfl (iQ 5 (iE 51 [(2, Ia y0), (3, Ia sec), (4, .p 4 0), (5, .p 5 0), (8, Ba false), (9, .p 9 0), (12, Ba false)] [(4, [Iv y, Iv m, Iv d]), (5, [Iv s, Bv z, Iv o]), (9, [Iv y, Iv m, Iv d, Iv s, Bv z, Iv o])] ?_)))))
  refine vc_seqr rfl (iQ 3 (iC 25 [Iv y0, Iv sec, Iv y0] (some 19) (c_mkDate) ?_))
  rintro _ ⟨y', m', d', rfl, hd, _⟩
  refine iQ 2 (iC 26 [Iv sec, Bv true, Iv y0] (some 22) (c_mkTime) ?_)
  rintro _ ⟨s', o', rfl, ht⟩
  refine iQ 3 (iE 51 [(4, .p 4 0), (5, .p 5 0), (8, Ba false), (9, .p 9 0), (10, .p 10 0), (12, Ba false)] [(4, [Iv y, Iv m, Iv d]), (5, [Iv s, Bv z, Iv o]), (9, [Iv y, Iv m, Iv d, Iv s, Bv z, Iv o]), (10, [Iv y', Iv m', Iv d', Iv s', Bv true, Iv o'])] ?_)
  refine vc_seqr rfl (iQ 1 (iC 17 [.agg [Iv y, Iv m, Iv d]] (some 25) (c_lexDate) ?_))
  rintro _ rfl
  refine iB .neq 9 (.string (tx (dateT y m d))) (.string (⟨#[]⟩)) (some 26) ?_
  intro c26 hc26
  refine iQ 1 (iC 27 [.agg [Iv y, Iv m, Iv d]] (some 28) (c_DateMay) ?_)
  rintro _ ⟨b1, rfl, hb1⟩
  refine iB .eql 4 (.bool c26) (.bool b1) (some 29) ?_
  intro c29 hc29
  refine iQ 1 ?_
  obtain rfl : c29 = true := hc29.2 (by rw [Bool.eq_iff_iff, hc26, hb1]; exact dateT_ne _ _ _)
  refine iQ 1 (iC 19 [.agg [Iv s, Bv z, Iv o]] (some 32) (c_lexTime) ?_)
  rintro _ rfl
  refine iB .neq 9 (.string (tx (timeT s z o))) (.string (⟨#[]⟩)) (some 33) ?_
  intro c33 hc33
  refine iQ 1 (iC 28 [.agg [Iv s, Bv z, Iv o]] (some 35) (c_TMay) ?_)
  rintro _ ⟨b2, rfl, hb2⟩
  refine iB .eql 4 (.bool c33) (.bool b2) (some 36) ?_
  intro c36 hc36
  refine iQ 2 ?_
  obtain rfl : c36 = true := hc36.2 (by rw [Bool.eq_iff_iff, hc33, hb2]; exact timeT_ne _ _ _)
  refine iQ 1 (iC 21 [.agg [Iv y, Iv m, Iv d, Iv s, Bv z, Iv o]] (some 40) (c_lexMoment) ?_)
  rintro _ rfl
  refine iB .neq 9 (.string (tx (momT y m d s z o))) (.string (⟨#[]⟩)) (some 41) ?_
  intro c41 hc41
  refine iQ 1 (iC 29 [.agg [Iv y, Iv m, Iv d, Iv s, Bv z, Iv o]] (some 43) (c_mMay) ?_)
  rintro _ ⟨b3, rfl, hb3⟩
  refine iB .eql 4 (.bool c41) (.bool b3) (some 44) ?_
  intro c44 hc44
  refine iQ 2 ?_
  obtain rfl : c44 = true := hc44.2 (by rw [Bool.eq_iff_iff, hc41, hb3]; exact momT_ne _ _ _ _ _ _)
  refine iQ 1 (iC 21 [.agg [Iv y', Iv m', Iv d', Iv s', Bv true, Iv o']] (some 48) (c_lexMomentM hd ht) ?_)
  rintro _ rfl
  refine iB .neq 9 (.string (tx (dateL y' m' d' ++ [84] ++ timeL s' true o'))) (.string (⟨#[]⟩)) (some 49) ?_
  intro c49 hc49
  refine iQ 2 (iE 51 [(4, .p 4 0), (5, .p 5 0), (8, Ba c49), (9, .p 9 0), (10, .p 10 0), (12, Ba false)] [(4, [Iv y, Iv m, Iv d]), (5, [Iv s, Bv z, Iv o]), (9, [Iv y, Iv m, Iv d, Iv s, Bv z, Iv o]), (10, [Iv y', Iv m', Iv d', Iv s', Bv true, Iv o'])] ?_)
  refine vc_ret (iR (Bv c49) ?_)
  rw [hc49.2 (mom_ne _ _ _ _ _ _)]
theorem c_mkTime0 {s : Int} : HasC Tryd.prog 26 [.v (.int .i64 s), .v (.bool false), .v (.int .i64 0)] (fun r => ∃ s', r = .agg [.v (.int .i64 s'), .v (.bool false), .v (.int .i64 0)] ∧ mayT s' false 0 ∧ 0 ≤ s' ∧ s' < 86400) :=
  c_mkTime.mono fun r ⟨s', o', h1, h2⟩ => by
    have h3 := h2
    unfold mayT at h3
    obtain rfl : o' = 0 := by rcases h3.2.2.2.2 with h | h; cases h; exact h
    exact ⟨s', h1, h2, h3.1, h3.2.1⟩
theorem c_LexicalOrder {y v : Nat} {m d u w : Int} (hy : y < 65536) (hv : v < 65536) : HasC Tryd.prog 6 [.v (.int .u16 ((y : Int))), .v (.int .i64 m), .v (.int .i64 d), .v (.int .u16 ((v : Int))), .v (.int .i64 u), .v (.int .i64 w)] (fun r => r = .v (.bool true)) := by
  refine HasC.of [] (fn := Tryd.f6) tyOk mixed (fun args w => Tryd.call6 args w) Tryd.func6 rfl (by kernel_rfl) (Nat.le_of_ble_eq_true rfl) (⟨_, rfl⟩) ?_
  refine vc_seqr rfl (iQ 1 (iE 63 [(0, .d (.v (.int .u16 ((y : Int))))), (1, Ia m), (2, Ia d), (3, .d (.v (.int .u16 ((v : Int))))), (4, Ia u), (5, Ia w), (12, Ba false)] [] ?_))
  refine vc_seq (vc_seqr rfl (iC 11 [] (some 19) (c_awake09) ?_))
  rintro _ rfl
  refine iU .not (.bool true) (some 20) ?_
  intro c20 hc20
  refine iE 63 [(0, .d (.v (.int .u16 ((y : Int))))), (1, Ia m), (2, Ia d), (3, .d (.v (.int .u16 ((v : Int))))), (4, Ia u), (5, Ia w), (12, Ba false), (20, Ba c20)] [] ?_
  obtain rfl : c20 = false := bff hc20 (by simp)
  refine iF (vc_skip (seq_n (vc_seqr rfl (iQ 1 (iB .rem 44 (.int .u16 ((y : Int))) (.int .u16 10000) (some 22) ?_)))))
  refine And.intro (by omega) ?_
  intro z22 hz22
  have h22 := tm_pos hz22 (by omega)
  refine iV 44 3 (.int .u16 z22) (some 23) ?_
  intro z23 hz23
  try replace hz23 := hz23.i64 (by omega)
  have h23 : 0 ≤ z23 ∧ z23 ≤ 9999 := by omega
  refine iQ 2 (iC 25 [Iv z23, Iv m, Iv d] (some 26) (c_mkDate) ?_)
  rintro _ ⟨p1, p2, p3, rfl, hp, hpy⟩
  have hpr := mayD_rng hp
  have hpy := hpy h23.1 h23.2
  refine iQ 1 (iB .rem 44 (.int .u16 ((v : Int))) (.int .u16 10000) (some 28) ?_)
  refine And.intro (by omega) ?_
  intro z28 hz28
  have h28 := tm_pos hz28 (by omega)
  refine iV 44 3 (.int .u16 z28) (some 29) ?_
  intro z29 hz29
  try replace hz29 := hz29.i64 (by omega)
  have h29 : 0 ≤ z29 ∧ z29 ≤ 9999 := by omega
  refine iQ 2 (iC 25 [Iv z29, Iv u, Iv w] (some 32) (c_mkDate) ?_)
  rintro _ ⟨q1, q2, q3, rfl, hq, hqy⟩
  have hqr := mayD_rng hq
  have hqy := hqy h29.1 h29.2
  refine iQ 4 (iE 63 [(1, Ia m), (4, Ia u), (12, Ba false), (13, .p 13 0), (14, .p 14 0), (20, Ba false)] [(13, [Iv p1, Iv p2, Iv p3]), (14, [Iv q1, Iv q2, Iv q3])] ?_)
  refine vc_seqr rfl (iQ 1 (iC 26 [Iv m, Bv false, Iv 0] (some 34) (c_mkTime0) ?_))
  rintro _ ⟨s1, rfl, ht1, a1, b1⟩
  refine iQ 1 (iC 26 [Iv u, Bv false, Iv 0] (some 36) (c_mkTime0) ?_)
  rintro _ ⟨s2, rfl, ht2, a2, b2⟩
  refine iQ 4 (iE 63 [(1, Ia m), (4, Ia u), (12, Ba false), (13, .p 13 0), (14, .p 14 0), (15, .p 15 0), (16, .p 16 0), (20, Ba false)] [(13, [Iv p1, Iv p2, Iv p3]), (14, [Iv q1, Iv q2, Iv q3]), (15, [Iv s1, Bv false, Iv 0]), (16, [Iv s2, Bv false, Iv 0])] ?_)
  refine vc_seqr rfl (iQ 2 (iC 30 [.agg [Iv s1, Bv false, Iv 0], .agg [Iv s2, Bv false, Iv 0]] (some 40) (c_tCmp a1 (by omega) a2 (by omega)) ?_))
  rintro _ ⟨c, rfl, hc⟩
  refine iQ 5 (iE 63 [(1, Ia m), (4, Ia u), (12, Ba false), (13, .p 13 0), (14, .p 14 0), (15, .p 15 0), (16, .p 16 0), (17, Ia c), (20, Ba false)] [(13, [Iv p1, Iv p2, Iv p3]), (14, [Iv q1, Iv q2, Iv q3]), (15, [Iv s1, Bv false, Iv 0]), (16, [Iv s2, Bv false, Iv 0])] ?_)
  refine vc_seqr rfl (iQ 2 (iC 31 [.agg [Iv p1, Iv p2, Iv p3], .agg [Iv q1, Iv q2, Iv q3]] (some 45) (c_dayCmp) ?_))
  rintro _ ⟨e, rfl, he1, he2⟩
  refine iB .lss 3 (.int .i64 e) (.int .i64 0) (some 46) ?_
  intro c46 hc46
  refine iQ 1 (iC 17 [.agg [Iv p1, Iv p2, Iv p3]] (some 48) (c_lexDateM hp) ?_)
  rintro _ rfl
  refine iQ 1 (iC 17 [.agg [Iv q1, Iv q2, Iv q3]] (some 50) (c_lexDateM hq) ?_)
  rintro _ rfl
  refine iB .lss 9 (.string (tx (dateL p1 p2 p3))) (.string (tx (dateL q1 q2 q3))) (some 51) ?_
  intro c51 hc51
  refine iB .eql 4 (.bool c46) (.bool c51) (some 52) ?_
  intro c52 hc52
  refine iQ 1 ?_
  obtain rfl : c52 = true := hc52.2 (by rw [Bool.eq_iff_iff, hc46, hc51, he1]; exact (date_lt (by omega) (by omega) (by omega) (by omega) (by omega) (by omega)).symm)
  refine iQ 1 (iB .lss 3 (.int .i64 c) (.int .i64 0) (some 55) ?_)
  intro c55 hc55
  refine iQ 1 (iC 19 [.agg [Iv s1, Bv false, Iv 0]] (some 57) (c_lexTimeM ht1) ?_)
  rintro _ rfl
  refine iQ 1 (iC 19 [.agg [Iv s2, Bv false, Iv 0]] (some 59) (c_lexTimeM ht2) ?_)
  rintro _ rfl
  refine iB .lss 9 (.string (tx (timeL s1 false 0))) (.string (tx (timeL s2 false 0))) (some 60) ?_
  intro c60 hc60
  refine iB .eql 4 (.bool c55) (.bool c60) (some 61) ?_
  intro c61 hc61
  refine iQ 2 (iE 63 [(1, Ia m), (4, Ia u), (12, Ba c61), (13, .p 13 0), (14, .p 14 0), (15, .p 15 0), (16, .p 16 0), (20, Ba false)] [(13, [Iv p1, Iv p2, Iv p3]), (14, [Iv q1, Iv q2, Iv q3]), (15, [Iv s1, Bv false, Iv 0]), (16, [Iv s2, Bv false, Iv 0])] ?_)
  refine vc_ret (iR (Bv c61) ?_)
  rw [hc61.2 (by rw [Bool.eq_iff_iff, hc55, hc60, hc]; exact (time_lt ⟨a1, b1⟩ ⟨a2, b2⟩).symm)]
end Go.Proofs.YtjpaedjhihiakaaDoor
