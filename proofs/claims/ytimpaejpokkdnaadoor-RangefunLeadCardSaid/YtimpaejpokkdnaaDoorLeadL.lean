/-
  casuistlaw23's laws of ranges: RangefunLead.
-/
import Derived.Test.YtimpaejpokkdnaaDoorAwk
namespace Go.Proofs.YtimpaejpokkdnaaDoor
open Go.RowKit
set_option linter.unusedVariables false
set_option linter.unusedSimpArgs false
set_option maxRecDepth 100000

theorem HI_r {w : ByteArray} {a0 a1 b0 b1 : Int} {p0 p1 q0 q1 : Bool} : HI w a0 a1 p0 p1 false b0 b1 q0 q1 false = ofI (hB w a0 a1 p0 p1 b0 b1 q0 q1) := by
  simp [HI, nullB, hiV]
theorem one_iff {p : Bool} : ofI p - 1 = 1 ↔ p = true := by cases p <;> decide
def In16 (x : Int) : Prop := -32768 ≤ x ∧ x ≤ 32767
theorem In16.ok {x : Int} (h : In16 x) : Ok x := by have h1 := h.1; have h2 := h.2; constructor <;> omega
theorem c_HoldR {w : ByteArray} (hw : w ∈ words) {a0 a1 b0 b1 : Int} {p0 p1 q0 q1 : Bool} (ha0 : In16 a0) (ha1 : In16 a1) (hb0 : In16 b0) (hb1 : In16 b1) :
    HasC Tryd.prog 8 [.v (.string w), .agg [.ifc (tV false) (cV a0 a1 p0 p1 false)], .agg [.ifc (tV false) (cV b0 b1 q0 q1 false)]] (fun r => r = .agg [cT (ofI (hB w a0 a1 p0 p1 b0 b1 q0 q1))]) := by
  rw [← HI_r]
  exact c_Holds hw ha0.ok ha1.ok hb0.ok hb1.ok
theorem ofI_cases (p : Bool) : ofI p = 0 ∨ ofI p = 1 ∨ ofI p = 2 := by cases p <;> simp [ofI]
section
variable {a0 a1 b0 b1 d0 d1 : Int} {p0 p1 q0 q1 r0 r1 : Bool}
theorem during_trans (h1 : hB w_during a0 a1 p0 p1 b0 b1 q0 q1 = true) (h2 : hB w_during b0 b1 q0 q1 d0 d1 r0 r1 = true) : hB w_during a0 a1 p0 p1 d0 d1 r0 r1 = true := by
  rw [hB_during] at *
  revert h1 h2
  simp only [ltE, Bool.and_eq_true, Bool.or_eq_true, decide_eq_true_eq]
  cases p0 <;> cases p1 <;> cases q0 <;> cases q1 <;> cases r0 <;> cases r1 <;> simp <;> omega
theorem not_after (ha : a0 < a1) (hb : b0 < b1) (h : hB w_before a0 a1 p0 p1 b0 b1 q0 q1 = true) : hB w_after a0 a1 p0 p1 b0 b1 q0 q1 ≠ true := by
  rw [hB_before] at h
  rw [hB_after]
  revert h
  simp only [ltE, Bool.and_eq_true, Bool.or_eq_true, decide_eq_true_eq]
  cases p0 <;> cases p1 <;> cases q0 <;> cases q1 <;> simp <;> omega
theorem not_overlaps (h : hB w_before a0 a1 p0 p1 b0 b1 q0 q1 = true) : hB w_overlaps a0 a1 p0 p1 b0 b1 q0 q1 ≠ true := by
  rw [hB_before] at h
  rw [hB_overlaps]
  revert h
  simp only [ltE, Bool.and_eq_true, Bool.or_eq_true, decide_eq_true_eq]
  cases p0 <;> cases p1 <;> cases q0 <;> cases q1 <;> simp <;> omega
theorem not_meets (h : hB w_before a0 a1 p0 p1 b0 b1 q0 q1 = true) : hB w_meets a0 a1 p0 p1 b0 b1 q0 q1 ≠ true := by
  rw [hB_before] at h
  rw [hB_meets]
  revert h
  simp only [ltE, Bool.and_eq_true, Bool.or_eq_true, decide_eq_true_eq]
  cases p0 <;> cases p1 <;> cases q0 <;> cases q1 <;> simp <;> omega
theorem co_cases (h : hB w_coincides a0 a1 p0 p1 b0 b1 q0 q1 = true) : a0 = b0 ∧ a1 = b1 ∧ p0 = q0 ∧ p1 = q1 := by
  rw [hB_coincides] at h
  revert h
  simp only [Bool.and_eq_true, decide_eq_true_eq, beq_iff_eq]
  rintro ⟨⟨h1, h2⟩, h3, h4⟩
  exact ⟨h1, h3, h2, h4⟩
theorem co_starts (h : hB w_coincides a0 a1 p0 p1 b0 b1 q0 q1 = true) : hB w_starts a0 a1 p0 p1 b0 b1 q0 q1 = true := by
  obtain ⟨rfl, rfl, rfl, rfl⟩ := co_cases h
  rw [hB_starts]
  simp only [ltE, Bool.and_eq_true, Bool.or_eq_true, decide_eq_true_eq, beq_iff_eq]
  cases p0 <;> cases p1 <;> simp
theorem co_finishes (h : hB w_coincides a0 a1 p0 p1 b0 b1 q0 q1 = true) : hB w_finishes a0 a1 p0 p1 b0 b1 q0 q1 = true := by
  obtain ⟨rfl, rfl, rfl, rfl⟩ := co_cases h
  rw [hB_finishes]
  simp only [ltE, Bool.and_eq_true, Bool.or_eq_true, decide_eq_true_eq, beq_iff_eq]
  cases p0 <;> cases p1 <;> simp
theorem co_includes (h : hB w_coincides a0 a1 p0 p1 b0 b1 q0 q1 = true) : hB w_includes a0 a1 p0 p1 b0 b1 q0 q1 = true := by
  obtain ⟨rfl, rfl, rfl, rfl⟩ := co_cases h
  rw [hB_includes]
  simp only [ltE, Bool.and_eq_true, Bool.or_eq_true, decide_eq_true_eq, beq_iff_eq]
  cases p0 <;> cases p1 <;> simp
end

set_option maxHeartbeats 1600000 in
theorem c_Lead {a0 a1 b0 b1 d0 d1 : Int} {p0 p1 q0 q1 r0 r1 pa pb pd : Bool} (ha0 : In16 a0) (ha1 : In16 a1) (hb0 : In16 b0) (hb1 : In16 b1) (hd0 : In16 d0) (hd1 : In16 d1) : HasC Tryd.prog 3 [.agg [.v (.int .i16 a0), .v (.int .i16 a1), .v (.bool p0), .v (.bool p1), .v (.bool pa)], .agg [.v (.int .i16 b0), .v (.int .i16 b1), .v (.bool q0), .v (.bool q1), .v (.bool pb)], .agg [.v (.int .i16 d0), .v (.int .i16 d1), .v (.bool r0), .v (.bool r1), .v (.bool pd)]] (fun r => r = .v (.bool true)) := by
  refine HasC.of [] (fn := Tryd.f3) tyOk mixed (fun args w => Tryd.call3 args w) Tryd.func3 rfl (by kernel_rfl) (Nat.le_of_ble_eq_true rfl) (⟨_, rfl⟩) ?_
  refine vc_seqr rfl (iQ 4 (iE 109 [(3, .p 3 0), (4, .p 4 0), (5, .p 5 0), (6, Ba false)] [(3, [.v (.int .i16 a0), .v (.int .i16 a1), Bv p0, Bv p1, Bv pa]), (4, [.v (.int .i16 b0), .v (.int .i16 b1), Bv q0, Bv q1, Bv pb]), (5, [.v (.int .i16 d0), .v (.int .i16 d1), Bv r0, Bv r1, Bv pd])] ?_))
  refine vc_seq (vc_seqr rfl (iC 5 [] (some 10) (c_awake) ?_))
  rintro _ rfl
  refine iU .not (.bool true) (some 11) ?_
  refine all_false ((by simp)) ?_
  refine iE 109 [(3, .p 3 0), (4, .p 4 0), (5, .p 5 0), (6, Ba false), (11, Ba false)] [(3, [.v (.int .i16 a0), .v (.int .i16 a1), Bv p0, Bv p1, Bv pa]), (4, [.v (.int .i16 b0), .v (.int .i16 b1), Bv q0, Bv q1, Bv pb]), (5, [.v (.int .i16 d0), .v (.int .i16 d1), Bv r0, Bv r1, Bv pd])] ?_
  refine iF (vc_skip (seq_n (vc_seqr rfl (iQ 6 (iE 109 [(3, .p 3 0), (4, .p 4 0), (5, .p 5 0), (6, Ba false), (11, Ba false)] [(3, [.v (.int .i16 a0), .v (.int .i16 a1), Bv p0, Bv p1, Bv false]), (4, [.v (.int .i16 b0), .v (.int .i16 b1), Bv q0, Bv q1, Bv false]), (5, [.v (.int .i16 d0), .v (.int .i16 d1), Bv r0, Bv r1, Bv false])] ?_)))))
  refine vc_seq (vc_seqr rfl (iQ 4 (iB .geq 22 (.int .i16 a0) (.int .i16 a1) (some 19) ?_)))
  intro c19 hc19
  refine iQ 1 ?_
  cases c19
  · replace hc19 := bf hc19
    refine iQ 4 (iB .geq 22 (.int .i16 b0) (.int .i16 b1) (some 25) ?_)
    intro c25 hc25
    refine iQ 2 ?_
    cases c25
    · replace hc25 := bf hc25
      refine iQ 4 (iB .geq 22 (.int .i16 d0) (.int .i16 d1) (some 32) ?_)
      intro c32 hc32
      refine iQ 1 (iE 109 [(3, .p 3 0), (4, .p 4 0), (5, .p 5 0), (6, Ba false), (11, Ba false), (33, Ba c32)] [(3, [.v (.int .i16 a0), .v (.int .i16 a1), Bv p0, Bv p1, Bv false]), (4, [.v (.int .i16 b0), .v (.int .i16 b1), Bv q0, Bv q1, Bv false]), (5, [.v (.int .i16 d0), .v (.int .i16 d1), Bv r0, Bv r1, Bv false])] ?_)
      cases c32
      · replace hc32 := bf hc32
        refine iF (vc_skip (seq_n (vc_seqr rfl (iQ 1 (iC 6 [.agg [.v (.int .i16 a0), .v (.int .i16 a1), Bv p0, Bv p1, Bv false]] (some 35) (c_Make ha0 ha1) ?_)))))
        rintro _ rfl
        refine iQ 1 (iC 6 [.agg [.v (.int .i16 b0), .v (.int .i16 b1), Bv q0, Bv q1, Bv false]] (some 37) (c_Make hb0 hb1) ?_)
        rintro _ rfl
        refine iQ 1 (iC 6 [.agg [.v (.int .i16 d0), .v (.int .i16 d1), Bv r0, Bv r1, Bv false]] (some 39) (c_Make hd0 hd1) ?_)
        rintro _ rfl
        refine iQ 6 (iE 109 [(3, .p 3 0), (4, .p 4 0), (5, .p 5 0), (6, Ba false), (7, .p 7 0), (8, .p 8 0), (9, .p 9 0), (11, Ba false), (33, Ba false)] [(3, [.v (.int .i16 a0), .v (.int .i16 a1), Bv p0, Bv p1, Bv false]), (4, [.v (.int .i16 b0), .v (.int .i16 b1), Bv q0, Bv q1, Bv false]), (5, [.v (.int .i16 d0), .v (.int .i16 d1), Bv r0, Bv r1, Bv false]), (7, [.ifc (tV false) (cV a0 a1 p0 p1 false)]), (8, [.ifc (tV false) (cV b0 b1 q0 q1 false)]), (9, [.ifc (tV false) (cV d0 d1 r0 r1 false)])] ?_)
        refine vc_seq (vc_seqr rfl (iQ 2 (iC 8 [Sv (⟨#[100, 117, 114, 105, 110, 103]⟩), .agg [.ifc (tV false) (cV a0 a1 p0 p1 false)], .agg [.ifc (tV false) (cV b0 b1 q0 q1 false)]] (some 42) (c_HoldR mem_during ha0 ha1 hb0 hb1) ?_)))
        rintro _ rfl
        refine iC 7 [.agg [cT (ofI (hB w_during a0 a1 p0 p1 b0 b1 q0 q1))]] (some 43) (c_yes (ofI_cases _)) ?_
        rintro _ rfl
        refine iB .eql 3 (.int .i64 (ofI (hB w_during a0 a1 p0 p1 b0 b1 q0 q1) - 1)) (.int .i64 1) (some 44) ?_
        intro c44 hc44
        refine iQ 1 ?_
        cases c44
        · replace hc44 := bf hc44
          refine iQ 13 (iE 109 [(3, .p 3 0), (4, .p 4 0), (5, .p 5 0), (6, Ba false), (7, .p 7 0), (8, .p 8 0), (9, .p 9 0), (11, Ba false), (33, Ba false), (58, Ba false)] [(3, [.v (.int .i16 a0), .v (.int .i16 a1), Bv p0, Bv p1, Bv false]), (4, [.v (.int .i16 b0), .v (.int .i16 b1), Bv q0, Bv q1, Bv false]), (5, [.v (.int .i16 d0), .v (.int .i16 d1), Bv r0, Bv r1, Bv false]), (7, [.ifc (tV false) (cV a0 a1 p0 p1 false)]), (8, [.ifc (tV false) (cV b0 b1 q0 q1 false)]), (9, [.ifc (tV false) (cV d0 d1 r0 r1 false)])] ?_)
          refine iF (vc_skip (seq_n (vc_seq (vc_seqr rfl (iQ 2 (iC 8 [Sv (⟨#[98, 101, 102, 111, 114, 101]⟩), .agg [.ifc (tV false) (cV a0 a1 p0 p1 false)], .agg [.ifc (tV false) (cV b0 b1 q0 q1 false)]] (some 61) (c_HoldR mem_before ha0 ha1 hb0 hb1) ?_))))))
          rintro _ rfl
          refine iC 7 [.agg [cT (ofI (hB w_before a0 a1 p0 p1 b0 b1 q0 q1))]] (some 62) (c_yes (ofI_cases _)) ?_
          rintro _ rfl
          refine iB .eql 3 (.int .i64 (ofI (hB w_before a0 a1 p0 p1 b0 b1 q0 q1) - 1)) (.int .i64 1) (some 63) ?_
          intro c63 hc63
          refine iQ 1 ?_
          cases c63
          · replace hc63 := bf hc63
            refine iQ 20 (iE 109 [(3, .p 3 0), (4, .p 4 0), (5, .p 5 0), (6, Ba false), (7, .p 7 0), (8, .p 8 0), (9, .p 9 0), (11, Ba false), (33, Ba false), (58, Ba false), (84, Ba false)] [(3, [.v (.int .i16 a0), .v (.int .i16 a1), Bv p0, Bv p1, Bv false]), (4, [.v (.int .i16 b0), .v (.int .i16 b1), Bv q0, Bv q1, Bv false]), (5, [.v (.int .i16 d0), .v (.int .i16 d1), Bv r0, Bv r1, Bv false]), (7, [.ifc (tV false) (cV a0 a1 p0 p1 false)]), (8, [.ifc (tV false) (cV b0 b1 q0 q1 false)]), (9, [.ifc (tV false) (cV d0 d1 r0 r1 false)])] ?_)
            refine iF (vc_skip (seq_n (vc_seq (vc_seqr rfl (iQ 2 (iC 8 [Sv (⟨#[99, 111, 105, 110, 99, 105, 100, 101, 115]⟩), .agg [.ifc (tV false) (cV a0 a1 p0 p1 false)], .agg [.ifc (tV false) (cV b0 b1 q0 q1 false)]] (some 87) (c_HoldR mem_coincides ha0 ha1 hb0 hb1) ?_))))))
            rintro _ rfl
            refine iC 7 [.agg [cT (ofI (hB w_coincides a0 a1 p0 p1 b0 b1 q0 q1))]] (some 88) (c_yes (ofI_cases _)) ?_
            rintro _ rfl
            refine iB .eql 3 (.int .i64 (ofI (hB w_coincides a0 a1 p0 p1 b0 b1 q0 q1) - 1)) (.int .i64 1) (some 89) ?_
            intro c89 hc89
            refine iE 109 [(3, .p 3 0), (4, .p 4 0), (5, .p 5 0), (6, Ba false), (7, .p 7 0), (8, .p 8 0), (9, .p 9 0), (11, Ba false), (33, Ba false), (58, Ba false), (84, Ba false), (89, Ba c89)] [(3, [.v (.int .i16 a0), .v (.int .i16 a1), Bv p0, Bv p1, Bv false]), (4, [.v (.int .i16 b0), .v (.int .i16 b1), Bv q0, Bv q1, Bv false]), (5, [.v (.int .i16 d0), .v (.int .i16 d1), Bv r0, Bv r1, Bv false]), (7, [.ifc (tV false) (cV a0 a1 p0 p1 false)]), (8, [.ifc (tV false) (cV b0 b1 q0 q1 false)]), (9, [.ifc (tV false) (cV d0 d1 r0 r1 false)])] ?_
            cases c89
            · replace hc89 := bf hc89
              refine iF (vc_skip (seq_n (vc_seqr rfl (iQ 1 (iE 109 [(3, .p 3 0), (4, .p 4 0), (5, .p 5 0), (6, Ba true), (7, .p 7 0), (8, .p 8 0), (9, .p 9 0), (11, Ba false), (33, Ba false), (58, Ba false), (84, Ba false), (89, Ba false)] [(3, [.v (.int .i16 a0), .v (.int .i16 a1), Bv p0, Bv p1, Bv false]), (4, [.v (.int .i16 b0), .v (.int .i16 b1), Bv q0, Bv q1, Bv false]), (5, [.v (.int .i16 d0), .v (.int .i16 d1), Bv r0, Bv r1, Bv false]), (7, [.ifc (tV false) (cV a0 a1 p0 p1 false)]), (8, [.ifc (tV false) (cV b0 b1 q0 q1 false)]), (9, [.ifc (tV false) (cV d0 d1 r0 r1 false)])] ?_)))))
              refine vc_ret (iR (Bv true) ?_)
              rfl
            · replace hc89 := bt hc89
              rw [one_iff] at hc89
              refine iT (vc_seqr rfl (iQ 2 (iC 8 [Sv (⟨#[115, 116, 97, 114, 116, 115]⟩), .agg [.ifc (tV false) (cV a0 a1 p0 p1 false)], .agg [.ifc (tV false) (cV b0 b1 q0 q1 false)]] (some 92) (c_HoldR mem_starts ha0 ha1 hb0 hb1) ?_)))
              rintro _ rfl
              refine iC 7 [.agg [cT (ofI (hB w_starts a0 a1 p0 p1 b0 b1 q0 q1))]] (some 93) (c_yes (ofI_cases _)) ?_
              rintro _ rfl
              refine iB .eql 3 (.int .i64 (ofI (hB w_starts a0 a1 p0 p1 b0 b1 q0 q1) - 1)) (.int .i64 1) (some 94) ?_
              refine all_true (one_iff.2 (co_starts hc89)) ?_
              refine iQ 3 (iC 8 [Sv (⟨#[102, 105, 110, 105, 115, 104, 101, 115]⟩), .agg [.ifc (tV false) (cV a0 a1 p0 p1 false)], .agg [.ifc (tV false) (cV b0 b1 q0 q1 false)]] (some 98) (c_HoldR mem_finishes ha0 ha1 hb0 hb1) ?_)
              rintro _ rfl
              refine iC 7 [.agg [cT (ofI (hB w_finishes a0 a1 p0 p1 b0 b1 q0 q1))]] (some 99) (c_yes (ofI_cases _)) ?_
              rintro _ rfl
              refine iB .eql 3 (.int .i64 (ofI (hB w_finishes a0 a1 p0 p1 b0 b1 q0 q1) - 1)) (.int .i64 1) (some 100) ?_
              refine all_true (one_iff.2 (co_finishes hc89)) ?_
              refine iQ 4 (iC 8 [Sv (⟨#[105, 110, 99, 108, 117, 100, 101, 115]⟩), .agg [.ifc (tV false) (cV a0 a1 p0 p1 false)], .agg [.ifc (tV false) (cV b0 b1 q0 q1 false)]] (some 105) (c_HoldR mem_includes ha0 ha1 hb0 hb1) ?_)
              rintro _ rfl
              refine iC 7 [.agg [cT (ofI (hB w_includes a0 a1 p0 p1 b0 b1 q0 q1))]] (some 106) (c_yes (ofI_cases _)) ?_
              rintro _ rfl
              refine iB .eql 3 (.int .i64 (ofI (hB w_includes a0 a1 p0 p1 b0 b1 q0 q1) - 1)) (.int .i64 1) (some 107) ?_
              refine all_true (one_iff.2 (co_includes hc89)) ?_
              refine iQ 2 (iE 109 [(3, .p 3 0), (4, .p 4 0), (5, .p 5 0), (6, Ba true), (7, .p 7 0), (8, .p 8 0), (9, .p 9 0), (11, Ba false), (33, Ba false), (58, Ba false), (84, Ba false), (89, Ba true)] [(3, [.v (.int .i16 a0), .v (.int .i16 a1), Bv p0, Bv p1, Bv false]), (4, [.v (.int .i16 b0), .v (.int .i16 b1), Bv q0, Bv q1, Bv false]), (5, [.v (.int .i16 d0), .v (.int .i16 d1), Bv r0, Bv r1, Bv false]), (7, [.ifc (tV false) (cV a0 a1 p0 p1 false)]), (8, [.ifc (tV false) (cV b0 b1 q0 q1 false)]), (9, [.ifc (tV false) (cV d0 d1 r0 r1 false)])] ?_)
              refine vc_ret (seq_r (iR (Bv true) ?_))
              rfl
          · replace hc63 := bt hc63
            refine iQ 2 ?_
            rw [one_iff] at hc63
            refine iC 8 [Sv (⟨#[97, 102, 116, 101, 114]⟩), .agg [.ifc (tV false) (cV a0 a1 p0 p1 false)], .agg [.ifc (tV false) (cV b0 b1 q0 q1 false)]] (some 67) (c_HoldR mem_after ha0 ha1 hb0 hb1) ?_
            rintro _ rfl
            refine iC 7 [.agg [cT (ofI (hB w_after a0 a1 p0 p1 b0 b1 q0 q1))]] (some 68) (c_yes (ofI_cases _)) ?_
            rintro _ rfl
            refine iB .eql 3 (.int .i64 (ofI (hB w_after a0 a1 p0 p1 b0 b1 q0 q1) - 1)) (.int .i64 1) (some 69) ?_
            refine all_false (fun h => not_after (by omega) (by omega) hc63 (one_iff.1 h)) ?_
            refine iQ 3 (iC 8 [Sv (⟨#[111, 118, 101, 114, 108, 97, 112, 115]⟩), .agg [.ifc (tV false) (cV a0 a1 p0 p1 false)], .agg [.ifc (tV false) (cV b0 b1 q0 q1 false)]] (some 73) (c_HoldR mem_overlaps ha0 ha1 hb0 hb1) ?_)
            rintro _ rfl
            refine iC 7 [.agg [cT (ofI (hB w_overlaps a0 a1 p0 p1 b0 b1 q0 q1))]] (some 74) (c_yes (ofI_cases _)) ?_
            rintro _ rfl
            refine iB .eql 3 (.int .i64 (ofI (hB w_overlaps a0 a1 p0 p1 b0 b1 q0 q1) - 1)) (.int .i64 1) (some 75) ?_
            refine all_false (fun h => not_overlaps hc63 (one_iff.1 h)) ?_
            refine iQ 4 (iC 8 [Sv (⟨#[109, 101, 101, 116, 115]⟩), .agg [.ifc (tV false) (cV a0 a1 p0 p1 false)], .agg [.ifc (tV false) (cV b0 b1 q0 q1 false)]] (some 80) (c_HoldR mem_meets ha0 ha1 hb0 hb1) ?_)
            rintro _ rfl
            refine iC 7 [.agg [cT (ofI (hB w_meets a0 a1 p0 p1 b0 b1 q0 q1))]] (some 81) (c_yes (ofI_cases _)) ?_
            rintro _ rfl
            refine iB .eql 3 (.int .i64 (ofI (hB w_meets a0 a1 p0 p1 b0 b1 q0 q1) - 1)) (.int .i64 1) (some 82) ?_
            refine all_false (fun h => not_meets hc63 (one_iff.1 h)) ?_
            refine iQ 2 (iE 109 [(3, .p 3 0), (4, .p 4 0), (5, .p 5 0), (6, Ba false), (7, .p 7 0), (8, .p 8 0), (9, .p 9 0), (11, Ba false), (33, Ba false), (58, Ba false), (84, Ba false)] [(3, [.v (.int .i16 a0), .v (.int .i16 a1), Bv p0, Bv p1, Bv false]), (4, [.v (.int .i16 b0), .v (.int .i16 b1), Bv q0, Bv q1, Bv false]), (5, [.v (.int .i16 d0), .v (.int .i16 d1), Bv r0, Bv r1, Bv false]), (7, [.ifc (tV false) (cV a0 a1 p0 p1 false)]), (8, [.ifc (tV false) (cV b0 b1 q0 q1 false)]), (9, [.ifc (tV false) (cV d0 d1 r0 r1 false)])] ?_)
            refine iF (vc_skip (seq_n (vc_seq (vc_seqr rfl (iQ 2 (iC 8 [Sv (⟨#[99, 111, 105, 110, 99, 105, 100, 101, 115]⟩), .agg [.ifc (tV false) (cV a0 a1 p0 p1 false)], .agg [.ifc (tV false) (cV b0 b1 q0 q1 false)]] (some 87) (c_HoldR mem_coincides ha0 ha1 hb0 hb1) ?_))))))
            rintro _ rfl
            refine iC 7 [.agg [cT (ofI (hB w_coincides a0 a1 p0 p1 b0 b1 q0 q1))]] (some 88) (c_yes (ofI_cases _)) ?_
            rintro _ rfl
            refine iB .eql 3 (.int .i64 (ofI (hB w_coincides a0 a1 p0 p1 b0 b1 q0 q1) - 1)) (.int .i64 1) (some 89) ?_
            intro c89 hc89
            refine iE 109 [(3, .p 3 0), (4, .p 4 0), (5, .p 5 0), (6, Ba false), (7, .p 7 0), (8, .p 8 0), (9, .p 9 0), (11, Ba false), (33, Ba false), (58, Ba false), (84, Ba false), (89, Ba c89)] [(3, [.v (.int .i16 a0), .v (.int .i16 a1), Bv p0, Bv p1, Bv false]), (4, [.v (.int .i16 b0), .v (.int .i16 b1), Bv q0, Bv q1, Bv false]), (5, [.v (.int .i16 d0), .v (.int .i16 d1), Bv r0, Bv r1, Bv false]), (7, [.ifc (tV false) (cV a0 a1 p0 p1 false)]), (8, [.ifc (tV false) (cV b0 b1 q0 q1 false)]), (9, [.ifc (tV false) (cV d0 d1 r0 r1 false)])] ?_
            cases c89
            · replace hc89 := bf hc89
              refine iF (vc_skip (seq_n (vc_seqr rfl (iQ 1 (iE 109 [(3, .p 3 0), (4, .p 4 0), (5, .p 5 0), (6, Ba true), (7, .p 7 0), (8, .p 8 0), (9, .p 9 0), (11, Ba false), (33, Ba false), (58, Ba false), (84, Ba false), (89, Ba false)] [(3, [.v (.int .i16 a0), .v (.int .i16 a1), Bv p0, Bv p1, Bv false]), (4, [.v (.int .i16 b0), .v (.int .i16 b1), Bv q0, Bv q1, Bv false]), (5, [.v (.int .i16 d0), .v (.int .i16 d1), Bv r0, Bv r1, Bv false]), (7, [.ifc (tV false) (cV a0 a1 p0 p1 false)]), (8, [.ifc (tV false) (cV b0 b1 q0 q1 false)]), (9, [.ifc (tV false) (cV d0 d1 r0 r1 false)])] ?_)))))
              refine vc_ret (iR (Bv true) ?_)
              rfl
            · replace hc89 := bt hc89
              rw [one_iff] at hc89
              refine iT (vc_seqr rfl (iQ 2 (iC 8 [Sv (⟨#[115, 116, 97, 114, 116, 115]⟩), .agg [.ifc (tV false) (cV a0 a1 p0 p1 false)], .agg [.ifc (tV false) (cV b0 b1 q0 q1 false)]] (some 92) (c_HoldR mem_starts ha0 ha1 hb0 hb1) ?_)))
              rintro _ rfl
              refine iC 7 [.agg [cT (ofI (hB w_starts a0 a1 p0 p1 b0 b1 q0 q1))]] (some 93) (c_yes (ofI_cases _)) ?_
              rintro _ rfl
              refine iB .eql 3 (.int .i64 (ofI (hB w_starts a0 a1 p0 p1 b0 b1 q0 q1) - 1)) (.int .i64 1) (some 94) ?_
              refine all_true (one_iff.2 (co_starts hc89)) ?_
              refine iQ 3 (iC 8 [Sv (⟨#[102, 105, 110, 105, 115, 104, 101, 115]⟩), .agg [.ifc (tV false) (cV a0 a1 p0 p1 false)], .agg [.ifc (tV false) (cV b0 b1 q0 q1 false)]] (some 98) (c_HoldR mem_finishes ha0 ha1 hb0 hb1) ?_)
              rintro _ rfl
              refine iC 7 [.agg [cT (ofI (hB w_finishes a0 a1 p0 p1 b0 b1 q0 q1))]] (some 99) (c_yes (ofI_cases _)) ?_
              rintro _ rfl
              refine iB .eql 3 (.int .i64 (ofI (hB w_finishes a0 a1 p0 p1 b0 b1 q0 q1) - 1)) (.int .i64 1) (some 100) ?_
              refine all_true (one_iff.2 (co_finishes hc89)) ?_
              refine iQ 4 (iC 8 [Sv (⟨#[105, 110, 99, 108, 117, 100, 101, 115]⟩), .agg [.ifc (tV false) (cV a0 a1 p0 p1 false)], .agg [.ifc (tV false) (cV b0 b1 q0 q1 false)]] (some 105) (c_HoldR mem_includes ha0 ha1 hb0 hb1) ?_)
              rintro _ rfl
              refine iC 7 [.agg [cT (ofI (hB w_includes a0 a1 p0 p1 b0 b1 q0 q1))]] (some 106) (c_yes (ofI_cases _)) ?_
              rintro _ rfl
              refine iB .eql 3 (.int .i64 (ofI (hB w_includes a0 a1 p0 p1 b0 b1 q0 q1) - 1)) (.int .i64 1) (some 107) ?_
              refine all_true (one_iff.2 (co_includes hc89)) ?_
              refine iQ 2 (iE 109 [(3, .p 3 0), (4, .p 4 0), (5, .p 5 0), (6, Ba true), (7, .p 7 0), (8, .p 8 0), (9, .p 9 0), (11, Ba false), (33, Ba false), (58, Ba false), (84, Ba false), (89, Ba true)] [(3, [.v (.int .i16 a0), .v (.int .i16 a1), Bv p0, Bv p1, Bv false]), (4, [.v (.int .i16 b0), .v (.int .i16 b1), Bv q0, Bv q1, Bv false]), (5, [.v (.int .i16 d0), .v (.int .i16 d1), Bv r0, Bv r1, Bv false]), (7, [.ifc (tV false) (cV a0 a1 p0 p1 false)]), (8, [.ifc (tV false) (cV b0 b1 q0 q1 false)]), (9, [.ifc (tV false) (cV d0 d1 r0 r1 false)])] ?_)
              refine vc_ret (seq_r (iR (Bv true) ?_))
              rfl
        · replace hc44 := bt hc44
          refine iQ 2 ?_
          rw [one_iff] at hc44
          refine iC 8 [Sv (⟨#[100, 117, 114, 105, 110, 103]⟩), .agg [.ifc (tV false) (cV b0 b1 q0 q1 false)], .agg [.ifc (tV false) (cV d0 d1 r0 r1 false)]] (some 48) (c_HoldR mem_during hb0 hb1 hd0 hd1) ?_
          rintro _ rfl
          refine iC 7 [.agg [cT (ofI (hB w_during b0 b1 q0 q1 d0 d1 r0 r1))]] (some 49) (c_yes (ofI_cases _)) ?_
          rintro _ rfl
          refine iB .eql 3 (.int .i64 (ofI (hB w_during b0 b1 q0 q1 d0 d1 r0 r1) - 1)) (.int .i64 1) (some 50) ?_
          intro c50 hc50
          refine iQ 2 ?_
          cases c50
          · replace hc50 := bf hc50
            refine iQ 6 (iE 109 [(3, .p 3 0), (4, .p 4 0), (5, .p 5 0), (6, Ba false), (7, .p 7 0), (8, .p 8 0), (9, .p 9 0), (11, Ba false), (33, Ba false), (58, Ba false)] [(3, [.v (.int .i16 a0), .v (.int .i16 a1), Bv p0, Bv p1, Bv false]), (4, [.v (.int .i16 b0), .v (.int .i16 b1), Bv q0, Bv q1, Bv false]), (5, [.v (.int .i16 d0), .v (.int .i16 d1), Bv r0, Bv r1, Bv false]), (7, [.ifc (tV false) (cV a0 a1 p0 p1 false)]), (8, [.ifc (tV false) (cV b0 b1 q0 q1 false)]), (9, [.ifc (tV false) (cV d0 d1 r0 r1 false)])] ?_)
            refine iF (vc_skip (seq_n (vc_seq (vc_seqr rfl (iQ 2 (iC 8 [Sv (⟨#[98, 101, 102, 111, 114, 101]⟩), .agg [.ifc (tV false) (cV a0 a1 p0 p1 false)], .agg [.ifc (tV false) (cV b0 b1 q0 q1 false)]] (some 61) (c_HoldR mem_before ha0 ha1 hb0 hb1) ?_))))))
            rintro _ rfl
            refine iC 7 [.agg [cT (ofI (hB w_before a0 a1 p0 p1 b0 b1 q0 q1))]] (some 62) (c_yes (ofI_cases _)) ?_
            rintro _ rfl
            refine iB .eql 3 (.int .i64 (ofI (hB w_before a0 a1 p0 p1 b0 b1 q0 q1) - 1)) (.int .i64 1) (some 63) ?_
            intro c63 hc63
            refine iQ 1 ?_
            cases c63
            · replace hc63 := bf hc63
              refine iQ 20 (iE 109 [(3, .p 3 0), (4, .p 4 0), (5, .p 5 0), (6, Ba false), (7, .p 7 0), (8, .p 8 0), (9, .p 9 0), (11, Ba false), (33, Ba false), (58, Ba false), (84, Ba false)] [(3, [.v (.int .i16 a0), .v (.int .i16 a1), Bv p0, Bv p1, Bv false]), (4, [.v (.int .i16 b0), .v (.int .i16 b1), Bv q0, Bv q1, Bv false]), (5, [.v (.int .i16 d0), .v (.int .i16 d1), Bv r0, Bv r1, Bv false]), (7, [.ifc (tV false) (cV a0 a1 p0 p1 false)]), (8, [.ifc (tV false) (cV b0 b1 q0 q1 false)]), (9, [.ifc (tV false) (cV d0 d1 r0 r1 false)])] ?_)
              refine iF (vc_skip (seq_n (vc_seq (vc_seqr rfl (iQ 2 (iC 8 [Sv (⟨#[99, 111, 105, 110, 99, 105, 100, 101, 115]⟩), .agg [.ifc (tV false) (cV a0 a1 p0 p1 false)], .agg [.ifc (tV false) (cV b0 b1 q0 q1 false)]] (some 87) (c_HoldR mem_coincides ha0 ha1 hb0 hb1) ?_))))))
              rintro _ rfl
              refine iC 7 [.agg [cT (ofI (hB w_coincides a0 a1 p0 p1 b0 b1 q0 q1))]] (some 88) (c_yes (ofI_cases _)) ?_
              rintro _ rfl
              refine iB .eql 3 (.int .i64 (ofI (hB w_coincides a0 a1 p0 p1 b0 b1 q0 q1) - 1)) (.int .i64 1) (some 89) ?_
              intro c89 hc89
              refine iE 109 [(3, .p 3 0), (4, .p 4 0), (5, .p 5 0), (6, Ba false), (7, .p 7 0), (8, .p 8 0), (9, .p 9 0), (11, Ba false), (33, Ba false), (58, Ba false), (84, Ba false), (89, Ba c89)] [(3, [.v (.int .i16 a0), .v (.int .i16 a1), Bv p0, Bv p1, Bv false]), (4, [.v (.int .i16 b0), .v (.int .i16 b1), Bv q0, Bv q1, Bv false]), (5, [.v (.int .i16 d0), .v (.int .i16 d1), Bv r0, Bv r1, Bv false]), (7, [.ifc (tV false) (cV a0 a1 p0 p1 false)]), (8, [.ifc (tV false) (cV b0 b1 q0 q1 false)]), (9, [.ifc (tV false) (cV d0 d1 r0 r1 false)])] ?_
              cases c89
              · replace hc89 := bf hc89
                refine iF (vc_skip (seq_n (vc_seqr rfl (iQ 1 (iE 109 [(3, .p 3 0), (4, .p 4 0), (5, .p 5 0), (6, Ba true), (7, .p 7 0), (8, .p 8 0), (9, .p 9 0), (11, Ba false), (33, Ba false), (58, Ba false), (84, Ba false), (89, Ba false)] [(3, [.v (.int .i16 a0), .v (.int .i16 a1), Bv p0, Bv p1, Bv false]), (4, [.v (.int .i16 b0), .v (.int .i16 b1), Bv q0, Bv q1, Bv false]), (5, [.v (.int .i16 d0), .v (.int .i16 d1), Bv r0, Bv r1, Bv false]), (7, [.ifc (tV false) (cV a0 a1 p0 p1 false)]), (8, [.ifc (tV false) (cV b0 b1 q0 q1 false)]), (9, [.ifc (tV false) (cV d0 d1 r0 r1 false)])] ?_)))))
                refine vc_ret (iR (Bv true) ?_)
                rfl
              · replace hc89 := bt hc89
                rw [one_iff] at hc89
                refine iT (vc_seqr rfl (iQ 2 (iC 8 [Sv (⟨#[115, 116, 97, 114, 116, 115]⟩), .agg [.ifc (tV false) (cV a0 a1 p0 p1 false)], .agg [.ifc (tV false) (cV b0 b1 q0 q1 false)]] (some 92) (c_HoldR mem_starts ha0 ha1 hb0 hb1) ?_)))
                rintro _ rfl
                refine iC 7 [.agg [cT (ofI (hB w_starts a0 a1 p0 p1 b0 b1 q0 q1))]] (some 93) (c_yes (ofI_cases _)) ?_
                rintro _ rfl
                refine iB .eql 3 (.int .i64 (ofI (hB w_starts a0 a1 p0 p1 b0 b1 q0 q1) - 1)) (.int .i64 1) (some 94) ?_
                refine all_true (one_iff.2 (co_starts hc89)) ?_
                refine iQ 3 (iC 8 [Sv (⟨#[102, 105, 110, 105, 115, 104, 101, 115]⟩), .agg [.ifc (tV false) (cV a0 a1 p0 p1 false)], .agg [.ifc (tV false) (cV b0 b1 q0 q1 false)]] (some 98) (c_HoldR mem_finishes ha0 ha1 hb0 hb1) ?_)
                rintro _ rfl
                refine iC 7 [.agg [cT (ofI (hB w_finishes a0 a1 p0 p1 b0 b1 q0 q1))]] (some 99) (c_yes (ofI_cases _)) ?_
                rintro _ rfl
                refine iB .eql 3 (.int .i64 (ofI (hB w_finishes a0 a1 p0 p1 b0 b1 q0 q1) - 1)) (.int .i64 1) (some 100) ?_
                refine all_true (one_iff.2 (co_finishes hc89)) ?_
                refine iQ 4 (iC 8 [Sv (⟨#[105, 110, 99, 108, 117, 100, 101, 115]⟩), .agg [.ifc (tV false) (cV a0 a1 p0 p1 false)], .agg [.ifc (tV false) (cV b0 b1 q0 q1 false)]] (some 105) (c_HoldR mem_includes ha0 ha1 hb0 hb1) ?_)
                rintro _ rfl
                refine iC 7 [.agg [cT (ofI (hB w_includes a0 a1 p0 p1 b0 b1 q0 q1))]] (some 106) (c_yes (ofI_cases _)) ?_
                rintro _ rfl
                refine iB .eql 3 (.int .i64 (ofI (hB w_includes a0 a1 p0 p1 b0 b1 q0 q1) - 1)) (.int .i64 1) (some 107) ?_
                refine all_true (one_iff.2 (co_includes hc89)) ?_
                refine iQ 2 (iE 109 [(3, .p 3 0), (4, .p 4 0), (5, .p 5 0), (6, Ba true), (7, .p 7 0), (8, .p 8 0), (9, .p 9 0), (11, Ba false), (33, Ba false), (58, Ba false), (84, Ba false), (89, Ba true)] [(3, [.v (.int .i16 a0), .v (.int .i16 a1), Bv p0, Bv p1, Bv false]), (4, [.v (.int .i16 b0), .v (.int .i16 b1), Bv q0, Bv q1, Bv false]), (5, [.v (.int .i16 d0), .v (.int .i16 d1), Bv r0, Bv r1, Bv false]), (7, [.ifc (tV false) (cV a0 a1 p0 p1 false)]), (8, [.ifc (tV false) (cV b0 b1 q0 q1 false)]), (9, [.ifc (tV false) (cV d0 d1 r0 r1 false)])] ?_)
                refine vc_ret (seq_r (iR (Bv true) ?_))
                rfl
            · replace hc63 := bt hc63
              refine iQ 2 ?_
              rw [one_iff] at hc63
              refine iC 8 [Sv (⟨#[97, 102, 116, 101, 114]⟩), .agg [.ifc (tV false) (cV a0 a1 p0 p1 false)], .agg [.ifc (tV false) (cV b0 b1 q0 q1 false)]] (some 67) (c_HoldR mem_after ha0 ha1 hb0 hb1) ?_
              rintro _ rfl
              refine iC 7 [.agg [cT (ofI (hB w_after a0 a1 p0 p1 b0 b1 q0 q1))]] (some 68) (c_yes (ofI_cases _)) ?_
              rintro _ rfl
              refine iB .eql 3 (.int .i64 (ofI (hB w_after a0 a1 p0 p1 b0 b1 q0 q1) - 1)) (.int .i64 1) (some 69) ?_
              refine all_false (fun h => not_after (by omega) (by omega) hc63 (one_iff.1 h)) ?_
              refine iQ 3 (iC 8 [Sv (⟨#[111, 118, 101, 114, 108, 97, 112, 115]⟩), .agg [.ifc (tV false) (cV a0 a1 p0 p1 false)], .agg [.ifc (tV false) (cV b0 b1 q0 q1 false)]] (some 73) (c_HoldR mem_overlaps ha0 ha1 hb0 hb1) ?_)
              rintro _ rfl
              refine iC 7 [.agg [cT (ofI (hB w_overlaps a0 a1 p0 p1 b0 b1 q0 q1))]] (some 74) (c_yes (ofI_cases _)) ?_
              rintro _ rfl
              refine iB .eql 3 (.int .i64 (ofI (hB w_overlaps a0 a1 p0 p1 b0 b1 q0 q1) - 1)) (.int .i64 1) (some 75) ?_
              refine all_false (fun h => not_overlaps hc63 (one_iff.1 h)) ?_
              refine iQ 4 (iC 8 [Sv (⟨#[109, 101, 101, 116, 115]⟩), .agg [.ifc (tV false) (cV a0 a1 p0 p1 false)], .agg [.ifc (tV false) (cV b0 b1 q0 q1 false)]] (some 80) (c_HoldR mem_meets ha0 ha1 hb0 hb1) ?_)
              rintro _ rfl
              refine iC 7 [.agg [cT (ofI (hB w_meets a0 a1 p0 p1 b0 b1 q0 q1))]] (some 81) (c_yes (ofI_cases _)) ?_
              rintro _ rfl
              refine iB .eql 3 (.int .i64 (ofI (hB w_meets a0 a1 p0 p1 b0 b1 q0 q1) - 1)) (.int .i64 1) (some 82) ?_
              refine all_false (fun h => not_meets hc63 (one_iff.1 h)) ?_
              refine iQ 2 (iE 109 [(3, .p 3 0), (4, .p 4 0), (5, .p 5 0), (6, Ba false), (7, .p 7 0), (8, .p 8 0), (9, .p 9 0), (11, Ba false), (33, Ba false), (58, Ba false), (84, Ba false)] [(3, [.v (.int .i16 a0), .v (.int .i16 a1), Bv p0, Bv p1, Bv false]), (4, [.v (.int .i16 b0), .v (.int .i16 b1), Bv q0, Bv q1, Bv false]), (5, [.v (.int .i16 d0), .v (.int .i16 d1), Bv r0, Bv r1, Bv false]), (7, [.ifc (tV false) (cV a0 a1 p0 p1 false)]), (8, [.ifc (tV false) (cV b0 b1 q0 q1 false)]), (9, [.ifc (tV false) (cV d0 d1 r0 r1 false)])] ?_)
              refine iF (vc_skip (seq_n (vc_seq (vc_seqr rfl (iQ 2 (iC 8 [Sv (⟨#[99, 111, 105, 110, 99, 105, 100, 101, 115]⟩), .agg [.ifc (tV false) (cV a0 a1 p0 p1 false)], .agg [.ifc (tV false) (cV b0 b1 q0 q1 false)]] (some 87) (c_HoldR mem_coincides ha0 ha1 hb0 hb1) ?_))))))
              rintro _ rfl
              refine iC 7 [.agg [cT (ofI (hB w_coincides a0 a1 p0 p1 b0 b1 q0 q1))]] (some 88) (c_yes (ofI_cases _)) ?_
              rintro _ rfl
              refine iB .eql 3 (.int .i64 (ofI (hB w_coincides a0 a1 p0 p1 b0 b1 q0 q1) - 1)) (.int .i64 1) (some 89) ?_
              intro c89 hc89
              refine iE 109 [(3, .p 3 0), (4, .p 4 0), (5, .p 5 0), (6, Ba false), (7, .p 7 0), (8, .p 8 0), (9, .p 9 0), (11, Ba false), (33, Ba false), (58, Ba false), (84, Ba false), (89, Ba c89)] [(3, [.v (.int .i16 a0), .v (.int .i16 a1), Bv p0, Bv p1, Bv false]), (4, [.v (.int .i16 b0), .v (.int .i16 b1), Bv q0, Bv q1, Bv false]), (5, [.v (.int .i16 d0), .v (.int .i16 d1), Bv r0, Bv r1, Bv false]), (7, [.ifc (tV false) (cV a0 a1 p0 p1 false)]), (8, [.ifc (tV false) (cV b0 b1 q0 q1 false)]), (9, [.ifc (tV false) (cV d0 d1 r0 r1 false)])] ?_
              cases c89
              · replace hc89 := bf hc89
                refine iF (vc_skip (seq_n (vc_seqr rfl (iQ 1 (iE 109 [(3, .p 3 0), (4, .p 4 0), (5, .p 5 0), (6, Ba true), (7, .p 7 0), (8, .p 8 0), (9, .p 9 0), (11, Ba false), (33, Ba false), (58, Ba false), (84, Ba false), (89, Ba false)] [(3, [.v (.int .i16 a0), .v (.int .i16 a1), Bv p0, Bv p1, Bv false]), (4, [.v (.int .i16 b0), .v (.int .i16 b1), Bv q0, Bv q1, Bv false]), (5, [.v (.int .i16 d0), .v (.int .i16 d1), Bv r0, Bv r1, Bv false]), (7, [.ifc (tV false) (cV a0 a1 p0 p1 false)]), (8, [.ifc (tV false) (cV b0 b1 q0 q1 false)]), (9, [.ifc (tV false) (cV d0 d1 r0 r1 false)])] ?_)))))
                refine vc_ret (iR (Bv true) ?_)
                rfl
              · replace hc89 := bt hc89
                rw [one_iff] at hc89
                refine iT (vc_seqr rfl (iQ 2 (iC 8 [Sv (⟨#[115, 116, 97, 114, 116, 115]⟩), .agg [.ifc (tV false) (cV a0 a1 p0 p1 false)], .agg [.ifc (tV false) (cV b0 b1 q0 q1 false)]] (some 92) (c_HoldR mem_starts ha0 ha1 hb0 hb1) ?_)))
                rintro _ rfl
                refine iC 7 [.agg [cT (ofI (hB w_starts a0 a1 p0 p1 b0 b1 q0 q1))]] (some 93) (c_yes (ofI_cases _)) ?_
                rintro _ rfl
                refine iB .eql 3 (.int .i64 (ofI (hB w_starts a0 a1 p0 p1 b0 b1 q0 q1) - 1)) (.int .i64 1) (some 94) ?_
                refine all_true (one_iff.2 (co_starts hc89)) ?_
                refine iQ 3 (iC 8 [Sv (⟨#[102, 105, 110, 105, 115, 104, 101, 115]⟩), .agg [.ifc (tV false) (cV a0 a1 p0 p1 false)], .agg [.ifc (tV false) (cV b0 b1 q0 q1 false)]] (some 98) (c_HoldR mem_finishes ha0 ha1 hb0 hb1) ?_)
                rintro _ rfl
                refine iC 7 [.agg [cT (ofI (hB w_finishes a0 a1 p0 p1 b0 b1 q0 q1))]] (some 99) (c_yes (ofI_cases _)) ?_
                rintro _ rfl
                refine iB .eql 3 (.int .i64 (ofI (hB w_finishes a0 a1 p0 p1 b0 b1 q0 q1) - 1)) (.int .i64 1) (some 100) ?_
                refine all_true (one_iff.2 (co_finishes hc89)) ?_
                refine iQ 4 (iC 8 [Sv (⟨#[105, 110, 99, 108, 117, 100, 101, 115]⟩), .agg [.ifc (tV false) (cV a0 a1 p0 p1 false)], .agg [.ifc (tV false) (cV b0 b1 q0 q1 false)]] (some 105) (c_HoldR mem_includes ha0 ha1 hb0 hb1) ?_)
                rintro _ rfl
                refine iC 7 [.agg [cT (ofI (hB w_includes a0 a1 p0 p1 b0 b1 q0 q1))]] (some 106) (c_yes (ofI_cases _)) ?_
                rintro _ rfl
                refine iB .eql 3 (.int .i64 (ofI (hB w_includes a0 a1 p0 p1 b0 b1 q0 q1) - 1)) (.int .i64 1) (some 107) ?_
                refine all_true (one_iff.2 (co_includes hc89)) ?_
                refine iQ 2 (iE 109 [(3, .p 3 0), (4, .p 4 0), (5, .p 5 0), (6, Ba true), (7, .p 7 0), (8, .p 8 0), (9, .p 9 0), (11, Ba false), (33, Ba false), (58, Ba false), (84, Ba false), (89, Ba true)] [(3, [.v (.int .i16 a0), .v (.int .i16 a1), Bv p0, Bv p1, Bv false]), (4, [.v (.int .i16 b0), .v (.int .i16 b1), Bv q0, Bv q1, Bv false]), (5, [.v (.int .i16 d0), .v (.int .i16 d1), Bv r0, Bv r1, Bv false]), (7, [.ifc (tV false) (cV a0 a1 p0 p1 false)]), (8, [.ifc (tV false) (cV b0 b1 q0 q1 false)]), (9, [.ifc (tV false) (cV d0 d1 r0 r1 false)])] ?_)
                refine vc_ret (seq_r (iR (Bv true) ?_))
                rfl
          · replace hc50 := bt hc50
            refine iQ 2 ?_
            rw [one_iff] at hc50
            refine iC 8 [Sv (⟨#[100, 117, 114, 105, 110, 103]⟩), .agg [.ifc (tV false) (cV a0 a1 p0 p1 false)], .agg [.ifc (tV false) (cV d0 d1 r0 r1 false)]] (some 55) (c_HoldR mem_during ha0 ha1 hd0 hd1) ?_
            rintro _ rfl
            refine iC 7 [.agg [cT (ofI (hB w_during a0 a1 p0 p1 d0 d1 r0 r1))]] (some 56) (c_yes (ofI_cases _)) ?_
            rintro _ rfl
            refine iB .neq 3 (.int .i64 (ofI (hB w_during a0 a1 p0 p1 d0 d1 r0 r1) - 1)) (.int .i64 1) (some 57) ?_
            refine all_false (fun h => h (one_iff.2 (during_trans hc44 hc50))) ?_
            refine iQ 1 (iE 109 [(3, .p 3 0), (4, .p 4 0), (5, .p 5 0), (6, Ba false), (7, .p 7 0), (8, .p 8 0), (9, .p 9 0), (11, Ba false), (33, Ba false), (58, Ba false)] [(3, [.v (.int .i16 a0), .v (.int .i16 a1), Bv p0, Bv p1, Bv false]), (4, [.v (.int .i16 b0), .v (.int .i16 b1), Bv q0, Bv q1, Bv false]), (5, [.v (.int .i16 d0), .v (.int .i16 d1), Bv r0, Bv r1, Bv false]), (7, [.ifc (tV false) (cV a0 a1 p0 p1 false)]), (8, [.ifc (tV false) (cV b0 b1 q0 q1 false)]), (9, [.ifc (tV false) (cV d0 d1 r0 r1 false)])] ?_)
            refine iF (vc_skip (seq_n (vc_seq (vc_seqr rfl (iQ 2 (iC 8 [Sv (⟨#[98, 101, 102, 111, 114, 101]⟩), .agg [.ifc (tV false) (cV a0 a1 p0 p1 false)], .agg [.ifc (tV false) (cV b0 b1 q0 q1 false)]] (some 61) (c_HoldR mem_before ha0 ha1 hb0 hb1) ?_))))))
            rintro _ rfl
            refine iC 7 [.agg [cT (ofI (hB w_before a0 a1 p0 p1 b0 b1 q0 q1))]] (some 62) (c_yes (ofI_cases _)) ?_
            rintro _ rfl
            refine iB .eql 3 (.int .i64 (ofI (hB w_before a0 a1 p0 p1 b0 b1 q0 q1) - 1)) (.int .i64 1) (some 63) ?_
            intro c63 hc63
            refine iQ 1 ?_
            cases c63
            · replace hc63 := bf hc63
              refine iQ 20 (iE 109 [(3, .p 3 0), (4, .p 4 0), (5, .p 5 0), (6, Ba false), (7, .p 7 0), (8, .p 8 0), (9, .p 9 0), (11, Ba false), (33, Ba false), (58, Ba false), (84, Ba false)] [(3, [.v (.int .i16 a0), .v (.int .i16 a1), Bv p0, Bv p1, Bv false]), (4, [.v (.int .i16 b0), .v (.int .i16 b1), Bv q0, Bv q1, Bv false]), (5, [.v (.int .i16 d0), .v (.int .i16 d1), Bv r0, Bv r1, Bv false]), (7, [.ifc (tV false) (cV a0 a1 p0 p1 false)]), (8, [.ifc (tV false) (cV b0 b1 q0 q1 false)]), (9, [.ifc (tV false) (cV d0 d1 r0 r1 false)])] ?_)
              refine iF (vc_skip (seq_n (vc_seq (vc_seqr rfl (iQ 2 (iC 8 [Sv (⟨#[99, 111, 105, 110, 99, 105, 100, 101, 115]⟩), .agg [.ifc (tV false) (cV a0 a1 p0 p1 false)], .agg [.ifc (tV false) (cV b0 b1 q0 q1 false)]] (some 87) (c_HoldR mem_coincides ha0 ha1 hb0 hb1) ?_))))))
              rintro _ rfl
              refine iC 7 [.agg [cT (ofI (hB w_coincides a0 a1 p0 p1 b0 b1 q0 q1))]] (some 88) (c_yes (ofI_cases _)) ?_
              rintro _ rfl
              refine iB .eql 3 (.int .i64 (ofI (hB w_coincides a0 a1 p0 p1 b0 b1 q0 q1) - 1)) (.int .i64 1) (some 89) ?_
              intro c89 hc89
              refine iE 109 [(3, .p 3 0), (4, .p 4 0), (5, .p 5 0), (6, Ba false), (7, .p 7 0), (8, .p 8 0), (9, .p 9 0), (11, Ba false), (33, Ba false), (58, Ba false), (84, Ba false), (89, Ba c89)] [(3, [.v (.int .i16 a0), .v (.int .i16 a1), Bv p0, Bv p1, Bv false]), (4, [.v (.int .i16 b0), .v (.int .i16 b1), Bv q0, Bv q1, Bv false]), (5, [.v (.int .i16 d0), .v (.int .i16 d1), Bv r0, Bv r1, Bv false]), (7, [.ifc (tV false) (cV a0 a1 p0 p1 false)]), (8, [.ifc (tV false) (cV b0 b1 q0 q1 false)]), (9, [.ifc (tV false) (cV d0 d1 r0 r1 false)])] ?_
              cases c89
              · replace hc89 := bf hc89
                refine iF (vc_skip (seq_n (vc_seqr rfl (iQ 1 (iE 109 [(3, .p 3 0), (4, .p 4 0), (5, .p 5 0), (6, Ba true), (7, .p 7 0), (8, .p 8 0), (9, .p 9 0), (11, Ba false), (33, Ba false), (58, Ba false), (84, Ba false), (89, Ba false)] [(3, [.v (.int .i16 a0), .v (.int .i16 a1), Bv p0, Bv p1, Bv false]), (4, [.v (.int .i16 b0), .v (.int .i16 b1), Bv q0, Bv q1, Bv false]), (5, [.v (.int .i16 d0), .v (.int .i16 d1), Bv r0, Bv r1, Bv false]), (7, [.ifc (tV false) (cV a0 a1 p0 p1 false)]), (8, [.ifc (tV false) (cV b0 b1 q0 q1 false)]), (9, [.ifc (tV false) (cV d0 d1 r0 r1 false)])] ?_)))))
                refine vc_ret (iR (Bv true) ?_)
                rfl
              · replace hc89 := bt hc89
                rw [one_iff] at hc89
                refine iT (vc_seqr rfl (iQ 2 (iC 8 [Sv (⟨#[115, 116, 97, 114, 116, 115]⟩), .agg [.ifc (tV false) (cV a0 a1 p0 p1 false)], .agg [.ifc (tV false) (cV b0 b1 q0 q1 false)]] (some 92) (c_HoldR mem_starts ha0 ha1 hb0 hb1) ?_)))
                rintro _ rfl
                refine iC 7 [.agg [cT (ofI (hB w_starts a0 a1 p0 p1 b0 b1 q0 q1))]] (some 93) (c_yes (ofI_cases _)) ?_
                rintro _ rfl
                refine iB .eql 3 (.int .i64 (ofI (hB w_starts a0 a1 p0 p1 b0 b1 q0 q1) - 1)) (.int .i64 1) (some 94) ?_
                refine all_true (one_iff.2 (co_starts hc89)) ?_
                refine iQ 3 (iC 8 [Sv (⟨#[102, 105, 110, 105, 115, 104, 101, 115]⟩), .agg [.ifc (tV false) (cV a0 a1 p0 p1 false)], .agg [.ifc (tV false) (cV b0 b1 q0 q1 false)]] (some 98) (c_HoldR mem_finishes ha0 ha1 hb0 hb1) ?_)
                rintro _ rfl
                refine iC 7 [.agg [cT (ofI (hB w_finishes a0 a1 p0 p1 b0 b1 q0 q1))]] (some 99) (c_yes (ofI_cases _)) ?_
                rintro _ rfl
                refine iB .eql 3 (.int .i64 (ofI (hB w_finishes a0 a1 p0 p1 b0 b1 q0 q1) - 1)) (.int .i64 1) (some 100) ?_
                refine all_true (one_iff.2 (co_finishes hc89)) ?_
                refine iQ 4 (iC 8 [Sv (⟨#[105, 110, 99, 108, 117, 100, 101, 115]⟩), .agg [.ifc (tV false) (cV a0 a1 p0 p1 false)], .agg [.ifc (tV false) (cV b0 b1 q0 q1 false)]] (some 105) (c_HoldR mem_includes ha0 ha1 hb0 hb1) ?_)
                rintro _ rfl
                refine iC 7 [.agg [cT (ofI (hB w_includes a0 a1 p0 p1 b0 b1 q0 q1))]] (some 106) (c_yes (ofI_cases _)) ?_
                rintro _ rfl
                refine iB .eql 3 (.int .i64 (ofI (hB w_includes a0 a1 p0 p1 b0 b1 q0 q1) - 1)) (.int .i64 1) (some 107) ?_
                refine all_true (one_iff.2 (co_includes hc89)) ?_
                refine iQ 2 (iE 109 [(3, .p 3 0), (4, .p 4 0), (5, .p 5 0), (6, Ba true), (7, .p 7 0), (8, .p 8 0), (9, .p 9 0), (11, Ba false), (33, Ba false), (58, Ba false), (84, Ba false), (89, Ba true)] [(3, [.v (.int .i16 a0), .v (.int .i16 a1), Bv p0, Bv p1, Bv false]), (4, [.v (.int .i16 b0), .v (.int .i16 b1), Bv q0, Bv q1, Bv false]), (5, [.v (.int .i16 d0), .v (.int .i16 d1), Bv r0, Bv r1, Bv false]), (7, [.ifc (tV false) (cV a0 a1 p0 p1 false)]), (8, [.ifc (tV false) (cV b0 b1 q0 q1 false)]), (9, [.ifc (tV false) (cV d0 d1 r0 r1 false)])] ?_)
                refine vc_ret (seq_r (iR (Bv true) ?_))
                rfl
            · replace hc63 := bt hc63
              refine iQ 2 ?_
              rw [one_iff] at hc63
              refine iC 8 [Sv (⟨#[97, 102, 116, 101, 114]⟩), .agg [.ifc (tV false) (cV a0 a1 p0 p1 false)], .agg [.ifc (tV false) (cV b0 b1 q0 q1 false)]] (some 67) (c_HoldR mem_after ha0 ha1 hb0 hb1) ?_
              rintro _ rfl
              refine iC 7 [.agg [cT (ofI (hB w_after a0 a1 p0 p1 b0 b1 q0 q1))]] (some 68) (c_yes (ofI_cases _)) ?_
              rintro _ rfl
              refine iB .eql 3 (.int .i64 (ofI (hB w_after a0 a1 p0 p1 b0 b1 q0 q1) - 1)) (.int .i64 1) (some 69) ?_
              refine all_false (fun h => not_after (by omega) (by omega) hc63 (one_iff.1 h)) ?_
              refine iQ 3 (iC 8 [Sv (⟨#[111, 118, 101, 114, 108, 97, 112, 115]⟩), .agg [.ifc (tV false) (cV a0 a1 p0 p1 false)], .agg [.ifc (tV false) (cV b0 b1 q0 q1 false)]] (some 73) (c_HoldR mem_overlaps ha0 ha1 hb0 hb1) ?_)
              rintro _ rfl
              refine iC 7 [.agg [cT (ofI (hB w_overlaps a0 a1 p0 p1 b0 b1 q0 q1))]] (some 74) (c_yes (ofI_cases _)) ?_
              rintro _ rfl
              refine iB .eql 3 (.int .i64 (ofI (hB w_overlaps a0 a1 p0 p1 b0 b1 q0 q1) - 1)) (.int .i64 1) (some 75) ?_
              refine all_false (fun h => not_overlaps hc63 (one_iff.1 h)) ?_
              refine iQ 4 (iC 8 [Sv (⟨#[109, 101, 101, 116, 115]⟩), .agg [.ifc (tV false) (cV a0 a1 p0 p1 false)], .agg [.ifc (tV false) (cV b0 b1 q0 q1 false)]] (some 80) (c_HoldR mem_meets ha0 ha1 hb0 hb1) ?_)
              rintro _ rfl
              refine iC 7 [.agg [cT (ofI (hB w_meets a0 a1 p0 p1 b0 b1 q0 q1))]] (some 81) (c_yes (ofI_cases _)) ?_
              rintro _ rfl
              refine iB .eql 3 (.int .i64 (ofI (hB w_meets a0 a1 p0 p1 b0 b1 q0 q1) - 1)) (.int .i64 1) (some 82) ?_
              refine all_false (fun h => not_meets hc63 (one_iff.1 h)) ?_
              refine iQ 2 (iE 109 [(3, .p 3 0), (4, .p 4 0), (5, .p 5 0), (6, Ba false), (7, .p 7 0), (8, .p 8 0), (9, .p 9 0), (11, Ba false), (33, Ba false), (58, Ba false), (84, Ba false)] [(3, [.v (.int .i16 a0), .v (.int .i16 a1), Bv p0, Bv p1, Bv false]), (4, [.v (.int .i16 b0), .v (.int .i16 b1), Bv q0, Bv q1, Bv false]), (5, [.v (.int .i16 d0), .v (.int .i16 d1), Bv r0, Bv r1, Bv false]), (7, [.ifc (tV false) (cV a0 a1 p0 p1 false)]), (8, [.ifc (tV false) (cV b0 b1 q0 q1 false)]), (9, [.ifc (tV false) (cV d0 d1 r0 r1 false)])] ?_)
              refine iF (vc_skip (seq_n (vc_seq (vc_seqr rfl (iQ 2 (iC 8 [Sv (⟨#[99, 111, 105, 110, 99, 105, 100, 101, 115]⟩), .agg [.ifc (tV false) (cV a0 a1 p0 p1 false)], .agg [.ifc (tV false) (cV b0 b1 q0 q1 false)]] (some 87) (c_HoldR mem_coincides ha0 ha1 hb0 hb1) ?_))))))
              rintro _ rfl
              refine iC 7 [.agg [cT (ofI (hB w_coincides a0 a1 p0 p1 b0 b1 q0 q1))]] (some 88) (c_yes (ofI_cases _)) ?_
              rintro _ rfl
              refine iB .eql 3 (.int .i64 (ofI (hB w_coincides a0 a1 p0 p1 b0 b1 q0 q1) - 1)) (.int .i64 1) (some 89) ?_
              intro c89 hc89
              refine iE 109 [(3, .p 3 0), (4, .p 4 0), (5, .p 5 0), (6, Ba false), (7, .p 7 0), (8, .p 8 0), (9, .p 9 0), (11, Ba false), (33, Ba false), (58, Ba false), (84, Ba false), (89, Ba c89)] [(3, [.v (.int .i16 a0), .v (.int .i16 a1), Bv p0, Bv p1, Bv false]), (4, [.v (.int .i16 b0), .v (.int .i16 b1), Bv q0, Bv q1, Bv false]), (5, [.v (.int .i16 d0), .v (.int .i16 d1), Bv r0, Bv r1, Bv false]), (7, [.ifc (tV false) (cV a0 a1 p0 p1 false)]), (8, [.ifc (tV false) (cV b0 b1 q0 q1 false)]), (9, [.ifc (tV false) (cV d0 d1 r0 r1 false)])] ?_
              cases c89
              · replace hc89 := bf hc89
                refine iF (vc_skip (seq_n (vc_seqr rfl (iQ 1 (iE 109 [(3, .p 3 0), (4, .p 4 0), (5, .p 5 0), (6, Ba true), (7, .p 7 0), (8, .p 8 0), (9, .p 9 0), (11, Ba false), (33, Ba false), (58, Ba false), (84, Ba false), (89, Ba false)] [(3, [.v (.int .i16 a0), .v (.int .i16 a1), Bv p0, Bv p1, Bv false]), (4, [.v (.int .i16 b0), .v (.int .i16 b1), Bv q0, Bv q1, Bv false]), (5, [.v (.int .i16 d0), .v (.int .i16 d1), Bv r0, Bv r1, Bv false]), (7, [.ifc (tV false) (cV a0 a1 p0 p1 false)]), (8, [.ifc (tV false) (cV b0 b1 q0 q1 false)]), (9, [.ifc (tV false) (cV d0 d1 r0 r1 false)])] ?_)))))
                refine vc_ret (iR (Bv true) ?_)
                rfl
              · replace hc89 := bt hc89
                rw [one_iff] at hc89
                refine iT (vc_seqr rfl (iQ 2 (iC 8 [Sv (⟨#[115, 116, 97, 114, 116, 115]⟩), .agg [.ifc (tV false) (cV a0 a1 p0 p1 false)], .agg [.ifc (tV false) (cV b0 b1 q0 q1 false)]] (some 92) (c_HoldR mem_starts ha0 ha1 hb0 hb1) ?_)))
                rintro _ rfl
                refine iC 7 [.agg [cT (ofI (hB w_starts a0 a1 p0 p1 b0 b1 q0 q1))]] (some 93) (c_yes (ofI_cases _)) ?_
                rintro _ rfl
                refine iB .eql 3 (.int .i64 (ofI (hB w_starts a0 a1 p0 p1 b0 b1 q0 q1) - 1)) (.int .i64 1) (some 94) ?_
                refine all_true (one_iff.2 (co_starts hc89)) ?_
                refine iQ 3 (iC 8 [Sv (⟨#[102, 105, 110, 105, 115, 104, 101, 115]⟩), .agg [.ifc (tV false) (cV a0 a1 p0 p1 false)], .agg [.ifc (tV false) (cV b0 b1 q0 q1 false)]] (some 98) (c_HoldR mem_finishes ha0 ha1 hb0 hb1) ?_)
                rintro _ rfl
                refine iC 7 [.agg [cT (ofI (hB w_finishes a0 a1 p0 p1 b0 b1 q0 q1))]] (some 99) (c_yes (ofI_cases _)) ?_
                rintro _ rfl
                refine iB .eql 3 (.int .i64 (ofI (hB w_finishes a0 a1 p0 p1 b0 b1 q0 q1) - 1)) (.int .i64 1) (some 100) ?_
                refine all_true (one_iff.2 (co_finishes hc89)) ?_
                refine iQ 4 (iC 8 [Sv (⟨#[105, 110, 99, 108, 117, 100, 101, 115]⟩), .agg [.ifc (tV false) (cV a0 a1 p0 p1 false)], .agg [.ifc (tV false) (cV b0 b1 q0 q1 false)]] (some 105) (c_HoldR mem_includes ha0 ha1 hb0 hb1) ?_)
                rintro _ rfl
                refine iC 7 [.agg [cT (ofI (hB w_includes a0 a1 p0 p1 b0 b1 q0 q1))]] (some 106) (c_yes (ofI_cases _)) ?_
                rintro _ rfl
                refine iB .eql 3 (.int .i64 (ofI (hB w_includes a0 a1 p0 p1 b0 b1 q0 q1) - 1)) (.int .i64 1) (some 107) ?_
                refine all_true (one_iff.2 (co_includes hc89)) ?_
                refine iQ 2 (iE 109 [(3, .p 3 0), (4, .p 4 0), (5, .p 5 0), (6, Ba true), (7, .p 7 0), (8, .p 8 0), (9, .p 9 0), (11, Ba false), (33, Ba false), (58, Ba false), (84, Ba false), (89, Ba true)] [(3, [.v (.int .i16 a0), .v (.int .i16 a1), Bv p0, Bv p1, Bv false]), (4, [.v (.int .i16 b0), .v (.int .i16 b1), Bv q0, Bv q1, Bv false]), (5, [.v (.int .i16 d0), .v (.int .i16 d1), Bv r0, Bv r1, Bv false]), (7, [.ifc (tV false) (cV a0 a1 p0 p1 false)]), (8, [.ifc (tV false) (cV b0 b1 q0 q1 false)]), (9, [.ifc (tV false) (cV d0 d1 r0 r1 false)])] ?_)
                refine vc_ret (seq_r (iR (Bv true) ?_))
                rfl
      · replace hc32 := bt hc32
        refine iT (vc_seqr rfl (iQ 1 (iE 109 [(3, .p 3 0), (4, .p 4 0), (5, .p 5 0), (6, Ba true), (11, Ba false), (33, Ba true)] [(3, [.v (.int .i16 a0), .v (.int .i16 a1), Bv p0, Bv p1, Bv false]), (4, [.v (.int .i16 b0), .v (.int .i16 b1), Bv q0, Bv q1, Bv false]), (5, [.v (.int .i16 d0), .v (.int .i16 d1), Bv r0, Bv r1, Bv false])] ?_)))
        refine vc_ret (seq_r (iR (Bv true) ?_))
        rfl
    · replace hc25 := bt hc25
      refine iQ 6 (iE 109 [(3, .p 3 0), (4, .p 4 0), (5, .p 5 0), (6, Ba false), (11, Ba false), (33, Ba true)] [(3, [.v (.int .i16 a0), .v (.int .i16 a1), Bv p0, Bv p1, Bv false]), (4, [.v (.int .i16 b0), .v (.int .i16 b1), Bv q0, Bv q1, Bv false]), (5, [.v (.int .i16 d0), .v (.int .i16 d1), Bv r0, Bv r1, Bv false])] ?_)
      refine iT (vc_seqr rfl (iQ 1 (iE 109 [(3, .p 3 0), (4, .p 4 0), (5, .p 5 0), (6, Ba true), (11, Ba false), (33, Ba true)] [(3, [.v (.int .i16 a0), .v (.int .i16 a1), Bv p0, Bv p1, Bv false]), (4, [.v (.int .i16 b0), .v (.int .i16 b1), Bv q0, Bv q1, Bv false]), (5, [.v (.int .i16 d0), .v (.int .i16 d1), Bv r0, Bv r1, Bv false])] ?_)))
      refine vc_ret (seq_r (iR (Bv true) ?_))
      rfl
  · replace hc19 := bt hc19
    refine iQ 13 (iE 109 [(3, .p 3 0), (4, .p 4 0), (5, .p 5 0), (6, Ba false), (11, Ba false), (33, Ba true)] [(3, [.v (.int .i16 a0), .v (.int .i16 a1), Bv p0, Bv p1, Bv false]), (4, [.v (.int .i16 b0), .v (.int .i16 b1), Bv q0, Bv q1, Bv false]), (5, [.v (.int .i16 d0), .v (.int .i16 d1), Bv r0, Bv r1, Bv false])] ?_)
    refine iT (vc_seqr rfl (iQ 1 (iE 109 [(3, .p 3 0), (4, .p 4 0), (5, .p 5 0), (6, Ba true), (11, Ba false), (33, Ba true)] [(3, [.v (.int .i16 a0), .v (.int .i16 a1), Bv p0, Bv p1, Bv false]), (4, [.v (.int .i16 b0), .v (.int .i16 b1), Bv q0, Bv q1, Bv false]), (5, [.v (.int .i16 d0), .v (.int .i16 d1), Bv r0, Bv r1, Bv false])] ?_)))
    refine vc_ret (seq_r (iR (Bv true) ?_))
    rfl
end Go.Proofs.YtimpaejpokkdnaaDoor
