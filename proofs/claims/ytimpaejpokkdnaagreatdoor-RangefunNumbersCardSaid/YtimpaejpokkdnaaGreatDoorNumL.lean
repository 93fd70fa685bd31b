/-
  casuistlaw23's own table: holds, may; the law of numbers.
-/
import Derived.Test.YtimpaejpokkdnaaGreatDoorAwk
namespace Go.Proofs.YtimpaejpokkdnaaGreatDoor
open Go.RowKit
set_option linter.unusedVariables false
set_option linter.unusedSimpArgs false
set_option maxRecDepth 100000
def In16 (x : Int) : Prop := -32768 ≤ x ∧ x ≤ 32767
theorem In16.ok {x : Int} (h : In16 x) : Ok x := by have h1 := h.1; have h2 := h.2; constructor <;> omega
theorem c_atmost {x y : Int} {m : Bool} : HasC Tryz.prog 14 [.v (.int .i16 x), .v (.int .i16 y), .v (.bool m)] (fun r => ∃ c, r = .v (.bool c) ∧ (c = true ↔ x < y ∨ x = y ∧ m = true)) := by
  refine HasC.of [] (fn := Tryz.f14) tyOk mixed (fun args w => Tryz.call14 args w) Tryz.func14 rfl (by kernel_rfl) (Nat.le_of_ble_eq_true rfl) (⟨_, ltE x y m, rfl, by unfold ltE; grind⟩) ?_
  refine vc_seqr rfl (iQ 1 (iE 18 [(0, .d (.v (.int .i16 x))), (1, .d (.v (.int .i16 y))), (2, Ba m), (6, Ba false)] [] ?_))
  refine vc_seqr rfl (iQ 2 (iB .lss 22 (.int .i16 x) (.int .i16 y) (some 9) ?_))
  intro c9 hc9
  refine iQ 1 ?_
  cases c9
  · replace hc9 := bf hc9
    refine iQ 2 (iB .eql 22 (.int .i16 x) (.int .i16 y) (some 13) ?_)
    intro c13 hc13
    refine iQ 1 ?_
    cases c13
    · replace hc13 := bf hc13
      refine iQ 4 (iE 18 [(6, Ba false)] [] ?_)
      refine vc_ret (iR (Bv false) ?_)
      exact ⟨_, rfl, by grind⟩
    · replace hc13 := bt hc13
      refine iQ 4 (iE 18 [(6, Ba m)] [] ?_)
      refine vc_ret (iR (Bv m) ?_)
      exact ⟨_, rfl, by grind⟩
  · replace hc9 := bt hc9
    refine iQ 8 (iE 18 [(6, Ba true)] [] ?_)
    refine vc_ret (iR (Bv true) ?_)
    exact ⟨_, rfl, by grind⟩

set_option maxHeartbeats 1600000 in
theorem t_before {a0 a1 b0 b1 : Int} {p0 p1 q0 q1 pa pb : Bool} : HasC Tryz.prog 7 [.v (.string (⟨#[98, 101, 102, 111, 114, 101]⟩)), .agg [.v (.int .i16 a0), .v (.int .i16 a1), .v (.bool p0), .v (.bool p1), .v (.bool pa)], .agg [.v (.int .i16 b0), .v (.int .i16 b1), .v (.bool q0), .v (.bool q1), .v (.bool pb)]] (fun r => ∃ c, r = .v (.bool c) ∧ (c = true ↔ (ltE a1 b0 (!p1 || !q0)) = true)) := by
  refine HasC.of [] (fn := Tryz.f7) tyOk mixed (fun args w => Tryz.call7 args w) Tryz.func7 rfl (by kernel_rfl) (Nat.le_of_ble_eq_true rfl) (⟨_, _, rfl, Iff.rfl⟩) ?_
  refine vc_seqr rfl (iQ 3 (iE 267 [(0, .d (Sv (⟨#[98, 101, 102, 111, 114, 101]⟩))), (4, .p 4 0), (5, .p 5 0), (6, Ba false)] [(4, [.v (.int .i16 a0), .v (.int .i16 a1), Bv p0, Bv p1, Bv pa]), (5, [.v (.int .i16 b0), .v (.int .i16 b1), Bv q0, Bv q1, Bv pb])] ?_))
  refine vc_seq (vc_seqr rfl (iQ 1 (iE 267 [(4, .p 4 0), (5, .p 5 0), (6, Ba false), (7, .d (Sv (⟨#[98, 101, 102, 111, 114, 101]⟩)))] [(4, [.v (.int .i16 a0), .v (.int .i16 a1), Bv p0, Bv p1, Bv pa]), (5, [.v (.int .i16 b0), .v (.int .i16 b1), Bv q0, Bv q1, Bv pb])] ?_)))
  refine vc_block (vc_seqr rfl (iB .eql 9 (.string (⟨#[98, 101, 102, 111, 114, 101]⟩)) (.string (⟨#[98, 101, 102, 111, 114, 101]⟩)) (some 9) ?_))
  refine all_true ((by decide)) ?_
  refine iQ 1 (iE 267 [(4, .p 4 0), (5, .p 5 0), (6, Ba false), (7, .d (Sv (⟨#[98, 101, 102, 111, 114, 101]⟩))), (8, Ba true)] [(4, [.v (.int .i16 a0), .v (.int .i16 a1), Bv p0, Bv p1, Bv pa]), (5, [.v (.int .i16 b0), .v (.int .i16 b1), Bv q0, Bv q1, Bv pb])] ?_)
  refine iT (vc_seqr rfl (iQ 7 (iU .not (.bool p1) (some 17) ?_)))
  intro c17 hc17
  refine iQ 1 ?_
  cases c17
  · replace hc17 := bf hc17
    refine iQ 3 (iU .not (.bool q0) (some 22) ?_)
    intro c22 hc22
    refine iQ 1 (iC 14 [.v (.int .i16 a1), .v (.int .i16 b0), Bv c22] (some 24) (c_atmost) ?_)
    rintro _ ⟨c24, rfl, hc24⟩
    refine iQ 1 (iE 267 [(4, .p 4 0), (5, .p 5 0), (6, Ba c24), (7, .d (Sv (⟨#[98, 101, 102, 111, 114, 101]⟩))), (8, Ba true)] [(4, [.v (.int .i16 a0), .v (.int .i16 a1), Bv p0, Bv p1, Bv pa]), (5, [.v (.int .i16 b0), .v (.int .i16 b1), Bv q0, Bv q1, Bv pb])] ?_)
    refine vc_ret (block_r (seq_r (iR (Bv c24) ?_)))
    exact ⟨_, rfl, by (try simp only [ltE] at *) <;> grind⟩
  · replace hc17 := bt hc17
    refine iQ 5 (iC 14 [.v (.int .i16 a1), .v (.int .i16 b0), Bv true] (some 24) (c_atmost) ?_)
    rintro _ ⟨c24, rfl, hc24⟩
    refine iQ 1 (iE 267 [(4, .p 4 0), (5, .p 5 0), (6, Ba c24), (7, .d (Sv (⟨#[98, 101, 102, 111, 114, 101]⟩))), (8, Ba true)] [(4, [.v (.int .i16 a0), .v (.int .i16 a1), Bv p0, Bv p1, Bv pa]), (5, [.v (.int .i16 b0), .v (.int .i16 b1), Bv q0, Bv q1, Bv pb])] ?_)
    refine vc_ret (block_r (seq_r (iR (Bv c24) ?_)))
    exact ⟨_, rfl, by (try simp only [ltE] at *) <;> grind⟩
set_option maxHeartbeats 1600000 in
theorem t_meets {a0 a1 b0 b1 : Int} {p0 p1 q0 q1 pa pb : Bool} : HasC Tryz.prog 7 [.v (.string (⟨#[109, 101, 101, 116, 115]⟩)), .agg [.v (.int .i16 a0), .v (.int .i16 a1), .v (.bool p0), .v (.bool p1), .v (.bool pa)], .agg [.v (.int .i16 b0), .v (.int .i16 b1), .v (.bool q0), .v (.bool q1), .v (.bool pb)]] (fun r => ∃ c, r = .v (.bool c) ∧ (c = true ↔ (decide (a1 = b0) && (p1 && q0)) = true)) := by
  refine HasC.of [] (fn := Tryz.f7) tyOk mixed (fun args w => Tryz.call7 args w) Tryz.func7 rfl (by kernel_rfl) (Nat.le_of_ble_eq_true rfl) (⟨_, _, rfl, Iff.rfl⟩) ?_
  refine vc_seqr rfl (iQ 3 (iE 267 [(0, .d (Sv (⟨#[109, 101, 101, 116, 115]⟩))), (4, .p 4 0), (5, .p 5 0), (6, Ba false)] [(4, [.v (.int .i16 a0), .v (.int .i16 a1), Bv p0, Bv p1, Bv pa]), (5, [.v (.int .i16 b0), .v (.int .i16 b1), Bv q0, Bv q1, Bv pb])] ?_))
  refine vc_seq (vc_seqr rfl (iQ 1 (iE 267 [(4, .p 4 0), (5, .p 5 0), (6, Ba false), (7, .d (Sv (⟨#[109, 101, 101, 116, 115]⟩)))] [(4, [.v (.int .i16 a0), .v (.int .i16 a1), Bv p0, Bv p1, Bv pa]), (5, [.v (.int .i16 b0), .v (.int .i16 b1), Bv q0, Bv q1, Bv pb])] ?_)))
  refine vc_block (vc_seqr rfl (iB .eql 9 (.string (⟨#[109, 101, 101, 116, 115]⟩)) (.string (⟨#[98, 101, 102, 111, 114, 101]⟩)) (some 9) ?_))
  refine all_false ((by decide)) ?_
  refine iQ 1 (iE 267 [(4, .p 4 0), (5, .p 5 0), (6, Ba false), (7, .d (Sv (⟨#[109, 101, 101, 116, 115]⟩))), (8, Ba false)] [(4, [.v (.int .i16 a0), .v (.int .i16 a1), Bv p0, Bv p1, Bv pa]), (5, [.v (.int .i16 b0), .v (.int .i16 b1), Bv q0, Bv q1, Bv pb])] ?_)
  refine iF (vc_seqr rfl (iB .eql 9 (.string (⟨#[109, 101, 101, 116, 115]⟩)) (.string (⟨#[97, 102, 116, 101, 114]⟩)) (some 26) ?_))
  refine all_false ((by decide)) ?_
  refine iQ 1 (iE 267 [(4, .p 4 0), (5, .p 5 0), (6, Ba false), (7, .d (Sv (⟨#[109, 101, 101, 116, 115]⟩))), (8, Ba false), (25, Ba false)] [(4, [.v (.int .i16 a0), .v (.int .i16 a1), Bv p0, Bv p1, Bv pa]), (5, [.v (.int .i16 b0), .v (.int .i16 b1), Bv q0, Bv q1, Bv pb])] ?_)
  refine iF (vc_seqr rfl (iB .eql 9 (.string (⟨#[109, 101, 101, 116, 115]⟩)) (.string (⟨#[109, 101, 101, 116, 115]⟩)) (some 31) ?_))
  refine all_true ((by decide)) ?_
  refine iQ 1 (iE 267 [(4, .p 4 0), (5, .p 5 0), (6, Ba false), (7, .d (Sv (⟨#[109, 101, 101, 116, 115]⟩))), (8, Ba false), (25, Ba false), (30, Ba true)] [(4, [.v (.int .i16 a0), .v (.int .i16 a1), Bv p0, Bv p1, Bv pa]), (5, [.v (.int .i16 b0), .v (.int .i16 b1), Bv q0, Bv q1, Bv pb])] ?_)
  refine iT (vc_seqr rfl (iQ 4 (iB .eql 22 (.int .i16 a1) (.int .i16 b0) (some 36) ?_)))
  intro c36 hc36
  refine iQ 1 ?_
  cases c36
  · replace hc36 := bf hc36
    refine iQ 10 (iE 267 [(4, .p 4 0), (5, .p 5 0), (6, Ba false), (7, .d (Sv (⟨#[109, 101, 101, 116, 115]⟩))), (8, Ba false), (25, Ba false), (30, Ba true)] [(4, [.v (.int .i16 a0), .v (.int .i16 a1), Bv p0, Bv p1, Bv pa]), (5, [.v (.int .i16 b0), .v (.int .i16 b1), Bv q0, Bv q1, Bv pb])] ?_)
    refine vc_ret (block_r (seq_r (iR (Bv false) ?_)))
    exact ⟨_, rfl, by (try simp only [ltE] at *) <;> grind⟩
  · replace hc36 := bt hc36
    refine iQ 5 ?_
    cases p1
    · skip
      refine iQ 5 (iE 267 [(4, .p 4 0), (5, .p 5 0), (6, Ba false), (7, .d (Sv (⟨#[109, 101, 101, 116, 115]⟩))), (8, Ba false), (25, Ba false), (30, Ba true)] [(4, [.v (.int .i16 a0), .v (.int .i16 a1), Bv p0, Bv false, Bv pa]), (5, [.v (.int .i16 b0), .v (.int .i16 b1), Bv q0, Bv q1, Bv pb])] ?_)
      refine vc_ret (block_r (seq_r (iR (Bv false) ?_)))
      exact ⟨_, rfl, by (try simp only [ltE] at *) <;> grind⟩
    · skip
      refine iQ 5 (iE 267 [(4, .p 4 0), (5, .p 5 0), (6, Ba q0), (7, .d (Sv (⟨#[109, 101, 101, 116, 115]⟩))), (8, Ba false), (25, Ba false), (30, Ba true)] [(4, [.v (.int .i16 a0), .v (.int .i16 a1), Bv p0, Bv true, Bv pa]), (5, [.v (.int .i16 b0), .v (.int .i16 b1), Bv q0, Bv q1, Bv pb])] ?_)
      refine vc_ret (block_r (seq_r (iR (Bv q0) ?_)))
      exact ⟨_, rfl, by (try simp only [ltE] at *) <;> grind⟩
set_option maxHeartbeats 1600000 in
theorem t_overlaps {a0 a1 b0 b1 : Int} {p0 p1 q0 q1 pa pb : Bool} : HasC Tryz.prog 7 [.v (.string (⟨#[111, 118, 101, 114, 108, 97, 112, 115]⟩)), .agg [.v (.int .i16 a0), .v (.int .i16 a1), .v (.bool p0), .v (.bool p1), .v (.bool pa)], .agg [.v (.int .i16 b0), .v (.int .i16 b1), .v (.bool q0), .v (.bool q1), .v (.bool pb)]] (fun r => ∃ c, r = .v (.bool c) ∧ (c = true ↔ (ltE b0 a1 (q0 && p1) && ltE a0 b1 (p0 && q1)) = true)) := by
  refine HasC.of [] (fn := Tryz.f7) tyOk mixed (fun args w => Tryz.call7 args w) Tryz.func7 rfl (by kernel_rfl) (Nat.le_of_ble_eq_true rfl) (⟨_, _, rfl, Iff.rfl⟩) ?_
  refine vc_seqr rfl (iQ 3 (iE 267 [(0, .d (Sv (⟨#[111, 118, 101, 114, 108, 97, 112, 115]⟩))), (4, .p 4 0), (5, .p 5 0), (6, Ba false)] [(4, [.v (.int .i16 a0), .v (.int .i16 a1), Bv p0, Bv p1, Bv pa]), (5, [.v (.int .i16 b0), .v (.int .i16 b1), Bv q0, Bv q1, Bv pb])] ?_))
  refine vc_seq (vc_seqr rfl (iQ 1 (iE 267 [(4, .p 4 0), (5, .p 5 0), (6, Ba false), (7, .d (Sv (⟨#[111, 118, 101, 114, 108, 97, 112, 115]⟩)))] [(4, [.v (.int .i16 a0), .v (.int .i16 a1), Bv p0, Bv p1, Bv pa]), (5, [.v (.int .i16 b0), .v (.int .i16 b1), Bv q0, Bv q1, Bv pb])] ?_)))
  refine vc_block (vc_seqr rfl (iB .eql 9 (.string (⟨#[111, 118, 101, 114, 108, 97, 112, 115]⟩)) (.string (⟨#[98, 101, 102, 111, 114, 101]⟩)) (some 9) ?_))
  refine all_false ((by decide)) ?_
  refine iQ 1 (iE 267 [(4, .p 4 0), (5, .p 5 0), (6, Ba false), (7, .d (Sv (⟨#[111, 118, 101, 114, 108, 97, 112, 115]⟩))), (8, Ba false)] [(4, [.v (.int .i16 a0), .v (.int .i16 a1), Bv p0, Bv p1, Bv pa]), (5, [.v (.int .i16 b0), .v (.int .i16 b1), Bv q0, Bv q1, Bv pb])] ?_)
  refine iF (vc_seqr rfl (iB .eql 9 (.string (⟨#[111, 118, 101, 114, 108, 97, 112, 115]⟩)) (.string (⟨#[97, 102, 116, 101, 114]⟩)) (some 26) ?_))
  refine all_false ((by decide)) ?_
  refine iQ 1 (iE 267 [(4, .p 4 0), (5, .p 5 0), (6, Ba false), (7, .d (Sv (⟨#[111, 118, 101, 114, 108, 97, 112, 115]⟩))), (8, Ba false), (25, Ba false)] [(4, [.v (.int .i16 a0), .v (.int .i16 a1), Bv p0, Bv p1, Bv pa]), (5, [.v (.int .i16 b0), .v (.int .i16 b1), Bv q0, Bv q1, Bv pb])] ?_)
  refine iF (vc_seqr rfl (iB .eql 9 (.string (⟨#[111, 118, 101, 114, 108, 97, 112, 115]⟩)) (.string (⟨#[109, 101, 101, 116, 115]⟩)) (some 31) ?_))
  refine all_false ((by decide)) ?_
  refine iQ 1 (iE 267 [(4, .p 4 0), (5, .p 5 0), (6, Ba false), (7, .d (Sv (⟨#[111, 118, 101, 114, 108, 97, 112, 115]⟩))), (8, Ba false), (25, Ba false), (30, Ba false)] [(4, [.v (.int .i16 a0), .v (.int .i16 a1), Bv p0, Bv p1, Bv pa]), (5, [.v (.int .i16 b0), .v (.int .i16 b1), Bv q0, Bv q1, Bv pb])] ?_)
  refine iF (vc_seqr rfl (iB .eql 9 (.string (⟨#[111, 118, 101, 114, 108, 97, 112, 115]⟩)) (.string (⟨#[109, 101, 116, 32, 98, 121]⟩)) (some 48) ?_))
  refine all_false ((by decide)) ?_
  refine iQ 1 (iE 267 [(4, .p 4 0), (5, .p 5 0), (6, Ba false), (7, .d (Sv (⟨#[111, 118, 101, 114, 108, 97, 112, 115]⟩))), (8, Ba false), (25, Ba false), (30, Ba false), (47, Ba false)] [(4, [.v (.int .i16 a0), .v (.int .i16 a1), Bv p0, Bv p1, Bv pa]), (5, [.v (.int .i16 b0), .v (.int .i16 b1), Bv q0, Bv q1, Bv pb])] ?_)
  refine iF (vc_seqr rfl (iB .eql 9 (.string (⟨#[111, 118, 101, 114, 108, 97, 112, 115]⟩)) (.string (⟨#[111, 118, 101, 114, 108, 97, 112, 115]⟩)) (some 53) ?_))
  refine all_true ((by decide)) ?_
  refine iQ 1 (iE 267 [(4, .p 4 0), (5, .p 5 0), (6, Ba false), (7, .d (Sv (⟨#[111, 118, 101, 114, 108, 97, 112, 115]⟩))), (8, Ba false), (25, Ba false), (30, Ba false), (47, Ba false), (52, Ba true)] [(4, [.v (.int .i16 a0), .v (.int .i16 a1), Bv p0, Bv p1, Bv pa]), (5, [.v (.int .i16 b0), .v (.int .i16 b1), Bv q0, Bv q1, Bv pb])] ?_)
  refine iT (vc_seqr rfl (iQ 8 ?_))
  cases q0
  · skip
    refine iQ 4 (iC 14 [.v (.int .i16 b0), .v (.int .i16 a1), Bv false] (some 66) (c_atmost) ?_)
    rintro _ ⟨c66, rfl, hc66⟩
    refine iQ 1 ?_
    cases c66
    · replace hc66 := bf hc66
      refine iQ 15 (iE 267 [(4, .p 4 0), (5, .p 5 0), (6, Ba false), (7, .d (Sv (⟨#[111, 118, 101, 114, 108, 97, 112, 115]⟩))), (8, Ba false), (25, Ba false), (30, Ba false), (47, Ba false), (52, Ba true)] [(4, [.v (.int .i16 a0), .v (.int .i16 a1), Bv p0, Bv p1, Bv pa]), (5, [.v (.int .i16 b0), .v (.int .i16 b1), Bv false, Bv q1, Bv pb])] ?_)
      refine vc_ret (block_r (seq_r (iR (Bv false) ?_)))
      exact ⟨_, rfl, by (try simp only [ltE] at *) <;> grind⟩
    · replace hc66 := bt hc66
      refine iQ 8 ?_
      cases p0
      · skip
        refine iQ 4 (iC 14 [.v (.int .i16 a0), .v (.int .i16 b1), Bv false] (some 80) (c_atmost) ?_)
        rintro _ ⟨c80, rfl, hc80⟩
        refine iQ 2 (iE 267 [(4, .p 4 0), (5, .p 5 0), (6, Ba c80), (7, .d (Sv (⟨#[111, 118, 101, 114, 108, 97, 112, 115]⟩))), (8, Ba false), (25, Ba false), (30, Ba false), (47, Ba false), (52, Ba true)] [(4, [.v (.int .i16 a0), .v (.int .i16 a1), Bv false, Bv p1, Bv pa]), (5, [.v (.int .i16 b0), .v (.int .i16 b1), Bv false, Bv q1, Bv pb])] ?_)
        refine vc_ret (block_r (seq_r (iR (Bv c80) ?_)))
        exact ⟨_, rfl, by (try simp only [ltE] at *) <;> grind⟩
      · skip
        refine iQ 4 (iC 14 [.v (.int .i16 a0), .v (.int .i16 b1), Bv q1] (some 80) (c_atmost) ?_)
        rintro _ ⟨c80, rfl, hc80⟩
        refine iQ 2 (iE 267 [(4, .p 4 0), (5, .p 5 0), (6, Ba c80), (7, .d (Sv (⟨#[111, 118, 101, 114, 108, 97, 112, 115]⟩))), (8, Ba false), (25, Ba false), (30, Ba false), (47, Ba false), (52, Ba true)] [(4, [.v (.int .i16 a0), .v (.int .i16 a1), Bv true, Bv p1, Bv pa]), (5, [.v (.int .i16 b0), .v (.int .i16 b1), Bv false, Bv q1, Bv pb])] ?_)
        refine vc_ret (block_r (seq_r (iR (Bv c80) ?_)))
        exact ⟨_, rfl, by (try simp only [ltE] at *) <;> grind⟩
  · skip
    refine iQ 4 (iC 14 [.v (.int .i16 b0), .v (.int .i16 a1), Bv p1] (some 66) (c_atmost) ?_)
    rintro _ ⟨c66, rfl, hc66⟩
    refine iQ 1 ?_
    cases c66
    · replace hc66 := bf hc66
      refine iQ 15 (iE 267 [(4, .p 4 0), (5, .p 5 0), (6, Ba false), (7, .d (Sv (⟨#[111, 118, 101, 114, 108, 97, 112, 115]⟩))), (8, Ba false), (25, Ba false), (30, Ba false), (47, Ba false), (52, Ba true)] [(4, [.v (.int .i16 a0), .v (.int .i16 a1), Bv p0, Bv p1, Bv pa]), (5, [.v (.int .i16 b0), .v (.int .i16 b1), Bv true, Bv q1, Bv pb])] ?_)
      refine vc_ret (block_r (seq_r (iR (Bv false) ?_)))
      exact ⟨_, rfl, by (try simp only [ltE] at *) <;> grind⟩
    · replace hc66 := bt hc66
      refine iQ 8 ?_
      cases p0
      · skip
        refine iQ 4 (iC 14 [.v (.int .i16 a0), .v (.int .i16 b1), Bv false] (some 80) (c_atmost) ?_)
        rintro _ ⟨c80, rfl, hc80⟩
        refine iQ 2 (iE 267 [(4, .p 4 0), (5, .p 5 0), (6, Ba c80), (7, .d (Sv (⟨#[111, 118, 101, 114, 108, 97, 112, 115]⟩))), (8, Ba false), (25, Ba false), (30, Ba false), (47, Ba false), (52, Ba true)] [(4, [.v (.int .i16 a0), .v (.int .i16 a1), Bv false, Bv p1, Bv pa]), (5, [.v (.int .i16 b0), .v (.int .i16 b1), Bv true, Bv q1, Bv pb])] ?_)
        refine vc_ret (block_r (seq_r (iR (Bv c80) ?_)))
        exact ⟨_, rfl, by (try simp only [ltE] at *) <;> grind⟩
      · skip
        refine iQ 4 (iC 14 [.v (.int .i16 a0), .v (.int .i16 b1), Bv q1] (some 80) (c_atmost) ?_)
        rintro _ ⟨c80, rfl, hc80⟩
        refine iQ 2 (iE 267 [(4, .p 4 0), (5, .p 5 0), (6, Ba c80), (7, .d (Sv (⟨#[111, 118, 101, 114, 108, 97, 112, 115]⟩))), (8, Ba false), (25, Ba false), (30, Ba false), (47, Ba false), (52, Ba true)] [(4, [.v (.int .i16 a0), .v (.int .i16 a1), Bv true, Bv p1, Bv pa]), (5, [.v (.int .i16 b0), .v (.int .i16 b1), Bv true, Bv q1, Bv pb])] ?_)
        refine vc_ret (block_r (seq_r (iR (Bv c80) ?_)))
        exact ⟨_, rfl, by (try simp only [ltE] at *) <;> grind⟩
set_option maxHeartbeats 1600000 in
theorem t_overlaps_before {a0 a1 b0 b1 : Int} {p0 p1 q0 q1 pa pb : Bool} : HasC Tryz.prog 7 [.v (.string (⟨#[111, 118, 101, 114, 108, 97, 112, 115, 32, 98, 101, 102, 111, 114, 101]⟩)), .agg [.v (.int .i16 a0), .v (.int .i16 a1), .v (.bool p0), .v (.bool p1), .v (.bool pa)], .agg [.v (.int .i16 b0), .v (.int .i16 b1), .v (.bool q0), .v (.bool q1), .v (.bool pb)]] (fun r => ∃ c, r = .v (.bool c) ∧ (c = true ↔ ((ltE b0 a1 (q0 && p1) && ltE a0 b1 (p0 && q1)) && (!(ltE b0 a0 (q0 || !p0)) && !(ltE b1 a1 (p1 || !q1)))) = true)) := by
  refine HasC.of [] (fn := Tryz.f7) tyOk mixed (fun args w => Tryz.call7 args w) Tryz.func7 rfl (by kernel_rfl) (Nat.le_of_ble_eq_true rfl) (⟨_, _, rfl, Iff.rfl⟩) ?_
  refine vc_seqr rfl (iQ 3 (iE 267 [(0, .d (Sv (⟨#[111, 118, 101, 114, 108, 97, 112, 115, 32, 98, 101, 102, 111, 114, 101]⟩))), (4, .p 4 0), (5, .p 5 0), (6, Ba false)] [(4, [.v (.int .i16 a0), .v (.int .i16 a1), Bv p0, Bv p1, Bv pa]), (5, [.v (.int .i16 b0), .v (.int .i16 b1), Bv q0, Bv q1, Bv pb])] ?_))
  refine vc_seq (vc_seqr rfl (iQ 1 (iE 267 [(4, .p 4 0), (5, .p 5 0), (6, Ba false), (7, .d (Sv (⟨#[111, 118, 101, 114, 108, 97, 112, 115, 32, 98, 101, 102, 111, 114, 101]⟩)))] [(4, [.v (.int .i16 a0), .v (.int .i16 a1), Bv p0, Bv p1, Bv pa]), (5, [.v (.int .i16 b0), .v (.int .i16 b1), Bv q0, Bv q1, Bv pb])] ?_)))
  refine vc_block (vc_seqr rfl (iB .eql 9 (.string (⟨#[111, 118, 101, 114, 108, 97, 112, 115, 32, 98, 101, 102, 111, 114, 101]⟩)) (.string (⟨#[98, 101, 102, 111, 114, 101]⟩)) (some 9) ?_))
  refine all_false ((by decide)) ?_
  refine iQ 1 (iE 267 [(4, .p 4 0), (5, .p 5 0), (6, Ba false), (7, .d (Sv (⟨#[111, 118, 101, 114, 108, 97, 112, 115, 32, 98, 101, 102, 111, 114, 101]⟩))), (8, Ba false)] [(4, [.v (.int .i16 a0), .v (.int .i16 a1), Bv p0, Bv p1, Bv pa]), (5, [.v (.int .i16 b0), .v (.int .i16 b1), Bv q0, Bv q1, Bv pb])] ?_)
  refine iF (vc_seqr rfl (iB .eql 9 (.string (⟨#[111, 118, 101, 114, 108, 97, 112, 115, 32, 98, 101, 102, 111, 114, 101]⟩)) (.string (⟨#[97, 102, 116, 101, 114]⟩)) (some 26) ?_))
  refine all_false ((by decide)) ?_
  refine iQ 1 (iE 267 [(4, .p 4 0), (5, .p 5 0), (6, Ba false), (7, .d (Sv (⟨#[111, 118, 101, 114, 108, 97, 112, 115, 32, 98, 101, 102, 111, 114, 101]⟩))), (8, Ba false), (25, Ba false)] [(4, [.v (.int .i16 a0), .v (.int .i16 a1), Bv p0, Bv p1, Bv pa]), (5, [.v (.int .i16 b0), .v (.int .i16 b1), Bv q0, Bv q1, Bv pb])] ?_)
  refine iF (vc_seqr rfl (iB .eql 9 (.string (⟨#[111, 118, 101, 114, 108, 97, 112, 115, 32, 98, 101, 102, 111, 114, 101]⟩)) (.string (⟨#[109, 101, 101, 116, 115]⟩)) (some 31) ?_))
  refine all_false ((by decide)) ?_
  refine iQ 1 (iE 267 [(4, .p 4 0), (5, .p 5 0), (6, Ba false), (7, .d (Sv (⟨#[111, 118, 101, 114, 108, 97, 112, 115, 32, 98, 101, 102, 111, 114, 101]⟩))), (8, Ba false), (25, Ba false), (30, Ba false)] [(4, [.v (.int .i16 a0), .v (.int .i16 a1), Bv p0, Bv p1, Bv pa]), (5, [.v (.int .i16 b0), .v (.int .i16 b1), Bv q0, Bv q1, Bv pb])] ?_)
  refine iF (vc_seqr rfl (iB .eql 9 (.string (⟨#[111, 118, 101, 114, 108, 97, 112, 115, 32, 98, 101, 102, 111, 114, 101]⟩)) (.string (⟨#[109, 101, 116, 32, 98, 121]⟩)) (some 48) ?_))
  refine all_false ((by decide)) ?_
  refine iQ 1 (iE 267 [(4, .p 4 0), (5, .p 5 0), (6, Ba false), (7, .d (Sv (⟨#[111, 118, 101, 114, 108, 97, 112, 115, 32, 98, 101, 102, 111, 114, 101]⟩))), (8, Ba false), (25, Ba false), (30, Ba false), (47, Ba false)] [(4, [.v (.int .i16 a0), .v (.int .i16 a1), Bv p0, Bv p1, Bv pa]), (5, [.v (.int .i16 b0), .v (.int .i16 b1), Bv q0, Bv q1, Bv pb])] ?_)
  refine iF (vc_seqr rfl (iB .eql 9 (.string (⟨#[111, 118, 101, 114, 108, 97, 112, 115, 32, 98, 101, 102, 111, 114, 101]⟩)) (.string (⟨#[111, 118, 101, 114, 108, 97, 112, 115]⟩)) (some 53) ?_))
  refine all_false ((by decide)) ?_
  refine iQ 1 (iE 267 [(4, .p 4 0), (5, .p 5 0), (6, Ba false), (7, .d (Sv (⟨#[111, 118, 101, 114, 108, 97, 112, 115, 32, 98, 101, 102, 111, 114, 101]⟩))), (8, Ba false), (25, Ba false), (30, Ba false), (47, Ba false), (52, Ba false)] [(4, [.v (.int .i16 a0), .v (.int .i16 a1), Bv p0, Bv p1, Bv pa]), (5, [.v (.int .i16 b0), .v (.int .i16 b1), Bv q0, Bv q1, Bv pb])] ?_)
  refine iF (vc_seqr rfl (iB .eql 9 (.string (⟨#[111, 118, 101, 114, 108, 97, 112, 115, 32, 98, 101, 102, 111, 114, 101]⟩)) (.string (⟨#[111, 118, 101, 114, 108, 97, 112, 115, 32, 98, 101, 102, 111, 114, 101]⟩)) (some 83) ?_))
  refine all_true ((by decide)) ?_
  refine iQ 1 (iE 267 [(4, .p 4 0), (5, .p 5 0), (6, Ba false), (7, .d (Sv (⟨#[111, 118, 101, 114, 108, 97, 112, 115, 32, 98, 101, 102, 111, 114, 101]⟩))), (8, Ba false), (25, Ba false), (30, Ba false), (47, Ba false), (52, Ba false), (82, Ba true)] [(4, [.v (.int .i16 a0), .v (.int .i16 a1), Bv p0, Bv p1, Bv pa]), (5, [.v (.int .i16 b0), .v (.int .i16 b1), Bv q0, Bv q1, Bv pb])] ?_)
  refine iT (vc_seqr rfl (iQ 2 (iC 7 [Sv (⟨#[111, 118, 101, 114, 108, 97, 112, 115]⟩), .agg [.v (.int .i16 a0), .v (.int .i16 a1), Bv p0, Bv p1, Bv pa], .agg [.v (.int .i16 b0), .v (.int .i16 b1), Bv q0, Bv q1, Bv pb]] (some 86) (t_overlaps) ?_)))
  rintro _ ⟨c86, rfl, hc86⟩
  refine iQ 1 ?_
  cases c86
  · replace hc86 := bf hc86
    refine iQ 34 (iE 267 [(4, .p 4 0), (5, .p 5 0), (6, Ba false), (7, .d (Sv (⟨#[111, 118, 101, 114, 108, 97, 112, 115, 32, 98, 101, 102, 111, 114, 101]⟩))), (8, Ba false), (25, Ba false), (30, Ba false), (47, Ba false), (52, Ba false), (82, Ba true)] [(4, [.v (.int .i16 a0), .v (.int .i16 a1), Bv p0, Bv p1, Bv pa]), (5, [.v (.int .i16 b0), .v (.int .i16 b1), Bv q0, Bv q1, Bv pb])] ?_)
    refine vc_ret (block_r (seq_r (iR (Bv false) ?_)))
    exact ⟨_, rfl, by (try simp only [ltE] at *) <;> grind⟩
  · replace hc86 := bt hc86
    refine iQ 8 ?_
    cases q0
    · skip
      refine iQ 3 (iU .not (.bool p0) (some 99) ?_)
      intro c99 hc99
      refine iQ 1 (iC 14 [.v (.int .i16 b0), .v (.int .i16 a0), Bv c99] (some 101) (c_atmost) ?_)
      rintro _ ⟨c101, rfl, hc101⟩
      refine iU .not (.bool c101) (some 102) ?_
      intro c102 hc102
      refine iQ 2 ?_
      cases c102
      · replace hc102 := bf hc102
        refine iQ 17 (iE 267 [(4, .p 4 0), (5, .p 5 0), (6, Ba false), (7, .d (Sv (⟨#[111, 118, 101, 114, 108, 97, 112, 115, 32, 98, 101, 102, 111, 114, 101]⟩))), (8, Ba false), (25, Ba false), (30, Ba false), (47, Ba false), (52, Ba false), (82, Ba true)] [(4, [.v (.int .i16 a0), .v (.int .i16 a1), Bv p0, Bv p1, Bv pa]), (5, [.v (.int .i16 b0), .v (.int .i16 b1), Bv false, Bv q1, Bv pb])] ?_)
        refine vc_ret (block_r (seq_r (iR (Bv false) ?_)))
        exact ⟨_, rfl, by (try simp only [ltE] at *) <;> grind⟩
      · replace hc102 := bt hc102
        refine iQ 8 ?_
        cases p1
        · skip
          refine iQ 3 (iU .not (.bool q1) (some 116) ?_)
          intro c116 hc116
          refine iQ 1 (iC 14 [.v (.int .i16 b1), .v (.int .i16 a1), Bv c116] (some 118) (c_atmost) ?_)
          rintro _ ⟨c118, rfl, hc118⟩
          refine iU .not (.bool c118) (some 119) ?_
          intro c119 hc119
          refine iQ 2 (iE 267 [(4, .p 4 0), (5, .p 5 0), (6, Ba c119), (7, .d (Sv (⟨#[111, 118, 101, 114, 108, 97, 112, 115, 32, 98, 101, 102, 111, 114, 101]⟩))), (8, Ba false), (25, Ba false), (30, Ba false), (47, Ba false), (52, Ba false), (82, Ba true)] [(4, [.v (.int .i16 a0), .v (.int .i16 a1), Bv p0, Bv false, Bv pa]), (5, [.v (.int .i16 b0), .v (.int .i16 b1), Bv false, Bv q1, Bv pb])] ?_)
          refine vc_ret (block_r (seq_r (iR (Bv c119) ?_)))
          exact ⟨_, rfl, by (try simp only [ltE] at *) <;> grind⟩
        · skip
          refine iQ 5 (iC 14 [.v (.int .i16 b1), .v (.int .i16 a1), Bv true] (some 118) (c_atmost) ?_)
          rintro _ ⟨c118, rfl, hc118⟩
          refine iU .not (.bool c118) (some 119) ?_
          intro c119 hc119
          refine iQ 2 (iE 267 [(4, .p 4 0), (5, .p 5 0), (6, Ba c119), (7, .d (Sv (⟨#[111, 118, 101, 114, 108, 97, 112, 115, 32, 98, 101, 102, 111, 114, 101]⟩))), (8, Ba false), (25, Ba false), (30, Ba false), (47, Ba false), (52, Ba false), (82, Ba true)] [(4, [.v (.int .i16 a0), .v (.int .i16 a1), Bv p0, Bv true, Bv pa]), (5, [.v (.int .i16 b0), .v (.int .i16 b1), Bv false, Bv q1, Bv pb])] ?_)
          refine vc_ret (block_r (seq_r (iR (Bv c119) ?_)))
          exact ⟨_, rfl, by (try simp only [ltE] at *) <;> grind⟩
    · skip
      refine iQ 5 (iC 14 [.v (.int .i16 b0), .v (.int .i16 a0), Bv true] (some 101) (c_atmost) ?_)
      rintro _ ⟨c101, rfl, hc101⟩
      refine iU .not (.bool c101) (some 102) ?_
      intro c102 hc102
      refine iQ 2 ?_
      cases c102
      · replace hc102 := bf hc102
        refine iQ 17 (iE 267 [(4, .p 4 0), (5, .p 5 0), (6, Ba false), (7, .d (Sv (⟨#[111, 118, 101, 114, 108, 97, 112, 115, 32, 98, 101, 102, 111, 114, 101]⟩))), (8, Ba false), (25, Ba false), (30, Ba false), (47, Ba false), (52, Ba false), (82, Ba true)] [(4, [.v (.int .i16 a0), .v (.int .i16 a1), Bv p0, Bv p1, Bv pa]), (5, [.v (.int .i16 b0), .v (.int .i16 b1), Bv true, Bv q1, Bv pb])] ?_)
        refine vc_ret (block_r (seq_r (iR (Bv false) ?_)))
        exact ⟨_, rfl, by (try simp only [ltE] at *) <;> grind⟩
      · replace hc102 := bt hc102
        refine iQ 8 ?_
        cases p1
        · skip
          refine iQ 3 (iU .not (.bool q1) (some 116) ?_)
          intro c116 hc116
          refine iQ 1 (iC 14 [.v (.int .i16 b1), .v (.int .i16 a1), Bv c116] (some 118) (c_atmost) ?_)
          rintro _ ⟨c118, rfl, hc118⟩
          refine iU .not (.bool c118) (some 119) ?_
          intro c119 hc119
          refine iQ 2 (iE 267 [(4, .p 4 0), (5, .p 5 0), (6, Ba c119), (7, .d (Sv (⟨#[111, 118, 101, 114, 108, 97, 112, 115, 32, 98, 101, 102, 111, 114, 101]⟩))), (8, Ba false), (25, Ba false), (30, Ba false), (47, Ba false), (52, Ba false), (82, Ba true)] [(4, [.v (.int .i16 a0), .v (.int .i16 a1), Bv p0, Bv false, Bv pa]), (5, [.v (.int .i16 b0), .v (.int .i16 b1), Bv true, Bv q1, Bv pb])] ?_)
          refine vc_ret (block_r (seq_r (iR (Bv c119) ?_)))
          exact ⟨_, rfl, by (try simp only [ltE] at *) <;> grind⟩
        · skip
          refine iQ 5 (iC 14 [.v (.int .i16 b1), .v (.int .i16 a1), Bv true] (some 118) (c_atmost) ?_)
          rintro _ ⟨c118, rfl, hc118⟩
          refine iU .not (.bool c118) (some 119) ?_
          intro c119 hc119
          refine iQ 2 (iE 267 [(4, .p 4 0), (5, .p 5 0), (6, Ba c119), (7, .d (Sv (⟨#[111, 118, 101, 114, 108, 97, 112, 115, 32, 98, 101, 102, 111, 114, 101]⟩))), (8, Ba false), (25, Ba false), (30, Ba false), (47, Ba false), (52, Ba false), (82, Ba true)] [(4, [.v (.int .i16 a0), .v (.int .i16 a1), Bv p0, Bv true, Bv pa]), (5, [.v (.int .i16 b0), .v (.int .i16 b1), Bv true, Bv q1, Bv pb])] ?_)
          refine vc_ret (block_r (seq_r (iR (Bv c119) ?_)))
          exact ⟨_, rfl, by (try simp only [ltE] at *) <;> grind⟩
set_option maxHeartbeats 1600000 in
theorem t_finishes {a0 a1 b0 b1 : Int} {p0 p1 q0 q1 pa pb : Bool} : HasC Tryz.prog 7 [.v (.string (⟨#[102, 105, 110, 105, 115, 104, 101, 115]⟩)), .agg [.v (.int .i16 a0), .v (.int .i16 a1), .v (.bool p0), .v (.bool p1), .v (.bool pa)], .agg [.v (.int .i16 b0), .v (.int .i16 b1), .v (.bool q0), .v (.bool q1), .v (.bool pb)]] (fun r => ∃ c, r = .v (.bool c) ∧ (c = true ↔ ((decide (a1 = b1) && (p1 == q1)) && ltE b0 a0 (q0 || !p0)) = true)) := by
  refine HasC.of [] (fn := Tryz.f7) tyOk mixed (fun args w => Tryz.call7 args w) Tryz.func7 rfl (by kernel_rfl) (Nat.le_of_ble_eq_true rfl) (⟨_, _, rfl, Iff.rfl⟩) ?_
  refine vc_seqr rfl (iQ 3 (iE 267 [(0, .d (Sv (⟨#[102, 105, 110, 105, 115, 104, 101, 115]⟩))), (4, .p 4 0), (5, .p 5 0), (6, Ba false)] [(4, [.v (.int .i16 a0), .v (.int .i16 a1), Bv p0, Bv p1, Bv pa]), (5, [.v (.int .i16 b0), .v (.int .i16 b1), Bv q0, Bv q1, Bv pb])] ?_))
  refine vc_seq (vc_seqr rfl (iQ 1 (iE 267 [(4, .p 4 0), (5, .p 5 0), (6, Ba false), (7, .d (Sv (⟨#[102, 105, 110, 105, 115, 104, 101, 115]⟩)))] [(4, [.v (.int .i16 a0), .v (.int .i16 a1), Bv p0, Bv p1, Bv pa]), (5, [.v (.int .i16 b0), .v (.int .i16 b1), Bv q0, Bv q1, Bv pb])] ?_)))
  refine vc_block (vc_seqr rfl (iB .eql 9 (.string (⟨#[102, 105, 110, 105, 115, 104, 101, 115]⟩)) (.string (⟨#[98, 101, 102, 111, 114, 101]⟩)) (some 9) ?_))
  refine all_false ((by decide)) ?_
  refine iQ 1 (iE 267 [(4, .p 4 0), (5, .p 5 0), (6, Ba false), (7, .d (Sv (⟨#[102, 105, 110, 105, 115, 104, 101, 115]⟩))), (8, Ba false)] [(4, [.v (.int .i16 a0), .v (.int .i16 a1), Bv p0, Bv p1, Bv pa]), (5, [.v (.int .i16 b0), .v (.int .i16 b1), Bv q0, Bv q1, Bv pb])] ?_)
  refine iF (vc_seqr rfl (iB .eql 9 (.string (⟨#[102, 105, 110, 105, 115, 104, 101, 115]⟩)) (.string (⟨#[97, 102, 116, 101, 114]⟩)) (some 26) ?_))
  refine all_false ((by decide)) ?_
  refine iQ 1 (iE 267 [(4, .p 4 0), (5, .p 5 0), (6, Ba false), (7, .d (Sv (⟨#[102, 105, 110, 105, 115, 104, 101, 115]⟩))), (8, Ba false), (25, Ba false)] [(4, [.v (.int .i16 a0), .v (.int .i16 a1), Bv p0, Bv p1, Bv pa]), (5, [.v (.int .i16 b0), .v (.int .i16 b1), Bv q0, Bv q1, Bv pb])] ?_)
  refine iF (vc_seqr rfl (iB .eql 9 (.string (⟨#[102, 105, 110, 105, 115, 104, 101, 115]⟩)) (.string (⟨#[109, 101, 101, 116, 115]⟩)) (some 31) ?_))
  refine all_false ((by decide)) ?_
  refine iQ 1 (iE 267 [(4, .p 4 0), (5, .p 5 0), (6, Ba false), (7, .d (Sv (⟨#[102, 105, 110, 105, 115, 104, 101, 115]⟩))), (8, Ba false), (25, Ba false), (30, Ba false)] [(4, [.v (.int .i16 a0), .v (.int .i16 a1), Bv p0, Bv p1, Bv pa]), (5, [.v (.int .i16 b0), .v (.int .i16 b1), Bv q0, Bv q1, Bv pb])] ?_)
  refine iF (vc_seqr rfl (iB .eql 9 (.string (⟨#[102, 105, 110, 105, 115, 104, 101, 115]⟩)) (.string (⟨#[109, 101, 116, 32, 98, 121]⟩)) (some 48) ?_))
  refine all_false ((by decide)) ?_
  refine iQ 1 (iE 267 [(4, .p 4 0), (5, .p 5 0), (6, Ba false), (7, .d (Sv (⟨#[102, 105, 110, 105, 115, 104, 101, 115]⟩))), (8, Ba false), (25, Ba false), (30, Ba false), (47, Ba false)] [(4, [.v (.int .i16 a0), .v (.int .i16 a1), Bv p0, Bv p1, Bv pa]), (5, [.v (.int .i16 b0), .v (.int .i16 b1), Bv q0, Bv q1, Bv pb])] ?_)
  refine iF (vc_seqr rfl (iB .eql 9 (.string (⟨#[102, 105, 110, 105, 115, 104, 101, 115]⟩)) (.string (⟨#[111, 118, 101, 114, 108, 97, 112, 115]⟩)) (some 53) ?_))
  refine all_false ((by decide)) ?_
  refine iQ 1 (iE 267 [(4, .p 4 0), (5, .p 5 0), (6, Ba false), (7, .d (Sv (⟨#[102, 105, 110, 105, 115, 104, 101, 115]⟩))), (8, Ba false), (25, Ba false), (30, Ba false), (47, Ba false), (52, Ba false)] [(4, [.v (.int .i16 a0), .v (.int .i16 a1), Bv p0, Bv p1, Bv pa]), (5, [.v (.int .i16 b0), .v (.int .i16 b1), Bv q0, Bv q1, Bv pb])] ?_)
  refine iF (vc_seqr rfl (iB .eql 9 (.string (⟨#[102, 105, 110, 105, 115, 104, 101, 115]⟩)) (.string (⟨#[111, 118, 101, 114, 108, 97, 112, 115, 32, 98, 101, 102, 111, 114, 101]⟩)) (some 83) ?_))
  refine all_false ((by decide)) ?_
  refine iQ 1 (iE 267 [(4, .p 4 0), (5, .p 5 0), (6, Ba false), (7, .d (Sv (⟨#[102, 105, 110, 105, 115, 104, 101, 115]⟩))), (8, Ba false), (25, Ba false), (30, Ba false), (47, Ba false), (52, Ba false), (82, Ba false)] [(4, [.v (.int .i16 a0), .v (.int .i16 a1), Bv p0, Bv p1, Bv pa]), (5, [.v (.int .i16 b0), .v (.int .i16 b1), Bv q0, Bv q1, Bv pb])] ?_)
  refine iF (vc_seqr rfl (iB .eql 9 (.string (⟨#[102, 105, 110, 105, 115, 104, 101, 115]⟩)) (.string (⟨#[111, 118, 101, 114, 108, 97, 112, 115, 32, 97, 102, 116, 101, 114]⟩)) (some 122) ?_))
  refine all_false ((by decide)) ?_
  refine iQ 1 (iE 267 [(4, .p 4 0), (5, .p 5 0), (6, Ba false), (7, .d (Sv (⟨#[102, 105, 110, 105, 115, 104, 101, 115]⟩))), (8, Ba false), (25, Ba false), (30, Ba false), (47, Ba false), (52, Ba false), (82, Ba false), (121, Ba false)] [(4, [.v (.int .i16 a0), .v (.int .i16 a1), Bv p0, Bv p1, Bv pa]), (5, [.v (.int .i16 b0), .v (.int .i16 b1), Bv q0, Bv q1, Bv pb])] ?_)
  refine iF (vc_seqr rfl (iB .eql 9 (.string (⟨#[102, 105, 110, 105, 115, 104, 101, 115]⟩)) (.string (⟨#[102, 105, 110, 105, 115, 104, 101, 115]⟩)) (some 127) ?_))
  refine all_true ((by decide)) ?_
  refine iQ 1 (iE 267 [(4, .p 4 0), (5, .p 5 0), (6, Ba false), (7, .d (Sv (⟨#[102, 105, 110, 105, 115, 104, 101, 115]⟩))), (8, Ba false), (25, Ba false), (30, Ba false), (47, Ba false), (52, Ba false), (82, Ba false), (121, Ba false), (126, Ba true)] [(4, [.v (.int .i16 a0), .v (.int .i16 a1), Bv p0, Bv p1, Bv pa]), (5, [.v (.int .i16 b0), .v (.int .i16 b1), Bv q0, Bv q1, Bv pb])] ?_)
  refine iT (vc_seqr rfl (iQ 4 (iB .eql 22 (.int .i16 a1) (.int .i16 b1) (some 132) ?_)))
  intro c132 hc132
  refine iQ 1 ?_
  cases c132
  · replace hc132 := bf hc132
    refine iQ 25 (iE 267 [(4, .p 4 0), (5, .p 5 0), (6, Ba false), (7, .d (Sv (⟨#[102, 105, 110, 105, 115, 104, 101, 115]⟩))), (8, Ba false), (25, Ba false), (30, Ba false), (47, Ba false), (52, Ba false), (82, Ba false), (121, Ba false), (126, Ba true)] [(4, [.v (.int .i16 a0), .v (.int .i16 a1), Bv p0, Bv p1, Bv pa]), (5, [.v (.int .i16 b0), .v (.int .i16 b1), Bv q0, Bv q1, Bv pb])] ?_)
    refine vc_ret (block_r (seq_r (iR (Bv false) ?_)))
    exact ⟨_, rfl, by (try simp only [ltE] at *) <;> grind⟩
  · replace hc132 := bt hc132
    refine iQ 6 (iB .eql 4 (.bool p1) (.bool q1) (some 140) ?_)
    intro c140 hc140
    refine iQ 2 ?_
    cases c140
    · replace hc140 := bf hc140
      refine iQ 16 (iE 267 [(4, .p 4 0), (5, .p 5 0), (6, Ba false), (7, .d (Sv (⟨#[102, 105, 110, 105, 115, 104, 101, 115]⟩))), (8, Ba false), (25, Ba false), (30, Ba false), (47, Ba false), (52, Ba false), (82, Ba false), (121, Ba false), (126, Ba true)] [(4, [.v (.int .i16 a0), .v (.int .i16 a1), Bv p0, Bv p1, Bv pa]), (5, [.v (.int .i16 b0), .v (.int .i16 b1), Bv q0, Bv q1, Bv pb])] ?_)
      refine vc_ret (block_r (seq_r (iR (Bv false) ?_)))
      exact ⟨_, rfl, by (try simp only [ltE] at *) <;> grind⟩
    · replace hc140 := bt hc140
      refine iQ 8 ?_
      cases q0
      · skip
        refine iQ 3 (iU .not (.bool p0) (some 154) ?_)
        intro c154 hc154
        refine iQ 1 (iC 14 [.v (.int .i16 b0), .v (.int .i16 a0), Bv c154] (some 156) (c_atmost) ?_)
        rintro _ ⟨c156, rfl, hc156⟩
        refine iQ 2 (iE 267 [(4, .p 4 0), (5, .p 5 0), (6, Ba c156), (7, .d (Sv (⟨#[102, 105, 110, 105, 115, 104, 101, 115]⟩))), (8, Ba false), (25, Ba false), (30, Ba false), (47, Ba false), (52, Ba false), (82, Ba false), (121, Ba false), (126, Ba true)] [(4, [.v (.int .i16 a0), .v (.int .i16 a1), Bv p0, Bv p1, Bv pa]), (5, [.v (.int .i16 b0), .v (.int .i16 b1), Bv false, Bv q1, Bv pb])] ?_)
        refine vc_ret (block_r (seq_r (iR (Bv c156) ?_)))
        exact ⟨_, rfl, by (try simp only [ltE] at *) <;> grind⟩
      · skip
        refine iQ 5 (iC 14 [.v (.int .i16 b0), .v (.int .i16 a0), Bv true] (some 156) (c_atmost) ?_)
        rintro _ ⟨c156, rfl, hc156⟩
        refine iQ 2 (iE 267 [(4, .p 4 0), (5, .p 5 0), (6, Ba c156), (7, .d (Sv (⟨#[102, 105, 110, 105, 115, 104, 101, 115]⟩))), (8, Ba false), (25, Ba false), (30, Ba false), (47, Ba false), (52, Ba false), (82, Ba false), (121, Ba false), (126, Ba true)] [(4, [.v (.int .i16 a0), .v (.int .i16 a1), Bv p0, Bv p1, Bv pa]), (5, [.v (.int .i16 b0), .v (.int .i16 b1), Bv true, Bv q1, Bv pb])] ?_)
        refine vc_ret (block_r (seq_r (iR (Bv c156) ?_)))
        exact ⟨_, rfl, by (try simp only [ltE] at *) <;> grind⟩
set_option maxHeartbeats 1600000 in
theorem t_includes {a0 a1 b0 b1 : Int} {p0 p1 q0 q1 pa pb : Bool} : HasC Tryz.prog 7 [.v (.string (⟨#[105, 110, 99, 108, 117, 100, 101, 115]⟩)), .agg [.v (.int .i16 a0), .v (.int .i16 a1), .v (.bool p0), .v (.bool p1), .v (.bool pa)], .agg [.v (.int .i16 b0), .v (.int .i16 b1), .v (.bool q0), .v (.bool q1), .v (.bool pb)]] (fun r => ∃ c, r = .v (.bool c) ∧ (c = true ↔ (ltE a0 b0 (p0 || !q0) && ltE b1 a1 (p1 || !q1)) = true)) := by
  refine HasC.of [] (fn := Tryz.f7) tyOk mixed (fun args w => Tryz.call7 args w) Tryz.func7 rfl (by kernel_rfl) (Nat.le_of_ble_eq_true rfl) (⟨_, _, rfl, Iff.rfl⟩) ?_
  refine vc_seqr rfl (iQ 3 (iE 267 [(0, .d (Sv (⟨#[105, 110, 99, 108, 117, 100, 101, 115]⟩))), (4, .p 4 0), (5, .p 5 0), (6, Ba false)] [(4, [.v (.int .i16 a0), .v (.int .i16 a1), Bv p0, Bv p1, Bv pa]), (5, [.v (.int .i16 b0), .v (.int .i16 b1), Bv q0, Bv q1, Bv pb])] ?_))
  refine vc_seq (vc_seqr rfl (iQ 1 (iE 267 [(4, .p 4 0), (5, .p 5 0), (6, Ba false), (7, .d (Sv (⟨#[105, 110, 99, 108, 117, 100, 101, 115]⟩)))] [(4, [.v (.int .i16 a0), .v (.int .i16 a1), Bv p0, Bv p1, Bv pa]), (5, [.v (.int .i16 b0), .v (.int .i16 b1), Bv q0, Bv q1, Bv pb])] ?_)))
  refine vc_block (vc_seqr rfl (iB .eql 9 (.string (⟨#[105, 110, 99, 108, 117, 100, 101, 115]⟩)) (.string (⟨#[98, 101, 102, 111, 114, 101]⟩)) (some 9) ?_))
  refine all_false ((by decide)) ?_
  refine iQ 1 (iE 267 [(4, .p 4 0), (5, .p 5 0), (6, Ba false), (7, .d (Sv (⟨#[105, 110, 99, 108, 117, 100, 101, 115]⟩))), (8, Ba false)] [(4, [.v (.int .i16 a0), .v (.int .i16 a1), Bv p0, Bv p1, Bv pa]), (5, [.v (.int .i16 b0), .v (.int .i16 b1), Bv q0, Bv q1, Bv pb])] ?_)
  refine iF (vc_seqr rfl (iB .eql 9 (.string (⟨#[105, 110, 99, 108, 117, 100, 101, 115]⟩)) (.string (⟨#[97, 102, 116, 101, 114]⟩)) (some 26) ?_))
  refine all_false ((by decide)) ?_
  refine iQ 1 (iE 267 [(4, .p 4 0), (5, .p 5 0), (6, Ba false), (7, .d (Sv (⟨#[105, 110, 99, 108, 117, 100, 101, 115]⟩))), (8, Ba false), (25, Ba false)] [(4, [.v (.int .i16 a0), .v (.int .i16 a1), Bv p0, Bv p1, Bv pa]), (5, [.v (.int .i16 b0), .v (.int .i16 b1), Bv q0, Bv q1, Bv pb])] ?_)
  refine iF (vc_seqr rfl (iB .eql 9 (.string (⟨#[105, 110, 99, 108, 117, 100, 101, 115]⟩)) (.string (⟨#[109, 101, 101, 116, 115]⟩)) (some 31) ?_))
  refine all_false ((by decide)) ?_
  refine iQ 1 (iE 267 [(4, .p 4 0), (5, .p 5 0), (6, Ba false), (7, .d (Sv (⟨#[105, 110, 99, 108, 117, 100, 101, 115]⟩))), (8, Ba false), (25, Ba false), (30, Ba false)] [(4, [.v (.int .i16 a0), .v (.int .i16 a1), Bv p0, Bv p1, Bv pa]), (5, [.v (.int .i16 b0), .v (.int .i16 b1), Bv q0, Bv q1, Bv pb])] ?_)
  refine iF (vc_seqr rfl (iB .eql 9 (.string (⟨#[105, 110, 99, 108, 117, 100, 101, 115]⟩)) (.string (⟨#[109, 101, 116, 32, 98, 121]⟩)) (some 48) ?_))
  refine all_false ((by decide)) ?_
  refine iQ 1 (iE 267 [(4, .p 4 0), (5, .p 5 0), (6, Ba false), (7, .d (Sv (⟨#[105, 110, 99, 108, 117, 100, 101, 115]⟩))), (8, Ba false), (25, Ba false), (30, Ba false), (47, Ba false)] [(4, [.v (.int .i16 a0), .v (.int .i16 a1), Bv p0, Bv p1, Bv pa]), (5, [.v (.int .i16 b0), .v (.int .i16 b1), Bv q0, Bv q1, Bv pb])] ?_)
  refine iF (vc_seqr rfl (iB .eql 9 (.string (⟨#[105, 110, 99, 108, 117, 100, 101, 115]⟩)) (.string (⟨#[111, 118, 101, 114, 108, 97, 112, 115]⟩)) (some 53) ?_))
  refine all_false ((by decide)) ?_
  refine iQ 1 (iE 267 [(4, .p 4 0), (5, .p 5 0), (6, Ba false), (7, .d (Sv (⟨#[105, 110, 99, 108, 117, 100, 101, 115]⟩))), (8, Ba false), (25, Ba false), (30, Ba false), (47, Ba false), (52, Ba false)] [(4, [.v (.int .i16 a0), .v (.int .i16 a1), Bv p0, Bv p1, Bv pa]), (5, [.v (.int .i16 b0), .v (.int .i16 b1), Bv q0, Bv q1, Bv pb])] ?_)
  refine iF (vc_seqr rfl (iB .eql 9 (.string (⟨#[105, 110, 99, 108, 117, 100, 101, 115]⟩)) (.string (⟨#[111, 118, 101, 114, 108, 97, 112, 115, 32, 98, 101, 102, 111, 114, 101]⟩)) (some 83) ?_))
  refine all_false ((by decide)) ?_
  refine iQ 1 (iE 267 [(4, .p 4 0), (5, .p 5 0), (6, Ba false), (7, .d (Sv (⟨#[105, 110, 99, 108, 117, 100, 101, 115]⟩))), (8, Ba false), (25, Ba false), (30, Ba false), (47, Ba false), (52, Ba false), (82, Ba false)] [(4, [.v (.int .i16 a0), .v (.int .i16 a1), Bv p0, Bv p1, Bv pa]), (5, [.v (.int .i16 b0), .v (.int .i16 b1), Bv q0, Bv q1, Bv pb])] ?_)
  refine iF (vc_seqr rfl (iB .eql 9 (.string (⟨#[105, 110, 99, 108, 117, 100, 101, 115]⟩)) (.string (⟨#[111, 118, 101, 114, 108, 97, 112, 115, 32, 97, 102, 116, 101, 114]⟩)) (some 122) ?_))
  refine all_false ((by decide)) ?_
  refine iQ 1 (iE 267 [(4, .p 4 0), (5, .p 5 0), (6, Ba false), (7, .d (Sv (⟨#[105, 110, 99, 108, 117, 100, 101, 115]⟩))), (8, Ba false), (25, Ba false), (30, Ba false), (47, Ba false), (52, Ba false), (82, Ba false), (121, Ba false)] [(4, [.v (.int .i16 a0), .v (.int .i16 a1), Bv p0, Bv p1, Bv pa]), (5, [.v (.int .i16 b0), .v (.int .i16 b1), Bv q0, Bv q1, Bv pb])] ?_)
  refine iF (vc_seqr rfl (iB .eql 9 (.string (⟨#[105, 110, 99, 108, 117, 100, 101, 115]⟩)) (.string (⟨#[102, 105, 110, 105, 115, 104, 101, 115]⟩)) (some 127) ?_))
  refine all_false ((by decide)) ?_
  refine iQ 1 (iE 267 [(4, .p 4 0), (5, .p 5 0), (6, Ba false), (7, .d (Sv (⟨#[105, 110, 99, 108, 117, 100, 101, 115]⟩))), (8, Ba false), (25, Ba false), (30, Ba false), (47, Ba false), (52, Ba false), (82, Ba false), (121, Ba false), (126, Ba false)] [(4, [.v (.int .i16 a0), .v (.int .i16 a1), Bv p0, Bv p1, Bv pa]), (5, [.v (.int .i16 b0), .v (.int .i16 b1), Bv q0, Bv q1, Bv pb])] ?_)
  refine iF (vc_seqr rfl (iB .eql 9 (.string (⟨#[105, 110, 99, 108, 117, 100, 101, 115]⟩)) (.string (⟨#[102, 105, 110, 105, 115, 104, 101, 100, 32, 98, 121]⟩)) (some 159) ?_))
  refine all_false ((by decide)) ?_
  refine iQ 1 (iE 267 [(4, .p 4 0), (5, .p 5 0), (6, Ba false), (7, .d (Sv (⟨#[105, 110, 99, 108, 117, 100, 101, 115]⟩))), (8, Ba false), (25, Ba false), (30, Ba false), (47, Ba false), (52, Ba false), (82, Ba false), (121, Ba false), (126, Ba false), (158, Ba false)] [(4, [.v (.int .i16 a0), .v (.int .i16 a1), Bv p0, Bv p1, Bv pa]), (5, [.v (.int .i16 b0), .v (.int .i16 b1), Bv q0, Bv q1, Bv pb])] ?_)
  refine iF (vc_seqr rfl (iB .eql 9 (.string (⟨#[105, 110, 99, 108, 117, 100, 101, 115]⟩)) (.string (⟨#[105, 110, 99, 108, 117, 100, 101, 115]⟩)) (some 164) ?_))
  refine all_true ((by decide)) ?_
  refine iQ 1 (iE 267 [(4, .p 4 0), (5, .p 5 0), (6, Ba false), (7, .d (Sv (⟨#[105, 110, 99, 108, 117, 100, 101, 115]⟩))), (8, Ba false), (25, Ba false), (30, Ba false), (47, Ba false), (52, Ba false), (82, Ba false), (121, Ba false), (126, Ba false), (158, Ba false), (163, Ba true)] [(4, [.v (.int .i16 a0), .v (.int .i16 a1), Bv p0, Bv p1, Bv pa]), (5, [.v (.int .i16 b0), .v (.int .i16 b1), Bv q0, Bv q1, Bv pb])] ?_)
  refine iT (vc_seqr rfl (iQ 8 ?_))
  cases p0
  · skip
    refine iQ 3 (iU .not (.bool q0) (some 176) ?_)
    intro c176 hc176
    refine iQ 1 (iC 14 [.v (.int .i16 a0), .v (.int .i16 b0), Bv c176] (some 178) (c_atmost) ?_)
    rintro _ ⟨c178, rfl, hc178⟩
    refine iQ 1 ?_
    cases c178
    · replace hc178 := bf hc178
      refine iQ 16 (iE 267 [(4, .p 4 0), (5, .p 5 0), (6, Ba false), (7, .d (Sv (⟨#[105, 110, 99, 108, 117, 100, 101, 115]⟩))), (8, Ba false), (25, Ba false), (30, Ba false), (47, Ba false), (52, Ba false), (82, Ba false), (121, Ba false), (126, Ba false), (158, Ba false), (163, Ba true)] [(4, [.v (.int .i16 a0), .v (.int .i16 a1), Bv false, Bv p1, Bv pa]), (5, [.v (.int .i16 b0), .v (.int .i16 b1), Bv q0, Bv q1, Bv pb])] ?_)
      refine vc_ret (block_r (seq_r (iR (Bv false) ?_)))
      exact ⟨_, rfl, by (try simp only [ltE] at *) <;> grind⟩
    · replace hc178 := bt hc178
      refine iQ 8 ?_
      cases p1
      · skip
        refine iQ 3 (iU .not (.bool q1) (some 191) ?_)
        intro c191 hc191
        refine iQ 1 (iC 14 [.v (.int .i16 b1), .v (.int .i16 a1), Bv c191] (some 193) (c_atmost) ?_)
        rintro _ ⟨c193, rfl, hc193⟩
        refine iQ 2 (iE 267 [(4, .p 4 0), (5, .p 5 0), (6, Ba c193), (7, .d (Sv (⟨#[105, 110, 99, 108, 117, 100, 101, 115]⟩))), (8, Ba false), (25, Ba false), (30, Ba false), (47, Ba false), (52, Ba false), (82, Ba false), (121, Ba false), (126, Ba false), (158, Ba false), (163, Ba true)] [(4, [.v (.int .i16 a0), .v (.int .i16 a1), Bv false, Bv false, Bv pa]), (5, [.v (.int .i16 b0), .v (.int .i16 b1), Bv q0, Bv q1, Bv pb])] ?_)
        refine vc_ret (block_r (seq_r (iR (Bv c193) ?_)))
        exact ⟨_, rfl, by (try simp only [ltE] at *) <;> grind⟩
      · skip
        refine iQ 5 (iC 14 [.v (.int .i16 b1), .v (.int .i16 a1), Bv true] (some 193) (c_atmost) ?_)
        rintro _ ⟨c193, rfl, hc193⟩
        refine iQ 2 (iE 267 [(4, .p 4 0), (5, .p 5 0), (6, Ba c193), (7, .d (Sv (⟨#[105, 110, 99, 108, 117, 100, 101, 115]⟩))), (8, Ba false), (25, Ba false), (30, Ba false), (47, Ba false), (52, Ba false), (82, Ba false), (121, Ba false), (126, Ba false), (158, Ba false), (163, Ba true)] [(4, [.v (.int .i16 a0), .v (.int .i16 a1), Bv false, Bv true, Bv pa]), (5, [.v (.int .i16 b0), .v (.int .i16 b1), Bv q0, Bv q1, Bv pb])] ?_)
        refine vc_ret (block_r (seq_r (iR (Bv c193) ?_)))
        exact ⟨_, rfl, by (try simp only [ltE] at *) <;> grind⟩
  · skip
    refine iQ 5 (iC 14 [.v (.int .i16 a0), .v (.int .i16 b0), Bv true] (some 178) (c_atmost) ?_)
    rintro _ ⟨c178, rfl, hc178⟩
    refine iQ 1 ?_
    cases c178
    · replace hc178 := bf hc178
      refine iQ 16 (iE 267 [(4, .p 4 0), (5, .p 5 0), (6, Ba false), (7, .d (Sv (⟨#[105, 110, 99, 108, 117, 100, 101, 115]⟩))), (8, Ba false), (25, Ba false), (30, Ba false), (47, Ba false), (52, Ba false), (82, Ba false), (121, Ba false), (126, Ba false), (158, Ba false), (163, Ba true)] [(4, [.v (.int .i16 a0), .v (.int .i16 a1), Bv true, Bv p1, Bv pa]), (5, [.v (.int .i16 b0), .v (.int .i16 b1), Bv q0, Bv q1, Bv pb])] ?_)
      refine vc_ret (block_r (seq_r (iR (Bv false) ?_)))
      exact ⟨_, rfl, by (try simp only [ltE] at *) <;> grind⟩
    · replace hc178 := bt hc178
      refine iQ 8 ?_
      cases p1
      · skip
        refine iQ 3 (iU .not (.bool q1) (some 191) ?_)
        intro c191 hc191
        refine iQ 1 (iC 14 [.v (.int .i16 b1), .v (.int .i16 a1), Bv c191] (some 193) (c_atmost) ?_)
        rintro _ ⟨c193, rfl, hc193⟩
        refine iQ 2 (iE 267 [(4, .p 4 0), (5, .p 5 0), (6, Ba c193), (7, .d (Sv (⟨#[105, 110, 99, 108, 117, 100, 101, 115]⟩))), (8, Ba false), (25, Ba false), (30, Ba false), (47, Ba false), (52, Ba false), (82, Ba false), (121, Ba false), (126, Ba false), (158, Ba false), (163, Ba true)] [(4, [.v (.int .i16 a0), .v (.int .i16 a1), Bv true, Bv false, Bv pa]), (5, [.v (.int .i16 b0), .v (.int .i16 b1), Bv q0, Bv q1, Bv pb])] ?_)
        refine vc_ret (block_r (seq_r (iR (Bv c193) ?_)))
        exact ⟨_, rfl, by (try simp only [ltE] at *) <;> grind⟩
      · skip
        refine iQ 5 (iC 14 [.v (.int .i16 b1), .v (.int .i16 a1), Bv true] (some 193) (c_atmost) ?_)
        rintro _ ⟨c193, rfl, hc193⟩
        refine iQ 2 (iE 267 [(4, .p 4 0), (5, .p 5 0), (6, Ba c193), (7, .d (Sv (⟨#[105, 110, 99, 108, 117, 100, 101, 115]⟩))), (8, Ba false), (25, Ba false), (30, Ba false), (47, Ba false), (52, Ba false), (82, Ba false), (121, Ba false), (126, Ba false), (158, Ba false), (163, Ba true)] [(4, [.v (.int .i16 a0), .v (.int .i16 a1), Bv true, Bv true, Bv pa]), (5, [.v (.int .i16 b0), .v (.int .i16 b1), Bv q0, Bv q1, Bv pb])] ?_)
        refine vc_ret (block_r (seq_r (iR (Bv c193) ?_)))
        exact ⟨_, rfl, by (try simp only [ltE] at *) <;> grind⟩
set_option maxHeartbeats 1600000 in
theorem t_starts {a0 a1 b0 b1 : Int} {p0 p1 q0 q1 pa pb : Bool} : HasC Tryz.prog 7 [.v (.string (⟨#[115, 116, 97, 114, 116, 115]⟩)), .agg [.v (.int .i16 a0), .v (.int .i16 a1), .v (.bool p0), .v (.bool p1), .v (.bool pa)], .agg [.v (.int .i16 b0), .v (.int .i16 b1), .v (.bool q0), .v (.bool q1), .v (.bool pb)]] (fun r => ∃ c, r = .v (.bool c) ∧ (c = true ↔ ((decide (a0 = b0) && (p0 == q0)) && ltE a1 b1 (q1 || !p1)) = true)) := by
  refine HasC.of [] (fn := Tryz.f7) tyOk mixed (fun args w => Tryz.call7 args w) Tryz.func7 rfl (by kernel_rfl) (Nat.le_of_ble_eq_true rfl) (⟨_, _, rfl, Iff.rfl⟩) ?_
  refine vc_seqr rfl (iQ 3 (iE 267 [(0, .d (Sv (⟨#[115, 116, 97, 114, 116, 115]⟩))), (4, .p 4 0), (5, .p 5 0), (6, Ba false)] [(4, [.v (.int .i16 a0), .v (.int .i16 a1), Bv p0, Bv p1, Bv pa]), (5, [.v (.int .i16 b0), .v (.int .i16 b1), Bv q0, Bv q1, Bv pb])] ?_))
  refine vc_seq (vc_seqr rfl (iQ 1 (iE 267 [(4, .p 4 0), (5, .p 5 0), (6, Ba false), (7, .d (Sv (⟨#[115, 116, 97, 114, 116, 115]⟩)))] [(4, [.v (.int .i16 a0), .v (.int .i16 a1), Bv p0, Bv p1, Bv pa]), (5, [.v (.int .i16 b0), .v (.int .i16 b1), Bv q0, Bv q1, Bv pb])] ?_)))
  refine vc_block (vc_seqr rfl (iB .eql 9 (.string (⟨#[115, 116, 97, 114, 116, 115]⟩)) (.string (⟨#[98, 101, 102, 111, 114, 101]⟩)) (some 9) ?_))
  refine all_false ((by decide)) ?_
  refine iQ 1 (iE 267 [(4, .p 4 0), (5, .p 5 0), (6, Ba false), (7, .d (Sv (⟨#[115, 116, 97, 114, 116, 115]⟩))), (8, Ba false)] [(4, [.v (.int .i16 a0), .v (.int .i16 a1), Bv p0, Bv p1, Bv pa]), (5, [.v (.int .i16 b0), .v (.int .i16 b1), Bv q0, Bv q1, Bv pb])] ?_)
  refine iF (vc_seqr rfl (iB .eql 9 (.string (⟨#[115, 116, 97, 114, 116, 115]⟩)) (.string (⟨#[97, 102, 116, 101, 114]⟩)) (some 26) ?_))
  refine all_false ((by decide)) ?_
  refine iQ 1 (iE 267 [(4, .p 4 0), (5, .p 5 0), (6, Ba false), (7, .d (Sv (⟨#[115, 116, 97, 114, 116, 115]⟩))), (8, Ba false), (25, Ba false)] [(4, [.v (.int .i16 a0), .v (.int .i16 a1), Bv p0, Bv p1, Bv pa]), (5, [.v (.int .i16 b0), .v (.int .i16 b1), Bv q0, Bv q1, Bv pb])] ?_)
  refine iF (vc_seqr rfl (iB .eql 9 (.string (⟨#[115, 116, 97, 114, 116, 115]⟩)) (.string (⟨#[109, 101, 101, 116, 115]⟩)) (some 31) ?_))
  refine all_false ((by decide)) ?_
  refine iQ 1 (iE 267 [(4, .p 4 0), (5, .p 5 0), (6, Ba false), (7, .d (Sv (⟨#[115, 116, 97, 114, 116, 115]⟩))), (8, Ba false), (25, Ba false), (30, Ba false)] [(4, [.v (.int .i16 a0), .v (.int .i16 a1), Bv p0, Bv p1, Bv pa]), (5, [.v (.int .i16 b0), .v (.int .i16 b1), Bv q0, Bv q1, Bv pb])] ?_)
  refine iF (vc_seqr rfl (iB .eql 9 (.string (⟨#[115, 116, 97, 114, 116, 115]⟩)) (.string (⟨#[109, 101, 116, 32, 98, 121]⟩)) (some 48) ?_))
  refine all_false ((by decide)) ?_
  refine iQ 1 (iE 267 [(4, .p 4 0), (5, .p 5 0), (6, Ba false), (7, .d (Sv (⟨#[115, 116, 97, 114, 116, 115]⟩))), (8, Ba false), (25, Ba false), (30, Ba false), (47, Ba false)] [(4, [.v (.int .i16 a0), .v (.int .i16 a1), Bv p0, Bv p1, Bv pa]), (5, [.v (.int .i16 b0), .v (.int .i16 b1), Bv q0, Bv q1, Bv pb])] ?_)
  refine iF (vc_seqr rfl (iB .eql 9 (.string (⟨#[115, 116, 97, 114, 116, 115]⟩)) (.string (⟨#[111, 118, 101, 114, 108, 97, 112, 115]⟩)) (some 53) ?_))
  refine all_false ((by decide)) ?_
  refine iQ 1 (iE 267 [(4, .p 4 0), (5, .p 5 0), (6, Ba false), (7, .d (Sv (⟨#[115, 116, 97, 114, 116, 115]⟩))), (8, Ba false), (25, Ba false), (30, Ba false), (47, Ba false), (52, Ba false)] [(4, [.v (.int .i16 a0), .v (.int .i16 a1), Bv p0, Bv p1, Bv pa]), (5, [.v (.int .i16 b0), .v (.int .i16 b1), Bv q0, Bv q1, Bv pb])] ?_)
  refine iF (vc_seqr rfl (iB .eql 9 (.string (⟨#[115, 116, 97, 114, 116, 115]⟩)) (.string (⟨#[111, 118, 101, 114, 108, 97, 112, 115, 32, 98, 101, 102, 111, 114, 101]⟩)) (some 83) ?_))
  refine all_false ((by decide)) ?_
  refine iQ 1 (iE 267 [(4, .p 4 0), (5, .p 5 0), (6, Ba false), (7, .d (Sv (⟨#[115, 116, 97, 114, 116, 115]⟩))), (8, Ba false), (25, Ba false), (30, Ba false), (47, Ba false), (52, Ba false), (82, Ba false)] [(4, [.v (.int .i16 a0), .v (.int .i16 a1), Bv p0, Bv p1, Bv pa]), (5, [.v (.int .i16 b0), .v (.int .i16 b1), Bv q0, Bv q1, Bv pb])] ?_)
  refine iF (vc_seqr rfl (iB .eql 9 (.string (⟨#[115, 116, 97, 114, 116, 115]⟩)) (.string (⟨#[111, 118, 101, 114, 108, 97, 112, 115, 32, 97, 102, 116, 101, 114]⟩)) (some 122) ?_))
  refine all_false ((by decide)) ?_
  refine iQ 1 (iE 267 [(4, .p 4 0), (5, .p 5 0), (6, Ba false), (7, .d (Sv (⟨#[115, 116, 97, 114, 116, 115]⟩))), (8, Ba false), (25, Ba false), (30, Ba false), (47, Ba false), (52, Ba false), (82, Ba false), (121, Ba false)] [(4, [.v (.int .i16 a0), .v (.int .i16 a1), Bv p0, Bv p1, Bv pa]), (5, [.v (.int .i16 b0), .v (.int .i16 b1), Bv q0, Bv q1, Bv pb])] ?_)
  refine iF (vc_seqr rfl (iB .eql 9 (.string (⟨#[115, 116, 97, 114, 116, 115]⟩)) (.string (⟨#[102, 105, 110, 105, 115, 104, 101, 115]⟩)) (some 127) ?_))
  refine all_false ((by decide)) ?_
  refine iQ 1 (iE 267 [(4, .p 4 0), (5, .p 5 0), (6, Ba false), (7, .d (Sv (⟨#[115, 116, 97, 114, 116, 115]⟩))), (8, Ba false), (25, Ba false), (30, Ba false), (47, Ba false), (52, Ba false), (82, Ba false), (121, Ba false), (126, Ba false)] [(4, [.v (.int .i16 a0), .v (.int .i16 a1), Bv p0, Bv p1, Bv pa]), (5, [.v (.int .i16 b0), .v (.int .i16 b1), Bv q0, Bv q1, Bv pb])] ?_)
  refine iF (vc_seqr rfl (iB .eql 9 (.string (⟨#[115, 116, 97, 114, 116, 115]⟩)) (.string (⟨#[102, 105, 110, 105, 115, 104, 101, 100, 32, 98, 121]⟩)) (some 159) ?_))
  refine all_false ((by decide)) ?_
  refine iQ 1 (iE 267 [(4, .p 4 0), (5, .p 5 0), (6, Ba false), (7, .d (Sv (⟨#[115, 116, 97, 114, 116, 115]⟩))), (8, Ba false), (25, Ba false), (30, Ba false), (47, Ba false), (52, Ba false), (82, Ba false), (121, Ba false), (126, Ba false), (158, Ba false)] [(4, [.v (.int .i16 a0), .v (.int .i16 a1), Bv p0, Bv p1, Bv pa]), (5, [.v (.int .i16 b0), .v (.int .i16 b1), Bv q0, Bv q1, Bv pb])] ?_)
  refine iF (vc_seqr rfl (iB .eql 9 (.string (⟨#[115, 116, 97, 114, 116, 115]⟩)) (.string (⟨#[105, 110, 99, 108, 117, 100, 101, 115]⟩)) (some 164) ?_))
  refine all_false ((by decide)) ?_
  refine iQ 1 (iE 267 [(4, .p 4 0), (5, .p 5 0), (6, Ba false), (7, .d (Sv (⟨#[115, 116, 97, 114, 116, 115]⟩))), (8, Ba false), (25, Ba false), (30, Ba false), (47, Ba false), (52, Ba false), (82, Ba false), (121, Ba false), (126, Ba false), (158, Ba false), (163, Ba false)] [(4, [.v (.int .i16 a0), .v (.int .i16 a1), Bv p0, Bv p1, Bv pa]), (5, [.v (.int .i16 b0), .v (.int .i16 b1), Bv q0, Bv q1, Bv pb])] ?_)
  refine iF (vc_seqr rfl (iB .eql 9 (.string (⟨#[115, 116, 97, 114, 116, 115]⟩)) (.string (⟨#[100, 117, 114, 105, 110, 103]⟩)) (some 196) ?_))
  refine all_false ((by decide)) ?_
  refine iQ 1 (iE 267 [(4, .p 4 0), (5, .p 5 0), (6, Ba false), (7, .d (Sv (⟨#[115, 116, 97, 114, 116, 115]⟩))), (8, Ba false), (25, Ba false), (30, Ba false), (47, Ba false), (52, Ba false), (82, Ba false), (121, Ba false), (126, Ba false), (158, Ba false), (163, Ba false), (195, Ba false)] [(4, [.v (.int .i16 a0), .v (.int .i16 a1), Bv p0, Bv p1, Bv pa]), (5, [.v (.int .i16 b0), .v (.int .i16 b1), Bv q0, Bv q1, Bv pb])] ?_)
  refine iF (vc_seqr rfl (iB .eql 9 (.string (⟨#[115, 116, 97, 114, 116, 115]⟩)) (.string (⟨#[115, 116, 97, 114, 116, 115]⟩)) (some 201) ?_))
  refine all_true ((by decide)) ?_
  refine iQ 1 (iE 267 [(4, .p 4 0), (5, .p 5 0), (6, Ba false), (7, .d (Sv (⟨#[115, 116, 97, 114, 116, 115]⟩))), (8, Ba false), (25, Ba false), (30, Ba false), (47, Ba false), (52, Ba false), (82, Ba false), (121, Ba false), (126, Ba false), (158, Ba false), (163, Ba false), (195, Ba false), (200, Ba true)] [(4, [.v (.int .i16 a0), .v (.int .i16 a1), Bv p0, Bv p1, Bv pa]), (5, [.v (.int .i16 b0), .v (.int .i16 b1), Bv q0, Bv q1, Bv pb])] ?_)
  refine iT (vc_seqr rfl (iQ 4 (iB .eql 22 (.int .i16 a0) (.int .i16 b0) (some 206) ?_)))
  intro c206 hc206
  refine iQ 1 ?_
  cases c206
  · replace hc206 := bf hc206
    refine iQ 25 (iE 267 [(4, .p 4 0), (5, .p 5 0), (6, Ba false), (7, .d (Sv (⟨#[115, 116, 97, 114, 116, 115]⟩))), (8, Ba false), (25, Ba false), (30, Ba false), (47, Ba false), (52, Ba false), (82, Ba false), (121, Ba false), (126, Ba false), (158, Ba false), (163, Ba false), (195, Ba false), (200, Ba true)] [(4, [.v (.int .i16 a0), .v (.int .i16 a1), Bv p0, Bv p1, Bv pa]), (5, [.v (.int .i16 b0), .v (.int .i16 b1), Bv q0, Bv q1, Bv pb])] ?_)
    refine vc_ret (block_r (seq_r (iR (Bv false) ?_)))
    exact ⟨_, rfl, by (try simp only [ltE] at *) <;> grind⟩
  · replace hc206 := bt hc206
    refine iQ 6 (iB .eql 4 (.bool p0) (.bool q0) (some 214) ?_)
    intro c214 hc214
    refine iQ 2 ?_
    cases c214
    · replace hc214 := bf hc214
      refine iQ 16 (iE 267 [(4, .p 4 0), (5, .p 5 0), (6, Ba false), (7, .d (Sv (⟨#[115, 116, 97, 114, 116, 115]⟩))), (8, Ba false), (25, Ba false), (30, Ba false), (47, Ba false), (52, Ba false), (82, Ba false), (121, Ba false), (126, Ba false), (158, Ba false), (163, Ba false), (195, Ba false), (200, Ba true)] [(4, [.v (.int .i16 a0), .v (.int .i16 a1), Bv p0, Bv p1, Bv pa]), (5, [.v (.int .i16 b0), .v (.int .i16 b1), Bv q0, Bv q1, Bv pb])] ?_)
      refine vc_ret (block_r (seq_r (iR (Bv false) ?_)))
      exact ⟨_, rfl, by (try simp only [ltE] at *) <;> grind⟩
    · replace hc214 := bt hc214
      refine iQ 8 ?_
      cases q1
      · skip
        refine iQ 3 (iU .not (.bool p1) (some 228) ?_)
        intro c228 hc228
        refine iQ 1 (iC 14 [.v (.int .i16 a1), .v (.int .i16 b1), Bv c228] (some 230) (c_atmost) ?_)
        rintro _ ⟨c230, rfl, hc230⟩
        refine iQ 2 (iE 267 [(4, .p 4 0), (5, .p 5 0), (6, Ba c230), (7, .d (Sv (⟨#[115, 116, 97, 114, 116, 115]⟩))), (8, Ba false), (25, Ba false), (30, Ba false), (47, Ba false), (52, Ba false), (82, Ba false), (121, Ba false), (126, Ba false), (158, Ba false), (163, Ba false), (195, Ba false), (200, Ba true)] [(4, [.v (.int .i16 a0), .v (.int .i16 a1), Bv p0, Bv p1, Bv pa]), (5, [.v (.int .i16 b0), .v (.int .i16 b1), Bv q0, Bv false, Bv pb])] ?_)
        refine vc_ret (block_r (seq_r (iR (Bv c230) ?_)))
        exact ⟨_, rfl, by (try simp only [ltE] at *) <;> grind⟩
      · skip
        refine iQ 5 (iC 14 [.v (.int .i16 a1), .v (.int .i16 b1), Bv true] (some 230) (c_atmost) ?_)
        rintro _ ⟨c230, rfl, hc230⟩
        refine iQ 2 (iE 267 [(4, .p 4 0), (5, .p 5 0), (6, Ba c230), (7, .d (Sv (⟨#[115, 116, 97, 114, 116, 115]⟩))), (8, Ba false), (25, Ba false), (30, Ba false), (47, Ba false), (52, Ba false), (82, Ba false), (121, Ba false), (126, Ba false), (158, Ba false), (163, Ba false), (195, Ba false), (200, Ba true)] [(4, [.v (.int .i16 a0), .v (.int .i16 a1), Bv p0, Bv p1, Bv pa]), (5, [.v (.int .i16 b0), .v (.int .i16 b1), Bv q0, Bv true, Bv pb])] ?_)
        refine vc_ret (block_r (seq_r (iR (Bv c230) ?_)))
        exact ⟨_, rfl, by (try simp only [ltE] at *) <;> grind⟩
set_option maxHeartbeats 1600000 in
theorem t_coincides {a0 a1 b0 b1 : Int} {p0 p1 q0 q1 pa pb : Bool} : HasC Tryz.prog 7 [.v (.string (⟨#[99, 111, 105, 110, 99, 105, 100, 101, 115]⟩)), .agg [.v (.int .i16 a0), .v (.int .i16 a1), .v (.bool p0), .v (.bool p1), .v (.bool pa)], .agg [.v (.int .i16 b0), .v (.int .i16 b1), .v (.bool q0), .v (.bool q1), .v (.bool pb)]] (fun r => ∃ c, r = .v (.bool c) ∧ (c = true ↔ ((decide (a0 = b0) && (p0 == q0)) && (decide (a1 = b1) && (p1 == q1))) = true)) := by
  refine HasC.of [] (fn := Tryz.f7) tyOk mixed (fun args w => Tryz.call7 args w) Tryz.func7 rfl (by kernel_rfl) (Nat.le_of_ble_eq_true rfl) (⟨_, _, rfl, Iff.rfl⟩) ?_
  refine vc_seqr rfl (iQ 3 (iE 267 [(0, .d (Sv (⟨#[99, 111, 105, 110, 99, 105, 100, 101, 115]⟩))), (4, .p 4 0), (5, .p 5 0), (6, Ba false)] [(4, [.v (.int .i16 a0), .v (.int .i16 a1), Bv p0, Bv p1, Bv pa]), (5, [.v (.int .i16 b0), .v (.int .i16 b1), Bv q0, Bv q1, Bv pb])] ?_))
  refine vc_seq (vc_seqr rfl (iQ 1 (iE 267 [(4, .p 4 0), (5, .p 5 0), (6, Ba false), (7, .d (Sv (⟨#[99, 111, 105, 110, 99, 105, 100, 101, 115]⟩)))] [(4, [.v (.int .i16 a0), .v (.int .i16 a1), Bv p0, Bv p1, Bv pa]), (5, [.v (.int .i16 b0), .v (.int .i16 b1), Bv q0, Bv q1, Bv pb])] ?_)))
  refine vc_block (vc_seqr rfl (iB .eql 9 (.string (⟨#[99, 111, 105, 110, 99, 105, 100, 101, 115]⟩)) (.string (⟨#[98, 101, 102, 111, 114, 101]⟩)) (some 9) ?_))
  refine all_false ((by decide)) ?_
  refine iQ 1 (iE 267 [(4, .p 4 0), (5, .p 5 0), (6, Ba false), (7, .d (Sv (⟨#[99, 111, 105, 110, 99, 105, 100, 101, 115]⟩))), (8, Ba false)] [(4, [.v (.int .i16 a0), .v (.int .i16 a1), Bv p0, Bv p1, Bv pa]), (5, [.v (.int .i16 b0), .v (.int .i16 b1), Bv q0, Bv q1, Bv pb])] ?_)
  refine iF (vc_seqr rfl (iB .eql 9 (.string (⟨#[99, 111, 105, 110, 99, 105, 100, 101, 115]⟩)) (.string (⟨#[97, 102, 116, 101, 114]⟩)) (some 26) ?_))
  refine all_false ((by decide)) ?_
  refine iQ 1 (iE 267 [(4, .p 4 0), (5, .p 5 0), (6, Ba false), (7, .d (Sv (⟨#[99, 111, 105, 110, 99, 105, 100, 101, 115]⟩))), (8, Ba false), (25, Ba false)] [(4, [.v (.int .i16 a0), .v (.int .i16 a1), Bv p0, Bv p1, Bv pa]), (5, [.v (.int .i16 b0), .v (.int .i16 b1), Bv q0, Bv q1, Bv pb])] ?_)
  refine iF (vc_seqr rfl (iB .eql 9 (.string (⟨#[99, 111, 105, 110, 99, 105, 100, 101, 115]⟩)) (.string (⟨#[109, 101, 101, 116, 115]⟩)) (some 31) ?_))
  refine all_false ((by decide)) ?_
  refine iQ 1 (iE 267 [(4, .p 4 0), (5, .p 5 0), (6, Ba false), (7, .d (Sv (⟨#[99, 111, 105, 110, 99, 105, 100, 101, 115]⟩))), (8, Ba false), (25, Ba false), (30, Ba false)] [(4, [.v (.int .i16 a0), .v (.int .i16 a1), Bv p0, Bv p1, Bv pa]), (5, [.v (.int .i16 b0), .v (.int .i16 b1), Bv q0, Bv q1, Bv pb])] ?_)
  refine iF (vc_seqr rfl (iB .eql 9 (.string (⟨#[99, 111, 105, 110, 99, 105, 100, 101, 115]⟩)) (.string (⟨#[109, 101, 116, 32, 98, 121]⟩)) (some 48) ?_))
  refine all_false ((by decide)) ?_
  refine iQ 1 (iE 267 [(4, .p 4 0), (5, .p 5 0), (6, Ba false), (7, .d (Sv (⟨#[99, 111, 105, 110, 99, 105, 100, 101, 115]⟩))), (8, Ba false), (25, Ba false), (30, Ba false), (47, Ba false)] [(4, [.v (.int .i16 a0), .v (.int .i16 a1), Bv p0, Bv p1, Bv pa]), (5, [.v (.int .i16 b0), .v (.int .i16 b1), Bv q0, Bv q1, Bv pb])] ?_)
  refine iF (vc_seqr rfl (iB .eql 9 (.string (⟨#[99, 111, 105, 110, 99, 105, 100, 101, 115]⟩)) (.string (⟨#[111, 118, 101, 114, 108, 97, 112, 115]⟩)) (some 53) ?_))
  refine all_false ((by decide)) ?_
  refine iQ 1 (iE 267 [(4, .p 4 0), (5, .p 5 0), (6, Ba false), (7, .d (Sv (⟨#[99, 111, 105, 110, 99, 105, 100, 101, 115]⟩))), (8, Ba false), (25, Ba false), (30, Ba false), (47, Ba false), (52, Ba false)] [(4, [.v (.int .i16 a0), .v (.int .i16 a1), Bv p0, Bv p1, Bv pa]), (5, [.v (.int .i16 b0), .v (.int .i16 b1), Bv q0, Bv q1, Bv pb])] ?_)
  refine iF (vc_seqr rfl (iB .eql 9 (.string (⟨#[99, 111, 105, 110, 99, 105, 100, 101, 115]⟩)) (.string (⟨#[111, 118, 101, 114, 108, 97, 112, 115, 32, 98, 101, 102, 111, 114, 101]⟩)) (some 83) ?_))
  refine all_false ((by decide)) ?_
  refine iQ 1 (iE 267 [(4, .p 4 0), (5, .p 5 0), (6, Ba false), (7, .d (Sv (⟨#[99, 111, 105, 110, 99, 105, 100, 101, 115]⟩))), (8, Ba false), (25, Ba false), (30, Ba false), (47, Ba false), (52, Ba false), (82, Ba false)] [(4, [.v (.int .i16 a0), .v (.int .i16 a1), Bv p0, Bv p1, Bv pa]), (5, [.v (.int .i16 b0), .v (.int .i16 b1), Bv q0, Bv q1, Bv pb])] ?_)
  refine iF (vc_seqr rfl (iB .eql 9 (.string (⟨#[99, 111, 105, 110, 99, 105, 100, 101, 115]⟩)) (.string (⟨#[111, 118, 101, 114, 108, 97, 112, 115, 32, 97, 102, 116, 101, 114]⟩)) (some 122) ?_))
  refine all_false ((by decide)) ?_
  refine iQ 1 (iE 267 [(4, .p 4 0), (5, .p 5 0), (6, Ba false), (7, .d (Sv (⟨#[99, 111, 105, 110, 99, 105, 100, 101, 115]⟩))), (8, Ba false), (25, Ba false), (30, Ba false), (47, Ba false), (52, Ba false), (82, Ba false), (121, Ba false)] [(4, [.v (.int .i16 a0), .v (.int .i16 a1), Bv p0, Bv p1, Bv pa]), (5, [.v (.int .i16 b0), .v (.int .i16 b1), Bv q0, Bv q1, Bv pb])] ?_)
  refine iF (vc_seqr rfl (iB .eql 9 (.string (⟨#[99, 111, 105, 110, 99, 105, 100, 101, 115]⟩)) (.string (⟨#[102, 105, 110, 105, 115, 104, 101, 115]⟩)) (some 127) ?_))
  refine all_false ((by decide)) ?_
  refine iQ 1 (iE 267 [(4, .p 4 0), (5, .p 5 0), (6, Ba false), (7, .d (Sv (⟨#[99, 111, 105, 110, 99, 105, 100, 101, 115]⟩))), (8, Ba false), (25, Ba false), (30, Ba false), (47, Ba false), (52, Ba false), (82, Ba false), (121, Ba false), (126, Ba false)] [(4, [.v (.int .i16 a0), .v (.int .i16 a1), Bv p0, Bv p1, Bv pa]), (5, [.v (.int .i16 b0), .v (.int .i16 b1), Bv q0, Bv q1, Bv pb])] ?_)
  refine iF (vc_seqr rfl (iB .eql 9 (.string (⟨#[99, 111, 105, 110, 99, 105, 100, 101, 115]⟩)) (.string (⟨#[102, 105, 110, 105, 115, 104, 101, 100, 32, 98, 121]⟩)) (some 159) ?_))
  refine all_false ((by decide)) ?_
  refine iQ 1 (iE 267 [(4, .p 4 0), (5, .p 5 0), (6, Ba false), (7, .d (Sv (⟨#[99, 111, 105, 110, 99, 105, 100, 101, 115]⟩))), (8, Ba false), (25, Ba false), (30, Ba false), (47, Ba false), (52, Ba false), (82, Ba false), (121, Ba false), (126, Ba false), (158, Ba false)] [(4, [.v (.int .i16 a0), .v (.int .i16 a1), Bv p0, Bv p1, Bv pa]), (5, [.v (.int .i16 b0), .v (.int .i16 b1), Bv q0, Bv q1, Bv pb])] ?_)
  refine iF (vc_seqr rfl (iB .eql 9 (.string (⟨#[99, 111, 105, 110, 99, 105, 100, 101, 115]⟩)) (.string (⟨#[105, 110, 99, 108, 117, 100, 101, 115]⟩)) (some 164) ?_))
  refine all_false ((by decide)) ?_
  refine iQ 1 (iE 267 [(4, .p 4 0), (5, .p 5 0), (6, Ba false), (7, .d (Sv (⟨#[99, 111, 105, 110, 99, 105, 100, 101, 115]⟩))), (8, Ba false), (25, Ba false), (30, Ba false), (47, Ba false), (52, Ba false), (82, Ba false), (121, Ba false), (126, Ba false), (158, Ba false), (163, Ba false)] [(4, [.v (.int .i16 a0), .v (.int .i16 a1), Bv p0, Bv p1, Bv pa]), (5, [.v (.int .i16 b0), .v (.int .i16 b1), Bv q0, Bv q1, Bv pb])] ?_)
  refine iF (vc_seqr rfl (iB .eql 9 (.string (⟨#[99, 111, 105, 110, 99, 105, 100, 101, 115]⟩)) (.string (⟨#[100, 117, 114, 105, 110, 103]⟩)) (some 196) ?_))
  refine all_false ((by decide)) ?_
  refine iQ 1 (iE 267 [(4, .p 4 0), (5, .p 5 0), (6, Ba false), (7, .d (Sv (⟨#[99, 111, 105, 110, 99, 105, 100, 101, 115]⟩))), (8, Ba false), (25, Ba false), (30, Ba false), (47, Ba false), (52, Ba false), (82, Ba false), (121, Ba false), (126, Ba false), (158, Ba false), (163, Ba false), (195, Ba false)] [(4, [.v (.int .i16 a0), .v (.int .i16 a1), Bv p0, Bv p1, Bv pa]), (5, [.v (.int .i16 b0), .v (.int .i16 b1), Bv q0, Bv q1, Bv pb])] ?_)
  refine iF (vc_seqr rfl (iB .eql 9 (.string (⟨#[99, 111, 105, 110, 99, 105, 100, 101, 115]⟩)) (.string (⟨#[115, 116, 97, 114, 116, 115]⟩)) (some 201) ?_))
  refine all_false ((by decide)) ?_
  refine iQ 1 (iE 267 [(4, .p 4 0), (5, .p 5 0), (6, Ba false), (7, .d (Sv (⟨#[99, 111, 105, 110, 99, 105, 100, 101, 115]⟩))), (8, Ba false), (25, Ba false), (30, Ba false), (47, Ba false), (52, Ba false), (82, Ba false), (121, Ba false), (126, Ba false), (158, Ba false), (163, Ba false), (195, Ba false), (200, Ba false)] [(4, [.v (.int .i16 a0), .v (.int .i16 a1), Bv p0, Bv p1, Bv pa]), (5, [.v (.int .i16 b0), .v (.int .i16 b1), Bv q0, Bv q1, Bv pb])] ?_)
  refine iF (vc_seqr rfl (iB .eql 9 (.string (⟨#[99, 111, 105, 110, 99, 105, 100, 101, 115]⟩)) (.string (⟨#[115, 116, 97, 114, 116, 101, 100, 32, 98, 121]⟩)) (some 233) ?_))
  refine all_false ((by decide)) ?_
  refine iQ 1 (iE 267 [(4, .p 4 0), (5, .p 5 0), (6, Ba false), (7, .d (Sv (⟨#[99, 111, 105, 110, 99, 105, 100, 101, 115]⟩))), (8, Ba false), (25, Ba false), (30, Ba false), (47, Ba false), (52, Ba false), (82, Ba false), (121, Ba false), (126, Ba false), (158, Ba false), (163, Ba false), (195, Ba false), (200, Ba false), (232, Ba false)] [(4, [.v (.int .i16 a0), .v (.int .i16 a1), Bv p0, Bv p1, Bv pa]), (5, [.v (.int .i16 b0), .v (.int .i16 b1), Bv q0, Bv q1, Bv pb])] ?_)
  refine iF (vc_skip (block_n (seq_n (vc_seqr rfl (iQ 4 (iB .eql 22 (.int .i16 a0) (.int .i16 b0) (some 241) ?_))))))
  intro c241 hc241
  refine iQ 1 ?_
  cases c241
  · replace hc241 := bf hc241
    refine iQ 25 (iE 267 [(4, .p 4 0), (5, .p 5 0), (6, Ba false), (7, .d (Sv (⟨#[99, 111, 105, 110, 99, 105, 100, 101, 115]⟩))), (8, Ba false), (25, Ba false), (30, Ba false), (47, Ba false), (52, Ba false), (82, Ba false), (121, Ba false), (126, Ba false), (158, Ba false), (163, Ba false), (195, Ba false), (200, Ba false), (232, Ba false)] [(4, [.v (.int .i16 a0), .v (.int .i16 a1), Bv p0, Bv p1, Bv pa]), (5, [.v (.int .i16 b0), .v (.int .i16 b1), Bv q0, Bv q1, Bv pb])] ?_)
    refine vc_ret (iR (Bv false) ?_)
    exact ⟨_, rfl, by (try simp only [ltE] at *) <;> grind⟩
  · replace hc241 := bt hc241
    refine iQ 6 (iB .eql 4 (.bool p0) (.bool q0) (some 249) ?_)
    intro c249 hc249
    refine iQ 2 ?_
    cases c249
    · replace hc249 := bf hc249
      refine iQ 16 (iE 267 [(4, .p 4 0), (5, .p 5 0), (6, Ba false), (7, .d (Sv (⟨#[99, 111, 105, 110, 99, 105, 100, 101, 115]⟩))), (8, Ba false), (25, Ba false), (30, Ba false), (47, Ba false), (52, Ba false), (82, Ba false), (121, Ba false), (126, Ba false), (158, Ba false), (163, Ba false), (195, Ba false), (200, Ba false), (232, Ba false)] [(4, [.v (.int .i16 a0), .v (.int .i16 a1), Bv p0, Bv p1, Bv pa]), (5, [.v (.int .i16 b0), .v (.int .i16 b1), Bv q0, Bv q1, Bv pb])] ?_)
      refine vc_ret (iR (Bv false) ?_)
      exact ⟨_, rfl, by (try simp only [ltE] at *) <;> grind⟩
    · replace hc249 := bt hc249
      refine iQ 4 (iB .eql 22 (.int .i16 a1) (.int .i16 b1) (some 256) ?_)
      intro c256 hc256
      refine iQ 2 ?_
      cases c256
      · replace hc256 := bf hc256
        refine iQ 9 (iE 267 [(4, .p 4 0), (5, .p 5 0), (6, Ba false), (7, .d (Sv (⟨#[99, 111, 105, 110, 99, 105, 100, 101, 115]⟩))), (8, Ba false), (25, Ba false), (30, Ba false), (47, Ba false), (52, Ba false), (82, Ba false), (121, Ba false), (126, Ba false), (158, Ba false), (163, Ba false), (195, Ba false), (200, Ba false), (232, Ba false)] [(4, [.v (.int .i16 a0), .v (.int .i16 a1), Bv p0, Bv p1, Bv pa]), (5, [.v (.int .i16 b0), .v (.int .i16 b1), Bv q0, Bv q1, Bv pb])] ?_)
        refine vc_ret (iR (Bv false) ?_)
        exact ⟨_, rfl, by (try simp only [ltE] at *) <;> grind⟩
      · replace hc256 := bt hc256
        refine iQ 6 (iB .eql 4 (.bool p1) (.bool q1) (some 265) ?_)
        intro c265 hc265
        refine iQ 2 (iE 267 [(4, .p 4 0), (5, .p 5 0), (6, Ba c265), (7, .d (Sv (⟨#[99, 111, 105, 110, 99, 105, 100, 101, 115]⟩))), (8, Ba false), (25, Ba false), (30, Ba false), (47, Ba false), (52, Ba false), (82, Ba false), (121, Ba false), (126, Ba false), (158, Ba false), (163, Ba false), (195, Ba false), (200, Ba false), (232, Ba false)] [(4, [.v (.int .i16 a0), .v (.int .i16 a1), Bv p0, Bv p1, Bv pa]), (5, [.v (.int .i16 b0), .v (.int .i16 b1), Bv q0, Bv q1, Bv pb])] ?_)
        refine vc_ret (iR (Bv c265) ?_)
        exact ⟨_, rfl, by (try simp only [ltE] at *) <;> grind⟩
set_option maxHeartbeats 1600000 in
theorem t_after {a0 a1 b0 b1 : Int} {p0 p1 q0 q1 pa pb : Bool} : HasC Tryz.prog 7 [.v (.string (⟨#[97, 102, 116, 101, 114]⟩)), .agg [.v (.int .i16 a0), .v (.int .i16 a1), .v (.bool p0), .v (.bool p1), .v (.bool pa)], .agg [.v (.int .i16 b0), .v (.int .i16 b1), .v (.bool q0), .v (.bool q1), .v (.bool pb)]] (fun r => ∃ c, r = .v (.bool c) ∧ (c = true ↔ (ltE b1 a0 (!q1 || !p0)) = true)) := by
  refine HasC.of [] (fn := Tryz.f7) tyOk mixed (fun args w => Tryz.call7 args w) Tryz.func7 rfl (by kernel_rfl) (Nat.le_of_ble_eq_true rfl) (⟨_, _, rfl, Iff.rfl⟩) ?_
  refine vc_seqr rfl (iQ 3 (iE 267 [(0, .d (Sv (⟨#[97, 102, 116, 101, 114]⟩))), (4, .p 4 0), (5, .p 5 0), (6, Ba false)] [(4, [.v (.int .i16 a0), .v (.int .i16 a1), Bv p0, Bv p1, Bv pa]), (5, [.v (.int .i16 b0), .v (.int .i16 b1), Bv q0, Bv q1, Bv pb])] ?_))
  refine vc_seq (vc_seqr rfl (iQ 1 (iE 267 [(4, .p 4 0), (5, .p 5 0), (6, Ba false), (7, .d (Sv (⟨#[97, 102, 116, 101, 114]⟩)))] [(4, [.v (.int .i16 a0), .v (.int .i16 a1), Bv p0, Bv p1, Bv pa]), (5, [.v (.int .i16 b0), .v (.int .i16 b1), Bv q0, Bv q1, Bv pb])] ?_)))
  refine vc_block (vc_seqr rfl (iB .eql 9 (.string (⟨#[97, 102, 116, 101, 114]⟩)) (.string (⟨#[98, 101, 102, 111, 114, 101]⟩)) (some 9) ?_))
  refine all_false ((by decide)) ?_
  refine iQ 1 (iE 267 [(4, .p 4 0), (5, .p 5 0), (6, Ba false), (7, .d (Sv (⟨#[97, 102, 116, 101, 114]⟩))), (8, Ba false)] [(4, [.v (.int .i16 a0), .v (.int .i16 a1), Bv p0, Bv p1, Bv pa]), (5, [.v (.int .i16 b0), .v (.int .i16 b1), Bv q0, Bv q1, Bv pb])] ?_)
  refine iF (vc_seqr rfl (iB .eql 9 (.string (⟨#[97, 102, 116, 101, 114]⟩)) (.string (⟨#[97, 102, 116, 101, 114]⟩)) (some 26) ?_))
  refine all_true ((by decide)) ?_
  refine iQ 1 (iE 267 [(4, .p 4 0), (5, .p 5 0), (6, Ba false), (7, .d (Sv (⟨#[97, 102, 116, 101, 114]⟩))), (8, Ba false), (25, Ba true)] [(4, [.v (.int .i16 a0), .v (.int .i16 a1), Bv p0, Bv p1, Bv pa]), (5, [.v (.int .i16 b0), .v (.int .i16 b1), Bv q0, Bv q1, Bv pb])] ?_)
  refine iT (vc_seqr rfl (iQ 2 (iC 7 [Sv (⟨#[98, 101, 102, 111, 114, 101]⟩), .agg [.v (.int .i16 b0), .v (.int .i16 b1), Bv q0, Bv q1, Bv pb], .agg [.v (.int .i16 a0), .v (.int .i16 a1), Bv p0, Bv p1, Bv pa]] (some 29) (t_before) ?_)))
  rintro _ ⟨c29, rfl, hc29⟩
  refine iQ 1 (iE 267 [(4, .p 4 0), (5, .p 5 0), (6, Ba c29), (7, .d (Sv (⟨#[97, 102, 116, 101, 114]⟩))), (8, Ba false), (25, Ba true)] [(4, [.v (.int .i16 a0), .v (.int .i16 a1), Bv p0, Bv p1, Bv pa]), (5, [.v (.int .i16 b0), .v (.int .i16 b1), Bv q0, Bv q1, Bv pb])] ?_)
  refine vc_ret (block_r (seq_r (iR (Bv c29) ?_)))
  exact ⟨_, rfl, by (try simp only [ltE] at *) <;> grind⟩
set_option maxHeartbeats 1600000 in
theorem t_met_by {a0 a1 b0 b1 : Int} {p0 p1 q0 q1 pa pb : Bool} : HasC Tryz.prog 7 [.v (.string (⟨#[109, 101, 116, 32, 98, 121]⟩)), .agg [.v (.int .i16 a0), .v (.int .i16 a1), .v (.bool p0), .v (.bool p1), .v (.bool pa)], .agg [.v (.int .i16 b0), .v (.int .i16 b1), .v (.bool q0), .v (.bool q1), .v (.bool pb)]] (fun r => ∃ c, r = .v (.bool c) ∧ (c = true ↔ (decide (b1 = a0) && (q1 && p0)) = true)) := by
  refine HasC.of [] (fn := Tryz.f7) tyOk mixed (fun args w => Tryz.call7 args w) Tryz.func7 rfl (by kernel_rfl) (Nat.le_of_ble_eq_true rfl) (⟨_, _, rfl, Iff.rfl⟩) ?_
  refine vc_seqr rfl (iQ 3 (iE 267 [(0, .d (Sv (⟨#[109, 101, 116, 32, 98, 121]⟩))), (4, .p 4 0), (5, .p 5 0), (6, Ba false)] [(4, [.v (.int .i16 a0), .v (.int .i16 a1), Bv p0, Bv p1, Bv pa]), (5, [.v (.int .i16 b0), .v (.int .i16 b1), Bv q0, Bv q1, Bv pb])] ?_))
  refine vc_seq (vc_seqr rfl (iQ 1 (iE 267 [(4, .p 4 0), (5, .p 5 0), (6, Ba false), (7, .d (Sv (⟨#[109, 101, 116, 32, 98, 121]⟩)))] [(4, [.v (.int .i16 a0), .v (.int .i16 a1), Bv p0, Bv p1, Bv pa]), (5, [.v (.int .i16 b0), .v (.int .i16 b1), Bv q0, Bv q1, Bv pb])] ?_)))
  refine vc_block (vc_seqr rfl (iB .eql 9 (.string (⟨#[109, 101, 116, 32, 98, 121]⟩)) (.string (⟨#[98, 101, 102, 111, 114, 101]⟩)) (some 9) ?_))
  refine all_false ((by decide)) ?_
  refine iQ 1 (iE 267 [(4, .p 4 0), (5, .p 5 0), (6, Ba false), (7, .d (Sv (⟨#[109, 101, 116, 32, 98, 121]⟩))), (8, Ba false)] [(4, [.v (.int .i16 a0), .v (.int .i16 a1), Bv p0, Bv p1, Bv pa]), (5, [.v (.int .i16 b0), .v (.int .i16 b1), Bv q0, Bv q1, Bv pb])] ?_)
  refine iF (vc_seqr rfl (iB .eql 9 (.string (⟨#[109, 101, 116, 32, 98, 121]⟩)) (.string (⟨#[97, 102, 116, 101, 114]⟩)) (some 26) ?_))
  refine all_false ((by decide)) ?_
  refine iQ 1 (iE 267 [(4, .p 4 0), (5, .p 5 0), (6, Ba false), (7, .d (Sv (⟨#[109, 101, 116, 32, 98, 121]⟩))), (8, Ba false), (25, Ba false)] [(4, [.v (.int .i16 a0), .v (.int .i16 a1), Bv p0, Bv p1, Bv pa]), (5, [.v (.int .i16 b0), .v (.int .i16 b1), Bv q0, Bv q1, Bv pb])] ?_)
  refine iF (vc_seqr rfl (iB .eql 9 (.string (⟨#[109, 101, 116, 32, 98, 121]⟩)) (.string (⟨#[109, 101, 101, 116, 115]⟩)) (some 31) ?_))
  refine all_false ((by decide)) ?_
  refine iQ 1 (iE 267 [(4, .p 4 0), (5, .p 5 0), (6, Ba false), (7, .d (Sv (⟨#[109, 101, 116, 32, 98, 121]⟩))), (8, Ba false), (25, Ba false), (30, Ba false)] [(4, [.v (.int .i16 a0), .v (.int .i16 a1), Bv p0, Bv p1, Bv pa]), (5, [.v (.int .i16 b0), .v (.int .i16 b1), Bv q0, Bv q1, Bv pb])] ?_)
  refine iF (vc_seqr rfl (iB .eql 9 (.string (⟨#[109, 101, 116, 32, 98, 121]⟩)) (.string (⟨#[109, 101, 116, 32, 98, 121]⟩)) (some 48) ?_))
  refine all_true ((by decide)) ?_
  refine iQ 1 (iE 267 [(4, .p 4 0), (5, .p 5 0), (6, Ba false), (7, .d (Sv (⟨#[109, 101, 116, 32, 98, 121]⟩))), (8, Ba false), (25, Ba false), (30, Ba false), (47, Ba true)] [(4, [.v (.int .i16 a0), .v (.int .i16 a1), Bv p0, Bv p1, Bv pa]), (5, [.v (.int .i16 b0), .v (.int .i16 b1), Bv q0, Bv q1, Bv pb])] ?_)
  refine iT (vc_seqr rfl (iQ 2 (iC 7 [Sv (⟨#[109, 101, 101, 116, 115]⟩), .agg [.v (.int .i16 b0), .v (.int .i16 b1), Bv q0, Bv q1, Bv pb], .agg [.v (.int .i16 a0), .v (.int .i16 a1), Bv p0, Bv p1, Bv pa]] (some 51) (t_meets) ?_)))
  rintro _ ⟨c51, rfl, hc51⟩
  refine iQ 1 (iE 267 [(4, .p 4 0), (5, .p 5 0), (6, Ba c51), (7, .d (Sv (⟨#[109, 101, 116, 32, 98, 121]⟩))), (8, Ba false), (25, Ba false), (30, Ba false), (47, Ba true)] [(4, [.v (.int .i16 a0), .v (.int .i16 a1), Bv p0, Bv p1, Bv pa]), (5, [.v (.int .i16 b0), .v (.int .i16 b1), Bv q0, Bv q1, Bv pb])] ?_)
  refine vc_ret (block_r (seq_r (iR (Bv c51) ?_)))
  exact ⟨_, rfl, by (try simp only [ltE] at *) <;> grind⟩
set_option maxHeartbeats 1600000 in
theorem t_overlaps_after {a0 a1 b0 b1 : Int} {p0 p1 q0 q1 pa pb : Bool} : HasC Tryz.prog 7 [.v (.string (⟨#[111, 118, 101, 114, 108, 97, 112, 115, 32, 97, 102, 116, 101, 114]⟩)), .agg [.v (.int .i16 a0), .v (.int .i16 a1), .v (.bool p0), .v (.bool p1), .v (.bool pa)], .agg [.v (.int .i16 b0), .v (.int .i16 b1), .v (.bool q0), .v (.bool q1), .v (.bool pb)]] (fun r => ∃ c, r = .v (.bool c) ∧ (c = true ↔ ((ltE a0 b1 (p0 && q1) && ltE b0 a1 (q0 && p1)) && (!(ltE a0 b0 (p0 || !q0)) && !(ltE a1 b1 (q1 || !p1)))) = true)) := by
  refine HasC.of [] (fn := Tryz.f7) tyOk mixed (fun args w => Tryz.call7 args w) Tryz.func7 rfl (by kernel_rfl) (Nat.le_of_ble_eq_true rfl) (⟨_, _, rfl, Iff.rfl⟩) ?_
  refine vc_seqr rfl (iQ 3 (iE 267 [(0, .d (Sv (⟨#[111, 118, 101, 114, 108, 97, 112, 115, 32, 97, 102, 116, 101, 114]⟩))), (4, .p 4 0), (5, .p 5 0), (6, Ba false)] [(4, [.v (.int .i16 a0), .v (.int .i16 a1), Bv p0, Bv p1, Bv pa]), (5, [.v (.int .i16 b0), .v (.int .i16 b1), Bv q0, Bv q1, Bv pb])] ?_))
  refine vc_seq (vc_seqr rfl (iQ 1 (iE 267 [(4, .p 4 0), (5, .p 5 0), (6, Ba false), (7, .d (Sv (⟨#[111, 118, 101, 114, 108, 97, 112, 115, 32, 97, 102, 116, 101, 114]⟩)))] [(4, [.v (.int .i16 a0), .v (.int .i16 a1), Bv p0, Bv p1, Bv pa]), (5, [.v (.int .i16 b0), .v (.int .i16 b1), Bv q0, Bv q1, Bv pb])] ?_)))
  refine vc_block (vc_seqr rfl (iB .eql 9 (.string (⟨#[111, 118, 101, 114, 108, 97, 112, 115, 32, 97, 102, 116, 101, 114]⟩)) (.string (⟨#[98, 101, 102, 111, 114, 101]⟩)) (some 9) ?_))
  refine all_false ((by decide)) ?_
  refine iQ 1 (iE 267 [(4, .p 4 0), (5, .p 5 0), (6, Ba false), (7, .d (Sv (⟨#[111, 118, 101, 114, 108, 97, 112, 115, 32, 97, 102, 116, 101, 114]⟩))), (8, Ba false)] [(4, [.v (.int .i16 a0), .v (.int .i16 a1), Bv p0, Bv p1, Bv pa]), (5, [.v (.int .i16 b0), .v (.int .i16 b1), Bv q0, Bv q1, Bv pb])] ?_)
  refine iF (vc_seqr rfl (iB .eql 9 (.string (⟨#[111, 118, 101, 114, 108, 97, 112, 115, 32, 97, 102, 116, 101, 114]⟩)) (.string (⟨#[97, 102, 116, 101, 114]⟩)) (some 26) ?_))
  refine all_false ((by decide)) ?_
  refine iQ 1 (iE 267 [(4, .p 4 0), (5, .p 5 0), (6, Ba false), (7, .d (Sv (⟨#[111, 118, 101, 114, 108, 97, 112, 115, 32, 97, 102, 116, 101, 114]⟩))), (8, Ba false), (25, Ba false)] [(4, [.v (.int .i16 a0), .v (.int .i16 a1), Bv p0, Bv p1, Bv pa]), (5, [.v (.int .i16 b0), .v (.int .i16 b1), Bv q0, Bv q1, Bv pb])] ?_)
  refine iF (vc_seqr rfl (iB .eql 9 (.string (⟨#[111, 118, 101, 114, 108, 97, 112, 115, 32, 97, 102, 116, 101, 114]⟩)) (.string (⟨#[109, 101, 101, 116, 115]⟩)) (some 31) ?_))
  refine all_false ((by decide)) ?_
  refine iQ 1 (iE 267 [(4, .p 4 0), (5, .p 5 0), (6, Ba false), (7, .d (Sv (⟨#[111, 118, 101, 114, 108, 97, 112, 115, 32, 97, 102, 116, 101, 114]⟩))), (8, Ba false), (25, Ba false), (30, Ba false)] [(4, [.v (.int .i16 a0), .v (.int .i16 a1), Bv p0, Bv p1, Bv pa]), (5, [.v (.int .i16 b0), .v (.int .i16 b1), Bv q0, Bv q1, Bv pb])] ?_)
  refine iF (vc_seqr rfl (iB .eql 9 (.string (⟨#[111, 118, 101, 114, 108, 97, 112, 115, 32, 97, 102, 116, 101, 114]⟩)) (.string (⟨#[109, 101, 116, 32, 98, 121]⟩)) (some 48) ?_))
  refine all_false ((by decide)) ?_
  refine iQ 1 (iE 267 [(4, .p 4 0), (5, .p 5 0), (6, Ba false), (7, .d (Sv (⟨#[111, 118, 101, 114, 108, 97, 112, 115, 32, 97, 102, 116, 101, 114]⟩))), (8, Ba false), (25, Ba false), (30, Ba false), (47, Ba false)] [(4, [.v (.int .i16 a0), .v (.int .i16 a1), Bv p0, Bv p1, Bv pa]), (5, [.v (.int .i16 b0), .v (.int .i16 b1), Bv q0, Bv q1, Bv pb])] ?_)
  refine iF (vc_seqr rfl (iB .eql 9 (.string (⟨#[111, 118, 101, 114, 108, 97, 112, 115, 32, 97, 102, 116, 101, 114]⟩)) (.string (⟨#[111, 118, 101, 114, 108, 97, 112, 115]⟩)) (some 53) ?_))
  refine all_false ((by decide)) ?_
  refine iQ 1 (iE 267 [(4, .p 4 0), (5, .p 5 0), (6, Ba false), (7, .d (Sv (⟨#[111, 118, 101, 114, 108, 97, 112, 115, 32, 97, 102, 116, 101, 114]⟩))), (8, Ba false), (25, Ba false), (30, Ba false), (47, Ba false), (52, Ba false)] [(4, [.v (.int .i16 a0), .v (.int .i16 a1), Bv p0, Bv p1, Bv pa]), (5, [.v (.int .i16 b0), .v (.int .i16 b1), Bv q0, Bv q1, Bv pb])] ?_)
  refine iF (vc_seqr rfl (iB .eql 9 (.string (⟨#[111, 118, 101, 114, 108, 97, 112, 115, 32, 97, 102, 116, 101, 114]⟩)) (.string (⟨#[111, 118, 101, 114, 108, 97, 112, 115, 32, 98, 101, 102, 111, 114, 101]⟩)) (some 83) ?_))
  refine all_false ((by decide)) ?_
  refine iQ 1 (iE 267 [(4, .p 4 0), (5, .p 5 0), (6, Ba false), (7, .d (Sv (⟨#[111, 118, 101, 114, 108, 97, 112, 115, 32, 97, 102, 116, 101, 114]⟩))), (8, Ba false), (25, Ba false), (30, Ba false), (47, Ba false), (52, Ba false), (82, Ba false)] [(4, [.v (.int .i16 a0), .v (.int .i16 a1), Bv p0, Bv p1, Bv pa]), (5, [.v (.int .i16 b0), .v (.int .i16 b1), Bv q0, Bv q1, Bv pb])] ?_)
  refine iF (vc_seqr rfl (iB .eql 9 (.string (⟨#[111, 118, 101, 114, 108, 97, 112, 115, 32, 97, 102, 116, 101, 114]⟩)) (.string (⟨#[111, 118, 101, 114, 108, 97, 112, 115, 32, 97, 102, 116, 101, 114]⟩)) (some 122) ?_))
  refine all_true ((by decide)) ?_
  refine iQ 1 (iE 267 [(4, .p 4 0), (5, .p 5 0), (6, Ba false), (7, .d (Sv (⟨#[111, 118, 101, 114, 108, 97, 112, 115, 32, 97, 102, 116, 101, 114]⟩))), (8, Ba false), (25, Ba false), (30, Ba false), (47, Ba false), (52, Ba false), (82, Ba false), (121, Ba true)] [(4, [.v (.int .i16 a0), .v (.int .i16 a1), Bv p0, Bv p1, Bv pa]), (5, [.v (.int .i16 b0), .v (.int .i16 b1), Bv q0, Bv q1, Bv pb])] ?_)
  refine iT (vc_seqr rfl (iQ 2 (iC 7 [Sv (⟨#[111, 118, 101, 114, 108, 97, 112, 115, 32, 98, 101, 102, 111, 114, 101]⟩), .agg [.v (.int .i16 b0), .v (.int .i16 b1), Bv q0, Bv q1, Bv pb], .agg [.v (.int .i16 a0), .v (.int .i16 a1), Bv p0, Bv p1, Bv pa]] (some 125) (t_overlaps_before) ?_)))
  rintro _ ⟨c125, rfl, hc125⟩
  refine iQ 1 (iE 267 [(4, .p 4 0), (5, .p 5 0), (6, Ba c125), (7, .d (Sv (⟨#[111, 118, 101, 114, 108, 97, 112, 115, 32, 97, 102, 116, 101, 114]⟩))), (8, Ba false), (25, Ba false), (30, Ba false), (47, Ba false), (52, Ba false), (82, Ba false), (121, Ba true)] [(4, [.v (.int .i16 a0), .v (.int .i16 a1), Bv p0, Bv p1, Bv pa]), (5, [.v (.int .i16 b0), .v (.int .i16 b1), Bv q0, Bv q1, Bv pb])] ?_)
  refine vc_ret (block_r (seq_r (iR (Bv c125) ?_)))
  exact ⟨_, rfl, by (try simp only [ltE] at *) <;> grind⟩
set_option maxHeartbeats 1600000 in
theorem t_finished_by {a0 a1 b0 b1 : Int} {p0 p1 q0 q1 pa pb : Bool} : HasC Tryz.prog 7 [.v (.string (⟨#[102, 105, 110, 105, 115, 104, 101, 100, 32, 98, 121]⟩)), .agg [.v (.int .i16 a0), .v (.int .i16 a1), .v (.bool p0), .v (.bool p1), .v (.bool pa)], .agg [.v (.int .i16 b0), .v (.int .i16 b1), .v (.bool q0), .v (.bool q1), .v (.bool pb)]] (fun r => ∃ c, r = .v (.bool c) ∧ (c = true ↔ ((decide (b1 = a1) && (q1 == p1)) && ltE a0 b0 (p0 || !q0)) = true)) := by
  refine HasC.of [] (fn := Tryz.f7) tyOk mixed (fun args w => Tryz.call7 args w) Tryz.func7 rfl (by kernel_rfl) (Nat.le_of_ble_eq_true rfl) (⟨_, _, rfl, Iff.rfl⟩) ?_
  refine vc_seqr rfl (iQ 3 (iE 267 [(0, .d (Sv (⟨#[102, 105, 110, 105, 115, 104, 101, 100, 32, 98, 121]⟩))), (4, .p 4 0), (5, .p 5 0), (6, Ba false)] [(4, [.v (.int .i16 a0), .v (.int .i16 a1), Bv p0, Bv p1, Bv pa]), (5, [.v (.int .i16 b0), .v (.int .i16 b1), Bv q0, Bv q1, Bv pb])] ?_))
  refine vc_seq (vc_seqr rfl (iQ 1 (iE 267 [(4, .p 4 0), (5, .p 5 0), (6, Ba false), (7, .d (Sv (⟨#[102, 105, 110, 105, 115, 104, 101, 100, 32, 98, 121]⟩)))] [(4, [.v (.int .i16 a0), .v (.int .i16 a1), Bv p0, Bv p1, Bv pa]), (5, [.v (.int .i16 b0), .v (.int .i16 b1), Bv q0, Bv q1, Bv pb])] ?_)))
  refine vc_block (vc_seqr rfl (iB .eql 9 (.string (⟨#[102, 105, 110, 105, 115, 104, 101, 100, 32, 98, 121]⟩)) (.string (⟨#[98, 101, 102, 111, 114, 101]⟩)) (some 9) ?_))
  refine all_false ((by decide)) ?_
  refine iQ 1 (iE 267 [(4, .p 4 0), (5, .p 5 0), (6, Ba false), (7, .d (Sv (⟨#[102, 105, 110, 105, 115, 104, 101, 100, 32, 98, 121]⟩))), (8, Ba false)] [(4, [.v (.int .i16 a0), .v (.int .i16 a1), Bv p0, Bv p1, Bv pa]), (5, [.v (.int .i16 b0), .v (.int .i16 b1), Bv q0, Bv q1, Bv pb])] ?_)
  refine iF (vc_seqr rfl (iB .eql 9 (.string (⟨#[102, 105, 110, 105, 115, 104, 101, 100, 32, 98, 121]⟩)) (.string (⟨#[97, 102, 116, 101, 114]⟩)) (some 26) ?_))
  refine all_false ((by decide)) ?_
  refine iQ 1 (iE 267 [(4, .p 4 0), (5, .p 5 0), (6, Ba false), (7, .d (Sv (⟨#[102, 105, 110, 105, 115, 104, 101, 100, 32, 98, 121]⟩))), (8, Ba false), (25, Ba false)] [(4, [.v (.int .i16 a0), .v (.int .i16 a1), Bv p0, Bv p1, Bv pa]), (5, [.v (.int .i16 b0), .v (.int .i16 b1), Bv q0, Bv q1, Bv pb])] ?_)
  refine iF (vc_seqr rfl (iB .eql 9 (.string (⟨#[102, 105, 110, 105, 115, 104, 101, 100, 32, 98, 121]⟩)) (.string (⟨#[109, 101, 101, 116, 115]⟩)) (some 31) ?_))
  refine all_false ((by decide)) ?_
  refine iQ 1 (iE 267 [(4, .p 4 0), (5, .p 5 0), (6, Ba false), (7, .d (Sv (⟨#[102, 105, 110, 105, 115, 104, 101, 100, 32, 98, 121]⟩))), (8, Ba false), (25, Ba false), (30, Ba false)] [(4, [.v (.int .i16 a0), .v (.int .i16 a1), Bv p0, Bv p1, Bv pa]), (5, [.v (.int .i16 b0), .v (.int .i16 b1), Bv q0, Bv q1, Bv pb])] ?_)
  refine iF (vc_seqr rfl (iB .eql 9 (.string (⟨#[102, 105, 110, 105, 115, 104, 101, 100, 32, 98, 121]⟩)) (.string (⟨#[109, 101, 116, 32, 98, 121]⟩)) (some 48) ?_))
  refine all_false ((by decide)) ?_
  refine iQ 1 (iE 267 [(4, .p 4 0), (5, .p 5 0), (6, Ba false), (7, .d (Sv (⟨#[102, 105, 110, 105, 115, 104, 101, 100, 32, 98, 121]⟩))), (8, Ba false), (25, Ba false), (30, Ba false), (47, Ba false)] [(4, [.v (.int .i16 a0), .v (.int .i16 a1), Bv p0, Bv p1, Bv pa]), (5, [.v (.int .i16 b0), .v (.int .i16 b1), Bv q0, Bv q1, Bv pb])] ?_)
  refine iF (vc_seqr rfl (iB .eql 9 (.string (⟨#[102, 105, 110, 105, 115, 104, 101, 100, 32, 98, 121]⟩)) (.string (⟨#[111, 118, 101, 114, 108, 97, 112, 115]⟩)) (some 53) ?_))
  refine all_false ((by decide)) ?_
  refine iQ 1 (iE 267 [(4, .p 4 0), (5, .p 5 0), (6, Ba false), (7, .d (Sv (⟨#[102, 105, 110, 105, 115, 104, 101, 100, 32, 98, 121]⟩))), (8, Ba false), (25, Ba false), (30, Ba false), (47, Ba false), (52, Ba false)] [(4, [.v (.int .i16 a0), .v (.int .i16 a1), Bv p0, Bv p1, Bv pa]), (5, [.v (.int .i16 b0), .v (.int .i16 b1), Bv q0, Bv q1, Bv pb])] ?_)
  refine iF (vc_seqr rfl (iB .eql 9 (.string (⟨#[102, 105, 110, 105, 115, 104, 101, 100, 32, 98, 121]⟩)) (.string (⟨#[111, 118, 101, 114, 108, 97, 112, 115, 32, 98, 101, 102, 111, 114, 101]⟩)) (some 83) ?_))
  refine all_false ((by decide)) ?_
  refine iQ 1 (iE 267 [(4, .p 4 0), (5, .p 5 0), (6, Ba false), (7, .d (Sv (⟨#[102, 105, 110, 105, 115, 104, 101, 100, 32, 98, 121]⟩))), (8, Ba false), (25, Ba false), (30, Ba false), (47, Ba false), (52, Ba false), (82, Ba false)] [(4, [.v (.int .i16 a0), .v (.int .i16 a1), Bv p0, Bv p1, Bv pa]), (5, [.v (.int .i16 b0), .v (.int .i16 b1), Bv q0, Bv q1, Bv pb])] ?_)
  refine iF (vc_seqr rfl (iB .eql 9 (.string (⟨#[102, 105, 110, 105, 115, 104, 101, 100, 32, 98, 121]⟩)) (.string (⟨#[111, 118, 101, 114, 108, 97, 112, 115, 32, 97, 102, 116, 101, 114]⟩)) (some 122) ?_))
  refine all_false ((by decide)) ?_
  refine iQ 1 (iE 267 [(4, .p 4 0), (5, .p 5 0), (6, Ba false), (7, .d (Sv (⟨#[102, 105, 110, 105, 115, 104, 101, 100, 32, 98, 121]⟩))), (8, Ba false), (25, Ba false), (30, Ba false), (47, Ba false), (52, Ba false), (82, Ba false), (121, Ba false)] [(4, [.v (.int .i16 a0), .v (.int .i16 a1), Bv p0, Bv p1, Bv pa]), (5, [.v (.int .i16 b0), .v (.int .i16 b1), Bv q0, Bv q1, Bv pb])] ?_)
  refine iF (vc_seqr rfl (iB .eql 9 (.string (⟨#[102, 105, 110, 105, 115, 104, 101, 100, 32, 98, 121]⟩)) (.string (⟨#[102, 105, 110, 105, 115, 104, 101, 115]⟩)) (some 127) ?_))
  refine all_false ((by decide)) ?_
  refine iQ 1 (iE 267 [(4, .p 4 0), (5, .p 5 0), (6, Ba false), (7, .d (Sv (⟨#[102, 105, 110, 105, 115, 104, 101, 100, 32, 98, 121]⟩))), (8, Ba false), (25, Ba false), (30, Ba false), (47, Ba false), (52, Ba false), (82, Ba false), (121, Ba false), (126, Ba false)] [(4, [.v (.int .i16 a0), .v (.int .i16 a1), Bv p0, Bv p1, Bv pa]), (5, [.v (.int .i16 b0), .v (.int .i16 b1), Bv q0, Bv q1, Bv pb])] ?_)
  refine iF (vc_seqr rfl (iB .eql 9 (.string (⟨#[102, 105, 110, 105, 115, 104, 101, 100, 32, 98, 121]⟩)) (.string (⟨#[102, 105, 110, 105, 115, 104, 101, 100, 32, 98, 121]⟩)) (some 159) ?_))
  refine all_true ((by decide)) ?_
  refine iQ 1 (iE 267 [(4, .p 4 0), (5, .p 5 0), (6, Ba false), (7, .d (Sv (⟨#[102, 105, 110, 105, 115, 104, 101, 100, 32, 98, 121]⟩))), (8, Ba false), (25, Ba false), (30, Ba false), (47, Ba false), (52, Ba false), (82, Ba false), (121, Ba false), (126, Ba false), (158, Ba true)] [(4, [.v (.int .i16 a0), .v (.int .i16 a1), Bv p0, Bv p1, Bv pa]), (5, [.v (.int .i16 b0), .v (.int .i16 b1), Bv q0, Bv q1, Bv pb])] ?_)
  refine iT (vc_seqr rfl (iQ 2 (iC 7 [Sv (⟨#[102, 105, 110, 105, 115, 104, 101, 115]⟩), .agg [.v (.int .i16 b0), .v (.int .i16 b1), Bv q0, Bv q1, Bv pb], .agg [.v (.int .i16 a0), .v (.int .i16 a1), Bv p0, Bv p1, Bv pa]] (some 162) (t_finishes) ?_)))
  rintro _ ⟨c162, rfl, hc162⟩
  refine iQ 1 (iE 267 [(4, .p 4 0), (5, .p 5 0), (6, Ba c162), (7, .d (Sv (⟨#[102, 105, 110, 105, 115, 104, 101, 100, 32, 98, 121]⟩))), (8, Ba false), (25, Ba false), (30, Ba false), (47, Ba false), (52, Ba false), (82, Ba false), (121, Ba false), (126, Ba false), (158, Ba true)] [(4, [.v (.int .i16 a0), .v (.int .i16 a1), Bv p0, Bv p1, Bv pa]), (5, [.v (.int .i16 b0), .v (.int .i16 b1), Bv q0, Bv q1, Bv pb])] ?_)
  refine vc_ret (block_r (seq_r (iR (Bv c162) ?_)))
  exact ⟨_, rfl, by (try simp only [ltE] at *) <;> grind⟩
set_option maxHeartbeats 1600000 in
theorem t_during {a0 a1 b0 b1 : Int} {p0 p1 q0 q1 pa pb : Bool} : HasC Tryz.prog 7 [.v (.string (⟨#[100, 117, 114, 105, 110, 103]⟩)), .agg [.v (.int .i16 a0), .v (.int .i16 a1), .v (.bool p0), .v (.bool p1), .v (.bool pa)], .agg [.v (.int .i16 b0), .v (.int .i16 b1), .v (.bool q0), .v (.bool q1), .v (.bool pb)]] (fun r => ∃ c, r = .v (.bool c) ∧ (c = true ↔ (ltE b0 a0 (q0 || !p0) && ltE a1 b1 (q1 || !p1)) = true)) := by
  refine HasC.of [] (fn := Tryz.f7) tyOk mixed (fun args w => Tryz.call7 args w) Tryz.func7 rfl (by kernel_rfl) (Nat.le_of_ble_eq_true rfl) (⟨_, _, rfl, Iff.rfl⟩) ?_
  refine vc_seqr rfl (iQ 3 (iE 267 [(0, .d (Sv (⟨#[100, 117, 114, 105, 110, 103]⟩))), (4, .p 4 0), (5, .p 5 0), (6, Ba false)] [(4, [.v (.int .i16 a0), .v (.int .i16 a1), Bv p0, Bv p1, Bv pa]), (5, [.v (.int .i16 b0), .v (.int .i16 b1), Bv q0, Bv q1, Bv pb])] ?_))
  refine vc_seq (vc_seqr rfl (iQ 1 (iE 267 [(4, .p 4 0), (5, .p 5 0), (6, Ba false), (7, .d (Sv (⟨#[100, 117, 114, 105, 110, 103]⟩)))] [(4, [.v (.int .i16 a0), .v (.int .i16 a1), Bv p0, Bv p1, Bv pa]), (5, [.v (.int .i16 b0), .v (.int .i16 b1), Bv q0, Bv q1, Bv pb])] ?_)))
  refine vc_block (vc_seqr rfl (iB .eql 9 (.string (⟨#[100, 117, 114, 105, 110, 103]⟩)) (.string (⟨#[98, 101, 102, 111, 114, 101]⟩)) (some 9) ?_))
  refine all_false ((by decide)) ?_
  refine iQ 1 (iE 267 [(4, .p 4 0), (5, .p 5 0), (6, Ba false), (7, .d (Sv (⟨#[100, 117, 114, 105, 110, 103]⟩))), (8, Ba false)] [(4, [.v (.int .i16 a0), .v (.int .i16 a1), Bv p0, Bv p1, Bv pa]), (5, [.v (.int .i16 b0), .v (.int .i16 b1), Bv q0, Bv q1, Bv pb])] ?_)
  refine iF (vc_seqr rfl (iB .eql 9 (.string (⟨#[100, 117, 114, 105, 110, 103]⟩)) (.string (⟨#[97, 102, 116, 101, 114]⟩)) (some 26) ?_))
  refine all_false ((by decide)) ?_
  refine iQ 1 (iE 267 [(4, .p 4 0), (5, .p 5 0), (6, Ba false), (7, .d (Sv (⟨#[100, 117, 114, 105, 110, 103]⟩))), (8, Ba false), (25, Ba false)] [(4, [.v (.int .i16 a0), .v (.int .i16 a1), Bv p0, Bv p1, Bv pa]), (5, [.v (.int .i16 b0), .v (.int .i16 b1), Bv q0, Bv q1, Bv pb])] ?_)
  refine iF (vc_seqr rfl (iB .eql 9 (.string (⟨#[100, 117, 114, 105, 110, 103]⟩)) (.string (⟨#[109, 101, 101, 116, 115]⟩)) (some 31) ?_))
  refine all_false ((by decide)) ?_
  refine iQ 1 (iE 267 [(4, .p 4 0), (5, .p 5 0), (6, Ba false), (7, .d (Sv (⟨#[100, 117, 114, 105, 110, 103]⟩))), (8, Ba false), (25, Ba false), (30, Ba false)] [(4, [.v (.int .i16 a0), .v (.int .i16 a1), Bv p0, Bv p1, Bv pa]), (5, [.v (.int .i16 b0), .v (.int .i16 b1), Bv q0, Bv q1, Bv pb])] ?_)
  refine iF (vc_seqr rfl (iB .eql 9 (.string (⟨#[100, 117, 114, 105, 110, 103]⟩)) (.string (⟨#[109, 101, 116, 32, 98, 121]⟩)) (some 48) ?_))
  refine all_false ((by decide)) ?_
  refine iQ 1 (iE 267 [(4, .p 4 0), (5, .p 5 0), (6, Ba false), (7, .d (Sv (⟨#[100, 117, 114, 105, 110, 103]⟩))), (8, Ba false), (25, Ba false), (30, Ba false), (47, Ba false)] [(4, [.v (.int .i16 a0), .v (.int .i16 a1), Bv p0, Bv p1, Bv pa]), (5, [.v (.int .i16 b0), .v (.int .i16 b1), Bv q0, Bv q1, Bv pb])] ?_)
  refine iF (vc_seqr rfl (iB .eql 9 (.string (⟨#[100, 117, 114, 105, 110, 103]⟩)) (.string (⟨#[111, 118, 101, 114, 108, 97, 112, 115]⟩)) (some 53) ?_))
  refine all_false ((by decide)) ?_
  refine iQ 1 (iE 267 [(4, .p 4 0), (5, .p 5 0), (6, Ba false), (7, .d (Sv (⟨#[100, 117, 114, 105, 110, 103]⟩))), (8, Ba false), (25, Ba false), (30, Ba false), (47, Ba false), (52, Ba false)] [(4, [.v (.int .i16 a0), .v (.int .i16 a1), Bv p0, Bv p1, Bv pa]), (5, [.v (.int .i16 b0), .v (.int .i16 b1), Bv q0, Bv q1, Bv pb])] ?_)
  refine iF (vc_seqr rfl (iB .eql 9 (.string (⟨#[100, 117, 114, 105, 110, 103]⟩)) (.string (⟨#[111, 118, 101, 114, 108, 97, 112, 115, 32, 98, 101, 102, 111, 114, 101]⟩)) (some 83) ?_))
  refine all_false ((by decide)) ?_
  refine iQ 1 (iE 267 [(4, .p 4 0), (5, .p 5 0), (6, Ba false), (7, .d (Sv (⟨#[100, 117, 114, 105, 110, 103]⟩))), (8, Ba false), (25, Ba false), (30, Ba false), (47, Ba false), (52, Ba false), (82, Ba false)] [(4, [.v (.int .i16 a0), .v (.int .i16 a1), Bv p0, Bv p1, Bv pa]), (5, [.v (.int .i16 b0), .v (.int .i16 b1), Bv q0, Bv q1, Bv pb])] ?_)
  refine iF (vc_seqr rfl (iB .eql 9 (.string (⟨#[100, 117, 114, 105, 110, 103]⟩)) (.string (⟨#[111, 118, 101, 114, 108, 97, 112, 115, 32, 97, 102, 116, 101, 114]⟩)) (some 122) ?_))
  refine all_false ((by decide)) ?_
  refine iQ 1 (iE 267 [(4, .p 4 0), (5, .p 5 0), (6, Ba false), (7, .d (Sv (⟨#[100, 117, 114, 105, 110, 103]⟩))), (8, Ba false), (25, Ba false), (30, Ba false), (47, Ba false), (52, Ba false), (82, Ba false), (121, Ba false)] [(4, [.v (.int .i16 a0), .v (.int .i16 a1), Bv p0, Bv p1, Bv pa]), (5, [.v (.int .i16 b0), .v (.int .i16 b1), Bv q0, Bv q1, Bv pb])] ?_)
  refine iF (vc_seqr rfl (iB .eql 9 (.string (⟨#[100, 117, 114, 105, 110, 103]⟩)) (.string (⟨#[102, 105, 110, 105, 115, 104, 101, 115]⟩)) (some 127) ?_))
  refine all_false ((by decide)) ?_
  refine iQ 1 (iE 267 [(4, .p 4 0), (5, .p 5 0), (6, Ba false), (7, .d (Sv (⟨#[100, 117, 114, 105, 110, 103]⟩))), (8, Ba false), (25, Ba false), (30, Ba false), (47, Ba false), (52, Ba false), (82, Ba false), (121, Ba false), (126, Ba false)] [(4, [.v (.int .i16 a0), .v (.int .i16 a1), Bv p0, Bv p1, Bv pa]), (5, [.v (.int .i16 b0), .v (.int .i16 b1), Bv q0, Bv q1, Bv pb])] ?_)
  refine iF (vc_seqr rfl (iB .eql 9 (.string (⟨#[100, 117, 114, 105, 110, 103]⟩)) (.string (⟨#[102, 105, 110, 105, 115, 104, 101, 100, 32, 98, 121]⟩)) (some 159) ?_))
  refine all_false ((by decide)) ?_
  refine iQ 1 (iE 267 [(4, .p 4 0), (5, .p 5 0), (6, Ba false), (7, .d (Sv (⟨#[100, 117, 114, 105, 110, 103]⟩))), (8, Ba false), (25, Ba false), (30, Ba false), (47, Ba false), (52, Ba false), (82, Ba false), (121, Ba false), (126, Ba false), (158, Ba false)] [(4, [.v (.int .i16 a0), .v (.int .i16 a1), Bv p0, Bv p1, Bv pa]), (5, [.v (.int .i16 b0), .v (.int .i16 b1), Bv q0, Bv q1, Bv pb])] ?_)
  refine iF (vc_seqr rfl (iB .eql 9 (.string (⟨#[100, 117, 114, 105, 110, 103]⟩)) (.string (⟨#[105, 110, 99, 108, 117, 100, 101, 115]⟩)) (some 164) ?_))
  refine all_false ((by decide)) ?_
  refine iQ 1 (iE 267 [(4, .p 4 0), (5, .p 5 0), (6, Ba false), (7, .d (Sv (⟨#[100, 117, 114, 105, 110, 103]⟩))), (8, Ba false), (25, Ba false), (30, Ba false), (47, Ba false), (52, Ba false), (82, Ba false), (121, Ba false), (126, Ba false), (158, Ba false), (163, Ba false)] [(4, [.v (.int .i16 a0), .v (.int .i16 a1), Bv p0, Bv p1, Bv pa]), (5, [.v (.int .i16 b0), .v (.int .i16 b1), Bv q0, Bv q1, Bv pb])] ?_)
  refine iF (vc_seqr rfl (iB .eql 9 (.string (⟨#[100, 117, 114, 105, 110, 103]⟩)) (.string (⟨#[100, 117, 114, 105, 110, 103]⟩)) (some 196) ?_))
  refine all_true ((by decide)) ?_
  refine iQ 1 (iE 267 [(4, .p 4 0), (5, .p 5 0), (6, Ba false), (7, .d (Sv (⟨#[100, 117, 114, 105, 110, 103]⟩))), (8, Ba false), (25, Ba false), (30, Ba false), (47, Ba false), (52, Ba false), (82, Ba false), (121, Ba false), (126, Ba false), (158, Ba false), (163, Ba false), (195, Ba true)] [(4, [.v (.int .i16 a0), .v (.int .i16 a1), Bv p0, Bv p1, Bv pa]), (5, [.v (.int .i16 b0), .v (.int .i16 b1), Bv q0, Bv q1, Bv pb])] ?_)
  refine iT (vc_seqr rfl (iQ 2 (iC 7 [Sv (⟨#[105, 110, 99, 108, 117, 100, 101, 115]⟩), .agg [.v (.int .i16 b0), .v (.int .i16 b1), Bv q0, Bv q1, Bv pb], .agg [.v (.int .i16 a0), .v (.int .i16 a1), Bv p0, Bv p1, Bv pa]] (some 199) (t_includes) ?_)))
  rintro _ ⟨c199, rfl, hc199⟩
  refine iQ 1 (iE 267 [(4, .p 4 0), (5, .p 5 0), (6, Ba c199), (7, .d (Sv (⟨#[100, 117, 114, 105, 110, 103]⟩))), (8, Ba false), (25, Ba false), (30, Ba false), (47, Ba false), (52, Ba false), (82, Ba false), (121, Ba false), (126, Ba false), (158, Ba false), (163, Ba false), (195, Ba true)] [(4, [.v (.int .i16 a0), .v (.int .i16 a1), Bv p0, Bv p1, Bv pa]), (5, [.v (.int .i16 b0), .v (.int .i16 b1), Bv q0, Bv q1, Bv pb])] ?_)
  refine vc_ret (block_r (seq_r (iR (Bv c199) ?_)))
  exact ⟨_, rfl, by (try simp only [ltE] at *) <;> grind⟩
set_option maxHeartbeats 1600000 in
theorem t_started_by {a0 a1 b0 b1 : Int} {p0 p1 q0 q1 pa pb : Bool} : HasC Tryz.prog 7 [.v (.string (⟨#[115, 116, 97, 114, 116, 101, 100, 32, 98, 121]⟩)), .agg [.v (.int .i16 a0), .v (.int .i16 a1), .v (.bool p0), .v (.bool p1), .v (.bool pa)], .agg [.v (.int .i16 b0), .v (.int .i16 b1), .v (.bool q0), .v (.bool q1), .v (.bool pb)]] (fun r => ∃ c, r = .v (.bool c) ∧ (c = true ↔ ((decide (b0 = a0) && (q0 == p0)) && ltE b1 a1 (p1 || !q1)) = true)) := by
  refine HasC.of [] (fn := Tryz.f7) tyOk mixed (fun args w => Tryz.call7 args w) Tryz.func7 rfl (by kernel_rfl) (Nat.le_of_ble_eq_true rfl) (⟨_, _, rfl, Iff.rfl⟩) ?_
  refine vc_seqr rfl (iQ 3 (iE 267 [(0, .d (Sv (⟨#[115, 116, 97, 114, 116, 101, 100, 32, 98, 121]⟩))), (4, .p 4 0), (5, .p 5 0), (6, Ba false)] [(4, [.v (.int .i16 a0), .v (.int .i16 a1), Bv p0, Bv p1, Bv pa]), (5, [.v (.int .i16 b0), .v (.int .i16 b1), Bv q0, Bv q1, Bv pb])] ?_))
  refine vc_seq (vc_seqr rfl (iQ 1 (iE 267 [(4, .p 4 0), (5, .p 5 0), (6, Ba false), (7, .d (Sv (⟨#[115, 116, 97, 114, 116, 101, 100, 32, 98, 121]⟩)))] [(4, [.v (.int .i16 a0), .v (.int .i16 a1), Bv p0, Bv p1, Bv pa]), (5, [.v (.int .i16 b0), .v (.int .i16 b1), Bv q0, Bv q1, Bv pb])] ?_)))
  refine vc_block (vc_seqr rfl (iB .eql 9 (.string (⟨#[115, 116, 97, 114, 116, 101, 100, 32, 98, 121]⟩)) (.string (⟨#[98, 101, 102, 111, 114, 101]⟩)) (some 9) ?_))
  refine all_false ((by decide)) ?_
  refine iQ 1 (iE 267 [(4, .p 4 0), (5, .p 5 0), (6, Ba false), (7, .d (Sv (⟨#[115, 116, 97, 114, 116, 101, 100, 32, 98, 121]⟩))), (8, Ba false)] [(4, [.v (.int .i16 a0), .v (.int .i16 a1), Bv p0, Bv p1, Bv pa]), (5, [.v (.int .i16 b0), .v (.int .i16 b1), Bv q0, Bv q1, Bv pb])] ?_)
  refine iF (vc_seqr rfl (iB .eql 9 (.string (⟨#[115, 116, 97, 114, 116, 101, 100, 32, 98, 121]⟩)) (.string (⟨#[97, 102, 116, 101, 114]⟩)) (some 26) ?_))
  refine all_false ((by decide)) ?_
  refine iQ 1 (iE 267 [(4, .p 4 0), (5, .p 5 0), (6, Ba false), (7, .d (Sv (⟨#[115, 116, 97, 114, 116, 101, 100, 32, 98, 121]⟩))), (8, Ba false), (25, Ba false)] [(4, [.v (.int .i16 a0), .v (.int .i16 a1), Bv p0, Bv p1, Bv pa]), (5, [.v (.int .i16 b0), .v (.int .i16 b1), Bv q0, Bv q1, Bv pb])] ?_)
  refine iF (vc_seqr rfl (iB .eql 9 (.string (⟨#[115, 116, 97, 114, 116, 101, 100, 32, 98, 121]⟩)) (.string (⟨#[109, 101, 101, 116, 115]⟩)) (some 31) ?_))
  refine all_false ((by decide)) ?_
  refine iQ 1 (iE 267 [(4, .p 4 0), (5, .p 5 0), (6, Ba false), (7, .d (Sv (⟨#[115, 116, 97, 114, 116, 101, 100, 32, 98, 121]⟩))), (8, Ba false), (25, Ba false), (30, Ba false)] [(4, [.v (.int .i16 a0), .v (.int .i16 a1), Bv p0, Bv p1, Bv pa]), (5, [.v (.int .i16 b0), .v (.int .i16 b1), Bv q0, Bv q1, Bv pb])] ?_)
  refine iF (vc_seqr rfl (iB .eql 9 (.string (⟨#[115, 116, 97, 114, 116, 101, 100, 32, 98, 121]⟩)) (.string (⟨#[109, 101, 116, 32, 98, 121]⟩)) (some 48) ?_))
  refine all_false ((by decide)) ?_
  refine iQ 1 (iE 267 [(4, .p 4 0), (5, .p 5 0), (6, Ba false), (7, .d (Sv (⟨#[115, 116, 97, 114, 116, 101, 100, 32, 98, 121]⟩))), (8, Ba false), (25, Ba false), (30, Ba false), (47, Ba false)] [(4, [.v (.int .i16 a0), .v (.int .i16 a1), Bv p0, Bv p1, Bv pa]), (5, [.v (.int .i16 b0), .v (.int .i16 b1), Bv q0, Bv q1, Bv pb])] ?_)
  refine iF (vc_seqr rfl (iB .eql 9 (.string (⟨#[115, 116, 97, 114, 116, 101, 100, 32, 98, 121]⟩)) (.string (⟨#[111, 118, 101, 114, 108, 97, 112, 115]⟩)) (some 53) ?_))
  refine all_false ((by decide)) ?_
  refine iQ 1 (iE 267 [(4, .p 4 0), (5, .p 5 0), (6, Ba false), (7, .d (Sv (⟨#[115, 116, 97, 114, 116, 101, 100, 32, 98, 121]⟩))), (8, Ba false), (25, Ba false), (30, Ba false), (47, Ba false), (52, Ba false)] [(4, [.v (.int .i16 a0), .v (.int .i16 a1), Bv p0, Bv p1, Bv pa]), (5, [.v (.int .i16 b0), .v (.int .i16 b1), Bv q0, Bv q1, Bv pb])] ?_)
  refine iF (vc_seqr rfl (iB .eql 9 (.string (⟨#[115, 116, 97, 114, 116, 101, 100, 32, 98, 121]⟩)) (.string (⟨#[111, 118, 101, 114, 108, 97, 112, 115, 32, 98, 101, 102, 111, 114, 101]⟩)) (some 83) ?_))
  refine all_false ((by decide)) ?_
  refine iQ 1 (iE 267 [(4, .p 4 0), (5, .p 5 0), (6, Ba false), (7, .d (Sv (⟨#[115, 116, 97, 114, 116, 101, 100, 32, 98, 121]⟩))), (8, Ba false), (25, Ba false), (30, Ba false), (47, Ba false), (52, Ba false), (82, Ba false)] [(4, [.v (.int .i16 a0), .v (.int .i16 a1), Bv p0, Bv p1, Bv pa]), (5, [.v (.int .i16 b0), .v (.int .i16 b1), Bv q0, Bv q1, Bv pb])] ?_)
  refine iF (vc_seqr rfl (iB .eql 9 (.string (⟨#[115, 116, 97, 114, 116, 101, 100, 32, 98, 121]⟩)) (.string (⟨#[111, 118, 101, 114, 108, 97, 112, 115, 32, 97, 102, 116, 101, 114]⟩)) (some 122) ?_))
  refine all_false ((by decide)) ?_
  refine iQ 1 (iE 267 [(4, .p 4 0), (5, .p 5 0), (6, Ba false), (7, .d (Sv (⟨#[115, 116, 97, 114, 116, 101, 100, 32, 98, 121]⟩))), (8, Ba false), (25, Ba false), (30, Ba false), (47, Ba false), (52, Ba false), (82, Ba false), (121, Ba false)] [(4, [.v (.int .i16 a0), .v (.int .i16 a1), Bv p0, Bv p1, Bv pa]), (5, [.v (.int .i16 b0), .v (.int .i16 b1), Bv q0, Bv q1, Bv pb])] ?_)
  refine iF (vc_seqr rfl (iB .eql 9 (.string (⟨#[115, 116, 97, 114, 116, 101, 100, 32, 98, 121]⟩)) (.string (⟨#[102, 105, 110, 105, 115, 104, 101, 115]⟩)) (some 127) ?_))
  refine all_false ((by decide)) ?_
  refine iQ 1 (iE 267 [(4, .p 4 0), (5, .p 5 0), (6, Ba false), (7, .d (Sv (⟨#[115, 116, 97, 114, 116, 101, 100, 32, 98, 121]⟩))), (8, Ba false), (25, Ba false), (30, Ba false), (47, Ba false), (52, Ba false), (82, Ba false), (121, Ba false), (126, Ba false)] [(4, [.v (.int .i16 a0), .v (.int .i16 a1), Bv p0, Bv p1, Bv pa]), (5, [.v (.int .i16 b0), .v (.int .i16 b1), Bv q0, Bv q1, Bv pb])] ?_)
  refine iF (vc_seqr rfl (iB .eql 9 (.string (⟨#[115, 116, 97, 114, 116, 101, 100, 32, 98, 121]⟩)) (.string (⟨#[102, 105, 110, 105, 115, 104, 101, 100, 32, 98, 121]⟩)) (some 159) ?_))
  refine all_false ((by decide)) ?_
  refine iQ 1 (iE 267 [(4, .p 4 0), (5, .p 5 0), (6, Ba false), (7, .d (Sv (⟨#[115, 116, 97, 114, 116, 101, 100, 32, 98, 121]⟩))), (8, Ba false), (25, Ba false), (30, Ba false), (47, Ba false), (52, Ba false), (82, Ba false), (121, Ba false), (126, Ba false), (158, Ba false)] [(4, [.v (.int .i16 a0), .v (.int .i16 a1), Bv p0, Bv p1, Bv pa]), (5, [.v (.int .i16 b0), .v (.int .i16 b1), Bv q0, Bv q1, Bv pb])] ?_)
  refine iF (vc_seqr rfl (iB .eql 9 (.string (⟨#[115, 116, 97, 114, 116, 101, 100, 32, 98, 121]⟩)) (.string (⟨#[105, 110, 99, 108, 117, 100, 101, 115]⟩)) (some 164) ?_))
  refine all_false ((by decide)) ?_
  refine iQ 1 (iE 267 [(4, .p 4 0), (5, .p 5 0), (6, Ba false), (7, .d (Sv (⟨#[115, 116, 97, 114, 116, 101, 100, 32, 98, 121]⟩))), (8, Ba false), (25, Ba false), (30, Ba false), (47, Ba false), (52, Ba false), (82, Ba false), (121, Ba false), (126, Ba false), (158, Ba false), (163, Ba false)] [(4, [.v (.int .i16 a0), .v (.int .i16 a1), Bv p0, Bv p1, Bv pa]), (5, [.v (.int .i16 b0), .v (.int .i16 b1), Bv q0, Bv q1, Bv pb])] ?_)
  refine iF (vc_seqr rfl (iB .eql 9 (.string (⟨#[115, 116, 97, 114, 116, 101, 100, 32, 98, 121]⟩)) (.string (⟨#[100, 117, 114, 105, 110, 103]⟩)) (some 196) ?_))
  refine all_false ((by decide)) ?_
  refine iQ 1 (iE 267 [(4, .p 4 0), (5, .p 5 0), (6, Ba false), (7, .d (Sv (⟨#[115, 116, 97, 114, 116, 101, 100, 32, 98, 121]⟩))), (8, Ba false), (25, Ba false), (30, Ba false), (47, Ba false), (52, Ba false), (82, Ba false), (121, Ba false), (126, Ba false), (158, Ba false), (163, Ba false), (195, Ba false)] [(4, [.v (.int .i16 a0), .v (.int .i16 a1), Bv p0, Bv p1, Bv pa]), (5, [.v (.int .i16 b0), .v (.int .i16 b1), Bv q0, Bv q1, Bv pb])] ?_)
  refine iF (vc_seqr rfl (iB .eql 9 (.string (⟨#[115, 116, 97, 114, 116, 101, 100, 32, 98, 121]⟩)) (.string (⟨#[115, 116, 97, 114, 116, 115]⟩)) (some 201) ?_))
  refine all_false ((by decide)) ?_
  refine iQ 1 (iE 267 [(4, .p 4 0), (5, .p 5 0), (6, Ba false), (7, .d (Sv (⟨#[115, 116, 97, 114, 116, 101, 100, 32, 98, 121]⟩))), (8, Ba false), (25, Ba false), (30, Ba false), (47, Ba false), (52, Ba false), (82, Ba false), (121, Ba false), (126, Ba false), (158, Ba false), (163, Ba false), (195, Ba false), (200, Ba false)] [(4, [.v (.int .i16 a0), .v (.int .i16 a1), Bv p0, Bv p1, Bv pa]), (5, [.v (.int .i16 b0), .v (.int .i16 b1), Bv q0, Bv q1, Bv pb])] ?_)
  refine iF (vc_seqr rfl (iB .eql 9 (.string (⟨#[115, 116, 97, 114, 116, 101, 100, 32, 98, 121]⟩)) (.string (⟨#[115, 116, 97, 114, 116, 101, 100, 32, 98, 121]⟩)) (some 233) ?_))
  refine all_true ((by decide)) ?_
  refine iQ 1 (iE 267 [(4, .p 4 0), (5, .p 5 0), (6, Ba false), (7, .d (Sv (⟨#[115, 116, 97, 114, 116, 101, 100, 32, 98, 121]⟩))), (8, Ba false), (25, Ba false), (30, Ba false), (47, Ba false), (52, Ba false), (82, Ba false), (121, Ba false), (126, Ba false), (158, Ba false), (163, Ba false), (195, Ba false), (200, Ba false), (232, Ba true)] [(4, [.v (.int .i16 a0), .v (.int .i16 a1), Bv p0, Bv p1, Bv pa]), (5, [.v (.int .i16 b0), .v (.int .i16 b1), Bv q0, Bv q1, Bv pb])] ?_)
  refine iT (vc_seqr rfl (iQ 2 (iC 7 [Sv (⟨#[115, 116, 97, 114, 116, 115]⟩), .agg [.v (.int .i16 b0), .v (.int .i16 b1), Bv q0, Bv q1, Bv pb], .agg [.v (.int .i16 a0), .v (.int .i16 a1), Bv p0, Bv p1, Bv pa]] (some 236) (t_starts) ?_)))
  rintro _ ⟨c236, rfl, hc236⟩
  refine iQ 1 (iE 267 [(4, .p 4 0), (5, .p 5 0), (6, Ba c236), (7, .d (Sv (⟨#[115, 116, 97, 114, 116, 101, 100, 32, 98, 121]⟩))), (8, Ba false), (25, Ba false), (30, Ba false), (47, Ba false), (52, Ba false), (82, Ba false), (121, Ba false), (126, Ba false), (158, Ba false), (163, Ba false), (195, Ba false), (200, Ba false), (232, Ba true)] [(4, [.v (.int .i16 a0), .v (.int .i16 a1), Bv p0, Bv p1, Bv pa]), (5, [.v (.int .i16 b0), .v (.int .i16 b1), Bv q0, Bv q1, Bv pb])] ?_)
  refine vc_ret (block_r (seq_r (iR (Bv c236) ?_)))
  exact ⟨_, rfl, by (try simp only [ltE] at *) <;> grind⟩
theorem t_holds {w : ByteArray} (hw : w ∈ words) {a0 a1 b0 b1 : Int} {p0 p1 q0 q1 pa pb : Bool} : HasC Tryz.prog 7 [.v (.string w), .agg [.v (.int .i16 a0), .v (.int .i16 a1), .v (.bool p0), .v (.bool p1), .v (.bool pa)], .agg [.v (.int .i16 b0), .v (.int .i16 b1), .v (.bool q0), .v (.bool q1), .v (.bool pb)]] (fun r => ∃ c, r = .v (.bool c) ∧ (c = true ↔ hB w a0 a1 p0 p1 b0 b1 q0 q1 = true)) := by
  simp only [words, List.mem_cons, List.not_mem_nil, or_false] at hw
  rcases hw with rfl | rfl | rfl | rfl | rfl | rfl | rfl | rfl | rfl | rfl | rfl | rfl | rfl | rfl
  · rw [hB_before]; exact t_before
  · rw [hB_after]; exact t_after
  · rw [hB_meets]; exact t_meets
  · rw [hB_met_by]; exact t_met_by
  · rw [hB_overlaps]; exact t_overlaps
  · rw [hB_overlaps_before]; exact t_overlaps_before
  · rw [hB_overlaps_after]; exact t_overlaps_after
  · rw [hB_finishes]; exact t_finishes
  · rw [hB_finished_by]; exact t_finished_by
  · rw [hB_includes]; exact t_includes
  · rw [hB_during]; exact t_during
  · rw [hB_starts]; exact t_starts
  · rw [hB_started_by]; exact t_started_by
  · rw [hB_coincides]; exact t_coincides
theorem m_before {pa pb : Bool} : HasC Tryz.prog 6 [.v (.string (⟨#[98, 101, 102, 111, 114, 101]⟩)), .v (.bool pa), .v (.bool pb)] (fun r => ∃ c, r = .v (.bool c) ∧ (c = true ↔ (true) = true)) := by
  refine HasC.of [] (fn := Tryz.f6) tyOk mixed (fun args w => Tryz.call6 args w) Tryz.func6 rfl (by kernel_rfl) (Nat.le_of_ble_eq_true rfl) (⟨_, _, rfl, Iff.rfl⟩) ?_
  refine vc_seqr rfl (iQ 1 (iE 34 [(0, .d (Sv (⟨#[98, 101, 102, 111, 114, 101]⟩))), (1, Ba pa), (2, Ba pb), (6, Ba false)] [] ?_))
  refine vc_seq (vc_seqr rfl (iQ 1 (iE 34 [(1, Ba pa), (2, Ba pb), (6, Ba false), (7, .d (Sv (⟨#[98, 101, 102, 111, 114, 101]⟩)))] [] ?_)))
  refine vc_block (vc_seq (vc_seqr rfl (iB .eql 9 (.string (⟨#[98, 101, 102, 111, 114, 101]⟩)) (.string (⟨#[98, 101, 102, 111, 114, 101]⟩)) (some 9) ?_)))
  refine all_true ((by decide)) ?_
  refine iQ 1 (iE 34 [(1, Ba pa), (2, Ba pb), (6, Ba false), (7, .d (Sv (⟨#[98, 101, 102, 111, 114, 101]⟩))), (8, Ba true)] [] ?_)
  refine iT (vc_skip (seq_n (iT (vc_seqr rfl (iQ 1 (iE 34 [(1, Ba pa), (2, Ba pb), (6, Ba true), (7, .d (Sv (⟨#[98, 101, 102, 111, 114, 101]⟩))), (8, Ba true)] [] ?_))))))
  refine vc_ret (block_r (seq_r (iR (Bv true) ?_)))
  exact ⟨_, rfl, by grind⟩
theorem m_after {pa pb : Bool} : HasC Tryz.prog 6 [.v (.string (⟨#[97, 102, 116, 101, 114]⟩)), .v (.bool pa), .v (.bool pb)] (fun r => ∃ c, r = .v (.bool c) ∧ (c = true ↔ (true) = true)) := by
  refine HasC.of [] (fn := Tryz.f6) tyOk mixed (fun args w => Tryz.call6 args w) Tryz.func6 rfl (by kernel_rfl) (Nat.le_of_ble_eq_true rfl) (⟨_, _, rfl, Iff.rfl⟩) ?_
  refine vc_seqr rfl (iQ 1 (iE 34 [(0, .d (Sv (⟨#[97, 102, 116, 101, 114]⟩))), (1, Ba pa), (2, Ba pb), (6, Ba false)] [] ?_))
  refine vc_seq (vc_seqr rfl (iQ 1 (iE 34 [(1, Ba pa), (2, Ba pb), (6, Ba false), (7, .d (Sv (⟨#[97, 102, 116, 101, 114]⟩)))] [] ?_)))
  refine vc_block (vc_seq (vc_seqr rfl (iB .eql 9 (.string (⟨#[97, 102, 116, 101, 114]⟩)) (.string (⟨#[98, 101, 102, 111, 114, 101]⟩)) (some 9) ?_)))
  refine all_false ((by decide)) ?_
  refine iQ 1 (iE 34 [(1, Ba pa), (2, Ba pb), (6, Ba false), (7, .d (Sv (⟨#[97, 102, 116, 101, 114]⟩))), (8, Ba false)] [] ?_)
  refine iF (vc_reg rfl (iB .eql 9 (.string (⟨#[97, 102, 116, 101, 114]⟩)) (.string (⟨#[97, 102, 116, 101, 114]⟩)) (some 10) ?_))
  refine all_true ((by decide)) ?_
  refine iQ 1 (iE 34 [(1, Ba pa), (2, Ba pb), (6, Ba false), (7, .d (Sv (⟨#[97, 102, 116, 101, 114]⟩))), (8, Ba true)] [] ?_)
  refine seq_n (iT (vc_seqr rfl (iQ 1 (iE 34 [(1, Ba pa), (2, Ba pb), (6, Ba true), (7, .d (Sv (⟨#[97, 102, 116, 101, 114]⟩))), (8, Ba true)] [] ?_))))
  refine vc_ret (block_r (seq_r (iR (Bv true) ?_)))
  exact ⟨_, rfl, by grind⟩
theorem m_meets {pa pb : Bool} : HasC Tryz.prog 6 [.v (.string (⟨#[109, 101, 101, 116, 115]⟩)), .v (.bool pa), .v (.bool pb)] (fun r => ∃ c, r = .v (.bool c) ∧ (c = true ↔ (!pa && !pb) = true)) := by
  refine HasC.of [] (fn := Tryz.f6) tyOk mixed (fun args w => Tryz.call6 args w) Tryz.func6 rfl (by kernel_rfl) (Nat.le_of_ble_eq_true rfl) (⟨_, _, rfl, Iff.rfl⟩) ?_
  refine vc_seqr rfl (iQ 1 (iE 34 [(0, .d (Sv (⟨#[109, 101, 101, 116, 115]⟩))), (1, Ba pa), (2, Ba pb), (6, Ba false)] [] ?_))
  refine vc_seq (vc_seqr rfl (iQ 1 (iE 34 [(1, Ba pa), (2, Ba pb), (6, Ba false), (7, .d (Sv (⟨#[109, 101, 101, 116, 115]⟩)))] [] ?_)))
  refine vc_block (vc_seq (vc_seqr rfl (iB .eql 9 (.string (⟨#[109, 101, 101, 116, 115]⟩)) (.string (⟨#[98, 101, 102, 111, 114, 101]⟩)) (some 9) ?_)))
  refine all_false ((by decide)) ?_
  refine iQ 1 (iE 34 [(1, Ba pa), (2, Ba pb), (6, Ba false), (7, .d (Sv (⟨#[109, 101, 101, 116, 115]⟩))), (8, Ba false)] [] ?_)
  refine iF (vc_reg rfl (iB .eql 9 (.string (⟨#[109, 101, 101, 116, 115]⟩)) (.string (⟨#[97, 102, 116, 101, 114]⟩)) (some 10) ?_))
  refine all_false ((by decide)) ?_
  refine iQ 1 (iE 34 [(1, Ba pa), (2, Ba pb), (6, Ba false), (7, .d (Sv (⟨#[109, 101, 101, 116, 115]⟩))), (8, Ba false)] [] ?_)
  refine seq_n (iF (vc_seqr rfl (iB .eql 9 (.string (⟨#[109, 101, 101, 116, 115]⟩)) (.string (⟨#[99, 111, 105, 110, 99, 105, 100, 101, 115]⟩)) (some 12) ?_)))
  refine all_false ((by decide)) ?_
  refine iQ 1 (iE 34 [(1, Ba pa), (2, Ba pb), (6, Ba false), (7, .d (Sv (⟨#[109, 101, 101, 116, 115]⟩))), (8, Ba false), (11, Ba false)] [] ?_)
  refine iF (vc_seq (vc_seqr rfl (iB .eql 9 (.string (⟨#[109, 101, 101, 116, 115]⟩)) (.string (⟨#[102, 105, 110, 105, 115, 104, 101, 115]⟩)) (some 17) ?_)))
  refine all_false ((by decide)) ?_
  refine iQ 1 (iE 34 [(1, Ba pa), (2, Ba pb), (6, Ba false), (7, .d (Sv (⟨#[109, 101, 101, 116, 115]⟩))), (8, Ba false), (11, Ba false), (16, Ba false)] [] ?_)
  refine iF (vc_seqr rfl (iB .eql 9 (.string (⟨#[109, 101, 101, 116, 115]⟩)) (.string (⟨#[115, 116, 97, 114, 116, 115]⟩)) (some 18) ?_))
  refine all_false ((by decide)) ?_
  refine iQ 1 (iE 34 [(1, Ba pa), (2, Ba pb), (6, Ba false), (7, .d (Sv (⟨#[109, 101, 101, 116, 115]⟩))), (8, Ba false), (11, Ba false), (16, Ba false)] [] ?_)
  refine iF (vc_reg rfl (iB .eql 9 (.string (⟨#[109, 101, 101, 116, 115]⟩)) (.string (⟨#[100, 117, 114, 105, 110, 103]⟩)) (some 19) ?_))
  refine all_false ((by decide)) ?_
  refine iQ 1 (iE 34 [(1, Ba pa), (2, Ba pb), (6, Ba false), (7, .d (Sv (⟨#[109, 101, 101, 116, 115]⟩))), (8, Ba false), (11, Ba false), (16, Ba false)] [] ?_)
  refine seq_n (iF (vc_seq (vc_seqr rfl (iB .eql 9 (.string (⟨#[109, 101, 101, 116, 115]⟩)) (.string (⟨#[102, 105, 110, 105, 115, 104, 101, 100, 32, 98, 121]⟩)) (some 23) ?_))))
  refine all_false ((by decide)) ?_
  refine iQ 1 (iE 34 [(1, Ba pa), (2, Ba pb), (6, Ba false), (7, .d (Sv (⟨#[109, 101, 101, 116, 115]⟩))), (8, Ba false), (11, Ba false), (16, Ba false), (22, Ba false)] [] ?_)
  refine iF (vc_seqr rfl (iB .eql 9 (.string (⟨#[109, 101, 101, 116, 115]⟩)) (.string (⟨#[115, 116, 97, 114, 116, 101, 100, 32, 98, 121]⟩)) (some 24) ?_))
  refine all_false ((by decide)) ?_
  refine iQ 1 (iE 34 [(1, Ba pa), (2, Ba pb), (6, Ba false), (7, .d (Sv (⟨#[109, 101, 101, 116, 115]⟩))), (8, Ba false), (11, Ba false), (16, Ba false), (22, Ba false)] [] ?_)
  refine iF (vc_reg rfl (iB .eql 9 (.string (⟨#[109, 101, 101, 116, 115]⟩)) (.string (⟨#[105, 110, 99, 108, 117, 100, 101, 115]⟩)) (some 25) ?_))
  refine all_false ((by decide)) ?_
  refine iQ 1 (iE 34 [(1, Ba pa), (2, Ba pb), (6, Ba false), (7, .d (Sv (⟨#[109, 101, 101, 116, 115]⟩))), (8, Ba false), (11, Ba false), (16, Ba false), (22, Ba false)] [] ?_)
  refine seq_n (iF (vc_skip (block_n (seq_n (vc_seqr rfl (iQ 1 (iU .not (.bool pa) (some 29) ?_)))))))
  intro c29 hc29
  refine iQ 1 ?_
  cases c29
  · replace hc29 := bf hc29
    refine iQ 4 (iE 34 [(1, Ba pa), (2, Ba pb), (6, Ba false), (7, .d (Sv (⟨#[109, 101, 101, 116, 115]⟩))), (8, Ba false), (11, Ba false), (16, Ba false), (22, Ba false)] [] ?_)
    refine vc_ret (iR (Bv false) ?_)
    exact ⟨_, rfl, by grind⟩
  · replace hc29 := bt hc29
    refine iQ 1 (iU .not (.bool pb) (some 32) ?_)
    intro c32 hc32
    refine iQ 2 (iE 34 [(1, Ba pa), (2, Ba pb), (6, Ba c32), (7, .d (Sv (⟨#[109, 101, 101, 116, 115]⟩))), (8, Ba false), (11, Ba false), (16, Ba false), (22, Ba false)] [] ?_)
    refine vc_ret (iR (Bv c32) ?_)
    exact ⟨_, rfl, by grind⟩
theorem m_met_by {pa pb : Bool} : HasC Tryz.prog 6 [.v (.string (⟨#[109, 101, 116, 32, 98, 121]⟩)), .v (.bool pa), .v (.bool pb)] (fun r => ∃ c, r = .v (.bool c) ∧ (c = true ↔ (!pa && !pb) = true)) := by
  refine HasC.of [] (fn := Tryz.f6) tyOk mixed (fun args w => Tryz.call6 args w) Tryz.func6 rfl (by kernel_rfl) (Nat.le_of_ble_eq_true rfl) (⟨_, _, rfl, Iff.rfl⟩) ?_
  refine vc_seqr rfl (iQ 1 (iE 34 [(0, .d (Sv (⟨#[109, 101, 116, 32, 98, 121]⟩))), (1, Ba pa), (2, Ba pb), (6, Ba false)] [] ?_))
  refine vc_seq (vc_seqr rfl (iQ 1 (iE 34 [(1, Ba pa), (2, Ba pb), (6, Ba false), (7, .d (Sv (⟨#[109, 101, 116, 32, 98, 121]⟩)))] [] ?_)))
  refine vc_block (vc_seq (vc_seqr rfl (iB .eql 9 (.string (⟨#[109, 101, 116, 32, 98, 121]⟩)) (.string (⟨#[98, 101, 102, 111, 114, 101]⟩)) (some 9) ?_)))
  refine all_false ((by decide)) ?_
  refine iQ 1 (iE 34 [(1, Ba pa), (2, Ba pb), (6, Ba false), (7, .d (Sv (⟨#[109, 101, 116, 32, 98, 121]⟩))), (8, Ba false)] [] ?_)
  refine iF (vc_reg rfl (iB .eql 9 (.string (⟨#[109, 101, 116, 32, 98, 121]⟩)) (.string (⟨#[97, 102, 116, 101, 114]⟩)) (some 10) ?_))
  refine all_false ((by decide)) ?_
  refine iQ 1 (iE 34 [(1, Ba pa), (2, Ba pb), (6, Ba false), (7, .d (Sv (⟨#[109, 101, 116, 32, 98, 121]⟩))), (8, Ba false)] [] ?_)
  refine seq_n (iF (vc_seqr rfl (iB .eql 9 (.string (⟨#[109, 101, 116, 32, 98, 121]⟩)) (.string (⟨#[99, 111, 105, 110, 99, 105, 100, 101, 115]⟩)) (some 12) ?_)))
  refine all_false ((by decide)) ?_
  refine iQ 1 (iE 34 [(1, Ba pa), (2, Ba pb), (6, Ba false), (7, .d (Sv (⟨#[109, 101, 116, 32, 98, 121]⟩))), (8, Ba false), (11, Ba false)] [] ?_)
  refine iF (vc_seq (vc_seqr rfl (iB .eql 9 (.string (⟨#[109, 101, 116, 32, 98, 121]⟩)) (.string (⟨#[102, 105, 110, 105, 115, 104, 101, 115]⟩)) (some 17) ?_)))
  refine all_false ((by decide)) ?_
  refine iQ 1 (iE 34 [(1, Ba pa), (2, Ba pb), (6, Ba false), (7, .d (Sv (⟨#[109, 101, 116, 32, 98, 121]⟩))), (8, Ba false), (11, Ba false), (16, Ba false)] [] ?_)
  refine iF (vc_seqr rfl (iB .eql 9 (.string (⟨#[109, 101, 116, 32, 98, 121]⟩)) (.string (⟨#[115, 116, 97, 114, 116, 115]⟩)) (some 18) ?_))
  refine all_false ((by decide)) ?_
  refine iQ 1 (iE 34 [(1, Ba pa), (2, Ba pb), (6, Ba false), (7, .d (Sv (⟨#[109, 101, 116, 32, 98, 121]⟩))), (8, Ba false), (11, Ba false), (16, Ba false)] [] ?_)
  refine iF (vc_reg rfl (iB .eql 9 (.string (⟨#[109, 101, 116, 32, 98, 121]⟩)) (.string (⟨#[100, 117, 114, 105, 110, 103]⟩)) (some 19) ?_))
  refine all_false ((by decide)) ?_
  refine iQ 1 (iE 34 [(1, Ba pa), (2, Ba pb), (6, Ba false), (7, .d (Sv (⟨#[109, 101, 116, 32, 98, 121]⟩))), (8, Ba false), (11, Ba false), (16, Ba false)] [] ?_)
  refine seq_n (iF (vc_seq (vc_seqr rfl (iB .eql 9 (.string (⟨#[109, 101, 116, 32, 98, 121]⟩)) (.string (⟨#[102, 105, 110, 105, 115, 104, 101, 100, 32, 98, 121]⟩)) (some 23) ?_))))
  refine all_false ((by decide)) ?_
  refine iQ 1 (iE 34 [(1, Ba pa), (2, Ba pb), (6, Ba false), (7, .d (Sv (⟨#[109, 101, 116, 32, 98, 121]⟩))), (8, Ba false), (11, Ba false), (16, Ba false), (22, Ba false)] [] ?_)
  refine iF (vc_seqr rfl (iB .eql 9 (.string (⟨#[109, 101, 116, 32, 98, 121]⟩)) (.string (⟨#[115, 116, 97, 114, 116, 101, 100, 32, 98, 121]⟩)) (some 24) ?_))
  refine all_false ((by decide)) ?_
  refine iQ 1 (iE 34 [(1, Ba pa), (2, Ba pb), (6, Ba false), (7, .d (Sv (⟨#[109, 101, 116, 32, 98, 121]⟩))), (8, Ba false), (11, Ba false), (16, Ba false), (22, Ba false)] [] ?_)
  refine iF (vc_reg rfl (iB .eql 9 (.string (⟨#[109, 101, 116, 32, 98, 121]⟩)) (.string (⟨#[105, 110, 99, 108, 117, 100, 101, 115]⟩)) (some 25) ?_))
  refine all_false ((by decide)) ?_
  refine iQ 1 (iE 34 [(1, Ba pa), (2, Ba pb), (6, Ba false), (7, .d (Sv (⟨#[109, 101, 116, 32, 98, 121]⟩))), (8, Ba false), (11, Ba false), (16, Ba false), (22, Ba false)] [] ?_)
  refine seq_n (iF (vc_skip (block_n (seq_n (vc_seqr rfl (iQ 1 (iU .not (.bool pa) (some 29) ?_)))))))
  intro c29 hc29
  refine iQ 1 ?_
  cases c29
  · replace hc29 := bf hc29
    refine iQ 4 (iE 34 [(1, Ba pa), (2, Ba pb), (6, Ba false), (7, .d (Sv (⟨#[109, 101, 116, 32, 98, 121]⟩))), (8, Ba false), (11, Ba false), (16, Ba false), (22, Ba false)] [] ?_)
    refine vc_ret (iR (Bv false) ?_)
    exact ⟨_, rfl, by grind⟩
  · replace hc29 := bt hc29
    refine iQ 1 (iU .not (.bool pb) (some 32) ?_)
    intro c32 hc32
    refine iQ 2 (iE 34 [(1, Ba pa), (2, Ba pb), (6, Ba c32), (7, .d (Sv (⟨#[109, 101, 116, 32, 98, 121]⟩))), (8, Ba false), (11, Ba false), (16, Ba false), (22, Ba false)] [] ?_)
    refine vc_ret (iR (Bv c32) ?_)
    exact ⟨_, rfl, by grind⟩
theorem m_overlaps {pa pb : Bool} : HasC Tryz.prog 6 [.v (.string (⟨#[111, 118, 101, 114, 108, 97, 112, 115]⟩)), .v (.bool pa), .v (.bool pb)] (fun r => ∃ c, r = .v (.bool c) ∧ (c = true ↔ (!pa && !pb) = true)) := by
  refine HasC.of [] (fn := Tryz.f6) tyOk mixed (fun args w => Tryz.call6 args w) Tryz.func6 rfl (by kernel_rfl) (Nat.le_of_ble_eq_true rfl) (⟨_, _, rfl, Iff.rfl⟩) ?_
  refine vc_seqr rfl (iQ 1 (iE 34 [(0, .d (Sv (⟨#[111, 118, 101, 114, 108, 97, 112, 115]⟩))), (1, Ba pa), (2, Ba pb), (6, Ba false)] [] ?_))
  refine vc_seq (vc_seqr rfl (iQ 1 (iE 34 [(1, Ba pa), (2, Ba pb), (6, Ba false), (7, .d (Sv (⟨#[111, 118, 101, 114, 108, 97, 112, 115]⟩)))] [] ?_)))
  refine vc_block (vc_seq (vc_seqr rfl (iB .eql 9 (.string (⟨#[111, 118, 101, 114, 108, 97, 112, 115]⟩)) (.string (⟨#[98, 101, 102, 111, 114, 101]⟩)) (some 9) ?_)))
  refine all_false ((by decide)) ?_
  refine iQ 1 (iE 34 [(1, Ba pa), (2, Ba pb), (6, Ba false), (7, .d (Sv (⟨#[111, 118, 101, 114, 108, 97, 112, 115]⟩))), (8, Ba false)] [] ?_)
  refine iF (vc_reg rfl (iB .eql 9 (.string (⟨#[111, 118, 101, 114, 108, 97, 112, 115]⟩)) (.string (⟨#[97, 102, 116, 101, 114]⟩)) (some 10) ?_))
  refine all_false ((by decide)) ?_
  refine iQ 1 (iE 34 [(1, Ba pa), (2, Ba pb), (6, Ba false), (7, .d (Sv (⟨#[111, 118, 101, 114, 108, 97, 112, 115]⟩))), (8, Ba false)] [] ?_)
  refine seq_n (iF (vc_seqr rfl (iB .eql 9 (.string (⟨#[111, 118, 101, 114, 108, 97, 112, 115]⟩)) (.string (⟨#[99, 111, 105, 110, 99, 105, 100, 101, 115]⟩)) (some 12) ?_)))
  refine all_false ((by decide)) ?_
  refine iQ 1 (iE 34 [(1, Ba pa), (2, Ba pb), (6, Ba false), (7, .d (Sv (⟨#[111, 118, 101, 114, 108, 97, 112, 115]⟩))), (8, Ba false), (11, Ba false)] [] ?_)
  refine iF (vc_seq (vc_seqr rfl (iB .eql 9 (.string (⟨#[111, 118, 101, 114, 108, 97, 112, 115]⟩)) (.string (⟨#[102, 105, 110, 105, 115, 104, 101, 115]⟩)) (some 17) ?_)))
  refine all_false ((by decide)) ?_
  refine iQ 1 (iE 34 [(1, Ba pa), (2, Ba pb), (6, Ba false), (7, .d (Sv (⟨#[111, 118, 101, 114, 108, 97, 112, 115]⟩))), (8, Ba false), (11, Ba false), (16, Ba false)] [] ?_)
  refine iF (vc_seqr rfl (iB .eql 9 (.string (⟨#[111, 118, 101, 114, 108, 97, 112, 115]⟩)) (.string (⟨#[115, 116, 97, 114, 116, 115]⟩)) (some 18) ?_))
  refine all_false ((by decide)) ?_
  refine iQ 1 (iE 34 [(1, Ba pa), (2, Ba pb), (6, Ba false), (7, .d (Sv (⟨#[111, 118, 101, 114, 108, 97, 112, 115]⟩))), (8, Ba false), (11, Ba false), (16, Ba false)] [] ?_)
  refine iF (vc_reg rfl (iB .eql 9 (.string (⟨#[111, 118, 101, 114, 108, 97, 112, 115]⟩)) (.string (⟨#[100, 117, 114, 105, 110, 103]⟩)) (some 19) ?_))
  refine all_false ((by decide)) ?_
  refine iQ 1 (iE 34 [(1, Ba pa), (2, Ba pb), (6, Ba false), (7, .d (Sv (⟨#[111, 118, 101, 114, 108, 97, 112, 115]⟩))), (8, Ba false), (11, Ba false), (16, Ba false)] [] ?_)
  refine seq_n (iF (vc_seq (vc_seqr rfl (iB .eql 9 (.string (⟨#[111, 118, 101, 114, 108, 97, 112, 115]⟩)) (.string (⟨#[102, 105, 110, 105, 115, 104, 101, 100, 32, 98, 121]⟩)) (some 23) ?_))))
  refine all_false ((by decide)) ?_
  refine iQ 1 (iE 34 [(1, Ba pa), (2, Ba pb), (6, Ba false), (7, .d (Sv (⟨#[111, 118, 101, 114, 108, 97, 112, 115]⟩))), (8, Ba false), (11, Ba false), (16, Ba false), (22, Ba false)] [] ?_)
  refine iF (vc_seqr rfl (iB .eql 9 (.string (⟨#[111, 118, 101, 114, 108, 97, 112, 115]⟩)) (.string (⟨#[115, 116, 97, 114, 116, 101, 100, 32, 98, 121]⟩)) (some 24) ?_))
  refine all_false ((by decide)) ?_
  refine iQ 1 (iE 34 [(1, Ba pa), (2, Ba pb), (6, Ba false), (7, .d (Sv (⟨#[111, 118, 101, 114, 108, 97, 112, 115]⟩))), (8, Ba false), (11, Ba false), (16, Ba false), (22, Ba false)] [] ?_)
  refine iF (vc_reg rfl (iB .eql 9 (.string (⟨#[111, 118, 101, 114, 108, 97, 112, 115]⟩)) (.string (⟨#[105, 110, 99, 108, 117, 100, 101, 115]⟩)) (some 25) ?_))
  refine all_false ((by decide)) ?_
  refine iQ 1 (iE 34 [(1, Ba pa), (2, Ba pb), (6, Ba false), (7, .d (Sv (⟨#[111, 118, 101, 114, 108, 97, 112, 115]⟩))), (8, Ba false), (11, Ba false), (16, Ba false), (22, Ba false)] [] ?_)
  refine seq_n (iF (vc_skip (block_n (seq_n (vc_seqr rfl (iQ 1 (iU .not (.bool pa) (some 29) ?_)))))))
  intro c29 hc29
  refine iQ 1 ?_
  cases c29
  · replace hc29 := bf hc29
    refine iQ 4 (iE 34 [(1, Ba pa), (2, Ba pb), (6, Ba false), (7, .d (Sv (⟨#[111, 118, 101, 114, 108, 97, 112, 115]⟩))), (8, Ba false), (11, Ba false), (16, Ba false), (22, Ba false)] [] ?_)
    refine vc_ret (iR (Bv false) ?_)
    exact ⟨_, rfl, by grind⟩
  · replace hc29 := bt hc29
    refine iQ 1 (iU .not (.bool pb) (some 32) ?_)
    intro c32 hc32
    refine iQ 2 (iE 34 [(1, Ba pa), (2, Ba pb), (6, Ba c32), (7, .d (Sv (⟨#[111, 118, 101, 114, 108, 97, 112, 115]⟩))), (8, Ba false), (11, Ba false), (16, Ba false), (22, Ba false)] [] ?_)
    refine vc_ret (iR (Bv c32) ?_)
    exact ⟨_, rfl, by grind⟩
theorem m_overlaps_before {pa pb : Bool} : HasC Tryz.prog 6 [.v (.string (⟨#[111, 118, 101, 114, 108, 97, 112, 115, 32, 98, 101, 102, 111, 114, 101]⟩)), .v (.bool pa), .v (.bool pb)] (fun r => ∃ c, r = .v (.bool c) ∧ (c = true ↔ (!pa && !pb) = true)) := by
  refine HasC.of [] (fn := Tryz.f6) tyOk mixed (fun args w => Tryz.call6 args w) Tryz.func6 rfl (by kernel_rfl) (Nat.le_of_ble_eq_true rfl) (⟨_, _, rfl, Iff.rfl⟩) ?_
  refine vc_seqr rfl (iQ 1 (iE 34 [(0, .d (Sv (⟨#[111, 118, 101, 114, 108, 97, 112, 115, 32, 98, 101, 102, 111, 114, 101]⟩))), (1, Ba pa), (2, Ba pb), (6, Ba false)] [] ?_))
  refine vc_seq (vc_seqr rfl (iQ 1 (iE 34 [(1, Ba pa), (2, Ba pb), (6, Ba false), (7, .d (Sv (⟨#[111, 118, 101, 114, 108, 97, 112, 115, 32, 98, 101, 102, 111, 114, 101]⟩)))] [] ?_)))
  refine vc_block (vc_seq (vc_seqr rfl (iB .eql 9 (.string (⟨#[111, 118, 101, 114, 108, 97, 112, 115, 32, 98, 101, 102, 111, 114, 101]⟩)) (.string (⟨#[98, 101, 102, 111, 114, 101]⟩)) (some 9) ?_)))
  refine all_false ((by decide)) ?_
  refine iQ 1 (iE 34 [(1, Ba pa), (2, Ba pb), (6, Ba false), (7, .d (Sv (⟨#[111, 118, 101, 114, 108, 97, 112, 115, 32, 98, 101, 102, 111, 114, 101]⟩))), (8, Ba false)] [] ?_)
  refine iF (vc_reg rfl (iB .eql 9 (.string (⟨#[111, 118, 101, 114, 108, 97, 112, 115, 32, 98, 101, 102, 111, 114, 101]⟩)) (.string (⟨#[97, 102, 116, 101, 114]⟩)) (some 10) ?_))
  refine all_false ((by decide)) ?_
  refine iQ 1 (iE 34 [(1, Ba pa), (2, Ba pb), (6, Ba false), (7, .d (Sv (⟨#[111, 118, 101, 114, 108, 97, 112, 115, 32, 98, 101, 102, 111, 114, 101]⟩))), (8, Ba false)] [] ?_)
  refine seq_n (iF (vc_seqr rfl (iB .eql 9 (.string (⟨#[111, 118, 101, 114, 108, 97, 112, 115, 32, 98, 101, 102, 111, 114, 101]⟩)) (.string (⟨#[99, 111, 105, 110, 99, 105, 100, 101, 115]⟩)) (some 12) ?_)))
  refine all_false ((by decide)) ?_
  refine iQ 1 (iE 34 [(1, Ba pa), (2, Ba pb), (6, Ba false), (7, .d (Sv (⟨#[111, 118, 101, 114, 108, 97, 112, 115, 32, 98, 101, 102, 111, 114, 101]⟩))), (8, Ba false), (11, Ba false)] [] ?_)
  refine iF (vc_seq (vc_seqr rfl (iB .eql 9 (.string (⟨#[111, 118, 101, 114, 108, 97, 112, 115, 32, 98, 101, 102, 111, 114, 101]⟩)) (.string (⟨#[102, 105, 110, 105, 115, 104, 101, 115]⟩)) (some 17) ?_)))
  refine all_false ((by decide)) ?_
  refine iQ 1 (iE 34 [(1, Ba pa), (2, Ba pb), (6, Ba false), (7, .d (Sv (⟨#[111, 118, 101, 114, 108, 97, 112, 115, 32, 98, 101, 102, 111, 114, 101]⟩))), (8, Ba false), (11, Ba false), (16, Ba false)] [] ?_)
  refine iF (vc_seqr rfl (iB .eql 9 (.string (⟨#[111, 118, 101, 114, 108, 97, 112, 115, 32, 98, 101, 102, 111, 114, 101]⟩)) (.string (⟨#[115, 116, 97, 114, 116, 115]⟩)) (some 18) ?_))
  refine all_false ((by decide)) ?_
  refine iQ 1 (iE 34 [(1, Ba pa), (2, Ba pb), (6, Ba false), (7, .d (Sv (⟨#[111, 118, 101, 114, 108, 97, 112, 115, 32, 98, 101, 102, 111, 114, 101]⟩))), (8, Ba false), (11, Ba false), (16, Ba false)] [] ?_)
  refine iF (vc_reg rfl (iB .eql 9 (.string (⟨#[111, 118, 101, 114, 108, 97, 112, 115, 32, 98, 101, 102, 111, 114, 101]⟩)) (.string (⟨#[100, 117, 114, 105, 110, 103]⟩)) (some 19) ?_))
  refine all_false ((by decide)) ?_
  refine iQ 1 (iE 34 [(1, Ba pa), (2, Ba pb), (6, Ba false), (7, .d (Sv (⟨#[111, 118, 101, 114, 108, 97, 112, 115, 32, 98, 101, 102, 111, 114, 101]⟩))), (8, Ba false), (11, Ba false), (16, Ba false)] [] ?_)
  refine seq_n (iF (vc_seq (vc_seqr rfl (iB .eql 9 (.string (⟨#[111, 118, 101, 114, 108, 97, 112, 115, 32, 98, 101, 102, 111, 114, 101]⟩)) (.string (⟨#[102, 105, 110, 105, 115, 104, 101, 100, 32, 98, 121]⟩)) (some 23) ?_))))
  refine all_false ((by decide)) ?_
  refine iQ 1 (iE 34 [(1, Ba pa), (2, Ba pb), (6, Ba false), (7, .d (Sv (⟨#[111, 118, 101, 114, 108, 97, 112, 115, 32, 98, 101, 102, 111, 114, 101]⟩))), (8, Ba false), (11, Ba false), (16, Ba false), (22, Ba false)] [] ?_)
  refine iF (vc_seqr rfl (iB .eql 9 (.string (⟨#[111, 118, 101, 114, 108, 97, 112, 115, 32, 98, 101, 102, 111, 114, 101]⟩)) (.string (⟨#[115, 116, 97, 114, 116, 101, 100, 32, 98, 121]⟩)) (some 24) ?_))
  refine all_false ((by decide)) ?_
  refine iQ 1 (iE 34 [(1, Ba pa), (2, Ba pb), (6, Ba false), (7, .d (Sv (⟨#[111, 118, 101, 114, 108, 97, 112, 115, 32, 98, 101, 102, 111, 114, 101]⟩))), (8, Ba false), (11, Ba false), (16, Ba false), (22, Ba false)] [] ?_)
  refine iF (vc_reg rfl (iB .eql 9 (.string (⟨#[111, 118, 101, 114, 108, 97, 112, 115, 32, 98, 101, 102, 111, 114, 101]⟩)) (.string (⟨#[105, 110, 99, 108, 117, 100, 101, 115]⟩)) (some 25) ?_))
  refine all_false ((by decide)) ?_
  refine iQ 1 (iE 34 [(1, Ba pa), (2, Ba pb), (6, Ba false), (7, .d (Sv (⟨#[111, 118, 101, 114, 108, 97, 112, 115, 32, 98, 101, 102, 111, 114, 101]⟩))), (8, Ba false), (11, Ba false), (16, Ba false), (22, Ba false)] [] ?_)
  refine seq_n (iF (vc_skip (block_n (seq_n (vc_seqr rfl (iQ 1 (iU .not (.bool pa) (some 29) ?_)))))))
  intro c29 hc29
  refine iQ 1 ?_
  cases c29
  · replace hc29 := bf hc29
    refine iQ 4 (iE 34 [(1, Ba pa), (2, Ba pb), (6, Ba false), (7, .d (Sv (⟨#[111, 118, 101, 114, 108, 97, 112, 115, 32, 98, 101, 102, 111, 114, 101]⟩))), (8, Ba false), (11, Ba false), (16, Ba false), (22, Ba false)] [] ?_)
    refine vc_ret (iR (Bv false) ?_)
    exact ⟨_, rfl, by grind⟩
  · replace hc29 := bt hc29
    refine iQ 1 (iU .not (.bool pb) (some 32) ?_)
    intro c32 hc32
    refine iQ 2 (iE 34 [(1, Ba pa), (2, Ba pb), (6, Ba c32), (7, .d (Sv (⟨#[111, 118, 101, 114, 108, 97, 112, 115, 32, 98, 101, 102, 111, 114, 101]⟩))), (8, Ba false), (11, Ba false), (16, Ba false), (22, Ba false)] [] ?_)
    refine vc_ret (iR (Bv c32) ?_)
    exact ⟨_, rfl, by grind⟩
theorem m_overlaps_after {pa pb : Bool} : HasC Tryz.prog 6 [.v (.string (⟨#[111, 118, 101, 114, 108, 97, 112, 115, 32, 97, 102, 116, 101, 114]⟩)), .v (.bool pa), .v (.bool pb)] (fun r => ∃ c, r = .v (.bool c) ∧ (c = true ↔ (!pa && !pb) = true)) := by
  refine HasC.of [] (fn := Tryz.f6) tyOk mixed (fun args w => Tryz.call6 args w) Tryz.func6 rfl (by kernel_rfl) (Nat.le_of_ble_eq_true rfl) (⟨_, _, rfl, Iff.rfl⟩) ?_
  refine vc_seqr rfl (iQ 1 (iE 34 [(0, .d (Sv (⟨#[111, 118, 101, 114, 108, 97, 112, 115, 32, 97, 102, 116, 101, 114]⟩))), (1, Ba pa), (2, Ba pb), (6, Ba false)] [] ?_))
  refine vc_seq (vc_seqr rfl (iQ 1 (iE 34 [(1, Ba pa), (2, Ba pb), (6, Ba false), (7, .d (Sv (⟨#[111, 118, 101, 114, 108, 97, 112, 115, 32, 97, 102, 116, 101, 114]⟩)))] [] ?_)))
  refine vc_block (vc_seq (vc_seqr rfl (iB .eql 9 (.string (⟨#[111, 118, 101, 114, 108, 97, 112, 115, 32, 97, 102, 116, 101, 114]⟩)) (.string (⟨#[98, 101, 102, 111, 114, 101]⟩)) (some 9) ?_)))
  refine all_false ((by decide)) ?_
  refine iQ 1 (iE 34 [(1, Ba pa), (2, Ba pb), (6, Ba false), (7, .d (Sv (⟨#[111, 118, 101, 114, 108, 97, 112, 115, 32, 97, 102, 116, 101, 114]⟩))), (8, Ba false)] [] ?_)
  refine iF (vc_reg rfl (iB .eql 9 (.string (⟨#[111, 118, 101, 114, 108, 97, 112, 115, 32, 97, 102, 116, 101, 114]⟩)) (.string (⟨#[97, 102, 116, 101, 114]⟩)) (some 10) ?_))
  refine all_false ((by decide)) ?_
  refine iQ 1 (iE 34 [(1, Ba pa), (2, Ba pb), (6, Ba false), (7, .d (Sv (⟨#[111, 118, 101, 114, 108, 97, 112, 115, 32, 97, 102, 116, 101, 114]⟩))), (8, Ba false)] [] ?_)
  refine seq_n (iF (vc_seqr rfl (iB .eql 9 (.string (⟨#[111, 118, 101, 114, 108, 97, 112, 115, 32, 97, 102, 116, 101, 114]⟩)) (.string (⟨#[99, 111, 105, 110, 99, 105, 100, 101, 115]⟩)) (some 12) ?_)))
  refine all_false ((by decide)) ?_
  refine iQ 1 (iE 34 [(1, Ba pa), (2, Ba pb), (6, Ba false), (7, .d (Sv (⟨#[111, 118, 101, 114, 108, 97, 112, 115, 32, 97, 102, 116, 101, 114]⟩))), (8, Ba false), (11, Ba false)] [] ?_)
  refine iF (vc_seq (vc_seqr rfl (iB .eql 9 (.string (⟨#[111, 118, 101, 114, 108, 97, 112, 115, 32, 97, 102, 116, 101, 114]⟩)) (.string (⟨#[102, 105, 110, 105, 115, 104, 101, 115]⟩)) (some 17) ?_)))
  refine all_false ((by decide)) ?_
  refine iQ 1 (iE 34 [(1, Ba pa), (2, Ba pb), (6, Ba false), (7, .d (Sv (⟨#[111, 118, 101, 114, 108, 97, 112, 115, 32, 97, 102, 116, 101, 114]⟩))), (8, Ba false), (11, Ba false), (16, Ba false)] [] ?_)
  refine iF (vc_seqr rfl (iB .eql 9 (.string (⟨#[111, 118, 101, 114, 108, 97, 112, 115, 32, 97, 102, 116, 101, 114]⟩)) (.string (⟨#[115, 116, 97, 114, 116, 115]⟩)) (some 18) ?_))
  refine all_false ((by decide)) ?_
  refine iQ 1 (iE 34 [(1, Ba pa), (2, Ba pb), (6, Ba false), (7, .d (Sv (⟨#[111, 118, 101, 114, 108, 97, 112, 115, 32, 97, 102, 116, 101, 114]⟩))), (8, Ba false), (11, Ba false), (16, Ba false)] [] ?_)
  refine iF (vc_reg rfl (iB .eql 9 (.string (⟨#[111, 118, 101, 114, 108, 97, 112, 115, 32, 97, 102, 116, 101, 114]⟩)) (.string (⟨#[100, 117, 114, 105, 110, 103]⟩)) (some 19) ?_))
  refine all_false ((by decide)) ?_
  refine iQ 1 (iE 34 [(1, Ba pa), (2, Ba pb), (6, Ba false), (7, .d (Sv (⟨#[111, 118, 101, 114, 108, 97, 112, 115, 32, 97, 102, 116, 101, 114]⟩))), (8, Ba false), (11, Ba false), (16, Ba false)] [] ?_)
  refine seq_n (iF (vc_seq (vc_seqr rfl (iB .eql 9 (.string (⟨#[111, 118, 101, 114, 108, 97, 112, 115, 32, 97, 102, 116, 101, 114]⟩)) (.string (⟨#[102, 105, 110, 105, 115, 104, 101, 100, 32, 98, 121]⟩)) (some 23) ?_))))
  refine all_false ((by decide)) ?_
  refine iQ 1 (iE 34 [(1, Ba pa), (2, Ba pb), (6, Ba false), (7, .d (Sv (⟨#[111, 118, 101, 114, 108, 97, 112, 115, 32, 97, 102, 116, 101, 114]⟩))), (8, Ba false), (11, Ba false), (16, Ba false), (22, Ba false)] [] ?_)
  refine iF (vc_seqr rfl (iB .eql 9 (.string (⟨#[111, 118, 101, 114, 108, 97, 112, 115, 32, 97, 102, 116, 101, 114]⟩)) (.string (⟨#[115, 116, 97, 114, 116, 101, 100, 32, 98, 121]⟩)) (some 24) ?_))
  refine all_false ((by decide)) ?_
  refine iQ 1 (iE 34 [(1, Ba pa), (2, Ba pb), (6, Ba false), (7, .d (Sv (⟨#[111, 118, 101, 114, 108, 97, 112, 115, 32, 97, 102, 116, 101, 114]⟩))), (8, Ba false), (11, Ba false), (16, Ba false), (22, Ba false)] [] ?_)
  refine iF (vc_reg rfl (iB .eql 9 (.string (⟨#[111, 118, 101, 114, 108, 97, 112, 115, 32, 97, 102, 116, 101, 114]⟩)) (.string (⟨#[105, 110, 99, 108, 117, 100, 101, 115]⟩)) (some 25) ?_))
  refine all_false ((by decide)) ?_
  refine iQ 1 (iE 34 [(1, Ba pa), (2, Ba pb), (6, Ba false), (7, .d (Sv (⟨#[111, 118, 101, 114, 108, 97, 112, 115, 32, 97, 102, 116, 101, 114]⟩))), (8, Ba false), (11, Ba false), (16, Ba false), (22, Ba false)] [] ?_)
  refine seq_n (iF (vc_skip (block_n (seq_n (vc_seqr rfl (iQ 1 (iU .not (.bool pa) (some 29) ?_)))))))
  intro c29 hc29
  refine iQ 1 ?_
  cases c29
  · replace hc29 := bf hc29
    refine iQ 4 (iE 34 [(1, Ba pa), (2, Ba pb), (6, Ba false), (7, .d (Sv (⟨#[111, 118, 101, 114, 108, 97, 112, 115, 32, 97, 102, 116, 101, 114]⟩))), (8, Ba false), (11, Ba false), (16, Ba false), (22, Ba false)] [] ?_)
    refine vc_ret (iR (Bv false) ?_)
    exact ⟨_, rfl, by grind⟩
  · replace hc29 := bt hc29
    refine iQ 1 (iU .not (.bool pb) (some 32) ?_)
    intro c32 hc32
    refine iQ 2 (iE 34 [(1, Ba pa), (2, Ba pb), (6, Ba c32), (7, .d (Sv (⟨#[111, 118, 101, 114, 108, 97, 112, 115, 32, 97, 102, 116, 101, 114]⟩))), (8, Ba false), (11, Ba false), (16, Ba false), (22, Ba false)] [] ?_)
    refine vc_ret (iR (Bv c32) ?_)
    exact ⟨_, rfl, by grind⟩
theorem m_finishes {pa pb : Bool} : HasC Tryz.prog 6 [.v (.string (⟨#[102, 105, 110, 105, 115, 104, 101, 115]⟩)), .v (.bool pa), .v (.bool pb)] (fun r => ∃ c, r = .v (.bool c) ∧ (c = true ↔ (!pb) = true)) := by
  refine HasC.of [] (fn := Tryz.f6) tyOk mixed (fun args w => Tryz.call6 args w) Tryz.func6 rfl (by kernel_rfl) (Nat.le_of_ble_eq_true rfl) (⟨_, _, rfl, Iff.rfl⟩) ?_
  refine vc_seqr rfl (iQ 1 (iE 34 [(0, .d (Sv (⟨#[102, 105, 110, 105, 115, 104, 101, 115]⟩))), (1, Ba pa), (2, Ba pb), (6, Ba false)] [] ?_))
  refine vc_seq (vc_seqr rfl (iQ 1 (iE 34 [(1, Ba pa), (2, Ba pb), (6, Ba false), (7, .d (Sv (⟨#[102, 105, 110, 105, 115, 104, 101, 115]⟩)))] [] ?_)))
  refine vc_block (vc_seq (vc_seqr rfl (iB .eql 9 (.string (⟨#[102, 105, 110, 105, 115, 104, 101, 115]⟩)) (.string (⟨#[98, 101, 102, 111, 114, 101]⟩)) (some 9) ?_)))
  refine all_false ((by decide)) ?_
  refine iQ 1 (iE 34 [(1, Ba pa), (2, Ba pb), (6, Ba false), (7, .d (Sv (⟨#[102, 105, 110, 105, 115, 104, 101, 115]⟩))), (8, Ba false)] [] ?_)
  refine iF (vc_reg rfl (iB .eql 9 (.string (⟨#[102, 105, 110, 105, 115, 104, 101, 115]⟩)) (.string (⟨#[97, 102, 116, 101, 114]⟩)) (some 10) ?_))
  refine all_false ((by decide)) ?_
  refine iQ 1 (iE 34 [(1, Ba pa), (2, Ba pb), (6, Ba false), (7, .d (Sv (⟨#[102, 105, 110, 105, 115, 104, 101, 115]⟩))), (8, Ba false)] [] ?_)
  refine seq_n (iF (vc_seqr rfl (iB .eql 9 (.string (⟨#[102, 105, 110, 105, 115, 104, 101, 115]⟩)) (.string (⟨#[99, 111, 105, 110, 99, 105, 100, 101, 115]⟩)) (some 12) ?_)))
  refine all_false ((by decide)) ?_
  refine iQ 1 (iE 34 [(1, Ba pa), (2, Ba pb), (6, Ba false), (7, .d (Sv (⟨#[102, 105, 110, 105, 115, 104, 101, 115]⟩))), (8, Ba false), (11, Ba false)] [] ?_)
  refine iF (vc_seq (vc_seqr rfl (iB .eql 9 (.string (⟨#[102, 105, 110, 105, 115, 104, 101, 115]⟩)) (.string (⟨#[102, 105, 110, 105, 115, 104, 101, 115]⟩)) (some 17) ?_)))
  refine all_true ((by decide)) ?_
  refine iQ 1 (iE 34 [(1, Ba pa), (2, Ba pb), (6, Ba false), (7, .d (Sv (⟨#[102, 105, 110, 105, 115, 104, 101, 115]⟩))), (8, Ba false), (11, Ba false), (16, Ba true)] [] ?_)
  refine iT (vc_skip (seq_n (iT (vc_seqr rfl (iQ 1 (iU .not (.bool pb) (some 21) ?_))))))
  intro c21 hc21
  refine iQ 1 (iE 34 [(1, Ba pa), (2, Ba pb), (6, Ba c21), (7, .d (Sv (⟨#[102, 105, 110, 105, 115, 104, 101, 115]⟩))), (8, Ba false), (11, Ba false), (16, Ba true)] [] ?_)
  refine vc_ret (block_r (seq_r (iR (Bv c21) ?_)))
  exact ⟨_, rfl, by grind⟩
theorem m_finished_by {pa pb : Bool} : HasC Tryz.prog 6 [.v (.string (⟨#[102, 105, 110, 105, 115, 104, 101, 100, 32, 98, 121]⟩)), .v (.bool pa), .v (.bool pb)] (fun r => ∃ c, r = .v (.bool c) ∧ (c = true ↔ (!pa) = true)) := by
  refine HasC.of [] (fn := Tryz.f6) tyOk mixed (fun args w => Tryz.call6 args w) Tryz.func6 rfl (by kernel_rfl) (Nat.le_of_ble_eq_true rfl) (⟨_, _, rfl, Iff.rfl⟩) ?_
  refine vc_seqr rfl (iQ 1 (iE 34 [(0, .d (Sv (⟨#[102, 105, 110, 105, 115, 104, 101, 100, 32, 98, 121]⟩))), (1, Ba pa), (2, Ba pb), (6, Ba false)] [] ?_))
  refine vc_seq (vc_seqr rfl (iQ 1 (iE 34 [(1, Ba pa), (2, Ba pb), (6, Ba false), (7, .d (Sv (⟨#[102, 105, 110, 105, 115, 104, 101, 100, 32, 98, 121]⟩)))] [] ?_)))
  refine vc_block (vc_seq (vc_seqr rfl (iB .eql 9 (.string (⟨#[102, 105, 110, 105, 115, 104, 101, 100, 32, 98, 121]⟩)) (.string (⟨#[98, 101, 102, 111, 114, 101]⟩)) (some 9) ?_)))
  refine all_false ((by decide)) ?_
  refine iQ 1 (iE 34 [(1, Ba pa), (2, Ba pb), (6, Ba false), (7, .d (Sv (⟨#[102, 105, 110, 105, 115, 104, 101, 100, 32, 98, 121]⟩))), (8, Ba false)] [] ?_)
  refine iF (vc_reg rfl (iB .eql 9 (.string (⟨#[102, 105, 110, 105, 115, 104, 101, 100, 32, 98, 121]⟩)) (.string (⟨#[97, 102, 116, 101, 114]⟩)) (some 10) ?_))
  refine all_false ((by decide)) ?_
  refine iQ 1 (iE 34 [(1, Ba pa), (2, Ba pb), (6, Ba false), (7, .d (Sv (⟨#[102, 105, 110, 105, 115, 104, 101, 100, 32, 98, 121]⟩))), (8, Ba false)] [] ?_)
  refine seq_n (iF (vc_seqr rfl (iB .eql 9 (.string (⟨#[102, 105, 110, 105, 115, 104, 101, 100, 32, 98, 121]⟩)) (.string (⟨#[99, 111, 105, 110, 99, 105, 100, 101, 115]⟩)) (some 12) ?_)))
  refine all_false ((by decide)) ?_
  refine iQ 1 (iE 34 [(1, Ba pa), (2, Ba pb), (6, Ba false), (7, .d (Sv (⟨#[102, 105, 110, 105, 115, 104, 101, 100, 32, 98, 121]⟩))), (8, Ba false), (11, Ba false)] [] ?_)
  refine iF (vc_seq (vc_seqr rfl (iB .eql 9 (.string (⟨#[102, 105, 110, 105, 115, 104, 101, 100, 32, 98, 121]⟩)) (.string (⟨#[102, 105, 110, 105, 115, 104, 101, 115]⟩)) (some 17) ?_)))
  refine all_false ((by decide)) ?_
  refine iQ 1 (iE 34 [(1, Ba pa), (2, Ba pb), (6, Ba false), (7, .d (Sv (⟨#[102, 105, 110, 105, 115, 104, 101, 100, 32, 98, 121]⟩))), (8, Ba false), (11, Ba false), (16, Ba false)] [] ?_)
  refine iF (vc_seqr rfl (iB .eql 9 (.string (⟨#[102, 105, 110, 105, 115, 104, 101, 100, 32, 98, 121]⟩)) (.string (⟨#[115, 116, 97, 114, 116, 115]⟩)) (some 18) ?_))
  refine all_false ((by decide)) ?_
  refine iQ 1 (iE 34 [(1, Ba pa), (2, Ba pb), (6, Ba false), (7, .d (Sv (⟨#[102, 105, 110, 105, 115, 104, 101, 100, 32, 98, 121]⟩))), (8, Ba false), (11, Ba false), (16, Ba false)] [] ?_)
  refine iF (vc_reg rfl (iB .eql 9 (.string (⟨#[102, 105, 110, 105, 115, 104, 101, 100, 32, 98, 121]⟩)) (.string (⟨#[100, 117, 114, 105, 110, 103]⟩)) (some 19) ?_))
  refine all_false ((by decide)) ?_
  refine iQ 1 (iE 34 [(1, Ba pa), (2, Ba pb), (6, Ba false), (7, .d (Sv (⟨#[102, 105, 110, 105, 115, 104, 101, 100, 32, 98, 121]⟩))), (8, Ba false), (11, Ba false), (16, Ba false)] [] ?_)
  refine seq_n (iF (vc_seq (vc_seqr rfl (iB .eql 9 (.string (⟨#[102, 105, 110, 105, 115, 104, 101, 100, 32, 98, 121]⟩)) (.string (⟨#[102, 105, 110, 105, 115, 104, 101, 100, 32, 98, 121]⟩)) (some 23) ?_))))
  refine all_true ((by decide)) ?_
  refine iQ 1 (iE 34 [(1, Ba pa), (2, Ba pb), (6, Ba false), (7, .d (Sv (⟨#[102, 105, 110, 105, 115, 104, 101, 100, 32, 98, 121]⟩))), (8, Ba false), (11, Ba false), (16, Ba false), (22, Ba true)] [] ?_)
  refine iT (vc_skip (seq_n (iT (vc_seqr rfl (iQ 1 (iU .not (.bool pa) (some 27) ?_))))))
  intro c27 hc27
  refine iQ 1 (iE 34 [(1, Ba pa), (2, Ba pb), (6, Ba c27), (7, .d (Sv (⟨#[102, 105, 110, 105, 115, 104, 101, 100, 32, 98, 121]⟩))), (8, Ba false), (11, Ba false), (16, Ba false), (22, Ba true)] [] ?_)
  refine vc_ret (block_r (seq_r (iR (Bv c27) ?_)))
  exact ⟨_, rfl, by grind⟩
theorem m_includes {pa pb : Bool} : HasC Tryz.prog 6 [.v (.string (⟨#[105, 110, 99, 108, 117, 100, 101, 115]⟩)), .v (.bool pa), .v (.bool pb)] (fun r => ∃ c, r = .v (.bool c) ∧ (c = true ↔ (!pa) = true)) := by
  refine HasC.of [] (fn := Tryz.f6) tyOk mixed (fun args w => Tryz.call6 args w) Tryz.func6 rfl (by kernel_rfl) (Nat.le_of_ble_eq_true rfl) (⟨_, _, rfl, Iff.rfl⟩) ?_
  refine vc_seqr rfl (iQ 1 (iE 34 [(0, .d (Sv (⟨#[105, 110, 99, 108, 117, 100, 101, 115]⟩))), (1, Ba pa), (2, Ba pb), (6, Ba false)] [] ?_))
  refine vc_seq (vc_seqr rfl (iQ 1 (iE 34 [(1, Ba pa), (2, Ba pb), (6, Ba false), (7, .d (Sv (⟨#[105, 110, 99, 108, 117, 100, 101, 115]⟩)))] [] ?_)))
  refine vc_block (vc_seq (vc_seqr rfl (iB .eql 9 (.string (⟨#[105, 110, 99, 108, 117, 100, 101, 115]⟩)) (.string (⟨#[98, 101, 102, 111, 114, 101]⟩)) (some 9) ?_)))
  refine all_false ((by decide)) ?_
  refine iQ 1 (iE 34 [(1, Ba pa), (2, Ba pb), (6, Ba false), (7, .d (Sv (⟨#[105, 110, 99, 108, 117, 100, 101, 115]⟩))), (8, Ba false)] [] ?_)
  refine iF (vc_reg rfl (iB .eql 9 (.string (⟨#[105, 110, 99, 108, 117, 100, 101, 115]⟩)) (.string (⟨#[97, 102, 116, 101, 114]⟩)) (some 10) ?_))
  refine all_false ((by decide)) ?_
  refine iQ 1 (iE 34 [(1, Ba pa), (2, Ba pb), (6, Ba false), (7, .d (Sv (⟨#[105, 110, 99, 108, 117, 100, 101, 115]⟩))), (8, Ba false)] [] ?_)
  refine seq_n (iF (vc_seqr rfl (iB .eql 9 (.string (⟨#[105, 110, 99, 108, 117, 100, 101, 115]⟩)) (.string (⟨#[99, 111, 105, 110, 99, 105, 100, 101, 115]⟩)) (some 12) ?_)))
  refine all_false ((by decide)) ?_
  refine iQ 1 (iE 34 [(1, Ba pa), (2, Ba pb), (6, Ba false), (7, .d (Sv (⟨#[105, 110, 99, 108, 117, 100, 101, 115]⟩))), (8, Ba false), (11, Ba false)] [] ?_)
  refine iF (vc_seq (vc_seqr rfl (iB .eql 9 (.string (⟨#[105, 110, 99, 108, 117, 100, 101, 115]⟩)) (.string (⟨#[102, 105, 110, 105, 115, 104, 101, 115]⟩)) (some 17) ?_)))
  refine all_false ((by decide)) ?_
  refine iQ 1 (iE 34 [(1, Ba pa), (2, Ba pb), (6, Ba false), (7, .d (Sv (⟨#[105, 110, 99, 108, 117, 100, 101, 115]⟩))), (8, Ba false), (11, Ba false), (16, Ba false)] [] ?_)
  refine iF (vc_seqr rfl (iB .eql 9 (.string (⟨#[105, 110, 99, 108, 117, 100, 101, 115]⟩)) (.string (⟨#[115, 116, 97, 114, 116, 115]⟩)) (some 18) ?_))
  refine all_false ((by decide)) ?_
  refine iQ 1 (iE 34 [(1, Ba pa), (2, Ba pb), (6, Ba false), (7, .d (Sv (⟨#[105, 110, 99, 108, 117, 100, 101, 115]⟩))), (8, Ba false), (11, Ba false), (16, Ba false)] [] ?_)
  refine iF (vc_reg rfl (iB .eql 9 (.string (⟨#[105, 110, 99, 108, 117, 100, 101, 115]⟩)) (.string (⟨#[100, 117, 114, 105, 110, 103]⟩)) (some 19) ?_))
  refine all_false ((by decide)) ?_
  refine iQ 1 (iE 34 [(1, Ba pa), (2, Ba pb), (6, Ba false), (7, .d (Sv (⟨#[105, 110, 99, 108, 117, 100, 101, 115]⟩))), (8, Ba false), (11, Ba false), (16, Ba false)] [] ?_)
  refine seq_n (iF (vc_seq (vc_seqr rfl (iB .eql 9 (.string (⟨#[105, 110, 99, 108, 117, 100, 101, 115]⟩)) (.string (⟨#[102, 105, 110, 105, 115, 104, 101, 100, 32, 98, 121]⟩)) (some 23) ?_))))
  refine all_false ((by decide)) ?_
  refine iQ 1 (iE 34 [(1, Ba pa), (2, Ba pb), (6, Ba false), (7, .d (Sv (⟨#[105, 110, 99, 108, 117, 100, 101, 115]⟩))), (8, Ba false), (11, Ba false), (16, Ba false), (22, Ba false)] [] ?_)
  refine iF (vc_seqr rfl (iB .eql 9 (.string (⟨#[105, 110, 99, 108, 117, 100, 101, 115]⟩)) (.string (⟨#[115, 116, 97, 114, 116, 101, 100, 32, 98, 121]⟩)) (some 24) ?_))
  refine all_false ((by decide)) ?_
  refine iQ 1 (iE 34 [(1, Ba pa), (2, Ba pb), (6, Ba false), (7, .d (Sv (⟨#[105, 110, 99, 108, 117, 100, 101, 115]⟩))), (8, Ba false), (11, Ba false), (16, Ba false), (22, Ba false)] [] ?_)
  refine iF (vc_reg rfl (iB .eql 9 (.string (⟨#[105, 110, 99, 108, 117, 100, 101, 115]⟩)) (.string (⟨#[105, 110, 99, 108, 117, 100, 101, 115]⟩)) (some 25) ?_))
  refine all_true ((by decide)) ?_
  refine iQ 1 (iE 34 [(1, Ba pa), (2, Ba pb), (6, Ba false), (7, .d (Sv (⟨#[105, 110, 99, 108, 117, 100, 101, 115]⟩))), (8, Ba false), (11, Ba false), (16, Ba false), (22, Ba true)] [] ?_)
  refine seq_n (iT (vc_seqr rfl (iQ 1 (iU .not (.bool pa) (some 27) ?_))))
  intro c27 hc27
  refine iQ 1 (iE 34 [(1, Ba pa), (2, Ba pb), (6, Ba c27), (7, .d (Sv (⟨#[105, 110, 99, 108, 117, 100, 101, 115]⟩))), (8, Ba false), (11, Ba false), (16, Ba false), (22, Ba true)] [] ?_)
  refine vc_ret (block_r (seq_r (iR (Bv c27) ?_)))
  exact ⟨_, rfl, by grind⟩
theorem m_during {pa pb : Bool} : HasC Tryz.prog 6 [.v (.string (⟨#[100, 117, 114, 105, 110, 103]⟩)), .v (.bool pa), .v (.bool pb)] (fun r => ∃ c, r = .v (.bool c) ∧ (c = true ↔ (!pb) = true)) := by
  refine HasC.of [] (fn := Tryz.f6) tyOk mixed (fun args w => Tryz.call6 args w) Tryz.func6 rfl (by kernel_rfl) (Nat.le_of_ble_eq_true rfl) (⟨_, _, rfl, Iff.rfl⟩) ?_
  refine vc_seqr rfl (iQ 1 (iE 34 [(0, .d (Sv (⟨#[100, 117, 114, 105, 110, 103]⟩))), (1, Ba pa), (2, Ba pb), (6, Ba false)] [] ?_))
  refine vc_seq (vc_seqr rfl (iQ 1 (iE 34 [(1, Ba pa), (2, Ba pb), (6, Ba false), (7, .d (Sv (⟨#[100, 117, 114, 105, 110, 103]⟩)))] [] ?_)))
  refine vc_block (vc_seq (vc_seqr rfl (iB .eql 9 (.string (⟨#[100, 117, 114, 105, 110, 103]⟩)) (.string (⟨#[98, 101, 102, 111, 114, 101]⟩)) (some 9) ?_)))
  refine all_false ((by decide)) ?_
  refine iQ 1 (iE 34 [(1, Ba pa), (2, Ba pb), (6, Ba false), (7, .d (Sv (⟨#[100, 117, 114, 105, 110, 103]⟩))), (8, Ba false)] [] ?_)
  refine iF (vc_reg rfl (iB .eql 9 (.string (⟨#[100, 117, 114, 105, 110, 103]⟩)) (.string (⟨#[97, 102, 116, 101, 114]⟩)) (some 10) ?_))
  refine all_false ((by decide)) ?_
  refine iQ 1 (iE 34 [(1, Ba pa), (2, Ba pb), (6, Ba false), (7, .d (Sv (⟨#[100, 117, 114, 105, 110, 103]⟩))), (8, Ba false)] [] ?_)
  refine seq_n (iF (vc_seqr rfl (iB .eql 9 (.string (⟨#[100, 117, 114, 105, 110, 103]⟩)) (.string (⟨#[99, 111, 105, 110, 99, 105, 100, 101, 115]⟩)) (some 12) ?_)))
  refine all_false ((by decide)) ?_
  refine iQ 1 (iE 34 [(1, Ba pa), (2, Ba pb), (6, Ba false), (7, .d (Sv (⟨#[100, 117, 114, 105, 110, 103]⟩))), (8, Ba false), (11, Ba false)] [] ?_)
  refine iF (vc_seq (vc_seqr rfl (iB .eql 9 (.string (⟨#[100, 117, 114, 105, 110, 103]⟩)) (.string (⟨#[102, 105, 110, 105, 115, 104, 101, 115]⟩)) (some 17) ?_)))
  refine all_false ((by decide)) ?_
  refine iQ 1 (iE 34 [(1, Ba pa), (2, Ba pb), (6, Ba false), (7, .d (Sv (⟨#[100, 117, 114, 105, 110, 103]⟩))), (8, Ba false), (11, Ba false), (16, Ba false)] [] ?_)
  refine iF (vc_seqr rfl (iB .eql 9 (.string (⟨#[100, 117, 114, 105, 110, 103]⟩)) (.string (⟨#[115, 116, 97, 114, 116, 115]⟩)) (some 18) ?_))
  refine all_false ((by decide)) ?_
  refine iQ 1 (iE 34 [(1, Ba pa), (2, Ba pb), (6, Ba false), (7, .d (Sv (⟨#[100, 117, 114, 105, 110, 103]⟩))), (8, Ba false), (11, Ba false), (16, Ba false)] [] ?_)
  refine iF (vc_reg rfl (iB .eql 9 (.string (⟨#[100, 117, 114, 105, 110, 103]⟩)) (.string (⟨#[100, 117, 114, 105, 110, 103]⟩)) (some 19) ?_))
  refine all_true ((by decide)) ?_
  refine iQ 1 (iE 34 [(1, Ba pa), (2, Ba pb), (6, Ba false), (7, .d (Sv (⟨#[100, 117, 114, 105, 110, 103]⟩))), (8, Ba false), (11, Ba false), (16, Ba true)] [] ?_)
  refine seq_n (iT (vc_seqr rfl (iQ 1 (iU .not (.bool pb) (some 21) ?_))))
  intro c21 hc21
  refine iQ 1 (iE 34 [(1, Ba pa), (2, Ba pb), (6, Ba c21), (7, .d (Sv (⟨#[100, 117, 114, 105, 110, 103]⟩))), (8, Ba false), (11, Ba false), (16, Ba true)] [] ?_)
  refine vc_ret (block_r (seq_r (iR (Bv c21) ?_)))
  exact ⟨_, rfl, by grind⟩
theorem m_starts {pa pb : Bool} : HasC Tryz.prog 6 [.v (.string (⟨#[115, 116, 97, 114, 116, 115]⟩)), .v (.bool pa), .v (.bool pb)] (fun r => ∃ c, r = .v (.bool c) ∧ (c = true ↔ (!pb) = true)) := by
  refine HasC.of [] (fn := Tryz.f6) tyOk mixed (fun args w => Tryz.call6 args w) Tryz.func6 rfl (by kernel_rfl) (Nat.le_of_ble_eq_true rfl) (⟨_, _, rfl, Iff.rfl⟩) ?_
  refine vc_seqr rfl (iQ 1 (iE 34 [(0, .d (Sv (⟨#[115, 116, 97, 114, 116, 115]⟩))), (1, Ba pa), (2, Ba pb), (6, Ba false)] [] ?_))
  refine vc_seq (vc_seqr rfl (iQ 1 (iE 34 [(1, Ba pa), (2, Ba pb), (6, Ba false), (7, .d (Sv (⟨#[115, 116, 97, 114, 116, 115]⟩)))] [] ?_)))
  refine vc_block (vc_seq (vc_seqr rfl (iB .eql 9 (.string (⟨#[115, 116, 97, 114, 116, 115]⟩)) (.string (⟨#[98, 101, 102, 111, 114, 101]⟩)) (some 9) ?_)))
  refine all_false ((by decide)) ?_
  refine iQ 1 (iE 34 [(1, Ba pa), (2, Ba pb), (6, Ba false), (7, .d (Sv (⟨#[115, 116, 97, 114, 116, 115]⟩))), (8, Ba false)] [] ?_)
  refine iF (vc_reg rfl (iB .eql 9 (.string (⟨#[115, 116, 97, 114, 116, 115]⟩)) (.string (⟨#[97, 102, 116, 101, 114]⟩)) (some 10) ?_))
  refine all_false ((by decide)) ?_
  refine iQ 1 (iE 34 [(1, Ba pa), (2, Ba pb), (6, Ba false), (7, .d (Sv (⟨#[115, 116, 97, 114, 116, 115]⟩))), (8, Ba false)] [] ?_)
  refine seq_n (iF (vc_seqr rfl (iB .eql 9 (.string (⟨#[115, 116, 97, 114, 116, 115]⟩)) (.string (⟨#[99, 111, 105, 110, 99, 105, 100, 101, 115]⟩)) (some 12) ?_)))
  refine all_false ((by decide)) ?_
  refine iQ 1 (iE 34 [(1, Ba pa), (2, Ba pb), (6, Ba false), (7, .d (Sv (⟨#[115, 116, 97, 114, 116, 115]⟩))), (8, Ba false), (11, Ba false)] [] ?_)
  refine iF (vc_seq (vc_seqr rfl (iB .eql 9 (.string (⟨#[115, 116, 97, 114, 116, 115]⟩)) (.string (⟨#[102, 105, 110, 105, 115, 104, 101, 115]⟩)) (some 17) ?_)))
  refine all_false ((by decide)) ?_
  refine iQ 1 (iE 34 [(1, Ba pa), (2, Ba pb), (6, Ba false), (7, .d (Sv (⟨#[115, 116, 97, 114, 116, 115]⟩))), (8, Ba false), (11, Ba false), (16, Ba false)] [] ?_)
  refine iF (vc_seqr rfl (iB .eql 9 (.string (⟨#[115, 116, 97, 114, 116, 115]⟩)) (.string (⟨#[115, 116, 97, 114, 116, 115]⟩)) (some 18) ?_))
  refine all_true ((by decide)) ?_
  refine iQ 1 (iE 34 [(1, Ba pa), (2, Ba pb), (6, Ba false), (7, .d (Sv (⟨#[115, 116, 97, 114, 116, 115]⟩))), (8, Ba false), (11, Ba false), (16, Ba true)] [] ?_)
  refine iT (vc_skip (seq_n (iT (vc_seqr rfl (iQ 1 (iU .not (.bool pb) (some 21) ?_))))))
  intro c21 hc21
  refine iQ 1 (iE 34 [(1, Ba pa), (2, Ba pb), (6, Ba c21), (7, .d (Sv (⟨#[115, 116, 97, 114, 116, 115]⟩))), (8, Ba false), (11, Ba false), (16, Ba true)] [] ?_)
  refine vc_ret (block_r (seq_r (iR (Bv c21) ?_)))
  exact ⟨_, rfl, by grind⟩
theorem m_started_by {pa pb : Bool} : HasC Tryz.prog 6 [.v (.string (⟨#[115, 116, 97, 114, 116, 101, 100, 32, 98, 121]⟩)), .v (.bool pa), .v (.bool pb)] (fun r => ∃ c, r = .v (.bool c) ∧ (c = true ↔ (!pa) = true)) := by
  refine HasC.of [] (fn := Tryz.f6) tyOk mixed (fun args w => Tryz.call6 args w) Tryz.func6 rfl (by kernel_rfl) (Nat.le_of_ble_eq_true rfl) (⟨_, _, rfl, Iff.rfl⟩) ?_
  refine vc_seqr rfl (iQ 1 (iE 34 [(0, .d (Sv (⟨#[115, 116, 97, 114, 116, 101, 100, 32, 98, 121]⟩))), (1, Ba pa), (2, Ba pb), (6, Ba false)] [] ?_))
  refine vc_seq (vc_seqr rfl (iQ 1 (iE 34 [(1, Ba pa), (2, Ba pb), (6, Ba false), (7, .d (Sv (⟨#[115, 116, 97, 114, 116, 101, 100, 32, 98, 121]⟩)))] [] ?_)))
  refine vc_block (vc_seq (vc_seqr rfl (iB .eql 9 (.string (⟨#[115, 116, 97, 114, 116, 101, 100, 32, 98, 121]⟩)) (.string (⟨#[98, 101, 102, 111, 114, 101]⟩)) (some 9) ?_)))
  refine all_false ((by decide)) ?_
  refine iQ 1 (iE 34 [(1, Ba pa), (2, Ba pb), (6, Ba false), (7, .d (Sv (⟨#[115, 116, 97, 114, 116, 101, 100, 32, 98, 121]⟩))), (8, Ba false)] [] ?_)
  refine iF (vc_reg rfl (iB .eql 9 (.string (⟨#[115, 116, 97, 114, 116, 101, 100, 32, 98, 121]⟩)) (.string (⟨#[97, 102, 116, 101, 114]⟩)) (some 10) ?_))
  refine all_false ((by decide)) ?_
  refine iQ 1 (iE 34 [(1, Ba pa), (2, Ba pb), (6, Ba false), (7, .d (Sv (⟨#[115, 116, 97, 114, 116, 101, 100, 32, 98, 121]⟩))), (8, Ba false)] [] ?_)
  refine seq_n (iF (vc_seqr rfl (iB .eql 9 (.string (⟨#[115, 116, 97, 114, 116, 101, 100, 32, 98, 121]⟩)) (.string (⟨#[99, 111, 105, 110, 99, 105, 100, 101, 115]⟩)) (some 12) ?_)))
  refine all_false ((by decide)) ?_
  refine iQ 1 (iE 34 [(1, Ba pa), (2, Ba pb), (6, Ba false), (7, .d (Sv (⟨#[115, 116, 97, 114, 116, 101, 100, 32, 98, 121]⟩))), (8, Ba false), (11, Ba false)] [] ?_)
  refine iF (vc_seq (vc_seqr rfl (iB .eql 9 (.string (⟨#[115, 116, 97, 114, 116, 101, 100, 32, 98, 121]⟩)) (.string (⟨#[102, 105, 110, 105, 115, 104, 101, 115]⟩)) (some 17) ?_)))
  refine all_false ((by decide)) ?_
  refine iQ 1 (iE 34 [(1, Ba pa), (2, Ba pb), (6, Ba false), (7, .d (Sv (⟨#[115, 116, 97, 114, 116, 101, 100, 32, 98, 121]⟩))), (8, Ba false), (11, Ba false), (16, Ba false)] [] ?_)
  refine iF (vc_seqr rfl (iB .eql 9 (.string (⟨#[115, 116, 97, 114, 116, 101, 100, 32, 98, 121]⟩)) (.string (⟨#[115, 116, 97, 114, 116, 115]⟩)) (some 18) ?_))
  refine all_false ((by decide)) ?_
  refine iQ 1 (iE 34 [(1, Ba pa), (2, Ba pb), (6, Ba false), (7, .d (Sv (⟨#[115, 116, 97, 114, 116, 101, 100, 32, 98, 121]⟩))), (8, Ba false), (11, Ba false), (16, Ba false)] [] ?_)
  refine iF (vc_reg rfl (iB .eql 9 (.string (⟨#[115, 116, 97, 114, 116, 101, 100, 32, 98, 121]⟩)) (.string (⟨#[100, 117, 114, 105, 110, 103]⟩)) (some 19) ?_))
  refine all_false ((by decide)) ?_
  refine iQ 1 (iE 34 [(1, Ba pa), (2, Ba pb), (6, Ba false), (7, .d (Sv (⟨#[115, 116, 97, 114, 116, 101, 100, 32, 98, 121]⟩))), (8, Ba false), (11, Ba false), (16, Ba false)] [] ?_)
  refine seq_n (iF (vc_seq (vc_seqr rfl (iB .eql 9 (.string (⟨#[115, 116, 97, 114, 116, 101, 100, 32, 98, 121]⟩)) (.string (⟨#[102, 105, 110, 105, 115, 104, 101, 100, 32, 98, 121]⟩)) (some 23) ?_))))
  refine all_false ((by decide)) ?_
  refine iQ 1 (iE 34 [(1, Ba pa), (2, Ba pb), (6, Ba false), (7, .d (Sv (⟨#[115, 116, 97, 114, 116, 101, 100, 32, 98, 121]⟩))), (8, Ba false), (11, Ba false), (16, Ba false), (22, Ba false)] [] ?_)
  refine iF (vc_seqr rfl (iB .eql 9 (.string (⟨#[115, 116, 97, 114, 116, 101, 100, 32, 98, 121]⟩)) (.string (⟨#[115, 116, 97, 114, 116, 101, 100, 32, 98, 121]⟩)) (some 24) ?_))
  refine all_true ((by decide)) ?_
  refine iQ 1 (iE 34 [(1, Ba pa), (2, Ba pb), (6, Ba false), (7, .d (Sv (⟨#[115, 116, 97, 114, 116, 101, 100, 32, 98, 121]⟩))), (8, Ba false), (11, Ba false), (16, Ba false), (22, Ba true)] [] ?_)
  refine iT (vc_skip (seq_n (iT (vc_seqr rfl (iQ 1 (iU .not (.bool pa) (some 27) ?_))))))
  intro c27 hc27
  refine iQ 1 (iE 34 [(1, Ba pa), (2, Ba pb), (6, Ba c27), (7, .d (Sv (⟨#[115, 116, 97, 114, 116, 101, 100, 32, 98, 121]⟩))), (8, Ba false), (11, Ba false), (16, Ba false), (22, Ba true)] [] ?_)
  refine vc_ret (block_r (seq_r (iR (Bv c27) ?_)))
  exact ⟨_, rfl, by grind⟩
theorem m_coincides {pa pb : Bool} : HasC Tryz.prog 6 [.v (.string (⟨#[99, 111, 105, 110, 99, 105, 100, 101, 115]⟩)), .v (.bool pa), .v (.bool pb)] (fun r => ∃ c, r = .v (.bool c) ∧ (c = true ↔ (pa == pb) = true)) := by
  refine HasC.of [] (fn := Tryz.f6) tyOk mixed (fun args w => Tryz.call6 args w) Tryz.func6 rfl (by kernel_rfl) (Nat.le_of_ble_eq_true rfl) (⟨_, _, rfl, Iff.rfl⟩) ?_
  refine vc_seqr rfl (iQ 1 (iE 34 [(0, .d (Sv (⟨#[99, 111, 105, 110, 99, 105, 100, 101, 115]⟩))), (1, Ba pa), (2, Ba pb), (6, Ba false)] [] ?_))
  refine vc_seq (vc_seqr rfl (iQ 1 (iE 34 [(1, Ba pa), (2, Ba pb), (6, Ba false), (7, .d (Sv (⟨#[99, 111, 105, 110, 99, 105, 100, 101, 115]⟩)))] [] ?_)))
  refine vc_block (vc_seq (vc_seqr rfl (iB .eql 9 (.string (⟨#[99, 111, 105, 110, 99, 105, 100, 101, 115]⟩)) (.string (⟨#[98, 101, 102, 111, 114, 101]⟩)) (some 9) ?_)))
  refine all_false ((by decide)) ?_
  refine iQ 1 (iE 34 [(1, Ba pa), (2, Ba pb), (6, Ba false), (7, .d (Sv (⟨#[99, 111, 105, 110, 99, 105, 100, 101, 115]⟩))), (8, Ba false)] [] ?_)
  refine iF (vc_reg rfl (iB .eql 9 (.string (⟨#[99, 111, 105, 110, 99, 105, 100, 101, 115]⟩)) (.string (⟨#[97, 102, 116, 101, 114]⟩)) (some 10) ?_))
  refine all_false ((by decide)) ?_
  refine iQ 1 (iE 34 [(1, Ba pa), (2, Ba pb), (6, Ba false), (7, .d (Sv (⟨#[99, 111, 105, 110, 99, 105, 100, 101, 115]⟩))), (8, Ba false)] [] ?_)
  refine seq_n (iF (vc_seqr rfl (iB .eql 9 (.string (⟨#[99, 111, 105, 110, 99, 105, 100, 101, 115]⟩)) (.string (⟨#[99, 111, 105, 110, 99, 105, 100, 101, 115]⟩)) (some 12) ?_)))
  refine all_true ((by decide)) ?_
  refine iQ 1 (iE 34 [(1, Ba pa), (2, Ba pb), (6, Ba false), (7, .d (Sv (⟨#[99, 111, 105, 110, 99, 105, 100, 101, 115]⟩))), (8, Ba false), (11, Ba true)] [] ?_)
  refine iT (vc_seqr rfl (iQ 2 (iB .eql 4 (.bool pa) (.bool pb) (some 15) ?_)))
  intro c15 hc15
  refine iQ 1 (iE 34 [(1, Ba pa), (2, Ba pb), (6, Ba c15), (7, .d (Sv (⟨#[99, 111, 105, 110, 99, 105, 100, 101, 115]⟩))), (8, Ba false), (11, Ba true)] [] ?_)
  refine vc_ret (block_r (seq_r (iR (Bv c15) ?_)))
  exact ⟨_, rfl, by grind⟩
theorem m_may {w : ByteArray} (hw : w ∈ words) {pa pb : Bool} : HasC Tryz.prog 6 [.v (.string w), .v (.bool pa), .v (.bool pb)] (fun r => ∃ c, r = .v (.bool c) ∧ (c = true ↔ nullB w pa pb = false)) := by
  simp only [words, List.mem_cons, List.not_mem_nil, or_false] at hw
  rcases hw with rfl | rfl | rfl | rfl | rfl | rfl | rfl | rfl | rfl | rfl | rfl | rfl | rfl | rfl
  · exact m_before.mono fun y ⟨c, h1, h2⟩ => ⟨c, h1, h2.trans (by cases pa <;> cases pb <;> decide)⟩
  · exact m_after.mono fun y ⟨c, h1, h2⟩ => ⟨c, h1, h2.trans (by cases pa <;> cases pb <;> decide)⟩
  · exact m_meets.mono fun y ⟨c, h1, h2⟩ => ⟨c, h1, h2.trans (by cases pa <;> cases pb <;> decide)⟩
  · exact m_met_by.mono fun y ⟨c, h1, h2⟩ => ⟨c, h1, h2.trans (by cases pa <;> cases pb <;> decide)⟩
  · exact m_overlaps.mono fun y ⟨c, h1, h2⟩ => ⟨c, h1, h2.trans (by cases pa <;> cases pb <;> decide)⟩
  · exact m_overlaps_before.mono fun y ⟨c, h1, h2⟩ => ⟨c, h1, h2.trans (by cases pa <;> cases pb <;> decide)⟩
  · exact m_overlaps_after.mono fun y ⟨c, h1, h2⟩ => ⟨c, h1, h2.trans (by cases pa <;> cases pb <;> decide)⟩
  · exact m_finishes.mono fun y ⟨c, h1, h2⟩ => ⟨c, h1, h2.trans (by cases pa <;> cases pb <;> decide)⟩
  · exact m_finished_by.mono fun y ⟨c, h1, h2⟩ => ⟨c, h1, h2.trans (by cases pa <;> cases pb <;> decide)⟩
  · exact m_includes.mono fun y ⟨c, h1, h2⟩ => ⟨c, h1, h2.trans (by cases pa <;> cases pb <;> decide)⟩
  · exact m_during.mono fun y ⟨c, h1, h2⟩ => ⟨c, h1, h2.trans (by cases pa <;> cases pb <;> decide)⟩
  · exact m_starts.mono fun y ⟨c, h1, h2⟩ => ⟨c, h1, h2.trans (by cases pa <;> cases pb <;> decide)⟩
  · exact m_started_by.mono fun y ⟨c, h1, h2⟩ => ⟨c, h1, h2.trans (by cases pa <;> cases pb <;> decide)⟩
  · exact m_coincides.mono fun y ⟨c, h1, h2⟩ => ⟨c, h1, h2.trans (by cases pa <;> cases pb <;> decide)⟩
def wk (k : Nat) : ByteArray := match words[k]? with
  | some w => w
  | none => w_before
theorem mem_wk (k : Nat) : wk k ∈ words := by
  unfold wk
  split
  · rename_i w h; exact List.mem_of_getElem? h
  · exact mem_before
def wds : List DV := words.map fun w => .v (.string w)
theorem wk_get {k : Nat} {c : Int} (e : c = k) (h : k < 14) : wds[c.toNat]? = some (.v (.string (wk k))) := by
  subst e
  unfold wds wk
  have h14 : words.length = 14 := rfl
  have e : words[k]? = some words[k] := List.getElem?_eq_getElem (by omega)
  rw [List.getElem?_map, Int.toNat_natCast, e]
  rfl
theorem c_words  : HasC Tryz.prog 5 [] (fun r => r = .sl 14 wds) := by
  refine HasC.of [] (fn := Tryz.f5) tyOk mixed (fun args w => Tryz.call5 args w) Tryz.func5 rfl (by kernel_rfl) (Nat.le_of_ble_eq_true rfl) (⟨_, rfl⟩) ?_
  refine vc_seqr rfl (iQ 1 (iE 2 [(0, .w (.sl 0 []) none)] [] ?_))
  refine vc_seqr rfl (iQ 2 (iE 2 [(0, .w (.sl 14 [.v (.string (⟨#[98, 101, 102, 111, 114, 101]⟩)), .v (.string (⟨#[97, 102, 116, 101, 114]⟩)), .v (.string (⟨#[109, 101, 101, 116, 115]⟩)), .v (.string (⟨#[109, 101, 116, 32, 98, 121]⟩)), .v (.string (⟨#[111, 118, 101, 114, 108, 97, 112, 115]⟩)), .v (.string (⟨#[111, 118, 101, 114, 108, 97, 112, 115, 32, 98, 101, 102, 111, 114, 101]⟩)), .v (.string (⟨#[111, 118, 101, 114, 108, 97, 112, 115, 32, 97, 102, 116, 101, 114]⟩)), .v (.string (⟨#[102, 105, 110, 105, 115, 104, 101, 115]⟩)), .v (.string (⟨#[102, 105, 110, 105, 115, 104, 101, 100, 32, 98, 121]⟩)), .v (.string (⟨#[105, 110, 99, 108, 117, 100, 101, 115]⟩)), .v (.string (⟨#[100, 117, 114, 105, 110, 103]⟩)), .v (.string (⟨#[115, 116, 97, 114, 116, 115]⟩)), .v (.string (⟨#[115, 116, 97, 114, 116, 101, 100, 32, 98, 121]⟩)), .v (.string (⟨#[99, 111, 105, 110, 99, 105, 100, 101, 115]⟩))]) none)] [] ?_))
  refine vc_ret (iR (.sl 14 [.v (.string (⟨#[98, 101, 102, 111, 114, 101]⟩)), .v (.string (⟨#[97, 102, 116, 101, 114]⟩)), .v (.string (⟨#[109, 101, 101, 116, 115]⟩)), .v (.string (⟨#[109, 101, 116, 32, 98, 121]⟩)), .v (.string (⟨#[111, 118, 101, 114, 108, 97, 112, 115]⟩)), .v (.string (⟨#[111, 118, 101, 114, 108, 97, 112, 115, 32, 98, 101, 102, 111, 114, 101]⟩)), .v (.string (⟨#[111, 118, 101, 114, 108, 97, 112, 115, 32, 97, 102, 116, 101, 114]⟩)), .v (.string (⟨#[102, 105, 110, 105, 115, 104, 101, 115]⟩)), .v (.string (⟨#[102, 105, 110, 105, 115, 104, 101, 100, 32, 98, 121]⟩)), .v (.string (⟨#[105, 110, 99, 108, 117, 100, 101, 115]⟩)), .v (.string (⟨#[100, 117, 114, 105, 110, 103]⟩)), .v (.string (⟨#[115, 116, 97, 114, 116, 115]⟩)), .v (.string (⟨#[115, 116, 97, 114, 116, 101, 100, 32, 98, 121]⟩)), .v (.string (⟨#[99, 111, 105, 110, 99, 105, 100, 101, 115]⟩))]) ?_)
  rfl
theorem HI_no {w : ByteArray} {a0 a1 b0 b1 : Int} {p0 p1 q0 q1 pa pb : Bool} (h : ¬ nullB w pa pb = false) : ¬ (HI w a0 a1 p0 p1 pa b0 b1 q0 q1 pb - 1 ≠ -1) := by
  have h : nullB w pa pb = true := by simpa using h
  rw [HI, if_pos h]
  decide
theorem HI_yes {w : ByteArray} {a0 a1 b0 b1 : Int} {p0 p1 q0 q1 pa pb : Bool} (h : nullB w pa pb = false) (h2 : hB w a0 (hiV a0 a1 pa) (pa || p0) (pa || p1) b0 (hiV b0 b1 pb) (pb || q0) (pb || q1) = true) : ¬ (HI w a0 a1 p0 p1 pa b0 b1 q0 q1 pb - 1 ≠ 1) := by
  rw [HI, if_neg (by rw [h]; decide), h2]
  decide
theorem HI_nay {w : ByteArray} {a0 a1 b0 b1 : Int} {p0 p1 q0 q1 pa pb : Bool} (h : nullB w pa pb = false) (h2 : ¬ hB w a0 (hiV a0 a1 pa) (pa || p0) (pa || p1) b0 (hiV b0 b1 pb) (pb || q0) (pb || q1) = true) : ¬ (HI w a0 a1 p0 p1 pa b0 b1 q0 q1 pb - 1 ≠ 0) := by
  have h3 : hB w a0 (hiV a0 a1 pa) (pa || p0) (pa || p1) b0 (hiV b0 b1 pb) (pb || q0) (pb || q1) = false := by simpa using h2
  rw [HI, if_neg (by rw [h]; decide), h3]
  decide
set_option maxHeartbeats 3200000 in
theorem c_Numbers {a0 a1 b0 b1 : Int} {p0 p1 q0 q1 pa pb : Bool} (ha0 : In16 a0) (ha1 : In16 a1) (hb0 : In16 b0) (hb1 : In16 b1) : HasC Tryz.prog 3 [.agg [.v (.int .i16 a0), .v (.int .i16 a1), .v (.bool p0), .v (.bool p1), .v (.bool pa)], .agg [.v (.int .i16 b0), .v (.int .i16 b1), .v (.bool q0), .v (.bool q1), .v (.bool pb)]] (fun r => r = .v (.bool true)) := by
  refine HasC.of [3] (fn := Tryz.f3) tyOk mixed (fun args w => Tryz.call3 args w) Tryz.func3 rfl (by kernel_rfl) (Nat.le_of_ble_eq_true rfl) (⟨_, rfl⟩) ?_
  refine vc_seqr rfl (iQ 3 (iE 54 [(2, .p 2 0), (3, .p 3 0), (4, Ba false)] [(2, [.v (.int .i16 a0), .v (.int .i16 a1), Bv p0, Bv p1, Bv pa]), (3, [.v (.int .i16 b0), .v (.int .i16 b1), Bv q0, Bv q1, Bv pb])] ?_))
  refine vc_seq (vc_seqr rfl (iC 4 [] (some 10) (c_awake) ?_))
  rintro _ rfl
  refine iU .not (.bool true) (some 11) ?_
  refine all_false ((by simp)) ?_
  refine iE 54 [(2, .p 2 0), (3, .p 3 0), (4, Ba false), (11, Ba false)] [(2, [.v (.int .i16 a0), .v (.int .i16 a1), Bv p0, Bv p1, Bv pa]), (3, [.v (.int .i16 b0), .v (.int .i16 b1), Bv q0, Bv q1, Bv pb])] ?_
  refine iF (vc_skip (seq_n (vc_seqrx rfl (by kernel_rfl) ?_)))
  refine iQ 6 (iE 54 [(2, .p 2 0), (3, .p 3 0), (4, Ba false), (5, .p 5 0), (6, .p 6 0), (11, Ba false)] [(2, [.v (.int .i16 a0), .v (.int .i16 a1), Bv p0, Bv p1, Bv pa]), (3, [.v (.int .i16 b0), .v (.int .i16 b1), Bv q0, Bv q1, Bv pb]), (5, [.v (.int .i16 a0), .v (.int .i16 a1), Bv p0, Bv p1, Bv pa]), (6, [.v (.int .i16 b0), .v (.int .i16 b1), Bv q0, Bv q1, Bv pb])] ?_)
  refine vc_seq (vc_seqr rfl (iQ 2 (iE 54 [(2, .p 2 0), (3, .p 3 0), (4, Ba false), (5, .p 5 0), (6, .p 6 0), (11, Ba false), (15, Ba pa)] [(2, [.v (.int .i16 a0), .v (.int .i16 a1), Bv p0, Bv p1, Bv pa]), (3, [.v (.int .i16 b0), .v (.int .i16 b1), Bv q0, Bv q1, Bv pb]), (5, [.v (.int .i16 a0), .v (.int .i16 a1), Bv p0, Bv p1, Bv pa]), (6, [.v (.int .i16 b0), .v (.int .i16 b1), Bv q0, Bv q1, Bv pb])] ?_)))
  cases pa
  · skip
    refine iF (vc_skip (seq_n (vc_seq (vc_seqr rfl (iQ 2 (iE 54 [(2, .p 2 0), (3, .p 3 0), (4, Ba false), (5, .p 5 0), (6, .p 6 0), (11, Ba false), (15, Ba false), (22, Ba pb)] [(2, [.v (.int .i16 a0), .v (.int .i16 a1), Bv p0, Bv p1, Bv false]), (3, [.v (.int .i16 b0), .v (.int .i16 b1), Bv q0, Bv q1, Bv pb]), (5, [.v (.int .i16 a0), .v (.int .i16 a1), Bv p0, Bv p1, Bv false]), (6, [.v (.int .i16 b0), .v (.int .i16 b1), Bv q0, Bv q1, Bv pb])] ?_))))))
    cases pb
    · skip
      refine iF (vc_skip (seq_n (vc_seq (vc_seqr rfl (iC 5 [] (some 28) (c_words) ?_)))))
      rintro _ rfl
      refine iQ 2 (iE 54 [(2, .p 2 0), (3, .p 3 0), (4, Ba false), (5, .p 5 0), (6, .p 6 0), (11, Ba false), (15, Ba false), (22, Ba false), (28, .d (.sl 14 wds)), (29, Ia (((14 : Nat) : Int))), (30, Ia 0)] [(2, [.v (.int .i16 a0), .v (.int .i16 a1), Bv p0, Bv p1, Bv false]), (3, [.v (.int .i16 b0), .v (.int .i16 b1), Bv q0, Bv q1, Bv false]), (5, [.v (.int .i16 a0), .v (.int .i16 a1), Bv p0, Bv p1, Bv false]), (6, [.v (.int .i16 b0), .v (.int .i16 b1), Bv q0, Bv q1, Bv false])] ?_)
      refine vc_block (vc_loop 54 (fun (vcx : Nat × Int) => match vcx with | (k, c) => [(2, .p 2 0), (3, .p 3 0), (4, Ba false), (5, .p 5 0), (6, .p 6 0), (11, Ba false), (15, Ba false), (22, Ba false), (28, .d (.sl 14 wds)), (29, Ia (((14 : Nat) : Int))), (30, Ia c)]) (fun (vcx : Nat × Int) => match vcx with | (k, c) => [(2, [.v (.int .i16 a0), .v (.int .i16 a1), Bv p0, Bv p1, Bv false]), (3, [.v (.int .i16 b0), .v (.int .i16 b1), Bv q0, Bv q1, Bv false]), (5, [.v (.int .i16 a0), .v (.int .i16 a1), Bv p0, Bv p1, Bv false]), (6, [.v (.int .i16 b0), .v (.int .i16 b1), Bv q0, Bv q1, Bv false])]) (fun (vcx : Nat × Int) => match vcx with | (k, c) => c = k ∧ k ≤ 14) (fun (vcx : Nat × Int) => match vcx with | (k, c) => 14 - k) ((0, 0)) (⟨rfl, by omega⟩) (by kernel_rfl) (by kernel_rfl) ?_)
      rintro ⟨k, c⟩ hinv
      simp only at hinv
      refine vc_seqr rfl (iB .lss 3 (.int .i64 c) (.int .i64 (((14 : Nat) : Int))) (some 31) ?_)
      intro c31 hc31
      refine iE 54 [(2, .p 2 0), (3, .p 3 0), (4, Ba false), (5, .p 5 0), (6, .p 6 0), (11, Ba false), (15, Ba false), (22, Ba false), (28, .d (.sl 14 wds)), (29, Ia (((14 : Nat) : Int))), (30, Ia c), (31, Ba c31)] [(2, [.v (.int .i16 a0), .v (.int .i16 a1), Bv p0, Bv p1, Bv false]), (3, [.v (.int .i16 b0), .v (.int .i16 b1), Bv q0, Bv q1, Bv false]), (5, [.v (.int .i16 a0), .v (.int .i16 a1), Bv p0, Bv p1, Bv false]), (6, [.v (.int .i16 b0), .v (.int .i16 b1), Bv q0, Bv q1, Bv false])] ?_
      refine vc_seq ?_
      cases c31
      · replace hc31 := bf hc31
        refine iF (vc_exit (seq_x (loop_x (block_x rfl (seq_n (vc_seqr rfl (iQ 1 (iE 54 [(2, .p 2 0), (3, .p 3 0), (4, Ba true), (5, .p 5 0), (6, .p 6 0), (11, Ba false), (15, Ba false), (22, Ba false), (28, .d (.sl 14 wds)), (29, Ia (((14 : Nat) : Int))), (30, Ia c), (31, Ba false)] [(2, [.v (.int .i16 a0), .v (.int .i16 a1), Bv p0, Bv p1, Bv false]), (3, [.v (.int .i16 b0), .v (.int .i16 b1), Bv q0, Bv q1, Bv false]), (5, [.v (.int .i16 a0), .v (.int .i16 a1), Bv p0, Bv p1, Bv false]), (6, [.v (.int .i16 b0), .v (.int .i16 b1), Bv q0, Bv q1, Bv false])] ?_))))))))
        refine vc_ret (iR (Bv true) ?_)
        rfl
      · replace hc31 := bt hc31
        obtain ⟨h0, h1⟩ := hinv
        refine iT (vc_skip (seq_n (vc_seq (vc_block (vc_seqr rfl (vcI_idx1 (q := c) (n := 14) (cs := wds) (d := .v (.string (wk k))) (dst := (some 32)) (by kernel_rfl) (by omega) (wk_get h0 (by omega)) ?_))))))
        refine iQ 2 (iE 54 [(2, .p 2 0), (3, .p 3 0), (4, Ba false), (5, .p 5 0), (6, .p 6 0), (8, .d (Sv (wk k))), (11, Ba false), (15, Ba false), (22, Ba false), (28, .d (.sl 14 wds)), (29, Ia (((14 : Nat) : Int))), (30, Ia c), (31, Ba true)] [(2, [.v (.int .i16 a0), .v (.int .i16 a1), Bv p0, Bv p1, Bv false]), (3, [.v (.int .i16 b0), .v (.int .i16 b1), Bv q0, Bv q1, Bv false]), (5, [.v (.int .i16 a0), .v (.int .i16 a1), Bv p0, Bv p1, Bv false]), (6, [.v (.int .i16 b0), .v (.int .i16 b1), Bv q0, Bv q1, Bv false])] ?_)
        refine vc_seqr rfl (iQ 1 (iE 54 [(2, .p 2 0), (3, .p 3 0), (4, Ba false), (5, .p 5 0), (6, .p 6 0), (8, .d (Sv (wk k))), (9, Ia (-1)), (11, Ba false), (15, Ba false), (22, Ba false), (28, .d (.sl 14 wds)), (29, Ia (((14 : Nat) : Int))), (30, Ia c), (31, Ba true)] [(2, [.v (.int .i16 a0), .v (.int .i16 a1), Bv p0, Bv p1, Bv false]), (3, [.v (.int .i16 b0), .v (.int .i16 b1), Bv q0, Bv q1, Bv false]), (5, [.v (.int .i16 a0), .v (.int .i16 a1), Bv p0, Bv p1, Bv false]), (6, [.v (.int .i16 b0), .v (.int .i16 b1), Bv q0, Bv q1, Bv false])] ?_))
        refine vc_seq (vc_seqr rfl (iQ 5 (iC 6 [Sv (wk k), Bv false, Bv false] (some 39) (m_may (mem_wk k)) ?_)))
        rintro _ ⟨c39, rfl, hc39⟩
        refine iE 54 [(2, .p 2 0), (3, .p 3 0), (4, Ba false), (5, .p 5 0), (6, .p 6 0), (8, .d (Sv (wk k))), (9, Ia (-1)), (11, Ba false), (15, Ba false), (22, Ba false), (28, .d (.sl 14 wds)), (29, Ia (((14 : Nat) : Int))), (30, Ia c), (31, Ba true), (39, Ba c39)] [(2, [.v (.int .i16 a0), .v (.int .i16 a1), Bv p0, Bv p1, Bv false]), (3, [.v (.int .i16 b0), .v (.int .i16 b1), Bv q0, Bv q1, Bv false]), (5, [.v (.int .i16 a0), .v (.int .i16 a1), Bv p0, Bv p1, Bv false]), (6, [.v (.int .i16 b0), .v (.int .i16 b1), Bv q0, Bv q1, Bv false])] ?_
        cases c39
        · replace hc39 := bf hc39
          refine iF (vc_skip (seq_n (vc_seqr rfl (iQ 2 (iC 10 [.agg [.v (.int .i16 a0), .v (.int .i16 a1), Bv p0, Bv p1, Bv false]] (some 46) (c_Make ha0 ha1) ?_)))))
          rintro _ rfl
          refine iQ 1 (iC 10 [.agg [.v (.int .i16 b0), .v (.int .i16 b1), Bv q0, Bv q1, Bv false]] (some 48) (c_Make hb0 hb1) ?_)
          rintro _ rfl
          refine iC 9 [Sv (wk k), .agg [.ifc (tV false) (cV a0 a1 p0 p1 false)], .agg [.ifc (tV false) (cV b0 b1 q0 q1 false)]] (some 49) (c_Holds (mem_wk k) ha0.ok ha1.ok hb0.ok hb1.ok) ?_
          rintro _ rfl
          refine iC 8 [.agg [cT (HI (wk k) a0 a1 p0 p1 false b0 b1 q0 q1 false)]] (some 50) (c_yes (HI_cases ..)) ?_
          rintro _ rfl
          refine iQ 1 (iB .neq 3 (.int .i64 (HI (wk k) a0 a1 p0 p1 false b0 b1 q0 q1 false - 1)) (.int .i64 (-1)) (some 52) ?_)
          refine all_false ((HI_no hc39)) ?_
          refine iE 54 [(2, .p 2 0), (3, .p 3 0), (4, Ba false), (5, .p 5 0), (6, .p 6 0), (8, .d (Sv (wk k))), (9, Ia (-1)), (11, Ba false), (15, Ba false), (22, Ba false), (28, .d (.sl 14 wds)), (29, Ia (((14 : Nat) : Int))), (30, Ia c), (31, Ba true), (39, Ba false), (52, Ba false)] [(2, [.v (.int .i16 a0), .v (.int .i16 a1), Bv p0, Bv p1, Bv false]), (3, [.v (.int .i16 b0), .v (.int .i16 b1), Bv q0, Bv q1, Bv false]), (5, [.v (.int .i16 a0), .v (.int .i16 a1), Bv p0, Bv p1, Bv false]), (6, [.v (.int .i16 b0), .v (.int .i16 b1), Bv q0, Bv q1, Bv false])] ?_
          refine iF (vc_skip (block_n (seq_n (vc_reg rfl (iB .add 3 (.int .i64 c) (.int .i64 1) (some 53) ?_)))))
          intro z53 hz53
          try replace hz53 := hz53.i64 (by omega)
          refine iQ 1 (iE 54 [(2, .p 2 0), (3, .p 3 0), (4, Ba false), (5, .p 5 0), (6, .p 6 0), (8, .d (Sv (wk k))), (9, Ia (-1)), (11, Ba false), (15, Ba false), (22, Ba false), (28, .d (.sl 14 wds)), (29, Ia (((14 : Nat) : Int))), (30, Ia z53), (31, Ba true), (39, Ba false), (52, Ba false)] [(2, [.v (.int .i16 a0), .v (.int .i16 a1), Bv p0, Bv p1, Bv false]), (3, [.v (.int .i16 b0), .v (.int .i16 b1), Bv q0, Bv q1, Bv false]), (5, [.v (.int .i16 a0), .v (.int .i16 a1), Bv p0, Bv p1, Bv false]), (6, [.v (.int .i16 b0), .v (.int .i16 b1), Bv q0, Bv q1, Bv false])] ?_)
          refine loop_n (k + 1, z53) (⟨by rw [hz53, h0]; rfl, by omega⟩) (by show 14 - (k + 1) < 14 - k; omega) (by kernel_rfl) (by kernel_rfl)
        · replace hc39 := bt hc39
          refine iT (vc_seqr rfl (iQ 1 (iE 54 [(2, .p 2 0), (3, .p 3 0), (4, Ba false), (5, .p 5 0), (6, .p 6 0), (8, .d (Sv (wk k))), (9, Ia 0), (11, Ba false), (15, Ba false), (22, Ba false), (28, .d (.sl 14 wds)), (29, Ia (((14 : Nat) : Int))), (30, Ia c), (31, Ba true), (39, Ba true)] [(2, [.v (.int .i16 a0), .v (.int .i16 a1), Bv p0, Bv p1, Bv false]), (3, [.v (.int .i16 b0), .v (.int .i16 b1), Bv q0, Bv q1, Bv false]), (5, [.v (.int .i16 a0), .v (.int .i16 a1), Bv p0, Bv p1, Bv false]), (6, [.v (.int .i16 b0), .v (.int .i16 b1), Bv q0, Bv q1, Bv false])] ?_)))
          refine vc_seqr rfl (iQ 3 (iC 7 [Sv (wk k), .agg [.v (.int .i16 a0), .v (.int .i16 a1), Bv p0, Bv p1, Bv false], .agg [.v (.int .i16 b0), .v (.int .i16 b1), Bv q0, Bv q1, Bv false]] (some 43) (t_holds (mem_wk k)) ?_))
          rintro _ ⟨c43, rfl, hc43⟩
          refine iE 54 [(2, .p 2 0), (3, .p 3 0), (4, Ba false), (5, .p 5 0), (6, .p 6 0), (8, .d (Sv (wk k))), (9, Ia 0), (11, Ba false), (15, Ba false), (22, Ba false), (28, .d (.sl 14 wds)), (29, Ia (((14 : Nat) : Int))), (30, Ia c), (31, Ba true), (39, Ba true), (43, Ba c43)] [(2, [.v (.int .i16 a0), .v (.int .i16 a1), Bv p0, Bv p1, Bv false]), (3, [.v (.int .i16 b0), .v (.int .i16 b1), Bv q0, Bv q1, Bv false]), (5, [.v (.int .i16 a0), .v (.int .i16 a1), Bv p0, Bv p1, Bv false]), (6, [.v (.int .i16 b0), .v (.int .i16 b1), Bv q0, Bv q1, Bv false])] ?_
          cases c43
          · replace hc43 := bf hc43
            refine iF (vc_skip (seq_n (vc_seqr rfl (iQ 2 (iC 10 [.agg [.v (.int .i16 a0), .v (.int .i16 a1), Bv p0, Bv p1, Bv false]] (some 46) (c_Make ha0 ha1) ?_)))))
            rintro _ rfl
            refine iQ 1 (iC 10 [.agg [.v (.int .i16 b0), .v (.int .i16 b1), Bv q0, Bv q1, Bv false]] (some 48) (c_Make hb0 hb1) ?_)
            rintro _ rfl
            refine iC 9 [Sv (wk k), .agg [.ifc (tV false) (cV a0 a1 p0 p1 false)], .agg [.ifc (tV false) (cV b0 b1 q0 q1 false)]] (some 49) (c_Holds (mem_wk k) ha0.ok ha1.ok hb0.ok hb1.ok) ?_
            rintro _ rfl
            refine iC 8 [.agg [cT (HI (wk k) a0 a1 p0 p1 false b0 b1 q0 q1 false)]] (some 50) (c_yes (HI_cases ..)) ?_
            rintro _ rfl
            refine iQ 1 (iB .neq 3 (.int .i64 (HI (wk k) a0 a1 p0 p1 false b0 b1 q0 q1 false - 1)) (.int .i64 0) (some 52) ?_)
            refine all_false ((HI_nay hc39 hc43)) ?_
            refine iE 54 [(2, .p 2 0), (3, .p 3 0), (4, Ba false), (5, .p 5 0), (6, .p 6 0), (8, .d (Sv (wk k))), (9, Ia 0), (11, Ba false), (15, Ba false), (22, Ba false), (28, .d (.sl 14 wds)), (29, Ia (((14 : Nat) : Int))), (30, Ia c), (31, Ba true), (39, Ba true), (43, Ba false), (52, Ba false)] [(2, [.v (.int .i16 a0), .v (.int .i16 a1), Bv p0, Bv p1, Bv false]), (3, [.v (.int .i16 b0), .v (.int .i16 b1), Bv q0, Bv q1, Bv false]), (5, [.v (.int .i16 a0), .v (.int .i16 a1), Bv p0, Bv p1, Bv false]), (6, [.v (.int .i16 b0), .v (.int .i16 b1), Bv q0, Bv q1, Bv false])] ?_
            refine iF (vc_skip (block_n (seq_n (vc_reg rfl (iB .add 3 (.int .i64 c) (.int .i64 1) (some 53) ?_)))))
            intro z53 hz53
            try replace hz53 := hz53.i64 (by omega)
            refine iQ 1 (iE 54 [(2, .p 2 0), (3, .p 3 0), (4, Ba false), (5, .p 5 0), (6, .p 6 0), (8, .d (Sv (wk k))), (9, Ia 0), (11, Ba false), (15, Ba false), (22, Ba false), (28, .d (.sl 14 wds)), (29, Ia (((14 : Nat) : Int))), (30, Ia z53), (31, Ba true), (39, Ba true), (43, Ba false), (52, Ba false)] [(2, [.v (.int .i16 a0), .v (.int .i16 a1), Bv p0, Bv p1, Bv false]), (3, [.v (.int .i16 b0), .v (.int .i16 b1), Bv q0, Bv q1, Bv false]), (5, [.v (.int .i16 a0), .v (.int .i16 a1), Bv p0, Bv p1, Bv false]), (6, [.v (.int .i16 b0), .v (.int .i16 b1), Bv q0, Bv q1, Bv false])] ?_)
            refine loop_n (k + 1, z53) (⟨by rw [hz53, h0]; rfl, by omega⟩) (by show 14 - (k + 1) < 14 - k; omega) (by kernel_rfl) (by kernel_rfl)
          · replace hc43 := bt hc43
            refine iT (vc_reg rfl (iQ 1 (iE 54 [(2, .p 2 0), (3, .p 3 0), (4, Ba false), (5, .p 5 0), (6, .p 6 0), (8, .d (Sv (wk k))), (9, Ia 1), (11, Ba false), (15, Ba false), (22, Ba false), (28, .d (.sl 14 wds)), (29, Ia (((14 : Nat) : Int))), (30, Ia c), (31, Ba true), (39, Ba true), (43, Ba true)] [(2, [.v (.int .i16 a0), .v (.int .i16 a1), Bv p0, Bv p1, Bv false]), (3, [.v (.int .i16 b0), .v (.int .i16 b1), Bv q0, Bv q1, Bv false]), (5, [.v (.int .i16 a0), .v (.int .i16 a1), Bv p0, Bv p1, Bv false]), (6, [.v (.int .i16 b0), .v (.int .i16 b1), Bv q0, Bv q1, Bv false])] ?_)))
            refine seq_n (vc_seqr rfl (iQ 2 (iC 10 [.agg [.v (.int .i16 a0), .v (.int .i16 a1), Bv p0, Bv p1, Bv false]] (some 46) (c_Make ha0 ha1) ?_)))
            rintro _ rfl
            refine iQ 1 (iC 10 [.agg [.v (.int .i16 b0), .v (.int .i16 b1), Bv q0, Bv q1, Bv false]] (some 48) (c_Make hb0 hb1) ?_)
            rintro _ rfl
            refine iC 9 [Sv (wk k), .agg [.ifc (tV false) (cV a0 a1 p0 p1 false)], .agg [.ifc (tV false) (cV b0 b1 q0 q1 false)]] (some 49) (c_Holds (mem_wk k) ha0.ok ha1.ok hb0.ok hb1.ok) ?_
            rintro _ rfl
            refine iC 8 [.agg [cT (HI (wk k) a0 a1 p0 p1 false b0 b1 q0 q1 false)]] (some 50) (c_yes (HI_cases ..)) ?_
            rintro _ rfl
            refine iQ 1 (iB .neq 3 (.int .i64 (HI (wk k) a0 a1 p0 p1 false b0 b1 q0 q1 false - 1)) (.int .i64 1) (some 52) ?_)
            refine all_false ((HI_yes hc39 hc43)) ?_
            refine iE 54 [(2, .p 2 0), (3, .p 3 0), (4, Ba false), (5, .p 5 0), (6, .p 6 0), (8, .d (Sv (wk k))), (9, Ia 1), (11, Ba false), (15, Ba false), (22, Ba false), (28, .d (.sl 14 wds)), (29, Ia (((14 : Nat) : Int))), (30, Ia c), (31, Ba true), (39, Ba true), (43, Ba true), (52, Ba false)] [(2, [.v (.int .i16 a0), .v (.int .i16 a1), Bv p0, Bv p1, Bv false]), (3, [.v (.int .i16 b0), .v (.int .i16 b1), Bv q0, Bv q1, Bv false]), (5, [.v (.int .i16 a0), .v (.int .i16 a1), Bv p0, Bv p1, Bv false]), (6, [.v (.int .i16 b0), .v (.int .i16 b1), Bv q0, Bv q1, Bv false])] ?_
            refine iF (vc_skip (block_n (seq_n (vc_reg rfl (iB .add 3 (.int .i64 c) (.int .i64 1) (some 53) ?_)))))
            intro z53 hz53
            try replace hz53 := hz53.i64 (by omega)
            refine iQ 1 (iE 54 [(2, .p 2 0), (3, .p 3 0), (4, Ba false), (5, .p 5 0), (6, .p 6 0), (8, .d (Sv (wk k))), (9, Ia 1), (11, Ba false), (15, Ba false), (22, Ba false), (28, .d (.sl 14 wds)), (29, Ia (((14 : Nat) : Int))), (30, Ia z53), (31, Ba true), (39, Ba true), (43, Ba true), (52, Ba false)] [(2, [.v (.int .i16 a0), .v (.int .i16 a1), Bv p0, Bv p1, Bv false]), (3, [.v (.int .i16 b0), .v (.int .i16 b1), Bv q0, Bv q1, Bv false]), (5, [.v (.int .i16 a0), .v (.int .i16 a1), Bv p0, Bv p1, Bv false]), (6, [.v (.int .i16 b0), .v (.int .i16 b1), Bv q0, Bv q1, Bv false])] ?_)
            refine loop_n (k + 1, z53) (⟨by rw [hz53, h0]; rfl, by omega⟩) (by show 14 - (k + 1) < 14 - k; omega) (by kernel_rfl) (by kernel_rfl)
    · skip
      refine iT (vc_reg rfl (iQ 7 (iE 54 [(2, .p 2 0), (3, .p 3 0), (4, Ba false), (5, .p 5 0), (6, .p 6 0), (11, Ba false), (15, Ba false), (22, Ba true)] [(2, [.v (.int .i16 a0), .v (.int .i16 a1), Bv p0, Bv p1, Bv false]), (3, [.v (.int .i16 b0), .v (.int .i16 b1), Bv q0, Bv q1, Bv true]), (5, [.v (.int .i16 a0), .v (.int .i16 a1), Bv p0, Bv p1, Bv false]), (6, [.v (.int .i16 b0), .v (.int .i16 b0), Bv true, Bv true, Bv true])] ?_)))
      refine seq_n (vc_seq (vc_seqr rfl (iC 5 [] (some 28) (c_words) ?_)))
      rintro _ rfl
      refine iQ 2 (iE 54 [(2, .p 2 0), (3, .p 3 0), (4, Ba false), (5, .p 5 0), (6, .p 6 0), (11, Ba false), (15, Ba false), (22, Ba true), (28, .d (.sl 14 wds)), (29, Ia (((14 : Nat) : Int))), (30, Ia 0)] [(2, [.v (.int .i16 a0), .v (.int .i16 a1), Bv p0, Bv p1, Bv false]), (3, [.v (.int .i16 b0), .v (.int .i16 b1), Bv q0, Bv q1, Bv true]), (5, [.v (.int .i16 a0), .v (.int .i16 a1), Bv p0, Bv p1, Bv false]), (6, [.v (.int .i16 b0), .v (.int .i16 b0), Bv true, Bv true, Bv true])] ?_)
      refine vc_block (vc_loop 54 (fun (vcx : Nat × Int) => match vcx with | (k, c) => [(2, .p 2 0), (3, .p 3 0), (4, Ba false), (5, .p 5 0), (6, .p 6 0), (11, Ba false), (15, Ba false), (22, Ba true), (28, .d (.sl 14 wds)), (29, Ia (((14 : Nat) : Int))), (30, Ia c)]) (fun (vcx : Nat × Int) => match vcx with | (k, c) => [(2, [.v (.int .i16 a0), .v (.int .i16 a1), Bv p0, Bv p1, Bv false]), (3, [.v (.int .i16 b0), .v (.int .i16 b1), Bv q0, Bv q1, Bv true]), (5, [.v (.int .i16 a0), .v (.int .i16 a1), Bv p0, Bv p1, Bv false]), (6, [.v (.int .i16 b0), .v (.int .i16 b0), Bv true, Bv true, Bv true])]) (fun (vcx : Nat × Int) => match vcx with | (k, c) => c = k ∧ k ≤ 14) (fun (vcx : Nat × Int) => match vcx with | (k, c) => 14 - k) ((0, 0)) (⟨rfl, by omega⟩) (by kernel_rfl) (by kernel_rfl) ?_)
      rintro ⟨k, c⟩ hinv
      simp only at hinv
      refine vc_seqr rfl (iB .lss 3 (.int .i64 c) (.int .i64 (((14 : Nat) : Int))) (some 31) ?_)
      intro c31 hc31
      refine iE 54 [(2, .p 2 0), (3, .p 3 0), (4, Ba false), (5, .p 5 0), (6, .p 6 0), (11, Ba false), (15, Ba false), (22, Ba true), (28, .d (.sl 14 wds)), (29, Ia (((14 : Nat) : Int))), (30, Ia c), (31, Ba c31)] [(2, [.v (.int .i16 a0), .v (.int .i16 a1), Bv p0, Bv p1, Bv false]), (3, [.v (.int .i16 b0), .v (.int .i16 b1), Bv q0, Bv q1, Bv true]), (5, [.v (.int .i16 a0), .v (.int .i16 a1), Bv p0, Bv p1, Bv false]), (6, [.v (.int .i16 b0), .v (.int .i16 b0), Bv true, Bv true, Bv true])] ?_
      refine vc_seq ?_
      cases c31
      · replace hc31 := bf hc31
        refine iF (vc_exit (seq_x (loop_x (block_x rfl (seq_n (vc_seqr rfl (iQ 1 (iE 54 [(2, .p 2 0), (3, .p 3 0), (4, Ba true), (5, .p 5 0), (6, .p 6 0), (11, Ba false), (15, Ba false), (22, Ba true), (28, .d (.sl 14 wds)), (29, Ia (((14 : Nat) : Int))), (30, Ia c), (31, Ba false)] [(2, [.v (.int .i16 a0), .v (.int .i16 a1), Bv p0, Bv p1, Bv false]), (3, [.v (.int .i16 b0), .v (.int .i16 b1), Bv q0, Bv q1, Bv true]), (5, [.v (.int .i16 a0), .v (.int .i16 a1), Bv p0, Bv p1, Bv false]), (6, [.v (.int .i16 b0), .v (.int .i16 b0), Bv true, Bv true, Bv true])] ?_))))))))
        refine vc_ret (iR (Bv true) ?_)
        rfl
      · replace hc31 := bt hc31
        obtain ⟨h0, h1⟩ := hinv
        refine iT (vc_skip (seq_n (vc_seq (vc_block (vc_seqr rfl (vcI_idx1 (q := c) (n := 14) (cs := wds) (d := .v (.string (wk k))) (dst := (some 32)) (by kernel_rfl) (by omega) (wk_get h0 (by omega)) ?_))))))
        refine iQ 2 (iE 54 [(2, .p 2 0), (3, .p 3 0), (4, Ba false), (5, .p 5 0), (6, .p 6 0), (8, .d (Sv (wk k))), (11, Ba false), (15, Ba false), (22, Ba true), (28, .d (.sl 14 wds)), (29, Ia (((14 : Nat) : Int))), (30, Ia c), (31, Ba true)] [(2, [.v (.int .i16 a0), .v (.int .i16 a1), Bv p0, Bv p1, Bv false]), (3, [.v (.int .i16 b0), .v (.int .i16 b1), Bv q0, Bv q1, Bv true]), (5, [.v (.int .i16 a0), .v (.int .i16 a1), Bv p0, Bv p1, Bv false]), (6, [.v (.int .i16 b0), .v (.int .i16 b0), Bv true, Bv true, Bv true])] ?_)
        refine vc_seqr rfl (iQ 1 (iE 54 [(2, .p 2 0), (3, .p 3 0), (4, Ba false), (5, .p 5 0), (6, .p 6 0), (8, .d (Sv (wk k))), (9, Ia (-1)), (11, Ba false), (15, Ba false), (22, Ba true), (28, .d (.sl 14 wds)), (29, Ia (((14 : Nat) : Int))), (30, Ia c), (31, Ba true)] [(2, [.v (.int .i16 a0), .v (.int .i16 a1), Bv p0, Bv p1, Bv false]), (3, [.v (.int .i16 b0), .v (.int .i16 b1), Bv q0, Bv q1, Bv true]), (5, [.v (.int .i16 a0), .v (.int .i16 a1), Bv p0, Bv p1, Bv false]), (6, [.v (.int .i16 b0), .v (.int .i16 b0), Bv true, Bv true, Bv true])] ?_))
        refine vc_seq (vc_seqr rfl (iQ 5 (iC 6 [Sv (wk k), Bv false, Bv true] (some 39) (m_may (mem_wk k)) ?_)))
        rintro _ ⟨c39, rfl, hc39⟩
        refine iE 54 [(2, .p 2 0), (3, .p 3 0), (4, Ba false), (5, .p 5 0), (6, .p 6 0), (8, .d (Sv (wk k))), (9, Ia (-1)), (11, Ba false), (15, Ba false), (22, Ba true), (28, .d (.sl 14 wds)), (29, Ia (((14 : Nat) : Int))), (30, Ia c), (31, Ba true), (39, Ba c39)] [(2, [.v (.int .i16 a0), .v (.int .i16 a1), Bv p0, Bv p1, Bv false]), (3, [.v (.int .i16 b0), .v (.int .i16 b1), Bv q0, Bv q1, Bv true]), (5, [.v (.int .i16 a0), .v (.int .i16 a1), Bv p0, Bv p1, Bv false]), (6, [.v (.int .i16 b0), .v (.int .i16 b0), Bv true, Bv true, Bv true])] ?_
        cases c39
        · replace hc39 := bf hc39
          refine iF (vc_skip (seq_n (vc_seqr rfl (iQ 2 (iC 10 [.agg [.v (.int .i16 a0), .v (.int .i16 a1), Bv p0, Bv p1, Bv false]] (some 46) (c_Make ha0 ha1) ?_)))))
          rintro _ rfl
          refine iQ 1 (iC 10 [.agg [.v (.int .i16 b0), .v (.int .i16 b1), Bv q0, Bv q1, Bv true]] (some 48) (c_Make hb0 hb1) ?_)
          rintro _ rfl
          refine iC 9 [Sv (wk k), .agg [.ifc (tV false) (cV a0 a1 p0 p1 false)], .agg [.ifc (tV true) (cV b0 b1 q0 q1 true)]] (some 49) (c_Holds (mem_wk k) ha0.ok ha1.ok hb0.ok hb1.ok) ?_
          rintro _ rfl
          refine iC 8 [.agg [cT (HI (wk k) a0 a1 p0 p1 false b0 b1 q0 q1 true)]] (some 50) (c_yes (HI_cases ..)) ?_
          rintro _ rfl
          refine iQ 1 (iB .neq 3 (.int .i64 (HI (wk k) a0 a1 p0 p1 false b0 b1 q0 q1 true - 1)) (.int .i64 (-1)) (some 52) ?_)
          refine all_false ((HI_no hc39)) ?_
          refine iE 54 [(2, .p 2 0), (3, .p 3 0), (4, Ba false), (5, .p 5 0), (6, .p 6 0), (8, .d (Sv (wk k))), (9, Ia (-1)), (11, Ba false), (15, Ba false), (22, Ba true), (28, .d (.sl 14 wds)), (29, Ia (((14 : Nat) : Int))), (30, Ia c), (31, Ba true), (39, Ba false), (52, Ba false)] [(2, [.v (.int .i16 a0), .v (.int .i16 a1), Bv p0, Bv p1, Bv false]), (3, [.v (.int .i16 b0), .v (.int .i16 b1), Bv q0, Bv q1, Bv true]), (5, [.v (.int .i16 a0), .v (.int .i16 a1), Bv p0, Bv p1, Bv false]), (6, [.v (.int .i16 b0), .v (.int .i16 b0), Bv true, Bv true, Bv true])] ?_
          refine iF (vc_skip (block_n (seq_n (vc_reg rfl (iB .add 3 (.int .i64 c) (.int .i64 1) (some 53) ?_)))))
          intro z53 hz53
          try replace hz53 := hz53.i64 (by omega)
          refine iQ 1 (iE 54 [(2, .p 2 0), (3, .p 3 0), (4, Ba false), (5, .p 5 0), (6, .p 6 0), (8, .d (Sv (wk k))), (9, Ia (-1)), (11, Ba false), (15, Ba false), (22, Ba true), (28, .d (.sl 14 wds)), (29, Ia (((14 : Nat) : Int))), (30, Ia z53), (31, Ba true), (39, Ba false), (52, Ba false)] [(2, [.v (.int .i16 a0), .v (.int .i16 a1), Bv p0, Bv p1, Bv false]), (3, [.v (.int .i16 b0), .v (.int .i16 b1), Bv q0, Bv q1, Bv true]), (5, [.v (.int .i16 a0), .v (.int .i16 a1), Bv p0, Bv p1, Bv false]), (6, [.v (.int .i16 b0), .v (.int .i16 b0), Bv true, Bv true, Bv true])] ?_)
          refine loop_n (k + 1, z53) (⟨by rw [hz53, h0]; rfl, by omega⟩) (by show 14 - (k + 1) < 14 - k; omega) (by kernel_rfl) (by kernel_rfl)
        · replace hc39 := bt hc39
          refine iT (vc_seqr rfl (iQ 1 (iE 54 [(2, .p 2 0), (3, .p 3 0), (4, Ba false), (5, .p 5 0), (6, .p 6 0), (8, .d (Sv (wk k))), (9, Ia 0), (11, Ba false), (15, Ba false), (22, Ba true), (28, .d (.sl 14 wds)), (29, Ia (((14 : Nat) : Int))), (30, Ia c), (31, Ba true), (39, Ba true)] [(2, [.v (.int .i16 a0), .v (.int .i16 a1), Bv p0, Bv p1, Bv false]), (3, [.v (.int .i16 b0), .v (.int .i16 b1), Bv q0, Bv q1, Bv true]), (5, [.v (.int .i16 a0), .v (.int .i16 a1), Bv p0, Bv p1, Bv false]), (6, [.v (.int .i16 b0), .v (.int .i16 b0), Bv true, Bv true, Bv true])] ?_)))
          refine vc_seqr rfl (iQ 3 (iC 7 [Sv (wk k), .agg [.v (.int .i16 a0), .v (.int .i16 a1), Bv p0, Bv p1, Bv false], .agg [.v (.int .i16 b0), .v (.int .i16 b0), Bv true, Bv true, Bv true]] (some 43) (t_holds (mem_wk k)) ?_))
          rintro _ ⟨c43, rfl, hc43⟩
          refine iE 54 [(2, .p 2 0), (3, .p 3 0), (4, Ba false), (5, .p 5 0), (6, .p 6 0), (8, .d (Sv (wk k))), (9, Ia 0), (11, Ba false), (15, Ba false), (22, Ba true), (28, .d (.sl 14 wds)), (29, Ia (((14 : Nat) : Int))), (30, Ia c), (31, Ba true), (39, Ba true), (43, Ba c43)] [(2, [.v (.int .i16 a0), .v (.int .i16 a1), Bv p0, Bv p1, Bv false]), (3, [.v (.int .i16 b0), .v (.int .i16 b1), Bv q0, Bv q1, Bv true]), (5, [.v (.int .i16 a0), .v (.int .i16 a1), Bv p0, Bv p1, Bv false]), (6, [.v (.int .i16 b0), .v (.int .i16 b0), Bv true, Bv true, Bv true])] ?_
          cases c43
          · replace hc43 := bf hc43
            refine iF (vc_skip (seq_n (vc_seqr rfl (iQ 2 (iC 10 [.agg [.v (.int .i16 a0), .v (.int .i16 a1), Bv p0, Bv p1, Bv false]] (some 46) (c_Make ha0 ha1) ?_)))))
            rintro _ rfl
            refine iQ 1 (iC 10 [.agg [.v (.int .i16 b0), .v (.int .i16 b1), Bv q0, Bv q1, Bv true]] (some 48) (c_Make hb0 hb1) ?_)
            rintro _ rfl
            refine iC 9 [Sv (wk k), .agg [.ifc (tV false) (cV a0 a1 p0 p1 false)], .agg [.ifc (tV true) (cV b0 b1 q0 q1 true)]] (some 49) (c_Holds (mem_wk k) ha0.ok ha1.ok hb0.ok hb1.ok) ?_
            rintro _ rfl
            refine iC 8 [.agg [cT (HI (wk k) a0 a1 p0 p1 false b0 b1 q0 q1 true)]] (some 50) (c_yes (HI_cases ..)) ?_
            rintro _ rfl
            refine iQ 1 (iB .neq 3 (.int .i64 (HI (wk k) a0 a1 p0 p1 false b0 b1 q0 q1 true - 1)) (.int .i64 0) (some 52) ?_)
            refine all_false ((HI_nay hc39 hc43)) ?_
            refine iE 54 [(2, .p 2 0), (3, .p 3 0), (4, Ba false), (5, .p 5 0), (6, .p 6 0), (8, .d (Sv (wk k))), (9, Ia 0), (11, Ba false), (15, Ba false), (22, Ba true), (28, .d (.sl 14 wds)), (29, Ia (((14 : Nat) : Int))), (30, Ia c), (31, Ba true), (39, Ba true), (43, Ba false), (52, Ba false)] [(2, [.v (.int .i16 a0), .v (.int .i16 a1), Bv p0, Bv p1, Bv false]), (3, [.v (.int .i16 b0), .v (.int .i16 b1), Bv q0, Bv q1, Bv true]), (5, [.v (.int .i16 a0), .v (.int .i16 a1), Bv p0, Bv p1, Bv false]), (6, [.v (.int .i16 b0), .v (.int .i16 b0), Bv true, Bv true, Bv true])] ?_
            refine iF (vc_skip (block_n (seq_n (vc_reg rfl (iB .add 3 (.int .i64 c) (.int .i64 1) (some 53) ?_)))))
            intro z53 hz53
            try replace hz53 := hz53.i64 (by omega)
            refine iQ 1 (iE 54 [(2, .p 2 0), (3, .p 3 0), (4, Ba false), (5, .p 5 0), (6, .p 6 0), (8, .d (Sv (wk k))), (9, Ia 0), (11, Ba false), (15, Ba false), (22, Ba true), (28, .d (.sl 14 wds)), (29, Ia (((14 : Nat) : Int))), (30, Ia z53), (31, Ba true), (39, Ba true), (43, Ba false), (52, Ba false)] [(2, [.v (.int .i16 a0), .v (.int .i16 a1), Bv p0, Bv p1, Bv false]), (3, [.v (.int .i16 b0), .v (.int .i16 b1), Bv q0, Bv q1, Bv true]), (5, [.v (.int .i16 a0), .v (.int .i16 a1), Bv p0, Bv p1, Bv false]), (6, [.v (.int .i16 b0), .v (.int .i16 b0), Bv true, Bv true, Bv true])] ?_)
            refine loop_n (k + 1, z53) (⟨by rw [hz53, h0]; rfl, by omega⟩) (by show 14 - (k + 1) < 14 - k; omega) (by kernel_rfl) (by kernel_rfl)
          · replace hc43 := bt hc43
            refine iT (vc_reg rfl (iQ 1 (iE 54 [(2, .p 2 0), (3, .p 3 0), (4, Ba false), (5, .p 5 0), (6, .p 6 0), (8, .d (Sv (wk k))), (9, Ia 1), (11, Ba false), (15, Ba false), (22, Ba true), (28, .d (.sl 14 wds)), (29, Ia (((14 : Nat) : Int))), (30, Ia c), (31, Ba true), (39, Ba true), (43, Ba true)] [(2, [.v (.int .i16 a0), .v (.int .i16 a1), Bv p0, Bv p1, Bv false]), (3, [.v (.int .i16 b0), .v (.int .i16 b1), Bv q0, Bv q1, Bv true]), (5, [.v (.int .i16 a0), .v (.int .i16 a1), Bv p0, Bv p1, Bv false]), (6, [.v (.int .i16 b0), .v (.int .i16 b0), Bv true, Bv true, Bv true])] ?_)))
            refine seq_n (vc_seqr rfl (iQ 2 (iC 10 [.agg [.v (.int .i16 a0), .v (.int .i16 a1), Bv p0, Bv p1, Bv false]] (some 46) (c_Make ha0 ha1) ?_)))
            rintro _ rfl
            refine iQ 1 (iC 10 [.agg [.v (.int .i16 b0), .v (.int .i16 b1), Bv q0, Bv q1, Bv true]] (some 48) (c_Make hb0 hb1) ?_)
            rintro _ rfl
            refine iC 9 [Sv (wk k), .agg [.ifc (tV false) (cV a0 a1 p0 p1 false)], .agg [.ifc (tV true) (cV b0 b1 q0 q1 true)]] (some 49) (c_Holds (mem_wk k) ha0.ok ha1.ok hb0.ok hb1.ok) ?_
            rintro _ rfl
            refine iC 8 [.agg [cT (HI (wk k) a0 a1 p0 p1 false b0 b1 q0 q1 true)]] (some 50) (c_yes (HI_cases ..)) ?_
            rintro _ rfl
            refine iQ 1 (iB .neq 3 (.int .i64 (HI (wk k) a0 a1 p0 p1 false b0 b1 q0 q1 true - 1)) (.int .i64 1) (some 52) ?_)
            refine all_false ((HI_yes hc39 hc43)) ?_
            refine iE 54 [(2, .p 2 0), (3, .p 3 0), (4, Ba false), (5, .p 5 0), (6, .p 6 0), (8, .d (Sv (wk k))), (9, Ia 1), (11, Ba false), (15, Ba false), (22, Ba true), (28, .d (.sl 14 wds)), (29, Ia (((14 : Nat) : Int))), (30, Ia c), (31, Ba true), (39, Ba true), (43, Ba true), (52, Ba false)] [(2, [.v (.int .i16 a0), .v (.int .i16 a1), Bv p0, Bv p1, Bv false]), (3, [.v (.int .i16 b0), .v (.int .i16 b1), Bv q0, Bv q1, Bv true]), (5, [.v (.int .i16 a0), .v (.int .i16 a1), Bv p0, Bv p1, Bv false]), (6, [.v (.int .i16 b0), .v (.int .i16 b0), Bv true, Bv true, Bv true])] ?_
            refine iF (vc_skip (block_n (seq_n (vc_reg rfl (iB .add 3 (.int .i64 c) (.int .i64 1) (some 53) ?_)))))
            intro z53 hz53
            try replace hz53 := hz53.i64 (by omega)
            refine iQ 1 (iE 54 [(2, .p 2 0), (3, .p 3 0), (4, Ba false), (5, .p 5 0), (6, .p 6 0), (8, .d (Sv (wk k))), (9, Ia 1), (11, Ba false), (15, Ba false), (22, Ba true), (28, .d (.sl 14 wds)), (29, Ia (((14 : Nat) : Int))), (30, Ia z53), (31, Ba true), (39, Ba true), (43, Ba true), (52, Ba false)] [(2, [.v (.int .i16 a0), .v (.int .i16 a1), Bv p0, Bv p1, Bv false]), (3, [.v (.int .i16 b0), .v (.int .i16 b1), Bv q0, Bv q1, Bv true]), (5, [.v (.int .i16 a0), .v (.int .i16 a1), Bv p0, Bv p1, Bv false]), (6, [.v (.int .i16 b0), .v (.int .i16 b0), Bv true, Bv true, Bv true])] ?_)
            refine loop_n (k + 1, z53) (⟨by rw [hz53, h0]; rfl, by omega⟩) (by show 14 - (k + 1) < 14 - k; omega) (by kernel_rfl) (by kernel_rfl)
  · skip
    refine iT (vc_reg rfl (iQ 7 (iE 54 [(2, .p 2 0), (3, .p 3 0), (4, Ba false), (5, .p 5 0), (6, .p 6 0), (11, Ba false), (15, Ba true)] [(2, [.v (.int .i16 a0), .v (.int .i16 a1), Bv p0, Bv p1, Bv true]), (3, [.v (.int .i16 b0), .v (.int .i16 b1), Bv q0, Bv q1, Bv pb]), (5, [.v (.int .i16 a0), .v (.int .i16 a0), Bv true, Bv true, Bv true]), (6, [.v (.int .i16 b0), .v (.int .i16 b1), Bv q0, Bv q1, Bv pb])] ?_)))
    refine seq_n (vc_seq (vc_seqr rfl (iQ 2 (iE 54 [(2, .p 2 0), (3, .p 3 0), (4, Ba false), (5, .p 5 0), (6, .p 6 0), (11, Ba false), (15, Ba true), (22, Ba pb)] [(2, [.v (.int .i16 a0), .v (.int .i16 a1), Bv p0, Bv p1, Bv true]), (3, [.v (.int .i16 b0), .v (.int .i16 b1), Bv q0, Bv q1, Bv pb]), (5, [.v (.int .i16 a0), .v (.int .i16 a0), Bv true, Bv true, Bv true]), (6, [.v (.int .i16 b0), .v (.int .i16 b1), Bv q0, Bv q1, Bv pb])] ?_))))
    cases pb
    · skip
      refine iF (vc_skip (seq_n (vc_seq (vc_seqr rfl (iC 5 [] (some 28) (c_words) ?_)))))
      rintro _ rfl
      refine iQ 2 (iE 54 [(2, .p 2 0), (3, .p 3 0), (4, Ba false), (5, .p 5 0), (6, .p 6 0), (11, Ba false), (15, Ba true), (22, Ba false), (28, .d (.sl 14 wds)), (29, Ia (((14 : Nat) : Int))), (30, Ia 0)] [(2, [.v (.int .i16 a0), .v (.int .i16 a1), Bv p0, Bv p1, Bv true]), (3, [.v (.int .i16 b0), .v (.int .i16 b1), Bv q0, Bv q1, Bv false]), (5, [.v (.int .i16 a0), .v (.int .i16 a0), Bv true, Bv true, Bv true]), (6, [.v (.int .i16 b0), .v (.int .i16 b1), Bv q0, Bv q1, Bv false])] ?_)
      refine vc_block (vc_loop 54 (fun (vcx : Nat × Int) => match vcx with | (k, c) => [(2, .p 2 0), (3, .p 3 0), (4, Ba false), (5, .p 5 0), (6, .p 6 0), (11, Ba false), (15, Ba true), (22, Ba false), (28, .d (.sl 14 wds)), (29, Ia (((14 : Nat) : Int))), (30, Ia c)]) (fun (vcx : Nat × Int) => match vcx with | (k, c) => [(2, [.v (.int .i16 a0), .v (.int .i16 a1), Bv p0, Bv p1, Bv true]), (3, [.v (.int .i16 b0), .v (.int .i16 b1), Bv q0, Bv q1, Bv false]), (5, [.v (.int .i16 a0), .v (.int .i16 a0), Bv true, Bv true, Bv true]), (6, [.v (.int .i16 b0), .v (.int .i16 b1), Bv q0, Bv q1, Bv false])]) (fun (vcx : Nat × Int) => match vcx with | (k, c) => c = k ∧ k ≤ 14) (fun (vcx : Nat × Int) => match vcx with | (k, c) => 14 - k) ((0, 0)) (⟨rfl, by omega⟩) (by kernel_rfl) (by kernel_rfl) ?_)
      rintro ⟨k, c⟩ hinv
      simp only at hinv
      refine vc_seqr rfl (iB .lss 3 (.int .i64 c) (.int .i64 (((14 : Nat) : Int))) (some 31) ?_)
      intro c31 hc31
      refine iE 54 [(2, .p 2 0), (3, .p 3 0), (4, Ba false), (5, .p 5 0), (6, .p 6 0), (11, Ba false), (15, Ba true), (22, Ba false), (28, .d (.sl 14 wds)), (29, Ia (((14 : Nat) : Int))), (30, Ia c), (31, Ba c31)] [(2, [.v (.int .i16 a0), .v (.int .i16 a1), Bv p0, Bv p1, Bv true]), (3, [.v (.int .i16 b0), .v (.int .i16 b1), Bv q0, Bv q1, Bv false]), (5, [.v (.int .i16 a0), .v (.int .i16 a0), Bv true, Bv true, Bv true]), (6, [.v (.int .i16 b0), .v (.int .i16 b1), Bv q0, Bv q1, Bv false])] ?_
      refine vc_seq ?_
      cases c31
      · replace hc31 := bf hc31
        refine iF (vc_exit (seq_x (loop_x (block_x rfl (seq_n (vc_seqr rfl (iQ 1 (iE 54 [(2, .p 2 0), (3, .p 3 0), (4, Ba true), (5, .p 5 0), (6, .p 6 0), (11, Ba false), (15, Ba true), (22, Ba false), (28, .d (.sl 14 wds)), (29, Ia (((14 : Nat) : Int))), (30, Ia c), (31, Ba false)] [(2, [.v (.int .i16 a0), .v (.int .i16 a1), Bv p0, Bv p1, Bv true]), (3, [.v (.int .i16 b0), .v (.int .i16 b1), Bv q0, Bv q1, Bv false]), (5, [.v (.int .i16 a0), .v (.int .i16 a0), Bv true, Bv true, Bv true]), (6, [.v (.int .i16 b0), .v (.int .i16 b1), Bv q0, Bv q1, Bv false])] ?_))))))))
        refine vc_ret (iR (Bv true) ?_)
        rfl
      · replace hc31 := bt hc31
        obtain ⟨h0, h1⟩ := hinv
        refine iT (vc_skip (seq_n (vc_seq (vc_block (vc_seqr rfl (vcI_idx1 (q := c) (n := 14) (cs := wds) (d := .v (.string (wk k))) (dst := (some 32)) (by kernel_rfl) (by omega) (wk_get h0 (by omega)) ?_))))))
        refine iQ 2 (iE 54 [(2, .p 2 0), (3, .p 3 0), (4, Ba false), (5, .p 5 0), (6, .p 6 0), (8, .d (Sv (wk k))), (11, Ba false), (15, Ba true), (22, Ba false), (28, .d (.sl 14 wds)), (29, Ia (((14 : Nat) : Int))), (30, Ia c), (31, Ba true)] [(2, [.v (.int .i16 a0), .v (.int .i16 a1), Bv p0, Bv p1, Bv true]), (3, [.v (.int .i16 b0), .v (.int .i16 b1), Bv q0, Bv q1, Bv false]), (5, [.v (.int .i16 a0), .v (.int .i16 a0), Bv true, Bv true, Bv true]), (6, [.v (.int .i16 b0), .v (.int .i16 b1), Bv q0, Bv q1, Bv false])] ?_)
        refine vc_seqr rfl (iQ 1 (iE 54 [(2, .p 2 0), (3, .p 3 0), (4, Ba false), (5, .p 5 0), (6, .p 6 0), (8, .d (Sv (wk k))), (9, Ia (-1)), (11, Ba false), (15, Ba true), (22, Ba false), (28, .d (.sl 14 wds)), (29, Ia (((14 : Nat) : Int))), (30, Ia c), (31, Ba true)] [(2, [.v (.int .i16 a0), .v (.int .i16 a1), Bv p0, Bv p1, Bv true]), (3, [.v (.int .i16 b0), .v (.int .i16 b1), Bv q0, Bv q1, Bv false]), (5, [.v (.int .i16 a0), .v (.int .i16 a0), Bv true, Bv true, Bv true]), (6, [.v (.int .i16 b0), .v (.int .i16 b1), Bv q0, Bv q1, Bv false])] ?_))
        refine vc_seq (vc_seqr rfl (iQ 5 (iC 6 [Sv (wk k), Bv true, Bv false] (some 39) (m_may (mem_wk k)) ?_)))
        rintro _ ⟨c39, rfl, hc39⟩
        refine iE 54 [(2, .p 2 0), (3, .p 3 0), (4, Ba false), (5, .p 5 0), (6, .p 6 0), (8, .d (Sv (wk k))), (9, Ia (-1)), (11, Ba false), (15, Ba true), (22, Ba false), (28, .d (.sl 14 wds)), (29, Ia (((14 : Nat) : Int))), (30, Ia c), (31, Ba true), (39, Ba c39)] [(2, [.v (.int .i16 a0), .v (.int .i16 a1), Bv p0, Bv p1, Bv true]), (3, [.v (.int .i16 b0), .v (.int .i16 b1), Bv q0, Bv q1, Bv false]), (5, [.v (.int .i16 a0), .v (.int .i16 a0), Bv true, Bv true, Bv true]), (6, [.v (.int .i16 b0), .v (.int .i16 b1), Bv q0, Bv q1, Bv false])] ?_
        cases c39
        · replace hc39 := bf hc39
          refine iF (vc_skip (seq_n (vc_seqr rfl (iQ 2 (iC 10 [.agg [.v (.int .i16 a0), .v (.int .i16 a1), Bv p0, Bv p1, Bv true]] (some 46) (c_Make ha0 ha1) ?_)))))
          rintro _ rfl
          refine iQ 1 (iC 10 [.agg [.v (.int .i16 b0), .v (.int .i16 b1), Bv q0, Bv q1, Bv false]] (some 48) (c_Make hb0 hb1) ?_)
          rintro _ rfl
          refine iC 9 [Sv (wk k), .agg [.ifc (tV true) (cV a0 a1 p0 p1 true)], .agg [.ifc (tV false) (cV b0 b1 q0 q1 false)]] (some 49) (c_Holds (mem_wk k) ha0.ok ha1.ok hb0.ok hb1.ok) ?_
          rintro _ rfl
          refine iC 8 [.agg [cT (HI (wk k) a0 a1 p0 p1 true b0 b1 q0 q1 false)]] (some 50) (c_yes (HI_cases ..)) ?_
          rintro _ rfl
          refine iQ 1 (iB .neq 3 (.int .i64 (HI (wk k) a0 a1 p0 p1 true b0 b1 q0 q1 false - 1)) (.int .i64 (-1)) (some 52) ?_)
          refine all_false ((HI_no hc39)) ?_
          refine iE 54 [(2, .p 2 0), (3, .p 3 0), (4, Ba false), (5, .p 5 0), (6, .p 6 0), (8, .d (Sv (wk k))), (9, Ia (-1)), (11, Ba false), (15, Ba true), (22, Ba false), (28, .d (.sl 14 wds)), (29, Ia (((14 : Nat) : Int))), (30, Ia c), (31, Ba true), (39, Ba false), (52, Ba false)] [(2, [.v (.int .i16 a0), .v (.int .i16 a1), Bv p0, Bv p1, Bv true]), (3, [.v (.int .i16 b0), .v (.int .i16 b1), Bv q0, Bv q1, Bv false]), (5, [.v (.int .i16 a0), .v (.int .i16 a0), Bv true, Bv true, Bv true]), (6, [.v (.int .i16 b0), .v (.int .i16 b1), Bv q0, Bv q1, Bv false])] ?_
          refine iF (vc_skip (block_n (seq_n (vc_reg rfl (iB .add 3 (.int .i64 c) (.int .i64 1) (some 53) ?_)))))
          intro z53 hz53
          try replace hz53 := hz53.i64 (by omega)
          refine iQ 1 (iE 54 [(2, .p 2 0), (3, .p 3 0), (4, Ba false), (5, .p 5 0), (6, .p 6 0), (8, .d (Sv (wk k))), (9, Ia (-1)), (11, Ba false), (15, Ba true), (22, Ba false), (28, .d (.sl 14 wds)), (29, Ia (((14 : Nat) : Int))), (30, Ia z53), (31, Ba true), (39, Ba false), (52, Ba false)] [(2, [.v (.int .i16 a0), .v (.int .i16 a1), Bv p0, Bv p1, Bv true]), (3, [.v (.int .i16 b0), .v (.int .i16 b1), Bv q0, Bv q1, Bv false]), (5, [.v (.int .i16 a0), .v (.int .i16 a0), Bv true, Bv true, Bv true]), (6, [.v (.int .i16 b0), .v (.int .i16 b1), Bv q0, Bv q1, Bv false])] ?_)
          refine loop_n (k + 1, z53) (⟨by rw [hz53, h0]; rfl, by omega⟩) (by show 14 - (k + 1) < 14 - k; omega) (by kernel_rfl) (by kernel_rfl)
        · replace hc39 := bt hc39
          refine iT (vc_seqr rfl (iQ 1 (iE 54 [(2, .p 2 0), (3, .p 3 0), (4, Ba false), (5, .p 5 0), (6, .p 6 0), (8, .d (Sv (wk k))), (9, Ia 0), (11, Ba false), (15, Ba true), (22, Ba false), (28, .d (.sl 14 wds)), (29, Ia (((14 : Nat) : Int))), (30, Ia c), (31, Ba true), (39, Ba true)] [(2, [.v (.int .i16 a0), .v (.int .i16 a1), Bv p0, Bv p1, Bv true]), (3, [.v (.int .i16 b0), .v (.int .i16 b1), Bv q0, Bv q1, Bv false]), (5, [.v (.int .i16 a0), .v (.int .i16 a0), Bv true, Bv true, Bv true]), (6, [.v (.int .i16 b0), .v (.int .i16 b1), Bv q0, Bv q1, Bv false])] ?_)))
          refine vc_seqr rfl (iQ 3 (iC 7 [Sv (wk k), .agg [.v (.int .i16 a0), .v (.int .i16 a0), Bv true, Bv true, Bv true], .agg [.v (.int .i16 b0), .v (.int .i16 b1), Bv q0, Bv q1, Bv false]] (some 43) (t_holds (mem_wk k)) ?_))
          rintro _ ⟨c43, rfl, hc43⟩
          refine iE 54 [(2, .p 2 0), (3, .p 3 0), (4, Ba false), (5, .p 5 0), (6, .p 6 0), (8, .d (Sv (wk k))), (9, Ia 0), (11, Ba false), (15, Ba true), (22, Ba false), (28, .d (.sl 14 wds)), (29, Ia (((14 : Nat) : Int))), (30, Ia c), (31, Ba true), (39, Ba true), (43, Ba c43)] [(2, [.v (.int .i16 a0), .v (.int .i16 a1), Bv p0, Bv p1, Bv true]), (3, [.v (.int .i16 b0), .v (.int .i16 b1), Bv q0, Bv q1, Bv false]), (5, [.v (.int .i16 a0), .v (.int .i16 a0), Bv true, Bv true, Bv true]), (6, [.v (.int .i16 b0), .v (.int .i16 b1), Bv q0, Bv q1, Bv false])] ?_
          cases c43
          · replace hc43 := bf hc43
            refine iF (vc_skip (seq_n (vc_seqr rfl (iQ 2 (iC 10 [.agg [.v (.int .i16 a0), .v (.int .i16 a1), Bv p0, Bv p1, Bv true]] (some 46) (c_Make ha0 ha1) ?_)))))
            rintro _ rfl
            refine iQ 1 (iC 10 [.agg [.v (.int .i16 b0), .v (.int .i16 b1), Bv q0, Bv q1, Bv false]] (some 48) (c_Make hb0 hb1) ?_)
            rintro _ rfl
            refine iC 9 [Sv (wk k), .agg [.ifc (tV true) (cV a0 a1 p0 p1 true)], .agg [.ifc (tV false) (cV b0 b1 q0 q1 false)]] (some 49) (c_Holds (mem_wk k) ha0.ok ha1.ok hb0.ok hb1.ok) ?_
            rintro _ rfl
            refine iC 8 [.agg [cT (HI (wk k) a0 a1 p0 p1 true b0 b1 q0 q1 false)]] (some 50) (c_yes (HI_cases ..)) ?_
            rintro _ rfl
            refine iQ 1 (iB .neq 3 (.int .i64 (HI (wk k) a0 a1 p0 p1 true b0 b1 q0 q1 false - 1)) (.int .i64 0) (some 52) ?_)
            refine all_false ((HI_nay hc39 hc43)) ?_
            refine iE 54 [(2, .p 2 0), (3, .p 3 0), (4, Ba false), (5, .p 5 0), (6, .p 6 0), (8, .d (Sv (wk k))), (9, Ia 0), (11, Ba false), (15, Ba true), (22, Ba false), (28, .d (.sl 14 wds)), (29, Ia (((14 : Nat) : Int))), (30, Ia c), (31, Ba true), (39, Ba true), (43, Ba false), (52, Ba false)] [(2, [.v (.int .i16 a0), .v (.int .i16 a1), Bv p0, Bv p1, Bv true]), (3, [.v (.int .i16 b0), .v (.int .i16 b1), Bv q0, Bv q1, Bv false]), (5, [.v (.int .i16 a0), .v (.int .i16 a0), Bv true, Bv true, Bv true]), (6, [.v (.int .i16 b0), .v (.int .i16 b1), Bv q0, Bv q1, Bv false])] ?_
            refine iF (vc_skip (block_n (seq_n (vc_reg rfl (iB .add 3 (.int .i64 c) (.int .i64 1) (some 53) ?_)))))
            intro z53 hz53
            try replace hz53 := hz53.i64 (by omega)
            refine iQ 1 (iE 54 [(2, .p 2 0), (3, .p 3 0), (4, Ba false), (5, .p 5 0), (6, .p 6 0), (8, .d (Sv (wk k))), (9, Ia 0), (11, Ba false), (15, Ba true), (22, Ba false), (28, .d (.sl 14 wds)), (29, Ia (((14 : Nat) : Int))), (30, Ia z53), (31, Ba true), (39, Ba true), (43, Ba false), (52, Ba false)] [(2, [.v (.int .i16 a0), .v (.int .i16 a1), Bv p0, Bv p1, Bv true]), (3, [.v (.int .i16 b0), .v (.int .i16 b1), Bv q0, Bv q1, Bv false]), (5, [.v (.int .i16 a0), .v (.int .i16 a0), Bv true, Bv true, Bv true]), (6, [.v (.int .i16 b0), .v (.int .i16 b1), Bv q0, Bv q1, Bv false])] ?_)
            refine loop_n (k + 1, z53) (⟨by rw [hz53, h0]; rfl, by omega⟩) (by show 14 - (k + 1) < 14 - k; omega) (by kernel_rfl) (by kernel_rfl)
          · replace hc43 := bt hc43
            refine iT (vc_reg rfl (iQ 1 (iE 54 [(2, .p 2 0), (3, .p 3 0), (4, Ba false), (5, .p 5 0), (6, .p 6 0), (8, .d (Sv (wk k))), (9, Ia 1), (11, Ba false), (15, Ba true), (22, Ba false), (28, .d (.sl 14 wds)), (29, Ia (((14 : Nat) : Int))), (30, Ia c), (31, Ba true), (39, Ba true), (43, Ba true)] [(2, [.v (.int .i16 a0), .v (.int .i16 a1), Bv p0, Bv p1, Bv true]), (3, [.v (.int .i16 b0), .v (.int .i16 b1), Bv q0, Bv q1, Bv false]), (5, [.v (.int .i16 a0), .v (.int .i16 a0), Bv true, Bv true, Bv true]), (6, [.v (.int .i16 b0), .v (.int .i16 b1), Bv q0, Bv q1, Bv false])] ?_)))
            refine seq_n (vc_seqr rfl (iQ 2 (iC 10 [.agg [.v (.int .i16 a0), .v (.int .i16 a1), Bv p0, Bv p1, Bv true]] (some 46) (c_Make ha0 ha1) ?_)))
            rintro _ rfl
            refine iQ 1 (iC 10 [.agg [.v (.int .i16 b0), .v (.int .i16 b1), Bv q0, Bv q1, Bv false]] (some 48) (c_Make hb0 hb1) ?_)
            rintro _ rfl
            refine iC 9 [Sv (wk k), .agg [.ifc (tV true) (cV a0 a1 p0 p1 true)], .agg [.ifc (tV false) (cV b0 b1 q0 q1 false)]] (some 49) (c_Holds (mem_wk k) ha0.ok ha1.ok hb0.ok hb1.ok) ?_
            rintro _ rfl
            refine iC 8 [.agg [cT (HI (wk k) a0 a1 p0 p1 true b0 b1 q0 q1 false)]] (some 50) (c_yes (HI_cases ..)) ?_
            rintro _ rfl
            refine iQ 1 (iB .neq 3 (.int .i64 (HI (wk k) a0 a1 p0 p1 true b0 b1 q0 q1 false - 1)) (.int .i64 1) (some 52) ?_)
            refine all_false ((HI_yes hc39 hc43)) ?_
            refine iE 54 [(2, .p 2 0), (3, .p 3 0), (4, Ba false), (5, .p 5 0), (6, .p 6 0), (8, .d (Sv (wk k))), (9, Ia 1), (11, Ba false), (15, Ba true), (22, Ba false), (28, .d (.sl 14 wds)), (29, Ia (((14 : Nat) : Int))), (30, Ia c), (31, Ba true), (39, Ba true), (43, Ba true), (52, Ba false)] [(2, [.v (.int .i16 a0), .v (.int .i16 a1), Bv p0, Bv p1, Bv true]), (3, [.v (.int .i16 b0), .v (.int .i16 b1), Bv q0, Bv q1, Bv false]), (5, [.v (.int .i16 a0), .v (.int .i16 a0), Bv true, Bv true, Bv true]), (6, [.v (.int .i16 b0), .v (.int .i16 b1), Bv q0, Bv q1, Bv false])] ?_
            refine iF (vc_skip (block_n (seq_n (vc_reg rfl (iB .add 3 (.int .i64 c) (.int .i64 1) (some 53) ?_)))))
            intro z53 hz53
            try replace hz53 := hz53.i64 (by omega)
            refine iQ 1 (iE 54 [(2, .p 2 0), (3, .p 3 0), (4, Ba false), (5, .p 5 0), (6, .p 6 0), (8, .d (Sv (wk k))), (9, Ia 1), (11, Ba false), (15, Ba true), (22, Ba false), (28, .d (.sl 14 wds)), (29, Ia (((14 : Nat) : Int))), (30, Ia z53), (31, Ba true), (39, Ba true), (43, Ba true), (52, Ba false)] [(2, [.v (.int .i16 a0), .v (.int .i16 a1), Bv p0, Bv p1, Bv true]), (3, [.v (.int .i16 b0), .v (.int .i16 b1), Bv q0, Bv q1, Bv false]), (5, [.v (.int .i16 a0), .v (.int .i16 a0), Bv true, Bv true, Bv true]), (6, [.v (.int .i16 b0), .v (.int .i16 b1), Bv q0, Bv q1, Bv false])] ?_)
            refine loop_n (k + 1, z53) (⟨by rw [hz53, h0]; rfl, by omega⟩) (by show 14 - (k + 1) < 14 - k; omega) (by kernel_rfl) (by kernel_rfl)
    · skip
      refine iT (vc_reg rfl (iQ 7 (iE 54 [(2, .p 2 0), (3, .p 3 0), (4, Ba false), (5, .p 5 0), (6, .p 6 0), (11, Ba false), (15, Ba true), (22, Ba true)] [(2, [.v (.int .i16 a0), .v (.int .i16 a1), Bv p0, Bv p1, Bv true]), (3, [.v (.int .i16 b0), .v (.int .i16 b1), Bv q0, Bv q1, Bv true]), (5, [.v (.int .i16 a0), .v (.int .i16 a0), Bv true, Bv true, Bv true]), (6, [.v (.int .i16 b0), .v (.int .i16 b0), Bv true, Bv true, Bv true])] ?_)))
      refine seq_n (vc_seq (vc_seqr rfl (iC 5 [] (some 28) (c_words) ?_)))
      rintro _ rfl
      refine iQ 2 (iE 54 [(2, .p 2 0), (3, .p 3 0), (4, Ba false), (5, .p 5 0), (6, .p 6 0), (11, Ba false), (15, Ba true), (22, Ba true), (28, .d (.sl 14 wds)), (29, Ia (((14 : Nat) : Int))), (30, Ia 0)] [(2, [.v (.int .i16 a0), .v (.int .i16 a1), Bv p0, Bv p1, Bv true]), (3, [.v (.int .i16 b0), .v (.int .i16 b1), Bv q0, Bv q1, Bv true]), (5, [.v (.int .i16 a0), .v (.int .i16 a0), Bv true, Bv true, Bv true]), (6, [.v (.int .i16 b0), .v (.int .i16 b0), Bv true, Bv true, Bv true])] ?_)
      refine vc_block (vc_loop 54 (fun (vcx : Nat × Int) => match vcx with | (k, c) => [(2, .p 2 0), (3, .p 3 0), (4, Ba false), (5, .p 5 0), (6, .p 6 0), (11, Ba false), (15, Ba true), (22, Ba true), (28, .d (.sl 14 wds)), (29, Ia (((14 : Nat) : Int))), (30, Ia c)]) (fun (vcx : Nat × Int) => match vcx with | (k, c) => [(2, [.v (.int .i16 a0), .v (.int .i16 a1), Bv p0, Bv p1, Bv true]), (3, [.v (.int .i16 b0), .v (.int .i16 b1), Bv q0, Bv q1, Bv true]), (5, [.v (.int .i16 a0), .v (.int .i16 a0), Bv true, Bv true, Bv true]), (6, [.v (.int .i16 b0), .v (.int .i16 b0), Bv true, Bv true, Bv true])]) (fun (vcx : Nat × Int) => match vcx with | (k, c) => c = k ∧ k ≤ 14) (fun (vcx : Nat × Int) => match vcx with | (k, c) => 14 - k) ((0, 0)) (⟨rfl, by omega⟩) (by kernel_rfl) (by kernel_rfl) ?_)
      rintro ⟨k, c⟩ hinv
      simp only at hinv
      refine vc_seqr rfl (iB .lss 3 (.int .i64 c) (.int .i64 (((14 : Nat) : Int))) (some 31) ?_)
      intro c31 hc31
      refine iE 54 [(2, .p 2 0), (3, .p 3 0), (4, Ba false), (5, .p 5 0), (6, .p 6 0), (11, Ba false), (15, Ba true), (22, Ba true), (28, .d (.sl 14 wds)), (29, Ia (((14 : Nat) : Int))), (30, Ia c), (31, Ba c31)] [(2, [.v (.int .i16 a0), .v (.int .i16 a1), Bv p0, Bv p1, Bv true]), (3, [.v (.int .i16 b0), .v (.int .i16 b1), Bv q0, Bv q1, Bv true]), (5, [.v (.int .i16 a0), .v (.int .i16 a0), Bv true, Bv true, Bv true]), (6, [.v (.int .i16 b0), .v (.int .i16 b0), Bv true, Bv true, Bv true])] ?_
      refine vc_seq ?_
      cases c31
      · replace hc31 := bf hc31
        refine iF (vc_exit (seq_x (loop_x (block_x rfl (seq_n (vc_seqr rfl (iQ 1 (iE 54 [(2, .p 2 0), (3, .p 3 0), (4, Ba true), (5, .p 5 0), (6, .p 6 0), (11, Ba false), (15, Ba true), (22, Ba true), (28, .d (.sl 14 wds)), (29, Ia (((14 : Nat) : Int))), (30, Ia c), (31, Ba false)] [(2, [.v (.int .i16 a0), .v (.int .i16 a1), Bv p0, Bv p1, Bv true]), (3, [.v (.int .i16 b0), .v (.int .i16 b1), Bv q0, Bv q1, Bv true]), (5, [.v (.int .i16 a0), .v (.int .i16 a0), Bv true, Bv true, Bv true]), (6, [.v (.int .i16 b0), .v (.int .i16 b0), Bv true, Bv true, Bv true])] ?_))))))))
        refine vc_ret (iR (Bv true) ?_)
        rfl
      · replace hc31 := bt hc31
        obtain ⟨h0, h1⟩ := hinv
        refine iT (vc_skip (seq_n (vc_seq (vc_block (vc_seqr rfl (vcI_idx1 (q := c) (n := 14) (cs := wds) (d := .v (.string (wk k))) (dst := (some 32)) (by kernel_rfl) (by omega) (wk_get h0 (by omega)) ?_))))))
        refine iQ 2 (iE 54 [(2, .p 2 0), (3, .p 3 0), (4, Ba false), (5, .p 5 0), (6, .p 6 0), (8, .d (Sv (wk k))), (11, Ba false), (15, Ba true), (22, Ba true), (28, .d (.sl 14 wds)), (29, Ia (((14 : Nat) : Int))), (30, Ia c), (31, Ba true)] [(2, [.v (.int .i16 a0), .v (.int .i16 a1), Bv p0, Bv p1, Bv true]), (3, [.v (.int .i16 b0), .v (.int .i16 b1), Bv q0, Bv q1, Bv true]), (5, [.v (.int .i16 a0), .v (.int .i16 a0), Bv true, Bv true, Bv true]), (6, [.v (.int .i16 b0), .v (.int .i16 b0), Bv true, Bv true, Bv true])] ?_)
        refine vc_seqr rfl (iQ 1 (iE 54 [(2, .p 2 0), (3, .p 3 0), (4, Ba false), (5, .p 5 0), (6, .p 6 0), (8, .d (Sv (wk k))), (9, Ia (-1)), (11, Ba false), (15, Ba true), (22, Ba true), (28, .d (.sl 14 wds)), (29, Ia (((14 : Nat) : Int))), (30, Ia c), (31, Ba true)] [(2, [.v (.int .i16 a0), .v (.int .i16 a1), Bv p0, Bv p1, Bv true]), (3, [.v (.int .i16 b0), .v (.int .i16 b1), Bv q0, Bv q1, Bv true]), (5, [.v (.int .i16 a0), .v (.int .i16 a0), Bv true, Bv true, Bv true]), (6, [.v (.int .i16 b0), .v (.int .i16 b0), Bv true, Bv true, Bv true])] ?_))
        refine vc_seq (vc_seqr rfl (iQ 5 (iC 6 [Sv (wk k), Bv true, Bv true] (some 39) (m_may (mem_wk k)) ?_)))
        rintro _ ⟨c39, rfl, hc39⟩
        refine iE 54 [(2, .p 2 0), (3, .p 3 0), (4, Ba false), (5, .p 5 0), (6, .p 6 0), (8, .d (Sv (wk k))), (9, Ia (-1)), (11, Ba false), (15, Ba true), (22, Ba true), (28, .d (.sl 14 wds)), (29, Ia (((14 : Nat) : Int))), (30, Ia c), (31, Ba true), (39, Ba c39)] [(2, [.v (.int .i16 a0), .v (.int .i16 a1), Bv p0, Bv p1, Bv true]), (3, [.v (.int .i16 b0), .v (.int .i16 b1), Bv q0, Bv q1, Bv true]), (5, [.v (.int .i16 a0), .v (.int .i16 a0), Bv true, Bv true, Bv true]), (6, [.v (.int .i16 b0), .v (.int .i16 b0), Bv true, Bv true, Bv true])] ?_
        cases c39
        · replace hc39 := bf hc39
          refine iF (vc_skip (seq_n (vc_seqr rfl (iQ 2 (iC 10 [.agg [.v (.int .i16 a0), .v (.int .i16 a1), Bv p0, Bv p1, Bv true]] (some 46) (c_Make ha0 ha1) ?_)))))
          rintro _ rfl
          refine iQ 1 (iC 10 [.agg [.v (.int .i16 b0), .v (.int .i16 b1), Bv q0, Bv q1, Bv true]] (some 48) (c_Make hb0 hb1) ?_)
          rintro _ rfl
          refine iC 9 [Sv (wk k), .agg [.ifc (tV true) (cV a0 a1 p0 p1 true)], .agg [.ifc (tV true) (cV b0 b1 q0 q1 true)]] (some 49) (c_Holds (mem_wk k) ha0.ok ha1.ok hb0.ok hb1.ok) ?_
          rintro _ rfl
          refine iC 8 [.agg [cT (HI (wk k) a0 a1 p0 p1 true b0 b1 q0 q1 true)]] (some 50) (c_yes (HI_cases ..)) ?_
          rintro _ rfl
          refine iQ 1 (iB .neq 3 (.int .i64 (HI (wk k) a0 a1 p0 p1 true b0 b1 q0 q1 true - 1)) (.int .i64 (-1)) (some 52) ?_)
          refine all_false ((HI_no hc39)) ?_
          refine iE 54 [(2, .p 2 0), (3, .p 3 0), (4, Ba false), (5, .p 5 0), (6, .p 6 0), (8, .d (Sv (wk k))), (9, Ia (-1)), (11, Ba false), (15, Ba true), (22, Ba true), (28, .d (.sl 14 wds)), (29, Ia (((14 : Nat) : Int))), (30, Ia c), (31, Ba true), (39, Ba false), (52, Ba false)] [(2, [.v (.int .i16 a0), .v (.int .i16 a1), Bv p0, Bv p1, Bv true]), (3, [.v (.int .i16 b0), .v (.int .i16 b1), Bv q0, Bv q1, Bv true]), (5, [.v (.int .i16 a0), .v (.int .i16 a0), Bv true, Bv true, Bv true]), (6, [.v (.int .i16 b0), .v (.int .i16 b0), Bv true, Bv true, Bv true])] ?_
          refine iF (vc_skip (block_n (seq_n (vc_reg rfl (iB .add 3 (.int .i64 c) (.int .i64 1) (some 53) ?_)))))
          intro z53 hz53
          try replace hz53 := hz53.i64 (by omega)
          refine iQ 1 (iE 54 [(2, .p 2 0), (3, .p 3 0), (4, Ba false), (5, .p 5 0), (6, .p 6 0), (8, .d (Sv (wk k))), (9, Ia (-1)), (11, Ba false), (15, Ba true), (22, Ba true), (28, .d (.sl 14 wds)), (29, Ia (((14 : Nat) : Int))), (30, Ia z53), (31, Ba true), (39, Ba false), (52, Ba false)] [(2, [.v (.int .i16 a0), .v (.int .i16 a1), Bv p0, Bv p1, Bv true]), (3, [.v (.int .i16 b0), .v (.int .i16 b1), Bv q0, Bv q1, Bv true]), (5, [.v (.int .i16 a0), .v (.int .i16 a0), Bv true, Bv true, Bv true]), (6, [.v (.int .i16 b0), .v (.int .i16 b0), Bv true, Bv true, Bv true])] ?_)
          refine loop_n (k + 1, z53) (⟨by rw [hz53, h0]; rfl, by omega⟩) (by show 14 - (k + 1) < 14 - k; omega) (by kernel_rfl) (by kernel_rfl)
        · replace hc39 := bt hc39
          refine iT (vc_seqr rfl (iQ 1 (iE 54 [(2, .p 2 0), (3, .p 3 0), (4, Ba false), (5, .p 5 0), (6, .p 6 0), (8, .d (Sv (wk k))), (9, Ia 0), (11, Ba false), (15, Ba true), (22, Ba true), (28, .d (.sl 14 wds)), (29, Ia (((14 : Nat) : Int))), (30, Ia c), (31, Ba true), (39, Ba true)] [(2, [.v (.int .i16 a0), .v (.int .i16 a1), Bv p0, Bv p1, Bv true]), (3, [.v (.int .i16 b0), .v (.int .i16 b1), Bv q0, Bv q1, Bv true]), (5, [.v (.int .i16 a0), .v (.int .i16 a0), Bv true, Bv true, Bv true]), (6, [.v (.int .i16 b0), .v (.int .i16 b0), Bv true, Bv true, Bv true])] ?_)))
          refine vc_seqr rfl (iQ 3 (iC 7 [Sv (wk k), .agg [.v (.int .i16 a0), .v (.int .i16 a0), Bv true, Bv true, Bv true], .agg [.v (.int .i16 b0), .v (.int .i16 b0), Bv true, Bv true, Bv true]] (some 43) (t_holds (mem_wk k)) ?_))
          rintro _ ⟨c43, rfl, hc43⟩
          refine iE 54 [(2, .p 2 0), (3, .p 3 0), (4, Ba false), (5, .p 5 0), (6, .p 6 0), (8, .d (Sv (wk k))), (9, Ia 0), (11, Ba false), (15, Ba true), (22, Ba true), (28, .d (.sl 14 wds)), (29, Ia (((14 : Nat) : Int))), (30, Ia c), (31, Ba true), (39, Ba true), (43, Ba c43)] [(2, [.v (.int .i16 a0), .v (.int .i16 a1), Bv p0, Bv p1, Bv true]), (3, [.v (.int .i16 b0), .v (.int .i16 b1), Bv q0, Bv q1, Bv true]), (5, [.v (.int .i16 a0), .v (.int .i16 a0), Bv true, Bv true, Bv true]), (6, [.v (.int .i16 b0), .v (.int .i16 b0), Bv true, Bv true, Bv true])] ?_
          cases c43
          · replace hc43 := bf hc43
            refine iF (vc_skip (seq_n (vc_seqr rfl (iQ 2 (iC 10 [.agg [.v (.int .i16 a0), .v (.int .i16 a1), Bv p0, Bv p1, Bv true]] (some 46) (c_Make ha0 ha1) ?_)))))
            rintro _ rfl
            refine iQ 1 (iC 10 [.agg [.v (.int .i16 b0), .v (.int .i16 b1), Bv q0, Bv q1, Bv true]] (some 48) (c_Make hb0 hb1) ?_)
            rintro _ rfl
            refine iC 9 [Sv (wk k), .agg [.ifc (tV true) (cV a0 a1 p0 p1 true)], .agg [.ifc (tV true) (cV b0 b1 q0 q1 true)]] (some 49) (c_Holds (mem_wk k) ha0.ok ha1.ok hb0.ok hb1.ok) ?_
            rintro _ rfl
            refine iC 8 [.agg [cT (HI (wk k) a0 a1 p0 p1 true b0 b1 q0 q1 true)]] (some 50) (c_yes (HI_cases ..)) ?_
            rintro _ rfl
            refine iQ 1 (iB .neq 3 (.int .i64 (HI (wk k) a0 a1 p0 p1 true b0 b1 q0 q1 true - 1)) (.int .i64 0) (some 52) ?_)
            refine all_false ((HI_nay hc39 hc43)) ?_
            refine iE 54 [(2, .p 2 0), (3, .p 3 0), (4, Ba false), (5, .p 5 0), (6, .p 6 0), (8, .d (Sv (wk k))), (9, Ia 0), (11, Ba false), (15, Ba true), (22, Ba true), (28, .d (.sl 14 wds)), (29, Ia (((14 : Nat) : Int))), (30, Ia c), (31, Ba true), (39, Ba true), (43, Ba false), (52, Ba false)] [(2, [.v (.int .i16 a0), .v (.int .i16 a1), Bv p0, Bv p1, Bv true]), (3, [.v (.int .i16 b0), .v (.int .i16 b1), Bv q0, Bv q1, Bv true]), (5, [.v (.int .i16 a0), .v (.int .i16 a0), Bv true, Bv true, Bv true]), (6, [.v (.int .i16 b0), .v (.int .i16 b0), Bv true, Bv true, Bv true])] ?_
            refine iF (vc_skip (block_n (seq_n (vc_reg rfl (iB .add 3 (.int .i64 c) (.int .i64 1) (some 53) ?_)))))
            intro z53 hz53
            try replace hz53 := hz53.i64 (by omega)
            refine iQ 1 (iE 54 [(2, .p 2 0), (3, .p 3 0), (4, Ba false), (5, .p 5 0), (6, .p 6 0), (8, .d (Sv (wk k))), (9, Ia 0), (11, Ba false), (15, Ba true), (22, Ba true), (28, .d (.sl 14 wds)), (29, Ia (((14 : Nat) : Int))), (30, Ia z53), (31, Ba true), (39, Ba true), (43, Ba false), (52, Ba false)] [(2, [.v (.int .i16 a0), .v (.int .i16 a1), Bv p0, Bv p1, Bv true]), (3, [.v (.int .i16 b0), .v (.int .i16 b1), Bv q0, Bv q1, Bv true]), (5, [.v (.int .i16 a0), .v (.int .i16 a0), Bv true, Bv true, Bv true]), (6, [.v (.int .i16 b0), .v (.int .i16 b0), Bv true, Bv true, Bv true])] ?_)
            refine loop_n (k + 1, z53) (⟨by rw [hz53, h0]; rfl, by omega⟩) (by show 14 - (k + 1) < 14 - k; omega) (by kernel_rfl) (by kernel_rfl)
          · replace hc43 := bt hc43
            refine iT (vc_reg rfl (iQ 1 (iE 54 [(2, .p 2 0), (3, .p 3 0), (4, Ba false), (5, .p 5 0), (6, .p 6 0), (8, .d (Sv (wk k))), (9, Ia 1), (11, Ba false), (15, Ba true), (22, Ba true), (28, .d (.sl 14 wds)), (29, Ia (((14 : Nat) : Int))), (30, Ia c), (31, Ba true), (39, Ba true), (43, Ba true)] [(2, [.v (.int .i16 a0), .v (.int .i16 a1), Bv p0, Bv p1, Bv true]), (3, [.v (.int .i16 b0), .v (.int .i16 b1), Bv q0, Bv q1, Bv true]), (5, [.v (.int .i16 a0), .v (.int .i16 a0), Bv true, Bv true, Bv true]), (6, [.v (.int .i16 b0), .v (.int .i16 b0), Bv true, Bv true, Bv true])] ?_)))
            refine seq_n (vc_seqr rfl (iQ 2 (iC 10 [.agg [.v (.int .i16 a0), .v (.int .i16 a1), Bv p0, Bv p1, Bv true]] (some 46) (c_Make ha0 ha1) ?_)))
            rintro _ rfl
            refine iQ 1 (iC 10 [.agg [.v (.int .i16 b0), .v (.int .i16 b1), Bv q0, Bv q1, Bv true]] (some 48) (c_Make hb0 hb1) ?_)
            rintro _ rfl
            refine iC 9 [Sv (wk k), .agg [.ifc (tV true) (cV a0 a1 p0 p1 true)], .agg [.ifc (tV true) (cV b0 b1 q0 q1 true)]] (some 49) (c_Holds (mem_wk k) ha0.ok ha1.ok hb0.ok hb1.ok) ?_
            rintro _ rfl
            refine iC 8 [.agg [cT (HI (wk k) a0 a1 p0 p1 true b0 b1 q0 q1 true)]] (some 50) (c_yes (HI_cases ..)) ?_
            rintro _ rfl
            refine iQ 1 (iB .neq 3 (.int .i64 (HI (wk k) a0 a1 p0 p1 true b0 b1 q0 q1 true - 1)) (.int .i64 1) (some 52) ?_)
            refine all_false ((HI_yes hc39 hc43)) ?_
            refine iE 54 [(2, .p 2 0), (3, .p 3 0), (4, Ba false), (5, .p 5 0), (6, .p 6 0), (8, .d (Sv (wk k))), (9, Ia 1), (11, Ba false), (15, Ba true), (22, Ba true), (28, .d (.sl 14 wds)), (29, Ia (((14 : Nat) : Int))), (30, Ia c), (31, Ba true), (39, Ba true), (43, Ba true), (52, Ba false)] [(2, [.v (.int .i16 a0), .v (.int .i16 a1), Bv p0, Bv p1, Bv true]), (3, [.v (.int .i16 b0), .v (.int .i16 b1), Bv q0, Bv q1, Bv true]), (5, [.v (.int .i16 a0), .v (.int .i16 a0), Bv true, Bv true, Bv true]), (6, [.v (.int .i16 b0), .v (.int .i16 b0), Bv true, Bv true, Bv true])] ?_
            refine iF (vc_skip (block_n (seq_n (vc_reg rfl (iB .add 3 (.int .i64 c) (.int .i64 1) (some 53) ?_)))))
            intro z53 hz53
            try replace hz53 := hz53.i64 (by omega)
            refine iQ 1 (iE 54 [(2, .p 2 0), (3, .p 3 0), (4, Ba false), (5, .p 5 0), (6, .p 6 0), (8, .d (Sv (wk k))), (9, Ia 1), (11, Ba false), (15, Ba true), (22, Ba true), (28, .d (.sl 14 wds)), (29, Ia (((14 : Nat) : Int))), (30, Ia z53), (31, Ba true), (39, Ba true), (43, Ba true), (52, Ba false)] [(2, [.v (.int .i16 a0), .v (.int .i16 a1), Bv p0, Bv p1, Bv true]), (3, [.v (.int .i16 b0), .v (.int .i16 b1), Bv q0, Bv q1, Bv true]), (5, [.v (.int .i16 a0), .v (.int .i16 a0), Bv true, Bv true, Bv true]), (6, [.v (.int .i16 b0), .v (.int .i16 b0), Bv true, Bv true, Bv true])] ?_)
            refine loop_n (k + 1, z53) (⟨by rw [hz53, h0]; rfl, by omega⟩) (by show 14 - (k + 1) < 14 - k; omega) (by kernel_rfl) (by kernel_rfl)
end Go.Proofs.YtimpaejpokkdnaaGreatDoor
