/-
  Numbers as rows of digits.
-/
import Derived.Test.YtbabmopplnbmdaaGreatDoorVcX
namespace Go.Proofs.YtbabmopplnbmdaaGreatDoor
open Go.RowKit
set_option linter.unusedVariables false
set_option linter.unusedSimpArgs false
set_option maxRecDepth 100000

/-- Digits as they read. -/
def dg (ds : List Nat) : List DV := ds.map fun (d : Nat) => .v (.int .i64 (d : Int))
theorem dg_len (ds : List Nat) : (dg ds).length = ds.length := by simp [dg]
theorem dg_get {ds : List Nat} {i d : Nat} (h : ds[i]? = some d) : (dg ds)[i]? = some (.v (.int .i64 (d : Int))) := by simp [dg, h]
theorem allOne_dg : ∀ ds, allOne (dg ds) = true
  | [] => rfl
  | d :: ds => by
    show (DV.one _ && allOne (dg ds)) = true
    rw [allOne_dg ds]
    rfl
theorem dg_append (a b : List Nat) : dg (a ++ b) = dg a ++ dg b := by simp [dg]
theorem dg_one (d : Nat) : dg [d] = [.v (.int .i64 (d : Int))] := rfl
theorem dg_take (ds : List Nat) (n : Nat) : (dg ds).take n = dg (ds.take n) := by simp [dg]

/-- Without noughts at the end. -/
def trimTo (ds : List Nat) : Nat → Nat
  | 0 => 0
  | n + 1 => if ds[n]? = some 0 then trimTo ds n else n + 1
def trim (ds : List Nat) : List Nat := ds.take (trimTo ds ds.length)
theorem trimTo_le (ds : List Nat) : ∀ n, trimTo ds n ≤ n
  | 0 => Nat.le_refl _
  | n + 1 => by
    unfold trimTo
    split
    · exact Nat.le_succ_of_le (trimTo_le ds n)
    · exact Nat.le_refl _

theorem trimTo_step {ds : List Nat} {n d : Nat} (hn : 0 < n) (hd : ds[n - 1]? = some d) : trimTo ds n = if d = 0 then trimTo ds (n - 1) else n := by
  obtain ⟨k, rfl⟩ : ∃ k, n = k + 1 := ⟨n - 1, by omega⟩
  simp only [Nat.add_sub_cancel] at hd ⊢
  rw [trimTo, hd]
  simp

theorem c_Trim {ds : List Nat} (hl : ds.length ≤ 100000000000) : HasC Tryz.prog 58 [.sl ((ds).length) (dg (ds))] (fun y => y = .sl (trim ds).length (dg (trim ds))) := by
  refine HasC.of [] (fn := Tryz.f58) tyOk mixed (fun args w => Tryz.call58 args w) Tryz.func58 rfl (by kernel_rfl) (Nat.le_of_ble_eq_true rfl) (⟨_, rfl⟩) ?_
  refine vc_seqr rfl (iQ 1 (iE 25 [(0, .d (.sl ((ds).length) (dg (ds)))), (2, .w (.sl 0 []) none)] [] ?_))
  refine vc_seqr rfl (iQ 3 (iE 25 [(0, .d (.sl ((ds).length) (dg (ds)))), (2, .w (.sl 0 []) none), (3, Ia ((((ds).length : Nat) : Int)))] [] ?_))
  refine vc_seq (vc_block (vc_loop 25 (fun (vcx : Nat) => match vcx with | n => [(0, .d (.sl ((ds).length) (dg (ds)))), (2, .w (.sl 0 []) none), (3, Ia ((n : Int)))]) (fun (vcx : Nat) => match vcx with | n => []) (fun (vcx : Nat) => match vcx with | n => n ≤ ds.length ∧ trimTo ds n = trimTo ds ds.length) (fun (vcx : Nat) => match vcx with | n => n) ds.length (⟨Nat.le_refl _, rfl⟩) (by kernel_rfl) (by kernel_rfl) ?_))
  rintro n hinv
  simp only at hinv
  obtain ⟨hn, ht⟩ := hinv
  refine vc_seq (vc_seqr rfl (iQ 1 (iB .gtr 3 (.int .i64 ((n : Int))) (.int .i64 0) (some 8) ?_)))
  intro c8 hc8
  refine iQ 1 ?_
  cases c8
  · replace hc8 := bf hc8
    refine iQ 7 (iE 25 [(0, .d (.sl ((ds).length) (dg (ds)))), (2, .w (.sl 0 []) none), (3, Ia ((n : Int))), (16, Ba false)] [] ?_)
    have hn0 : n = 0 := by omega
    have ht0 : trimTo ds ds.length = 0 := by rw [← ht, hn0]; rfl
    have hl0 : (trim ds).length = 0 := by simp [trim, ht0]
    refine iF (vc_exit (seq_x (loop_x (block_x rfl (seq_n (vc_seqr rfl (iQ 1 (iE 25 [(0, .d (.sl ((ds).length) (dg (ds)))), (2, .w (.sl 0 []) none), (3, Ia ((n : Int))), (4, .w (.sl 0 []) none), (16, Ba false)] [] ?_))))))))
    refine vc_seqr rfl (iQ 3 (vcI_sl (l := 0) (u := ((n : Int))) (n := ((ds).length)) (cs := (dg (ds))) (z := 1) (m := ((trim ds).length)) (ds := (dg (trim ds))) (dst := (some 22)) (by kernel_rfl) (by omega) (by omega) (by simp [trim, ht0, dg]) ?_))
    refine vcI_app (n := 0) (cs := []) (m := ((trim ds).length)) (ds := (dg (trim ds))) (N := ((trim ds).length)) (es := (dg (trim ds))) (j := 23) (e := 3) (z := 1) (dst := (some 23)) (by kernel_rfl) (by first | rfl | omega | (rw [Nat.mul_one]; exact dg_len _) | (simp [dg]; done) | (simp [dg]; omega)) (by first | rfl | omega | (rw [Nat.mul_one]; exact dg_len _) | (simp [dg]; done) | (simp [dg]; omega)) (by first | rfl | exact allOne_dg _ | simp [dg, allOne]) (by omega) (by first | rfl | omega | (rw [Nat.mul_one]; exact dg_len _) | (simp [dg]; done) | (simp [dg]; omega)) (by first | rfl | simp [dg]) ?_
    refine iQ 1 (iE 25 [(0, .d (.sl ((ds).length) (dg (ds)))), (2, .w (.sl 0 []) none), (3, Ia ((n : Int))), (4, .w (.sl ((trim ds).length) (dg (trim ds))) (some ⟨23, 0, 3, 1⟩)), (16, Ba false)] [] ?_)
    refine vc_seqr rfl (iQ 2 (iE 25 [(0, .d (.sl ((ds).length) (dg (ds)))), (2, .w (.sl ((trim ds).length) (dg (trim ds))) (some ⟨23, 0, 3, 1⟩)), (3, Ia ((n : Int))), (4, .w (.sl ((trim ds).length) (dg (trim ds))) (some ⟨23, 0, 3, 1⟩)), (16, Ba false)] [] ?_))
    refine vc_ret (iR (.sl ((trim ds).length) (dg (trim ds))) ?_)
    rfl
  · replace hc8 := bt hc8
    refine iQ 2 (iB .sub 3 (.int .i64 ((n : Int))) (.int .i64 1) (some 12) ?_)
    intro z12 hz12
    try replace hz12 := hz12.i64 (by omega)
    obtain ⟨d, hd⟩ : ∃ d, ds[n - 1]? = some d := ⟨ds[n - 1]'(by omega), List.getElem?_eq_getElem (by omega)⟩
    refine vcI_idx1 (q := z12) (n := ((ds).length)) (cs := (dg (ds))) (d := .v (.int .i64 ((d : Int)))) (dst := (some 13)) (by kernel_rfl) (by omega) (by rw [show z12.toNat = n - 1 by omega]; exact dg_get hd) ?_
    refine iQ 1 (iB .eql 3 (.int .i64 ((d : Int))) (.int .i64 0) (some 15) ?_)
    intro c15 hc15
    refine iQ 1 (iE 25 [(0, .d (.sl ((ds).length) (dg (ds)))), (2, .w (.sl 0 []) none), (3, Ia ((n : Int))), (16, Ba c15)] [] ?_)
    cases c15
    · replace hc15 := bf hc15
      have hn1 : trimTo ds n = n := by rw [trimTo_step (by omega) hd, if_neg (by omega)]
      have hl1 : (trim ds).length = n := by simp [trim, ← ht, hn1]; omega
      refine iF (vc_exit (seq_x (loop_x (block_x rfl (seq_n (vc_seqr rfl (iQ 1 (iE 25 [(0, .d (.sl ((ds).length) (dg (ds)))), (2, .w (.sl 0 []) none), (3, Ia ((n : Int))), (4, .w (.sl 0 []) none), (16, Ba false)] [] ?_))))))))
      refine vc_seqr rfl (iQ 3 (vcI_sl (l := 0) (u := ((n : Int))) (n := ((ds).length)) (cs := (dg (ds))) (z := 1) (m := ((trim ds).length)) (ds := (dg (trim ds))) (dst := (some 22)) (by kernel_rfl) (by omega) (by omega) (by rw [hl1]; simp [trim, dg, ← ht, hn1]) ?_))
      refine vcI_app (n := 0) (cs := []) (m := ((trim ds).length)) (ds := (dg (trim ds))) (N := ((trim ds).length)) (es := (dg (trim ds))) (j := 23) (e := 3) (z := 1) (dst := (some 23)) (by kernel_rfl) (by first | rfl | omega | (rw [Nat.mul_one]; exact dg_len _) | (simp [dg]; done) | (simp [dg]; omega)) (by first | rfl | omega | (rw [Nat.mul_one]; exact dg_len _) | (simp [dg]; done) | (simp [dg]; omega)) (by first | rfl | exact allOne_dg _ | simp [dg, allOne]) (by omega) (by first | rfl | omega | (rw [Nat.mul_one]; exact dg_len _) | (simp [dg]; done) | (simp [dg]; omega)) (by first | rfl | simp [dg]) ?_
      refine iQ 1 (iE 25 [(0, .d (.sl ((ds).length) (dg (ds)))), (2, .w (.sl 0 []) none), (3, Ia ((n : Int))), (4, .w (.sl ((trim ds).length) (dg (trim ds))) (some ⟨23, 0, 3, 1⟩)), (16, Ba false)] [] ?_)
      refine vc_seqr rfl (iQ 2 (iE 25 [(0, .d (.sl ((ds).length) (dg (ds)))), (2, .w (.sl ((trim ds).length) (dg (trim ds))) (some ⟨23, 0, 3, 1⟩)), (3, Ia ((n : Int))), (4, .w (.sl ((trim ds).length) (dg (trim ds))) (some ⟨23, 0, 3, 1⟩)), (16, Ba false)] [] ?_))
      refine vc_ret (iR (.sl ((trim ds).length) (dg (trim ds))) ?_)
      rfl
    · replace hc15 := bt hc15
      refine iT (vc_skip (seq_n (vc_block (vc_reg rfl (iQ 1 (iB .sub 3 (.int .i64 ((n : Int))) (.int .i64 1) (some 18) ?_))))))
      intro z18 hz18
      try replace hz18 := hz18.i64 (by omega)
      refine iQ 1 (iE 25 [(0, .d (.sl ((ds).length) (dg (ds)))), (2, .w (.sl 0 []) none), (3, Ia z18), (16, Ba true)] [] ?_)
      refine block_n ?_
      obtain rfl : z18 = ((n - 1 : Nat) : Int) := by omega
      refine loop_n (n - 1) (⟨by omega, by rw [← ht, trimTo_step (by omega) hd, if_pos (by omega)]⟩) (by show n - 1 < n; omega) (by kernel_rfl) (by kernel_rfl)

end Go.Proofs.YtbabmopplnbmdaaGreatDoor
