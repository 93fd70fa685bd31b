/-
  value.Text of one sign; what equal and rangefun say of ends that are whole numbers.
-/
import Derived.Test.YtimpaejpokkdnaaGreatDoorVal
namespace Go.Proofs.YtimpaejpokkdnaaGreatDoor
open Go.RowKit
set_option linter.unusedVariables false
set_option linter.unusedSimpArgs false
set_option maxRecDepth 100000

theorem bnot_eq {c p : Bool} (h : c = true ↔ p = false) : c = !p := by cases c <;> cases p <;> simp_all
theorem byteA0 : ∀ s : ByteArray, s = ⟨#[97]⟩ ∨ s = ⟨#[]⟩ → s.size = 0 → s = ⟨#[]⟩ := by
  rintro s (rfl | rfl) h
  · cases h
  · rfl
theorem byteA1 : ∀ s : ByteArray, s = ⟨#[97]⟩ ∨ s = ⟨#[]⟩ → 0 < s.size → s = ⟨#[97]⟩ := by
  rintro s (rfl | rfl) h
  · rfl
  · cases h

theorem c_ValidA  : HasC Tryz.prog 23 [.v (.string (⟨#[97]⟩))] (fun r => r = .v (.bool true)) := by
  refine HasC.of [] (fn := Tryz.f23) tyOk mixed (fun args w => Tryz.call23 args w) Tryz.func23 rfl (by kernel_rfl) (Nat.le_of_ble_eq_true rfl) (⟨_, rfl⟩) ?_
  refine vc_seqr rfl (iQ 1 (iE 169 [(0, .d (Sv (⟨#[97]⟩))), (2, Ba false)] [] ?_))
  refine vc_seq (vc_block (vc_loop 169 (fun (vcx : ByteArray) => match vcx with | s => [(0, .d (Sv s)), (2, Ba false)]) (fun (vcx : ByteArray) => match vcx with | s => []) (fun (vcx : ByteArray) => match vcx with | s => s = ⟨#[97]⟩ ∨ s = ⟨#[]⟩) (fun (vcx : ByteArray) => match vcx with | s => s.size) (⟨#[97]⟩) (.inl rfl) (by kernel_rfl) (by kernel_rfl) ?_))
  rintro s hinv
  simp only at hinv
  refine vc_seq (vc_seqr rfl (iQ 1 (iL .len [9] [.string s] (some 8) ?_)))
  intro n8 hn8
  refine iB .gtr 3 (.int .i64 ((n8 : Nat))) (.int .i64 0) (some 9) ?_
  intro c9 hc9
  refine iE 169 [(0, .d (Sv s)), (2, Ba false), (9, Ba c9)] [] ?_
  cases c9
  · replace hc9 := bf hc9
    refine iF (vc_exit (seq_x (loop_x (block_x rfl (seq_n (vc_seqr rfl (iQ 1 (iE 169 [(0, .d (Sv s)), (2, Ba true), (9, Ba false)] [] ?_))))))))
    refine vc_ret (iR (Bv true) ?_)
    rfl
  · replace hc9 := bt hc9
    have hs := byteA1 s hinv (by omega)
    refine iT (vc_skip (seq_n (vc_block (vc_seqr rfl (iQ 1 (iX 9 (.string s) (.int .i64 0) (some 11) ?_))))))
    refine And.intro (by rw [hs]; decide) ?_
    intro z11 hz11
    refine iQ 1 (iE 169 [(0, .d (Sv s)), (2, Ba false), (3, .d (.v (.int .u8 z11))), (9, Ba true)] [] ?_)
    refine vc_seq (vc_seqr rfl (iQ 1 (iB .lss 5 (.int .u8 z11) (.int .u8 128) (some 13) ?_)))
    refine all_true ((by rw [hz11, hs]; decide)) ?_
    refine iE 169 [(0, .d (Sv s)), (2, Ba false), (3, .d (.v (.int .u8 z11))), (9, Ba true), (13, Ba true)] [] ?_
    refine iT (vc_seqr rfl (iQ 1 (iY 9 (s) (1) (((s : ByteArray).size : Int)) (some 15) ?_)))
    refine And.intro (by rw [hs]; decide) ?_
    intro s15 hs15
    have hs2 : s15 = ⟨#[]⟩ := by rw [hs15, hs]; rfl
    refine iQ 1 (iE 169 [(0, .d (Sv s15)), (2, Ba false), (3, .d (.v (.int .u8 z11))), (9, Ba true), (13, Ba true)] [] ?_)
    refine vc_seq (vc_seqr rfl (iQ 1 (iL .len [9] [.string s15] (some 17) ?_)))
    intro n17 hn17
    refine iB .gtr 3 (.int .i64 ((n17 : Nat))) (.int .i64 8) (some 18) ?_
    refine all_false ((by rw [hn17, hs2]; decide)) ?_
    refine iQ 6 (iE 169 [(0, .d (Sv s15)), (2, Ba false), (3, .d (.v (.int .u8 z11))), (9, Ba true), (13, Ba true), (24, Ba false)] [] ?_)
    refine iF (vc_skip (seq_n (vc_exit (seq_x (block_x rfl ?_)))))
    refine loop_n (s15) (.inr hs2) (by rw [hs2, hs]; decide) (by kernel_rfl) (by kernel_rfl)
theorem c_TextA  : HasC Tryz.prog 13 [.v (.string (⟨#[97]⟩))] (fun r => r = .agg [.ifc 62 (.v (.string ⟨#[97]⟩))]) := by
  refine HasC.of [] (fn := Tryz.f13) tyOk mixed (fun args w => Tryz.call13 args w) Tryz.func13 rfl (by kernel_rfl) (Nat.le_of_ble_eq_true rfl) (⟨_, rfl⟩) ?_
  refine vc_seqr rfl (iQ 1 (iE 15 [(0, .d (Sv (⟨#[97]⟩))), (2, .p 2 0)] [(2, [.v (.nilIface)])] ?_))
  refine vc_seq (vc_seqr rfl (iQ 1 (iC 23 [Sv (⟨#[97]⟩)] (some 4) (c_ValidA) ?_)))
  rintro _ rfl
  refine iU .not (.bool true) (some 5) ?_
  refine all_false ((by simp)) ?_
  refine iQ 2 (iL .len [9] [.string (⟨#[97]⟩)] (some 8) ?_)
  intro n8 hn8
  refine iB .gtr 3 (.int .i64 ((n8 : Nat))) (.int .i64 1048576) (some 9) ?_
  refine all_false ((by rw [hn8]; decide)) ?_
  refine iQ 1 (iE 15 [(0, .d (Sv (⟨#[97]⟩))), (2, .p 2 0), (10, Ba false)] [(2, [.v (.nilIface)])] ?_)
  refine iF (vc_skip (seq_n (vc_seqr rfl (iQ 4 (iE 15 [(0, .d (Sv (⟨#[97]⟩))), (2, .p 2 0), (10, Ba false)] [(2, [.ifc 62 (Sv (⟨#[97]⟩))])] ?_)))))
  refine vc_ret (iR (.agg [.ifc 62 (Sv (⟨#[97]⟩))]) ?_)
  rfl

end Go.Proofs.YtimpaejpokkdnaaGreatDoor
