/-
  casuistlaw12: EqualWithin.
-/
import Derived.Test.YtpambeengdhhmaaGreatDoorVlI
import Derived.Test.YtpambeengdhhmaaGreatDoorVlE
namespace Go.Proofs.YtpambeengdhhmaaGreatDoor
open Go.RowKit
set_option linter.unusedVariables false
set_option linter.unusedSimpArgs false
set_option maxRecDepth 100000

-- casuistlaw12's own
theorem c_Make12 {k : Int} {t : L8} {is : List Dm} {ns : List L8} {p q : Bool} (hs : (Dm.mk k t is ns p q).small) : HasC Tryz.prog 19 [.agg [.v (.int .i64 k), .v (.string (tx t)), .sl ((is).length) (cellsL (is)), .sl ((ns).length) (txsD (ns)), .v (.bool p), .v (.bool q)]] (fun r => ∃ v, r = VV v ∧ v.ok) := by
 refine HasC.of [] (fn := Tryz.f19) tyOk mixed (fun args w => Tryz.call19 args w) Tryz.func19 rfl (by kernel_rfl) (Nat.le_of_ble_eq_true rfl) (⟨_, .null, rfl, null_ok⟩) ?_
 refine vc_seqr rfl (iQ 2 (iE 11 [(1, .p 1 0), (2, .p 2 0)] [(1, [Iv k, Sv (tx t), .sl ((is).length) (cellsL (is)), .sl ((ns).length) (txsD (ns)), Bv p, Bv q]), (2, [.v (.nilIface)])] ?_))
 refine vc_seqr rfl (iQ 1 (iC 39 [.agg [Iv k, Sv (tx t), .sl ((is).length) (cellsL (is)), .sl ((ns).length) (txsD (ns)), Bv p, Bv q]] (some 7) (c_vOf k t is ns p q hs) ?_))
 rintro _ ⟨v, ok, rfl, hv⟩
 refine iQ 6 (iE 11 [(2, .p 2 0), (3, .p 3 0)] [(2, [.v (.nilIface)]), (3, [.bx (v).enc])] ?_)
 refine vc_seqr rfl (iQ 2 (iE 11 [(2, .p 2 0), (3, .p 3 0)] [(2, [.bx (v).enc]), (3, [.bx (v).enc])] ?_))
 refine vc_ret (iR (.agg [.bx (v).enc]) ?_)
 exact ⟨v, rfl, hv.1⟩
-- within
end Go.Proofs.YtpambeengdhhmaaGreatDoor
