/- value.Int. -/
import Derived.Test.YtdkgnmiiibpnnaaGreatDoorVlX
namespace Go.Proofs.YtdkgnmiiibpnnaaGreatDoor
open Go.RowKit
set_option linter.unusedVariables false
set_option linter.unusedSimpArgs false
set_option maxRecDepth 100000
def a2q (x:Int):Vl:=.num (decide (x<0)) x.natAbs 0
theorem a4h {x:Int} (h0 : -9223372036854775808≤x) (h1:x≤9223372036854775807):May (decide (x<0)) x.natAbs 0:=⟨by unfold E34;omega,by decide,by decide,fun h h2=>by have:x<0:=(by simpa using h);omega⟩
theorem a8k {x:Int} (h0 : -9223372036854775808≤x) (h1:x≤9223372036854775807):Je (decide (x<0)) x.natAbs 0=a2q x:=by rw[Je,if_pos (a4h h0 h1),a2q]
theorem Oq {x:Int} (h0 : -9223372036854775808≤x) (h1:x≤9223372036854775807):HasC Tryz.prog 10 [.v (.int .i64 x)] (fun r=>r=VV (a2q x)):=by
 refine hO [] Tryz.f10 (fun a w=>Tryz.call10 a w) Tryz.func10 rfl (⟨_,rfl⟩) ?_
 refine Aa rfl (iQ 1 (iE 6 [(0,Ia x),(2,.p 2 0)] [(2,[.v (.nilIface)])] ?_))
 refine Aa rfl (iQ 1 (eC 42 [Iv x] 4 (a24 h0 h1) (eC 8 [.agg [Bv (decide (x<0)),Hw x.natAbs,Lw x.natAbs,Iv 0]] 5 (Sp (Nat.lt_trans (a4h h0 h1).1 Cq)) (iQ 1 ?_))))
 let Z1:=zH [(2,[.bx (Je (decide (x<0)) x.natAbs 0).enc])] []
 refine iE 6 [(2,.p 2 0)] Z1 ?_
 refine Ab (iR (.agg [.bx (Je (decide (x<0)) x.natAbs 0).enc]) ?_)
 rw[← a8k h0 h1]
end Go.Proofs.YtdkgnmiiibpnnaaGreatDoor
