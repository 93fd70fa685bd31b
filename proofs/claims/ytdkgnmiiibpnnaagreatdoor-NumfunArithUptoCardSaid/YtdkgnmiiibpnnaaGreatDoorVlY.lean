/- value.Int. -/
import Derived.Test.YtdkgnmiiibpnnaaGreatDoorVlX
namespace Go.Proofs.YtdkgnmiiibpnnaaGreatDoor
open Go.RowKit
set_option linter.unusedVariables false
set_option linter.unusedSimpArgs false
set_option maxRecDepth 100000
def Sz (x:Int):Vl:=.num (decide (x<0)) x.natAbs 0
theorem Xg {x:Int} (h0 : -9223372036854775808≤x) (h1:x≤9223372036854775807):May (decide (x<0)) x.natAbs 0:=⟨by unfold E34;omega,by decide,by decide,fun h h2=>by have:x<0:=(by simpa using h);omega⟩
theorem a8k {x:Int} (h0 : -9223372036854775808≤x) (h1:x≤9223372036854775807):Is (decide (x<0)) x.natAbs 0=Sz x:=by rw[Is,if_pos (Xg h0 h1),Sz]
theorem Lh {x:Int} (h0 : -9223372036854775808≤x) (h1:x≤9223372036854775807):HasC Tryz.prog 10 [.v (.int .i64 x)] (fun r=>r=VV (Sz x)):=by
 refine hO [] Tryz.f10 (fun a w=>Tryz.call10 a w) Tryz.func10 rfl (⟨_,rfl⟩) ?_
 refine Aa rfl (iQ 1 (iE 6 [(0,Ia x),(2,.p 2 0)] [(2,[.v (.nilIface)])] ?_))
 refine Aa rfl (iQ 1 (eC 42 [Iv x] 4 (a0u h0 h1) (eC 8 [.agg [Bv (decide (x<0)),Hw x.natAbs,Lw x.natAbs,Iv 0]] 5 (Rw (Nat.lt_trans (Xg h0 h1).1 Ce)) (iQ 1 ?_))))
 let Z1:=zH [(2,[.bx (Is (decide (x<0)) x.natAbs 0).enc])] []
 refine iE 6 [(2,.p 2 0)] Z1 ?_
 refine Ab (iR (.agg [.bx (Is (decide (x<0)) x.natAbs 0).enc]) ?_)
 rw[← a8k h0 h1]
end Go.Proofs.YtdkgnmiiibpnnaaGreatDoor
