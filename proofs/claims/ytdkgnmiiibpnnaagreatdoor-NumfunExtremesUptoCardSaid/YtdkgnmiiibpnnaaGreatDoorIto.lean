/- strconv.Itoa: the kit's contract at this program, printed by the kit's own tool. -/
import Derived.Test.YtdkgnmiiibpnnaaGreatDoorVcZ
import Derived.Shelf.Strconv.Itoa3
import Derived.Sort.Grow
namespace Go.Proofs.YtdkgnmiiibpnnaaGreatDoor
open Go.Shelf Go.RowKit
set_option linter.unusedVariables false
set_option maxRecDepth 100000
def laysItoa_ren:Go.Shelf.Ren:=⟨fun | 171=>185 | 243=>203 | 246=>217 | 283=>226 | 284=>227 | 285=>228 | 286=>229 | 129=>137 | 317=>234 | 318=>235 | 319=>236 | 320=>237 | 337=>238 | 338=>239 | n=>n,fun | 3=>3 | 9=>9 | 2=>2 | 4=>4 | 171=>272 | 0=>0 | 53=>22 | 37=>249 | 5=>5 | 173=>274 | 212=>283 | 51=>269 | 20=>20 | 213=>284 | 46=>124 | 232=>287 | 233=>288 | n=>n,fun | 17=>7 | 18=>8 | 19=>9 | n=>n⟩
theorem b1y:Go.Proofs.LaysM.n171 Tryz.prog laysItoa_ren:={
 mixed:=by kernel_rfl
 f129:=Tryz.func137.trans (congrArg some (by kernel_rfl))
 f171:=Tryz.func185.trans (congrArg some (by kernel_rfl))
 f243:=Tryz.func203.trans (congrArg some (by kernel_rfl))
 f246:=Tryz.func217.trans (congrArg some (by kernel_rfl))
 f283:=Tryz.func226.trans (congrArg some (by kernel_rfl))
 f284:=Tryz.func227.trans (congrArg some (by kernel_rfl))
 f285:=Tryz.func228.trans (congrArg some (by kernel_rfl))
 f286:=Tryz.func229.trans (congrArg some (by kernel_rfl))
 f317:=Tryz.func234.trans (congrArg some (by kernel_rfl))
 f318:=Tryz.func235.trans (congrArg some (by kernel_rfl))
 f319:=Tryz.func236.trans (congrArg some (by kernel_rfl))
 f320:=Tryz.func237.trans (congrArg some (by kernel_rfl))
 f337:=Tryz.func238.trans (congrArg some (by kernel_rfl))
 f338:=Tryz.func239.trans (congrArg some (by kernel_rfl))
 t0:=Tryz.underlying0
 a0:=Tryz.isAgg0
 z0:=Tryz.sizeOf0
 v0:=Tryz.zeroValue0
 t2:=Tryz.underlying2
 a2:=Tryz.isAgg2
 z2:=Tryz.sizeOf2
 v2:=Tryz.zeroValue2
 t3:=Tryz.underlying3
 a3:=Tryz.isAgg3
 z3:=Tryz.sizeOf3
 v3:=Tryz.zeroValue3
 t4:=Tryz.underlying4
 a4:=Tryz.isAgg4
 z4:=Tryz.sizeOf4
 v4:=Tryz.zeroValue4
 t5:=Tryz.underlying5
 a5:=Tryz.isAgg5
 z5:=Tryz.sizeOf5
 v5:=Tryz.zeroValue5
 t9:=Tryz.underlying9
 a9:=Tryz.isAgg9
 z9:=Tryz.sizeOf9
 v9:=Tryz.zeroValue9
 t20:=Tryz.underlying20
 a20:=Tryz.isAgg20
 z20:=Tryz.sizeOf20
 v20:=Tryz.zeroValue20
 t37:=Tryz.underlying249
 a37:=Tryz.isAgg249
 z37:=Tryz.sizeOf249
 v37:=Tryz.zeroValue249
 t46:=Tryz.underlying124
 a46:=Tryz.isAgg124
 z46:=Tryz.sizeOf124
 v46:=Tryz.zeroValue124
 t51:=Tryz.underlying269
 a51:=Tryz.isAgg269
 z51:=Tryz.sizeOf269
 v51:=Tryz.zeroValue269
 t53:=Tryz.underlying22
 a53:=Tryz.isAgg22
 z53:=Tryz.sizeOf22
 v53:=Tryz.zeroValue22
 t171:=Tryz.underlying272
 a171:=Tryz.isAgg272
 z171:=Tryz.sizeOf272
 v171:=Tryz.zeroValue272
 t173:=Tryz.underlying274
 a173:=Tryz.isAgg274
 z173:=Tryz.sizeOf274
 v173:=Tryz.zeroValue274
 t212:=Tryz.underlying283
 a212:=Tryz.isAgg283
 z212:=Tryz.sizeOf283
 v212:=Tryz.zeroValue283
 t213:=Tryz.underlying284
 a213:=Tryz.isAgg284
 z213:=Tryz.sizeOf284
 t232:=Tryz.underlying287
 a232:=Tryz.isAgg287
 z232:=Tryz.sizeOf287
 v232:=Tryz.zeroValue287
 t233:=Tryz.underlying288
 a233:=Tryz.isAgg288
 z233:=Tryz.sizeOf288
 v233:=Tryz.zeroValue288
 g17:=by kernel_rfl
 g18:=by kernel_rfl
 g19:=by kernel_rfl
 i0:=by kernel_rfl
 i2:=by kernel_rfl
 i3:=by kernel_rfl
 i4:=by kernel_rfl
 i5:=by kernel_rfl
 i9:=by kernel_rfl
 i20:=by kernel_rfl
 i37:=by kernel_rfl
 i46:=by kernel_rfl
 i51:=by kernel_rfl
 i53:=by kernel_rfl
 i171:=by kernel_rfl
 i173:=by kernel_rfl
 i212:=by kernel_rfl
 i232:=by kernel_rfl
 i233:=by kernel_rfl
 m17:=by kernel_rfl
 m18:=by kernel_rfl
 m19:=by kernel_rfl }
theorem Sa (w:World) (k:Nat) (os:Array Obj):Below w.heap.size w (Go.Sort.grow (w.drewN k) os):=by
 refine ⟨rfl,rfl,rfl,by simp[Go.Sort.grow],fun j hj => ?_⟩
 show (w.heap ++ os)[j]? = w.heap[j]?
 rw[Array.getElem?_append_left hj]
theorem Wh {n:Int} (h : -9223372036854775808≤n∧n≤9223372036854775807):HasC Tryz.prog 185 [.v (.int .i64 n)] (fun y=>y=.v (.string (tx (Lib.itoa n)))) :=
 (HasC.ofCallsK (vs:=[.int .i64 n]) (R:=fun r=>r=.string (tx (Lib.itoa n))) (fun args w=>Tryz.call185 args w) ⟨_,rfl⟩ rfl fun w hk=>by
  have ht:Lib.TabIs Tryz.prog w "internal/strconv.uint64pow10" .u64 Lib.pow10Tab:=by
   rcases hk.tab with h | ⟨cs,h1,rfl⟩
   ·have h2:(Tryz.prog.globalNamed "internal/strconv.uint64pow10").isSome=true:=by kernel_rfl
    rw[h] at h2
    cases h2
   ·exact h1
  exact (Any.strconv_Itoa b1y n h.1 h.2 w ht).mono fun e w' ⟨h1,k,os,h2⟩=>⟨_,h1,rfl,by rw[h2];exact Sa w k os⟩).mono fun y ⟨r,h1,h2⟩=>by rw[h2,h1];rfl
end Go.Proofs.YtdkgnmiiibpnnaaGreatDoor
