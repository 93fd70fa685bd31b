/- strconv.Itoa: the kit's contract at this program, printed by the kit's own tool. -/
import Derived.Test.YtfkfpkhgoijfdaaGreatDoorVcZ
import Derived.Shelf.Strconv.Itoa3
import Derived.Sort.Grow
namespace Go.Proofs.YtfkfpkhgoijfdaaGreatDoor
open Go.Shelf Go.RowKit
set_option linter.unusedVariables false
set_option maxRecDepth 100000
def laysItoa_ren:Go.Shelf.Ren:=⟨fun | 171=>122 | 243=>144 | 246=>163 | 283=>179 | 284=>180 | 285=>181 | 286=>182 | 129=>145 | 317=>191 | 318=>192 | 319=>193 | 320=>194 | 337=>199 | 338=>200 | n=>n,fun | 3=>3 | 9=>9 | 2=>2 | 4=>4 | 171=>233 | 0=>0 | 53=>85 | 37=>204 | 5=>5 | 173=>235 | 212=>248 | 51=>244 | 20=>20 | 213=>249 | 46=>121 | 232=>258 | 233=>259 | n=>n,fun | 17=>7 | 18=>8 | 19=>9 | n=>n⟩
theorem a72:Go.Proofs.LaysM.n171 Tryz.prog laysItoa_ren:={
 mixed:=by kernel_rfl
 f129:=Tryz.func145.trans (congrArg some (by kernel_rfl))
 f171:=Tryz.func122.trans (congrArg some (by kernel_rfl))
 f243:=Tryz.func144.trans (congrArg some (by kernel_rfl))
 f246:=Tryz.func163.trans (congrArg some (by kernel_rfl))
 f283:=Tryz.func179.trans (congrArg some (by kernel_rfl))
 f284:=Tryz.func180.trans (congrArg some (by kernel_rfl))
 f285:=Tryz.func181.trans (congrArg some (by kernel_rfl))
 f286:=Tryz.func182.trans (congrArg some (by kernel_rfl))
 f317:=Tryz.func191.trans (congrArg some (by kernel_rfl))
 f318:=Tryz.func192.trans (congrArg some (by kernel_rfl))
 f319:=Tryz.func193.trans (congrArg some (by kernel_rfl))
 f320:=Tryz.func194.trans (congrArg some (by kernel_rfl))
 f337:=Tryz.func199.trans (congrArg some (by kernel_rfl))
 f338:=Tryz.func200.trans (congrArg some (by kernel_rfl))
 t0:=Tryz.underlying0
 a0:=Tryz.isAgg0
 z0:=Tryz.sizeOf0
 v0:=Tryz.zeroValue0
 t2:=Tryz.underlying2
 a2:=Tryz.isAgg2
 z2:=Tryz.sizeOf2
 v2:=Tryz.zeroValue2
 t3:=Tryz.underlying3
 a3:=Tryz.isAgg3
 z3:=Tryz.sizeOf3
 v3:=Tryz.zeroValue3
 t4:=Tryz.underlying4
 a4:=Tryz.isAgg4
 z4:=Tryz.sizeOf4
 v4:=Tryz.zeroValue4
 t5:=Tryz.underlying5
 a5:=Tryz.isAgg5
 z5:=Tryz.sizeOf5
 v5:=Tryz.zeroValue5
 t9:=Tryz.underlying9
 a9:=Tryz.isAgg9
 z9:=Tryz.sizeOf9
 v9:=Tryz.zeroValue9
 t20:=Tryz.underlying20
 a20:=Tryz.isAgg20
 z20:=Tryz.sizeOf20
 v20:=Tryz.zeroValue20
 t37:=Tryz.underlying204
 a37:=Tryz.isAgg204
 z37:=Tryz.sizeOf204
 v37:=Tryz.zeroValue204
 t46:=Tryz.underlying121
 a46:=Tryz.isAgg121
 z46:=Tryz.sizeOf121
 v46:=Tryz.zeroValue121
 t51:=Tryz.underlying244
 a51:=Tryz.isAgg244
 z51:=Tryz.sizeOf244
 v51:=Tryz.zeroValue244
 t53:=Tryz.underlying85
 a53:=Tryz.isAgg85
 z53:=Tryz.sizeOf85
 v53:=Tryz.zeroValue85
 t171:=Tryz.underlying233
 a171:=Tryz.isAgg233
 z171:=Tryz.sizeOf233
 v171:=Tryz.zeroValue233
 t173:=Tryz.underlying235
 a173:=Tryz.isAgg235
 z173:=Tryz.sizeOf235
 v173:=Tryz.zeroValue235
 t212:=Tryz.underlying248
 a212:=Tryz.isAgg248
 z212:=Tryz.sizeOf248
 v212:=Tryz.zeroValue248
 t213:=Tryz.underlying249
 a213:=Tryz.isAgg249
 z213:=Tryz.sizeOf249
 t232:=Tryz.underlying258
 a232:=Tryz.isAgg258
 z232:=Tryz.sizeOf258
 v232:=Tryz.zeroValue258
 t233:=Tryz.underlying259
 a233:=Tryz.isAgg259
 z233:=Tryz.sizeOf259
 v233:=Tryz.zeroValue259
 g17:=by kernel_rfl
 g18:=by kernel_rfl
 g19:=by kernel_rfl
 i0:=by kernel_rfl
 i2:=by kernel_rfl
 i3:=by kernel_rfl
 i4:=by kernel_rfl
 i5:=by kernel_rfl
 i9:=by kernel_rfl
 i20:=by kernel_rfl
 i37:=by kernel_rfl
 i46:=by kernel_rfl
 i51:=by kernel_rfl
 i53:=by kernel_rfl
 i171:=by kernel_rfl
 i173:=by kernel_rfl
 i212:=by kernel_rfl
 i232:=by kernel_rfl
 i233:=by kernel_rfl
 m17:=by kernel_rfl
 m18:=by kernel_rfl
 m19:=by kernel_rfl }
theorem Sn (w:World) (k:Nat) (os:Array Obj):Below w.heap.size w (Go.Sort.grow (w.drewN k) os):=by
 refine ⟨rfl,rfl,rfl,by simp[Go.Sort.grow],fun j hj => ?_⟩
 show (w.heap ++ os)[j]? = w.heap[j]?
 rw[Array.getElem?_append_left hj]
theorem Xq {n:Int} (h : -9223372036854775808≤n∧n≤9223372036854775807):HasC Tryz.prog 122 [.v (.int .i64 n)] (fun y=>y=.v (.string (tx (Lib.itoa n)))) :=
 (HasC.ofCallsK (vs:=[.int .i64 n]) (R:=fun r=>r=.string (tx (Lib.itoa n))) (fun args w=>Tryz.call122 args w) ⟨_,rfl⟩ rfl fun w hk=>by
  have ht:Lib.TabIs Tryz.prog w "internal/strconv.uint64pow10" .u64 Lib.pow10Tab:=by
   rcases hk.tab with h | ⟨cs,h1,rfl⟩
   ·have h2:(Tryz.prog.globalNamed "internal/strconv.uint64pow10").isSome=true:=by kernel_rfl
    rw[h] at h2
    cases h2
   ·exact h1
  exact (Any.strconv_Itoa a72 n h.1 h.2 w ht).mono fun e w' ⟨h1,k,os,h2⟩=>⟨_,h1,rfl,by rw[h2];exact Sn w k os⟩).mono fun y ⟨r,h1,h2⟩=>by rw[h2,h1];rfl
end Go.Proofs.YtfkfpkhgoijfdaaGreatDoor
