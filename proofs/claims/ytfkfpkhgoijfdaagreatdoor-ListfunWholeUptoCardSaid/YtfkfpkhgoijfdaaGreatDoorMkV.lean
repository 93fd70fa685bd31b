/- casuistlaw12.Make. -/
import Derived.Test.YtfkfpkhgoijfdaaGreatDoorVlE
namespace Go.Proofs.YtfkfpkhgoijfdaaGreatDoor
open Go.RowKit
set_option linter.unusedVariables false
set_option linter.unusedSimpArgs false
set_option maxRecDepth 100000
theorem Uw {k:Int} {t:L8} {is:List Dm} {ns:List L8} {p q:Bool} (hs:(Dm.mk k t is ns p q).small):HasC Tryz.prog 10 [.agg [.v (.int .i64 k),.v (.string (tx t)),.sl ((is).length) (Ad (is)),.sl ((ns).length) (Av (ns)),.v (.bool p),.v (.bool q)]] (fun r => ∃ v,r=VV v∧v.ok∧fw v≤(Dm.mk k t is ns p q).parts):=by
 refine hO [] Tryz.f10 (fun a w=>Tryz.call10 a w) Tryz.func10 rfl (⟨_,.null,rfl,Cd,Nat.le_trans Ff Cm⟩) ?_
 refine Aa rfl (iQ 2 ?_)
 let Z1:=zH [(1,[Iv k,Sv (tx t),.sl ((is).length) (Ad (is)),.sl ((ns).length) (Av (ns)),Bv p,Bv q])] []
 refine iE 11 [(1,.p 1 0),(2,.p 2 0)] (zH [(2,[.v (.nilIface)])] Z1) ?_
 refine Aa rfl (iQ 1 (jC 40 [.agg [Iv k,Sv (tx t),.sl ((is).length) (Ad (is)),.sl ((ns).length) (Av (ns)),Bv p,Bv q]] 7 (b3p k t is ns p q hs) ?_))
 rintro _ ⟨v,ok,rfl,hv⟩
 refine iQ 6 (iE 11 [(2,.p 2 0),(3,.p 3 0)] [(2,[.v (.nilIface)]),(3,[.bx (v).enc])] ?_)
 refine Aa rfl (iQ 2 (iE 11 [(2,.p 2 0),(3,.p 3 0)] [(2,[.bx (v).enc]),(3,[.bx (v).enc])] ?_))
 refine Ab (iR (.agg [.bx (v).enc]) ?_)
 exact ⟨v,rfl,hv.1,hv.2.2⟩
theorem a9o {k:Int} {t:L8} {is:List Dm} {ns:List L8} {p q:Bool} (hs:(Dm.mk k t is ns p q).small):HasC Tryz.prog 10 [Ov k t is ns p q] (fun r => ∃ v,r=VV v∧v.ok):=(Uw hs).mono fun r ⟨v,h1,h2,_⟩=>⟨v,h1,h2⟩
end Go.Proofs.YtfkfpkhgoijfdaaGreatDoor
