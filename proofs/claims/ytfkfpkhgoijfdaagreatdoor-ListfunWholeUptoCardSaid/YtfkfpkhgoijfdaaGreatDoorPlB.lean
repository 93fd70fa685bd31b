/- value.Plain of any value. -/
import Derived.Test.YtfkfpkhgoijfdaaGreatDoorLfU
import Derived.Test.YtfkfpkhgoijfdaaGreatDoorLfR
namespace Go.Proofs.YtfkfpkhgoijfdaaGreatDoor
open Go.RowKit
set_option linter.unusedVariables false
set_option linter.unusedSimpArgs false
set_option maxRecDepth 100000
theorem Yq {ns:List L8} {xs:List Vl} (hn:ns.length≤1073741824) (hl:xs.length≤1073741824) (ih : ∀ x ∈ xs,PlC x):HasC Tryz.prog 66 [VV (.ctx ns xs),.v (.int .i64 11)] (fun r=>r=.tup [.agg [.v (.int .i64 11),.v (.string (tx [])),.sl (plL xs).length (Ad (plL xs)),.sl ns.length (Av ns),.v (.bool false),.v (.bool false)],.v (.bool true)]):=(a08 hn hl ih).mono fun r hr=>by
 rw[show plV (.ctx ns xs)=.mk 11 [] (plL xs) ns false false by rw[plV],Js,Dm.cells] at hr
 exact hr
theorem Yd {lo hi:Vl} {p q:Bool} (ih : ∀ x ∈ [lo,hi],PlC x):HasC Tryz.prog 66 [VV (.rng lo hi p q),.v (.int .i64 12)] (fun r=>r=.tup [.agg [.v (.int .i64 12),.v (.string (tx [])),.sl 2 (Ad [plV lo,plV hi]),.sl 0 [],.v (.bool p),.v (.bool q)],.v (.bool true)]):=(a18 rfl ih).mono fun r hr=>by
 rw[show plV (.rng lo hi p q)=.mk 12 [] [plV lo,plV hi] [] p q by rw[plV],Js,Dm.cells] at hr
 exact hr
theorem a70 {ns:List L8} {xs:List Vl} (hn:ns.length≤1073741824) (hl:xs.length≤1073741824) (ih : ∀ x ∈ xs,PlC x):HasC Tryz.prog 46 [.agg [.bx (Vl.ctx ns xs).enc]] (fun r=>r=.tup [Js (.mk 11 [] (plL xs) ns false false),.v (.bool true)]):=by
 refine hO [] Tryz.f46 (fun a w=>Tryz.call46 a w) Tryz.func46 rfl (⟨_,rfl⟩) ?_
 refine Aa rfl (iQ 3 ?_)
 let Z1:=zH [(2,[Iv 0,Sv (⟨#[]⟩),.sl 0 [],.sl 0 [],Bv false,Bv false])] []
 refine iE 25 [(1,.p 1 0),(2,.p 2 0),(3,Ba false)] (zH [(1,[.bx (Vl.ctx ns xs).enc])] Z1) ?_
 refine Aa rfl (iQ 1 (eC 13 [.agg [.bx (Vl.ctx ns xs).enc]] 6 (Of (.ctx ns xs)) (iQ 1 ?_)))
 let Z2:=zT [(1,.p 1 0),(2,.p 2 0),(3,Ba false),(4,Ia 11)] []
 refine iE 25 Z2 (zH [(1,[.bx (Vl.ctx ns xs).enc])] Z1) ?_
 refine Af (Aa rfl (iQ 1 (iE 25 (zT [(7,Ia 11)] Z2) (zH [(1,[.bx (Vl.ctx ns xs).enc])] Z1) ?_)))
 refine Al (Af (Aa rfl (jB .eql 23 (.int .i64 11) (.int .i64 10) 9 ?_)))
 refine Am ((by decide)) ?_
 refine iQ 1 (iE 25 (zT [(7,Ia 11),(8,Ba false)] Z2) (zH [(1,[.bx (Vl.ctx ns xs).enc])] Z1) ?_)
 refine iF (Aa rfl (jB .eql 23 (.int .i64 11) (.int .i64 11) 10 ?_))
 refine Cg (rfl) ?_
 refine iQ 1 (iE 25 (zT [(7,Ia 11),(8,Ba true)] Z2) (zH [(1,[.bx (Vl.ctx ns xs).enc])] Z1) ?_)
 refine iT (Ae (Ag (iT (Aa rfl (iQ 2 (eC 66 [.agg [.bx (Vl.ctx ns xs).enc],Iv 11] 14 (Yq hn hl ih) (iQ 4 ?_)))))))
 let Z3:=zT [(1,.p 1 0),(2,.p 2 0),(3,Ba true),(4,Ia 11),(7,Ia 11),(8,Ba true)] []
 let Z4:=zH [(2,[Iv 11,Sv (tx []),.sl ((plL xs).length) (Ad (plL xs)),.sl ((ns).length) (Av (ns)),Bv false,Bv false])] []
 refine iE 25 Z3 (zH [(1,[.bx (Vl.ctx ns xs).enc])] Z4) ?_
 refine Ab (Aj (Ai (iS (.agg [Iv 11,Sv (tx []),.sl ((plL xs).length) (Ad (plL xs)),.sl ((ns).length) (Av (ns)),Bv false,Bv false]) (Bv true) [] ?_)))
 rfl
theorem b0q {lo hi:Vl} {p q:Bool} (ih : ∀ x ∈ [lo,hi],PlC x):HasC Tryz.prog 46 [.agg [.bx (Vl.rng lo hi p q).enc]] (fun r=>r=.tup [Js (.mk 12 [] [plV lo,plV hi] [] p q),.v (.bool true)]):=by
 refine hO [] Tryz.f46 (fun a w=>Tryz.call46 a w) Tryz.func46 rfl (⟨_,rfl⟩) ?_
 refine Aa rfl (iQ 3 ?_)
 let Z1:=zH [(2,[Iv 0,Sv (⟨#[]⟩),.sl 0 [],.sl 0 [],Bv false,Bv false])] []
 refine iE 25 [(1,.p 1 0),(2,.p 2 0),(3,Ba false)] (zH [(1,[.bx (Vl.rng lo hi p q).enc])] Z1) ?_
 refine Aa rfl (iQ 1 (eC 13 [.agg [.bx (Vl.rng lo hi p q).enc]] 6 (Of (.rng lo hi p q)) (iQ 1 ?_)))
 let Z2:=zT [(1,.p 1 0),(2,.p 2 0),(3,Ba false),(4,Ia 12)] []
 refine iE 25 Z2 (zH [(1,[.bx (Vl.rng lo hi p q).enc])] Z1) ?_
 refine Af (Aa rfl (iQ 1 (iE 25 (zT [(7,Ia 12)] Z2) (zH [(1,[.bx (Vl.rng lo hi p q).enc])] Z1) ?_)))
 refine Al (Af (Aa rfl (jB .eql 23 (.int .i64 12) (.int .i64 10) 9 ?_)))
 refine Am ((by decide)) ?_
 refine iQ 1 (iE 25 (zT [(7,Ia 12),(8,Ba false)] Z2) (zH [(1,[.bx (Vl.rng lo hi p q).enc])] Z1) ?_)
 refine iF (Aa rfl (jB .eql 23 (.int .i64 12) (.int .i64 11) 10 ?_))
 refine Am ((by decide)) ?_
 refine iQ 1 (iE 25 (zT [(7,Ia 12),(8,Ba false)] Z2) (zH [(1,[.bx (Vl.rng lo hi p q).enc])] Z1) ?_)
 refine iF (Aq rfl (jB .eql 23 (.int .i64 12) (.int .i64 12) 11 ?_))
 refine Cg (rfl) ?_
 refine iQ 1 (iE 25 (zT [(7,Ia 12),(8,Ba true)] Z2) (zH [(1,[.bx (Vl.rng lo hi p q).enc])] Z1) ?_)
 refine Ag (iT (Aa rfl (iQ 2 (eC 66 [.agg [.bx (Vl.rng lo hi p q).enc],Iv 12] 14 (Yd ih) (iQ 4 ?_)))))
 let Z3:=zT [(1,.p 1 0),(2,.p 2 0),(3,Ba true),(4,Ia 12),(7,Ia 12),(8,Ba true)] []
 let Z4:=zH [(2,[Iv 12,Sv (tx []),.sl 2 (Ad [plV lo,plV hi]),.sl 0 ([]),Bv p,Bv q])] []
 refine iE 25 Z3 (zH [(1,[.bx (Vl.rng lo hi p q).enc])] Z4) ?_
 refine Ab (Aj (Ai (iS (.agg [Iv 12,Sv (tx []),.sl 2 (Ad [plV lo,plV hi]),.sl 0 ([]),Bv p,Bv q]) (Bv true) [] ?_)))
 rfl
theorem Eg : ∀ (v:Vl),v.ok→PlC v
 | .list vs,h=>by
  rw[Vl.ok] at h
  exact Zf h.1 fun x hx=>Eg x (Dh.1 h.2 x hx)
 | .ctx ns vs,h=>by
  rw[Vl.ok] at h
  rw[PlC,show plV (.ctx ns vs)=.mk 11 [] (plL vs) ns false false by rw[plV]]
  exact a70 (by omega) h.2.2.1 fun x hx=>Eg x (Dh.1 h.2.2.2 x hx)
 | .rng lo hi p q,h=>by
  rw[Vl.ok] at h
  rw[PlC,show plV (.rng lo hi p q)=.mk 12 [] [plV lo,plV hi] [] p q by rw[plV]]
  have h1:=Eg lo h.1
  have h2:=Eg hi h.2.1
  refine b0q fun x hx => ?_
  have hx':x=lo∨x=hi:=by simpa using hx
  rcases hx' with rfl | rfl
  ·exact h1
  ·exact h2
 | .null,h=>Dt h (by simp[Vl.kindI])
 | .bool b,h=>Dt h (by simp[Vl.kindI])
 | .num g n e,h=>Dt h (by simp[Vl.kindI])
 | .text l,h=>Dt h (by simp[Vl.kindI])
 | .day y m d,h=>Dt h (by simp[Vl.kindI])
 | .time s z o,h=>Dt h (by simp[Vl.kindI])
 | .mom y m d s z o,h=>Dt h (by simp[Vl.kindI])
 | .days n,h=>Dt h (by simp[Vl.kindI])
 | .months n,h=>Dt h (by simp[Vl.kindI])
termination_by v=>SizeOf.sizeOf v
decreasing_by
 all_goals first
  | (have:=List.sizeOf_lt_of_mem hx;simp;omega)
  | (simp;omega)
end Go.Proofs.YtfkfpkhgoijfdaaGreatDoor
