/- equal: the order of values; truths. equal: whether values are the same; within, among. equal: within, among; truths and values; value.Int. -/
import Derived.Test.YtfkfpkhgoijfdaaGreatDoorVlX
import Derived.Test.YtfkfpkhgoijfdaaGreatDoorDecY
import Derived.Test.YtfkfpkhgoijfdaaGreatDoorCivZ
namespace Go.Proofs.YtfkfpkhgoijfdaaGreatDoor
open Go.RowKit Go.Shelf
set_option linter.unusedVariables false
set_option linter.unusedSimpArgs false
set_option maxRecDepth 100000
def a9b (x y:Int):Int:=if x=1∨y=1 then 1 else if x=2∧y=2 then 2 else 0
def ofI (p:Bool):Int:=if p=true then 2 else 1
def b8c (y m d:Int):Int:=(y*16+m)*32+d
noncomputable def ordV:Vl→Vl→Option Int
 | .num g n e,.num g' n' e'=>some (cmpZ g n e g' n' e')
 | .text a,.text b=>some (Lib.compareBytes a b)
 | .day y m d,.day y' m' d'=>some (a4h (b8c y m d) (b8c y' m' d'))
 | .time s z o,.time s' z' o'=>if z=z' then some (a4h (s-o) (s'-o')) else none
 | .mom y m d s z o,.mom y' m' d' s' z' o'=>if z=z' then some (a4h (86400*b6n y m d+s-o) (86400*b6n y' m' d'+s'-o')) else none
 | .days a,.days b=>some (a4h a b)
 | .months a,.months b=>some (a4h a b)
 | _,_=>none
open Go.RowKit
set_option linter.unusedVariables false
set_option linter.unusedSimpArgs false
set_option maxRecDepth 100000
noncomputable def Rt (a b:Vl):Int:=if b.nullB=true then 1 else match ordV a b with
 | some c=>ofI (decide (c=0))
 | none=>0
mutual
noncomputable def a2h:Vl→Vl→Int
 | .null,b=>ofI b.nullB
 | .bool x,b=>match b with
  | .null=>1
  | .bool y=>ofI (x==y)
  | _=>0
 | .list xs,b=>match b with
  | .null=>1
  | .list ys=>if xs.length=ys.length then b71 2 xs ys else 1
  | _=>0
 | .ctx ns xs,b=>match b with
  | .null=>1
  | .ctx ms ys=>if ns.length=ms.length then b59 2 ns xs ms ys else 1
  | _=>0
 | .rng lo hi p q,b=>match b with
  | .null=>1
  | .rng lo' hi' p' q'=>a9b (ofI (p==p'&&q==q')) (a9b (a9b 2 (a2h lo lo')) (a2h hi hi'))
  | _=>0
 | .num g n e,b=>Rt (.num g n e) b
 | .text l,b=>Rt (.text l) b
 | .day y m d,b=>Rt (.day y m d) b
 | .time s z o,b=>Rt (.time s z o) b
 | .mom y m d s z o,b=>Rt (.mom y m d s z o) b
 | .days n,b=>Rt (.days n) b
 | .months n,b=>Rt (.months n) b
noncomputable def b71:Int→List Vl→List Vl→Int
 | t,[],_=>t
 | t,x::xs,[]=>t
 | t,x::xs,y::ys=>b71 (a9b t (a2h x y)) xs ys
noncomputable def b59:Int→List L8→List Vl→List L8→List Vl→Int
 | t,_,[],_,_=>t
 | t,[],x::xs,_,_=>t
 | t,n::ns,x::xs,ms,ys=>match Dv n ms with
  | none=>1
  | some k=>b59 (a9b t (a2h x (ys.getD k .null))) ns xs ms ys
end
theorem Ig {v:Vl} (h:v.kindI=1):HasC Tryz.prog 12 [VV v] (fun y=>y=.v (.bool true)):=(a5w v).mono fun y hy=>by rw[hy,(Yz v).2 h]
theorem a5o {xs:List Vl} (h:xs.length≤1073741824):HasC Tryz.prog 41 [.agg [.ifc 91 (.sl ((xs).length) (Aq (xs)))]] (fun r=>r=.tup [.sl xs.length (Aq xs),.v (.bool true)]):=by
 refine hO [] Tryz.f41 (fun a w=>Tryz.call41 a w) Tryz.func41 rfl (⟨_,rfl⟩) ?_
 refine Aa rfl (iQ 3 ?_)
 let Z1:=zT [(1,.p 1 0),(2,.w (.sl 0 []) none),(3,Ba false)] []
 let Z2:=zH [(1,[.ifc 91 (.sl ((xs).length) (Aq (xs)))])] []
 refine iE 15 Z1 Z2 ?_
 refine Aa rfl (iQ 8 ?_)
 let Z3:=zT [(2,.w (.sl 0 []) none),(3,Ba false),(4,.d (.sl ((xs).length) (Aq (xs)))),(5,Ba true)] []
 refine iE 15 Z3 [] ?_
 refine Aa rfl (iQ 1 (eC 43 [.sl ((xs).length) (Aq (xs))] 13 (Mx h) (iQ 3 ?_)))
 let Z4:=zT [(2,.d (.sl ((xs).length) (Aq (xs)))),(3,Ba true)] []
 refine iE 15 Z4 [] ?_
 refine Ab (iS (.sl ((xs).length) (Aq (xs))) (Bv true) [] ?_)
 rfl
theorem a4r {v:Vl} {xs:List Vl} (e:v=.list xs) (h:xs.length≤1073741824):HasC Tryz.prog 41 [VV v] (fun r=>r=.tup [.sl xs.length (Aq xs),.v (.bool true)]):=by
 subst e
 have:=HasC.ub (a5o h)
 rw[← show (Vl.list xs).enc=.ifc 91 (.sl xs.length (Aq xs)) by rw[Vl.enc]] at this
 exact this
theorem b65 {P:Program} {f:FuncId} {ds:List DV} {v:Vl} {ok:Bool} (h:HasC P f ds (fun y => ∃ x,y=.tup [x,.v (.bool ok)]∧(x=VV v∨x=.agg [v.enc]))):HasC P f ds (fun y=>y=.tup [VV v,.v (.bool ok)]) :=
 h.weak fun y ⟨x,h0,h1⟩=>⟨_,rfl,fun Im W r k=>by
  subst h0
  rw[DV.rel] at k ⊢
  obtain ⟨vs,e,k2⟩:=k
  refine ⟨vs,e,?_⟩
  rw[DV.relL] at k2 ⊢
  obtain ⟨u,us,e1,k3,k4⟩:=k2
  refine ⟨u,us,e1,?_,k4⟩
  rcases h1 with rfl | rfl
  ·exact k3
  ·exact Mr (fun z hz=>a0t (Xl v) hz) k3⟩
def Pl (n:L8) (ms:List L8) (ys:List Vl):Vl:=match Dv n ms with
 | some k=>ys.getD k .null
 | none=>.null
theorem b3y {n:L8} {ms:List L8} {k:Nat} (h:Dv n ms=some k):k<ms.length:=(List.getElem?_eq_some_iff.1 (a1e h)).1
theorem b0e {n:L8} {ms:List L8} {ys:List Vl} (h:ys.length≤1073741824) (h':ms.length=ys.length):HasC Tryz.prog 62 [.agg [.ifc 99 (.agg [.sl ((ms).length) (At (ms)),.sl ((ys).length) (Aq (ys))])],.v (.string (tx n))] (fun r => ∃ x,r=.tup [x,.v (.bool (Dv n ms).isSome)]∧(x=VV (Pl n ms ys)∨x=.agg [(Pl n ms ys).enc])):=by
 refine hO [] Tryz.f62 (fun a w=>Tryz.call62 a w) Tryz.func62 rfl (⟨_,_,rfl,.inl rfl⟩) ?_
 refine Aa rfl (iQ 3 ?_)
 let Z1:=zT [(1,.d (Sv (tx n))),(2,.p 2 0),(4,.p 4 0),(5,Ba false)] []
 let Z2:=zH [(2,[.ifc 99 (.agg [.sl ((ms).length) (At (ms)),.sl ((ys).length) (Aq (ys))])])] []
 refine iE 31 Z1 (zH [(4,[.v (.nilIface)])] Z2) ?_
 refine Aa rfl (iQ 9 ?_)
 let Z3:=zT [(1,.d (Sv (tx n))),(4,.p 4 0),(5,Ba false),(6,.p 6 0),(7,Ba true)] []
 let Z4:=zH [(6,[.sl ((ms).length) (At (ms)),.sl ((ys).length) (Aq (ys))])] []
 refine iE 31 Z3 (zH [(4,[.v (.nilIface)])] Z4) ?_
 refine Aa rfl (iQ 3 (eC 58 [.sl ((ms).length) (At (ms)),Sv (tx n)] 18 (Sm (l:=n) (ns:=ms) (by omega)) (iQ 1 ?_)))
 let Z5:=zT [(4,.p 4 0),(5,Ba false),(6,.p 6 0),(7,Ba true),(8,Ia (Hi n ms))] []
 refine iE 31 Z5 (zH [(4,[.v (.nilIface)])] Z4) ?_
 refine Af (Aa rfl (iQ 1 (jU .not (.bool true) 20 ?_)))
 refine Al ((by simp)) ?_
 refine iQ 2 (jB .lss 3 (.int .i64 (Hi n ms)) (.int .i64 0) 23 ?_)
 intro c23 hc23
 refine iQ 1 ?_
 let Z6:=zT [(4,.p 4 0),(5,Ba false),(6,.p 6 0),(8,Ia (Hi n ms)),(24,Ba c23)] []
 refine iE 31 Z6 (zH [(4,[.v (.nilIface)])] Z4) ?_
 cases c23
 ·replace hc23:=bf hc23
  obtain ⟨k,hi⟩ : ∃ k,Dv n ms=some k:=by cases hq:Dv n ms with | none=>rw[Hi,hq] at hc23;simp at hc23 | some k=>exact ⟨k,rfl⟩
  have hlt:=b3y hi
  obtain ⟨y,hy⟩ : ∃ y,ys[k]? = some y:=⟨_,List.getElem?_eq_getElem (by omega)⟩
  have hii:Hi n ms=(k:Int):=by rw[Hi,hi]
  refine iF (Ae (Ag (Aa rfl (iQ 3 (Bl (q:=(Hi n ms)) (n:=((ys).length)) (cs:=(Aq (ys))) (d:=.bx (y).enc) (dst:=(some 29)) (by kernel_rfl) (by omega) (by rw[hii,Int.toNat_natCast];exact Hx hy) ?_)))))
  refine iQ 3 ?_
  let Z7:=zT [(4,.p 4 0),(5,Ba true),(6,.p 6 0),(8,Ia (Hi n ms)),(24,Ba false)] []
  refine iE 31 Z7 (zH [(4,[.bx (y).enc])] Z4) ?_
  refine Ab (iS (.agg [.bx (y).enc]) (Bv true) [] ?_)
  exact ⟨_,by rw[hi];rfl,.inl (by rw[Pl,hi];simp only;rw[List.getD_eq_getElem?_getD,hy];rfl)⟩
 ·replace hc23:=bt hc23
  have hi:Dv n ms=none:=by cases hq:Dv n ms with | none=>rfl | some k=>rw[Hi,hq] at hc23;simp at hc23;omega
  refine iT (Aa rfl (iQ 3 ?_))
  let Z8:=zT [(4,.p 4 0),(5,Ba false),(6,.p 6 0),(8,Ia (Hi n ms)),(24,Ba true)] []
  refine iE 31 Z8 (zH [(4,[.v (.nilIface)])] Z4) ?_
  refine Ab (Ai (iS (.agg [.v (.nilIface)]) (Bv false) [] ?_))
  exact ⟨_,by rw[hi];rfl,.inr (by rw[Pl,hi,Vl.enc])⟩
theorem b2u {v:Vl} {n:L8} {ms:List L8} {ys:List Vl} (e:v=.ctx ms ys) (h:ys.length≤1073741824) (h':ms.length=ys.length):HasC Tryz.prog 62 [VV v,.v (.string (tx n))] (fun r=>r=.tup [VV (Pl n ms ys),.v (.bool (Dv n ms).isSome)]):=by
 subst e
 have:=HasC.ub (b65 (b0e (n:=n) h h'))
 rw[← show (Vl.ctx ms ys).enc=.ifc 99 (.agg [.sl ms.length (At ms),.sl ys.length (Aq ys)]) by rw[Vl.enc]] at this
 exact this
theorem a79 {v:Vl} {n:L8} {ms:List L8} {ys:List Vl} (e:v=.ctx ms ys) (h:ys.length≤1073741824) (h':ms.length=ys.length):HasC Tryz.prog 62 [VV v,.v (.string (tx n))] (fun r => ∃ b,r=.tup [VV (Pl n ms ys),.v (.bool b)]∧b=(Dv n ms).isSome):=(b2u e h h').mono fun r hr=>⟨_,hr,rfl⟩
open Go.RowKit
set_option linter.unusedVariables false
set_option linter.unusedSimpArgs false
set_option maxRecDepth 100000
def Bs (x:Int):Vl:=.num (decide (x<0)) x.natAbs 0
theorem Ux {x:Int} (h0 : -9223372036854775808≤x) (h1:x≤9223372036854775807):May (decide (x<0)) x.natAbs 0:=⟨by unfold E34;omega,by decide,by decide,fun h h2=>by have:x<0:=(by simpa using h);omega⟩
theorem a61 {x:Int} (h0 : -9223372036854775808≤x) (h1:x≤9223372036854775807):Pk (decide (x<0)) x.natAbs 0=Bs x:=by rw[Pk,if_pos (Ux h0 h1),Bs]
theorem b3g {x:Int} (h0 : -9223372036854775808≤x) (h1:x≤9223372036854775807):(Bs x).ok:=by rw[Bs,Vl.ok];exact Ux h0 h1
theorem Np {x:Int} (h0 : -9223372036854775808≤x) (h1:x≤9223372036854775807):HasC Tryz.prog 32 [.v (.int .i64 x)] (fun r=>r=VV (Bs x)):=by
 refine hO [] Tryz.f32 (fun a w=>Tryz.call32 a w) Tryz.func32 rfl (⟨_,rfl⟩) ?_
 refine Aa rfl (iQ 1 (iE 6 [(0,Ia x),(2,.p 2 0)] [(2,[.v (.nilIface)])] ?_))
 refine Aa rfl (iQ 1 (eC 56 [Iv x] 4 (b6j h0 h1) (eC 55 [.agg [Bv (decide (x<0)),Hw x.natAbs,Lw x.natAbs,Iv 0]] 5 (a7q (Nat.lt_trans (Ux h0 h1).1 Gq)) (iQ 1 ?_))))
 let Z1:=zH [(2,[.bx (Pk (decide (x<0)) x.natAbs 0).enc])] []
 refine iE 6 [(2,.p 2 0)] Z1 ?_
 refine Ab (iR (.agg [.bx (Pk (decide (x<0)) x.natAbs 0).enc]) ?_)
 rw[← a61 h0 h1]
end Go.Proofs.YtfkfpkhgoijfdaaGreatDoor
