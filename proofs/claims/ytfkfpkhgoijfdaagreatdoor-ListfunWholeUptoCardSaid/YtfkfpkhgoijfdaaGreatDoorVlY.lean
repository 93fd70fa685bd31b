/- equal: the order of values; truths. equal: whether values are the same; within, among. equal: within, among; truths and values; value.Int. -/
import Derived.Test.YtfkfpkhgoijfdaaGreatDoorVlX
import Derived.Test.YtfkfpkhgoijfdaaGreatDoorDecY
import Derived.Test.YtfkfpkhgoijfdaaGreatDoorCivZ
namespace Go.Proofs.YtfkfpkhgoijfdaaGreatDoor
open Go.RowKit Go.Shelf
set_option linter.unusedVariables false
set_option linter.unusedSimpArgs false
set_option maxRecDepth 100000
def a6b (x y:Int):Int:=if x=1∨y=1 then 1 else if x=2∧y=2 then 2 else 0
def ofI (p:Bool):Int:=if p=true then 2 else 1
def b9p (y m d:Int):Int:=(y*16+m)*32+d
noncomputable def ordV:Vl→Vl→Option Int
 | .num g n e,.num g' n' e'=>some (cmpZ g n e g' n' e')
 | .text a,.text b=>some (Lib.compareBytes a b)
 | .day y m d,.day y' m' d'=>some (a5c (b9p y m d) (b9p y' m' d'))
 | .time s z o,.time s' z' o'=>if z=z' then some (a5c (s-o) (s'-o')) else none
 | .mom y m d s z o,.mom y' m' d' s' z' o'=>if z=z' then some (a5c (86400*b8x y m d+s-o) (86400*b8x y' m' d'+s'-o')) else none
 | .days a,.days b=>some (a5c a b)
 | .months a,.months b=>some (a5c a b)
 | _,_=>none
open Go.RowKit
set_option linter.unusedVariables false
set_option linter.unusedSimpArgs false
set_option maxRecDepth 100000
noncomputable def Se (a b:Vl):Int:=if b.nullB=true then 1 else match ordV a b with
 | some c=>ofI (decide (c=0))
 | none=>0
mutual
noncomputable def a3l:Vl→Vl→Int
 | .null,b=>ofI b.nullB
 | .bool x,b=>match b with
  | .null=>1
  | .bool y=>ofI (x==y)
  | _=>0
 | .list xs,b=>match b with
  | .null=>1
  | .list ys=>if xs.length=ys.length then b7d 2 xs ys else 1
  | _=>0
 | .ctx ns xs,b=>match b with
  | .null=>1
  | .ctx ms ys=>if ns.length=ms.length then b87 2 ns xs ms ys else 1
  | _=>0
 | .rng lo hi p q,b=>match b with
  | .null=>1
  | .rng lo' hi' p' q'=>a6b (ofI (p==p'&&q==q')) (a6b (a6b 2 (a3l lo lo')) (a3l hi hi'))
  | _=>0
 | .num g n e,b=>Se (.num g n e) b
 | .text l,b=>Se (.text l) b
 | .day y m d,b=>Se (.day y m d) b
 | .time s z o,b=>Se (.time s z o) b
 | .mom y m d s z o,b=>Se (.mom y m d s z o) b
 | .days n,b=>Se (.days n) b
 | .months n,b=>Se (.months n) b
noncomputable def b7d:Int→List Vl→List Vl→Int
 | t,[],_=>t
 | t,x::xs,[]=>t
 | t,x::xs,y::ys=>b7d (a6b t (a3l x y)) xs ys
noncomputable def b87:Int→List L8→List Vl→List L8→List Vl→Int
 | t,_,[],_,_=>t
 | t,[],x::xs,_,_=>t
 | t,n::ns,x::xs,ms,ys=>match Ea n ms with
  | none=>1
  | some k=>b87 (a6b t (a3l x (ys.getD k .null))) ns xs ms ys
end
theorem b2n {v:Vl} (h:v.kindI=1):HasC Tryz.prog 12 [VV v] (fun y=>y=.v (.bool true)):=(a1s v).mono fun y hy=>by rw[hy,(Ur v).2 h]
theorem b2l {v:Vl} (h:v.kindI≠1):HasC Tryz.prog 12 [VV v] (fun y=>y=.v (.bool false)):=(a1s v).mono fun y hy=>by
 cases hn:v.nullB with
 | true=>exact absurd ((Ur v).1 hn) h
 | false=>rw[hy,hn]
theorem a32 {xs:List Vl} (h:xs.length≤1073741824):HasC Tryz.prog 41 [.agg [.ifc 91 (.sl ((xs).length) (An (xs)))]] (fun r=>r=.tup [.sl xs.length (An xs),.v (.bool true)]):=by
 refine hO [] Tryz.f41 (fun a w=>Tryz.call41 a w) Tryz.func41 rfl (⟨_,rfl⟩) ?_
 refine Aa rfl (iQ 3 ?_)
 let Z1:=zT [(1,.p 1 0),(2,.w (.sl 0 []) none),(3,Ba false)] []
 let Z2:=zH [(1,[.ifc 91 (.sl ((xs).length) (An (xs)))])] []
 refine iE 15 Z1 Z2 ?_
 refine Aa rfl (iQ 8 ?_)
 let Z3:=zT [(2,.w (.sl 0 []) none),(3,Ba false),(4,.d (.sl ((xs).length) (An (xs)))),(5,Ba true)] []
 refine iE 15 Z3 [] ?_
 refine Aa rfl (iQ 1 (eC 43 [.sl ((xs).length) (An (xs))] 13 (Nm h) (iQ 3 ?_)))
 let Z4:=zT [(2,.d (.sl ((xs).length) (An (xs)))),(3,Ba true)] []
 refine iE 15 Z4 [] ?_
 refine Ab (iS (.sl ((xs).length) (An (xs))) (Bv true) [] ?_)
 rfl
theorem Ud {v:Vl} {xs:List Vl} (e:v=.list xs) (h:xs.length≤1073741824):HasC Tryz.prog 41 [VV v] (fun r=>r=.tup [.sl xs.length (An xs),.v (.bool true)]):=by
 subst e
 have:=HasC.ub (a32 h)
 rw[← show (Vl.list xs).enc=.ifc 91 (.sl xs.length (An xs)) by rw[Vl.enc]] at this
 exact this
theorem b8k {P:Program} {f:FuncId} {ds:List DV} {v:Vl} {ok:Bool} (h:HasC P f ds (fun y => ∃ x,y=.tup [x,.v (.bool ok)]∧(x=VV v∨x=.agg [v.enc]))):HasC P f ds (fun y=>y=.tup [VV v,.v (.bool ok)]) :=
 h.weak fun y ⟨x,h0,h1⟩=>⟨_,rfl,fun Im W r k=>by
  subst h0
  rw[DV.rel] at k ⊢
  obtain ⟨vs,e,k2⟩:=k
  refine ⟨vs,e,?_⟩
  rw[DV.relL] at k2 ⊢
  obtain ⟨u,us,e1,k3,k4⟩:=k2
  refine ⟨u,us,e1,?_,k4⟩
  rcases h1 with rfl | rfl
  ·exact k3
  ·exact Nx (fun z hz=>a1c (Wv v) hz) k3⟩
def Qb (n:L8) (ms:List L8) (ys:List Vl):Vl:=match Ea n ms with
 | some k=>ys.getD k .null
 | none=>.null
theorem b5d {n:L8} {ms:List L8} {k:Nat} (h:Ea n ms=some k):k<ms.length:=(List.getElem?_eq_some_iff.1 (a1x h)).1
theorem b13 {n:L8} {ms:List L8} {ys:List Vl} (h:ys.length≤1073741824) (h':ms.length=ys.length):HasC Tryz.prog 62 [.agg [.ifc 99 (.agg [.sl ((ms).length) (Av (ms)),.sl ((ys).length) (An (ys))])],.v (.string (tx n))] (fun r => ∃ x,r=.tup [x,.v (.bool (Ea n ms).isSome)]∧(x=VV (Qb n ms ys)∨x=.agg [(Qb n ms ys).enc])):=by
 refine hO [] Tryz.f62 (fun a w=>Tryz.call62 a w) Tryz.func62 rfl (⟨_,_,rfl,.inl rfl⟩) ?_
 refine Aa rfl (iQ 3 ?_)
 let Z1:=zT [(1,.d (Sv (tx n))),(2,.p 2 0),(4,.p 4 0),(5,Ba false)] []
 let Z2:=zH [(2,[.ifc 99 (.agg [.sl ((ms).length) (Av (ms)),.sl ((ys).length) (An (ys))])])] []
 refine iE 31 Z1 (zH [(4,[.v (.nilIface)])] Z2) ?_
 refine Aa rfl (iQ 9 ?_)
 let Z3:=zT [(1,.d (Sv (tx n))),(4,.p 4 0),(5,Ba false),(6,.p 6 0),(7,Ba true)] []
 let Z4:=zH [(6,[.sl ((ms).length) (Av (ms)),.sl ((ys).length) (An (ys))])] []
 refine iE 31 Z3 (zH [(4,[.v (.nilIface)])] Z4) ?_
 refine Aa rfl (iQ 3 (eC 58 [.sl ((ms).length) (Av (ms)),Sv (tx n)] 18 (So (l:=n) (ns:=ms) (by omega)) (iQ 1 ?_)))
 let Z5:=zT [(4,.p 4 0),(5,Ba false),(6,.p 6 0),(7,Ba true),(8,Ia (Hs n ms))] []
 refine iE 31 Z5 (zH [(4,[.v (.nilIface)])] Z4) ?_
 refine Af (Aa rfl (iQ 1 (jU .not (.bool true) 20 ?_)))
 refine Am ((by simp)) ?_
 refine iQ 2 (jB .lss 3 (.int .i64 (Hs n ms)) (.int .i64 0) 23 ?_)
 intro c23 hc23
 refine iQ 1 ?_
 let Z6:=zT [(4,.p 4 0),(5,Ba false),(6,.p 6 0),(8,Ia (Hs n ms)),(24,Ba c23)] []
 refine iE 31 Z6 (zH [(4,[.v (.nilIface)])] Z4) ?_
 cases c23
 ·replace hc23:=bf hc23
  obtain ⟨k,hi⟩ : ∃ k,Ea n ms=some k:=by cases hq:Ea n ms with | none=>rw[Hs,hq] at hc23;simp at hc23 | some k=>exact ⟨k,rfl⟩
  have hlt:=b5d hi
  obtain ⟨y,hy⟩ : ∃ y,ys[k]? = some y:=⟨_,List.getElem?_eq_getElem (by omega)⟩
  have hii:Hs n ms=(k:Int):=by rw[Hs,hi]
  refine iF (Ae (Ag (Aa rfl (iQ 3 (Bl (q:=(Hs n ms)) (n:=((ys).length)) (cs:=(An (ys))) (d:=.bx (y).enc) (dst:=(some 29)) (by kernel_rfl) (by omega) (by rw[hii,Int.toNat_natCast];exact Ih hy) ?_)))))
  refine iQ 3 ?_
  let Z7:=zT [(4,.p 4 0),(5,Ba true),(6,.p 6 0),(8,Ia (Hs n ms)),(24,Ba false)] []
  refine iE 31 Z7 (zH [(4,[.bx (y).enc])] Z4) ?_
  refine Ab (iS (.agg [.bx (y).enc]) (Bv true) [] ?_)
  exact ⟨_,by rw[hi];rfl,.inl (by rw[Qb,hi];simp only;rw[List.getD_eq_getElem?_getD,hy];rfl)⟩
 ·replace hc23:=bt hc23
  have hi:Ea n ms=none:=by cases hq:Ea n ms with | none=>rfl | some k=>rw[Hs,hq] at hc23;simp at hc23;omega
  refine iT (Aa rfl (iQ 3 ?_))
  let Z8:=zT [(4,.p 4 0),(5,Ba false),(6,.p 6 0),(8,Ia (Hs n ms)),(24,Ba true)] []
  refine iE 31 Z8 (zH [(4,[.v (.nilIface)])] Z4) ?_
  refine Ab (Ai (iS (.agg [.v (.nilIface)]) (Bv false) [] ?_))
  exact ⟨_,by rw[hi];rfl,.inr (by rw[Qb,hi,Vl.enc])⟩
theorem b1j {v:Vl} {n:L8} {ms:List L8} {ys:List Vl} (e:v=.ctx ms ys) (h:ys.length≤1073741824) (h':ms.length=ys.length):HasC Tryz.prog 62 [VV v,.v (.string (tx n))] (fun r=>r=.tup [VV (Qb n ms ys),.v (.bool (Ea n ms).isSome)]):=by
 subst e
 have:=HasC.ub (b8k (b13 (n:=n) h h'))
 rw[← show (Vl.ctx ms ys).enc=.ifc 99 (.agg [.sl ms.length (Av ms),.sl ys.length (An ys)]) by rw[Vl.enc]] at this
 exact this
theorem a8z {v:Vl} {n:L8} {ms:List L8} {ys:List Vl} (e:v=.ctx ms ys) (h:ys.length≤1073741824) (h':ms.length=ys.length):HasC Tryz.prog 62 [VV v,.v (.string (tx n))] (fun r => ∃ b,r=.tup [VV (Qb n ms ys),.v (.bool b)]∧b=(Ea n ms).isSome):=(b1j e h h').mono fun r hr=>⟨_,hr,rfl⟩
open Go.RowKit
set_option linter.unusedVariables false
set_option linter.unusedSimpArgs false
set_option maxRecDepth 100000
def Bu (x:Int):Vl:=.num (decide (x<0)) x.natAbs 0
theorem Xt {x:Int} (h0 : -9223372036854775808≤x) (h1:x≤9223372036854775807):May (decide (x<0)) x.natAbs 0:=⟨by unfold E34;omega,by decide,by decide,fun h h2=>by have:x<0:=(by simpa using h);omega⟩
theorem a82 {x:Int} (h0 : -9223372036854775808≤x) (h1:x≤9223372036854775807):Nj (decide (x<0)) x.natAbs 0=Bu x:=by rw[Nj,if_pos (Xt h0 h1),Bu]
theorem b4t {x:Int} (h0 : -9223372036854775808≤x) (h1:x≤9223372036854775807):(Bu x).ok:=by rw[Bu,Vl.ok];exact Xt h0 h1
theorem Oo {x:Int} (h0 : -9223372036854775808≤x) (h1:x≤9223372036854775807):HasC Tryz.prog 32 [.v (.int .i64 x)] (fun r=>r=VV (Bu x)):=by
 refine hO [] Tryz.f32 (fun a w=>Tryz.call32 a w) Tryz.func32 rfl (⟨_,rfl⟩) ?_
 refine Aa rfl (iQ 1 (iE 6 [(0,Ia x),(2,.p 2 0)] [(2,[.v (.nilIface)])] ?_))
 refine Aa rfl (iQ 1 (eC 56 [Iv x] 4 (b9c h0 h1) (eC 55 [.agg [Bv (decide (x<0)),Hw x.natAbs,Lw x.natAbs,Iv 0]] 5 (a61 (Nat.lt_trans (Xt h0 h1).1 Gt)) (iQ 1 ?_))))
 let Z1:=zH [(2,[.bx (Nj (decide (x<0)) x.natAbs 0).enc])] []
 refine iE 6 [(2,.p 2 0)] Z1 ?_
 refine Ab (iR (.agg [.bx (Nj (decide (x<0)) x.natAbs 0).enc]) ?_)
 rw[← a82 h0 h1]
end Go.Proofs.YtfkfpkhgoijfdaaGreatDoor
