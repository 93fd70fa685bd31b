/- equal: the order of values; truths. equal: whether values are the same; within, among. equal: within, among; truths and values; value.Int. -/
import Derived.Test.YtfkfpkhgoijfdaaGreatDoorVlX
import Derived.Test.YtfkfpkhgoijfdaaGreatDoorDecY
import Derived.Test.YtfkfpkhgoijfdaaGreatDoorCivZ
namespace Go.Proofs.YtfkfpkhgoijfdaaGreatDoor
open Go.RowKit Go.Shelf
set_option linter.unusedVariables false
set_option linter.unusedSimpArgs false
set_option maxRecDepth 100000
def Dq (x:Int):Int:=if x=2 then 1 else if x=1 then 2 else 0
def Ew (x y:Int):Int:=if x=1∨y=1 then 1 else if x=2∧y=2 then 2 else 0
def ofI (p:Bool):Int:=if p=true then 2 else 1
theorem b72 {p:Bool}:HasC Tryz.prog 51 [.v (.bool p)] (fun r=>r=.v (.int .i64 (ofI p))):=by
 refine hO [] Tryz.f51 (fun a w=>Tryz.call51 a w) Tryz.func51 rfl (⟨_,rfl⟩) ?_
 refine Aa rfl (iQ 1 (iE 4 [(0,Ba p),(2,Ia 0)] [] ?_))
 refine Af (Aa rfl (iQ 1 (iE 4 [(2,Ia 0),(3,Ba p)] [] ?_)))
 cases p
 ·refine iF (Ad (Ae (Aa rfl (iQ 1 (iE 4 [(2,Ia 1),(3,Ba false)] [] ?_)))))
  refine Ab (iR (Iv 1) ?_)
  rfl
 ·refine iT (Aa rfl (iQ 1 (iE 4 [(2,Ia 2),(3,Ba true)] [] ?_)))
  refine Ab (Ah (iR (Iv 2) ?_))
  rfl
theorem a0g {x:Int}:HasC Tryz.prog 71 [.v (.int .i64 x)] (fun r=>r=.v (.int .i64 (Dq x))):=by
 refine hO [] Tryz.f71 (fun a w=>Tryz.call71 a w) Tryz.func71 rfl (⟨_,rfl⟩) ?_
 refine Aa rfl (iQ 1 (iE 8 [(0,Ia x),(2,Ia 0)] [] ?_))
 refine Af (Aa rfl (iQ 1 (iE 8 [(2,Ia 0),(3,Ia x)] [] ?_)))
 refine An (Aa rfl (jB .eql 55 (.int .i64 x) (.int .i64 2) 5 ?_))
 intro c5 hc5
 refine iQ 1 (iE 8 [(2,Ia 0),(3,Ia x),(4,Ba c5)] [] ?_)
 cases c5
 ·replace hc5:=bf hc5
  refine iF (Aa rfl (jB .eql 55 (.int .i64 x) (.int .i64 1) 7 ?_))
  intro c7 hc7
  refine iQ 1 ?_
  let Z1:=zT [(2,Ia 0),(3,Ia x),(4,Ba false),(6,Ba c7)] []
  refine iE 8 Z1 [] ?_
  cases c7
  ·replace hc7:=bf hc7
   refine iF (Ad (Ao (Ae (Aa rfl (iQ 1 ?_)))))
   let Z2:=zT [(2,Ia 0),(3,Ia x),(4,Ba false),(6,Ba false)] []
   refine iE 8 Z2 [] ?_
   refine Ab (iR (Iv 0) ?_)
   rw[Dq,if_neg hc5,if_neg hc7]
  ·replace hc7:=bt hc7
   refine iT (Aa rfl (iQ 1 ?_))
   let Z3:=zT [(2,Ia 2),(3,Ia x),(4,Ba false),(6,Ba true)] []
   refine iE 8 Z3 [] ?_
   refine Ab (Aj (Ah (iR (Iv 2) ?_)))
   rw[Dq,if_neg hc5,if_pos hc7]
 ·replace hc5:=bt hc5
  refine iT (Aa rfl (iQ 1 (iE 8 [(2,Ia 1),(3,Ia x),(4,Ba true)] [] ?_)))
  refine Ab (Aj (Ah (iR (Iv 1) ?_)))
  rw[Dq,if_pos hc5]
theorem a78 {x y:Int}:HasC Tryz.prog 52 [.v (.int .i64 x),.v (.int .i64 y)] (fun r=>r=.v (.int .i64 (Ew x y))):=by
 refine hO [] Tryz.f52 (fun a w=>Tryz.call52 a w) Tryz.func52 rfl (⟨_,rfl⟩) ?_
 refine Aa rfl (iQ 1 (iE 19 [(0,Ia x),(1,Ia y),(4,Ia 0)] [] ?_))
 refine Af (An (Aa rfl (iQ 1 (jB .eql 55 (.int .i64 x) (.int .i64 1) 7 ?_))))
 intro c7 hc7
 refine iQ 1 ?_
 cases c7
 ·replace hc7:=bf hc7
  refine iQ 1 (jB .eql 55 (.int .i64 y) (.int .i64 1) 10 ?_)
  intro c10 hc10
  refine iQ 2 ?_
  let Z1:=zT [(0,Ia x),(1,Ia y),(4,Ia 0),(5,Ba c10)] []
  refine iE 19 Z1 [] ?_
  cases c10
  ·replace hc10:=bf hc10
   refine iF (Aa rfl (iQ 1 (jB .eql 55 (.int .i64 x) (.int .i64 2) 14 ?_)))
   intro c14 hc14
   refine iQ 1 ?_
   cases c14
   ·replace hc14:=bf hc14
    refine iQ 4 ?_
    let Z2:=zT [(0,Ia x),(1,Ia y),(4,Ia 0),(5,Ba false),(12,Ba false)] []
    refine iE 19 Z2 [] ?_
    refine iF (Ad (Ao (Ae (Aa rfl (iQ 1 (iE 19 Z2 [] ?_))))))
    refine Ab (iR (Iv 0) ?_)
    rw[Ew,if_neg (by omega),if_neg (by omega)]
   ·replace hc14:=bt hc14
    refine iQ 1 (jB .eql 55 (.int .i64 y) (.int .i64 2) 17 ?_)
    intro c17 hc17
    refine iQ 2 ?_
    let Z3:=zT [(0,Ia x),(1,Ia y),(4,Ia 0),(5,Ba false),(12,Ba c17)] []
    refine iE 19 Z3 [] ?_
    cases c17
    ·replace hc17:=bf hc17
     refine iF (Ad (Ao (Ae (Aa rfl (iQ 1 ?_)))))
     let Z4:=zT [(0,Ia x),(1,Ia y),(4,Ia 0),(5,Ba false),(12,Ba false)] []
     refine iE 19 Z4 [] ?_
     refine Ab (iR (Iv 0) ?_)
     rw[Ew,if_neg (by omega),if_neg (by omega)]
    ·replace hc17:=bt hc17
     refine iT (Aa rfl (iQ 1 ?_))
     let Z5:=zT [(0,Ia x),(1,Ia y),(4,Ia 2),(5,Ba false),(12,Ba true)] []
     refine iE 19 Z5 [] ?_
     refine Ab (Aj (Ah (iR (Iv 2) ?_)))
     rw[Ew,if_neg (by omega),if_pos (by omega)]
  ·replace hc10:=bt hc10
   refine iT (Aa rfl (iQ 1 ?_))
   let Z6:=zT [(0,Ia x),(1,Ia y),(4,Ia 1),(5,Ba true)] []
   refine iE 19 Z6 [] ?_
   refine Ab (Aj (Ah (iR (Iv 1) ?_)))
   rw[Ew,if_pos (by omega)]
 ·replace hc7:=bt hc7
  refine iQ 4 ?_
  let Z7:=zT [(0,Ia x),(1,Ia y),(4,Ia 0),(5,Ba true)] []
  refine iE 19 Z7 [] ?_
  refine iT (Aa rfl (iQ 1 ?_))
  let Z8:=zT [(0,Ia x),(1,Ia y),(4,Ia 1),(5,Ba true)] []
  refine iE 19 Z8 [] ?_
  refine Ab (Aj (Ah (iR (Iv 1) ?_)))
  rw[Ew,if_pos (by omega)]
theorem b5q {x y:Int}:HasC Tryz.prog 54 [.v (.int .i64 x),.v (.int .i64 y)] (fun r=>r=.v (.int .i64 (Dq (Ew (Dq x) (Dq y))))):=by
 refine hO [] Tryz.f54 (fun a w=>Tryz.call54 a w) Tryz.func54 rfl (⟨_,rfl⟩) ?_
 refine Aa rfl (iQ 1 (iE 11 [(0,Ia x),(1,Ia y),(4,Ia 0)] [] ?_))
 refine Aa rfl (iQ 1 (eC 71 [Iv x] 6 (a0g) (iQ 1 (eC 71 [Iv y] 8 (a0g) (eC 52 [Iv (Dq (x)),Iv (Dq (y))] 9 (a78) (eC 71 [Iv (Ew (Dq (x)) (Dq (y)))] 10 (a0g) (iQ 1 (iE 11 [(4,Ia (Dq (Ew (Dq (x)) (Dq (y)))))] [] ?_))))))))
 refine Ab (iR (Iv (Dq (Ew (Dq (x)) (Dq (y))))) ?_)
 rfl
def b7d (y m d:Int):Int:=(y*16+m)*32+d
noncomputable def ordV:Vl→Vl→Option Int
 | .num g n e,.num g' n' e'=>some (cmpZ g n e g' n' e')
 | .text a,.text b=>some (Lib.compareBytes a b)
 | .day y m d,.day y' m' d'=>some (a23 (b7d y m d) (b7d y' m' d'))
 | .time s z o,.time s' z' o'=>if z=z' then some (a23 (s-o) (s'-o')) else none
 | .mom y m d s z o,.mom y' m' d' s' z' o'=>if z=z' then some (a23 (86400*b7v y m d+s-o) (86400*b7v y' m' d'+s'-o')) else none
 | .days a,.days b=>some (a23 a b)
 | .months a,.months b=>some (a23 a b)
 | _,_=>none
open Go.RowKit
set_option linter.unusedVariables false
set_option linter.unusedSimpArgs false
set_option maxRecDepth 100000
noncomputable def Qo (a b:Vl):Int:=if b.nullB=true then 1 else match ordV a b with
 | some c=>ofI (decide (c=0))
 | none=>0
mutual
noncomputable def a19:Vl→Vl→Int
 | .null,b=>ofI b.nullB
 | .bool x,b=>match b with
  | .null=>1
  | .bool y=>ofI (x==y)
  | _=>0
 | .list xs,b=>match b with
  | .null=>1
  | .list ys=>if xs.length=ys.length then b70 2 xs ys else 1
  | _=>0
 | .ctx ns xs,b=>match b with
  | .null=>1
  | .ctx ms ys=>if ns.length=ms.length then b7g 2 ns xs ms ys else 1
  | _=>0
 | .rng lo hi p q,b=>match b with
  | .null=>1
  | .rng lo' hi' p' q'=>Ew (ofI (p==p'&&q==q')) (Ew (Ew 2 (a19 lo lo')) (a19 hi hi'))
  | _=>0
 | .num g n e,b=>Qo (.num g n e) b
 | .text l,b=>Qo (.text l) b
 | .day y m d,b=>Qo (.day y m d) b
 | .time s z o,b=>Qo (.time s z o) b
 | .mom y m d s z o,b=>Qo (.mom y m d s z o) b
 | .days n,b=>Qo (.days n) b
 | .months n,b=>Qo (.months n) b
noncomputable def b70:Int→List Vl→List Vl→Int
 | t,[],_=>t
 | t,x::xs,[]=>t
 | t,x::xs,y::ys=>b70 (Ew t (a19 x y)) xs ys
noncomputable def b7g:Int→List L8→List Vl→List L8→List Vl→Int
 | t,_,[],_,_=>t
 | t,[],x::xs,_,_=>t
 | t,n::ns,x::xs,ms,ys=>match Dl n ms with
  | none=>1
  | some k=>b7g (Ew t (a19 x (ys.getD k .null))) ns xs ms ys
end
theorem a38 {xs:List Vl} (h:xs.length≤1073741824):HasC Tryz.prog 41 [.agg [.ifc 91 (.sl ((xs).length) (Aq (xs)))]] (fun r=>r=.tup [.sl xs.length (Aq xs),.v (.bool true)]):=by
 refine hO [] Tryz.f41 (fun a w=>Tryz.call41 a w) Tryz.func41 rfl (⟨_,rfl⟩) ?_
 refine Aa rfl (iQ 3 ?_)
 let Z1:=zT [(1,.p 1 0),(2,.w (.sl 0 []) none),(3,Ba false)] []
 let Z2:=zH [(1,[.ifc 91 (.sl ((xs).length) (Aq (xs)))])] []
 refine iE 15 Z1 Z2 ?_
 refine Aa rfl (iQ 8 ?_)
 let Z3:=zT [(2,.w (.sl 0 []) none),(3,Ba false),(4,.d (.sl ((xs).length) (Aq (xs)))),(5,Ba true)] []
 refine iE 15 Z3 [] ?_
 refine Aa rfl (iQ 1 (eC 43 [.sl ((xs).length) (Aq (xs))] 13 (Lu h) (iQ 3 ?_)))
 let Z4:=zT [(2,.d (.sl ((xs).length) (Aq (xs)))),(3,Ba true)] []
 refine iE 15 Z4 [] ?_
 refine Ab (iS (.sl ((xs).length) (Aq (xs))) (Bv true) [] ?_)
 rfl
theorem a4g {v:Vl} {xs:List Vl} (e:v=.list xs) (h:xs.length≤1073741824):HasC Tryz.prog 41 [VV v] (fun r=>r=.tup [.sl xs.length (Aq xs),.v (.bool true)]):=by
 subst e
 have:=HasC.ub (a38 h)
 rw[← show (Vl.list xs).enc=.ifc 91 (.sl xs.length (Aq xs)) by rw[Vl.enc]] at this
 exact this
theorem b6h {P:Program} {f:FuncId} {ds:List DV} {v:Vl} {ok:Bool} (h:HasC P f ds (fun y => ∃ x,y=.tup [x,.v (.bool ok)]∧(x=VV v∨x=.agg [v.enc]))):HasC P f ds (fun y=>y=.tup [VV v,.v (.bool ok)]) :=
 h.weak fun y ⟨x,h0,h1⟩=>⟨_,rfl,fun Im W r k=>by
  subst h0
  rw[DV.rel] at k ⊢
  obtain ⟨vs,e,k2⟩:=k
  refine ⟨vs,e,?_⟩
  rw[DV.relL] at k2 ⊢
  obtain ⟨u,us,e1,k3,k4⟩:=k2
  refine ⟨u,us,e1,?_,k4⟩
  rcases h1 with rfl | rfl
  ·exact k3
  ·exact Lf (fun z hz=>a0p (Vt v) hz) k3⟩
def Om (n:L8) (ms:List L8) (ys:List Vl):Vl:=match Dl n ms with
 | some k=>ys.getD k .null
 | none=>.null
theorem b2t {n:L8} {ms:List L8} {k:Nat} (h:Dl n ms=some k):k<ms.length:=(List.getElem?_eq_some_iff.1 (a0q h)).1
theorem a91 {n:L8} {ms:List L8} {ys:List Vl} (h:ys.length≤1073741824) (h':ms.length=ys.length):HasC Tryz.prog 62 [.agg [.ifc 99 (.agg [.sl ((ms).length) (Ax (ms)),.sl ((ys).length) (Aq (ys))])],.v (.string (tx n))] (fun r => ∃ x,r=.tup [x,.v (.bool (Dl n ms).isSome)]∧(x=VV (Om n ms ys)∨x=.agg [(Om n ms ys).enc])):=by
 refine hO [] Tryz.f62 (fun a w=>Tryz.call62 a w) Tryz.func62 rfl (⟨_,_,rfl,.inl rfl⟩) ?_
 refine Aa rfl (iQ 3 ?_)
 let Z1:=zT [(1,.d (Sv (tx n))),(2,.p 2 0),(4,.p 4 0),(5,Ba false)] []
 let Z2:=zH [(2,[.ifc 99 (.agg [.sl ((ms).length) (Ax (ms)),.sl ((ys).length) (Aq (ys))])])] []
 refine iE 31 Z1 (zH [(4,[.v (.nilIface)])] Z2) ?_
 refine Aa rfl (iQ 9 ?_)
 let Z3:=zT [(1,.d (Sv (tx n))),(4,.p 4 0),(5,Ba false),(6,.p 6 0),(7,Ba true)] []
 let Z4:=zH [(6,[.sl ((ms).length) (Ax (ms)),.sl ((ys).length) (Aq (ys))])] []
 refine iE 31 Z3 (zH [(4,[.v (.nilIface)])] Z4) ?_
 refine Aa rfl (iQ 3 (eC 58 [.sl ((ms).length) (Ax (ms)),Sv (tx n)] 18 (Ps (l:=n) (ns:=ms) (by omega)) (iQ 1 ?_)))
 let Z5:=zT [(4,.p 4 0),(5,Ba false),(6,.p 6 0),(7,Ba true),(8,Ia (Gt n ms))] []
 refine iE 31 Z5 (zH [(4,[.v (.nilIface)])] Z4) ?_
 refine Af (Aa rfl (iQ 1 (jU .not (.bool true) 20 ?_)))
 refine Al ((by simp)) ?_
 refine iQ 2 (jB .lss 3 (.int .i64 (Gt n ms)) (.int .i64 0) 23 ?_)
 intro c23 hc23
 refine iQ 1 ?_
 let Z6:=zT [(4,.p 4 0),(5,Ba false),(6,.p 6 0),(8,Ia (Gt n ms)),(24,Ba c23)] []
 refine iE 31 Z6 (zH [(4,[.v (.nilIface)])] Z4) ?_
 cases c23
 ·replace hc23:=bf hc23
  obtain ⟨k,hi⟩ : ∃ k,Dl n ms=some k:=by cases hq:Dl n ms with | none=>rw[Gt,hq] at hc23;simp at hc23 | some k=>exact ⟨k,rfl⟩
  have hlt:=b2t hi
  obtain ⟨y,hy⟩ : ∃ y,ys[k]? = some y:=⟨_,List.getElem?_eq_getElem (by omega)⟩
  have hii:Gt n ms=(k:Int):=by rw[Gt,hi]
  refine iF (Ad (Ae (Aa rfl (iQ 3 (Bj (q:=(Gt n ms)) (n:=((ys).length)) (cs:=(Aq (ys))) (d:=.bx (y).enc) (dst:=(some 29)) (by kernel_rfl) (by omega) (by rw[hii,Int.toNat_natCast];exact Ek hy) ?_)))))
  refine iQ 3 ?_
  let Z7:=zT [(4,.p 4 0),(5,Ba true),(6,.p 6 0),(8,Ia (Gt n ms)),(24,Ba false)] []
  refine iE 31 Z7 (zH [(4,[.bx (y).enc])] Z4) ?_
  refine Ab (iS (.agg [.bx (y).enc]) (Bv true) [] ?_)
  exact ⟨_,by rw[hi];rfl,.inl (by rw[Om,hi];simp only;rw[List.getD_eq_getElem?_getD,hy];rfl)⟩
 ·replace hc23:=bt hc23
  have hi:Dl n ms=none:=by cases hq:Dl n ms with | none=>rfl | some k=>rw[Gt,hq] at hc23;simp at hc23;omega
  refine iT (Aa rfl (iQ 3 ?_))
  let Z8:=zT [(4,.p 4 0),(5,Ba false),(6,.p 6 0),(8,Ia (Gt n ms)),(24,Ba true)] []
  refine iE 31 Z8 (zH [(4,[.v (.nilIface)])] Z4) ?_
  refine Ab (Ah (iS (.agg [.v (.nilIface)]) (Bv false) [] ?_))
  exact ⟨_,by rw[hi];rfl,.inr (by rw[Om,hi,Vl.enc])⟩
theorem b0n {v:Vl} {n:L8} {ms:List L8} {ys:List Vl} (e:v=.ctx ms ys) (h:ys.length≤1073741824) (h':ms.length=ys.length):HasC Tryz.prog 62 [VV v,.v (.string (tx n))] (fun r=>r=.tup [VV (Om n ms ys),.v (.bool (Dl n ms).isSome)]):=by
 subst e
 have:=HasC.ub (b6h (a91 (n:=n) h h'))
 rw[← show (Vl.ctx ms ys).enc=.ifc 99 (.agg [.sl ms.length (Ax ms),.sl ys.length (Aq ys)]) by rw[Vl.enc]] at this
 exact this
theorem a44 {v:Vl} {n:L8} {ms:List L8} {ys:List Vl} (e:v=.ctx ms ys) (h:ys.length≤1073741824) (h':ms.length=ys.length):HasC Tryz.prog 62 [VV v,.v (.string (tx n))] (fun r => ∃ b,r=.tup [VV (Om n ms ys),.v (.bool b)]∧b=(Dl n ms).isSome):=(b0n e h h').mono fun r hr=>⟨_,hr,rfl⟩
open Go.RowKit
set_option linter.unusedVariables false
set_option linter.unusedSimpArgs false
set_option maxRecDepth 100000
def Bq (x:Int):Vl:=.num (decide (x<0)) x.natAbs 0
theorem Wm {x:Int} (h0 : -9223372036854775808≤x) (h1:x≤9223372036854775807):May (decide (x<0)) x.natAbs 0:=⟨by unfold E34;omega,by decide,by decide,fun h h2=>by have:x<0:=(by simpa using h);omega⟩
theorem a7j {x:Int} (h0 : -9223372036854775808≤x) (h1:x≤9223372036854775807):Ow (decide (x<0)) x.natAbs 0=Bq x:=by rw[Ow,if_pos (Wm h0 h1),Bq]
theorem b25 {x:Int} (h0 : -9223372036854775808≤x) (h1:x≤9223372036854775807):(Bq x).ok:=by rw[Bq,Vl.ok];exact Wm h0 h1
theorem Nr {x:Int} (h0 : -9223372036854775808≤x) (h1:x≤9223372036854775807):HasC Tryz.prog 32 [.v (.int .i64 x)] (fun r=>r=VV (Bq x)):=by
 refine hO [] Tryz.f32 (fun a w=>Tryz.call32 a w) Tryz.func32 rfl (⟨_,rfl⟩) ?_
 refine Aa rfl (iQ 1 (iE 6 [(0,Ia x),(2,.p 2 0)] [(2,[.v (.nilIface)])] ?_))
 refine Aa rfl (iQ 1 (eC 56 [Iv x] 4 (b50 h0 h1) (eC 55 [.agg [Bv (decide (x<0)),Hw x.natAbs,Lw x.natAbs,Iv 0]] 5 (a88 (Nat.lt_trans (Wm h0 h1).1 Gf)) (iQ 1 ?_))))
 let Z1:=zH [(2,[.bx (Ow (decide (x<0)) x.natAbs 0).enc])] []
 refine iE 6 [(2,.p 2 0)] Z1 ?_
 refine Ab (iR (.agg [.bx (Ow (decide (x<0)) x.natAbs 0).enc]) ?_)
 rw[← a7j h0 h1]
def Ea (t:Int):Vl:=if t=2 then .bool true else if t=1 then .bool false else .null
theorem a6v {t:Int}:HasC Tryz.prog 53 [.v (.int .i64 t)] (fun r => ∃ v,IsV r v∧v=Ea t):=by
 refine hO [] Tryz.f53 (fun a w=>Tryz.call53 a w) Tryz.func53 rfl (⟨_,_,.inl rfl,rfl⟩) ?_
 refine Aa rfl (iQ 1 (iE 11 [(0,Ia t),(2,.p 2 0)] [(2,[.v (.nilIface)])] ?_))
 refine Af (Aa rfl (iQ 1 (iE 11 [(2,.p 2 0),(3,Ia t)] [(2,[.v (.nilIface)])] ?_)))
 refine An (Aa rfl (jB .eql 55 (.int .i64 t) (.int .i64 2) 5 ?_))
 intro c5 hc5
 refine iQ 1 (iE 11 [(2,.p 2 0),(3,Ia t),(4,Ba c5)] [(2,[.v (.nilIface)])] ?_)
 cases c5
 ·replace hc5:=bf hc5
  refine iF (Aa rfl (jB .eql 55 (.int .i64 t) (.int .i64 1) 8 ?_))
  intro c8 hc8
  refine iQ 1 ?_
  let Z1:=zT [(2,.p 2 0),(3,Ia t),(4,Ba false),(7,Ba c8)] []
  refine iE 11 Z1 [(2,[.v (.nilIface)])] ?_
  cases c8
  ·replace hc8:=bf hc8
   refine iF (Ad (Ao (Ae (Aa rfl (iQ 2 ?_)))))
   let Z2:=zT [(2,.p 2 0),(3,Ia t),(4,Ba false),(7,Ba false)] []
   refine iE 11 Z2 [(2,[.v (.nilIface)])] ?_
   refine Ab (iR (.agg [.v (.nilIface)]) ?_)
   exact ⟨.null,IsV.null,by rw[Ea,if_neg hc5,if_neg hc8]⟩
  ·replace hc8:=bt hc8
   refine iT (Aa rfl (eC 70 [Bv false] 9 (Pf (p:=false)) (iQ 1 ?_)))
   let Z3:=zT [(2,.p 2 0),(3,Ia t),(4,Ba false),(7,Ba true)] []
   refine iE 11 Z3 [(2,[.bx (Vl.bool false).enc])] ?_
   refine Ab (Aj (Ah (iR (.agg [.bx (Vl.bool false).enc]) ?_)))
   exact ⟨_,.inl rfl,by rw[Ea,if_neg hc5,if_pos hc8]⟩
 ·replace hc5:=bt hc5
  refine iT (Aa rfl (eC 70 [Bv true] 6 (Pf (p:=true)) (iQ 1 (iE 11 [(2,.p 2 0),(3,Ia t),(4,Ba true)] [(2,[.bx (Vl.bool true).enc])] ?_))))
  refine Ab (Aj (Ah (iR (.agg [.bx (Vl.bool true).enc]) ?_)))
  exact ⟨_,.inl rfl,by rw[Ea,if_pos hc5]⟩
theorem Xo {t:Int}:HasC Tryz.prog 53 [.v (.int .i64 t)] (fun r=>r=VV (Ea t)):=a6v.isV.mono fun r ⟨v,h1,h2⟩=>by rw[h1,h2]
def Cf:Vl→Int
 | .bool b=>ofI b
 | _=>0
theorem a3a {v:Vl}:HasC Tryz.prog 50 [VV v] (fun r => ∃ x ok,r=.tup [.v (.bool x),.v (.bool ok)]∧x=(Km v).1∧ok=(Km v).2):=(a7a v).mono fun r hr=>⟨_,_,hr,rfl,rfl⟩
theorem a2w {v:Vl} {x:Bool} (h1:x=(Km v).1) (h2:true=(Km v).2):Cf v=ofI x:=by
 cases v
 case bool b=>rw[h1];rfl
 all_goals cases h2
theorem a6n {v:Vl} (h2:false=(Km v).2):Cf v=0:=by
 cases v
 case bool b=>cases h2
 all_goals rfl
theorem Ja {v:Vl}:HasC Tryz.prog 29 [.agg [.bx (v).enc]] (fun r=>r=.v (.int .i64 (Cf v))):=by
 refine hO [] Tryz.f29 (fun a w=>Tryz.call29 a w) Tryz.func29 rfl (⟨_,rfl⟩) ?_
 refine Aa rfl (iQ 2 (iE 13 [(1,.p 1 0),(2,Ia 0)] [(1,[.bx (v).enc])] ?_))
 refine Af (Aa rfl (iQ 1 (jC 50 [.agg [.bx (v).enc]] 7 (a3a (v:=v)) ?_)))
 rintro _ ⟨x,ok,rfl,h1,h2⟩
 refine iQ 5 (iE 13 [(2,Ia 0),(3,Ba x),(4,Ba ok)] [] ?_)
 refine Aa rfl (iQ 1 (iE 13 [(2,Ia 0),(3,Ba x),(10,Ba ok)] [] ?_))
 cases ok
 ·refine iF (Ad (Ae (Aa rfl (iQ 1 (iE 13 [(2,Ia 0),(3,Ba x),(10,Ba false)] [] ?_)))))
  refine Ab (iR (Iv 0) ?_)
  rw[a6n h2]
 ·refine iT (Aa rfl (iQ 1 (eC 51 [Bv x] 12 (b72 (p:=x)) (iQ 1 (iE 13 [(2,Ia (ofI x)),(10,Ba true)] [] ?_)))))
  refine Ab (Ah (iR (Iv (ofI x)) ?_))
  rw[a2w h1 h2]
theorem Lj {t:Int} (h:t=0∨t=1∨t=2):Cf (Ea t)=t:=by rcases h with rfl | rfl | rfl<;>rfl
end Go.Proofs.YtfkfpkhgoijfdaaGreatDoor
