/- listfun's At, Sub, All, Any, Get; a list that is made; small lists of numbers. value.AsList of any value. slices.Clone of values, cell by cell: a row of the caller's own. listfun.Insert. listfun.Insert of any values. -/
import Derived.Test.YtfkfpkhgoijfdaaGreatDoorVlX
import Derived.Test.YtfkfpkhgoijfdaaGreatDoorVlY
import Derived.Test.YtfkfpkhgoijfdaaGreatDoorMkV
import Derived.Test.YtfkfpkhgoijfdaaGreatDoorVcL
import Derived.Shelf.Spec.SlicesInsert
import Derived.Lib.AppendZerosOnto
import Derived.ArgAppend
import Derived.Deep.RegionHeld3
namespace Go.Proofs.YtfkfpkhgoijfdaaGreatDoor
open Go.RowKit
set_option linter.unusedVariables false
set_option linter.unusedSimpArgs false
set_option maxRecDepth 100000
def plc (n:Nat) (a:Int):Option Nat:=if 0<a∧a≤n then some (a-1).toNat else if a<0 ∧ -(n:Int)≤a then some (n+a).toNat else none
theorem b38 {n k:Nat} {a:Int} (h:plc n a=some k):k<n:=by
 unfold plc at h
 split at h
 ·cases h;omega
 ·split at h
  ·cases h;omega
  ·cases h
theorem a98 {n:Nat} {a:Int} (h:0<a∧a≤n):plc n a=some (a-1).toNat:=by rw[plc,if_pos h]
theorem a1b {n:Nat} {a:Int} (h:a<0 ∧ -(n:Int)≤a):plc n a=some (n+a).toNat:=by rw[plc,if_neg (by omega),if_pos h]
theorem Wb {n:Nat} {a:Int} (h : ¬ (0<a∧a≤n)) (h2 : ¬ (a<0 ∧ -(n:Int)≤a)):plc n a=none:=by rw[plc,if_neg h,if_neg h2]
def PlQ (n:Nat) (a k:Int) (ok:Bool):Prop:=(ok=true → ∃ j:Nat,plc n a=some j∧k=j∧j<n)∧(ok=false→plc n a=none∧k=0)
theorem Oz {n j:Nat} {a k:Int} (h:plc n a=some j) (e:k=j):PlQ n a k true:=⟨fun _=>⟨j,h,e,b38 h⟩,fun h=>by cases h⟩
theorem Qk {n:Nat} {a:Int} (h:plc n a=none):PlQ n a 0 false:=⟨fun h=>(by cases h),fun _=>⟨h,rfl⟩⟩
theorem Wq {n:Nat} {a:Int} (hn:n≤1073741824) (h0 : -9223372036854775808≤a) (h1:a≤9223372036854775807):HasC Tryz.prog 47 [.v (.int .i64 ((n:Int))),.v (.int .i64 a)] (fun r => ∃ k ok,r=.tup [.v (.int .i64 k),.v (.bool ok)]∧PlQ n a k ok):=by
 refine hO [] Tryz.f47 (fun a w=>Tryz.call47 a w) Tryz.func47 rfl (by cases h:plc n a with | none=>exact ⟨_,0,false,rfl,Qk h⟩ | some j=>exact ⟨_,j,true,rfl,Oz h rfl⟩) ?_
 refine Aa rfl (iQ 2 ?_)
 let Z1:=zT [(0,Ia ((n:Int))),(1,Ia a),(4,Ia 0),(5,Ba false)] []
 refine iE 28 Z1 [] ?_
 refine Af (An (Aa rfl (iQ 1 (jB .gtr 3 (.int .i64 a) (.int .i64 0) 8 ?_))))
 intro c8 hc8
 refine iQ 1 ?_
 cases c8
 ·replace hc8:=bf hc8
  refine iQ 5 (iE 28 (zT [(6,Ba false)] Z1) [] ?_)
  refine iF (Aa rfl (iQ 1 (jB .lss 3 (.int .i64 a) (.int .i64 0) 18 ?_)))
  intro c18 hc18
  refine iQ 1 ?_
  cases c18
  ·replace hc18:=bf hc18
   refine iQ 6 (iE 28 (zT [(6,Ba false),(16,Ba false)] Z1) [] ?_)
   refine iF (Ad (Ao (Ae (Aa rfl (iQ 2 (iE 28 (zT [(6,Ba false),(16,Ba false)] Z1) [] ?_))))))
   refine Ab (iS (Iv 0) (Bv false) [] ?_)
   exact ⟨_,_,rfl,Qk (Wb (by omega) (by omega))⟩
  ·replace hc18:=bt hc18
   refine iQ 2 (jU .neg (.int .i64 ((n:Int))) 22 ?_)
   intro z22 hz22
   try replace hz22:=hz22.i64 (by omega)
   refine jB .geq 3 (.int .i64 a) (.int .i64 z22) 23 ?_
   intro c23 hc23
   refine iQ 2 (iE 28 (zT [(6,Ba false),(16,Ba c23)] Z1) [] ?_)
   cases c23
   ·replace hc23:=bf hc23
    refine iF (Ad (Ao (Ae (Aa rfl (iQ 2 (iE 28 (zT [(6,Ba false),(16,Ba false)] Z1) [] ?_))))))
    refine Ab (iS (Iv 0) (Bv false) [] ?_)
    exact ⟨_,_,rfl,Qk (Wb (by omega) (by omega))⟩
   ·replace hc23:=bt hc23
    refine iT (Aa rfl (iQ 2 (jB .add 3 (.int .i64 ((n:Int))) (.int .i64 a) 27 ?_)))
    intro z27 hz27
    try replace hz27:=hz27.i64 (by omega)
    refine iQ 2 ?_
    let Z2:=zT [(0,Ia ((n:Int))),(1,Ia a),(4,Ia z27),(5,Ba true),(6,Ba false),(16,Ba true)] []
    refine iE 28 Z2 [] ?_
    refine Ab (Aj (Ah (iS (Iv z27) (Bv true) [] ?_)))
    exact ⟨_,_,rfl,Oz (a1b (by omega)) (by omega)⟩
 ·replace hc8:=bt hc8
  refine iQ 2 (jB .leq 3 (.int .i64 a) (.int .i64 ((n:Int))) 12 ?_)
  intro c12 hc12
  refine iQ 2 (iE 28 (zT [(6,Ba c12)] Z1) [] ?_)
  cases c12
  ·replace hc12:=bf hc12
   refine iF (Aa rfl (iQ 1 (jB .lss 3 (.int .i64 a) (.int .i64 0) 18 ?_)))
   intro c18 hc18
   refine iQ 1 ?_
   cases c18
   ·replace hc18:=bf hc18
    refine iQ 6 (iE 28 (zT [(6,Ba false),(16,Ba false)] Z1) [] ?_)
    refine iF (Ad (Ao (Ae (Aa rfl (iQ 2 (iE 28 (zT [(6,Ba false),(16,Ba false)] Z1) [] ?_))))))
    refine Ab (iS (Iv 0) (Bv false) [] ?_)
    exact ⟨_,_,rfl,Qk (Wb (by omega) (by omega))⟩
   ·replace hc18:=bt hc18
    refine iQ 2 (jU .neg (.int .i64 ((n:Int))) 22 ?_)
    intro z22 hz22
    try replace hz22:=hz22.i64 (by omega)
    refine jB .geq 3 (.int .i64 a) (.int .i64 z22) 23 ?_
    intro c23 hc23
    refine iQ 2 (iE 28 (zT [(6,Ba false),(16,Ba c23)] Z1) [] ?_)
    cases c23
    ·replace hc23:=bf hc23
     refine iF (Ad (Ao (Ae (Aa rfl (iQ 2 (iE 28 (zT [(6,Ba false),(16,Ba false)] Z1) [] ?_))))))
     refine Ab (iS (Iv 0) (Bv false) [] ?_)
     exact ⟨_,_,rfl,Qk (Wb (by omega) (by omega))⟩
    ·replace hc23:=bt hc23
     refine iT (Aa rfl (iQ 2 (jB .add 3 (.int .i64 ((n:Int))) (.int .i64 a) 27 ?_)))
     intro z27 hz27
     try replace hz27:=hz27.i64 (by omega)
     refine iQ 2 ?_
     let Z3:=zT [(0,Ia ((n:Int))),(1,Ia a),(4,Ia z27),(5,Ba true),(6,Ba false),(16,Ba true)] []
     refine iE 28 Z3 [] ?_
     refine Ab (Aj (Ah (iS (Iv z27) (Bv true) [] ?_)))
     exact ⟨_,_,rfl,Oz (a1b (by omega)) (by omega)⟩
  ·replace hc12:=bt hc12
   refine iT (Aa rfl (iQ 1 (jB .sub 3 (.int .i64 a) (.int .i64 1) 15 ?_)))
   intro z15 hz15
   try replace hz15:=hz15.i64 (by omega)
   refine iQ 2 ?_
   let Z4:=zT [(0,Ia ((n:Int))),(1,Ia a),(4,Ia z15),(5,Ba true),(6,Ba true)] []
   refine iE 28 Z4 [] ?_
   refine Ab (Aj (Ah (iS (Iv z15) (Bv true) [] ?_)))
   exact ⟨_,_,rfl,Oz (a98 (by omega)) (by omega)⟩
def Fq (vs:List Vl):Vl:=if vs.length≤65536 then .list vs else .null
theorem b4c {vs:List Vl} (hl:vs.length≤1073741824):HasC Tryz.prog 42 [.sl ((vs).length) (Aq (vs))] (fun r => ∃ v,IsV r v∧v=Fq vs):=by
 refine hO [] Tryz.f42 (fun a w=>Tryz.call42 a w) Tryz.func42 rfl (⟨_,_,.inl rfl,rfl⟩) ?_
 refine Aa rfl (iQ 1 ?_)
 let Z1:=zT [(0,.d (.sl ((vs).length) (Aq (vs)))),(2,.p 2 0)] []
 refine iE 9 Z1 [(2,[.v (.nilIface)])] ?_
 refine Af (Aa rfl (iQ 2 (jB .gtr 3 (.int .i64 ((((vs).length:Nat):Int))) (.int .i64 65536) 5 ?_)))
 intro c5 hc5
 refine iE 9 (zT [(5,Ba c5)] Z1) [(2,[.v (.nilIface)])] ?_
 cases c5
 ·replace hc5:=bf hc5
  refine iF (Ad (Ae (Aa rfl (iQ 1 (eC 33 [.sl ((vs).length) (Aq (vs))] 8 (Ly hl) (iQ 1 (iE 9 (zT [(5,Ba false)] Z1) [(2,[.bx (Vl.list vs).enc])] ?_)))))))
  refine Ab (iR (.agg [.bx (Vl.list vs).enc]) ?_)
  exact ⟨_,.inl rfl,by rw[Fq,if_pos (by omega)]⟩
 ·replace hc5:=bt hc5
  refine iT (Aa rfl (iQ 2 (iE 9 (zT [(5,Ba true)] Z1) [(2,[.v (.nilIface)])] ?_)))
  refine Ab (Ah (iR (.agg [.v (.nilIface)]) ?_))
  exact ⟨.null,IsV.null,by rw[Fq,if_neg (by omega)]⟩
theorem Uj {vs:List Vl} (hl:vs.length≤1073741824):HasC Tryz.prog 42 [.sl vs.length (Aq vs)] (fun r=>r=VV (Fq vs)):=(b4c hl).isV.mono fun r ⟨v,h1,h2⟩=>by rw[h1,h2]
def atV (vs:List Vl) (a:Int):Vl:=match plc vs.length a with
 | some k=>vs.getD k .null
 | none=>.null
theorem a5h {vs:List Vl} {a:Int} {k:Nat} {x:Vl} (h:plc vs.length a=some k) (hx:vs[k]? = some x):atV vs a=x:=by
 simp[atV,h,List.getD_eq_getElem?_getD,hx]
theorem v_At {vs:List Vl} {a:Int} (hl:vs.length≤1073741824) (h0 : -9223372036854775808≤a) (h1:a≤9223372036854775807):HasC Tryz.prog 27 [.sl ((vs).length) (Aq (vs)),.v (.int .i64 a)] (fun r => ∃ v,IsV r v∧v=atV vs a):=by
 refine hO [] Tryz.f27 (fun a w=>Tryz.call27 a w) Tryz.func27 rfl (⟨_,_,.inl rfl,rfl⟩) ?_
 refine Aa rfl (iQ 1 ?_)
 let Z1:=zT [(0,.d (.sl ((vs).length) (Aq (vs)))),(1,Ia a),(4,.p 4 0)] []
 refine iE 21 Z1 [(4,[.v (.nilIface)])] ?_
 refine Aa rfl (iQ 3 (jC 47 [Iv ((((vs).length:Nat):Int)),Iv a] 11 (Wq hl h0 h1) ?_))
 rintro _ ⟨k,ok,rfl,hq⟩
 refine iQ 5 ?_
 let Z2:=zT [(0,.d (.sl ((vs).length) (Aq (vs)))),(4,.p 4 0),(5,Ia k),(6,Ba ok)] []
 refine iE 21 Z2 [(4,[.v (.nilIface)])] ?_
 refine Af (Aa rfl (iQ 1 (jU .not (.bool ok) 15 ?_)))
 intro c15 hc15
 let Z3:=zT [(0,.d (.sl ((vs).length) (Aq (vs)))),(4,.p 4 0),(5,Ia k),(15,Ba c15)] []
 refine iE 21 Z3 [(4,[.v (.nilIface)])] ?_
 cases c15
 ·replace hc15:=bf hc15
  obtain ⟨j,hj,hk,hlt⟩:=hq.1 (by simpa using hc15)
  obtain ⟨x,hx⟩ : ∃ x,vs[j]? = some x:=⟨_,List.getElem?_eq_getElem hlt⟩
  refine iF (Ad (Ae (Aa rfl (iQ 2 (Bj (q:=k) (n:=((vs).length)) (cs:=(Aq (vs))) (d:=.bx (x).enc) (dst:=(some 19)) (by kernel_rfl) (by omega) (by rw[hk,Int.toNat_natCast];exact Ek hx) ?_)))))
  refine iQ 2 ?_
  let Z4:=zT [(0,.d (.sl ((vs).length) (Aq (vs)))),(4,.p 4 0),(15,Ba false)] []
  refine iE 21 Z4 [(4,[.bx (x).enc])] ?_
  refine Ab (iR (.agg [.bx (x).enc]) ?_)
  exact ⟨x,.inl rfl,(a5h hj hx).symm⟩
 ·replace hc15:=bt hc15
  refine iT (Aa rfl (iQ 2 ?_))
  let Z5:=zT [(0,.d (.sl ((vs).length) (Aq (vs)))),(4,.p 4 0),(5,Ia k),(15,Ba true)] []
  refine iE 21 Z5 [(4,[.v (.nilIface)])] ?_
  refine Ab (Ah (iR (.agg [.v (.nilIface)]) ?_))
  exact ⟨.null,IsV.null,by rw[atV,(hq.2 (by simpa using hc15)).1]⟩
theorem b7a {vs:List Vl} {a:Int} (hl:vs.length≤1073741824) (h0 : -9223372036854775808≤a) (h1:a≤9223372036854775807):HasC Tryz.prog 27 [.sl vs.length (Aq vs),.v (.int .i64 a)] (fun r=>r=VV (atV vs a)):=(v_At hl h0 h1).isV.mono fun r ⟨v,e1,e2⟩=>by rw[e1,e2]
def a3x (vs:List Vl) (a n:Int):Vl:=match plc vs.length a with
 | some k=>if (vs.length:Int)-k<n then .null else Fq (if n<0 then vs.drop k else (vs.drop k).take n.toNat)
 | none=>.null
theorem b6d {vs:List Vl} {a n:Int} (hl:vs.length≤1073741824) (h0 : -9223372036854775808≤a) (h1:a≤9223372036854775807) (h2 : -9223372036854775808≤n) (h3:n≤9223372036854775807):HasC Tryz.prog 26 [.sl ((vs).length) (Aq (vs)),.v (.int .i64 a),.v (.int .i64 n)] (fun r => ∃ v,IsV r v∧v=a3x vs a n):=by
 refine hO [] Tryz.f26 (fun a w=>Tryz.call26 a w) Tryz.func26 rfl (⟨_,_,.inl rfl,rfl⟩) ?_
 refine Aa rfl (iQ 1 ?_)
 let Z1:=zT [(0,.d (.sl ((vs).length) (Aq (vs)))),(1,Ia a),(2,Ia n),(6,.p 6 0)] []
 refine iE 40 Z1 [(6,[.v (.nilIface)])] ?_
 refine Aa rfl (iQ 3 (jC 47 [Iv ((((vs).length:Nat):Int)),Iv a] 13 (Wq hl h0 h1) ?_))
 rintro _ ⟨k,ok,rfl,hq⟩
 refine iQ 5 ?_
 let Z2:=zT [(0,.d (.sl ((vs).length) (Aq (vs)))),(2,Ia n),(6,.p 6 0),(7,Ia k),(8,Ba ok)] []
 refine iE 40 Z2 [(6,[.v (.nilIface)])] ?_
 refine Af (Aa rfl (iQ 1 (jU .not (.bool ok) 17 ?_)))
 intro c17 hc17
 refine iQ 1 ?_
 cases c17
 ·replace hc17:=bf hc17
  obtain ⟨j,hj,hk,hlt⟩:=hq.1 (by simpa using hc17)
  refine iQ 4 (jB .sub 3 (.int .i64 ((((vs).length:Nat):Int))) (.int .i64 k) 23 ?_)
  intro z23 hz23
  try replace hz23:=hz23.i64 (by omega)
  have hz:z23=(vs.length:Int)-j:=by omega
  refine jB .gtr 3 (.int .i64 n) (.int .i64 z23) 24 ?_
  intro c24 hc24
  refine iQ 1 ?_
  let Z3:=zT [(0,.d (.sl ((vs).length) (Aq (vs)))),(2,Ia n),(6,.p 6 0),(7,Ia k),(25,Ba c24)] []
  refine iE 40 Z3 [(6,[.v (.nilIface)])] ?_
  cases c24
  ·replace hc24:=bf hc24
   refine iF (Ad (Ae (Af (Aa rfl (iQ 1 (jB .lss 3 (.int .i64 n) (.int .i64 0) 28 ?_))))))
   intro c28 hc28
   let Z4:=zT [(0,.d (.sl ((vs).length) (Aq (vs)))),(2,Ia n),(6,.p 6 0),(7,Ia k),(25,Ba false),(28,Ba c28)] []
   refine iE 40 Z4 [(6,[.v (.nilIface)])] ?_
   cases c28
   ·replace hc28:=bf hc28
    refine iF (Ad (Ae (Aa rfl (iQ 4 (jB .add 3 (.int .i64 k) (.int .i64 n) 37 ?_)))))
    intro z37 hz37
    try replace hz37:=hz37.i64 (by omega)
    have hz37:z37=j+n:=by omega
    refine Zq (l:=k) (u:=z37) (n:=((vs).length)) (cs:=(Aq (vs))) (z:=1) (m:=(((vs.drop j).take n.toNat).length)) (ds:=(Aq ((vs.drop j).take n.toNat))) (dst:=(some 38)) (by kernel_rfl) (by omega) (by simp;omega) (by rw[hk];simp[Ep,List.map_drop,List.map_take,List.take_take]) ?_
    refine eC 42 [.sl (((vs.drop j).take n.toNat).length) (Aq ((vs.drop j).take n.toNat))] 39 (Uj (by simp;omega)) (iQ 1 ?_)
    let Z5:=zT [(0,.d (.sl ((vs).length) (Aq (vs)))),(2,Ia n),(6,.p 6 0),(7,Ia k),(25,Ba false),(28,Ba false)] []
    let Z6:=zH [(6,[.bx (Fq ((vs.drop j).take n.toNat)).enc])] []
    refine iE 40 Z5 Z6 ?_
    refine Ab (iR (.agg [.bx (Fq ((vs.drop j).take n.toNat)).enc]) ?_)
    exact ⟨_,.inl rfl,by rw[a3x,hj];simp only;rw[if_neg (by omega),if_neg hc28]⟩
   ·replace hc28:=bt hc28
    refine iT (Aa rfl (iQ 2 (Zq (l:=k) (u:=((((vs).length:Nat):Int))) (n:=((vs).length)) (cs:=(Aq (vs))) (z:=1) (m:=((vs.drop j).length)) (ds:=(Aq (vs.drop j))) (dst:=(some 31)) (by kernel_rfl) (by omega) (by simp;omega) (by rw[hk];simp[Ep,List.map_drop,List.take_of_length_le]) ?_)))
    refine eC 42 [.sl ((vs.drop j).length) (Aq (vs.drop j))] 32 (Uj (by simp;omega)) (iQ 1 ?_)
    let Z7:=zT [(0,.d (.sl ((vs).length) (Aq (vs)))),(2,Ia n),(6,.p 6 0),(7,Ia k),(25,Ba false),(28,Ba true)] []
    refine iE 40 Z7 [(6,[.bx (Fq (vs.drop j)).enc])] ?_
    refine Ab (Ah (iR (.agg [.bx (Fq (vs.drop j)).enc]) ?_))
    exact ⟨_,.inl rfl,by rw[a3x,hj];simp only;rw[if_neg (by omega),if_pos hc28]⟩
  ·replace hc24:=bt hc24
   refine iT (Aa rfl (iQ 2 ?_))
   let Z8:=zT [(0,.d (.sl ((vs).length) (Aq (vs)))),(2,Ia n),(6,.p 6 0),(7,Ia k),(25,Ba true)] []
   refine iE 40 Z8 [(6,[.v (.nilIface)])] ?_
   refine Ab (Ah (iR (.agg [.v (.nilIface)]) ?_))
   exact ⟨.null,IsV.null,by rw[a3x,hj];simp only;rw[if_pos (by omega)]⟩
 ·replace hc17:=bt hc17
  refine iQ 7 ?_
  let Z9:=zT [(0,.d (.sl ((vs).length) (Aq (vs)))),(2,Ia n),(6,.p 6 0),(7,Ia k),(25,Ba true)] []
  refine iE 40 Z9 [(6,[.v (.nilIface)])] ?_
  refine iT (Aa rfl (iQ 2 (iE 40 Z9 [(6,[.v (.nilIface)])] ?_)))
  refine Ab (Ah (iR (.agg [.v (.nilIface)]) ?_))
  exact ⟨.null,IsV.null,by rw[a3x,(hq.2 (by simpa using hc17)).1]⟩
theorem b66 {vs:List Vl} {a n:Int} (hl:vs.length≤1073741824) (h0 : -9223372036854775808≤a) (h1:a≤9223372036854775807) (h2 : -9223372036854775808≤n) (h3:n≤9223372036854775807):HasC Tryz.prog 26 [.sl vs.length (Aq vs),.v (.int .i64 a),.v (.int .i64 n)] (fun r=>r=VV (a3x vs a n)):=(b6d hl h0 h1 h2 h3).isV.mono fun r ⟨v,e1,e2⟩=>by rw[e1,e2]
def a4k (vs:List Vl):Int:=vs.foldl (fun t v=>Ew t (Cf v)) 2
def a36 (vs:List Vl):Int:=vs.foldl (fun t v=>Dq (Ew (Dq t) (Dq (Cf v)))) 1
theorem Jp {f:Int→Vl→Int} {t:Int} {vs:List Vl} {k:Nat} {x:Vl} (h:vs[k]? = some x):(vs.take (k+1)).foldl f t=f ((vs.take k).foldl f t) x:=by
 rw[List.take_add_one,h]
 simp
theorem b5e {vs:List Vl} (hl:vs.length≤1073741824):HasC Tryz.prog 30 [.sl ((vs).length) (Aq (vs))] (fun r=>r=VV (Ea (a4k vs))):=by
 refine hO [] Tryz.f30 (fun a w=>Tryz.call30 a w) Tryz.func30 rfl (⟨_,rfl⟩) ?_
 refine Aa rfl (iQ 1 ?_)
 let Z1:=zT [(0,.d (.sl ((vs).length) (Aq (vs)))),(2,.p 2 0)] []
 refine iE 19 Z1 [(2,[.v (.nilIface)])] ?_
 refine Aa rfl (iQ 1 (iE 19 (zT [(3,Ia 2)] Z1) [(2,[.v (.nilIface)])] ?_))
 refine Af (Aa rfl (iQ 3 ?_))
 let Z2:=zT [(2,.p 2 0),(3,Ia 2),(6,.d (.sl ((vs).length) (Aq (vs)))),(7,Ia ((((vs).length:Nat):Int))),(8,Ia 0)] []
 refine iE 19 Z2 [(2,[.v (.nilIface)])] ?_
 refine An (Bp 19 (fun (vcx:Nat×Int×Int)=>match vcx with | (k,z,t)=>[(2,.p 2 0),(3,Ia t),(6,.d (.sl ((vs).length) (Aq (vs)))),(7,Ia ((((vs).length:Nat):Int))),(8,Ia z)]) (fun (vcx:Nat×Int×Int)=>match vcx with | (k,z,t)=>[(2,[.v (.nilIface)])]) (fun (vcx:Nat×Int×Int)=>match vcx with | (k,z,t)=>z=k∧k≤vs.length∧t=(vs.take k).foldl (fun t v=>Ew t (Cf v)) 2) (fun (vcx:Nat×Int×Int)=>match vcx with | (k,z,t)=>vs.length-k) ((0,0,2)) (⟨rfl,Nat.zero_le _,rfl⟩) (by kernel_rfl) (by kernel_rfl) ?_)
 rintro ⟨k,z,t⟩ hinv
 simp only at hinv
 obtain ⟨h1,h2,h3⟩:=hinv
 refine Aa rfl (jB .lss 3 (.int .i64 z) (.int .i64 ((((vs).length:Nat):Int))) 9 ?_)
 intro c9 hc9
 let Z3:=zT [(2,.p 2 0),(3,Ia t),(6,.d (.sl ((vs).length) (Aq (vs)))),(7,Ia ((((vs).length:Nat):Int))),(8,Ia z),(9,Ba c9)] []
 refine iE 19 Z3 [(2,[.v (.nilIface)])] ?_
 refine Af ?_
 cases c9
 ·replace hc9:=bf hc9
  rw[List.take_of_length_le (by omega)] at h3
  refine iF (Bk (Cj (Bt (Bl rfl (Ae (Aa rfl (iQ 1 (eC 53 [Iv t] 18 (Xo) (iQ 1 ?_)))))))))
  let Z4:=zT [(2,.p 2 0),(3,Ia t),(6,.d (.sl ((vs).length) (Aq (vs)))),(7,Ia ((((vs).length:Nat):Int))),(8,Ia z),(9,Ba false)] []
  refine iE 19 Z4 [(2,[.bx (Ea t).enc])] ?_
  refine Ab (iR (.agg [.bx (Ea t).enc]) ?_)
  rw[h3,a4k]
 ·replace hc9:=bt hc9
  obtain ⟨x,hx⟩ : ∃ x,vs[k]? = some x:=⟨_,List.getElem?_eq_getElem (by omega)⟩
  refine iT (Ad (Ae (Af (An (Aa rfl (Bj (q:=z) (n:=((vs).length)) (cs:=(Aq (vs))) (d:=.bx (x).enc) (dst:=(some 10)) (by kernel_rfl) (by omega) (by rw[h1,Int.toNat_natCast];exact Ek hx) ?_))))))
  refine iQ 3 ?_
  let Z5:=zT [(2,.p 2 0),(3,Ia t),(5,.p 5 0),(6,.d (.sl ((vs).length) (Aq (vs)))),(7,Ia ((((vs).length:Nat):Int))),(8,Ia z),(9,Ba true)] []
  refine iE 19 Z5 [(2,[.v (.nilIface)]),(5,[.bx (x).enc])] ?_
  refine Am rfl (iQ 2 (eC 29 [.agg [.bx (x).enc]] 14 (Ja (v:=x)) (eC 52 [Iv t,Iv (Cf x)] 15 (a78) (iQ 1 ?_))))
  let Z6:=zT [(2,.p 2 0),(3,Ia (Ew t (Cf x))),(5,.p 5 0),(6,.d (.sl ((vs).length) (Aq (vs)))),(7,Ia ((((vs).length:Nat):Int))),(8,Ia z),(9,Ba true)] []
  refine iE 19 Z6 [(2,[.v (.nilIface)]),(5,[.bx (x).enc])] ?_
  refine Ao (Ae (Am rfl (jB .add 3 (.int .i64 z) (.int .i64 1) 16 ?_)))
  intro z16 hz16
  try replace hz16:=hz16.i64 (by omega)
  refine iQ 1 ?_
  let Z7:=zT [(2,.p 2 0),(3,Ia (Ew t (Cf x))),(5,.p 5 0),(6,.d (.sl ((vs).length) (Aq (vs)))),(7,Ia ((((vs).length:Nat):Int))),(8,Ia z16),(9,Ba true)] []
  refine iE 19 Z7 [(2,[.v (.nilIface)]),(5,[.bx (x).enc])] ?_
  refine Be (k+1,z16,Ew t (Cf x)) (⟨by omega,by omega,by rw[Jp hx,← h3]⟩) (by simp only;omega) (by kernel_rfl) (by kernel_rfl)
theorem b7l {vs:List Vl} (hl:vs.length≤1073741824):HasC Tryz.prog 31 [.sl ((vs).length) (Aq (vs))] (fun r=>r=VV (Ea (a36 vs))):=by
 refine hO [] Tryz.f31 (fun a w=>Tryz.call31 a w) Tryz.func31 rfl (⟨_,rfl⟩) ?_
 refine Aa rfl (iQ 1 ?_)
 let Z1:=zT [(0,.d (.sl ((vs).length) (Aq (vs)))),(2,.p 2 0)] []
 refine iE 19 Z1 [(2,[.v (.nilIface)])] ?_
 refine Aa rfl (iQ 1 (iE 19 (zT [(3,Ia 1)] Z1) [(2,[.v (.nilIface)])] ?_))
 refine Af (Aa rfl (iQ 3 ?_))
 let Z2:=zT [(2,.p 2 0),(3,Ia 1),(6,.d (.sl ((vs).length) (Aq (vs)))),(7,Ia ((((vs).length:Nat):Int))),(8,Ia 0)] []
 refine iE 19 Z2 [(2,[.v (.nilIface)])] ?_
 refine An (Bp 19 (fun (vcx:Nat×Int×Int)=>match vcx with | (k,z,t)=>[(2,.p 2 0),(3,Ia t),(6,.d (.sl ((vs).length) (Aq (vs)))),(7,Ia ((((vs).length:Nat):Int))),(8,Ia z)]) (fun (vcx:Nat×Int×Int)=>match vcx with | (k,z,t)=>[(2,[.v (.nilIface)])]) (fun (vcx:Nat×Int×Int)=>match vcx with | (k,z,t)=>z=k∧k≤vs.length∧t=(vs.take k).foldl (fun t v=>Dq (Ew (Dq t) (Dq (Cf v)))) 1) (fun (vcx:Nat×Int×Int)=>match vcx with | (k,z,t)=>vs.length-k) ((0,0,1)) (⟨rfl,Nat.zero_le _,rfl⟩) (by kernel_rfl) (by kernel_rfl) ?_)
 rintro ⟨k,z,t⟩ hinv
 simp only at hinv
 obtain ⟨h1,h2,h3⟩:=hinv
 refine Aa rfl (jB .lss 3 (.int .i64 z) (.int .i64 ((((vs).length:Nat):Int))) 9 ?_)
 intro c9 hc9
 let Z3:=zT [(2,.p 2 0),(3,Ia t),(6,.d (.sl ((vs).length) (Aq (vs)))),(7,Ia ((((vs).length:Nat):Int))),(8,Ia z),(9,Ba c9)] []
 refine iE 19 Z3 [(2,[.v (.nilIface)])] ?_
 refine Af ?_
 cases c9
 ·replace hc9:=bf hc9
  rw[List.take_of_length_le (by omega)] at h3
  refine iF (Bk (Cj (Bt (Bl rfl (Ae (Aa rfl (iQ 1 (eC 53 [Iv t] 18 (Xo) (iQ 1 ?_)))))))))
  let Z4:=zT [(2,.p 2 0),(3,Ia t),(6,.d (.sl ((vs).length) (Aq (vs)))),(7,Ia ((((vs).length:Nat):Int))),(8,Ia z),(9,Ba false)] []
  refine iE 19 Z4 [(2,[.bx (Ea t).enc])] ?_
  refine Ab (iR (.agg [.bx (Ea t).enc]) ?_)
  rw[h3,a36]
 ·replace hc9:=bt hc9
  obtain ⟨x,hx⟩ : ∃ x,vs[k]? = some x:=⟨_,List.getElem?_eq_getElem (by omega)⟩
  refine iT (Ad (Ae (Af (An (Aa rfl (Bj (q:=z) (n:=((vs).length)) (cs:=(Aq (vs))) (d:=.bx (x).enc) (dst:=(some 10)) (by kernel_rfl) (by omega) (by rw[h1,Int.toNat_natCast];exact Ek hx) ?_))))))
  refine iQ 3 ?_
  let Z5:=zT [(2,.p 2 0),(3,Ia t),(5,.p 5 0),(6,.d (.sl ((vs).length) (Aq (vs)))),(7,Ia ((((vs).length:Nat):Int))),(8,Ia z),(9,Ba true)] []
  refine iE 19 Z5 [(2,[.v (.nilIface)]),(5,[.bx (x).enc])] ?_
  refine Am rfl (iQ 2 (eC 29 [.agg [.bx (x).enc]] 14 (Ja (v:=x)) (eC 54 [Iv t,Iv (Cf x)] 15 (b5q) (iQ 1 ?_))))
  let Z6:=zT [(3,Ia (Dq (Ew (Dq t) (Dq (Cf x)))))] []
  let Z7:=zT [(2,.p 2 0),(5,.p 5 0),(6,.d (.sl ((vs).length) (Aq (vs)))),(7,Ia ((((vs).length:Nat):Int))),(8,Ia z),(9,Ba true)] []
  refine iE 19 (zT Z7 Z6) [(2,[.v (.nilIface)]),(5,[.bx (x).enc])] ?_
  refine Ao (Ae (Am rfl (jB .add 3 (.int .i64 z) (.int .i64 1) 16 ?_)))
  intro z16 hz16
  try replace hz16:=hz16.i64 (by omega)
  refine iQ 1 ?_
  let Z8:=zT [(2,.p 2 0),(5,.p 5 0),(6,.d (.sl ((vs).length) (Aq (vs)))),(7,Ia ((((vs).length:Nat):Int))),(8,Ia z16),(9,Ba true)] []
  refine iE 19 (zT Z8 Z6) [(2,[.v (.nilIface)]),(5,[.bx (x).enc])] ?_
  refine Be (k+1,z16,Dq (Ew (Dq t) (Dq (Cf x)))) (⟨by omega,by omega,by rw[Jp hx,← h3]⟩) (by simp only;omega) (by kernel_rfl) (by kernel_rfl)
open Go.RowKit
set_option linter.unusedVariables false
set_option linter.unusedSimpArgs false
set_option maxRecDepth 100000
theorem Ds:HasC Tryz.prog 43 [.sl 0 []] (fun r=>r=.sl 0 []):=by
 have:=Lu (vs:=[]) (by decide)
 simpa [Aq] using this
theorem So {d:DV}:HasC Tryz.prog 41 [.agg [.ifc 110 (d)]] (fun r=>r=.tup [.sl 0 [],.v (.bool false)]):=by
 refine hO [] Tryz.f41 (fun a w=>Tryz.call41 a w) Tryz.func41 rfl (⟨_,rfl⟩) ?_
 refine Aa rfl (iQ 3 ?_)
 let Z1:=zT [(1,.p 1 0),(2,.w (.sl 0 []) none),(3,Ba false)] []
 refine iE 15 Z1 [(1,[.ifc 110 (d)])] ?_
 refine Aa rfl (iQ 8 ?_)
 let Z2:=zT [(2,.w (.sl 0 []) none),(3,Ba false),(4,.d (.sl 0 [])),(5,Ba false)] []
 refine iE 15 Z2 [] ?_
 refine Aa rfl (iQ 1 (eC 43 [.sl 0 []] 13 (Ds) (iQ 3 (iE 15 [(2,.d (.sl 0 ([]))),(3,Ba false)] [] ?_))))
 refine Ab (iS (.sl 0 ([])) (Bv false) [] ?_)
 rfl
theorem Ug {d:DV}:HasC Tryz.prog 41 [.agg [.ifc 102 (d)]] (fun r=>r=.tup [.sl 0 [],.v (.bool false)]):=by
 refine hO [] Tryz.f41 (fun a w=>Tryz.call41 a w) Tryz.func41 rfl (⟨_,rfl⟩) ?_
 refine Aa rfl (iQ 3 ?_)
 let Z1:=zT [(1,.p 1 0),(2,.w (.sl 0 []) none),(3,Ba false)] []
 refine iE 15 Z1 [(1,[.ifc 102 (d)])] ?_
 refine Aa rfl (iQ 8 ?_)
 let Z2:=zT [(2,.w (.sl 0 []) none),(3,Ba false),(4,.d (.sl 0 [])),(5,Ba false)] []
 refine iE 15 Z2 [] ?_
 refine Aa rfl (iQ 1 (eC 43 [.sl 0 []] 13 (Ds) (iQ 3 (iE 15 [(2,.d (.sl 0 ([]))),(3,Ba false)] [] ?_))))
 refine Ab (iS (.sl 0 ([])) (Bv false) [] ?_)
 rfl
theorem Sd {d:DV}:HasC Tryz.prog 41 [.agg [.ifc 150 (d)]] (fun r=>r=.tup [.sl 0 [],.v (.bool false)]):=by
 refine hO [] Tryz.f41 (fun a w=>Tryz.call41 a w) Tryz.func41 rfl (⟨_,rfl⟩) ?_
 refine Aa rfl (iQ 3 ?_)
 let Z1:=zT [(1,.p 1 0),(2,.w (.sl 0 []) none),(3,Ba false)] []
 refine iE 15 Z1 [(1,[.ifc 150 (d)])] ?_
 refine Aa rfl (iQ 8 ?_)
 let Z2:=zT [(2,.w (.sl 0 []) none),(3,Ba false),(4,.d (.sl 0 [])),(5,Ba false)] []
 refine iE 15 Z2 [] ?_
 refine Aa rfl (iQ 1 (eC 43 [.sl 0 []] 13 (Ds) (iQ 3 (iE 15 [(2,.d (.sl 0 ([]))),(3,Ba false)] [] ?_))))
 refine Ab (iS (.sl 0 ([])) (Bv false) [] ?_)
 rfl
theorem Ul {d:DV}:HasC Tryz.prog 41 [.agg [.ifc 152 (d)]] (fun r=>r=.tup [.sl 0 [],.v (.bool false)]):=by
 refine hO [] Tryz.f41 (fun a w=>Tryz.call41 a w) Tryz.func41 rfl (⟨_,rfl⟩) ?_
 refine Aa rfl (iQ 3 ?_)
 let Z1:=zT [(1,.p 1 0),(2,.w (.sl 0 []) none),(3,Ba false)] []
 refine iE 15 Z1 [(1,[.ifc 152 (d)])] ?_
 refine Aa rfl (iQ 8 ?_)
 let Z2:=zT [(2,.w (.sl 0 []) none),(3,Ba false),(4,.d (.sl 0 [])),(5,Ba false)] []
 refine iE 15 Z2 [] ?_
 refine Aa rfl (iQ 1 (eC 43 [.sl 0 []] 13 (Ds) (iQ 3 (iE 15 [(2,.d (.sl 0 ([]))),(3,Ba false)] [] ?_))))
 refine Ab (iS (.sl 0 ([])) (Bv false) [] ?_)
 rfl
theorem Rw {d:DV}:HasC Tryz.prog 41 [.agg [.ifc 154 (d)]] (fun r=>r=.tup [.sl 0 [],.v (.bool false)]):=by
 refine hO [] Tryz.f41 (fun a w=>Tryz.call41 a w) Tryz.func41 rfl (⟨_,rfl⟩) ?_
 refine Aa rfl (iQ 3 ?_)
 let Z1:=zT [(1,.p 1 0),(2,.w (.sl 0 []) none),(3,Ba false)] []
 refine iE 15 Z1 [(1,[.ifc 154 (d)])] ?_
 refine Aa rfl (iQ 8 ?_)
 let Z2:=zT [(2,.w (.sl 0 []) none),(3,Ba false),(4,.d (.sl 0 [])),(5,Ba false)] []
 refine iE 15 Z2 [] ?_
 refine Aa rfl (iQ 1 (eC 43 [.sl 0 []] 13 (Ds) (iQ 3 (iE 15 [(2,.d (.sl 0 ([]))),(3,Ba false)] [] ?_))))
 refine Ab (iS (.sl 0 ([])) (Bv false) [] ?_)
 rfl
theorem Vm {d:DV}:HasC Tryz.prog 41 [.agg [.ifc 156 (d)]] (fun r=>r=.tup [.sl 0 [],.v (.bool false)]):=by
 refine hO [] Tryz.f41 (fun a w=>Tryz.call41 a w) Tryz.func41 rfl (⟨_,rfl⟩) ?_
 refine Aa rfl (iQ 3 ?_)
 let Z1:=zT [(1,.p 1 0),(2,.w (.sl 0 []) none),(3,Ba false)] []
 refine iE 15 Z1 [(1,[.ifc 156 (d)])] ?_
 refine Aa rfl (iQ 8 ?_)
 let Z2:=zT [(2,.w (.sl 0 []) none),(3,Ba false),(4,.d (.sl 0 [])),(5,Ba false)] []
 refine iE 15 Z2 [] ?_
 refine Aa rfl (iQ 1 (eC 43 [.sl 0 []] 13 (Ds) (iQ 3 (iE 15 [(2,.d (.sl 0 ([]))),(3,Ba false)] [] ?_))))
 refine Ab (iS (.sl 0 ([])) (Bv false) [] ?_)
 rfl
theorem Rv {d:DV}:HasC Tryz.prog 41 [.agg [.ifc 158 (d)]] (fun r=>r=.tup [.sl 0 [],.v (.bool false)]):=by
 refine hO [] Tryz.f41 (fun a w=>Tryz.call41 a w) Tryz.func41 rfl (⟨_,rfl⟩) ?_
 refine Aa rfl (iQ 3 ?_)
 let Z1:=zT [(1,.p 1 0),(2,.w (.sl 0 []) none),(3,Ba false)] []
 refine iE 15 Z1 [(1,[.ifc 158 (d)])] ?_
 refine Aa rfl (iQ 8 ?_)
 let Z2:=zT [(2,.w (.sl 0 []) none),(3,Ba false),(4,.d (.sl 0 [])),(5,Ba false)] []
 refine iE 15 Z2 [] ?_
 refine Aa rfl (iQ 1 (eC 43 [.sl 0 []] 13 (Ds) (iQ 3 (iE 15 [(2,.d (.sl 0 ([]))),(3,Ba false)] [] ?_))))
 refine Ab (iS (.sl 0 ([])) (Bv false) [] ?_)
 rfl
theorem Ot {d:DV}:HasC Tryz.prog 41 [.agg [.ifc 159 (d)]] (fun r=>r=.tup [.sl 0 [],.v (.bool false)]):=by
 refine hO [] Tryz.f41 (fun a w=>Tryz.call41 a w) Tryz.func41 rfl (⟨_,rfl⟩) ?_
 refine Aa rfl (iQ 3 ?_)
 let Z1:=zT [(1,.p 1 0),(2,.w (.sl 0 []) none),(3,Ba false)] []
 refine iE 15 Z1 [(1,[.ifc 159 (d)])] ?_
 refine Aa rfl (iQ 8 ?_)
 let Z2:=zT [(2,.w (.sl 0 []) none),(3,Ba false),(4,.d (.sl 0 [])),(5,Ba false)] []
 refine iE 15 Z2 [] ?_
 refine Aa rfl (iQ 1 (eC 43 [.sl 0 []] 13 (Ds) (iQ 3 (iE 15 [(2,.d (.sl 0 ([]))),(3,Ba false)] [] ?_))))
 refine Ab (iS (.sl 0 ([])) (Bv false) [] ?_)
 rfl
theorem Va {d:DV}:HasC Tryz.prog 41 [.agg [.ifc 99 (d)]] (fun r=>r=.tup [.sl 0 [],.v (.bool false)]):=by
 refine hO [] Tryz.f41 (fun a w=>Tryz.call41 a w) Tryz.func41 rfl (⟨_,rfl⟩) ?_
 refine Aa rfl (iQ 3 ?_)
 let Z1:=zT [(1,.p 1 0),(2,.w (.sl 0 []) none),(3,Ba false)] []
 refine iE 15 Z1 [(1,[.ifc 99 (d)])] ?_
 refine Aa rfl (iQ 8 ?_)
 let Z2:=zT [(2,.w (.sl 0 []) none),(3,Ba false),(4,.d (.sl 0 [])),(5,Ba false)] []
 refine iE 15 Z2 [] ?_
 refine Aa rfl (iQ 1 (eC 43 [.sl 0 []] 13 (Ds) (iQ 3 (iE 15 [(2,.d (.sl 0 ([]))),(3,Ba false)] [] ?_))))
 refine Ab (iS (.sl 0 ([])) (Bv false) [] ?_)
 rfl
theorem Ue {d:DV}:HasC Tryz.prog 41 [.agg [.ifc 148 (d)]] (fun r=>r=.tup [.sl 0 [],.v (.bool false)]):=by
 refine hO [] Tryz.f41 (fun a w=>Tryz.call41 a w) Tryz.func41 rfl (⟨_,rfl⟩) ?_
 refine Aa rfl (iQ 3 ?_)
 let Z1:=zT [(1,.p 1 0),(2,.w (.sl 0 []) none),(3,Ba false)] []
 refine iE 15 Z1 [(1,[.ifc 148 (d)])] ?_
 refine Aa rfl (iQ 8 ?_)
 let Z2:=zT [(2,.w (.sl 0 []) none),(3,Ba false),(4,.d (.sl 0 [])),(5,Ba false)] []
 refine iE 15 Z2 [] ?_
 refine Aa rfl (iQ 1 (eC 43 [.sl 0 []] 13 (Ds) (iQ 3 (iE 15 [(2,.d (.sl 0 ([]))),(3,Ba false)] [] ?_))))
 refine Ab (iS (.sl 0 ([])) (Bv false) [] ?_)
 rfl
theorem Rz:HasC Tryz.prog 41 [.agg [.v (.nilIface)]] (fun r=>r=.tup [.sl 0 [],.v (.bool false)]):=by
 refine hO [] Tryz.f41 (fun a w=>Tryz.call41 a w) Tryz.func41 rfl (⟨_,rfl⟩) ?_
 refine Aa rfl (iQ 3 ?_)
 let Z1:=zT [(1,.p 1 0),(2,.w (.sl 0 []) none),(3,Ba false)] []
 refine iE 15 Z1 [(1,[.v (.nilIface)])] ?_
 refine Aa rfl (iQ 8 ?_)
 let Z2:=zT [(2,.w (.sl 0 []) none),(3,Ba false),(4,.d (.sl 0 [])),(5,Ba false)] []
 refine iE 15 Z2 [] ?_
 refine Aa rfl (iQ 1 (eC 43 [.sl 0 []] 13 (Ds) (iQ 3 (iE 15 [(2,.d (.sl 0 ([]))),(3,Ba false)] [] ?_))))
 refine Ab (iS (.sl 0 ([])) (Bv false) [] ?_)
 rfl
def Ro:Vl→Option (List Vl)
 | .list xs=>some xs
 | _=>none
theorem a2q {v:Vl} (h:Ro v=none):HasC Tryz.prog 41 [VV v] (fun r=>r=.tup [.sl 0 [],.v (.bool false)]):=by
 cases v
 case list xs=>cases h
 case null=>exact HasC.ub Rz
 case bool=>exact HasC.ub So
 case num=>exact HasC.ub Ug
 case text=>exact HasC.ub Sd
 case day=>exact HasC.ub Ul
 case time=>exact HasC.ub Rw
 case mom=>exact HasC.ub Vm
 case days=>exact HasC.ub Rv
 case months=>exact HasC.ub Ot
 case ctx=>exact HasC.ub Va
 case rng=>exact HasC.ub Ue
open Go.RowKit Go.Lib
set_option linter.unusedVariables false
set_option linter.unusedSimpArgs false
theorem b0k : ∃ info z,Tryz.prog.info? 36=some info∧info.size=1∧info.zero=some z∧info.bytes=16∧z.cells.size=1:=by
 obtain ⟨⟨info,z,h1,h2,h3,h4,h5,_⟩,_⟩:=Oo 36 ⟨.struct [(0,34)],1,[.v (.nilIface)],false,16⟩ (by kernel_rfl)
 exact ⟨info,z,h1,h2,h3,h5,by have:=congrArg List.length h4;simpa using this⟩
theorem Gs:Tryz.prog.underlying 30=some (.slice 36):=(Oo 30 ⟨.slice 36,1,[.sl 0 []],false,24⟩ (by kernel_rfl)).2.1
theorem Cs {w:World} {b b':Nat} {e:TypeId} {z:Nat} {v:Value} {n:Nat} {xs:List Value} (h:w.ownsRow b e z v n xs) (hb:b'≤b):w.ownsRow b' e z v n xs:=by
 refine ⟨h.1,h.2.imp id ?_⟩
 rintro ⟨g,cap,cur,h1,h2,h3⟩
 exact ⟨g,cap,cur,h1,Nat.le_trans hb h2,h3⟩
theorem a97 (w:World) (A:Option Addr) (l c:Nat):(binOp .eql 30 (.slice A l c) (.slice none 0 0)).run Tryz.prog w=.ok (.bool A.isNone) w:=by
 simp only[binOp]
 simp[run_equal_slice_nil w 30 36 A l c Gs]
theorem Hs {w:World} {o:Obj} {b k:Nat} {u:Value} (h:w.cell? ⟨b,k,none⟩=some u):(w.alloc o).cell? ⟨b,k,none⟩=some u :=
 (Bf (Below.heap_alloc w o b (block_lt_of_cell h))).trans h
set_option maxHeartbeats 4000000 in
set_option maxRecDepth 1000000 in
theorem Ok {w:World} {b o n cap:Nat} {ys:List Value} (hn:0<n) (hl:ys.length=n) (hc : ∀ (j:Nat) (u:Value),ys[j]? = some u→w.cell? ⟨b,o+j,none⟩=some u) (h1 : ∀ u ∈ ys,u.oneCell'=true) (hb:n≤1073741824) :
  Calls Tryz.prog 43 #[.slice (some ⟨b,o,none⟩) n cap] w fun e w' => ∃ v',e=.returned v'∧w'.ownsRow w.heap.size 36 1 v' n ys∧Below w.heap.size w w':=by
 obtain ⟨info,z,i1,i2,i3,i4,i5⟩:=b0k
 have hu:=Gs
 have HC:Hid _:=hc
 clear hc
 go_enter Tryz.func43,Tryz.ntmps43
 go_wp2_with fail
 simp only[a97,Result.andThen_ok]
 go_wp2_with (at_builtin;refine wpList_append_grows _ rfl _ _ 30 rfl 36 info z 1 16 hu i1 i3 i2 i4 i5 (by decide) (some _) 0 0 [] rfl (fun h=>by cases h) rfl (fun c _ j u hj=>by simp at hj) ⟨b,o,none⟩ n cap ys rfl (by omega) (fun j u hj=>by rw[Addr.add_lit];exact Hs (HC.out j u hj)) h1 (by omega) (by unfold maxLen;omega) (by omega) ?_)
 intro v' w' hr hg
 have HR:Hid _:=And.intro hr hg
 clear hr hg
 go_wp2_with fail
 go_ret
 exact ⟨v',rfl,Cs HR.out.1 (Nat.le_succ _),(Below.alloc (Below.refl _ w) (Nat.le_refl _) _).grown HR.out.2 (by simp) (fun k h=>by cases h)⟩
structure Own1 (w:World) (g n cap:Nat) (ys:List Value):Prop where
 len:ys.length=n
 cell : ∀ (j:Nat) (u:Value),ys[j]? = some u→w.cell? ⟨g,j,none⟩=some u
 some : ∀ j,j<cap→(w.cell? ⟨g,j,none⟩).isSome=true
 free : ∀ j,w.frozen? ⟨g,j,none⟩=false
 le:n≤cap
 max:cap≤maxLen
 lt:g<w.heap.size
theorem Mi {w:World} {base:Nat} {e:TypeId} {v:Value} {n:Nat} {ys:List Value} (h:w.ownsRow base e 1 v n ys) (h0:0<n) : ∃ g cap,v=.slice (some ⟨g,0,none⟩) n cap∧base≤g∧Own1 w g n cap ys ∧ ∃ cur,w.heap[g]? = some (.cells cur e (0,0))∧cur.size=cap:=by
 obtain ⟨hl,h⟩:=h
 rcases h with ⟨_,h⟩ | ⟨g,cap,cur,hv,hb,hg,hn,hm,hs,ht⟩
 ·omega
 rw[Nat.mul_one] at hl ht hs
 refine ⟨g,cap,hv,hb,⟨hl,fun j u hj => ?_,fun j hj => ?_,fun j => ?_,hn,hm,lt_of_block hg⟩,cur,hg,hs⟩
 ·rw[← ht] at hj
  have hj':cur.toList[j]? = some u:=by
   rw[List.getElem?_take] at hj
   split at hj
   ·exact hj
   ·cases hj
  simp[World.cell?,hg]
  simpa using hj'
 ·simp[World.cell?,hg]
  omega
 ·simp[World.frozen?,hg]
set_option maxHeartbeats 4000000 in
set_option maxRecDepth 1000000 in
theorem Wx {w:World} {g n cap i vb:Nat} {ys:List Value} {y:Value} {tA tB:TypeId} {kB:Nat} (O:Own1 w g n cap ys) (hi:i<n) (hroom:n+1≤cap) (hvb:vb≠g) (hv:w.cell? ⟨vb,0,none⟩=some y) (h1 : ∀ u ∈ ys,u.oneCell'=true) (h1y:y.oneCell'=true)
  (hsa:w.shape? vb=some (tA,1)) (hsb:w.shape? g=some (tB,kB)) (hkB:kB≠0) (hfa:w.frozen? ⟨vb,0,none⟩=false) (hfe:w.frozen? ⟨vb,1,none⟩=false) :
  Calls Tryz.prog 48 #[.slice (some ⟨g,0,none⟩) n cap,.int .i64 i,.slice (some ⟨vb,0,none⟩) 1 1] w fun e w'=>e=.returned (.slice (some ⟨g,0,none⟩) (n+1) cap)∧w'=(w.drew.setCells g (i+1) (ys.drop i)).setCells g i [y]:=by
 obtain ⟨info,z,i1,i2,i3,i4,i5⟩:=b0k
 have hu:=Gs
 obtain ⟨hcl,hcs,hsp,hfz,hle,hmax,hlt⟩:=O
 have hc63:cap≤9223372036854775807:=by unfold maxLen at hmax;omega
 have hsz:(Tryz.prog.info? 36).map (·.size)=some 1:=by rw[i1];simp[i2]
 have hov : ∀ lb cb,(callFunc 68 #[.slice (some ⟨vb,0,none⟩) 1 1,.slice (some ⟨g,i+1,none⟩) lb cb]).run Tryz.prog w=.ok (.value (.bool false)) w:=fun lb cb=>by
  rw[run_callFunc_extern Tryz.func68 (by kernel_rfl) (by kernel_rfl) (by kernel_rfl) (e:=Extern.SlicesOverlaps.overlaps #[30,30] #[4]) (by kernel_rfl),
   Lib.run_overlaps_apart w 30 4 36 Gs 1 (fun w=>by simp[Go.sizeOf,typeInfo,i1,i2]) ⟨vb,0,none⟩ ⟨g,i+1,none⟩ 1 1 lb cb hvb tA tB 1 kB hsa hsb hkB hfa hfe]
  rfl
 have hdl:(ys.drop i).length=n-i:=by rw[List.length_drop,hcl]
 have hcp1 : ∀ ty dc sc,(Builtin.copy_ #[30,30] ty #[.slice (some ⟨g,i+1,none⟩) (n-i) dc,.slice (some ⟨g,i,none⟩) (n+1-i) sc]).run Tryz.prog w.drew=.ok (goInt (ys.drop i).length) (w.drew.setCells g (i+1) (ys.drop i)):=fun ty dc sc =>
  run_copy_cells w.drew _ _ ty 36 g (i+1) (n-i) dc ⟨g,i,none⟩ (n+1-i) sc (ys.drop i) Gs hsz (by rw[hdl];simp only[Nat.min_def];split<;>omega)
   (fun j v hj=>by rw[Addr.add_lit];exact hcs (i+j) v (by rwa[List.getElem?_drop] at hj))
   (fun j hj=>hsp _ (by omega)) (fun j hj=>hfz _) (fun v hv=>h1 v (List.mem_of_mem_drop hv))
 obtain ⟨W1,hW1⟩ : ∃ W1,W1=w.drew.setCells g (i+1) (ys.drop i):=⟨_,rfl⟩
 have hsp1 : ∀ k,k<cap→(W1.cell? ⟨g,k,none⟩).isSome=true:=fun k hk=>by
  rw[hW1]
  exact isSome_setCells g (ys.drop i) (i+1) w.drew (fun j hj=>hsp (i+1+j) (by rw[hdl] at hj;omega)) k (hsp k hk)
 have hcp2 : ∀ (W:World),(∀ x,W.cell? x=W1.cell? x)→(∀ x,W.frozen? x=W1.frozen? x) → ∀ ty dc,(Builtin.copy_ #[30,30] ty #[.slice (some ⟨g,i,none⟩) (n+1-i) dc,.slice (some ⟨vb,0,none⟩) 1 1]).run Tryz.prog W=.ok (goInt ([y]:List Value).length) (W.setCells g i [y]):=fun W hWc hWf ty dc =>
  run_copy_cells W _ _ ty 36 g i (n+1-i) dc ⟨vb,0,none⟩ 1 1 [y] Gs hsz (by simp only[Nat.min_def,List.length_cons,List.length_nil];split<;>omega)
   (fun j v hj=>by
    rw[Addr.add_lit,hWc,hW1,World.cell?_setCells_out g _ _ _ _ (fun h _=>absurd h hvb)]
    cases j with
    | zero=>cases hj;exact hv
    | succ j=>simp at hj)
   (fun j hj=>by rw[hWc];exact hsp1 _ (by simp at hj;omega)) (fun j hj=>by rw[hWf,hW1,World.frozen?_setCells];exact hfz _) (fun v hv=>by rw[List.mem_singleton.1 hv];exact h1y)
 rw[← hW1] at hcp1
 have hmx:=mixed
 have hi' : ¬ ((i:Int)=(n:Int)):=by omega
 have hw1:IntKind.i64.wrap ((i:Int)+1)=(i:Int)+1:=by rw[IntKind.wrap_i64];unfold maxLen at hmax;omega
 have hw2:IntKind.i64.wrap ((n:Int)+1)=(n:Int)+1:=by rw[IntKind.wrap_i64];unfold maxLen at hmax;omega
 have hb1:(0:Int)≤(i:Int)+1:=by omega
 have hin:i≤n:=by omega
 have htn:((i:Int)+1).toNat=i+1:=by omega
 have htm:((n:Int)+1).toNat=n+1:=by omega
 have hb2 : ¬ (cap=i+1):=by omega
 have hb3:(i:Int)≤(n:Int)+1:=by omega
 have hb4 : ¬ (cap=i):=by omega
 have hb5 : ¬ ((cap:Int)<(n:Int)+1):=by omega
 have hb6:(n:Int)+1≤(cap:Int):=by omega
 clear hcs hsp hfz hsp1
 go_enter Tryz.func48,Tryz.ntmps48
 go_wp2_with (simp only[hov])
 go_region_law_o (refine step_copy_runI rfl _ _ 30 30 rfl _ _ (by simp[Act.eval,Act.put]) (by simp[Act.eval,Act.put]) (hcp1 _ _ _) ?_)
 go_wp2_with (at_builtin;refine wpList_copy_runI _ rfl _ _ 30 30 rfl _ _ rfl rfl (hcp2 _ (fun _=>rfl) (fun _=>rfl) _ _) ?_)
 go_ret
 exact ⟨rfl,rfl⟩
abbrev Kz (z:Value) (ys:List Value) (i n G:Nat):Array Value:=(ys.take i).toArray ++ Builtin.zeroCells z.cells (n+1-i) ++ Builtin.zeroCells z.cells (G-(n+1))
set_option maxHeartbeats 4000000 in
set_option maxRecDepth 1000000 in
theorem Yg {w:World} {g n cap i vb:Nat} {ys:List Value} {y:Value} (O:Own1 w g n cap ys) (hi:i<n) (hroom:cap<n+1) (hb:n≤1073741824) (hv:w.cell? ⟨vb,0,none⟩=some y) (h1 : ∀ u ∈ ys,u.oneCell'=true) (h1y:y.oneCell'=true) :
  ∃ z,z.cells.size=1∧Calls Tryz.prog 48 #[.slice (some ⟨g,0,none⟩) n cap,.int .i64 i,.slice (some ⟨vb,0,none⟩) 1 1] w fun e w'=>e=.returned (.slice (some ⟨w.heap.size,0,none⟩) (n+1) (grownCap w (n+1) cap 36)) ∧
   w'=(((w.alloc (.cells (Kz z ys i n (grownCap w (n+1) cap 36)) 36)).drew.setCells w.heap.size i [y]).drew).setCells w.heap.size (i+1) (ys.drop i):=by
 obtain ⟨info,z,i1,i2,i3,i4,i5⟩:=b0k
 refine ⟨z,i5,?_⟩
 have hu:=Gs
 obtain ⟨hcl,hcs,hsp,hfz,hle,hmax,hlt⟩:=O
 have hsz:(Tryz.prog.info? 36).map (·.size)=some 1:=by rw[i1];simp[i2]
 have hvw:vb<w.heap.size:=block_lt_of_cell hv
 have hkk:(n:Int)+1-(i:Int)=((n+1-i:Nat):Int):=by omega
 have hik:i+(n+1-i)=n+1:=by omega
 have hold:(Builtin.firstCells info.size i (.slice (some ⟨g,0,none⟩) i cap)).run Tryz.prog w.drew=.ok (ys.take i).toArray w.drew:=by
  rw[i2]
  exact run_firstCells_some w.drew 1 i ⟨g,0,none⟩ i cap (ys.take i) (by rw[List.length_take];omega) (fun j v hj=>by
   rw[Addr.add_lit]
   rw[List.getElem?_take] at hj
   split at hj
   ·rw[Nat.zero_add];exact hcs j v hj
   ·cases hj)
 have hrz : ∀ ty,(Builtin.append_ #[30,3] ty #[.slice (some ⟨g,0,none⟩) i cap,.int .i64 ((n:Int)+1-(i:Int))]).run Tryz.prog w =
   .ok (.slice (some ⟨w.heap.size,0,none⟩) (n+1) (grownCap w (n+1) cap 36)) (w.drew.alloc (.cells (Kz z ys i n (grownCap w (n+1) cap 36)) 36)):=fun ty=>by
  have h:=Lib.run_append_grow_zeros w 30 3 ty 36 info z .i64 .i64 Gs (Oo 3 ⟨.int .i64,1,[.v (.int .i64 0)],false,8⟩ (by kernel_rfl)).2.1 i1 i3 (some ⟨g,0,none⟩) i cap (ys.take i) hold (n+1-i) (by omega) (by omega) (by omega) (by omega) (by rw[i4];omega) (by rw[i4,hik];exact growslice_fits hroom (by omega))
  rw[hik] at h
  rw[hkk]
  exact h
 obtain ⟨G,hG⟩ : ∃ G,G=grownCap w (n+1) cap 36:=⟨_,rfl⟩
 rw[← hG] at hrz ⊢
 obtain ⟨ROW,hROW⟩ : ∃ ROW:Array Value,ROW=Kz z ys i n G:=⟨_,rfl⟩
 rw[← hROW] at hrz ⊢
 have hRl:n+1≤ROW.size:=by
  rw[hROW]
  simp[Kz,Builtin.zeroCells,i5]
  omega
 obtain ⟨W1,hW1⟩ : ∃ W1,W1=w.drew.alloc (.cells ROW 36):=⟨_,rfl⟩
 rw[← hW1] at hrz
 have hN : ∀ j,j<n+1→(W1.cell? ⟨w.heap.size,j,none⟩).isSome=true:=fun j hj=>by
  rw[hW1,World.cell?_alloc_at (w:=w.drew) ROW _ w.heap.size j rfl,Array.getElem?_eq_getElem (by omega)];rfl
 have hNf : ∀ j,W1.frozen? ⟨w.heap.size,j,none⟩=false:=fun j=>by rw[hW1];exact World.frozen?_alloc_at (w:=w.drew) ROW _ w.heap.size j rfl
 have hOb : ∀ j v,w.cell? ⟨g,j,none⟩=some v→W1.cell? ⟨g,j,none⟩=some v:=fun j v h=>by rw[hW1,World.cell?_alloc_past (w:=w.drew) _ g j hlt];exact h
 have hOv : ∀ j v,w.cell? ⟨vb,j,none⟩=some v→W1.cell? ⟨vb,j,none⟩=some v:=fun j v h=>by rw[hW1,World.cell?_alloc_past (w:=w.drew) _ vb j hvw];exact h
 have hcpA : ∀ (W:World),(∀ x,W.cell? x=W1.cell? x)→(∀ x,W.frozen? x=W1.frozen? x) → ∀ ty dc,(Builtin.copy_ #[30,30] ty #[.slice (some ⟨w.heap.size,i,none⟩) (n+1-i) dc,.slice (some ⟨vb,0,none⟩) 1 1]).run Tryz.prog W=.ok (goInt ([y]:List Value).length) (W.setCells w.heap.size i [y]):=fun W hWc hWf ty dc =>
  run_copy_cells W _ _ ty 36 w.heap.size i (n+1-i) dc ⟨vb,0,none⟩ 1 1 [y] Gs hsz (by simp only[Nat.min_def,List.length_cons,List.length_nil];split<;>omega)
   (fun j v hj=>by
    rw[Addr.add_lit,hWc]
    cases j with
    | zero=>cases hj;exact hOv _ _ hv
    | succ j=>simp at hj)
   (fun j hj=>by rw[hWc];exact hN _ (by simp at hj;omega)) (fun j hj=>by rw[hWf];exact hNf _) (fun v hv=>by rw[List.mem_singleton.1 hv];exact h1y)
 have hGn:n+1≤G:=by rw[hG];exact grownCap_ge w _ _ _
 have hG63:G≤9223372036854775807:=by
  have:=grownCap_le_maxLen w (n+1) cap 36 (by unfold maxLen;omega)
  rw[← hG] at this
  unfold maxLen at this
  omega
 have hGi : ¬ (G=i):=by omega
 have hGim : ¬ (G=i+1):=by omega
 have hci : ¬ (cap=i):=by omega
 have hbN:g≠w.heap.size:=by omega
 have hdl:(ys.drop i).length=n-i:=by rw[List.length_drop,hcl]
 have hcpB : ∀ (W:World),(∀ x,W.cell? x=(W1.setCells w.heap.size i [y]).cell? x)→(∀ x,W.frozen? x=(W1.setCells w.heap.size i [y]).frozen? x) → ∀ ty dc sc,(Builtin.copy_ #[30,30] ty #[.slice (some ⟨w.heap.size,i+1,none⟩) (n-i) dc,.slice (some ⟨g,i,none⟩) (n-i) sc]).run Tryz.prog W=.ok (goInt (ys.drop i).length) (W.setCells w.heap.size (i+1) (ys.drop i)):=fun W hWc hWf ty dc sc =>
  run_copy_cells W _ _ ty 36 w.heap.size (i+1) (n-i) dc ⟨g,i,none⟩ (n-i) sc (ys.drop i) Gs hsz (by rw[hdl];simp only[Nat.min_def];split<;>omega)
   (fun j v hj=>by
    rw[Addr.add_lit,hWc,World.cell?_setCells_out _ _ _ _ _ (fun h _=>absurd h hbN)]
    exact hOb _ v (hcs (i+j) v (by rwa[List.getElem?_drop] at hj)))
   (fun j hj=>by rw[hWc];exact isSome_setCells w.heap.size [y] i W1 (fun t ht=>hN _ (by simp at ht;omega)) _ (hN _ (by rw[hdl] at hj;omega)))
   (fun j hj=>by rw[hWf,World.frozen?_setCells];exact hNf _) (fun v hv=>h1 v (List.mem_of_mem_drop hv))
 subst hW1
 have hE1 : ∀ x,((w.alloc (.cells ROW 36)).drew).cell? x=(w.drew.alloc (.cells ROW 36)).cell? x:=fun x=>rfl
 have hE2 : ∀ x,((w.alloc (.cells ROW 36)).drew).frozen? x=(w.drew.alloc (.cells ROW 36)).frozen? x:=fun x=>rfl
 have hF1 : ∀ x,(((w.alloc (.cells ROW 36)).drew.setCells w.heap.size i [y]).drew).cell? x=((w.drew.alloc (.cells ROW 36)).setCells w.heap.size i [y]).cell? x:=fun x=>rfl
 have hF2 : ∀ x,(((w.alloc (.cells ROW 36)).drew.setCells w.heap.size i [y]).drew).frozen? x=((w.drew.alloc (.cells ROW 36)).setCells w.heap.size i [y]).frozen? x:=fun x=>rfl
 have hmx:=mixed
 have hi' : ¬ ((i:Int)=(n:Int)):=by omega
 have hw1:IntKind.i64.wrap ((i:Int)+1)=(i:Int)+1:=by rw[IntKind.wrap_i64];omega
 have hw2:IntKind.i64.wrap ((n:Int)+1)=(n:Int)+1:=by rw[IntKind.wrap_i64];omega
 have hw3:IntKind.i64.wrap ((n:Int)+1-(i:Int))=(n:Int)+1-(i:Int):=by rw[IntKind.wrap_i64];omega
 have hb1:(0:Int)≤(i:Int)+1:=by omega
 have hin:i≤n:=by omega
 have hin1:(i:Int)≤(n:Int)+1:=by omega
 have htn:((i:Int)+1).toNat=i+1:=by omega
 have hb3:(i:Int)≤(n:Int):=by omega
 have hb4:(cap:Int)<(n:Int)+1:=by omega
 clear hkk hik hold hROW hG hRl hcs hsp hfz
 go_enter Tryz.func48,Tryz.ntmps48
 go_wp2_with (first
  | (at_builtin;refine Lib.wpList_append_run _ rfl _ _ _ _ rfl _ _ rfl rfl _ _ (hrz _) ?_)
  | (at_builtin;refine wpList_copy_runI _ rfl _ _ 30 30 rfl _ _ rfl rfl (hcpA _ hE1 hE2 _ _) ?_)
  | (at_builtin;refine wpList_copy_runI _ rfl _ _ 30 30 rfl _ _ rfl rfl (hcpB _ (fun _=>rfl) (fun _=>rfl) _ _ _) ?_))
 go_region_law_o (refine step_copy_runI rfl _ _ 30 30 rfl (.slice (some ⟨w.heap.size,i+1,none⟩) (n-i) (G-(i+1))) (.slice (some ⟨g,i,none⟩) (n-i) (cap-i)) (by simp[Act.eval,Act.put]) (by simp[Act.eval,Act.put]) (hcpB _ hF1 hF2 3 (G-(i+1)) (cap-i)) ?_)
 go_wp2
 go_ret
 exact ⟨rfl,rfl⟩
open Go.RowKit Go.Lib
set_option linter.unusedVariables false
set_option linter.unusedSimpArgs false
theorem Jr {Im:Nat→Nat→Prop} {W:World} {n:Nat} {cs:List DV} {y:Value} (h:DV.rel Im W (.sl n cs) y) : ∃ A cap,y=.slice A n cap:=by
 rw[DV.rel] at h
 rcases h with ⟨A,h,h2,_⟩ | ⟨b,o,cap,h,_⟩
 ·subst h2;exact ⟨A,_,h⟩
 ·exact ⟨_,_,h⟩
structure Cells (Im:Nat→Nat→Prop) (W:World) (vs:List Vl) (ys:List Value):Prop where
 len:ys.length=vs.length
 rel : ∀ (j:Nat) (v:Vl),vs[j]? = some v → ∃ u,ys[j]? = some u∧DV.rel Im W (BV v) u
 one : ∀ u ∈ ys,u.oneCell'=true
theorem Ju {Im:Nat→Nat→Prop} {W:World} {vs:List Vl} {A:Option Addr} {cap:Nat} (h:DV.rel Im W (.sl vs.length (Aq vs)) (.slice A vs.length cap)) (h0:0<vs.length) :
  ∃ b o ys,A=some ⟨b,o,none⟩∧Cells Im W vs ys∧(∀ (j:Nat) (u:Value),ys[j]? = some u→W.cell? ⟨b,o+j,none⟩=some u) ∧ ∀ j,j<vs.length→Im b (o+j):=by
 rw[DV.rel] at h
 rcases h with ⟨A',h,h2,_⟩ | ⟨b,o,cap',h,_,_,hC⟩
 ·omega
 cases h
 have key : ∀ (j:Nat) (v:Vl),vs[j]? = some v → ∃ u,W.cell? ⟨b,o+j,none⟩=some u∧DV.rel Im W (BV v) u:=fun j v hj=>by
  obtain ⟨_,u,hu,hr⟩:=DV.relC_get hC (Ek hj)
  exact ⟨u,hu,hr⟩
 have hget : ∀ (j:Nat),j<vs.length→((List.range vs.length).map fun j=>(W.cell? ⟨b,o+j,none⟩).getD undef)[j]? = some ((W.cell? ⟨b,o+j,none⟩).getD undef):=fun j hj=>by
  rw[List.getElem?_map,List.getElem?_range hj];rfl
 have hlen:((List.range vs.length).map fun j=>(W.cell? ⟨b,o+j,none⟩).getD undef).length=vs.length:=by simp
 refine ⟨b,o,(List.range vs.length).map fun j=>(W.cell? ⟨b,o+j,none⟩).getD undef,rfl,⟨hlen,fun j v hj => ?_,fun u hu => ?_⟩,fun j u hj => ?_,fun j hj=>(DV.relC_get hC (Ek (List.getElem?_eq_getElem hj))).1⟩
 ·obtain ⟨u,hu,hr⟩:=key j v hj
  exact ⟨u,by rw[hget j (List.getElem?_eq_some_iff.1 hj).1,hu];rfl,hr⟩
 ·obtain ⟨j,hj,e⟩:=List.getElem_of_mem hu
  have hj':j<vs.length:=by rw[hlen] at hj;exact hj
  obtain ⟨u',hu',hr⟩:=key j _ (List.getElem?_eq_getElem hj')
  have e2:=hget j hj'
  rw[List.getElem?_eq_getElem hj,e,hu'] at e2
  rw[DV.rel] at hr
  rw[show u=u' from Option.some.inj e2]
  exact hr.1
 ·have hj':j<vs.length:=by have:=(List.getElem?_eq_some_iff.1 hj).1;rw[hlen] at this;exact this
  obtain ⟨u',hu',_⟩:=key j _ (List.getElem?_eq_getElem hj')
  rw[hget j hj',hu'] at hj
  rw[hu']
  exact hj
theorem a8r {Im:Nat→Nat→Prop} {W:World} {vs:List Vl} {A:Option Addr} {cap:Nat} (h:DV.rel Im W (.sl vs.length (Aq vs)) (.slice A vs.length cap)) (h0:0<vs.length) :
  ∃ b o ys,A=some ⟨b,o,none⟩∧Cells Im W vs ys ∧ ∀ (j:Nat) (u:Value),ys[j]? = some u→W.cell? ⟨b,o+j,none⟩=some u:=by
 obtain ⟨b,o,ys,h1,h2,h3,_⟩:=Ju h h0
 exact ⟨b,o,ys,h1,h2,h3⟩
theorem Cells.mono {Im Im':Nat→Nat→Prop} {W W':World} {vs:List Vl} {ys:List Value} (h:Cells Im W vs ys) (hi : ∀ b o,Im b o→Im' b o) (hc : ∀ b o,Im b o→W'.cell? ⟨b,o,none⟩=W.cell? ⟨b,o,none⟩):Cells Im' W' vs ys :=
 ⟨h.len,fun j v hj=>(h.rel j v hj).imp fun u hu=>⟨hu.1,DV.rel_mono hi hc _ _ hu.2⟩,h.one⟩
theorem Cells.sl {Im:Nat→Nat→Prop} {W:World} {vs:List Vl} {ys:List Value} {b cap:Nat} (h:Cells (fun g o=>Im g o∨g=b) W vs ys) (hc : ∀ (j:Nat) (u:Value),ys[j]? = some u→W.cell? ⟨b,j,none⟩=some u) (h1:vs.length≤cap) (h2:cap≤maxLen) :
  DV.rel (fun g o=>Im g o∨g=b) W (.sl vs.length (Aq vs)) (.slice (some ⟨b,0,none⟩) vs.length cap):=by
 rw[DV.rel]
 refine .inr ⟨b,0,cap,rfl,h1,h2,DV.relC_mk fun j x hx=>⟨.inr rfl,?_⟩⟩
 rw[Ep,List.getElem?_map] at hx
 cases hv:vs[j]? with
 | none=>rw[hv] at hx;cases hx
 | some v =>
  rw[hv] at hx
  cases hx
  obtain ⟨u,hu,hr⟩:=h.rel j v hv
  exact ⟨u,by rw[Nat.zero_add];exact hc j u hu,hr⟩
def He {α:Type} (vs:List α) (k:Nat) (x:α):List α:=vs.take k ++ x::vs.drop k
theorem Lg {α:Type} {vs:List α} {k:Nat} {x:α} (h:k≤vs.length):(He vs k x).length=vs.length+1:=by simp[He];omega
theorem a13 {α:Type} {vs:List α} {k j:Nat} {x:α} (hk:k≤vs.length) (h:j<k):(He vs k x)[j]? = vs[j]? := by
 rw[He,List.getElem?_append_left (by simp;omega),List.getElem?_take,if_pos h]
theorem a1g {α:Type} {vs:List α} {k:Nat} {x:α} (hk:k≤vs.length):(He vs k x)[k]? = some x:=by
 rw[He,List.getElem?_append_right (by rw[List.length_take];omega),List.length_take,Nat.min_eq_left hk,Nat.sub_self]
 rfl
theorem a1d {α:Type} {vs:List α} {k j:Nat} {x:α} (hk:k≤vs.length) (h:k≤j):(He vs k x)[j+1]? = vs[j]? := by
 rw[He,List.getElem?_append_right (by simp;omega),List.length_take,Nat.min_eq_left hk,show j+1-k=(j-k)+1 by omega,List.getElem?_cons_succ,List.getElem?_drop,show k+(j-k)=j by omega]
theorem Cells.ins {Im:Nat→Nat→Prop} {W:World} {vs:List Vl} {ys:List Value} {k:Nat} {x:Vl} {y:Value} (h:Cells Im W vs ys) (hk:k<vs.length) (hx:DV.rel Im W (BV x) y) (h1:y.oneCell'=true):Cells Im W (He vs k x) (He ys k y):=by
 have hl:=h.len
 refine ⟨by rw[Lg (by omega),Lg (by omega),hl],fun j v hj => ?_,fun u hu => ?_⟩
 ·rcases Nat.lt_trichotomy j k with q | q | q
  ·rw[a13 (by omega) q] at hj ⊢
   exact h.rel j v hj
  ·subst q
   rw[a1g (by omega)] at hj ⊢
   cases hj
   exact ⟨y,rfl,hx⟩
  ·obtain ⟨i,rfl⟩ : ∃ i,j=i+1:=⟨j-1,by omega⟩
   rw[a1d (by omega) (by omega)] at hj ⊢
   exact h.rel i v hj
 ·rw[He] at hu
  rcases List.mem_append.1 hu with q | q
  ·exact h.one u (List.mem_of_mem_take q)
  ·rcases List.mem_cons.1 q with q | q
   ·rw[q];exact h1
   ·exact h.one u (List.mem_of_mem_drop q)
theorem Df {B:Nat} {a:World} {b:Nat} (hb:B≤b) : ∀ (vs:List Value) (o:Nat) (w:World),Below B a w→Below B a (w.setCells b o vs)
 | [],_,_,h=>h
 | v::vs,o,w,h=>by
  rw[World.setCells]
  exact Df hb vs _ _ (h.setCell hb v)
theorem Dr {b:Nat} : ∀ (vs:List Value) (o:Nat) (w:World),(w.setCells b o vs).heap.size=w.heap.size
 | [],_,_=>rfl
 | v::vs,o,w=>by rw[World.setCells,Dr vs];simp[World.setCell]
structure InsR (w:World) (base:Nat) (zs:List Value) (e:Ending) (w':World):Prop where
 h : ∃ g' cap',e=.returned (.slice (some ⟨g',0,none⟩) zs.length cap')∧base≤g'∧zs.length≤cap'∧cap'≤maxLen∧g'<w'.heap.size ∧ ∀ (j:Nat) (u:Value),zs[j]? = some u→w'.cell? ⟨g',j,none⟩=some u
 below:Below base w w'
theorem Uh {w:World} {base g n cap i vb:Nat} {ys:List Value} {y:Value} {tA tB:TypeId} {kB:Nat} (O:Own1 w g n cap ys) (hi:i<n) (hb:n≤1073741824) (hbase:base≤g) (hvb:vb≠g) (hv:w.cell? ⟨vb,0,none⟩=some y) (h1 : ∀ u ∈ ys,u.oneCell'=true) (h1y:y.oneCell'=true)
  (hsa:w.shape? vb=some (tA,1)) (hsb:w.shape? g=some (tB,kB)) (hkB:kB≠0) (hfa:w.frozen? ⟨vb,0,none⟩=false) (hfe:w.frozen? ⟨vb,1,none⟩=false) :
  Calls Tryz.prog 48 #[.slice (some ⟨g,0,none⟩) n cap,.int .i64 i,.slice (some ⟨vb,0,none⟩) 1 1] w (InsR w base (He ys i y)):=by
 have hl:(He ys i y).length=n+1:=by rw[Lg (by rw[O.len];omega),O.len]
 have hd:(ys.drop i).length=n-i:=by rw[List.length_drop,O.len]
 have spl : ∀ (j:Nat) (u:Value),(He ys i y)[j]? = some u→(j<i∧ys[j]? = some u)∨(j=i∧u=y) ∨ ∃ q,j=i+1+q∧(ys.drop i)[q]? = some u:=fun j u hj=>by
  rcases Nat.lt_trichotomy j i with q | q | q
  ·rw[a13 (by rw[O.len];omega) q] at hj;exact .inl ⟨q,hj⟩
  ·subst q
   rw[a1g (by rw[O.len];omega)] at hj
   exact .inr (.inl ⟨rfl,(Option.some.inj hj).symm⟩)
  ·obtain ⟨k,rfl⟩ : ∃ k,j=k+1:=⟨j-1,by omega⟩
   rw[a1d (by rw[O.len];omega) (by omega)] at hj
   exact .inr (.inr ⟨k-i,by omega,by rw[List.getElem?_drop,show i+(k-i)=k by omega];exact hj⟩)
 by_cases hroom:n+1≤cap
 ·refine (Wx O hi hroom hvb hv h1 h1y hsa hsb hkB hfa hfe).mono ?_
  rintro e w' ⟨rfl,rfl⟩
  have hs1 : ∀ j,j<(ys.drop i).length→(w.drew.cell? ⟨g,i+1+j,none⟩).isSome=true:=fun j hj=>O.some _ (by rw[hd] at hj;omega)
  refine ⟨⟨g,cap,by rw[hl],hbase,by rw[hl];exact hroom,O.max,by rw[Dr,Dr];exact O.lt,fun j u hj => ?_⟩,Df hbase _ _ _ (Df hbase _ _ _ (Below.refl base w).drew)⟩
  rcases spl j u hj with ⟨q,hq⟩ | ⟨q,rfl⟩ | ⟨q,rfl,hq⟩
  ·rw[World.cell?_setCells_out g _ _ _ _ (fun _ _=>.inl q),World.cell?_setCells_out g _ _ _ _ (fun _ _=>.inl (by show j<i+1;omega))]
   exact O.cell j u hq
  ·subst q
   have:=World.cell?_setCells_in g [u] j (w.drew.setCells g (j+1) (ys.drop j)) (fun k hk=>isSome_setCells g _ _ _ hs1 _ (O.some _ (by simp at hk;omega))) 0 (by simp)
   simpa using this
  ·rw[World.cell?_setCells_out g _ _ _ _ (fun _ _=>.inr (by show i+1≤i+1+q;omega))]
   obtain ⟨hq1,hq2⟩:=List.getElem?_eq_some_iff.1 hq
   rw[World.cell?_setCells_in g (ys.drop i) (i+1) w.drew hs1 q hq1,hq2]
 ·obtain ⟨z,hz,hcalls⟩:=Yg O hi (by omega) hb hv h1 h1y
  refine hcalls.mono ?_
  rintro e w' ⟨rfl,rfl⟩
  obtain ⟨G,hG⟩ : ∃ G,G=grownCap w (n+1) cap 36:=⟨_,rfl⟩
  have hGn:n+1≤G:=by rw[hG];exact grownCap_ge w _ _ _
  have hGm:G≤maxLen:=by rw[hG];exact grownCap_le_maxLen w (n+1) cap _ (by unfold maxLen;omega)
  rw[← hG]
  obtain ⟨ROW,hROW⟩ : ∃ ROW,ROW=Kz z ys i n G:=⟨_,rfl⟩
  have hlt:(ys.take i).length=i:=by rw[List.length_take,O.len];omega
  have hsz:ROW.size=G:=by
   rw[hROW]
   simp[Kz,Builtin.zeroCells,hz,hlt]
   omega
  have hlo : ∀ (j:Nat) (u:Value),j<i→ys[j]? = some u→ROW[j]? = some u:=fun j u hj hu=>by
   rw[hROW,Kz,Array.getElem?_append_left (by simp[hlt];omega),Array.getElem?_append_left (by simp[hlt];omega)]
   simp[List.getElem?_take,hj,hu]
  rw[← hROW]
  have hN : ∀ j,j<G→((w.alloc (.cells ROW 36)).drew.cell? ⟨w.heap.size,j,none⟩).isSome=true:=fun j hj=>by
   show ((w.alloc (.cells ROW 36)).cell? ⟨w.heap.size,j,none⟩).isSome=true
   rw[World.cell?_alloc_at (w:=w) ROW _ w.heap.size j rfl,Array.getElem?_eq_getElem (by omega)];rfl
  have hs1 : ∀ k,k<G→(((w.alloc (.cells ROW 36)).drew.setCells w.heap.size i [y]).drew.cell? ⟨w.heap.size,k,none⟩).isSome=true:=fun k hk =>
   isSome_setCells w.heap.size [y] i (w.alloc (.cells ROW 36)).drew (fun t ht=>hN _ (by simp at ht;omega)) k (hN k hk)
  have hle:base≤w.heap.size:=Nat.le_trans hbase (Nat.le_of_lt O.lt)
  refine ⟨⟨w.heap.size,G,by rw[hl],hle,by rw[hl];exact hGn,hGm,?_,fun j u hj => ?_⟩,?_⟩
  ·rw[Dr]
   show w.heap.size<((w.alloc (.cells ROW 36)).drew.setCells w.heap.size i [y]).heap.size
   rw[Dr]
   show w.heap.size<(w.alloc (.cells ROW 36)).heap.size
   simp
  ·rcases spl j u hj with ⟨q,hq⟩ | ⟨q,rfl⟩ | ⟨q,rfl,hq⟩
   ·rw[World.cell?_setCells_out _ _ _ _ _ (fun _ _=>.inl (by show j<i+1;omega))]
    show ((w.alloc (.cells ROW 36)).drew.setCells w.heap.size i [y]).cell? ⟨w.heap.size,j,none⟩=some u
    rw[World.cell?_setCells_out _ _ _ _ _ (fun _ _=>.inl q)]
    show (w.alloc (.cells ROW 36)).cell? ⟨w.heap.size,j,none⟩=some u
    rw[World.cell?_alloc_at (w:=w) ROW _ w.heap.size j rfl]
    exact hlo j u q hq
   ·subst q
    rw[World.cell?_setCells_out _ _ _ _ _ (fun _ _=>.inl (by show j<j+1;omega))]
    have:=World.cell?_setCells_in w.heap.size [u] j (w.alloc (.cells ROW 36)).drew (fun k hk=>hN _ (by simp at hk;omega)) 0 (by simp)
    simpa using this
   ·obtain ⟨hq1,hq2⟩:=List.getElem?_eq_some_iff.1 hq
    rw[World.cell?_setCells_in w.heap.size (ys.drop i) (i+1) _ (fun k hk=>hs1 _ (by rw[hd] at hk;omega)) q hq1,hq2]
  ·refine Df hle _ _ _ ?_
   exact (Df hle _ _ _ (Below.alloc (Below.refl base w) hle _).drew).drew
open Go.RowKit Go.Lib
set_option linter.unusedVariables false
set_option linter.unusedSimpArgs false
def a2x (vs:List Vl) (a:Int) (x:Vl):Vl:=match plc vs.length a with
 | some k=>Fq (He vs k x)
 | none=>.null
theorem b0z {vs:List Vl} {a:Int} {x:Vl} (h:plc vs.length a=none):a2x vs a x=.null:=by simp[a2x,h]
theorem a7x {vs:List Vl} {a:Int} {x:Vl} {k:Nat} (h:plc vs.length a=some k):a2x vs a x=Fq (He vs k x):=by simp[a2x,h]
theorem b54 {Im:Nat→Nat→Prop} {W:World} {vs:Array Value} {x y z:DV} (h:DV.relL Im W [x,y,z] vs.toList) : ∃ u v w,vs=#[u,v,w]∧x.rel Im W u∧y.rel Im W v∧z.rel Im W w:=by
 rw[DV.relL] at h
 obtain ⟨u,us,e,h1,h⟩:=h
 rw[DV.relL] at h
 obtain ⟨v,us2,rfl,h2,h⟩:=h
 rw[DV.relL] at h
 obtain ⟨w,us3,rfl,h3,h⟩:=h
 rw[DV.relL] at h
 subst h
 exact ⟨u,v,w,Array.ext' e,h1,h2,h3⟩
theorem Gk {Im:Nat→Nat→Prop} {W:World} {x y:Value} (h:DV.rel Im W (.v x) y):y=x:=by rw[DV.rel] at h;exact h
theorem Nx {Im:Nat→Nat→Prop} {W:World} {x:Vl} {y:Value} (h:DV.rel Im W (VV x) y) : ∃ u,y=.agg #[u]∧DV.rel Im W (BV x) u:=by
 rw[DV.rel] at h
 obtain ⟨us,rfl,h⟩:=h
 rw[DV.relL] at h
 obtain ⟨u,r,e,h1,h⟩:=h
 rw[DV.relL] at h
 subst h
 exact ⟨u,by rw[show us=#[u] from Array.ext' e],h1⟩
structure RelH (Im:Nat→Nat→Prop) (W:World) (d:DV) (y:Value):Prop where
 out:DV.rel Im W d y
theorem b1e {Im:Nat→Nat→Prop} {W:World} {x y r:Value} (h:DV.rel Im W (.tup [.v x,.v y]) r):r=.tuple #[x,y]:=by
 rw[DV.rel] at h
 obtain ⟨us,rfl,h⟩:=h
 rw[DV.relL] at h
 obtain ⟨u,r,e,h1,h⟩:=h
 rw[DV.relL] at h
 obtain ⟨v,r2,rfl,h2,h⟩:=h
 rw[DV.relL] at h
 subst h
 rw[DV.rel] at h1 h2
 subst h1 h2
 rw[show us=#[u,v] from Array.ext' e]
theorem b0w {Im:Nat→Nat→Prop} {W:World} (x y:Value):DV.relL Im W [.v x,.v y] [x,y]:=by
 rw[DV.relL]
 refine ⟨x,[y],rfl,by rw[DV.rel],?_⟩
 rw[DV.relL]
 exact ⟨y,[],rfl,by rw[DV.rel],by rw[DV.relL]⟩
theorem Jq (W:World) (o p:Obj):Below W.heap.size W ((W.alloc o).alloc p):=Below.alloc (Below.alloc (Below.refl _ _) (Nat.le_refl _) _) (by simp) _
theorem b5n (W:World) (o p:Obj):((W.alloc o).alloc p).heap[W.heap.size]? = some o:=by
 show ((W.heap.push o).push p)[W.heap.size]? = some o
 rw[Array.getElem?_push,if_neg (by simp),Array.getElem?_push,if_pos rfl]
theorem Wu (W:World) (o p:Obj):((W.alloc o).alloc p).heap[W.heap.size+1]? = some p:=by
 show ((W.heap.push o).push p)[W.heap.size+1]? = some p
 rw[Array.getElem?_push,if_pos (by simp)]
theorem Da (W:World) (o p:Obj):((W.alloc o).alloc p).heap.size=W.heap.size+2:=by simp
theorem Bh {w:World} {b:Nat} {vs:Array Value} {T:TypeId} {k:Nat} {u:Value} (h:w.heap[b]? = some (.cells vs T (0,0))) (hu:vs[k]? = some u):w.cell? ⟨b,k,none⟩=some u:=by simp[World.cell?,h,hu]
theorem Zm {w:World} {b:Nat} {vs:Array Value} {T:TypeId} (h:w.heap[b]? = some (.cells vs T (0,0))):w.shape? b=some (T,vs.size):=by simp[World.shape?,h]
theorem Oe {w:World} {o p:Obj} {b:Nat} (h:w.heap[b]? = some o):(w.alloc p).heap[b]? = some o:=(Below.heap_alloc w p b (lt_of_block h)).trans h
theorem Dh (w:World) (o:Obj):(w.alloc o).heap[w.heap.size]? = some o:=by show (w.heap.push o)[w.heap.size]? = _;simp
theorem Fb {w:World} {b:Nat} {vs:Array Value} {T:TypeId} {k:Nat} (h:w.heap[b]? = some (.cells vs T (0,0))):w.frozen? ⟨b,k,none⟩=false:=by simp[World.frozen?,h]
theorem Own1.below {w w':World} {g n cap:Nat} {ys:List Value} (h:Own1 w g n cap ys) (hb:Below w.heap.size w w'):Own1 w' g n cap ys :=
 have hc : ∀ j,w'.cell? ⟨g,j,none⟩=w.cell? ⟨g,j,none⟩:=fun j=>Bf (hb.block g h.lt)
 ⟨h.len,fun j u hj=>(hc j).trans (h.cell j u hj),fun j hj=>by rw[hc];exact h.some j hj,fun j=>(World.frozen?_of_block (a:=⟨g,j,none⟩) (hb.block g h.lt)).trans (h.free j),h.le,h.max,Nat.lt_of_lt_of_le h.lt hb.size⟩
theorem Yc (w:World):Below w.heap.size w w.drew:=(Below.refl _ w).drew
theorem Bo (w:World) (o:Obj):Below w.heap.size w (w.alloc o):=Below.alloc (Below.refl _ w) (Nat.le_refl _) o
theorem a0a (w:World) (o:Obj):Below w.heap.size w (w.alloc o).drew:=(Bo w o).drew
theorem a5f {w w':World} {o:Obj} (h:Below (w.alloc o).drew.heap.size (w.alloc o).drew w'):w'.heap[w.heap.size]? = some o :=
 (h.block _ (by show w.heap.size<(w.alloc o).heap.size;simp)).trans (Dh w o)
theorem b3v {w:World} {o:Obj} {g:Nat} (h:(w.alloc o).drew.heap.size≤g):w.heap.size≠g:=by
 have:(w.alloc o).heap.size≤g:=h
 simp at this
 omega
theorem a26 {W w2 X:World} {b o n cap:Nat} {ys:List Value} (hX:Below w2.heap.size w2 X) (hw:Below W.heap.size W w2) (hc : ∀ w',Below W.heap.size W w' → ∀ (i:Nat) (v:Value),ys[i]? = some v→w'.cell? ⟨b,o+i,none⟩=some v) (h0:0<n) (hl:ys.length=n) (h1 : ∀ u ∈ ys,u.oneCell'=true) (hb:n≤1073741824) :
  Calls Tryz.prog 43 #[.slice (some ⟨b,o,none⟩) n cap] X fun e w' => ∃ g cap',e=.returned (.slice (some ⟨g,0,none⟩) n cap')∧X.heap.size≤g∧w2.heap.size≤g∧Own1 w' g n cap' ys∧Hid (∃ cur,w'.heap[g]? = some (.cells cur 36 (0,0))∧cur.size=cap')∧Hid (Below w2.heap.size w2 w')∧Hid (Below X.heap.size X w'):=by
 refine (Ok h0 hl (hc X (hw.trans (hX.mono hw.size))) h1 hb).mono ?_
 rintro e w' ⟨v',rfl,hown,hb'⟩
 obtain ⟨g,cap',rfl,hg,O,hcur⟩:=Mi hown h0
 exact ⟨g,cap',rfl,hg,Nat.le_trans hX.size hg,O,hcur,hX.trans (hb'.mono hX.size),hb'⟩
theorem a9w {w3 Y:World} {base g n cap j vb:Nat} {ys:List Value} {y:Value} {T2:TypeId} (hY:Below w3.heap.size w3 Y) (O:Own1 w3 g n cap ys) (hcur : ∃ cur,w3.heap[g]? = some (.cells cur 36 (0,0))∧cur.size=cap) (hv:Y.heap[vb]? = some (.cells #[y] T2 (0,0))) (hne:vb≠g) (hbase:base≤g) (hj:j<n) (hn:n≤1073741824) (h1 : ∀ u ∈ ys,u.oneCell'=true) (h1y:y.oneCell'=true) :
  Calls Tryz.prog 48 #[.slice (some ⟨g,0,none⟩) n cap,.int .i64 j,.slice (some ⟨vb,0,none⟩) 1 1] Y fun e w' => ∃ g' cap',e=.returned (.slice (some ⟨g',0,none⟩) (He ys j y).length cap')∧base≤g'∧(He ys j y).length≤cap'∧cap'≤maxLen∧g'<w'.heap.size∧Hid (∀ (j_1:Nat) (u:Value),(He ys j y)[j_1]? = some u→w'.cell? ⟨g',j_1,none⟩=some u)∧Hid (Below base w3 w'):=by
 obtain ⟨cur,hcur,hcs⟩:=hcur
 have O':=O.below hY
 refine (Uh (base:=base) O' hj hn hbase hne (Bh hv rfl) h1 h1y (Zm hv) (Zm ((hY.block g O.lt).trans hcur)) (by have:=O.le;omega) (Fb hv) (Fb hv)).mono ?_
 rintro e w' ⟨⟨g',cap',h1,h2,h3,h4,h5,h6⟩,h7⟩
 exact ⟨g',cap',h1,h2,h3,h4,h5,h6,(hY.mono (Nat.le_trans hbase (Nat.le_of_lt O.lt))).trans h7⟩
theorem a8m {W X:World} {Im:Nat→Nat→Prop} {g cap:Nat} {zs:List Vl} {ys:List Value} (hK:Kw W) (hB:Below W.heap.size W X) (hI : ∀ g o,Im g o→g<W.heap.size) (hC:Cells Im W zs ys) (hc : ∀ (j:Nat) (u:Value),ys[j]? = some u→X.cell? ⟨g,j,none⟩=some u) (h1:ys.length≤cap) (h2:cap≤maxLen) (h3:g<X.heap.size) (hl:zs.length≤1073741824) :
  Calls Tryz.prog 42 #[.slice (some ⟨g,0,none⟩) ys.length cap] X fun e w' => ∃ q,e=.returned (.agg #[q])∧RelH (fun b o=>(Im b o∨b=g)∨(X.heap.size≤b∧b<w'.heap.size)) w' (BV (Fq zs)) q∧Below X.heap.size X w'∧q.oneCell'=true:=by
 have hC':Cells (fun b o=>Im b o∨b=g) X zs ys:=hC.mono (fun b o h=>.inl h) (fun b o h=>Bf (hB.block b (hI b o h)))
 have hrel:=Cells.sl (Im:=Im) hC' hc (by rw[← hC.len];exact h1) h2
 rw[hC.len]
 refine ((Uj hl).2.2 X #[_] (fun b o=>Im b o∨b=g) (hK.below hB) (fun b o h => ?_) (by rw[DV.relL];exact ⟨_,[],rfl,hrel,by rw[DV.relL]⟩)).mono ?_
 ·rcases h with h | h
  ·exact Nat.lt_of_lt_of_le (hI b o h) hB.size
  ·rw[h];exact h3
 ·rintro e w' ⟨r,y,rfl,rfl,hr,hb⟩
  obtain ⟨q,rfl,hq⟩:=Nx hr
  exact ⟨q,rfl,⟨hq⟩,hb,by rw[DV.rel] at hq;exact hq.1⟩
theorem Kl {w:World} {b:Nat} {v0 q:Value} (hc:w.cell? ⟨b,0,none⟩=some v0) (hf:w.frozen? ⟨b,0,none⟩=false) (h1:q.oneCell'=true):(store ⟨b,0,none⟩ q).run Tryz.prog w=.ok () (w.setCell ⟨b,0,none⟩ q):=by
 rw[run_store _ _ _ _ _ h1,hc]
 simp only[hf]
 rfl
theorem Zr {w:World} {b c:Nat} {u q:Value} (h:c≠b) (hu:w.cell? ⟨b,0,none⟩=some u):(w.setCell ⟨c,0,none⟩ q).cell? ⟨b,0,none⟩=some u :=
 (World.cell?_setCell_other w ⟨c,0,none⟩ ⟨b,0,none⟩ q (fun e=>h (by injection e))).trans hu
theorem Nc {w:World} {b:Nat} {u q:Value} (hu:w.cell? ⟨b,0,none⟩=some u):(w.setCell ⟨b,0,none⟩ q).cell? ⟨b,0,none⟩=some q:=World.cell?_setCell_same _ _ _ hu
theorem a7g {Im:Nat→Nat→Prop} {W:World}:DV.rel Im W (.agg [.v .nilIface]) (.agg #[.nilIface]):=by
 rw[DV.rel]
 refine ⟨_,rfl,?_⟩
 rw[DV.relL]
 exact ⟨_,_,rfl,by rw[DV.rel],by rw[DV.relL]⟩
theorem b0e {W X w:World} {Im:Nat→Nat→Prop} {g c:Nat} {v:Vl} {q:Value} (hI : ∀ g o,Im g o→g<W.heap.size) (h:RelH (fun b o=>(Im b o∨b=g)∨(X.heap.size≤b∧b<w.heap.size)) w (BV v) q) (hc:W.heap.size≤c) (hcg:c<g) (hcX:c<X.heap.size) (hgw:g<w.heap.size) :
  DV.rel (fun b o=>Im b o∨W.heap.size≤b∧b<(w.setCell ⟨c,0,none⟩ q).heap.size) (w.setCell ⟨c,0,none⟩ q) (VV v) (.agg #[q]):=by
 rw[DV.rel]
 refine ⟨_,rfl,?_⟩
 rw[DV.relL]
 refine ⟨_,_,rfl,DV.rel_mono (fun b o k => ?_) (fun b o k => ?_) _ _ h.out,by rw[DV.relL]⟩
 ·have:(w.setCell ⟨c,0,none⟩ q).heap.size=w.heap.size:=by simp[World.setCell]
  rw[this]
  rcases k with (k | k) | k
  ·exact .inl k
  ·exact .inr (by omega)
  ·exact .inr (by omega)
 ·refine World.cell?_setCell_other w ⟨c,0,none⟩ ⟨b,o,none⟩ q fun e => ?_
  injection e with e1
  rcases k with (k | k) | k
  ·have:=hI b o k;omega
  ·omega
  ·omega
set_option maxHeartbeats 4000000 in
set_option maxRecDepth 1000000 in
theorem a56 {vs:List Vl} {a:Int} {x:Vl} (hl:vs.length≤1073741823) (h0 : -9223372036854775808≤a) (h1:a≤9223372036854775807):HasC Tryz.prog 23 [.sl vs.length (Aq vs),.v (.int .i64 a),VV x] (fun r => ∃ v,IsV r v∧v=a2x vs a x):=by
  refine ⟨fun args w=>Tryz.call23 args w,⟨_,_,.inl rfl,rfl⟩,fun W vs' Im hKw hIm hr => ?_⟩
  obtain ⟨y1,y2,y3,rfl,hy1,hy2,hy3⟩:=b54 hr
  obtain rfl:=Gk hy2
  obtain ⟨u,rfl,hu⟩:=Nx hy3
  obtain ⟨A,cap,rfl⟩:=Jr hy1
  have HY:RelH _ _ _ _:=⟨hy1⟩
  have HU:RelH _ _ _ _:=⟨hu⟩
  have HI:Hid _:=hIm
  have HK:Hid _:=hKw
  have H1:u.oneCell'=true:=by have:=hu;rw[DV.rel] at this;exact this.1
  clear hy1 hy2 hy3 hu hIm hKw hr
  go_enter Tryz.func23,Tryz.ntmps23
  go_wp2_with fail
  refine ((Wq (n:=vs.length) (a:=a) (by omega) h0 h1).2.2 _ #[.int .i64 vs.length,.int .i64 a] (fun _ _=>False) (HK.out.below (Jq W _ _)) (fun _ _ h=>h.elim) (b0w _ _)).mono ?_
  rintro e w2 ⟨r,y,rfl,⟨k,ok,rfl,hq⟩,hr,hb⟩
  obtain rfl:=b1e hr
  have HQ:Hid _:=hq
  have HB:Hid _:=hb
  have k5:w2.heap[W.heap.size]? = some (.cells #[u] 36 (0,0)):=(hb.block _ (by rw[Da];omega)).trans (b5n W _ _)
  have k6:w2.heap[W.heap.size+1]? = some (.cells #[.nilIface] 36 (0,0)):=(hb.block _ (by rw[Da];omega)).trans (Wu W _ _)
  have c5:w2.cell? ⟨W.heap.size,0,none⟩=some u:=Bh k5 rfl
  have c6:w2.cell? ⟨W.heap.size+1,0,none⟩=some .nilIface:=Bh k6 rfl
  have f6:w2.frozen? ⟨W.heap.size+1,0,none⟩=false:=Fb k6
  have K5:Hid _:=And.intro k5 k6
  clear hq hb hr k5 k6
  cases ok with
  | false =>
    go_wp2_with fail
    have cz:(w2.setCell ⟨W.heap.size+1,0,none⟩ .nilIface).cell? ⟨W.heap.size+1,0,none⟩=some .nilIface:=Nc c6
    (try simp only[Exit.inBlock,Exit.then])
    refine bodyPost_ret (v:=.agg #[.nilIface]) (by simp[results,Tryz.results23,go_sem,cz];try rfl) rfl ?_
    exact ⟨_,.agg [.v .nilIface],rfl,⟨.null,IsV.null,(b0z (HQ.out.2 trivial).1).symm⟩,a7g,(((Jq W _ _).trans (HB.out.mono (by rw[Da];omega))).setCell (Nat.le_succ _) _)⟩
  | true =>
    obtain ⟨j,hj,hk,hlt⟩:=HQ.out.1 rfl
    subst hk
    obtain ⟨b,o,ys,rfl,hC,hcell⟩:=a8r HY.out (by omega)
    have hbW:b<W.heap.size:=by
      have:=hcell 0 _ (List.getElem?_eq_getElem (by rw[hC.len];omega))
      exact block_lt_of_cell this
    have hcW : ∀ w',Below W.heap.size W w' → ∀ (i:Nat) (v:Value),ys[i]? = some v→w'.cell? ⟨b,o+i,none⟩=some v:=fun w' hw i v hi=>(Bf (hw.block b hbW)).trans (hcell i v hi)
    have hB2:Below W.heap.size W w2:=(Jq W _ _).trans (HB.out.mono (by rw[Da];omega))
    have HC:Hid _:=And.intro hC hcW
    have HB2:Hid _:=hB2
    have HJ:Hid _:=hj
    have hs2:=HB.out.size
    rw[Da] at hs2
    have c5d:w2.drew.cell? ⟨W.heap.size,0,none⟩=some u:=c5
    have c5e : ∀ o:Obj,(w2.alloc o).drew.cell? ⟨W.heap.size,0,none⟩=some u:=fun o=>Hs (w:=w2) c5
    clear hC hcW hB2 hj hcell
    go_wp2_with fail
    go_region_held3 (fun w'=>w'.cell? ⟨W.heap.size,0,none⟩=some u) (first | with_reducible assumption | (with_reducible refine Hs ?_;with_reducible assumption) | with_reducible exact c5d | with_reducible exact c5e _ | (trace_state;fail)) (first
      | (go_at_call 43
         refine (a26 (W:=W) (w2:=w2) (ys:=ys) (by first | with_reducible exact Yc w2 | with_reducible exact a0a w2 _) HB2.out HC.out.2 (by omega) HC.out.1.len HC.out.1.one (by omega)).mono ?_
         rintro e w3 ⟨g,cap',rfl,hg,g2,O,hcur,hb23,hb3⟩
         have q5:w3.heap[W.heap.size]? = some (.cells #[u] 36 (0,0)):=(hb23.out.block _ (by omega)).trans K5.out.1
         have c5':w3.cell? ⟨W.heap.size,0,none⟩=some u:=Bh q5 rfl
         clear q5)
      | (go_at_call 48
         refine (a9w (w3:=w3) (base:=w2.heap.size) (y:=u) (by first | with_reducible exact Bo w3 _ | with_reducible exact Below.refl _ w3) O hcur.out (by first | with_reducible exact Dh w3 _ | with_reducible exact a5f hb3.out) (by first | with_reducible exact Nat.ne_of_gt O.lt | with_reducible exact b3v hg) g2 hlt (by omega) HC.out.1.one H1).mono ?_
         rintro e w5 ⟨g',cap2,rfl,i1,i2,i3,i4,i5,hb5⟩
         have hb25:Hid (Below w2.heap.size w2 w5):=hb23.out.trans hb5.out
         have q5:w5.heap[W.heap.size]? = some (.cells #[u] 36 (0,0)):=(hb25.out.block _ (by omega)).trans K5.out.1
         have c5'':w5.cell? ⟨W.heap.size,0,none⟩=some u:=Bh q5 rfl
         clear q5)
      | (go_at_call 42
         refine (a8m HK.out (HB2.out.trans (hb25.out.mono (by omega))) HI.out (HC.out.1.ins hlt HU.out H1) i5.out i2 i3 i4 (by rw[Lg (by omega)];omega)).mono ?_
         rintro e w6 ⟨q,rfl,hq,hb6,hq1⟩
         have hb26:Hid (Below w2.heap.size w2 w6):=hb25.out.trans (hb6.mono hb25.out.size)
         have s5:=hb25.out.size
         have s6:=hb6.size
         have r6:w6.heap[W.heap.size+1]? = some (.cells #[.nilIface] 36 (0,0)):=(hb26.out.block _ (by omega)).trans K5.out.2
         have r5:w6.heap[W.heap.size]? = some (.cells #[u] 36 (0,0)):=(hb26.out.block _ (by omega)).trans K5.out.1
         have c6q:w6.cell? ⟨W.heap.size+1,0,none⟩=some .nilIface:=Bh r6 rfl
         have f6q:w6.frozen? ⟨W.heap.size+1,0,none⟩=false:=Fb r6
         have c5q:w6.cell? ⟨W.heap.size,0,none⟩=some u:=Bh r5 rfl
         have hst:(store ⟨W.heap.size+1,0,none⟩ q).run Tryz.prog w6=.ok () (w6.setCell ⟨W.heap.size+1,0,none⟩ q):=Kl c6q f6q hq1
         have c5r:(w6.setCell ⟨W.heap.size+1,0,none⟩ q).cell? ⟨W.heap.size,0,none⟩=some u:=Zr (Nat.succ_ne_self _) c5q
         clear r5 r6))
    all_goals
      have cz:(w6.setCell ⟨W.heap.size+1,0,none⟩ q).cell? ⟨W.heap.size+1,0,none⟩=some q:=Nc c6q
      go_wp2_with fail
      (try simp only[Exit.inBlock,Exit.then])
      refine bodyPost_ret (v:=.agg #[q]) (by simp[results,Tryz.results23,go_sem,cz];try rfl) rfl ?_
      exact ⟨_,VV (Fq (He vs j x)),rfl,⟨_,.inl rfl,(a7x HJ.out).symm⟩,b0e HI.out hq (Nat.le_succ _) (by omega) (by omega) (by omega),((HB2.out.trans (hb26.out.mono (by omega))).setCell (Nat.le_succ _) _)⟩
theorem a8t {vs:List Vl} {a:Int} {x:Vl} (hl:vs.length≤1073741823) (h0 : -9223372036854775808≤a) (h1:a≤9223372036854775807):HasC Tryz.prog 23 [.sl vs.length (Aq vs),.v (.int .i64 a),VV x] (fun r=>r=VV (a2x vs a x)):=(a56 hl h0 h1).isV.mono fun r ⟨v,e1,e2⟩=>by rw[e1,e2]
end Go.Proofs.YtfkfpkhgoijfdaaGreatDoor
