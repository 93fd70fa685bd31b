/- equal: the order of values; truths. -/
import Derived.Test.YtdkgnmiiibpnnaaGreatDoorVlX
import Derived.Test.YtdkgnmiiibpnnaaGreatDoorDecY
import Derived.Test.YtdkgnmiiibpnnaaGreatDoorCivZ
namespace Go.Proofs.YtdkgnmiiibpnnaaGreatDoor
open Go.RowKit Go.Shelf
set_option linter.unusedVariables false
set_option linter.unusedSimpArgs false
set_option maxRecDepth 100000
def Nb (y m d:Int):Int:=(y*16+m)*32+d
noncomputable def Cd:Vl→Vl→Option Int
 | .num g n e,.num g' n' e'=>some (Ju g n e g' n' e')
 | .text a,.text b=>some (Lib.compareBytes a b)
 | .day y m d,.day y' m' d'=>some (Bz (Nb y m d) (Nb y' m' d'))
 | .time s z o,.time s' z' o'=>if z=z' then some (Bz (s-o) (s'-o')) else none
 | .mom y m d s z o,.mom y' m' d' s' z' o'=>if z=z' then some (Bz (86400*Fg y m d+s-o) (86400*Fg y' m' d'+s'-o')) else none
 | .days a,.days b=>some (Bz a b)
 | .months a,.months b=>some (Bz a b)
 | _,_=>none
def Uf (o:Option Int):DV:=.tup [.v (.int .i64 (o.getD 0)),.v (.bool o.isSome)]
theorem Ic {a b:Vl} (h:a.kindI≠b.kindI):Cd a b=none:=by cases a<;>cases b<;>first | rfl | exact absurd rfl h
theorem Wc {a b:Vl} (h : ¬ (3≤a.kindI∧a.kindI≤9)):Cd a b=none:=by cases a<;>first | (cases b<;>rfl) | (simp[Vl.kindI] at h)
theorem Yu {v:Vl} (h:v.kindI=3) : ∃ g n e,v=.num g n e:=by cases v<;>first | exact ⟨_,_,_,rfl⟩ | cases h
theorem a0r {v:Vl} (h:v.kindI=4) : ∃ l,v=.text l:=by cases v<;>first | exact ⟨_,rfl⟩ | cases h
theorem a0i {v:Vl} (h:v.kindI=5) : ∃ y m d,v=.day y m d:=by cases v<;>first | exact ⟨_,_,_,rfl⟩ | cases h
theorem a1e {v:Vl} (h:v.kindI=6) : ∃ s z o,v=.time s z o:=by cases v<;>first | exact ⟨_,_,_,rfl⟩ | cases h
theorem a0g {v:Vl} (h:v.kindI=7) : ∃ y m d s z o,v=.mom y m d s z o:=by cases v<;>first | exact ⟨_,_,_,_,_,_,rfl⟩ | cases h
theorem a0p {v:Vl} (h:v.kindI=8) : ∃ n,v=.days n:=by cases v<;>first | exact ⟨_,rfl⟩ | cases h
theorem Zd {v:Vl} (h:v.kindI=9) : ∃ n,v=.months n:=by cases v<;>first | exact ⟨_,rfl⟩ | cases h
theorem a4t {a b:L8}:HasC Tryz.prog 103 [.v (.string (tx a)),.v (.string (tx b))] (fun y=>y=.v (.int .i64 (Lib.compareBytes a b))) :=
 (HasC.ofCallsK (vs:=[.string (tx a),.string (tx b)]) (R:=fun r=>r=.int .i64 (Lib.compareBytes a b)) (fun args w=>Tryz.call103 args w) ⟨_,rfl⟩ rfl fun w hk=>by
  have e1:(tx a).data.toList=a:=by simp[tx]
  have e2:(tx b).data.toList=b:=by simp[tx]
  have hv:=Any.strings_Compare b4y (tx a) (tx b) w
  rw[e1,e2] at hv
  exact hv.mono fun e w' ⟨h1,h2⟩=>⟨_,h1,rfl,by rw[h2];exact Below.refl _ _⟩).mono fun y ⟨r,h1,h2⟩=>by rw[h2,h1];rfl
theorem a9s {y m d y' m' d':Int} (h:Dw y m d) (h':Dw y' m' d'):ltD y m d y' m' d'↔Nb y m d<Nb y' m' d':=by
 have:=Mz h
 have:=Mz h'
 unfold ltD Nb
 omega
theorem a4z {y m d y' m' d':Int} (h:Dw y m d) (h':Dw y' m' d'):HasC Tryz.prog 105 [.agg [.v (.int .i64 y),.v (.int .i64 m),.v (.int .i64 d)],.agg [.v (.int .i64 y'),.v (.int .i64 m'),.v (.int .i64 d')]] (fun r=>r=.v (.int .i64 (Bz (Nb y m d) (Nb y' m' d')))) :=
 a5e.mono fun r ⟨c,h1,h2,h3,h4,h5⟩=>by
  rw[a9s h h'] at h2
  rw[a9s h' h] at h3
  have e:c=Bz (Nb y m d) (Nb y' m' d'):=by
   unfold Bz
   split
   ·omega
   ·split<;>omega
  rw[h1,e]
theorem b2m {x y c:Int} (h:c = -1∧x<y∨c=1∧y<x∨c=0∧x=y):c=Bz x y:=by
 unfold Bz
 rcases h with ⟨h1,h2⟩ | ⟨h1,h2⟩ | ⟨h1,h2⟩
 ·rw[if_pos h2,h1]
 ·rw[if_neg (by omega),if_neg (by omega),h1]
 ·rw[if_neg (by omega),if_pos h2,h1]
theorem Ct {c x y:Int} (h:c = -1∧x<y∨c=1∧y<x∨c=0∧x=y):DV.tup [.v (.int .i64 c),.v (.bool true)]=Uf (some (Bz x y)):=by rw[b2m h];rfl
theorem b3l {s o s' o':Int} {z z':Bool} (h:Dq s z o) (h':Dq s' z' o'):HasC Tryz.prog 107 [.agg [.v (.int .i64 s),.v (.bool z),.v (.int .i64 o)],.agg [.v (.int .i64 s'),.v (.bool z'),.v (.int .i64 o')]] (fun r=>r=Uf (if z=z' then some (Bz (s-o) (s'-o')) else none)):=by
 refine hO [] Tryz.f107 (fun a w=>Tryz.call107 a w) Tryz.func107 rfl (⟨_,rfl⟩) ?_
 unfold Dq at h h'
 refine Aa rfl (iQ 4 ?_)
 let Z1:=zT [(2,.p 2 0),(3,.p 3 0),(4,Ia 0),(5,Ba false)] []
 let Z2:=zH [(2,[Iv s,Bv z,Iv o]),(3,[Iv s',Bv z',Iv o'])] []
 refine iE 31 Z1 Z2 ?_
 refine Ae (Aa rfl (iQ 4 (jB .neq 4 (.bool z) (.bool z') 12 ?_)))
 intro c12 hc12
 refine iE 31 (zT [(12,Ba c12)] Z1) Z2 ?_
 cases c12
 ·replace hc12:=bf hc12
  have hz:z=z':=Classical.not_not.1 hc12
  refine iF (Ad (Af (Aa rfl (iQ 4 (jB .sub 3 (.int .i64 s) (.int .i64 o) 17 ?_)))))
  intro z17 hz17
  try replace hz17:=hz17.i64 (by omega)
  refine iQ 4 (jB .sub 3 (.int .i64 s') (.int .i64 o') 22 ?_)
  intro z22 hz22
  try replace hz22:=hz22.i64 (by omega)
  refine iQ 2 (iE 31 (zT [(6,Ia z17),(7,Ia z22),(12,Ba false)] Z1) Z2 ?_)
  refine Ae (Aj (Aa rfl (iQ 2 (jB .lss 3 (.int .i64 z17) (.int .i64 z22) 26 ?_))))
  intro c26 hc26
  refine iQ 1 ?_
  let Z3:=zT [(6,Ia z17),(7,Ia z22),(12,Ba false),(23,Ba c26)] []
  refine iE 31 (zT Z3 Z1) Z2 ?_
  cases c26
  ·replace hc26:=bf hc26
   refine iF (Aa rfl (iQ 2 (jB .gtr 3 (.int .i64 z17) (.int .i64 z22) 30 ?_)))
   intro c30 hc30
   refine iQ 1 ?_
   let Z4:=zT [(6,Ia z17),(7,Ia z22),(12,Ba false),(23,Ba false),(27,Ba c30)] []
   refine iE 31 (zT Z4 Z1) Z2 ?_
   cases c30
   ·replace hc30:=bf hc30
    refine iF (Ad (Am (Af (Aa rfl (iQ 2 ?_)))))
    let Z5:=zT [(2,.p 2 0),(3,.p 3 0),(4,Ia 0),(5,Ba true),(6,Ia z17),(7,Ia z22),(12,Ba false),(23,Ba false),(27,Ba false)] []
    refine iE 31 Z5 Z2 ?_
    refine Ab (iS (Iv 0) (Bv true) [] ?_)
    rw[if_pos hz];exact Ct (.inr (.inr ⟨rfl,by omega⟩))
   ·replace hc30:=bt hc30
    refine iT (Aa rfl (iQ 2 ?_))
    let Z6:=zT [(2,.p 2 0),(3,.p 3 0),(4,Ia 1),(5,Ba true),(6,Ia z17),(7,Ia z22),(12,Ba false),(23,Ba false),(27,Ba true)] []
    refine iE 31 Z6 Z2 ?_
    refine Ab (Ai (Ag (iS (Iv 1) (Bv true) [] ?_)))
    rw[if_pos hz];exact Ct (.inr (.inl ⟨rfl,by omega⟩))
  ·replace hc26:=bt hc26
   refine iT (Aa rfl (iQ 2 ?_))
   let Z7:=zT [(2,.p 2 0),(3,.p 3 0),(4,Ia (-1)),(5,Ba true),(6,Ia z17),(7,Ia z22),(12,Ba false),(23,Ba true)] []
   refine iE 31 Z7 Z2 ?_
   refine Ab (Ai (Ag (iS (Iv (-1)) (Bv true) [] ?_)))
   rw[if_pos hz];exact Ct (.inl ⟨rfl,by omega⟩)
 ·replace hc12:=bt hc12
  refine iT (Aa rfl (iQ 2 (iE 31 (zT [(12,Ba true)] Z1) Z2 ?_)))
  refine Ab (Ag (iS (Iv 0) (Bv false) [] ?_))
  rw[if_neg hc12];rfl
theorem Ul {y m d s o:Int} {z:Bool} (h:Dw y m d) (h':Dq s z o):HasC Tryz.prog 158 [.agg [.v (.int .i64 y),.v (.int .i64 m),.v (.int .i64 d),.v (.int .i64 s),.v (.bool z),.v (.int .i64 o)]] (fun r=>r=.tup [.v (.int .i64 (86400*Fg y m d+s-o)),.v (.bool true)]):=by
 refine hO [] Tryz.f158 (fun a w=>Tryz.call158 a w) Tryz.func158 rfl (⟨_,rfl⟩) ?_
 have hn:=Rd h
 refine Aa rfl (iQ 3 (iE 30 [(1,.p 1 0),(2,Ia 0),(3,Ba false)] [(1,[Iv y,Iv m,Iv d,Iv s,Bv z,Iv o])] ?_))
 refine Aa rfl (iQ 2 (eC 183 [.agg [Iv y,Iv m,Iv d]] 9 (a81 h) (iQ 5 ?_)))
 let Z1:=zT [(1,.p 1 0),(2,Ia 0),(3,Ba false),(4,Ia (Fg y m d)),(5,Ba true)] []
 refine iE 30 Z1 [(1,[Iv y,Iv m,Iv d,Iv s,Bv z,Iv o])] ?_
 refine Ae (Aa rfl (iQ 1 (jU .not (.bool true) 13 ?_)))
 refine An ((by simp)) ?_
 refine iQ 3 (jC 152 [.agg [Iv s,Bv z,Iv o]] 17 (Tp) ?_)
 rintro _ ⟨w,rfl,hw⟩
 refine jU .not (.bool w) 18 ?_
 refine An ((by rw[hw.2 h'];simp)) ?_
 unfold Dq at h'
 refine iQ 1 ?_
 let Z2:=zT [(1,.p 1 0),(2,Ia 0),(3,Ba false),(4,Ia (Fg y m d)),(19,Ba false)] []
 refine iE 30 Z2 [(1,[Iv y,Iv m,Iv d,Iv s,Bv z,Iv o])] ?_
 refine iF (Ad (Af (Aa rfl (iQ 1 (jB .mul 3 (.int .i64 86400) (.int .i64 (Fg y m d)) 21 ?_)))))
 intro z21 hz21
 try replace hz21:=hz21.i64 (by omega)
 refine iQ 3 (jB .add 3 (.int .i64 z21) (.int .i64 s) 25 ?_)
 intro z25 hz25
 try replace hz25:=hz25.i64 (by omega)
 refine iQ 3 (jB .sub 3 (.int .i64 z25) (.int .i64 o) 29 ?_)
 intro z29 hz29
 try replace hz29:=hz29.i64 (by omega)
 refine iQ 2 ?_
 let Z3:=zT [(1,.p 1 0),(2,Ia z29),(3,Ba true),(19,Ba false)] []
 refine iE 30 Z3 [(1,[Iv y,Iv m,Iv d,Iv s,Bv z,Iv o])] ?_
 refine Ab (iS (Iv z29) (Bv true) [] ?_)
 rw[show z29=86400*Fg y m d+s-o by omega]
theorem a2i {y m d s o y' m' d' s' o':Int} {z z':Bool} (h1:Dw y m d) (h2:Dq s z o) (h3:Dw y' m' d') (h4:Dq s' z' o'):HasC Tryz.prog 132 [.agg [.v (.int .i64 y),.v (.int .i64 m),.v (.int .i64 d),.v (.int .i64 s),.v (.bool z),.v (.int .i64 o)],.agg [.v (.int .i64 y'),.v (.int .i64 m'),.v (.int .i64 d'),.v (.int .i64 s'),.v (.bool z'),.v (.int .i64 o')]] (fun r=>r=.tup [.v (.int .i64 (if z=z' then (86400*Fg y' m' d'+s'-o')-(86400*Fg y m d+s-o) else 0)),.v (.bool (decide (z=z')))]):=by
 refine hO [] Tryz.f132 (fun a w=>Tryz.call132 a w) Tryz.func132 rfl (⟨_,rfl⟩) ?_
 have hn:=Rd h1
 have hn':=Rd h3
 refine Aa rfl (iQ 4 ?_)
 let Z1:=zT [(2,.p 2 0),(3,.p 3 0),(4,Ia 0),(5,Ba false)] []
 let Z2:=zH [(3,[Iv y',Iv m',Iv d',Iv s',Bv z',Iv o'])] []
 refine iE 38 Z1 (zH [(2,[Iv y,Iv m,Iv d,Iv s,Bv z,Iv o])] Z2) ?_
 refine Aa rfl (iQ 1 (eC 158 [.agg [Iv y,Iv m,Iv d,Iv s,Bv z,Iv o]] 12 (Ul h1 h2) (iQ 5 ?_)))
 let Z3:=zT [(6,Ia (86400*Fg y m d+s-o)),(7,Ba true)] []
 refine iE 38 (zT Z3 Z1) (zH [(2,[Iv y,Iv m,Iv d,Iv s,Bv z,Iv o])] Z2) ?_
 refine Aa rfl (iQ 1 (eC 158 [.agg [Iv y',Iv m',Iv d',Iv s',Bv z',Iv o']] 17 (Ul h3 h4) ?_))
 unfold Dq at h2 h4
 refine iQ 5 ?_
 let Z4:=zT [(8,Ia (86400*Fg y' m' d'+s'-o')),(9,Ba true)] []
 let Z5:=zT Z4 (zT Z1 Z3)
 refine iE 38 Z5 (zH [(2,[Iv y,Iv m,Iv d,Iv s,Bv z,Iv o])] Z2) ?_
 refine Ae (Aa rfl (iQ 1 (jU .not (.bool true) 21 ?_)))
 refine An ((by simp)) ?_
 refine iQ 2 (jU .not (.bool true) 24 ?_)
 refine An ((by simp)) ?_
 refine iQ 8 (jB .neq 4 (.bool z) (.bool z') 33 ?_)
 intro c33 hc33
 refine iQ 1 ?_
 let Z6:=zT [(6,Ia (86400*Fg y m d+s-o)),(8,Ia (86400*Fg y' m' d'+s'-o')),(34,Ba c33)] []
 refine iE 38 (zT Z6 Z1) (zH [(2,[Iv y,Iv m,Iv d,Iv s,Bv z,Iv o])] Z2) ?_
 cases c33
 ·replace hc33:=bf hc33
  have hz:z=z':=Classical.not_not.1 hc33
  refine iF (Ad (Af (Aa rfl (iQ 2 (jB .sub 3 (.int .i64 (86400*Fg y' m' d'+s'-o')) (.int .i64 (86400*Fg y m d+s-o)) 37 ?_)))))
  intro z37 hz37
  try replace hz37:=hz37.i64 (by omega)
  refine iQ 2 ?_
  let Z7:=zT [(2,.p 2 0),(3,.p 3 0),(4,Ia z37),(5,Ba true),(34,Ba false)] []
  refine iE 38 Z7 (zH [(2,[Iv y,Iv m,Iv d,Iv s,Bv z,Iv o])] Z2) ?_
  refine Ab (iS (Iv z37) (Bv true) [] ?_)
  rw[if_pos hz,decide_eq_true hz,hz37]
 ·replace hc33:=bt hc33
  refine iT (Aa rfl (iQ 2 ?_))
  let Z8:=zT [(6,Ia (86400*Fg y m d+s-o)),(8,Ia (86400*Fg y' m' d'+s'-o')),(34,Ba true)] []
  refine iE 38 (zT Z8 Z1) (zH [(2,[Iv y,Iv m,Iv d,Iv s,Bv z,Iv o])] Z2) ?_
  refine Ab (Ag (iS (Iv 0) (Bv false) [] ?_))
  rw[if_neg hc33,decide_eq_false hc33]
theorem b43 {y m d s o y' m' d' s' o':Int} {z z':Bool} (h1:Dw y m d) (h2:Dq s z o) (h3:Dw y' m' d') (h4:Dq s' z' o'):HasC Tryz.prog 109 [.agg [.v (.int .i64 y),.v (.int .i64 m),.v (.int .i64 d),.v (.int .i64 s),.v (.bool z),.v (.int .i64 o)],.agg [.v (.int .i64 y'),.v (.int .i64 m'),.v (.int .i64 d'),.v (.int .i64 s'),.v (.bool z'),.v (.int .i64 o')]] (fun r=>r=Uf (if z=z' then some (Bz (86400*Fg y m d+s-o) (86400*Fg y' m' d'+s'-o')) else none)):=by
 refine hO [] Tryz.f109 (fun a w=>Tryz.call109 a w) Tryz.func109 rfl (⟨_,rfl⟩) ?_
 obtain ⟨n,ok,hn,hok⟩ : ∃ n ok,(if z=z' then (86400*Fg y' m' d'+s'-o')-(86400*Fg y m d+s-o) else 0)=n∧decide (z=z')=ok:=⟨_,_,rfl,rfl⟩
 refine Aa rfl (iQ 4 ?_)
 let Z1:=zT [(2,.p 2 0),(3,.p 3 0),(4,Ia 0),(5,Ba false)] []
 let Z2:=zH [(3,[Iv y',Iv m',Iv d',Iv s',Bv z',Iv o'])] []
 refine iE 23 Z1 (zH [(2,[Iv y,Iv m,Iv d,Iv s,Bv z,Iv o])] Z2) ?_
 refine Aa rfl (iQ 2 (eC 132 [.agg [Iv y,Iv m,Iv d,Iv s,Bv z,Iv o],.agg [Iv y',Iv m',Iv d',Iv s',Bv z',Iv o']] 11 ((a2i h1 h2 h3 h4).mono (fun r hr ↦ by rw[hn,hok] at hr;exact hr)) (iQ 5 ?_)))
 let Z3:=zT [(4,Ia 0),(5,Ba false),(6,Ia n),(7,Ba ok)] []
 refine iE 23 Z3 [] ?_
 refine Ae (Aj (Aa rfl (iQ 1 (jU .not (.bool ok) 16 ?_))))
 intro c16 hc16
 refine iQ 1 ?_
 let Z4:=zT [(4,Ia 0),(5,Ba false),(6,Ia n),(14,Ba c16)] []
 refine iE 23 Z4 [] ?_
 cases c16
 ·replace hc16:=bf hc16
  have hz:=of_decide_eq_true (hok.trans (by simpa using hc16))
  rw[if_pos hz] at hn
  refine iF (Aa rfl (iQ 1 (jB .gtr 3 (.int .i64 n) (.int .i64 0) 19 ?_)))
  intro c19 hc19
  refine iQ 1 ?_
  let Z5:=zT [(4,Ia 0),(5,Ba false),(6,Ia n),(14,Ba false),(17,Ba c19)] []
  refine iE 23 Z5 [] ?_
  cases c19
  ·replace hc19:=bf hc19
   refine iF (Aa rfl (iQ 1 (jB .lss 3 (.int .i64 n) (.int .i64 0) 22 ?_)))
   intro c22 hc22
   refine iQ 1 ?_
   let Z6:=zT [(4,Ia 0),(5,Ba false),(6,Ia n),(14,Ba false),(17,Ba false),(20,Ba c22)] []
   refine iE 23 Z6 [] ?_
   cases c22
   ·replace hc22:=bf hc22
    refine iF (Ad (Am (Af (Aa rfl (iQ 2 ?_)))))
    let Z7:=zT [(4,Ia 0),(5,Ba true),(6,Ia n),(14,Ba false),(17,Ba false),(20,Ba false)] []
    refine iE 23 Z7 [] ?_
    refine Ab (iS (Iv 0) (Bv true) [] ?_)
    rw[if_pos hz];exact Ct (.inr (.inr ⟨rfl,by omega⟩))
   ·replace hc22:=bt hc22
    refine iT (Aa rfl (iQ 2 ?_))
    let Z8:=zT [(4,Ia 1),(5,Ba true),(6,Ia n),(14,Ba false),(17,Ba false),(20,Ba true)] []
    refine iE 23 Z8 [] ?_
    refine Ab (Ai (Ag (iS (Iv 1) (Bv true) [] ?_)))
    rw[if_pos hz];exact Ct (.inr (.inl ⟨rfl,by omega⟩))
  ·replace hc19:=bt hc19
   refine iT (Aa rfl (iQ 2 ?_))
   let Z9:=zT [(4,Ia (-1)),(5,Ba true),(6,Ia n),(14,Ba false),(17,Ba true)] []
   refine iE 23 Z9 [] ?_
   refine Ab (Ai (Ag (iS (Iv (-1)) (Bv true) [] ?_)))
   rw[if_pos hz];exact Ct (.inl ⟨rfl,by omega⟩)
 ·replace hc16:=bt hc16
  refine iT (Aa rfl (iQ 2 ?_))
  let Z10:=zT [(4,Ia 0),(5,Ba false),(6,Ia n),(14,Ba true)] []
  refine iE 23 Z10 [] ?_
  refine Ab (Ai (Ag (iS (Iv 0) (Bv false) [] ?_)))
  rw[if_neg (of_decide_eq_false (hok.trans hc16))];rfl
theorem a03 {v:Vl} {g:Bool} {n:Nat} {e:Int} (h:v=.num g n e):HasC Tryz.prog 67 [VV v] (fun r=>r=.tup [Co g n e,.v (.bool true)]):=by subst h;exact Kd
theorem Vd {v:Vl} {l:L8} (h:v=.text l):HasC Tryz.prog 102 [VV v] (fun r=>r=.tup [.v (.string (tx l)),.v (.bool true)]):=by subst h;exact a5d
theorem Uw {v:Vl} {y m d:Int} (h:v=.day y m d):HasC Tryz.prog 104 [VV v] (fun r=>r=.tup [.agg [.v (.int .i64 y),.v (.int .i64 m),.v (.int .i64 d)],.v (.bool true)]):=by subst h;exact a5g
theorem Vo {v:Vl} {s o:Int} {z:Bool} (h:v=.time s z o):HasC Tryz.prog 106 [VV v] (fun r=>r=.tup [.agg [.v (.int .i64 s),.v (.bool z),.v (.int .i64 o)],.v (.bool true)]):=by subst h;exact a6p
theorem a00 {v:Vl} {y m d s o:Int} {z:Bool} (h:v=.mom y m d s z o):HasC Tryz.prog 108 [VV v] (fun r=>r=.tup [.agg [.v (.int .i64 y),.v (.int .i64 m),.v (.int .i64 d),.v (.int .i64 s),.v (.bool z),.v (.int .i64 o)],.v (.bool true)]):=by subst h;exact a8e
theorem Tt {v:Vl} {n:Int} (h:v=.days n):HasC Tryz.prog 69 [VV v] (fun r=>r=.tup [.v (.int .i64 n),.v (.bool true)]):=by subst h;exact a6j
theorem Tj {v:Vl} {n:Int} (h:v=.months n):HasC Tryz.prog 69 [VV v] (fun r=>r=.tup [.v (.int .i64 0),.v (.bool false)]):=by subst h;exact a4o
theorem Pr {v:Vl} {n:Int} (h:v=.months n):HasC Tryz.prog 71 [VV v] (fun r=>r=.tup [.v (.int .i64 n),.v (.bool true)]):=by subst h;exact a0u
theorem a77 {a b:Vl} {x y:Int} (ha:a=.days x) (hb:b=.days y):HasC Tryz.prog 110 [.agg [.bx (a).enc],.agg [.bx (b).enc]] (fun r=>r=Uf (some (Bz x y))):=by
 refine hO [] Tryz.f110 (fun a w=>Tryz.call110 a w) Tryz.func110 rfl (⟨_,rfl⟩) ?_
 refine Aa rfl (iQ 4 ?_)
 let Z1:=zT [(2,.p 2 0),(3,.p 3 0),(4,Ia 0),(5,Ba false)] []
 refine iE 40 Z1 [(2,[.bx (a).enc]),(3,[.bx (b).enc])] ?_
 refine Aa rfl (iQ 1 (eC 69 [.agg [.bx (a).enc]] 12 (Tt ha) (iQ 5 (iE 40 (zT [(6,Ia x),(7,Ba true)] Z1) [(2,[.bx (a).enc]),(3,[.bx (b).enc])] ?_))))
 refine Aa rfl (iQ 1 (eC 69 [.agg [.bx (b).enc]] 17 (Tt hb) (iQ 5 (iE 40 (zT [(6,Ia x),(7,Ba true),(8,Ia y)] Z1) [(2,[.bx (a).enc]),(3,[.bx (b).enc])] ?_))))
 refine Ae (Aa rfl (iQ 1 (jU .not (.bool true) 21 ?_)))
 refine An ((by simp)) ?_
 refine iE 40 (zT [(6,Ia x),(8,Ia y),(21,Ba false)] Z1) [(2,[.bx (a).enc]),(3,[.bx (b).enc])] ?_
 refine iF (Ad (Af (Ae (Aj (Aa rfl (iQ 2 (jB .lss 3 (.int .i64 x) (.int .i64 y) 35 ?_)))))))
 intro c35 hc35
 refine iQ 1 ?_
 let Z2:=zT [(6,Ia x),(8,Ia y),(21,Ba false),(32,Ba c35)] []
 refine iE 40 (zT Z2 Z1) [(2,[.bx (a).enc]),(3,[.bx (b).enc])] ?_
 cases c35
 ·replace hc35:=bf hc35
  refine iF (Aa rfl (iQ 2 (jB .gtr 3 (.int .i64 x) (.int .i64 y) 39 ?_)))
  intro c39 hc39
  refine iQ 1 ?_
  let Z3:=zT [(6,Ia x),(8,Ia y),(21,Ba false),(32,Ba false),(36,Ba c39)] []
  refine iE 40 (zT Z3 Z1) [(2,[.bx (a).enc]),(3,[.bx (b).enc])] ?_
  cases c39
  ·replace hc39:=bf hc39
   refine iF (Ad (Am (Af (Aa rfl (iQ 2 ?_)))))
   let Z4:=zT [(2,.p 2 0),(3,.p 3 0),(4,Ia 0),(5,Ba true),(6,Ia x),(8,Ia y),(21,Ba false),(32,Ba false),(36,Ba false)] []
   refine iE 40 Z4 [(2,[.bx (a).enc]),(3,[.bx (b).enc])] ?_
   refine Ab (iS (Iv 0) (Bv true) [] ?_)
   exact Ct (.inr (.inr ⟨rfl,by omega⟩))
  ·replace hc39:=bt hc39
   refine iT (Aa rfl (iQ 2 ?_))
   let Z5:=zT [(2,.p 2 0),(3,.p 3 0),(4,Ia 1),(5,Ba true),(6,Ia x),(8,Ia y),(21,Ba false),(32,Ba false),(36,Ba true)] []
   refine iE 40 Z5 [(2,[.bx (a).enc]),(3,[.bx (b).enc])] ?_
   refine Ab (Ai (Ag (iS (Iv 1) (Bv true) [] ?_)))
   exact Ct (.inr (.inl ⟨rfl,by omega⟩))
 ·replace hc35:=bt hc35
  refine iT (Aa rfl (iQ 2 ?_))
  let Z6:=zT [(2,.p 2 0),(3,.p 3 0),(4,Ia (-1)),(5,Ba true),(6,Ia x),(8,Ia y),(21,Ba false),(32,Ba true)] []
  refine iE 40 Z6 [(2,[.bx (a).enc]),(3,[.bx (b).enc])] ?_
  refine Ab (Ai (Ag (iS (Iv (-1)) (Bv true) [] ?_)))
  exact Ct (.inl ⟨rfl,by omega⟩)
theorem a7d {a b:Vl} {x y:Int} (ha:a=.months x) (hb:b=.months y):HasC Tryz.prog 110 [.agg [.bx (a).enc],.agg [.bx (b).enc]] (fun r=>r=Uf (some (Bz x y))):=by
 refine hO [] Tryz.f110 (fun a w=>Tryz.call110 a w) Tryz.func110 rfl (⟨_,rfl⟩) ?_
 refine Aa rfl (iQ 4 ?_)
 let Z1:=zT [(2,.p 2 0),(3,.p 3 0),(4,Ia 0),(5,Ba false)] []
 refine iE 40 Z1 [(2,[.bx (a).enc]),(3,[.bx (b).enc])] ?_
 refine Aa rfl (iQ 1 (eC 69 [.agg [.bx (a).enc]] 12 (Tj ha) (iQ 5 (iE 40 (zT [(6,Ia 0),(7,Ba false)] Z1) [(2,[.bx (a).enc]),(3,[.bx (b).enc])] ?_))))
 refine Aa rfl (iQ 1 (eC 69 [.agg [.bx (b).enc]] 17 (Tj hb) (iQ 5 (iE 40 (zT [(6,Ia 0),(7,Ba false),(8,Ia 0)] Z1) [(2,[.bx (a).enc]),(3,[.bx (b).enc])] ?_))))
 refine Ae (Aa rfl (iQ 1 (jU .not (.bool false) 21 ?_)))
 refine Bj ((by simp)) ?_
 refine iE 40 (zT [(6,Ia 0),(8,Ia 0),(21,Ba true)] Z1) [(2,[.bx (a).enc]),(3,[.bx (b).enc])] ?_
 refine iT (Aa rfl (iQ 1 (eC 71 [.agg [.bx (a).enc]] 24 (Pr ha) (iQ 4 (iE 40 (zT [(6,Ia x),(8,Ia 0),(21,Ba true)] Z1) [(2,[.bx (a).enc]),(3,[.bx (b).enc])] ?_)))))
 refine Al rfl (iQ 1 (eC 71 [.agg [.bx (b).enc]] 29 (Pr hb) (iQ 4 (iE 40 (zT [(6,Ia x),(8,Ia y),(21,Ba true)] Z1) [(2,[.bx (a).enc]),(3,[.bx (b).enc])] ?_))))
 refine Af (Ae (Aj (Aa rfl (iQ 2 (jB .lss 3 (.int .i64 x) (.int .i64 y) 35 ?_)))))
 intro c35 hc35
 refine iQ 1 ?_
 let Z2:=zT [(6,Ia x),(8,Ia y),(21,Ba true),(32,Ba c35)] []
 refine iE 40 (zT Z2 Z1) [(2,[.bx (a).enc]),(3,[.bx (b).enc])] ?_
 cases c35
 ·replace hc35:=bf hc35
  refine iF (Aa rfl (iQ 2 (jB .gtr 3 (.int .i64 x) (.int .i64 y) 39 ?_)))
  intro c39 hc39
  refine iQ 1 ?_
  let Z3:=zT [(6,Ia x),(8,Ia y),(21,Ba true),(32,Ba false),(36,Ba c39)] []
  refine iE 40 (zT Z3 Z1) [(2,[.bx (a).enc]),(3,[.bx (b).enc])] ?_
  cases c39
  ·replace hc39:=bf hc39
   refine iF (Ad (Am (Af (Aa rfl (iQ 2 ?_)))))
   let Z4:=zT [(2,.p 2 0),(3,.p 3 0),(4,Ia 0),(5,Ba true),(6,Ia x),(8,Ia y),(21,Ba true),(32,Ba false),(36,Ba false)] []
   refine iE 40 Z4 [(2,[.bx (a).enc]),(3,[.bx (b).enc])] ?_
   refine Ab (iS (Iv 0) (Bv true) [] ?_)
   exact Ct (.inr (.inr ⟨rfl,by omega⟩))
  ·replace hc39:=bt hc39
   refine iT (Aa rfl (iQ 2 ?_))
   let Z5:=zT [(2,.p 2 0),(3,.p 3 0),(4,Ia 1),(5,Ba true),(6,Ia x),(8,Ia y),(21,Ba true),(32,Ba false),(36,Ba true)] []
   refine iE 40 Z5 [(2,[.bx (a).enc]),(3,[.bx (b).enc])] ?_
   refine Ab (Ai (Ag (iS (Iv 1) (Bv true) [] ?_)))
   exact Ct (.inr (.inl ⟨rfl,by omega⟩))
 ·replace hc35:=bt hc35
  refine iT (Aa rfl (iQ 2 ?_))
  let Z6:=zT [(2,.p 2 0),(3,.p 3 0),(4,Ia (-1)),(5,Ba true),(6,Ia x),(8,Ia y),(21,Ba true),(32,Ba true)] []
  refine iE 40 Z6 [(2,[.bx (a).enc]),(3,[.bx (b).enc])] ?_
  refine Ab (Ai (Ag (iS (Iv (-1)) (Bv true) [] ?_)))
  exact Ct (.inl ⟨rfl,by omega⟩)
theorem b2f {a b:Vl} (h:a.kindI=b.kindI) (h8:a.kindI=8∨a.kindI=9):HasC Tryz.prog 110 [VV a,VV b] (fun r => ∃ (c:Int) (ok:Bool),r=.tup [.v (.int .i64 c),.v (.bool ok)]∧DV.tup [.v (.int .i64 c),.v (.bool ok)]=Uf (Cd a b)):=by
 rcases h8 with h8 | h8
 ·obtain ⟨x,ha⟩:=a0p h8
  obtain ⟨y,hb⟩:=a0p (h ▸ h8)
  exact (a77 ha hb).mono fun r hr=>⟨_,_,hr,by rw[ha,hb];rfl⟩
 ·obtain ⟨x,ha⟩:=Zd h8
  obtain ⟨y,hb⟩:=Zd (h ▸ h8)
  exact (a7d ha hb).mono fun r hr=>⟨_,_,hr,by rw[ha,hb];rfl⟩
theorem b6d {P:Program} {f:FuncId} {ds:List DV} {o:Option Int} (h:HasC P f ds (fun r=>r=Uf o)):HasC P f ds (fun r => ∃ (c:Int) (ok:Bool),r=.tup [.v (.int .i64 c),.v (.bool ok)]∧DV.tup [.v (.int .i64 c),.v (.bool ok)]=Uf o):=h.mono fun r hr=>⟨_,_,hr,rfl⟩
set_option maxHeartbeats 3200000 in
theorem b39 {a b:Vl} (oa:a.ok) (ob:b.ok):HasC Tryz.prog 78 [.agg [.bx (a).enc],.agg [.bx (b).enc]] (fun r=>r=Uf (Cd a b)):=by
 refine hO [] Tryz.f78 (fun a w=>Tryz.call78 a w) Tryz.func78 rfl (⟨_,rfl⟩) ?_
 refine Aa rfl (iQ 4 ?_)
 let Z1:=zT [(2,.p 2 0),(3,.p 3 0),(4,Ia 0),(5,Ba false)] []
 refine iE 123 Z1 [(2,[.bx (a).enc]),(3,[.bx (b).enc])] ?_
 refine Aa rfl (iQ 1 (jC 20 [.agg [.bx (a).enc]] 28 (Gf (v:=a)) ?_))
 rintro _ ⟨ka,rfl,hka⟩
 refine iQ 1 (iE 123 (zT [(6,Ia ka)] Z1) [(2,[.bx (a).enc]),(3,[.bx (b).enc])] ?_)
 refine Ae (Aa rfl (iQ 1 (jC 20 [.agg [.bx (b).enc]] 30 (Gf (v:=b)) ?_)))
 rintro _ ⟨kb,rfl,hkb⟩
 refine iQ 1 (jB .neq 27 (.int .i64 kb) (.int .i64 ka) 32 ?_)
 intro c32 hc32
 refine iQ 1 ?_
 cases c32
 ·replace hc32:=bf hc32
  refine iQ 1 ?_
  have hk:a.kindI=b.kindI:=by omega
  refine jC 36 [Iv ka] 35 (Hj (k:=ka)) ?_
  rintro _ ⟨od,rfl,hod⟩
  refine jU .not (.bool od) 36 ?_
  intro c36 hc36
  refine iQ 1 (iE 123 (zT [(6,Ia ka),(37,Ba c36)] Z1) [(2,[.bx (a).enc]),(3,[.bx (b).enc])] ?_)
  cases c36
  ·replace hc36:=bf hc36
   have hor:3≤ka∧ka≤9:=hod.1 (by simpa using hc36)
   refine iF (Ad (Af (Ae (Aa rfl (iQ 1 (iE 123 (zT [(6,Ia ka),(37,Ba false),(38,Ia ka)] Z1) [(2,[.bx (a).enc]),(3,[.bx (b).enc])] ?_))))))
   refine Aj (Aa rfl (jB .eql 27 (.int .i64 ka) (.int .i64 3) 40 ?_))
   intro c40 hc40
   refine iQ 1 ?_
   let Z2:=zT [(6,Ia ka),(37,Ba false),(38,Ia ka),(39,Ba c40)] []
   refine iE 123 (zT Z2 Z1) [(2,[.bx (a).enc]),(3,[.bx (b).enc])] ?_
   cases c40
   ·replace hc40:=bf hc40
    refine iF (Aa rfl (jB .eql 27 (.int .i64 ka) (.int .i64 4) 55 ?_))
    intro c55 hc55
    refine iQ 1 ?_
    let Z3:=zT [(6,Ia ka),(37,Ba false),(38,Ia ka),(39,Ba false),(54,Ba c55)] []
    refine iE 123 (zT Z3 Z1) [(2,[.bx (a).enc]),(3,[.bx (b).enc])] ?_
    cases c55
    ·replace hc55:=bf hc55
     refine iF (Aa rfl (jB .eql 27 (.int .i64 ka) (.int .i64 5) 70 ?_))
     intro c70 hc70
     refine iQ 1 ?_
     let Z4:=zT [(6,Ia ka),(37,Ba false),(38,Ia ka),(39,Ba false),(54,Ba false),(69,Ba c70)] []
     refine iE 123 (zT Z4 Z1) [(2,[.bx (a).enc]),(3,[.bx (b).enc])] ?_
     cases c70
     ·replace hc70:=bf hc70
      refine iF (Aa rfl (jB .eql 27 (.int .i64 ka) (.int .i64 6) 85 ?_))
      intro c85 hc85
      refine iQ 1 ?_
      let Z5:=zT [(6,Ia ka),(37,Ba false),(38,Ia ka),(39,Ba false),(54,Ba false),(69,Ba false),(84,Ba c85)] []
      refine iE 123 (zT Z5 Z1) [(2,[.bx (a).enc]),(3,[.bx (b).enc])] ?_
      cases c85
      ·replace hc85:=bf hc85
       refine iF (Aa rfl (jB .eql 27 (.int .i64 ka) (.int .i64 7) 102 ?_))
       intro c102 hc102
       refine iQ 1 ?_
       let Z6:=zT [(6,Ia ka),(37,Ba false),(38,Ia ka),(39,Ba false),(54,Ba false),(69,Ba false),(84,Ba false),(101,Ba c102)] []
       refine iE 123 (zT Z6 Z1) [(2,[.bx (a).enc]),(3,[.bx (b).enc])] ?_
       cases c102
       ·replace hc102:=bf hc102
        refine iF (Ad (Am (Af (Aa rfl (iQ 2 (jC 110 [.agg [.bx (a).enc],.agg [.bx (b).enc]] 120 (b2f hk (by omega)) ?_))))))
        rintro _ ⟨c,ok,rfl,hr⟩
        refine iQ 4 ?_
        let Z7:=zT [(2,.p 2 0),(3,.p 3 0),(4,Ia c),(5,Ba ok),(6,Ia ka),(37,Ba false),(38,Ia ka),(39,Ba false),(54,Ba false),(69,Ba false),(84,Ba false),(101,Ba false)] []
        refine iE 123 Z7 [(2,[.bx (a).enc]),(3,[.bx (b).enc])] ?_
        refine Ab (iS (Iv c) (Bv ok) [] ?_)
        exact hr
       ·replace hc102:=bt hc102
        obtain ⟨y,m,d,s,z,o,ha⟩:=a0g (v:=a) (by omega)
        obtain ⟨y',m',d',s',z',o',hb⟩:=a0g (v:=b) (by omega)
        rw[ha,Vl.ok] at oa
        rw[hb,Vl.ok] at ob
        refine iT (Aa rfl (iQ 1 (eC 108 [.agg [.bx (a).enc]] 105 (a00 ha) (iQ 6 ?_))))
        let Z8:=zT [(6,Ia ka),(23,.p 23 0),(37,Ba false),(38,Ia ka),(39,Ba false),(54,Ba false),(69,Ba false),(84,Ba false),(101,Ba true)] []
        let Z9:=zH [(2,[.bx (a).enc]),(3,[.bx (b).enc]),(23,[Iv y,Iv m,Iv d,Iv s,Bv z,Iv o])] []
        refine iE 123 (zT Z8 Z1) Z9 ?_
        refine Aa rfl (iQ 1 (eC 108 [.agg [.bx (b).enc]] 110 (a00 hb) (iQ 6 ?_)))
        let Z10:=zH [(25,[Iv y',Iv m',Iv d',Iv s',Bv z',Iv o'])] []
        refine iE 123 (zT [(25,.p 25 0)] (zT Z8 Z1)) (zH Z10 Z9) ?_
        refine Aa rfl (iQ 2 (jC 109 [.agg [Iv y,Iv m,Iv d,Iv s,Bv z,Iv o],.agg [Iv y',Iv m',Iv d',Iv s',Bv z',Iv o']] 115 (b6d (b43 oa.1 oa.2 ob.1 ob.2)) ?_))
        rintro _ ⟨c,ok,rfl,hr⟩
        refine iQ 4 ?_
        let Z11:=zT [(2,.p 2 0),(3,.p 3 0),(4,Ia c),(5,Ba ok),(25,.p 25 0)] []
        refine iE 123 (zT Z11 Z8) (zH Z9 Z10) ?_
        refine Ab (Ai (Ag (iS (Iv c) (Bv ok) [] ?_)))
        rw[ha,hb];exact hr
      ·replace hc85:=bt hc85
       obtain ⟨s,z,o,ha⟩:=a1e (v:=a) (by omega)
       obtain ⟨s',z',o',hb⟩:=a1e (v:=b) (by omega)
       rw[ha,Vl.ok] at oa
       rw[hb,Vl.ok] at ob
       refine iT (Aa rfl (iQ 1 (eC 106 [.agg [.bx (a).enc]] 88 (Vo ha) (iQ 6 ?_))))
       let Z12:=zT [(6,Ia ka),(19,.p 19 0),(37,Ba false),(38,Ia ka),(39,Ba false),(54,Ba false),(69,Ba false),(84,Ba true)] []
       let Z13:=zH [(2,[.bx (a).enc]),(3,[.bx (b).enc]),(19,[Iv s,Bv z,Iv o])] []
       refine iE 123 (zT Z12 Z1) Z13 ?_
       refine Aa rfl (iQ 1 (eC 106 [.agg [.bx (b).enc]] 93 (Vo hb) (iQ 6 (iE 123 (zT [(21,.p 21 0)] (zT Z12 Z1)) (zH [(21,[Iv s',Bv z',Iv o'])] Z13) ?_))))
       refine Aa rfl (iQ 2 (jC 107 [.agg [Iv s,Bv z,Iv o],.agg [Iv s',Bv z',Iv o']] 98 (b6d (b3l oa ob)) ?_))
       rintro _ ⟨c,ok,rfl,hr⟩
       refine iQ 4 ?_
       let Z14:=zT [(2,.p 2 0),(3,.p 3 0),(4,Ia c),(5,Ba ok),(21,.p 21 0)] []
       refine iE 123 (zT Z14 Z12) (zH [(21,[Iv s',Bv z',Iv o'])] Z13) ?_
       refine Ab (Ai (Ag (iS (Iv c) (Bv ok) [] ?_)))
       rw[ha,hb];exact hr
     ·replace hc70:=bt hc70
      obtain ⟨y,m,d,ha⟩:=a0i (v:=a) (by omega)
      obtain ⟨y',m',d',hb⟩:=a0i (v:=b) (by omega)
      rw[ha,Vl.ok] at oa
      rw[hb,Vl.ok] at ob
      refine iT (Aa rfl (iQ 1 (eC 104 [.agg [.bx (a).enc]] 73 (Uw ha) (iQ 6 ?_))))
      let Z15:=zT [(6,Ia ka),(15,.p 15 0),(37,Ba false),(38,Ia ka),(39,Ba false),(54,Ba false),(69,Ba true)] []
      let Z16:=zH [(2,[.bx (a).enc]),(3,[.bx (b).enc]),(15,[Iv y,Iv m,Iv d])] []
      refine iE 123 (zT Z15 Z1) Z16 ?_
      refine Aa rfl (iQ 1 (eC 104 [.agg [.bx (b).enc]] 78 (Uw hb) (iQ 6 (iE 123 (zT [(17,.p 17 0)] (zT Z15 Z1)) (zH [(17,[Iv y',Iv m',Iv d'])] Z16) ?_))))
      refine Aa rfl (iQ 2 (eC 105 [.agg [Iv y,Iv m,Iv d],.agg [Iv y',Iv m',Iv d']] 83 (a4z oa ob) (iQ 2 ?_)))
      let Z17:=zT [(2,.p 2 0),(3,.p 3 0),(4,Ia (Bz (Nb y m d) (Nb y' m' d'))),(5,Ba true),(17,.p 17 0)] []
      refine iE 123 (zT Z17 Z15) (zH [(17,[Iv y',Iv m',Iv d'])] Z16) ?_
      refine Ab (Ai (Ag (iS (Iv (Bz (Nb y m d) (Nb y' m' d'))) (Bv true) [] ?_)))
      rw[ha,hb];rfl
    ·replace hc55:=bt hc55
     obtain ⟨l,ha⟩:=a0r (v:=a) (by omega)
     obtain ⟨l',hb⟩:=a0r (v:=b) (by omega)
     refine iT (Aa rfl (iQ 1 (eC 102 [.agg [.bx (a).enc]] 58 (Vd ha) (iQ 5 ?_))))
     let Z18:=zT [(6,Ia ka),(11,.d (Sv (tx l))),(37,Ba false),(38,Ia ka),(39,Ba false),(54,Ba true)] []
     refine iE 123 (zT Z18 Z1) [(2,[.bx (a).enc]),(3,[.bx (b).enc])] ?_
     refine Aa rfl (iQ 1 (eC 102 [.agg [.bx (b).enc]] 63 (Vd hb) (iQ 5 (iE 123 (zT [(13,.d (Sv (tx l')))] (zT Z18 Z1)) [(2,[.bx (a).enc]),(3,[.bx (b).enc])] ?_))))
     refine Aa rfl (iQ 2 (eC 103 [Sv (tx l),Sv (tx l')] 68 (a4t) (iQ 2 ?_)))
     let Z19:=zT [(2,.p 2 0),(3,.p 3 0),(4,Ia (Lib.compareBytes l l')),(5,Ba true),(6,Ia ka),(37,Ba false),(38,Ia ka),(39,Ba false),(54,Ba true)] []
     refine iE 123 Z19 [(2,[.bx (a).enc]),(3,[.bx (b).enc])] ?_
     refine Ab (Ai (Ag (iS (Iv (Lib.compareBytes l l')) (Bv true) [] ?_)))
     rw[ha,hb];rfl
   ·replace hc40:=bt hc40
    obtain ⟨g,n,e,ha⟩:=Yu (v:=a) (by omega)
    obtain ⟨g',n',e',hb⟩:=Yu (v:=b) (by omega)
    rw[ha,Vl.ok] at oa
    rw[hb,Vl.ok] at ob
    refine iT (Aa rfl (iQ 1 (eC 67 [.agg [.bx (a).enc]] 43 (a03 ha) (iQ 6 ?_))))
    let Z20:=zT [(6,Ia ka),(7,.p 7 0),(37,Ba false),(38,Ia ka),(39,Ba true)] []
    let Z21:=zH [(2,[.bx (a).enc]),(3,[.bx (b).enc]),(7,[Bv g,Hw n,Lw n,Iv e])] []
    refine iE 123 (zT Z20 Z1) Z21 ?_
    refine Aa rfl (iQ 1 (eC 67 [.agg [.bx (b).enc]] 48 (a03 hb) ?_))
    obtain ⟨oa1,oa2,oa3,_⟩:=oa
    obtain ⟨ob1,ob2,ob3,_⟩:=ob
    refine iQ 6 (iE 123 (zT [(9,.p 9 0)] (zT Z20 Z1)) (zH [(9,[Bv g',Hw n',Lw n',Iv e'])] Z21) ?_)
    refine Aa rfl (iQ 2 (eC 83 [.agg [Bv g,Hw n,Lw n,Iv e],.agg [Bv g',Hw n',Lw n',Iv e']] 53 (Rt oa1 ob1 (by omega) (by omega) (by omega) (by omega)) (iQ 2 ?_)))
    let Z22:=zT [(2,.p 2 0),(3,.p 3 0),(4,Ia (Ju g n e g' n' e')),(5,Ba true),(9,.p 9 0)] []
    refine iE 123 (zT Z22 Z20) (zH [(9,[Bv g',Hw n',Lw n',Iv e'])] Z21) ?_
    refine Ab (Ai (Ag (iS (Iv (Ju g n e g' n' e')) (Bv true) [] ?_)))
    rw[ha,hb];rfl
  ·replace hc36:=bt hc36
   have hun : ¬ (3≤a.kindI∧a.kindI≤9):=fun h=>by have:=hod.2 (by omega);rw[this] at hc36;cases hc36
   refine iT (Aa rfl (iQ 2 (iE 123 (zT [(6,Ia ka),(37,Ba true)] Z1) [(2,[.bx (a).enc]),(3,[.bx (b).enc])] ?_)))
   refine Ab (Ag (iS (Iv 0) (Bv false) [] ?_))
   rw[Wc hun];rfl
 ·replace hc32:=bt hc32
  refine iQ 4 (iE 123 (zT [(6,Ia ka),(37,Ba true)] Z1) [(2,[.bx (a).enc]),(3,[.bx (b).enc])] ?_)
  refine iT (Aa rfl (iQ 2 (iE 123 (zT [(6,Ia ka),(37,Ba true)] Z1) [(2,[.bx (a).enc]),(3,[.bx (b).enc])] ?_)))
  refine Ab (Ag (iS (Iv 0) (Bv false) [] ?_))
  rw[Ic (by omega)];rfl
theorem a3i {o:Option Int} {c:Int} {ok:Bool} (h1:c=o.getD 0) (h2:ok=o.isSome):(ok=true→o=some c)∧(ok=false→o=none):=by
 cases o with
 | none=>simp at h2;subst h2;simp
 | some x=>simp at h1 h2;subst h1;subst h2;simp
theorem b6i {a b:Vl} (oa:a.ok) (ob:b.ok):HasC Tryz.prog 37 [.agg [.bx (a).enc],.agg [.bx (b).enc]] (fun r=>r=Uf (Cd a b)):=by
 refine hO [] Tryz.f37 (fun a w=>Tryz.call37 a w) Tryz.func37 rfl (⟨_,rfl⟩) ?_
 refine Aa rfl (iQ 4 ?_)
 let Z1:=zT [(2,.p 2 0),(3,.p 3 0),(4,Ia 0),(5,Ba false)] []
 refine iE 11 Z1 [(2,[.bx (a).enc]),(3,[.bx (b).enc])] ?_
 refine Aa rfl (iQ 2 (jC 78 [.agg [.bx (a).enc],.agg [.bx (b).enc]] 8 (b6d (b39 oa ob)) ?_))
 rintro _ ⟨c,ok,rfl,hr⟩
 refine iQ 4 (iE 11 [(4,Ia c),(5,Ba ok)] [] ?_)
 refine Ab (iS (Iv c) (Bv ok) [] ?_)
 exact hr
end Go.Proofs.YtdkgnmiiibpnnaaGreatDoor
