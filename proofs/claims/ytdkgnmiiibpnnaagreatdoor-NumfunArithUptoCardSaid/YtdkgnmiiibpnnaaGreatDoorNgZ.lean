/- value's AsNum of whatever is no number. numfun.power; Arith's '**'. What the laws of numfun share: like; whole numbers; kinds. numfun.Arith of a number and whatever else, by whatever operator. -/
import Derived.Test.YtdkgnmiiibpnnaaGreatDoorVlY
import Derived.Test.YtdkgnmiiibpnnaaGreatDoorNfP
import Derived.Test.YtdkgnmiiibpnnaaGreatDoorDecX
import Derived.Test.YtdkgnmiiibpnnaaGreatDoorNfZ
import Derived.Test.YtdkgnmiiibpnnaaGreatDoorVlX
namespace Go.Proofs.YtdkgnmiiibpnnaaGreatDoor
open Go.RowKit
set_option linter.unusedVariables false
set_option linter.unusedSimpArgs false
set_option maxRecDepth 100000
def Vl.isNum:Vl→Bool
 | .num _ _ _=>true
 | _=>false
theorem Wc {d:DV}:HasC Tryz.prog 67 [.agg [.ifc 108 (d)]] (fun r=>r=.tup [Bo false 0 0,.v (.bool false)]):=by
 refine hO [] Tryz.f67 (fun a w=>Tryz.call67 a w) Tryz.func67 rfl (⟨_,rfl⟩) ?_
 refine Aa rfl (iQ 3 ?_)
 let Z1:=zH [(1,[.ifc 108 (d)]),(2,[Bv false,Uv 0,Uv 0,Iv 0])] []
 refine iE 14 [(1,.p 1 0),(2,.p 2 0),(3,Ba false)] Z1 ?_
 refine Aa rfl (iQ 9 ?_)
 let Z2:=zT [(2,.p 2 0),(3,Ba false),(4,.p 4 0),(5,Ba false)] []
 let Z3:=zH [(2,[Bv false,Uv 0,Uv 0,Iv 0]),(4,[Bv false,Uv 0,Uv 0,Iv 0])] []
 refine iE 14 Z2 Z3 ?_
 refine Aa rfl (iQ 4 (iE 14 [(2,.p 2 0),(3,Ba false),(4,.p 4 0)] Z3 ?_))
 refine Ab (iS (.agg [Bv false,Uv 0,Uv 0,Iv 0]) (Bv false) [] ?_)
 rfl
theorem Wf {d:DV}:HasC Tryz.prog 67 [.agg [.ifc 179 (d)]] (fun r=>r=.tup [Bo false 0 0,.v (.bool false)]):=by
 refine hO [] Tryz.f67 (fun a w=>Tryz.call67 a w) Tryz.func67 rfl (⟨_,rfl⟩) ?_
 refine Aa rfl (iQ 3 ?_)
 let Z1:=zH [(1,[.ifc 179 (d)]),(2,[Bv false,Uv 0,Uv 0,Iv 0])] []
 refine iE 14 [(1,.p 1 0),(2,.p 2 0),(3,Ba false)] Z1 ?_
 refine Aa rfl (iQ 9 ?_)
 let Z2:=zT [(2,.p 2 0),(3,Ba false),(4,.p 4 0),(5,Ba false)] []
 let Z3:=zH [(2,[Bv false,Uv 0,Uv 0,Iv 0]),(4,[Bv false,Uv 0,Uv 0,Iv 0])] []
 refine iE 14 Z2 Z3 ?_
 refine Aa rfl (iQ 4 (iE 14 [(2,.p 2 0),(3,Ba false),(4,.p 4 0)] Z3 ?_))
 refine Ab (iS (.agg [Bv false,Uv 0,Uv 0,Iv 0]) (Bv false) [] ?_)
 rfl
theorem Zy {d:DV}:HasC Tryz.prog 67 [.agg [.ifc 181 (d)]] (fun r=>r=.tup [Bo false 0 0,.v (.bool false)]):=by
 refine hO [] Tryz.f67 (fun a w=>Tryz.call67 a w) Tryz.func67 rfl (⟨_,rfl⟩) ?_
 refine Aa rfl (iQ 3 ?_)
 let Z1:=zH [(1,[.ifc 181 (d)]),(2,[Bv false,Uv 0,Uv 0,Iv 0])] []
 refine iE 14 [(1,.p 1 0),(2,.p 2 0),(3,Ba false)] Z1 ?_
 refine Aa rfl (iQ 9 ?_)
 let Z2:=zT [(2,.p 2 0),(3,Ba false),(4,.p 4 0),(5,Ba false)] []
 let Z3:=zH [(2,[Bv false,Uv 0,Uv 0,Iv 0]),(4,[Bv false,Uv 0,Uv 0,Iv 0])] []
 refine iE 14 Z2 Z3 ?_
 refine Aa rfl (iQ 4 (iE 14 [(2,.p 2 0),(3,Ba false),(4,.p 4 0)] Z3 ?_))
 refine Ab (iS (.agg [Bv false,Uv 0,Uv 0,Iv 0]) (Bv false) [] ?_)
 rfl
theorem Vw {d:DV}:HasC Tryz.prog 67 [.agg [.ifc 185 (d)]] (fun r=>r=.tup [Bo false 0 0,.v (.bool false)]):=by
 refine hO [] Tryz.f67 (fun a w=>Tryz.call67 a w) Tryz.func67 rfl (⟨_,rfl⟩) ?_
 refine Aa rfl (iQ 3 ?_)
 let Z1:=zH [(1,[.ifc 185 (d)]),(2,[Bv false,Uv 0,Uv 0,Iv 0])] []
 refine iE 14 [(1,.p 1 0),(2,.p 2 0),(3,Ba false)] Z1 ?_
 refine Aa rfl (iQ 9 ?_)
 let Z2:=zT [(2,.p 2 0),(3,Ba false),(4,.p 4 0),(5,Ba false)] []
 let Z3:=zH [(2,[Bv false,Uv 0,Uv 0,Iv 0]),(4,[Bv false,Uv 0,Uv 0,Iv 0])] []
 refine iE 14 Z2 Z3 ?_
 refine Aa rfl (iQ 4 (iE 14 [(2,.p 2 0),(3,Ba false),(4,.p 4 0)] Z3 ?_))
 refine Ab (iS (.agg [Bv false,Uv 0,Uv 0,Iv 0]) (Bv false) [] ?_)
 rfl
theorem Ym {d:DV}:HasC Tryz.prog 67 [.agg [.ifc 187 (d)]] (fun r=>r=.tup [Bo false 0 0,.v (.bool false)]):=by
 refine hO [] Tryz.f67 (fun a w=>Tryz.call67 a w) Tryz.func67 rfl (⟨_,rfl⟩) ?_
 refine Aa rfl (iQ 3 ?_)
 let Z1:=zH [(1,[.ifc 187 (d)]),(2,[Bv false,Uv 0,Uv 0,Iv 0])] []
 refine iE 14 [(1,.p 1 0),(2,.p 2 0),(3,Ba false)] Z1 ?_
 refine Aa rfl (iQ 9 ?_)
 let Z2:=zT [(2,.p 2 0),(3,Ba false),(4,.p 4 0),(5,Ba false)] []
 let Z3:=zH [(2,[Bv false,Uv 0,Uv 0,Iv 0]),(4,[Bv false,Uv 0,Uv 0,Iv 0])] []
 refine iE 14 Z2 Z3 ?_
 refine Aa rfl (iQ 4 (iE 14 [(2,.p 2 0),(3,Ba false),(4,.p 4 0)] Z3 ?_))
 refine Ab (iS (.agg [Bv false,Uv 0,Uv 0,Iv 0]) (Bv false) [] ?_)
 rfl
theorem Vu {d:DV}:HasC Tryz.prog 67 [.agg [.ifc 135 (d)]] (fun r=>r=.tup [Bo false 0 0,.v (.bool false)]):=by
 refine hO [] Tryz.f67 (fun a w=>Tryz.call67 a w) Tryz.func67 rfl (⟨_,rfl⟩) ?_
 refine Aa rfl (iQ 3 ?_)
 let Z1:=zH [(1,[.ifc 135 (d)]),(2,[Bv false,Uv 0,Uv 0,Iv 0])] []
 refine iE 14 [(1,.p 1 0),(2,.p 2 0),(3,Ba false)] Z1 ?_
 refine Aa rfl (iQ 9 ?_)
 let Z2:=zT [(2,.p 2 0),(3,Ba false),(4,.p 4 0),(5,Ba false)] []
 let Z3:=zH [(2,[Bv false,Uv 0,Uv 0,Iv 0]),(4,[Bv false,Uv 0,Uv 0,Iv 0])] []
 refine iE 14 Z2 Z3 ?_
 refine Aa rfl (iQ 4 (iE 14 [(2,.p 2 0),(3,Ba false),(4,.p 4 0)] Z3 ?_))
 refine Ab (iS (.agg [Bv false,Uv 0,Uv 0,Iv 0]) (Bv false) [] ?_)
 rfl
theorem Rq {d:DV}:HasC Tryz.prog 67 [.agg [.ifc 138 (d)]] (fun r=>r=.tup [Bo false 0 0,.v (.bool false)]):=by
 refine hO [] Tryz.f67 (fun a w=>Tryz.call67 a w) Tryz.func67 rfl (⟨_,rfl⟩) ?_
 refine Aa rfl (iQ 3 ?_)
 let Z1:=zH [(1,[.ifc 138 (d)]),(2,[Bv false,Uv 0,Uv 0,Iv 0])] []
 refine iE 14 [(1,.p 1 0),(2,.p 2 0),(3,Ba false)] Z1 ?_
 refine Aa rfl (iQ 9 ?_)
 let Z2:=zT [(2,.p 2 0),(3,Ba false),(4,.p 4 0),(5,Ba false)] []
 let Z3:=zH [(2,[Bv false,Uv 0,Uv 0,Iv 0]),(4,[Bv false,Uv 0,Uv 0,Iv 0])] []
 refine iE 14 Z2 Z3 ?_
 refine Aa rfl (iQ 4 (iE 14 [(2,.p 2 0),(3,Ba false),(4,.p 4 0)] Z3 ?_))
 refine Ab (iS (.agg [Bv false,Uv 0,Uv 0,Iv 0]) (Bv false) [] ?_)
 rfl
theorem Wj {d:DV}:HasC Tryz.prog 67 [.agg [.ifc 118 (d)]] (fun r=>r=.tup [Bo false 0 0,.v (.bool false)]):=by
 refine hO [] Tryz.f67 (fun a w=>Tryz.call67 a w) Tryz.func67 rfl (⟨_,rfl⟩) ?_
 refine Aa rfl (iQ 3 ?_)
 let Z1:=zH [(1,[.ifc 118 (d)]),(2,[Bv false,Uv 0,Uv 0,Iv 0])] []
 refine iE 14 [(1,.p 1 0),(2,.p 2 0),(3,Ba false)] Z1 ?_
 refine Aa rfl (iQ 9 ?_)
 let Z2:=zT [(2,.p 2 0),(3,Ba false),(4,.p 4 0),(5,Ba false)] []
 let Z3:=zH [(2,[Bv false,Uv 0,Uv 0,Iv 0]),(4,[Bv false,Uv 0,Uv 0,Iv 0])] []
 refine iE 14 Z2 Z3 ?_
 refine Aa rfl (iQ 4 (iE 14 [(2,.p 2 0),(3,Ba false),(4,.p 4 0)] Z3 ?_))
 refine Ab (iS (.agg [Bv false,Uv 0,Uv 0,Iv 0]) (Bv false) [] ?_)
 rfl
theorem Yv {d:DV}:HasC Tryz.prog 67 [.agg [.ifc 197 (d)]] (fun r=>r=.tup [Bo false 0 0,.v (.bool false)]):=by
 refine hO [] Tryz.f67 (fun a w=>Tryz.call67 a w) Tryz.func67 rfl (⟨_,rfl⟩) ?_
 refine Aa rfl (iQ 3 ?_)
 let Z1:=zH [(1,[.ifc 197 (d)]),(2,[Bv false,Uv 0,Uv 0,Iv 0])] []
 refine iE 14 [(1,.p 1 0),(2,.p 2 0),(3,Ba false)] Z1 ?_
 refine Aa rfl (iQ 9 ?_)
 let Z2:=zT [(2,.p 2 0),(3,Ba false),(4,.p 4 0),(5,Ba false)] []
 let Z3:=zH [(2,[Bv false,Uv 0,Uv 0,Iv 0]),(4,[Bv false,Uv 0,Uv 0,Iv 0])] []
 refine iE 14 Z2 Z3 ?_
 refine Aa rfl (iQ 4 (iE 14 [(2,.p 2 0),(3,Ba false),(4,.p 4 0)] Z3 ?_))
 refine Ab (iS (.agg [Bv false,Uv 0,Uv 0,Iv 0]) (Bv false) [] ?_)
 rfl
theorem Yo {d:DV}:HasC Tryz.prog 67 [.agg [.ifc 200 (d)]] (fun r=>r=.tup [Bo false 0 0,.v (.bool false)]):=by
 refine hO [] Tryz.f67 (fun a w=>Tryz.call67 a w) Tryz.func67 rfl (⟨_,rfl⟩) ?_
 refine Aa rfl (iQ 3 ?_)
 let Z1:=zH [(1,[.ifc 200 (d)]),(2,[Bv false,Uv 0,Uv 0,Iv 0])] []
 refine iE 14 [(1,.p 1 0),(2,.p 2 0),(3,Ba false)] Z1 ?_
 refine Aa rfl (iQ 9 ?_)
 let Z2:=zT [(2,.p 2 0),(3,Ba false),(4,.p 4 0),(5,Ba false)] []
 let Z3:=zH [(2,[Bv false,Uv 0,Uv 0,Iv 0]),(4,[Bv false,Uv 0,Uv 0,Iv 0])] []
 refine iE 14 Z2 Z3 ?_
 refine Aa rfl (iQ 4 (iE 14 [(2,.p 2 0),(3,Ba false),(4,.p 4 0)] Z3 ?_))
 refine Ab (iS (.agg [Bv false,Uv 0,Uv 0,Iv 0]) (Bv false) [] ?_)
 rfl
theorem Vk:HasC Tryz.prog 67 [.agg [.v (.nilIface)]] (fun r=>r=.tup [Bo false 0 0,.v (.bool false)]):=by
 refine hO [] Tryz.f67 (fun a w=>Tryz.call67 a w) Tryz.func67 rfl (⟨_,rfl⟩) ?_
 refine Aa rfl (iQ 3 ?_)
 let Z1:=zH [(1,[.v (.nilIface)]),(2,[Bv false,Uv 0,Uv 0,Iv 0])] []
 refine iE 14 [(1,.p 1 0),(2,.p 2 0),(3,Ba false)] Z1 ?_
 refine Aa rfl (iQ 9 ?_)
 let Z2:=zT [(2,.p 2 0),(3,Ba false),(4,.p 4 0),(5,Ba false)] []
 let Z3:=zH [(2,[Bv false,Uv 0,Uv 0,Iv 0]),(4,[Bv false,Uv 0,Uv 0,Iv 0])] []
 refine iE 14 Z2 Z3 ?_
 refine Aa rfl (iQ 4 (iE 14 [(2,.p 2 0),(3,Ba false),(4,.p 4 0)] Z3 ?_))
 refine Ab (iS (.agg [Bv false,Uv 0,Uv 0,Iv 0]) (Bv false) [] ?_)
 rfl
theorem a36 {v:Vl} (h:v.isNum=false):HasC Tryz.prog 67 [VV v] (fun r=>r=.tup [Bo false 0 0,.v (.bool false)]):=by
 cases v
 case null=>exact HasC.ub Vk
 case num=>cases h
 case bool=>exact HasC.ub Wc
 case text=>exact HasC.ub Wf
 case day=>exact HasC.ub Zy
 case time=>exact HasC.ub Vw
 case mom=>exact HasC.ub Ym
 case days=>exact HasC.ub Vu
 case months=>exact HasC.ub Rq
 case list=>exact HasC.ub Wj
 case ctx=>exact HasC.ub Yv
 case rng=>exact HasC.ub Yo
open Go.RowKit
set_option linter.unusedVariables false
set_option linter.unusedSimpArgs false
set_option maxRecDepth 100000
def a35 (t:T4):Prop:=May t.1 t.2.1 t.2.2.1
theorem a68 (t u:T4):a35 (Pi t u):=Ik (Id (g:=(Pi t u).1) (k:=(Pi t u).2.1) (x:=(Pi t u).2.2.1) (ok:=(Pi t u).2.2.2) rfl)
theorem Ow (a:T4) (b:Bool) (t:T4):a35 (Ee a b t):=by
 unfold Ee
 split<;>exact a68 _ _
theorem Ul (a:T4) (m:Nat) : ∀ (k:Nat) (t:T4),a35 t→a35 (Eq a m k t)
 | 0,t,h=>h
 | k+1,t,h=>by
  rw[Eq]
  split
  ·exact Ul a m k _ (Ow _ _ _)
  ·exact Ow _ _ _
theorem b0m:May false 0 0:=⟨by decide,by decide,by decide,fun h=>by cases h⟩
theorem a48 (s:Bool) (a b:Nat) (e:Int):a35 (Gu s a b e):=by
 unfold Gu
 split
 ·exact b0m
 ·unfold Zg
  split
  ·exact Ik (Gg (g:=_) (k:=_) (x:=_) (ok:=_) rfl)
  ·exact Ik (Gg (g:=_) (k:=_) (x:=_) (ok:=_) rfl)
theorem Sd (a:T4) (n:Int):a35 (Nt a n):=by
 unfold Nt
 split
 ·exact b0m
 ·split
  ·exact b0m
  ·split
   ·exact a48 _ _ _ _
   ·exact Ul _ _ _ _ ⟨by decide,by decide,by decide,fun h=>by cases h⟩
noncomputable def Ff (x:D3) (n:Int):T4:=Nt (x.g,x.n,x.e,true) n
def Cf (x:D3) (n:Int):Bool:=decide (n < -999999999∨999999999<n∨(x.n=0∧n<0))
def Sq (y:D3) (z:Int) (ok:Bool):Prop:=(ok=true→isW y.g y.n y.e z∧inI z)∧(ok=false→z=0 ∧ ∀ v,isW y.g y.n y.e v → ¬ inI v)
theorem b0f {a b:Bool} (h1:a=true) (h2:b=false) (k:a=false∨b=true):False:=by
 rcases k with k | k
 ·rw[h1] at k;cases k
 ·rw[h2] at k;cases k
theorem a2c {x y:D3}:HasC Tryz.prog 51 [.agg [.v (.bool ((x).g)),.v (.int .u64 (hiW ((x).n))),.v (.int .u64 (loW ((x).n))),.v (.int .i64 ((x).e))],.agg [.v (.bool ((y).g)),.v (.int .u64 (hiW ((y).n))),.v (.int .u64 (loW ((y).n))),.v (.int .i64 ((y).e))]] (fun r => ∃ q v o z ok,r=.tup [q,.v (.bool o)]∧IsV q v∧Sq y z ok∧(ok=false∨Cf x z=true→v=.null∧o=true)∧(ok=true→Cf x z=false→v=Dz (Br (Ff x z))∧o=(Br (Ff x z)).isSome)):=by
 refine hO [] Tryz.f51 (fun a w=>Tryz.call51 a w) Tryz.func51 rfl (by obtain ⟨z,ok,h⟩:=a0w y.g y.n y.e;exact ⟨_,_,(if ok=false∨Cf x z=true then .null else Dz (Br (Ff x z))),(if ok=false∨Cf x z=true then true else (Br (Ff x z)).isSome),z,ok,rfl,.inl rfl,h,fun k=>by rw[if_pos k,if_pos k];exact ⟨rfl,rfl⟩,fun k1 k2=>by rw[if_neg (by simp[k1,k2]),if_neg (by simp[k1,k2])];exact ⟨rfl,rfl⟩⟩) ?_
 refine Aa rfl (iQ 4 ?_)
 let Z1:=zT [(2,.p 2 0),(3,.p 3 0),(4,.p 4 0),(5,Ba false)] []
 let Z2:=zH [(2,[Bv ((x).g),Hw ((x).n),Lw ((x).n),Iv ((x).e)])] []
 let Z3:=zH [(3,[Bv ((y).g),Hw ((y).n),Lw ((y).n),Iv ((y).e)])] []
 refine iE 40 Z1 (zH [(4,[.v (.nilIface)])] (zH Z3 Z2)) ?_
 refine Aa rfl (iQ 1 (jC 91 [.agg [Bv ((y).g),Hw ((y).n),Lw ((y).n),Iv ((y).e)]] 10 (b1r y.ltB (by have:=y.lo;omega) (by have:=y.hi;omega)) ?_))
 rintro _ ⟨z,ok,rfl,w1,w2⟩
 refine iQ 5 ?_
 let Z4:=zT [(2,.p 2 0),(4,.p 4 0),(5,Ba false),(6,Ia z),(7,Ba ok)] []
 refine iE 40 Z4 (zH [(4,[.v (.nilIface)])] Z2) ?_
 refine Ae (Aa rfl (iQ 1 (jU .not (.bool ok) 14 ?_)))
 intro c14 hc14
 refine iQ 1 ?_
 cases c14
 ·replace hc14:=bf hc14
  refine iQ 1 (jB .lss 3 (.int .i64 z) (.int .i64 (-999999999)) 17 ?_)
  have hok:ok=true:=by simpa using hc14
  have hzi:=(w1 hok).2
  have hzi1:=hzi.1
  have hzi2:=hzi.2
  intro c17 hc17
  refine iQ 2 ?_
  cases c17
  ·replace hc17:=bf hc17
   refine iQ 1 (jB .gtr 3 (.int .i64 z) (.int .i64 999999999) 21 ?_)
   intro c21 hc21
   refine iQ 2 ?_
   cases c21
   ·replace hc21:=bf hc21
    refine iQ 1 (jC 16 [.agg [Bv ((x).g),Hw ((x).n),Lw ((x).n),Iv ((x).e)]] 25 (Dw x.ltB) ?_)
    rintro _ ⟨zz,rfl,hzz⟩
    refine iQ 1 ?_
    cases zz
    ·replace hzz:=bf hzz
     refine iQ 4 ?_
     let Z5:=zT [(2,.p 2 0),(4,.p 4 0),(5,Ba false),(6,Ia z),(30,Ba false)] []
     refine iE 40 Z5 (zH [(4,[.v (.nilIface)])] Z2) ?_
     have hpn:Cf x z=false:=by unfold Cf;simp;omega
     refine iF (Ad (Af (Aa rfl (iQ 2 (eC 18 [.agg [Bv ((x).g),Hw ((x).n),Lw ((x).n),Iv ((x).e)],Iv z] 34 (Qy x.lt x.lo x.hi (by omega) (by omega)) (iQ 2 (jC 50 [.agg [Bv ((Ff x z).1),Hw ((Ff x z).2.1),Lw ((Ff x z).2.1),Iv ((Ff x z).2.2.1)],Bv ((Ff x z).2.2.2)] 37 (Ok (fun _ ↦ Sd _ _)) ?_)))))))
     rintro _ ⟨v,o,rfl,hv,ho⟩
     refine iQ 4 ?_
     let Z6:=zT [(2,.p 2 0),(4,.p 4 0),(5,Ba o),(6,Ia z),(30,Ba false)] []
     refine iE 40 Z6 (zH [(4,[.bx (v).enc])] Z2) ?_
     refine Ab (iS (.agg [.bx (v).enc]) (Bv o) [] ?_)
     exact ⟨_,v,_,z,ok,rfl,.inl rfl,⟨w1,w2⟩,fun k=>(b0f hok hpn k).elim,fun _ _=>⟨hv,ho⟩⟩
    ·replace hzz:=bt hzz
     refine iQ 1 (jB .lss 3 (.int .i64 z) (.int .i64 0) 28 ?_)
     intro c28 hc28
     refine iQ 2 ?_
     let Z7:=zT [(2,.p 2 0),(4,.p 4 0),(5,Ba false),(6,Ia z),(30,Ba c28)] []
     refine iE 40 Z7 (zH [(4,[.v (.nilIface)])] Z2) ?_
     cases c28
     ·replace hc28:=bf hc28
      have hpn:Cf x z=false:=by unfold Cf;simp;omega
      refine iF (Ad (Af (Aa rfl (iQ 2 (eC 18 [.agg [Bv ((x).g),Hw ((x).n),Lw ((x).n),Iv ((x).e)],Iv z] 34 (Qy x.lt x.lo x.hi (by omega) (by omega)) (iQ 2 (jC 50 [.agg [Bv ((Ff x z).1),Hw ((Ff x z).2.1),Lw ((Ff x z).2.1),Iv ((Ff x z).2.2.1)],Bv ((Ff x z).2.2.2)] 37 (Ok (fun _ ↦ Sd _ _)) ?_)))))))
      rintro _ ⟨v,o,rfl,hv,ho⟩
      refine iQ 4 ?_
      let Z8:=zT [(2,.p 2 0),(4,.p 4 0),(5,Ba o),(6,Ia z),(30,Ba false)] []
      refine iE 40 Z8 (zH [(4,[.bx (v).enc])] Z2) ?_
      refine Ab (iS (.agg [.bx (v).enc]) (Bv o) [] ?_)
      exact ⟨_,v,_,z,ok,rfl,.inl rfl,⟨w1,w2⟩,fun k=>(b0f hok hpn k).elim,fun _ _=>⟨hv,ho⟩⟩
     ·replace hc28:=bt hc28
      have hno:ok=false∨Cf x z=true:=.inr (by unfold Cf;simp;omega)
      refine iT (Aa rfl (iQ 3 ?_))
      let Z9:=zT [(2,.p 2 0),(4,.p 4 0),(5,Ba true),(6,Ia z),(30,Ba true)] []
      refine iE 40 Z9 (zH [(4,[.v (.nilIface)])] Z2) ?_
      refine Ab (Ah (iS (.agg [.v (.nilIface)]) (Bv true) [] ?_))
      exact ⟨_,.null,_,z,ok,rfl,IsV.null,⟨w1,w2⟩,fun _=>⟨rfl,rfl⟩,fun k1 k2=>by rw[k1,k2] at hno;simp at hno⟩
   ·replace hc21:=bt hc21
    refine iQ 7 ?_
    let Z10:=zT [(2,.p 2 0),(4,.p 4 0),(5,Ba false),(6,Ia z),(30,Ba true)] []
    refine iE 40 Z10 (zH [(4,[.v (.nilIface)])] Z2) ?_
    have hno:ok=false∨Cf x z=true:=.inr (by unfold Cf;simp;omega)
    refine iT (Aa rfl (iQ 3 ?_))
    let Z11:=zT [(2,.p 2 0),(4,.p 4 0),(5,Ba true),(6,Ia z),(30,Ba true)] []
    refine iE 40 Z11 (zH [(4,[.v (.nilIface)])] Z2) ?_
    refine Ab (Ah (iS (.agg [.v (.nilIface)]) (Bv true) [] ?_))
    exact ⟨_,.null,_,z,ok,rfl,IsV.null,⟨w1,w2⟩,fun _=>⟨rfl,rfl⟩,fun k1 k2=>by rw[k1,k2] at hno;simp at hno⟩
  ·replace hc17:=bt hc17
   refine iQ 11 ?_
   let Z12:=zT [(2,.p 2 0),(4,.p 4 0),(5,Ba false),(6,Ia z),(30,Ba true)] []
   refine iE 40 Z12 (zH [(4,[.v (.nilIface)])] Z2) ?_
   have hno:ok=false∨Cf x z=true:=.inr (by unfold Cf;simp;omega)
   refine iT (Aa rfl (iQ 3 ?_))
   let Z13:=zT [(2,.p 2 0),(4,.p 4 0),(5,Ba true),(6,Ia z),(30,Ba true)] []
   refine iE 40 Z13 (zH [(4,[.v (.nilIface)])] Z2) ?_
   refine Ab (Ah (iS (.agg [.v (.nilIface)]) (Bv true) [] ?_))
   exact ⟨_,.null,_,z,ok,rfl,IsV.null,⟨w1,w2⟩,fun _=>⟨rfl,rfl⟩,fun k1 k2=>by rw[k1,k2] at hno;simp at hno⟩
 ·replace hc14:=bt hc14
  refine iQ 15 ?_
  let Z14:=zT [(2,.p 2 0),(4,.p 4 0),(5,Ba false),(6,Ia z),(30,Ba true)] []
  refine iE 40 Z14 (zH [(4,[.v (.nilIface)])] Z2) ?_
  have hno:ok=false∨Cf x z=true:=.inl (by simpa using hc14)
  refine iT (Aa rfl (iQ 3 ?_))
  let Z15:=zT [(2,.p 2 0),(4,.p 4 0),(5,Ba true),(6,Ia z),(30,Ba true)] []
  refine iE 40 Z15 (zH [(4,[.v (.nilIface)])] Z2) ?_
  refine Ab (Ah (iS (.agg [.v (.nilIface)]) (Bv true) [] ?_))
  exact ⟨_,.null,_,z,ok,rfl,IsV.null,⟨w1,w2⟩,fun _=>⟨rfl,rfl⟩,fun k1 k2=>by rw[k1,k2] at hno;simp at hno⟩
theorem a5y {n:Int} {y:D3} {z:Int} {ok:Bool} (h0 : -9223372036854775808≤n) (h1:n≤9223372036854775807) (hy:y.vl=Sz n) (h:Sq y z ok):ok=true∧z=n:=by
 obtain ⟨hg,hn,he⟩:y.g=decide (n<0)∧y.n=n.natAbs∧y.e=0:=by
  have:Vl.num y.g y.n y.e=.num (decide (n<0)) n.natAbs 0:=hy
  injection this with a b c
  exact ⟨a,b,c⟩
 have hw:isW y.g y.n y.e n:=by
  rw[hg,hn,he]
  unfold isW V Hx
  simp
  split<;>omega
 cases ok with
 | true=>exact ⟨rfl,Er (h.1 rfl).1 hw⟩
 | false=>exact absurd ⟨h0,by omega⟩ ((h.2 rfl).2 n hw)
theorem powE {x y:D3}:HasC Tryz.prog 51 [Bo x.g x.n x.e,Bo y.g y.n y.e] (fun r => ∃ v o z ok,r=.tup [VV v,.v (.bool o)]∧Sq y z ok∧(ok=false∨Cf x z=true→v=.null∧o=true)∧(ok=true→Cf x z=false→v=Dz (Br (Ff x z))∧o=(Br (Ff x z)).isSome)) :=
 (HasC.isVb (q:=fun v o => ∃ z ok,Sq y z ok∧(ok=false∨Cf x z=true→v=.null∧o=true)∧(ok=true→Cf x z=false→v=Dz (Br (Ff x z))∧o=(Br (Ff x z)).isSome)) (a2c.mono fun r ⟨q,v,o,z,ok,h1,h2,h3⟩=>⟨q,v,o,h1,h2,z,ok,h3⟩)).mono fun r ⟨v,o,h1,z,ok,h2⟩=>⟨v,o,z,ok,h1,h2⟩
theorem b3t {x y:D3}:HasC Tryz.prog 9 [.v (.string (⟨#[42,42]⟩)),.agg [.bx (Vl.num (x).g (x).n (x).e).enc],.agg [.bx (Vl.num (y).g (y).n (y).e).enc]] (fun r => ∃ q v o z ok,r=.tup [q,.v (.bool o)]∧IsV q v∧Sq y z ok∧(ok=false∨Cf x z=true→v=.null∧o=true)∧(ok=true→Cf x z=false→v=Dz (Br (Ff x z))∧o=(Br (Ff x z)).isSome)):=by
 refine hO [] Tryz.f9 (fun a w=>Tryz.call9 a w) Tryz.func9 rfl (a2c.2.1) ?_
 refine Aa rfl (iQ 4 ?_)
 let Z1:=zT [(0,.d (Sv (⟨#[42,42]⟩))),(4,.p 4 0),(5,.p 5 0),(6,.p 6 0),(7,Ba false)] []
 let Z2:=zH [(4,[.bx (Vl.num (x).g (x).n (x).e).enc]),(5,[.bx (Vl.num (y).g (y).n (y).e).enc]),(6,[.v (.nilIface)])] []
 refine iE 73 Z1 Z2 ?_
 refine Aa rfl (iQ 2 (eC 49 [.agg [.bx (Vl.num (x).g (x).n (x).e).enc],.agg [.bx (Vl.num (y).g (y).n (y).e).enc]] 14 (Rs) (iQ 9 ?_)))
 let Z3:=zT [(0,.d (Sv (⟨#[42,42]⟩))),(6,.p 6 0),(7,Ba false),(8,.p 8 0),(9,.p 9 0),(10,Ba true)] []
 let Z4:=zH [(8,[Bv ((x).g),Hw ((x).n),Lw ((x).n),Iv ((x).e)])] []
 let Z5:=zH [(9,[Bv ((y).g),Hw ((y).n),Lw ((y).n),Iv ((y).e)])] []
 refine iE 73 Z3 (zH [(6,[.v (.nilIface)])] (zH Z5 Z4)) ?_
 refine Ae (Aa rfl (iQ 1 (jU .not (.bool true) 19 ?_)))
 refine Ap ((by simp)) ?_
 let Z6:=zT [(0,.d (Sv (⟨#[42,42]⟩))),(6,.p 6 0),(7,Ba false),(8,.p 8 0),(9,.p 9 0),(19,Ba false)] []
 refine iE 73 Z6 (zH [(6,[.v (.nilIface)])] (zH Z4 Z5)) ?_
 refine iF (Ad (Af (Ae (Aa rfl (iQ 1 ?_)))))
 let Z7:=zT [(6,.p 6 0),(7,Ba false),(8,.p 8 0),(9,.p 9 0),(19,Ba false),(21,.d (Sv (⟨#[42,42]⟩)))] []
 refine iE 73 Z7 (zH [(6,[.v (.nilIface)])] (zH Z4 Z5)) ?_
 refine Ak (Aa rfl (jB .eql 9 (.string (⟨#[42,42]⟩)) (.string (⟨#[43]⟩)) 23 ?_))
 refine Ap ((by decide)) ?_
 refine iQ 1 (iE 73 (zT [(22,Ba false)] Z7) (zH [(6,[.v (.nilIface)])] (zH Z4 Z5)) ?_)
 refine iF (Aa rfl (jB .eql 9 (.string (⟨#[42,42]⟩)) (.string (⟨#[45]⟩)) 33 ?_))
 refine Ap ((by decide)) ?_
 refine iQ 1 (iE 73 (zT [(22,Ba false),(32,Ba false)] Z7) (zH [(6,[.v (.nilIface)])] (zH Z4 Z5)) ?_)
 refine iF (Aa rfl (jB .eql 9 (.string (⟨#[42,42]⟩)) (.string (⟨#[42]⟩)) 43 ?_))
 refine Ap ((by decide)) ?_
 refine iQ 1 ?_
 let Z8:=zT [(22,Ba false),(32,Ba false),(42,Ba false)] []
 refine iE 73 (zT Z8 Z7) (zH [(6,[.v (.nilIface)])] (zH Z4 Z5)) ?_
 refine iF (Aa rfl (jB .eql 9 (.string (⟨#[42,42]⟩)) (.string (⟨#[47]⟩)) 53 ?_))
 refine Ap ((by decide)) ?_
 refine iQ 1 (iE 73 (zT [(52,Ba false)] (zT Z7 Z8)) (zH [(6,[.v (.nilIface)])] (zH Z4 Z5)) ?_)
 refine iF (Aa rfl (jB .eql 9 (.string (⟨#[42,42]⟩)) (.string (⟨#[42,42]⟩)) 66 ?_))
 refine Cl ((by decide)) ?_
 refine iQ 1 (iE 73 (zT [(52,Ba false),(65,Ba true)] (zT Z7 Z8)) (zH [(6,[.v (.nilIface)])] (zH Z4 Z5)) ?_)
 refine iT (Aa rfl (iQ 2 (jC 51 [.agg [Bv ((x).g),Hw ((x).n),Lw ((x).n),Iv ((x).e)],.agg [Bv ((y).g),Hw ((y).n),Lw ((y).n),Iv ((y).e)]] 69 (powE) ?_)))
 rintro _ ⟨v,o,z,ok,rfl,h1,h2,h3⟩
 refine iQ 4 ?_
 let Z9:=zT [(6,.p 6 0),(7,Ba o),(8,.p 8 0),(9,.p 9 0),(19,Ba false),(21,.d (Sv (⟨#[42,42]⟩))),(52,Ba false),(65,Ba true)] []
 refine iE 73 (zT Z9 Z8) (zH [(6,[.bx (v).enc])] (zH Z4 Z5)) ?_
 refine Ab (Ai (Ah (iS (.agg [.bx (v).enc]) (Bv o) [] ?_)))
 exact ⟨_,v,o,z,ok,rfl,.inl rfl,h1,h2,h3⟩
open Go.RowKit
set_option linter.unusedVariables false
set_option linter.unusedSimpArgs false
set_option maxRecDepth 100000
theorem Az {v:Vl} (h:v=.null):HasC Tryz.prog 17 [VV v] (fun y=>y=.v (.bool true)):=by subst h;exact Rt .null
theorem b09 {z:Int} {x:D3} (h:Sz z=x.vl) (h0 : -9223372036854775808≤z) (h1:z≤9223372036854775807):HasC Tryz.prog 10 [.v (.int .i64 z)] (fun r=>r=VV (.num x.g x.n x.e)):=(Lh h0 h1).mono fun r hr=>by rw[hr,h];rfl
theorem Bj {v:Vl} (h:v.isNum=true):v.kindI=3:=by
 cases v<;>simp[Vl.isNum,Vl.kindI] at *
theorem b3d {x:D3}:HasC Tryz.prog 14 [.agg [.bx (Vl.num (x).g (x).n (x).e).enc],.v (.bool true),.agg [.v (.bool ((x).g)),.v (.int .u64 (hiW ((x).n))),.v (.int .u64 (loW ((x).n))),.v (.int .i64 ((x).e))],.v (.bool true)] (fun r=>r=.v (.bool true)):=by
 refine hO [] Tryz.f14 (fun a w=>Tryz.call14 a w) Tryz.func14 rfl (⟨_,rfl⟩) ?_
 refine Aa rfl (iQ 3 ?_)
 let Z1:=zT [(1,Ba true),(3,Ba true),(4,.p 4 0),(6,.p 6 0),(8,Ba false)] []
 let Z2:=zH [(6,[Bv ((x).g),Hw ((x).n),Lw ((x).n),Iv ((x).e)])] []
 refine iE 26 Z1 (zH [(4,[.bx (Vl.num (x).g (x).n (x).e).enc])] Z2) ?_
 refine Ae (Aa rfl (iQ 2 (jB .neq 4 (.bool true) (.bool true) 11 ?_)))
 refine Ap ((by simp)) ?_
 let Z3:=zT [(1,Ba true),(4,.p 4 0),(6,.p 6 0),(8,Ba false),(11,Ba false)] []
 refine iE 26 Z3 (zH [(4,[.bx (Vl.num (x).g (x).n (x).e).enc])] Z2) ?_
 refine iF (Ad (Af (Aa rfl (iQ 1 (jU .not (.bool true) 13 ?_)))))
 refine Ap ((by simp)) ?_
 refine iQ 9 (eC 23 [.agg [.bx (Vl.num (x).g (x).n (x).e).enc],.agg [Bv ((x).g),Hw ((x).n),Lw ((x).n),Iv ((x).e)]] 23 (Zo) (iQ 3 (iE 26 [(1,Ba true),(8,Ba true),(11,Ba false)] [] ?_)))
 refine Ab (iR (Bv true) ?_)
 rfl
theorem b2p {g:Bool} {k:Nat} {e:Int}:HasC Tryz.prog 14 [.agg [.bx (Vl.null).enc],.v (.bool false),.agg [.v (.bool g),.v (.int .u64 (hiW (k))),.v (.int .u64 (loW (k))),.v (.int .i64 e)],.v (.bool false)] (fun r=>r=.v (.bool true)):=by
 refine hO [] Tryz.f14 (fun a w=>Tryz.call14 a w) Tryz.func14 rfl (⟨_,rfl⟩) ?_
 refine Aa rfl (iQ 3 ?_)
 let Z1:=zT [(1,Ba false),(3,Ba false),(4,.p 4 0),(6,.p 6 0),(8,Ba false)] []
 let Z2:=zH [(4,[.bx (Vl.null).enc]),(6,[Bv g,Hw k,Lw k,Iv e])] []
 refine iE 26 Z1 Z2 ?_
 refine Ae (Aa rfl (iQ 2 (jB .neq 4 (.bool false) (.bool false) 11 ?_)))
 refine Ap ((by simp)) ?_
 let Z3:=zT [(1,Ba false),(4,.p 4 0),(6,.p 6 0),(8,Ba false),(11,Ba false)] []
 refine iE 26 Z3 Z2 ?_
 refine iF (Ad (Af (Aa rfl (iQ 1 (jU .not (.bool false) 13 ?_)))))
 refine Cl ((by simp)) ?_
 refine iQ 2 (eC 17 [.agg [.bx (Vl.null).enc]] 16 (Rt .null) (iQ 10 (iE 26 [(1,Ba false),(8,Ba true),(11,Ba false)] [] ?_)))
 refine Ab (iR (Bv true) ?_)
 rfl
theorem Nk {t:T4} {g:Bool} {k:Nat} {e:Int} {ok o:Bool} {v:Vl} (hT:t=(g,k,e,ok)) (hm:May g k e) (hv:v=Dz (Br t)) (ho:o=(Br t).isSome):HasC Tryz.prog 14 [VV v,.v (.bool o),Bo g k e,.v (.bool ok)] (fun r=>r=.v (.bool true)):=by
 subst hT
 cases ok with
 | true =>
  rw[Fx hm] at hv ho
  subst hv ho
  exact b3d (x:=⟨(g,k,e),hm⟩)
 | false =>
  rw[Ki] at hv ho
  subst hv ho
  exact b2p
open Go.RowKit
set_option linter.unusedVariables false
set_option linter.unusedSimpArgs false
set_option maxRecDepth 100000
def Wp (b:ByteArray):Prop:=b=⟨#[43]⟩∨b=⟨#[45]⟩∨b=⟨#[42]⟩∨b=⟨#[47]⟩∨b=⟨#[42,42]⟩
theorem b1f {x:D3} {o:Vl} (h:o.isNum=false):HasC Tryz.prog 49 [.agg [.bx (Vl.num (x).g (x).n (x).e).enc],.agg [.bx (o).enc]] (fun r=>r=.tup [Bo x.g x.n x.e,Bo false 0 0,.v (.bool false)]):=by
 refine hO [3] Tryz.f49 (fun a w=>Tryz.call49 a w) Tryz.func49 rfl (⟨_,rfl⟩) ?_
 refine Aa rfl (iQ 5 ?_)
 let Z1:=zT [(2,.p 2 0),(3,.p 3 0),(4,.p 4 0),(5,.p 5 0),(6,Ba false)] []
 let Z2:=zH [(2,[.bx (Vl.num (x).g (x).n (x).e).enc]),(3,[.bx (o).enc]),(4,[Bv false,Uv 0,Uv 0,Iv 0]),(5,[Bv false,Uv 0,Uv 0,Iv 0])] []
 refine iE 27 Z1 Z2 ?_
 refine Aa rfl (iQ 1 (eC 67 [.agg [.bx (Vl.num (x).g (x).n (x).e).enc]] 13 (Jn) (iQ 6 ?_)))
 let Z3:=zT [(3,.p 3 0),(4,.p 4 0),(5,.p 5 0),(6,Ba false),(7,.p 7 0),(8,Ba true)] []
 let Z4:=zH [(7,[Bv ((x).g),Hw ((x).n),Lw ((x).n),Iv ((x).e)])] []
 let Z5:=zH [(3,[.bx (o).enc]),(4,[Bv false,Uv 0,Uv 0,Iv 0]),(5,[Bv false,Uv 0,Uv 0,Iv 0])] []
 refine iE 27 Z3 (zH Z5 Z4) ?_
 refine Aa rfl (iQ 1 (eC 67 [.agg [.bx (o).enc]] 18 (a36 h) (iQ 6 ?_)))
 let Z6:=zT [(4,.p 4 0),(5,.p 5 0),(6,Ba false),(7,.p 7 0),(8,Ba true),(9,.p 9 0),(10,Ba false)] []
 let Z7:=zH [(4,[Bv false,Uv 0,Uv 0,Iv 0]),(5,[Bv false,Uv 0,Uv 0,Iv 0]),(9,[Bv false,Hw 0,Lw 0,Iv 0])] []
 refine iE 27 Z6 (zH Z7 Z4) ?_
 refine Mr rfl (by kernel_rfl) ?_
 refine iQ 9 ?_
 let Z8:=zT [(4,.p 4 0),(5,.p 5 0),(6,Ba false),(7,.p 7 0),(9,.p 9 0)] []
 let Z9:=zH [(4,[Bv ((x).g),Hw ((x).n),Lw ((x).n),Iv ((x).e)])] []
 let Z10:=zH [(5,[Bv false,Hw 0,Lw 0,Iv 0]),(9,[Bv false,Hw 0,Lw 0,Iv 0])] []
 let Z11:=zH Z10 (zH Z9 Z4)
 refine iE 27 Z8 Z11 ?_
 refine Ab (iS (.agg [Bv ((x).g),Hw ((x).n),Lw ((x).n),Iv ((x).e)]) (.agg [Bv false,Hw 0,Lw 0,Iv 0]) [Bv false] ?_)
 rfl
theorem a42 {b:ByteArray} {x:D3} {o:Vl} (h:o.isNum=false):HasC Tryz.prog 9 [.v (.string b),.agg [.bx (Vl.num (x).g (x).n (x).e).enc],.agg [.bx (o).enc]] (fun r => ∃ z v k,r=.tup [z,.v (.bool k)]∧IsV z v∧v=.null∧k=true):=by
 refine hO [] Tryz.f9 (fun a w=>Tryz.call9 a w) Tryz.func9 rfl (⟨_,_,_,_,rfl,.inl rfl,rfl,rfl⟩) ?_
 refine Aa rfl (iQ 4 ?_)
 let Z1:=zT [(0,.d (Sv b)),(4,.p 4 0),(5,.p 5 0),(6,.p 6 0),(7,Ba false)] []
 let Z2:=zH [(4,[.bx (Vl.num (x).g (x).n (x).e).enc]),(5,[.bx (o).enc]),(6,[.v (.nilIface)])] []
 refine iE 73 Z1 Z2 ?_
 refine Aa rfl (iQ 2 (eC 49 [.agg [.bx (Vl.num (x).g (x).n (x).e).enc],.agg [.bx (o).enc]] 14 (b1f h) (iQ 9 ?_)))
 let Z3:=zT [(0,.d (Sv b)),(6,.p 6 0),(7,Ba false),(8,.p 8 0),(9,.p 9 0),(10,Ba false)] []
 let Z4:=zH [(8,[Bv ((x).g),Hw ((x).n),Lw ((x).n),Iv ((x).e)])] []
 let Z5:=zH [(6,[.v (.nilIface)]),(9,[Bv false,Hw 0,Lw 0,Iv 0])] []
 refine iE 73 Z3 (zH Z5 Z4) ?_
 refine Ae (Aa rfl (iQ 1 (jU .not (.bool false) 19 ?_)))
 refine Cl ((by simp)) ?_
 let Z6:=zT [(0,.d (Sv b)),(6,.p 6 0),(7,Ba false),(8,.p 8 0),(9,.p 9 0),(19,Ba true)] []
 refine iE 73 Z6 (zH Z5 Z4) ?_
 refine iT (Aa rfl (iQ 3 ?_))
 let Z7:=zT [(0,.d (Sv b)),(6,.p 6 0),(7,Ba true),(8,.p 8 0),(9,.p 9 0),(19,Ba true)] []
 refine iE 73 Z7 (zH Z5 Z4) ?_
 refine Ab (Ah (iS (.agg [.v (.nilIface)]) (Bv true) [] ?_))
 exact ⟨_,.null,_,rfl,IsV.null,rfl,rfl⟩
theorem Xt {b:ByteArray} {x y:D3} (h : ¬ Wp b):HasC Tryz.prog 9 [.v (.string b),.agg [.bx (Vl.num (x).g (x).n (x).e).enc],.agg [.bx (Vl.num (y).g (y).n (y).e).enc]] (fun r => ∃ z v k,r=.tup [z,.v (.bool k)]∧IsV z v∧v=.null∧k=true):=by
 refine hO [] Tryz.f9 (fun a w=>Tryz.call9 a w) Tryz.func9 rfl (⟨_,_,_,_,rfl,.inl rfl,rfl,rfl⟩) ?_
 refine Aa rfl (iQ 4 ?_)
 let Z1:=zT [(0,.d (Sv b)),(4,.p 4 0),(5,.p 5 0),(6,.p 6 0),(7,Ba false)] []
 let Z2:=zH [(4,[.bx (Vl.num (x).g (x).n (x).e).enc]),(5,[.bx (Vl.num (y).g (y).n (y).e).enc]),(6,[.v (.nilIface)])] []
 refine iE 73 Z1 Z2 ?_
 refine Aa rfl (iQ 2 (eC 49 [.agg [.bx (Vl.num (x).g (x).n (x).e).enc],.agg [.bx (Vl.num (y).g (y).n (y).e).enc]] 14 (Rs) (iQ 9 ?_)))
 let Z3:=zT [(0,.d (Sv b)),(6,.p 6 0),(7,Ba false),(8,.p 8 0),(9,.p 9 0),(10,Ba true)] []
 let Z4:=zH [(8,[Bv ((x).g),Hw ((x).n),Lw ((x).n),Iv ((x).e)])] []
 let Z5:=zH [(9,[Bv ((y).g),Hw ((y).n),Lw ((y).n),Iv ((y).e)])] []
 refine iE 73 Z3 (zH [(6,[.v (.nilIface)])] (zH Z5 Z4)) ?_
 refine Ae (Aa rfl (iQ 1 (jU .not (.bool true) 19 ?_)))
 refine Ap ((by simp)) ?_
 let Z6:=zT [(0,.d (Sv b)),(6,.p 6 0),(7,Ba false),(8,.p 8 0),(9,.p 9 0),(19,Ba false)] []
 refine iE 73 Z6 (zH [(6,[.v (.nilIface)])] (zH Z4 Z5)) ?_
 refine iF (Ad (Af (Ae (Aa rfl (iQ 1 ?_)))))
 let Z7:=zT [(6,.p 6 0),(7,Ba false),(8,.p 8 0),(9,.p 9 0),(19,Ba false),(21,.d (Sv b))] []
 refine iE 73 Z7 (zH [(6,[.v (.nilIface)])] (zH Z4 Z5)) ?_
 refine Ak (Aa rfl (jB .eql 9 (.string b) (.string (⟨#[43]⟩)) 23 ?_))
 refine Ap ((fun e=>h (.inl e))) ?_
 refine iQ 1 (iE 73 (zT [(22,Ba false)] Z7) (zH [(6,[.v (.nilIface)])] (zH Z4 Z5)) ?_)
 refine iF (Aa rfl (jB .eql 9 (.string b) (.string (⟨#[45]⟩)) 33 ?_))
 refine Ap ((fun e=>h (.inr (.inl e)))) ?_
 refine iQ 1 (iE 73 (zT [(22,Ba false),(32,Ba false)] Z7) (zH [(6,[.v (.nilIface)])] (zH Z4 Z5)) ?_)
 refine iF (Aa rfl (jB .eql 9 (.string b) (.string (⟨#[42]⟩)) 43 ?_))
 refine Ap ((fun e=>h (.inr (.inr (.inl e))))) ?_
 refine iQ 1 ?_
 let Z8:=zT [(22,Ba false),(32,Ba false),(42,Ba false)] []
 refine iE 73 (zT Z8 Z7) (zH [(6,[.v (.nilIface)])] (zH Z4 Z5)) ?_
 refine iF (Aa rfl (jB .eql 9 (.string b) (.string (⟨#[47]⟩)) 53 ?_))
 refine Ap ((fun e=>h (.inr (.inr (.inr (.inl e)))))) ?_
 refine iQ 1 (iE 73 (zT [(52,Ba false)] (zT Z7 Z8)) (zH [(6,[.v (.nilIface)])] (zH Z4 Z5)) ?_)
 refine iF (Aa rfl (jB .eql 9 (.string b) (.string (⟨#[42,42]⟩)) 66 ?_))
 refine Ap ((fun e=>h (.inr (.inr (.inr (.inr e)))))) ?_
 refine iQ 1 (iE 73 (zT [(52,Ba false),(65,Ba false)] (zT Z7 Z8)) (zH [(6,[.v (.nilIface)])] (zH Z4 Z5)) ?_)
 refine iF (Ad (Ao (Af (Aa rfl (iQ 3 ?_)))))
 let Z9:=zT [(6,.p 6 0),(7,Ba true),(8,.p 8 0),(9,.p 9 0),(19,Ba false),(21,.d (Sv b)),(52,Ba false),(65,Ba false)] []
 refine iE 73 (zT Z9 Z8) (zH [(6,[.v (.nilIface)])] (zH Z4 Z5)) ?_
 refine Ab (iS (.agg [.v (.nilIface)]) (Bv true) [] ?_)
 exact ⟨_,.null,_,rfl,IsV.null,rfl,rfl⟩
theorem b51 {o:Vl} (h:o.isNum=true) (hk:o.ok) : ∃ y:D3,o=y.vl:=by
 cases o with
 | num g n e=>rw[Vl.ok] at hk;exact ⟨⟨(g,n,e),hk⟩,rfl⟩
 | _=>cases h
theorem Gj {b:ByteArray} {x:D3} {o:Vl} (hk:o.ok):HasC Tryz.prog 9 [.v (.string b),VV (.num x.g x.n x.e),VV o] (fun r => ∃ u k,r=.tup [VV u,.v (.bool k)]∧(¬ (o.isNum=true∧Wp b)→u=.null∧k=true)):=by
 cases hi:o.isNum with
 | false=>exact ((a42 (b:=b) (x:=x) hi).isVb (q:=fun v k=>v=.null∧k=true)).mono fun r ⟨u,k,h1,h2⟩=>⟨u,k,h1,fun _=>h2⟩
 | true =>
  obtain ⟨y,rfl⟩:=b51 hi hk
  by_cases hp:Wp b
  ·have no : ∀ (u:Vl) (k:Bool),¬ (y.vl.isNum=true∧Wp b)→u=.null∧k=true:=fun u k h=>absurd ⟨hi,hp⟩ h
   rcases hp with rfl | rfl | rfl | rfl | rfl
   ·exact (Fs (a6k (x:=x) (y:=y))).mono fun r ⟨u,k,h1,_⟩=>⟨u,k,h1,no u k⟩
   ·exact (Fs (a8y (x:=x) (y:=y))).mono fun r ⟨u,k,h1,_⟩=>⟨u,k,h1,no u k⟩
   ·exact (Fs (a9o (x:=x) (y:=y))).mono fun r ⟨u,k,h1,_⟩=>⟨u,k,h1,no u k⟩
   ·by_cases hy:y.n=0
    ·exact (Ww (x:=x) hy).mono fun r h=>⟨_,_,h,no _ _⟩
    ·exact (Fs (a07 (x:=x) hy)).mono fun r ⟨u,k,h1,_⟩=>⟨u,k,h1,no u k⟩
   ·exact (HasC.isVb (q:=fun _ _=>True) ((b3t (x:=x) (y:=y)).mono fun r ⟨q,v,o,z,ok,h1,h2,_⟩=>⟨q,v,o,h1,h2,trivial⟩)).mono fun r ⟨u,k,h1,_⟩=>⟨u,k,h1,no u k⟩
  ·exact ((Xt (x:=x) (y:=y) hp).isVb (q:=fun v k=>v=.null∧k=true)).mono fun r ⟨u,k,h1,h2⟩=>⟨u,k,h1,fun _=>h2⟩
end Go.Proofs.YtdkgnmiiibpnnaaGreatDoor
