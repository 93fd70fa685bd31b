/- value's AsNum of whatever is no number. numfun.power; Arith's '**'. What the laws of numfun share: like; whole numbers; kinds. numfun.Arith of a number and whatever else, by whatever operator. -/
import Derived.Test.YtdkgnmiiibpnnaaGreatDoorVlY
import Derived.Test.YtdkgnmiiibpnnaaGreatDoorNfP
import Derived.Test.YtdkgnmiiibpnnaaGreatDoorDecX
import Derived.Test.YtdkgnmiiibpnnaaGreatDoorNfZ
import Derived.Test.YtdkgnmiiibpnnaaGreatDoorVlX
namespace Go.Proofs.YtdkgnmiiibpnnaaGreatDoor
open Go.RowKit
set_option linter.unusedVariables false
set_option linter.unusedSimpArgs false
set_option maxRecDepth 100000
def Vl.isNum:Vl→Bool
 | .num _ _ _=>true
 | _=>false
theorem Xi {d:DV}:HasC Tryz.prog 67 [.agg [.ifc 108 (d)]] (fun r=>r=.tup [Bk false 0 0,.v (.bool false)]):=by
 refine hO [] Tryz.f67 (fun a w=>Tryz.call67 a w) Tryz.func67 rfl (⟨_,rfl⟩) ?_
 refine Aa rfl (iQ 3 ?_)
 let Z1:=zH [(1,[.ifc 108 (d)]),(2,[Bv false,Uv 0,Uv 0,Iv 0])] []
 refine iE 14 [(1,.p 1 0),(2,.p 2 0),(3,Ba false)] Z1 ?_
 refine Aa rfl (iQ 9 ?_)
 let Z2:=zT [(2,.p 2 0),(3,Ba false),(4,.p 4 0),(5,Ba false)] []
 let Z3:=zH [(2,[Bv false,Uv 0,Uv 0,Iv 0]),(4,[Bv false,Uv 0,Uv 0,Iv 0])] []
 refine iE 14 Z2 Z3 ?_
 refine Aa rfl (iQ 4 (iE 14 [(2,.p 2 0),(3,Ba false),(4,.p 4 0)] Z3 ?_))
 refine Ab (iS (.agg [Bv false,Uv 0,Uv 0,Iv 0]) (Bv false) [] ?_)
 rfl
theorem Yu {d:DV}:HasC Tryz.prog 67 [.agg [.ifc 179 (d)]] (fun r=>r=.tup [Bk false 0 0,.v (.bool false)]):=by
 refine hO [] Tryz.f67 (fun a w=>Tryz.call67 a w) Tryz.func67 rfl (⟨_,rfl⟩) ?_
 refine Aa rfl (iQ 3 ?_)
 let Z1:=zH [(1,[.ifc 179 (d)]),(2,[Bv false,Uv 0,Uv 0,Iv 0])] []
 refine iE 14 [(1,.p 1 0),(2,.p 2 0),(3,Ba false)] Z1 ?_
 refine Aa rfl (iQ 9 ?_)
 let Z2:=zT [(2,.p 2 0),(3,Ba false),(4,.p 4 0),(5,Ba false)] []
 let Z3:=zH [(2,[Bv false,Uv 0,Uv 0,Iv 0]),(4,[Bv false,Uv 0,Uv 0,Iv 0])] []
 refine iE 14 Z2 Z3 ?_
 refine Aa rfl (iQ 4 (iE 14 [(2,.p 2 0),(3,Ba false),(4,.p 4 0)] Z3 ?_))
 refine Ab (iS (.agg [Bv false,Uv 0,Uv 0,Iv 0]) (Bv false) [] ?_)
 rfl
theorem Zs {d:DV}:HasC Tryz.prog 67 [.agg [.ifc 181 (d)]] (fun r=>r=.tup [Bk false 0 0,.v (.bool false)]):=by
 refine hO [] Tryz.f67 (fun a w=>Tryz.call67 a w) Tryz.func67 rfl (⟨_,rfl⟩) ?_
 refine Aa rfl (iQ 3 ?_)
 let Z1:=zH [(1,[.ifc 181 (d)]),(2,[Bv false,Uv 0,Uv 0,Iv 0])] []
 refine iE 14 [(1,.p 1 0),(2,.p 2 0),(3,Ba false)] Z1 ?_
 refine Aa rfl (iQ 9 ?_)
 let Z2:=zT [(2,.p 2 0),(3,Ba false),(4,.p 4 0),(5,Ba false)] []
 let Z3:=zH [(2,[Bv false,Uv 0,Uv 0,Iv 0]),(4,[Bv false,Uv 0,Uv 0,Iv 0])] []
 refine iE 14 Z2 Z3 ?_
 refine Aa rfl (iQ 4 (iE 14 [(2,.p 2 0),(3,Ba false),(4,.p 4 0)] Z3 ?_))
 refine Ab (iS (.agg [Bv false,Uv 0,Uv 0,Iv 0]) (Bv false) [] ?_)
 rfl
theorem Ya {d:DV}:HasC Tryz.prog 67 [.agg [.ifc 185 (d)]] (fun r=>r=.tup [Bk false 0 0,.v (.bool false)]):=by
 refine hO [] Tryz.f67 (fun a w=>Tryz.call67 a w) Tryz.func67 rfl (⟨_,rfl⟩) ?_
 refine Aa rfl (iQ 3 ?_)
 let Z1:=zH [(1,[.ifc 185 (d)]),(2,[Bv false,Uv 0,Uv 0,Iv 0])] []
 refine iE 14 [(1,.p 1 0),(2,.p 2 0),(3,Ba false)] Z1 ?_
 refine Aa rfl (iQ 9 ?_)
 let Z2:=zT [(2,.p 2 0),(3,Ba false),(4,.p 4 0),(5,Ba false)] []
 let Z3:=zH [(2,[Bv false,Uv 0,Uv 0,Iv 0]),(4,[Bv false,Uv 0,Uv 0,Iv 0])] []
 refine iE 14 Z2 Z3 ?_
 refine Aa rfl (iQ 4 (iE 14 [(2,.p 2 0),(3,Ba false),(4,.p 4 0)] Z3 ?_))
 refine Ab (iS (.agg [Bv false,Uv 0,Uv 0,Iv 0]) (Bv false) [] ?_)
 rfl
theorem a0d {d:DV}:HasC Tryz.prog 67 [.agg [.ifc 187 (d)]] (fun r=>r=.tup [Bk false 0 0,.v (.bool false)]):=by
 refine hO [] Tryz.f67 (fun a w=>Tryz.call67 a w) Tryz.func67 rfl (⟨_,rfl⟩) ?_
 refine Aa rfl (iQ 3 ?_)
 let Z1:=zH [(1,[.ifc 187 (d)]),(2,[Bv false,Uv 0,Uv 0,Iv 0])] []
 refine iE 14 [(1,.p 1 0),(2,.p 2 0),(3,Ba false)] Z1 ?_
 refine Aa rfl (iQ 9 ?_)
 let Z2:=zT [(2,.p 2 0),(3,Ba false),(4,.p 4 0),(5,Ba false)] []
 let Z3:=zH [(2,[Bv false,Uv 0,Uv 0,Iv 0]),(4,[Bv false,Uv 0,Uv 0,Iv 0])] []
 refine iE 14 Z2 Z3 ?_
 refine Aa rfl (iQ 4 (iE 14 [(2,.p 2 0),(3,Ba false),(4,.p 4 0)] Z3 ?_))
 refine Ab (iS (.agg [Bv false,Uv 0,Uv 0,Iv 0]) (Bv false) [] ?_)
 rfl
theorem Wr {d:DV}:HasC Tryz.prog 67 [.agg [.ifc 135 (d)]] (fun r=>r=.tup [Bk false 0 0,.v (.bool false)]):=by
 refine hO [] Tryz.f67 (fun a w=>Tryz.call67 a w) Tryz.func67 rfl (⟨_,rfl⟩) ?_
 refine Aa rfl (iQ 3 ?_)
 let Z1:=zH [(1,[.ifc 135 (d)]),(2,[Bv false,Uv 0,Uv 0,Iv 0])] []
 refine iE 14 [(1,.p 1 0),(2,.p 2 0),(3,Ba false)] Z1 ?_
 refine Aa rfl (iQ 9 ?_)
 let Z2:=zT [(2,.p 2 0),(3,Ba false),(4,.p 4 0),(5,Ba false)] []
 let Z3:=zH [(2,[Bv false,Uv 0,Uv 0,Iv 0]),(4,[Bv false,Uv 0,Uv 0,Iv 0])] []
 refine iE 14 Z2 Z3 ?_
 refine Aa rfl (iQ 4 (iE 14 [(2,.p 2 0),(3,Ba false),(4,.p 4 0)] Z3 ?_))
 refine Ab (iS (.agg [Bv false,Uv 0,Uv 0,Iv 0]) (Bv false) [] ?_)
 rfl
theorem Rs {d:DV}:HasC Tryz.prog 67 [.agg [.ifc 138 (d)]] (fun r=>r=.tup [Bk false 0 0,.v (.bool false)]):=by
 refine hO [] Tryz.f67 (fun a w=>Tryz.call67 a w) Tryz.func67 rfl (⟨_,rfl⟩) ?_
 refine Aa rfl (iQ 3 ?_)
 let Z1:=zH [(1,[.ifc 138 (d)]),(2,[Bv false,Uv 0,Uv 0,Iv 0])] []
 refine iE 14 [(1,.p 1 0),(2,.p 2 0),(3,Ba false)] Z1 ?_
 refine Aa rfl (iQ 9 ?_)
 let Z2:=zT [(2,.p 2 0),(3,Ba false),(4,.p 4 0),(5,Ba false)] []
 let Z3:=zH [(2,[Bv false,Uv 0,Uv 0,Iv 0]),(4,[Bv false,Uv 0,Uv 0,Iv 0])] []
 refine iE 14 Z2 Z3 ?_
 refine Aa rfl (iQ 4 (iE 14 [(2,.p 2 0),(3,Ba false),(4,.p 4 0)] Z3 ?_))
 refine Ab (iS (.agg [Bv false,Uv 0,Uv 0,Iv 0]) (Bv false) [] ?_)
 rfl
theorem Wd {d:DV}:HasC Tryz.prog 67 [.agg [.ifc 118 (d)]] (fun r=>r=.tup [Bk false 0 0,.v (.bool false)]):=by
 refine hO [] Tryz.f67 (fun a w=>Tryz.call67 a w) Tryz.func67 rfl (⟨_,rfl⟩) ?_
 refine Aa rfl (iQ 3 ?_)
 let Z1:=zH [(1,[.ifc 118 (d)]),(2,[Bv false,Uv 0,Uv 0,Iv 0])] []
 refine iE 14 [(1,.p 1 0),(2,.p 2 0),(3,Ba false)] Z1 ?_
 refine Aa rfl (iQ 9 ?_)
 let Z2:=zT [(2,.p 2 0),(3,Ba false),(4,.p 4 0),(5,Ba false)] []
 let Z3:=zH [(2,[Bv false,Uv 0,Uv 0,Iv 0]),(4,[Bv false,Uv 0,Uv 0,Iv 0])] []
 refine iE 14 Z2 Z3 ?_
 refine Aa rfl (iQ 4 (iE 14 [(2,.p 2 0),(3,Ba false),(4,.p 4 0)] Z3 ?_))
 refine Ab (iS (.agg [Bv false,Uv 0,Uv 0,Iv 0]) (Bv false) [] ?_)
 rfl
theorem a1f {d:DV}:HasC Tryz.prog 67 [.agg [.ifc 197 (d)]] (fun r=>r=.tup [Bk false 0 0,.v (.bool false)]):=by
 refine hO [] Tryz.f67 (fun a w=>Tryz.call67 a w) Tryz.func67 rfl (⟨_,rfl⟩) ?_
 refine Aa rfl (iQ 3 ?_)
 let Z1:=zH [(1,[.ifc 197 (d)]),(2,[Bv false,Uv 0,Uv 0,Iv 0])] []
 refine iE 14 [(1,.p 1 0),(2,.p 2 0),(3,Ba false)] Z1 ?_
 refine Aa rfl (iQ 9 ?_)
 let Z2:=zT [(2,.p 2 0),(3,Ba false),(4,.p 4 0),(5,Ba false)] []
 let Z3:=zH [(2,[Bv false,Uv 0,Uv 0,Iv 0]),(4,[Bv false,Uv 0,Uv 0,Iv 0])] []
 refine iE 14 Z2 Z3 ?_
 refine Aa rfl (iQ 4 (iE 14 [(2,.p 2 0),(3,Ba false),(4,.p 4 0)] Z3 ?_))
 refine Ab (iS (.agg [Bv false,Uv 0,Uv 0,Iv 0]) (Bv false) [] ?_)
 rfl
theorem a0b {d:DV}:HasC Tryz.prog 67 [.agg [.ifc 200 (d)]] (fun r=>r=.tup [Bk false 0 0,.v (.bool false)]):=by
 refine hO [] Tryz.f67 (fun a w=>Tryz.call67 a w) Tryz.func67 rfl (⟨_,rfl⟩) ?_
 refine Aa rfl (iQ 3 ?_)
 let Z1:=zH [(1,[.ifc 200 (d)]),(2,[Bv false,Uv 0,Uv 0,Iv 0])] []
 refine iE 14 [(1,.p 1 0),(2,.p 2 0),(3,Ba false)] Z1 ?_
 refine Aa rfl (iQ 9 ?_)
 let Z2:=zT [(2,.p 2 0),(3,Ba false),(4,.p 4 0),(5,Ba false)] []
 let Z3:=zH [(2,[Bv false,Uv 0,Uv 0,Iv 0]),(4,[Bv false,Uv 0,Uv 0,Iv 0])] []
 refine iE 14 Z2 Z3 ?_
 refine Aa rfl (iQ 4 (iE 14 [(2,.p 2 0),(3,Ba false),(4,.p 4 0)] Z3 ?_))
 refine Ab (iS (.agg [Bv false,Uv 0,Uv 0,Iv 0]) (Bv false) [] ?_)
 rfl
theorem Yk:HasC Tryz.prog 67 [.agg [.v (.nilIface)]] (fun r=>r=.tup [Bk false 0 0,.v (.bool false)]):=by
 refine hO [] Tryz.f67 (fun a w=>Tryz.call67 a w) Tryz.func67 rfl (⟨_,rfl⟩) ?_
 refine Aa rfl (iQ 3 ?_)
 let Z1:=zH [(1,[.v (.nilIface)]),(2,[Bv false,Uv 0,Uv 0,Iv 0])] []
 refine iE 14 [(1,.p 1 0),(2,.p 2 0),(3,Ba false)] Z1 ?_
 refine Aa rfl (iQ 9 ?_)
 let Z2:=zT [(2,.p 2 0),(3,Ba false),(4,.p 4 0),(5,Ba false)] []
 let Z3:=zH [(2,[Bv false,Uv 0,Uv 0,Iv 0]),(4,[Bv false,Uv 0,Uv 0,Iv 0])] []
 refine iE 14 Z2 Z3 ?_
 refine Aa rfl (iQ 4 (iE 14 [(2,.p 2 0),(3,Ba false),(4,.p 4 0)] Z3 ?_))
 refine Ab (iS (.agg [Bv false,Uv 0,Uv 0,Iv 0]) (Bv false) [] ?_)
 rfl
theorem Ke {v:Vl} (h:v.isNum=false):HasC Tryz.prog 67 [VV v] (fun r=>r=.tup [Bk false 0 0,.v (.bool false)]):=by
 cases v
 case null=>exact HasC.ub Yk
 case num=>cases h
 case bool=>exact HasC.ub Xi
 case text=>exact HasC.ub Yu
 case day=>exact HasC.ub Zs
 case time=>exact HasC.ub Ya
 case mom=>exact HasC.ub a0d
 case days=>exact HasC.ub Wr
 case months=>exact HasC.ub Rs
 case list=>exact HasC.ub Wd
 case ctx=>exact HasC.ub a1f
 case rng=>exact HasC.ub a0b
open Go.RowKit
set_option linter.unusedVariables false
set_option linter.unusedSimpArgs false
set_option maxRecDepth 100000
theorem a9n:May false 0 0:=⟨by decide,by decide,by decide,fun h=>by cases h⟩
open Go.RowKit
set_option linter.unusedVariables false
set_option linter.unusedSimpArgs false
set_option maxRecDepth 100000
theorem a1v {v:Vl} (h:v=.null):HasC Tryz.prog 17 [VV v] (fun y=>y=.v (.bool true)):=by subst h;exact Gw .null
theorem b2n {z:Int} {x:D3} (h:Ot z=x.vl) (h0 : -9223372036854775808≤z) (h1:z≤9223372036854775807):HasC Tryz.prog 10 [.v (.int .i64 z)] (fun r=>r=VV (.num x.g x.n x.e)):=(Lk h0 h1).mono fun r hr=>by rw[hr,h];rfl
theorem b5d {x:D3}:HasC Tryz.prog 14 [.agg [.bx (Vl.num (x).g (x).n (x).e).enc],.v (.bool true),.agg [.v (.bool ((x).g)),.v (.int .u64 (hiW ((x).n))),.v (.int .u64 (loW ((x).n))),.v (.int .i64 ((x).e))],.v (.bool true)] (fun r=>r=.v (.bool true)):=by
 refine hO [] Tryz.f14 (fun a w=>Tryz.call14 a w) Tryz.func14 rfl (⟨_,rfl⟩) ?_
 refine Aa rfl (iQ 3 ?_)
 let Z1:=zT [(1,Ba true),(3,Ba true),(4,.p 4 0),(6,.p 6 0),(8,Ba false)] []
 let Z2:=zH [(6,[Bv ((x).g),Hw ((x).n),Lw ((x).n),Iv ((x).e)])] []
 refine iE 26 Z1 (zH [(4,[.bx (Vl.num (x).g (x).n (x).e).enc])] Z2) ?_
 refine Ae (Aa rfl (iQ 2 (jB .neq 4 (.bool true) (.bool true) 11 ?_)))
 refine An ((by simp)) ?_
 let Z3:=zT [(1,Ba true),(4,.p 4 0),(6,.p 6 0),(8,Ba false),(11,Ba false)] []
 refine iE 26 Z3 (zH [(4,[.bx (Vl.num (x).g (x).n (x).e).enc])] Z2) ?_
 refine iF (Ad (Af (Aa rfl (iQ 1 (jU .not (.bool true) 13 ?_)))))
 refine An ((by simp)) ?_
 refine iQ 9 (eC 23 [.agg [.bx (Vl.num (x).g (x).n (x).e).enc],.agg [Bv ((x).g),Hw ((x).n),Lw ((x).n),Iv ((x).e)]] 23 (Vp) (iQ 3 (iE 26 [(1,Ba true),(8,Ba true),(11,Ba false)] [] ?_)))
 refine Ab (iR (Bv true) ?_)
 rfl
theorem b5m {g:Bool} {k:Nat} {e:Int}:HasC Tryz.prog 14 [.agg [.bx (Vl.null).enc],.v (.bool false),.agg [.v (.bool g),.v (.int .u64 (hiW (k))),.v (.int .u64 (loW (k))),.v (.int .i64 e)],.v (.bool false)] (fun r=>r=.v (.bool true)):=by
 refine hO [] Tryz.f14 (fun a w=>Tryz.call14 a w) Tryz.func14 rfl (⟨_,rfl⟩) ?_
 refine Aa rfl (iQ 3 ?_)
 let Z1:=zT [(1,Ba false),(3,Ba false),(4,.p 4 0),(6,.p 6 0),(8,Ba false)] []
 let Z2:=zH [(4,[.bx (Vl.null).enc]),(6,[Bv g,Hw k,Lw k,Iv e])] []
 refine iE 26 Z1 Z2 ?_
 refine Ae (Aa rfl (iQ 2 (jB .neq 4 (.bool false) (.bool false) 11 ?_)))
 refine An ((by simp)) ?_
 let Z3:=zT [(1,Ba false),(4,.p 4 0),(6,.p 6 0),(8,Ba false),(11,Ba false)] []
 refine iE 26 Z3 Z2 ?_
 refine iF (Ad (Af (Aa rfl (iQ 1 (jU .not (.bool false) 13 ?_)))))
 refine Bn ((by simp)) ?_
 refine iQ 2 (eC 17 [.agg [.bx (Vl.null).enc]] 16 (Gw .null) (iQ 10 (iE 26 [(1,Ba false),(8,Ba true),(11,Ba false)] [] ?_)))
 refine Ab (iR (Bv true) ?_)
 rfl
theorem b6e {t:T4} {g:Bool} {k:Nat} {e:Int} {ok o:Bool} {v:Vl} (hT:t=(g,k,e,ok)) (hm:May g k e) (hv:v=Dz (Cf t)) (ho:o=(Cf t).isSome):HasC Tryz.prog 14 [VV v,.v (.bool o),Bk g k e,.v (.bool ok)] (fun r=>r=.v (.bool true)):=by
 subst hT
 cases ok with
 | true =>
  rw[Dw hm] at hv ho
  subst hv ho
  exact b5d (x:=⟨(g,k,e),hm⟩)
 | false =>
  rw[Eq] at hv ho
  subst hv ho
  exact b5m
open Go.RowKit
set_option linter.unusedVariables false
set_option linter.unusedSimpArgs false
set_option maxRecDepth 100000
end Go.Proofs.YtdkgnmiiibpnnaaGreatDoor
