/- Values: what is in them, without memory; how they read. value.Value's Kind, Null. value's As.. of any value: AsRange, AsBool; of the value that it is: the others. value's own: lists and texts cloned; a text's place among some; numbers, texts, days and so on as values. value's List, Range, Context: of any values. -/
import Derived.Test.YtdkgnmiiibpnnaaGreatDoorVcZ
import Derived.Test.YtdkgnmiiibpnnaaGreatDoorDecs
import Derived.Test.YtdkgnmiiibpnnaaGreatDoorCivZ
import Derived.Handy
import Derived.Test.YtdkgnmiiibpnnaaGreatDoorLayZ
namespace Go.Proofs.YtdkgnmiiibpnnaaGreatDoor
open Go.RowKit
set_option linter.unusedVariables false
set_option linter.unusedSimpArgs false
set_option maxRecDepth 100000
theorem HasC.args {P:Program} {f:FuncId} {ds ds':List DV} {post:DV→Prop} (h:HasC P f ds' post) (k : ∀ Im W vs,DV.relL Im W ds vs→DV.relL Im W ds' vs):HasC P f ds post :=
 ⟨h.1,h.2.1,fun W vs Im hK hIm hr=>h.2.2 W vs Im hK hIm (k _ _ _ hr)⟩
theorem HasC.weak {P:Program} {f:FuncId} {ds:List DV} {post post':DV→Prop} (h:HasC P f ds post) (k : ∀ y,post y → ∃ y',post' y' ∧ ∀ Im W r,y.rel Im W r→y'.rel Im W r):HasC P f ds post' :=
 ⟨h.1,h.2.1.elim fun y hy=>(k y hy).elim fun y' h'=>⟨y',h'.1⟩,fun W vs Im hK hIm hr=>(h.2.2 W vs Im hK hIm hr).mono fun e W' ⟨r,y,h1,h2,h3,h4⟩=>(k y h2).elim fun y' h'=>⟨r,y',h1,h'.1,h'.2 _ _ _ h3,h4⟩⟩
theorem a7m {Im:Nat→Nat→Prop} {W:World} {x:DV} {y:Value} (h1:x.one=true) (h:x.rel Im W y):(DV.bx x).rel Im W y:=by
 rw[DV.rel]
 exact ⟨DV.one_rel h h1,h⟩
theorem Sh {Im:Nat→Nat→Prop} {W:World} {x x':DV} {y:Value} (h : ∀ z,x.rel Im W z→x'.rel Im W z) (k:(DV.agg [x]).rel Im W y):(DV.agg [x']).rel Im W y:=by
 rw[DV.rel] at k ⊢
 obtain ⟨vs,e,k2⟩:=k
 refine ⟨vs,e,?_⟩
 rw[DV.relL] at k2 ⊢
 obtain ⟨u,us,e1,k3,k4⟩:=k2
 exact ⟨u,us,e1,h _ k3,k4⟩
theorem HasC.ub {P:Program} {f:FuncId} {x:DV} {r:List DV} {post:DV→Prop} (h:HasC P f (.agg [x]::r) post):HasC P f (.agg [.bx x]::r) post:=h.args fun Im W vs k=>by
 rw[DV.relL] at k ⊢
 obtain ⟨u,us,e,k1,k2⟩:=k
 exact ⟨u,us,e,Sh (fun z hz=>by rw[DV.rel] at hz;exact hz.2) k1,k2⟩
inductive Vl where
 | null
 | bool (b:Bool)
 | num (g:Bool) (n:Nat) (e:Int)
 | text (l:L8)
 | day (y m d:Int)
 | time (s:Int) (z:Bool) (o:Int)
 | mom (y m d s:Int) (z:Bool) (o:Int)
 | days (n:Int)
 | months (n:Int)
 | list (vs:List Vl)
 | ctx (ns:List L8) (vs:List Vl)
 | rng (lo hi:Vl) (p q:Bool)
def Bf (ns:List L8):List DV:=ns.map fun l=>.v (.string (tx l))
mutual
def Vl.enc:Vl→DV
 | .null=>.v .nilIface
 | .bool b=>.ifc 108 (.v (.bool b))
 | .num g n e=>.ifc 80 (Bk g n e)
 | .text l=>.ifc 179 (.v (.string (tx l)))
 | .day y m d=>.ifc 181 (.agg [.v (.int .i64 y),.v (.int .i64 m),.v (.int .i64 d)])
 | .time s z o=>.ifc 185 (.agg [.v (.int .i64 s),.v (.bool z),.v (.int .i64 o)])
 | .mom y m d s z o=>.ifc 187 (.agg [.v (.int .i64 y),.v (.int .i64 m),.v (.int .i64 d),.v (.int .i64 s),.v (.bool z),.v (.int .i64 o)])
 | .days n=>.ifc 135 (.v (.int .i64 n))
 | .months n=>.ifc 138 (.v (.int .i64 n))
 | .list vs=>.ifc 118 (.sl vs.length (Av vs))
 | .ctx ns vs=>.ifc 197 (.agg [.sl ns.length (Bf ns),.sl vs.length (Av vs)])
 | .rng lo hi p q=>.ifc 200 (.agg [.bx lo.enc,.bx hi.enc,.v (.bool p),.v (.bool q)])
def Av:List Vl→List DV
 | []=>[]
 | v::vs=>.bx v.enc::Av vs
end
abbrev BV (v:Vl):DV:=.bx v.enc
abbrev VV (v:Vl):DV:=.agg [.bx v.enc]
def Vl.nullB:Vl→Bool
 | .null=>true
 | _=>false
def Vl.kindI:Vl→Int
 | .null=>1
 | .bool _=>2
 | .num _ _ _=>3
 | .text _=>4
 | .day _ _ _=>5
 | .time _ _ _=>6
 | .mom _ _ _ _ _ _=>7
 | .days _=>8
 | .months _=>9
 | .list _=>10
 | .ctx _ _=>11
 | .rng _ _ _ _=>12
theorem Hy {v:Vl}:v.kindI=1↔v=.null:=by cases v<;>simp[Vl.kindI]
theorem a1q {v:Vl}:1≤v.kindI∧v.kindI≤12:=by cases v<;>simp[Vl.kindI]
theorem a3o (v:Vl):v.enc.one=true:=by cases v<;>simp[Vl.enc,DV.one,Value.oneCell']
theorem Jk : ∀ vs,Av vs=vs.map BV
 | []=>by simp[Av]
 | v::vs=>by rw[Av,Jk vs];rfl
@[simp] theorem c07 (vs:List Vl):(Av vs).length=vs.length:=by rw[Jk,List.length_map]
@[simp] theorem b9l (ns:List L8):(Bf ns).length=ns.length:=by simp[Bf]
theorem Ji : ∀ vs,Cb (Av vs)=true
 | []=>by simp[Av,Cb]
 | v::vs=>by rw[Av];simp only[Cb,DV.one,Bool.true_and];exact Ji vs
theorem Jj : ∀ ns,Cb (Bf ns)=true
 | []=>rfl
 | l::ns=>by
  have:=Jj ns
  simp only[Bf,List.map_cons,Cb,DV.one,Value.oneCell',Bool.true_and] at this ⊢
  exact this
theorem Ou {vs:List Vl} {k:Nat} {v:Vl} (h:vs[k]? = some v):(Av vs)[k]? = some (BV v):=by
 rw[Jk,List.getElem?_map,h]
 rfl
theorem HasC.bxR {P:Program} {f:FuncId} {ds:List DV} {v:Vl} (h:HasC P f ds (fun y=>y=.agg [v.enc])):HasC P f ds (fun y=>y=VV v) :=
 h.weak fun y hy=>⟨_,rfl,fun Im W r k=>by subst hy;exact Sh (fun z hz=>a7m (a3o v) hz) k⟩
def Ir (n:Int):Prop := -9007199254740992≤n∧n≤9007199254740992
def b2v (k:Int):Bool:=decide (3≤k∧k≤9)
mutual
def Vl.ok:Vl→Prop
 | .null=>True
 | .bool _=>True
 | .num g n e=>May g n e
 | .text l=>l.length≤1048576
 | .day y m d=>Io y m d
 | .time s z o=>Gv s z o
 | .mom y m d s z o=>Io y m d∧Gv s z o
 | .days n=>Ir n
 | .months n=>Ir n
 | .list vs=>vs.length≤1073741824∧okL vs
 | .ctx ns vs=>ns.length=vs.length∧ns.Nodup∧vs.length≤1073741824∧okL vs
 | .rng lo hi p q=>lo.ok∧hi.ok∧(lo=.null∨b2v lo.kindI=true)∧(hi=.null∨b2v hi.kindI=true)∧(lo ≠ .null→hi ≠ .null→lo.kindI=hi.kindI)∧(p=true→lo ≠ .null)∧(q=true→hi ≠ .null)
def okL:List Vl→Prop
 | []=>True
 | v::vs=>v.ok∧okL vs
end
theorem Xy : ∀ {vs:List Vl},okL vs ↔ ∀ v ∈ vs,v.ok
 | []=>by simp[okL]
 | v::vs=>by rw[okL,Xy];simp
open Go.RowKit
set_option linter.unusedVariables false
set_option linter.unusedSimpArgs false
set_option maxRecDepth 100000
theorem b5f {Im:Nat→Nat→Prop} {W:World} {t:TypeId} {d:DV} {vs:Array Value} (hr:DV.relL Im W [.agg [.ifc t d]] vs.toList) : ∃ u,vs=#[.agg #[.iface t u]]:=by
 rw[DV.relL] at hr
 obtain ⟨a,r0,e1,h1,h2⟩:=hr
 rw[DV.relL] at h2
 subst h2
 rw[DV.rel] at h1
 obtain ⟨xs,rfl,h3⟩:=h1
 rw[DV.relL] at h3
 obtain ⟨b,bs,e2,h4,h5⟩:=h3
 rw[DV.relL] at h5
 subst h5
 rw[DV.rel] at h4
 obtain ⟨u,rfl,h6⟩:=h4
 have ex:xs=#[.iface t u]:=Array.ext' e2
 exact ⟨u,Array.ext' (by rw[e1,ex])⟩
theorem b4h {Im:Nat→Nat→Prop} {W:World} {vs:Array Value} (hr:DV.relL Im W [.agg [.v .nilIface]] vs.toList):vs=#[.agg #[.nilIface]]:=by
 rw[DV.relL] at hr
 obtain ⟨a,r0,e1,h1,h2⟩:=hr
 rw[DV.relL] at h2
 subst h2
 rw[DV.rel] at h1
 obtain ⟨xs,rfl,h3⟩:=h1
 rw[DV.relL] at h3
 obtain ⟨b,bs,e2,h4,h5⟩:=h3
 rw[DV.relL] at h5
 subst h5
 rw[DV.rel] at h4
 subst h4
 have ex:xs=#[.nilIface]:=Array.ext' e2
 exact Array.ext' (by rw[e1,ex])
theorem HasC.ofIfc {f:FuncId} {t:TypeId} {r:Value} {d:DV} (hent:Is Tryz.prog f) (h : ∀ u w,Calls Tryz.prog f #[.agg #[.iface t u]] w fun e w'=>e=.returned r∧Below w.heap.size w w'):HasC Tryz.prog f [.agg [.ifc t d]] (fun y=>y=.v r):=by
 refine ⟨hent,⟨_,rfl⟩,fun W vs Im _ hIm hr => ?_⟩
 obtain ⟨u,rfl⟩:=b5f hr
 exact (h u W).mono fun e w' ⟨he,hb⟩=>⟨r,_,he,rfl,Sr r,hb⟩
theorem HasC.ofNil {f:FuncId} {r:Value} (hent:Is Tryz.prog f) (h : ∀ w,Calls Tryz.prog f #[.agg #[.nilIface]] w fun e w'=>e=.returned r∧Below w.heap.size w w'):HasC Tryz.prog f [.agg [.v .nilIface]] (fun y=>y=.v r):=by
 refine ⟨hent,⟨_,rfl⟩,fun W vs Im _ hIm hr => ?_⟩
 obtain rfl:=b4h hr
 exact (h W).mono fun e w' ⟨he,hb⟩=>⟨r,_,he,rfl,Sr r,hb⟩
theorem b4l {t:TypeId} {d:DV}:HasC Tryz.prog 17 [.agg [.ifc t d]] (fun y=>y=.v (.bool false)) :=
 HasC.ofIfc (fun args w=>Tryz.call17 args w) fun u w=>by
  go_enter Tryz.func17,Tryz.ntmps17
  go_wp2_with fail
  go_returns
  exact ⟨rfl,by go_grown⟩
theorem Wo:HasC Tryz.prog 17 [.agg [.v .nilIface]] (fun y=>y=.v (.bool true)) :=
 HasC.ofNil (fun args w=>Tryz.call17 args w) fun w=>by
  go_enter Tryz.func17,Tryz.ntmps17
  go_wp2_with fail
  go_returns
  exact ⟨rfl,by go_grown⟩
theorem Gw (v:Vl):HasC Tryz.prog 17 [VV v] (fun y=>y=.v (.bool v.nullB)):=by
 cases v
 case null=>exact HasC.ub Wo
 all_goals exact HasC.ub b4l
theorem b3q:HasC Tryz.prog 20 [.agg [.v .nilIface]] (fun y=>y=.v (.int .i64 1)) :=
 HasC.ofNil (fun args w=>Tryz.call20 args w) fun w=>by
  go_enter Tryz.func20,Tryz.ntmps20
  go_wp2_with fail
  go_returns
  exact ⟨rfl,by go_grown⟩
theorem Wi (u:Value) (w:World):Calls Tryz.prog 256 #[u] w fun e w'=>e=.returned (.int .i64 2)∧Below w.heap.size w w':=by
 go_enter Tryz.func256,Tryz.ntmps256
 go_wp2_with fail
 all_goals (go_returns;exact ⟨rfl,by go_grown⟩)
theorem Th {d:DV}:HasC Tryz.prog 20 [.agg [.ifc 108 d]] (fun y=>y=.v (.int .i64 2)) :=
 HasC.ofIfc (fun args w=>Tryz.call20 args w) fun u w=>by
  go_enter Tryz.func20,Tryz.ntmps20
  go_wp2_with fail
  go_call (Wi u) as e w1 ⟨he,hb⟩
  subst he
  go_wp2_with fail
  go_returns
  exact ⟨rfl,Below.trans (by go_grown) (hb.mono (by go_size))⟩
theorem a03 (u:Value) (w:World):Calls Tryz.prog 255 #[u] w fun e w'=>e=.returned (.int .i64 3)∧Below w.heap.size w w':=by
 go_enter Tryz.func255,Tryz.ntmps255
 go_wp2_with fail
 all_goals (go_returns;exact ⟨rfl,by go_grown⟩)
theorem Tq {d:DV}:HasC Tryz.prog 20 [.agg [.ifc 80 d]] (fun y=>y=.v (.int .i64 3)) :=
 HasC.ofIfc (fun args w=>Tryz.call20 args w) fun u w=>by
  go_enter Tryz.func20,Tryz.ntmps20
  go_wp2_with fail
  go_call (a03 u) as e w1 ⟨he,hb⟩
  subst he
  go_wp2_with fail
  go_returns
  exact ⟨rfl,Below.trans (by go_grown) (hb.mono (by go_size))⟩
theorem a60 (u:Value) (w:World):Calls Tryz.prog 260 #[u] w fun e w'=>e=.returned (.int .i64 4)∧Below w.heap.size w w':=by
 go_enter Tryz.func260,Tryz.ntmps260
 go_wp2_with fail
 all_goals (go_returns;exact ⟨rfl,by go_grown⟩)
theorem a0r {d:DV}:HasC Tryz.prog 20 [.agg [.ifc 179 d]] (fun y=>y=.v (.int .i64 4)) :=
 HasC.ofIfc (fun args w=>Tryz.call20 args w) fun u w=>by
  go_enter Tryz.func20,Tryz.ntmps20
  go_wp2_with fail
  go_call (a60 u) as e w1 ⟨he,hb⟩
  subst he
  go_wp2_with fail
  go_returns
  exact ⟨rfl,Below.trans (by go_grown) (hb.mono (by go_size))⟩
theorem a8e (u:Value) (w:World):Calls Tryz.prog 261 #[u] w fun e w'=>e=.returned (.int .i64 5)∧Below w.heap.size w w':=by
 go_enter Tryz.func261,Tryz.ntmps261
 go_wp2_with fail
 all_goals (go_returns;exact ⟨rfl,by go_grown⟩)
theorem a3a {d:DV}:HasC Tryz.prog 20 [.agg [.ifc 181 d]] (fun y=>y=.v (.int .i64 5)) :=
 HasC.ofIfc (fun args w=>Tryz.call20 args w) fun u w=>by
  go_enter Tryz.func20,Tryz.ntmps20
  go_wp2_with fail
  go_call (a8e u) as e w1 ⟨he,hb⟩
  subst he
  go_wp2_with fail
  go_returns
  exact ⟨rfl,Below.trans (by go_grown) (hb.mono (by go_size))⟩
theorem a5o (u:Value) (w:World):Calls Tryz.prog 262 #[u] w fun e w'=>e=.returned (.int .i64 6)∧Below w.heap.size w w':=by
 go_enter Tryz.func262,Tryz.ntmps262
 go_wp2_with fail
 all_goals (go_returns;exact ⟨rfl,by go_grown⟩)
theorem a0v {d:DV}:HasC Tryz.prog 20 [.agg [.ifc 185 d]] (fun y=>y=.v (.int .i64 6)) :=
 HasC.ofIfc (fun args w=>Tryz.call20 args w) fun u w=>by
  go_enter Tryz.func20,Tryz.ntmps20
  go_wp2_with fail
  go_call (a5o u) as e w1 ⟨he,hb⟩
  subst he
  go_wp2_with fail
  go_returns
  exact ⟨rfl,Below.trans (by go_grown) (hb.mono (by go_size))⟩
theorem Xe (u:Value) (w:World):Calls Tryz.prog 263 #[u] w fun e w'=>e=.returned (.int .i64 7)∧Below w.heap.size w w':=by
 go_enter Tryz.func263,Tryz.ntmps263
 go_wp2_with fail
 all_goals (go_returns;exact ⟨rfl,by go_grown⟩)
theorem Qq {d:DV}:HasC Tryz.prog 20 [.agg [.ifc 187 d]] (fun y=>y=.v (.int .i64 7)) :=
 HasC.ofIfc (fun args w=>Tryz.call20 args w) fun u w=>by
  go_enter Tryz.func20,Tryz.ntmps20
  go_wp2_with fail
  go_call (Xe u) as e w1 ⟨he,hb⟩
  subst he
  go_wp2_with fail
  go_returns
  exact ⟨rfl,Below.trans (by go_grown) (hb.mono (by go_size))⟩
theorem a5t (u:Value) (w:World):Calls Tryz.prog 258 #[u] w fun e w'=>e=.returned (.int .i64 8)∧Below w.heap.size w w':=by
 go_enter Tryz.func258,Tryz.ntmps258
 go_wp2_with fail
 all_goals (go_returns;exact ⟨rfl,by go_grown⟩)
theorem a2a {d:DV}:HasC Tryz.prog 20 [.agg [.ifc 135 d]] (fun y=>y=.v (.int .i64 8)) :=
 HasC.ofIfc (fun args w=>Tryz.call20 args w) fun u w=>by
  go_enter Tryz.func20,Tryz.ntmps20
  go_wp2_with fail
  go_call (a5t u) as e w1 ⟨he,hb⟩
  subst he
  go_wp2_with fail
  go_returns
  exact ⟨rfl,Below.trans (by go_grown) (hb.mono (by go_size))⟩
theorem a0k (u:Value) (w:World):Calls Tryz.prog 259 #[u] w fun e w'=>e=.returned (.int .i64 9)∧Below w.heap.size w w':=by
 go_enter Tryz.func259,Tryz.ntmps259
 go_wp2_with fail
 all_goals (go_returns;exact ⟨rfl,by go_grown⟩)
theorem Ty {d:DV}:HasC Tryz.prog 20 [.agg [.ifc 138 d]] (fun y=>y=.v (.int .i64 9)) :=
 HasC.ofIfc (fun args w=>Tryz.call20 args w) fun u w=>by
  go_enter Tryz.func20,Tryz.ntmps20
  go_wp2_with fail
  go_call (a0k u) as e w1 ⟨he,hb⟩
  subst he
  go_wp2_with fail
  go_returns
  exact ⟨rfl,Below.trans (by go_grown) (hb.mono (by go_size))⟩
theorem a7b (u:Value) (w:World):Calls Tryz.prog 257 #[u] w fun e w'=>e=.returned (.int .i64 10)∧Below w.heap.size w w':=by
 go_enter Tryz.func257,Tryz.ntmps257
 go_wp2_with fail
 all_goals (go_returns;exact ⟨rfl,by go_grown⟩)
theorem a1d {d:DV}:HasC Tryz.prog 20 [.agg [.ifc 118 d]] (fun y=>y=.v (.int .i64 10)) :=
 HasC.ofIfc (fun args w=>Tryz.call20 args w) fun u w=>by
  go_enter Tryz.func20,Tryz.ntmps20
  go_wp2_with fail
  go_call (a7b u) as e w1 ⟨he,hb⟩
  subst he
  go_wp2_with fail
  go_returns
  exact ⟨rfl,Below.trans (by go_grown) (hb.mono (by go_size))⟩
theorem Xg (u:Value) (w:World):Calls Tryz.prog 264 #[u] w fun e w'=>e=.returned (.int .i64 11)∧Below w.heap.size w w':=by
 go_enter Tryz.func264,Tryz.ntmps264
 go_wp2_with fail
 all_goals (go_returns;exact ⟨rfl,by go_grown⟩)
theorem Ta {d:DV}:HasC Tryz.prog 20 [.agg [.ifc 197 d]] (fun y=>y=.v (.int .i64 11)) :=
 HasC.ofIfc (fun args w=>Tryz.call20 args w) fun u w=>by
  go_enter Tryz.func20,Tryz.ntmps20
  go_wp2_with fail
  go_call (Xg u) as e w1 ⟨he,hb⟩
  subst he
  go_wp2_with fail
  go_returns
  exact ⟨rfl,Below.trans (by go_grown) (hb.mono (by go_size))⟩
theorem Ua (u:Value) (w:World):Calls Tryz.prog 265 #[u] w fun e w'=>e=.returned (.int .i64 12)∧Below w.heap.size w w':=by
 go_enter Tryz.func265,Tryz.ntmps265
 go_wp2_with fail
 all_goals (go_returns;exact ⟨rfl,by go_grown⟩)
theorem Pq {d:DV}:HasC Tryz.prog 20 [.agg [.ifc 200 d]] (fun y=>y=.v (.int .i64 12)) :=
 HasC.ofIfc (fun args w=>Tryz.call20 args w) fun u w=>by
  go_enter Tryz.func20,Tryz.ntmps20
  go_wp2_with fail
  go_call (Ua u) as e w1 ⟨he,hb⟩
  subst he
  go_wp2_with fail
  go_returns
  exact ⟨rfl,Below.trans (by go_grown) (hb.mono (by go_size))⟩
theorem b8e (v:Vl):HasC Tryz.prog 20 [VV v] (fun y=>y=.v (.int .i64 v.kindI)):=by
 cases v
 case null=>exact HasC.ub b3q
 case bool=>exact HasC.ub Th
 case num=>exact HasC.ub Tq
 case text=>exact HasC.ub a0r
 case day=>exact HasC.ub a3a
 case time=>exact HasC.ub a0v
 case mom=>exact HasC.ub Qq
 case days=>exact HasC.ub a2a
 case months=>exact HasC.ub Ty
 case list=>exact HasC.ub a1d
 case ctx=>exact HasC.ub Ta
 case rng=>exact HasC.ub Pq
open Go.RowKit
set_option linter.unusedVariables false
set_option linter.unusedSimpArgs false
set_option maxRecDepth 100000
structure Ends where
 lo:Vl
 hi:Vl
 p:Bool
 q:Bool
 is:Bool
theorem Xq {d:DV}:HasC Tryz.prog 31 [.agg [.ifc 80 (d)]] (fun r=>r=.tup [.v (.bool false),.v (.bool false)]):=by
 refine hO [] Tryz.f31 (fun a w=>Tryz.call31 a w) Tryz.func31 rfl (⟨_,rfl⟩) ?_
 refine Aa rfl (iQ 3 (iE 14 [(1,.p 1 0),(2,Ba false),(3,Ba false)] [(1,[.ifc 80 (d)])] ?_))
 refine Aa rfl (iQ 8 ?_)
 let Z1:=zT [(2,Ba false),(3,Ba false),(4,Ba false),(5,Ba false)] []
 refine iE 14 Z1 [] ?_
 refine Aa rfl (iQ 4 (iE 14 [(2,Ba false),(3,Ba false)] [] ?_))
 refine Ab (iS (Bv false) (Bv false) [] ?_)
 rfl
theorem Tt {d:DV}:HasC Tryz.prog 31 [.agg [.ifc 179 (d)]] (fun r=>r=.tup [.v (.bool false),.v (.bool false)]):=by
 refine hO [] Tryz.f31 (fun a w=>Tryz.call31 a w) Tryz.func31 rfl (⟨_,rfl⟩) ?_
 refine Aa rfl (iQ 3 (iE 14 [(1,.p 1 0),(2,Ba false),(3,Ba false)] [(1,[.ifc 179 (d)])] ?_))
 refine Aa rfl (iQ 8 ?_)
 let Z1:=zT [(2,Ba false),(3,Ba false),(4,Ba false),(5,Ba false)] []
 refine iE 14 Z1 [] ?_
 refine Aa rfl (iQ 4 (iE 14 [(2,Ba false),(3,Ba false)] [] ?_))
 refine Ab (iS (Bv false) (Bv false) [] ?_)
 rfl
theorem Ye {d:DV}:HasC Tryz.prog 31 [.agg [.ifc 181 (d)]] (fun r=>r=.tup [.v (.bool false),.v (.bool false)]):=by
 refine hO [] Tryz.f31 (fun a w=>Tryz.call31 a w) Tryz.func31 rfl (⟨_,rfl⟩) ?_
 refine Aa rfl (iQ 3 (iE 14 [(1,.p 1 0),(2,Ba false),(3,Ba false)] [(1,[.ifc 181 (d)])] ?_))
 refine Aa rfl (iQ 8 ?_)
 let Z1:=zT [(2,Ba false),(3,Ba false),(4,Ba false),(5,Ba false)] []
 refine iE 14 Z1 [] ?_
 refine Aa rfl (iQ 4 (iE 14 [(2,Ba false),(3,Ba false)] [] ?_))
 refine Ab (iS (Bv false) (Bv false) [] ?_)
 rfl
theorem Tu {d:DV}:HasC Tryz.prog 31 [.agg [.ifc 185 (d)]] (fun r=>r=.tup [.v (.bool false),.v (.bool false)]):=by
 refine hO [] Tryz.f31 (fun a w=>Tryz.call31 a w) Tryz.func31 rfl (⟨_,rfl⟩) ?_
 refine Aa rfl (iQ 3 (iE 14 [(1,.p 1 0),(2,Ba false),(3,Ba false)] [(1,[.ifc 185 (d)])] ?_))
 refine Aa rfl (iQ 8 ?_)
 let Z1:=zT [(2,Ba false),(3,Ba false),(4,Ba false),(5,Ba false)] []
 refine iE 14 Z1 [] ?_
 refine Aa rfl (iQ 4 (iE 14 [(2,Ba false),(3,Ba false)] [] ?_))
 refine Ab (iS (Bv false) (Bv false) [] ?_)
 rfl
theorem Zb {d:DV}:HasC Tryz.prog 31 [.agg [.ifc 187 (d)]] (fun r=>r=.tup [.v (.bool false),.v (.bool false)]):=by
 refine hO [] Tryz.f31 (fun a w=>Tryz.call31 a w) Tryz.func31 rfl (⟨_,rfl⟩) ?_
 refine Aa rfl (iQ 3 (iE 14 [(1,.p 1 0),(2,Ba false),(3,Ba false)] [(1,[.ifc 187 (d)])] ?_))
 refine Aa rfl (iQ 8 ?_)
 let Z1:=zT [(2,Ba false),(3,Ba false),(4,Ba false),(5,Ba false)] []
 refine iE 14 Z1 [] ?_
 refine Aa rfl (iQ 4 (iE 14 [(2,Ba false),(3,Ba false)] [] ?_))
 refine Ab (iS (Bv false) (Bv false) [] ?_)
 rfl
theorem Tn {d:DV}:HasC Tryz.prog 31 [.agg [.ifc 135 (d)]] (fun r=>r=.tup [.v (.bool false),.v (.bool false)]):=by
 refine hO [] Tryz.f31 (fun a w=>Tryz.call31 a w) Tryz.func31 rfl (⟨_,rfl⟩) ?_
 refine Aa rfl (iQ 3 (iE 14 [(1,.p 1 0),(2,Ba false),(3,Ba false)] [(1,[.ifc 135 (d)])] ?_))
 refine Aa rfl (iQ 8 ?_)
 let Z1:=zT [(2,Ba false),(3,Ba false),(4,Ba false),(5,Ba false)] []
 refine iE 14 Z1 [] ?_
 refine Aa rfl (iQ 4 (iE 14 [(2,Ba false),(3,Ba false)] [] ?_))
 refine Ab (iS (Bv false) (Bv false) [] ?_)
 rfl
theorem Pu {d:DV}:HasC Tryz.prog 31 [.agg [.ifc 138 (d)]] (fun r=>r=.tup [.v (.bool false),.v (.bool false)]):=by
 refine hO [] Tryz.f31 (fun a w=>Tryz.call31 a w) Tryz.func31 rfl (⟨_,rfl⟩) ?_
 refine Aa rfl (iQ 3 (iE 14 [(1,.p 1 0),(2,Ba false),(3,Ba false)] [(1,[.ifc 138 (d)])] ?_))
 refine Aa rfl (iQ 8 ?_)
 let Z1:=zT [(2,Ba false),(3,Ba false),(4,Ba false),(5,Ba false)] []
 refine iE 14 Z1 [] ?_
 refine Aa rfl (iQ 4 (iE 14 [(2,Ba false),(3,Ba false)] [] ?_))
 refine Ab (iS (Bv false) (Bv false) [] ?_)
 rfl
theorem Tv {d:DV}:HasC Tryz.prog 31 [.agg [.ifc 118 (d)]] (fun r=>r=.tup [.v (.bool false),.v (.bool false)]):=by
 refine hO [] Tryz.f31 (fun a w=>Tryz.call31 a w) Tryz.func31 rfl (⟨_,rfl⟩) ?_
 refine Aa rfl (iQ 3 (iE 14 [(1,.p 1 0),(2,Ba false),(3,Ba false)] [(1,[.ifc 118 (d)])] ?_))
 refine Aa rfl (iQ 8 ?_)
 let Z1:=zT [(2,Ba false),(3,Ba false),(4,Ba false),(5,Ba false)] []
 refine iE 14 Z1 [] ?_
 refine Aa rfl (iQ 4 (iE 14 [(2,Ba false),(3,Ba false)] [] ?_))
 refine Ab (iS (Bv false) (Bv false) [] ?_)
 rfl
theorem Xu {d:DV}:HasC Tryz.prog 31 [.agg [.ifc 197 (d)]] (fun r=>r=.tup [.v (.bool false),.v (.bool false)]):=by
 refine hO [] Tryz.f31 (fun a w=>Tryz.call31 a w) Tryz.func31 rfl (⟨_,rfl⟩) ?_
 refine Aa rfl (iQ 3 (iE 14 [(1,.p 1 0),(2,Ba false),(3,Ba false)] [(1,[.ifc 197 (d)])] ?_))
 refine Aa rfl (iQ 8 ?_)
 let Z1:=zT [(2,Ba false),(3,Ba false),(4,Ba false),(5,Ba false)] []
 refine iE 14 Z1 [] ?_
 refine Aa rfl (iQ 4 (iE 14 [(2,Ba false),(3,Ba false)] [] ?_))
 refine Ab (iS (Bv false) (Bv false) [] ?_)
 rfl
theorem Yf {d:DV}:HasC Tryz.prog 31 [.agg [.ifc 200 (d)]] (fun r=>r=.tup [.v (.bool false),.v (.bool false)]):=by
 refine hO [] Tryz.f31 (fun a w=>Tryz.call31 a w) Tryz.func31 rfl (⟨_,rfl⟩) ?_
 refine Aa rfl (iQ 3 (iE 14 [(1,.p 1 0),(2,Ba false),(3,Ba false)] [(1,[.ifc 200 (d)])] ?_))
 refine Aa rfl (iQ 8 ?_)
 let Z1:=zT [(2,Ba false),(3,Ba false),(4,Ba false),(5,Ba false)] []
 refine iE 14 Z1 [] ?_
 refine Aa rfl (iQ 4 (iE 14 [(2,Ba false),(3,Ba false)] [] ?_))
 refine Ab (iS (Bv false) (Bv false) [] ?_)
 rfl
theorem Tp:HasC Tryz.prog 31 [.agg [.v (.nilIface)]] (fun r=>r=.tup [.v (.bool false),.v (.bool false)]):=by
 refine hO [] Tryz.f31 (fun a w=>Tryz.call31 a w) Tryz.func31 rfl (⟨_,rfl⟩) ?_
 refine Aa rfl (iQ 3 (iE 14 [(1,.p 1 0),(2,Ba false),(3,Ba false)] [(1,[.v (.nilIface)])] ?_))
 refine Aa rfl (iQ 8 ?_)
 let Z1:=zT [(2,Ba false),(3,Ba false),(4,Ba false),(5,Ba false)] []
 refine iE 14 Z1 [] ?_
 refine Aa rfl (iQ 4 (iE 14 [(2,Ba false),(3,Ba false)] [] ?_))
 refine Ab (iS (Bv false) (Bv false) [] ?_)
 rfl
theorem Ub {p:Bool}:HasC Tryz.prog 31 [.agg [.ifc 108 (.v (.bool p))]] (fun r=>r=.tup [.v (.bool p),.v (.bool true)]):=by
 refine hO [] Tryz.f31 (fun a w=>Tryz.call31 a w) Tryz.func31 rfl (⟨_,rfl⟩) ?_
 refine Aa rfl (iQ 3 (iE 14 [(1,.p 1 0),(2,Ba false),(3,Ba false)] [(1,[.ifc 108 (Bv p)])] ?_))
 refine Aa rfl (iQ 8 ?_)
 let Z1:=zT [(2,Ba false),(3,Ba false),(4,Ba p),(5,Ba true)] []
 refine iE 14 Z1 [] ?_
 refine Aa rfl (iQ 4 (iE 14 [(2,Ba p),(3,Ba true)] [] ?_))
 refine Ab (iS (Bv p) (Bv true) [] ?_)
 rfl
def a7r:Vl→Bool×Bool
 | .bool b=>(b,true)
 | _=>(false,false)
theorem b2g (v:Vl):HasC Tryz.prog 31 [VV v] (fun r=>r=.tup [.v (.bool (a7r v).1),.v (.bool (a7r v).2)]):=by
 cases v
 case bool=>exact HasC.ub Ub
 case num=>exact HasC.ub Xq
 case text=>exact HasC.ub Tt
 case day=>exact HasC.ub Ye
 case time=>exact HasC.ub Tu
 case mom=>exact HasC.ub Zb
 case days=>exact HasC.ub Tn
 case months=>exact HasC.ub Pu
 case list=>exact HasC.ub Tv
 case ctx=>exact HasC.ub Xu
 case rng=>exact HasC.ub Yf
 case null=>exact HasC.ub Tp
theorem b05 {g:Bool} {n:Nat} {e:Int}:HasC Tryz.prog 67 [.agg [.ifc 80 (.agg [.v (.bool g),.v (.int .u64 (hiW (n))),.v (.int .u64 (loW (n))),.v (.int .i64 e)])]] (fun r=>r=.tup [Bk g n e,.v (.bool true)]):=by
 refine hO [] Tryz.f67 (fun a w=>Tryz.call67 a w) Tryz.func67 rfl (⟨_,rfl⟩) ?_
 refine Aa rfl (iQ 3 ?_)
 let Z1:=zH [(1,[.ifc 80 (.agg [Bv g,Hw n,Lw n,Iv e])])] []
 refine iE 14 [(1,.p 1 0),(2,.p 2 0),(3,Ba false)] (zH [(2,[Bv false,Uv 0,Uv 0,Iv 0])] Z1) ?_
 refine Aa rfl (iQ 9 ?_)
 let Z2:=zT [(2,.p 2 0),(3,Ba false),(4,.p 4 0),(5,Ba true)] []
 let Z3:=zH [(2,[Bv false,Uv 0,Uv 0,Iv 0]),(4,[Bv g,Hw n,Lw n,Iv e])] []
 refine iE 14 Z2 Z3 ?_
 refine Aa rfl (iQ 4 ?_)
 let Z4:=zH [(2,[Bv g,Hw n,Lw n,Iv e]),(4,[Bv g,Hw n,Lw n,Iv e])] []
 refine iE 14 [(2,.p 2 0),(3,Ba true),(4,.p 4 0)] Z4 ?_
 refine Ab (iS (.agg [Bv g,Hw n,Lw n,Iv e]) (Bv true) [] ?_)
 rfl
theorem Dv {g:Bool} {n:Nat} {e:Int}:HasC Tryz.prog 67 [VV (.num g n e)] (fun r=>r=.tup [Bk g n e,.v (.bool true)]):=HasC.ub b05
open Go.RowKit Go.Shelf
set_option linter.unusedVariables false
set_option linter.unusedSimpArgs false
set_option maxRecDepth 100000
theorem Qw {vs:List Vl} (h:vs.length≤1073741824):HasC Tryz.prog 85 [.sl ((vs).length) (Av (vs))] (fun r=>r=.sl vs.length (Av vs)):=by
 refine hO [] Tryz.f85 (fun a w=>Tryz.call85 a w) Tryz.func85 rfl (⟨_,rfl⟩) ?_
 refine Aa rfl (iQ 1 ?_)
 let Z1:=zT [(0,.d (.sl ((vs).length) (Av (vs)))),(2,.w (.sl 0 []) none)] []
 refine iE 8 Z1 [] ?_
 refine Ae (Aa rfl (iQ 1 ?_))
 refine iZ ((vs).length) 4 (fun hz4 => ?_) ?_
 ·refine iE 8 (zT [(4,Ba true)] Z1) [] ?_
  refine iT (Aa rfl (iQ 1 (iE 8 (zT [(4,Ba true)] Z1) [] ?_)))
  refine Ab (Ag (iR (.sl 0 []) ?_))
  have e:vs=[]:=List.length_eq_zero_iff.1 hz4
  rw[e];simp[Av]
 ·refine iE 8 (zT [(4,Ba false)] Z1) [] ?_
  refine iF (Ad (Af (Aa rfl (iQ 2 (Fo (n:=0) (cs:=[]) (m:=((vs).length)) (ds:=(Av (vs))) (N:=((vs).length)) (es:=(Av (vs))) (j:=7) (e:=39) (z:=1) (dst:=(some 7)) (by kernel_rfl) (by first | rfl | omega | (rw[Nat.mul_one];exact Cr _) | (simp[dg];done) | (simp[dg];omega)) (by first | rfl | omega | (rw[Nat.mul_one];exact Cr _) | (simp[dg];done) | (simp[dg];omega)) (by first | rfl | exact Oi _ | exact Ji _ | exact Jj _ | simp[dg,Cb]) (by omega) (by first | rfl | omega | (rw[Nat.mul_one];exact Cr _) | (simp[dg];done) | (simp[dg];omega)) (by first | rfl | simp[dg]) ?_)))))
  refine iQ 1 ?_
  let Z2:=zT [(2,.w (.sl ((vs).length) (Av (vs))) (some ⟨7,0,39,1⟩))] []
  let Z3:=zT [(0,.d (.sl ((vs).length) (Av (vs)))),(4,Ba false)] []
  refine iE 8 (zT Z3 Z2) [] ?_
  refine Ab (iR (.sl ((vs).length) (Av (vs))) ?_)
  rfl
theorem b2b {ns:List L8} (h:ns.length≤1073741824):HasC Tryz.prog 140 [.sl ((ns).length) (Bf (ns))] (fun r=>r=.sl ns.length (Bf ns)):=by
 refine hO [] Tryz.f140 (fun a w=>Tryz.call140 a w) Tryz.func140 rfl (⟨_,rfl⟩) ?_
 refine Aa rfl (iQ 1 ?_)
 let Z1:=zT [(0,.d (.sl ((ns).length) (Bf (ns)))),(2,.w (.sl 0 []) none)] []
 refine iE 8 Z1 [] ?_
 refine Ae (Aa rfl (iQ 1 ?_))
 refine iZ ((ns).length) 4 (fun hz4 => ?_) ?_
 ·refine iE 8 (zT [(4,Ba true)] Z1) [] ?_
  refine iT (Aa rfl (iQ 1 (iE 8 (zT [(4,Ba true)] Z1) [] ?_)))
  refine Ab (Ag (iR (.sl 0 []) ?_))
  have e:ns=[]:=List.length_eq_zero_iff.1 hz4
  rw[e];rfl
 ·refine iE 8 (zT [(4,Ba false)] Z1) [] ?_
  refine iF (Ad (Af (Aa rfl (iQ 2 (Fo (n:=0) (cs:=[]) (m:=((ns).length)) (ds:=(Bf (ns))) (N:=((ns).length)) (es:=(Bf (ns))) (j:=7) (e:=9) (z:=1) (dst:=(some 7)) (by kernel_rfl) (by first | rfl | omega | (rw[Nat.mul_one];exact Cr _) | (simp[dg];done) | (simp[dg];omega)) (by first | rfl | omega | (rw[Nat.mul_one];exact Cr _) | (simp[dg];done) | (simp[dg];omega)) (by first | rfl | exact Oi _ | exact Ji _ | exact Jj _ | simp[dg,Cb]) (by omega) (by first | rfl | omega | (rw[Nat.mul_one];exact Cr _) | (simp[dg];done) | (simp[dg];omega)) (by first | rfl | simp[dg]) ?_)))))
  refine iQ 1 ?_
  let Z2:=zT [(2,.w (.sl ((ns).length) (Bf (ns))) (some ⟨7,0,9,1⟩))] []
  let Z3:=zT [(0,.d (.sl ((ns).length) (Bf (ns)))),(4,Ba false)] []
  refine iE 8 (zT Z3 Z2) [] ?_
  refine Ab (iR (.sl ((ns).length) (Bf (ns))) ?_)
  rfl
def Hg (l:L8):List L8→Option Nat
 | []=>none
 | n::ns=>if l=n then some 0 else (Hg l ns).map (· + 1)
def a9e (l:L8) (ns:List L8):Int:=match Hg l ns with
 | some k=>(k:Int)
 | none => -1
theorem Rk {l:L8} : ∀ {ns:List L8},Hg l ns=none↔l ∉ ns
 | []=>by simp[Hg]
 | n::ns=>by
  unfold Hg
  split
  ·rename_i h;simp[h]
  ·rename_i h;simp[h,Rk (ns:=ns)]
theorem a0n {l:L8} : ∀ {ns:List L8} {k:Nat},(ns[k]? = some l ∧ ∀ j,j<k→ns[j]? ≠ some l)→Hg l ns=some k
 | [],k,h=>by simp at h
 | n::ns,0,h=>by
  have:n=l:=by simpa using h.1
  rw[Hg,if_pos this.symm]
 | n::ns,k+1,h=>by
  have h0:=h.2 0 (by omega)
  simp at h0
  rw[Hg,if_neg (fun e=>h0 e.symm),a0n (k:=k) ⟨by simpa using h.1,fun j hj=>by simpa using h.2 (j+1) (by omega)⟩]
  rfl
theorem a8i {l:L8} : ∀ {ns:List L8} {k:Nat},Hg l ns=some k→ns[k]? = some l
 | [],k,h=>by simp[Hg] at h
 | n::ns,k,h=>by
  unfold Hg at h
  split at h
  ·rename_i e
   cases h
   simp[e]
  ·cases hq:Hg l ns with
   | none=>rw[hq] at h;cases h
   | some j =>
    rw[hq] at h
    cases h
    simpa using a8i hq
theorem b7z {l:L8} {ns:List L8} (h : ∀ j,j<ns.length→ns[j]? ≠ some l):Hg l ns=none:=Rk.2 fun hm=>by
 obtain ⟨j,hj,e⟩:=List.getElem_of_mem hm
 exact h j hj (by rw[List.getElem?_eq_getElem hj,e])
theorem a7y {l m:L8} {ns:List L8} {k:Nat} (h : ∀ j,j<k→ns[j]? ≠ some l) (hk:ns[k]? = some m) (hn:l≠m) : ∀ j,j<k+1→ns[j]? ≠ some l:=fun j hj=>by
 by_cases e:j=k
 ·rw[e,hk];exact fun q=>hn (Option.some.inj q).symm
 ·exact h j (by omega)
theorem Uj {ns:List L8} {k:Nat} {l:L8} (h:ns[k]? = some l):(Bf ns)[k]? = some (.v (.string (tx l))):=by
 unfold Bf
 rw[List.getElem?_map,h]
 rfl
theorem a72 {l:L8} {ns:List L8} (hb:ns.length≤1073741824):HasC Tryz.prog 164 [.sl ((ns).length) (Bf (ns)),.v (.string (tx l))] (fun r=>r=.v (.int .i64 (a9e l ns))):=by
 refine hO [] Tryz.f164 (fun a w=>Tryz.call164 a w) Tryz.func164 rfl (⟨_,rfl⟩) ?_
 refine Aa rfl (iQ 1 ?_)
 let Z1:=zT [(0,.d (.sl ((ns).length) (Bf (ns)))),(1,.d (Sv (tx l))),(4,Ia 0)] []
 refine iE 19 Z1 [] ?_
 refine Ae (Aa rfl (iQ 3 ?_))
 let Z2:=zT [(7,Ia ((((ns).length:Nat):Int))),(8,Ia 0)] []
 refine iE 19 (zT Z2 Z1) [] ?_
 refine Ak (Bq 19 (fun (vcx:Nat×Int)=>match vcx with | (k,z)=>[(0,.d (.sl ((ns).length) (Bf (ns)))),(1,.d (Sv (tx l))),(4,Ia 0),(7,Ia ((((ns).length:Nat):Int))),(8,Ia z)]) (fun (vcx:Nat×Int)=>match vcx with | (k,z)=>[]) (fun (vcx:Nat×Int)=>match vcx with | (k,z)=>z=k∧k≤ns.length ∧ ∀ j,j<k→ns[j]? ≠ some l) (fun (vcx:Nat×Int)=>match vcx with | (k,z)=>ns.length-k) ((0,0)) (⟨rfl,Nat.zero_le _,fun j h=>absurd h (Nat.not_lt_zero j)⟩) (by kernel_rfl) (by kernel_rfl) ?_)
 rintro ⟨k,z⟩ hinv
 simp only at hinv
 obtain ⟨h1,h2,h3⟩:=hinv
 refine Aa rfl (jB .lss 3 (.int .i64 z) (.int .i64 ((((ns).length:Nat):Int))) 9 ?_)
 intro c9 hc9
 let Z3:=zT [(7,Ia ((((ns).length:Nat):Int))),(8,Ia z),(9,Ba c9)] []
 refine iE 19 (zT Z3 Z1) [] ?_
 refine Ae ?_
 cases c9
 ·replace hc9:=bf hc9
  refine iF (Be (Ce (Bj (Bd rfl (Af (Aa rfl (iQ 1 ?_)))))))
  let Z4:=zT [(0,.d (.sl ((ns).length) (Bf (ns)))),(1,.d (Sv (tx l))),(4,Ia (-1)),(7,Ia ((((ns).length:Nat):Int))),(8,Ia z),(9,Ba false)] []
  refine iE 19 Z4 [] ?_
  refine Ab (iR (Iv (-1)) ?_)
  rw[a9e,b7z (fun j hj=>h3 j (by omega))]
 ·replace hc9:=bt hc9
  have hk:k<ns.length:=by omega
  obtain ⟨m,hm⟩ : ∃ m,ns[k]? = some m:=⟨_,List.getElem?_eq_getElem hk⟩
  refine iT (Ad (Af (Ae (Ak (Aa rfl (iQ 2 ?_))))))
  let Z5:=zT [(5,Ia z),(7,Ia ((((ns).length:Nat):Int))),(8,Ia z),(9,Ba true)] []
  refine iE 19 (zT Z5 Z1) [] ?_
  refine Aa rfl (iQ 3 (Bi (q:=z) (n:=((ns).length)) (cs:=(Bf (ns))) (d:=.v (.string (tx m))) (dst:=(some 14)) (by kernel_rfl) (by omega) (by rw[h1,Int.toNat_natCast];exact Uj hm) ?_))
  refine iQ 1 (jB .eql 9 (.string (tx l)) (.string (tx m)) 16 ?_)
  intro c16 hc16
  refine iE 19 (zT [(16,Ba c16)] (zT Z5 Z1)) [] ?_
  cases c16
  ·replace hc16:=bf hc16
   have e:l≠m:=fun h=>hc16 (by rw[h])
   refine iF (Ad (Ap (Af (Am rfl (jB .add 3 (.int .i64 z) (.int .i64 1) 18 ?_)))))
   intro z18 hz18
   try replace hz18:=hz18.i64 (by omega)
   refine iQ 1 ?_
   let Z6:=zT [(5,Ia z),(7,Ia ((((ns).length:Nat):Int))),(8,Ia z18),(9,Ba true),(16,Ba false)] []
   refine iE 19 (zT Z6 Z1) [] ?_
   refine Bm (k+1,z18) (⟨by omega,by omega,a7y h3 hm e⟩) (by show ns.length-(k+1)<ns.length-k;omega) (by kernel_rfl) (by kernel_rfl)
  ·replace hc16:=bt hc16
   have e:l=m:=Rc hc16
   refine iT (Aa rfl (iQ 2 ?_))
   let Z7:=zT [(0,.d (.sl ((ns).length) (Bf (ns)))),(1,.d (Sv (tx l))),(4,Ia z),(16,Ba true)] []
   refine iE 19 (zT Z7 Z5) [] ?_
   refine Ab (Ai (Ag (Db (Ai (Ag (iR (Iv z) ?_))))))
   rw[a9e,a0n ⟨by rw[hm,e],h3⟩,h1]
theorem b4n {l:L8} {ns:List L8} (hb:ns.length≤1073741824):HasC Tryz.prog 138 [.sl ((ns).length) (Bf (ns)),.v (.string (tx l))] (fun r => ∃ b,r=.v (.bool b)∧(b=true↔l ∈ ns)):=by
 refine hO [] Tryz.f138 (fun a w=>Tryz.call138 a w) Tryz.func138 rfl (by by_cases h:l ∈ ns;exact ⟨_,true,rfl,by simp[h]⟩;exact ⟨_,false,rfl,by simp[h]⟩) ?_
 refine Aa rfl (iQ 1 ?_)
 let Z1:=zT [(0,.d (.sl ((ns).length) (Bf (ns)))),(1,.d (Sv (tx l))),(4,Ba false)] []
 refine iE 9 Z1 [] ?_
 refine Aa rfl (iQ 2 (eC 164 [.sl ((ns).length) (Bf (ns)),Sv (tx l)] 7 (a72 hb) (jB .geq 3 (.int .i64 (a9e l ns)) (.int .i64 0) 8 ?_)))
 intro c8 hc8
 refine iQ 1 (iE 9 [(4,Ba c8)] [] ?_)
 refine Ab (iR (Bv c8) ?_)
 refine ⟨c8,rfl,hc8.trans ?_⟩
 unfold a9e
 cases h:Hg l ns with
 | none=>simp[Rk.1 h]
 | some k=>simp;exact List.mem_of_getElem? (a8i h)
theorem a4y {l:L8} (h:l.length≤9223372036854775807):HasC Tryz.prog 139 [.v (.string (tx l))] (fun y=>y=.v (.bool (Lib.validD l))) :=
 (HasC.ofCallsK (vs:=[.string (tx l)]) (R:=fun r=>r=.bool (Lib.validD l)) (fun args w=>Tryz.call139 args w) ⟨_,rfl⟩ rfl fun w hk=>by
  have e:(tx l).data.toList=l:=by simp[tx]
  have hv:=Any.utf8_ValidString Ul (tx l) w (by rw[Aj];exact h) (hk.u8 _ _ (by kernel_rfl) (by kernel_rfl))
  rw[e] at hv
  exact hv.mono fun e w' ⟨h1,h2⟩=>⟨_,h1,rfl,h2⟩).mono fun y ⟨r,h1,h2⟩=>by rw[h2,h1];rfl
theorem b67 {p:Bool}:HasC Tryz.prog 76 [.v (.bool p)] (fun r=>r=.agg [(Vl.bool p).enc]):=by
 refine hO [] Tryz.f76 (fun a w=>Tryz.call76 a w) Tryz.func76 rfl (⟨_,rfl⟩) ?_
 refine Aa rfl (iQ 1 (iE 6 [(0,Ba p),(2,.p 2 0)] [(2,[.v (.nilIface)])] ?_))
 refine Aa rfl (iQ 4 (iE 6 [(2,.p 2 0)] [(2,[.ifc 108 (Bv p)])] ?_))
 refine Ab (iR (.agg [.ifc 108 (Bv p)]) ?_)
 rfl
theorem Pz {p:Bool}:HasC Tryz.prog 76 [.v (.bool p)] (fun r=>r=VV (.bool p)):=HasC.bxR b67
open Classical in
noncomputable def Jc (g:Bool) (n:Nat) (e:Int):Vl:=if May g n e then .num g n e else .null
theorem c0u {g:Bool} {n:Nat} {e:Int} (hn:n<B128):HasC Tryz.prog 8 [.agg [.v (.bool g),.v (.int .u64 (hiW (n))),.v (.int .u64 (loW (n))),.v (.int .i64 e)]] (fun r=>r=.agg [(Jc g n e).enc]):=by
 refine hO [] Tryz.f8 (fun a w=>Tryz.call8 a w) Tryz.func8 rfl (⟨_,rfl⟩) ?_
 refine Aa rfl (iQ 2 ?_)
 let Z1:=zH [(1,[Bv g,Hw n,Lw n,Iv e]),(2,[.v (.nilIface)])] []
 refine iE 10 [(1,.p 1 0),(2,.p 2 0)] Z1 ?_
 refine Ae (Aa rfl (iQ 1 (jC 48 [.agg [Bv g,Hw n,Lw n,Iv e]] 4 (a4j hn) ?_)))
 rintro _ ⟨w,rfl,hw⟩
 refine jU .not (.bool w) 5 ?_
 intro c5 hc5
 refine iE 10 [(1,.p 1 0),(2,.p 2 0),(5,Ba c5)] Z1 ?_
 cases c5
 ·replace hc5:=bf hc5
  refine iF (Ad (Af (Aa rfl (iQ 4 ?_))))
  let Z2:=zH [(2,[.ifc 80 (.agg [Bv g,Hw n,Lw n,Iv e])])] []
  refine iE 10 [(1,.p 1 0),(2,.p 2 0),(5,Ba false)] (zH [(1,[Bv g,Hw n,Lw n,Iv e])] Z2) ?_
  refine Ab (iR (.agg [.ifc 80 (.agg [Bv g,Hw n,Lw n,Iv e])]) ?_)
  rw[Jc,if_pos (hw.1 (by simpa using hc5))];rfl
 ·replace hc5:=bt hc5
  refine iT (Aa rfl (iQ 2 (iE 10 [(1,.p 1 0),(2,.p 2 0),(5,Ba true)] Z1 ?_)))
  refine Ab (Ag (iR (.agg [.v (.nilIface)]) ?_))
  rw[Jc,if_neg (fun h=>by rw[hw.2 h] at hc5;cases hc5)];rfl
theorem Sk {g:Bool} {n:Nat} {e:Int} (hn:n<B128):HasC Tryz.prog 8 [Bk g n e] (fun r=>r=VV (Jc g n e)):=HasC.bxR (c0u hn)
open Classical in
noncomputable def a0i (y m d:Int):Vl:=if Io y m d then .day y m d else .null
theorem b6x {y m d:Int}:HasC Tryz.prog 124 [.agg [.v (.int .i64 y),.v (.int .i64 m),.v (.int .i64 d)]] (fun r=>r=.agg [(a0i y m d).enc]):=by
 refine hO [] Tryz.f124 (fun a w=>Tryz.call124 a w) Tryz.func124 rfl (⟨_,rfl⟩) ?_
 refine Aa rfl (iQ 2 ?_)
 let Z1:=zH [(1,[Iv y,Iv m,Iv d]),(2,[.v (.nilIface)])] []
 refine iE 10 [(1,.p 1 0),(2,.p 2 0)] Z1 ?_
 refine Ae (Aa rfl (iQ 1 (jC 146 [.agg [Iv y,Iv m,Iv d]] 4 (Nv) ?_)))
 rintro _ ⟨w,rfl,hw⟩
 refine jU .not (.bool w) 5 ?_
 intro c5 hc5
 refine iE 10 [(1,.p 1 0),(2,.p 2 0),(5,Ba c5)] Z1 ?_
 cases c5
 ·replace hc5:=bf hc5
  refine iF (Ad (Af (Aa rfl (iQ 4 ?_))))
  let Z2:=zH [(1,[Iv y,Iv m,Iv d]),(2,[.ifc 181 (.agg [Iv y,Iv m,Iv d])])] []
  refine iE 10 [(1,.p 1 0),(2,.p 2 0),(5,Ba false)] Z2 ?_
  refine Ab (iR (.agg [.ifc 181 (.agg [Iv y,Iv m,Iv d])]) ?_)
  rw[a0i,if_pos (hw.1 (by simpa using hc5))];rfl
 ·replace hc5:=bt hc5
  refine iT (Aa rfl (iQ 2 (iE 10 [(1,.p 1 0),(2,.p 2 0),(5,Ba true)] Z1 ?_)))
  refine Ab (Ag (iR (.agg [.v (.nilIface)]) ?_))
  rw[a0i,if_neg (fun h=>by rw[hw.2 h] at hc5;cases hc5)];rfl
theorem b26 {y m d:Int}:HasC Tryz.prog 124 [.agg [.v (.int .i64 y),.v (.int .i64 m),.v (.int .i64 d)]] (fun r=>r=VV (a0i y m d)):=HasC.bxR b6x
open Classical in
noncomputable def Pk (s:Int) (z:Bool) (o:Int):Vl:=if Gv s z o then .time s z o else .null
theorem b6c {s o:Int} {z:Bool}:HasC Tryz.prog 126 [.agg [.v (.int .i64 s),.v (.bool z),.v (.int .i64 o)]] (fun r=>r=.agg [(Pk s z o).enc]):=by
 refine hO [] Tryz.f126 (fun a w=>Tryz.call126 a w) Tryz.func126 rfl (⟨_,rfl⟩) ?_
 refine Aa rfl (iQ 2 ?_)
 let Z1:=zH [(1,[Iv s,Bv z,Iv o]),(2,[.v (.nilIface)])] []
 refine iE 10 [(1,.p 1 0),(2,.p 2 0)] Z1 ?_
 refine Ae (Aa rfl (iQ 1 (jC 152 [.agg [Iv s,Bv z,Iv o]] 4 (Wm) ?_)))
 rintro _ ⟨w,rfl,hw⟩
 refine jU .not (.bool w) 5 ?_
 intro c5 hc5
 refine iE 10 [(1,.p 1 0),(2,.p 2 0),(5,Ba c5)] Z1 ?_
 cases c5
 ·replace hc5:=bf hc5
  refine iF (Ad (Af (Aa rfl (iQ 4 ?_))))
  let Z2:=zH [(1,[Iv s,Bv z,Iv o]),(2,[.ifc 185 (.agg [Iv s,Bv z,Iv o])])] []
  refine iE 10 [(1,.p 1 0),(2,.p 2 0),(5,Ba false)] Z2 ?_
  refine Ab (iR (.agg [.ifc 185 (.agg [Iv s,Bv z,Iv o])]) ?_)
  rw[Pk,if_pos (hw.1 (by simpa using hc5))];rfl
 ·replace hc5:=bt hc5
  refine iT (Aa rfl (iQ 2 (iE 10 [(1,.p 1 0),(2,.p 2 0),(5,Ba true)] Z1 ?_)))
  refine Ab (Ag (iR (.agg [.v (.nilIface)]) ?_))
  rw[Pk,if_neg (fun h=>by rw[hw.2 h] at hc5;cases hc5)];rfl
theorem b4r {s o:Int} {z:Bool}:HasC Tryz.prog 126 [.agg [.v (.int .i64 s),.v (.bool z),.v (.int .i64 o)]] (fun r=>r=VV (Pk s z o)):=HasC.bxR b6c
open Classical in
noncomputable def a14 (y m d s:Int) (z:Bool) (o:Int):Vl:=if Io y m d∧Gv s z o then .mom y m d s z o else .null
theorem b0h {y m d s o:Int} {z:Bool}:HasC Tryz.prog 128 [.agg [.v (.int .i64 y),.v (.int .i64 m),.v (.int .i64 d),.v (.int .i64 s),.v (.bool z),.v (.int .i64 o)]] (fun r=>r=.agg [(a14 y m d s z o).enc]):=by
 refine hO [] Tryz.f128 (fun a w=>Tryz.call128 a w) Tryz.func128 rfl (⟨_,rfl⟩) ?_
 refine Aa rfl (iQ 2 ?_)
 let Z1:=zH [(1,[Iv y,Iv m,Iv d,Iv s,Bv z,Iv o]),(2,[.v (.nilIface)])] []
 refine iE 10 [(1,.p 1 0),(2,.p 2 0)] Z1 ?_
 refine Ae (Aa rfl (iQ 1 (jC 154 [.agg [Iv y,Iv m,Iv d,Iv s,Bv z,Iv o]] 4 (b77) ?_)))
 rintro _ ⟨w,rfl,hw⟩
 refine jU .not (.bool w) 5 ?_
 intro c5 hc5
 refine iE 10 [(1,.p 1 0),(2,.p 2 0),(5,Ba c5)] Z1 ?_
 cases c5
 ·replace hc5:=bf hc5
  refine iF (Ad (Af (Aa rfl (iQ 4 ?_))))
  let Z2:=zH [(2,[.ifc 187 (.agg [Iv y,Iv m,Iv d,Iv s,Bv z,Iv o])])] []
  refine iE 10 [(1,.p 1 0),(2,.p 2 0),(5,Ba false)] (zH [(1,[Iv y,Iv m,Iv d,Iv s,Bv z,Iv o])] Z2) ?_
  refine Ab (iR (.agg [.ifc 187 (.agg [Iv y,Iv m,Iv d,Iv s,Bv z,Iv o])]) ?_)
  rw[a14,if_pos (hw.1 (by simpa using hc5))];rfl
 ·replace hc5:=bt hc5
  refine iT (Aa rfl (iQ 2 (iE 10 [(1,.p 1 0),(2,.p 2 0),(5,Ba true)] Z1 ?_)))
  refine Ab (Ag (iR (.agg [.v (.nilIface)]) ?_))
  rw[a14,if_neg (fun h=>by rw[hw.2 h] at hc5;cases hc5)];rfl
theorem a6s {y m d s o:Int} {z:Bool}:HasC Tryz.prog 128 [.agg [.v (.int .i64 y),.v (.int .i64 m),.v (.int .i64 d),.v (.int .i64 s),.v (.bool z),.v (.int .i64 o)]] (fun r=>r=VV (a14 y m d s z o)):=HasC.bxR b0h
instance (n:Int):Decidable (Ir n):=inferInstanceAs (Decidable (_∧_))
def Pc (n:Int):Vl:=if Ir n then .days n else .null
def Hd (n:Int):Vl:=if Ir n then .months n else .null
theorem Uq {n:Int}:HasC Tryz.prog 100 [.v (.int .i64 n)] (fun r => ∃ b,r=.v (.bool b)∧(b=true↔Ir n)):=by
 refine hO [] Tryz.f100 (fun a w=>Tryz.call100 a w) Tryz.func100 rfl (⟨_,decide (Ir n),rfl,by simp⟩) ?_
 refine Aa rfl (iQ 1 (iE 9 [(0,Ia n),(2,Ba false)] [] ?_))
 refine Aa rfl (iQ 1 (jB .geq 3 (.int .i64 n) (.int .i64 (-9007199254740992)) 4 ?_))
 intro c4 hc4
 refine iQ 1 ?_
 cases c4
 ·replace hc4:=bf hc4
  refine iQ 4 (iE 9 [(2,Ba false)] [] ?_)
  refine Ab (iR (Bv false) ?_)
  exact ⟨_,rfl,by unfold Ir;simp;omega⟩
 ·replace hc4:=bt hc4
  refine iQ 1 (jB .leq 3 (.int .i64 n) (.int .i64 9007199254740992) 7 ?_)
  intro c7 hc7
  refine iQ 2 (iE 9 [(2,Ba c7)] [] ?_)
  refine Ab (iR (Bv c7) ?_)
  exact ⟨_,rfl,by rw[hc7];unfold Ir;omega⟩
theorem b79 {n:Int}:HasC Tryz.prog 70 [.v (.int .i64 n)] (fun r=>r=.agg [(Pc n).enc]):=by
 refine hO [] Tryz.f70 (fun a w=>Tryz.call70 a w) Tryz.func70 rfl (⟨_,rfl⟩) ?_
 refine Aa rfl (iQ 1 (iE 10 [(0,Ia n),(2,.p 2 0)] [(2,[.v (.nilIface)])] ?_))
 refine Ae (Aa rfl (iQ 1 (jC 100 [Iv n] 4 (Uq) ?_)))
 rintro _ ⟨w,rfl,hw⟩
 refine jU .not (.bool w) 5 ?_
 intro c5 hc5
 refine iE 10 [(0,Ia n),(2,.p 2 0),(5,Ba c5)] [(2,[.v (.nilIface)])] ?_
 cases c5
 ·replace hc5:=bf hc5
  refine iF (Ad (Af (Aa rfl (iQ 4 (iE 10 [(0,Ia n),(2,.p 2 0),(5,Ba false)] [(2,[.ifc 135 (Iv n)])] ?_)))))
  refine Ab (iR (.agg [.ifc 135 (Iv n)]) ?_)
  rw[Pc,if_pos (hw.1 (by simpa using hc5))];rfl
 ·replace hc5:=bt hc5
  refine iT (Aa rfl (iQ 2 (iE 10 [(0,Ia n),(2,.p 2 0),(5,Ba true)] [(2,[.v (.nilIface)])] ?_)))
  refine Ab (Ag (iR (.agg [.v (.nilIface)]) ?_))
  rw[Pc,if_neg (fun h=>by rw[hw.2 h] at hc5;cases hc5)];rfl
theorem b4a {n:Int}:HasC Tryz.prog 70 [.v (.int .i64 n)] (fun r=>r=VV (Pc n)):=HasC.bxR b79
theorem b0g {n:Int}:HasC Tryz.prog 72 [.v (.int .i64 n)] (fun r=>r=.agg [(Hd n).enc]):=by
 refine hO [] Tryz.f72 (fun a w=>Tryz.call72 a w) Tryz.func72 rfl (⟨_,rfl⟩) ?_
 refine Aa rfl (iQ 1 (iE 10 [(0,Ia n),(2,.p 2 0)] [(2,[.v (.nilIface)])] ?_))
 refine Ae (Aa rfl (iQ 1 (jC 100 [Iv n] 4 (Uq) ?_)))
 rintro _ ⟨w,rfl,hw⟩
 refine jU .not (.bool w) 5 ?_
 intro c5 hc5
 refine iE 10 [(0,Ia n),(2,.p 2 0),(5,Ba c5)] [(2,[.v (.nilIface)])] ?_
 cases c5
 ·replace hc5:=bf hc5
  refine iF (Ad (Af (Aa rfl (iQ 4 (iE 10 [(0,Ia n),(2,.p 2 0),(5,Ba false)] [(2,[.ifc 138 (Iv n)])] ?_)))))
  refine Ab (iR (.agg [.ifc 138 (Iv n)]) ?_)
  rw[Hd,if_pos (hw.1 (by simpa using hc5))];rfl
 ·replace hc5:=bt hc5
  refine iT (Aa rfl (iQ 2 (iE 10 [(0,Ia n),(2,.p 2 0),(5,Ba true)] [(2,[.v (.nilIface)])] ?_)))
  refine Ab (Ag (iR (.agg [.v (.nilIface)]) ?_))
  rw[Hd,if_neg (fun h=>by rw[hw.2 h] at hc5;cases hc5)];rfl
theorem a6a {n:Int}:HasC Tryz.prog 72 [.v (.int .i64 n)] (fun r=>r=VV (Hd n)):=HasC.bxR b0g
def Mv (l:L8):Vl:=if Lib.validD l=true∧l.length≤1048576 then .text l else .null
theorem b8n {l:L8} (hL:l.length≤9223372036854775807):HasC Tryz.prog 122 [.v (.string (tx l))] (fun r=>r=.agg [(Mv l).enc]):=by
 refine hO [] Tryz.f122 (fun a w=>Tryz.call122 a w) Tryz.func122 rfl (⟨_,rfl⟩) ?_
 refine Aa rfl (iQ 1 (iE 15 [(0,.d (Sv (tx l))),(2,.p 2 0)] [(2,[.v (.nilIface)])] ?_))
 refine Ae (Aa rfl (iQ 1 (eC 139 [Sv (tx l)] 4 (a4y hL) ?_)))
 have hs:(tx l).size=l.length:=Aj l
 refine jU .not (.bool (Lib.validD l)) 5 ?_
 intro c5 hc5
 refine iQ 1 ?_
 cases c5
 ·replace hc5:=bf hc5
  refine iQ 1 (jL .len [9] [.string (tx l)] 8 ?_)
  intro n8 hn8
  refine jB .gtr 3 (.int .i64 ((n8:Nat))) (.int .i64 1048576) 9 ?_
  intro c9 hc9
  refine iQ 1 ?_
  let Z1:=zT [(0,.d (Sv (tx l))),(2,.p 2 0),(10,Ba c9)] []
  refine iE 15 Z1 [(2,[.v (.nilIface)])] ?_
  cases c9
  ·replace hc9:=bf hc9
   refine iF (Ad (Af (Aa rfl (iQ 4 ?_))))
   let Z2:=zT [(0,.d (Sv (tx l))),(2,.p 2 0),(10,Ba false)] []
   refine iE 15 Z2 [(2,[.ifc 179 (Sv (tx l))])] ?_
   refine Ab (iR (.agg [.ifc 179 (Sv (tx l))]) ?_)
   rw[Mv,if_pos ⟨by simpa using hc5,by omega⟩];rfl
  ·replace hc9:=bt hc9
   refine iT (Aa rfl (iQ 2 ?_))
   let Z3:=zT [(0,.d (Sv (tx l))),(2,.p 2 0),(10,Ba true)] []
   refine iE 15 Z3 [(2,[.v (.nilIface)])] ?_
   refine Ab (Ag (iR (.agg [.v (.nilIface)]) ?_))
   rw[Mv,if_neg (fun h=>by have:=h.2;omega)];rfl
 ·replace hc5:=bt hc5
  refine iQ 4 ?_
  let Z4:=zT [(0,.d (Sv (tx l))),(2,.p 2 0),(10,Ba true)] []
  refine iE 15 Z4 [(2,[.v (.nilIface)])] ?_
  refine iT (Aa rfl (iQ 2 (iE 15 Z4 [(2,[.v (.nilIface)])] ?_)))
  refine Ab (Ag (iR (.agg [.v (.nilIface)]) ?_))
  rw[Mv,if_neg (fun h=>by have:=h.1;rw[hc5] at this;cases this)];rfl
theorem b30 {l:L8} (hL:l.length≤9223372036854775807):HasC Tryz.prog 122 [.v (.string (tx l))] (fun r=>r=VV (Mv l)):=HasC.bxR (b8n hL)
open Go.RowKit
set_option linter.unusedVariables false
set_option linter.unusedSimpArgs false
set_option maxRecDepth 100000
theorem a4g (v:Vl):v.nullB=true↔v.kindI=1:=by cases v<;>simp[Vl.nullB,Vl.kindI]
theorem Ay {v:Vl}:HasC Tryz.prog 17 [VV v] (fun y => ∃ b,y=.v (.bool b)∧(b=true↔v.kindI=1)):=(Gw v).mono fun y hy=>⟨_,hy,a4g v⟩
theorem Hf {v:Vl}:HasC Tryz.prog 20 [VV v] (fun y => ∃ k,y=.v (.int .i64 k)∧k=v.kindI):=(b8e v).mono fun y hy=>⟨_,hy,rfl⟩
theorem Ob {k:Int}:HasC Tryz.prog 36 [.v (.int .i64 k)] (fun r => ∃ b,r=.v (.bool b)∧(b=true↔3≤k∧k≤9)):=by
 refine hO [] Tryz.f36 (fun a w=>Tryz.call36 a w) Tryz.func36 rfl (⟨_,decide (3≤k∧k≤9),rfl,by simp⟩) ?_
 refine Aa rfl (iQ 1 (iE 9 [(0,Ia k),(2,Ba false)] [] ?_))
 refine Aa rfl (iQ 1 (jB .geq 27 (.int .i64 k) (.int .i64 3) 4 ?_))
 intro c4 hc4
 refine iQ 1 ?_
 cases c4
 ·replace hc4:=bf hc4
  refine iQ 4 (iE 9 [(2,Ba false)] [] ?_)
  refine Ab (iR (Bv false) ?_)
  exact ⟨_,rfl,by simp;omega⟩
 ·replace hc4:=bt hc4
  refine iQ 1 (jB .leq 27 (.int .i64 k) (.int .i64 9) 7 ?_)
  intro c7 hc7
  refine iQ 2 (iE 9 [(2,Ba c7)] [] ?_)
  refine Ab (iR (Bv c7) ?_)
  exact ⟨_,rfl,by rw[hc7];omega⟩
theorem b7l {vs:List Vl} (h:vs.length≤1073741824):HasC Tryz.prog 84 [.sl ((vs).length) (Av (vs))] (fun r=>r=.agg [(Vl.list vs).enc]):=by
 refine hO [] Tryz.f84 (fun a w=>Tryz.call84 a w) Tryz.func84 rfl (⟨_,rfl⟩) ?_
 refine Aa rfl (iQ 1 ?_)
 let Z1:=zT [(0,.d (.sl ((vs).length) (Av (vs)))),(2,.p 2 0)] []
 refine iE 7 Z1 [(2,[.v (.nilIface)])] ?_
 refine Aa rfl (iQ 1 (eC 85 [.sl ((vs).length) (Av (vs))] 4 (Qw h) (iQ 3 ?_)))
 let Z2:=zH [(2,[.ifc 118 (.sl ((vs).length) (Av (vs)))])] []
 refine iE 7 [(2,.p 2 0)] Z2 ?_
 refine Ab (iR (.agg [.ifc 118 (.sl ((vs).length) (Av (vs)))]) ?_)
 rw[Vl.enc]
theorem Ws {vs:List Vl} (h:vs.length≤1073741824):HasC Tryz.prog 84 [.sl vs.length (Av vs)] (fun r=>r=VV (.list vs)):=HasC.bxR (b7l h)
def Aw (kl kh:Int):Prop:=(kl=1∨3≤kl∧kl≤9)∧(kh=1∨3≤kh∧kh≤9)∧(kl=1∨kh=1∨kl=kh)
instance (kl kh:Int):Decidable (Aw kl kh):=inferInstanceAs (Decidable (_∧_))
def Fz (lo hi:Vl) (p q:Bool):Vl:=if Aw lo.kindI hi.kindI then .rng lo hi (p && !lo.nullB) (q && !hi.nullB) else .null
theorem Ao {lo hi:Vl} {p q:Bool} (h : ¬ Aw lo.kindI hi.kindI):DV.agg [.v .nilIface]=.agg [(Fz lo hi p q).enc]:=by rw[Fz,if_neg h,Vl.enc]
theorem Al {lo hi:Vl} {p q x y:Bool} (h:Aw lo.kindI hi.kindI) (hx:x=(p && !lo.nullB)) (hy:y=(q && !hi.nullB)) :
  DV.agg [.ifc 200 (.agg [.bx lo.enc,.bx hi.enc,.v (.bool x),.v (.bool y)])]=.agg [(Fz lo hi p q).enc]:=by rw[Fz,if_pos h,Vl.enc,hx,hy]
theorem Ah {v:Vl} {c n:Bool} (h1:c=true↔n=false) (h2:n=true↔v.kindI=1):c = !v.nullB:=by
 have:=a4g v
 cases n<;>cases hv:v.nullB<;>simp_all
set_option maxHeartbeats 3200000 in
theorem b36 {lo hi:Vl} {p q:Bool}:HasC Tryz.prog 120 [.agg [.bx (lo).enc],.agg [.bx (hi).enc],.agg [.v (.bool p),.v (.bool q)]] (fun r=>r=.agg [(Fz lo hi p q).enc]):=by
 refine hO [] Tryz.f120 (fun a w=>Tryz.call120 a w) Tryz.func120 rfl (⟨_,rfl⟩) ?_
 have hl:=a1q (v:=lo)
 have hh:=a1q (v:=hi)
 refine Aa rfl (iQ 4 ?_)
 let Z1:=zT [(3,.p 3 0),(4,.p 4 0),(5,.p 5 0),(6,.p 6 0)] []
 let Z2:=zH [(3,[.bx (lo).enc]),(4,[.bx (hi).enc]),(5,[Bv p,Bv q]),(6,[.v (.nilIface)])] []
 refine iE 71 Z1 Z2 ?_
 refine Aa rfl (iQ 1 (jC 20 [.agg [.bx (lo).enc]] 9 (Hf) ?_))
 rintro _ ⟨k9,rfl,hk9⟩
 refine iQ 1 (iE 71 (zT [(7,Ia k9)] Z1) Z2 ?_)
 refine Ef 71 (fun (vcx:Int×Bool)=>match vcx with | (k,vb11)=>[(3,.p 3 0),(4,.p 4 0),(5,.p 5 0),(6,.p 6 0),(7,Ia k),(11,Ba vb11)]) (fun (vcx:Int×Bool)=>match vcx with | (k,vb11)=>[(3,[.bx (lo).enc]),(4,[.bx (hi).enc]),(5,[Bv p,Bv q]),(6,[.v (.nilIface)])]) (fun (vcx:Int×Bool)=>match vcx with | (k,vb11)=>(lo.kindI=1∧k=hi.kindI)∨(lo.kindI≠1∧k=lo.kindI)) ?_ ?_
 ·rintro ⟨k,vb11⟩ hinv
  simp only at hinv
  skip
  refine Ae (Aa rfl (iQ 1 (jC 17 [.agg [.bx (hi).enc]] 15 (Ay) ?_)))
  rintro _ ⟨n15,rfl,hn15⟩
  refine jU .not (.bool n15) 16 ?_
  intro c16 hc16
  refine iQ 1 ?_
  cases c16
  ·replace hc16:=bf hc16
   refine iQ 7 (jC 17 [.agg [.bx (lo).enc]] 25 (Ay) ?_)
   rintro _ ⟨n25,rfl,hn25⟩
   refine jU .not (.bool n25) 26 ?_
   intro c26 hc26
   refine iQ 1 ?_
   cases c26
   ·replace hc26:=bf hc26
    refine iQ 14 (jC 36 [Iv k] 42 (Ob) ?_)
    rintro _ ⟨o42,rfl,ho42⟩
    refine jU .not (.bool o42) 43 ?_
    intro c43 hc43
    refine iQ 1 ?_
    cases c43
    ·replace hc43:=bf hc43
     refine iQ 4 (iE 71 (zT [(11,Ba vb11),(48,Ba false)] Z1) Z2 ?_)
     refine iF (Ad (Af (Aa rfl (iQ 6 ?_))))
     cases p
     ·refine iQ 7 ?_
      cases q
      ·refine iQ 9 ?_
       let Z3:=zT [(3,.p 3 0),(4,.p 4 0),(6,.p 6 0),(11,Ba vb11),(48,Ba false)] []
       let Z4:=zH [(6,[.ifc 200 (.agg [.bx (lo).enc,.bx (hi).enc,Bv false,Bv false])])] []
       refine iE 71 Z3 (zH [(3,[.bx (lo).enc]),(4,[.bx (hi).enc])] Z4) ?_
       refine Ab (iR (.agg [.ifc 200 (.agg [.bx (lo).enc,.bx (hi).enc,Bv false,Bv false])]) ?_)
       first | exact Ao (by unfold Aw;grind) | exact Al (by unfold Aw;grind) (by first | rfl | exact Ah hc58 hn57) (by first | rfl | exact Ah hc65 hn64)
      ·refine iQ 1 (jC 17 [.agg [.bx (hi).enc]] 64 (Ay) ?_)
       rintro _ ⟨n64,rfl,hn64⟩
       refine jU .not (.bool n64) 65 ?_
       intro c65 hc65
       refine iQ 6 ?_
       let Z5:=zT [(3,.p 3 0),(4,.p 4 0),(6,.p 6 0),(11,Ba vb11),(48,Ba false)] []
       let Z6:=zH [(6,[.ifc 200 (.agg [.bx (lo).enc,.bx (hi).enc,Bv false,Bv c65])])] []
       refine iE 71 Z5 (zH [(3,[.bx (lo).enc]),(4,[.bx (hi).enc])] Z6) ?_
       refine Ab (iR (.agg [.ifc 200 (.agg [.bx (lo).enc,.bx (hi).enc,Bv false,Bv c65])]) ?_)
       first | exact Ao (by unfold Aw;grind) | exact Al (by unfold Aw;grind) (by first | rfl | exact Ah hc58 hn57) (by first | rfl | exact Ah hc65 hn64)
     ·refine iQ 1 (jC 17 [.agg [.bx (lo).enc]] 57 (Ay) ?_)
      rintro _ ⟨n57,rfl,hn57⟩
      refine jU .not (.bool n57) 58 ?_
      intro c58 hc58
      refine iQ 4 ?_
      cases q
      ·refine iQ 9 ?_
       let Z7:=zT [(3,.p 3 0),(4,.p 4 0),(6,.p 6 0),(11,Ba vb11),(48,Ba false)] []
       let Z8:=zH [(6,[.ifc 200 (.agg [.bx (lo).enc,.bx (hi).enc,Bv c58,Bv false])])] []
       refine iE 71 Z7 (zH [(3,[.bx (lo).enc]),(4,[.bx (hi).enc])] Z8) ?_
       refine Ab (iR (.agg [.ifc 200 (.agg [.bx (lo).enc,.bx (hi).enc,Bv c58,Bv false])]) ?_)
       first | exact Ao (by unfold Aw;grind) | exact Al (by unfold Aw;grind) (by first | rfl | exact Ah hc58 hn57) (by first | rfl | exact Ah hc65 hn64)
      ·refine iQ 1 (jC 17 [.agg [.bx (hi).enc]] 64 (Ay) ?_)
       rintro _ ⟨n64,rfl,hn64⟩
       refine jU .not (.bool n64) 65 ?_
       intro c65 hc65
       refine iQ 6 ?_
       let Z9:=zT [(3,.p 3 0),(4,.p 4 0),(6,.p 6 0),(11,Ba vb11),(48,Ba false)] []
       let Z10:=zH [(6,[.ifc 200 (.agg [.bx (lo).enc,.bx (hi).enc,Bv c58,Bv c65])])] []
       refine iE 71 Z9 (zH [(3,[.bx (lo).enc]),(4,[.bx (hi).enc])] Z10) ?_
       refine Ab (iR (.agg [.ifc 200 (.agg [.bx (lo).enc,.bx (hi).enc,Bv c58,Bv c65])]) ?_)
       first | exact Ao (by unfold Aw;grind) | exact Al (by unfold Aw;grind) (by first | rfl | exact Ah hc58 hn57) (by first | rfl | exact Ah hc65 hn64)
    ·replace hc43:=bt hc43
     refine iQ 1 (jB .neq 27 (.int .i64 k) (.int .i64 1) 46 ?_)
     intro c46 hc46
     refine iQ 2 ?_
     let Z11:=zT [(3,.p 3 0),(4,.p 4 0),(5,.p 5 0),(6,.p 6 0),(11,Ba vb11),(48,Ba c46)] []
     let Z12:=zH [(3,[.bx (lo).enc]),(4,[.bx (hi).enc]),(5,[Bv p,Bv q]),(6,[.v (.nilIface)])] []
     refine iE 71 Z11 Z12 ?_
     cases c46
     ·replace hc46:=bf hc46
      refine iF (Ad (Af (Aa rfl (iQ 6 ?_))))
      cases p
      ·refine iQ 7 ?_
       cases q
       ·refine iQ 9 ?_
        let Z13:=zT [(3,.p 3 0),(4,.p 4 0),(6,.p 6 0),(11,Ba vb11),(48,Ba false)] []
        let Z14:=zH [(6,[.ifc 200 (.agg [.bx (lo).enc,.bx (hi).enc,Bv false,Bv false])])] []
        refine iE 71 Z13 (zH [(3,[.bx (lo).enc]),(4,[.bx (hi).enc])] Z14) ?_
        refine Ab (iR (.agg [.ifc 200 (.agg [.bx (lo).enc,.bx (hi).enc,Bv false,Bv false])]) ?_)
        first | exact Ao (by unfold Aw;grind) | exact Al (by unfold Aw;grind) (by first | rfl | exact Ah hc58 hn57) (by first | rfl | exact Ah hc65 hn64)
       ·refine iQ 1 (jC 17 [.agg [.bx (hi).enc]] 64 (Ay) ?_)
        rintro _ ⟨n64,rfl,hn64⟩
        refine jU .not (.bool n64) 65 ?_
        intro c65 hc65
        refine iQ 6 ?_
        let Z15:=zT [(3,.p 3 0),(4,.p 4 0),(6,.p 6 0),(11,Ba vb11),(48,Ba false)] []
        let Z16:=zH [(6,[.ifc 200 (.agg [.bx (lo).enc,.bx (hi).enc,Bv false,Bv c65])])] []
        refine iE 71 Z15 (zH [(3,[.bx (lo).enc]),(4,[.bx (hi).enc])] Z16) ?_
        refine Ab (iR (.agg [.ifc 200 (.agg [.bx (lo).enc,.bx (hi).enc,Bv false,Bv c65])]) ?_)
        first | exact Ao (by unfold Aw;grind) | exact Al (by unfold Aw;grind) (by first | rfl | exact Ah hc58 hn57) (by first | rfl | exact Ah hc65 hn64)
      ·refine iQ 1 (jC 17 [.agg [.bx (lo).enc]] 57 (Ay) ?_)
       rintro _ ⟨n57,rfl,hn57⟩
       refine jU .not (.bool n57) 58 ?_
       intro c58 hc58
       refine iQ 4 ?_
       cases q
       ·refine iQ 9 ?_
        let Z17:=zT [(3,.p 3 0),(4,.p 4 0),(6,.p 6 0),(11,Ba vb11),(48,Ba false)] []
        let Z18:=zH [(6,[.ifc 200 (.agg [.bx (lo).enc,.bx (hi).enc,Bv c58,Bv false])])] []
        refine iE 71 Z17 (zH [(3,[.bx (lo).enc]),(4,[.bx (hi).enc])] Z18) ?_
        refine Ab (iR (.agg [.ifc 200 (.agg [.bx (lo).enc,.bx (hi).enc,Bv c58,Bv false])]) ?_)
        first | exact Ao (by unfold Aw;grind) | exact Al (by unfold Aw;grind) (by first | rfl | exact Ah hc58 hn57) (by first | rfl | exact Ah hc65 hn64)
       ·refine iQ 1 (jC 17 [.agg [.bx (hi).enc]] 64 (Ay) ?_)
        rintro _ ⟨n64,rfl,hn64⟩
        refine jU .not (.bool n64) 65 ?_
        intro c65 hc65
        refine iQ 6 ?_
        let Z19:=zT [(3,.p 3 0),(4,.p 4 0),(6,.p 6 0),(11,Ba vb11),(48,Ba false)] []
        let Z20:=zH [(6,[.ifc 200 (.agg [.bx (lo).enc,.bx (hi).enc,Bv c58,Bv c65])])] []
        refine iE 71 Z19 (zH [(3,[.bx (lo).enc]),(4,[.bx (hi).enc])] Z20) ?_
        refine Ab (iR (.agg [.ifc 200 (.agg [.bx (lo).enc,.bx (hi).enc,Bv c58,Bv c65])]) ?_)
        first | exact Ao (by unfold Aw;grind) | exact Al (by unfold Aw;grind) (by first | rfl | exact Ah hc58 hn57) (by first | rfl | exact Ah hc65 hn64)
     ·replace hc46:=bt hc46
      refine iT (Aa rfl (iQ 2 ?_))
      let Z21:=zT [(3,.p 3 0),(4,.p 4 0),(5,.p 5 0),(6,.p 6 0),(11,Ba vb11),(48,Ba true)] []
      let Z22:=zH [(3,[.bx (lo).enc]),(4,[.bx (hi).enc]),(5,[Bv p,Bv q]),(6,[.v (.nilIface)])] []
      refine iE 71 Z21 Z22 ?_
      refine Ab (Ag (iR (.agg [.v (.nilIface)]) ?_))
      first | exact Ao (by unfold Aw;grind) | exact Al (by unfold Aw;grind) (by first | rfl | exact Ah hc58 hn57) (by first | rfl | exact Ah hc65 hn64)
   ·replace hc26:=bt hc26
    refine iQ 1 (jC 17 [.agg [.bx (hi).enc]] 29 (Ay) ?_)
    rintro _ ⟨n29,rfl,hn29⟩
    refine jU .not (.bool n29) 30 ?_
    intro c30 hc30
    refine iQ 2 ?_
    cases c30
    ·replace hc30:=bf hc30
     refine iQ 9 (jC 36 [Iv k] 42 (Ob) ?_)
     rintro _ ⟨o42,rfl,ho42⟩
     refine jU .not (.bool o42) 43 ?_
     intro c43 hc43
     refine iQ 1 ?_
     cases c43
     ·replace hc43:=bf hc43
      refine iQ 4 ?_
      let Z23:=zT [(3,.p 3 0),(4,.p 4 0),(5,.p 5 0),(6,.p 6 0),(11,Ba vb11),(48,Ba false)] []
      let Z24:=zH [(3,[.bx (lo).enc]),(4,[.bx (hi).enc]),(5,[Bv p,Bv q]),(6,[.v (.nilIface)])] []
      refine iE 71 Z23 Z24 ?_
      refine iF (Ad (Af (Aa rfl (iQ 6 ?_))))
      cases p
      ·refine iQ 7 ?_
       cases q
       ·refine iQ 9 ?_
        let Z25:=zT [(3,.p 3 0),(4,.p 4 0),(6,.p 6 0),(11,Ba vb11),(48,Ba false)] []
        let Z26:=zH [(6,[.ifc 200 (.agg [.bx (lo).enc,.bx (hi).enc,Bv false,Bv false])])] []
        refine iE 71 Z25 (zH [(3,[.bx (lo).enc]),(4,[.bx (hi).enc])] Z26) ?_
        refine Ab (iR (.agg [.ifc 200 (.agg [.bx (lo).enc,.bx (hi).enc,Bv false,Bv false])]) ?_)
        first | exact Ao (by unfold Aw;grind) | exact Al (by unfold Aw;grind) (by first | rfl | exact Ah hc58 hn57) (by first | rfl | exact Ah hc65 hn64)
       ·refine iQ 1 (jC 17 [.agg [.bx (hi).enc]] 64 (Ay) ?_)
        rintro _ ⟨n64,rfl,hn64⟩
        refine jU .not (.bool n64) 65 ?_
        intro c65 hc65
        refine iQ 6 ?_
        let Z27:=zT [(3,.p 3 0),(4,.p 4 0),(6,.p 6 0),(11,Ba vb11),(48,Ba false)] []
        let Z28:=zH [(6,[.ifc 200 (.agg [.bx (lo).enc,.bx (hi).enc,Bv false,Bv c65])])] []
        refine iE 71 Z27 (zH [(3,[.bx (lo).enc]),(4,[.bx (hi).enc])] Z28) ?_
        refine Ab (iR (.agg [.ifc 200 (.agg [.bx (lo).enc,.bx (hi).enc,Bv false,Bv c65])]) ?_)
        first | exact Ao (by unfold Aw;grind) | exact Al (by unfold Aw;grind) (by first | rfl | exact Ah hc58 hn57) (by first | rfl | exact Ah hc65 hn64)
      ·refine iQ 1 (jC 17 [.agg [.bx (lo).enc]] 57 (Ay) ?_)
       rintro _ ⟨n57,rfl,hn57⟩
       refine jU .not (.bool n57) 58 ?_
       intro c58 hc58
       refine iQ 4 ?_
       cases q
       ·refine iQ 9 ?_
        let Z29:=zT [(3,.p 3 0),(4,.p 4 0),(6,.p 6 0),(11,Ba vb11),(48,Ba false)] []
        let Z30:=zH [(6,[.ifc 200 (.agg [.bx (lo).enc,.bx (hi).enc,Bv c58,Bv false])])] []
        refine iE 71 Z29 (zH [(3,[.bx (lo).enc]),(4,[.bx (hi).enc])] Z30) ?_
        refine Ab (iR (.agg [.ifc 200 (.agg [.bx (lo).enc,.bx (hi).enc,Bv c58,Bv false])]) ?_)
        first | exact Ao (by unfold Aw;grind) | exact Al (by unfold Aw;grind) (by first | rfl | exact Ah hc58 hn57) (by first | rfl | exact Ah hc65 hn64)
       ·refine iQ 1 (jC 17 [.agg [.bx (hi).enc]] 64 (Ay) ?_)
        rintro _ ⟨n64,rfl,hn64⟩
        refine jU .not (.bool n64) 65 ?_
        intro c65 hc65
        refine iQ 6 ?_
        let Z31:=zT [(3,.p 3 0),(4,.p 4 0),(6,.p 6 0),(11,Ba vb11),(48,Ba false)] []
        let Z32:=zH [(6,[.ifc 200 (.agg [.bx (lo).enc,.bx (hi).enc,Bv c58,Bv c65])])] []
        refine iE 71 Z31 (zH [(3,[.bx (lo).enc]),(4,[.bx (hi).enc])] Z32) ?_
        refine Ab (iR (.agg [.ifc 200 (.agg [.bx (lo).enc,.bx (hi).enc,Bv c58,Bv c65])]) ?_)
        first | exact Ao (by unfold Aw;grind) | exact Al (by unfold Aw;grind) (by first | rfl | exact Ah hc58 hn57) (by first | rfl | exact Ah hc65 hn64)
     ·replace hc43:=bt hc43
      refine iQ 1 (jB .neq 27 (.int .i64 k) (.int .i64 1) 46 ?_)
      intro c46 hc46
      refine iQ 2 ?_
      let Z33:=zT [(3,.p 3 0),(4,.p 4 0),(5,.p 5 0),(6,.p 6 0),(11,Ba vb11),(48,Ba c46)] []
      let Z34:=zH [(3,[.bx (lo).enc]),(4,[.bx (hi).enc]),(5,[Bv p,Bv q]),(6,[.v (.nilIface)])] []
      refine iE 71 Z33 Z34 ?_
      cases c46
      ·replace hc46:=bf hc46
       refine iF (Ad (Af (Aa rfl (iQ 6 ?_))))
       cases p
       ·refine iQ 7 ?_
        cases q
        ·refine iQ 9 ?_
         let Z35:=zT [(3,.p 3 0),(4,.p 4 0),(6,.p 6 0),(11,Ba vb11),(48,Ba false)] []
         let Z36:=zH [(6,[.ifc 200 (.agg [.bx (lo).enc,.bx (hi).enc,Bv false,Bv false])])] []
         refine iE 71 Z35 (zH [(3,[.bx (lo).enc]),(4,[.bx (hi).enc])] Z36) ?_
         refine Ab (iR (.agg [.ifc 200 (.agg [.bx (lo).enc,.bx (hi).enc,Bv false,Bv false])]) ?_)
         first | exact Ao (by unfold Aw;grind) | exact Al (by unfold Aw;grind) (by first | rfl | exact Ah hc58 hn57) (by first | rfl | exact Ah hc65 hn64)
        ·refine iQ 1 (jC 17 [.agg [.bx (hi).enc]] 64 (Ay) ?_)
         rintro _ ⟨n64,rfl,hn64⟩
         refine jU .not (.bool n64) 65 ?_
         intro c65 hc65
         refine iQ 6 ?_
         let Z37:=zT [(3,.p 3 0),(4,.p 4 0),(6,.p 6 0),(11,Ba vb11),(48,Ba false)] []
         let Z38:=zH [(6,[.ifc 200 (.agg [.bx (lo).enc,.bx (hi).enc,Bv false,Bv c65])])] []
         refine iE 71 Z37 (zH [(3,[.bx (lo).enc]),(4,[.bx (hi).enc])] Z38) ?_
         refine Ab (iR (.agg [.ifc 200 (.agg [.bx (lo).enc,.bx (hi).enc,Bv false,Bv c65])]) ?_)
         first | exact Ao (by unfold Aw;grind) | exact Al (by unfold Aw;grind) (by first | rfl | exact Ah hc58 hn57) (by first | rfl | exact Ah hc65 hn64)
       ·refine iQ 1 (jC 17 [.agg [.bx (lo).enc]] 57 (Ay) ?_)
        rintro _ ⟨n57,rfl,hn57⟩
        refine jU .not (.bool n57) 58 ?_
        intro c58 hc58
        refine iQ 4 ?_
        cases q
        ·refine iQ 9 ?_
         let Z39:=zT [(3,.p 3 0),(4,.p 4 0),(6,.p 6 0),(11,Ba vb11),(48,Ba false)] []
         let Z40:=zH [(6,[.ifc 200 (.agg [.bx (lo).enc,.bx (hi).enc,Bv c58,Bv false])])] []
         refine iE 71 Z39 (zH [(3,[.bx (lo).enc]),(4,[.bx (hi).enc])] Z40) ?_
         refine Ab (iR (.agg [.ifc 200 (.agg [.bx (lo).enc,.bx (hi).enc,Bv c58,Bv false])]) ?_)
         first | exact Ao (by unfold Aw;grind) | exact Al (by unfold Aw;grind) (by first | rfl | exact Ah hc58 hn57) (by first | rfl | exact Ah hc65 hn64)
        ·refine iQ 1 (jC 17 [.agg [.bx (hi).enc]] 64 (Ay) ?_)
         rintro _ ⟨n64,rfl,hn64⟩
         refine jU .not (.bool n64) 65 ?_
         intro c65 hc65
         refine iQ 6 ?_
         let Z41:=zT [(3,.p 3 0),(4,.p 4 0),(6,.p 6 0),(11,Ba vb11),(48,Ba false)] []
         let Z42:=zH [(6,[.ifc 200 (.agg [.bx (lo).enc,.bx (hi).enc,Bv c58,Bv c65])])] []
         refine iE 71 Z41 (zH [(3,[.bx (lo).enc]),(4,[.bx (hi).enc])] Z42) ?_
         refine Ab (iR (.agg [.ifc 200 (.agg [.bx (lo).enc,.bx (hi).enc,Bv c58,Bv c65])]) ?_)
         first | exact Ao (by unfold Aw;grind) | exact Al (by unfold Aw;grind) (by first | rfl | exact Ah hc58 hn57) (by first | rfl | exact Ah hc65 hn64)
      ·replace hc46:=bt hc46
       refine iT (Aa rfl (iQ 2 ?_))
       let Z43:=zT [(3,.p 3 0),(4,.p 4 0),(5,.p 5 0),(6,.p 6 0),(11,Ba vb11),(48,Ba true)] []
       let Z44:=zH [(3,[.bx (lo).enc]),(4,[.bx (hi).enc]),(5,[Bv p,Bv q]),(6,[.v (.nilIface)])] []
       refine iE 71 Z43 Z44 ?_
       refine Ab (Ag (iR (.agg [.v (.nilIface)]) ?_))
       first | exact Ao (by unfold Aw;grind) | exact Al (by unfold Aw;grind) (by first | rfl | exact Ah hc58 hn57) (by first | rfl | exact Ah hc65 hn64)
    ·replace hc30:=bt hc30
     refine iQ 1 (jC 20 [.agg [.bx (lo).enc]] 34 (Hf) ?_)
     rintro _ ⟨k34,rfl,hk34⟩
     refine iQ 1 (jC 20 [.agg [.bx (hi).enc]] 36 (Hf) ?_)
     rintro _ ⟨k36,rfl,hk36⟩
     refine jB .neq 27 (.int .i64 k34) (.int .i64 k36) 37 ?_
     intro c37 hc37
     refine iQ 3 ?_
     cases c37
     ·replace hc37:=bf hc37
      refine iQ 1 (jC 36 [Iv k] 42 (Ob) ?_)
      rintro _ ⟨o42,rfl,ho42⟩
      refine jU .not (.bool o42) 43 ?_
      intro c43 hc43
      refine iQ 1 ?_
      cases c43
      ·replace hc43:=bf hc43
       refine iQ 4 ?_
       let Z45:=zT [(3,.p 3 0),(4,.p 4 0),(5,.p 5 0),(6,.p 6 0),(11,Ba vb11),(48,Ba false)] []
       let Z46:=zH [(3,[.bx (lo).enc]),(4,[.bx (hi).enc]),(5,[Bv p,Bv q]),(6,[.v (.nilIface)])] []
       refine iE 71 Z45 Z46 ?_
       refine iF (Ad (Af (Aa rfl (iQ 6 ?_))))
       cases p
       ·refine iQ 7 ?_
        cases q
        ·refine iQ 9 ?_
         let Z47:=zT [(3,.p 3 0),(4,.p 4 0),(6,.p 6 0),(11,Ba vb11),(48,Ba false)] []
         let Z48:=zH [(6,[.ifc 200 (.agg [.bx (lo).enc,.bx (hi).enc,Bv false,Bv false])])] []
         refine iE 71 Z47 (zH [(3,[.bx (lo).enc]),(4,[.bx (hi).enc])] Z48) ?_
         refine Ab (iR (.agg [.ifc 200 (.agg [.bx (lo).enc,.bx (hi).enc,Bv false,Bv false])]) ?_)
         first | exact Ao (by unfold Aw;grind) | exact Al (by unfold Aw;grind) (by first | rfl | exact Ah hc58 hn57) (by first | rfl | exact Ah hc65 hn64)
        ·refine iQ 1 (jC 17 [.agg [.bx (hi).enc]] 64 (Ay) ?_)
         rintro _ ⟨n64,rfl,hn64⟩
         refine jU .not (.bool n64) 65 ?_
         intro c65 hc65
         refine iQ 6 ?_
         let Z49:=zT [(3,.p 3 0),(4,.p 4 0),(6,.p 6 0),(11,Ba vb11),(48,Ba false)] []
         let Z50:=zH [(6,[.ifc 200 (.agg [.bx (lo).enc,.bx (hi).enc,Bv false,Bv c65])])] []
         refine iE 71 Z49 (zH [(3,[.bx (lo).enc]),(4,[.bx (hi).enc])] Z50) ?_
         refine Ab (iR (.agg [.ifc 200 (.agg [.bx (lo).enc,.bx (hi).enc,Bv false,Bv c65])]) ?_)
         first | exact Ao (by unfold Aw;grind) | exact Al (by unfold Aw;grind) (by first | rfl | exact Ah hc58 hn57) (by first | rfl | exact Ah hc65 hn64)
       ·refine iQ 1 (jC 17 [.agg [.bx (lo).enc]] 57 (Ay) ?_)
        rintro _ ⟨n57,rfl,hn57⟩
        refine jU .not (.bool n57) 58 ?_
        intro c58 hc58
        refine iQ 4 ?_
        cases q
        ·refine iQ 9 ?_
         let Z51:=zT [(3,.p 3 0),(4,.p 4 0),(6,.p 6 0),(11,Ba vb11),(48,Ba false)] []
         let Z52:=zH [(6,[.ifc 200 (.agg [.bx (lo).enc,.bx (hi).enc,Bv c58,Bv false])])] []
         refine iE 71 Z51 (zH [(3,[.bx (lo).enc]),(4,[.bx (hi).enc])] Z52) ?_
         refine Ab (iR (.agg [.ifc 200 (.agg [.bx (lo).enc,.bx (hi).enc,Bv c58,Bv false])]) ?_)
         first | exact Ao (by unfold Aw;grind) | exact Al (by unfold Aw;grind) (by first | rfl | exact Ah hc58 hn57) (by first | rfl | exact Ah hc65 hn64)
        ·refine iQ 1 (jC 17 [.agg [.bx (hi).enc]] 64 (Ay) ?_)
         rintro _ ⟨n64,rfl,hn64⟩
         refine jU .not (.bool n64) 65 ?_
         intro c65 hc65
         refine iQ 6 ?_
         let Z53:=zT [(3,.p 3 0),(4,.p 4 0),(6,.p 6 0),(11,Ba vb11),(48,Ba false)] []
         let Z54:=zH [(6,[.ifc 200 (.agg [.bx (lo).enc,.bx (hi).enc,Bv c58,Bv c65])])] []
         refine iE 71 Z53 (zH [(3,[.bx (lo).enc]),(4,[.bx (hi).enc])] Z54) ?_
         refine Ab (iR (.agg [.ifc 200 (.agg [.bx (lo).enc,.bx (hi).enc,Bv c58,Bv c65])]) ?_)
         first | exact Ao (by unfold Aw;grind) | exact Al (by unfold Aw;grind) (by first | rfl | exact Ah hc58 hn57) (by first | rfl | exact Ah hc65 hn64)
      ·replace hc43:=bt hc43
       refine iQ 1 (jB .neq 27 (.int .i64 k) (.int .i64 1) 46 ?_)
       intro c46 hc46
       refine iQ 2 ?_
       let Z55:=zT [(3,.p 3 0),(4,.p 4 0),(5,.p 5 0),(6,.p 6 0),(11,Ba vb11),(48,Ba c46)] []
       let Z56:=zH [(3,[.bx (lo).enc]),(4,[.bx (hi).enc]),(5,[Bv p,Bv q]),(6,[.v (.nilIface)])] []
       refine iE 71 Z55 Z56 ?_
       cases c46
       ·replace hc46:=bf hc46
        refine iF (Ad (Af (Aa rfl (iQ 6 ?_))))
        cases p
        ·refine iQ 7 ?_
         cases q
         ·refine iQ 9 ?_
          let Z57:=zT [(3,.p 3 0),(4,.p 4 0),(6,.p 6 0),(11,Ba vb11),(48,Ba false)] []
          let Z58:=zH [(6,[.ifc 200 (.agg [.bx (lo).enc,.bx (hi).enc,Bv false,Bv false])])] []
          refine iE 71 Z57 (zH [(3,[.bx (lo).enc]),(4,[.bx (hi).enc])] Z58) ?_
          refine Ab (iR (.agg [.ifc 200 (.agg [.bx (lo).enc,.bx (hi).enc,Bv false,Bv false])]) ?_)
          first | exact Ao (by unfold Aw;grind) | exact Al (by unfold Aw;grind) (by first | rfl | exact Ah hc58 hn57) (by first | rfl | exact Ah hc65 hn64)
         ·refine iQ 1 (jC 17 [.agg [.bx (hi).enc]] 64 (Ay) ?_)
          rintro _ ⟨n64,rfl,hn64⟩
          refine jU .not (.bool n64) 65 ?_
          intro c65 hc65
          refine iQ 6 ?_
          let Z59:=zT [(3,.p 3 0),(4,.p 4 0),(6,.p 6 0),(11,Ba vb11),(48,Ba false)] []
          let Z60:=zH [(6,[.ifc 200 (.agg [.bx (lo).enc,.bx (hi).enc,Bv false,Bv c65])])] []
          refine iE 71 Z59 (zH [(3,[.bx (lo).enc]),(4,[.bx (hi).enc])] Z60) ?_
          refine Ab (iR (.agg [.ifc 200 (.agg [.bx (lo).enc,.bx (hi).enc,Bv false,Bv c65])]) ?_)
          first | exact Ao (by unfold Aw;grind) | exact Al (by unfold Aw;grind) (by first | rfl | exact Ah hc58 hn57) (by first | rfl | exact Ah hc65 hn64)
        ·refine iQ 1 (jC 17 [.agg [.bx (lo).enc]] 57 (Ay) ?_)
         rintro _ ⟨n57,rfl,hn57⟩
         refine jU .not (.bool n57) 58 ?_
         intro c58 hc58
         refine iQ 4 ?_
         cases q
         ·refine iQ 9 ?_
          let Z61:=zT [(3,.p 3 0),(4,.p 4 0),(6,.p 6 0),(11,Ba vb11),(48,Ba false)] []
          let Z62:=zH [(6,[.ifc 200 (.agg [.bx (lo).enc,.bx (hi).enc,Bv c58,Bv false])])] []
          refine iE 71 Z61 (zH [(3,[.bx (lo).enc]),(4,[.bx (hi).enc])] Z62) ?_
          refine Ab (iR (.agg [.ifc 200 (.agg [.bx (lo).enc,.bx (hi).enc,Bv c58,Bv false])]) ?_)
          first | exact Ao (by unfold Aw;grind) | exact Al (by unfold Aw;grind) (by first | rfl | exact Ah hc58 hn57) (by first | rfl | exact Ah hc65 hn64)
         ·refine iQ 1 (jC 17 [.agg [.bx (hi).enc]] 64 (Ay) ?_)
          rintro _ ⟨n64,rfl,hn64⟩
          refine jU .not (.bool n64) 65 ?_
          intro c65 hc65
          refine iQ 6 ?_
          let Z63:=zT [(3,.p 3 0),(4,.p 4 0),(6,.p 6 0),(11,Ba vb11),(48,Ba false)] []
          let Z64:=zH [(6,[.ifc 200 (.agg [.bx (lo).enc,.bx (hi).enc,Bv c58,Bv c65])])] []
          refine iE 71 Z63 (zH [(3,[.bx (lo).enc]),(4,[.bx (hi).enc])] Z64) ?_
          refine Ab (iR (.agg [.ifc 200 (.agg [.bx (lo).enc,.bx (hi).enc,Bv c58,Bv c65])]) ?_)
          first | exact Ao (by unfold Aw;grind) | exact Al (by unfold Aw;grind) (by first | rfl | exact Ah hc58 hn57) (by first | rfl | exact Ah hc65 hn64)
       ·replace hc46:=bt hc46
        refine iT (Aa rfl (iQ 2 ?_))
        let Z65:=zT [(3,.p 3 0),(4,.p 4 0),(5,.p 5 0),(6,.p 6 0),(11,Ba vb11),(48,Ba true)] []
        let Z66:=zH [(3,[.bx (lo).enc]),(4,[.bx (hi).enc]),(5,[Bv p,Bv q]),(6,[.v (.nilIface)])] []
        refine iE 71 Z65 Z66 ?_
        refine Ab (Ag (iR (.agg [.v (.nilIface)]) ?_))
        first | exact Ao (by unfold Aw;grind) | exact Al (by unfold Aw;grind) (by first | rfl | exact Ah hc58 hn57) (by first | rfl | exact Ah hc65 hn64)
     ·replace hc37:=bt hc37
      refine iQ 8 ?_
      let Z67:=zT [(3,.p 3 0),(4,.p 4 0),(5,.p 5 0),(6,.p 6 0),(11,Ba vb11),(48,Ba true)] []
      let Z68:=zH [(3,[.bx (lo).enc]),(4,[.bx (hi).enc]),(5,[Bv p,Bv q]),(6,[.v (.nilIface)])] []
      refine iE 71 Z67 Z68 ?_
      refine iT (Aa rfl (iQ 2 (iE 71 Z67 Z68 ?_)))
      refine Ab (Ag (iR (.agg [.v (.nilIface)]) ?_))
      first | exact Ao (by unfold Aw;grind) | exact Al (by unfold Aw;grind) (by first | rfl | exact Ah hc58 hn57) (by first | rfl | exact Ah hc65 hn64)
  ·replace hc16:=bt hc16
   refine iQ 1 (jC 20 [.agg [.bx (hi).enc]] 19 (Hf) ?_)
   rintro _ ⟨k19,rfl,hk19⟩
   refine iQ 1 (jB .neq 27 (.int .i64 k19) (.int .i64 k) 21 ?_)
   intro c21 hc21
   refine iQ 2 ?_
   cases c21
   ·replace hc21:=bf hc21
    refine iQ 1 (jC 17 [.agg [.bx (lo).enc]] 25 (Ay) ?_)
    rintro _ ⟨n25,rfl,hn25⟩
    refine jU .not (.bool n25) 26 ?_
    intro c26 hc26
    refine iQ 1 ?_
    cases c26
    ·replace hc26:=bf hc26
     refine iQ 14 (jC 36 [Iv k] 42 (Ob) ?_)
     rintro _ ⟨o42,rfl,ho42⟩
     refine jU .not (.bool o42) 43 ?_
     intro c43 hc43
     refine iQ 1 ?_
     cases c43
     ·replace hc43:=bf hc43
      refine iQ 4 ?_
      let Z69:=zT [(3,.p 3 0),(4,.p 4 0),(5,.p 5 0),(6,.p 6 0),(11,Ba vb11),(48,Ba false)] []
      let Z70:=zH [(3,[.bx (lo).enc]),(4,[.bx (hi).enc]),(5,[Bv p,Bv q]),(6,[.v (.nilIface)])] []
      refine iE 71 Z69 Z70 ?_
      refine iF (Ad (Af (Aa rfl (iQ 6 ?_))))
      cases p
      ·refine iQ 7 ?_
       cases q
       ·refine iQ 9 ?_
        let Z71:=zT [(3,.p 3 0),(4,.p 4 0),(6,.p 6 0),(11,Ba vb11),(48,Ba false)] []
        let Z72:=zH [(6,[.ifc 200 (.agg [.bx (lo).enc,.bx (hi).enc,Bv false,Bv false])])] []
        refine iE 71 Z71 (zH [(3,[.bx (lo).enc]),(4,[.bx (hi).enc])] Z72) ?_
        refine Ab (iR (.agg [.ifc 200 (.agg [.bx (lo).enc,.bx (hi).enc,Bv false,Bv false])]) ?_)
        first | exact Ao (by unfold Aw;grind) | exact Al (by unfold Aw;grind) (by first | rfl | exact Ah hc58 hn57) (by first | rfl | exact Ah hc65 hn64)
       ·refine iQ 1 (jC 17 [.agg [.bx (hi).enc]] 64 (Ay) ?_)
        rintro _ ⟨n64,rfl,hn64⟩
        refine jU .not (.bool n64) 65 ?_
        intro c65 hc65
        refine iQ 6 ?_
        let Z73:=zT [(3,.p 3 0),(4,.p 4 0),(6,.p 6 0),(11,Ba vb11),(48,Ba false)] []
        let Z74:=zH [(6,[.ifc 200 (.agg [.bx (lo).enc,.bx (hi).enc,Bv false,Bv c65])])] []
        refine iE 71 Z73 (zH [(3,[.bx (lo).enc]),(4,[.bx (hi).enc])] Z74) ?_
        refine Ab (iR (.agg [.ifc 200 (.agg [.bx (lo).enc,.bx (hi).enc,Bv false,Bv c65])]) ?_)
        first | exact Ao (by unfold Aw;grind) | exact Al (by unfold Aw;grind) (by first | rfl | exact Ah hc58 hn57) (by first | rfl | exact Ah hc65 hn64)
      ·refine iQ 1 (jC 17 [.agg [.bx (lo).enc]] 57 (Ay) ?_)
       rintro _ ⟨n57,rfl,hn57⟩
       refine jU .not (.bool n57) 58 ?_
       intro c58 hc58
       refine iQ 4 ?_
       cases q
       ·refine iQ 9 ?_
        let Z75:=zT [(3,.p 3 0),(4,.p 4 0),(6,.p 6 0),(11,Ba vb11),(48,Ba false)] []
        let Z76:=zH [(6,[.ifc 200 (.agg [.bx (lo).enc,.bx (hi).enc,Bv c58,Bv false])])] []
        refine iE 71 Z75 (zH [(3,[.bx (lo).enc]),(4,[.bx (hi).enc])] Z76) ?_
        refine Ab (iR (.agg [.ifc 200 (.agg [.bx (lo).enc,.bx (hi).enc,Bv c58,Bv false])]) ?_)
        first | exact Ao (by unfold Aw;grind) | exact Al (by unfold Aw;grind) (by first | rfl | exact Ah hc58 hn57) (by first | rfl | exact Ah hc65 hn64)
       ·refine iQ 1 (jC 17 [.agg [.bx (hi).enc]] 64 (Ay) ?_)
        rintro _ ⟨n64,rfl,hn64⟩
        refine jU .not (.bool n64) 65 ?_
        intro c65 hc65
        refine iQ 6 ?_
        let Z77:=zT [(3,.p 3 0),(4,.p 4 0),(6,.p 6 0),(11,Ba vb11),(48,Ba false)] []
        let Z78:=zH [(6,[.ifc 200 (.agg [.bx (lo).enc,.bx (hi).enc,Bv c58,Bv c65])])] []
        refine iE 71 Z77 (zH [(3,[.bx (lo).enc]),(4,[.bx (hi).enc])] Z78) ?_
        refine Ab (iR (.agg [.ifc 200 (.agg [.bx (lo).enc,.bx (hi).enc,Bv c58,Bv c65])]) ?_)
        first | exact Ao (by unfold Aw;grind) | exact Al (by unfold Aw;grind) (by first | rfl | exact Ah hc58 hn57) (by first | rfl | exact Ah hc65 hn64)
     ·replace hc43:=bt hc43
      refine iQ 1 (jB .neq 27 (.int .i64 k) (.int .i64 1) 46 ?_)
      intro c46 hc46
      refine iQ 2 ?_
      let Z79:=zT [(3,.p 3 0),(4,.p 4 0),(5,.p 5 0),(6,.p 6 0),(11,Ba vb11),(48,Ba c46)] []
      let Z80:=zH [(3,[.bx (lo).enc]),(4,[.bx (hi).enc]),(5,[Bv p,Bv q]),(6,[.v (.nilIface)])] []
      refine iE 71 Z79 Z80 ?_
      cases c46
      ·replace hc46:=bf hc46
       refine iF (Ad (Af (Aa rfl (iQ 6 ?_))))
       cases p
       ·refine iQ 7 ?_
        cases q
        ·refine iQ 9 ?_
         let Z81:=zT [(3,.p 3 0),(4,.p 4 0),(6,.p 6 0),(11,Ba vb11),(48,Ba false)] []
         let Z82:=zH [(6,[.ifc 200 (.agg [.bx (lo).enc,.bx (hi).enc,Bv false,Bv false])])] []
         refine iE 71 Z81 (zH [(3,[.bx (lo).enc]),(4,[.bx (hi).enc])] Z82) ?_
         refine Ab (iR (.agg [.ifc 200 (.agg [.bx (lo).enc,.bx (hi).enc,Bv false,Bv false])]) ?_)
         first | exact Ao (by unfold Aw;grind) | exact Al (by unfold Aw;grind) (by first | rfl | exact Ah hc58 hn57) (by first | rfl | exact Ah hc65 hn64)
        ·refine iQ 1 (jC 17 [.agg [.bx (hi).enc]] 64 (Ay) ?_)
         rintro _ ⟨n64,rfl,hn64⟩
         refine jU .not (.bool n64) 65 ?_
         intro c65 hc65
         refine iQ 6 ?_
         let Z83:=zT [(3,.p 3 0),(4,.p 4 0),(6,.p 6 0),(11,Ba vb11),(48,Ba false)] []
         let Z84:=zH [(6,[.ifc 200 (.agg [.bx (lo).enc,.bx (hi).enc,Bv false,Bv c65])])] []
         refine iE 71 Z83 (zH [(3,[.bx (lo).enc]),(4,[.bx (hi).enc])] Z84) ?_
         refine Ab (iR (.agg [.ifc 200 (.agg [.bx (lo).enc,.bx (hi).enc,Bv false,Bv c65])]) ?_)
         first | exact Ao (by unfold Aw;grind) | exact Al (by unfold Aw;grind) (by first | rfl | exact Ah hc58 hn57) (by first | rfl | exact Ah hc65 hn64)
       ·refine iQ 1 (jC 17 [.agg [.bx (lo).enc]] 57 (Ay) ?_)
        rintro _ ⟨n57,rfl,hn57⟩
        refine jU .not (.bool n57) 58 ?_
        intro c58 hc58
        refine iQ 4 ?_
        cases q
        ·refine iQ 9 ?_
         let Z85:=zT [(3,.p 3 0),(4,.p 4 0),(6,.p 6 0),(11,Ba vb11),(48,Ba false)] []
         let Z86:=zH [(6,[.ifc 200 (.agg [.bx (lo).enc,.bx (hi).enc,Bv c58,Bv false])])] []
         refine iE 71 Z85 (zH [(3,[.bx (lo).enc]),(4,[.bx (hi).enc])] Z86) ?_
         refine Ab (iR (.agg [.ifc 200 (.agg [.bx (lo).enc,.bx (hi).enc,Bv c58,Bv false])]) ?_)
         first | exact Ao (by unfold Aw;grind) | exact Al (by unfold Aw;grind) (by first | rfl | exact Ah hc58 hn57) (by first | rfl | exact Ah hc65 hn64)
        ·refine iQ 1 (jC 17 [.agg [.bx (hi).enc]] 64 (Ay) ?_)
         rintro _ ⟨n64,rfl,hn64⟩
         refine jU .not (.bool n64) 65 ?_
         intro c65 hc65
         refine iQ 6 ?_
         let Z87:=zT [(3,.p 3 0),(4,.p 4 0),(6,.p 6 0),(11,Ba vb11),(48,Ba false)] []
         let Z88:=zH [(6,[.ifc 200 (.agg [.bx (lo).enc,.bx (hi).enc,Bv c58,Bv c65])])] []
         refine iE 71 Z87 (zH [(3,[.bx (lo).enc]),(4,[.bx (hi).enc])] Z88) ?_
         refine Ab (iR (.agg [.ifc 200 (.agg [.bx (lo).enc,.bx (hi).enc,Bv c58,Bv c65])]) ?_)
         first | exact Ao (by unfold Aw;grind) | exact Al (by unfold Aw;grind) (by first | rfl | exact Ah hc58 hn57) (by first | rfl | exact Ah hc65 hn64)
      ·replace hc46:=bt hc46
       refine iT (Aa rfl (iQ 2 ?_))
       let Z89:=zT [(3,.p 3 0),(4,.p 4 0),(5,.p 5 0),(6,.p 6 0),(11,Ba vb11),(48,Ba true)] []
       let Z90:=zH [(3,[.bx (lo).enc]),(4,[.bx (hi).enc]),(5,[Bv p,Bv q]),(6,[.v (.nilIface)])] []
       refine iE 71 Z89 Z90 ?_
       refine Ab (Ag (iR (.agg [.v (.nilIface)]) ?_))
       first | exact Ao (by unfold Aw;grind) | exact Al (by unfold Aw;grind) (by first | rfl | exact Ah hc58 hn57) (by first | rfl | exact Ah hc65 hn64)
    ·replace hc26:=bt hc26
     refine iQ 1 (jC 17 [.agg [.bx (hi).enc]] 29 (Ay) ?_)
     rintro _ ⟨n29,rfl,hn29⟩
     refine jU .not (.bool n29) 30 ?_
     intro c30 hc30
     refine iQ 2 ?_
     cases c30
     ·replace hc30:=bf hc30
      refine iQ 9 (jC 36 [Iv k] 42 (Ob) ?_)
      rintro _ ⟨o42,rfl,ho42⟩
      refine jU .not (.bool o42) 43 ?_
      intro c43 hc43
      refine iQ 1 ?_
      cases c43
      ·replace hc43:=bf hc43
       refine iQ 4 ?_
       let Z91:=zT [(3,.p 3 0),(4,.p 4 0),(5,.p 5 0),(6,.p 6 0),(11,Ba vb11),(48,Ba false)] []
       let Z92:=zH [(3,[.bx (lo).enc]),(4,[.bx (hi).enc]),(5,[Bv p,Bv q]),(6,[.v (.nilIface)])] []
       refine iE 71 Z91 Z92 ?_
       refine iF (Ad (Af (Aa rfl (iQ 6 ?_))))
       cases p
       ·refine iQ 7 ?_
        cases q
        ·refine iQ 9 ?_
         let Z93:=zT [(3,.p 3 0),(4,.p 4 0),(6,.p 6 0),(11,Ba vb11),(48,Ba false)] []
         let Z94:=zH [(6,[.ifc 200 (.agg [.bx (lo).enc,.bx (hi).enc,Bv false,Bv false])])] []
         refine iE 71 Z93 (zH [(3,[.bx (lo).enc]),(4,[.bx (hi).enc])] Z94) ?_
         refine Ab (iR (.agg [.ifc 200 (.agg [.bx (lo).enc,.bx (hi).enc,Bv false,Bv false])]) ?_)
         first | exact Ao (by unfold Aw;grind) | exact Al (by unfold Aw;grind) (by first | rfl | exact Ah hc58 hn57) (by first | rfl | exact Ah hc65 hn64)
        ·refine iQ 1 (jC 17 [.agg [.bx (hi).enc]] 64 (Ay) ?_)
         rintro _ ⟨n64,rfl,hn64⟩
         refine jU .not (.bool n64) 65 ?_
         intro c65 hc65
         refine iQ 6 ?_
         let Z95:=zT [(3,.p 3 0),(4,.p 4 0),(6,.p 6 0),(11,Ba vb11),(48,Ba false)] []
         let Z96:=zH [(6,[.ifc 200 (.agg [.bx (lo).enc,.bx (hi).enc,Bv false,Bv c65])])] []
         refine iE 71 Z95 (zH [(3,[.bx (lo).enc]),(4,[.bx (hi).enc])] Z96) ?_
         refine Ab (iR (.agg [.ifc 200 (.agg [.bx (lo).enc,.bx (hi).enc,Bv false,Bv c65])]) ?_)
         first | exact Ao (by unfold Aw;grind) | exact Al (by unfold Aw;grind) (by first | rfl | exact Ah hc58 hn57) (by first | rfl | exact Ah hc65 hn64)
       ·refine iQ 1 (jC 17 [.agg [.bx (lo).enc]] 57 (Ay) ?_)
        rintro _ ⟨n57,rfl,hn57⟩
        refine jU .not (.bool n57) 58 ?_
        intro c58 hc58
        refine iQ 4 ?_
        cases q
        ·refine iQ 9 ?_
         let Z97:=zT [(3,.p 3 0),(4,.p 4 0),(6,.p 6 0),(11,Ba vb11),(48,Ba false)] []
         let Z98:=zH [(6,[.ifc 200 (.agg [.bx (lo).enc,.bx (hi).enc,Bv c58,Bv false])])] []
         refine iE 71 Z97 (zH [(3,[.bx (lo).enc]),(4,[.bx (hi).enc])] Z98) ?_
         refine Ab (iR (.agg [.ifc 200 (.agg [.bx (lo).enc,.bx (hi).enc,Bv c58,Bv false])]) ?_)
         first | exact Ao (by unfold Aw;grind) | exact Al (by unfold Aw;grind) (by first | rfl | exact Ah hc58 hn57) (by first | rfl | exact Ah hc65 hn64)
        ·refine iQ 1 (jC 17 [.agg [.bx (hi).enc]] 64 (Ay) ?_)
         rintro _ ⟨n64,rfl,hn64⟩
         refine jU .not (.bool n64) 65 ?_
         intro c65 hc65
         refine iQ 6 ?_
         let Z99:=zT [(3,.p 3 0),(4,.p 4 0),(6,.p 6 0),(11,Ba vb11),(48,Ba false)] []
         let Z100:=zH [(6,[.ifc 200 (.agg [.bx (lo).enc,.bx (hi).enc,Bv c58,Bv c65])])] []
         refine iE 71 Z99 (zH [(3,[.bx (lo).enc]),(4,[.bx (hi).enc])] Z100) ?_
         refine Ab (iR (.agg [.ifc 200 (.agg [.bx (lo).enc,.bx (hi).enc,Bv c58,Bv c65])]) ?_)
         first | exact Ao (by unfold Aw;grind) | exact Al (by unfold Aw;grind) (by first | rfl | exact Ah hc58 hn57) (by first | rfl | exact Ah hc65 hn64)
      ·replace hc43:=bt hc43
       refine iQ 1 (jB .neq 27 (.int .i64 k) (.int .i64 1) 46 ?_)
       intro c46 hc46
       refine iQ 2 ?_
       let Z101:=zT [(3,.p 3 0),(4,.p 4 0),(5,.p 5 0),(6,.p 6 0),(11,Ba vb11),(48,Ba c46)] []
       let Z102:=zH [(3,[.bx (lo).enc]),(4,[.bx (hi).enc]),(5,[Bv p,Bv q]),(6,[.v (.nilIface)])] []
       refine iE 71 Z101 Z102 ?_
       cases c46
       ·replace hc46:=bf hc46
        refine iF (Ad (Af (Aa rfl (iQ 6 ?_))))
        cases p
        ·refine iQ 7 ?_
         cases q
         ·refine iQ 9 ?_
          let Z103:=zT [(3,.p 3 0),(4,.p 4 0),(6,.p 6 0),(11,Ba vb11),(48,Ba false)] []
          let Z104:=zH [(6,[.ifc 200 (.agg [.bx (lo).enc,.bx (hi).enc,Bv false,Bv false])])] []
          refine iE 71 Z103 (zH [(3,[.bx (lo).enc]),(4,[.bx (hi).enc])] Z104) ?_
          refine Ab (iR (.agg [.ifc 200 (.agg [.bx (lo).enc,.bx (hi).enc,Bv false,Bv false])]) ?_)
          first | exact Ao (by unfold Aw;grind) | exact Al (by unfold Aw;grind) (by first | rfl | exact Ah hc58 hn57) (by first | rfl | exact Ah hc65 hn64)
         ·refine iQ 1 (jC 17 [.agg [.bx (hi).enc]] 64 (Ay) ?_)
          rintro _ ⟨n64,rfl,hn64⟩
          refine jU .not (.bool n64) 65 ?_
          intro c65 hc65
          refine iQ 6 ?_
          let Z105:=zT [(3,.p 3 0),(4,.p 4 0),(6,.p 6 0),(11,Ba vb11),(48,Ba false)] []
          let Z106:=zH [(6,[.ifc 200 (.agg [.bx (lo).enc,.bx (hi).enc,Bv false,Bv c65])])] []
          refine iE 71 Z105 (zH [(3,[.bx (lo).enc]),(4,[.bx (hi).enc])] Z106) ?_
          refine Ab (iR (.agg [.ifc 200 (.agg [.bx (lo).enc,.bx (hi).enc,Bv false,Bv c65])]) ?_)
          first | exact Ao (by unfold Aw;grind) | exact Al (by unfold Aw;grind) (by first | rfl | exact Ah hc58 hn57) (by first | rfl | exact Ah hc65 hn64)
        ·refine iQ 1 (jC 17 [.agg [.bx (lo).enc]] 57 (Ay) ?_)
         rintro _ ⟨n57,rfl,hn57⟩
         refine jU .not (.bool n57) 58 ?_
         intro c58 hc58
         refine iQ 4 ?_
         cases q
         ·refine iQ 9 ?_
          let Z107:=zT [(3,.p 3 0),(4,.p 4 0),(6,.p 6 0),(11,Ba vb11),(48,Ba false)] []
          let Z108:=zH [(6,[.ifc 200 (.agg [.bx (lo).enc,.bx (hi).enc,Bv c58,Bv false])])] []
          refine iE 71 Z107 (zH [(3,[.bx (lo).enc]),(4,[.bx (hi).enc])] Z108) ?_
          refine Ab (iR (.agg [.ifc 200 (.agg [.bx (lo).enc,.bx (hi).enc,Bv c58,Bv false])]) ?_)
          first | exact Ao (by unfold Aw;grind) | exact Al (by unfold Aw;grind) (by first | rfl | exact Ah hc58 hn57) (by first | rfl | exact Ah hc65 hn64)
         ·refine iQ 1 (jC 17 [.agg [.bx (hi).enc]] 64 (Ay) ?_)
          rintro _ ⟨n64,rfl,hn64⟩
          refine jU .not (.bool n64) 65 ?_
          intro c65 hc65
          refine iQ 6 ?_
          let Z109:=zT [(3,.p 3 0),(4,.p 4 0),(6,.p 6 0),(11,Ba vb11),(48,Ba false)] []
          let Z110:=zH [(6,[.ifc 200 (.agg [.bx (lo).enc,.bx (hi).enc,Bv c58,Bv c65])])] []
          refine iE 71 Z109 (zH [(3,[.bx (lo).enc]),(4,[.bx (hi).enc])] Z110) ?_
          refine Ab (iR (.agg [.ifc 200 (.agg [.bx (lo).enc,.bx (hi).enc,Bv c58,Bv c65])]) ?_)
          first | exact Ao (by unfold Aw;grind) | exact Al (by unfold Aw;grind) (by first | rfl | exact Ah hc58 hn57) (by first | rfl | exact Ah hc65 hn64)
       ·replace hc46:=bt hc46
        refine iT (Aa rfl (iQ 2 ?_))
        let Z111:=zT [(3,.p 3 0),(4,.p 4 0),(5,.p 5 0),(6,.p 6 0),(11,Ba vb11),(48,Ba true)] []
        let Z112:=zH [(3,[.bx (lo).enc]),(4,[.bx (hi).enc]),(5,[Bv p,Bv q]),(6,[.v (.nilIface)])] []
        refine iE 71 Z111 Z112 ?_
        refine Ab (Ag (iR (.agg [.v (.nilIface)]) ?_))
        first | exact Ao (by unfold Aw;grind) | exact Al (by unfold Aw;grind) (by first | rfl | exact Ah hc58 hn57) (by first | rfl | exact Ah hc65 hn64)
     ·replace hc30:=bt hc30
      refine iQ 1 (jC 20 [.agg [.bx (lo).enc]] 34 (Hf) ?_)
      rintro _ ⟨k34,rfl,hk34⟩
      refine iQ 1 (jC 20 [.agg [.bx (hi).enc]] 36 (Hf) ?_)
      rintro _ ⟨k36,rfl,hk36⟩
      refine jB .neq 27 (.int .i64 k34) (.int .i64 k36) 37 ?_
      intro c37 hc37
      refine iQ 3 ?_
      cases c37
      ·replace hc37:=bf hc37
       refine iQ 1 (jC 36 [Iv k] 42 (Ob) ?_)
       rintro _ ⟨o42,rfl,ho42⟩
       refine jU .not (.bool o42) 43 ?_
       intro c43 hc43
       refine iQ 1 ?_
       cases c43
       ·replace hc43:=bf hc43
        refine iQ 4 ?_
        let Z113:=zT [(3,.p 3 0),(4,.p 4 0),(5,.p 5 0),(6,.p 6 0),(11,Ba vb11),(48,Ba false)] []
        let Z114:=zH [(3,[.bx (lo).enc]),(4,[.bx (hi).enc]),(5,[Bv p,Bv q]),(6,[.v (.nilIface)])] []
        refine iE 71 Z113 Z114 ?_
        refine iF (Ad (Af (Aa rfl (iQ 6 ?_))))
        cases p
        ·refine iQ 7 ?_
         cases q
         ·refine iQ 9 ?_
          let Z115:=zT [(3,.p 3 0),(4,.p 4 0),(6,.p 6 0),(11,Ba vb11),(48,Ba false)] []
          let Z116:=zH [(6,[.ifc 200 (.agg [.bx (lo).enc,.bx (hi).enc,Bv false,Bv false])])] []
          refine iE 71 Z115 (zH [(3,[.bx (lo).enc]),(4,[.bx (hi).enc])] Z116) ?_
          refine Ab (iR (.agg [.ifc 200 (.agg [.bx (lo).enc,.bx (hi).enc,Bv false,Bv false])]) ?_)
          first | exact Ao (by unfold Aw;grind) | exact Al (by unfold Aw;grind) (by first | rfl | exact Ah hc58 hn57) (by first | rfl | exact Ah hc65 hn64)
         ·refine iQ 1 (jC 17 [.agg [.bx (hi).enc]] 64 (Ay) ?_)
          rintro _ ⟨n64,rfl,hn64⟩
          refine jU .not (.bool n64) 65 ?_
          intro c65 hc65
          refine iQ 6 ?_
          let Z117:=zT [(3,.p 3 0),(4,.p 4 0),(6,.p 6 0),(11,Ba vb11),(48,Ba false)] []
          let Z118:=zH [(6,[.ifc 200 (.agg [.bx (lo).enc,.bx (hi).enc,Bv false,Bv c65])])] []
          refine iE 71 Z117 (zH [(3,[.bx (lo).enc]),(4,[.bx (hi).enc])] Z118) ?_
          refine Ab (iR (.agg [.ifc 200 (.agg [.bx (lo).enc,.bx (hi).enc,Bv false,Bv c65])]) ?_)
          first | exact Ao (by unfold Aw;grind) | exact Al (by unfold Aw;grind) (by first | rfl | exact Ah hc58 hn57) (by first | rfl | exact Ah hc65 hn64)
        ·refine iQ 1 (jC 17 [.agg [.bx (lo).enc]] 57 (Ay) ?_)
         rintro _ ⟨n57,rfl,hn57⟩
         refine jU .not (.bool n57) 58 ?_
         intro c58 hc58
         refine iQ 4 ?_
         cases q
         ·refine iQ 9 ?_
          let Z119:=zT [(3,.p 3 0),(4,.p 4 0),(6,.p 6 0),(11,Ba vb11),(48,Ba false)] []
          let Z120:=zH [(6,[.ifc 200 (.agg [.bx (lo).enc,.bx (hi).enc,Bv c58,Bv false])])] []
          refine iE 71 Z119 (zH [(3,[.bx (lo).enc]),(4,[.bx (hi).enc])] Z120) ?_
          refine Ab (iR (.agg [.ifc 200 (.agg [.bx (lo).enc,.bx (hi).enc,Bv c58,Bv false])]) ?_)
          first | exact Ao (by unfold Aw;grind) | exact Al (by unfold Aw;grind) (by first | rfl | exact Ah hc58 hn57) (by first | rfl | exact Ah hc65 hn64)
         ·refine iQ 1 (jC 17 [.agg [.bx (hi).enc]] 64 (Ay) ?_)
          rintro _ ⟨n64,rfl,hn64⟩
          refine jU .not (.bool n64) 65 ?_
          intro c65 hc65
          refine iQ 6 ?_
          let Z121:=zT [(3,.p 3 0),(4,.p 4 0),(6,.p 6 0),(11,Ba vb11),(48,Ba false)] []
          let Z122:=zH [(6,[.ifc 200 (.agg [.bx (lo).enc,.bx (hi).enc,Bv c58,Bv c65])])] []
          refine iE 71 Z121 (zH [(3,[.bx (lo).enc]),(4,[.bx (hi).enc])] Z122) ?_
          refine Ab (iR (.agg [.ifc 200 (.agg [.bx (lo).enc,.bx (hi).enc,Bv c58,Bv c65])]) ?_)
          first | exact Ao (by unfold Aw;grind) | exact Al (by unfold Aw;grind) (by first | rfl | exact Ah hc58 hn57) (by first | rfl | exact Ah hc65 hn64)
       ·replace hc43:=bt hc43
        refine iQ 1 (jB .neq 27 (.int .i64 k) (.int .i64 1) 46 ?_)
        intro c46 hc46
        refine iQ 2 ?_
        let Z123:=zT [(3,.p 3 0),(4,.p 4 0),(5,.p 5 0),(6,.p 6 0),(11,Ba vb11),(48,Ba c46)] []
        let Z124:=zH [(3,[.bx (lo).enc]),(4,[.bx (hi).enc]),(5,[Bv p,Bv q]),(6,[.v (.nilIface)])] []
        refine iE 71 Z123 Z124 ?_
        cases c46
        ·replace hc46:=bf hc46
         refine iF (Ad (Af (Aa rfl (iQ 6 ?_))))
         cases p
         ·refine iQ 7 ?_
          cases q
          ·refine iQ 9 ?_
           let Z125:=zT [(3,.p 3 0),(4,.p 4 0),(6,.p 6 0),(11,Ba vb11),(48,Ba false)] []
           let Z126:=zH [(6,[.ifc 200 (.agg [.bx (lo).enc,.bx (hi).enc,Bv false,Bv false])])] []
           refine iE 71 Z125 (zH [(3,[.bx (lo).enc]),(4,[.bx (hi).enc])] Z126) ?_
           refine Ab (iR (.agg [.ifc 200 (.agg [.bx (lo).enc,.bx (hi).enc,Bv false,Bv false])]) ?_)
           first | exact Ao (by unfold Aw;grind) | exact Al (by unfold Aw;grind) (by first | rfl | exact Ah hc58 hn57) (by first | rfl | exact Ah hc65 hn64)
          ·refine iQ 1 (jC 17 [.agg [.bx (hi).enc]] 64 (Ay) ?_)
           rintro _ ⟨n64,rfl,hn64⟩
           refine jU .not (.bool n64) 65 ?_
           intro c65 hc65
           refine iQ 6 ?_
           let Z127:=zT [(3,.p 3 0),(4,.p 4 0),(6,.p 6 0),(11,Ba vb11),(48,Ba false)] []
           let Z128:=zH [(6,[.ifc 200 (.agg [.bx (lo).enc,.bx (hi).enc,Bv false,Bv c65])])] []
           refine iE 71 Z127 (zH [(3,[.bx (lo).enc]),(4,[.bx (hi).enc])] Z128) ?_
           refine Ab (iR (.agg [.ifc 200 (.agg [.bx (lo).enc,.bx (hi).enc,Bv false,Bv c65])]) ?_)
           first | exact Ao (by unfold Aw;grind) | exact Al (by unfold Aw;grind) (by first | rfl | exact Ah hc58 hn57) (by first | rfl | exact Ah hc65 hn64)
         ·refine iQ 1 (jC 17 [.agg [.bx (lo).enc]] 57 (Ay) ?_)
          rintro _ ⟨n57,rfl,hn57⟩
          refine jU .not (.bool n57) 58 ?_
          intro c58 hc58
          refine iQ 4 ?_
          cases q
          ·refine iQ 9 ?_
           let Z129:=zT [(3,.p 3 0),(4,.p 4 0),(6,.p 6 0),(11,Ba vb11),(48,Ba false)] []
           let Z130:=zH [(6,[.ifc 200 (.agg [.bx (lo).enc,.bx (hi).enc,Bv c58,Bv false])])] []
           refine iE 71 Z129 (zH [(3,[.bx (lo).enc]),(4,[.bx (hi).enc])] Z130) ?_
           refine Ab (iR (.agg [.ifc 200 (.agg [.bx (lo).enc,.bx (hi).enc,Bv c58,Bv false])]) ?_)
           first | exact Ao (by unfold Aw;grind) | exact Al (by unfold Aw;grind) (by first | rfl | exact Ah hc58 hn57) (by first | rfl | exact Ah hc65 hn64)
          ·refine iQ 1 (jC 17 [.agg [.bx (hi).enc]] 64 (Ay) ?_)
           rintro _ ⟨n64,rfl,hn64⟩
           refine jU .not (.bool n64) 65 ?_
           intro c65 hc65
           refine iQ 6 ?_
           let Z131:=zT [(3,.p 3 0),(4,.p 4 0),(6,.p 6 0),(11,Ba vb11),(48,Ba false)] []
           let Z132:=zH [(6,[.ifc 200 (.agg [.bx (lo).enc,.bx (hi).enc,Bv c58,Bv c65])])] []
           refine iE 71 Z131 (zH [(3,[.bx (lo).enc]),(4,[.bx (hi).enc])] Z132) ?_
           refine Ab (iR (.agg [.ifc 200 (.agg [.bx (lo).enc,.bx (hi).enc,Bv c58,Bv c65])]) ?_)
           first | exact Ao (by unfold Aw;grind) | exact Al (by unfold Aw;grind) (by first | rfl | exact Ah hc58 hn57) (by first | rfl | exact Ah hc65 hn64)
        ·replace hc46:=bt hc46
         refine iT (Aa rfl (iQ 2 ?_))
         let Z133:=zT [(3,.p 3 0),(4,.p 4 0),(5,.p 5 0),(6,.p 6 0),(11,Ba vb11),(48,Ba true)] []
         let Z134:=zH [(3,[.bx (lo).enc]),(4,[.bx (hi).enc]),(5,[Bv p,Bv q]),(6,[.v (.nilIface)])] []
         refine iE 71 Z133 Z134 ?_
         refine Ab (Ag (iR (.agg [.v (.nilIface)]) ?_))
         first | exact Ao (by unfold Aw;grind) | exact Al (by unfold Aw;grind) (by first | rfl | exact Ah hc58 hn57) (by first | rfl | exact Ah hc65 hn64)
      ·replace hc37:=bt hc37
       refine iQ 8 ?_
       let Z135:=zT [(3,.p 3 0),(4,.p 4 0),(5,.p 5 0),(6,.p 6 0),(11,Ba vb11),(48,Ba true)] []
       let Z136:=zH [(3,[.bx (lo).enc]),(4,[.bx (hi).enc]),(5,[Bv p,Bv q]),(6,[.v (.nilIface)])] []
       refine iE 71 Z135 Z136 ?_
       refine iT (Aa rfl (iQ 2 (iE 71 Z135 Z136 ?_)))
       refine Ab (Ag (iR (.agg [.v (.nilIface)]) ?_))
       first | exact Ao (by unfold Aw;grind) | exact Al (by unfold Aw;grind) (by first | rfl | exact Ah hc58 hn57) (by first | rfl | exact Ah hc65 hn64)
   ·replace hc21:=bt hc21
    refine iQ 25 ?_
    let Z137:=zT [(3,.p 3 0),(4,.p 4 0),(5,.p 5 0),(6,.p 6 0),(11,Ba vb11),(48,Ba true)] []
    let Z138:=zH [(3,[.bx (lo).enc]),(4,[.bx (hi).enc]),(5,[Bv p,Bv q]),(6,[.v (.nilIface)])] []
    refine iE 71 Z137 Z138 ?_
    refine iT (Aa rfl (iQ 2 (iE 71 Z137 Z138 ?_)))
    refine Ab (Ag (iR (.agg [.v (.nilIface)]) ?_))
    first | exact Ao (by unfold Aw;grind) | exact Al (by unfold Aw;grind) (by first | rfl | exact Ah hc58 hn57) (by first | rfl | exact Ah hc65 hn64)
 intro hmid
 refine Aa rfl (iQ 1 (jC 17 [.agg [.bx (lo).enc]] 11 (Ay) ?_))
 rintro _ ⟨n11,rfl,hn11⟩
 refine iE 71 [(3,.p 3 0),(4,.p 4 0),(5,.p 5 0),(6,.p 6 0),(7,Ia k9),(11,Ba n11)] [(3,[.bx (lo).enc]),(4,[.bx (hi).enc]),(5,[Bv p,Bv q]),(6,[.v (.nilIface)])] ?_
 cases n11
 ·replace hn11:=bf hn11
  refine iF (Ad ?_)
  refine Cc hmid (k9,false) (.inr ⟨hn11,hk9⟩) (by kernel_rfl)
 ·replace hn11:=bt hn11
  refine iT (Am rfl (iQ 1 (jC 20 [.agg [.bx (hi).enc]] 13 (Hf) ?_)))
  rintro _ ⟨k13,rfl,hk13⟩
  refine iQ 1 (iE 71 [(3,.p 3 0),(4,.p 4 0),(5,.p 5 0),(6,.p 6 0),(7,Ia k13),(11,Ba true)] [(3,[.bx (lo).enc]),(4,[.bx (hi).enc]),(5,[Bv p,Bv q]),(6,[.v (.nilIface)])] ?_)
  refine Cc hmid (k13,true) (.inl ⟨hn11,hk13⟩) (by kernel_rfl)
theorem a07 {lo hi:Vl} {p q:Bool}:HasC Tryz.prog 120 [VV lo,VV hi,.agg [.v (.bool p),.v (.bool q)]] (fun r=>r=VV (Fz lo hi p q)):=HasC.bxR b36
theorem a0x {lo hi:Vl} {p q:Bool} (h1:lo.ok) (h2:hi.ok):(Fz lo hi p q).ok:=by
 unfold Fz
 split
 ·rename_i h
  unfold Aw at h
  have e1:=a4g lo
  have e2:=a4g hi
  have k1:=Hy (v:=lo)
  have k2:=Hy (v:=hi)
  rw[Vl.ok]
  refine ⟨h1,h2,?_,?_,?_,?_,?_⟩
  ·rcases h.1 with h | h
   ·exact .inl (k1.1 h)
   ·exact .inr (by simp[b2v];omega)
  ·rcases h.2.1 with h | h
   ·exact .inl (k2.1 h)
   ·exact .inr (by simp[b2v];omega)
  ·intro a b
   rcases h.2.2 with h | h | h
   ·exact absurd (k1.1 h) a
   ·exact absurd (k2.1 h) b
   ·exact h
  ·intro a b
   rw[b] at a
   simp[Vl.nullB] at a
  ·intro a b
   rw[b] at a
   simp[Vl.nullB] at a
 ·rw[Vl.ok];trivial
def b5v (ns:List L8) (vs:List Vl):Prop:=ns.length=vs.length∧ns.Nodup ∧ ∀ n ∈ ns,Lib.validD n=true
open Classical in
noncomputable def Qs (ns:List L8) (vs:List Vl):Vl:=if b5v ns vs then .ctx ns vs else .null
theorem a3f {ns:List L8} {vs:List Vl} (h : ¬ b5v ns vs):DV.agg [.v .nilIface]=.agg [(Qs ns vs).enc]:=by rw[Qs,if_neg h,Vl.enc]
theorem a7d {ns:List L8} {k:Nat} (hk:k≤ns.length):((Bf ns).drop ((0:Int).toNat*1)).take ((ns.take k).length*1)=Bf (ns.take k):=by
 unfold Bf
 rw[show (0:Int).toNat*1=0 from rfl,List.drop_zero,Nat.mul_one,List.length_take,Nat.min_eq_left hk,List.map_take]
theorem a2u {ns:List L8} {k:Nat} {m:L8} (h:(ns.take k).Nodup) (hm:ns[k]? = some m) (hn:m ∉ ns.take k):(ns.take (k+1)).Nodup:=by
 obtain ⟨h1,h2⟩:=List.getElem?_eq_some_iff.1 hm
 rw[List.take_succ_eq_append_getElem h1,h2,List.nodup_append]
 exact ⟨h,by simp,fun a ha b hb e=>by simp at hb;subst hb;subst e;exact hn ha⟩
theorem a9i {ns:List L8} {k:Nat} {m:L8} (hm:ns[k]? = some m) (hn:m ∈ ns.take k) : ¬ ns.Nodup:=fun h=>by
 have h2:(ns.take k ++ ns.drop k).Nodup:=by rw[List.take_append_drop];exact h
 rw[List.nodup_append] at h2
 obtain ⟨h3,h4⟩:=List.getElem?_eq_some_iff.1 hm
 exact h2.2.2 m hn m (by rw[List.drop_eq_getElem_cons h3,h4];simp) rfl
theorem a2z {ns:List L8} {k:Nat} {m:L8} (hm:ns[k]? = some m) (h : ∀ n ∈ ns.take k,Lib.validD n=true) (hv:Lib.validD m=true) : ∀ n ∈ ns.take (k+1),Lib.validD n=true:=fun n hn=>by
 obtain ⟨q1,q2⟩:=List.getElem?_eq_some_iff.1 hm
 rw[List.take_succ_eq_append_getElem q1,q2,List.mem_append] at hn
 rcases hn with hn | hn
 ·exact h n hn
 ·simp at hn;rw[hn];exact hv
set_option maxHeartbeats 1600000 in
theorem a66 {ns:List L8} {vs:List Vl} (hb:ns.length≤1073741824) (hs : ∀ n ∈ ns,n.length≤1073741824):HasC Tryz.prog 119 [.sl ((ns).length) (Bf (ns)),.sl ((vs).length) (Av (vs))] (fun r=>r=.agg [(Qs ns vs).enc]):=by
 refine hO [] Tryz.f119 (fun a w=>Tryz.call119 a w) Tryz.func119 rfl (⟨_,rfl⟩) ?_
 refine Aa rfl (iQ 1 ?_)
 let Z1:=zT [(0,.d (.sl ((ns).length) (Bf (ns)))),(1,.d (.sl ((vs).length) (Av (vs)))),(4,.p 4 0)] []
 refine iE 39 Z1 [(4,[.v (.nilIface)])] ?_
 refine Ae (Aa rfl (iQ 4 (jB .neq 3 (.int .i64 ((((ns).length:Nat):Int))) (.int .i64 ((((vs).length:Nat):Int))) 11 ?_)))
 intro c11 hc11
 refine iE 39 (zT [(11,Ba c11)] Z1) [(4,[.v (.nilIface)])] ?_
 cases c11
 ·replace hc11:=bf hc11
  refine iF (Ad (Af (Ae (Aa rfl (iQ 3 ?_)))))
  let Z2:=zT [(11,Ba false),(13,.d (.sl ((ns).length) (Bf (ns)))),(14,Ia ((((ns).length:Nat):Int))),(15,Ia 0)] []
  refine iE 39 (zT Z2 Z1) [(4,[.v (.nilIface)])] ?_
  refine Ak (Bq 39 (fun (vcx:Nat×Int)=>match vcx with | (k,z)=>[(0,.d (.sl ((ns).length) (Bf (ns)))),(1,.d (.sl ((vs).length) (Av (vs)))),(4,.p 4 0),(11,Ba false),(13,.d (.sl ((ns).length) (Bf (ns)))),(14,Ia ((((ns).length:Nat):Int))),(15,Ia z)]) (fun (vcx:Nat×Int)=>match vcx with | (k,z)=>[(4,[.v (.nilIface)])]) (fun (vcx:Nat×Int)=>match vcx with | (k,z)=>z=k∧k≤ns.length∧(ns.take k).Nodup ∧ ∀ n ∈ ns.take k,Lib.validD n=true) (fun (vcx:Nat×Int)=>match vcx with | (k,z)=>ns.length-k) ((0,0)) (⟨rfl,Nat.zero_le _,by simp,by simp⟩) (by kernel_rfl) (by kernel_rfl) ?_)
  rintro ⟨k,z⟩ hinv
  simp only at hinv
  obtain ⟨h1,h2,h3,h4⟩:=hinv
  refine Aa rfl (jB .lss 3 (.int .i64 z) (.int .i64 ((((ns).length:Nat):Int))) 16 ?_)
  intro c16 hc16
  let Z3:=zT [(11,Ba false),(13,.d (.sl ((ns).length) (Bf (ns)))),(14,Ia ((((ns).length:Nat):Int))),(15,Ia z),(16,Ba c16)] []
  refine iE 39 (zT Z3 Z1) [(4,[.v (.nilIface)])] ?_
  refine Ae ?_
  cases c16
  ·replace hc16:=bf hc16
   have hk:k=ns.length:=by omega
   rw[hk,List.take_length] at h3 h4
   refine iF (Be (Ce (Bj (Bd rfl (Af (Aa rfl (iQ 1 (eC 140 [.sl ((ns).length) (Bf (ns))] 33 (b2b hb) (iQ 1 (eC 85 [.sl ((vs).length) (Av (vs))] 35 (Qw (by omega)) (iQ 4 ?_)))))))))))
   let Z4:=zT [(11,Ba false),(13,.d (.sl ((ns).length) (Bf (ns)))),(14,Ia ((((ns).length:Nat):Int))),(15,Ia z),(16,Ba false)] []
   let Z5:=zH [(4,[.ifc 197 (.agg [.sl ((ns).length) (Bf (ns)),.sl ((vs).length) (Av (vs))])])] []
   refine iE 39 (zT Z4 Z1) Z5 ?_
   refine Ab (iR (.agg [.ifc 197 (.agg [.sl ((ns).length) (Bf (ns)),.sl ((vs).length) (Av (vs))])]) ?_)
   rw[Qs,if_pos ⟨by omega,h3,h4⟩,Vl.enc]
  ·replace hc16:=bt hc16
   have hk:k<ns.length:=by omega
   obtain ⟨m,hm⟩ : ∃ m,ns[k]? = some m:=⟨_,List.getElem?_eq_getElem hk⟩
   have hmm:m ∈ ns:=List.mem_of_getElem? hm
   have htl:(ns.take k).length=k:=by rw[List.length_take];omega
   refine iT (Ad (Af (Ae (Ak (Aa rfl (iQ 1 (Bi (q:=z) (n:=((ns).length)) (cs:=(Bf (ns))) (d:=.v (.string (tx m))) (dst:=(some 18)) (by kernel_rfl) (by omega) (by rw[h1,Int.toNat_natCast];exact Uj hm) ?_)))))))
   refine iQ 3 ?_
   let Z6:=zT [(5,Ia z),(6,.d (Sv (tx m))),(11,Ba false),(13,.d (.sl ((ns).length) (Bf (ns)))),(14,Ia ((((ns).length:Nat):Int))),(15,Ia z),(16,Ba true)] []
   refine iE 39 (zT Z6 Z1) [(4,[.v (.nilIface)])] ?_
   refine Aa rfl (iQ 2 (b1r (l:=0) (u:=z) (n:=((ns).length)) (cs:=(Bf (ns))) (z:=1) (m:=((ns.take k).length)) (ds:=(Bf (ns.take k))) (dst:=(some 22)) (by kernel_rfl) (by omega) (by omega) (a7d h2) ?_))
   refine iQ 1 (jC 138 [.sl ((ns.take k).length) (Bf (ns.take k)),Sv (tx m)] 24 (b4n (by omega)) ?_)
   rintro _ ⟨bb,rfl,hbb⟩
   refine iQ 1 ?_
   cases bb
   ·replace hbb:=bf hbb
    refine iQ 1 (eC 139 [Sv (tx m)] 27 (a4y (Nat.le_trans (hs m hmm) (by decide))) (jU .not (.bool (Lib.validD m)) 28 ?_))
    intro c28 hc28
    refine iQ 1 (iE 39 (zT [(29,Ba c28)] (zT Z6 Z1)) [(4,[.v (.nilIface)])] ?_)
    cases c28
    ·replace hc28:=bf hc28
     have hvm:Lib.validD m=true:=by simpa using hc28
     refine iF (Ad (Ap (Af (Am rfl (jB .add 3 (.int .i64 z) (.int .i64 1) 31 ?_)))))
     intro z31 hz31
     try replace hz31:=hz31.i64 (by omega)
     refine iQ 1 ?_
     let Z7:=zT [(5,Ia z),(6,.d (Sv (tx m))),(11,Ba false),(13,.d (.sl ((ns).length) (Bf (ns)))),(14,Ia ((((ns).length:Nat):Int))),(15,Ia z31),(16,Ba true),(29,Ba false)] []
     refine iE 39 (zT Z7 Z1) [(4,[.v (.nilIface)])] ?_
     refine Bm (k+1,z31) (⟨by omega,by omega,a2u h3 hm hbb,a2z hm h4 hvm⟩) (by show ns.length-(k+1)<ns.length-k;omega) (by kernel_rfl) (by kernel_rfl)
    ·replace hc28:=bt hc28
     refine iT (Aa rfl (iQ 2 (iE 39 (zT [(29,Ba true)] (zT Z6 Z1)) [(4,[.v (.nilIface)])] ?_)))
     refine Ab (Ai (Ag (Db (Ai (Ag (iR (.agg [.v (.nilIface)]) ?_))))))
     exact a3f fun h=>by have:=h.2.2 m hmm;rw[hc28] at this;cases this
   ·replace hbb:=bt hbb
    refine iQ 4 (iE 39 (zT [(29,Ba true)] (zT Z6 Z1)) [(4,[.v (.nilIface)])] ?_)
    refine iT (Aa rfl (iQ 2 (iE 39 (zT [(29,Ba true)] (zT Z6 Z1)) [(4,[.v (.nilIface)])] ?_)))
    refine Ab (Ai (Ag (Db (Ai (Ag (iR (.agg [.v (.nilIface)]) ?_))))))
    exact a3f fun h=>a9i hm hbb h.2.1
 ·replace hc11:=bt hc11
  refine iT (Aa rfl (iQ 2 (iE 39 (zT [(11,Ba true)] Z1) [(4,[.v (.nilIface)])] ?_)))
  refine Ab (Ag (iR (.agg [.v (.nilIface)]) ?_))
  exact a3f fun h=>by have:=h.1;omega
theorem Rv {ns:List L8} {vs:List Vl} (hb:ns.length≤1073741824) (hs : ∀ n ∈ ns,n.length≤1073741824):HasC Tryz.prog 119 [.sl ns.length (Bf ns),.sl vs.length (Av vs)] (fun r=>r=VV (Qs ns vs)):=HasC.bxR (a66 hb hs)
theorem a9r {ns:List L8} {vs:List Vl} (hb:vs.length≤1073741824) (h:okL vs):(Qs ns vs).ok:=by
 unfold Qs
 split
 ·rename_i h1;rw[Vl.ok];exact ⟨h1.1,h1.2.1,hb,h⟩
 ·rw[Vl.ok];trivial
theorem b73 {g:Bool} {n:Nat} {e:Int}:(Jc g n e).ok:=by
 unfold Jc
 split
 ·rename_i h;rw[Vl.ok];exact h
 ·rw[Vl.ok];trivial
theorem b29 {l:L8}:(Mv l).ok:=by
 unfold Mv
 split
 ·rename_i h;rw[Vl.ok];exact h.2
 ·rw[Vl.ok];trivial
theorem b63 {y m d:Int}:(a0i y m d).ok:=by
 unfold a0i
 split
 ·rename_i h;rw[Vl.ok];exact h
 ·rw[Vl.ok];trivial
theorem b4z {s o:Int} {z:Bool}:(Pk s z o).ok:=by
 unfold Pk
 split
 ·rename_i h;rw[Vl.ok];exact h
 ·rw[Vl.ok];trivial
theorem b7q {y m d s o:Int} {z:Bool}:(a14 y m d s z o).ok:=by
 unfold a14
 split
 ·rename_i h;rw[Vl.ok];exact h
 ·rw[Vl.ok];trivial
theorem b47 {n:Int}:(Pc n).ok:=by
 unfold Pc
 split
 ·rename_i h;rw[Vl.ok];exact h
 ·rw[Vl.ok];trivial
theorem a61 {n:Int}:(Hd n).ok:=by
 unfold Hd
 split
 ·rename_i h;rw[Vl.ok];exact h
 ·rw[Vl.ok];trivial
theorem Bw:Vl.null.ok:=by rw[Vl.ok];trivial
theorem a41 {b:Bool}:(Vl.bool b).ok:=by rw[Vl.ok];trivial
def IsV (x:DV) (v:Vl):Prop:=x=VV v∨x=.agg [v.enc]
theorem IsV.box {Im:Nat→Nat→Prop} {W:World} {x:DV} {v:Vl} {r:Value} (h:IsV x v) (k:x.rel Im W r):(VV v).rel Im W r:=by
 rcases h with rfl | rfl
 ·exact k
 ·exact Sh (fun z hz=>a7m (a3o v) hz) k
theorem IsV.null:IsV (.agg [.v .nilIface]) .null:=.inr (by rw[Vl.enc])
theorem HasC.isV {P:Program} {f:FuncId} {ds:List DV} {q:Vl→Prop} (h:HasC P f ds (fun y => ∃ v,IsV y v∧q v)):HasC P f ds (fun y => ∃ v,y=VV v∧q v) :=
 h.weak fun y ⟨v,h1,h2⟩=>⟨_,⟨v,rfl,h2⟩,fun Im W r k=>h1.box k⟩
theorem HasC.isVb {P:Program} {f:FuncId} {ds:List DV} {q:Vl→Bool→Prop} (h:HasC P f ds (fun y => ∃ x v ok,y=.tup [x,.v (.bool ok)]∧IsV x v∧q v ok)):HasC P f ds (fun y => ∃ v ok,y=.tup [VV v,.v (.bool ok)]∧q v ok) :=
 h.weak fun y ⟨x,v,ok,h0,h1,h2⟩=>⟨_,⟨v,ok,rfl,h2⟩,fun Im W r k=>by
  subst h0
  rw[DV.rel] at k ⊢
  obtain ⟨vs,e,k2⟩:=k
  refine ⟨vs,e,?_⟩
  rw[DV.relL] at k2 ⊢
  obtain ⟨u,us,e1,k3,k4⟩:=k2
  exact ⟨u,us,e1,h1.box k3,k4⟩⟩
end Go.Proofs.YtdkgnmiiibpnnaaGreatDoor
