/- What a value reads as, to the bottom of its slices ('DV'), and that this stands while the cells that it was read from stand. -/
import Derived.Test.YtfkfpkhgoijfdaaGreatDoorRows
import Derived.WalkKit
import Derived.Handy
import Derived.Lib.ItoaNum
import Derived.Lib.LaidTab
import Derived.Shelf.Unicode.DecodeSlow
namespace Go.Proofs.YtfkfpkhgoijfdaaGreatDoor
open Go.RowKit
set_option linter.unusedVariables false
inductive DV where
 | v (x:Value)
 | sl (n:Nat) (cs:List DV)
 | agg (cs:List DV)
 | tup (xs:List DV)
 | ifc (t:TypeId) (x:DV)
 | bx (x:DV)
mutual
def DV.rel (Im:Nat→Nat→Prop) (W:World):DV→Value→Prop
 | .v x,y=>y=x
 | .sl n cs,y=>(∃ A,y=.slice A 0 0∧n=0∧cs=[]) ∨ ∃ g o cap,y=.slice (some ⟨g,o,none⟩) n cap∧n≤cap∧cap≤maxLen∧DV.relC Im W g cs o
 | .agg cs,y => ∃ vs:Array Value,y=.agg vs∧DV.relL Im W cs vs.toList
 | .tup xs,y => ∃ vs:Array Value,y=.tuple vs∧DV.relL Im W xs vs.toList
 | .ifc t x,y => ∃ u,y=.iface t u∧DV.rel Im W x u
 | .bx x,y=>y.oneCell'=true∧DV.rel Im W x y
def DV.relL (Im:Nat→Nat→Prop) (W:World):List DV→List Value→Prop
 | [],ys=>ys=[]
 | d::ds,ys => ∃ u us,ys=u::us∧DV.rel Im W d u∧DV.relL Im W ds us
def DV.relC (Im:Nat→Nat→Prop) (W:World) (g:Nat):List DV→Nat→Prop
 | [],_=>True
 | d::ds,o=>Im g o∧(∃ u,W.cell? ⟨g,o,none⟩=some u∧DV.rel Im W d u)∧DV.relC Im W g ds (o+1)
end
section
variable {Im Im':Nat→Nat→Prop} {W W':World}
mutual
theorem DV.rel_mono (hi : ∀ g o,Im g o→Im' g o) (hc : ∀ g o,Im g o→W'.cell? ⟨g,o,none⟩=W.cell? ⟨g,o,none⟩) : ∀ (d:DV) (y:Value),d.rel Im W y→d.rel Im' W' y
 | .v x,y,h=>by rw[DV.rel] at h ⊢;exact h
 | .sl n cs,y,h=>by
  rw[DV.rel] at h ⊢
  rcases h with h | ⟨g,o,cap,h1,h2,h3,h4⟩
  ·exact .inl h
  ·exact .inr ⟨g,o,cap,h1,h2,h3,DV.relC_mono hi hc g cs o h4⟩
 | .agg cs,y,h=>by
  rw[DV.rel] at h ⊢
  obtain ⟨vs,h1,h2⟩:=h
  exact ⟨vs,h1,DV.relL_mono hi hc cs _ h2⟩
 | .tup cs,y,h=>by
  rw[DV.rel] at h ⊢
  obtain ⟨vs,h1,h2⟩:=h
  exact ⟨vs,h1,DV.relL_mono hi hc cs _ h2⟩
 | .ifc t x,y,h=>by
  rw[DV.rel] at h ⊢
  obtain ⟨u,h1,h2⟩:=h
  exact ⟨u,h1,DV.rel_mono hi hc x u h2⟩
 | .bx x,y,h=>by
  rw[DV.rel] at h ⊢
  exact ⟨h.1,DV.rel_mono hi hc x y h.2⟩
theorem DV.relL_mono (hi : ∀ g o,Im g o→Im' g o) (hc : ∀ g o,Im g o→W'.cell? ⟨g,o,none⟩=W.cell? ⟨g,o,none⟩) : ∀ (ds:List DV) (ys:List Value),DV.relL Im W ds ys→DV.relL Im' W' ds ys
 | [],ys,h=>by rw[DV.relL] at h ⊢;exact h
 | d::ds,ys,h=>by
  rw[DV.relL] at h ⊢
  obtain ⟨u,us,h1,h2,h3⟩:=h
  exact ⟨u,us,h1,DV.rel_mono hi hc d u h2,DV.relL_mono hi hc ds us h3⟩
theorem DV.relC_mono (hi : ∀ g o,Im g o→Im' g o) (hc : ∀ g o,Im g o→W'.cell? ⟨g,o,none⟩=W.cell? ⟨g,o,none⟩) (g:Nat) : ∀ (ds:List DV) (o:Nat),DV.relC Im W g ds o→DV.relC Im' W' g ds o
 | [],o,h=>by rw[DV.relC];trivial
 | d::ds,o,h=>by
  rw[DV.relC] at h ⊢
  obtain ⟨h1,⟨u,h2,h3⟩,h4⟩:=h
  exact ⟨hi _ _ h1,⟨u,(hc _ _ h1).trans h2,DV.rel_mono hi hc d u h3⟩,DV.relC_mono hi hc g ds (o+1) h4⟩
end
end
section
variable {Im:Nat→Nat→Prop} {W:World}
theorem DV.relL_length : ∀ {ds:List DV} {ys:List Value},DV.relL Im W ds ys→ys.length=ds.length
 | [],ys,h=>by rw[DV.relL] at h;subst h;rfl
 | d::ds,ys,h=>by
  rw[DV.relL] at h
  obtain ⟨u,us,rfl,_,h3⟩:=h
  simp[DV.relL_length h3]
theorem DV.relL_get : ∀ {ds:List DV} {ys:List Value},DV.relL Im W ds ys → ∀ {i:Nat} {d:DV},ds[i]? = some d → ∃ y,ys[i]? = some y∧d.rel Im W y
 | [],ys,h,i,d,hd=>by simp at hd
 | e::ds,ys,h,i,d,hd=>by
  rw[DV.relL] at h
  obtain ⟨u,us,rfl,h2,h3⟩:=h
  cases i with
  | zero=>simp at hd;subst hd;exact ⟨u,rfl,h2⟩
  | succ i =>
   simp at hd
   obtain ⟨y,hy,hr⟩:=DV.relL_get h3 hd
   exact ⟨y,by simpa using hy,hr⟩
theorem DV.relL_append : ∀ {ds:List DV} {ys:List Value} {es:List DV} {zs:List Value},DV.relL Im W ds ys→DV.relL Im W es zs→DV.relL Im W (ds ++ es) (ys ++ zs)
 | [],ys,es,zs,h,k=>by rw[DV.relL] at h;subst h;exact k
 | d::ds,ys,es,zs,h,k=>by
  rw[DV.relL] at h
  obtain ⟨u,us,rfl,h2,h3⟩:=h
  show DV.relL Im W (d::(ds ++ es)) (u::(us ++ zs))
  rw[DV.relL]
  exact ⟨u,_,rfl,h2,DV.relL_append h3 k⟩
theorem DV.relL_drop : ∀ {ds:List DV} {ys:List Value},DV.relL Im W ds ys → ∀ k,DV.relL Im W (ds.drop k) (ys.drop k)
 | ds,ys,h,0=>by simpa using h
 | [],ys,h,k+1=>by rw[DV.relL] at h;subst h;simp[DV.relL]
 | d::ds,ys,h,k+1=>by
  rw[DV.relL] at h
  obtain ⟨u,us,rfl,h2,h3⟩:=h
  simpa using DV.relL_drop h3 k
theorem DV.relL_take : ∀ {ds:List DV} {ys:List Value},DV.relL Im W ds ys → ∀ k,DV.relL Im W (ds.take k) (ys.take k)
 | ds,ys,h,0=>by simp[DV.relL]
 | [],ys,h,k+1=>by rw[DV.relL] at h;subst h;simp[DV.relL]
 | d::ds,ys,h,k+1=>by
  rw[DV.relL] at h
  obtain ⟨u,us,rfl,h2,h3⟩:=h
  simp only[List.take_succ_cons]
  rw[DV.relL]
  exact ⟨u,_,rfl,h2,DV.relL_take h3 k⟩
theorem DV.relL_mk : ∀ {ds:List DV} {ys:List Value},ys.length=ds.length→(∀ (i:Nat) (d:DV) (y:Value),ds[i]? = some d→ys[i]? = some y→DV.rel Im W d y)→DV.relL Im W ds ys
 | [],ys,h,_=>by rw[DV.relL];exact List.length_eq_zero_iff.1 h
 | d::ds,[],h,_=>by simp at h
 | d::ds,y::ys,h,k=>by
  rw[DV.relL]
  exact ⟨y,ys,rfl,k 0 d y rfl rfl,DV.relL_mk (by simpa using h) fun i e z he hz=>k (i+1) e z (by simpa using he) (by simpa using hz)⟩
theorem DV.relC_get {g:Nat} : ∀ {ds:List DV} {o:Nat},DV.relC Im W g ds o → ∀ {i:Nat} {d:DV},ds[i]? = some d→Im g (o+i) ∧ ∃ u,W.cell? ⟨g,o+i,none⟩=some u∧d.rel Im W u
 | [],o,h,i,d,hd=>by simp at hd
 | e::ds,o,h,i,d,hd=>by
  rw[DV.relC] at h
  cases i with
  | zero=>simp at hd;subst hd;exact ⟨h.1,h.2.1⟩
  | succ i =>
   simp at hd
   have:=DV.relC_get h.2.2 hd
   rw[Nat.add_assoc,Nat.add_comm 1 i] at this
   exact this
theorem DV.relC_mk {g:Nat} : ∀ {ds:List DV} {o:Nat},(∀ (i:Nat) (d:DV),ds[i]? = some d→Im g (o+i) ∧ ∃ u,W.cell? ⟨g,o+i,none⟩=some u∧d.rel Im W u)→DV.relC Im W g ds o
 | [],o,h=>by rw[DV.relC];trivial
 | e::ds,o,h=>by
  rw[DV.relC]
  refine ⟨(h 0 e rfl).1,(h 0 e rfl).2,DV.relC_mk fun i d hd => ?_⟩
  have:=h (i+1) d (by simpa using hd)
  rw[Nat.add_assoc,Nat.add_comm 1 i]
  exact this
theorem DV.relC_drop {g:Nat} {ds:List DV} {o:Nat} (h:DV.relC Im W g ds o) (k:Nat):DV.relC Im W g (ds.drop k) (o+k) :=
 DV.relC_mk fun i d hd=>by
  rw[List.getElem?_drop] at hd
  have:=DV.relC_get h hd
  rw[Nat.add_assoc]
  exact this
theorem DV.relC_take {g:Nat} {ds:List DV} {o:Nat} (h:DV.relC Im W g ds o) (k:Nat):DV.relC Im W g (ds.take k) o :=
 DV.relC_mk fun i d hd=>by
  rw[List.getElem?_take] at hd
  split at hd
  ·exact DV.relC_get h hd
  ·cases hd
end
def DV.one:DV→Bool
 | .v x=>x.oneCell'
 | .sl _ _=>true
 | .agg _=>false
 | .tup _=>false
 | .ifc _ _=>true
 | .bx _=>true
def DV.cells:DV→List DV
 | .agg cs=>cs
 | d=>[d]
def DV.bases:List DV→Option (List Value)
 | []=>some []
 | .v x::ds=>match DV.bases ds with
  | some xs=>some (x::xs)
  | none=>none
 | _=>none
def DV.base:DV→Option Value
 | .v x=>some x
 | .agg cs=>match DV.bases cs with
  | some xs=>some (.agg xs.toArray)
  | none=>none
 | _=>none
def DV.ofC:Value→DV
 | .slice none 0 0=>.sl 0 []
 | .agg xs=>.agg (xs.toList.map fun x=>match x with | .slice none 0 0=>.sl 0 [] | x=>.v x)
 | x=>.v x
section
variable {Im:Nat→Nat→Prop} {W:World}
theorem DV.bases_rel : ∀ {ds:List DV} {xs:List Value} {ys:List Value},DV.bases ds=some xs→DV.relL Im W ds ys→ys=xs
 | [],xs,ys,h,k=>by rw[DV.relL] at k;simp[DV.bases] at h;rw[k,h]
 | .v x::ds,xs,ys,h,k=>by
  rw[DV.relL] at k
  obtain ⟨u,us,rfl,h2,h3⟩:=k
  rw[DV.rel] at h2
  subst h2
  simp only[DV.bases] at h
  split at h
  ·rename_i xs' hx
   simp at h
   subst h
   rw[DV.bases_rel hx h3]
  ·cases h
 | .sl _ _::ds,xs,ys,h,k=>by simp[DV.bases] at h
 | .agg _::ds,xs,ys,h,k=>by simp[DV.bases] at h
 | .tup _::ds,xs,ys,h,k=>by simp[DV.bases] at h
 | .ifc _ _::ds,xs,ys,h,k=>by simp[DV.bases] at h
 | .bx _::ds,xs,ys,h,k=>by simp[DV.bases] at h
theorem DV.base_rel {d:DV} {x y:Value} (h:d.base=some x) (k:d.rel Im W y):y=x:=by
 cases d with
 | v z=>simp[DV.base] at h;rw[DV.rel] at k;rw[k,h]
 | agg cs =>
  rw[DV.rel] at k
  obtain ⟨vs,rfl,h2⟩:=k
  simp only[DV.base] at h
  split at h
  ·rename_i xs hx
   simp at h
   subst h
   rw[← DV.bases_rel hx h2]
  ·cases h
 | sl n cs=>simp[DV.base] at h
 | tup n=>simp[DV.base] at h
 | ifc t n=>simp[DV.base] at h
 | bx n=>simp[DV.base] at h
theorem DV.cells_rel {d:DV} {y:Value} (h:d.rel Im W y) (ho:d.one=true ∨ ∃ cs,d=.agg cs):DV.relL Im W d.cells y.cells.toList:=by
 have one : ∀ (d:DV) (y:Value),d.rel Im W y→y.cells=#[y]→DV.relL Im W [d] y.cells.toList:=fun d y h e=>by
  rw[e,DV.relL]
  refine ⟨y,[],rfl,h,?_⟩
  rw[DV.relL]
 rcases ho with ho | ⟨cs,rfl⟩
 ·cases d with
  | v x =>
   have h':=h
   rw[DV.rel] at h
   subst h
   exact one (.v y) y h' (by cases y<;>simp_all[DV.one,Value.oneCell',Value.cells])
  | sl n cs =>
   refine one (.sl n cs) y h ?_
   rw[DV.rel] at h
   rcases h with ⟨A,rfl,_⟩ | ⟨g,o,cap,rfl,_⟩<;>rfl
  | agg cs=>simp[DV.one] at ho
  | tup cs=>simp[DV.one] at ho
  | ifc t x =>
   refine one (.ifc t x) y h ?_
   rw[DV.rel] at h
   obtain ⟨u,rfl,_⟩:=h
   rfl
  | bx x =>
   refine one (.bx x) y h ?_
   rw[DV.rel] at h
   have h1:=h.1
   cases y<;>simp_all[Value.oneCell',Value.cells]
 ·rw[DV.rel] at h
  obtain ⟨vs,rfl,h2⟩:=h
  exact h2
theorem DV.one_rel {d:DV} {y:Value} (h:d.rel Im W y) (ho:d.one=true):y.oneCell'=true:=by
 cases d with
 | v x=>rw[DV.rel] at h;subst h;exact ho
 | sl n cs =>
  rw[DV.rel] at h
  rcases h with ⟨A,rfl,_⟩ | ⟨g,o,cap,rfl,_⟩<;>rfl
 | agg cs=>simp[DV.one] at ho
 | tup cs=>simp[DV.one] at ho
 | ifc t x =>
  rw[DV.rel] at h
  obtain ⟨u,rfl,_⟩:=h
  rfl
 | bx x=>rw[DV.rel] at h;exact h.1
end
def KwV (w:World) (name:String) (p:Array Value→Prop):Prop:=Tryz.prog.globalNamed name=none ∨ ∃ cs,w.var? Tryz.prog name=some cs∧p cs
theorem KwV.below {w w':World} {name:String} {p:Array Value→Prop} (hb:Below w.heap.size w w') (h:KwV w name p):KwV w' name p:=by
 rcases h with h | ⟨cs,h1,h2⟩
 ·exact .inl h
 ·refine .inr ⟨cs,?_,h2⟩
  unfold World.var? at *
  cases hg:Tryz.prog.globalNamed name with
  | none=>rw[hg] at h1;cases h1
  | some g =>
   rw[hg] at h1
   simp only[Option.bind_some] at h1 ⊢
   have hlt:g<w.heap.size:=by
    rcases Nat.lt_or_ge g w.heap.size with h' | h'
    ·exact h'
    ·rw[Array.getElem?_eq_none h'] at h1;cases h1
   rw[hb.block g hlt]
   exact h1
structure Kw (w:World):Prop where
 tab:KwV w "internal/strconv.uint64pow10" fun cs=>cs=(Lib.pow10Tab.map fun z=>Value.int .u64 z).toArray
 mx:KwV w "internal/bytealg.MaxLen" fun cs => ∃ m,cs=#[.int .i64 m]
 syn:KwV w "strconv.ErrSyntax" fun cs => ∃ t p,cs=#[.iface t p]
 u8 : ∀ g3 g4,Tryz.prog.globalNamed "unicode/utf8.first" = some g3→Tryz.prog.globalNamed "unicode/utf8.acceptRanges" = some g4→Lib.Utf8Tabs g3 g4 w
theorem Kw.below {w w':World} (h:Kw w) (hb:Below w.heap.size w w'):Kw w':=⟨h.tab.below hb,h.mx.below hb,h.syn.below hb,fun g3 g4 a b=>Utf8Tabs_below (h.u8 g3 g4 a b) hb⟩
end Go.Proofs.YtfkfpkhgoijfdaaGreatDoor
