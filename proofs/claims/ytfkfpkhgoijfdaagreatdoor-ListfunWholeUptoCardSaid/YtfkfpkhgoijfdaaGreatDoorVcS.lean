/- The abstract machine's step is the program's: what the frame and the frame's own blocks read as is carried over each operation. -/
import Derived.Test.YtfkfpkhgoijfdaaGreatDoorVcW
import Derived.Laws.Cells
namespace Go.Proofs.YtfkfpkhgoijfdaaGreatDoor
open Go.RowKit
set_option linter.unusedVariables false
set_option linter.unusedSimpArgs false
structure Rm where
 b:Nat
 n:Nat
 cap:Nat
 e:Nat
 z:Nat
structure Gh where
 r:Nat→Nat
 Im:Nat→Nat→Prop
 v:Nat→Nat
 m:Nat→Option Rm
def b30 (y:Value):Prop := ∃ a n,y=.slice a n n
def a2z (y:Value):Prop := ∃ a,y=.slice a 0 0
def AV.rel (g:Gh) (W:World):AV→Value→Prop
 | .w x none,y=>x.rel g.Im W y∧b30 y
 | .w x (some q),y=>x.rel g.Im W y∧(g.v q.j=q.v→a2z y ∨ ∃ b n cap,g.m q.j=some ⟨b,n,cap,q.e,q.z⟩∧y=.slice (some ⟨b,0,none⟩) n cap)
 | .d x,y=>x.rel g.Im W y
 | .p n o,y=>y=.pointer (some ⟨g.r n,o,none⟩)
 | .rc cs,y => ∃ b o,y=.pointer (some ⟨b,o,none⟩)∧DV.relC g.Im W b cs o
structure RmOk (W0:World) (g:Gh) (s:AS) (w:World) (R:Rm):Prop where
 hW:W0.heap.size≤R.b
 hi : ∀ o,R.n*R.z≤o → ¬ g.Im R.b o
 hh : ∀ n,s.h n≠none→g.r n≠R.b
 hc:R.cap≤maxLen
 hr : ∃ cur,w.heap[R.b]? = some (.cells cur R.e (0,0))∧cur.size=R.cap*R.z
def BlkO (Im:Nat→Nat→Prop) (W:World) (cs:List DV) (o:Obj):Prop :=
 (Ts cs=none ∧ ∃ vs T,o=.cells vs T (0,0)∧DV.relL Im W cs vs.toList) ∨ ∃ s p,Ts cs=some (s,p)∧o=.stringIter s p
theorem BlkO.mono {Im Im':Nat→Nat→Prop} {W W':World} {cs:List DV} {o:Obj} (hi : ∀ b o,Im b o→Im' b o) (hc : ∀ b o,Im b o→W'.cell? ⟨b,o,none⟩=W.cell? ⟨b,o,none⟩) (h:BlkO Im W cs o):BlkO Im' W' cs o:=by
 rcases h with ⟨h0,vs,T,h1,h2⟩ | h
 ·exact .inl ⟨h0,vs,T,h1,DV.relL_mono hi hc _ _ h2⟩
 ·exact .inr h
theorem BlkO.cells {Im:Nat→Nat→Prop} {W:World} {cs:List DV} {o:Obj} (h:BlkO Im W cs o) (hn:Ts cs=none) : ∃ vs T,o=.cells vs T (0,0)∧DV.relL Im W cs vs.toList:=by
 rcases h with ⟨_,h⟩ | ⟨s,p,h1,_⟩
 ·exact h
 ·rw[hn] at h1;cases h1
structure OwnOk (W0:World) (g:Gh) (s:AS) (w:World) (R:Rm):Prop where
 hW:W0.heap.size≤R.b
 hh : ∀ n,s.h n≠none→g.r n≠R.b
 hr : ∃ cur,w.heap[R.b]? = some (.cells cur R.e (0,0))
structure RelG (W0:World) (I0:Nat→Nat→Prop) (g:Gh) (s:AS) (a:Act) (w:World):Prop where
 defers:a.defers=[]
 size:a.tmps.size=s.n
 tmp : ∀ k x,s.t k=some x → ∃ y,a.tmps[k]? = some y∧x.rel g w y
 blk : ∀ n cs,s.h n=some cs→W0.heap.size≤g.r n∧(∀ o,¬ g.Im (g.r n) o) ∧ ∃ o,w.heap[g.r n]? = some o∧BlkO g.Im w cs o
 inj : ∀ n m,s.h n≠none→s.h m≠none→g.r n=g.r m→n=m
 wf:s.WF
 live : ∀ n,s.h n≠none→s.u n=true
 im : ∀ b o,g.Im b o→b<w.heap.size
 imle : ∀ b o,g.Im b o→I0 b o∨W0.heap.size≤b
 below:Below W0.heap.size W0 w
 ver:g.v=s.r
 room : ∀ j R,g.m j=some R→R.n<R.cap→RmOk W0 g s w R
 rinj : ∀ j j' R R',g.m j=some R→R.n<R.cap→g.m j'=some R'→R'.n<R'.cap→R.b=R'.b→j=j'
 kw:Kw W0
 own : ∀ j R,g.m j=some R→0<R.cap→OwnOk W0 g s w R
def TD.ok (P:Program) (t:TypeId):TD→Prop
 | .struct fs => ∃ fields,P.underlying t=some (.struct fields)∧fs=fields.toList.map fun f=>(f.offset,f.type)
 | .arr n e=>P.underlying t=some (.array n e)
 | .int k=>P.underlying t=some (.int k)
 | .bool=>P.underlying t=some .bool
 | .str=>P.underlying t=some .string
 | .slice e=>P.underlying t=some (.slice e)
 | .other => ∃ d,P.underlying t=some d∧(∀ fs,d ≠ .struct fs) ∧ ∀ n e,d ≠ .array n e
def DV.cellC:Value→DV
 | .slice none 0 0=>.sl 0 []
 | x=>.v x
def Cy (P:Program) (ty:TypeId→Option TI):Prop := ∀ t i,ty t=some i→(∃ info z,P.info? t=some info∧info.size=i.size∧info.zero=some z∧z.cells.toList.map DV.cellC=i.zero∧info.bytes=i.bytes∧(i.d.isAgg=true → ∃ xs,z=.agg xs)∧(i.d.isAgg=false→z.cells=#[z]))∧TD.ok P t i.d∧(∀ fs,i.d=.struct fs → ∀ p ∈ fs,(ty p.2).isSome=true) ∧
 (i.eq=true→P.stoodInHeld t=false∧P.eqGuardType P.depth t=false ∧ ∀ fields,P.underlying t=some (.struct fields) → ∀ f ∈ fields,f.name ≠ "_")
section
variable {P:Program} {ty:TypeId→Option TI} {W0:World} {I0:Nat→Nat→Prop} {g:Gh} {s:AS} {a:Act} {w:World}
theorem Om (x:Value) {Im:Nat→Nat→Prop} {W:World}:(DV.cellC x).rel Im W x:=by
 unfold DV.cellC
 split
 ·rw[DV.rel];exact .inl ⟨_,rfl,rfl,rfl⟩
 ·rw[DV.rel]
theorem Gw {Im:Nat→Nat→Prop} {W:World} (xs:List Value):DV.relL Im W (xs.map DV.cellC) xs :=
 DV.relL_mk (by simp) fun i d y hd hy=>by
  simp[hy] at hd
  subst hd
  exact Om y
theorem b1n (x:Value) {Im:Nat→Nat→Prop} {W:World}:(DV.ofC x).rel Im W x:=by
 unfold DV.ofC
 split
 ·rw[DV.rel];exact .inl ⟨_,rfl,rfl,rfl⟩
 ·rename_i xs
  rw[DV.rel]
  exact ⟨xs,rfl,Gw xs.toList⟩
 ·rw[DV.rel]
theorem RelG.opd (R:RelG W0 I0 g s a w) {x:Operand} {v:AV} (h:s.opd x=some v):v.rel g w (a.eval x):=by
 cases x with
 | tmp t =>
  obtain ⟨y,hy,hr⟩:=R.tmp t v h
  simp only[Act.eval,Array.getD_eq_getD_getElem?,hy,Option.getD_some]
  exact hr
 | const c =>
  simp[AS.opd] at h
  subst h
  unfold AV.ofC
  split
  ·exact ⟨by rw[DV.rel];exact .inl ⟨_,rfl,rfl,rfl⟩,none,0,rfl⟩
  ·exact b1n c
 | global g=>simp[AS.opd] at h
 | func f=>simp[AS.opd] at h
theorem RelG.dv (R:RelG W0 I0 g s a w) {x:Operand} {d:DV} (h:s.dv x=some d):d.rel g.Im w (a.eval x):=by
 unfold AS.dv at h
 split at h
 ·rename_i e he
  simp at h
  subst h
  exact R.opd he
 ·rename_i e k he
  simp at h
  subst h
  cases k with
  | none=>exact (R.opd he).1
  | some q=>exact (R.opd he).1
 ·cases h
theorem RelG.base (R:RelG W0 I0 g s a w) {x:Operand} {v:Value} (h:s.base x=some v):a.eval x=v:=by
 unfold AS.base at h
 split at h
 ·rename_i d hd
  exact DV.base_rel h (R.dv hd)
 ·cases h
theorem RelG.dvs (R:RelG W0 I0 g s a w) : ∀ {xs:List Operand} {ds:List DV},s.dvs xs=some ds→DV.relL g.Im w ds (xs.map a.eval)
 | [],ds,h=>by simp[AS.dvs] at h;subst h;rw[DV.relL];rfl
 | x::xs,ds,h=>by
  unfold AS.dvs at h
  split at h
  ·rename_i d ds' h1 h2
   simp at h
   subst h
   rw[DV.relL]
   exact ⟨_,_,rfl,R.dv h1,R.dvs h2⟩
  ·cases h
theorem AV.rel_mono {g g':Gh} {W W':World} (hi : ∀ b o,g.Im b o→g'.Im b o) (hc : ∀ b o,g.Im b o→W'.cell? ⟨b,o,none⟩=W.cell? ⟨b,o,none⟩) {v:AV} {y:Value} (hr : ∀ n o,v=.p n o→g'.r n=g.r n) (hm : ∀ x q,v=.w x (some q)→g'.v q.j=q.v→g.v q.j=q.v∧g'.m q.j=g.m q.j) (h:v.rel g W y):v.rel g' W' y:=by
 cases v with
 | w x k=>cases k with
  | none=>exact ⟨DV.rel_mono hi hc x y h.1,h.2⟩
  | some q =>
   refine ⟨DV.rel_mono hi hc x y h.1,fun hv => ?_⟩
   obtain ⟨h1,h2⟩:=hm x q rfl hv
   rcases h.2 h1 with h | ⟨b,n,cap,h3,h4⟩
   ·exact .inl h
   ·exact .inr ⟨b,n,cap,h2.trans h3,h4⟩
 | d x=>exact DV.rel_mono hi hc x y h
 | p n o=>show y=_;rw[hr n o rfl];exact h
 | rc cs =>
  obtain ⟨b,o,h1,h2⟩:=h
  exact ⟨b,o,h1,DV.relC_mono hi hc b cs o h2⟩
theorem Bh {W W':World} {b o:Nat} (h:W'.heap[b]? = W.heap[b]?):W'.cell? ⟨b,o,none⟩=W.cell? ⟨b,o,none⟩:=World.cell?_of_block (a:=⟨b,o,none⟩) h
theorem RelG.grow (R:RelG W0 I0 g s a w) {w':World} {Im':Nat→Nat→Prop} (hb:Below w.heap.size w w') (hi : ∀ b o,g.Im b o→Im' b o) (hn : ∀ b o,Im' b o→g.Im b o∨(w.heap.size≤b∧b<w'.heap.size)) :
  RelG W0 I0 ⟨g.r,Im',g.v,g.m⟩ s a w':=by
 have hc : ∀ b o,g.Im b o→w'.cell? ⟨b,o,none⟩=w.cell? ⟨b,o,none⟩:=fun b o h=>Bh (hb.block b (R.im b o h))
 refine ⟨R.defers,R.size,fun k x hk => ?_,fun n cs hn' => ?_,R.inj,R.wf,R.live,fun b o h => ?_,fun b o h => ?_,?_,R.ver,fun j q hj hq => ?_,R.rinj,R.kw,fun j q hj hq => ?_⟩
 ·obtain ⟨y,h1,h2⟩:=R.tmp k x hk
  exact ⟨y,h1,AV.rel_mono (g':=⟨g.r,Im',g.v,g.m⟩) hi hc (fun _ _ _=>rfl) (fun _ _ _ h=>⟨h,rfl⟩) h2⟩
 ·obtain ⟨h1,h2,ob,h3,h4⟩:=R.blk n cs hn'
  have hlt:=lt_of_block h3
  refine ⟨h1,fun o h => ?_,ob,(hb.block _ hlt).trans h3,h4.mono hi hc⟩
  rcases hn _ o h with h | h
  ·exact h2 o h
  ·have h1:w.heap.size≤g.r n:=h.1
   omega
 ·have:=hb.size
  rcases hn _ o h with h | h
  ·have:=R.im b o h;omega
  ·exact h.2
 ·rcases hn _ o h with h | h
  ·exact R.imle b o h
  ·exact .inr (Nat.le_trans R.below.size h.1)
 ·exact R.below.trans (hb.mono R.below.size)
 ·obtain ⟨h1,h2,h3,h4,cur,h5,h6⟩:=R.room j q hj hq
  have hlt:=lt_of_block h5
  refine ⟨h1,fun o ho h => ?_,h3,h4,cur,(hb.block _ hlt).trans h5,h6⟩
  rcases hn _ o h with h | h
  ·exact h2 o ho h
  ·omega
 ·obtain ⟨h1,h2,cur,h3⟩:=R.own j q hj hq
  exact ⟨h1,h2,cur,(hb.block _ (lt_of_block h3)).trans h3⟩
theorem RelG.put (R:RelG W0 I0 g s a w) {d:Option Nat} {x:AV} {y:Value} (hd : ∀ k,d=some k→k<s.n) (hx:x.rel g w y) (hu : ∀ n o,x=.p n o→s.u n=true) (hw : ∀ z q,x=.w z (some q)→q.v≤s.r q.j):RelG W0 I0 g (s.put d x) (a.put d y) w:=by
 have hwf:=Pa R.wf d x hu hw
 cases d with
 | none=>exact R
 | some d =>
  have hlt:d<a.tmps.size:=by rw[R.size];exact hd d rfl
  refine ⟨R.defers,by simp[Act.put,AS.put,R.size],fun k z hk => ?_,R.blk,R.inj,hwf,R.live,R.im,R.imle,R.below,R.ver,fun j q hj hq => ?_,R.rinj,R.kw,fun j q hj hq => ?_⟩
  ·by_cases hkd:k=d
   ·subst hkd
    simp[AS.put,Ay] at hk
    subst hk
    exact ⟨y,by simp[Act.put,hlt],hx⟩
   ·simp[AS.put,Bc _ _ hkd] at hk
    obtain ⟨u,h1,h2⟩:=R.tmp k z hk
    exact ⟨u,by simp[Act.put,Array.getElem?_setIfInBounds_ne (Ne.symm hkd)];simpa using h1,h2⟩
  ·obtain ⟨h1,h2,h3,h4,h5⟩:=R.room j q hj hq
   exact ⟨h1,h2,h3,h4,h5⟩
  ·obtain ⟨h1,h2,h3⟩:=R.own j q hj hq
   exact ⟨h1,h2,h3⟩
theorem RelG.freshO (R:RelG W0 I0 g s a w) {n:Nat} {cs:List DV} {ob:Obj} (hu:s.u n=false) (hn:n<s.n) (hr:BlkO g.Im w cs ob) :
  RelG W0 I0 ⟨ins g.r n w.heap.size,g.Im,g.v,g.m⟩ (s.fresh n cs) (a.put (some n) (.pointer (some ⟨w.heap.size,0,none⟩))) (w.alloc ob):=by
 have hsz:(w.alloc ob).heap.size=w.heap.size+1:=by simp
 have hold : ∀ b,b<w.heap.size→(w.alloc ob).heap[b]? = w.heap[b]? := fun b h=>Below.heap_alloc w _ b h
 have hc : ∀ b o,g.Im b o→(w.alloc ob).cell? ⟨b,o,none⟩=w.cell? ⟨b,o,none⟩:=fun b o h=>Bh (hold b (R.im b o h))
 have hne : ∀ m,s.u m=true→m≠n:=fun m h e=>by rw[e,hu] at h;cases h
 have hlt:n<a.tmps.size:=by rw[R.size];exact hn
 refine ⟨R.defers,by simp[Act.put,AS.fresh,R.size],fun k z hk => ?_,fun m ds hm => ?_,fun m m' hm hm' he => ?_,⟨fun k m o hk => ?_,fun k x q hk => ?_⟩,fun m hm => ?_,fun b o h => ?_,R.imle,R.below.trans ?_,R.ver,fun j q hj hq => ?_,R.rinj,R.kw,fun j q hj hq => ?_⟩
 ·by_cases hkd:k=n
  ·subst hkd
   simp[AS.fresh,Ay] at hk
   subst hk
   exact ⟨_,by simp[Act.put,hlt];rfl,by show _=_;simp only[Ay]⟩
  ·simp[AS.fresh,Bc _ _ hkd] at hk
   obtain ⟨u,h1,h2⟩:=R.tmp k z hk
   refine ⟨u,by simp[Act.put,Array.getElem?_setIfInBounds_ne (Ne.symm hkd)];simpa using h1,AV.rel_mono (g:=g) (g':=⟨ins g.r n w.heap.size,g.Im,g.v,g.m⟩) (fun _ _ h=>h) hc (fun m o e => ?_) (fun _ _ _ h=>⟨h,rfl⟩) h2⟩
   subst e
   exact Bc _ _ (hne m (R.wf.p k m o hk))
 ·by_cases hmn:m=n
  ·subst hmn
   simp only[AS.fresh,Ay,Option.some.injEq] at hm ⊢
   subst hm
   refine ⟨R.below.size,fun o h => ?_,ob,?_,hr.mono (fun _ _ h=>h) hc⟩
   ·have:=R.im _ o h;omega
   ·show (w.heap.push _)[w.heap.size]? = _;simp
  ·simp only[AS.fresh,Bc _ _ hmn] at hm ⊢
   obtain ⟨h1,h2,o',h3,h4⟩:=R.blk m ds hm
   exact ⟨h1,h2,o',(hold _ (lt_of_block h3)).trans h3,h4.mono (fun _ _ h=>h) hc⟩
 ·have lt : ∀ m,s.h m≠none→g.r m<w.heap.size:=fun m hm=>by
   cases h:s.h m with
   | none=>exact absurd h hm
   | some ds=>obtain ⟨_,_,o',h3,_⟩:=R.blk m ds h;exact lt_of_block h3
  by_cases h1:m=n<;>by_cases h2:m'=n
  ·rw[h1,h2]
  ·subst h1
   simp only[AS.fresh,Ay,Bc _ _ h2] at hm' he
   have:=lt m' hm';omega
  ·subst h2
   simp only[AS.fresh,Ay,Bc _ _ h1] at hm he
   have:=lt m hm;omega
  ·simp only[AS.fresh,Bc _ _ h1,Bc _ _ h2] at hm hm' he
   exact R.inj m m' hm hm' he
 ·by_cases hkd:k=n
  ·subst hkd
   simp[AS.fresh,Ay] at hk ⊢
   rw[← hk.1,Ay]
  ·simp[AS.fresh,Bc _ _ hkd] at hk ⊢
   rw[Bc _ _ (hne m (R.wf.p k m o hk))]
   exact R.wf.p k m o hk
 ·by_cases hkd:k=n
  ·subst hkd;simp[AS.fresh,Ay] at hk
  ·simp[AS.fresh,Bc _ _ hkd] at hk
   exact R.wf.w k x q hk
 ·by_cases hmn:m=n
  ·subst hmn;simp[AS.fresh,Ay]
  ·simp only[AS.fresh,Bc _ _ hmn] at hm ⊢
   exact R.live m hm
 ·have:=R.im b o h;omega
 ·exact (Below.refl _ _).alloc R.below.size _
 ·obtain ⟨h1,h2,h3,h4,cur,h5,h6⟩:=R.room j q hj hq
  have hlt:=lt_of_block h5
  refine ⟨h1,h2,fun m hm => ?_,h4,cur,(hold _ hlt).trans h5,h6⟩
  by_cases hmn:m=n
  ·subst hmn
   simp only[Ay]
   omega
  ·simp only[AS.fresh,Bc _ _ hmn] at hm ⊢
   exact h3 m hm
 ·obtain ⟨h1,h2,cur,h3⟩:=R.own j q hj hq
  have hlt:=lt_of_block h3
  refine ⟨h1,fun m hm => ?_,cur,(hold _ hlt).trans h3⟩
  by_cases hmn:m=n
  ·subst hmn
   simp only[Ay]
   omega
  ·simp only[AS.fresh,Bc _ _ hmn] at hm ⊢
   exact h2 m hm
theorem RelG.fresh (R:RelG W0 I0 g s a w) {n:Nat} {cs:List DV} {vs:Array Value} {T:TypeId} (hu:s.u n=false) (hn:n<s.n) (hr:DV.relL g.Im w cs vs.toList) (hno:Ts cs=none) :
  RelG W0 I0 ⟨ins g.r n w.heap.size,g.Im,g.v,g.m⟩ (s.fresh n cs) (a.put (some n) (.pointer (some ⟨w.heap.size,0,none⟩))) (w.alloc (.cells vs T)) :=
 R.freshO hu hn (.inl ⟨hno,vs,T,rfl,hr⟩)
theorem RelG.setO (R:RelG W0 I0 g s a w) {n:Nat} {cs ds:List DV} {ob:Obj} {w':World} (hn:s.h n=some ds)
  (hother : ∀ b,b≠g.r n→w'.heap[b]? = w.heap[b]?) (hsz:w'.heap.size=w.heap.size) (hnew:w'.heap[g.r n]? = some ob) (hos:w'.os=w.os) (htp:w'.tape=w.tape) (hou:w'.output=w.output) (hr:BlkO g.Im w cs ob):RelG W0 I0 g (s.setH n cs) a w':=by
 have hnim:=(R.blk n ds hn).2.1
 have hc : ∀ b o,g.Im b o→w'.cell? ⟨b,o,none⟩=w.cell? ⟨b,o,none⟩:=fun b o h=>Bh (hother b fun e=>hnim o (e ▸ h))
 have hsome:s.h n≠none:=by rw[hn];simp
 have hkeep : ∀ m,(s.setH n cs).h m≠none→s.h m≠none:=fun m hm=>by
  by_cases h1:m=n
  ·rw[h1];exact hsome
  ·simpa [AS.setH,Bc _ _ h1] using hm
 refine ⟨R.defers,R.size,fun k z hk => ?_,fun m es hm => ?_,fun m m' hm hm' he => ?_,⟨R.wf.p,R.wf.w⟩,fun m hm => ?_,fun b o h=>by rw[hsz];exact R.im b o h,R.imle,?_,R.ver,fun j q hj hq => ?_,R.rinj,R.kw,fun j q hj hq => ?_⟩
 ·obtain ⟨y,h1,h2⟩:=R.tmp k z hk
  exact ⟨y,h1,AV.rel_mono (g:=g) (fun _ _ h=>h) hc (fun _ _ _=>rfl) (fun _ _ _ h=>⟨h,rfl⟩) h2⟩
 ·by_cases hmn:m=n
  ·subst hmn
   simp only[AS.setH,Ay,Option.some.injEq] at hm
   subst hm
   exact ⟨(R.blk m ds hn).1,hnim,ob,hnew,hr.mono (fun _ _ h=>h) hc⟩
  ·simp only[AS.setH,Bc _ _ hmn] at hm
   obtain ⟨h1,h2,o',h3,h4⟩:=R.blk m es hm
   exact ⟨h1,h2,o',(hother _ fun e=>hmn (R.inj m n (by rw[hm];simp) hsome e)).trans h3,h4.mono (fun _ _ h=>h) hc⟩
 ·exact R.inj m m' (hkeep m hm) (hkeep m' hm') he
 ·exact R.live m (hkeep m hm)
 ·refine R.below.trans ⟨hos,htp,hou,by rw[hsz];exact Nat.le_refl _,fun k hk=>hother k ?_⟩
  have:=(R.blk n ds hn).1
  omega
 ·obtain ⟨h1,h2,h3,h4,cur,h5,h6⟩:=R.room j q hj hq
  exact ⟨h1,h2,fun m hm=>h3 m (hkeep m hm),h4,cur,(hother _ fun e=>h3 n hsome e.symm).trans h5,h6⟩
 ·obtain ⟨h1,h2,cur,h3⟩:=R.own j q hj hq
  exact ⟨h1,fun m hm=>h2 m (hkeep m hm),cur,(hother _ fun e=>h2 n hsome e.symm).trans h3⟩
theorem RelG.setH (R:RelG W0 I0 g s a w) {n:Nat} {cs ds:List DV} {us vs:Array Value} {T:TypeId} {w':World} (hn:s.h n=some ds) (hb:w.heap[g.r n]? = some (.cells us T (0,0)))
  (hw:w'=w.setRow (g.r n) vs) (hr:DV.relL g.Im w cs vs.toList) (hno:Ts cs=none):RelG W0 I0 g (s.setH n cs) a w':=by
 subst hw
 exact R.setO hn (fun b h=>setRow_other w _ b _ h) (by simp) (setRow_heap w _ us _ T _ hb) rfl rfl rfl (.inl ⟨hno,vs,T,rfl,hr⟩)
theorem RelG.dropH (R:RelG W0 I0 g s a w) {n:Nat} {ds:List DV} (hn:s.h n=some ds):RelG W0 I0 ⟨g.r,fun b o=>g.Im b o∨b=g.r n,g.v,g.m⟩ (s.dropH n) a w:=by
 have hsome:s.h n≠none:=by rw[hn];simp
 have hkeep : ∀ m cs,(s.dropH n).h m=some cs→m≠n∧s.h m=some cs:=fun m cs hm=>by
  unfold AS.dropH at hm
  simp only at hm
  cases hb:Nat.beq m n with
  | true=>rw[hb] at hm;cases hm
  | false =>
   rw[hb] at hm
   exact ⟨fun e=>by rw[e] at hb;simp at hb,hm⟩
 have hk2 : ∀ m,(s.dropH n).h m≠none→m≠n∧s.h m≠none:=fun m hm=>by
  cases h:(s.dropH n).h m with
  | none=>exact absurd h hm
  | some cs=>exact ⟨(hkeep m cs h).1,by rw[(hkeep m cs h).2];simp⟩
 obtain ⟨b1,b2,ob,b3,_⟩:=R.blk n ds hn
 have hlt:=lt_of_block b3
 refine ⟨R.defers,R.size,fun k z hk => ?_,fun m es hm => ?_,fun m m' hm hm' he=>R.inj m m' (hk2 m hm).2 (hk2 m' hm').2 he,⟨R.wf.p,R.wf.w⟩,fun m hm=>R.live m (hk2 m hm).2,fun b o h => ?_,fun b o h => ?_,R.below,R.ver,fun j q hj hq => ?_,R.rinj,R.kw,fun j q hj hq => ?_⟩
 ·obtain ⟨y,h1,h2⟩:=R.tmp k z hk
  exact ⟨y,h1,AV.rel_mono (g:=g) (g':=⟨g.r,fun b o=>g.Im b o∨b=g.r n,g.v,g.m⟩) (fun _ _ h=>.inl h) (fun _ _ _=>rfl) (fun _ _ _=>rfl) (fun _ _ _ h=>⟨h,rfl⟩) h2⟩
 ·obtain ⟨hne,hm⟩:=hkeep m es hm
  obtain ⟨h1,h2,o',h3,h4⟩:=R.blk m es hm
  refine ⟨h1,fun o h => ?_,o',h3,h4.mono (fun _ _ h=>.inl h) (fun _ _ _=>rfl)⟩
  rcases h with h | h
  ·exact h2 o h
  ·exact hne (R.inj m n (by rw[hm];simp) hsome h)
 ·rcases h with h | h
  ·exact R.im b o h
  ·rw[h];exact hlt
 ·rcases h with h | h
  ·exact R.imle b o h
  ·exact .inr (by rw[h];exact b1)
 ·obtain ⟨h1,h2,h3,h4,h5⟩:=R.room j q hj hq
  refine ⟨h1,fun o ho h => ?_,fun m hm=>h3 m (hk2 m hm).2,h4,h5⟩
  rcases h with h | h
  ·exact h2 o ho h
  ·exact h3 n hsome h.symm
 ·obtain ⟨h1,h2,h3⟩:=R.own j q hj hq
  exact ⟨h1,fun m hm=>h2 m (hk2 m hm).2,h3⟩
theorem RelG.kill (R:RelG W0 I0 g s a w) (j:Nat) (x:DV) (e z:Nat):RelG W0 I0 ⟨g.r,g.Im,ins g.v j (Nat.succ (g.v j)),ins g.m j none⟩ (s.app none j x e z) a w:=by
 have hv:=R.ver
 refine ⟨R.defers,R.size,fun k x' hk => ?_,R.blk,R.inj,a96 R.wf none j x e z,R.live,R.im,R.imle,R.below,by simp only[AS.app,hv],fun i q hi hq => ?_,fun i i' q q' hi hq hi' hq' he => ?_,R.kw,fun i q hi hq => ?_⟩
 ·have hk':s.t k=some x':=hk
  obtain ⟨y,h1,h2⟩:=R.tmp k x' hk'
  refine ⟨y,h1,AV.rel_mono (g:=g) (g':=⟨g.r,g.Im,ins g.v j (Nat.succ (g.v j)),ins g.m j none⟩) (fun _ _ h=>h) (fun _ _ _=>rfl) (fun _ _ _=>rfl) (fun x'' q he hq => ?_) h2⟩
  subst he
  by_cases hj:q.j=j
  ·exfalso
   have:=R.wf.w k x'' q hk'
   simp only[hj,Ay] at hq
   rw[hj,← hv] at this
   omega
  ·simp only[Bc _ _ hj] at hq ⊢
   exact ⟨hq,trivial⟩
 ·have hij:i≠j:=fun h=>by subst h;simp[Ay] at hi
  simp only[Bc _ _ hij] at hi
  obtain ⟨h1,h2,h3,h4,h5⟩:=R.room i q hi hq
  exact ⟨h1,h2,h3,h4,h5⟩
 ·have hij:i≠j:=fun h=>by subst h;simp[Ay] at hi
  have hij':i'≠j:=fun h=>by subst h;simp[Ay] at hi'
  simp only[Bc _ _ hij] at hi
  simp only[Bc _ _ hij'] at hi'
  exact R.rinj i i' q q' hi hq hi' hq' he
 ·have hij:i≠j:=fun h=>by subst h;simp[Ay] at hi
  simp only[Bc _ _ hij] at hi
  obtain ⟨h1,h2,h3⟩:=R.own i q hi hq
  exact ⟨h1,h2,h3⟩
theorem RelG.write (R:RelG W0 I0 g s a w) {b:Nat} {cur cells:Array Value} {e:TypeId} {Im':Nat→Nat→Prop} (hb:w.heap[b]? = some (.cells cur e (0,0))) (hW:W0.heap.size≤b) (hnh : ∀ n,s.h n≠none→g.r n≠b)
  (hnr : ∀ j q,g.m j=some q→q.n<q.cap→q.b≠b) (hsame : ∀ o,g.Im b o→cells[o]? = cur[o]?) (hi : ∀ b o,g.Im b o→Im' b o) (hn : ∀ b' o,Im' b' o→g.Im b' o∨b'=b) :
  RelG W0 I0 ⟨g.r,Im',g.v,g.m⟩ s a (w.setRow b cells):=by
 have hother : ∀ b',b'≠b→(w.setRow b cells).heap[b']? = w.heap[b']? := fun b' h=>setRow_other w _ b' _ h
 have hsz:(w.setRow b cells).heap.size=w.heap.size:=by simp
 have hnew:(w.setRow b cells).heap[b]? = some (.cells cells e (0,0)):=setRow_heap w _ cur _ e _ hb
 have hlt:=lt_of_block hb
 have hc : ∀ b' o,g.Im b' o→(w.setRow b cells).cell? ⟨b',o,none⟩=w.cell? ⟨b',o,none⟩:=fun b' o h=>by
  by_cases hbb:b'=b
  ·subst hbb
   simp only[World.cell?,hnew,hb]
   have:=hsame o h
   simp[this]
  ·exact Bh (hother b' hbb)
 refine ⟨R.defers,R.size,fun k z hk => ?_,fun m es hm => ?_,R.inj,R.wf,R.live,fun b' o h => ?_,fun b' o h => ?_,?_,R.ver,fun j q hj hq => ?_,R.rinj,R.kw,fun j q hj hq => ?_⟩
 ·obtain ⟨y,h1,h2⟩:=R.tmp k z hk
  exact ⟨y,h1,AV.rel_mono (g:=g) (g':=⟨g.r,Im',g.v,g.m⟩) hi hc (fun _ _ _=>rfl) (fun _ _ _ h=>⟨h,rfl⟩) h2⟩
 ·obtain ⟨h1,h2,o',h3,h4⟩:=R.blk m es hm
  have hne:=hnh m (by rw[hm];simp)
  refine ⟨h1,fun o h => ?_,o',(hother _ hne).trans h3,h4.mono hi hc⟩
  rcases hn _ o h with h | h
  ·exact h2 o h
  ·exact hne h
 ·rw[hsz]
  rcases hn _ o h with h | h
  ·exact R.im b' o h
  ·subst h;exact hlt
 ·rcases hn _ o h with h | h
  ·exact R.imle b' o h
  ·subst h;exact .inr hW
 ·exact R.below.trans ⟨rfl,rfl,rfl,by simp,fun k hk=>hother k (by omega)⟩
 ·obtain ⟨h1,h2,h3,h4,cur',h5,h6⟩:=R.room j q hj hq
  have hne:=hnr j q hj hq
  refine ⟨h1,fun o ho h => ?_,h3,h4,cur',(hother _ hne).trans h5,h6⟩
  rcases hn _ o h with h | h
  ·exact h2 o ho h
  ·exact hne h
 ·obtain ⟨h1,h2,cur',h3⟩:=R.own j q hj hq
  by_cases hqb:q.b=b
  ·refine ⟨h1,h2,cells,?_⟩
   rw[hqb] at h3 ⊢
   rw[hb] at h3
   cases h3
   exact hnew
  ·exact ⟨h1,h2,cur',(hother _ hqb).trans h3⟩
theorem RelG.give (R:RelG W0 I0 g s a w) {d:Option Nat} {j e z:Nat} {x:DV} {y:Value} {q:Rm} (hd : ∀ k,d=some k→k<s.n) (hx:x.rel g.Im w y) (hy:a2z y∨y=.slice (some ⟨q.b,0,none⟩) q.n q.cap) (hown:0<q.cap→OwnOk W0 g s w q) (he:q.e=e) (hz:q.z=z)
  (hq:q.n<q.cap→RmOk W0 g s w q) (hnr : ∀ i q',g.m i=some q'→q'.n<q'.cap→q.n<q.cap→i≠j→q'.b≠q.b) (hst : ∀ k x t,s.t k=some (.w x (some t))→t.j=j→t.v≠s.r j) :
  RelG W0 I0 ⟨g.r,g.Im,g.v,ins g.m j (some q)⟩ (s.put d (.w x (some ⟨j,s.r j,e,z⟩))) (a.put d y) w:=by
 subst he hz
 have R1:RelG W0 I0 ⟨g.r,g.Im,g.v,ins g.m j (some q)⟩ s a w:=by
  refine ⟨R.defers,R.size,fun k x' hk => ?_,R.blk,R.inj,R.wf,R.live,R.im,R.imle,R.below,R.ver,fun i q' hi hq' => ?_,fun i i' p p' hi hp hi' hp' hb => ?_,R.kw,fun i q' hi hq' => ?_⟩
  ·obtain ⟨u,h1,h2⟩:=R.tmp k x' hk
   refine ⟨u,h1,AV.rel_mono (g:=g) (g':=⟨g.r,g.Im,g.v,ins g.m j (some q)⟩) (fun _ _ h=>h) (fun _ _ _=>rfl) (fun _ _ _=>rfl) (fun x'' t ht hv => ?_) h2⟩
   subst ht
   by_cases htj:t.j=j
   ·exact absurd (by rw[← R.ver,← htj];exact hv.symm) (hst k x'' t hk htj)
   ·exact ⟨hv,Bc _ _ htj⟩
  ·by_cases hij:i=j
   ·subst hij
    simp only[Ay,Option.some.injEq] at hi
    subst hi
    obtain ⟨h1,h2,h3,h4,h5⟩:=hq hq'
    exact ⟨h1,h2,h3,h4,h5⟩
   ·simp only[Bc _ _ hij] at hi
    obtain ⟨h1,h2,h3,h4,h5⟩:=R.room i q' hi hq'
    exact ⟨h1,h2,h3,h4,h5⟩
  ·by_cases hij:i=j<;>by_cases hij':i'=j
   ·rw[hij,hij']
   ·subst hij
    simp only[Ay,Option.some.injEq] at hi
    subst hi
    simp only[Bc _ _ hij'] at hi'
    exact absurd hb.symm (hnr i' p' hi' hp' hp hij')
   ·subst hij'
    simp only[Ay,Option.some.injEq] at hi'
    subst hi'
    simp only[Bc _ _ hij] at hi
    exact absurd hb (hnr i p hi hp hp' hij)
   ·simp only[Bc _ _ hij] at hi
    simp only[Bc _ _ hij'] at hi'
    exact R.rinj i i' p p' hi hp hi' hp' hb
  ·by_cases hij:i=j
   ·subst hij
    simp only[Ay,Option.some.injEq] at hi
    subst hi
    obtain ⟨h1,h2,h3⟩:=hown hq'
    exact ⟨h1,h2,h3⟩
   ·simp only[Bc _ _ hij] at hi
    obtain ⟨h1,h2,h3⟩:=R.own i q' hi hq'
    exact ⟨h1,h2,h3⟩
 refine R1.put hd ⟨hx,fun _ => ?_⟩ (fun n o e=>by cases e) fun z' t e=>by cases e;exact Nat.le_refl _
 rcases hy with h | h
 ·exact .inl h
 ·exact .inr ⟨q.b,q.n,q.cap,by simp[Ay],h⟩
end
end Go.Proofs.YtfkfpkhgoijfdaaGreatDoor
