/- Functions that return a slice of their own making: whose block it lies in. -/
import Derived.Test.YtdkgnmiiibpnnaaGreatDoorVcL
namespace Go.Proofs.YtdkgnmiiibpnnaaGreatDoor
open Go.RowKit
set_option linter.unusedVariables false
set_option linter.unusedSimpArgs false
set_option maxRecDepth 100000
def c0i (W W':World) (n:Nat) (r:Value):Prop :=
 0<n → ∃ b m cap cur e,(r=.slice (some ⟨b,0,none⟩) m cap ∨ ∃ x,r=.tuple #[.slice (some ⟨b,0,none⟩) m cap,x])∧W.heap.size≤b∧W'.heap[b]? = some (.cells cur e (0,0))
def HasO (P:Program) (f:FuncId) (ds:List DV) (n:Nat) (post:DV→Prop):Prop :=
 Ii P f∧(∃ y,post y) ∧ ∀ (W:World) (vs:Array Value) (Im:Nat→Nat→Prop),Kw W→(∀ g o,Im g o→g<W.heap.size)→DV.relL Im W ds vs.toList →
  Calls P f vs W fun e W' => ∃ r y,e=.returned r∧post y∧DV.rel (fun g o=>Im g o∨(W.heap.size≤g∧g<W'.heap.size)) W' y r∧Below W.heap.size W W'∧c0i W W' n r
theorem HasO.toC {P:Program} {f:FuncId} {ds:List DV} {n:Nat} {post:DV→Prop} (h:HasO P f ds n post):HasC P f ds post :=
 ⟨h.1,h.2.1,fun W vs Im hKw hIm hr=>(h.2.2 W vs Im hKw hIm hr).mono fun e W' ⟨r,y,h1,h2,h3,h4,_⟩=>⟨r,y,h1,h2,h3,h4⟩⟩
def a7r (s:AS) (k:Nat):Bool :=
 match s.t k with
 | some (.w _ (some q))=>Nat.beq (s.r q.j) q.v
 | _=>false
def b5s (ty:TypeId→Option TI) (rs:List ResultVar) (k n:Nat) (post:DV→Prop):Ex→AS→Prop
 | .exit _,_=>False
 | e,s=>Py ty rs post e s∧(n=0∨a7r s k=true)
theorem iSO {s:AS} {k n:Nat} {rs:List ResultVar} {post:DV→Prop} (d e:DV) (ds:List DV) (kk:post (.tup (d::e::ds))) (h:Fn tyT s rs=some (d::e::ds):=by kernel_rfl) (h2:n=0∨a7r s k=true:=by first | exact .inr (by kernel_rfl) | exact .inl (by assumption) | exact .inl (by omega)):b5s tyT rs k n post .ret s:=⟨b5m h kk,h2⟩
section
variable {ty:TypeId→Option TI} {W0:World} {I0:Nat→Nat→Prop} {g:Gh} {s:AS} {a:Act} {w:World}
theorem RelG.ownAt (R:RelG W0 I0 g s a w) {k:Nat} (h:a7r s k=true) : ∃ y,a.tmps[k]? = some y∧((∃ A,y=.slice A 0 0) ∨ ∃ b m cap cur e,y=.slice (some ⟨b,0,none⟩) m cap∧(0<cap→W0.heap.size≤b∧w.heap[b]? = some (.cells cur e (0,0)))):=by
 unfold a7r at h
 split at h
 ·rename_i x q hk
  obtain ⟨y,h1,h2⟩:=R.tmp k _ hk
  refine ⟨y,h1,?_⟩
  rcases h2.2 (by rw[R.ver];exact Nat.eq_of_beq_eq_true h) with h3 | ⟨b,m,cap,h3,h4⟩
  ·exact .inl h3
  ·by_cases hc:0<cap
   ·obtain ⟨h5,_,cur,h6⟩:=R.own _ _ h3 hc
    exact .inr ⟨b,m,cap,cur,_,h4,fun _=>⟨h5,h6⟩⟩
   ·exact .inr ⟨b,m,cap,#[],0,h4,fun h=>absurd h hc⟩
 ·cases h
end
theorem HasO.of (ex:List Nat) {f k n:Nat} {fn:Func} {c:Code} {ds:List DV} {post:DV→Prop} {ty:TypeId→Option TI} (hty:Cv Tryz.prog ty) (hm:Tryz.prog.follows .mixedOrders=true) (hent:Ii Tryz.prog f) (hf:Tryz.prog.funcs[f]? = some fn) (hb:fn.body=some c) (hok:Ey ty ex c=true)
  (hn:ds.length≤fn.ntmps) (hex : ∃ y,post y) (hrs:fn.results.toList=[.tmp k] ∨ ∃ k2,fn.results.toList=[.tmp k,.tmp k2]) (hlen : ∀ y,post y → ∃ cs,y=.sl n cs ∨ ∃ x,y=.tup [.sl n cs,x]) (hv:Bx (vc ty ex c (b5s ty fn.results.toList k n post) (mkS fn.ntmps (a1f 0 ds) []))):HasO Tryz.prog f ds n post:=by
 refine ⟨hent,hex,fun W vs Im hKw hIm hr=>calls_of_wp hf hb ?_⟩
 have hlen':=DV.relL_length hr
 have hR:RelG W Im ⟨fun _=>0,Im,fun _=>0,fun _=>none⟩ (mkS fn.ntmps (a1f 0 ds) []) { tmps:=vs ++ Array.replicate (fn.ntmps-vs.size) undef,defers:=[] } W:=RelG.enter hKw hIm hr hn
 refine Tw rfl hty hm c _ _ _ _ _ _ hok hv.h hR fun e s g a w hq R => ?_
 have fin : ∀ e:Ex,Py ty fn.results.toList post e s→(n=0∨a7r s k=true)→(∀ i,e ≠ .exit i)→a.defers=[] ∧ ∃ v,(results fn a.tmps).run Tryz.prog w=.ok v w ∧ ∃ r y,Ending.returned v=.returned r∧post y∧DV.rel (fun b o=>Im b o∨(W.heap.size≤b∧b<w.heap.size)) w y r∧Below W.heap.size W w∧c0i W w n r:=by
  intro e hq ho he
  obtain ⟨hd,v,hv,r,y,h1,h2,h3,h4⟩:=Ms hty R hq he
  refine ⟨hd,v,hv,r,y,h1,h2,h3,h4,fun hn0 => ?_⟩
  cases h1
  rcases ho with ho | ho
  ·omega
  obtain ⟨z,hz,hz2⟩:=R.ownAt ho
  have hv':v=z ∨ ∃ x,v=.tuple #[z,x]:=by
   have hres:=hv
   unfold results at hres
   rw[Array.mapM_eq_mapM_toList] at hres
   rcases hrs with e1 | ⟨k2,e1⟩
   ·rw[e1] at hres
    simp[hz] at hres
    exact .inl hres.symm
   ·rw[e1] at hres
    simp[hz] at hres
    exact .inr ⟨_,hres.symm⟩
  obtain ⟨cs,hy⟩:=hlen y h2
  have key : ∀ u,u=z→DV.rel (fun b o=>Im b o∨(W.heap.size≤b∧b<w.heap.size)) w (.sl n cs) u → ∃ b m cap cur e,z=.slice (some ⟨b,0,none⟩) m cap∧W.heap.size≤b∧w.heap[b]? = some (.cells cur e (0,0)):=by
   intro u hu hrel
   subst hu
   rw[DV.rel] at hrel
   rcases hrel with ⟨A,_,h0,_⟩ | ⟨b,o,cap,hs,hc,_⟩
   ·omega
   rcases hz2 with ⟨A,hA⟩ | ⟨b',m,cap',cur,e',hs',hown⟩
   ·rw[hs] at hA;cases hA;omega
   ·rw[hs] at hs'
    cases hs'
    obtain ⟨o1,o2⟩:=hown (by omega)
    exact ⟨_,_,_,_,_,hs,o1,o2⟩
  rcases hy with rfl | ⟨x,rfl⟩
  ·rcases hv' with hvz | ⟨x,hvz⟩
   ·obtain ⟨b,m,cap,cur,e',k1,k2,k3⟩:=key v hvz h3
    exact ⟨b,m,cap,cur,e',.inl (hvz.trans k1),k2,k3⟩
   ·rw[hvz,DV.rel] at h3
    rcases h3 with ⟨A,h3,_⟩ | ⟨b,o,cap,h3,_⟩<;>cases h3
  ·rw[DV.rel] at h3
   obtain ⟨xs,hxs,h5⟩:=h3
   rw[DV.relL] at h5
   obtain ⟨u,us,e5,h6,h7⟩:=h5
   rw[DV.relL] at h7
   obtain ⟨u2,us2,e7,h8,h9⟩:=h7
   rw[DV.relL] at h9
   subst h9 e7
   have hxs':v=.tuple #[u,u2]:=by rw[hxs];congr 1;exact Array.ext' e5
   rcases hv' with hvz | ⟨x2,hvz⟩
   ·exfalso
    rcases hz2 with ⟨A,hA⟩ | ⟨b',m,cap',cur,e',hs',_⟩
    ·rw[hvz,hA] at hxs';cases hxs'
    ·rw[hvz,hs'] at hxs';cases hxs'
   ·rw[hvz] at hxs'
    have hu:u=z:=by
     have:=hxs'
     simp at this
     exact this.1.symm
    obtain ⟨b,m,cap,cur,e',k1,k2,k3⟩:=key u hu h6
    exact ⟨b,m,cap,cur,e',.inr ⟨x2,by rw[hvz,k1]⟩,k2,k3⟩
 cases e with
 | normal=>exact fin .normal hq.1 hq.2 (fun i h=>by cases h)
 | ret=>exact fin .ret hq.1 hq.2 (fun i h=>by cases h)
 | exit i=>cases hq
theorem a3g (ex:List Nat) {fn:Func} {c:Code} {post:DV→Prop} {W w:World} {Im:Nat→Nat→Prop} {g:Gh} {s:AS} {a:Act} (hok:Ey tyT ex c=true) (R:RelG W Im g s a w) (hv:VC ex c (Py tyT fn.results.toList post) s) :
  c.wp Tryz.prog (bodyPost Tryz.prog fn fun e W' => ∃ r y,e=.returned r∧post y∧DV.rel (fun g o=>Im g o∨(W.heap.size≤g∧g<W'.heap.size)) W' y r∧Below W.heap.size W W') a w:=by
 refine Tw rfl b2d mixed c _ _ _ _ _ _ hok hv.h R fun e s g a w hq R => ?_
 cases e with
 | normal=>exact Ms b2d R hq (fun i h=>by cases h)
 | ret=>exact Ms b2d R hq (fun i h=>by cases h)
 | exit i=>cases hq
def AllT (g:Gh) (w:World) (a:Act):List (Nat×AV)→Prop
 | []=>True
 | (k,x)::r=>(∃ y,a.tmps[k]? = some y∧x.rel g w y)∧AllT g w a r
theorem AllT.get {g:Gh} {w:World} {a:Act} : ∀ {t:List (Nat×AV)},AllT g w a t → ∀ p ∈ t,∃ y,a.tmps[p.1]? = some y∧p.2.rel g w y
 | [],_,p,h=>by cases h
 | q::r,h,p,hp=>by
  rcases List.mem_cons.1 hp with rfl | hp
  ·exact h.1
  ·exact h.2.get p hp
def a2d (Im:Nat→Nat→Prop) (b2 blk:Nat):Gh:=⟨fun _=>b2,fun b o=>Im b o∨b=blk,fun _=>0,fun _=>none⟩
theorem RelG.mid {W w:World} {Im:Nat→Nat→Prop} {a:Act} {n k2 b2 blk:Nat} {t:List (Nat×AV)} {cs:List DV} {vs:Array Value} {T:TypeId} (hKw:Kw W) (hIm : ∀ g o,Im g o→g<W.heap.size) (hb:Below W.heap.size W w) (hd:a.defers=[]) (hsz:a.tmps.size=n)
  (h1:W.heap.size≤blk) (h2:blk<w.heap.size) (h3:W.heap.size≤b2) (h4:b2≠blk) (h5:w.heap[b2]? = some (.cells vs T (0,0))) (h6:DV.relL (a2d Im b2 blk).Im w cs vs.toList) (h7:Rn cs=none) (ht:AllT (a2d Im b2 blk) w a t) (hp:Fh [(k2,cs)] t=true) (hw:t.all (fun p=>match p.2 with | .w _ _=>false | _=>true)=true) :
  RelG W Im (a2d Im b2 blk) (mkS n t [(k2,cs)]) a w:=by
 have hl : ∀ m ds,Gk [(k2,cs)] m=some ds→m=k2∧ds=cs:=fun m ds h=>by
  have:=Jo h
  simp at this
  exact this
 have hn : ∀ m,Gk [(k2,cs)] m≠none→m=k2:=fun m h=>by
  cases e:Gk [(k2,cs)] m with
  | none=>exact absurd e h
  | some ds=>exact (hl m ds e).1
 refine ⟨hd,hsz,fun k x hk=>ht.get (k,x) (Jo hk),fun m ds hm => ?_,fun m m' hm hm' _=>(hn m hm).trans (hn m' hm').symm,⟨fun k m o hk=>Lr hp k m o hk,fun k x q hk => ?_⟩,fun m hm=>Ry hm,fun b o h => ?_,fun b o h => ?_,hb,rfl,(fun j q h=>by cases h),(fun j j' q q' h=>by cases h),hKw,(fun j q h=>by cases h)⟩
 ·obtain ⟨_,rfl⟩:=hl m ds hm
  refine ⟨h3,fun o h => ?_,_,h5,.inl ⟨h7,vs,T,rfl,h6⟩⟩
  rcases h with h | h
  ·have:=hIm _ _ h
   have h3':W.heap.size≤(a2d Im b2 blk).r m:=h3
   omega
  ·exact h4 h
 ·have:=List.all_eq_true.1 hw (k,.w x (some q)) (Jo hk)
  simp at this
 ·rcases h with h | h
  ·have:=hIm b o h;have:=hb.size;omega
  ·rw[h];exact h2
 ·rcases h with h | h
  ·exact .inl h
  ·rw[h];exact .inr h1
end Go.Proofs.YtdkgnmiiibpnnaaGreatDoor
