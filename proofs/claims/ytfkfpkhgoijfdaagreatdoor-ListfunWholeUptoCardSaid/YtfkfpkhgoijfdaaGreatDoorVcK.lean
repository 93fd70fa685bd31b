/- Functions that return a slice of their own making: whose block it lies in. -/
import Derived.Test.YtfkfpkhgoijfdaaGreatDoorVcL
namespace Go.Proofs.YtfkfpkhgoijfdaaGreatDoor
open Go.RowKit
set_option linter.unusedVariables false
set_option linter.unusedSimpArgs false
set_option maxRecDepth 100000
def b9l (W W':World) (n:Nat) (r:Value):Prop :=
 0<n → ∃ b m cap cur e,(r=.slice (some ⟨b,0,none⟩) m cap ∨ ∃ x,r=.tuple #[.slice (some ⟨b,0,none⟩) m cap,x])∧W.heap.size≤b∧W'.heap[b]? = some (.cells cur e (0,0))
def HasO (P:Program) (f:FuncId) (ds:List DV) (n:Nat) (post:DV→Prop):Prop :=
 Jd P f∧(∃ y,post y) ∧ ∀ (W:World) (vs:Array Value) (Im:Nat→Nat→Prop),Kw W→(∀ g o,Im g o→g<W.heap.size)→DV.relL Im W ds vs.toList →
  Calls P f vs W fun e W' => ∃ r y,e=.returned r∧post y∧DV.rel (fun g o=>Im g o∨(W.heap.size≤g∧g<W'.heap.size)) W' y r∧Below W.heap.size W W'∧b9l W W' n r
def b1o (s:AS) (k:Nat):Bool :=
 match s.t k with
 | some (.w _ (some q))=>Nat.beq (s.r q.j) q.v
 | _=>false
def b9i (ty:TypeId→Option TI) (rs:List ResultVar) (k n:Nat) (post:DV→Prop):Ex→AS→Prop
 | .exit _,_=>False
 | e,s=>Qd ty rs post e s∧(n=0∨b1o s k=true)
section
variable {ty:TypeId→Option TI} {W0:World} {I0:Nat→Nat→Prop} {g:Gh} {s:AS} {a:Act} {w:World}
theorem RelG.ownAt (R:RelG W0 I0 g s a w) {k:Nat} (h:b1o s k=true) : ∃ y,a.tmps[k]? = some y∧((∃ A,y=.slice A 0 0) ∨ ∃ b m cap cur e,y=.slice (some ⟨b,0,none⟩) m cap∧(0<cap→W0.heap.size≤b∧w.heap[b]? = some (.cells cur e (0,0)))):=by
 unfold b1o at h
 split at h
 ·rename_i x q hk
  obtain ⟨y,h1,h2⟩:=R.tmp k _ hk
  refine ⟨y,h1,?_⟩
  rcases h2.2 (by rw[R.ver];exact Nat.eq_of_beq_eq_true h) with h3 | ⟨b,m,cap,h3,h4⟩
  ·exact .inl h3
  ·by_cases hc:0<cap
   ·obtain ⟨h5,_,cur,h6⟩:=R.own _ _ h3 hc
    exact .inr ⟨b,m,cap,cur,_,h4,fun _=>⟨h5,h6⟩⟩
   ·exact .inr ⟨b,m,cap,#[],0,h4,fun h=>absurd h hc⟩
 ·cases h
end
theorem HasO.of (ex:List Nat) {f k n:Nat} {fn:Func} {c:Code} {ds:List DV} {post:DV→Prop} {ty:TypeId→Option TI} (hty:Cy Tryz.prog ty) (hm:Tryz.prog.follows .mixedOrders=true) (hent:Jd Tryz.prog f) (hf:Tryz.prog.funcs[f]? = some fn) (hb:fn.body=some c) (hok:Fo ty ex c=true)
  (hn:ds.length≤fn.ntmps) (hex : ∃ y,post y) (hrs:fn.results.toList=[.tmp k] ∨ ∃ k2,fn.results.toList=[.tmp k,.tmp k2]) (hlen : ∀ y,post y → ∃ cs,y=.sl n cs ∨ ∃ x,y=.tup [.sl n cs,x]) (hv:Bx (vc ty ex c (b9i ty fn.results.toList k n post) (mkS fn.ntmps (a0l 0 ds) []))):HasO Tryz.prog f ds n post:=by
 refine ⟨hent,hex,fun W vs Im hKw hIm hr=>calls_of_wp hf hb ?_⟩
 have hlen':=DV.relL_length hr
 have hR:RelG W Im ⟨fun _=>0,Im,fun _=>0,fun _=>none⟩ (mkS fn.ntmps (a0l 0 ds) []) { tmps:=vs ++ Array.replicate (fn.ntmps-vs.size) undef,defers:=[] } W:=RelG.enter hKw hIm hr hn
 refine Rs rfl hty hm c _ _ _ _ _ _ hok hv.h hR fun e s g a w hq R => ?_
 have fin : ∀ e:Ex,Qd ty fn.results.toList post e s→(n=0∨b1o s k=true)→(∀ i,e ≠ .exit i)→a.defers=[] ∧ ∃ v,(results fn a.tmps).run Tryz.prog w=.ok v w ∧ ∃ r y,Ending.returned v=.returned r∧post y∧DV.rel (fun b o=>Im b o∨(W.heap.size≤b∧b<w.heap.size)) w y r∧Below W.heap.size W w∧b9l W w n r:=by
  intro e hq ho he
  obtain ⟨hd,v,hv,r,y,h1,h2,h3,h4⟩:=Nf hty R hq he
  refine ⟨hd,v,hv,r,y,h1,h2,h3,h4,fun hn0 => ?_⟩
  cases h1
  rcases ho with ho | ho
  ·omega
  obtain ⟨z,hz,hz2⟩:=R.ownAt ho
  have hv':v=z ∨ ∃ x,v=.tuple #[z,x]:=by
   have hres:=hv
   unfold results at hres
   rw[Array.mapM_eq_mapM_toList] at hres
   rcases hrs with e1 | ⟨k2,e1⟩
   ·rw[e1] at hres
    simp[hz] at hres
    exact .inl hres.symm
   ·rw[e1] at hres
    simp[hz] at hres
    exact .inr ⟨_,hres.symm⟩
  obtain ⟨cs,hy⟩:=hlen y h2
  have key : ∀ u,u=z→DV.rel (fun b o=>Im b o∨(W.heap.size≤b∧b<w.heap.size)) w (.sl n cs) u → ∃ b m cap cur e,z=.slice (some ⟨b,0,none⟩) m cap∧W.heap.size≤b∧w.heap[b]? = some (.cells cur e (0,0)):=by
   intro u hu hrel
   subst hu
   rw[DV.rel] at hrel
   rcases hrel with ⟨A,_,h0,_⟩ | ⟨b,o,cap,hs,hc,_⟩
   ·omega
   rcases hz2 with ⟨A,hA⟩ | ⟨b',m,cap',cur,e',hs',hown⟩
   ·rw[hs] at hA;cases hA;omega
   ·rw[hs] at hs'
    cases hs'
    obtain ⟨o1,o2⟩:=hown (by omega)
    exact ⟨_,_,_,_,_,hs,o1,o2⟩
  rcases hy with rfl | ⟨x,rfl⟩
  ·rcases hv' with hvz | ⟨x,hvz⟩
   ·obtain ⟨b,m,cap,cur,e',k1,k2,k3⟩:=key v hvz h3
    exact ⟨b,m,cap,cur,e',.inl (hvz.trans k1),k2,k3⟩
   ·rw[hvz,DV.rel] at h3
    rcases h3 with ⟨A,h3,_⟩ | ⟨b,o,cap,h3,_⟩<;>cases h3
  ·rw[DV.rel] at h3
   obtain ⟨xs,hxs,h5⟩:=h3
   rw[DV.relL] at h5
   obtain ⟨u,us,e5,h6,h7⟩:=h5
   rw[DV.relL] at h7
   obtain ⟨u2,us2,e7,h8,h9⟩:=h7
   rw[DV.relL] at h9
   subst h9 e7
   have hxs':v=.tuple #[u,u2]:=by rw[hxs];congr 1;exact Array.ext' e5
   rcases hv' with hvz | ⟨x2,hvz⟩
   ·exfalso
    rcases hz2 with ⟨A,hA⟩ | ⟨b',m,cap',cur,e',hs',_⟩
    ·rw[hvz,hA] at hxs';cases hxs'
    ·rw[hvz,hs'] at hxs';cases hxs'
   ·rw[hvz] at hxs'
    have hu:u=z:=by
     have:=hxs'
     simp at this
     exact this.1.symm
    obtain ⟨b,m,cap,cur,e',k1,k2,k3⟩:=key u hu h6
    exact ⟨b,m,cap,cur,e',.inr ⟨x2,by rw[hvz,k1]⟩,k2,k3⟩
 cases e with
 | normal=>exact fin .normal hq.1 hq.2 (fun i h=>by cases h)
 | ret=>exact fin .ret hq.1 hq.2 (fun i h=>by cases h)
 | exit i=>cases hq
theorem b14 (ex:List Nat) {fn:Func} {c:Code} {post:DV→Prop} {W w:World} {Im:Nat→Nat→Prop} {g:Gh} {s:AS} {a:Act} (hok:Fo tyT ex c=true) (R:RelG W Im g s a w) (hv:VC ex c (Qd tyT fn.results.toList post) s) :
  c.wp Tryz.prog (bodyPost Tryz.prog fn fun e W' => ∃ r y,e=.returned r∧post y∧DV.rel (fun g o=>Im g o∨(W.heap.size≤g∧g<W'.heap.size)) W' y r∧Below W.heap.size W W') a w:=by
 refine Rs rfl Oi mixed c _ _ _ _ _ _ hok hv.h R fun e s g a w hq R => ?_
 cases e with
 | normal=>exact Nf Oi R hq (fun i h=>by cases h)
 | ret=>exact Nf Oi R hq (fun i h=>by cases h)
 | exit i=>cases hq
def AllT (g:Gh) (w:World) (a:Act):List (Nat×AV)→Prop
 | []=>True
 | (k,x)::r=>(∃ y,a.tmps[k]? = some y∧x.rel g w y)∧AllT g w a r
theorem AllT.get {g:Gh} {w:World} {a:Act} : ∀ {t:List (Nat×AV)},AllT g w a t → ∀ p ∈ t,∃ y,a.tmps[p.1]? = some y∧p.2.rel g w y
 | [],_,p,h=>by cases h
 | q::r,h,p,hp=>by
  rcases List.mem_cons.1 hp with rfl | hp
  ·exact h.1
  ·exact h.2.get p hp
end Go.Proofs.YtfkfpkhgoijfdaaGreatDoor
