/- value.nested of a list. -/
import Derived.Test.YtfkfpkhgoijfdaaGreatDoorLfZ
import Derived.Test.YtfkfpkhgoijfdaaGreatDoorPlA
import Derived.Deep.LoopGhost
import Derived.Test.YtfkfpkhgoijfdaaGreatDoorOpenD
namespace Go.Proofs.YtfkfpkhgoijfdaaGreatDoor
open Go.RowKit Go.Lib
set_option linter.unusedVariables false
set_option linter.unusedSimpArgs false
abbrev PlC (x:Vl):Prop:=HasC Tryz.prog 46 [VV x] (fun r=>r=.tup [Js (plV x),.v (.bool true)])
theorem a1f {Im:Nat→Nat→Prop} {W:World} {d:Dm} {b:Bool} {y:Value} (h:DV.rel Im W (.tup [Js d,.v (.bool b)]) y) : ∃ k t A l c A2 l2 c2 p q,y=.tuple #[.agg #[.int .i64 k,.string t,.slice A l c,.slice A2 l2 c2,.bool p,.bool q],.bool b]∧Hid (DV.relL Im W d.cells [.int .i64 k,.string t,.slice A l c,.slice A2 l2 c2,.bool p,.bool q]):=by
 rw[DV.rel] at h
 obtain ⟨us,rfl,h⟩:=h
 simp only[DV.relL] at h
 obtain ⟨u1,_,e,h1,u2,_,rfl,h2,rfl⟩:=h
 obtain rfl:=Ep h2
 obtain ⟨k,t,A,l,c,A2,l2,c2,p,q,rfl,h3⟩:=b0i h1
 exact ⟨k,t,A,l,c,A2,l2,c2,p,q,by rw[show us=#[_,.bool b] from Array.ext' e],h3⟩
theorem b2x {Im:Nat→Nat→Prop} {W:World} {vs:Array Value} {x y:DV} (h:DV.relL Im W [x,y] vs.toList) : ∃ u v,vs=#[u,v]∧x.rel Im W u∧y.rel Im W v:=by
 simp only[DV.relL] at h
 obtain ⟨u,us,e,h1,v,us2,rfl,h2,rfl⟩:=h
 exact ⟨u,v,Array.ext' e,h1,h2⟩
structure NR (W w0 w:World) (I0 Im:Nat→Nat→Prop) (k:Int) (ns:List L8) (A2:Option Addr) (c2:Nat) (p q:Bool) (A:Option Addr) (cap:Nat) (ds:List Dm):Prop where
 f:FD W w Im (.slice A ds.length cap) ds
 b1:w.heap[W.heap.size+1]? = some (.cells #[.int .i64 0,.string ⟨#[]⟩,.slice none 0 0,.slice none 0 0,.bool false,.bool false] 27 (0,0))
 b2:w.heap[W.heap.size+2]? = some (.cells #[.int .i64 k,.string ⟨#[]⟩,.slice A ds.length cap,.slice A2 ns.length c2,.bool p,.bool q] 27 (0,0))
 ne : ∀ g,(Value.slice A ds.length cap).ownBlock=some g→g≠W.heap.size+1∧g≠W.heap.size+2
 im : ∀ b o,Im b o→b≠W.heap.size+1∧b≠W.heap.size+2
 names:DV.rel Im w (.sl ns.length (Av ns)) (.slice A2 ns.length c2)
 kp:Kp I0 w0 Im w
theorem NR.next {W w0 w w':World} {I0 Im Im':Nat→Nat→Prop} {k:Int} {ns:List L8} {A2:Option Addr} {c2:Nat} {p q:Bool} {A:Option Addr} {cap:Nat} {ds:List Dm} (h:NR W w0 w I0 Im k ns A2 c2 p q A cap ds) (hb:Below w.heap.size w w') (hi : ∀ b o,Im b o→Im' b o) (hn : ∀ b o,Im' b o→Im b o∨(w.heap.size≤b∧b<w'.heap.size)):NR W w0 w' I0 Im' k ns A2 c2 p q A cap ds:=by
 have l1:=lt_of_block h.b1
 have l2:=lt_of_block h.b2
 refine ⟨h.f.next hb hi hn,(hb.block _ l1).trans h.b1,(hb.block _ l2).trans h.b2,h.ne,fun b o k => ?_,DV.rel_mono hi (fun b o k=>Bh (hb.block b (h.f.im b o k))) _ _ h.names,h.kp.trans (Kp.of hb h.f.im hi fun b o k=>(hn b o k).imp id And.left)⟩
 rcases hn b o k with q | q
 ·exact h.im b o q
 ·omega
theorem NR.store {W w0 w w':World} {I0 Im:Nat→Nat→Prop} {k:Int} {ns:List L8} {A2:Option Addr} {c2:Nat} {p q:Bool} {A A':Option Addr} {cap cap':Nat} {ds:List Dm} {d:Dm} (h:NR W w0 w I0 Im k ns A2 c2 p q A cap ds) (hF:FD W w' Im (.slice A' (ds.length+1) cap') (ds ++ [d]))
  (hk : ∀ b,b<w.heap.size→(Value.slice A ds.length cap).ownBlock≠some b→w'.heap[b]? = w.heap[b]?) (hs:w.heap.size≤w'.heap.size) (ho : ∀ g,(Value.slice A' (ds.length+1) cap').ownBlock=some g→(Value.slice A ds.length cap).ownBlock=some g∨w.heap.size≤g) :
  NR W w0 (w'.setCell ⟨W.heap.size+2,2,none⟩ (.slice A' (ds.length+1) cap')) I0 Im k ns A2 c2 p q A' cap' (ds ++ [d]):=by
 have l1:=lt_of_block h.b1
 have l2:=lt_of_block h.b2
 have hl:(ds ++ [d]).length=ds.length+1:=by simp
 have n1:=fun g hg=>(h.ne g hg).1
 have n2:=fun g hg=>(h.ne g hg).2
 have b1:=(hk _ l1 fun e=>n1 _ e rfl).trans h.b1
 have b2:=(hk _ l2 fun e=>n2 _ e rfl).trans h.b2
 have nn : ∀ g,(Value.slice A' (ds.length+1) cap').ownBlock=some g→g≠W.heap.size+1∧g≠W.heap.size+2:=fun g hg=>by
  rcases ho g hg with e | e
  ·exact h.ne g e
  ·omega
 have hcell : ∀ b o,Im b o→(w'.setCell ⟨W.heap.size+2,2,none⟩ (.slice A' (ds.length+1) cap')).cell? ⟨b,o,none⟩=w.cell? ⟨b,o,none⟩:=fun b o k =>
  (World.cell?_setCell_other w' ⟨W.heap.size+2,2,none⟩ ⟨b,o,none⟩ _ fun e=>by injection e with e1;exact (h.im b o k).2 e1.symm).trans (Bh (hk b (h.f.im b o k) fun e=>h.f.own b e o k))
 have hsz:(w'.setCell ⟨W.heap.size+2,2,none⟩ (.slice A' (ds.length+1) cap')).heap.size=w'.heap.size:=by simp[World.setCell]
 refine ⟨by rw[hl];exact hF.set (by omega) (fun o k=>(h.im _ o k).2 rfl) (fun e=>(nn _ e).2 rfl) _,?_,?_,by rw[hl];exact nn,h.im,DV.rel_mono (fun _ _ k=>k) hcell _ _ h.names,h.kp.trans ⟨fun _ _ k=>k,hcell,by rw[hsz];exact hs,fun _ _ k=>.inl k⟩⟩
 ·simp[World.setCell,Array.getElem?_modify,b1]
 ·rw[hl]
  simp[World.setCell,Array.getElem?_modify,b2]
theorem Nc {ws:List Vl} {k:Nat} {x:Vl} (h:ws[k]? = some x):plL (ws.take (k+1))=plL (ws.take k) ++ [plV x]:=by
 rw[Es,Es,List.take_add_one,h]
 simp
theorem a7t {W:World} {Im:Nat→Nat→Prop} {k:Int} (hI : ∀ b o,Im b o→b<W.heap.size) (o1:Obj) (z:Value) (hz:z=.int .i64 k):NR W W (((W.alloc o1).alloc (.cells #[.int .i64 0,.string ⟨#[]⟩,.slice none 0 0,.slice none 0 0,.bool false,.bool false] 27)).alloc (.cells #[z,.string ⟨#[]⟩,.slice none 0 0,.slice none 0 0,.bool false,.bool false] 27)) Im Im k [] none 0 false false none 0 []:=by
 subst hz
 have hb:Below W.heap.size W (((W.alloc o1).alloc (.cells #[.int .i64 0,.string ⟨#[]⟩,.slice none 0 0,.slice none 0 0,.bool false,.bool false] 27)).alloc (.cells #[.int .i64 k,.string ⟨#[]⟩,.slice none 0 0,.slice none 0 0,.bool false,.bool false] 27)):=(Hj W _ _).trans ((Az _ _).mono (by rw[Bo];omega))
 refine ⟨⟨⟨[],World.ownsRow_nil _ _ _ _,by rw[Ad,DV.relL],fun _ h=>by simp at h⟩,fun b o h=>Nat.lt_of_lt_of_le (hI b o h) hb.size,fun b h=>(by cases h),hb⟩,?_,?_,fun g h=>(by cases h),fun b o h=>by have:=hI b o h;omega,?_,Kp.of hb hI (fun _ _ h=>h) (fun _ _ h=>.inl h)⟩
 ·exact Hd (Rt W _ _)
 ·have:=Cn ((W.alloc o1).alloc (.cells #[.int .i64 0,.string ⟨#[]⟩,.slice none 0 0,.slice none 0 0,.bool false,.bool false] 27)) (.cells #[.int .i64 k,.string ⟨#[]⟩,.slice none 0 0,.slice none 0 0,.bool false,.bool false] 27)
  rw[Bo] at this
  exact this
 ·rw[DV.rel]
  exact .inl ⟨none,rfl,rfl,rfl⟩
theorem Lp (w:World) (o:Obj) (us:List Value) (T:TypeId) : ∀ (j:Nat) (q:Value),us[j]? = some q→((w.alloc o).alloc (.cells us.toArray T)).cell? ⟨w.heap.size+1,j,none⟩=some q:=fun j q hj=>Ap (Rt w o _) (by simpa using hj)
abbrev six (w:World) (b:Nat) (v0 v1 v2 v3 v4 v5:Value):World:=(((((w.setCell ⟨b,0,none⟩ v0).setCell ⟨b,1,none⟩ v1).setCell ⟨b,2,none⟩ v2).setCell ⟨b,3,none⟩ v3).setCell ⟨b,4,none⟩ v4).setCell ⟨b,5,none⟩ v5
theorem Qw {w:World} {b:Nat} {o0 o1 o2 o3 o4 o5:Value} {T:TypeId} (h:w.heap[b]? = some (.cells #[o0,o1,o2,o3,o4,o5] T (0,0))) (v0 v1 v2 v3 v4 v5:Value):(six w b v0 v1 v2 v3 v4 v5).heap[b]? = some (.cells #[v0,v1,v2,v3,v4,v5] T (0,0))∧True:=by
 refine ⟨?_,trivial⟩
 simp[six,World.setCell,Array.getElem?_modify,h]
theorem a44 {w:World} {b:Nat} {v0 v1 v2 v3 v4 v5:Value} {c o:Nat} (h:c≠b):(six w b v0 v1 v2 v3 v4 v5).cell? ⟨c,o,none⟩=w.cell? ⟨c,o,none⟩:=by
 have e : ∀ (w:World) k v,(w.setCell ⟨b,k,none⟩ v).cell? ⟨c,o,none⟩=w.cell? ⟨c,o,none⟩:=fun w k v=>World.cell?_setCell_other w ⟨b,k,none⟩ ⟨c,o,none⟩ v fun e=>h (by injection e with e1;exact e1.symm)
 simp only[six,e]
theorem b8q {W0 w:World} {Im:Nat→Nat→Prop} {A:Option Addr} {cap:Nat} {ds:List Dm} (h:FD W0 w Im (.slice A ds.length cap) ds):DV.rel (fun b o=>Im b o∨(Value.slice A ds.length cap).ownBlock=some b) w (.sl ds.length (Ad ds)) (.slice A ds.length cap):=by
 obtain ⟨⟨ys,hr,hrel,_⟩,_⟩:=h
 rw[DV.rel]
 rcases hr.2 with ⟨hv,h0⟩ | ⟨g,cp,cur,hv,hb,hg,hn,hm,hsz,ht⟩
 ·injection hv with e1 e2 e3
  exact .inl ⟨none,by rw[e1,e3,h0],h0,by rw[List.length_eq_zero_iff.1 h0,Ad]⟩
 ·injection hv with e1 e2 e3
  subst e1
  subst e3
  refine .inr ⟨g,0,cap,rfl,hn,hm,Fl (DV.relL_mono (fun _ _ q=>.inl q) (fun _ _ _=>rfl) _ _ hrel) (fun j hj=>.inr rfl) fun j u hj => ?_⟩
  rw[← ht,List.getElem?_take] at hj
  split at hj
  ·rw[Nat.zero_add]
   exact Ap hg (by simpa using hj)
  ·cases hj
theorem a1y {W w0 w wF:World} {I I0 Im:Nat→Nat→Prop} {k:Int} {ns:List L8} {A2:Option Addr} {c2:Nat} {p q:Bool} {A:Option Addr} {cap:Nat} {ds es:List Dm} (h:NR W w0 w I0 Im k ns A2 c2 p q A cap ds) (he:ds=es) (hi : ∀ b o,Im b o→I b o∨W.heap.size≤b) (hw:wF=six w (W.heap.size+1) (.int .i64 k) (.string ⟨#[]⟩) (.slice A ds.length cap) (.slice A2 ns.length c2) (.bool p) (.bool q)) :
  DV.rel (fun b o=>I b o∨W.heap.size≤b∧b<wF.heap.size) wF (.tup [Js (.mk k [] es ns p q),.v (.bool true)]) (.tuple #[.agg #[.int .i64 k,.string ⟨#[]⟩,.slice A ds.length cap,.slice A2 ns.length c2,.bool p,.bool q],.bool true])∧Below W.heap.size W wF:=by
 subst he
 have hs:wF.heap.size=w.heap.size:=by rw[hw];simp[six,World.setCell]
 have hlt:=fun b o k=>h.f.im b o k
 have key : ∀ b o,(Im b o∨(Value.slice A ds.length cap).ownBlock=some b)→(I b o∨W.heap.size≤b∧b<wF.heap.size)∧b≠W.heap.size+1:=fun b o k=>by
  rcases k with k | k
  ·exact ⟨(hi b o k).imp id fun q=>⟨q,by rw[hs];exact hlt b o k⟩,(h.im b o k).1⟩
  ·obtain ⟨⟨ys,hr,_⟩,_⟩:=h.f
   have:=hr.lt b k
   exact ⟨.inr ⟨this.1,by rw[hs];exact this.2⟩,(h.ne b k).1⟩
 have hcell : ∀ b o,(Im b o∨(Value.slice A ds.length cap).ownBlock=some b)→wF.cell? ⟨b,o,none⟩=w.cell? ⟨b,o,none⟩:=fun b o k=>by rw[hw];exact a44 (key b o k).2
 have h1:=DV.rel_mono (fun b o k=>(key b o k).1) hcell _ _ (b8q h.f)
 have h2:=DV.rel_mono (fun b o k=>(key b o (.inl k)).1) (fun b o k=>hcell b o (.inl k)) _ _ h.names
 refine ⟨?_,by rw[hw];exact (((((h.f.below.setCell (Nat.le_succ _) _).setCell (Nat.le_succ _) _).setCell (Nat.le_succ _) _).setCell (Nat.le_succ _) _).setCell (Nat.le_succ _) _).setCell (Nat.le_succ _) _⟩
 have rv : ∀ x,DV.rel (fun b o=>I b o∨W.heap.size≤b∧b<wF.heap.size) wF (.v x) x:=fun x=>by rw[DV.rel]
 rw[DV.rel]
 refine ⟨_,rfl,Di ?_ (Di (rv _) Sj)⟩
 rw[DV.rel]
 exact ⟨_,rfl,Di (rv _) (Di (rv _) (Di h1 (Di h2 (Di (rv _) (Di (rv _) Sj)))))⟩
theorem b1b (y:Value) (w:World):(Instr.typeAssert (.iface 91 y) 34 91 false).run Tryz.prog w=.ok y w:=by
 have hd:=(Oi 91 ⟨.slice 36,1,[.sl 0 []],false,24⟩ (by kernel_rfl)).2.1
 simp[Instr.typeAssert,run_underlying hd]
set_option maxHeartbeats 4000000 in
set_option maxRecDepth 1000000 in
theorem a03 {xs:List Vl} (hl1:xs.length≤1073741824) (ih : ∀ x ∈ xs,PlC x):HasC Tryz.prog 66 [VV (.list xs),.v (.int .i64 10)] (fun r=>r=.tup [Js (plV (.list xs)),.v (.bool true)]):=by
 refine ⟨fun args w=>Tryz.call66 args w,⟨_,rfl⟩,fun W vs' Im hKw hIm hr => ?_⟩
 obtain ⟨y1,y2,rfl,hy1,hy2⟩:=b2x hr
 obtain rfl:=Ep hy2
 obtain ⟨u,rfl,hu⟩:=Kb hy1
 rw[DV.rel,Vl.enc,DV.rel] at hu
 obtain ⟨_,d,rfl,hd⟩:=hu
 obtain ⟨A,cap,rfl⟩:=Fj hd
 have HY:RelH _ _ _ _:=⟨hd⟩
 have HI:Hid _:=hIm
 have HK:Hid _:=hKw
 have IH:Hid _:=ih
 clear hy1 hy2 hd hIm hKw hr ih
 go_enter Tryz.func66,Tryz.ntmps66
 go_wp2_with fail
 simp only[b1b,Result.andThen_ok]
 go_wp2_with fail
 go_loopg [43] xs.length (fun g s43 wr => ∃ (k:Nat) (Im':Nat→Nat→Prop) (A':Option Addr) (cap':Nat),s43=.int .i64 k∧k≤xs.length∧xs.length-k≤g∧Hid (NR W W wr Im Im' 10 [] none 0 false false A' cap' (plL (xs.take k))))
 case atStart=>exact ⟨0,Im,none,0,rfl,Nat.zero_le _,Nat.le_refl _,a7t HI.out _ _ rfl⟩
 case round =>
  obtain ⟨k,Im',A',cap',rfl,hk,hg,HR⟩:=hrel
  have hdl:(plL (xs.take k)).length=k:=by rw[Es,List.length_map,List.length_take];omega
  by_cases hlt:k<xs.length
  ·obtain ⟨b,o,ys,rfl,hC,hcell,hIm⟩:=Gn HY.out (by omega)
   obtain ⟨x,hx⟩ : ∃ x,xs[k]? = some x:=⟨_,List.getElem?_eq_getElem hlt⟩
   obtain ⟨u,hu,hux⟩:=hC.rel k x hx
   have c1:wr.cell? ⟨b,o+k,none⟩=some u:=(HR.out.kp.cell b (o+k) (hIm k hlt)).trans (hcell k u hu)
   have hu1:u.oneCell'=true:=hC.one u (List.mem_of_getElem? hu)
   have HU:RelH Im' wr (BV x) u:=HR.out.kp.rel ⟨hux⟩
   have HX:Hid _:=hx
   have kz:(k:Int)<(xs.length:Int):=by omega
   have hst:(store ⟨wr.heap.size,0,none⟩ u).run Tryz.prog (wr.alloc (.cells #[.nilIface] 36))=.ok () (wr.alloc (.cells #[u] 36)):=Kg hu1
   have HD:Hid _:=hdl
   clear hC hcell hIm hu hux hx hdl
   go_wp2_with fail
   have hXs:(wr.alloc (.cells #[u] 36)).heap.size=wr.heap.size+1:=by simp
   have hNX:NR W W (wr.alloc (.cells #[u] 36)) Im Im' 10 [] none 0 false false A' cap' (plL (xs.take k)):=HR.out.next (Az wr _) (fun _ _ q=>q) (fun _ _ q=>.inl q)
   refine ((IH.out x (List.mem_of_getElem? HX.out)).2.2 (wr.alloc (.cells #[u] 36)) #[.agg #[u]] Im' (HK.out.below hNX.f.below) hNX.f.im (by
    rw[DV.relL]
    refine ⟨_,[],rfl,?_,by rw[DV.relL]⟩
    rw[DV.rel]
    refine ⟨_,rfl,?_⟩
    rw[DV.relL]
    exact ⟨_,_,rfl,((Kp.of (Az wr _) HR.out.f.im (fun _ _ q=>q) (fun _ _ q=>.inl q)).rel HU).out,by rw[DV.relL]⟩)).mono ?_
   rintro e w1 ⟨r,y,rfl,rfl,hr,hb⟩
   generalize hI1:(fun b o=>Im' b o∨(wr.alloc (.cells #[u] 36)).heap.size≤b∧b<w1.heap.size)=I1 at hr
   obtain ⟨dk,dt,dA,dl,dc,dA2,dl2,dc2,dp,dq,rfl,hdr⟩:=a1f hr
   have hN1:=hNX.next (Im':=I1) hb (by intro b o q;rw[← hI1];exact .inl q) (by intro b o q;rw[← hI1] at q;exact q)
   have hN2:=hN1.next (Az w1 (.cells #[.int .i64 dk,.string dt,.slice dA dl dc,.slice dA2 dl2 dc2,.bool dp,.bool dq] 27)) (fun _ _ q=>q) (fun _ _ q=>.inl q)
   have hN3:=hN2.next (Az _ (.cells #[.int .i64 dk,.string dt,.slice dA dl dc,.slice dA2 dl2 dc2,.bool dp,.bool dq] 27)) (fun _ _ q=>q) (fun _ _ q=>.inl q)
   have c22:(w1.alloc (.cells #[.int .i64 dk,.string dt,.slice dA dl dc,.slice dA2 dl2 dc2,.bool dp,.bool dq] 27)).cell? ⟨W.heap.size+1+1,2,none⟩=some (.slice A' (plL (xs.take k)).length cap'):=Ap hN2.b2 rfl
   have HN3:Hid _:=hN3
   have c6:w1.cell? ⟨wr.heap.size,0,none⟩=some u:=Ap ((hb.block _ (by rw[hXs];omega)).trans (Cn wr _)) rfl
   have hdr3:Hid _:=(DV.relL_mono (fun _ _ q=>q) (fun b o q=>Bh (((Az w1 (.cells #[.int .i64 dk,.string dt,.slice dA dl dc,.slice dA2 dl2 dc2,.bool dp,.bool dq] 27)).trans ((Az _ (.cells #[.int .i64 dk,.string dt,.slice dA dl dc,.slice dA2 dl2 dc2,.bool dp,.bool dq] 27)).mono (Az w1 _).size)).block b (hN1.f.im b o q))) _ _ hdr.out)
   have hlx:(plL (xs.take k)).length≤1073741823:=by rw[HD.out];omega
   clear hNX hN1 hN2 hN3 hb hr hdr hI1
   go_wp2_with (at_builtin;go_loud (refine Ow _ rfl _ _ rfl (W0:=W) (d:=plV x) (ds:=plL (xs.take k)) (us:=[.int .i64 dk,.string dt,.slice dA dl dc,.slice dA2 dl2 dc2,.bool dp,.bool dq]) rfl HN3.out.f rfl (Lp _ _ _ _) hdr3.out (by simp[Value.oneCell']) hlx ?_))
   intro A3 cap3 w3 hF3 hb3 hs3 ho3
   have l2:=lt_of_block HN3.out.b2
   rw[Bo] at l2
   have q2:w3.heap[W.heap.size+1+1]? = _:=(hb3 _ l2 fun e=>(HN3.out.ne _ e).2 rfl).trans HN3.out.b2
   have c3:w3.cell? ⟨W.heap.size+1+1,2,none⟩=some (.slice A' (plL (xs.take k)).length cap'):=Ap q2 rfl
   have f3:w3.frozen? ⟨W.heap.size+1+1,2,none⟩=false:=Cb q2
   have HN4:Hid _:=HN3.out.store hF3 (by rw[Bo];exact hb3) (by rw[Bo];exact hs3) (by rw[Bo];exact ho3)
   clear hF3 hb3 hs3 ho3 q2 l2
   go_wp2_with fail
   go_roundg (xs.length-(k+1))
   case measure=>omega
   case rel =>
    refine ⟨k+1,I1,A3,cap3,by go_num,by omega,Nat.le_refl _,?_⟩
    rw[Nc HX.out]
    exact HN4.out
  ·have kz : ¬ (k:Int)<(xs.length:Int):=by omega
   have hkl:k=xs.length:=by omega
   subst hkl
   have HR2:=HR.out
   rw[List.take_length] at HR2
   clear HR
   have HR:Hid _:=HR2
   clear HR2
   have b1:=HR.out.b1
   have b2:=HR.out.b2
   have c1:=fun j v (h:(#[.int .i64 0,.string ⟨#[]⟩,.slice none 0 0,.slice none 0 0,.bool false,.bool false]:Array Value)[j]? = some v)=>Ap b1 h
   have c10:=c1 0 _ rfl
   have c11:=c1 1 _ rfl
   have c12:=c1 2 _ rfl
   have c13:=c1 3 _ rfl
   have c14:=c1 4 _ rfl
   have c15:=c1 5 _ rfl
   have d0:wr.cell? ⟨W.heap.size+1+1,0,none⟩=_:=Ap b2 rfl
   have d1:wr.cell? ⟨W.heap.size+1+1,1,none⟩=_:=Ap b2 rfl
   have d2:wr.cell? ⟨W.heap.size+1+1,2,none⟩=_:=Ap b2 rfl
   have d3:wr.cell? ⟨W.heap.size+1+1,3,none⟩=_:=Ap b2 rfl
   have d4:wr.cell? ⟨W.heap.size+1+1,4,none⟩=_:=Ap b2 rfl
   have d5:wr.cell? ⟨W.heap.size+1+1,5,none⟩=_:=Ap b2 rfl
   have f1 : ∀ j,wr.frozen? ⟨W.heap.size+1,j,none⟩=false:=fun j=>Cb b1
   clear b1 b2 c1
   go_wp2_with fail
   obtain ⟨hz,hz6⟩:=Qw HR.out.b1 (.int .i64 10) (.string ⟨#[]⟩) (.slice A' (plL xs).length cap') (.slice none 0 0) (.bool false) (.bool false)
   obtain ⟨wF,hwF⟩ : ∃ wF,wF=six wr (W.heap.size+1) (.int .i64 10) (.string ⟨#[]⟩) (.slice A' (plL xs).length cap') (.slice none 0 0) (.bool false) (.bool false):=⟨_,rfl⟩
   rw[← hwF] at hz
   have hwG:=hwF
   unfold six at hwG
   rw[← hwG]
   clear hwG
   have z:=fun j v (h:(#[.int .i64 10,.string ⟨#[]⟩,.slice A' (plL xs).length cap',.slice none 0 0,.bool false,.bool false]:Array Value)[j]? = some v)=>Ap hz h
   have z0:=z 0 _ rfl
   have z1:=z 1 _ rfl
   have z2:=z 2 _ rfl
   have z3:=z 3 _ rfl
   have z4:=z 4 _ rfl
   have z5:=z 5 _ rfl
   clear z
   refine bodyPost_ret (v:=.tuple #[.agg #[.int .i64 10,.string ⟨#[]⟩,.slice A' (plL xs).length cap',.slice none 0 0,.bool false,.bool false],.bool true]) (by simp[results,Tryz.results66,go_sem,z0,z1,z2,z3,z4,z5];try rfl) rfl ?_
   have:=a1y (I:=Im) HR.out rfl (fun b o h=>(HR.out.kp.old b o h)) hwF
   rw[show plV (.list xs)=.mk 10 [] (plL xs) [] false false by rw[plV]]
   exact ⟨_,rfl,this.1,this.2⟩
end Go.Proofs.YtfkfpkhgoijfdaaGreatDoor
