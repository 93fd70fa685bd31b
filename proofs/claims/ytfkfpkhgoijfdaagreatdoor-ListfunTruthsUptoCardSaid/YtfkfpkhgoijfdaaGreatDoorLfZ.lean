/- listfun.Put of a name that a context has not. Rows of plain data, of the callers' own. -/
import Derived.Test.YtfkfpkhgoijfdaaGreatDoorLfY
import Derived.Test.YtfkfpkhgoijfdaaGreatDoorVcK
namespace Go.Proofs.YtfkfpkhgoijfdaaGreatDoor
open Go.RowKit Go.Lib
set_option linter.unusedVariables false
set_option linter.unusedSimpArgs false
theorem a0d {W X:World} {Im:Nat→Nat→Prop} {vs:List Vl} {ys:List Value} (hB:Below W.heap.size W X) (hI : ∀ g o,Im g o→g<W.heap.size) (h:Cells Im X vs ys):Cells Im W vs ys:=h.mono (fun _ _ h=>h) fun b o k=>(Bf (hB.block b (hI b o k))).symm
theorem a03 {vs:List Vl} {v:Vl}:Aq vs ++ [.bx v.enc]=Aq (vs ++ [v]):=by simp[Ep]
def a04 (Im:Nat→Nat→Prop) (B g1 n1 c1 g2 n2 c2:Nat):Gh :=
 ⟨fun k=>B+k-4,fun b o=>Im b o∨(b=g1∧o<n1)∨(b=g2∧o<n2),fun _=>0,fun j=>if j=7 then some ⟨g1,n1,c1,9,1⟩ else if j=8 then some ⟨g2,n2,c2,36,1⟩ else none⟩
theorem b0i {l:L8} {ns:List L8} (h:l ∉ ns):Gt l ns = -1:=by rw[Gt,Lx.2 h]
theorem a2g {l:L8} {ns:List L8}:Ax ns ++ [.v (.string (tx l))]=Ax (ns ++ [l]):=by simp[Ax]
theorem b04 {W w:World} {Im:Nat→Nat→Prop} {a:Act} {ns:List L8} {vs:List Vl} {ys:List Value} {l:L8} {x:Vl} {q:Value} {g1 c1 g2 c2:Nat} (hKw:Kw W) (hI : ∀ g o,Im g o→g<W.heap.size) (hB:Below W.heap.size W w) (h1:0<ns.length) (h2:0<vs.length) (hne:g1≠g2) (hg1:W.heap.size+3≤g1) (hg2:W.heap.size+3≤g2)
  (hC:Cells Im W vs ys) (hq:RelH Im W (BV x) q) (hr1:w.ownsRow W.heap.size 9 1 (.slice (some ⟨g1,0,none⟩) ns.length c1) ns.length (ns.map fun l=>Value.string (tx l))) (hr2:w.ownsRow W.heap.size 36 1 (.slice (some ⟨g2,0,none⟩) vs.length c2) vs.length ys)
  (k5:w.heap[W.heap.size+1]? = some (.cells #[q] 36 (0,0))) (k6:w.heap[W.heap.size+2]? = some (.cells #[.nilIface] 36 (0,0)))
  (hd:a.defers=[]) (hz:a.tmps.size=40) (t1:a.tmps[1]? = some (.string (tx l))) (t5:a.tmps[5]? = some (.pointer (some ⟨W.heap.size+1,0,none⟩))) (t6:a.tmps[6]? = some (.pointer (some ⟨W.heap.size+2,0,none⟩))) (t7:a.tmps[7]? = some (.slice (some ⟨g1,0,none⟩) ns.length c1)) (t8:a.tmps[8]? = some (.slice (some ⟨g2,0,none⟩) vs.length c2)) (t9:a.tmps[9]? = some (.bool true)) :
  RelG W Im (a04 Im W.heap.size g1 ns.length c1 g2 vs.length c2) (mkS 40 [(1,.d (.v (.string (tx l)))),(5,.p 5 0),(6,.p 6 0),(7,.w (.sl ns.length (Ax ns)) (some ⟨7,0,9,1⟩)),(8,.w (.sl vs.length (Aq vs)) (some ⟨8,0,36,1⟩)),(9,.d (.v (.bool true)))] [(5,[BV x]),(6,[.v .nilIface])]) a w:=by
 obtain ⟨g1',c1',e1,_,O1,cur1,hk1,hs1⟩:=Mi hr1 h1
 cases e1
 obtain ⟨g2',c2',e2,_,O2,cur2,hk2,hs2⟩:=Mi hr2 h2
 cases e2
 have hc : ∀ b o,Im b o→w.cell? ⟨b,o,none⟩=W.cell? ⟨b,o,none⟩:=fun b o h=>Bf (hB.block b (hI b o h))
 have key : ∀ n cs,Fp [(5,[BV x]),(6,[DV.v .nilIface])] n=some cs→n=5∧cs=[BV x]∨n=6∧cs=[DV.v .nilIface]:=fun n cs h=>by
  have:=Jd h
  simp at this
  exact this
 have keyn : ∀ n,Fp [(5,[BV x]),(6,[DV.v .nilIface])] n≠none→n=5∨n=6:=fun n h=>by
  cases e:Fp [(5,[BV x]),(6,[DV.v .nilIface])] n with
  | none=>exact absurd e h
  | some cs=>exact (key n cs e).imp And.left And.left
 have himlt : ∀ b o,(a04 Im W.heap.size g1 ns.length c1 g2 vs.length c2).Im b o→b<W.heap.size∨b=g1∨b=g2:=fun b o h=>by
  rcases h with h | h | h
  ·exact .inl (hI b o h)
  ·exact .inr (.inl h.1)
  ·exact .inr (.inr h.1)
 have hm : ∀ j R,(a04 Im W.heap.size g1 ns.length c1 g2 vs.length c2).m j=some R→(j=7∧R=⟨g1,ns.length,c1,9,1⟩)∨(j=8∧R=⟨g2,vs.length,c2,36,1⟩):=fun j R h=>by
  simp only[a04] at h
  split at h
  ·rename_i e;exact .inl ⟨e,(Option.some.inj h).symm⟩
  ·split at h
   ·rename_i e;exact .inr ⟨e,(Option.some.inj h).symm⟩
   ·cases h
 have rn : ∀ g,W.heap.size+3≤g → ∀ n,Fp [(5,[BV x]),(6,[DV.v .nilIface])] n≠none→W.heap.size+n-4≠g:=fun g hg n hn=>by
  rcases keyn n hn with rfl | rfl<;>omega
 refine ⟨hd,hz,fun k v hk => ?_,fun n cs hn => ?_,fun n m hn hm' e => ?_,⟨fun k n o hk=>Kn rfl k n o hk,fun k v r hk => ?_⟩,fun m hm'=>Pq hm',fun b o h => ?_,fun b o h => ?_,hB,rfl,fun j R hj hlt => ?_,fun j j' R R' hj _ hj' _ e => ?_,hKw,fun j R hj hc' => ?_⟩
 ·refine AllT.get (g:=a04 Im W.heap.size g1 ns.length c1 g2 vs.length c2) (w:=w) (a:=a) ?_ (k,v) (Jd hk)
  refine ⟨⟨_,t1,by show DV.rel _ _ _ _;rw[DV.rel]⟩,⟨_,t5,rfl⟩,⟨_,t6,rfl⟩,⟨_,t7,?_,fun _=>.inr ⟨g1,ns.length,c1,rfl,rfl⟩⟩,⟨_,t8,?_,fun _=>.inr ⟨g2,vs.length,c2,rfl,rfl⟩⟩,⟨_,t9,by show DV.rel _ _ _ _;rw[DV.rel]⟩,trivial⟩
  ·rw[DV.rel]
   refine .inr ⟨g1,0,c1,rfl,O1.le,O1.max,DV.relC_mk fun j d hd => ?_⟩
   rw[Ax,List.getElem?_map] at hd
   cases hl:ns[j]? with
   | none=>rw[hl] at hd;cases hd
   | some n =>
    rw[hl] at hd
    cases hd
    have hj:=(List.getElem?_eq_some_iff.1 hl).1
    exact ⟨.inr (.inl ⟨rfl,by omega⟩),.string (tx n),by rw[Nat.zero_add];exact O1.cell j _ (by rw[List.getElem?_map,hl];rfl),by rw[DV.rel]⟩
  ·rw[DV.rel]
   refine .inr ⟨g2,0,c2,rfl,O2.le,O2.max,DV.relC_mk fun j d hd => ?_⟩
   rw[Ep,List.getElem?_map] at hd
   cases hv:vs[j]? with
   | none=>rw[hv] at hd;cases hd
   | some v =>
    rw[hv] at hd
    cases hd
    have hj:=(List.getElem?_eq_some_iff.1 hv).1
    obtain ⟨u,hu,hr⟩:=hC.rel j v hv
    exact ⟨.inr (.inr ⟨rfl,by omega⟩),u,by rw[Nat.zero_add];exact O2.cell j u hu,DV.rel_mono (fun _ _ h=>.inl h) hc _ _ hr⟩
 ·have hno : ∀ g,g<W.heap.size+3→W.heap.size≤g → ∀ o,¬ (a04 Im W.heap.size g1 ns.length c1 g2 vs.length c2).Im g o:=fun g h3 h4 o h=>by
   rcases himlt g o h with h | h | h<;>omega
  rcases key n cs hn with ⟨rfl,rfl⟩ | ⟨rfl,rfl⟩
  ·refine ⟨by show W.heap.size≤W.heap.size+5-4;omega,hno _ (by show W.heap.size+5-4<_;omega) (by show W.heap.size≤W.heap.size+5-4;omega),_,k5,.inl ⟨rfl,#[q],36,rfl,?_⟩⟩
   rw[DV.relL]
   exact ⟨q,[],rfl,DV.rel_mono (fun _ _ h=>.inl h) hc _ _ hq.out,by rw[DV.relL]⟩
  ·refine ⟨by show W.heap.size≤W.heap.size+6-4;omega,hno _ (by show W.heap.size+6-4<_;omega) (by show W.heap.size≤W.heap.size+6-4;omega),_,k6,.inl ⟨rfl,#[.nilIface],36,rfl,?_⟩⟩
   rw[DV.relL]
   exact ⟨_,[],rfl,by rw[DV.rel],by rw[DV.relL]⟩
 ·have e':W.heap.size+n-4=W.heap.size+m-4:=e
  have h5:=keyn n hn
  have h6:=keyn m hm'
  omega
 ·have:=Jd hk
  simp at this
  rcases this with ⟨rfl,rfl,rfl⟩ | ⟨rfl,rfl,rfl⟩<;>exact Nat.le_refl _
 ·have:=hB.size
  have:=O1.lt
  have:=O2.lt
  rcases himlt b o h with h | h | h<;>omega
 ·rcases h with h | h | h
  ·exact .inl h
  ·exact .inr (by omega)
  ·exact .inr (by omega)
 ·rcases hm j R hj with ⟨rfl,rfl⟩ | ⟨rfl,rfl⟩
  ·refine ⟨by show W.heap.size≤g1;omega,fun o ho h => ?_,fun n hn=>rn g1 hg1 n hn,O1.max,cur1,hk1,by rw[hs1];exact (Nat.mul_one _).symm⟩
   have ho':ns.length*1≤o:=ho
   rcases h with h | h | h
   ·have:g1<W.heap.size:=hI _ _ h
    omega
   ·omega
   ·exact hne h.1
  ·refine ⟨by show W.heap.size≤g2;omega,fun o ho h => ?_,fun n hn=>rn g2 hg2 n hn,O2.max,cur2,hk2,by rw[hs2];exact (Nat.mul_one _).symm⟩
   have ho':vs.length*1≤o:=ho
   rcases h with h | h | h
   ·have:g2<W.heap.size:=hI _ _ h
    omega
   ·exact hne h.1.symm
   ·omega
 ·rcases hm j R hj with ⟨rfl,rfl⟩ | ⟨rfl,rfl⟩<;>rcases hm j' R' hj' with ⟨rfl,rfl⟩ | ⟨rfl,rfl⟩
  ·rfl
  ·exact absurd e hne
  ·exact absurd e.symm hne
  ·rfl
 ·rcases hm j R hj with ⟨rfl,rfl⟩ | ⟨rfl,rfl⟩
  ·exact ⟨by show W.heap.size≤g1;omega,fun n hn=>rn g1 hg1 n hn,cur1,hk1⟩
  ·exact ⟨by show W.heap.size≤g2;omega,fun n hn=>rn g2 hg2 n hn,cur2,hk2⟩
set_option maxHeartbeats 4000000 in
set_option maxRecDepth 1000000 in
theorem b40 {ns:List L8} {vs:List Vl} {l:L8} {x:Vl} (h1:0<ns.length) (h2:0<vs.length) (hl1:ns.length≤1073741823) (hl2:vs.length≤1073741823) (hn:l ∉ ns) (hs : ∀ n ∈ ns ++ [l],n.length≤1073741824) :
  HasC Tryz.prog 34 [VV (.ctx ns vs),.v (.string (tx l)),VV x] (fun r=>r=VV (Jy (ns ++ [l]) (vs ++ [x]))):=by
 refine ⟨fun args w=>Tryz.call34 args w,⟨_,rfl⟩,fun W vs' Im hKw hIm hr => ?_⟩
 obtain ⟨y1,y2,y3,rfl,hy1,hy2,hy3⟩:=b54 hr
 obtain rfl:=Gk hy2
 obtain ⟨u,rfl,hu⟩:=Nx hy1
 obtain ⟨q,rfl,hq⟩:=Nx hy3
 have HU:RelH _ _ _ _:=⟨hu⟩
 have HQ:RelH _ _ _ _:=⟨hq⟩
 have HI:Hid _:=hIm
 have HK:Hid _:=hKw
 have HN:Hid (l ∉ ns):=hn
 have HS:Hid _:=hs
 clear hu hq hIm hKw hr hy1 hy2 hy3 hn hs
 go_enter Tryz.func34,Tryz.ntmps34
 go_wp2_with fail
 obtain ⟨X,hX⟩ : ∃ X,X=((W.alloc (.cells #[u] 36)).alloc (.cells #[q] 36)).alloc (.cells #[.nilIface] 36):=⟨_,rfl⟩
 have hBX:Hid (Below W.heap.size W X):=by rw[hX];exact Below.alloc (Jq W _ _) (by rw[Da];omega) _
 have hSX:X.heap.size=W.heap.size+3:=by rw[hX];simp
 have hK5:Hid (X.heap[W.heap.size+1]? = some (.cells #[q] 36 (0,0))):=by rw[hX];exact Oe (Wu W _ _)
 have hK6:Hid (X.heap[W.heap.size+2]? = some (.cells #[.nilIface] 36 (0,0))):=by rw[hX,show W.heap.size+2=((W.alloc (.cells #[u] 36)).alloc (.cells #[q] 36)).heap.size by simp];exact Dh _ _
 rw[← hX]
 clear hX
 refine (Or (X:=X) (Im:=Im) (fun b o h=>by have:=HI.out b o h;omega) h1 h2 (by omega) (by omega) ((Kp.of hBX.out HI.out (fun _ _ q=>q) (fun _ _ q=>.inl q)).rel HU)).mono ?_
 rintro e w1 ⟨⟨g1,c1,g2,c2,ys,rfl,hg1,hg2,hne,hC,hr1,hr2⟩,hb⟩
 have HC:Hid _:=hC
 have HR1:Hid _:=hr1
 have HR2:Hid _:=hr2
 have HB:Hid _:=hb
 clear hC hr1 hr2 hb
 rename_i K1 hK1 K0 hK0
 have HK1:Hid _:=hK1
 clear hK1
 refine hK0 _ _ ?_
 go_wp2_with fail
 refine HK1.out _ _ ?_
 have hX1:Below X.heap.size X w1:=HB.out
 have hr1:w1.ownsRow X.heap.size 9 1 (.slice (some ⟨g1,0,none⟩) ns.length c1) ns.length (ns.map fun l=>Value.string (tx l)):=HR1.out
 have hr2:w1.ownsRow X.heap.size 36 1 (.slice (some ⟨g2,0,none⟩) vs.length c2) vs.length ys:=HR2.out
 have hl:=HN.out
 have hs:=HS.out
 refine a9t [] (g:=a04 Im W.heap.size g1 ns.length c1 g2 vs.length c2) (s:=mkS 40 [(1,.d (Sv (tx l))),(5,.p 5 0),(6,.p 6 0),(7,.w (.sl ((ns).length) (Ax (ns))) (some ⟨7,0,9,1⟩)),(8,.w (.sl ((vs).length) (Aq (vs))) (some ⟨8,0,36,1⟩)),(9,Ba true)] [(5,[.bx (x).enc]),(6,[.v (.nilIface)])]) (by kernel_rfl) ?_ ?_
 ·exact b04 HK.out HI.out (hBX.out.trans (hX1.mono (by omega))) h1 h2 hne (by omega) (by omega) (a0d hBX.out HI.out HC.out) HQ (Cs hr1 (by omega)) (Cs hr2 (by omega)) ((hX1.block _ (by omega)).trans hK5.out) ((hX1.block _ (by omega)).trans hK6.out) rfl rfl rfl rfl rfl rfl rfl rfl
 refine Af (Aa rfl (iQ 1 (jU .not (.bool true) 18 ?_)))
 refine Al ((by simp)) ?_
 let Z1:=zT [(7,.w (.sl ((ns).length) (Ax (ns))) (some ⟨7,0,9,1⟩))] []
 let Z2:=zT [(8,.w (.sl ((vs).length) (Aq (vs))) (some ⟨8,0,36,1⟩))] []
 let Z3:=zT [(1,.d (Sv (tx l))),(5,.p 5 0),(6,.p 6 0),(18,Ba false)] []
 let Z4:=zT Z3 (zT Z2 Z1)
 refine iE 40 Z4 [(5,[.bx (x).enc]),(6,[.v (.nilIface)])] ?_
 refine iF (Ad (Ae (Af (Aa rfl (iQ 2 (eC 58 [.sl ((ns).length) (Ax (ns)),Sv (tx l)] 22 (Ps (l:=l) (ns:=ns) (by omega)) (iQ 1 (iE 40 (zT [(10,Ia (Gt l ns))] Z4) [(5,[.bx (x).enc]),(6,[.v (.nilIface)])] ?_))))))))
 refine Aa rfl (iQ 1 (jB .geq 3 (.int .i64 (Gt l ns)) (.int .i64 0) 24 ?_))
 refine Al ((by rw[b0i hl];decide)) ?_
 refine iE 40 (zT [(10,Ia (Gt l ns)),(24,Ba false)] Z4) [(5,[.bx (x).enc]),(6,[.v (.nilIface)])] ?_
 refine iF (Am rfl (iQ 3 (Fc (n:=((ns).length)) (cs:=(Ax (ns))) (m:=1) (ds:=[.v (.string (tx l))]) (N:=((ns ++ [l]).length)) (es:=(Ax (ns ++ [l]))) (j:=7) (e:=9) (z:=1) (dst:=(some 32)) (by kernel_rfl) (by first | rfl | omega | (rw[Nat.mul_one];exact Cl _) | (simp[dg];done) | (simp[dg];omega)) (by first | rfl | omega | (rw[Nat.mul_one];exact Cl _) | (simp[dg];done) | (simp[dg];omega)) (rfl) (by omega) (by simp) (a2g) ?_)))
 refine iQ 3 (Fc (n:=((vs).length)) (cs:=(Aq (vs))) (m:=1) (ds:=[.bx (x).enc]) (N:=((vs ++ [x]).length)) (es:=(Aq (vs ++ [x]))) (j:=8) (e:=36) (z:=1) (dst:=(some 36)) (by kernel_rfl) (by first | rfl | omega | (rw[Nat.mul_one];exact Cl _) | (simp[dg];done) | (simp[dg];omega)) (by first | rfl | omega | (rw[Nat.mul_one];exact Cl _) | (simp[dg];done) | (simp[dg];omega)) (rfl) (by omega) (by simp) (a03) ?_)
 refine iQ 2 ?_
 let Z5:=zT [(7,.w (.sl ((ns ++ [l]).length) (Ax (ns ++ [l]))) (some ⟨7,0,9,1⟩))] []
 let Z6:=zT [(8,.w (.sl ((vs ++ [x]).length) (Aq (vs ++ [x]))) (some ⟨8,0,36,1⟩))] []
 let Z7:=zT [(10,Ia (Gt l ns)),(24,Ba false)] (zT Z6 (zT Z5 Z3))
 refine iE 40 Z7 [(5,[.bx (x).enc]),(6,[.v (.nilIface)])] ?_
 refine Ae (Aa rfl (iQ 2 (eC 35 [.sl ((ns ++ [l]).length) (Ax (ns ++ [l])),.sl ((vs ++ [x]).length) (Aq (vs ++ [x]))] 39 (Hq (by simp;omega) hs) (iQ 1 ?_))))
 let Z8:=zH [(5,[.bx (x).enc]),(6,[.bx (Jy (ns ++ [l]) (vs ++ [x])).enc])] []
 refine iE 40 Z7 Z8 ?_
 refine Ab (iR (.agg [.bx (Jy (ns ++ [l]) (vs ++ [x])).enc]) ?_)
 rfl
open Go.RowKit Go.Lib
set_option linter.unusedVariables false
set_option linter.unusedSimpArgs false
theorem tDat : ∃ info z,Tryz.prog.info? 27=some info∧info.size=6∧info.zero=some z∧info.bytes=80∧z.cells.size=6:=by
 obtain ⟨⟨info,z,h1,h2,h3,h4,h5,_⟩,_⟩:=b5o
 exact ⟨info,z,h1,h2,h3,h5,by have:=congrArg List.length h4;simpa using this⟩
theorem a2a:Tryz.prog.underlying 22=some (.slice 27):=(Oo 22 ⟨.slice 27,1,[.sl 0 []],false,24⟩ (by kernel_rfl)).2.1
theorem a50 {Im:Nat→Nat→Prop} {W:World} {d:Dm} {y:Value} (h:DV.rel Im W (.agg d.cells) y) : ∃ k t A l c A2 l2 c2 p q,y=.agg #[.int .i64 k,.string t,.slice A l c,.slice A2 l2 c2,.bool p,.bool q]∧DV.relL Im W d.cells [.int .i64 k,.string t,.slice A l c,.slice A2 l2 c2,.bool p,.bool q]:=by
 cases d with
 | mk k t is ns p q =>
  rw[DV.rel] at h
  obtain ⟨us,rfl,h0⟩:=h
  have h:=h0
  rw[Dm.cells] at h
  simp only[DV.relL] at h
  obtain ⟨u1,_,e,h1,u2,_,rfl,h2,u3,_,rfl,h3,u4,_,rfl,h4,u5,_,rfl,h5,u6,_,rfl,h6,rfl⟩:=h
  obtain rfl:=Gk h1
  obtain rfl:=Gk h2
  obtain rfl:=Gk h5
  obtain rfl:=Gk h6
  obtain ⟨A,c,rfl⟩:=Jr h3
  obtain ⟨A2,c2,rfl⟩:=Jr h4
  refine ⟨_,_,_,_,_,_,_,_,_,_,by rw[show us=#[.int .i64 k,.string (tx t),.slice A is.length c,.slice A2 ns.length c2,.bool p,.bool q] from Array.ext' e],?_⟩
  rw[e] at h0
  exact h0
theorem a3b {w:World} {b:Nat} {e:TypeId} {z:Nat} {v:Value} {n:Nat} {xs:List Value} (h:w.ownsRow b e z v n xs) : ∃ A cap,v=.slice A n cap:=by
 rcases h.2 with ⟨h1,h2⟩ | ⟨g,cap,cur,h1,_⟩
 ·exact ⟨none,0,by rw[h1,h2]⟩
 ·exact ⟨_,_,h1⟩
structure FD (W0 w:World) (Im:Nat→Nat→Prop) (v:Value) (ds:List Dm):Prop where
 row : ∃ ys,w.ownsRow W0.heap.size 27 6 v ds.length ys∧DV.relL Im w (Ai ds) ys ∧ ∀ u ∈ ys,u.oneCell'=true
 im : ∀ b o,Im b o→b<w.heap.size
 own : ∀ b,v.ownBlock=some b → ∀ o,¬ Im b o
 below:Below W0.heap.size W0 w
theorem FD.lt {W0 w:World} {Im:Nat→Nat→Prop} {v:Value} {ds:List Dm} (h:FD W0 w Im v ds) {g:Nat} (hg:v.ownBlock=some g):g<w.heap.size:=by
 obtain ⟨⟨ys,h1,_⟩,_⟩:=h
 exact (h1.lt g hg).2
theorem FD.next {W0 w w':World} {Im Im':Nat→Nat→Prop} {v:Value} {ds:List Dm} (h:FD W0 w Im v ds) (hb:Below w.heap.size w w') (hi : ∀ b o,Im b o→Im' b o) (hn : ∀ b o,Im' b o→Im b o∨(w.heap.size≤b∧b<w'.heap.size)):FD W0 w' Im' v ds:=by
 obtain ⟨⟨ys,h1,h2,h6⟩,h3,h4,h5⟩:=h
 refine ⟨⟨ys,h1.kept (row:=none) ⟨hb.os,hb.tape,hb.output,hb.size,fun k hk _=>hb.block k hk⟩ (by cases hv:v.ownBlock<;>simp),DV.relL_mono hi (fun b o k=>Bf (hb.block b (h3 b o k))) _ _ h2,h6⟩,fun b o k => ?_,fun b k o q => ?_,h5.trans (hb.mono h5.size)⟩
 ·have:=hb.size
  rcases hn b o k with q | q
  ·have:=h3 b o q;omega
  ·exact q.2
 ·rcases hn b o q with q | q
  ·exact h4 b k o q
  ·have:=(h1.lt b k).2;omega
theorem FD.set {W0 w:World} {Im:Nat→Nat→Prop} {v:Value} {ds:List Dm} {c k:Nat} (h:FD W0 w Im v ds) (h1:W0.heap.size≤c) (h2 : ∀ o,¬ Im c o) (h3:v.ownBlock≠some c) (u:Value):FD W0 (w.setCell ⟨c,k,none⟩ u) Im v ds:=by
 obtain ⟨⟨ys,k1,k2,k3⟩,k4,k5,k6⟩:=h
 have hs:(w.setCell ⟨c,k,none⟩ u).heap.size=w.heap.size:=by simp[World.setCell]
 refine ⟨⟨ys,k1.kept (row:=some c) ⟨rfl,rfl,rfl,by rw[hs];exact Nat.le_refl _,fun j hj hn => ?_⟩ (.inr h3),DV.relL_mono (fun _ _ q=>q) (fun b o q=>World.cell?_setCell_other w ⟨c,k,none⟩ ⟨b,o,none⟩ u fun e => ?_) _ _ k2,k3⟩,fun b o q=>by rw[hs];exact k4 b o q,k5,k6.setCell h1 _⟩
 ·have:j≠c:=fun e=>hn (by rw[e])
  simp[World.setCell,Array.getElem?_modify,Ne.symm this]
 ·injection e with e1
  exact h2 o (e1 ▸ q)
theorem Gp : ∀ (ds:List Dm) (d:Dm),Ai (ds ++ [d])=Ai ds ++ d.cells
 | [],d=>by simp[Ai]
 | e::ds,d=>by rw[List.cons_append,Ai,Gp ds d,Ai,List.append_assoc]
set_option maxHeartbeats 1000000 in
theorem a24 {ops:Array Oper} {rest:List Oper} {o:Oper} {a:Act} {Q:Exit→Act→World→Prop} (w:World) (hgd:o.guard=none) (s x:Operand)
  (ho:o.op=.call { callee:=.builtin .append,args:=#[s,x],argTypes:=#[22,22] }) {W0:World} {Im:Nat→Nat→Prop} {v:Value} {ds:List Dm} {d:Dm} {us:List Value} {c:Nat} (hs:a.eval s=v) (hF:FD W0 w Im v ds) (hx:a.eval x=.slice (some ⟨c,0,none⟩) 1 1) (hc : ∀ (j:Nat) (q:Value),us[j]? = some q→w.cell? ⟨c,j,none⟩=some q)
  (hu:DV.relL Im w d.cells us) (hone : ∀ u ∈ us,u.oneCell'=true) (hl:ds.length≤1073741823)
  (h : ∀ A cap w',FD W0 w' Im (.slice A (ds.length+1) cap) (ds ++ [d])→(∀ b,b<w.heap.size→v.ownBlock≠some b→w'.heap[b]? = w.heap[b]?)→w.heap.size≤w'.heap.size→(∀ g,(Value.slice A (ds.length+1) cap).ownBlock=some g→v.ownBlock=some g∨w.heap.size≤g)→wpList Tryz.prog ops Q rest (a.put o.dst (.slice A (ds.length+1) cap)) w'):wpList Tryz.prog ops Q (o::rest) a w:=by
 obtain ⟨info,z,i1,i2,i3,i4,i5⟩:=tDat
 obtain ⟨⟨ys,hrow,hrel,hys⟩,him,hown,hbel⟩:=hF
 have hul:us.length=6:=by rw[DV.relL_length hu,Hf]
 have hnew : ∀ (j:Nat) (q:Value),us[j]? = some q→w.cell? ((⟨c,0,none⟩:Addr).add j)=some q:=fun j q hj=>by
  rw[Addr.add_lit,Nat.zero_add]
  exact hc j q hj
 have hlen:(ds ++ [d]).length=ds.length+1:=by simp
 have hone' : ∀ u ∈ ys ++ us,u.oneCell'=true:=fun u hu=>(List.mem_append.1 hu).elim (hys u) (hone u)
 have grown : ∀ v' w',w'.ownsRow w.heap.size 27 6 v' (ds.length+1) (ys ++ us)→w.grownBy w' none→wpList Tryz.prog ops Q rest (a.put o.dst v') w':=fun v' w' h1 h2=>by
  have hcell : ∀ b o,Im b o→w'.cell? ⟨b,o,none⟩=w.cell? ⟨b,o,none⟩:=fun b o k=>Bf (h2.block b (him b o k) (by simp))
  obtain ⟨A,cap,rfl⟩:=a3b h1
  refine h A cap w' ⟨⟨ys ++ us,by rw[hlen];exact Cs h1 hbel.size,by rw[Gp];exact DV.relL_mono (fun _ _ k=>k) hcell _ _ (DV.relL_append hrel hu),hone'⟩,fun b o k=>Nat.lt_of_lt_of_le (him b o k) h2.size,fun b k o q => ?_,hbel.grown h2 hbel.size (fun k hk=>by cases hk)⟩ (fun b hb _=>h2.block b hb (by simp)) h2.size (fun g hg=>.inr (h1.lt g hg).1)
  have:=(h1.lt b k).1
  have:=him b o q
  omega
 rcases hrow.2 with ⟨hv,h0⟩ | ⟨g,cap,cur,hv,hb,hg,hn,hm,hsz,ht⟩
 ·subst hv
  have hys0:ys=[]:=List.eq_nil_of_length_eq_zero (by rw[hrow.1,h0])
  exact wpList_append_grows w hgd s x 22 ho 27 info z 6 80 a2a i1 i3 i2 i4 i5 (by decide) none 0 0 [] hs (fun _=>⟨rfl,rfl⟩) rfl (fun b hb=>by cases hb) ⟨c,0,none⟩ 1 1 us hx (by omega) hnew hone (by decide) (by decide) (by decide) (fun v' w' k1 k2=>grown v' w' (by rw[h0,hys0];exact k1) k2)
 ·subst hv
  have hz:ys.length=ds.length*6:=hrow.1
  have hcg : ∀ (j:Nat) (q:Value),ys[j]? = some q→w.cell? ⟨g,0+j,none⟩=some q:=fun j q hj=>by
   rw[← ht,List.getElem?_take] at hj
   split at hj
   ·rw[Nat.zero_add]
    exact Bh hg (by simpa using hj)
   ·cases hj
  have hsp:ds.length+1≤cap → ∀ j,j<us.length→(w.cell? ⟨g,0+ds.length*6+j,none⟩).isSome=true∧w.frozen? ⟨g,0+ds.length*6+j,none⟩=false:=fun hr j hj=>by
   refine ⟨?_,Fb hg⟩
   have hlt:0+ds.length*6+j<cur.size:=by omega
   rw[Bh hg (Array.getElem?_eq_getElem hlt)]
   rfl
  refine wpList_append_arg w hgd s x 22 ho 27 info z 6 80 a2a i1 i3 i2 i4 i5 (by decide) g 0 ds.length cap ys hs hrow.1 hcg ⟨c,0,none⟩ 1 1 us hx (by omega) hnew hone hsp (by unfold maxLen;omega) (by omega) (fun hr => ?_) (fun _=>grown)
  have hrun:=run_append_room_cells (P:=Tryz.prog) w 22 o.type 27 info a2a i1 g 0 ds.length cap ⟨c,0,none⟩ 1 1 us (by rw[i2];omega) hnew hone hr (by rw[i2];exact fun j hj=>(hsp hr j hj).1) (by rw[i2];exact fun j hj=>(hsp hr j hj).2)
  rw[i2] at hrun
  obtain ⟨v2,w2,k1,k2,k3,_⟩:=run_append_own (P:=Tryz.prog) w W0.heap.size 22 o.type 27 info z 6 80 a2a i1 i3 i2 i4 i5 (by decide) _ ds.length ys hrow ⟨c,0,none⟩ 1 1 us (by omega) hnew hone (by unfold maxLen;omega) (by omega) hbel.size
  rw[hrun] at k1
  cases k1
  have hcell : ∀ b o,Im b o→(w.setCells g (0+ds.length*6) us).cell? ⟨b,o,none⟩=w.cell? ⟨b,o,none⟩:=fun b o k=>Bf (k3.block b (him b o k) (by
   intro e
   exact hown b e.symm o k))
  refine h _ _ _ ⟨⟨ys ++ us,by rw[hlen];exact k2,by rw[Gp];exact DV.relL_mono (fun _ _ k=>k) hcell _ _ (DV.relL_append hrel hu),hone'⟩,fun b o k=>Nat.lt_of_lt_of_le (him b o k) k3.size,fun b k o q=>hown b k o q,hbel.grown k3 hbel.size (fun k hk => ?_)⟩ (fun b hb hn=>k3.block b hb (fun e=>hn e.symm)) k3.size (fun g' hg'=>.inl hg')
  cases hk
  exact hb
end Go.Proofs.YtfkfpkhgoijfdaaGreatDoor
