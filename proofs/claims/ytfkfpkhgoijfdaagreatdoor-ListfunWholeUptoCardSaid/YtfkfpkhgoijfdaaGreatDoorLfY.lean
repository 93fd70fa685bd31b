/- listfun.flat: a row of the callers' own that grows. listfun.Flatten. value.AsContext of a context: rows of the callers' own. -/
import Derived.Test.YtfkfpkhgoijfdaaGreatDoorLfX
import Derived.Deep.LoopGhost
import Derived.Deep.RegionHeld3
namespace Go.Proofs.YtfkfpkhgoijfdaaGreatDoor
open Go.RowKit Go.Lib
set_option linter.unusedVariables false
set_option linter.unusedSimpArgs false
mutual
def Ch:Vl→List Vl
 | .list xs=>Bm xs
 | v=>[v]
def Bm:List Vl→List Vl
 | []=>[]
 | v::r=>Ch v ++ Bm r
end
theorem Og : ∀ (a b:List Vl),Bm (a ++ b)=Bm a ++ Bm b
 | [],b=>by simp[Bm]
 | v::a,b=>by rw[List.cons_append,Bm,Bm,Og a b,List.append_assoc]
theorem Rc {ws:List Vl} {k:Nat} {x:Vl} (h:ws[k]? = some x):Bm (ws.take (k+1))=Bm (ws.take k) ++ Ch x:=by
 rw[List.take_add_one,h,Og]
 simp[Bm]
theorem a0z {ws:List Vl} (k:Nat):(Bm (ws.take k)).length≤(Bm ws).length:=by
 conv=>rhs;rw[← List.take_append_drop k ws,Og,List.length_append]
 omega
theorem Ct {x:Vl} (h:Iu x=none):Ch x=[x]:=by
 cases x<;>first | rfl | cases h
structure FR (W0 w:World) (Im:Nat→Nat→Prop) (v:Value) (vs:List Vl):Prop where
 row : ∃ ys,w.ownsRow W0.heap.size 36 1 v vs.length ys∧Cells Im w vs ys
 im : ∀ b o,Im b o→b<w.heap.size
 own : ∀ b,v.ownBlock=some b → ∀ o,¬ Im b o
 below:Below W0.heap.size W0 w
theorem FR.next {W0 w w':World} {Im Im':Nat→Nat→Prop} {v:Value} {vs:List Vl} (h:FR W0 w Im v vs) (hb:Below w.heap.size w w') (hi : ∀ b o,Im b o→Im' b o) (hn : ∀ b o,Im' b o→Im b o∨(w.heap.size≤b∧b<w'.heap.size)):FR W0 w' Im' v vs:=by
 obtain ⟨⟨ys,h1,h2⟩,h3,h4,h5⟩:=h
 refine ⟨⟨ys,h1.kept (row:=none) ⟨hb.os,hb.tape,hb.output,hb.size,fun k hk _=>hb.block k hk⟩ (by cases hv:v.ownBlock<;>simp),h2.mono hi fun b o k=>Bh (hb.block b (h3 b o k))⟩,fun b o k => ?_,fun b k o q => ?_,h5.trans (hb.mono h5.size)⟩
 ·have:=hb.size
  rcases hn b o k with q | q
  ·have:=h3 b o q;omega
  ·exact q.2
 ·rcases hn b o q with q | q
  ·exact h4 b k o q
  ·have:=(h1.lt b k).2;omega
structure Kp (Im:Nat→Nat→Prop) (w:World) (Im':Nat→Nat→Prop) (w':World):Prop where
 im : ∀ b o,Im b o→Im' b o
 cell : ∀ b o,Im b o→w'.cell? ⟨b,o,none⟩=w.cell? ⟨b,o,none⟩
 size:w.heap.size≤w'.heap.size
 old : ∀ b o,Im' b o→Im b o∨w.heap.size≤b
theorem Kp.refl (Im:Nat→Nat→Prop) (w:World):Kp Im w Im w:=⟨fun _ _ h=>h,fun _ _ _=>rfl,Nat.le_refl _,fun _ _ h=>.inl h⟩
theorem Kp.trans {I J K:Nat→Nat→Prop} {a b c:World} (h:Kp I a J b) (k:Kp J b K c):Kp I a K c :=
 ⟨fun x y q=>k.im x y (h.im x y q),fun x y q=>(k.cell x y (h.im x y q)).trans (h.cell x y q),Nat.le_trans h.size k.size,fun x y q=>(k.old x y q).elim (h.old x y) fun q=>.inr (Nat.le_trans h.size q)⟩
theorem Kp.rel {I J:Nat→Nat→Prop} {a b:World} {d:DV} {y:Value} (h:Kp I a J b) (k:RelH I a d y):RelH J b d y:=⟨DV.rel_mono h.im h.cell _ _ k.out⟩
theorem Kp.of {I J:Nat→Nat→Prop} {a b:World} (hb:Below a.heap.size a b) (hI : ∀ x y,I x y→x<a.heap.size) (hi : ∀ x y,I x y→J x y) (ho : ∀ x y,J x y→I x y∨a.heap.size≤x):Kp I a J b:=⟨hi,fun x y q=>Bh (hb.block x (hI x y q)),hb.size,ho⟩
structure FlatR (W0 w:World) (Im:Nat→Nat→Prop) (zs:List Vl) (e:Ending) (w':World):Prop where
 h : ∃ v' Im',e=.returned v'∧FR W0 w' Im' v' zs∧Kp Im w Im' w'
theorem We {W0 X:World} {Im:Nat→Nat→Prop} {x:Vl} {u:Value} (hK:Kw W0) (hB:Below W0.heap.size W0 X) (hI : ∀ b o,Im b o→b<X.heap.size) (hu:RelH Im X (BV x) u) (ox:x.ok) :
  Calls Tryz.prog 41 #[.agg #[u]] X fun e w' => ∃ l ok,e=.returned (.tuple #[l,.bool ok])∧Hid (Below X.heap.size X w') ∧
   ((ok=true ∧ ∃ xs,x=.list xs∧RelH (fun b o=>Im b o∨(X.heap.size≤b∧b<w'.heap.size)) w' (.sl xs.length (An xs)) l)∨(ok=false∧Iu x=none)):=by
 have hr:DV.relL Im X [VV x] [.agg #[u]]:=by
  rw[DV.relL]
  refine ⟨_,[],rfl,?_,by rw[DV.relL]⟩
  rw[DV.rel]
  refine ⟨_,rfl,?_⟩
  rw[DV.relL]
  exact ⟨_,_,rfl,hu.out,by rw[DV.relL]⟩
 cases hl:Iu x with
 | none =>
  refine ((On hl).2.2 X #[.agg #[u]] Im (hK.below hB) hI hr).mono ?_
  rintro e w' ⟨r,y,rfl,rfl,h,hb⟩
  rw[DV.rel] at h
  obtain ⟨us,rfl,h⟩:=h
  rw[DV.relL] at h
  obtain ⟨l,r1,e1,h1,h⟩:=h
  rw[DV.relL] at h
  obtain ⟨q,r2,rfl,h2,h⟩:=h
  rw[DV.relL] at h
  subst h
  rw[DV.rel] at h2
  subst h2
  exact ⟨l,false,by rw[show us=#[l,.bool false] from Array.ext' e1],hb,.inr ⟨rfl,rfl⟩⟩
 | some xs =>
  have hx:x=.list xs:=by cases x<;>simp[Iu] at hl<;>rw[hl]
  subst hx
  rw[Vl.ok] at ox
  refine ((Ud rfl ox.1).2.2 X #[.agg #[u]] Im (hK.below hB) hI hr).mono ?_
  rintro e w' ⟨r,y,rfl,rfl,h,hb⟩
  rw[DV.rel] at h
  obtain ⟨us,rfl,h⟩:=h
  rw[DV.relL] at h
  obtain ⟨l,r1,e1,h1,h⟩:=h
  rw[DV.relL] at h
  obtain ⟨q,r2,rfl,h2,h⟩:=h
  rw[DV.relL] at h
  subst h
  rw[DV.rel] at h2
  subst h2
  exact ⟨l,true,by rw[show us=#[l,.bool true] from Array.ext' e1],hb,.inl ⟨rfl,xs,rfl,⟨h1⟩⟩⟩
theorem Kg {w:World} {v0 u:Value} {T:TypeId} (h:u.oneCell'=true):(store ⟨w.heap.size,0,none⟩ u).run Tryz.prog (w.alloc (.cells #[v0] T))=.ok () (w.alloc (.cells #[u] T)):=by
 rw[Is (Ap (Cn w _) rfl) (Cb (Cn w _)) h,World.setCell_alloc_at (w:=w) _ _ _ _ _ rfl]
 rfl
theorem Cells.snoc {Im:Nat→Nat→Prop} {W:World} {vs:List Vl} {ys:List Value} {x:Vl} {u:Value} (h:Cells Im W vs ys) (hx:DV.rel Im W (BV x) u) (h1:u.oneCell'=true):Cells Im W (vs ++ [x]) (ys ++ [u]):=by
 refine ⟨by simp[h.len],fun j v hj => ?_,fun w hw => ?_⟩
 ·rcases Nat.lt_or_ge j vs.length with q | q
  ·rw[List.getElem?_append_left q] at hj
   obtain ⟨w,h2,h3⟩:=h.rel j v hj
   exact ⟨w,by rw[List.getElem?_append_left (by rw[h.len];exact q)];exact h2,h3⟩
  ·rw[List.getElem?_append_right q] at hj
   have:j=vs.length:=by
    have:=(List.getElem?_eq_some_iff.1 hj).1
    simp at this
    omega
   subst this
   simp at hj
   subst hj
   exact ⟨u,by rw[← h.len,List.getElem?_append_right (Nat.le_refl _)];simp,hx⟩
 ·rcases List.mem_append.1 hw with q | q
  ·exact h.one w q
  ·rw[List.mem_singleton.1 q];exact h1
theorem a56 {ops:Array Oper} {rest:List Oper} {o:Oper} {a:Act} {Q:Exit→Act→World→Prop} (w:World) (hgd:o.guard=none) (s x:Operand)
  (ho:o.op=.call { callee:=.builtin .append,args:=#[s,x],argTypes:=#[30,30] }) {W0:World} {Im:Nat→Nat→Prop} {v u:Value} {zs:List Vl} {xv:Vl} {c:Nat} (hs:a.eval s=v) (hF:FR W0 w Im v zs) (hx:a.eval x=.slice (some ⟨c,0,none⟩) 1 1) (hc:w.cell? ⟨c,0,none⟩=some u)
  (hu:RelH Im w (BV xv) u) (hl:zs.length≤1073741823) (h : ∀ v' w',FR W0 w' Im v' (zs ++ [xv])→Kp Im w Im w'→wpList Tryz.prog ops Q rest (a.put o.dst v') w'):wpList Tryz.prog ops Q (o::rest) a w:=by
 obtain ⟨info,z,i1,i2,i3,i4,i5⟩:=b1h
 obtain ⟨⟨ys,hrow,hcells⟩,him,hown,hbel⟩:=hF
 have hu1:u.oneCell'=true:=by have:=hu.out;rw[DV.rel] at this;exact this.1
 have hnew : ∀ (j:Nat) (q:Value),[u][j]? = some q→w.cell? ((⟨c,0,none⟩:Addr).add j)=some q:=fun j q hj=>by
  rw[Addr.add_lit]
  cases j with
  | zero=>cases hj;exact hc
  | succ j=>simp at hj
 have hone : ∀ q ∈ [u],q.oneCell'=true:=fun q hq=>by rw[List.mem_singleton.1 hq];exact hu1
 have hlen:(zs ++ [xv]).length=zs.length+1:=by simp
 have grown : ∀ v' w',w'.ownsRow w.heap.size 36 1 v' (zs.length+1) (ys ++ [u])→w.grownBy w' none→wpList Tryz.prog ops Q rest (a.put o.dst v') w':=fun v' w' h1 h2=>by
  have hcell : ∀ b o,Im b o→w'.cell? ⟨b,o,none⟩=w.cell? ⟨b,o,none⟩:=fun b o k=>Bh (h2.block b (him b o k) (by simp))
  refine h v' w' ⟨⟨ys ++ [u],by rw[hlen];exact Db h1 hbel.size,(hcells.mono (fun _ _ k=>k) hcell).snoc (DV.rel_mono (fun _ _ k=>k) hcell _ _ hu.out) hu1⟩,fun b o k=>Nat.lt_of_lt_of_le (him b o k) h2.size,fun b k o q => ?_,hbel.grown h2 hbel.size (fun k hk=>by cases hk)⟩ ⟨fun _ _ k=>k,hcell,h2.size,fun _ _ k=>.inl k⟩
  have:=(h1.lt b k).1
  have:=him b o q
  omega
 rcases hrow.2 with ⟨hv,h0⟩ | ⟨g,cap,cur,hv,hb,hg,hn,hm,hsz,ht⟩
 ·subst hv
  have hys:ys=[]:=List.eq_nil_of_length_eq_zero (by rw[hrow.1,h0])
  exact wpList_append_grows w hgd s x 30 ho 36 info z 1 16 Hn i1 i3 i2 i4 i5 (by decide) none 0 0 [] hs (fun _=>⟨rfl,rfl⟩) rfl (fun b hb=>by cases hb) ⟨c,0,none⟩ 1 1 [u] hx rfl hnew hone (by decide) (by decide) (by decide) (fun v' w' k1 k2=>grown v' w' (by rw[h0,hys];exact k1) k2)
 ·subst hv
  have hz:ys.length=zs.length:=by rw[hrow.1,Nat.mul_one]
  rw[Nat.mul_one] at hsz ht
  have hcg : ∀ (j:Nat) (q:Value),ys[j]? = some q→w.cell? ⟨g,0+j,none⟩=some q:=fun j q hj=>by
   rw[← ht,List.getElem?_take] at hj
   split at hj
   ·rw[Nat.zero_add]
    exact Ap hg (by simpa using hj)
   ·cases hj
  have hsp:zs.length+1≤cap → ∀ j,j<[u].length→(w.cell? ⟨g,0+zs.length*1+j,none⟩).isSome=true∧w.frozen? ⟨g,0+zs.length*1+j,none⟩=false:=fun hr j hj=>by
   have hj0:j=0:=by simpa using hj
   subst hj0
   refine ⟨?_,Cb hg⟩
   have hlt:0+zs.length*1+0<cur.size:=by omega
   rw[Ap hg (Array.getElem?_eq_getElem hlt)]
   rfl
  refine wpList_append_arg w hgd s x 30 ho 36 info z 1 16 Hn i1 i3 i2 i4 i5 (by decide) g 0 zs.length cap ys hs hrow.1 hcg ⟨c,0,none⟩ 1 1 [u] hx rfl hnew hone hsp (by unfold maxLen;omega) (by omega) (fun hr => ?_) (fun _=>grown)
  have hrun:=run_append_room_cells (P:=Tryz.prog) w 30 o.type 36 info Hn i1 g 0 zs.length cap ⟨c,0,none⟩ 1 1 [u] (by rw[i2];rfl) hnew hone hr (by rw[i2];exact fun j hj=>(hsp hr j hj).1) (by rw[i2];exact fun j hj=>(hsp hr j hj).2)
  rw[i2] at hrun
  obtain ⟨v2,w2,k1,k2,k3,_⟩:=run_append_own (P:=Tryz.prog) w W0.heap.size 30 o.type 36 info z 1 16 Hn i1 i3 i2 i4 i5 (by decide) _ zs.length ys hrow ⟨c,0,none⟩ 1 1 [u] rfl hnew hone (by unfold maxLen;omega) (by omega) hbel.size
  rw[hrun] at k1
  cases k1
  have hcell : ∀ b o,Im b o→(w.setCells g (0+zs.length*1) [u]).cell? ⟨b,o,none⟩=w.cell? ⟨b,o,none⟩:=fun b o k=>Bh (k3.block b (him b o k) (by
   intro e
   exact hown b e.symm o k))
  refine h _ _ ⟨⟨ys ++ [u],by rw[hlen];exact k2,(hcells.mono (fun _ _ k=>k) hcell).snoc (DV.rel_mono (fun _ _ k=>k) hcell _ _ hu.out) hu1⟩,fun b o k=>Nat.lt_of_lt_of_le (him b o k) k3.size,fun b k o q=>hown b k o q,hbel.grown k3 hbel.size (fun k hk => ?_)⟩ ⟨fun _ _ k=>k,hcell,k3.size,fun _ _ k=>.inl k⟩
  cases hk
  exact hb
set_option maxHeartbeats 4000000 in
set_option maxRecDepth 1000000 in
theorem a11 (N:Nat) : ∀ {W0 w:World} {Im:Nat→Nat→Prop} {v y:Value} {vs ws:List Vl},SizeOf.sizeOf ws<N→okL ws→ws.length≤1073741824→(vs ++ Bm ws).length≤1073741824→Kw W0→FR W0 w Im v vs→RelH Im w (.sl ws.length (An ws)) y →
  Calls Tryz.prog 45 #[v,y] w (FlatR W0 w Im (vs ++ Bm ws)):=by
 induction N with
 | zero=>intro W0 w Im v y vs ws h;omega
 | succ N ih =>
  intro W0 w Im v y vs ws hsz hok hln hlen hK hF hy
  obtain ⟨A,cap,rfl⟩:=Fj hy.out
  have HK:Hid _:=hK
  have IH:Aside _ := @ih
  have HOK:Hid _:=hok
  clear ih hK hok
  go_enter Tryz.func45,Tryz.ntmps45
  go_wp2_with fail
  have HF:Hid _:=hF
  have HY:Hid _:=hy
  clear hF hy
  go_loopg [0,11] ws.length (fun g s0 s11 wr => ∃ (k:Nat) (Im':Nat→Nat→Prop),s11=.int .i64 k∧k≤ws.length∧ws.length-k≤g∧Hid (FR W0 wr Im' s0 (vs ++ Bm (ws.take k))∧Kp Im w Im' wr))
  case atStart=>exact ⟨0,Im,rfl,Nat.zero_le _,Nat.le_refl _,by simpa [Bm] using HF.out,Kp.refl _ _⟩
  case round =>
   obtain ⟨k,Im',rfl,hk,hg,HR⟩:=hrel
   by_cases hlt:k<ws.length
   ·obtain ⟨b,o,ys,rfl,hC,hcell,hIm⟩:=Gn HY.out.out (by omega)
    obtain ⟨x,hx⟩ : ∃ x,ws[k]? = some x:=⟨_,List.getElem?_eq_getElem hlt⟩
    obtain ⟨u,hu,hux⟩:=hC.rel k x hx
    have c1:wr.cell? ⟨b,o+k,none⟩=some u:=(HR.out.2.cell b (o+k) (hIm k hlt)).trans (hcell k u hu)
    have hu1:u.oneCell'=true:=hC.one u (List.mem_of_getElem? hu)
    have HU:RelH Im' wr (BV x) u:=HR.out.2.rel ⟨hux⟩
    have HX:Hid _:=hx
    have kz:(k:Int)<(ws.length:Int):=by omega
    have hst:(store ⟨wr.heap.size,0,none⟩ u).run Tryz.prog (wr.alloc (.cells #[.nilIface] 36))=.ok () (wr.alloc (.cells #[u] 36)):=Kg hu1
    have ox:x.ok:=Dh.1 HOK.out x (List.mem_of_getElem? hx)
    clear hC hcell hIm hu hux hx
    go_wp2_with fail
    have hBX:Below W0.heap.size W0 (wr.alloc (.cells #[u] 36)):=HR.out.1.below.trans ((Az wr _).mono HR.out.1.below.size)
    refine (We HK.out hBX (fun b o q=>Nat.lt_of_lt_of_le (HR.out.1.im b o q) (Az wr _).size) ((Kp.of (Az wr _) HR.out.1.im (fun _ _ q=>q) (fun _ _ q=>.inl q)).rel HU) ox).mono ?_
    rintro e w1 ⟨l,ok,rfl,hb1,hcase⟩
    have hXs:(wr.alloc (.cells #[u] 36)).heap.size=wr.heap.size+1:=by simp
    have hb01:Hid (Below wr.heap.size wr w1):=(Az wr _).trans (hb1.out.mono (by rw[hXs];omega))
    have q6:w1.heap[wr.heap.size]? = some (.cells #[u] 36 (0,0)):=(hb1.out.block _ (by rw[hXs];omega)).trans (Cn wr _)
    have c6:w1.cell? ⟨wr.heap.size,0,none⟩=some u:=Ap q6 rfl
    have HQ6:Hid _:=q6
    have s1:=hb1.out.size
    rw[hXs] at s1
    clear q6 hBX
    rcases hcase with ⟨rfl,xs,hxs,hl⟩ | ⟨rfl,hno⟩
    ·have HXS:Hid _:=hxs
     clear hxs
     go_wp2_with fail
     have hF1:FR W0 w1 (fun b o=>Im' b o∨((wr.alloc (.cells #[u] 36)).heap.size≤b∧b<w1.heap.size)) u0 (vs ++ Bm (ws.take k)):=HR.out.1.next hb01.out (fun _ _ q=>.inl q) (fun b o q=>q.imp id fun q=>⟨by rw[hXs] at q;omega,q.2⟩)
     have hm:Vl.list xs ∈ ws:=by rw[← HXS.out];exact List.mem_of_getElem? HX.out
     have hsx:SizeOf.sizeOf xs<N:=by
      have:=List.sizeOf_lt_of_mem hm
      simp at this
      omega
     have oxs:=Dh.1 HOK.out _ hm
     rw[Vl.ok] at oxs
     have e1:Bm (ws.take (k+1))=Bm (ws.take k) ++ Bm xs:=by
      have:=Rc HX.out
      rw[HXS.out] at this
      rw[this]
      simp[Ch]
     have e2:=a0z (ws:=ws) (k+1)
     rw[e1] at e2
     refine (IH.out hsx oxs.2 oxs.1 (by simp at hlen e2 ⊢;omega) HK.out hF1 hl).mono ?_
     rintro e w2 ⟨v',Im2,rfl,hF2,hK2⟩
     have HF2:Hid _:=And.intro hF2 hK2
     have HE:Hid _:=e1
     clear hF1 e1 e2 hF2 hK2 hm oxs
     go_wp2_with fail
     go_roundg (ws.length-(k+1))
     case measure=>omega
     case rel =>
      refine ⟨k+1,Im2,by go_num,by omega,Nat.le_refl _,?_,?_⟩
      ·rw[HE.out,← List.append_assoc]
       exact HF2.out.1
      ·exact HR.out.2.trans ((Kp.of hb01.out HR.out.1.im (fun _ _ q=>.inl q) (fun b o q=>q.imp id fun q=>by rw[hXs] at q;omega)).trans HF2.out.2)
    ·have HNO:Hid _:=hno
     clear hno
     have hbX:Below wr.heap.size wr (w1.alloc (.cells #[u] 36)):=hb01.out.trans ((Az w1 _).mono (by omega))
     have HFX:Hid (FR W0 (w1.alloc (.cells #[u] 36)) Im' u0 (vs ++ Bm (ws.take k))):=HR.out.1.next hbX (fun _ _ q=>q) (fun _ _ q=>.inl q)
     have HUX:RelH Im' (w1.alloc (.cells #[u] 36)) (BV x) u:=(Kp.of hbX HR.out.1.im (fun _ _ q=>q) (fun _ _ q=>.inl q)).rel HU
     have HBX:Hid _:=hbX
     have e1:Bm (ws.take (k+1))=Bm (ws.take k) ++ [x]:=by rw[Rc HX.out,Ct HNO.out]
     have e2:=a0z (ws:=ws) (k+1)
     have hlx:(vs ++ Bm (ws.take k)).length≤1073741823:=by rw[e1] at e2;simp at hlen e2 ⊢;omega
     have HE:Hid _:=e1
     clear hbX e1 e2
     go_wp2_with (at_builtin;refine a56 _ rfl _ _ rfl (W0:=W0) (Im:=Im') (xv:=x) (zs:=vs ++ Bm (ws.take k)) rfl HFX.out rfl (Ap (Cn w1 _) rfl) HUX hlx ?_)
     intro v' w3 hF3 hK3
     have HF3:Hid _:=And.intro hF3 hK3
     clear hF3 hK3
     go_wp2_with fail
     go_roundg (ws.length-(k+1))
     case measure=>omega
     case rel =>
      refine ⟨k+1,Im',by go_num,by omega,Nat.le_refl _,?_,?_⟩
      ·rw[HE.out]
       exact HF3.out.1
      ·exact HR.out.2.trans ((Kp.of HBX.out HR.out.1.im (fun _ _ q=>q) (fun _ _ q=>.inl q)).trans HF3.out.2)
   ·have kz : ¬ (k:Int)<(ws.length:Int):=by omega
    go_wp2_with fail
    go_ret
    refine ⟨_,Im',rfl,?_,HR.out.2⟩
    have:=HR.out.1
    rw[List.take_of_length_le (by omega)] at this
    exact this
open Go.RowKit Go.Lib
set_option linter.unusedVariables false
set_option linter.unusedSimpArgs false
theorem b6d {Im:Nat→Nat→Prop} {W:World} {vs:Array Value} {x:DV} (h:DV.relL Im W [x] vs.toList) : ∃ u,vs=#[u]∧x.rel Im W u:=by
 rw[DV.relL] at h
 obtain ⟨u,us,e,h1,h⟩:=h
 rw[DV.relL] at h
 subst h
 exact ⟨u,Array.ext' e,h1⟩
theorem b2q {W0 X:World} {Im:Nat→Nat→Prop} {v:Value} {zs:List Vl} (hK:Kw W0) (hF:FR W0 X Im v zs) (hl:zs.length≤1073741824) :
  Calls Tryz.prog 42 #[v] X fun e w' => ∃ q,e=.returned (.agg #[q])∧q.oneCell'=true∧RelH (fun b o=>(Im b o∨v.ownBlock=some b)∨(X.heap.size≤b∧b<w'.heap.size)) w' (BV (Ce zs)) q∧Hid (Below X.heap.size X w'):=by
 obtain ⟨⟨ys,hrow,hcells⟩,him,hown,hbel⟩:=hF
 have hI : ∀ b o,(Im b o∨v.ownBlock=some b)→b<X.heap.size:=fun b o h=>h.elim (him b o) fun h=>(hrow.lt b h).2
 have hrel:DV.rel (fun b o=>Im b o∨v.ownBlock=some b) X (.sl zs.length (An zs)) v:=by
  rcases hrow.2 with ⟨hv,h0⟩ | ⟨g,cap,cur,hv,hb,hg,hn,hm,hsz,ht⟩
  ·rw[DV.rel]
   exact .inl ⟨none,hv,h0,by rw[List.length_eq_zero_iff.1 h0];simp[An]⟩
  ·subst hv
   have hc : ∀ (j:Nat) (u:Value),ys[j]? = some u→X.cell? ⟨g,j,none⟩=some u:=fun j u hj=>by
    rw[Nat.mul_one] at ht
    rw[← ht,List.getElem?_take] at hj
    split at hj
    ·exact Ap hg (by simpa using hj)
    ·cases hj
   have e:(fun b o=>Im b o∨(Value.slice (some ⟨g,0,none⟩) zs.length cap).ownBlock=some b)=fun b o=>Im b o∨b=g:=by
    funext b o
    simp[Value.ownBlock,eq_comm]
   rw[e]
   exact Cells.sl (hcells.mono (fun _ _ h=>.inl h) (fun _ _ _=>rfl)) hc hn hm
 refine ((Pl hl).2.2 X #[v] (fun b o=>Im b o∨v.ownBlock=some b) (hK.below hbel) hI (by rw[DV.relL];exact ⟨_,[],rfl,hrel,by rw[DV.relL]⟩)).mono ?_
 rintro e w' ⟨r,y,rfl,rfl,hr,hb⟩
 obtain ⟨q,rfl,hq⟩:=Kb hr
 exact ⟨q,rfl,by rw[DV.rel] at hq;exact hq.1,⟨hq⟩,hb⟩
theorem a8g {W w:World} {Im Im':Nat→Nat→Prop} {c:Nat} {v:Vl} {q:Value} (h:RelH Im' w (BV v) q) (hi : ∀ b o,Im' b o→b≠c) (hn : ∀ b o,Im' b o→Im b o∨(W.heap.size≤b∧b<w.heap.size)) :
  DV.rel (fun b o=>Im b o∨W.heap.size≤b∧b<(w.setCell ⟨c,0,none⟩ q).heap.size) (w.setCell ⟨c,0,none⟩ q) (VV v) (.agg #[q]):=by
 rw[DV.rel]
 refine ⟨_,rfl,?_⟩
 rw[DV.relL]
 refine ⟨_,_,rfl,DV.rel_mono (fun b o k => ?_) (fun b o k => ?_) _ _ h.out,by rw[DV.relL]⟩
 ·have:(w.setCell ⟨c,0,none⟩ q).heap.size=w.heap.size:=by simp[World.setCell]
  rw[this]
  exact hn b o k
 ·exact World.cell?_setCell_other w ⟨c,0,none⟩ ⟨b,o,none⟩ q fun e=>hi b o k (by injection e with e1;exact e1.symm)
theorem b34 {W:World} {Im:Nat→Nat→Prop} (hI : ∀ b o,Im b o→b<W.heap.size):FR W W Im (.slice none 0 0) [] :=
 ⟨⟨[],World.ownsRow_nil W _ _ _,⟨rfl,fun j v h=>by simp at h,fun u h=>by simp at h⟩⟩,hI,fun b h=>(by cases h),Below.refl _ _⟩
set_option maxHeartbeats 4000000 in
set_option maxRecDepth 1000000 in
theorem Ks {vs:List Vl} (hok:okL vs) (hl:vs.length≤1073741824) (hf:(Bm vs).length≤1073741824):HasC Tryz.prog 19 [.sl vs.length (An vs)] (fun r=>r=VV (Ce (Bm vs))):=by
 refine ⟨fun args w=>Tryz.call19 args w,⟨_,rfl⟩,fun W vs' Im hKw hIm hr => ?_⟩
 obtain ⟨y,rfl,hy⟩:=b6d hr
 have HY:RelH _ _ _ _:=⟨hy⟩
 have HI:Hid _:=hIm
 have HK:Hid _:=hKw
 have HOK:Hid _:=hok
 clear hy hIm hKw hr hok
 go_enter Tryz.func19,Tryz.ntmps19
 go_wp2_with fail
 have hKX:Kw (W.alloc (.cells #[.nilIface] 36)):=HK.out.below (Az W _)
 have hIX : ∀ b o,Im b o→b<(W.alloc (.cells #[.nilIface] 36)).heap.size:=fun b o h=>Nat.lt_of_lt_of_le (HI.out b o h) (Az W _).size
 have hXs:(W.alloc (.cells #[.nilIface] 36)).heap.size=W.heap.size+1:=by simp
 refine (a11 (SizeOf.sizeOf vs+1) (W0:=W.alloc (.cells #[.nilIface] 36)) (Im:=Im) (vs:=[]) (ws:=vs) (Nat.lt_succ_self _) HOK.out hl (by simpa using hf) hKX (b34 hIX) ((Kp.of (Az W _) HI.out (fun _ _ q=>q) (fun _ _ q=>.inl q)).rel HY)).mono ?_
 rintro e w1 ⟨v',Im1,rfl,hF1,hK1⟩
 have HF1:Hid (FR (W.alloc (.cells #[.nilIface] 36)) w1 Im1 v' (Bm vs)):=hF1
 have HK1:Hid _:=hK1
 have HKX:Hid _:=hKX
 clear hF1 hK1 hKX hIX
 go_wp2_with fail
 refine (b2q HKX.out HF1.out hf).mono ?_
 rintro e w2 ⟨q,rfl,hq1,hq,hb2⟩
 have hbX:Hid (Below (W.alloc (.cells #[.nilIface] 36)).heap.size (W.alloc (.cells #[.nilIface] 36)) w2):=HF1.out.below.trans (hb2.out.mono HF1.out.below.size)
 have k2:w2.heap[W.heap.size]? = some (.cells #[.nilIface] 36 (0,0)):=(hbX.out.block _ (by rw[hXs];omega)).trans (Cn W _)
 have c2:w2.cell? ⟨W.heap.size,0,none⟩=some .nilIface:=Ap k2 rfl
 have hst:(store ⟨W.heap.size,0,none⟩ q).run Tryz.prog w2=.ok () (w2.setCell ⟨W.heap.size,0,none⟩ q):=Is c2 (Cb k2) hq1
 have HK2:Hid _:=k2
 clear k2
 go_wp2_with fail
 have cz:(w2.setCell ⟨W.heap.size,0,none⟩ q).cell? ⟨W.heap.size,0,none⟩=some q:=Kn c2
 (try simp only[Exit.inBlock,Exit.then])
 refine bodyPost_ret (v:=.agg #[q]) (by simp[results,Tryz.results19,go_sem,cz];try rfl) rfl ?_
 have hrow:=HF1.out.row
 obtain ⟨ys,hrow,_⟩:=hrow
 have s2:=hb2.out.size
 have hnc : ∀ b o,((Im1 b o∨v'.ownBlock=some b)∨w1.heap.size≤b∧b<w2.heap.size)→b≠W.heap.size∧(Im b o∨(W.heap.size≤b∧b<w2.heap.size)):=fun b o h=>by
  have hf1:=HF1.out.im
  rcases h with (h | h) | h
  ·have h1:=hf1 b o h
   rcases HK1.out.old b o h with q | q
   ·have:=HI.out b o q
    exact ⟨by omega,.inl q⟩
   ·rw[hXs] at q
    exact ⟨by omega,.inr (by omega)⟩
  ·have:=hrow.lt b h
   rw[hXs] at this
   exact ⟨by omega,.inr (by omega)⟩
  ·have:=HF1.out.below.size
   rw[hXs] at this
   exact ⟨by omega,.inr (by omega)⟩
 exact ⟨_,VV (Ce (Bm vs)),rfl,rfl,a8g hq (fun b o h=>(hnc b o h).1) (fun b o h=>(hnc b o h).2),(((Az W _).trans (hbX.out.mono (by rw[hXs];omega))).setCell (Nat.le_refl _) _)⟩
open Go.RowKit Go.Lib
set_option linter.unusedVariables false
set_option linter.unusedSimpArgs false
theorem tStr : ∃ info z,Tryz.prog.info? 9=some info∧info.size=1∧info.zero=some z∧info.bytes=16∧z.cells.size=1:=by
 obtain ⟨⟨info,z,h1,h2,h3,h4,h5,_⟩,_⟩:=Oi 9 ⟨.str,1,[.v (.string ⟨#[]⟩)],false,16⟩ (by kernel_rfl)
 exact ⟨info,z,h1,h2,h3,h5,by have:=congrArg List.length h4;simpa using this⟩
theorem b3l:Tryz.prog.underlying 24=some (.slice 9):=(Oi 24 ⟨.slice 9,1,[.sl 0 []],false,24⟩ (by kernel_rfl)).2.1
theorem b0n (w:World) (A:Option Addr) (l c:Nat):(binOp .eql 24 (.slice A l c) (.slice none 0 0)).run Tryz.prog w=.ok (.bool A.isNone) w:=by
 simp only[binOp]
 simp[run_equal_slice_nil w 24 9 A l c b3l]
set_option maxHeartbeats 4000000 in
set_option maxRecDepth 1000000 in
theorem Wz {w:World} {b o n cap:Nat} {ys:List Value} (hn:0<n) (hl:ys.length=n) (hc : ∀ (j:Nat) (u:Value),ys[j]? = some u→w.cell? ⟨b,o+j,none⟩=some u) (h1 : ∀ u ∈ ys,u.oneCell'=true) (hb:n≤1073741824) :
  Calls Tryz.prog 61 #[.slice (some ⟨b,o,none⟩) n cap] w fun e w' => ∃ v',e=.returned v'∧w'.ownsRow w.heap.size 9 1 v' n ys∧Below w.heap.size w w':=by
 obtain ⟨info,z,i1,i2,i3,i4,i5⟩:=tStr
 have hu:=b3l
 have HC:Hid _:=hc
 clear hc
 go_enter Tryz.func61,Tryz.ntmps61
 go_wp2_with fail
 simp only[b0n,Result.andThen_ok]
 go_wp2_with (at_builtin;refine wpList_append_grows _ rfl _ _ 24 rfl 9 info z 1 16 hu i1 i3 i2 i4 i5 (by decide) (some _) 0 0 [] rfl (fun h=>by cases h) rfl (fun c _ j u hj=>by simp at hj) ⟨b,o,none⟩ n cap ys rfl (by omega) (fun j u hj=>by rw[Addr.add_lit];exact Ik (HC.out j u hj)) h1 (by omega) (by unfold maxLen;omega) (by omega) ?_)
 intro v' w' hr hg
 have HR:Hid _:=And.intro hr hg
 clear hr hg
 go_wp2_with fail
 go_ret
 exact ⟨v',rfl,Db HR.out.1 (Nat.le_succ _),(Below.alloc (Below.refl _ w) (Nat.le_refl _) _).grown HR.out.2 (by simp) (fun k h=>by cases h)⟩
theorem a35 {Im:Nat→Nat→Prop} {W:World} {ns:List L8} {y:Value} (h:DV.rel Im W (.sl ns.length (Av ns)) y) (h0:0<ns.length) :
  ∃ b o cap,y=.slice (some ⟨b,o,none⟩) ns.length cap∧(∀ (j:Nat) (u:Value),(ns.map fun l=>Value.string (tx l))[j]? = some u→W.cell? ⟨b,o+j,none⟩=some u) ∧ ∀ j,j<ns.length→Im b (o+j):=by
 rw[DV.rel] at h
 rcases h with ⟨A',h,h2,_⟩ | ⟨b,o,cap',h,_,_,hC⟩
 ·omega
 refine ⟨b,o,cap',h,fun j u hj => ?_,fun j hj => ?_⟩
 ·rw[List.getElem?_map] at hj
  cases hl:ns[j]? with
  | none=>rw[hl] at hj;cases hj
  | some l =>
   rw[hl] at hj
   cases hj
   obtain ⟨_,u,hu,hr⟩:=DV.relC_get hC (Gp hl)
   rw[DV.rel] at hr
   rw[hu,hr]
 ·exact (DV.relC_get hC (Gp (List.getElem?_eq_getElem hj))).1
theorem Te {w w':World} (h:Below w.heap.size w w'):w.grownBy w' none:=⟨h.os,h.tape,h.output,h.size,fun k hk _=>h.block k hk⟩
structure CtxR (Im:Nat→Nat→Prop) (X:World) (ns:List L8) (vs:List Vl) (e:Ending) (w':World):Prop where
 h : ∃ g1 c1 g2 c2 ys,e=.returned (.tuple #[.slice (some ⟨g1,0,none⟩) ns.length c1,.slice (some ⟨g2,0,none⟩) vs.length c2,.bool true])∧X.heap.size≤g1∧X.heap.size≤g2∧g1≠g2∧Cells Im X vs ys ∧
  w'.ownsRow X.heap.size 9 1 (.slice (some ⟨g1,0,none⟩) ns.length c1) ns.length (ns.map fun l=>Value.string (tx l))∧w'.ownsRow X.heap.size 36 1 (.slice (some ⟨g2,0,none⟩) vs.length c2) vs.length ys
 below:Below X.heap.size X w'
theorem b4m (y:Value) (w:World):(Instr.typeAssert (.iface 99 y) 34 99 true).run Tryz.prog w=.ok (.tuple #[y,.bool true]) w:=by
 obtain ⟨fields,hd,_⟩:=(Oi 99 ⟨.struct [(0,24),(1,30)],2,[.sl 0 [],.sl 0 []],false,48⟩ (by kernel_rfl)).2.1
 simp[Instr.typeAssert,run_underlying hd]
set_option maxHeartbeats 4000000 in
set_option maxRecDepth 1000000 in
theorem Qc {X:World} {Im:Nat→Nat→Prop} {ns:List L8} {vs:List Vl} {u:Value} (hI : ∀ b o,Im b o→b<X.heap.size) (h1:0<ns.length) (h2:0<vs.length) (hl1:ns.length≤1073741824) (hl2:vs.length≤1073741824) (hu:RelH Im X (BV (.ctx ns vs)) u) :
    Calls Tryz.prog 57 #[.agg #[u]] X (CtxR Im X ns vs):=by
  have hu':=hu.out
  rw[DV.rel,Vl.enc,DV.rel] at hu'
  obtain ⟨_,d,rfl,hd⟩:=hu'
  rw[DV.rel] at hd
  obtain ⟨ps,rfl,hd⟩:=hd
  rw[DV.relL] at hd
  obtain ⟨y1,r1,e1,hy1,hd⟩:=hd
  rw[DV.relL] at hd
  obtain ⟨y2,r2,rfl,hy2,hd⟩:=hd
  rw[DV.relL] at hd
  subst hd
  obtain rfl:ps=#[y1,y2]:=Array.ext' e1
  obtain ⟨b1,o1,k1,rfl,hc1,hi1⟩:=a35 hy1 h1
  obtain ⟨A2,k2,rfl⟩:=Fj hy2
  obtain ⟨b2,o2,ys,rfl,hC,hc2,hi2⟩:=Gn hy2 h2
  have hB1:=hI _ _ (hi1 0 h1)
  have hB2:=hI _ _ (hi2 0 h2)
  have H1:Hid (∀ w',Below X.heap.size X w' → ∀ (j:Nat) (u:Value),(ns.map fun l=>Value.string (tx l))[j]? = some u→w'.cell? ⟨b1,o1+j,none⟩=some u):=fun w' hw j u hj=>(Bh (hw.block b1 hB1)).trans (hc1 j u hj)
  have H2:Hid (∀ w',Below X.heap.size X w' → ∀ (j:Nat) (u:Value),ys[j]? = some u→w'.cell? ⟨b2,o2+j,none⟩=some u):=fun w' hw j u hj=>(Bh (hw.block b2 hB2)).trans (hc2 j u hj)
  have HC:Hid _:=hC
  clear hy1 hy2 hc1 hc2 hi1 hi2 hC hu e1 hI hB1 hB2
  go_enter Tryz.func57,Tryz.ntmps57
  go_wp2_with fail
  simp only[b4m,Result.andThen_ok]
  go_wp2_with fail
  obtain ⟨o1',ho1⟩ : ∃ o:Obj,o=.cells #[.iface 99 (.agg #[.slice (some ⟨b1,o1,none⟩) ns.length k1,.slice (some ⟨b2,o2,none⟩) vs.length k2])] 36:=⟨_,rfl⟩
  rw[← ho1]
  clear ho1
  obtain ⟨XX,hXX⟩ : ∃ XX,XX=(X.alloc o1').alloc (.cells #[.slice (some ⟨b1,o1,none⟩) ns.length k1,.slice (some ⟨b2,o2,none⟩) vs.length k2] 99):=⟨_,rfl⟩
  have hBX:Hid (Below X.heap.size X XX):=by rw[hXX];exact Hj X _ _
  have hKX:Hid (XX.heap[X.heap.size+1]? = some (.cells #[.slice (some ⟨b1,o1,none⟩) ns.length k1,.slice (some ⟨b2,o2,none⟩) vs.length k2] 99 (0,0))):=by rw[hXX];exact Rt X _ _
  have hSX:X.heap.size+2=XX.heap.size:=by rw[hXX,Bo]
  rw[← hXX]
  clear hXX
  have c1:XX.drew.cell? ⟨X.heap.size+1,0,none⟩=some (.slice (some ⟨b1,o1,none⟩) ns.length k1):=Ap (w:=XX) hKX.out rfl
  have c2:XX.drew.cell? ⟨X.heap.size+1,1,none⟩=some (.slice (some ⟨b2,o2,none⟩) vs.length k2):=Ap (w:=XX) hKX.out rfl
  have hone1 : ∀ u ∈ (ns.map fun l=>Value.string (tx l)),u.oneCell'=true:=fun u hu=>by obtain ⟨l,_,rfl⟩:=List.mem_map.1 hu;rfl
  go_region_held3 (fun w'=>w'.cell? ⟨X.heap.size+1,0,none⟩=some (.slice (some ⟨b1,o1,none⟩) ns.length k1)∧w'.cell? ⟨X.heap.size+1,1,none⟩=some (.slice (some ⟨b2,o2,none⟩) vs.length k2)) (first | with_reducible exact ⟨c1,c2⟩ | with_reducible exact ⟨d1,d2⟩ | with_reducible exact ⟨d3,d4⟩) (first
    | (go_at_call 61
       refine (Wz (ys:=ns.map fun l=>Value.string (tx l)) h1 (by simp) (H1.out XX.drew hBX.out.drew) hone1 hl1).mono ?_
       rintro e w3 ⟨v1,rfl,hr1,hb3⟩
       obtain ⟨g1,c1',rfl,hg1,_,_⟩:=Mh hr1 h1
       have hb3':Below XX.heap.size XX w3:=(Mg XX).trans hb3
       have q3:w3.heap[X.heap.size+1]? = _:=(hb3'.block _ (by omega)).trans hKX.out
       have d1:w3.cell? ⟨X.heap.size+1,0,none⟩=some (.slice (some ⟨b1,o1,none⟩) ns.length k1):=Ap q3 rfl
       have d2:w3.cell? ⟨X.heap.size+1,1,none⟩=some (.slice (some ⟨b2,o2,none⟩) vs.length k2):=Ap q3 rfl
       have HB3:Hid _:=hb3'
       have HR1:Hid _:=hr1
       have HQ3:Hid _:=q3
       clear hb3 hb3' q3 hr1)
    | (go_at_call 43
       refine (Ps (ys:=ys) h2 HC.out.len (H2.out w3 (hBX.out.trans (HB3.out.mono (by omega)))) HC.out.one hl2).mono ?_
       rintro e w4 ⟨v2,rfl,hr2,hb4⟩
       obtain ⟨g2,c2',rfl,hg2,_,_⟩:=Mh hr2 h2
       have q4:w4.heap[X.heap.size+1]? = _:=(hb4.block _ (by have:=HB3.out.size;omega)).trans HQ3.out
       have d3:w4.cell? ⟨X.heap.size+1,0,none⟩=some (.slice (some ⟨b1,o1,none⟩) ns.length k1):=Ap q4 rfl
       have d4:w4.cell? ⟨X.heap.size+1,1,none⟩=some (.slice (some ⟨b2,o2,none⟩) vs.length k2):=Ap q4 rfl
       have HB4:Hid _:=hb4
       have HR2:Hid _:=hr2
       clear hb4 q4 hr2))
  all_goals
    go_wp2_with fail
    go_returns
    have hr1:w3.ownsRow XX.drew.heap.size 9 1 (.slice (some ⟨g1,0,none⟩) ns.length c1') ns.length (ns.map fun l=>Value.string (tx l)):=HR1.out
    have hr2:w4.ownsRow w3.heap.size 36 1 (.slice (some ⟨g2,0,none⟩) vs.length c2') vs.length ys:=HR2.out
    have hl:=(hr1.lt g1 rfl).2
    have hsd:XX.drew.heap.size=XX.heap.size:=rfl
    rw[hsd] at hg1
    exact ⟨⟨g1,c1',g2,c2',ys,rfl,by omega,by have:=HB3.out.size;omega,by omega,HC.out,Db (hr1.kept (row:=none) (Te HB4.out) (.inr (by simp[Value.ownBlock]))) (by rw[hsd];omega),Db hr2 (by have:=HB3.out.size;omega)⟩,hBX.out.trans ((HB3.out.mono (by omega)).trans (HB4.out.mono (by have:=HB3.out.size;omega)))⟩
end Go.Proofs.YtfkfpkhgoijfdaaGreatDoor
