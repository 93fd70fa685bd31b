/- Slices: a part, an element, a length, one built, one appended to. -/
import Derived.Test.YtfkfpkhgoijfdaaGreatDoorVcO
import Derived.Laws.AppendOwn
import Derived.Laws.Slices
namespace Go.Proofs.YtfkfpkhgoijfdaaGreatDoor
open Go.RowKit
set_option linter.unusedVariables false
set_option linter.unusedSimpArgs false
theorem Ko {P:Program} {w:World} {t tx e e':TypeId} (ht:P.underlying t=some (.slice e)) (hx:P.underlying tx=some (.slice e')) (ty:TypeId) (bs:Option Addr) (n cp:Nat) (ad:Option Addr) (m c:Nat) {i:TypeInfo} (hi:P.info? e=some i) :
  (Builtin.append_ #[t,tx] ty #[.slice bs n cp,.slice ad m c]).run P w=(Builtin.append_ #[t,t] ty #[.slice bs n cp,.slice ad m c]).run P w:=by
 simp[Builtin.append_,run_underlying ht,run_underlying hx,sizeOf,typeInfo,hi]
theorem a0w {P:Program} {w:World} {t e:TypeId} (ht:P.underlying t=some (.slice e)) (ty:TypeId) (bs:Option Addr) (n cp:Nat) (ad:Option Addr) (c:Nat) {i:TypeInfo} (hi:P.info? e=some i) (hle:n≤cp) (hn:bs=none→n=0∧cp=0) :
  (Builtin.append_ #[t,t] ty #[.slice bs n cp,.slice ad 0 c]).run P w=.ok (.slice bs n cp) w:=by
 have e1:(Builtin.firstCells i.size 0 (.slice ad 0 c)).run P w=.ok #[] w:=by
  cases ad with
  | none=>simp[Builtin.firstCells]
  | some ad=>simp[Builtin.firstCells,loadCells,loadCellsFrom]
 cases bs with
 | none =>
  obtain ⟨rfl,rfl⟩:=hn rfl
  simp[Builtin.append_,run_underlying ht,sizeOf,typeInfo,hi,Builtin.lenOf,e1,storeCells]
 | some b=>simp[Builtin.append_,run_underlying ht,sizeOf,typeInfo,hi,Builtin.lenOf,e1,hle,storeCells]
theorem Ph {Im:Nat→Nat→Prop} {W:World} {b:Nat} : ∀ {ds:List DV} {o:Nat},DV.relC Im W b ds o → ∃ us:List Value,DV.relL Im W ds us ∧ ∀ j u,us[j]? = some u→W.cell? ⟨b,o+j,none⟩=some u
 | [],o,h=>⟨[],by rw[DV.relL],fun j u h=>by simp at h⟩
 | d::ds,o,h=>by
  rw[DV.relC] at h
  obtain ⟨h1,⟨u,h2,h3⟩,h4⟩:=h
  obtain ⟨us,k1,k2⟩:=Ph h4
  refine ⟨u::us,by rw[DV.relL];exact ⟨u,us,rfl,h3,k1⟩,fun j v hv => ?_⟩
  cases j with
  | zero=>simp at hv;subst hv;exact h2
  | succ j =>
   have:=k2 j v (by simpa using hv)
   rw[Nat.add_assoc,Nat.add_comm 1 j] at this
   exact this
theorem Fl {Im:Nat→Nat→Prop} {W:World} {b o:Nat} {ds:List DV} {us:List Value} (h:DV.relL Im W ds us) (hi : ∀ j,j<us.length→Im b (o+j)) (hc : ∀ j u,us[j]? = some u→W.cell? ⟨b,o+j,none⟩=some u):DV.relC Im W b ds o :=
 DV.relC_mk fun i d hd=>by
  obtain ⟨y,hy,hr⟩:=DV.relL_get h hd
  exact ⟨hi i (List.getElem?_eq_some_iff.1 hy).1,y,hc i y hy,hr⟩
section
variable {P:Program} {ty:TypeId→Option TI} {W0:World} {I0:Nat→Nat→Prop} {g:Gh} {s:AS} {a:Act} {w:World}
theorem En {Im:Nat→Nat→Prop} {W:World} {n:Nat} {cs:List DV} {y:Value} (h:DV.rel Im W (.sl n cs) y):(∃ A,y=.slice A 0 0∧n=0∧cs=[]) ∨ ∃ b o cap,y=.slice (some ⟨b,o,none⟩) n cap∧n≤cap∧cap≤maxLen∧DV.relC Im W b cs o:=by
 rw[DV.rel] at h
 exact h
theorem a5e (hty:Cy P ty) {t e:TypeId} {ei:TI} {a1 a2 a3 a4} (ht:ty t=some ⟨.slice e,a1,a2,a3,a4⟩) (he:ty e=some ei) {Im:Nat→Nat→Prop} {n:Nat} {cs:List DV} {y:Value} (h:DV.rel Im w (.sl n cs) y) {k:IntKind} {q:Int} (hq:0≤q∧q<(n:Int)) :
  ∃ b o,(Instr.indexAt t y (.int k q)).run P w=.ok (.pointer (some ⟨b,o,none⟩)) w∧DV.relC Im w b ((cs.drop (q.toNat*ei.size)).take ei.size) o:=by
 have hu:=(hty t _ ht).2.1
 simp only[TD.ok] at hu
 rcases En h with ⟨_,_,rfl,_⟩ | ⟨b,o,cap,rfl,h1,h2,h3⟩
 ·omega
 ·refine ⟨b,o+q.toNat*ei.size,?_,DV.relC_take (DV.relC_drop h3 _) _⟩
  simp[Instr.indexAt,run_underlying hu,asIntOf,hq,Bn hty he,Dy]
theorem Yt (hty:Cy P ty) {t e:TypeId} {ei:TI} {a1 a2 a3 a4} (ht:ty t=some ⟨.slice e,a1,a2,a3,a4⟩) (he:ty e=some ei) {Im:Nat→Nat→Prop} {n:Nat} {cs:List DV} {y:Value} (h:DV.rel Im w (.sl n cs) y) {lo hi:Option Value} {l u:Int}
  (hlo:(lo=none∧l=0) ∨ ∃ k,lo=some (.int k l)) (hhi:(hi=none∧u=n) ∨ ∃ k,hi=some (.int k u)) (hb:0≤l∧l≤u∧u≤(n:Int)) :
  ∃ z,(Instr.sliceAt t y lo hi none).run P w=.ok z w∧DV.rel Im w (.sl (u-l).toNat ((cs.drop (l.toNat*ei.size)).take ((u-l).toNat*ei.size))) z:=by
 have hu:=(hty t _ ht).2.1
 simp only[TD.ok] at hu
 obtain ⟨b0,n0,cap,rfl,hcap⟩ : ∃ b0 n0 cap,y=.slice b0 n0 cap∧n0=n∧n0≤cap:=by
  rcases En h with ⟨A,rfl,rfl,_⟩ | ⟨b,o,cap,rfl,h1,_⟩
  ·exact ⟨_,_,_,rfl,rfl,by omega⟩
  ·exact ⟨_,_,_,rfl,rfl,h1⟩
 obtain ⟨rfl,hcap⟩:=hcap
 have hbd:(Instr.sliceBounds true n0 cap lo hi none).run P w=.ok (l.toNat,u.toNat,cap) w:=by
  have e1:(u.toNat:Int)=u:=Int.toNat_of_nonneg (by omega)
  have e2:l.toNat=0∨0<l:=by omega
  rcases hlo with ⟨rfl,rfl⟩ | ⟨k,rfl⟩<;>rcases hhi with ⟨rfl,rfl⟩ | ⟨k',rfl⟩
  ·simp[Instr.sliceBounds]
  ·have h5:0≤u:=by omega
   have h6:u≤(cap:Int):=by omega
   simp[Instr.sliceBounds,run_sliceBound,h5,h6]
  ·have h5:0≤l:=by omega
   have h6:l≤(n0:Int):=by omega
   simp[Instr.sliceBounds,run_sliceBound,h5,h6]
  ·have h5:0≤l:=by omega
   have h7:0≤u:=by omega
   have h6:u≤(cap:Int):=by omega
   have h8:l≤(u.toNat:Int):=by omega
   have r1:=run_sliceBound (P:=P) w k l u.toNat .sliceB h5 h8
   have r2:=run_sliceBound (P:=P) w k' u cap .sliceAcap h7 h6
   simp[Instr.sliceBounds,r2,r1]
 have hrun:(Instr.sliceAt t (.slice b0 n0 cap) lo hi none).run P w=.ok (.slice (if cap=l.toNat then b0 else b0.map (·.add (l.toNat*ei.size))) (u.toNat-l.toNat) (cap-l.toNat)) w:=by
  simp[Instr.sliceAt,Instr.slice,run_underlying hu,hbd,Bn hty he]
 refine ⟨_,hrun,?_⟩
 have e3:u.toNat-l.toNat=(u-l).toNat:=by omega
 rw[e3]
 rcases En h with ⟨A,h1,h2,rfl⟩ | ⟨b,o,cap',h1,h2,h3,h4⟩
 ·cases h1
  have e4:(u-l).toNat=0:=by omega
  have e5:l.toNat=0:=by omega
  rw[DV.rel]
  left
  rw[e4,e5]
  exact ⟨b0,by simp,rfl,by simp⟩
 ·cases h1
  rw[DV.rel]
  right
  by_cases hc:cap=l.toNat
  ·rw[if_pos hc]
   have e4:(u-l).toNat=0:=by omega
   exact ⟨b,o,_,rfl,by omega,by omega,by simp[e4,DV.relC]⟩
  ·rw[if_neg hc]
   refine ⟨b,o+l.toNat*ei.size,cap-l.toNat,by simp[Dy,e3],by omega,by omega,DV.relC_take (DV.relC_drop h4 _) _⟩
theorem a5u (hty:Cy P ty) {t ty' e:TypeId} {a1 a2 a3 a4} (ht:ty t=some ⟨.slice e,a1,a2,a3,a4⟩) {Im:Nat→Nat→Prop} {n:Nat} {cs:List DV} {y:Value} (h:DV.rel Im w (.sl n cs) y):(Builtin.len_ #[t] ty' #[y]).run P w=.ok (.int .i64 n) w:=by
 have hu:=(hty t _ ht).2.1
 simp only[TD.ok] at hu
 rcases En h with ⟨A,rfl,rfl,_⟩ | ⟨b,o,cap,rfl,h1,h2,h3⟩<;>simp[Builtin.len_,run_underlying hu,goInt]
theorem b0s {Im:Nat→Nat→Prop} {n:Nat} {z:List DV} {zv:Array Value} (h:zv.toList.map DV.cellC=z) (hz:0<z.length):DV.relL Im w (rep n z) ((Array.range (n*zv.size)).map (zv[· % zv.size]!)).toList:=by
 have hl:z.length=zv.size:=by rw[← h];simp
 subst h
 unfold rep
 refine DV.relL_mk (by simp) fun i d y hd hy => ?_
 simp only[List.length_map,Array.length_toList] at hd hz
 simp only[List.getElem?_map,Option.map_eq_some_iff] at hd
 obtain ⟨j,hj,rfl⟩:=hd
 simp only[Array.toList_map,Array.toList_range,List.getElem?_map,Option.map_eq_some_iff] at hy
 obtain ⟨j',hj',rfl⟩:=hy
 rw[hj] at hj'
 cases hj'
 have hlt:j % zv.size<zv.size:=Nat.mod_lt _ hz
 have:(zv.toList.map DV.cellC).getD (j % zv.size) (.v undef)=DV.cellC (zv[j % zv.size]'hlt):=by simp[List.getD,hlt]
 rw[this,getElem!_pos zv _ hlt]
 exact Om _
theorem a4f (hty:Cy P ty) (R:RelG W0 I0 g s a w) {t:TypeId} {n:Nat} {ps:Array (Nat×Operand)} {x:AV} (h:bsl ty s t n ps.toList=some x) :
  ∃ y w' g',(Instr.buildSlice t n (ps.map fun (i,x)=>(i,a.eval x))).run P w=.ok y w'∧RelG W0 I0 g' s a w'∧x.rel g' w' y:=by
 unfold bsl at h
 split at h
 ·rename_i e _ _ _ _ ds h1 h2
  split at h
  ·rename_i i hi
   split at h
   ·rename_i cs hcs
    simp only[Bool.cond_eq_ite] at h
    split at h
    ·rename_i hb
     simp at h
     subst h
     simp only[Bool.and_eq_true] at hb
     have b1:=Nat.le_of_ble_eq_true hb.1.1
     have b2:=Nat.eq_of_beq_eq_true hb.1.2
     have b3:=Nat.le_of_ble_eq_true hb.2
     have hu:=(hty t _ h1).2.1
     simp only[TD.ok] at hu
     obtain ⟨zv,hz,hzc⟩:=Hm (P:=P) hty hi w
     obtain ⟨k1,k2⟩:=Hl R h2
     have hzl:zv.cells.size=i.size:=by rw[← b2,← hzc];simp
     have e1:(ps.map fun (x:Nat×Operand)=>(x.1,a.eval x.2)).toList=ps.toList.map fun p=>(p.1,a.eval p.2):=by simp
     let cells0:Array Value:=(Array.range (n*i.size)).map ((if n*i.size=0 then (#[]:Array Value) else zv.cells)[· % (if n*i.size=0 then (#[]:Array Value) else zv.cells).size]!)
     have hrel0:DV.relL g.Im w (rep n i.zero) cells0.toList:=by
      by_cases h0:n*i.size=0
      ·have e2:rep n i.zero=[]:=by unfold rep;rw[b2,h0];rfl
       have e3:cells0.toList=[]:=by simp[cells0,h0]
       rw[e2,e3,DV.relL]
      ·have:=b0s (Im:=g.Im) (w:=w) (n:=n) hzc (by rw[b2];exact Nat.pos_of_ne_zero fun e=>h0 (by rw[e];simp))
       rw[show cells0=(Array.range (n*zv.cells.size)).map (zv.cells[· % zv.cells.size]!) from by simp only[cells0,if_neg h0,hzl]]
       exact this
     obtain ⟨us,f1,f2⟩:=Io _ ds (rep n i.zero) cells0 _ cs hrel0 k1 k2 hcs
     have hrun:(Instr.buildSlice t n (ps.map fun (i,x)=>(i,a.eval x))).run P w=.ok (.slice (some ⟨w.heap.size,0,none⟩) n n) (w.alloc (.cells us e)):=by
      have : ¬ (16777216<n*i.size):=by omega
      by_cases h0:n*i.size=0
      ·simp only[cells0,if_pos h0] at f1
       simp[Instr.buildSlice,run_underlying hu,Bn hty hi,h0,newRow] at f1 ⊢
       simp[f1,newRow]
      ·simp only[cells0,if_neg h0] at f1
       simp[Instr.buildSlice,run_underlying hu,Bn hty hi,this,h0,hz,f1,newRow]
     refine ⟨_,_,⟨g.r,fun b o=>g.Im b o∨(b=w.heap.size∧o<us.size),g.v,g.m⟩,hrun,R.grow ((Below.refl _ _).alloc (Nat.le_refl _) _) (fun _ _ h=>.inl h) (fun b o h=>h.imp id fun h=>⟨by omega,by simp;omega⟩),?_,_,_,rfl⟩
     rw[DV.rel]
     right
     refine ⟨w.heap.size,0,n,rfl,Nat.le_refl _,by simp only[maxLen];omega,?_⟩
     have hnew:(w.alloc (.cells us e)).heap[w.heap.size]? = some (.cells us e (0,0)):=by show (w.heap.push _)[w.heap.size]? = _;simp
     have hc : ∀ b o,g.Im b o→(w.alloc (.cells us e)).cell? ⟨b,o,none⟩=w.cell? ⟨b,o,none⟩:=fun b o h=>Bh (Below.heap_alloc w _ b (R.im b o h))
     refine Fl (us:=us.toList) (DV.relL_mono (fun _ _ h=>.inl h) hc _ _ f2) (fun j hj=>.inr ⟨rfl,by simpa using hj⟩) fun j u hj => ?_
     have hj':us[j]? = some u:=by simpa using hj
     simp only[World.cell?,Nat.zero_add,hnew]
     exact hj'
    ·cases h
   ·cases h
  ·cases h
 ·cases h
theorem Xr (hty:Cy P ty) (R:RelG W0 I0 g s a w) {args:List Operand} {tys:List TypeId} {ty':TypeId} {d:Option Nat} {c:Ac} (h:Nn ty s d args tys=some c) (hd : ∀ k,d=some k→k<s.n) :
  ∃ y w' g' j x e z,c=.app j x e z∧(Builtin.append_ tys.toArray ty' (args.map a.eval).toArray).run P w=.ok y w'∧RelG W0 I0 g' (s.app d j x e z) (a.put d y) w':=by
 obtain ⟨x,y,t,t2,n,m,cs,ds,k,e,i,A⟩:=Si ty h
 clear h
 obtain ⟨rfl,rfl,hx,hy,⟨_,_,_,_,h1⟩,⟨e2,_,_,_,_,h2⟩,he,ok,rfl⟩:=A
 obtain ⟨o1,o2,o3,o4,o5,o6,o7,o8,o9⟩:=ok
 have hu:=(hty t _ h1).2.1
 have hu2:=(hty t2 _ h2).2.1
 simp only[TD.ok] at hu hu2
 obtain ⟨info,zv,i1,i2,i3,i4,i5,_⟩:=(hty e i he).1
 have hzs:zv.cells.size=i.size:=by rw[← o7,← i4];simp
 have rx:=R.opd hx
 have ry:=R.dv hy
 have rx1:DV.rel g.Im w (.sl n cs) (a.eval x):=by cases k with | none=>exact rx.1 | some q=>exact rx.1
 let j:=Pc d k
 have R1:=R.kill j (.sl (n+m) (cs ++ ds)) e i.size
 have hst : ∀ k' x' (q:Tk),(s.app none j (.sl (n+m) (cs ++ ds)) e i.size).t k'=some (.w x' (some q))→q.j=j→q.v≠(s.app none j (.sl (n+m) (cs ++ ds)) e i.size).r j:=by
  intro k' x' q hk hq hv
  have:=R.wf.w k' x' q hk
  simp only[AS.app,Ay] at hv
  rw[hq] at this
  omega
 have fin : ∀ (y':Value) (w':World) (Im':Nat→Nat→Prop) (q:Rm),(Builtin.append_ #[t,t2] ty' #[a.eval x,a.eval y]).run P w=.ok y' w' →
   RelG W0 I0 ⟨g.r,Im',ins g.v j (Nat.succ (g.v j)),ins g.m j none⟩ (s.app none j (.sl (n+m) (cs ++ ds)) e i.size) a w'→DV.rel Im' w' (.sl (n+m) (cs ++ ds)) y'→(a2z y'∨y'=.slice (some ⟨q.b,0,none⟩) q.n q.cap)→(0<q.cap→OwnOk W0 ⟨g.r,Im',ins g.v j (Nat.succ (g.v j)),ins g.m j none⟩ (s.app none j (.sl (n+m) (cs ++ ds)) e i.size) w' q)→q.e=e→q.z=i.size →
   (q.n<q.cap→RmOk W0 ⟨g.r,Im',ins g.v j (Nat.succ (g.v j)),ins g.m j none⟩ (s.app none j (.sl (n+m) (cs ++ ds)) e i.size) w' q)→(∀ l q',g.m l=some q'→q'.n<q'.cap→q.n<q.cap→l≠j→q'.b≠q.b) →
   ∃ y'' w'' g' j' x' e' z',Ac.app (Pc d k) (.sl (n+m) (cs ++ ds)) e i.size=.app j' x' e' z'∧(Builtin.append_ #[t,t2] ty' (List.map a.eval [x,y]).toArray).run P w=.ok y'' w''∧RelG W0 I0 g' (s.app d j' x' e' z') (a.put d y'') w'':=by
  intro y' w' Im' q hrun R2 hrel hful hown hqe hqz hq hnr
  have e1:s.app d j (.sl (n+m) (cs ++ ds)) e i.size=(s.app none j (.sl (n+m) (cs ++ ds)) e i.size).put d (.w (.sl (n+m) (cs ++ ds)) (some ⟨j,(s.app none j (.sl (n+m) (cs ++ ds)) e i.size).r j,e,i.size⟩)):=by
   cases d with
   | none=>rfl
   | some d=>simp[AS.app,AS.put,Ay]
  have R3:=R2.give (d:=d) (j:=j) (e:=e) (z:=i.size) (x:=.sl (n+m) (cs ++ ds)) (y:=y') (q:=q) hd hrel hful hown hqe hqz hq (fun l q' hl h1 h2 hne=>hnr l q' (by simpa only[Bc _ _ hne] using hl) h1 h2 hne) hst
  rw[← e1] at R3
  exact ⟨y',w',_,_,_,_,_,rfl,by simpa using hrun,R3⟩
 have noroom : ∀ (q:Rm) (Im':Nat→Nat→Prop) (w':World),q.n=q.cap→(q.n<q.cap→RmOk W0 ⟨g.r,Im',ins g.v j (Nat.succ (g.v j)),ins g.m j none⟩ (s.app none j (.sl (n+m) (cs ++ ds)) e i.size) w' q)∧(∀ l q',g.m l=some q'→q'.n<q'.cap→q.n<q.cap→l≠j→q'.b≠q.b) :=
  fun q Im' w' h=>⟨fun h'=>by omega,fun _ _ _ _ h'=>by omega⟩
 obtain ⟨bs,cp,hX⟩ : ∃ bs cp,a.eval x=.slice bs n cp:=by
  rcases En rx1 with ⟨A,h,rfl,_⟩ | ⟨b,o,cap,h,_⟩<;>exact ⟨_,_,h⟩
 obtain ⟨ad,cy,hY⟩ : ∃ ad cy,a.eval y=.slice ad m cy:=by
  rcases En ry with ⟨A,h,rfl,_⟩ | ⟨b,o,cap,h,_⟩<;>exact ⟨_,_,h⟩
 have hplace:(b30 (a.eval x)∧(m=0→a2z (a.eval x))) ∨ ∃ b n' cap,g.m j=some ⟨b,n',cap,e,i.size⟩∧a.eval x=.slice (some ⟨b,0,none⟩) n' cap:=by
  cases k with
  | none =>
   refine .inl ⟨rx.2,fun hm => ?_⟩
   have hn0:=o9 rfl hm
   obtain ⟨A,k,hk⟩:=rx.2
   rcases En rx1 with ⟨A',h,_,_⟩ | ⟨b,o,cap,h,_⟩
   ·exact ⟨A',h⟩
   ·rw[hk] at h
    cases h
    exact ⟨_,hk.trans (by rw[hn0])⟩
  | some q =>
   obtain ⟨v1,v2,v3⟩:=o8
   have:=rx.2 (by rw[R.ver];exact v1)
   rw[v2,v3] at this
   rcases this with h | h
   ·exact .inl ⟨h.imp fun A h=>⟨0,h⟩,fun _=>h⟩
   ·exact .inr h
 by_cases hm0:m=0
 ·subst hm0
  have hds:ds=[]:=List.eq_nil_of_length_eq_zero (by rw[o2];simp)
  subst hds
  have hle:n≤cp∧(bs=none→n=0∧cp=0):=by
   rcases En rx1 with ⟨A,h,rfl,_⟩ | ⟨b,o,cap,h,h',_⟩
   ·rw[hX] at h;cases h;exact ⟨Nat.le_refl _,fun _=>⟨rfl,rfl⟩⟩
   ·rw[hX] at h;cases h;exact ⟨h',fun h=>by cases h⟩
  have hrun:(Builtin.append_ #[t,t2] ty' #[a.eval x,a.eval y]).run P w=.ok (.slice bs n cp) w:=by
   rw[hX,hY,Ko hu hu2 ty' _ _ _ _ _ _ i1]
   exact a0w hu ty' _ _ _ _ _ i1 hle.1 hle.2
  rw[← hX] at hrun
  have hrel:DV.rel g.Im w (.sl (n+0) (cs ++ [])) (a.eval x):=by simpa using rx1
  rcases hplace with hf | ⟨b,n',cap,hr,he'⟩
  ·obtain ⟨k1,k2⟩:=noroom ⟨0,0,0,e,i.size⟩ g.Im w rfl
   exact fin _ _ g.Im ⟨0,0,0,e,i.size⟩ hrun R1 hrel (.inl (hf.2 rfl)) (fun h=>absurd h (Nat.lt_irrefl 0)) rfl rfl k1 k2
  ·refine fin _ _ g.Im ⟨b,n',cap,e,i.size⟩ hrun R1 hrel (.inr he') (fun hp=>⟨(R.own j _ hr hp).1,(R.own j _ hr hp).2,(R.own j _ hr hp).3⟩) rfl rfl (fun hlt => ?_) fun l q' hl h1 h2 hne hb=>hne (R.rinj l j q' _ hl h1 hr h2 hb)
   obtain ⟨r1,r2,r3,r4,r5⟩:=R.room j _ hr hlt
   exact ⟨r1,r2,r3,r4,r5⟩
 ·
  obtain ⟨by_,oy,hY',hcy,hcm,hCy⟩ : ∃ b o,a.eval y=.slice (some ⟨b,o,none⟩) m cy∧m≤cy∧cy≤maxLen∧DV.relC g.Im w b ds o:=by
   rcases En ry with ⟨A,h,h',_⟩ | ⟨b,o,cap,h,h1,h2,h3⟩
   ·exact absurd h' hm0
   ·have:=hY.symm.trans h
    cases this
    exact ⟨b,o,h,h1,h2,h3⟩
  obtain ⟨news,hn1,hn2⟩:=Ph hCy
  have hnl:news.length=m*i.size:=by rw[DV.relL_length hn1,o2]
  have hone:=Mc o3 hn1
  have hnews : ∀ l u,news[l]? = some u→w.cell? ((⟨by_,oy,none⟩:Addr).add l)=some u:=fun l u h=>by rw[Dy];exact hn2 l u h
  have newrow : ∀ (olds:List Value) (cells:Array Value) (cap:Nat) (w':World),DV.relL g.Im w cs olds→cells.toList.take ((n+m)*i.size)=olds ++ news→cells.size=cap*i.size→n+m≤cap→cap≤maxLen→w'.heap[w.heap.size]? = some (.cells cells e (0,0))→Below w.heap.size w w' →
    (Builtin.append_ #[t,t2] ty' #[a.eval x,a.eval y]).run P w=.ok (.slice (some ⟨w.heap.size,0,none⟩) (n+m) cap) w' →
    ∃ y'' w'' g' j' x' e' z',Ac.app (Pc d k) (.sl (n+m) (cs ++ ds)) e i.size=.app j' x' e' z'∧(Builtin.append_ #[t,t2] ty' (List.map a.eval [x,y]).toArray).run P w=.ok y'' w''∧RelG W0 I0 g' (s.app d j' x' e' z') (a.put d y'') w'':=by
   intro olds cells cap w' hol htake hsz hle hmx hblk hbel hrun
   have hlt:=lt_of_block hblk
   have hlen:(olds ++ news).length=(n+m)*i.size:=by rw[List.length_append,DV.relL_length hol,o1,hnl,Nat.add_mul]
   let Im':Nat→Nat→Prop:=fun b o=>g.Im b o∨(b=w.heap.size∧o<(n+m)*i.size)
   have R2:=R1.grow (Im':=Im') hbel (fun _ _ h=>.inl h) fun b o h=>h.imp id fun h=>by rw[h.1];exact ⟨Nat.le_refl _,hlt⟩
   have hcell : ∀ b o,g.Im b o→w'.cell? ⟨b,o,none⟩=w.cell? ⟨b,o,none⟩:=fun b o h=>Bh (hbel.block b (R.im b o h))
   have hnh : ∀ l,(s.app none j (.sl (n+m) (cs ++ ds)) e i.size).h l≠none→g.r l≠w.heap.size:=fun l hl h=>by
    have hl:s.h l≠none:=hl
    cases hh:s.h l with
    | none=>exact hl hh
    | some ds' =>
     obtain ⟨_,_,ob,h3,_⟩:=R.blk l ds' hh
     have:=lt_of_block h3
     omega
   refine fin _ w' Im' ⟨w.heap.size,n+m,cap,e,i.size⟩ hrun R2 ?_ (.inr rfl) (fun _=>⟨R.below.size,hnh,cells,hblk⟩) rfl rfl (fun _=>⟨R.below.size,fun o ho h => ?_,hnh,hmx,cells,hblk,hsz⟩) fun l q' hl h1 h2 hne hb => ?_
   ·rw[DV.rel]
    right
    refine ⟨w.heap.size,0,cap,rfl,hle,hmx,Fl (us:=olds ++ news) (DV.relL_mono (fun _ _ h=>.inl h) hcell _ _ (DV.relL_append hol hn1)) (fun l hl=>.inr ⟨rfl,by omega⟩) fun l u hl => ?_⟩
    rw[← htake,List.getElem?_take] at hl
    split at hl
    ·have hl':cells[l]? = some u:=by simpa using hl
     simp[World.cell?,hblk,hl']
    ·cases hl
   ·have h:g.Im w.heap.size o∨(w.heap.size=w.heap.size∧o<(n+m)*i.size):=h
    have ho:(n+m)*i.size≤o:=ho
    rcases h with h | h
    ·have:=R.im _ o h;omega
    ·omega
   ·obtain ⟨_,_,_,_,cur,h5,_⟩:=R.room l q' hl h1
    have:=lt_of_block h5
    have hb:q'.b=w.heap.size:=hb
    omega
  have h63:((n+m:Nat):Int)≤9223372036854775807:=by simp only[maxLen] at o4;omega
  have grownsz : ∀ (olds:List Value) (old:Nat),olds.length=n*i.size→(olds.toArray ++ news.toArray ++ Builtin.zeroCells zv.cells (grownCap w (n+m) old e-(n+m))).size=grownCap w (n+m) old e*i.size:=by
   intro olds old hl
   have hge:=grownCap_ge w (n+m) old e
   simp only[Array.size_append,List.size_toArray,size_zeroCells,hzs,hl,hnl,← Nat.add_mul]
   congr 1
   omega
  rcases En rx1 with ⟨A,hnil,hn0,hcs0⟩ | ⟨b,o,cap,hX',hnc,hcm',hCx⟩
  ·subst hn0 hcs0
   have hr:(Builtin.append_ #[t,t] ty' #[.slice A 0 0,.slice (some ⟨by_,oy,none⟩) m cy]).run P w=.ok (.slice (some ⟨w.heap.size,0,none⟩) m (grownCap w m 0 e)) (w.drew.alloc (.cells (news.toArray ++ Builtin.zeroCells zv.cells (grownCap w m 0 e-m)) e)):=by
    cases A with
    | none=>exact run_append_nil (P:=P) w t ty' e info zv hu i1 i3 ⟨by_,oy,none⟩ m cy news (by rw[hnl,i2]) hnews (by omega) (by simpa using h63) (by rw[i5];simp only[Nat.zero_add] at o5;omega)
    | some A =>
     have:=run_append_grow (P:=P) w t ty' e info zv hu i1 i3 A 0 0 [] (by simp) (fun l u h=>by simp at h) ⟨by_,oy,none⟩ m cy news (by rw[hnl,i2]) hnews (by omega) h63 (growslice_fits (by omega) (by rw[i5];exact o5))
     simpa using this
   have e0:0+m=m:=Nat.zero_add m
   refine newrow [] (news.toArray ++ Builtin.zeroCells zv.cells (grownCap w m 0 e-m)) (grownCap w m 0 e) (w.drew.alloc (.cells (news.toArray ++ Builtin.zeroCells zv.cells (grownCap w m 0 e-m)) e)) (by rw[DV.relL]) ?_ ?_ (by rw[e0];exact grownCap_ge _ _ _ _) (grownCap_le_maxLen w _ 0 e (by rw[← e0];exact o4)) (heap_alloc_new w.drew _) ⟨rfl,rfl,rfl,by simp,fun k hk=>Below.heap_alloc w.drew _ k hk⟩ (by
    rw[hnil,hY',Ko hu hu2 ty' _ _ _ _ _ _ i1,hr,e0])
   ·simp only[Nat.zero_add,Array.toList_append,List.nil_append]
    rw[← hnl]
    exact List.take_left
   ·have:=grownsz [] 0 (by simp)
    simp only[Nat.zero_add,Array.empty_append,List.nil_append] at this ⊢
    exact this
  ·obtain ⟨olds,ho1,ho2⟩:=Ph hCx
   have hol:olds.length=n*i.size:=by rw[DV.relL_length ho1,o1]
   have holds : ∀ l u,olds[l]? = some u→w.cell? ((⟨b,o,none⟩:Addr).add l)=some u:=fun l u h=>by rw[Dy];exact ho2 l u h
   by_cases hroom:n+m≤cap
   ·
    rcases hplace with ⟨⟨a',n',hf⟩,_⟩ | ⟨b',n',cap',hr,he'⟩
    ·rw[hX'] at hf;cases hf;omega
    rw[hX'] at he'
    cases he'
    obtain ⟨r1,r2,r3,r4,cur,r5,r6⟩:=R.room j _ hr (by show n<cap;omega)
    simp only at r1 r2 r3 r4 r5 r6
    have hfit:n*i.size+news.length≤cur.size:=by rw[hnl,r6,← Nat.add_mul];exact Nat.mul_le_mul_right _ hroom
    have hrn:=run_append_room (P:=P) w t ty' e info hu i1 b n cap cur r5 ⟨by_,oy,none⟩ m cy news (by rw[hnl,i2]) hnews hone hroom (by rw[i2];exact hfit)
    rw[i2] at hrn
    have hcur:cur.toList.take (n*i.size)=olds:=by
     apply List.ext_getElem?
     intro l
     rw[List.getElem?_take]
     split
     ·rename_i hl
      have hlo:l<olds.length:=by omega
      have:=ho2 l _ (List.getElem?_eq_getElem hlo)
      rw[Nat.zero_add] at this
      simp only[World.cell?,r5] at this
      rw[List.getElem?_eq_getElem hlo]
      simpa using this
     ·rw[List.getElem?_eq_none (by omega)]
    have hlen:(olds ++ news).length=(n+m)*i.size:=by rw[List.length_append,hol,hnl,Nat.add_mul]
    obtain ⟨cells,hcells⟩ : ∃ cells,cells=(cur.toList.take (n*i.size) ++ news ++ cur.toList.drop (n*i.size+news.length)).toArray:=⟨_,rfl⟩
    rw[← hcells] at hrn
    have hcold : ∀ o',o'<n*i.size→cells[o']? = cur[o']? := fun o' hlt=>by
     have:n*i.size≤cur.size:=by omega
     simp only[hcells,List.getElem?_toArray,List.append_assoc]
     rw[List.getElem?_append_left (by simp;omega),List.getElem?_take,if_pos hlt]
     simp
    have hcnew : ∀ l u,(olds ++ news)[l]? = some u→cells[l]? = some u:=fun l u hl=>by
     have hll:l<(olds ++ news).length:=(List.getElem?_eq_some_iff.1 hl).1
     rw[hcells,hcur]
     have e9 : ∀ (xs:List Value),xs.toArray[l]? = xs[l]? := fun xs=>by simp
     rw[e9,List.getElem?_append_left hll,hl]
    have hcsz:cells.size=cap*i.size:=by
     simp only[hcells,List.size_toArray,List.length_append,List.length_take,List.length_drop,Array.length_toList]
     omega
    clear hcells
    let Im':Nat→Nat→Prop:=fun b' o'=>g.Im b' o'∨(b'=b∧o'<(n+m)*i.size)
    have hnim : ∀ o',n*i.size≤o' → ¬ g.Im b o':=r2
    have hold : ∀ o',g.Im b o'→cells[o']? = cur[o']? := fun o' ho'=>hcold o' (Nat.lt_of_not_le fun h=>hnim o' h ho')
    have R2:=R1.write (Im':=Im') (cells:=cells) r5 r1 r3
     (fun l q' hl hq' hb=>by
      have hlj:l≠j:=fun e=>by subst e;simp[Ay] at hl
      simp only[Bc _ _ hlj] at hl
      exact hlj (R.rinj l j q' _ hl hq' hr (by show n<cap;omega) hb))
     hold (fun _ _ h=>.inl h) (fun b' o' h=>h.imp id fun h=>h.1)
    have hnew:(w.setRow b cells).heap[b]? = some (.cells cells e (0,0)):=setRow_heap w _ cur _ e _ r5
    have hcell : ∀ b' o',g.Im b' o'→(w.setRow b cells).cell? ⟨b',o',none⟩=w.cell? ⟨b',o',none⟩:=fun b' o' h=>by
     by_cases hbb:b'=b
     ·subst hbb
      simp only[World.cell?,hnew,r5,hold o' h]
     ·exact Bh (setRow_other w _ b' _ hbb)
    refine fin _ _ Im' ⟨b,n+m,cap,e,i.size⟩ (by rw[hX',hY',Ko hu hu2 ty' _ _ _ _ _ _ i1];exact hrn) R2 ?_ (.inr rfl) (fun _=>⟨r1,r3,_,hnew⟩) rfl rfl (fun _=>⟨r1,fun o' ho' h => ?_,r3,r4,_,hnew,hcsz⟩) fun l q' hl h1 h2 hne hb=>hne (R.rinj l j q' _ hl h1 hr (by show n<cap;omega) hb)
    ·rw[DV.rel]
     right
     refine ⟨b,0,cap,rfl,hroom,hcm',Fl (us:=olds ++ news) (DV.relL_mono (fun _ _ h=>.inl h) hcell _ _ (DV.relL_append ho1 hn1)) (fun l hl=>.inr ⟨rfl,by omega⟩) fun l u hl => ?_⟩
     have:=hcnew l u hl
     rw[Nat.zero_add]
     simp only[World.cell?,hnew,this]
     simp
    ·have ho':(n+m)*i.size≤o':=ho'
     have h:g.Im b o'∨(b=b∧o'<(n+m)*i.size):=h
     rcases h with h | h
     ·refine hnim o' ?_ h
      rw[Nat.add_mul] at ho'
      omega
     ·omega
   ·
    have hr:=run_append_grow (P:=P) w t ty' e info zv hu i1 i3 ⟨b,o,none⟩ n cap olds (by rw[hol,i2]) holds ⟨by_,oy,none⟩ m cy news (by rw[hnl,i2]) hnews (by omega) h63 (growslice_fits (by omega) (by rw[i5];exact o5))
    refine newrow olds _ (grownCap w (n+m) cap e) _ ho1 ?_ (grownsz olds cap hol) (grownCap_ge _ _ _ _) (grownCap_le_maxLen w _ cap e o4) (heap_alloc_new w.drew _) ⟨rfl,rfl,rfl,by simp,fun k hk=>Below.heap_alloc w.drew _ k hk⟩ (by
     rw[hX',hY',Ko hu hu2 ty' _ _ _ _ _ _ i1,hr])
    have hlen:(olds ++ news).length=(n+m)*i.size:=by rw[List.length_append,hol,hnl,Nat.add_mul]
    simp only[Array.toList_append,← hlen]
    exact List.take_left
end
end Go.Proofs.YtfkfpkhgoijfdaaGreatDoor
