/- The abstract machine's step, carried out by the program: one operation, then a region in whatever order its edges allow. -/
import Derived.Test.YtfkfpkhgoijfdaaGreatDoorVcQ
namespace Go.Proofs.YtfkfpkhgoijfdaaGreatDoor
open Go.RowKit
set_option linter.unusedVariables false
set_option linter.unusedSimpArgs false
section
variable {P:Program} {ty:TypeId→Option TI} {W0:World} {I0:Nat→Nat→Prop} {g:Gh} {s:AS} {a:Act} {w:World}
theorem a07 (hty:Cy P ty) {t e:TypeId} {m:Nat} {ei:TI} {a1 a2 a3 a4} (ht:ty t=some ⟨.arr m e,a1,a2,a3,a4⟩) (he:ty e=some ei) {b k q:Nat} (hq:q<m) {kk:IntKind} :
  (Instr.indexAt t (.pointer (some ⟨b,k,none⟩)) (.int kk (Int.ofNat q))).run P w=.ok (.pointer (some ⟨b,k+q*ei.size,none⟩)) w:=by
 have k3:=(hty t _ ht).2.1
 simp only[TD.ok] at k3
 have h4:(0:Int)≤Int.ofNat q∧Int.ofNat q<((m:Nat):Int):=⟨Int.natCast_nonneg _,Int.ofNat_lt.2 hq⟩
 simp[Instr.indexAt,Instr.sureAddr,asIntOf,run_underlying k3,Bn hty he,Dy,hq]
theorem a2i (hty:Cy P ty) (R:RelG W0 I0 g s a w) {o:Oper} {x:AV} (h:Eb ty s o.op=some x) :
  ∃ y,(execOp a.eval o).run P w=.ok (.value y) w∧x.rel g w y∧(∀ n k,x=.p n k→s.u n=true) ∧ ∀ z q,x=.w z (some q)→q.v≤s.r q.j:=by
 have hw : ∀ z q,x=.w z (some q)→q.v≤s.r q.j:=fun z q e=>by
  subst e
  obtain ⟨y,hy⟩:=a9i h
  exact a2y R.wf hy
 have hu : ∀ n k,x=.p n k→s.u n=true:=fun n k e=>by
  subst e
  obtain ⟨z,j,hz⟩:=a67 h
  exact Xw R.wf hz
 suffices hs : ∃ y,(execOp a.eval o).run P w=.ok (.value y) w∧x.rel g w y by
  obtain ⟨y,h1,h2⟩:=hs
  exact ⟨y,h1,h2,hu,hw⟩
 clear hu hw
 obtain ⟨dst,op,type,pos,after,guard⟩:=o
 simp only at h
 unfold execOp
 cases op
 case indexAddr t z i =>
  simp only[Eb] at h
  split at h
  ·rename_i n1 o1 kk q1 m1 e1 _ _ _ _ h1 h2 h3
   split at h
   ·rename_i ei hei
    simp only[Bool.cond_eq_ite] at h
    split at h
    ·rename_i hq
     simp at h
     subst h
     have k1:=R.opd h1
     simp only[AV.rel] at k1
     have k2:=R.base h2
     simp only[Bool.and_eq_true] at hq
     have hlt:=hq.1
     rw[Nat.blt_eq] at hlt
     have k3:=a07 (P:=P) (w:=w) hty h3 hei (b:=g.r n1) (k:=o1) hlt (kk:=kk)
     exact ⟨_,by show ((Instr.indexAt t (a.eval z) (a.eval i)) >>= fun v=>pure (Next.value v):Sem Next).run P w=_;rw[k1,k2];simp only[Sem.run_bind,k3,Result.andThen_ok,Sem.run_pure],rfl⟩
    ·cases h
   ·cases h
  ·rename_i kk q1 e1 _ _ _ _ h2 h3
   split at h
   ·rename_i n cs ei h4 h5
    split at h
    ·rename_i hq
     simp at h
     subst h
     have k2:=R.base h2
     obtain ⟨b,o,k3,k4⟩:=a5e (P:=P) hty h3 h5 (R.dv h4) (k:=kk) hq
     exact ⟨_,by simp[k2,k3],b,o,rfl,k4⟩
    ·cases h
   ·cases h
  ·cases h
 case slice t z lo hi mx =>
  cases mx with
  | some m=>simp only[Eb] at h;cases h
  | none =>
   simp only[Eb] at h
   split at h
   ·rename_i n cs e _ _ _ _ h1 h2
    split at h
    ·rename_i ei l u h3 h4 h5
     split at h
     ·rename_i hb
      simp at h
      subst h
      have bnd : ∀ (b:Option Operand) (k:Nat) (i:Int),s.bound b k=some i→(b.map a.eval=none∧i=(k:Int)) ∨ ∃ kk,b.map a.eval=some (.int kk i):=by
       intro b k i hb
       cases b with
       | none=>simp[AS.bound] at hb;exact .inl ⟨rfl,hb.symm⟩
       | some b =>
        right
        simp only[AS.bound] at hb
        split at hb
        ·rename_i kk i' hb'
         simp at hb
         subst hb
         exact ⟨kk,by simp[R.base hb']⟩
        ·cases hb
      obtain ⟨y,k1,k2⟩:=Yt (P:=P) hty h2 h3 (R.dv h1) (lo:=lo.map a.eval) (hi:=hi.map a.eval) (bnd lo 0 l h4) (bnd hi n u h5) hb
      exact ⟨y,by simp[k1],k2⟩
     ·cases h
    ·cases h
   ·rename_i m e _ _ _ _ h2
    split at h
    ·rename_i cs ei h3 h4
     split at h
     ·rename_i hb
      simp at h
      subst h
      simp only[Bool.and_eq_true] at hb
      have hcl:cs.length=m*ei.size:=Nat.eq_of_beq_eq_true hb.1
      have hm:=Nat.le_of_ble_eq_true hb.2
      have hp:=R.opd h3
      simp only[AV.rel] at hp
      obtain ⟨b,o',hp1,hp2⟩:=hp
      have hu1:P.underlying t=some (.array m e):=(hty t _ h2).2.1
      have hrun:(Instr.sliceAt t (a.eval z) none none none).run P w=.ok (.slice (some (if m=0 then ⟨b,o',none⟩ else (⟨b,o',none⟩:Addr).add 0)) m m) w:=by
       rw[hp1]
       simp[Instr.sliceAt,run_underlying hu1,Instr.sureAddr,Instr.sliceBounds,Bn hty h4]
      refine ⟨.slice (some (if m=0 then ⟨b,o',none⟩ else (⟨b,o',none⟩:Addr).add 0)) m m,?_,?_⟩
      ·simp only[Option.map_none,Sem.run_bind,hrun];rfl
      ·show DV.rel _ _ _ _
       rw[DV.rel]
       refine .inr ⟨b,o',m,?_,Nat.le_refl _,by simp only[maxLen];omega,hp2⟩
       split
       ·rfl
       ·rw[Dy,Nat.add_zero]
     ·cases h
    ·cases h
   ·cases h
 case call c =>
  obtain ⟨callee,args,tys⟩:=c
  cases callee with
  | builtin b =>
   cases b<;>simp only[Eb] at h<;>try cases h
   split at h
   ·rename_i z t e1 e2
    split at h
    ·rename_i n cs e _ _ _ _ h1 h2
     simp at h
     subst h
     have k1:=a5u (P:=P) (ty':=type) hty h2 (R.dv h1)
     have ea:args=#[z]:=Array.ext' (by simpa using e1)
     have et:tys=#[t]:=Array.ext' (by simpa using e2)
     refine ⟨.int .i64 n,?_,by show DV.rel _ _ _ _;rw[DV.rel]⟩
     subst ea et
     simp[resolve,invoke,builtin,k1]
    ·cases h
   ·cases h
  | _=>simp only[Eb] at h;cases h
 all_goals simp only[Eb] at h
 case move z=>exact ⟨_,rfl,R.opd h⟩
 case assign z=>exact ⟨_,rfl,R.opd h⟩
 case pick c b e =>
  split at h
  ·rename_i hc
   have h1:=R.dv hc
   rw[DV.rel] at h1
   exact ⟨_,by simp[h1,asBool],R.opd h⟩
  ·rename_i hc
   have h1:=R.dv hc
   rw[DV.rel] at h1
   exact ⟨_,by simp[h1,asBool],R.opd h⟩
  ·cases h
 case extract z i =>
  split at h
  ·rename_i xs hz
   split at h
   ·rename_i d hd
    simp at h
    subst h
    have h1:=R.dv hz
    rw[DV.rel] at h1
    obtain ⟨vs,he,hr⟩:=h1
    obtain ⟨y,hy,hry⟩:=DV.relL_get hr hd
    have hy':vs[i]? = some y:=by simpa using hy
    exact ⟨y,by simp[he,Instr.extract,hy'],hry⟩
   ·cases h
  ·cases h
 case makeInterface t z =>
  split at h
  ·rename_i d i h1 h2
   split at h
   ·rename_i hc
    simp at h
    subst h
    obtain ⟨dd,hd,hn⟩:=Ni hty h2 hc
    refine ⟨.iface t (a.eval z),?_,?_⟩
    ·simp only[Instr.makeInterface,Sem.run_bind,run_underlying hd,Result.andThen_ok]
     cases dd<;>first | rfl | exact absurd rfl (hn _)
    ·show DV.rel _ _ _ _
     rw[DV.rel]
     exact ⟨_,rfl,R.dv h1⟩
   ·cases h
  ·cases h
 case typeAssert z tx t b =>
  cases b with
  | false =>
   simp only at h
   split at h
   ·rename_i t' d i h1 h2
    split at h
    ·rename_i hb
     rw[Bool.and_eq_true] at hb
     have h3:=R.dv h1
     rw[DV.rel] at h3
     obtain ⟨u,he,hr⟩:=h3
     obtain ⟨dd,hd,hn⟩:=Ni hty h2 hb.1
     have e:=Nat.eq_of_beq_eq_true hb.2
     simp at h
     subst h
     subst e
     refine ⟨u,?_,hr⟩
     simp only[he,Instr.typeAssert,Sem.run_bind,run_underlying hd,Result.andThen_ok]
     cases dd<;>first | (simp;done) | exact absurd rfl (hn _)
    ·cases h
   ·cases h
  | true =>
   simp only at h
   have fin : ∀ {d e:DV} {u v:Value},d.rel g.Im w u→e.rel g.Im w v→DV.rel g.Im w (.tup [d,e]) (.tuple #[u,v]):=fun h1 h2=>by
    rw[DV.rel]
    refine ⟨_,rfl,?_⟩
    rw[DV.relL]
    refine ⟨_,_,rfl,h1,?_⟩
    rw[DV.relL]
    refine ⟨_,_,rfl,h2,?_⟩
    rw[DV.relL]
   have bv : ∀ c,DV.rel g.Im w (.v (.bool c)) (.bool c):=fun c=>by rw[DV.rel]
   split at h
   ·rename_i t' d i h1 h2
    split at h
    ·rename_i hc
     have h3:=R.dv h1
     rw[DV.rel] at h3
     obtain ⟨u,he,hr⟩:=h3
     obtain ⟨dd,hd,hn⟩:=Ni hty h2 hc
     obtain ⟨zv,hz,hzr⟩:=Lf (P:=P) (Im:=g.Im) hty h2 w
     split at h
     ·rename_i hb
      have e:=Nat.eq_of_beq_eq_true hb
      simp at h
      subst h
      subst e
      refine ⟨.tuple #[u,.bool true],?_,fin hr (bv true)⟩
      simp only[he,Instr.typeAssert,Sem.run_bind,run_underlying hd,Result.andThen_ok]
      cases dd<;>first | (simp;done) | exact absurd rfl (hn _)
     ·rename_i hb
      have e : ¬ t'=t:=fun e=>by rw[e] at hb;simp at hb
      simp at h
      subst h
      refine ⟨.tuple #[zv,.bool false],?_,fin hzr (bv false)⟩
      simp only[he,Instr.typeAssert,Sem.run_bind,run_underlying hd,Result.andThen_ok]
      cases dd<;>first | (simp[e,hz];done) | exact absurd rfl (hn _)
    ·cases h
   ·rename_i i h1 h2
    split at h
    ·rename_i hc
     have he:=R.dv h1
     rw[DV.rel] at he
     obtain ⟨dd,hd,hn⟩:=Ni hty h2 hc
     obtain ⟨zv,hz,hzr⟩:=Lf (P:=P) (Im:=g.Im) hty h2 w
     simp at h
     subst h
     refine ⟨.tuple #[zv,.bool false],?_,fin hzr (bv false)⟩
     simp only[he,Instr.typeAssert,Sem.run_bind,run_underlying hd,Result.andThen_ok]
     cases dd<;>first | (simp[hz];done) | exact absurd rfl (hn _)
    ·cases h
   ·cases h
 case index t z i =>
  split at h
  ·rename_i cs h1
   split at h
   ·rename_i kk q m e _ _ _ _ h2 h3
    split at h
    ·rename_i ei h4
     split at h
     ·rename_i hq
      split at h
      ·rename_i d hd
       simp at h
       subst h
       have hq:q<m:=by simpa [Nat.blt_eq] using hq
       have hz:=R.dv h1
       rw[DV.rel] at hz
       obtain ⟨vs,he,hr⟩:=hz
       have hi:=R.base h2
       have hu:P.underlying t=some (.array m e):=(hty t _ h3).2.1
       obtain ⟨y,hy,hry⟩:=Sx (P:=P) hty h4 hr hd
       refine ⟨y,?_,hry⟩
       have h5:(0:Int)≤Int.ofNat q∧Int.ofNat q<(m:Int):=⟨Int.natCast_nonneg q,Int.ofNat_lt.2 hq⟩
       have h6:(Int.ofNat q).toNat=q:=rfl
       simp only[he,hi,Instr.index,asIntOf,Sem.run_bind,Sem.run_pure,Result.andThen_ok,run_underlying hu,if_pos h5,Bn hty h4,h6,hy]
      ·cases h
     ·cases h
    ·cases h
   ·cases h
  ·cases h
 case field t z f =>
  split at h
  ·rename_i cs fs _ zr _ _ h1 h2
   split at h
   ·rename_i off ft hf
    split at h
    ·rename_i j hj
     split at h
     ·rename_i d hd
      simp at h
      subst h
      have h3:=R.dv h1
      rw[DV.rel] at h3
      obtain ⟨vs,he,hr⟩:=h3
      obtain ⟨fields,hfs,hfe⟩:=(hty t _ h2).2.1
      rw[hfe] at hf
      obtain ⟨fl,hfl,rfl,rfl⟩:=Sc hf
      obtain ⟨y,hy,hry⟩:=Sx (P:=P) hty hj hr hd
      exact ⟨y,by simp[he,Instr.field,run_underlying hfs,hfl,asAgg,hy],hry⟩
     ·cases h
    ·cases h
   ·cases h
  ·cases h
 case build t ps =>
  split at h
  ·rename_i fs _ z _ _ ds h1 h2
   split at h
   ·rename_i cs hcs
    simp at h
    subst h
    obtain ⟨fields,hfs,hfe⟩:=(hty t _ h1).2.1
    obtain ⟨zv,hz,hzc⟩:=Hm (P:=P) hty h1 w
    obtain ⟨k1,k2⟩:=Hl R h2
    simp only at hzc
    have hzr:DV.relL g.Im w z zv.cells.toList:=hzc ▸ Gw _
    obtain ⟨places,hp1,hp2⟩:=Mt (P:=P) hty fields.toList fun f hf=>(hty t _ h1).2.2.1 fs rfl (f.offset,f.type) (by rw[hfe];exact List.mem_map.2 ⟨f,hf,rfl⟩)
    rw[hfe] at hcs
    obtain ⟨us,f1,f2⟩:=Io _ ds z zv.cells _ cs hzr k1 k2 (Pp hp2 _ _ _ hcs)
    refine ⟨.agg us,?_,by show DV.rel _ _ _ _;rw[DV.rel];exact ⟨us,rfl,f2⟩⟩
    have e1:(ps.map fun (x:Nat×Operand)=>(x.1,a.eval x.2)).toList=ps.toList.map fun p=>(p.1,a.eval p.2):=by simp
    simp[Instr.build,hz,run_underlying hfs,Array.mapM_eq_mapM_toList,run_places w _ _ hp1,f1]
   ·cases h
  ·rename_i n e _ z _ _ ds h1 h2
   split at h
   ·rename_i j hj
    split at h
    ·rename_i cs hcs
     simp at h
     subst h
     have hu:=(hty t _ h1).2.1
     simp only[TD.ok] at hu
     obtain ⟨zv,hz,hzc⟩:=Hm (P:=P) hty h1 w
     obtain ⟨k1,k2⟩:=Hl R h2
     simp only at hzc
     have hzr:DV.relL g.Im w z zv.cells.toList:=hzc ▸ Gw _
     obtain ⟨us,f1,f2⟩:=Io _ ds z zv.cells _ cs hzr k1 k2 hcs
     refine ⟨.agg us,?_,by show DV.rel _ _ _ _;rw[DV.rel];exact ⟨us,rfl,f2⟩⟩
     have e1:(ps.map fun (x:Nat×Operand)=>(x.1,a.eval x.2)).toList=ps.toList.map fun p=>(p.1,a.eval p.2):=by simp
     simp[Instr.build,hz,run_underlying hu,Bn hty hj,f1]
    ·cases h
   ·cases h
  ·cases h
 case load t z =>
  split at h
  ·rename_i n k i h1 h2
   split at h
   ·rename_i cs hcs
    split at h
    ·rename_i d hd
     simp at h
     subst h
     have h3:=R.opd h1
     simp only[AV.rel] at h3
     obtain ⟨hcs,hno⟩:=Gl hcs
     obtain ⟨_,_,ob,h4,hob⟩:=R.blk n cs hcs
     obtain ⟨vs,T,rfl,h5⟩:=hob.cells (Ez hno)
     obtain ⟨y,hy,hr⟩:=Ho (P:=P) hty h2 (o:=0) (Mi h4 h5) hd
     rw[Nat.zero_add] at hy
     exact ⟨y,by simp[h3,Instr.loadAt,Instr.sureAddr,hy],hr⟩
    ·cases h
   ·cases h
  ·rename_i cs i h1 h2
   split at h
   ·rename_i d hd
    simp at h
    subst h
    obtain ⟨b,o,h3,h4⟩:=R.opd h1
    obtain ⟨y,hy,hr⟩:=Ho (P:=P) hty h2 (fun j d hj=>(DV.relC_get h4 hj).2) hd
    rw[Nat.add_zero] at hy
    exact ⟨y,by simp[h3,Instr.loadAt,Instr.sureAddr,hy],hr⟩
   ·cases h
  ·cases h
 case fieldAddr t z f =>
  split at h
  ·rename_i n k fs _ zr _ _ h1 h2
   split at h
   ·rename_i off ft hf
    split at h
    ·rename_i j hj
     simp only[Bool.cond_eq_ite] at h
     split at h
     ·cases h
     ·rename_i hz
      simp at h
      subst h
      have h3:=R.opd h1
      simp only[AV.rel] at h3
      obtain ⟨fields,hfs,hfe⟩:=(hty t _ h2).2.1
      rw[hfe] at hf
      obtain ⟨fl,hfl,rfl,rfl⟩:=Sc hf
      have hz' : ¬ j.size=0:=fun e=>hz (by rw[e];rfl)
      exact ⟨.pointer (some ⟨_,_,none⟩),by simp[h3,Instr.fieldAt,run_underlying hfs,hfl,Instr.sureAddr,fieldPlace,Bn hty hj,hz',Dy],rfl⟩
    ·cases h
   ·cases h
  ·rename_i cs fs _ zr _ _ h1 h2
   split at h
   ·rename_i off ft hf
    split at h
    ·rename_i j hj
     simp only[Bool.cond_eq_ite] at h
     split at h
     ·cases h
     ·rename_i hz
      simp at h
      subst h
      obtain ⟨b,o,h3,h4⟩:=R.opd h1
      obtain ⟨fields,hfs,hfe⟩:=(hty t _ h2).2.1
      rw[hfe] at hf
      obtain ⟨fl,hfl,rfl,rfl⟩:=Sc hf
      have hz' : ¬ j.size=0:=fun e=>hz (by rw[e];rfl)
      exact ⟨.pointer (some ⟨_,_,none⟩),by simp[h3,Instr.fieldAt,run_underlying hfs,hfl,Instr.sureAddr,fieldPlace,Bn hty hj,hz',Dy],b,o+fl.offset,rfl,DV.relC_drop h4 _⟩
    ·cases h
   ·cases h
  ·cases h
 all_goals cases h
theorem Zs (l:List Value):Jl (l.map DV.cellC)=false:=by
 match l with
 | []=>rfl
 | [x] =>
  show Jl [DV.cellC x]=false
  unfold DV.cellC
  split<;>rfl
 | x::y::r=>simp[Jl]
theorem Cc {o:Oper} {K:Act→World→Prop} {Qx:Exit→Act→World→Prop} {v:Value} {w':World} (h:(execOp a.eval o).run P w=.ok (.value v) w') (k:K (a.put o.dst v) w'):o.wp P a w K Qx:=by
 unfold Oper.wp
 rw[h]
 exact k
theorem a5h (hty:Cy P ty) (R:RelG W0 I0 g s a w) {o:Oper} {c:Ac} (h:act P ty o s=some c) (hs:Ma o s c) {S:DV→Prop} (hS:Res P c S) {K:Act→World→Prop} {Qx:Exit→Act→World→Prop}
  (hK : ∀ y g' a' w',S y→RelG W0 I0 g' (upd o y s c) a' w'→K a' w'):o.wp P a w K Qx:=by
 unfold act at h
 split at h
 ·rename_i t hop
  split at h
  ·rename_i i hi
   simp at h
   subst h
   obtain ⟨n,hn,hu,hlt⟩:=hs
   obtain ⟨z,hz,hzc⟩:=Hm (P:=P) hty hi w
   obtain ⟨y,hy⟩:=hS
   refine Cc (v:=.pointer (some ⟨w.heap.size,0,none⟩)) (w':=w.alloc (.cells z.cells t)) ?_ (hK y ⟨ins g.r n w.heap.size,g.Im,g.v,g.m⟩ _ _ hy ?_)
   ·unfold execOp
    simp only[hop]
    simp[Instr.alloc,hz,newVar,newRow]
   ·rw[hn]
    simp only[upd,hn]
    exact R.fresh hu hlt (hzc ▸ Gw _) (Ez (hzc ▸ Zs _))
  ·cases h
 ·rename_i t x hop
  split at h
  ·rename_i d hd
   simp only[Bool.cond_eq_ite] at h
   split at h
   ·rename_i hone
    simp at h
    subst h
    obtain ⟨n,hn,hu,hlt⟩:=hs
    obtain ⟨y,hy⟩:=hS
    refine Cc (v:=.pointer (some ⟨w.heap.size,0,none⟩)) (w':=w.alloc (.cells (a.eval x).cells t)) ?_ (hK y ⟨ins g.r n w.heap.size,g.Im,g.v,g.m⟩ _ _ hy ?_)
    ·unfold execOp
     simp only[hop]
     simp[Instr.box,newVar,newRow]
    ·rw[hn]
     simp only[upd,hn]
     exact R.fresh hu hlt (Mb (R.dv hd) hone) (Ez (a6p hone))
   ·cases h
  ·cases h
 ·rename_i t b x hop
  have h':act P ty o s=some c:=by unfold act;rw[hop];simpa using h
  cases c with
  | sto n cs =>
   obtain ⟨t',b',x',k,hop',hb,d,i,ds,hd,hi,hh,hlen,hle,hone,rfl⟩:=Gv h'
   rw[hop] at hop'
   cases hop'
   obtain ⟨y,hy⟩:=hS
   have hp:=R.opd hb
   simp only[AV.rel] at hp
   obtain ⟨hh,hno⟩:=Gl hh
   obtain ⟨_,_,ob,h4,hob⟩:=R.blk n ds hh
   obtain ⟨vs,T,rfl,h5⟩:=hob.cells (Ez hno)
   have hcr:=Mb (R.dv hd) hone
   have hl1:=DV.relL_length hcr
   have hl2:=DV.relL_length h5
   have hrun:=run_storeCells_at (P:=P) (g.r n) k T (a.eval x).cells.toList 0 vs w h4 (by simp at hl1 hl2 ⊢;omega) (Mc hone hcr)
   rw[Nat.add_zero] at hrun
   have hsz:(a.eval x).cells.size=i.size:=by rw[← hlen,← hl1];simp
   have hdst:o.dst=none:=hs
   unfold Oper.wp
   have hr:(execOp a.eval o).run P w=.ok .skip (w.setRow (g.r n) (vs.toList.take k ++ (a.eval x).cells.toList ++ vs.toList.drop (k+(a.eval x).cells.toList.length)).toArray):=by
    unfold execOp
    simp only[hop]
    simp[hp,Instr.storeAt,Instr.sureAddr,storeVar,Bn hty hi,hsz,hrun]
   rw[hr]
   show K (a.put o.dst undef) _
   rw[hdst]
   refine hK y g _ _ hy ?_
   simp only[upd]
   exact R.setH hh h4 rfl (Ra h5 hcr k) (Ez (Yr hno hone (by omega)))
  | _ =>
   exfalso
   split at h
   ·split at h
    ·simp only[Bool.cond_eq_ite] at h
     split at h<;>cases h
    ·cases h
   ·cases h
 ·rename_i f args tys hop
  split at h
  ·rename_i ds hds
   simp at h
   subst h
   obtain ⟨hent,_,hcall⟩:=hS
   unfold Oper.wp
   have hr:(execOp a.eval o).run P w=.ok (.enter f (args.map a.eval)) w:=by
    unfold execOp
    simp only[hop]
    simp[resolve,Deferred.ofValue,Act.eval,invoke]
    exact hent _ _
   rw[hr]
   rw[Oper.upon_enter]
   refine (hcall w (args.map a.eval) g.Im (R.kw.below R.below) R.im (by simpa using R.dvs hds)).mono fun e w' ⟨r,y,he,hy,hrel,hb⟩ => ?_
   subst he
   refine hK y ⟨g.r,fun b o=>g.Im b o∨(w.heap.size≤b∧b<w'.heap.size),g.v,g.m⟩ _ _ hy ?_
   refine (R.grow hb (fun _ _ h=>.inl h) fun _ _ h=>h).put hs hrel (fun n k e=>by cases e) fun z q e=>by cases e
  ·cases h
 ·rename_i t n ps hop
  split at h
  ·rename_i x hx
   simp at h
   subst h
   obtain ⟨y,hy⟩:=hS
   obtain ⟨v,w',g',k1,k2,k3⟩:=a4f (P:=P) hty R hx
   obtain ⟨d',hd'⟩:=b3m ty hx
   refine Cc (v:=v) (w':=w') ?_ (hK y g' _ _ hy (k2.put hs k3 (fun n k e=>by rw[hd'] at e;cases e) fun z q e=>by rw[hd'] at e;cases e))
   unfold execOp
   simp only[hop]
   simp only[Sem.run_bind,k1,Result.andThen_ok,Sem.run_pure]
  ·cases h
 ·rename_i args tys hop
  obtain ⟨y,hy⟩:=hS.ex
  obtain ⟨j',x',e',z',hc⟩:=Kj ty h
  subst hc
  obtain ⟨v,w',g',j,x,e,z,hcc,k1,k2⟩:=Xr (P:=P) (ty':=o.type) hty R h hs
  cases hcc
  obtain ⟨y,hy⟩:=hS
  refine Cc (v:=v) (w':=w') ?_ (hK y g' _ _ hy k2)
  unfold execOp
  simp only[hop]
  have e1:(Array.map a.eval args)=(args.toList.map a.eval).toArray:=Array.ext' (by simp)
  simp only[resolve,invoke,builtin,Sem.run_bind,Sem.run_pure,Result.andThen_ok,e1]
  have e2:tys=tys.toList.toArray:=by simp
  rw[e2,k1]
  rfl
 ·unfold Pj at h
  split at h
  ·rename_i x hx
   simp at h
   subst h
   obtain ⟨y,hy⟩:=hS
   obtain ⟨v,h1,h2,h3,h4⟩:=a2i (P:=P) hty R hx
   exact Cc h1 (hK y g _ _ hy (R.put hs h2 h3 h4))
  ·split at h
   ·rename_i hex
    simp at h
    subst h
    obtain ⟨y,hy⟩:=hS
    obtain ⟨r,h1,h2,h3⟩:=hex.choose_spec
    have he:execOp a.eval o=execOp r o:=execOp_congr o h2 fun x hx=>R.base (h1 x hx)
    refine Cc (v:=hex.choose) (w':=w) (by rw[he];exact h3 w) (hK y g _ _ hy (R.put hs ?_ (fun n k e=>by cases e) fun z q e=>by cases e))
    show DV.rel _ _ _ _
    rw[DV.rel]
   ·cases h
theorem Wg (hty:Cy P ty) (R:RelG W0 I0 g s a w) {ops:Array Oper} {i:Nat} {o:Oper} (ho:ops[i]? = some o) {Q:AS→Prop} (h:T P ty ops o Q s) {K:Act→World→Prop} {Qx:Exit→Act→World→Prop}
  (hK : ∀ s' g' a' w',Q s'→RelG W0 I0 g' s' a' w'→K a' w'):wpOp P ops Qx i K a w:=by
 obtain ⟨c,hc,hs,S,hS,H⟩:=h
 unfold wpOp
 rw[ho]
 simp only
 have skip:c=.set (.d (.v undef))→K (a.put o.dst undef) w:=by
  intro e
  subst e
  obtain ⟨y,hy⟩:=hS
  refine hK _ g _ _ (H y hy) (R.put hs ?_ (fun n k e=>by cases e) fun z q e=>by cases e)
  show DV.rel _ _ _ _
  rw[DV.rel]
 have go:act P ty o s=some c→o.wp P a w K Qx:=fun hc=>a5h hty R hc hs hS fun y g' a' w' hy R'=>hK _ g' a' w' (H y hy) R'
 unfold Gm at hc
 cases hg:o.guard with
 | none =>
  rw[hg] at hc
  rw[if_pos (by simp[Region.wanted,hg])]
  exact .inl (go hc)
 | some gw =>
  obtain ⟨j,want⟩:=gw
  rw[hg] at hc
  simp only at hc
  cases hb:(ops[j]?).bind (·.dst) with
  | none=>rw[hb] at hc;cases hc
  | some t =>
   rw[hb] at hc
   simp only at hc
   have hy : ∀ x,s.t t=some (.d (.v x))→a.tmps[t]? = some x:=by
    intro x hx
    obtain ⟨y,h1,h2⟩:=R.tmp t _ hx
    have:DV.rel g.Im w (.v x) y:=h2
    rw[DV.rel] at this
    rw[h1,this]
   split at hc
   ·rename_i b ht
    have hyb:yielded ops a.tmps j=some b:=by unfold yielded;rw[hb];simp[hy _ ht]
    by_cases hbw:b=want
    ·subst hbw
     simp only[if_true] at hc
     rw[if_pos (by simp[Region.wanted,hg,hyb])]
     exact .inl (go hc)
    ·simp only[hbw,if_false,Option.some.injEq] at hc
     rw[if_neg (by simp[Region.wanted,hg,hyb,hbw])]
     exact skip hc.symm
   ·rename_i x hx ht
    have hyx:yielded ops a.tmps j=none:=by
     unfold yielded
     rw[hb]
     simp only[Option.bind_some,hy _ ht]
     cases x<;>first | rfl | exact absurd rfl (hx _)
    simp only[Option.some.injEq] at hc
    rw[if_neg (by simp[Region.wanted,hg,hyx])]
    exact skip hc.symm
   ·cases hc
end
end Go.Proofs.YtfkfpkhgoijfdaaGreatDoor
