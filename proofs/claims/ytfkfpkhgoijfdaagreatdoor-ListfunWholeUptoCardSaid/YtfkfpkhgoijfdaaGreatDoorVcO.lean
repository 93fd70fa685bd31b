/- Each operation of the program does what the abstract machine's step says. -/
import Derived.Test.YtfkfpkhgoijfdaaGreatDoorVcS
import Derived.Laws.CopyRow
import Derived.Laws.Tables
namespace Go.Proofs.YtfkfpkhgoijfdaaGreatDoor
open Go.RowKit
set_option linter.unusedVariables false
set_option linter.unusedSimpArgs false
section
variable {P:Program} {ty:TypeId→Option TI} {W0:World} {I0:Nat→Nat→Prop} {g:Gh} {s:AS} {a:Act} {w:World}
theorem Hf (hty:Cy P ty) {t:TypeId} {i:TI} (h:ty t=some i) : ∃ info z,P.info? t=some info∧info.size=i.size∧info.zero=some z∧z.cells.toList.map DV.cellC=i.zero:=by
 obtain ⟨info,z,h1,h2,h3,h4,_⟩:=(hty t i h).1
 exact ⟨info,z,h1,h2,h3,h4⟩
theorem Bn (hty:Cy P ty) {t:TypeId} {i:TI} (h:ty t=some i) (w:World):(sizeOf t).run P w=.ok i.size w:=by
 obtain ⟨info,z,h1,h2,_⟩:=Hf hty h
 simp[sizeOf,typeInfo,h1,h2]
theorem Ij (hty:Cy P ty) {t:TypeId} {i:TI} (h:ty t=some i) (w:World):(isAgg t).run P w=.ok i.d.isAgg w:=by
 have:=(hty t i h).2.1
 unfold isAgg
 cases hd:i.d<;>rw[hd] at this<;>simp only[TD.ok] at this
 case struct fs=>obtain ⟨fields,hf,_⟩:=this;simp[run_underlying hf,TD.isAgg]
 case other =>
  obtain ⟨d,hf,h1,h2⟩:=this
  simp only[Sem.run_bind,run_underlying hf,Result.andThen_ok,TD.isAgg]
  cases d<;>first | rfl | exact absurd rfl (h1 _) | exact absurd rfl (h2 _ _)
 all_goals simp[run_underlying this,TD.isAgg]
theorem Hm (hty:Cy P ty) {t:TypeId} {i:TI} (h:ty t=some i) (w:World) : ∃ z,(zeroValue t).run P w=.ok z w∧z.cells.toList.map DV.cellC=i.zero:=by
 obtain ⟨info,z,h1,h2,h3,h4⟩:=Hf hty h
 exact ⟨z,by simp[zeroValue,typeInfo,h1,h3],h4⟩
theorem Lf (hty:Cy P ty) {t:TypeId} {i:TI} (h:ty t=some i) (w:World) {Im:Nat→Nat→Prop} : ∃ z,(zeroValue t).run P w=.ok z w∧(Vm i).rel Im w z:=by
 obtain ⟨info,z,h1,h2,h3,h4,_,h5,h6⟩:=(hty t i h).1
 refine ⟨z,by simp[zeroValue,typeInfo,h1,h3],?_⟩
 unfold Vm
 cases hb:i.d.isAgg with
 | true =>
  obtain ⟨xs,rfl⟩:=h5 hb
  simp only
  rw[DV.rel]
  exact ⟨xs,rfl,h4 ▸ Gw _⟩
 | false =>
  have e:=h6 hb
  simp only
  rw[e] at h4
  rw[← h4]
  exact Om z
theorem Ni (hty:Cy P ty) {t:TypeId} {i:TI} (h:ty t=some i) (hc:i.d.conc=true) : ∃ d,P.underlying t=some d ∧ ∀ ms,d ≠ .interface ms:=by
 have:=(hty t i h).2.1
 cases hd:i.d<;>rw[hd] at this hc<;>simp only[TD.ok] at this
 case struct fs=>obtain ⟨fields,hf,_⟩:=this;exact ⟨_,hf,fun ms=>by simp⟩
 case other=>cases hc
 all_goals exact ⟨_,this,fun ms=>by simp⟩
theorem Sx (hty:Cy P ty) {t:TypeId} {i:TI} (h:ty t=some i) {cs:List DV} {vs:Array Value} {Im:Nat→Nat→Prop} (hr:DV.relL Im w cs vs.toList) {off:Nat} {d:DV} (hl:Jb i cs off=some d) :
  ∃ y,(part t vs off).run P w=.ok y w∧d.rel Im w y:=by
 unfold part
 simp only[Sem.run_bind,Ij hty h,Result.andThen_ok]
 unfold Jb at hl
 cases hb:i.d.isAgg with
 | true =>
  rw[hb] at hl
  simp only[Bool.cond_eq_ite] at hl
  split at hl
  ·simp at hl
   subst hl
   refine ⟨_,by simp[Bn hty h];rfl,?_⟩
   rw[DV.rel]
   refine ⟨_,rfl,?_⟩
   have:=DV.relL_take (DV.relL_drop hr off) i.size
   simpa [List.drop_take] using this
  ·simp at hl
 | false =>
  rw[hb] at hl
  obtain ⟨y,hy,hry⟩:=DV.relL_get hr hl
  have hy':vs[off]? = some y:=by simpa using hy
  exact ⟨y,by simp[hy'],hry⟩
theorem Dy (b o k:Nat):(⟨b,o,none⟩:Addr).add k=⟨b,o+k,none⟩:=by unfold Addr.add;split<;>simp_all
theorem Ho (hty:Cy P ty) {t:TypeId} {i:TI} (h:ty t=some i) {cs:List DV} {Im:Nat→Nat→Prop} {b o k:Nat} (hr : ∀ (j:Nat) (d:DV),cs[j]? = some d → ∃ y,w.cell? ⟨b,o+j,none⟩=some y∧d.rel Im w y) {d:DV} (hl:Jb i cs k=some d) :
  ∃ y,(loadVar t ⟨b,o+k,none⟩).run P w=.ok y w∧d.rel Im w y:=by
 unfold loadVar
 simp only[Sem.run_bind,Ij hty h,Result.andThen_ok]
 unfold Jb at hl
 cases hb:i.d.isAgg with
 | true =>
  rw[hb] at hl
  simp only[Bool.cond_eq_ite] at hl
  split at hl
  ·rename_i hk
   have hk:=Nat.le_of_ble_eq_true hk
   simp at hl
   subst hl
   have ex : ∀ (j:Nat) (hj:j<i.size),∃ y,w.cell? ⟨b,o+(k+j),none⟩=some y∧(cs[k+j]'(by omega)).rel Im w y:=fun j hj=>hr (k+j) _ (by simp)
   let f:Nat→Value:=fun j=>if hj:j<i.size then (ex j hj).choose else undef
   have hf : ∀ j,(hj:j<i.size)→w.cell? ((⟨b,o+k,none⟩:Addr).add j)=some (f j):=by
    intro j hj
    rw[Dy,Nat.add_assoc]
    simp only[f,hj,dif_pos]
    exact (ex j hj).choose_spec.1
   have hrun:=run_loadCells (P:=P) w ⟨b,o+k,none⟩ i.size f hf
   refine ⟨.agg ((List.range i.size).map f).toArray,by simp[Bn hty h,hrun],?_⟩
   rw[DV.rel]
   refine ⟨_,rfl,DV.relL_mk (by simp;omega) fun j d y hd hy => ?_⟩
   simp only[List.getElem?_take,List.getElem?_drop] at hd
   split at hd
   ·rename_i hj
    simp[List.getElem?_map,hj] at hy
    subst hy
    have:=(ex j hj).choose_spec.2
    simp only[f,hj,dif_pos]
    have he:cs[k+j]'(by omega)=d:=by
     rw[List.getElem?_eq_getElem (by omega)] at hd
     exact Option.some.inj hd
    rw[← he]
    exact this
   ·cases hd
  ·simp at hl
 | false =>
  rw[hb] at hl
  obtain ⟨y,hy,hry⟩:=hr k d hl
  exact ⟨y,by simp[hy],hry⟩
theorem Mi {Im:Nat→Nat→Prop} {cs:List DV} {vs:Array Value} {T:TypeId} {b:Nat} (hb:w.heap[b]? = some (.cells vs T (0,0))) (hr:DV.relL Im w cs vs.toList) (j:Nat) (d:DV) (hd:cs[j]? = some d) : ∃ y,w.cell? ⟨b,0+j,none⟩=some y∧d.rel Im w y:=by
 obtain ⟨y,hy,h2⟩:=DV.relL_get hr hd
 refine ⟨y,?_,h2⟩
 have hy':vs[j]? = some y:=by simpa using hy
 simp[World.cell?,hb,hy']
theorem Sc {fields:Array Field} {i off:Nat} {t:TypeId} (h:(fields.toList.map fun f=>(f.offset,f.type))[i]? = some (off,t)) : ∃ f:Field,fields[i]? = some f∧f.offset=off∧f.type=t:=by
 rw[List.getElem?_map] at h
 cases hf:fields.toList[i]? with
 | none=>rw[hf] at h;cases h
 | some f =>
  rw[hf] at h
  simp at h
  exact ⟨f,by simpa using hf,h.1,h.2⟩
theorem Ra {Im:Nat→Nat→Prop} {cs xs:List DV} {vs us:List Value} (h:DV.relL Im w cs vs) (k:DV.relL Im w xs us) (o:Nat):DV.relL Im w (Ei cs o xs) (vs.take o ++ us ++ vs.drop (o+us.length)):=by
 unfold Ei
 rw[DV.relL_length k]
 exact DV.relL_append (DV.relL_append (DV.relL_take h o) k) (DV.relL_drop h _)
theorem Mb {Im:Nat→Nat→Prop} {d:DV} {y:Value} (h:d.rel Im w y) (ho:Bs d.cells=true):DV.relL Im w d.cells y.cells.toList:=by
 refine DV.cells_rel h ?_
 cases d with
 | agg cs=>exact .inr ⟨_,rfl⟩
 | v x=>simp[DV.cells,Bs] at ho;exact .inl ho
 | sl n cs=>exact .inl rfl
 | tup cs=>simp[DV.cells,Bs,DV.one] at ho
 | ifc t x=>exact .inl rfl
 | bx x=>exact .inl rfl
theorem Mc {Im:Nat→Nat→Prop} : ∀ {ds:List DV} {ys:List Value},Bs ds=true→DV.relL Im w ds ys → ∀ v ∈ ys,v.oneCell'=true
 | [],ys,h,k,v,hv=>by rw[DV.relL] at k;subst k;cases hv
 | d::ds,ys,h,k,v,hv=>by
  rw[DV.relL] at k
  obtain ⟨u,us,rfl,h2,h3⟩:=k
  simp only[Bs,Bool.and_eq_true] at h
  rcases List.mem_cons.1 hv with rfl | hv
  ·exact DV.one_rel h2 h.1
  ·exact Mc h.2 h3 v hv
theorem Nz (off:Nat) : ∀ (us:List Value) (k:Nat) (cs:Array Value),off+k+us.length≤cs.size →
  (us.zipIdx k).foldl (fun cs (c,j)=>cs.setIfInBounds (off+j) c) cs=(cs.toList.take (off+k) ++ us ++ cs.toList.drop (off+k+us.length)).toArray
 | [],k,cs,h=>by simp
 | u::us,k,cs,h=>by
  simp only[List.length_cons] at h
  rw[List.zipIdx_cons,List.foldl_cons,Nz off us (k+1) _ (by simp;omega)]
  apply Array.ext'
  simp only[Array.toList_setIfInBounds]
  rw[List.take_set,List.drop_set]
  apply List.ext_getElem?
  intro j
  simp only[List.append_assoc,List.getElem?_append,List.length_take,List.length_set,Array.length_toList,List.length_cons,List.length_nil]
  have e1:min (off+(k+1)) cs.size=off+k+1:=by omega
  have e2:min (off+k) cs.size=off+k:=by omega
  rw[e1,e2]
  by_cases h1:j<off+k
  ·have:j<off+k+1:=by omega
   simp only[this,h1,if_true]
   rw[List.getElem?_set]
   have : ¬ (off+k=j):=by omega
   simp only[this,if_false]
   rw[List.getElem?_take,List.getElem?_take,if_pos (by omega),if_pos (by omega)]
  ·by_cases h2:j=off+k
   ·subst h2
    simp
    rw[List.getElem?_set_self (by simp;omega)]
   ·have h3 : ¬ j<off+k+1:=by omega
    simp only[h3,h1,if_false]
    have e3:j-(off+k)=(j-(off+k+1))+1:=by omega
    rw[e3]
    simp only[List.getElem?_cons_succ,Nat.add_lt_add_iff_right]
    by_cases h4:j-(off+k+1)<us.length
    ·simp[h4,List.getElem?_append]
    ·have h5:off+(k+1)+us.length=off+k+(us.length+1):=by omega
     have h6 : ¬ (off+k+(us.length+1)≤off+k):=by omega
     simp[h4,h5,List.getElem?_append,h6]
     try congr 1
     try omega
theorem Io {Im:Nat→Nat→Prop} (place:Nat→Option (Nat×Nat)) : ∀ (ds:List (Nat×DV)) (cs:List DV) (vs:Array Value) (ys:List (Nat×Value)) (out:List DV),DV.relL Im w cs vs.toList→ys.map (·.1)=ds.map (·.1)→DV.relL Im w (ds.map (·.2)) (ys.map (·.2)) →
  Hr place cs ds=some out → ∃ us,Instr.fill place vs ys=some us∧DV.relL Im w out us.toList
 | [],cs,vs,ys,out,h1,h2,h3,h4=>by
  simp at h2
  subst h2
  simp[Hr] at h4
  subst h4
  exact ⟨vs,rfl,h1⟩
 | (i,d)::ds,cs,vs,[],out,h1,h2,h3,h4=>by simp at h2
 | (i,d)::ds,cs,vs,(j,y)::ys,out,h1,h2,h3,h4=>by
  simp only[List.map_cons,List.cons.injEq] at h2
  obtain ⟨rfl,h2⟩:=h2
  simp only[List.map_cons] at h3
  rw[DV.relL] at h3
  obtain ⟨u,us,he,h5,h6⟩:=h3
  simp only[List.cons.injEq] at he
  obtain ⟨rfl,rfl⟩:=he
  unfold Hr at h4
  split at h4
  ·rename_i off size hp
   simp only[Bool.cond_eq_ite] at h4
   split at h4
   ·rename_i hc
    simp only[Bool.and_eq_true] at hc
    have c1:=Nat.eq_of_beq_eq_true hc.1.1
    have c2:=Nat.le_of_ble_eq_true hc.1.2
    have hcells:=Mb h5 hc.2
    have hlen:=DV.relL_length hcells
    have hlv:=DV.relL_length h1
    have hs:=Ra h1 hcells off
    have hsz:y.cells.size=size:=by rw[← c1,← hlen];simp
    have hle:off+y.cells.size≤vs.size:=by
     have:vs.toList.length=vs.size:=by simp
     omega
    have hfold:(y.cells.zipIdx.foldl (fun cs (c,j)=>cs.setIfInBounds (off+j) c) vs)=(vs.toList.take off ++ y.cells.toList ++ vs.toList.drop (off+y.cells.toList.length)).toArray:=by
     have:=Nz off y.cells.toList 0 vs (by simpa using hle)
     rw[Nat.add_zero] at this
     rw[← this,← Array.foldl_toList]
     congr 1
     simp
    obtain ⟨us,k1,k2⟩:=Io place ds _ (vs.toList.take off ++ y.cells.toList ++ vs.toList.drop (off+y.cells.toList.length)).toArray ys out (by simpa using hs) h2 h6 h4
    refine ⟨us,?_,k2⟩
    unfold Instr.fill
    simp only[hp,hsz]
    have : ¬ (off+size>vs.size):=by omega
    simp only[ne_eq,not_true_eq_false,decide_false,Bool.false_or,decide_eq_true_eq,this,if_false]
    rw[hfold]
    exact k1
   ·simp at h4
  ·simp at h4
theorem Mt (hty:Cy P ty) : ∀ (l:List Field),(∀ f ∈ l,(ty f.type).isSome=true) → ∃ places,l.mapM (fun f=>(P.info? f.type).map fun i=>(f.offset,i.size))=some places ∧ ∀ i p,Fz ty (l.map fun f=>(f.offset,f.type)) i=some p→places[i]? = some p
 | [],_=>⟨[],rfl,fun i p h=>by simp[Fz] at h⟩
 | f::l,hl=>by
  obtain ⟨places,h1,h2⟩:=Mt hty l fun f' h'=>hl f' (by simp[h'])
  have hf:=hl f (by simp)
  cases ht:ty f.type with
  | none=>rw[ht] at hf;cases hf
  | some j =>
   obtain ⟨info,z,k1,k2,_⟩:=Hf hty ht
   refine ⟨(f.offset,j.size)::places,by simp[List.mapM_cons,k1,k2,h1],fun i p hp => ?_⟩
   cases i with
   | zero=>simp[Fz,ht] at hp;simp[hp]
   | succ i=>exact h2 i p (by simpa [Fz] using hp)
theorem Pp {place place':Nat→Option (Nat×Nat)} (h : ∀ i p,place i=some p→place' i=some p) : ∀ (ds:List (Nat×DV)) (cs out:List DV),Hr place cs ds=some out→Hr place' cs ds=some out
 | [],cs,out,k=>k
 | (i,d)::ds,cs,out,k=>by
  unfold Hr at k ⊢
  split at k
  ·rename_i off size hp
   rw[h i _ hp]
   simp only[Bool.cond_eq_ite] at k ⊢
   split at k
   ·rename_i hc
    rw[if_pos hc]
    exact Pp h ds _ _ k
   ·cases k
  ·cases k
theorem Hl (R:RelG W0 I0 g s a w) : ∀ {ps:List (Nat×Operand)} {ds:List (Nat×DV)},s.parts ps=some ds→(ps.map fun p=>(p.1,a.eval p.2)).map (·.1)=ds.map (·.1)∧DV.relL g.Im w (ds.map (·.2)) ((ps.map fun p=>(p.1,a.eval p.2)).map (·.2))
 | [],ds,h=>by simp[AS.parts] at h;subst h;exact ⟨rfl,by simp[DV.relL]⟩
 | (i,x)::ps,ds,h=>by
  unfold AS.parts at h
  split at h
  ·rename_i d ds' h1 h2
   simp at h
   subst h
   obtain ⟨k1,k2⟩:=Hl R h2
   refine ⟨by simpa using k1,?_⟩
   simp only[List.map_cons]
   rw[DV.relL]
   exact ⟨_,_,rfl,R.dv h1,k2⟩
  ·cases h
end
end Go.Proofs.YtfkfpkhgoijfdaaGreatDoor
