/- Arguments that are data (api.Datum), slices of data, [2]bool: opened as finite trees. -/
import Derived.Test.YtfkfpkhgoijfdaaGreatDoorVlE
import Derived.Test.YtfkfpkhgoijfdaaGreatDoorOpK
import Derived.Test.YtfkfpkhgoijfdaaGreatDoorRows
import Derived.SliceStrings
namespace Go.Proofs.YtfkfpkhgoijfdaaGreatDoor
open Go.ChangeShapes Go.WideShapes Go.ChangeAt Go.RowKit Go.Joins
set_option linter.unusedVariables false
set_option maxRecDepth 100000
def old (W:World):Nat→Nat→Prop:=fun g _=>g<W.heap.size
section
variable {H:Type}
theorem a8f (d:DataW H):1≤Rows.uptoBulk d:=by cases d<;>(try rename_i l;cases l)<;>simp[Rows.uptoBulk]
theorem Sl : ∀ (ds:List (DataW H)),ds.length≤Rows.uptoBulkAll ds
 | []=>by simp[Rows.uptoBulkAll]
 | d::ds=>by
  have h1:=a8f d
  have h2:=Sl ds
  rw[Rows.uptoBulkAll,List.length_cons]
  omega
theorem Rq : ∀ {ds:List (DataW H)} {d:DataW H},d ∈ ds→Rows.uptoBulk d≤Rows.uptoBulkAll ds
 | e::ds,d,h=>by
  rw[Rows.uptoBulkAll]
  rcases List.mem_cons.1 h with rfl | h
  ·omega
  ·have:=Rq h
   omega
end
theorem Pn {Im:Nat→Nat→Prop} {W:World} {g:Nat} : ∀ {ds es:List DV} {o:Nat},DV.relC Im W g ds o→DV.relC Im W g es (o+ds.length)→DV.relC Im W g (ds ++ es) o
 | [],es,o,_,h=>by simpa using h
 | d::ds,es,o,h1,h2=>by
  rw[List.cons_append,DV.relC]
  rw[DV.relC] at h1
  exact ⟨h1.1,h1.2.1,Pn h1.2.2 (by rw[List.length_cons] at h2;rw[show o+1+ds.length=o+(ds.length+1) by omega];exact h2)⟩
section
variable {H:Type} {enc:TypeId×Value→H} {P:Program} {W:World} {base:Nat} {held:Bool}
theorem a3f {a:Addr} {n:Nat} {cs:List Value} (h:W.cells? base a n=some cs) (hn:0<n):a.spot=none:=by
 obtain ⟨_,hl,hc⟩:=World.cells?_some h
 have h0:=hc 0 hn
 rw[List.getElem?_eq_getElem (by omega)] at h0
 rw[show a.add 0=a by unfold Addr.add;simp] at h0
 unfold World.cell? at h0
 split at h0
 ·split at h0
  ·cases h0
  ·rename_i hs
   cases hs':a.spot with
   | none=>rfl
   | some z=>rw[hs'] at hs;exact absurd rfl hs
 ·cases h0
theorem a0c {g o:Nat} {u:Value} (h:W.cell? ⟨g,o,none⟩=some u):old W g o:=by
 unfold World.cell? at h
 split at h
 ·rename_i e
  exact (Array.getElem?_eq_some_iff.1 e).1
 ·cases h
theorem a2h {g o n:Nat} {cs:List Value} {ds:List DV} (hc:W.cells? base ⟨g,o,none⟩ n=some cs) (h:DV.relL (old W) W ds cs):DV.relC (old W) W g ds o:=by
 obtain ⟨_,hl,h2⟩:=World.cells?_some hc
 have h3 : ∀ j u,cs[j]? = some u→W.cell? ⟨g,o+j,none⟩=some u:=fun j u hu=>by
  have:=h2 j (by have:=(List.getElem?_eq_some_iff.1 hu).1;omega)
  rw[Dy,hu] at this
  exact this
 exact Fl h (fun j hj=>a0c (h3 j _ (List.getElem?_eq_getElem hj))) h3
theorem Uq {g:Nat} : ∀ (len o:Nat),(∀ i,i<len → ∃ (d:Dm) (cs:List Value),d.small∧W.cells? base ⟨g,o+i*6,none⟩ 6=some cs∧DV.relL (old W) W d.cells cs) →
  ∃ is:List Dm,is.length=len∧Dn is∧DV.relC (old W) W g (Ad is) o
 | 0,o,_=>⟨[],rfl,by rw[Dn];trivial,by rw[Ad,DV.relC];trivial⟩
 | len+1,o,h=>by
  obtain ⟨d,cs,h1,h2,h3⟩:=h 0 (by omega)
  obtain ⟨is,k1,k2,k3⟩:=Uq len (o+6) (fun i hi=>by
   have:=h (i+1) (by omega)
   rw[show o+(i+1)*6=o+6+i*6 by omega] at this
   exact this)
  rw[Nat.zero_mul,Nat.add_zero] at h2
  refine ⟨d::is,by simp[k1],by rw[Dn];exact ⟨h1,k2⟩,?_⟩
  rw[Ad]
  exact Pn (a2h h2 h3) (by rw[Hu];exact k3)
end
section
variable {H:Type} {enc:TypeId×Value→H} {W:World} {base:Nat} {held:Bool}
theorem Uk:Tryz.prog.cellsOf 27=6:=by kernel_rfl
theorem a4l:Tryz.prog.cellsOf 23=1:=by kernel_rfl
theorem Ub:Tryz.prog.cellsOf 9=1:=by kernel_rfl
theorem a4u:Tryz.prog.cellsOf 22=1:=by kernel_rfl
theorem a38:Tryz.prog.cellsOf 24=1:=by kernel_rfl
theorem a00:Tryz.prog.cellsOf 25=2:=by kernel_rfl
theorem a8p:Tryz.prog.cellsOf 4=1:=by kernel_rfl
theorem Zj {N fuel:Nat} {cs:List Value} {x:DataW H×List MemPlace} (ih : ∀ n,n<fuel → ∀ {cs:List Value} {x:DataW H×List MemPlace},DataW.trod enc Tryz.prog W base (fun _=>true) held n 27 cs=some x→Rows.uptoBulk x.1≤N → ∃ d:Dm,d.small∧DV.relL (old W) W d.cells cs)
  (hN:N≤1073741824) (h:DataW.trod enc Tryz.prog W base (fun _=>true) held fuel 22 cs=some x) (hb:Rows.uptoBulk x.1≤N) :
  ∃ (is:List Dm) (v:Value),cs=[v]∧is.length≤N∧Dn is∧DV.rel (old W) W (.sl is.length (Ad is)) v:=by
 rcases DataW.trod_slice Tryz.underlying22 h with ⟨rfl,_⟩ | ⟨a,len,cap,elems,rest,n,rfl,rfl,rfl,_,hle,hm,hlen,hel,hsp,_⟩
 ·exact ⟨[],_,rfl,Nat.zero_le _,by rw[Dn];trivial,by rw[DV.rel];exact .inl ⟨none,rfl,rfl,by rw[Ad]⟩⟩
 ·have hbe:Rows.uptoBulkAll (elems.map (·.1))+1≤N:=by
   simp only[Rows.uptoBulk] at hb
   omega
  have hln:=Sl (elems.map (·.1))
  rw[List.length_map] at hln
  rw[Uk] at hel hsp
  by_cases hc:cap=0
  ·subst hc
   obtain rfl:len=0:=by omega
   exact ⟨[],_,rfl,Nat.zero_le _,by rw[Dn];trivial,by rw[DV.rel];exact .inl ⟨some a,rfl,rfl,by rw[Ad]⟩⟩
  ·have hs:a.spot=none:=by
    by_cases h0:0<len
    ·have:=hel 0 h0
     rw[List.getElem?_eq_getElem (by omega),Option.bind_eq_some_iff] at this
     obtain ⟨cs',h1,_⟩:=this
     have:=a3f h1 (by omega)
     rwa[show a.add (0*6)=a by unfold Addr.add;simp] at this
    ·obtain ⟨hr1,hr2⟩:=hsp rfl
     have:=hr2 0 (by omega)
     rw[List.getElem?_eq_getElem (by omega),Option.bind_eq_some_iff] at this
     obtain ⟨cs',h1,_⟩:=this
     have:=a3f h1 (by omega)
     obtain rfl:len=0:=by omega
     rwa[show a.add ((0+0)*6)=a by unfold Addr.add;simp] at this
   obtain ⟨g,o,sp⟩:=a
   simp only at hs
   subst hs
   obtain ⟨is,k1,k2,k3⟩:=Uq (W:=W) (base:=base) (g:=g) len o (fun i hi=>by
    have:=hel i hi
    rw[List.getElem?_eq_getElem (by omega),Option.bind_eq_some_iff,Dy] at this
    obtain ⟨cs',h1,h2⟩:=this
    have hmem:elems[i].1 ∈ elems.map (·.1):=List.mem_map.2 ⟨_,List.getElem_mem _,rfl⟩
    obtain ⟨d,d1,d2⟩:=ih n (by omega) h2 (by have:=Rq hmem;omega)
    exact ⟨d,cs',d1,h1,d2⟩)
   subst k1
   exact ⟨is,_,rfl,by omega,k2,by rw[DV.rel];exact .inr ⟨g,o,cap,rfl,hle,hm,k3⟩⟩
theorem a66 {N fuel:Nat} {cs:List Value} {x:DataW H×List MemPlace} (h:DataW.trod enc Tryz.prog W base (fun _=>true) held fuel 24 cs=some x) (hb:Rows.uptoBulk x.1≤N) :
  ∃ (ns:List L8) (v:Value),cs=[v]∧ns.length≤N∧(∀ n ∈ ns,n.length≤N)∧DV.rel (old W) W (.sl ns.length (Av ns)) v:=by
 rcases open_strings Tryz.underlying24 Tryz.underlying9 Ub h with ⟨rfl,_⟩ | ⟨a,len,cap,ss,rfl,_,hl,hm,hz,rfl,hcell,_⟩
 ·exact ⟨[],_,rfl,Nat.zero_le _,fun n h=>(List.not_mem_nil h).elim,by rw[DV.rel];exact .inl ⟨none,rfl,rfl,rfl⟩⟩
 ·simp only[if_true] at hz
  by_cases hc:cap=0
  ·subst hc
   obtain rfl:len=0:=by omega
   exact ⟨[],_,rfl,Nat.zero_le _,fun n h=>(List.not_mem_nil h).elim,by rw[DV.rel];exact .inl ⟨some a,rfl,rfl,rfl⟩⟩
  ·have hs:a.spot=none:=by
    have:=hcell 0 (by omega)
    rw[show a.add 0=a by unfold Addr.add;simp] at this
    unfold World.cell? at this
    split at this
    ·split at this
     ·cases this
     ·rename_i hs
      cases hs':a.spot with
      | none=>rfl
      | some z=>rw[hs'] at hs;exact absurd rfl hs
    ·cases this
   obtain ⟨g,o,sp⟩:=a
   simp only at hs
   subst hs
   have hbe:Rows.uptoBulkAll (strs (H:=H) (ss.take len))+1≤N:=by
    simp only[Rows.uptoBulk] at hb
    omega
   have hln:=Sl (strs (H:=H) (ss.take len))
   have hlen:(ss.take len).length=len:=by rw[List.length_take];omega
   unfold strs at hln hbe
   rw[List.length_map,hlen] at hln
   refine ⟨(ss.take len).map fun s=>s.data.toList,_,rfl,by rw[List.length_map,hlen];omega,fun n hn => ?_,?_⟩
   ·obtain ⟨s,hs,rfl⟩:=List.mem_map.1 hn
    have:=Rq (List.mem_map.2 ⟨s,hs,rfl⟩:(DataW.lit (Lit.string s.data.toList):DataW H) ∈ (ss.take len).map fun s=>.lit (.string s.data.toList))
    simp only[Rows.uptoBulk] at this
    omega
   ·rw[DV.rel,List.length_map,hlen]
    refine .inr ⟨g,o,cap,rfl,hl,hm,DV.relC_mk fun i d hd => ?_⟩
    have hi:i<len:=by
     have:=(List.getElem?_eq_some_iff.1 hd).1
     simp only[Av,List.length_map,hlen] at this
     exact this
    have hc:=hcell i (by omega)
    rw[Dy] at hc
    refine ⟨a0c hc,_,hc,?_⟩
    have hg:(ss.take len)[i]? = some (ss.getD i ByteArray.empty):=by
     rw[List.getElem?_take,if_pos hi,List.getD,List.getElem?_eq_getElem (by omega)]
     rfl
    simp only[Av,List.getElem?_map,hg,Option.map_some,Option.some.injEq] at hd
    subst hd
    rw[DV.rel,← Xs]
theorem b7h {fuel:Nat} {cs:List Value} {x:DataW H×List MemPlace} (h:DataW.trod enc Tryz.prog W base (fun _=>true) held fuel 25 cs=some x) : ∃ p q:Bool,cs=[.bool p,.bool q]:=by
 obtain ⟨xs,m,rfl,rfl,hl,hxl,hf⟩:=DataW.trod_array Tryz.underlying25 h
 rw[a00] at hl
 rw[a8p] at hf
 match cs,hl with
 | [c0,c1],_ =>
  match xs,hxl with
  | [x0,x1],_ =>
   have h0:DataW.trod enc Tryz.prog W base (fun _=>true) held m 4 [c0]=some x0:=hf 0 (by decide)
   have h1:DataW.trod enc Tryz.prog W base (fun _=>true) held m 4 [c1]=some x1:=hf 1 (by decide)
   obtain ⟨p,e0,_⟩:=DataW.trod_bool Tryz.underlying4 h0
   obtain ⟨q,e1,_⟩:=DataW.trod_bool Tryz.underlying4 h1
   cases e0
   cases e1
   exact ⟨p,q,rfl⟩
theorem Yu {N:Nat} (hN:N≤1073741824) (fuel:Nat) : ∀ {cs:List Value} {x:DataW H×List MemPlace},DataW.trod enc Tryz.prog W base (fun _=>true) held fuel 27 cs=some x→Rows.uptoBulk x.1≤N → ∃ d:Dm,d.small∧DV.relL (old W) W d.cells cs:=by
 induction fuel using Nat.strongRecOn with
 | ind fuel ih =>
  intro cs x h hb
  obtain ⟨xs,n,rfl,rfl,hl,hxl,hf⟩:=DataW.trod_struct Tryz.underlying27 h
  rw[Uk] at hl
  match cs,hl with
  | [c0,c1,c2,c3,c4,c5],_ =>
   match xs,hxl with
   | [x0,x1,x2,x3,x4],_ =>
    have h0:DataW.trod enc Tryz.prog W base (fun _=>true) held n 23 [c0]=some x0:=by
     have:DataW.trod enc Tryz.prog W base (fun _=>true) held n 23 ((([c0,c1,c2,c3,c4,c5]:List Value).drop 0).take (Tryz.prog.cellsOf 23))=some x0:=hf 0 _ rfl
     rw[a4l] at this
     exact this
    have h1:DataW.trod enc Tryz.prog W base (fun _=>true) held n 9 [c1]=some x1:=by
     have:DataW.trod enc Tryz.prog W base (fun _=>true) held n 9 ((([c0,c1,c2,c3,c4,c5]:List Value).drop 1).take (Tryz.prog.cellsOf 9))=some x1:=hf 1 _ rfl
     rw[Ub] at this
     exact this
    have h2:DataW.trod enc Tryz.prog W base (fun _=>true) held n 22 [c2]=some x2:=by
     have:DataW.trod enc Tryz.prog W base (fun _=>true) held n 22 ((([c0,c1,c2,c3,c4,c5]:List Value).drop 2).take (Tryz.prog.cellsOf 22))=some x2:=hf 2 _ rfl
     rw[a4u] at this
     exact this
    have h3:DataW.trod enc Tryz.prog W base (fun _=>true) held n 24 [c3]=some x3:=by
     have:DataW.trod enc Tryz.prog W base (fun _=>true) held n 24 ((([c0,c1,c2,c3,c4,c5]:List Value).drop 3).take (Tryz.prog.cellsOf 24))=some x3:=hf 3 _ rfl
     rw[a38] at this
     exact this
    have h4:DataW.trod enc Tryz.prog W base (fun _=>true) held n 25 [c4,c5]=some x4:=by
     have:DataW.trod enc Tryz.prog W base (fun _=>true) held n 25 ((([c0,c1,c2,c3,c4,c5]:List Value).drop 4).take (Tryz.prog.cellsOf 25))=some x4:=hf 4 _ rfl
     rw[a00] at this
     exact this
    simp only[List.map_cons,List.map_nil,Rows.uptoBulk,Rows.uptoBulkAll] at hb
    obtain ⟨k,e0,_⟩:=DataW.trod_int Tryz.underlying23 h0
    obtain ⟨s,e1,ex1,_⟩:=DataW.trod_string Tryz.underlying9 h1
    obtain ⟨is,v2,e2,l2,s2,r2⟩:=Zj (N:=N) (fun m hm cs x=>ih m (by omega)) hN h2 (by omega)
    obtain ⟨ns,v3,e3,l3,s3,r3⟩:=a66 (N:=N) h3 (by omega)
    obtain ⟨p,q,e4⟩:=b7h h4
    cases e0
    cases e1
    cases e2
    cases e3
    cases e4
    subst ex1
    simp only[Rows.uptoBulk] at hb
    refine ⟨.mk k s.data.toList is ns p q,?_,?_⟩
    ·rw[Dm.small]
     exact ⟨by omega,by omega,by omega,fun n hn=>by have:=s3 n hn;omega,s2⟩
    ·rw[Dm.cells]
     have hv : ∀ z:Value,DV.rel (old W) W (.v z) z:=fun z=>by rw[DV.rel]
     have hn:DV.relL (old W) W [] []:=by rw[DV.relL]
     have cons : ∀ {d:DV} {ds:List DV} {u:Value} {us:List Value},DV.rel (old W) W d u→DV.relL (old W) W ds us→DV.relL (old W) W (d::ds) (u::us):=fun h1 h2=>by rw[DV.relL];exact ⟨_,_,rfl,h1,h2⟩
     rw[← Xs]
     exact cons (hv _) (cons (hv _) (cons r2 (cons r3 (cons (hv _) (cons (hv _) hn)))))
theorem a16 {b:Nat} {r:Reach} {v:Value} {d:DataW H} {p:List MemPlace} (hv:Value.okWide Tryz.prog W r b 27 v) (h:DataW.Trod enc Tryz.prog W base (fun _=>true) held 27 v d p) (hb:Rows.uptoBulk d≤1048576) :
  ∃ (k:Int) (t:L8) (is:List Dm) (ns:List L8) (p q:Bool),(Dm.mk k t is ns p q).small∧(Ov k t is ns p q).rel (old W) W v:=by
 obtain ⟨cs,rfl,hsz⟩:=okWide_struct Tryz.underlying27 hv
 obtain ⟨fuel,hf⟩:=h
 obtain ⟨⟨k,t,is,ns,p,q⟩,h1,h2⟩:=Yu (N:=1048576) (by decide) fuel hf hb
 refine ⟨k,t,is,ns,p,q,h1,?_⟩
 rw[Dm.cells] at h2
 rw[DV.rel]
 exact ⟨cs,rfl,h2⟩
theorem Ve {v:Value} {d:DataW H} {p:List MemPlace} {b:Nat} {r:Reach} (hv:Value.okWide Tryz.prog W r b 22 v) (h:DataW.Trod enc Tryz.prog W base (fun _=>true) held 22 v d p) (hb:Rows.uptoBulk d≤1048576) :
  ∃ is:List Dm,is.length≤1048576∧Dn is∧(DV.sl is.length (Ad is)).rel (old W) W v:=by
 obtain ⟨a,l,c,rfl⟩:=okWide_slice Tryz.underlying22 hv
 obtain ⟨fuel,hf⟩:=h
 obtain ⟨is,v,e,h1,h2,h3⟩:=Zj (N:=1048576) (fun m hm cs x=>Yu (by decide) m) (by decide) hf hb
 cases e
 exact ⟨is,h1,h2,h3⟩
end
theorem HasC.walkR {f:FuncId} {ds:List DV} {vs:Array Value} (h:HasC Tryz.prog f ds (fun y=>y=.v (.bool true))) (w:World) (hr:DV.relL (old w) w ds vs.toList) (hk:Kw w):Calls Tryz.prog f vs w fun e w'=>e=.returned (.bool true)∧Below w.heap.size w w' :=
 (h.2.2 w vs (old w) hk (fun _ _ h=>h) hr).mono fun e w' ⟨r,y,h1,h2,h3,h4⟩=>by
  subst h2
  rw[DV.rel] at h3
  subst h3
  exact ⟨h1,h4⟩
theorem Di {Im:Nat→Nat→Prop} {W:World} {d:DV} {ds:List DV} {u:Value} {us:List Value} (h1:DV.rel Im W d u) (h2:DV.relL Im W ds us):DV.relL Im W (d::ds) (u::us):=by rw[DV.relL];exact ⟨_,_,rfl,h1,h2⟩
theorem Sj {Im:Nat→Nat→Prop} {W:World}:DV.relL Im W [] []:=by rw[DV.relL]
end Go.Proofs.YtfkfpkhgoijfdaaGreatDoor
