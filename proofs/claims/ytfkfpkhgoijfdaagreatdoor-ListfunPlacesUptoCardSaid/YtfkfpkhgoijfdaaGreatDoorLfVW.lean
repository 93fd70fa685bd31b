/- slices.Delete of a row of one's own; listfun.Remove, listfun.Replace. listfun.Remove, listfun.Replace. -/
import Derived.Test.YtfkfpkhgoijfdaaGreatDoorLfX
import Derived.Deep.RegionHeld3
import Derived.Deep.RegionLaw
import Derived.Shelf.RegionOpenPlain
import Derived.Lib.SliceRun
import Derived.Test.YtfkfpkhgoijfdaaGreatDoorLfQ
namespace Go.Proofs.YtfkfpkhgoijfdaaGreatDoor
open Go.RowKit Go.Lib Go.Shelf
set_option linter.unusedVariables false
set_option linter.unusedSimpArgs false
set_option maxRecDepth 1000000 in
theorem b8y : ∃ info,Tryz.prog.info? 36=some info∧info.size=1∧info.zero=some (.agg #[.nilIface]):=⟨_,rfl,rfl,rfl⟩
theorem a1r (w:World) (ty:TypeId) (b o n c:Nat) (hn:0<n) (hc : ∀ j,j<n→(w.cell? ⟨b,o+j,none⟩).isSome=true) (hf : ∀ j,j<n→w.frozen? ⟨b,o+j,none⟩=false) :
  (Builtin.clear_ #[30] ty #[.slice (some ⟨b,o,none⟩) n c]).run Tryz.prog w=.ok (.tuple #[]) (w.setCells b o (List.replicate n .nilIface)):=by
 obtain ⟨info,i1,i2,i3⟩:=b8y
 have hz : ∀ w,(zeroValue 36).run Tryz.prog w=.ok (.agg #[.nilIface]) w:=fun w=>by simp[zeroValue,typeInfo,i1,i3]
 have hzc:(Builtin.zeroCells #[.nilIface] n).toList=List.replicate n .nilIface:=by
  simp[Builtin.zeroCells]
  apply List.ext_getElem
  ·simp
  ·intro i h1 h2
   simp[Nat.mod_one]
 have hst:=run_storeCells_cells (P:=Tryz.prog) b o (List.replicate n .nilIface) 0 w (by simpa using hc) (by simpa using hf) (by intro v hv';rw[List.eq_of_mem_replicate hv'];rfl)
 simp only[Nat.add_zero] at hst
 obtain ⟨m,rfl⟩ : ∃ m,n=m+1:=⟨n-1,by omega⟩
 simp[Builtin.clear_,run_underlying Fl,hz,show (Value.agg #[.nilIface]).cells=#[.nilIface] from rfl,hzc,hst]
set_option maxHeartbeats 4000000 in
set_option maxRecDepth 1000000 in
theorem Wz {w:World} {g n cap i j:Nat} {ys:List Value} (O:Own1 w g n cap ys) (hij:i<j) (hj:j≤n) (h1 : ∀ u ∈ ys,u.oneCell'=true) :
  Calls Tryz.prog 49 #[.slice (some ⟨g,0,none⟩) n cap,.int .i64 i,.int .i64 j] w fun e w'=>e=.returned (.slice (some ⟨g,0,none⟩) (i+(n-j)) cap)∧w'=(w.drew.setCells g i (ys.drop j)).setCells g (i+(n-j)) (List.replicate (n-(i+(n-j))) .nilIface):=by
 obtain ⟨info,i1,i2,i3⟩:=b8y
 have hu:=Fl
 have hmx:=mixed
 obtain ⟨hcl,hcs,hsp,hfz,hle,hmax,hlt⟩:=O
 have hc63:cap≤9223372036854775807:=by unfold maxLen at hmax;omega
 obtain ⟨news,hnews⟩ : ∃ news,news=ys.drop j:=⟨_,rfl⟩
 have hlen:news.length=n-j:=by rw[hnews,List.length_drop,hcl]
 obtain ⟨A,hA,hsrc⟩ : ∃ A:Addr,(if cap=j then some (⟨g,0,none⟩:Addr) else some ⟨g,j,none⟩)=some A∧Hid (∀ t u,news[t]? = some u→w.drew.cell? (A.add t)=some u):=by
  by_cases h:cap=j
  ·refine ⟨⟨g,0,none⟩,by simp[h],fun t u hu => ?_⟩
   rw[List.length_eq_zero_iff.1 (show news.length=0 by omega)] at hu
   simp at hu
  ·refine ⟨⟨g,j,none⟩,by simp[h],fun t u hu => ?_⟩
   rw[hnews,List.getElem?_drop] at hu
   rw[Addr.add_lit]
   exact hcs (j+t) u hu
 have s1:Hid (news.length=(n-j)*1):=by rw[Nat.mul_one];exact hlen
 have s2:Hid (∀ u ∈ news,u.oneCell'=true):=fun u hu=>h1 u (List.mem_of_mem_drop (by rw[← hnews];exact hu))
 have s3:Hid (∀ t,t<news.length→(w.drew.cell? ⟨g,0+i*1+t,none⟩).isSome=true∧w.drew.frozen? ⟨g,0+i*1+t,none⟩=false):=fun t ht=>⟨hsp (0+i*1+t) (by omega),hfz _⟩
 obtain ⟨W1,hW1⟩ : ∃ W1,W1=w.drew.setCells g (0+i*1) news:=⟨_,rfl⟩
 have hk1 : ∀ k,k<cap→(W1.cell? ⟨g,k,none⟩).isSome=true:=fun k hk=>by
  rw[hW1]
  exact isSome_setCells g news (0+i*1) w.drew (fun t ht=>(s3.out t ht).1) k (hsp k hk)
 have hcl1 : ∀ ty,(Builtin.clear_ #[30] ty #[.slice (some ⟨g,i+(n-j),none⟩) (n-(i+(n-j))) (cap-(i+(n-j)))]).run Tryz.prog W1=.ok (.tuple #[]) (W1.setCells g (i+(n-j)) (List.replicate (n-(i+(n-j))) .nilIface)):=fun ty =>
  a1r W1 ty g (i+(n-j)) _ _ (by omega) (fun t ht=>hk1 _ (by omega)) (fun t ht=>by rw[hW1,World.frozen?_setCells];exact hfz _)
 have hW:Hid (W1=w.drew.setCells g (0+i*1) news):=hW1
 have HN:Hid (news=ys.drop j):=hnews
 have hic:i≤cap:=by omega
 have hjc:j≤cap:=by omega
 have hjn:(j:Int)≤(n:Int):=by omega
 clear hW1 hlen hcs hsp hfz hk1 hnews hcl
 go_enter Tryz.func49,Tryz.ntmps49
 go_wp2_with fail
 go_region_law_o (refine step_append_room rfl (.tmp 22) (.tmp 25) 30 rfl 36 info 1 Fl i1 i2 g 0 i cap (by simp[Act.eval,Act.put]) A (n-j) (cap-j) news (by simp[Act.eval,Act.put]) s1.out hsrc.out s2.out (by omega) s3.out ?_;rw[← hW.out])
 go_wp2
 go_ret
 exact ⟨rfl,by rw[hW.out,HN.out,Nat.zero_add,Nat.mul_one]⟩
theorem Cells.take {Im:Nat→Nat→Prop} {W:World} {vs:List Vl} {ys:List Value} (h:Cells Im W vs ys) (k:Nat):Cells Im W (vs.take k) (ys.take k) :=
 ⟨by simp[h.len],fun j v hj=>(by
  rw[List.getElem?_take] at hj ⊢
  split at hj
  ·rename_i q;rw[if_pos q];exact h.rel j v hj
  ·cases hj),fun u hu=>h.one u (List.mem_of_mem_take hu)⟩
theorem Cells.drop {Im:Nat→Nat→Prop} {W:World} {vs:List Vl} {ys:List Value} (h:Cells Im W vs ys) (k:Nat):Cells Im W (vs.drop k) (ys.drop k) :=
 ⟨by simp[h.len],fun j v hj=>(by rw[List.getElem?_drop] at hj ⊢;exact h.rel _ v hj),fun u hu=>h.one u (List.mem_of_mem_drop hu)⟩
theorem Cells.app {Im:Nat→Nat→Prop} {W:World} {vs ws:List Vl} {ys zs:List Value} (h:Cells Im W vs ys) (k:Cells Im W ws zs):Cells Im W (vs ++ ws) (ys ++ zs):=by
 refine ⟨by simp[h.len,k.len],fun j v hj => ?_,fun u hu=>(List.mem_append.1 hu).elim (h.one u) (k.one u)⟩
 rcases Nat.lt_or_ge j vs.length with q | q
 ·rw[List.getElem?_append_left q] at hj
  rw[List.getElem?_append_left (by rw[h.len];exact q)]
  exact h.rel j v hj
 ·rw[List.getElem?_append_right q] at hj
  rw[List.getElem?_append_right (by rw[h.len];exact q),h.len]
  exact k.rel _ v hj
theorem Cells.put {Im:Nat→Nat→Prop} {W:World} {vs:List Vl} {ys:List Value} {x:Vl} {y:Value} (h:Cells Im W vs ys) (k:Nat) (hx:DV.rel Im W (BV x) y) (h1:y.oneCell'=true):Cells Im W (vs.set k x) (ys.set k y):=by
 refine ⟨by simp[h.len],fun j v hj => ?_,fun u hu=>(List.mem_or_eq_of_mem_set hu).elim (h.one u) (fun e=>by rw[e];exact h1)⟩
 rw[List.getElem?_set] at hj ⊢
 split at hj
 ·rename_i e
  subst e
  split at hj
  ·rename_i q
   cases hj
   rw[if_pos rfl,if_pos (by rw[h.len];exact q)]
   exact ⟨y,rfl,hx⟩
  ·cases hj
 ·rename_i e
  rw[if_neg e]
  exact h.rel j v hj
def Ei {α:Type} (vs:List α) (k:Nat):List α:=vs.take k ++ vs.drop (k+1)
theorem Mu {α:Type} {vs:List α} {k:Nat} (h:k<vs.length):(Ei vs k).length=k+(vs.length-(k+1)):=by simp[Ei];omega
theorem b1z {w3 Y:World} {base g n cap i:Nat} {ys:List Value} (hY:Below w3.heap.size w3 Y) (O:Own1 w3 g n cap ys) (hbase:base≤g) (hi:i<n) (h1 : ∀ u ∈ ys,u.oneCell'=true) :
  Calls Tryz.prog 49 #[.slice (some ⟨g,0,none⟩) n cap,.int .i64 i,.int .i64 ((i:Int)+1)] Y fun e w'=>e=.returned (.slice (some ⟨g,0,none⟩) (Ei ys i).length cap)∧(Ei ys i).length≤cap∧cap≤maxLen∧g<w'.heap.size∧Hid (∀ (j:Nat) (u:Value),(Ei ys i)[j]? = some u→w'.cell? ⟨g,j,none⟩=some u)∧Hid (Below base w3 w'):=by
 have O':=O.below hY
 have hl:(Ei ys i).length=i+(n-(i+1)):=by rw[Mu (by rw[O.len];exact hi),O.len]
 refine (Wz O' (Nat.lt_succ_self i) hi h1).mono ?_
 rintro e w' ⟨rfl,rfl⟩
 have hs1 : ∀ t,t<(ys.drop (i+1)).length→(Y.drew.cell? ⟨g,i+t,none⟩).isSome=true:=fun t ht=>O'.some _ (by have:=O'.le;rw[List.length_drop,O.len] at ht;omega)
 refine ⟨by rw[hl],by rw[hl];have:=O.le;omega,O.max,by rw[Co,Co];exact O'.lt,fun j u hj => ?_,Cg hbase _ _ _ (Cg hbase _ _ _ (hY.mono (Nat.le_trans hbase (Nat.le_of_lt O.lt))).drew)⟩
 have hjl:j<i+(n-(i+1)):=by rw[← hl];exact (List.getElem?_eq_some_iff.1 hj).1
 rw[World.cell?_setCells_out g _ _ _ _ (fun _ _=>.inl hjl)]
 have ht:(ys.take i).length=i:=by rw[List.length_take,O.len];omega
 rcases Nat.lt_or_ge j i with q | q
 ·rw[Ei,List.getElem?_append_left (by rw[ht];exact q),List.getElem?_take,if_pos q] at hj
  rw[World.cell?_setCells_out g _ _ _ _ (fun _ _=>.inl q)]
  exact O'.cell j u hj
 ·rw[Ei,List.getElem?_append_right (by rw[ht];exact q),ht] at hj
  obtain ⟨h2,h3⟩:=List.getElem?_eq_some_iff.1 hj
  have:=World.cell?_setCells_in g (ys.drop (i+1)) i Y.drew hs1 (j-i) h2
  rw[show i+(j-i)=j by omega,h3] at this
  exact this
open Go.RowKit Go.Lib
set_option linter.unusedVariables false
set_option linter.unusedSimpArgs false
def Ss (vs:List Vl) (a:Int):Vl:=match plc vs.length a with
 | some k=>Dl (Ei vs k)
 | none=>.null
theorem a2v {vs:List Vl} {a:Int} (h:plc vs.length a=none):Ss vs a=.null:=by simp[Ss,h]
theorem Rv {vs:List Vl} {a:Int} {k:Nat} (h:plc vs.length a=some k):Ss vs a=Dl (Ei vs k):=by simp[Ss,h]
theorem Cells.rem {Im:Nat→Nat→Prop} {W:World} {vs:List Vl} {ys:List Value} (h:Cells Im W vs ys) (k:Nat):Cells Im W (Ei vs k) (Ei ys k):=(h.take k).app (h.drop (k+1))
set_option maxHeartbeats 4000000 in
set_option maxRecDepth 1000000 in
theorem a9u {vs:List Vl} {a:Int} (hl:vs.length≤1073741823) (h0 : -9223372036854775808≤a) (h1:a≤9223372036854775807):HasC Tryz.prog 24 [.sl vs.length (Aq vs),.v (.int .i64 a)] (fun r => ∃ v,IsV r v∧v=Ss vs a):=by
 refine ⟨fun args w=>Tryz.call24 args w,⟨_,_,.inl rfl,rfl⟩,fun W vs' Im hKw hIm hr => ?_⟩
 obtain ⟨y1,y2,rfl,hy1,hy2⟩:=a8y hr
 obtain rfl:=Dx hy2
 obtain ⟨A,cap,rfl⟩:=Et hy1
 have HY:RelH _ _ _ _:=⟨hy1⟩
 have HI:Hid _:=hIm
 have HK:Hid _:=hKw
 clear hy1 hy2 hIm hKw hr
 go_enter Tryz.func24,Tryz.ntmps24
 go_wp2_with fail
 have hXs:(W.alloc (.cells #[.nilIface] 36)).heap.size=W.heap.size+1:=by simp
 refine ((Mn (n:=vs.length) (a:=a) (by omega) h0 h1).2.2 _ #[.int .i64 vs.length,.int .i64 a] (fun _ _=>False) (HK.out.below (Az W _)) (fun _ _ h=>h.elim) (Wi _ _)).mono ?_
 rintro e w2 ⟨r,y,rfl,⟨k,ok,rfl,hq⟩,hr,hb⟩
 obtain rfl:=Xi hr
 have HQ:Hid _:=hq
 have k6:w2.heap[W.heap.size]? = some (.cells #[.nilIface] 36 (0,0)):=(hb.block _ (by rw[hXs];omega)).trans (Cn W _)
 have c6:w2.cell? ⟨W.heap.size,0,none⟩=some .nilIface:=Ao k6 rfl
 have f6:w2.frozen? ⟨W.heap.size,0,none⟩=false:=Bq k6
 have hB2:Hid (Below W.heap.size W w2):=(Az W _).trans (hb.mono (by rw[hXs];omega))
 have hs2:=hb.size
 rw[hXs] at hs2
 have K6:Hid _:=k6
 clear hq hb hr k6
 cases ok with
 | false =>
  go_wp2_with fail
  have cz:(w2.setCell ⟨W.heap.size,0,none⟩ .nilIface).cell? ⟨W.heap.size,0,none⟩=some .nilIface:=Ff c6
  (try simp only[Exit.inBlock,Exit.then])
  refine bodyPost_ret (v:=.agg #[.nilIface]) (by simp[results,Tryz.results24,go_sem,cz];try rfl) rfl ?_
  exact ⟨_,.agg [.v .nilIface],rfl,⟨.null,IsV.null,(a2v (HQ.out.2 trivial).1).symm⟩,Sr,hB2.out.setCell (Nat.le_refl _) _⟩
 | true =>
  obtain ⟨j,hj,hk,hlt⟩:=HQ.out.1 rfl
  subst hk
  obtain ⟨b,o,ys,rfl,hC,hcell⟩:=Qk HY.out (by omega)
  have hbW:b<W.heap.size:=by
   have:=hcell 0 _ (List.getElem?_eq_getElem (by rw[hC.len];omega))
   exact block_lt_of_cell this
  have hcW : ∀ w',Below W.heap.size W w' → ∀ (i:Nat) (v:Value),ys[i]? = some v→w'.cell? ⟨b,o+i,none⟩=some v:=fun w' hw i v hi=>(Bf (hw.block b hbW)).trans (hcell i v hi)
  have HC:Hid _:=And.intro hC hcW
  have HJ:Hid _:=hj
  clear hC hcW hj hcell
  go_wp2_with fail
  refine (Oe (W:=W) (w2:=w2) (X:=w2) (ys:=ys) (Below.refl _ _) hB2.out HC.out.2 (by omega) HC.out.1.len HC.out.1.one (by omega)).mono ?_
  rintro e w3 ⟨g,cap',rfl,g1,g2,O,hcur,hb23,_⟩
  go_wp2_with fail
  refine (b1z (Below.refl _ _) O g2 hlt HC.out.1.one).mono ?_
  rintro e w4 ⟨rfl,l1,l2,l3,hc4,hb34⟩
  have hb24:Hid (Below w2.heap.size w2 w4):=hb23.out.trans hb34.out
  go_wp2_with fail
  refine (Sf HK.out (hB2.out.trans (hb24.out.mono (by omega))) HI.out (HC.out.1.rem j) hc4.out l1 l2 l3 (by rw[Mu hlt];omega)).mono ?_
  rintro e w5 ⟨q,rfl,hq,hb45,hq1⟩
  have hb25:Hid (Below w2.heap.size w2 w5):=hb24.out.trans (hb45.mono hb24.out.size)
  have s4:=hb24.out.size
  have s5:=hb45.size
  have r6:w5.heap[W.heap.size]? = some (.cells #[.nilIface] 36 (0,0)):=(hb25.out.block _ (by omega)).trans K6.out
  have c6q:w5.cell? ⟨W.heap.size,0,none⟩=some .nilIface:=Ao r6 rfl
  have hst:(store ⟨W.heap.size,0,none⟩ q).run Tryz.prog w5=.ok () (w5.setCell ⟨W.heap.size,0,none⟩ q):=Gu c6q (Bq r6) hq1
  clear r6
  have cz:(w5.setCell ⟨W.heap.size,0,none⟩ q).cell? ⟨W.heap.size,0,none⟩=some q:=Ff c6q
  go_wp2_with fail
  (try simp only[Exit.inBlock,Exit.then])
  refine bodyPost_ret (v:=.agg #[q]) (by simp[results,Tryz.results24,go_sem,cz];try rfl) rfl ?_
  exact ⟨_,VV (Dl (Ei vs j)),rfl,⟨_,.inl rfl,(Rv HJ.out).symm⟩,Xf HI.out hq (Nat.le_refl _) (by omega) (by omega) (by omega),((hB2.out.trans (hb25.out.mono (by omega))).setCell (Nat.le_refl _) _)⟩
theorem a60 {vs:List Vl} {a:Int} (hl:vs.length≤1073741823) (h0 : -9223372036854775808≤a) (h1:a≤9223372036854775807):HasC Tryz.prog 24 [.sl vs.length (Aq vs),.v (.int .i64 a)] (fun r=>r=VV (Ss vs a)):=(a9u hl h0 h1).isV.mono fun r ⟨v,e1,e2⟩=>by rw[e1,e2]
def Ro (vs:List Vl) (a:Int) (x:Vl):Vl:=match plc vs.length a with
 | some k=>Dl (vs.set k x)
 | none=>.null
theorem a16 {vs:List Vl} {a:Int} {x:Vl} (h:plc vs.length a=none):Ro vs a x=.null:=by simp[Ro,h]
theorem Qj {vs:List Vl} {a:Int} {x:Vl} {k:Nat} (h:plc vs.length a=some k):Ro vs a x=Dl (vs.set k x):=by simp[Ro,h]
theorem a6k {w:World} {g n cap k:Nat} {ys:List Value} {u:Value} (h:Own1 w g n cap ys) (hk:k<n) : ∀ (j:Nat) (v:Value),(ys.set k u)[j]? = some v→(w.setCell ⟨g,k,none⟩ u).cell? ⟨g,j,none⟩=some v:=fun j v hj=>by
 obtain ⟨v0,hv0⟩:=Option.isSome_iff_exists.1 (h.some k (Nat.lt_of_lt_of_le hk h.le))
 rw[List.getElem?_set] at hj
 split at hj
 ·rename_i e
  subst e
  split at hj
  ·cases hj
   exact World.cell?_setCell_same _ _ _ hv0
  ·cases hj
 ·rename_i e
  exact (World.cell?_setCell_other w ⟨g,k,none⟩ ⟨g,j,none⟩ u (fun q=>e (by injection q))).trans (h.cell j v hj)
theorem Vg {w:World} {b k:Nat} {v0 q:Value} (hc:w.cell? ⟨b,k,none⟩=some v0) (hf:w.frozen? ⟨b,k,none⟩=false) (h1:q.oneCell'=true):(store ⟨b,k,none⟩ q).run Tryz.prog w=.ok () (w.setCell ⟨b,k,none⟩ q):=by
 rw[run_store _ _ _ _ _ h1,hc]
 simp only[hf]
 rfl
set_option maxHeartbeats 4000000 in
set_option maxRecDepth 1000000 in
theorem a3t {vs:List Vl} {a:Int} {x:Vl} (hl:vs.length≤1073741823) (h0 : -9223372036854775808≤a) (h1:a≤9223372036854775807):HasC Tryz.prog 25 [.sl vs.length (Aq vs),.v (.int .i64 a),VV x] (fun r => ∃ v,IsV r v∧v=Ro vs a x):=by
 refine ⟨fun args w=>Tryz.call25 args w,⟨_,_,.inl rfl,rfl⟩,fun W vs' Im hKw hIm hr => ?_⟩
 obtain ⟨y1,y2,y3,rfl,hy1,hy2,hy3⟩:=b5h hr
 obtain rfl:=Dx hy2
 obtain ⟨u,rfl,hu⟩:=Ip hy3
 obtain ⟨A,cap,rfl⟩:=Et hy1
 have HY:RelH _ _ _ _:=⟨hy1⟩
 have HU:RelH _ _ _ _:=⟨hu⟩
 have HI:Hid _:=hIm
 have HK:Hid _:=hKw
 have H1:u.oneCell'=true:=by have:=hu;rw[DV.rel] at this;exact this.1
 clear hy1 hy2 hy3 hu hIm hKw hr
 go_enter Tryz.func25,Tryz.ntmps25
 go_wp2_with fail
 refine ((Mn (n:=vs.length) (a:=a) (by omega) h0 h1).2.2 _ #[.int .i64 vs.length,.int .i64 a] (fun _ _=>False) (HK.out.below (Fk W _ _)) (fun _ _ h=>h.elim) (Wi _ _)).mono ?_
 rintro e w2 ⟨r,y,rfl,⟨k,ok,rfl,hq⟩,hr,hb⟩
 obtain rfl:=Xi hr
 have HQ:Hid _:=hq
 have k5:w2.heap[W.heap.size]? = some (.cells #[u] 36 (0,0)):=(hb.block _ (by rw[Bi];omega)).trans (a7h W _ _)
 have k6:w2.heap[W.heap.size+1]? = some (.cells #[.nilIface] 36 (0,0)):=(hb.block _ (by rw[Bi];omega)).trans (Ot W _ _)
 have c5:w2.cell? ⟨W.heap.size,0,none⟩=some u:=Ao k5 rfl
 have c6:w2.cell? ⟨W.heap.size+1,0,none⟩=some .nilIface:=Ao k6 rfl
 have f6:w2.frozen? ⟨W.heap.size+1,0,none⟩=false:=Bq k6
 have hB2:Hid (Below W.heap.size W w2):=(Fk W _ _).trans (hb.mono (by rw[Bi];omega))
 have hs2:=hb.size
 rw[Bi] at hs2
 have K5:Hid _:=And.intro k5 k6
 clear hq hb hr k5 k6
 cases ok with
 | false =>
  go_wp2_with fail
  have cz:(w2.setCell ⟨W.heap.size+1,0,none⟩ .nilIface).cell? ⟨W.heap.size+1,0,none⟩=some .nilIface:=Ff c6
  (try simp only[Exit.inBlock,Exit.then])
  refine bodyPost_ret (v:=.agg #[.nilIface]) (by simp[results,Tryz.results25,go_sem,cz];try rfl) rfl ?_
  exact ⟨_,.agg [.v .nilIface],rfl,⟨.null,IsV.null,(a16 (HQ.out.2 trivial).1).symm⟩,Sr,hB2.out.setCell (Nat.le_succ _) _⟩
 | true =>
  obtain ⟨j,hj,hk,hlt⟩:=HQ.out.1 rfl
  subst hk
  obtain ⟨b,o,ys,rfl,hC,hcell⟩:=Qk HY.out (by omega)
  have hbW:b<W.heap.size:=by
   have:=hcell 0 _ (List.getElem?_eq_getElem (by rw[hC.len];omega))
   exact block_lt_of_cell this
  have hcW : ∀ w',Below W.heap.size W w' → ∀ (i:Nat) (v:Value),ys[i]? = some v→w'.cell? ⟨b,o+i,none⟩=some v:=fun w' hw i v hi=>(Bf (hw.block b hbW)).trans (hcell i v hi)
  have HC:Hid _:=And.intro hC hcW
  have HJ:Hid _:=hj
  clear hC hcW hj hcell
  go_wp2_with fail
  refine (Oe (W:=W) (w2:=w2) (X:=w2) (ys:=ys) (Below.refl _ _) hB2.out HC.out.2 (by omega) HC.out.1.len HC.out.1.one (by omega)).mono ?_
  rintro e w3 ⟨g,cap',rfl,g1,g2,O,hcur,hb23,_⟩
  obtain ⟨v0,hv0⟩:=Option.isSome_iff_exists.1 (O.some j (Nat.lt_of_lt_of_le hlt O.le))
  have hst:(store ⟨g,j,none⟩ u).run Tryz.prog w3=.ok () (w3.setCell ⟨g,j,none⟩ u):=Vg hv0 (O.free j) H1
  have c53:w3.cell? ⟨W.heap.size,0,none⟩=some u:=Ao ((hb23.out.block _ (by omega)).trans K5.out.1) rfl
  have jz:(j:Int)<(vs.length:Int):=by omega
  clear hv0
  go_wp2_with fail
  have hyl:(ys.set j u).length=vs.length:=by rw[List.length_set,HC.out.1.len]
  have hsz:(w3.setCell ⟨g,j,none⟩ u).heap.size=w3.heap.size:=by simp[World.setCell]
  have hb3s:Hid (Below w2.heap.size w2 (w3.setCell ⟨g,j,none⟩ u)):=hb23.out.setCell g2 _
  have hcm:=Sf (X:=w3.setCell ⟨g,j,none⟩ u) (zs:=vs.set j x) HK.out (hB2.out.trans (hb3s.out.mono (by omega))) HI.out (HC.out.1.put j HU.out H1) (a6k O hlt) (by rw[hyl];exact O.le) O.max (by rw[hsz];exact O.lt) (by rw[List.length_set];omega)
  rw[hyl] at hcm
  refine hcm.mono ?_
  clear hcm
  rintro e w5 ⟨q,rfl,hq,hb45,hq1⟩
  have hb25:Hid (Below w2.heap.size w2 w5):=hb3s.out.trans (hb45.mono hb3s.out.size)
  have s4:=hb23.out.size
  have s5:=hb45.size
  have o3:=O.lt
  rw[hsz] at s5
  have r6:w5.heap[W.heap.size+1]? = some (.cells #[.nilIface] 36 (0,0)):=(hb25.out.block _ (by omega)).trans K5.out.2
  have c6q:w5.cell? ⟨W.heap.size+1,0,none⟩=some .nilIface:=Ao r6 rfl
  have hst5:(store ⟨W.heap.size+1,0,none⟩ q).run Tryz.prog w5=.ok () (w5.setCell ⟨W.heap.size+1,0,none⟩ q):=Gu c6q (Bq r6) hq1
  clear r6 hyl
  have cz:(w5.setCell ⟨W.heap.size+1,0,none⟩ q).cell? ⟨W.heap.size+1,0,none⟩=some q:=Ff c6q
  go_wp2_with fail
  (try simp only[Exit.inBlock,Exit.then])
  refine bodyPost_ret (v:=.agg #[q]) (by simp[results,Tryz.results25,go_sem,cz];try rfl) rfl ?_
  exact ⟨_,VV (Dl (vs.set j x)),rfl,⟨_,.inl rfl,(Qj HJ.out).symm⟩,Xf HI.out hq (Nat.le_succ _) (by omega) (by rw[hsz];omega) (by omega),((hB2.out.trans (hb25.out.mono (by omega))).setCell (Nat.le_succ _) _)⟩
theorem a5m {vs:List Vl} {a:Int} {x:Vl} (hl:vs.length≤1073741823) (h0 : -9223372036854775808≤a) (h1:a≤9223372036854775807):HasC Tryz.prog 25 [.sl vs.length (Aq vs),.v (.int .i64 a),VV x] (fun r=>r=VV (Ro vs a x)):=(a3t hl h0 h1).isV.mono fun r ⟨v,e1,e2⟩=>by rw[e1,e2]
end Go.Proofs.YtfkfpkhgoijfdaaGreatDoor
