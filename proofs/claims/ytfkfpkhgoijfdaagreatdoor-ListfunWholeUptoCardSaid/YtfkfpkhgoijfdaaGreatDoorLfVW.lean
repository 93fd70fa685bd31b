/- slices.Delete of a row of one's own; listfun.Remove, listfun.Replace. listfun.Remove, listfun.Replace. slices.Reverse of a row of one's own; listfun.Reverse. -/
import Derived.Test.YtfkfpkhgoijfdaaGreatDoorLfX
import Derived.Deep.RegionHeld3
import Derived.Deep.RegionLaw
import Derived.Shelf.RegionOpenPlain
import Derived.Lib.SliceRun
import Derived.Test.YtfkfpkhgoijfdaaGreatDoorLfQ
namespace Go.Proofs.YtfkfpkhgoijfdaaGreatDoor
open Go.RowKit Go.Lib Go.Shelf
set_option linter.unusedVariables false
set_option linter.unusedSimpArgs false
theorem Cells.take {Im:Nat→Nat→Prop} {W:World} {vs:List Vl} {ys:List Value} (h:Cells Im W vs ys) (k:Nat):Cells Im W (vs.take k) (ys.take k) :=
 ⟨by simp[h.len],fun j v hj=>(by
  rw[List.getElem?_take] at hj ⊢
  split at hj
  ·rename_i q;rw[if_pos q];exact h.rel j v hj
  ·cases hj),fun u hu=>h.one u (List.mem_of_mem_take hu)⟩
theorem Cells.drop {Im:Nat→Nat→Prop} {W:World} {vs:List Vl} {ys:List Value} (h:Cells Im W vs ys) (k:Nat):Cells Im W (vs.drop k) (ys.drop k) :=
 ⟨by simp[h.len],fun j v hj=>(by rw[List.getElem?_drop] at hj ⊢;exact h.rel _ v hj),fun u hu=>h.one u (List.mem_of_mem_drop hu)⟩
theorem Cells.app {Im:Nat→Nat→Prop} {W:World} {vs ws:List Vl} {ys zs:List Value} (h:Cells Im W vs ys) (k:Cells Im W ws zs):Cells Im W (vs ++ ws) (ys ++ zs):=by
 refine ⟨by simp[h.len,k.len],fun j v hj => ?_,fun u hu=>(List.mem_append.1 hu).elim (h.one u) (k.one u)⟩
 rcases Nat.lt_or_ge j vs.length with q | q
 ·rw[List.getElem?_append_left q] at hj
  rw[List.getElem?_append_left (by rw[h.len];exact q)]
  exact h.rel j v hj
 ·rw[List.getElem?_append_right q] at hj
  rw[List.getElem?_append_right (by rw[h.len];exact q),h.len]
  exact k.rel _ v hj
theorem Cells.put {Im:Nat→Nat→Prop} {W:World} {vs:List Vl} {ys:List Value} {x:Vl} {y:Value} (h:Cells Im W vs ys) (k:Nat) (hx:DV.rel Im W (BV x) y) (h1:y.oneCell'=true):Cells Im W (vs.set k x) (ys.set k y):=by
 refine ⟨by simp[h.len],fun j v hj => ?_,fun u hu=>(List.mem_or_eq_of_mem_set hu).elim (h.one u) (fun e=>by rw[e];exact h1)⟩
 rw[List.getElem?_set] at hj ⊢
 split at hj
 ·rename_i e
  subst e
  split at hj
  ·rename_i q
   cases hj
   rw[if_pos rfl,if_pos (by rw[h.len];exact q)]
   exact ⟨y,rfl,hx⟩
  ·cases hj
 ·rename_i e
  rw[if_neg e]
  exact h.rel j v hj
def Lt {α:Type} (vs:List α) (k:Nat):List α:=vs.take k ++ vs.drop (k+1)
open Go.RowKit Go.Lib
set_option linter.unusedVariables false
set_option linter.unusedSimpArgs false
theorem Cells.rem {Im:Nat→Nat→Prop} {W:World} {vs:List Vl} {ys:List Value} (h:Cells Im W vs ys) (k:Nat):Cells Im W (Lt vs k) (Lt ys k):=(h.take k).app (h.drop (k+1))
theorem a90 {w:World} {g n cap k:Nat} {ys:List Value} {u:Value} (h:Own1 w g n cap ys) (hk:k<n) : ∀ (j:Nat) (v:Value),(ys.set k u)[j]? = some v→(w.setCell ⟨g,k,none⟩ u).cell? ⟨g,j,none⟩=some v:=fun j v hj=>by
 obtain ⟨v0,hv0⟩:=Option.isSome_iff_exists.1 (h.some k (Nat.lt_of_lt_of_le hk h.le))
 rw[List.getElem?_set] at hj
 split at hj
 ·rename_i e
  subst e
  split at hj
  ·cases hj
   exact World.cell?_setCell_same _ _ _ hv0
  ·cases hj
 ·rename_i e
  exact (World.cell?_setCell_other w ⟨g,k,none⟩ ⟨g,j,none⟩ u (fun q=>e (by injection q))).trans (h.cell j v hj)
theorem Mj {w:World} {b k:Nat} {v0 q:Value} (hc:w.cell? ⟨b,k,none⟩=some v0) (hf:w.frozen? ⟨b,k,none⟩=false) (h1:q.oneCell'=true):(store ⟨b,k,none⟩ q).run Tryz.prog w=.ok () (w.setCell ⟨b,k,none⟩ q):=by
 rw[run_store _ _ _ _ _ h1,hc]
 simp only[hf]
 rfl
open Go.RowKit Go.Lib
set_option linter.unusedVariables false
set_option linter.unusedSimpArgs false
structure RevP (ys:List Value) (i:Nat) (ds:List Value):Prop where
 len:ds.length=ys.length
 at' : ∀ t,t<ys.length→ds[t]? = if t<i∨ys.length-i≤t then ys[ys.length-1-t]? else ys[t]?
 one : ∀ u ∈ ds,u.oneCell'=true
theorem RevP.zero {ys:List Value} (h : ∀ u ∈ ys,u.oneCell'=true):RevP ys 0 ys:=⟨rfl,fun t ht=>by rw[if_neg (by omega)],h⟩
theorem RevP.fin {ys ds:List Value} {i:Nat} (h:RevP ys i ds) (hi:ys.length≤2*i+1):ds=ys.reverse:=by
 refine List.ext_getElem? fun t => ?_
 rcases Nat.lt_or_ge t ys.length with q | q
 ·rw[h.at' t q,List.getElem?_reverse q]
  split
  ·rfl
  ·rw[show ys.length-1-t=t by omega]
 ·rw[List.getElem?_eq_none (by rw[h.len];exact q),List.getElem?_eq_none (by simpa using q)]
theorem RevP.swap {ys ds:List Value} {i j:Nat} {a b:Value} (h:RevP ys i ds) (hij:i<j) (hj:j+i+1=ys.length) (ha:ds[i]? = some a) (hb:ds[j]? = some b):RevP ys (i+1) ((ds.set i b).set j a):=by
 have hl:=h.len
 refine ⟨by simp[hl],fun t ht => ?_,fun u hu => ?_⟩
 ·have ei:=h.at' i (by omega)
  have ej:=h.at' j (by omega)
  rw[if_neg (by omega),ha] at ei
  rw[if_neg (by omega),hb] at ej
  rw[List.getElem?_set,List.length_set]
  split
  ·rename_i e
   subst e
   rw[if_pos (by omega),if_pos (by omega),show ys.length-1-j=i by omega,← ei]
  ·rename_i e
   rw[List.getElem?_set]
   split
   ·rename_i e2
    subst e2
    rw[if_pos (by omega),if_pos (by omega),show ys.length-1-i=j by omega,← ej]
   ·rename_i e2
    rw[h.at' t ht]
    by_cases q:t<i∨ys.length-i≤t
    ·rw[if_pos q,if_pos (by omega)]
    ·rw[if_neg q,if_neg (by omega)]
 ·rcases List.mem_or_eq_of_mem_set hu with k | k
  ·rcases List.mem_or_eq_of_mem_set k with k | k
   ·exact h.one u k
   ·rw[k];exact h.one b (List.mem_of_getElem? hb)
  ·rw[k];exact h.one a (List.mem_of_getElem? ha)
theorem Cells.rev {Im:Nat→Nat→Prop} {W:World} {vs:List Vl} {ys:List Value} (h:Cells Im W vs ys):Cells Im W vs.reverse ys.reverse:=by
 have hl:=h.len
 refine ⟨by simp[hl],fun j v hj => ?_,fun u hu=>h.one u (List.mem_reverse.1 hu)⟩
 have hj':j<vs.length:=by have:=(List.getElem?_eq_some_iff.1 hj).1;simpa using this
 rw[List.getElem?_reverse hj'] at hj
 rw[List.getElem?_reverse (by rw[hl];exact hj'),hl]
 exact h.rel _ v hj
theorem Own1.put {w:World} {g n cap k:Nat} {ys:List Value} {u:Value} (h:Own1 w g n cap ys) (hk:k<n):Own1 (w.setCell ⟨g,k,none⟩ u) g n cap (ys.set k u) :=
 ⟨by rw[List.length_set];exact h.len,a90 h hk,fun j hj=>isSome_setCells g [u] k w (fun t ht=>h.some _ (by simp at ht;have:=h.le;omega)) j (h.some j hj),fun j=>(World.frozen?_setCells g [u] k w ⟨g,j,none⟩).trans (h.free j),h.le,h.max,by rw[show (w.setCell ⟨g,k,none⟩ u).heap.size=w.heap.size by simp[World.setCell]];exact h.lt⟩
theorem Own1.drew {w:World} {g n cap:Nat} {ys:List Value} (h:Own1 w g n cap ys):Own1 w.drew g n cap ys:=h.below (Mg w)
set_option maxHeartbeats 4000000 in
set_option maxRecDepth 1000000 in
theorem Tl {w:World} {base g n cap:Nat} {ys:List Value} (O:Own1 w g n cap ys) (hb:base≤g) (h1 : ∀ u ∈ ys,u.oneCell'=true) (hn:n≤1073741824) :
  Calls Tryz.prog 44 #[.slice (some ⟨g,0,none⟩) n cap] w fun e w'=>e=.returned (.tuple #[])∧Hid (Own1 w' g n cap ys.reverse∧Below base w w'):=by
 have HH:Hid (Own1 w g n cap ys∧Below base w w∧RevP ys 0 ys):=⟨O,Below.refl _ _,RevP.zero h1⟩
 have hlen:=O.len
 clear O h1
 go_enter Tryz.func44,Tryz.ntmps44
 go_wp2_with fail
 go_loopg [2,3] n (fun kk s2 s3 wr => ∃ (i:Nat) (jz:Int) (ds:List Value),s2=.int .i64 i∧s3=.int .i64 jz∧jz=(n:Int)-1-i∧i≤n∧n-i≤kk∧Hid (Own1 wr g n cap ds∧Below base w wr∧RevP ys i ds))
 case atStart=>exact ⟨0,_,ys,rfl,rfl,by omega,by omega,by omega,HH.out⟩
 case round =>
  obtain ⟨i,jz,ds,rfl,rfl,hj,hi,hk,HR⟩:=hrel
  by_cases hlt:(i:Int)<jz
  ·obtain ⟨j,rfl⟩ : ∃ j:Nat,jz=j:=⟨jz.toNat,by omega⟩
   obtain ⟨a,ha⟩ : ∃ a,ds[i]? = some a:=⟨_,List.getElem?_eq_getElem (by rw[HR.out.2.2.len];omega)⟩
   obtain ⟨b,hb'⟩ : ∃ a,ds[j]? = some a:=⟨_,List.getElem?_eq_getElem (by rw[HR.out.2.2.len];omega)⟩
   have ci:wr.cell? ⟨g,i,none⟩=some a:=HR.out.1.cell i a ha
   have cj:wr.cell? ⟨g,j,none⟩=some b:=HR.out.1.cell j b hb'
   have O':=HR.out.1.drew
   have di:wr.drew.cell? ⟨g,i,none⟩=some a:=O'.cell i a ha
   have dj:wr.drew.cell? ⟨g,j,none⟩=some b:=O'.cell j b hb'
   have fi:wr.drew.frozen? ⟨g,i,none⟩=false:=O'.free i
   have fj:wr.drew.frozen? ⟨g,j,none⟩=false:=O'.free j
   have iz:(i:Int)<(n:Int):=by omega
   have jz:(j:Int)<(n:Int):=by omega
   have a1:a.oneCell'=true:=HR.out.2.2.one a (List.mem_of_getElem? ha)
   have b1:b.oneCell'=true:=HR.out.2.2.one b (List.mem_of_getElem? hb')
   have si:(store ⟨g,i,none⟩ b).run Tryz.prog wr.drew=.ok () (wr.drew.setCell ⟨g,i,none⟩ b):=Mj di fi b1
   have O2:=O'.put (u:=b) (k:=i) (by omega)
   have dj2:(wr.drew.setCell ⟨g,i,none⟩ b).cell? ⟨g,j,none⟩=some b:=O2.cell j b (by rw[List.getElem?_set,if_neg (by omega)];exact hb')
   have sj:(store ⟨g,j,none⟩ a).run Tryz.prog (wr.drew.setCell ⟨g,i,none⟩ b)=.ok () ((wr.drew.setCell ⟨g,i,none⟩ b).setCell ⟨g,j,none⟩ a):=Mj dj2 (O2.free j) a1
   have O3:=O2.put (u:=a) (k:=j) (by omega)
   have HR2:Hid (Own1 ((wr.drew.setCell ⟨g,i,none⟩ b).setCell ⟨g,j,none⟩ a) g n cap ((ds.set i b).set j a)∧Below base w ((wr.drew.setCell ⟨g,i,none⟩ b).setCell ⟨g,j,none⟩ a)∧RevP ys (i+1) ((ds.set i b).set j a)):=⟨O3,((HR.out.2.1.drew).setCell hb _).setCell hb _,HR.out.2.2.swap (by omega) (by have:=HR.out.1.len;have:=HR.out.2.2.len;omega) ha hb'⟩
   have dj3:(wr.setCell ⟨g,i,none⟩ b).drew.cell? ⟨g,j,none⟩=some b:=dj2
   have fj3:(wr.setCell ⟨g,i,none⟩ b).drew.frozen? ⟨g,j,none⟩=false:=O2.free j
   have sj3:(store ⟨g,j,none⟩ a).run Tryz.prog (wr.setCell ⟨g,i,none⟩ b).drew=.ok () ((wr.setCell ⟨g,i,none⟩ b).drew.setCell ⟨g,j,none⟩ a):=sj
   have HJ:Hid _:=hj
   clear O' O2 O3 ha hb' ci cj dj2 hj
   go_wp2_with fail
   go_big_region
   all_goals go_wp2
   all_goals go_roundg (n-(i+1))
   case measure=>omega
   case rel=>exact ⟨i+1,_,_,by go_num,rfl,by have:=HJ.out;omega,by omega,by omega,HR2⟩
  ·go_wp2_with fail
   go_end0
   exact ⟨rfl,by rw[← HR.out.2.2.fin (by omega)];exact HR.out.1,HR.out.2.1⟩
set_option maxHeartbeats 1000000 in
theorem a1g (w:World) (A:Option Addr) (c:Nat):Calls Tryz.prog 44 #[.slice A 0 c] w fun e w'=>e=.returned (.tuple #[])∧w'=w:=by
 go_enter Tryz.func44,Tryz.ntmps44
 go_wp2
 go_loopg [2,3] 0 (fun _ s2 s3 wr=>s2=.int .i64 0∧s3=.int .i64 (-1)∧wr=w)
 case atStart=>exact ⟨rfl,rfl,rfl⟩
 case round =>
  obtain ⟨rfl,rfl,rfl⟩:=hrel
  go_wp2
  go_end0
  exact ⟨rfl,rfl⟩
theorem b32:HasC Tryz.prog 44 [.sl 0 []] (fun r=>r=.tup []):=by
 refine ⟨fun args w=>Tryz.call44 args w,⟨_,rfl⟩,fun W vs' Im hKw hIm hr => ?_⟩
 obtain ⟨y,rfl,hy⟩:=b6d hr
 obtain ⟨A,cap,rfl⟩:=Fj hy
 refine (a1g W A cap).mono ?_
 rintro e w' ⟨rfl,rfl⟩
 exact ⟨_,_,rfl,rfl,by rw[DV.rel];exact ⟨#[],rfl,by rw[DV.relL]⟩,Below.refl _ _⟩
theorem a1l:HasC Tryz.prog 18 [.sl 0 ([])] (fun r => ∃ v,IsV r v∧v=Ce []):=by
 refine hO [] Tryz.f18 (fun a w=>Tryz.call18 a w) Tryz.func18 rfl (⟨_,_,.inl rfl,rfl⟩) ?_
 refine Aa rfl (iQ 1 (iE 10 [(0,.d (.sl 0 ([]))),(2,.p 2 0)] [(2,[.v (.nilIface)])] ?_))
 refine Aa rfl (iQ 1 (eC 43 [.sl 0 ([])] 5 (Ds) (iQ 1 (iE 10 [(2,.p 2 0),(3,.d (.sl 0 ([])))] [(2,[.v (.nilIface)])] ?_))))
 refine Aa rfl (iQ 1 (eC 44 [.sl 0 ([])] 7 (b32) (iE 10 [(2,.p 2 0),(3,.d (.sl 0 ([])))] [(2,[.v (.nilIface)])] ?_)))
 refine Aa rfl (iQ 1 (eC 42 [.sl 0 ([])] 9 (Pl (vs:=[]) (by simp)) (iQ 1 (iE 10 [(2,.p 2 0),(3,.d (.sl 0 ([])))] [(2,[.bx (Ce []).enc])] ?_))))
 refine Ab (iR (.agg [.bx (Ce []).enc]) ?_)
 exact ⟨_,.inl rfl,rfl⟩
set_option maxHeartbeats 4000000 in
set_option maxRecDepth 1000000 in
theorem a04 {vs:List Vl} (hl:vs.length≤1073741823) (h0:0<vs.length):HasC Tryz.prog 18 [.sl vs.length (An vs)] (fun r => ∃ v,IsV r v∧v=Ce vs.reverse):=by
 refine ⟨fun args w=>Tryz.call18 args w,⟨_,_,.inl rfl,rfl⟩,fun W vs' Im hKw hIm hr => ?_⟩
 obtain ⟨y,rfl,hy⟩:=b6d hr
 obtain ⟨A,cap,rfl⟩:=Fj hy
 have HY:RelH _ _ _ _:=⟨hy⟩
 have HI:Hid _:=hIm
 have HK:Hid _:=hKw
 clear hy hIm hKw hr
 have hXs:(W.alloc (.cells #[.nilIface] 36)).heap.size=W.heap.size+1:=by simp
 obtain ⟨b,o,ys,rfl,hC,hcell⟩:=Zn HY.out h0
 have hbW:b<W.heap.size:=by
  have:=hcell 0 _ (List.getElem?_eq_getElem (by rw[hC.len];omega))
  exact block_lt_of_cell this
 have hcW : ∀ w',Below W.heap.size W w' → ∀ (i:Nat) (v:Value),ys[i]? = some v→w'.cell? ⟨b,o+i,none⟩=some v:=fun w' hw i v hi=>(Bh (hw.block b hbW)).trans (hcell i v hi)
 have HC:Hid _:=And.intro hC hcW
 clear hC hcW hcell
 go_enter Tryz.func18,Tryz.ntmps18
 go_wp2_with fail
 refine (Tz (W:=W) (w2:=W.alloc (.cells #[.nilIface] 36)) (X:=W.alloc (.cells #[.nilIface] 36)) (ys:=ys) (Below.refl _ _) (Az W _) HC.out.2 h0 HC.out.1.len HC.out.1.one (by omega)).mono ?_
 rintro e w3 ⟨g,cap',rfl,g1,g2,O,hcur,hb23,_⟩
 rw[hXs] at g2
 go_wp2_with fail
 refine (Tl (base:=W.heap.size+1) O g2 HC.out.1.one (by omega)).mono ?_
 rintro e w4 ⟨rfl,H4⟩
 go_wp2_with fail
 have hB4:Hid (Below (W.heap.size+1) (W.alloc (.cells #[.nilIface] 36)) w4):=by
  have h:=hb23.out
  rw[hXs] at h
  exact h.trans H4.out.2
 have O4:=H4.out.1
 have hcm:=a0v (zs:=vs.reverse) HK.out ((Az W _).trans (hB4.out.mono (by omega))) HI.out (Cells.rev HC.out.1) O4.cell (by rw[O4.len];exact O4.le) O4.max O4.lt (by simp;omega)
 rw[O4.len] at hcm
 refine hcm.mono ?_
 clear hcm
 rintro e w5 ⟨q,rfl,hq,hb45,hq1⟩
 have hb25:Hid (Below (W.heap.size+1) (W.alloc (.cells #[.nilIface] 36)) w5):=hB4.out.trans (hb45.mono (by have:=hB4.out.size;rw[hXs] at this;omega))
 have s4:=hB4.out.size
 rw[hXs] at s4
 have s5:=hb45.size
 have o4:=O4.lt
 have r6:w5.heap[W.heap.size]? = some (.cells #[.nilIface] 36 (0,0)):=(hb25.out.block _ (by omega)).trans (Cn W _)
 have c6q:w5.cell? ⟨W.heap.size,0,none⟩=some .nilIface:=Ap r6 rfl
 have hst:(store ⟨W.heap.size,0,none⟩ q).run Tryz.prog w5=.ok () (w5.setCell ⟨W.heap.size,0,none⟩ q):=Is c6q (Cb r6) hq1
 clear r6
 have cz:(w5.setCell ⟨W.heap.size,0,none⟩ q).cell? ⟨W.heap.size,0,none⟩=some q:=Kn c6q
 go_wp2_with fail
 (try simp only[Exit.inBlock,Exit.then])
 refine bodyPost_ret (v:=.agg #[q]) (by simp[results,Tryz.results18,go_sem,cz];try rfl) rfl ?_
 exact ⟨_,VV (Ce vs.reverse),rfl,⟨_,.inl rfl,rfl⟩,a2q HI.out hq (Nat.le_refl _) (by omega) (by omega) (by omega),(((Az W _).trans (hb25.out.mono (by omega))).setCell (Nat.le_refl _) _)⟩
theorem Oc {vs:List Vl} (hl:vs.length≤1073741823):HasC Tryz.prog 18 [.sl vs.length (An vs)] (fun r=>r=VV (Ce vs.reverse)):=by
 rcases Nat.eq_zero_or_pos vs.length with h | h
 ·rw[List.length_eq_zero_iff.1 h]
  exact a1l.isV.mono fun r ⟨v,e1,e2⟩=>by rw[e1,e2];rfl
 ·exact (a04 hl h).isV.mono fun r ⟨v,e1,e2⟩=>by rw[e1,e2]
end Go.Proofs.YtfkfpkhgoijfdaaGreatDoor
