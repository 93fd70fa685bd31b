/- value.nested of a context and of a range. -/
import Derived.Test.YtfkfpkhgoijfdaaGreatDoorLfQ
import Derived.Deep.RegionHeld3
namespace Go.Proofs.YtfkfpkhgoijfdaaGreatDoor
open Go.RowKit Go.Lib
set_option linter.unusedVariables false
set_option linter.unusedSimpArgs false
theorem Uf {W X:World} {I0:Nat→Nat→Prop} {k:Int} {ns:List L8} {A2:Option Addr} {c2:Nat} {p q:Bool} (hb:Below W.heap.size W X) (hI : ∀ b o,I0 b o→b<X.heap.size∧b≠W.heap.size+1∧b≠W.heap.size+2)
  (b1:X.heap[W.heap.size+1]? = some (.cells #[.int .i64 0,.string ⟨#[]⟩,.slice none 0 0,.slice none 0 0,.bool false,.bool false] 27 (0,0))) (b2:X.heap[W.heap.size+2]? = some (.cells #[.int .i64 k,.string ⟨#[]⟩,.slice none 0 0,.slice A2 ns.length c2,.bool p,.bool q] 27 (0,0)))
  (hn:DV.rel I0 X (.sl ns.length (Av ns)) (.slice A2 ns.length c2)):NR W X X I0 I0 k ns A2 c2 p q none 0 [] :=
 ⟨⟨⟨[],World.ownsRow_nil _ _ _ _,by rw[Ad,DV.relL],fun _ h=>by simp at h⟩,fun b o h=>(hI b o h).1,fun b h=>(by cases h),hb⟩,b1,b2,fun g h=>(by cases h),fun b o h=>(hI b o h).2,hn,Kp.refl _ _⟩
theorem b28 (y:Value) (w:World):(Instr.typeAssert (.iface 99 y) 34 99 false).run Tryz.prog w=.ok y w:=by
 obtain ⟨fields,hd,_⟩:=(Oi 99 ⟨.struct [(0,24),(1,30)],2,[.sl 0 [],.sl 0 []],false,48⟩ (by kernel_rfl)).2.1
 simp[Instr.typeAssert,run_underlying hd]
theorem a69 (W:World) (o1 o2 o3 o4:Obj):Below W.heap.size W ((((W.alloc o1).alloc o2).alloc o3).alloc o4)∧((((W.alloc o1).alloc o2).alloc o3).alloc o4).heap[W.heap.size+1]? = some o2∧((((W.alloc o1).alloc o2).alloc o3).alloc o4).heap[W.heap.size+2]? = some o3∧((((W.alloc o1).alloc o2).alloc o3).alloc o4).heap[W.heap.size+3]? = some o4∧((((W.alloc o1).alloc o2).alloc o3).alloc o4).heap.size=W.heap.size+4:=by
 have h2:=Bo W o1 o2
 have h3:=b3t ((W.alloc o1).alloc o2) o3 o4
 have h4:=Rt ((W.alloc o1).alloc o2) o3 o4
 have h5:=Bo ((W.alloc o1).alloc o2) o3 o4
 rw[h2] at h3 h4 h5
 exact ⟨(Hj W _ _).trans ((Hj _ _ _).mono (by rw[h2];omega)),Hd (Hd (Rt W _ _)),h3,h4,h5⟩
theorem a1v {W X:World} {Im:Nat→Nat→Prop} {ns:List L8} {y:Value} (hn1:ns.length≤1073741824) (hK:Kw W) (hI : ∀ b o,Im b o→b<W.heap.size) (hB:Below W.heap.size W X) (hy:DV.rel Im W (.sl ns.length (Av ns)) y) :
  Calls Tryz.prog 61 #[y] X.drew fun e w3 => ∃ A2 c2,e=.returned (.slice A2 ns.length c2)∧RelH (fun b o=>Im b o∨(X.heap.size≤b∧b<w3.heap.size)) w3 (.sl ns.length (Av ns)) (.slice A2 ns.length c2)∧Hid (Below X.heap.size X w3):=by
 refine ((a01 hn1).2.2 X.drew #[y] Im (hK.below hB.drew) (fun b o h=>Nat.lt_of_lt_of_le (hI b o h) hB.size) (by rw[DV.relL];exact ⟨_,[],rfl,DV.rel_mono (fun _ _ q=>q) (fun b o q=>Bh (hB.drew.block b (hI b o q))) _ _ hy,by rw[DV.relL]⟩)).mono ?_
 rintro e w3 ⟨r,z,rfl,rfl,hr,hb⟩
 obtain ⟨A2,c2,rfl⟩:=Fj hr
 exact ⟨A2,c2,rfl,⟨hr⟩,(Mg X).trans hb⟩
theorem a3z {W XX w3 X0:World} {Im I0:Nat→Nat→Prop} {ns:List L8} {xs:List Vl} {A2:Option Addr} {c2:Nat} {y:Value} (hI : ∀ b o,Im b o→b<W.heap.size) (hBX:Below W.heap.size W XX)
  (q1:XX.heap[W.heap.size+1]? = some (.cells #[.int .i64 0,.string ⟨#[]⟩,.slice none 0 0,.slice none 0 0,.bool false,.bool false] 27 (0,0))) (q2:XX.heap[W.heap.size+2]? = some (.cells #[.int .i64 11,.string ⟨#[]⟩,.slice none 0 0,.slice none 0 0,.bool false,.bool false] 27 (0,0)))
  (hsX:XX.heap.size=W.heap.size+4) (hB3:Below XX.heap.size XX w3) (hR:RelH (fun b o=>Im b o∨(XX.heap.size≤b∧b<w3.heap.size)) w3 (.sl ns.length (Av ns)) (.slice A2 ns.length c2)) (hy:RelH Im W (.sl xs.length (An xs)) y)
  (hX0:X0=w3.setCell ⟨W.heap.size+1+1,3,none⟩ (.slice A2 ns.length c2)) (hI0:I0=fun b o=>Im b o∨(XX.heap.size≤b∧b<w3.heap.size)) :
  Below W.heap.size W X0∧NR W X0 X0 I0 I0 11 ns A2 c2 false false none 0 []∧(∀ b o,I0 b o→Im b o∨W.heap.size≤b)∧RelH I0 X0 (.sl xs.length (An xs)) y:=by
 have hB3':=hBX.trans (hB3.mono (by omega))
 have hB:Below W.heap.size W X0:=by rw[hX0];exact hB3'.setCell (show W.heap.size≤W.heap.size+1+1 by omega) _
 have s3:=hB3.size
 have hs:X0.heap.size=w3.heap.size:=by rw[hX0];simp[World.setCell]
 have hIn : ∀ b o,I0 b o→(b<W.heap.size∨W.heap.size+4≤b)∧b<w3.heap.size:=fun b o h=>by
  rw[hI0] at h
  rcases h with h | h
  ·have:=hI b o h;omega
  ·omega
 have hc : ∀ b o,I0 b o→X0.cell? ⟨b,o,none⟩=w3.cell? ⟨b,o,none⟩:=fun b o h=>by
  rw[hX0]
  refine World.cell?_setCell_other w3 ⟨W.heap.size+1+1,3,none⟩ ⟨b,o,none⟩ _ fun e => ?_
  injection e with e1
  have:=hIn b o h
  omega
 have b1:=(hB3.block _ (by omega)).trans q1
 have b2:=(hB3.block _ (by omega)).trans q2
 refine ⟨hB,Uf hB (fun b o h=>by have:=hIn b o h;omega) ?_ ?_ (by rw[← hI0] at hR;exact DV.rel_mono (fun _ _ q=>q) hc _ _ hR.out),fun b o h => ?_,⟨DV.rel_mono (fun b o q=>by rw[hI0];exact .inl q) (fun b o q => ?_) _ _ hy.out⟩⟩
 ·rw[hX0]
  simp[World.setCell,Array.getElem?_modify,b1]
 ·rw[hX0]
  simp[World.setCell,Array.getElem?_modify,b2]
 ·rw[hI0] at h
  exact h.imp id fun q=>by omega
 ·rw[hc b o (by rw[hI0];exact .inl q)]
  exact Bh (hB3'.block b (hI b o q))
set_option maxHeartbeats 4000000 in
set_option maxRecDepth 1000000 in
theorem a08 {ns:List L8} {xs:List Vl} (hn1:ns.length≤1073741824) (hl1:xs.length≤1073741824) (ih : ∀ x ∈ xs,PlC x):HasC Tryz.prog 66 [VV (.ctx ns xs),.v (.int .i64 11)] (fun r=>r=.tup [Js (plV (.ctx ns xs)),.v (.bool true)]):=by
  refine ⟨fun args w=>Tryz.call66 args w,⟨_,rfl⟩,fun W vs' Im hKw hIm hr => ?_⟩
  obtain ⟨y1,y2,rfl,hy1,hy2⟩:=b2x hr
  obtain rfl:=Ep hy2
  obtain ⟨u,rfl,hu⟩:=Kb hy1
  rw[DV.rel,Vl.enc,DV.rel] at hu
  obtain ⟨_,d,rfl,hd⟩:=hu
  rw[DV.rel] at hd
  obtain ⟨ps,rfl,hd⟩:=hd
  obtain ⟨z1,z2,rfl,hz1,hz2⟩:=b2x hd
  obtain ⟨A1,k1,rfl⟩:=Fj hz1
  obtain ⟨A,cap,rfl⟩:=Fj hz2
  have HZ:RelH _ _ _ _:=⟨hz1⟩
  have HY:RelH _ _ _ _:=⟨hz2⟩
  have HI:Hid _:=hIm
  have HK:Hid _:=hKw
  have IH:Hid _:=ih
  clear hy1 hy2 hd hz1 hz2 hIm hKw hr ih
  go_enter Tryz.func66,Tryz.ntmps66
  go_wp2_with fail
  simp only[b28,Result.andThen_ok]
  go_wp2_with fail
  obtain ⟨XX,hXX⟩ : ∃ XX,XX=((((W.alloc (.cells #[.iface 99 (.agg #[.slice A1 ns.length k1,.slice A xs.length cap])] 36)).alloc (.cells #[.int .i64 0,.string ⟨#[]⟩,.slice none 0 0,.slice none 0 0,.bool false,.bool false] 27)).alloc (.cells #[.int .i64 11,.string ⟨#[]⟩,.slice none 0 0,.slice none 0 0,.bool false,.bool false] 27)).alloc (.cells #[.slice A1 ns.length k1,.slice A xs.length cap] 99)):=⟨_,rfl⟩
  obtain ⟨hBX,hq1,hq2,hq3,hsX⟩:Below W.heap.size W XX∧XX.heap[W.heap.size+1]? = some (.cells #[.int .i64 0,.string ⟨#[]⟩,.slice none 0 0,.slice none 0 0,.bool false,.bool false] 27 (0,0))∧XX.heap[W.heap.size+2]? = some (.cells #[.int .i64 11,.string ⟨#[]⟩,.slice none 0 0,.slice none 0 0,.bool false,.bool false] 27 (0,0))∧XX.heap[W.heap.size+3]? = some (.cells #[.slice A1 ns.length k1,.slice A xs.length cap] 99 (0,0))∧XX.heap.size=W.heap.size+4:=by
    rw[hXX]
    exact a69 W _ _ _ _
  rw[← hXX]
  clear hXX
  have c1:XX.drew.cell? ⟨W.heap.size+1+1+1,0,none⟩=some (.slice A1 ns.length k1):=Ap (w:=XX) hq3 rfl
  have c2:XX.drew.cell? ⟨W.heap.size+1+1+1,1,none⟩=some (.slice A xs.length cap):=Ap (w:=XX) hq3 rfl
  have HBX:Hid _:=hBX
  have HQ1:Hid _:=hq1
  have HQ2:Hid _:=hq2
  have HQ3:Hid _:=hq3
  have HSX:Hid _:=hsX
  clear hBX hq1 hq2 hq3 hsX
  go_region_held3 (fun w'=>w'.cell? ⟨W.heap.size+1+1+1,0,none⟩=some (.slice A1 ns.length k1)∧w'.cell? ⟨W.heap.size+1+1+1,1,none⟩=some (.slice A xs.length cap)) (first | with_reducible exact ⟨c1,c2⟩ | with_reducible exact ⟨d1,d2⟩ | with_reducible exact ⟨d3,d4⟩) (
      (go_at_call 61
       refine (a1v hn1 HK.out HI.out HBX.out HZ.out).mono ?_
       rintro e w3 ⟨A2,k2,rfl,HR2,HB3⟩
       have d1:w3.cell? ⟨W.heap.size+1+1+1,0,none⟩=some (.slice A1 ns.length k1):=Ap ((HB3.out.block _ (by rw[HSX.out];omega)).trans HQ3.out) rfl
       have d2:w3.cell? ⟨W.heap.size+1+1+1,1,none⟩=some (.slice A xs.length cap):=Ap ((HB3.out.block _ (by rw[HSX.out];omega)).trans HQ3.out) rfl
       have c23:w3.cell? ⟨W.heap.size+1+1,3,none⟩=some (.slice none 0 0):=Ap ((HB3.out.block _ (by rw[HSX.out];omega)).trans HQ2.out) rfl
       have f23:w3.frozen? ⟨W.heap.size+1+1,3,none⟩=false:=Cb ((HB3.out.block _ (by rw[HSX.out];omega)).trans HQ2.out)
       have d3:(w3.setCell ⟨W.heap.size+1+1,3,none⟩ (.slice A2 ns.length k2)).cell? ⟨W.heap.size+1+1+1,0,none⟩=some (.slice A1 ns.length k1):=(World.cell?_setCell_other w3 _ _ _ (fun e=>by injection e with e1;omega)).trans d1
       have d4:(w3.setCell ⟨W.heap.size+1+1,3,none⟩ (.slice A2 ns.length k2)).cell? ⟨W.heap.size+1+1+1,1,none⟩=some (.slice A xs.length cap):=(World.cell?_setCell_other w3 _ _ _ (fun e=>by injection e with e1;omega)).trans d2))
  obtain ⟨X0,hX0⟩ : ∃ X0,X0=w3.setCell ⟨W.heap.size+1+1,3,none⟩ (.slice A2 ns.length k2):=⟨_,rfl⟩
  obtain ⟨I0,hI0⟩ : ∃ I0:Nat→Nat→Prop,I0=fun b o=>Im b o∨(XX.heap.size≤b∧b<w3.heap.size):=⟨_,rfl⟩
  obtain ⟨k1',k2',k3',k4'⟩:=a3z HI.out HBX.out HQ1.out HQ2.out HSX.out HB3.out HR2 HY hX0 hI0
  rw[← hX0]
  have HX0:Hid _:=k1'
  have HS:Hid _:=k2'
  have HO:Hid _:=k3'
  clear HY k1' k2' k3' c1 c2 d1 d2 c23 f23 d3 d4 HBX HQ1 HQ2 HQ3 HSX HB3 HR2 HZ hX0 hI0
  have HY:=k4'
  clear k4'
  go_wp2_with fail
  go_loopg [43] xs.length (fun g s43 wr => ∃ (k:Nat) (Im':Nat→Nat→Prop) (A':Option Addr) (cap':Nat),s43=.int .i64 k∧k≤xs.length∧xs.length-k≤g∧Hid (NR W X0 wr I0 Im' 11 ns A2 k2 false false A' cap' (plL (xs.take k))))
  case atStart=>exact ⟨0,I0,none,0,rfl,Nat.zero_le _,Nat.le_refl _,HS.out⟩
  case round =>
    obtain ⟨k,Im',A',cap',rfl,hk,hg,HR⟩:=hrel
    have hdl:(plL (xs.take k)).length=k:=by rw[Es,List.length_map,List.length_take];omega
    by_cases hlt:k<xs.length
    · obtain ⟨b,o,ys,rfl,hC,hcell,hIm⟩:=Gn HY.out (by omega)
      obtain ⟨x,hx⟩ : ∃ x,xs[k]? = some x:=⟨_,List.getElem?_eq_getElem hlt⟩
      obtain ⟨u,hu,hux⟩:=hC.rel k x hx
      have c1:wr.cell? ⟨b,o+k,none⟩=some u:=(HR.out.kp.cell b (o+k) (hIm k hlt)).trans (hcell k u hu)
      have hu1:u.oneCell'=true:=hC.one u (List.mem_of_getElem? hu)
      have HU:RelH Im' wr (BV x) u:=HR.out.kp.rel ⟨hux⟩
      have HX:Hid _:=hx
      have kz:(k:Int)<(xs.length:Int):=by omega
      have hst:(store ⟨wr.heap.size,0,none⟩ u).run Tryz.prog (wr.alloc (.cells #[.nilIface] 36))=.ok () (wr.alloc (.cells #[u] 36)):=Kg hu1
      have HD:Hid _:=hdl
      clear hC hcell hIm hu hux hx hdl
      go_wp2_with fail
      have hXs:(wr.alloc (.cells #[u] 36)).heap.size=wr.heap.size+1:=by simp
      have hNX:NR W X0 (wr.alloc (.cells #[u] 36)) I0 Im' 11 ns A2 k2 false false A' cap' (plL (xs.take k)):=HR.out.next (Az wr _) (fun _ _ q=>q) (fun _ _ q=>.inl q)
      refine ((IH.out x (List.mem_of_getElem? HX.out)).2.2 (wr.alloc (.cells #[u] 36)) #[.agg #[u]] Im' (HK.out.below hNX.f.below) hNX.f.im (by
        rw[DV.relL]
        refine ⟨_,[],rfl,?_,by rw[DV.relL]⟩
        rw[DV.rel]
        refine ⟨_,rfl,?_⟩
        rw[DV.relL]
        exact ⟨_,_,rfl,((Kp.of (Az wr _) HR.out.f.im (fun _ _ q=>q) (fun _ _ q=>.inl q)).rel HU).out,by rw[DV.relL]⟩)).mono ?_
      rintro e w1 ⟨r,y,rfl,rfl,hr,hb⟩
      generalize hI1:(fun b o=>Im' b o∨(wr.alloc (.cells #[u] 36)).heap.size≤b∧b<w1.heap.size)=I1 at hr
      obtain ⟨dk,dt,dA,dl,dc,dA2,dl2,dc2,dp,dq,rfl,hdr⟩:=a1f hr
      have hN1:=hNX.next (Im':=I1) hb (by intro b o q;rw[← hI1];exact .inl q) (by intro b o q;rw[← hI1] at q;exact q)
      have hN2:=hN1.next (Az w1 (.cells #[.int .i64 dk,.string dt,.slice dA dl dc,.slice dA2 dl2 dc2,.bool dp,.bool dq] 27)) (fun _ _ q=>q) (fun _ _ q=>.inl q)
      have hN3:=hN2.next (Az _ (.cells #[.int .i64 dk,.string dt,.slice dA dl dc,.slice dA2 dl2 dc2,.bool dp,.bool dq] 27)) (fun _ _ q=>q) (fun _ _ q=>.inl q)
      have c22:(w1.alloc (.cells #[.int .i64 dk,.string dt,.slice dA dl dc,.slice dA2 dl2 dc2,.bool dp,.bool dq] 27)).cell? ⟨W.heap.size+1+1,2,none⟩=some (.slice A' (plL (xs.take k)).length cap'):=Ap hN2.b2 rfl
      have HN3:Hid _:=hN3
      have c6:w1.cell? ⟨wr.heap.size,0,none⟩=some u:=Ap ((hb.block _ (by rw[hXs];omega)).trans (Cn wr _)) rfl
      have hdr3:Hid _:=(DV.relL_mono (fun _ _ q=>q) (fun b o q=>Bh (((Az w1 (.cells #[.int .i64 dk,.string dt,.slice dA dl dc,.slice dA2 dl2 dc2,.bool dp,.bool dq] 27)).trans ((Az _ (.cells #[.int .i64 dk,.string dt,.slice dA dl dc,.slice dA2 dl2 dc2,.bool dp,.bool dq] 27)).mono (Az w1 _).size)).block b (hN1.f.im b o q))) _ _ hdr.out)
      have hlx:(plL (xs.take k)).length≤1073741823:=by rw[HD.out];omega
      clear hNX hN1 hN2 hN3 hb hr hdr hI1
      go_wp2_with (at_builtin;go_loud (refine Ow _ rfl _ _ rfl (W0:=W) (d:=plV x) (ds:=plL (xs.take k)) (us:=[.int .i64 dk,.string dt,.slice dA dl dc,.slice dA2 dl2 dc2,.bool dp,.bool dq]) rfl HN3.out.f rfl (Lp _ _ _ _) hdr3.out (by simp[Value.oneCell']) hlx ?_))
      intro A3 cap3 w3 hF3 hb3 hs3 ho3
      have l2:=lt_of_block HN3.out.b2
      rw[Bo] at l2
      have q2:w3.heap[W.heap.size+1+1]? = _:=(hb3 _ l2 fun e=>(HN3.out.ne _ e).2 rfl).trans HN3.out.b2
      have c3:w3.cell? ⟨W.heap.size+1+1,2,none⟩=some (.slice A' (plL (xs.take k)).length cap'):=Ap q2 rfl
      have f3:w3.frozen? ⟨W.heap.size+1+1,2,none⟩=false:=Cb q2
      have HN4:Hid _:=HN3.out.store hF3 (by rw[Bo];exact hb3) (by rw[Bo];exact hs3) (by rw[Bo];exact ho3)
      clear hF3 hb3 hs3 ho3 q2 l2
      go_wp2_with fail
      go_roundg (xs.length-(k+1))
      case measure=>omega
      case rel =>
        refine ⟨k+1,I1,A3,cap3,by go_num,by omega,Nat.le_refl _,?_⟩
        rw[Nc HX.out]
        exact HN4.out
    · have kz : ¬ (k:Int)<(xs.length:Int):=by omega
      have hkl:k=xs.length:=by omega
      subst hkl
      have HR2:=HR.out
      rw[List.take_length] at HR2
      clear HR
      have HR:Hid _:=HR2
      clear HR2
      have b1:=HR.out.b1
      have b2:=HR.out.b2
      have c1:=fun j v (h:(#[.int .i64 0,.string ⟨#[]⟩,.slice none 0 0,.slice none 0 0,.bool false,.bool false]:Array Value)[j]? = some v)=>Ap b1 h
      have c10:=c1 0 _ rfl
      have c11:=c1 1 _ rfl
      have c12:=c1 2 _ rfl
      have c13:=c1 3 _ rfl
      have c14:=c1 4 _ rfl
      have c15:=c1 5 _ rfl
      have d0:wr.cell? ⟨W.heap.size+1+1,0,none⟩=_:=Ap b2 rfl
      have d1:wr.cell? ⟨W.heap.size+1+1,1,none⟩=_:=Ap b2 rfl
      have d2:wr.cell? ⟨W.heap.size+1+1,2,none⟩=_:=Ap b2 rfl
      have d3:wr.cell? ⟨W.heap.size+1+1,3,none⟩=_:=Ap b2 rfl
      have d4:wr.cell? ⟨W.heap.size+1+1,4,none⟩=_:=Ap b2 rfl
      have d5:wr.cell? ⟨W.heap.size+1+1,5,none⟩=_:=Ap b2 rfl
      have f1 : ∀ j,wr.frozen? ⟨W.heap.size+1,j,none⟩=false:=fun j=>Cb b1
      clear b1 b2 c1
      go_wp2_with fail
      obtain ⟨hz,hz6⟩:=Qw HR.out.b1 (.int .i64 11) (.string ⟨#[]⟩) (.slice A' (plL xs).length cap') (.slice A2 ns.length k2) (.bool false) (.bool false)
      obtain ⟨wF,hwF⟩ : ∃ wF,wF=six wr (W.heap.size+1) (.int .i64 11) (.string ⟨#[]⟩) (.slice A' (plL xs).length cap') (.slice A2 ns.length k2) (.bool false) (.bool false):=⟨_,rfl⟩
      rw[← hwF] at hz
      have hwG:=hwF
      unfold six at hwG
      rw[← hwG]
      clear hwG
      have z:=fun j v (h:(#[.int .i64 11,.string ⟨#[]⟩,.slice A' (plL xs).length cap',.slice A2 ns.length k2,.bool false,.bool false]:Array Value)[j]? = some v)=>Ap hz h
      have z0:=z 0 _ rfl
      have z1:=z 1 _ rfl
      have z2:=z 2 _ rfl
      have z3:=z 3 _ rfl
      have z4:=z 4 _ rfl
      have z5:=z 5 _ rfl
      clear z
      refine bodyPost_ret (v:=.tuple #[.agg #[.int .i64 11,.string ⟨#[]⟩,.slice A' (plL xs).length cap',.slice A2 ns.length k2,.bool false,.bool false],.bool true]) (by simp[results,Tryz.results66,go_sem,z0,z1,z2,z3,z4,z5];try rfl) rfl ?_
      have:=a1y (I:=Im) HR.out rfl (fun b o h=>(HR.out.kp.old b o h).elim (HO.out b o) (fun h=>.inr (Nat.le_trans HX0.out.size h))) hwF
      rw[show plV (.ctx ns xs)=.mk 11 [] (plL xs) ns false false by rw[plV]]
      exact ⟨_,rfl,this.1,this.2⟩
theorem b54 (y:Value) (w:World):(Instr.typeAssert (.iface 148 y) 34 148 false).run Tryz.prog w=.ok y w:=by
 obtain ⟨fields,hd,_⟩:=b3q.2.1
 simp[Instr.typeAssert,run_underlying hd]
theorem Pv {w:World} {b k:Nat} {v0 q:Value} (hc:w.cell? ⟨b,k,none⟩=some v0) (hf:w.frozen? ⟨b,k,none⟩=false) (h1:q.oneCell'=true):(store ⟨b,k,none⟩ q).run Tryz.prog w=.ok () (w.setCell ⟨b,k,none⟩ q):=by
 rw[run_store _ _ _ _ _ h1,hc]
 simp only[hf]
 rfl
theorem st4a (W:World) (o1 o2 o3:Obj) {z:Value} (h:z.oneCell'=true):(store ⟨W.heap.size+1+1+1,0,none⟩ z).run Tryz.prog ((((W.alloc o1).alloc o2).alloc o3).alloc (.cells #[.nilIface,.nilIface,.bool false,.bool false] 148))=.ok () ((((W.alloc o1).alloc o2).alloc o3).alloc (.cells #[z,.nilIface,.bool false,.bool false] 148)):=by
 have e:(((W.alloc o1).alloc o2).alloc o3).heap.size=W.heap.size+1+1+1:=by simp
 have hb:=(a69 W o1 o2 o3 (.cells #[.nilIface,.nilIface,.bool false,.bool false] 148)).2.2.2.1
 rw[Pv (Ap hb rfl) (Cb hb) h,World.setCell_alloc_at (w:=((W.alloc o1).alloc o2).alloc o3) _ _ _ _ _ e.symm]
 rfl
theorem st4b (W:World) (o1 o2 o3:Obj) (x:Value) {z:Value} (h:z.oneCell'=true):(store ⟨W.heap.size+1+1+1,1,none⟩ z).run Tryz.prog ((((W.alloc o1).alloc o2).alloc o3).alloc (.cells #[x,.nilIface,.bool false,.bool false] 148))=.ok () ((((W.alloc o1).alloc o2).alloc o3).alloc (.cells #[x,z,.bool false,.bool false] 148)):=by
 have e:(((W.alloc o1).alloc o2).alloc o3).heap.size=W.heap.size+1+1+1:=by simp
 have hb:=(a69 W o1 o2 o3 (.cells #[x,.nilIface,.bool false,.bool false] 148)).2.2.2.1
 rw[Pv (Ap hb rfl) (Cb hb) h,World.setCell_alloc_at (w:=((W.alloc o1).alloc o2).alloc o3) _ _ _ _ _ e.symm]
 rfl
theorem st4 (W:World) (o1 o2 o3:Obj) (x y:Value) (p q:Bool) :
  let X:=fun (a b:Bool)=>((((W.alloc o1).alloc o2).alloc o3).alloc (.cells #[x,y,.bool a,.bool b] 148))
  (X false false).cell? ⟨W.heap.size+1+1+1,2,none⟩=some (.bool false)∧(X false false).frozen? ⟨W.heap.size+1+1+1,2,none⟩=false∧(X false false).setCell ⟨W.heap.size+1+1+1,2,none⟩ (.bool p)=X p false ∧
  (X p false).cell? ⟨W.heap.size+1+1+1,3,none⟩=some (.bool false)∧(X p false).frozen? ⟨W.heap.size+1+1+1,3,none⟩=false∧(X p false).setCell ⟨W.heap.size+1+1+1,3,none⟩ (.bool q)=X p q:=by
 intro X
 have e:(((W.alloc o1).alloc o2).alloc o3).heap.size=W.heap.size+1+1+1:=by simp
 have hb:=fun a b=>(a69 W o1 o2 o3 (.cells #[x,y,.bool a,.bool b] 148)).2.2.2.1
 exact ⟨Ap (hb _ _) rfl,Cb (hb _ _),by simp only[X];rw[World.setCell_alloc_at (w:=((W.alloc o1).alloc o2).alloc o3) _ _ _ _ _ e.symm];rfl,Ap (hb _ _) rfl,Cb (hb _ _),by simp only[X];rw[World.setCell_alloc_at (w:=((W.alloc o1).alloc o2).alloc o3) _ _ _ _ _ e.symm];rfl⟩
theorem arg4 {Im:Nat→Nat→Prop} {W:World} {vs:Array Value} {x y z t:DV} (h:DV.relL Im W [x,y,z,t] vs.toList) : ∃ u v w s,vs=#[u,v,w,s]∧x.rel Im W u∧y.rel Im W v∧z.rel Im W w∧t.rel Im W s:=by
 simp only[DV.relL] at h
 obtain ⟨u,us,e,h1,v,us2,rfl,h2,w,us3,rfl,h3,s,us4,rfl,h4,rfl⟩:=h
 exact ⟨u,v,w,s,Array.ext' e,h1,h2,h3,h4⟩
theorem a5k {W XX X0:World} {Im I0:Nat→Nat→Prop} {lo hi:Vl} {xs:List Vl} {z1 z2:Value} {p q:Bool} {T:TypeId} (hI : ∀ b o,Im b o→b<W.heap.size) (hBX:Below W.heap.size W XX)
  (q1:XX.heap[W.heap.size+1]? = some (.cells #[.int .i64 0,.string ⟨#[]⟩,.slice none 0 0,.slice none 0 0,.bool false,.bool false] 27 (0,0))) (q2:XX.heap[W.heap.size+2]? = some (.cells #[.int .i64 12,.string ⟨#[]⟩,.slice none 0 0,.slice none 0 0,.bool false,.bool false] 27 (0,0)))
  (q3:XX.heap[W.heap.size+3]? = some (.cells #[z1,z2,.bool p,.bool q] T (0,0))) (hsX:XX.heap.size=W.heap.size+4) (h1:RelH Im W (BV lo) z1) (h2:RelH Im W (BV hi) z2) (hxs:xs=[lo,hi])
  (hX0:X0=((XX.setCell ⟨W.heap.size+1+1,4,none⟩ (.bool p)).setCell ⟨W.heap.size+1+1,5,none⟩ (.bool q)).drew) (hI0:I0=fun b o=>Im b o∨(b=W.heap.size+1+1+1∧o<2)) :
  Below W.heap.size W X0∧NR W X0 X0 I0 I0 12 [] none 0 p q none 0 []∧(∀ b o,I0 b o→Im b o∨W.heap.size≤b)∧RelH I0 X0 (.sl xs.length (An xs)) (.slice (some ⟨W.heap.size+1+1+1,0,none⟩) xs.length 2):=by
 have hB:Below W.heap.size W X0:=by rw[hX0];exact ((hBX.setCell (show W.heap.size≤W.heap.size+1+1 by omega) _).setCell (show W.heap.size≤W.heap.size+1+1 by omega) _).drew
 have hs:X0.heap.size=XX.heap.size:=by rw[hX0];simp[World.setCell,World.drew]
 have hIn : ∀ b o,I0 b o→(b<W.heap.size∨b=W.heap.size+3):=fun b o h=>by
  rw[hI0] at h
  exact h.imp (hI b o) And.left
 have hc : ∀ b o,b≠W.heap.size+2→X0.cell? ⟨b,o,none⟩=XX.cell? ⟨b,o,none⟩:=fun b o h=>by
  have e : ∀ (w:World) k v,(w.setCell ⟨W.heap.size+1+1,k,none⟩ v).cell? ⟨b,o,none⟩=w.cell? ⟨b,o,none⟩:=fun w k v=>World.cell?_setCell_other w _ _ _ fun e=>h (by injection e with e1;exact e1.symm)
  rw[hX0]
  show (((XX.setCell ⟨W.heap.size+1+1,4,none⟩ (.bool p)).setCell ⟨W.heap.size+1+1,5,none⟩ (.bool q))).cell? ⟨b,o,none⟩=_
  rw[e,e]
 have hw : ∀ b o,Im b o→X0.cell? ⟨b,o,none⟩=W.cell? ⟨b,o,none⟩:=fun b o h=>Bh (hB.block b (hI b o h))
 have r1:=DV.rel_mono (fun b o (k:Im b o)=>(show I0 b o by rw[hI0];exact .inl k)) hw _ _ h1.out
 have r2:=DV.rel_mono (fun b o (k:Im b o)=>(show I0 b o by rw[hI0];exact .inl k)) hw _ _ h2.out
 have n1:X0.heap[W.heap.size+1]? = some (.cells #[.int .i64 0,.string ⟨#[]⟩,.slice none 0 0,.slice none 0 0,.bool false,.bool false] 27 (0,0)):=by
  rw[hX0];simp[World.setCell,World.drew,Array.getElem?_modify,q1]
 have n2:X0.heap[W.heap.size+2]? = some (.cells #[.int .i64 12,.string ⟨#[]⟩,.slice none 0 0,.slice none 0 0,.bool p,.bool q] 27 (0,0)):=by
  rw[hX0];simp[World.setCell,World.drew,Array.getElem?_modify,q2]
 refine ⟨hB,Uf hB (fun b o h=>by have:=hIn b o h;rw[hs];omega) n1 n2 (by rw[DV.rel];exact .inl ⟨none,rfl,rfl,rfl⟩),fun b o h => ?_,⟨?_⟩⟩
 ·rw[hI0] at h
  exact h.imp id fun k=>by omega
 ·subst hxs
  rw[DV.rel]
  refine .inr ⟨_,0,2,rfl,Nat.le_refl _,by decide,?_⟩
  have m : ∀ o,o<2→I0 (W.heap.size+1+1+1) o:=fun o h=>by rw[hI0];exact .inr ⟨rfl,h⟩
  simp only[An,DV.relC]
  exact ⟨m 0 (by decide),⟨z1,(hc _ 0 (by omega)).trans (Ap q3 rfl),r1⟩,m 1 (by decide),⟨z2,(hc _ 1 (by omega)).trans (Ap q3 rfl),r2⟩,trivial⟩
set_option maxHeartbeats 4000000 in
set_option maxRecDepth 1000000 in
theorem a18 {lo hi:Vl} {p q:Bool} {xs:List Vl} (hxs:xs=[lo,hi]) (ih : ∀ x ∈ xs,PlC x):HasC Tryz.prog 66 [VV (.rng lo hi p q),.v (.int .i64 12)] (fun r=>r=.tup [Js (plV (.rng lo hi p q)),.v (.bool true)]):=by
 refine ⟨fun args w=>Tryz.call66 args w,⟨_,rfl⟩,fun W vs' Im hKw hIm hr => ?_⟩
 obtain ⟨y1,y2,rfl,hy1,hy2⟩:=b2x hr
 obtain rfl:=Ep hy2
 obtain ⟨u,rfl,hu⟩:=Kb hy1
 rw[DV.rel,Vl.enc,DV.rel] at hu
 obtain ⟨_,d,rfl,hd⟩:=hu
 rw[DV.rel] at hd
 obtain ⟨ps,rfl,hd⟩:=hd
 obtain ⟨z1,z2,z3,z4,rfl,hz1,hz2,hz3,hz4⟩:=arg4 hd
 obtain rfl:=Ep hz3
 obtain rfl:=Ep hz4
 have o1:z1.oneCell'=true:=by rw[DV.rel] at hz1;exact hz1.1
 have o2:z2.oneCell'=true:=by rw[DV.rel] at hz2;exact hz2.1
 have HZ1:RelH _ _ _ _:=⟨hz1⟩
 have HZ2:RelH _ _ _ _:=⟨hz2⟩
 have HI:Hid _:=hIm
 have HK:Hid _:=hKw
 have IH:Hid _:=ih
 have HXS:Hid _:=hxs
 clear hy1 hy2 hd hz1 hz2 hz3 hz4 hIm hKw hr ih
 go_enter Tryz.func66,Tryz.ntmps66
 go_wp2_with fail
 simp only[b54,Result.andThen_ok]
 go_wp2_with fail
 obtain ⟨g1,g2,g3,g4,g5,g6⟩:=st4 W (.cells #[.iface 148 (.agg #[z1,z2,.bool p,.bool q])] 36) (.cells #[.int .i64 0,.string ⟨#[]⟩,.slice none 0 0,.slice none 0 0,.bool false,.bool false] 27) (.cells #[.int .i64 12,.string ⟨#[]⟩,.slice none 0 0,.slice none 0 0,.bool false,.bool false] 27) z1 z2 p q
 simp only[st4a _ _ _ _ o1,st4b _ _ _ _ _ o2,Result.andThen_ok,g1,g2,g3,g4,g5,g6,Bool.false_eq_true,if_false]
 clear g1 g2 g3 g4 g5 g6
 go_wp2_with fail
 obtain ⟨XX,hXX⟩ : ∃ XX,XX=((((W.alloc (.cells #[.iface 148 (.agg #[z1,z2,.bool p,.bool q])] 36)).alloc (.cells #[.int .i64 0,.string ⟨#[]⟩,.slice none 0 0,.slice none 0 0,.bool false,.bool false] 27)).alloc (.cells #[.int .i64 12,.string ⟨#[]⟩,.slice none 0 0,.slice none 0 0,.bool false,.bool false] 27)).alloc (.cells #[z1,z2,.bool p,.bool q] 148)):=⟨_,rfl⟩
 obtain ⟨hBX,hq1,hq2,hq3,hsX⟩:Below W.heap.size W XX∧XX.heap[W.heap.size+1]? = some (.cells #[.int .i64 0,.string ⟨#[]⟩,.slice none 0 0,.slice none 0 0,.bool false,.bool false] 27 (0,0))∧XX.heap[W.heap.size+2]? = some (.cells #[.int .i64 12,.string ⟨#[]⟩,.slice none 0 0,.slice none 0 0,.bool false,.bool false] 27 (0,0))∧XX.heap[W.heap.size+3]? = some (.cells #[z1,z2,.bool p,.bool q] 148 (0,0))∧XX.heap.size=W.heap.size+4:=by
  rw[hXX]
  exact a69 W _ _ _ _
 rw[← hXX]
 clear hXX
 have c2:XX.drew.cell? ⟨W.heap.size+1+1+1,2,none⟩=some (.bool p):=Ap (w:=XX) hq3 rfl
 have c3:XX.drew.cell? ⟨W.heap.size+1+1+1,3,none⟩=some (.bool q):=Ap (w:=XX) hq3 rfl
 have e4:XX.drew.cell? ⟨W.heap.size+1+1,4,none⟩=some (.bool false):=Ap (w:=XX) hq2 rfl
 have e5:XX.drew.cell? ⟨W.heap.size+1+1,5,none⟩=some (.bool false):=Ap (w:=XX) hq2 rfl
 have f4:XX.drew.frozen? ⟨W.heap.size+1+1,4,none⟩=false:=Cb (w:=XX) hq2
 have f5:XX.drew.frozen? ⟨W.heap.size+1+1,5,none⟩=false:=Cb (w:=XX) hq2
 have e4x:XX.cell? ⟨W.heap.size+1+1,4,none⟩=some (.bool false):=Ap (w:=XX) hq2 rfl
 have e5x:XX.cell? ⟨W.heap.size+1+1,5,none⟩=some (.bool false):=Ap (w:=XX) hq2 rfl
 have f4x:XX.frozen? ⟨W.heap.size+1+1,4,none⟩=false:=Cb (w:=XX) hq2
 have f5x:XX.frozen? ⟨W.heap.size+1+1,5,none⟩=false:=Cb (w:=XX) hq2
 have e5y:(XX.setCell ⟨W.heap.size+1+1,4,none⟩ (.bool p)).cell? ⟨W.heap.size+1+1,5,none⟩=some (.bool false):=(World.cell?_setCell_other _ _ _ _ (fun e=>by injection e with e1 e2;omega)).trans e5x
 have f5y:(XX.setCell ⟨W.heap.size+1+1,4,none⟩ (.bool p)).frozen? ⟨W.heap.size+1+1,5,none⟩=false:=(World.frozen?_setCell _ _ _ _).trans f5x
 have e5':(XX.drew.setCell ⟨W.heap.size+1+1,4,none⟩ (.bool p)).cell? ⟨W.heap.size+1+1,5,none⟩=some (.bool false):=(World.cell?_setCell_other _ _ _ _ (fun e=>by injection e with e1 e2;omega)).trans e5
 have f5':(XX.drew.setCell ⟨W.heap.size+1+1,4,none⟩ (.bool p)).frozen? ⟨W.heap.size+1+1,5,none⟩=false:=(World.frozen?_setCell _ _ _ _).trans f5
 have hk : ∀ (w':World) v v',w'.cell? ⟨W.heap.size+1+1+1,2,none⟩=some (.bool p)∧w'.cell? ⟨W.heap.size+1+1+1,3,none⟩=some (.bool q)→((w'.setCell ⟨W.heap.size+1+1,4,none⟩ v).setCell ⟨W.heap.size+1+1,5,none⟩ v').cell? ⟨W.heap.size+1+1+1,2,none⟩=some (.bool p)∧((w'.setCell ⟨W.heap.size+1+1,4,none⟩ v).setCell ⟨W.heap.size+1+1,5,none⟩ v').cell? ⟨W.heap.size+1+1+1,3,none⟩=some (.bool q):=fun w' v v' h=>by
  have o : ∀ (w:World) k x j,(w.setCell ⟨W.heap.size+1+1,k,none⟩ x).cell? ⟨W.heap.size+1+1+1,j,none⟩=w.cell? ⟨W.heap.size+1+1+1,j,none⟩:=fun w k x j=>World.cell?_setCell_other _ _ _ _ (fun e=>by injection e with e1;omega)
  rw[o,o,o,o]
  exact h
 have HKK:Hid (((XX.setCell ⟨W.heap.size+1+1,4,none⟩ (.bool p)).setCell ⟨W.heap.size+1+1,5,none⟩ (.bool q)).drew.cell? ⟨W.heap.size+1+1+1,2,none⟩=some (.bool p)∧((XX.setCell ⟨W.heap.size+1+1,4,none⟩ (.bool p)).setCell ⟨W.heap.size+1+1,5,none⟩ (.bool q)).drew.cell? ⟨W.heap.size+1+1+1,3,none⟩=some (.bool q)):=hk XX _ _ ⟨c2,c3⟩
 have HBX:Hid _:=hBX
 have HQ1:Hid _:=hq1
 have HQ2:Hid _:=hq2
 have HQ3:Hid _:=hq3
 have HSX:Hid _:=hsX
 clear hBX hq1 hq2 hq3 hsX hk
 go_region_held3 (fun w'=>w'.cell? ⟨W.heap.size+1+1+1,2,none⟩=some (.bool p)∧w'.cell? ⟨W.heap.size+1+1+1,3,none⟩=some (.bool q)) (first | with_reducible exact ⟨c2,c3⟩ | with_reducible exact HKK.out) (fail)
 obtain ⟨X0,hX0⟩ : ∃ X0,X0=((XX.setCell ⟨W.heap.size+1+1,4,none⟩ (.bool p)).setCell ⟨W.heap.size+1+1,5,none⟩ (.bool q)).drew:=⟨_,rfl⟩
 obtain ⟨I0,hI0⟩ : ∃ I0:Nat→Nat→Prop,I0=fun b o=>Im b o∨(b=W.heap.size+1+1+1∧o<2):=⟨_,rfl⟩
 obtain ⟨k1',k2',k3',k4'⟩:=a5k HI.out HBX.out HQ1.out HQ2.out HQ3.out HSX.out HZ1 HZ2 HXS.out hX0 hI0
 rw[← hX0]
 have HX0:Hid _:=k1'
 have HS:Hid _:=k2'
 have HO:Hid _:=k3'
 clear k1' k2' k3' c2 c3 e4 e5 f4 f5 e4x e5x f4x f5x e5y f5y e5' f5' HKK HBX HQ1 HQ2 HQ3 HSX HZ1 HZ2 hX0 hI0
 have HY:=k4'
 have hxa:xs.length≤2:=by rw[hxs];exact Nat.le_refl _
 have hxb:2≤xs.length:=by rw[hxs];exact Nat.le_refl _
 clear k4' hxs
 go_wp2_with fail
 go_loopg [43] 2 (fun g s43 wr => ∃ (k:Nat) (Im':Nat→Nat→Prop) (A':Option Addr) (cap':Nat),s43=.int .i64 k∧k≤2∧2-k≤g∧Hid (NR W X0 wr I0 Im' 12 [] none 0 p q A' cap' (plL (xs.take k))))
 case atStart=>exact ⟨0,I0,none,0,rfl,Nat.zero_le _,Nat.le_refl _,HS.out⟩
 case round =>
  obtain ⟨k,Im',A',cap',rfl,hk,hg,HR⟩:=hrel
  have hdl:(plL (xs.take k)).length=k:=by rw[Es,List.length_map,List.length_take];omega
  by_cases hlt:k<2
  ·obtain ⟨b,o,ys,hA,hC,hcell,hIm⟩:=Gn HY.out (by omega)
   obtain ⟨rfl,rfl⟩:W.heap.size+1+1+1=b∧0=o:=by injection hA with e;injection e with e1 e2;exact ⟨e1,e2⟩
   clear hA
   obtain ⟨x,hx⟩ : ∃ x,xs[k]? = some x:=⟨_,List.getElem?_eq_getElem (by omega)⟩
   obtain ⟨u,hu,hux⟩:=hC.rel k x hx
   have c1:wr.cell? ⟨W.heap.size+1+1+1,k,none⟩=some u:=by
    have h1:=hIm k (by omega)
    have h2:=hcell k u hu
    rw[Nat.zero_add] at h1 h2
    exact (HR.out.kp.cell _ k h1).trans h2
   have hu1:u.oneCell'=true:=hC.one u (List.mem_of_getElem? hu)
   have HU:RelH Im' wr (BV x) u:=HR.out.kp.rel ⟨hux⟩
   have HX:Hid _:=hx
   have kz:(k:Int)<(2:Int):=by omega
   have hst:(store ⟨wr.heap.size,0,none⟩ u).run Tryz.prog (wr.alloc (.cells #[.nilIface] 36))=.ok () (wr.alloc (.cells #[u] 36)):=Kg hu1
   have HD:Hid _:=hdl
   clear hC hcell hIm hu hux hx hdl
   go_wp2_with fail
   have hXs:(wr.alloc (.cells #[u] 36)).heap.size=wr.heap.size+1:=by simp
   have hNX:NR W X0 (wr.alloc (.cells #[u] 36)) I0 Im' 12 [] none 0 p q A' cap' (plL (xs.take k)):=HR.out.next (Az wr _) (fun _ _ q=>q) (fun _ _ q=>.inl q)
   refine ((IH.out x (List.mem_of_getElem? HX.out)).2.2 (wr.alloc (.cells #[u] 36)) #[.agg #[u]] Im' (HK.out.below hNX.f.below) hNX.f.im (by
    rw[DV.relL]
    refine ⟨_,[],rfl,?_,by rw[DV.relL]⟩
    rw[DV.rel]
    refine ⟨_,rfl,?_⟩
    rw[DV.relL]
    exact ⟨_,_,rfl,((Kp.of (Az wr _) HR.out.f.im (fun _ _ q=>q) (fun _ _ q=>.inl q)).rel HU).out,by rw[DV.relL]⟩)).mono ?_
   rintro e w1 ⟨r,y,rfl,rfl,hr,hb⟩
   generalize hI1:(fun b o=>Im' b o∨(wr.alloc (.cells #[u] 36)).heap.size≤b∧b<w1.heap.size)=I1 at hr
   obtain ⟨dk,dt,dA,dl,dc,dA2,dl2,dc2,dp,dq,rfl,hdr⟩:=a1f hr
   have hN1:=hNX.next (Im':=I1) hb (by intro b o q;rw[← hI1];exact .inl q) (by intro b o q;rw[← hI1] at q;exact q)
   have hN2:=hN1.next (Az w1 (.cells #[.int .i64 dk,.string dt,.slice dA dl dc,.slice dA2 dl2 dc2,.bool dp,.bool dq] 27)) (fun _ _ q=>q) (fun _ _ q=>.inl q)
   have hN3:=hN2.next (Az _ (.cells #[.int .i64 dk,.string dt,.slice dA dl dc,.slice dA2 dl2 dc2,.bool dp,.bool dq] 27)) (fun _ _ q=>q) (fun _ _ q=>.inl q)
   have c22:(w1.alloc (.cells #[.int .i64 dk,.string dt,.slice dA dl dc,.slice dA2 dl2 dc2,.bool dp,.bool dq] 27)).cell? ⟨W.heap.size+1+1,2,none⟩=some (.slice A' (plL (xs.take k)).length cap'):=Ap hN2.b2 rfl
   have HN3:Hid _:=hN3
   have c6:w1.cell? ⟨wr.heap.size,0,none⟩=some u:=Ap ((hb.block _ (by rw[hXs];omega)).trans (Cn wr _)) rfl
   have hdr3:Hid _:=(DV.relL_mono (fun _ _ q=>q) (fun b o q=>Bh (((Az w1 (.cells #[.int .i64 dk,.string dt,.slice dA dl dc,.slice dA2 dl2 dc2,.bool dp,.bool dq] 27)).trans ((Az _ (.cells #[.int .i64 dk,.string dt,.slice dA dl dc,.slice dA2 dl2 dc2,.bool dp,.bool dq] 27)).mono (Az w1 _).size)).block b (hN1.f.im b o q))) _ _ hdr.out)
   have hlx:(plL (xs.take k)).length≤1073741823:=by rw[HD.out];omega
   clear hNX hN1 hN2 hN3 hb hr hdr hI1
   go_wp2_with (at_builtin;go_loud (refine Ow _ rfl _ _ rfl (W0:=W) (d:=plV x) (ds:=plL (xs.take k)) (us:=[.int .i64 dk,.string dt,.slice dA dl dc,.slice dA2 dl2 dc2,.bool dp,.bool dq]) rfl HN3.out.f rfl (Lp _ _ _ _) hdr3.out (by simp[Value.oneCell']) hlx ?_))
   intro A3 cap3 w3 hF3 hb3 hs3 ho3
   have l2:=lt_of_block HN3.out.b2
   rw[Bo] at l2
   have q2:w3.heap[W.heap.size+1+1]? = _:=(hb3 _ l2 fun e=>(HN3.out.ne _ e).2 rfl).trans HN3.out.b2
   have c3:w3.cell? ⟨W.heap.size+1+1,2,none⟩=some (.slice A' (plL (xs.take k)).length cap'):=Ap q2 rfl
   have f3:w3.frozen? ⟨W.heap.size+1+1,2,none⟩=false:=Cb q2
   have HN4:Hid _:=HN3.out.store hF3 (by rw[Bo];exact hb3) (by rw[Bo];exact hs3) (by rw[Bo];exact ho3)
   clear hF3 hb3 hs3 ho3 q2 l2
   go_wp2_with fail
   go_roundg (2-(k+1))
   case measure=>omega
   case rel =>
    refine ⟨k+1,I1,A3,cap3,by go_num,by omega,Nat.le_refl _,?_⟩
    rw[Nc HX.out]
    exact HN4.out
  ·have kz : ¬ (k:Int)<(2:Int):=by omega
   have hkl:k=2:=by omega
   subst hkl
   have HR2:=HR.out
   rw[List.take_of_length_le hxa] at HR2
   clear HR
   have HR:Hid _:=HR2
   clear HR2
   have b1:=HR.out.b1
   have b2:=HR.out.b2
   have c1:=fun j v (h:(#[.int .i64 0,.string ⟨#[]⟩,.slice none 0 0,.slice none 0 0,.bool false,.bool false]:Array Value)[j]? = some v)=>Ap b1 h
   have c10:=c1 0 _ rfl
   have c11:=c1 1 _ rfl
   have c12:=c1 2 _ rfl
   have c13:=c1 3 _ rfl
   have c14:=c1 4 _ rfl
   have c15:=c1 5 _ rfl
   have d0:wr.cell? ⟨W.heap.size+1+1,0,none⟩=_:=Ap b2 rfl
   have d1:wr.cell? ⟨W.heap.size+1+1,1,none⟩=_:=Ap b2 rfl
   have d2:wr.cell? ⟨W.heap.size+1+1,2,none⟩=_:=Ap b2 rfl
   have d3:wr.cell? ⟨W.heap.size+1+1,3,none⟩=_:=Ap b2 rfl
   have d4:wr.cell? ⟨W.heap.size+1+1,4,none⟩=_:=Ap b2 rfl
   have d5:wr.cell? ⟨W.heap.size+1+1,5,none⟩=_:=Ap b2 rfl
   have f1 : ∀ j,wr.frozen? ⟨W.heap.size+1,j,none⟩=false:=fun j=>Cb b1
   clear b1 b2 c1
   go_wp2_with fail
   obtain ⟨hz,hz6⟩:=Qw HR.out.b1 (.int .i64 12) (.string ⟨#[]⟩) (.slice A' (plL xs).length cap') (.slice none 0 0) (.bool p) (.bool q)
   obtain ⟨wF,hwF⟩ : ∃ wF,wF=six wr (W.heap.size+1) (.int .i64 12) (.string ⟨#[]⟩) (.slice A' (plL xs).length cap') (.slice none 0 0) (.bool p) (.bool q):=⟨_,rfl⟩
   rw[← hwF] at hz
   have hwG:=hwF
   unfold six at hwG
   rw[← hwG]
   clear hwG
   have z:=fun j v (h:(#[.int .i64 12,.string ⟨#[]⟩,.slice A' (plL xs).length cap',.slice none 0 0,.bool p,.bool q]:Array Value)[j]? = some v)=>Ap hz h
   have z0:=z 0 _ rfl
   have z1:=z 1 _ rfl
   have z2:=z 2 _ rfl
   have z3:=z 3 _ rfl
   have z4:=z 4 _ rfl
   have z5:=z 5 _ rfl
   clear z
   refine bodyPost_ret (v:=.tuple #[.agg #[.int .i64 12,.string ⟨#[]⟩,.slice A' (plL xs).length cap',.slice none 0 0,.bool p,.bool q],.bool true]) (by simp[results,Tryz.results66,go_sem,z0,z1,z2,z3,z4,z5];try rfl) rfl ?_
   have:=a1y (I:=Im) HR.out rfl (fun b o h=>(HR.out.kp.old b o h).elim (HO.out b o) (fun h=>.inr (Nat.le_trans HX0.out.size h))) hwF
   rw[show plV (.rng lo hi p q)=.mk 12 [] (plL xs) [] p q by rw[plV,HXS.out,plL,plL,plL]]
   exact ⟨_,rfl,this.1,this.2⟩
end Go.Proofs.YtfkfpkhgoijfdaaGreatDoor
