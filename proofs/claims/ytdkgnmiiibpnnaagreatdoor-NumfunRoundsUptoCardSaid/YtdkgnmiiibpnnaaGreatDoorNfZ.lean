/- numfun.Median of numbers. numfun.Mode of numbers. numfun: sums, means and spreads of numbers. The plain laws of spreads of whole numbers: nothing is too great, nothing is below 0; numbers that are all the same have none. casuistlaw20.awake. -/
import Derived.Test.YtdkgnmiiibpnnaaGreatDoorNfP
namespace Go.Proofs.YtdkgnmiiibpnnaaGreatDoor
open Go.RowKit Go.Sort
set_option linter.unusedVariables false
set_option linter.unusedSimpArgs false
def Zc:D3:=⟨(false,2,0),by decide,by decide,by decide,fun h=>by cases h⟩
theorem b6i:HasC Tryz.prog 10 [.v (.int .i64 2)] (fun r=>r=VV (.num Zc.g Zc.n Zc.e)):=Lk (x:=2) (by decide) (by decide)
noncomputable def a50 (ds:List D3):Option D3 :=
 if ds.length % 2=1 then (Bl ds)[ds.length / 2]?
 else (Cf (Jm (Bl ds)[ds.length / 2-1]! (Bl ds)[ds.length / 2]!)).bind fun d=>Cf (Je d Zc)
theorem Ss {ds:List D3} (h:ds.length % 2=1):a50 ds=(Bl ds)[ds.length / 2]? := by rw[a50,if_pos h]
theorem Kj {ds:List D3} (h:ds.length % 2≠1):a50 ds=(Cf (Jm (Bl ds)[ds.length / 2-1]! (Bl ds)[ds.length / 2]!)).bind fun d=>Cf (Je d Zc):=by rw[a50,if_neg h]
theorem Wl {z:Int} {m n:Nat} (h:IntIs .i64 ((m:Int).tdiv 2) z) (e:m=n) (hn:n<20):z=((n / 2:Nat):Int):=by
 subst e
 rw[Int.tdiv_eq_ediv_of_nonneg (by omega)] at h
 have:=h.i64 (by omega)
 omega
theorem a8w {z:Int} {m n:Nat} (h:z=(m:Int).tmod 2) (k:z=1) (e:m=n):n % 2=1:=by
 subst e;rw[h,Int.tmod_eq_emod_of_nonneg (by omega)] at k;omega
theorem b5k {z:Int} {m n:Nat} (h:z=(m:Int).tmod 2) (k:z≠1) (e:m=n):n % 2≠1:=by
 subst e;rw[h,Int.tmod_eq_emod_of_nonneg (by omega)] at k;omega
set_option maxHeartbeats 4000000 in
set_option maxRecDepth 1000000 in
theorem a9d {ds:List D3} (h0:ds≠[]) (hl:ds.length<20):HasC Tryz.prog 41 [.sl (At ds).length (Av (At ds))] (fun r=>r=b0y (a50 ds)):=by
  refine Xm ?_
  refine ⟨fun args w=>Tryz.call41 args w,⟨_,_,_,_,rfl,.inl rfl,rfl,rfl⟩,fun W vs Im hKw hIm hr => ?_⟩
  rw[DV.relL] at hr
  obtain ⟨y,ys,e1,hy,h2⟩:=hr
  rw[DV.relL] at h2
  subst h2
  obtain rfl:vs=#[y]:=Array.ext' e1
  have HY:Aside _:=hy
  have HI:Aside _:=hIm
  have HK:Hid _:=hKw
  clear hy hIm hKw e1
  go_enter Tryz.func41,Tryz.ntmps41
  go_wp2_with fail
  refine (Lc h0 hl (HK.out.below (Ck W _)) (fun g o h=>Nat.lt_of_lt_of_le (HI.out g o h) (Ck W _).size) (DV.rel_mono (fun _ _ h=>h) (fun g o h=>Ri (HI.out g o h)) _ _ HY.out)).mono ?_
  rintro e w1 ⟨b,cap,rfl,hc1,hc2,hle,hsw⟩
  have HS:Hid _:=hsw
  have HL:Hid _:=hle
  have HC:Hid _:=And.intro hc1 hc2
  clear hsw hle hc1 hc2
  go_wp2_with fail
  refine (Sn (cap:=cap) (d:=ds.toArray) (HK.out.below (Ck W _)) HS.out (by simpa using hl)).mono ?_
  rintro e w2 ⟨rfl,hsw2⟩
  rename_i K1 hK1 K0 hK0
  refine hK0 _ _ (hK1 _ _ ?_)
  clear hK0 hK1 K0 K1
  have hL:=HL.out
  have hcap:=HC.out
  rw[Ii] at hL
  have hsz:(insertionSort ltQ ds.toArray 0 ds.toArray.size).size=ds.length:=by
    have:=Mj ds
    simpa [Bl] using this
  have hrel:=b0l (Im:=Im) (b2:=W.heap.size) (cap:=cap) hsw2 (by omega) hcap.2
  rw[hsz,show (insertionSort ltQ ds.toArray 0 ds.toArray.size).toList=Bl ds by simp[Bl]] at hrel
  refine a3u [] (g:=a2h Im W.heap.size b) (s:=mkS 55 [(2,.p 2 0),(4,.d (.sl ((Bl ds).length) (Cn (Bl ds))))] [(2,[.v (.nilIface)])]) (by kernel_rfl) ?_ ?_
  ·exact RelG.mid (k2:=2) (b2:=W.heap.size) (blk:=b) HK.out HI.out ((Ck W _).trans (hsw2.below.mono (Ck W _).size)) rfl rfl (by omega) hsw2.lt (Nat.le_refl _) (by omega) ((hsw2.below.block _ (by rw[Ii];omega)).trans (Vc W _)) (by rw[DV.relL];exact ⟨_,_,rfl,Sr _,by rw[DV.relL]⟩) rfl ⟨⟨_,rfl,rfl⟩,⟨_,rfl,hrel⟩,trivial⟩ rfl rfl
  have hs:=Mj ds
  have hpos:0<ds.length:=List.length_pos_iff.2 h0
  refine Aa rfl (iQ 3 ?_)
  let Z1:=zT [(4,.d (.sl ((Bl ds).length) (Cn (Bl ds))))] []
  let Z2:=zT [(2,.p 2 0),(6,Ia ((((Bl ds).length:Nat):Int)))] []
  refine iE 55 (zT Z2 Z1) [(2,[.v (.nilIface)])] ?_
  refine Ae (Aa rfl (iQ 1 (jB .rem 3 (.int .i64 ((((Bl ds).length:Nat):Int))) (.int .i64 2) 22 ?_)))
  refine And.intro (by omega) ?_
  intro z22 hz22
  refine jB .eql 3 (.int .i64 z22) (.int .i64 1) 23 ?_
  intro c23 hc23
  refine iE 55 (zT [(23,Ba c23)] (zT Z2 Z1)) [(2,[.v (.nilIface)])] ?_
  cases c23
  ·replace hc23:=bf hc23
   have hev:=b5k hz22 hc23 hs
   refine iF (Ad (Af (Aa rfl (iQ 2 (jB .quo 3 (.int .i64 ((((Bl ds).length:Nat):Int))) (.int .i64 2) 33 ?_)))))
   refine And.intro (by omega) ?_
   intro z33 hz33
   have hz:z33=((ds.length / 2:Nat):Int):=Wl hz33 hs hl
   obtain ⟨x,hx⟩ : ∃ x,(Bl ds)[ds.length / 2-1]? = some x:=⟨_,List.getElem?_eq_getElem (by omega)⟩
   obtain ⟨y2,hy2⟩ : ∃ y,(Bl ds)[ds.length / 2]? = some y:=⟨_,List.getElem?_eq_getElem (by omega)⟩
   have e1:(Bl ds)[ds.length / 2-1]! = x:=by simp[hx]
   have e2:(Bl ds)[ds.length / 2]! = y2:=by simp[hy2]
   refine jB .sub 3 (.int .i64 z33) (.int .i64 1) 34 ?_
   intro z34 hz34
   try replace hz34:=hz34.i64 (by omega)
   have hz':z34.toNat=ds.length / 2-1:=by omega
   refine Ek (q:=z34) (n:=((Bl ds).length)) (cs:=(Cn (Bl ds))) (z:=4) (ds:=[.v (.bool ((x).g)),.v (.int .u64 (hiW ((x).n))),.v (.int .u64 (loW ((x).n))),.v (.int .i64 ((x).e))]) (dst:=(some 35)) (by kernel_rfl) (by omega) (by rw[hz'];exact Eh hx) ?_
   refine iQ 1 (eC 8 [.agg [Bv ((x).g),Hw ((x).n),Lw ((x).n),Iv ((x).e)]] 37 (Fc x) (iQ 2 (jB .quo 3 (.int .i64 ((((Bl ds).length:Nat):Int))) (.int .i64 2) 40 ?_)))
   refine And.intro (by omega) ?_
   intro z40 hz40
   have hzz:z40=((ds.length / 2:Nat):Int):=Wl hz40 hs hl
   refine Ek (q:=z40) (n:=((Bl ds).length)) (cs:=(Cn (Bl ds))) (z:=4) (ds:=[.v (.bool ((y2).g)),.v (.int .u64 (hiW ((y2).n))),.v (.int .u64 (loW ((y2).n))),.v (.int .i64 ((y2).e))]) (dst:=(some 41)) (by kernel_rfl) (by omega) (by rw[hzz,Int.toNat_natCast];exact Eh hy2) ?_
   refine iQ 1 (eC 8 [.agg [Bv ((y2).g),Hw ((y2).n),Lw ((y2).n),Iv ((y2).e)]] 43 (Fc y2) (jC 9 [Sv (⟨#[43]⟩),.agg [.bx (Vl.num (x).g (x).n (x).e).enc],.agg [.bx (Vl.num (y2).g (y2).n (y2).e).enc]] 44 (a4l (x:=x) (y:=y2) rfl rfl) ?_))
   rintro _ ⟨v,o,rfl,hv,ho⟩
   refine iQ 6 (iE 55 (zT [(7,.p 7 0),(8,Ba o),(23,Ba false)] (zT Z2 Z1)) [(2,[.v (.nilIface)]),(7,[.bx (v).enc])] ?_)
   refine Ae (Aa rfl (iQ 1 (jU .not (.bool o) 48 ?_)))
   intro c48 hc48
   refine iE 55 (zT [(7,.p 7 0),(23,Ba false),(48,Ba c48)] (zT Z2 Z1)) [(2,[.v (.nilIface)]),(7,[.bx (v).enc])] ?_
   cases c48
   ·replace hc48:=bf hc48
    obtain ⟨d,q1,q2⟩:=Xo hv ho (by simpa using hc48)
    refine iF (Ad (Af (Aa rfl (iQ 1 (eC 10 [Iv 2] 51 (b6i) (jC 9 [Sv (⟨#[47]⟩),.agg [.bx (v).enc],.agg [.bx (Vl.num (Zc).g (Zc).n (Zc).e).enc]] 52 (a36 (x:=d) (y:=Zc) q2 rfl (by decide)) ?_))))))
    rintro _ ⟨v2,o2,rfl,hv2,ho2⟩
    refine iQ 4 ?_
    let Z3:=zT [(4,.d (.sl ((Bl ds).length) (Cn (Bl ds))))] []
    let Z4:=zT [(3,Ba o2),(7,.p 7 0),(23,Ba false),(48,Ba false)] []
    let Z5:=zT Z4 (zT Z3 Z2)
    refine iE 55 Z5 [(2,[.bx (v2).enc]),(7,[.bx (v).enc])] ?_
    refine Ab (iS (.agg [.bx (v2).enc]) (Bv o2) [] ?_)
    exact ⟨_,_,_,rfl,.inl rfl,by rw[Kj hev,e1,e2,q1];exact hv2,by rw[Kj hev,e1,e2,q1];exact ho2⟩
   ·replace hc48:=bt hc48
    obtain ⟨q1,q2⟩:=a2l hv ho (by simpa using hc48)
    refine iT (Aa rfl (iQ 3 ?_))
    let Z6:=zT [(4,.d (.sl ((Bl ds).length) (Cn (Bl ds))))] []
    let Z7:=zT [(3,Ba false),(7,.p 7 0),(23,Ba false),(48,Ba true)] []
    let Z8:=zT Z7 (zT Z6 Z2)
    refine iE 55 Z8 [(2,[.v (.nilIface)]),(7,[.bx (v).enc])] ?_
    refine Ab (Ag (iS (.agg [.v (.nilIface)]) (Bv false) [] ?_))
    exact ⟨_,.null,_,rfl,IsV.null,by rw[Kj hev,e1,e2,q1];rfl,by rw[Kj hev,e1,e2,q1];rfl⟩
  ·replace hc23:=bt hc23
   refine iT (Aa rfl (iQ 2 (jB .quo 3 (.int .i64 ((((Bl ds).length:Nat):Int))) (.int .i64 2) 26 ?_)))
   refine And.intro (by omega) ?_
   intro z26 hz26
   have hz:z26=((ds.length / 2:Nat):Int):=Wl hz26 hs hl
   obtain ⟨x,hx⟩ : ∃ x,(Bl ds)[ds.length / 2]? = some x:=⟨_,List.getElem?_eq_getElem (by omega)⟩
   refine Ek (q:=z26) (n:=((Bl ds).length)) (cs:=(Cn (Bl ds))) (z:=4) (ds:=[.v (.bool ((x).g)),.v (.int .u64 (hiW ((x).n))),.v (.int .u64 (loW ((x).n))),.v (.int .i64 ((x).e))]) (dst:=(some 27)) (by kernel_rfl) (by omega) (by rw[hz,Int.toNat_natCast];exact Eh hx) ?_
   refine iQ 1 (eC 8 [.agg [Bv ((x).g),Hw ((x).n),Lw ((x).n),Iv ((x).e)]] 29 (Sk x.ltB) (iQ 2 ?_))
   let Z9:=zT [(4,.d (.sl ((Bl ds).length) (Cn (Bl ds))))] []
   refine iE 55 (zT [(3,Ba true),(23,Ba true)] (zT Z9 Z2)) [(2,[.bx (Jc x.g x.n x.e).enc])] ?_
   refine Ab (Ag (iS (.agg [.bx (Jc x.g x.n x.e).enc]) (Bv true) [] ?_))
   exact ⟨_,_,_,rfl,.inl rfl,by rw[Ss (a8w hz22 hc23 hs),hx,Tm x.2];rfl,by rw[Ss (a8w hz22 hc23 hs),hx];rfl⟩
open Go.RowKit Go.Sort
set_option linter.unusedVariables false
set_option linter.unusedSimpArgs false
def Jd (x:D3):List D3→Nat
 | []=>0
 | y::r=>if cfD y x=0 then Jd x r+1 else 0
def Fw:Nat→List D3→Nat→List D3→List D3
 | 0,_,_,o=>o
 | _+1,[],_,o=>o
 | f+1,x::r,m,o =>
  if m<Jd x (x::r) then Fw f ((x::r).drop (Jd x (x::r))) (Jd x (x::r)) [x]
  else if Jd x (x::r)=m then Fw f ((x::r).drop (Jd x (x::r))) m (o ++ [x])
  else Fw f ((x::r).drop (Jd x (x::r))) m o
def Vd (ds:List D3):List D3:=Fw ds.length (Bl ds) 0 []
theorem a2e (f m:Nat) (o:List D3):Fw f [] m o=o:=by cases f<;>rfl
theorem a9c (x:D3):cfD x x=0:=by rw[a30,Wh]
theorem a88 {s:List D3} {x:D3} {k:Nat} (h:s.length≤k):Jd x (s.drop k)=0:=by rw[List.drop_eq_nil_of_le h];rfl
theorem Vi {s:List D3} {x y:D3} {k:Nat} (h:s[k]? = some y):Jd x (s.drop k)=if cfD y x=0 then Jd x (s.drop (k+1))+1 else 0:=by
 obtain ⟨h1,h2⟩:=List.getElem?_eq_some_iff.1 h
 rw[List.drop_eq_getElem_cons h1,h2,Jd]
theorem Zi {s:List D3} {x:D3} {i:Nat} (h:s[i]? = some x):1≤Jd x (s.drop i):=by
 rw[Vi h,if_pos (a9c x)];omega
theorem Po {s:List D3} {x:D3} {i f m n:Nat} {o R:List D3} (hx:s[i]? = some x) (hn:Jd x (s.drop i)=n) (h:Fw (f+1) (s.drop i) m o=R) :
  (m<n→Fw f (s.drop (i+n)) n [x]=R)∧(¬ m<n→n=m→Fw f (s.drop (i+n)) m (o ++ [x])=R)∧(¬ m<n→n≠m→Fw f (s.drop (i+n)) m o=R):=by
 obtain ⟨h1,h2⟩:=List.getElem?_eq_some_iff.1 hx
 rw[List.drop_eq_getElem_cons h1,h2] at h hn
 have hd : ∀ q,(x::s.drop (i+1)).drop q=s.drop (i+q):=fun q=>by
  rw[← h2,← List.drop_eq_getElem_cons h1,List.drop_drop]
 rw[Fw,hn,hd] at h
 refine ⟨fun a => ?_,fun a b => ?_,fun a b => ?_⟩
 ·rwa[if_pos a] at h
 ·rwa[if_neg a,if_pos b] at h
 ·rwa[if_neg a,if_neg b] at h
theorem b6o (x y:D3):HasC Tryz.prog 83 [Bk x.g x.n x.e,Bk y.g y.n y.e] (fun r => ∃ c,r=.v (.int .i64 c)∧c=cfD x y):=by
 have b1:=x.lo;have b2:=x.hi;have b3:=y.lo;have b4:=y.hi
 exact (Tg x.lt y.lt (by omega) (by omega) (by omega) (by omega)).mono fun r hr=>⟨_,hr,rfl⟩
theorem Nr (o:List D3) (x:D3):Av (At o) ++ [BV (.num x.g x.n x.e)]=Av (At (o ++ [x])):=by
 simp[At,Jk,D3.vl]
set_option maxHeartbeats 4000000 in
set_option maxRecDepth 1000000 in
theorem b8h {ds:List D3} (h0:ds≠[]) (hl:ds.length<20):HasC Tryz.prog 43 [.sl (At ds).length (Av (At ds))] (fun r=>r=VV (.list (At (Vd ds)))):=by
  refine ⟨fun args w=>Tryz.call43 args w,⟨_,rfl⟩,fun W vs Im hKw hIm hr => ?_⟩
  rw[DV.relL] at hr
  obtain ⟨y,ys,e1,hy,h2⟩:=hr
  rw[DV.relL] at h2
  subst h2
  obtain rfl:vs=#[y]:=Array.ext' e1
  have HY:Aside _:=hy
  have HI:Aside _:=hIm
  have HK:Hid _:=hKw
  clear hy hIm hKw e1
  go_enter Tryz.func43,Tryz.ntmps43
  go_wp2_with fail
  refine (Lc h0 hl (HK.out.below (Ck W _)) (fun g o h=>Nat.lt_of_lt_of_le (HI.out g o h) (Ck W _).size) (DV.rel_mono (fun _ _ h=>h) (fun g o h=>Ri (HI.out g o h)) _ _ HY.out)).mono ?_
  rintro e w1 ⟨b,cap,rfl,hc1,hc2,hle,hsw⟩
  have HS:Hid _:=hsw
  have HL:Hid _:=hle
  have HC:Hid _:=And.intro hc1 hc2
  clear hsw hle hc1 hc2
  go_wp2_with fail
  refine (Sn (cap:=cap) (d:=ds.toArray) (HK.out.below (Ck W _)) HS.out (by simpa using hl)).mono ?_
  rintro e w2 ⟨rfl,hsw2⟩
  rename_i K1 hK1 K0 hK0
  refine hK0 _ _ (hK1 _ _ ?_)
  clear hK0 hK1 K0 K1
  have hL:=HL.out
  have hcap:=HC.out
  rw[Ii] at hL
  have hsz:(insertionSort ltQ ds.toArray 0 ds.toArray.size).size=ds.length:=by
    have:=Mj ds
    simpa [Bl] using this
  have hrel:=b0l (Im:=Im) (b2:=W.heap.size) (cap:=cap) hsw2 (by omega) hcap.2
  rw[hsz,show (insertionSort ltQ ds.toArray 0 ds.toArray.size).toList=Bl ds by simp[Bl]] at hrel
  refine a3u [] (g:=a2h Im W.heap.size b) (s:=mkS 70 [(2,.p 2 0),(3,.d (.sl ((Bl ds).length) (Cn (Bl ds))))] [(2,[.v (.nilIface)])]) (by kernel_rfl) ?_ ?_
  ·exact RelG.mid (k2:=2) (b2:=W.heap.size) (blk:=b) HK.out HI.out ((Ck W _).trans (hsw2.below.mono (Ck W _).size)) rfl rfl (by omega) hsw2.lt (Nat.le_refl _) (by omega) ((hsw2.below.block _ (by rw[Ii];omega)).trans (Vc W _)) (by rw[DV.relL];exact ⟨_,_,rfl,Sr _,by rw[DV.relL]⟩) rfl ⟨⟨_,rfl,rfl⟩,⟨_,rfl,hrel⟩,trivial⟩ rfl rfl
  have hs:=Mj ds
  refine Aa rfl (iQ 1 ?_)
  let Z1:=zT [(3,.d (.sl ((Bl ds).length) (Cn (Bl ds))))] []
  refine iE 70 (zT [(2,.p 2 0),(5,.w (.sl 0 []) none)] Z1) [(2,[.v (.nilIface)])] ?_
  refine Aa rfl (iQ 1 ?_)
  let Z2:=zT [(2,.p 2 0),(5,.w (.sl 0 []) none),(6,Ia 0)] []
  refine iE 70 (zT Z2 Z1) [(2,[.v (.nilIface)])] ?_
  refine Ae (Aa rfl (iQ 1 (iE 70 (zT [(7,Ia 0)] (zT Z1 Z2)) [(2,[.v (.nilIface)])] ?_)))
  refine Ak (Bq 70 (fun (vcx:Nat×Nat×Nat×Int×Int×(List D3))=>match vcx with | (i,m,f,zi,zm,o)=>[(2,.p 2 0),(3,.d (.sl ((Bl ds).length) (Cn (Bl ds)))),(5,.w (.sl ((At o).length) (Av (At o))) (some ⟨66,0,39,1⟩)),(6,Ia zm),(7,Ia zi)]) (fun (vcx:Nat×Nat×Nat×Int×Int×(List D3))=>match vcx with | (i,m,f,zi,zm,o)=>[(2,[.v (.nilIface)])]) (fun (vcx:Nat×Nat×Nat×Int×Int×(List D3))=>match vcx with | (i,m,f,zi,zm,o)=>zi=i∧zm=m∧i≤ds.length∧ds.length≤i+f∧m≤ds.length∧o.length≤i∧Fw f ((Bl ds).drop i) m o=Vd ds) (fun (vcx:Nat×Nat×Nat×Int×Int×(List D3))=>match vcx with | (i,m,f,zi,zm,o)=>ds.length-i) ((0,0,ds.length,0,0,[])) (⟨rfl,rfl,by omega,by omega,by omega,by simp,rfl⟩) (by kernel_rfl) (by kernel_rfl) ?_)
  rintro ⟨i,m,f,zi,zm,o⟩ hinv
  simp only at hinv
  obtain ⟨h1,h2,h3,h4,h5,h6,h7⟩:=hinv
  refine Ae (Aa rfl (iQ 3 (jB .lss 3 (.int .i64 zi) (.int .i64 ((((Bl ds).length:Nat):Int))) 26 ?_)))
  intro c26 hc26
  let Z3:=zT [(5,.w (.sl ((At o).length) (Av (At o))) (some ⟨66,0,39,1⟩))] []
  let Z4:=zT [(2,.p 2 0),(6,Ia zm),(7,Ia zi),(26,Ba c26)] []
  let Z5:=zT Z4 (zT Z3 Z1)
  refine iE 70 Z5 [(2,[.v (.nilIface)])] ?_
  cases c26
  ·replace hc26:=bf hc26
   have hi:i=ds.length:=by omega
   refine iF (Be (Ce (Bj (Bd rfl (Af (Aa rfl (iQ 1 (eC 84 [.sl ((At o).length) (Av (At o))] 69 (Ws (vs:=At o) (by rw[Mt];omega)) ?_))))))))
   have ho:o=Vd ds:=by rw[← h7,hi,List.drop_eq_nil_of_le (by omega),a2e]
   refine iQ 1 ?_
   let Z6:=zT [(2,.p 2 0),(6,Ia zm),(7,Ia zi),(26,Ba false)] []
   let Z7:=zT Z6 (zT Z3 Z1)
   refine iE 70 Z7 [(2,[.bx (Vl.list (At o)).enc])] ?_
   refine Ab (iR (.agg [.bx (Vl.list (At o)).enc]) ?_)
   rw[ho]
  ·replace hc26:=bt hc26
   obtain ⟨x,hx⟩ : ∃ x,(Bl ds)[i]? = some x:=⟨_,List.getElem?_eq_getElem (by omega)⟩
   have hf:Fw ((f-1)+1) ((Bl ds).drop i) m o=Vd ds:=by rw[Nat.sub_add_cancel (by omega)];exact h7
   refine iT (Ad (Af (Ak (Aa rfl (iQ 2 ?_)))))
   let Z8:=zT [(2,.p 2 0),(6,Ia zm),(7,Ia zi),(8,Ia zi),(26,Ba true)] []
   let Z9:=zT Z8 (zT Z3 Z1)
   refine iE 70 Z9 [(2,[.v (.nilIface)])] ?_
   refine Ae (Ak (Bq 70 (fun (vcx:Nat×Int)=>match vcx with | (k,zk)=>[(2,.p 2 0),(3,.d (.sl ((Bl ds).length) (Cn (Bl ds)))),(5,.w (.sl ((At o).length) (Av (At o))) (some ⟨66,0,39,1⟩)),(6,Ia zm),(7,Ia zi),(8,Ia zk),(26,Ba true)]) (fun (vcx:Nat×Int)=>match vcx with | (k,zk)=>[(2,[.v (.nilIface)])]) (fun (vcx:Nat×Int)=>match vcx with | (k,zk)=>zk=k∧i≤k∧k≤ds.length∧Jd x ((Bl ds).drop i)=k-i+Jd x ((Bl ds).drop k)) (fun (vcx:Nat×Int)=>match vcx with | (k,zk)=>ds.length-k) ((i,zi)) (⟨h1,by omega,by omega,by omega⟩) (by kernel_rfl) (by kernel_rfl) ?_))
   rintro ⟨k,zk⟩ hinv
   simp only at hinv
   obtain ⟨k1,k2,k3,k4⟩:=hinv
   refine Ae (Aa rfl (iQ 3 (jB .lss 3 (.int .i64 zk) (.int .i64 ((((Bl ds).length:Nat):Int))) 31 ?_)))
   intro c31 hc31
   refine iQ 1 ?_
   cases c31
   ·replace hc31:=bf hc31
    refine iQ 11 ?_
    let Z10:=zT [(2,.p 2 0),(6,Ia zm),(7,Ia zi),(8,Ia zk),(26,Ba true),(43,Ba false)] []
    let Z11:=zT Z10 (zT Z3 Z1)
    refine iE 70 Z11 [(2,[.v (.nilIface)])] ?_
    have hr0:Jd x ((Bl ds).drop k)=0:=a88 (by omega)
    have hend:Jd x ((Bl ds).drop i)=k-i:=by omega
    have st:=Po hx hend hf
    rw[show i+(k-i)=k by omega] at st
    have hp:=Zi hx
    refine iF (Be (Ce (Bj (Bd rfl (Af (Ae (Aa rfl (iQ 2 (jB .sub 3 (.int .i64 zk) (.int .i64 zi) 48 ?_)))))))))
    intro z48 hz48
    try replace hz48:=hz48.i64 (by omega)
    refine iQ 1 (jB .gtr 3 (.int .i64 z48) (.int .i64 zm) 50 ?_)
    intro c50 hc50
    refine iE 70 (zT [(50,Ba c50)] Z11) [(2,[.v (.nilIface)])] ?_
    cases c50
    ·replace hc50:=bf hc50
     refine iF (Ad (Af (Ae (Aa rfl (iQ 2 (jB .sub 3 (.int .i64 zk) (.int .i64 zi) 56 ?_))))))
     intro z56 hz56
     try replace hz56:=hz56.i64 (by omega)
     refine iQ 1 (jB .eql 3 (.int .i64 z56) (.int .i64 zm) 58 ?_)
     intro c58 hc58
     refine iE 70 (zT [(50,Ba false),(58,Ba c58)] Z11) [(2,[.v (.nilIface)])] ?_
     cases c58
     ·replace hc58:=bf hc58
      refine iF (Ad (Af (Am rfl (iQ 2 ?_))))
      let Z12:=zT [(2,.p 2 0),(6,Ia zm),(7,Ia zk),(8,Ia zk),(26,Ba true),(43,Ba false),(50,Ba false),(58,Ba false)] []
      let Z13:=zT Z12 (zT Z3 Z1)
      refine iE 70 Z13 [(2,[.v (.nilIface)])] ?_
      refine Ap ?_
      refine Bm (k,m,f-1,zk,zm,o) (⟨k1,h2,k3,by omega,h5,by omega,st.2.2 (by omega) (by omega)⟩) (by simp only;omega) (by kernel_rfl) (by kernel_rfl)
     ·replace hc58:=bt hc58
      refine iT (Am rfl (iQ 3 (Ek (q:=zi) (n:=((Bl ds).length)) (cs:=(Cn (Bl ds))) (z:=4) (ds:=[.v (.bool ((x).g)),.v (.int .u64 (hiW ((x).n))),.v (.int .u64 (loW ((x).n))),.v (.int .i64 ((x).e))]) (dst:=(some 62)) (by kernel_rfl) (by omega) (by rw[h1,Int.toNat_natCast];exact Eh hx) ?_)))
      refine iQ 1 (eC 8 [.agg [Bv ((x).g),Hw ((x).n),Lw ((x).n),Iv ((x).e)]] 64 (Fc x) (iQ 1 (Fo (n:=((At o).length)) (cs:=(Av (At o))) (m:=1) (ds:=[.bx (Vl.num (x).g (x).n (x).e).enc]) (N:=((At (o ++ [x])).length)) (es:=(Av (At (o ++ [x])))) (j:=66) (e:=39) (z:=1) (dst:=(some 66)) (by kernel_rfl) (by first | rfl | omega | (rw[Nat.mul_one];exact Cr _) | (simp[dg];done) | (simp[dg];omega)) (by first | rfl | omega | (rw[Nat.mul_one];exact Cr _) | (simp[dg];done) | (simp[dg];omega)) (rfl) (by rw[Mt];omega) (by simp[At]) (Nr o x) ?_)))
      refine iQ 1 ?_
      let Z14:=zT [(5,.w (.sl ((At (o ++ [x])).length) (Av (At (o ++ [x])))) (some ⟨66,0,39,1⟩))] []
      let Z15:=zT [(50,Ba false),(58,Ba true)] (zT Z14 (zT Z10 Z1))
      refine iE 70 Z15 [(2,[.v (.nilIface)])] ?_
      refine Af (Am rfl (iQ 2 ?_))
      let Z16:=zT [(2,.p 2 0),(6,Ia zm),(7,Ia zk),(8,Ia zk),(26,Ba true),(43,Ba false),(50,Ba false),(58,Ba true)] []
      let Z17:=zT Z16 (zT Z14 Z1)
      refine iE 70 Z17 [(2,[.v (.nilIface)])] ?_
      refine Ap ?_
      refine Bm (k,m,f-1,zk,zm,o ++ [x]) (⟨k1,h2,k3,by omega,h5,by simp;omega,st.2.1 (by omega) (by omega)⟩) (by simp only;omega) (by kernel_rfl) (by kernel_rfl)
    ·replace hc50:=bt hc50
     refine iT (Am rfl (iQ 2 (jB .sub 3 (.int .i64 zk) (.int .i64 zi) 53 ?_)))
     intro z53 hz53
     try replace hz53:=hz53.i64 (by omega)
     refine iQ 2 ?_
     let Z18:=zT [(2,.p 2 0),(5,.w (.sl 0 []) none),(6,Ia z53),(7,Ia zi),(8,Ia zk),(26,Ba true),(43,Ba false),(50,Ba true)] []
     refine iE 70 (zT Z18 Z1) [(2,[.v (.nilIface)])] ?_
     refine Af (Ae (Aa rfl (iQ 2 (jB .sub 3 (.int .i64 zk) (.int .i64 zi) 56 ?_))))
     intro z56 hz56
     try replace hz56:=hz56.i64 (by omega)
     refine iQ 1 (jB .eql 3 (.int .i64 z56) (.int .i64 z53) 58 ?_)
     refine Bn ((by omega)) ?_
     refine iE 70 (zT [(58,Ba true)] (zT Z18 Z1)) [(2,[.v (.nilIface)])] ?_
     refine iT (Am rfl (iQ 3 (Ek (q:=zi) (n:=((Bl ds).length)) (cs:=(Cn (Bl ds))) (z:=4) (ds:=[.v (.bool ((x).g)),.v (.int .u64 (hiW ((x).n))),.v (.int .u64 (loW ((x).n))),.v (.int .i64 ((x).e))]) (dst:=(some 62)) (by kernel_rfl) (by omega) (by rw[h1,Int.toNat_natCast];exact Eh hx) ?_)))
     refine iQ 1 (eC 8 [.agg [Bv ((x).g),Hw ((x).n),Lw ((x).n),Iv ((x).e)]] 64 (Fc x) (iQ 1 (Fo (n:=0) (cs:=[]) (m:=1) (ds:=[.bx (Vl.num (x).g (x).n (x).e).enc]) (N:=((At [x]).length)) (es:=(Av (At [x]))) (j:=66) (e:=39) (z:=1) (dst:=(some 66)) (by kernel_rfl) (by first | rfl | omega | (rw[Nat.mul_one];exact Cr _) | (simp[dg];done) | (simp[dg];omega)) (by first | rfl | omega | (rw[Nat.mul_one];exact Cr _) | (simp[dg];done) | (simp[dg];omega)) (rfl) (by omega) (by simp[At]) (Nr [] x) ?_)))
     refine iQ 1 ?_
     let Z19:=zT [(5,.w (.sl ((At [x]).length) (Av (At [x]))) (some ⟨66,0,39,1⟩))] []
     let Z20:=zT [(2,.p 2 0),(6,Ia z53),(7,Ia zi),(8,Ia zk),(26,Ba true),(43,Ba false),(50,Ba true),(58,Ba true)] []
     let Z21:=zT Z20 (zT Z19 Z1)
     refine iE 70 Z21 [(2,[.v (.nilIface)])] ?_
     refine Af (Am rfl (iQ 2 ?_))
     let Z22:=zT [(2,.p 2 0),(6,Ia z53),(7,Ia zk),(8,Ia zk),(26,Ba true),(43,Ba false),(50,Ba true),(58,Ba true)] []
     let Z23:=zT Z22 (zT Z19 Z1)
     refine iE 70 Z23 [(2,[.v (.nilIface)])] ?_
     refine Ap ?_
     refine Bm (k,k-i,f-1,zk,z53,[x]) (⟨k1,by omega,k3,by omega,by omega,by simp;omega,st.1 (by omega)⟩) (by simp only;omega) (by kernel_rfl) (by kernel_rfl)
   ·replace hc31:=bt hc31
    refine iQ 2 ?_
    obtain ⟨y2,hy2⟩ : ∃ y,(Bl ds)[k]? = some y:=⟨_,List.getElem?_eq_getElem (by omega)⟩
    have hrc:=Vi (x:=x) hy2
    refine Ek (q:=zk) (n:=((Bl ds).length)) (cs:=(Cn (Bl ds))) (z:=4) (ds:=[.v (.bool ((y2).g)),.v (.int .u64 (hiW ((y2).n))),.v (.int .u64 (loW ((y2).n))),.v (.int .i64 ((y2).e))]) (dst:=(some 35)) (by kernel_rfl) (by omega) (by rw[k1,Int.toNat_natCast];exact Eh hy2) ?_
    refine iQ 3 (Ek (q:=zi) (n:=((Bl ds).length)) (cs:=(Cn (Bl ds))) (z:=4) (ds:=[.v (.bool ((x).g)),.v (.int .u64 (hiW ((x).n))),.v (.int .u64 (loW ((x).n))),.v (.int .i64 ((x).e))]) (dst:=(some 39)) (by kernel_rfl) (by omega) (by rw[h1,Int.toNat_natCast];exact Eh hx) ?_)
    refine iQ 1 (jC 83 [.agg [Bv ((y2).g),Hw ((y2).n),Lw ((y2).n),Iv ((y2).e)],.agg [Bv ((x).g),Hw ((x).n),Lw ((x).n),Iv ((x).e)]] 41 (b6o y2 x) ?_)
    rintro _ ⟨c,rfl,hc⟩
    refine jB .eql 3 (.int .i64 c) (.int .i64 0) 42 ?_
    intro c42 hc42
    refine iQ 1 ?_
    let Z24:=zT [(2,.p 2 0),(6,Ia zm),(7,Ia zi),(8,Ia zk),(26,Ba true),(43,Ba c42)] []
    let Z25:=zT Z24 (zT Z3 Z1)
    refine iE 70 Z25 [(2,[.v (.nilIface)])] ?_
    cases c42
    ·replace hc42:=bf hc42
     rw[if_neg (by rw[← hc];exact hc42)] at hrc
     have hend:Jd x ((Bl ds).drop i)=k-i:=by omega
     have st:=Po hx hend hf
     rw[show i+(k-i)=k by omega] at st
     have hp:=Zi hx
     refine iF (Be (Ce (Bj (Bd rfl (Af (Ae (Aa rfl (iQ 2 (jB .sub 3 (.int .i64 zk) (.int .i64 zi) 48 ?_)))))))))
     intro z48 hz48
     try replace hz48:=hz48.i64 (by omega)
     refine iQ 1 (jB .gtr 3 (.int .i64 z48) (.int .i64 zm) 50 ?_)
     intro c50 hc50
     let Z26:=zT [(2,.p 2 0),(6,Ia zm),(7,Ia zi),(8,Ia zk),(26,Ba true),(43,Ba false),(50,Ba c50)] []
     let Z27:=zT Z26 (zT Z3 Z1)
     refine iE 70 Z27 [(2,[.v (.nilIface)])] ?_
     cases c50
     ·replace hc50:=bf hc50
      refine iF (Ad (Af (Ae (Aa rfl (iQ 2 (jB .sub 3 (.int .i64 zk) (.int .i64 zi) 56 ?_))))))
      intro z56 hz56
      try replace hz56:=hz56.i64 (by omega)
      refine iQ 1 (jB .eql 3 (.int .i64 z56) (.int .i64 zm) 58 ?_)
      intro c58 hc58
      let Z28:=zT [(2,.p 2 0),(6,Ia zm),(7,Ia zi),(8,Ia zk),(26,Ba true),(43,Ba false),(50,Ba false),(58,Ba c58)] []
      let Z29:=zT Z28 (zT Z3 Z1)
      refine iE 70 Z29 [(2,[.v (.nilIface)])] ?_
      cases c58
      ·replace hc58:=bf hc58
       refine iF (Ad (Af (Am rfl (iQ 2 ?_))))
       let Z30:=zT [(2,.p 2 0),(6,Ia zm),(7,Ia zk),(8,Ia zk),(26,Ba true),(43,Ba false),(50,Ba false),(58,Ba false)] []
       let Z31:=zT Z30 (zT Z3 Z1)
       refine iE 70 Z31 [(2,[.v (.nilIface)])] ?_
       refine Ap ?_
       refine Bm (k,m,f-1,zk,zm,o) (⟨k1,h2,k3,by omega,h5,by omega,st.2.2 (by omega) (by omega)⟩) (by simp only;omega) (by kernel_rfl) (by kernel_rfl)
      ·replace hc58:=bt hc58
       refine iT (Am rfl (iQ 3 (Ek (q:=zi) (n:=((Bl ds).length)) (cs:=(Cn (Bl ds))) (z:=4) (ds:=[.v (.bool ((x).g)),.v (.int .u64 (hiW ((x).n))),.v (.int .u64 (loW ((x).n))),.v (.int .i64 ((x).e))]) (dst:=(some 62)) (by kernel_rfl) (by omega) (by rw[h1,Int.toNat_natCast];exact Eh hx) ?_)))
       refine iQ 1 (eC 8 [.agg [Bv ((x).g),Hw ((x).n),Lw ((x).n),Iv ((x).e)]] 64 (Fc x) (iQ 1 (Fo (n:=((At o).length)) (cs:=(Av (At o))) (m:=1) (ds:=[.bx (Vl.num (x).g (x).n (x).e).enc]) (N:=((At (o ++ [x])).length)) (es:=(Av (At (o ++ [x])))) (j:=66) (e:=39) (z:=1) (dst:=(some 66)) (by kernel_rfl) (by first | rfl | omega | (rw[Nat.mul_one];exact Cr _) | (simp[dg];done) | (simp[dg];omega)) (by first | rfl | omega | (rw[Nat.mul_one];exact Cr _) | (simp[dg];done) | (simp[dg];omega)) (rfl) (by rw[Mt];omega) (by simp[At]) (Nr o x) ?_)))
       refine iQ 1 ?_
       let Z32:=zT [(5,.w (.sl ((At (o ++ [x])).length) (Av (At (o ++ [x])))) (some ⟨66,0,39,1⟩))] []
       let Z33:=zT [(2,.p 2 0),(6,Ia zm),(7,Ia zi),(8,Ia zk),(26,Ba true),(43,Ba false),(50,Ba false),(58,Ba true)] []
       let Z34:=zT Z33 (zT Z32 Z1)
       refine iE 70 Z34 [(2,[.v (.nilIface)])] ?_
       refine Af (Am rfl (iQ 2 ?_))
       let Z35:=zT [(2,.p 2 0),(6,Ia zm),(7,Ia zk),(8,Ia zk),(26,Ba true),(43,Ba false),(50,Ba false),(58,Ba true)] []
       let Z36:=zT Z35 (zT Z32 Z1)
       refine iE 70 Z36 [(2,[.v (.nilIface)])] ?_
       refine Ap ?_
       refine Bm (k,m,f-1,zk,zm,o ++ [x]) (⟨k1,h2,k3,by omega,h5,by simp;omega,st.2.1 (by omega) (by omega)⟩) (by simp only;omega) (by kernel_rfl) (by kernel_rfl)
     ·replace hc50:=bt hc50
      refine iT (Am rfl (iQ 2 (jB .sub 3 (.int .i64 zk) (.int .i64 zi) 53 ?_)))
      intro z53 hz53
      try replace hz53:=hz53.i64 (by omega)
      refine iQ 2 ?_
      let Z37:=zT [(2,.p 2 0),(5,.w (.sl 0 []) none),(6,Ia z53),(7,Ia zi),(8,Ia zk),(26,Ba true),(43,Ba false),(50,Ba true)] []
      refine iE 70 (zT Z37 Z1) [(2,[.v (.nilIface)])] ?_
      refine Af (Ae (Aa rfl (iQ 2 (jB .sub 3 (.int .i64 zk) (.int .i64 zi) 56 ?_))))
      intro z56 hz56
      try replace hz56:=hz56.i64 (by omega)
      refine iQ 1 (jB .eql 3 (.int .i64 z56) (.int .i64 z53) 58 ?_)
      refine Bn ((by omega)) ?_
      refine iE 70 (zT [(58,Ba true)] (zT Z37 Z1)) [(2,[.v (.nilIface)])] ?_
      refine iT (Am rfl (iQ 3 (Ek (q:=zi) (n:=((Bl ds).length)) (cs:=(Cn (Bl ds))) (z:=4) (ds:=[.v (.bool ((x).g)),.v (.int .u64 (hiW ((x).n))),.v (.int .u64 (loW ((x).n))),.v (.int .i64 ((x).e))]) (dst:=(some 62)) (by kernel_rfl) (by omega) (by rw[h1,Int.toNat_natCast];exact Eh hx) ?_)))
      refine iQ 1 (eC 8 [.agg [Bv ((x).g),Hw ((x).n),Lw ((x).n),Iv ((x).e)]] 64 (Fc x) (iQ 1 (Fo (n:=0) (cs:=[]) (m:=1) (ds:=[.bx (Vl.num (x).g (x).n (x).e).enc]) (N:=((At [x]).length)) (es:=(Av (At [x]))) (j:=66) (e:=39) (z:=1) (dst:=(some 66)) (by kernel_rfl) (by first | rfl | omega | (rw[Nat.mul_one];exact Cr _) | (simp[dg];done) | (simp[dg];omega)) (by first | rfl | omega | (rw[Nat.mul_one];exact Cr _) | (simp[dg];done) | (simp[dg];omega)) (rfl) (by omega) (by simp[At]) (Nr [] x) ?_)))
      refine iQ 1 ?_
      let Z38:=zT [(5,.w (.sl ((At [x]).length) (Av (At [x]))) (some ⟨66,0,39,1⟩))] []
      let Z39:=zT [(2,.p 2 0),(6,Ia z53),(7,Ia zi),(8,Ia zk),(26,Ba true),(43,Ba false),(50,Ba true),(58,Ba true)] []
      let Z40:=zT Z39 (zT Z38 Z1)
      refine iE 70 Z40 [(2,[.v (.nilIface)])] ?_
      refine Af (Am rfl (iQ 2 ?_))
      let Z41:=zT [(2,.p 2 0),(6,Ia z53),(7,Ia zk),(8,Ia zk),(26,Ba true),(43,Ba false),(50,Ba true),(58,Ba true)] []
      let Z42:=zT Z41 (zT Z38 Z1)
      refine iE 70 Z42 [(2,[.v (.nilIface)])] ?_
      refine Ap ?_
      refine Bm (k,k-i,f-1,zk,z53,[x]) (⟨k1,by omega,k3,by omega,by omega,by simp;omega,st.1 (by omega)⟩) (by simp only;omega) (by kernel_rfl) (by kernel_rfl)
    ·replace hc42:=bt hc42
     rw[if_pos (by rw[← hc];exact hc42)] at hrc
     refine iT (Ad (Af (Ak (Am rfl (iQ 1 (jB .add 3 (.int .i64 zk) (.int .i64 1) 45 ?_))))))
     intro z45 hz45
     try replace hz45:=hz45.i64 (by omega)
     refine iQ 1 ?_
     let Z43:=zT [(2,.p 2 0),(6,Ia zm),(7,Ia zi),(8,Ia z45),(26,Ba true),(43,Ba true)] []
     let Z44:=zT Z43 (zT Z3 Z1)
     refine iE 70 Z44 [(2,[.v (.nilIface)])] ?_
     refine Ap ?_
     refine Bm (k+1,z45) (⟨by omega,by omega,by omega,by omega⟩) (by simp only;omega) (by kernel_rfl) (by kernel_rfl)
open Go.RowKit
set_option linter.unusedVariables false
set_option linter.unusedSimpArgs false
set_option maxRecDepth 100000
noncomputable def Np:D3→List D3→Option D3
 | a,[]=>some a
 | a,x::r=>(Cf (Jm a x)).bind fun b=>Np b r
def Jl (n:Nat) (h:n<1000000000):D3:=⟨(false,n,0),by show n<E34;unfold E34;omega,by show (-6176:Int)≤0;decide,by show (0:Int)≤6111;decide,fun h=>by cases h⟩
theorem b21 {n:Nat} (h:n<1000000000):Ot (n:Int)=(Jl n h).vl:=by
 have:decide ((n:Int)<0)=false:=by simp
 simp only[Ot,Jl,D3.vl,this,Int.natAbs_natCast]
noncomputable def Ld (x:D3) (r:List D3) (h:r.length<1000):Option D3:=(Np x r).bind fun s=>Cf (Je s (Jl (r.length+1) (by omega)))
theorem a7h {a x:D3} {r:List D3} {k:Nat} (h:r[k]? = some x):Np a (r.drop k)=(Cf (Jm a x)).bind fun b=>Np b (r.drop (k+1)):=by
 obtain ⟨h1,h2⟩:=List.getElem?_eq_some_iff.1 h
 rw[List.drop_eq_getElem_cons h1,h2,Np]
theorem b6m {x:D3} {r:List D3} (h:r.length<1000):HasC Tryz.prog 112 [.v (.string (⟨#[43]⟩)),.sl ((At (x::r)).length) (Av (At (x::r)))] (fun y => ∃ z v o,y=.tup [z,.v (.bool o)]∧IsV z v∧v=Dz (Np x r)∧o=(Np x r).isSome):=by
 refine hO [] Tryz.f112 (fun a w=>Tryz.call112 a w) Tryz.func112 rfl (⟨_,_,_,_,rfl,.inl rfl,rfl,rfl⟩) ?_
 have hL:(At (x::r)).length=r.length+1:=by simp
 have hL2:(At r).length=r.length:=by simp
 refine Aa rfl (iQ 2 ?_)
 let Z1:=zT [(1,.d (.sl ((At (x::r)).length) (Av (At (x::r)))))] []
 let Z2:=zT [(0,.d (Sv (⟨#[43]⟩))),(4,.p 4 0),(5,Ba false)] []
 refine iE 34 (zT Z2 Z1) [(4,[.v (.nilIface)])] ?_
 refine Aa rfl (iQ 1 (Bi (q:=0) (n:=((At (x::r)).length)) (cs:=(Av (At (x::r)))) (d:=.bx (Vl.num (x).g (x).n (x).e).enc) (dst:=(some 12)) (by kernel_rfl) (by omega) (Ou (Tc rfl)) ?_))
 refine iQ 3 ?_
 let Z3:=zH [(4,[.v (.nilIface)]),(6,[.bx (Vl.num (x).g (x).n (x).e).enc])] []
 refine iE 34 (zT [(6,.p 6 0)] (zT Z1 Z2)) Z3 ?_
 refine Ae (Aa rfl (iQ 1 (b1r (l:=1) (u:=((((At (x::r)).length:Nat):Int))) (n:=((At (x::r)).length)) (cs:=(Av (At (x::r)))) (z:=1) (m:=((At r).length)) (ds:=(Av (At r))) (dst:=(some 15)) (by kernel_rfl) (by omega) (by omega) (by simp[At,Av,List.take_of_length_le]) ?_)))
 refine iQ 2 ?_
 let Z4:=zT [(15,.d (.sl ((At r).length) (Av (At r))))] []
 let Z5:=zT [(6,.p 6 0),(16,Ia ((((At r).length:Nat):Int))),(17,Ia 0)] []
 let Z6:=zT Z5 (zT Z4 (zT Z1 Z2))
 refine iE 34 Z6 Z3 ?_
 refine Ak (Bq 34 (fun (vcx:Nat×Int×Vl)=>match vcx with | (k,z,v)=>[(0,.d (Sv (⟨#[43]⟩))),(1,.d (.sl ((At (x::r)).length) (Av (At (x::r))))),(4,.p 4 0),(5,Ba false),(6,.p 6 0),(15,.d (.sl ((At r).length) (Av (At r)))),(16,Ia ((((At r).length:Nat):Int))),(17,Ia z)]) (fun (vcx:Nat×Int×Vl)=>match vcx with | (k,z,v)=>[(4,[.v (.nilIface)]),(6,[.bx (v).enc])]) (fun (vcx:Nat×Int×Vl)=>match vcx with | (k,z,v) => ∃ a:D3,v=a.vl∧z=k∧k≤r.length∧Np a (r.drop k)=Np x r) (fun (vcx:Nat×Int×Vl)=>match vcx with | (k,z,v)=>r.length-k) ((0,0,x.vl)) (⟨x,rfl,rfl,Nat.zero_le _,rfl⟩) (by kernel_rfl) (by kernel_rfl) ?_)
 rintro ⟨k,z,v⟩ hinv
 simp only at hinv
 obtain ⟨a,ha,h1,h2,h3⟩:=hinv
 refine Aa rfl (jB .lss 3 (.int .i64 z) (.int .i64 ((((At r).length:Nat):Int))) 18 ?_)
 intro c18 hc18
 let Z7:=zT [(6,.p 6 0),(16,Ia ((((At r).length:Nat):Int))),(17,Ia z),(18,Ba c18)] []
 let Z8:=zT Z7 (zT Z1 (zT Z2 Z4))
 refine iE 34 Z8 [(4,[.v (.nilIface)]),(6,[.bx (v).enc])] ?_
 refine Ae ?_
 cases c18
 ·replace hc18:=bf hc18
  have h4:Np x r=some a:=by rw[← h3,List.drop_eq_nil_of_le (by omega),Np]
  refine iF (Be (Ce (Bj (Bd rfl (Af (Aa rfl (iQ 3 ?_)))))))
  let Z9:=zT [(0,.d (Sv (⟨#[43]⟩))),(4,.p 4 0),(5,Ba true),(6,.p 6 0),(16,Ia ((((At r).length:Nat):Int))),(17,Ia z),(18,Ba false)] []
  let Z10:=zT Z9 (zT Z1 Z4)
  refine iE 34 Z10 [(4,[.bx (v).enc]),(6,[.bx (v).enc])] ?_
  refine Ab (iS (.agg [.bx (v).enc]) (Bv true) [] ?_)
  exact ⟨_,_,_,rfl,.inl rfl,by rw[h4,ha];rfl,by rw[h4];rfl⟩
 ·replace hc18:=bt hc18
  obtain ⟨y2,hy⟩ : ∃ y,r[k]? = some y:=⟨_,List.getElem?_eq_getElem (by omega)⟩
  rw[a7h hy] at h3
  refine iT (Ad (Af (Ae (Ak (Aa rfl (Bi (q:=z) (n:=((At r).length)) (cs:=(Av (At r))) (d:=.bx (Vl.num (y2).g (y2).n (y2).e).enc) (dst:=(some 19)) (by kernel_rfl) (by omega) (by rw[h1,Int.toNat_natCast];exact Ou (Tc hy)) ?_))))))
  refine iQ 3 ?_
  let Z11:=zT [(6,.p 6 0),(8,.p 8 0),(16,Ia ((((At r).length:Nat):Int))),(17,Ia z),(18,Ba true)] []
  let Z12:=zT Z11 (zT Z1 (zT Z2 Z4))
  let Z13:=zH [(4,[.v (.nilIface)]),(6,[.bx (v).enc]),(8,[.bx (Vl.num (y2).g (y2).n (y2).e).enc])] []
  refine iE 34 Z12 Z13 ?_
  refine Aa rfl (iQ 3 (jC 9 [Sv (⟨#[43]⟩),.agg [.bx (v).enc],.agg [.bx (Vl.num (y2).g (y2).n (y2).e).enc]] 25 (a4l (y:=y2) ha rfl) ?_))
  rintro _ ⟨v2,o2,rfl,hv2,ho2⟩
  refine iQ 6 (iE 34 (zT [(9,.p 9 0),(10,Ba o2)] Z12) (zH [(9,[.bx (v2).enc])] Z13) ?_)
  refine Ae (Aa rfl (iQ 1 (jU .not (.bool o2) 29 ?_)))
  intro c29 hc29
  refine iE 34 (zT [(9,.p 9 0),(10,Ba o2),(29,Ba c29)] Z12) (zH [(9,[.bx (v2).enc])] Z13) ?_
  cases c29
  ·replace hc29:=bf hc29
   obtain ⟨d,q1,q2⟩:=Xo hv2 ho2 (by simpa using hc29)
   refine iF (Ad (Af (Am rfl (iQ 2 ?_))))
   let Z14:=zT [(1,.d (.sl ((At (x::r)).length) (Av (At (x::r)))))] []
   let Z15:=zT [(15,.d (.sl ((At r).length) (Av (At r))))] []
   let Z16:=zT [(0,.d (Sv (⟨#[43]⟩))),(4,.p 4 0),(5,Ba false),(9,.p 9 0),(10,Ba o2),(29,Ba false)] []
   let Z17:=zT Z16 (zT Z15 (zT Z14 Z11))
   let Z18:=zH [(4,[.v (.nilIface)]),(6,[.bx (v2).enc]),(8,[.bx (Vl.num (y2).g (y2).n (y2).e).enc]),(9,[.bx (v2).enc])] []
   refine iE 34 Z17 Z18 ?_
   refine Ap (Af (Am rfl (jB .add 3 (.int .i64 z) (.int .i64 1) 32 ?_)))
   intro z32 hz32
   try replace hz32:=hz32.i64 (by omega)
   refine iQ 1 ?_
   let Z19:=zT [(6,.p 6 0),(8,.p 8 0),(16,Ia ((((At r).length:Nat):Int))),(17,Ia z32),(18,Ba true)] []
   let Z20:=zT Z19 (zT Z16 (zT Z14 Z15))
   refine iE 34 Z20 Z18 ?_
   refine Bm (k+1,z32,v2) (⟨d,q2,by omega,by omega,by rw[← h3,q1];rfl⟩) (by simp only;omega) (by kernel_rfl) (by kernel_rfl)
  ·replace hc29:=bt hc29
   obtain ⟨q1,q2⟩:=a2l hv2 ho2 (by simpa using hc29)
   refine iT (Aa rfl (iQ 3 ?_))
   let Z21:=zT [(1,.d (.sl ((At (x::r)).length) (Av (At (x::r)))))] []
   let Z22:=zT [(15,.d (.sl ((At r).length) (Av (At r))))] []
   let Z23:=zT [(0,.d (Sv (⟨#[43]⟩))),(4,.p 4 0),(5,Ba false),(9,.p 9 0),(10,Ba o2),(29,Ba true)] []
   let Z24:=zT Z23 (zT Z22 (zT Z21 Z11))
   refine iE 34 Z24 (zH [(9,[.bx (v2).enc])] Z13) ?_
   refine Ab (Ag (Ai (Ag (Db (Ai (Ag (iS (.agg [.v (.nilIface)]) (Bv false) [] ?_)))))))
   exact ⟨_,.null,_,rfl,IsV.null,by rw[← h3,q1];rfl,by rw[← h3,q1];rfl⟩
theorem b6k {P:Program} {f:FuncId} {ds:List DV} {o:Option D3} (h:HasC P f ds (fun y => ∃ z v b,y=.tup [z,.v (.bool b)]∧IsV z v∧v=Dz o∧b=o.isSome)):HasC P f ds (fun y => ∃ v b,y=.tup [VV v,.v (.bool b)]∧v=Dz o∧b=o.isSome):=h.isVb (q:=fun v b=>v=Dz o∧b=o.isSome)
theorem c0w {x:D3} {r:List D3} (h:r.length<1000):HasC Tryz.prog 80 [.sl ((At (x::r)).length) (Av (At (x::r)))] (fun y => ∃ z v o,y=.tup [z,.v (.bool o)]∧IsV z v∧v=Dz (Np x r)∧o=(Np x r).isSome):=by
 refine hO [] Tryz.f80 (fun a w=>Tryz.call80 a w) Tryz.func80 rfl (⟨_,_,_,_,rfl,.inl rfl,rfl,rfl⟩) ?_
 refine Aa rfl (iQ 2 ?_)
 let Z1:=zT [(0,.d (.sl ((At (x::r)).length) (Av (At (x::r)))))] []
 refine iE 18 (zT [(2,.p 2 0),(3,Ba false)] Z1) [(2,[.v (.nilIface)])] ?_
 refine Ae (Aa rfl (iQ 1 (eC 81 [.sl ((At (x::r)).length) (Av (At (x::r)))] 8 ((Ur (ds:=x::r) (by simp;omega)).toC) (iQ 5 ?_))))
 let Z2:=zT [(2,.p 2 0),(3,Ba false),(5,Ba (decide (0<(x::r).length)))] []
 refine iE 18 (zT Z2 Z1) [(2,[.v (.nilIface)])] ?_
 refine Aa rfl (iQ 1 (jU .not (.bool (decide (0<(x::r).length))) 12 ?_))
 refine An ((by simp)) ?_
 refine iE 18 (zT [(2,.p 2 0),(3,Ba false),(12,Ba false)] Z1) [(2,[.v (.nilIface)])] ?_
 refine iF (Ad (Af (Aa rfl (iQ 1 (jC 112 [Sv (⟨#[43]⟩),.sl ((At (x::r)).length) (Av (At (x::r)))] 15 (b6k (b6m (x:=x) h)) ?_)))))
 rintro _ ⟨v,o,rfl,hv,ho⟩
 refine iQ 4 (iE 18 (zT [(2,.p 2 0),(3,Ba o),(12,Ba false)] Z1) [(2,[.bx (v).enc])] ?_)
 refine Ab (iS (.agg [.bx (v).enc]) (Bv o) [] ?_)
 exact ⟨_,_,_,rfl,.inl rfl,hv,ho⟩
theorem b76 {x:D3} {r:List D3} (h:r.length<1000):HasC Tryz.prog 40 [.sl ((At (x::r)).length) (Av (At (x::r)))] (fun y => ∃ z v o,y=.tup [z,.v (.bool o)]∧IsV z v∧v=Dz (Ld x r h)∧o=(Ld x r h).isSome):=by
 refine hO [] Tryz.f40 (fun a w=>Tryz.call40 a w) Tryz.func40 rfl (⟨_,_,_,_,rfl,.inl rfl,rfl,rfl⟩) ?_
 have hL:(At (x::r)).length=r.length+1:=by simp
 refine Aa rfl (iQ 2 ?_)
 let Z1:=zT [(0,.d (.sl ((At (x::r)).length) (Av (At (x::r)))))] []
 refine iE 26 (zT [(2,.p 2 0),(3,Ba false)] Z1) [(2,[.v (.nilIface)])] ?_
 refine Aa rfl (iQ 1 (jC 80 [.sl ((At (x::r)).length) (Av (At (x::r)))] 8 (b6k (c0w (x:=x) h)) ?_))
 rintro _ ⟨v,o,rfl,hv,ho⟩
 refine iQ 6 ?_
 let Z2:=zT [(2,.p 2 0),(3,Ba false),(4,.p 4 0),(5,Ba o)] []
 refine iE 26 (zT Z2 Z1) [(2,[.v (.nilIface)]),(4,[.bx (v).enc])] ?_
 refine Ae (Aa rfl (iQ 1 (jU .not (.bool o) 12 ?_)))
 intro c12 hc12
 refine iQ 1 ?_
 cases c12
 ·replace hc12:=bf hc12
  refine iQ 1 ?_
  obtain ⟨d,q1,q2⟩:=Xo hv ho (by simpa using hc12)
  refine eC 17 [.agg [.bx (v).enc]] 15 (b5h q2) ?_
  have hw:Ot (((At (x::r)).length:Nat):Int)=(Jl (r.length+1) (by omega)).vl:=by rw[hL];exact b21 (by omega)
  refine iQ 1 ?_
  let Z3:=zT [(0,.d (.sl ((At (x::r)).length) (Av (At (x::r)))))] []
  refine iE 26 (zT [(16,Ba false)] (zT Z3 Z2)) [(2,[.v (.nilIface)]),(4,[.bx (v).enc])] ?_
  refine iF (Ad (Af (Aa rfl (iQ 3 (eC 10 [Iv ((((At (x::r)).length:Nat):Int))] 22 (Lk (x:=(((At (x::r)).length:Nat):Int)) (by omega) (by omega)) (jC 9 [Sv (⟨#[47]⟩),.agg [.bx (v).enc],.agg [.bx (Ot (((At (x::r)).length:Nat):Int)).enc]] 23 (a36 (y:=Jl (r.length+1) (by omega)) q2 hw (Nat.succ_ne_zero _)) ?_))))))
  rintro _ ⟨v2,o2,rfl,hv2,ho2⟩
  refine iQ 4 ?_
  let Z4:=zT [(2,.p 2 0),(3,Ba o2),(4,.p 4 0),(5,Ba o),(16,Ba false)] []
  refine iE 26 (zT Z4 Z3) [(2,[.bx (v2).enc]),(4,[.bx (v).enc])] ?_
  refine Ab (iS (.agg [.bx (v2).enc]) (Bv o2) [] ?_)
  exact ⟨_,_,_,rfl,.inl rfl,by rw[Ld,q1];exact hv2,by rw[Ld,q1];exact ho2⟩
 ·replace hc12:=bt hc12
  refine iQ 3 ?_
  let Z5:=zT [(0,.d (.sl ((At (x::r)).length) (Av (At (x::r)))))] []
  refine iE 26 (zT [(16,Ba true)] (zT Z5 Z2)) [(2,[.v (.nilIface)]),(4,[.bx (v).enc])] ?_
  obtain ⟨q1,q2⟩:=a2l hv ho (by simpa using hc12)
  have hm:Ld x r h=none:=by rw[Ld,q1];rfl
  refine iT (Aa rfl (iQ 4 ?_))
  let Z6:=zT [(2,.p 2 0),(3,Ba o),(4,.p 4 0),(5,Ba o),(16,Ba true)] []
  refine iE 26 (zT Z6 Z5) [(2,[.v (.nilIface)]),(4,[.bx (v).enc])] ?_
  refine Ab (Ag (iS (.agg [.v (.nilIface)]) (Bv o) [] ?_))
  exact ⟨_,.null,_,rfl,IsV.null,by rw[hm];rfl,by rw[hm,ho,q1];first | done | rfl⟩
noncomputable def En (x:D3):T4:=Ja x.n x.e
theorem Om {a:Nat} {x:Int} {g:Bool} {k:Nat} {e:Int} {ok:Bool} (h:Ja a x=(g,k,e,ok)):May g k e:=by
 unfold Ja at h
 split at h
 ·exact Ln (El h)
 ·exact Ln (El h)
noncomputable def Nc (x:D3):D3:=⟨((En x).1,(En x).2.1,(En x).2.2.1),Om rfl⟩
theorem b19 {x:D3} (hx:x.g=false):HasC Tryz.prog 28 [Bk x.g x.n x.e] (fun y=>y=.tup [Bk (En x).1 (En x).2.1 (En x).2.2.1,.v (.bool (En x).2.2.2)]) :=
 (a35 x.lt (by have:=x.lo;omega) (by have:=x.hi;omega)).mono fun y hy=>by rw[hy,Fv,if_neg (fun h=>by rw[hx] at h;cases h.2)];rfl
theorem b7t {x:D3} (hx:x.g=false):HasC Tryz.prog 29 [.agg [.bx (Vl.num (x).g (x).n (x).e).enc]] (fun y=>y=VV (Nc x).vl):=by
 refine hO [] Tryz.f29 (fun a w=>Tryz.call29 a w) Tryz.func29 rfl (⟨_,rfl⟩) ?_
 refine Aa rfl (iQ 2 ?_)
 let Z1:=zH [(1,[.bx (Vl.num (x).g (x).n (x).e).enc]),(2,[.v (.nilIface)])] []
 refine iE 27 [(1,.p 1 0),(2,.p 2 0)] Z1 ?_
 refine Aa rfl (iQ 1 (eC 67 [.agg [.bx (Vl.num (x).g (x).n (x).e).enc]] 9 (Dv) (iQ 6 ?_)))
 let Z2:=zH [(3,[Bv ((x).g),Hw ((x).n),Lw ((x).n),Iv ((x).e)])] []
 refine iE 27 [(2,.p 2 0),(3,.p 3 0),(4,Ba true)] (zH [(2,[.v (.nilIface)])] Z2) ?_
 refine Ae (Aa rfl (iQ 1 (jU .not (.bool true) 13 ?_)))
 refine An ((by simp)) ?_
 refine iQ 2 (eC 74 [.agg [Bv ((x).g),Hw ((x).n),Lw ((x).n),Iv ((x).e)]] 16 (Hh x.ltB) ?_)
 have hs:0≤Dl x.g x.n:=by rw[hx];unfold Dl;split<;>simp
 refine jB .lss 3 (.int .i64 (Dl x.g x.n)) (.int .i64 0) 17 ?_
 refine An ((by omega)) ?_
 refine iQ 1 (iE 27 [(2,.p 2 0),(3,.p 3 0),(18,Ba false)] (zH [(2,[.v (.nilIface)])] Z2) ?_)
 refine iF (Ad (Af (Aa rfl (iQ 1 (eC 28 [.agg [Bv ((x).g),Hw ((x).n),Lw ((x).n),Iv ((x).e)]] 22 (b19 hx) (iQ 6 ?_))))))
 let Z3:=zT [(2,.p 2 0),(3,.p 3 0),(5,.p 5 0),(18,Ba false)] []
 let Z4:=zH [(5,[Bv ((En x).1),Hw ((En x).2.1),Lw ((En x).2.1),Iv ((En x).2.2.1)])] []
 refine iE 27 Z3 (zH [(2,[.v (.nilIface)])] (zH Z4 Z2)) ?_
 refine Aa rfl (iQ 1 (eC 8 [.agg [Bv ((En x).1),Hw ((En x).2.1),Lw ((En x).2.1),Iv ((En x).2.2.1)]] 26 (Fc (Nc x)) (iQ 1 ?_)))
 let Z5:=zH [(2,[.bx (Vl.num (Nc x).g (Nc x).n (Nc x).e).enc])] []
 let Z6:=zH Z5 (zH Z4 Z2)
 refine iE 27 Z3 Z6 ?_
 refine Ab (iR (.agg [.bx (Vl.num (Nc x).g (Nc x).n (Nc x).e).enc]) ?_)
 rfl
open Go.RowKit
set_option linter.unusedVariables false
set_option linter.unusedSimpArgs false
theorem b37 {s:Bool} {n:Nat} {e B:Int} (h:e≤B) (h0 : -6176≤B) (h1:B≤6111) : ∃ g k x,Mp s n e=(g,k,x,true)∧x≤B∧(s=false→g=false):=by
 unfold Mp
 split
 ·exact ⟨_,_,_,rfl,by omega,fun _=>rfl⟩
 ·rw[if_neg (by omega)]
  exact ⟨_,_,_,rfl,by omega,id⟩
theorem b3n {m:Int} {s:Bool} {N:Nat} {e B:Int} {more:Bool} (h:e+Dp N e≤B) (h0 : -6176≤B) (h1:B≤6000) : ∃ g k x,Fg m s N e more=(g,k,x,true)∧x≤B+1∧(s=false→g=false):=by
 unfold Fg
 refine b37 ?_ (by omega) (by omega)
 unfold Gz
 split<;>omega
theorem a4d {m:Int} {s:Bool} {N:Nat} {e B:Int} {more:Bool} (hN:nd N≤78) (h:e+44≤B) (h0 : -6176≤B) (h1:B≤6000) : ∃ g k x,Fh m s N e more=(g,k,x,true)∧x≤B+1∧(s=false→g=false):=by
 rw[Hk m s e more hN]
 refine b3n ?_ h0 h1
 unfold Dp
 omega
theorem b33 {t:T4} {B:Int} {p:Prop} (h : ∃ g k x,t=(g,k,x,true)∧x≤B∧(p→g=false)) (hm : ∀ {g k x ok},t=(g,k,x,ok)→May g k x) : ∃ d,Cf t=some d∧d.e≤B∧(p→d.g=false):=by
 obtain ⟨g,k,x,rfl,h1,h2⟩:=h
 exact ⟨_,Dw (hm rfl),h1,h2⟩
theorem Zh : ∀ (k q:Nat),(Cp k q).1≤q∧(Cp k q).2≤k
 | 0,q=>⟨Nat.le_refl _,Nat.le_refl _⟩
 | k+1,q=>by
  rw[Cp]
  split
  ·have:=Zh k (q / 10)
   exact ⟨by have:=Nat.div_le_self q 10;simp only;omega,by simp only;omega⟩
  ·exact ⟨Nat.le_refl _,Nat.zero_le _⟩
theorem b3t {a b:Nat} (ha:a<E34) (hb:b<E34) (h0:0<b):(Ow a b).1<10 ^ 36∧(Ow a b).2≤divN a b:=by
 obtain ⟨r1,_,_⟩:=Zn ha hb h0
 have hq:a*10 ^ divN a b / b<10 ^ 36:=(Nat.div_lt_iff_lt_mul h0).2 r1
 unfold Ow
 split
 ·have:=Zh (divN a b) (a*10 ^ divN a b / b)
  exact ⟨Nat.lt_of_le_of_lt this.1 hq,this.2⟩
 ·exact ⟨hq,Nat.zero_le _⟩
theorem a8b {x y:D3} {B:Int} (hy:y.n≠0) (hx:x.e-y.e≤B) (h0:0≤B) (h1:B≤5000) : ∃ d,Cf (Je x y)=some d∧d.e≤B+45∧(x.g=y.g→d.g=false):=by
 refine b33 ?_ a3l
 unfold Je Gy
 rw[if_neg hy]
 unfold a06
 split
 ·obtain ⟨g,k,e,h2,h3,h4⟩:=a4d (m:=1) (s:=false) (N:=0) (e:=x.e-y.e) (more:=false) (B:=B+44) (Cj 78 0 (by decide)) (by omega) (by omega) (by omega)
  exact ⟨g,k,e,h2,by omega,fun _=>h4 rfl⟩
 ·obtain ⟨q1,q2⟩:=b3t x.lt y.lt (Nat.pos_of_ne_zero hy)
  obtain ⟨g,k,e,h2,h3,h4⟩:=a4d (m:=1) (s:=x.g != y.g) (N:=(Ow x.n y.n).1) (e:=x.e-y.e-(divN x.n y.n:Nat)+((Ow x.n y.n).2:Nat)) (more:=Kt x.n y.n) (B:=B+44) (Cj 78 _ (Nat.lt_of_lt_of_le q1 (by decide))) (by omega) (by omega) (by omega)
  exact ⟨g,k,e,h2,by omega,fun h=>h4 (by rw[h];simp)⟩
theorem b1i {n:Nat} (h:n<1000000000):Cf (false,n,0,true)=some (Jl n h):=by rw[Dw (g:=false) (k:=n) (x:=0) (Jl n h).2];rfl
theorem a84 {n:Nat} (h:n<1000000000):Fg 1 false n 0 false=(false,n,0,true):=by
 rw[a0l (by unfold E34;omega) (by decide) (by decide)]
 simp
theorem b2w {a b:Nat} (ha:a<1000000000) (hb:b<1000000000) (h:a+b<1000000000):Cf (Jm (Jl a ha) (Jl b hb))=some (Jl (a+b) h):=by
 have e:Jm (Jl a ha) (Jl b hb)=Fg 1 false (a+b) 0 false:=by
  simp[Jm,Gm,a2m,Jl]
 rw[e,a84 h,b1i h]
open Go.RowKit Go.Sort
set_option linter.unusedVariables false
set_option linter.unusedSimpArgs false
set_option maxRecDepth 100000
def d0:D3:=Jl 0 (by decide)
def d1:D3:=Jl 1 (by decide)
def d2:D3:=Jl 2 (by decide)
def d3:D3:=Jl 3 (by decide)
theorem c_v0:HasC Tryz.prog 10 [.v (.int .i64 0)] (fun r=>r=VV (.num d0.g d0.n d0.e)):=Lk (x:=0) (by decide) (by decide)
theorem a87:HasC Tryz.prog 10 [.v (.int .i64 1)] (fun r=>r=VV (.num d1.g d1.n d1.e)):=Lk (x:=1) (by decide) (by decide)
theorem b3x:HasC Tryz.prog 10 [.v (.int .i64 2)] (fun r=>r=VV (.num d2.g d2.n d2.e)):=Lk (x:=2) (by decide) (by decide)
theorem c_v3:HasC Tryz.prog 10 [.v (.int .i64 3)] (fun r=>r=VV (.num d3.g d3.n d3.e)):=Lk (x:=3) (by decide) (by decide)
theorem c_i1:HasC Tryz.prog 42 [.v (.int .i64 1)] (fun r=>r=Bk d1.g d1.n d1.e):=a44 (x:=1) (by decide) (by decide)
theorem b8f:HasC Tryz.prog 42 [.v (.int .i64 2)] (fun r=>r=Bk d2.g d2.n d2.e):=a44 (x:=2) (by decide) (by decide)
theorem c_i3:HasC Tryz.prog 42 [.v (.int .i64 3)] (fun r=>r=Bk d3.g d3.n d3.e):=a44 (x:=3) (by decide) (by decide)
theorem Wx {g:Bool} {n:Nat} {e:Int} (hn:n<B128) (h:n=0):HasC Tryz.prog 16 [Bk g n e] (fun y=>y=.v (.bool true)):=(Du hn).mono fun y ⟨b,h1,h2⟩=>by rw[h1,h2.2 h]
theorem b69 {x y:D3} (hy:y.n=0):HasC Tryz.prog 9 [.v (.string (⟨#[47]⟩)),.agg [.bx (Vl.num (x).g (x).n (x).e).enc],.agg [.bx (Vl.num (y).g (y).n (y).e).enc]] (fun r => ∃ z v o,r=.tup [z,.v (.bool o)]∧IsV z v∧v=.null∧o=true):=by
 refine hO [] Tryz.f9 (fun a w=>Tryz.call9 a w) Tryz.func9 rfl (⟨_,_,_,_,rfl,.inl rfl,rfl,rfl⟩) ?_
 refine Aa rfl (iQ 4 ?_)
 let Z1:=zT [(0,.d (Sv (⟨#[47]⟩))),(4,.p 4 0),(5,.p 5 0),(6,.p 6 0),(7,Ba false)] []
 let Z2:=zH [(4,[.bx (Vl.num (x).g (x).n (x).e).enc]),(5,[.bx (Vl.num (y).g (y).n (y).e).enc]),(6,[.v (.nilIface)])] []
 refine iE 73 Z1 Z2 ?_
 refine Aa rfl (iQ 2 (eC 49 [.agg [.bx (Vl.num (x).g (x).n (x).e).enc],.agg [.bx (Vl.num (y).g (y).n (y).e).enc]] 14 (a1c) (iQ 9 ?_)))
 let Z3:=zT [(0,.d (Sv (⟨#[47]⟩))),(6,.p 6 0),(7,Ba false),(8,.p 8 0),(9,.p 9 0),(10,Ba true)] []
 let Z4:=zH [(8,[Bv ((x).g),Hw ((x).n),Lw ((x).n),Iv ((x).e)])] []
 let Z5:=zH [(9,[Bv ((y).g),Hw ((y).n),Lw ((y).n),Iv ((y).e)])] []
 refine iE 73 Z3 (zH [(6,[.v (.nilIface)])] (zH Z5 Z4)) ?_
 refine Ae (Aa rfl (iQ 1 (jU .not (.bool true) 19 ?_)))
 refine An ((by simp)) ?_
 let Z6:=zT [(0,.d (Sv (⟨#[47]⟩))),(6,.p 6 0),(7,Ba false),(8,.p 8 0),(9,.p 9 0),(19,Ba false)] []
 refine iE 73 Z6 (zH [(6,[.v (.nilIface)])] (zH Z4 Z5)) ?_
 refine iF (Ad (Af (Ae (Aa rfl (iQ 1 ?_)))))
 let Z7:=zT [(6,.p 6 0),(7,Ba false),(8,.p 8 0),(9,.p 9 0),(19,Ba false),(21,.d (Sv (⟨#[47]⟩)))] []
 refine iE 73 Z7 (zH [(6,[.v (.nilIface)])] (zH Z4 Z5)) ?_
 refine Ak (Aa rfl (jB .eql 9 (.string (⟨#[47]⟩)) (.string (⟨#[43]⟩)) 23 ?_))
 refine An ((by decide)) ?_
 refine iQ 1 (iE 73 (zT [(22,Ba false)] Z7) (zH [(6,[.v (.nilIface)])] (zH Z4 Z5)) ?_)
 refine iF (Aa rfl (jB .eql 9 (.string (⟨#[47]⟩)) (.string (⟨#[45]⟩)) 33 ?_))
 refine An ((by decide)) ?_
 refine iQ 1 (iE 73 (zT [(22,Ba false),(32,Ba false)] Z7) (zH [(6,[.v (.nilIface)])] (zH Z4 Z5)) ?_)
 refine iF (Aa rfl (jB .eql 9 (.string (⟨#[47]⟩)) (.string (⟨#[42]⟩)) 43 ?_))
 refine An ((by decide)) ?_
 refine iQ 1 ?_
 let Z8:=zT [(22,Ba false),(32,Ba false),(42,Ba false)] []
 refine iE 73 (zT Z8 Z7) (zH [(6,[.v (.nilIface)])] (zH Z4 Z5)) ?_
 refine iF (Aa rfl (jB .eql 9 (.string (⟨#[47]⟩)) (.string (⟨#[47]⟩)) 53 ?_))
 refine Bn ((by decide)) ?_
 refine iQ 1 (iE 73 (zT [(52,Ba true)] (zT Z7 Z8)) (zH [(6,[.v (.nilIface)])] (zH Z4 Z5)) ?_)
 refine iT (Ae (Aa rfl (iQ 1 (eC 16 [.agg [Bv ((y).g),Hw ((y).n),Lw ((y).n),Iv ((y).e)]] 55 (Wx y.ltB hy) (iE 73 (zT [(52,Ba true),(55,Ba true)] (zT Z7 Z8)) (zH [(6,[.v (.nilIface)])] (zH Z4 Z5)) ?_)))))
 refine iT (Aa rfl (iQ 3 ?_))
 let Z9:=zT [(6,.p 6 0),(7,Ba true),(8,.p 8 0),(9,.p 9 0),(19,Ba false),(21,.d (Sv (⟨#[47]⟩))),(52,Ba true),(55,Ba true)] []
 refine iE 73 (zT Z9 Z8) (zH [(6,[.v (.nilIface)])] (zH Z4 Z5)) ?_
 refine Ab (Ag (Ai (Ag (iS (.agg [.v (.nilIface)]) (Bv true) [] ?_))))
 exact ⟨_,.null,_,rfl,IsV.null,rfl,rfl⟩
theorem b4g {x y:D3} (hy:y.n=0):HasC Tryz.prog 9 [.v (.string ⟨#[47]⟩),VV x.vl,VV y.vl] (fun r=>r=.tup [VV .null,.v (.bool true)]) :=
 ((b69 (x:=x) hy).isVb (q:=fun v o=>v=.null∧o=true)).mono fun r ⟨v,o,h1,h2,h3⟩=>by rw[h1,h2,h3]
theorem Vp {x:D3}:HasC Tryz.prog 23 [.agg [.bx (Vl.num (x).g (x).n (x).e).enc],.agg [.v (.bool ((x).g)),.v (.int .u64 (hiW ((x).n))),.v (.int .u64 (loW ((x).n))),.v (.int .i64 ((x).e))]] (fun r=>r=.v (.bool true)):=by
 refine hO [] Tryz.f23 (fun a w=>Tryz.call23 a w) Tryz.func23 rfl (⟨_,rfl⟩) ?_
 refine Aa rfl (iQ 3 ?_)
 let Z1:=zH [(3,[Bv ((x).g),Hw ((x).n),Lw ((x).n),Iv ((x).e)])] []
 refine iE 18 [(2,.p 2 0),(3,.p 3 0),(4,Ba false)] (zH [(2,[.bx (Vl.num (x).g (x).n (x).e).enc])] Z1) ?_
 refine Aa rfl (iQ 1 (eC 67 [.agg [.bx (Vl.num (x).g (x).n (x).e).enc]] 9 (Dv) (iQ 6 ?_)))
 let Z2:=zT [(3,.p 3 0),(4,Ba false),(5,.p 5 0),(6,Ba true)] []
 let Z3:=zH [(5,[Bv ((x).g),Hw ((x).n),Lw ((x).n),Iv ((x).e)])] []
 refine iE 18 Z2 (zH Z3 Z1) ?_
 refine Aa rfl (iQ 4 (jB .eql 34 (.agg #[.bool ((x).g),.int .u64 (hiW ((x).n)),.int .u64 (loW ((x).n)),.int .i64 ((x).e)]) (.agg #[.bool ((x).g),.int .u64 (hiW ((x).n)),.int .u64 (loW ((x).n)),.int .i64 ((x).e)]) 16 ?_))
 refine Bn (rfl) ?_
 refine iQ 2 (iE 18 [(4,Ba true),(5,.p 5 0)] Z3 ?_)
 refine Ab (iR (Bv true) ?_)
 rfl
theorem a6e {vs:List Vl} (h:vs.length≤1073741824):HasC Tryz.prog 44 [.agg [.ifc 118 (.sl ((vs).length) (Av (vs)))]] (fun r=>r=.tup [.sl vs.length (Av vs),.v (.bool true)]):=by
 refine hO [] Tryz.f44 (fun a w=>Tryz.call44 a w) Tryz.func44 rfl (⟨_,rfl⟩) ?_
 refine Aa rfl (iQ 3 ?_)
 let Z1:=zT [(1,.p 1 0),(2,.w (.sl 0 []) none),(3,Ba false)] []
 let Z2:=zH [(1,[.ifc 118 (.sl ((vs).length) (Av (vs)))])] []
 refine iE 15 Z1 Z2 ?_
 refine Aa rfl (iQ 8 ?_)
 let Z3:=zT [(2,.w (.sl 0 []) none),(3,Ba false),(4,.d (.sl ((vs).length) (Av (vs)))),(5,Ba true)] []
 refine iE 15 Z3 [] ?_
 refine Aa rfl (iQ 1 (eC 85 [.sl ((vs).length) (Av (vs))] 13 (Qw h) (iQ 3 ?_)))
 let Z4:=zT [(2,.d (.sl ((vs).length) (Av (vs)))),(3,Ba true)] []
 refine iE 15 Z4 [] ?_
 refine Ab (iS (.sl ((vs).length) (Av (vs))) (Bv true) [] ?_)
 rfl
theorem a6v {vs:List Vl} (h:vs.length≤1073741824):HasC Tryz.prog 44 [VV (.list vs)] (fun r=>r=.tup [.sl vs.length (Av vs),.v (.bool true)]):=HasC.ub (by have:=a6e h;rwa[show DV.ifc 118 (.sl vs.length (Av vs))=(Vl.list vs).enc by rw[Vl.enc]] at this)
theorem b6a (x y:D3):Av (At [x,y])=[BV x.vl,BV y.vl]:=by simp[At,Av]
theorem b89 (x y z:D3):Av (At [x,y,z])=[BV x.vl,BV y.vl,BV z.vl]:=by simp[At,Av]
theorem c03 (x y z w:D3):Av (At [x,y,z,w])=[BV x.vl,BV y.vl,BV z.vl,BV w.vl]:=by simp[At,Av]
theorem b4e {t:T4} {d:D3} (h:Cf t=some d):t=(d.g,d.n,d.e,true):=by
 obtain ⟨a,b,c,ok⟩:=t
 cases ok with
 | false=>rw[Eq] at h;cases h
 | true =>
  by_cases hm:May a b c
  ·rw[Dw hm] at h
   cases h
   rfl
  ·rw[Cf,dif_neg (fun k=>hm k.2)] at h
   cases h
theorem b6f : ∃ m:D3,Ld d1 [d2] (by decide)=some m∧Je d3 d2=(m.g,m.n,m.e,true):=by
 obtain ⟨m,h1,_,_⟩:=a8b (x:=d3) (y:=d2) (by decide) (B:=0) (by decide) (by decide) (by decide)
 refine ⟨m,?_,b4e h1⟩
 have hs:Np d1 [d2]=some d3:=by
  show (Cf (Jm d1 d2)).bind _=_
  have:Cf (Jm d1 d2)=some d3:=b2w (a:=1) (b:=2) (by decide) (by decide) (by decide)
  rw[this]
  rfl
 rw[Ld,hs]
 exact h1
theorem srt3 (a b c:D3):Bl [a,b,c]=(insInner ltQ 0 2 (insInner ltQ 0 1 #[a,b,c])).toList:=by
 show (insertionSort ltQ #[a,b,c] 0 3).toList=_
 unfold insertionSort
 rw[insOuter_go _ _ _ _ _ (by decide),insOuter_go _ _ _ _ _ (by decide),insOuter_stop _ _ _ _ _ (by decide)]
theorem srt4 (a b c d:D3):Bl [a,b,c,d]=(insInner ltQ 0 3 (insInner ltQ 0 2 (insInner ltQ 0 1 #[a,b,c,d]))).toList:=by
 show (insertionSort ltQ #[a,b,c,d] 0 4).toList=_
 unfold insertionSort
 rw[insOuter_go _ _ _ _ _ (by decide),insOuter_go _ _ _ _ _ (by decide),insOuter_go _ _ _ _ _ (by decide),insOuter_stop _ _ _ _ _ (by decide)]
theorem b7d:Bl [d3,d1,d2]=[d1,d2,d3]:=by rw[srt3];kernel_rfl
theorem b3r:Bl [d2,d1,d2,d1]=[d1,d1,d2,d2]:=by rw[srt4];kernel_rfl
theorem b6r:a50 [d3,d1,d2]=some d2:=by rw[Ss (by decide),b7d];rfl
theorem a8m:Vd [d2,d1,d2,d1]=[d1,d2]:=by
 rw[Vd,b3r]
 kernel_rfl
theorem b12:HasC Tryz.prog 40 [.sl 2 [BV (.num d1.g d1.n d1.e),BV (.num d2.g d2.n d2.e)]] (fun y => ∃ v b,y=.tup [VV v,.v (.bool b)]∧v=Dz (Ld d1 [d2] (by decide))∧b=(Ld d1 [d2] (by decide)).isSome):=by
 have:=b6k (b76 (x:=d1) (r:=[d2]) (by decide))
 rw[b6a] at this
 exact this
theorem a95:HasC Tryz.prog 41 [.sl 3 [BV (.num d3.g d3.n d3.e),BV (.num d1.g d1.n d1.e),BV (.num d2.g d2.n d2.e)]] (fun y=>y=.tup [VV (.num d2.g d2.n d2.e),.v (.bool true)]):=by
 have:=a9d (ds:=[d3,d1,d2]) (by simp) (by decide)
 rw[b89,b6r] at this
 exact this
theorem a3h:HasC Tryz.prog 43 [.sl 4 [BV (.num d2.g d2.n d2.e),BV (.num d1.g d1.n d1.e),BV (.num d2.g d2.n d2.e),BV (.num d1.g d1.n d1.e)]] (fun y=>y=VV (.list (At [d1,d2]))):=by
 have:=b8h (ds:=[d2,d1,d2,d1]) (by simp) (by decide)
 rw[c03,a8m] at this
 exact this
theorem b0q:HasC Tryz.prog 44 [VV (.list (At [d1,d2]))] (fun r=>r=.tup [.sl 2 [BV (.num d1.g d1.n d1.e),BV (.num d2.g d2.n d2.e)],.v (.bool true)]):=by
 have:=a6v (vs:=At [d1,d2]) (by simp)
 rw[b6a] at this
 exact this
theorem b4v {m:D3} (h:Je d3 d2=(m.g,m.n,m.e,true)):HasC Tryz.prog 15 [Bk d3.g d3.n d3.e,Bk d2.g d2.n d2.e] (fun y=>y=.tup [Bk m.g m.n m.e,.v (.bool true)]) :=
 (a3e (g1:=d3.g) (g2:=d2.g) (x1:=d3.e) (x2:=d2.e) d3.lt d2.lt (by decide) (by decide) (by decide) (by decide)).mono fun y hy=>by
  rw[hy]
  show Xb (Je d3 d2)=_
  rw[h]
  rfl
theorem b51 {v:Vl} {x:D3} (hv:v=x.vl):HasC Tryz.prog 23 [VV v,Bk x.g x.n x.e] (fun r=>r=.v (.bool true)):=by subst hv;exact Vp
theorem a5n:HasC Tryz.prog 6 [] (fun r=>r=.v (.bool true)):=by
 refine hO [] Tryz.f6 (fun a w=>Tryz.call6 a w) Tryz.func6 rfl (⟨_,rfl⟩) ?_
 obtain ⟨m,hm1,hm2⟩:=b6f
 refine Aa rfl (iQ 1 (iE 88 [(0,Ba false)] [] ?_))
 refine Aa rfl (eC 10 [Iv 1] 12 (a87) (eC 10 [Iv 0] 13 (c_v0) (eC 9 [Sv (⟨#[47]⟩),.agg [.bx (Vl.num (d1).g (d1).n (d1).e).enc],.agg [.bx (Vl.num (d0).g (d0).n (d0).e).enc]] 14 (b4g (x:=d1) (y:=d0) rfl) (iQ 6 (iE 88 [(0,Ba false),(1,.p 1 0),(2,Ba true)] [(1,[.bx (Vl.null).enc])] ?_)))))
 refine Aa rfl (eC 10 [Iv 1] 18 (a87) (eC 10 [Iv 2] 19 (b3x) (iQ 1 (jC 40 [.sl 2 [.bx (Vl.num (d1).g (d1).n (d1).e).enc,.bx (Vl.num (d2).g (d2).n (d2).e).enc]] 21 (b12) ?_))))
 rintro _ ⟨v,o,rfl,hv,ho⟩
 rw[hm1] at hv ho
 have ho1:o=true:=ho
 refine iQ 6 ?_
 let Z1:=zT [(0,Ba false),(1,.p 1 0),(2,Ba true),(3,.p 3 0),(4,Ba o)] []
 let Z2:=zH [(1,[.bx (Vl.null).enc]),(3,[.bx (v).enc])] []
 refine iE 88 Z1 Z2 ?_
 refine Aa rfl (eC 10 [Iv 3] 25 (c_v3) (eC 10 [Iv 1] 26 (a87) (eC 10 [Iv 2] 27 (b3x) (iQ 1 (eC 41 [.sl 3 [.bx (Vl.num (d3).g (d3).n (d3).e).enc,.bx (Vl.num (d1).g (d1).n (d1).e).enc,.bx (Vl.num (d2).g (d2).n (d2).e).enc]] 29 (a95) (iQ 6 ?_))))))
 let Z3:=zH [(5,[.bx (Vl.num (d2).g (d2).n (d2).e).enc])] []
 refine iE 88 (zT [(5,.p 5 0),(6,Ba true)] Z1) (zH Z3 Z2) ?_
 refine Aa rfl (eC 42 [Iv 3] 33 (c_i3) (eC 42 [Iv 2] 34 (b8f) (eC 15 [.agg [Bv ((d3).g),Hw ((d3).n),Lw ((d3).n),Iv ((d3).e)],.agg [Bv ((d2).g),Hw ((d2).n),Lw ((d2).n),Iv ((d2).e)]] 35 (b4v hm2) (iQ 6 ?_))))
 let Z4:=zH [(7,[Bv ((m).g),Hw ((m).n),Lw ((m).n),Iv ((m).e)])] []
 let Z5:=zH Z4 (zH Z2 Z3)
 refine iE 88 (zT [(5,.p 5 0),(6,Ba true),(7,.p 7 0)] Z1) Z5 ?_
 refine Aa rfl (eC 10 [Iv 2] 39 (b3x) (eC 10 [Iv 1] 40 (a87) (eC 10 [Iv 2] 41 (b3x) (eC 10 [Iv 1] 42 (a87) (iQ 1 (eC 43 [.sl 4 [.bx (Vl.num (d2).g (d2).n (d2).e).enc,.bx (Vl.num (d1).g (d1).n (d1).e).enc,.bx (Vl.num (d2).g (d2).n (d2).e).enc,.bx (Vl.num (d1).g (d1).n (d1).e).enc]] 44 (a3h) (eC 44 [.agg [.bx (Vl.list (At [d1,d2])).enc]] 45 (b0q) (iQ 5 ?_))))))))
 let Z6:=zT [(9,.d (.sl 2 ([BV (.num d1.g d1.n d1.e),BV (.num d2.g d2.n d2.e)])))] []
 refine iE 88 (zT [(5,.p 5 0),(6,Ba true),(7,.p 7 0)] (zT Z6 Z1)) Z5 ?_
 refine Aa rfl (iQ 1 (eC 17 [.agg [.bx (Vl.null).enc]] 49 (Gw .null) (iQ 7 ?_)))
 cases o
 ·refine iQ 32 ?_
  let Z7:=zT [(0,Ba false),(1,.p 1 0),(3,.p 3 0),(5,.p 5 0),(7,.p 7 0)] []
  refine iE 88 Z7 Z5 ?_
  cases ho1
 ·refine iQ 2 (eC 23 [.agg [.bx (v).enc],.agg [Bv ((m).g),Hw ((m).n),Lw ((m).n),Iv ((m).e)]] 59 (b51 hv) (iQ 6 (eC 42 [Iv 2] 66 (b8f) (eC 23 [.agg [.bx (Vl.num (d2).g (d2).n (d2).e).enc],.agg [Bv ((d2).g),Hw ((d2).n),Lw ((d2).n),Iv ((d2).e)]] 67 (Vp (x:=d2)) (iQ 4 (jB .eql 3 (.int .i64 (((2:Nat):Int))) (.int .i64 2) 72 ?_))))))
  refine Bn ((by decide)) ?_
  refine iQ 3 (Bi (q:=0) (n:=2) (cs:=([BV (.num d1.g d1.n d1.e),BV (.num d2.g d2.n d2.e)])) (d:=.bx (Vl.num (d1).g (d1).n (d1).e).enc) (dst:=(some 76)) (by kernel_rfl) (by omega) (rfl) ?_)
  refine iQ 1 (eC 42 [Iv 1] 78 (c_i1) (eC 23 [.agg [.bx (Vl.num (d1).g (d1).n (d1).e).enc],.agg [Bv ((d1).g),Hw ((d1).n),Lw ((d1).n),Iv ((d1).e)]] 79 (Vp (x:=d1)) (iQ 3 (Bi (q:=1) (n:=2) (cs:=([BV (.num d1.g d1.n d1.e),BV (.num d2.g d2.n d2.e)])) (d:=.bx (Vl.num (d2).g (d2).n (d2).e).enc) (dst:=(some 83)) (by kernel_rfl) (by omega) (rfl) ?_))))
  refine iQ 1 (eC 42 [Iv 2] 85 (b8f) (eC 23 [.agg [.bx (Vl.num (d2).g (d2).n (d2).e).enc],.agg [Bv ((d2).g),Hw ((d2).n),Lw ((d2).n),Iv ((d2).e)]] 86 (Vp (x:=d2)) (iQ 2 ?_)))
  let Z8:=zT [(0,Ba true),(1,.p 1 0),(3,.p 3 0),(5,.p 5 0),(7,.p 7 0)] []
  refine iE 88 Z8 Z5 ?_
  refine Ab (iR (Bv true) ?_)
  rfl
end Go.Proofs.YtdkgnmiiibpnnaaGreatDoor
