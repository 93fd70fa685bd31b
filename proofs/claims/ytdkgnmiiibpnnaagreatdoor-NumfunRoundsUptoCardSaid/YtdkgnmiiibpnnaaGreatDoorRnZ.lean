/- What casuistlaw01's own functions do. The laws' own functions: Make, Ref, Like; what may be a number is fitted to itself. casuistlaw02.of, awake. The laws of dec: sums, products, order. Quotients and roots with more digits are fitted alike. casuistref03: exact, Div, Power, Root. Quotients, powers and roots that come out whole; what may be a number. Plain laws of round: what is cut off, between which numbers it lies; quotients of whole numbers. -/
import Derived.Test.YtdkgnmiiibpnnaaGreatDoorVcZ
import Derived.Test.YtdkgnmiiibpnnaaGreatDoorDecY
import Derived.Test.YtdkgnmiiibpnnaaGreatDoorDecX
namespace Go.Proofs.YtdkgnmiiibpnnaaGreatDoor
open Go.RowKit
set_option linter.unusedVariables false
set_option linter.unusedSimpArgs false
set_option maxRecDepth 100000
open Go.RowKit
set_option linter.unusedVariables false
set_option linter.unusedSimpArgs false
set_option maxRecDepth 100000
theorem b06 {m:Int} {neg:Bool} {N:Nat} {e:Int} (hN:N<E34) (h1 : -6176≤e) (h2:e≤6111):Fh m neg N e false=(if N=0 then false else neg,N,e,true):=by
 rw[Hk _ _ _ _ (by have:=Cj 34 N hN;omega)]
 exact a0l hN h1 h2
theorem a7a {m:Int} {neg:Bool} {e:Int} (h1 : -6176≤e) (h2:e≤6111):Fh m neg 0 e false=(false,0,e,true):=by
 rw[b06 (by decide) h1 h2,if_pos rfl]
theorem b1y {n:Nat} (hn:n<B128):HasC Tryz.prog 46 [.agg [.v (.int .u64 0),.v (.int .u64 0)],dU n,dU (10 ^ (34:Int).toNat)] (fun y=>y=.tup [dU (n / E34),dU (n % E34),.v (.bool true)]):=by
 have e:(10:Nat) ^ (34:Int).toNat=E34:=by decide
 rw[e,← a0y]
 have h:=Sp (h:=0) (l:=n) (d:=E34) (by decide) hn (by decide) (by decide)
 rw[Nat.zero_mul,Nat.zero_add] at h
 exact h
theorem Zm {e z:Int} (h:z=e.tmod 6000) : -6176≤z∧z≤6111:=by
 have h1:=Int.tmod_lt_of_pos e (show (0:Int)<6000 by decide)
 have h2:=Int.lt_tmod_of_pos e (show (0:Int)<6000 by decide)
 omega
set_option maxHeartbeats 1600000 in
theorem b8k {g:Bool} {n:Nat} {e:Int} (hn:n<B128):HasC Tryz.prog 7 [.agg [.v (.bool g),.v (.int .u64 (hiW (n))),.v (.int .u64 (loW (n))),.v (.int .i64 e)]] (fun y => ∃ s c x,y=Bk s c x∧c<E34 ∧ -6176≤x∧x≤6111∧(c=0→s=false)):=by
 refine hO [] Tryz.f7 (fun a w=>Tryz.call7 a w) Tryz.func7 rfl (⟨_,false,0,0,rfl,by decide,by decide,by decide,fun _=>rfl⟩) ?_
 refine Aa rfl (iQ 2 ?_)
 let Z1:=zH [(1,[Bv g,Hw n,Lw n,Iv e]),(2,[Bv false,Uv 0,Uv 0,Iv 0])] []
 refine iE 42 [(1,.p 1 0),(2,.p 2 0)] Z1 ?_
 refine Aa rfl (eC 45 [Iv 34] 10 (Te (k:=34) (by decide) (by decide)) (iQ 6 ?_))
 let Z2:=zH [(3,[Hw (10 ^ (34:Int).toNat),Lw (10 ^ (34:Int).toNat)])] []
 refine iE 42 [(1,.p 1 0),(2,.p 2 0),(3,.p 3 0)] (zH Z2 Z1) ?_
 refine Aa rfl (iQ 4 (eC 46 [.agg [Uv 0,Uv 0],.agg [Hw n,Lw n],.agg [Hw (10 ^ (34:Int).toNat),Lw (10 ^ (34:Int).toNat)]] 18 (b1y hn) ?_))
 have hc:n % E34<E34:=Nat.mod_lt _ (by decide)
 have hcB:=Nat.lt_trans hc Br
 refine iQ 9 ?_
 let Z3:=zT [(1,.p 1 0),(2,.p 2 0),(3,.p 3 0),(6,.p 6 0)] []
 refine iE 42 Z3 (zH [(6,[Hw (n % E34),Lw (n % E34)])] (zH Z1 Z2)) ?_
 refine Aa rfl (iQ 3 (iE 42 (zT [(8,Ia e)] Z3) (zH [(6,[Hw (n % E34),Lw (n % E34)])] (zH Z1 Z2)) ?_))
 refine Ef 42 (fun (vcx:Int×Bool)=>match vcx with | (x,vb29)=>[(1,.p 1 0),(2,.p 2 0),(3,.p 3 0),(6,.p 6 0),(8,Ia x),(29,Ba vb29)]) (fun (vcx:Int×Bool)=>match vcx with | (x,vb29)=>[(1,[Bv g,Hw n,Lw n,Iv e]),(2,[Bv false,Uv 0,Uv 0,Iv 0]),(3,[Hw (10 ^ (34:Int).toNat),Lw (10 ^ (34:Int).toNat)]),(6,[Hw (n % E34),Lw (n % E34)])]) (fun (vcx:Int×Bool)=>match vcx with | (x,vb29) => -6176≤x∧x≤6111) ?_ ?_
 ·rintro ⟨x,vb29⟩ hinv
  simp only at hinv
  refine Aa rfl (iQ 3 ?_)
  cases g
  ·refine iQ 8 ?_
   let Z4:=zH [(2,[Bv false,Hw (n % E34),Lw (n % E34),Iv x])] []
   let Z5:=zH [(1,[Bv false,Hw n,Lw n,Iv e]),(6,[Hw (n % E34),Lw (n % E34)])] []
   let Z6:=zH Z5 (zH Z4 Z2)
   refine iE 42 (zT [(8,Ia x),(29,Ba vb29)] Z3) Z6 ?_
   refine Ab (iR (.agg [Bv false,Hw (n % E34),Lw (n % E34),Iv x]) ?_)
   exact ⟨_,_,_,rfl,hc,hinv.1,hinv.2,fun _=>rfl⟩
  ·refine iQ 1 (jC 47 [.agg [Hw (n % E34),Lw (n % E34)]] 36 (Ea hcB) ?_)
   rintro _ ⟨z,rfl,hz⟩
   refine jU .not (.bool z) 37 ?_
   intro c37 hc37
   refine iQ 5 ?_
   let Z7:=zH [(2,[Bv c37,Hw (n % E34),Lw (n % E34),Iv x])] []
   let Z8:=zH [(1,[Bv true,Hw n,Lw n,Iv e]),(6,[Hw (n % E34),Lw (n % E34)])] []
   let Z9:=zH Z8 (zH Z7 Z2)
   refine iE 42 (zT [(8,Ia x),(29,Ba vb29)] Z3) Z9 ?_
   refine Ab (iR (.agg [Bv c37,Hw (n % E34),Lw (n % E34),Iv x]) ?_)
   exact ⟨_,_,_,rfl,hc,hinv.1,hinv.2,fun h=>by rw[hz.2 h] at hc37;exact bff hc37 (by simp)⟩
 intro hmid
 refine Aa rfl (iQ 1 (jB .lss 3 (.int .i64 e) (.int .i64 (-6176)) 25 ?_))
 intro c25 hc25
 refine iQ 1 ?_
 cases c25
 ·replace hc25:=bf hc25
  refine iQ 1 (jB .gtr 3 (.int .i64 e) (.int .i64 6111) 28 ?_)
  intro c28 hc28
  refine iQ 1 (iE 42 [(1,.p 1 0),(2,.p 2 0),(3,.p 3 0),(6,.p 6 0),(8,Ia e),(29,Ba c28)] [(1,[Bv g,Hw n,Lw n,Iv e]),(2,[Bv false,Uv 0,Uv 0,Iv 0]),(3,[Hw (10 ^ (34:Int).toNat),Lw (10 ^ (34:Int).toNat)]),(6,[Hw (n % E34),Lw (n % E34)])] ?_)
  cases c28
  ·replace hc28:=bf hc28
   refine iF (Ad ?_)
   refine Cc hmid (e,false) (by omega) (by kernel_rfl)
  ·replace hc28:=bt hc28
   refine iT (Am rfl (iQ 1 (jB .rem 3 (.int .i64 e) (.int .i64 6000) 31 ?_)))
   refine And.intro (by omega) ?_
   intro z31 hz31
   have h31:=Zm hz31
   refine iQ 1 (iE 42 [(1,.p 1 0),(2,.p 2 0),(3,.p 3 0),(6,.p 6 0),(8,Ia z31),(29,Ba true)] [(1,[Bv g,Hw n,Lw n,Iv e]),(2,[Bv false,Uv 0,Uv 0,Iv 0]),(3,[Hw (10 ^ (34:Int).toNat),Lw (10 ^ (34:Int).toNat)]),(6,[Hw (n % E34),Lw (n % E34)])] ?_)
   refine Cc hmid (z31,true) (h31) (by kernel_rfl)
 ·replace hc25:=bt hc25
  refine iQ 3 (iE 42 [(1,.p 1 0),(2,.p 2 0),(3,.p 3 0),(6,.p 6 0),(8,Ia e),(29,Ba true)] [(1,[Bv g,Hw n,Lw n,Iv e]),(2,[Bv false,Uv 0,Uv 0,Iv 0]),(3,[Hw (10 ^ (34:Int).toNat),Lw (10 ^ (34:Int).toNat)]),(6,[Hw (n % E34),Lw (n % E34)])] ?_)
  refine iT (Am rfl (iQ 1 (jB .rem 3 (.int .i64 e) (.int .i64 6000) 31 ?_)))
  refine And.intro (by omega) ?_
  intro z31 hz31
  have h31:=Zm hz31
  refine iQ 1 (iE 42 [(1,.p 1 0),(2,.p 2 0),(3,.p 3 0),(6,.p 6 0),(8,Ia z31),(29,Ba true)] [(1,[Bv g,Hw n,Lw n,Iv e]),(2,[Bv false,Uv 0,Uv 0,Iv 0]),(3,[Hw (10 ^ (34:Int).toNat),Lw (10 ^ (34:Int).toNat)]),(6,[Hw (n % E34),Lw (n % E34)])] ?_)
  refine Cc hmid (z31,true) (h31) (by kernel_rfl)
theorem T4.inj {a a':Bool} {b b':Nat} {c c':Int} {d d':Bool} (h:((a,b,c,d):T4)=(a',b',c',d')):a=a'∧b=b'∧c=c'∧d=d':=by
 simp only[Prod.mk.injEq] at h
 exact h
theorem b6u {P:Program} {f:FuncId} {ds:List DV} {t:T4} {g:Bool} {k:Nat} {x:Int} {ok:Bool} (h:HasC P f ds (fun y=>y=Xb t)) (ht:t=(g,k,x,ok)):HasC P f ds (fun y=>y=.tup [Bk g k x,.v (.bool ok)]):=by
 subst ht
 exact h
open Go.RowKit
set_option linter.unusedVariables false
set_option linter.unusedSimpArgs false
set_option maxRecDepth 100000
theorem a5i {s:Bool} {A:Nat} {e v:Int} (hw:isW s A e v) (hv:inI v) (hA:A<B128) (h1 : -10000000000000000≤e) (h2:e≤10000000000000000):HasC Tryz.prog 91 [Bk s A e] (fun y=>y=.tup [.v (.int .i64 v),.v (.bool true)]) :=
 (b3d hA h1 h2).mono fun y ⟨z,ok,h1,h2,h3⟩=>by
  cases ok with
  | false=>exact absurd hv ((h3 rfl).2 v hw)
  | true=>rw[h1,Fb (h2 rfl).1 hw]
open Go.RowKit
set_option linter.unusedVariables false
set_option linter.unusedSimpArgs false
set_option maxRecDepth 100000
open Go.RowKit
set_option linter.unusedVariables false
set_option linter.unusedSimpArgs false
set_option maxRecDepth 100000
theorem a4z {n:Nat} (h:n≠0):1≤nd n:=by
 have:=Hl h
 omega
theorem a8p (k q:Nat):nd (Cp k q).1≤nd q:=by
 refine b3k ?_
 have:=(Lz k q).1
 have hp:0<10 ^ (Cp k q).2:=Nat.pow_pos (by decide)
 calc (Cp k q).1≤(Cp k q).1*10 ^ (Cp k q).2:=Nat.le_mul_of_pos_right _ hp
  _=q:=this
theorem b22 {a:Nat} {x:Int} (ha:a<E34) (ha0:a≠0):35≤nd (isq (a*10 ^ Co a x))∧nd (isq (a*10 ^ Co a x))≤36∧Co a x≤70∧36≤Co a x∧((Co a x:Int)+x) % 2=0:=by
 have h1:=Cj 34 a ha
 have h3:=a4z ha0
 have hn:Co a x=70-nd a+(70-nd a+(x % 2).toNat) % 2:=rfl
 have hlo:=b13 (a*10 ^ Co a x)
 have hhi:=b0z (a*10 ^ Co a x)
 have e1:10 ^ 69≤a*10 ^ Co a x:=by
  have e2:=Nat.mul_le_mul_right (10 ^ Co a x) (a17 ha0)
  rw[← Nat.pow_add] at e2
  exact Nat.le_trans (Nat.pow_le_pow_right (by decide) (by omega)) e2
 have e2:a*10 ^ Co a x<10 ^ 71:=by
  have e3:=Nat.mul_lt_mul_of_pos_right (Eg a) (show 0<10 ^ Co a x from Nat.pow_pos (by decide))
  rw[← Nat.pow_add] at e3
  exact Nat.lt_of_lt_of_le e3 (Nat.pow_le_pow_right (by decide) (by omega))
 refine ⟨a4k ?_,Cj _ _ ?_,by omega,by omega,by omega⟩
 ·have:(10 ^ 34)*(10 ^ 34)<(isq (a*10 ^ Co a x)+1)*(isq (a*10 ^ Co a x)+1):=Nat.lt_of_lt_of_le (by decide) (Nat.le_trans e1 (Nat.le_of_lt hhi))
  have:=a4u this
  omega
 ·exact a4u (Nat.lt_of_le_of_lt hlo (Nat.lt_of_lt_of_le e2 (by decide)))
open Go.RowKit
set_option linter.unusedVariables false
set_option linter.unusedSimpArgs false
set_option maxRecDepth 100000
open Go.RowKit
set_option linter.unusedVariables false
set_option linter.unusedSimpArgs false
set_option maxRecDepth 100000
theorem a6o {x:Int} (h1 : -6176≤x / 2) (h2:x / 2≤6111):Ja 0 x=(false,0,x / 2,true):=by
 rw[Ja,if_pos rfl]
 exact a7a h1 h2
theorem b5e {a:Nat} {x:Int} (ha:a<E34) (h1 : -6176≤x) (h2:x≤6111) : ∃ k y,Ja a x=(false,k,y,true)∧(k=0↔a=0):=by
 by_cases ha0:a=0
 ·subst ha0
  exact ⟨0,x / 2,a6o (by omega) (by omega),by simp⟩
 ·obtain ⟨k1,k2,k3,k4,k5⟩:=b22 (x:=x) ha ha0
  have hA0:isq (a*10 ^ Co a x)≠0:=fun h=>by rw[h,Kd] at k1;omega
  rw[Ja,if_neg ha0]
  have hq : ∃ q j,Lg a x=(q,j)∧q≠0∧nd q≤36∧(j:Int)≤35∧(Fa a x=true→35≤nd q∧j=0):=by
   rw[Lg,Fa]
   split
   ·rename_i hs
    obtain ⟨s1,s2⟩:=Lz (Vu a x) (isq (a*10 ^ Co a x))
    refine ⟨_,_,rfl,fun h => ?_,Nat.le_trans (a8p _ _) k2,?_,fun h => ?_⟩
    ·rw[h,Nat.zero_mul] at s1
     exact hA0 s1.symm
    ·have:Vu a x≤35:=by unfold Vu;omega
     omega
    ·simp[hs] at h
   ·exact ⟨_,_,rfl,hA0,k2,by simp,fun _=>⟨k1,rfl⟩⟩
  obtain ⟨q,j,hQ,hq0,hq1,hj,hm⟩:=hq
  rw[hQ]
  show ∃ k y,Fh 1 false q ((x-(Co a x:Int)) / 2+(j:Int)) (Fa a x)=(false,k,y,true)∧_
  obtain ⟨e,he⟩ : ∃ e,e=(x-(Co a x:Int)) / 2+(j:Int):=⟨_,rfl⟩
  rw[← he]
  have he1 : -3200≤e∧e≤3200:=by omega
  rw[Hk _ _ _ _ (by omega),Fg]
  have hk:Dp q e=nd q-34:=by unfold Dp;omega
  rw[hk]
  have hc0:Bg 1 false q (Fa a x) (nd q-34)≠0:=by
   have:0<q / 10 ^ (nd q-34):=Nat.div_pos (Nat.le_trans (Nat.pow_le_pow_right (by decide) (by have:=a4z hq0;omega)) (a17 hq0)) (Nat.pow_pos (by decide))
   unfold Bg
   omega
  have hcE:Bg 1 false q (Fa a x) (nd q-34)≤E34:=Rb (by omega)
  generalize Bg 1 false q (Fa a x) (nd q-34)=c at *
  have hf0:Gq 1 false c≠0:=by
   unfold Gq
   split
   ·rename_i h
    have:0<c / 10 ^ 1:=Nat.div_pos (Nat.le_trans (by decide) h) (by decide)
    unfold Bg
    omega
   ·exact hc0
  have hfe:e+((nd q-34:Nat):Int)≤Gz c (e+((nd q-34:Nat):Int))∧Gz c (e+((nd q-34:Nat):Int))≤e+((nd q-34:Nat):Int)+1:=by unfold Gz;split<;>omega
  generalize Gz c (e+((nd q-34:Nat):Int))=e2 at *
  generalize Gq 1 false c=n2 at *
  have hd:Ev n2 e2=0:=by unfold Ev;omega
  rw[Mp,if_neg hf0,hd,if_neg (by omega)]
  exact ⟨_,_,rfl,by simp[hf0,ha0]⟩
open Go.RowKit
set_option linter.unusedVariables false
set_option linter.unusedSimpArgs false
set_option maxRecDepth 100000
noncomputable def Ff (m:Int) (s:Bool) (A:Nat) (e p:Int):T4 :=
 if p < -6111∨6176<p∨m<1∨7<m then (false,0,0,false)
 else if 0 ≤ -p-e then (s&&decide (Bg m s A false (-p-e).toNat≠0),Bg m s A false (-p-e).toNat, -p,true)
 else if A*10 ^ (p+e).toNat<E34 then (s,A*10 ^ (p+e).toNat, -p,true) else (false,0,0,false)
theorem Xx {m:Int} {s:Bool} {A n:Nat} (hA:A<E34):Bg m s A false n<E34:=by
 cases n with
 | zero=>rw[Yh];exact hA
 | succ n =>
  have h1:=Nl (m:=m) (neg:=s) (more:=false) (N:=A) (k:=n+1)
  have h2:A / 10 ^ (n+1)≤A / 10:=Nat.div_le_div_left (by rw[Nat.pow_succ];have:0<10 ^ n:=Nat.pow_pos (by decide);omega) (by decide)
  unfold E34 at *
  omega
theorem Ix {m:Int} {s:Bool} {A:Nat} {e p:Int} (h:p < -6111∨6176<p∨m<1∨7<m):Ff m s A e p=(false,0,0,false):=by rw[Ff,if_pos h]
theorem Oz {m:Int} {s:Bool} {A:Nat} {e p:Int} {Q:Nat} (h1 : ¬ (p < -6111∨6176<p∨m<1∨7<m)) (h2:0 ≤ -p-e) (hQ:Bg m s A false (-p-e).toNat=Q):Ff m s A e p=(s&&decide (Q≠0),Q, -p,true):=by
 rw[Ff,if_neg h1,if_pos h2,hQ]
theorem a0w {m:Int} {s:Bool} {A:Nat} {e p:Int} (h1 : ¬ (p < -6111∨6176<p∨m<1∨7<m)) (h2 : ¬ 0 ≤ -p-e) (h3:A*10 ^ (p+e).toNat<E34):Ff m s A e p=(s,A*10 ^ (p+e).toNat, -p,true):=by
 rw[Ff,if_neg h1,if_neg h2,if_pos h3]
theorem Nw {m:Int} {s:Bool} {A:Nat} {e p:Int} (h1 : ¬ (p < -6111∨6176<p∨m<1∨7<m)) (h2 : ¬ 0 ≤ -p-e) (h3 : ¬ A*10 ^ (p+e).toNat<E34):Ff m s A e p=(false,0,0,false):=by
 rw[Ff,if_neg h1,if_neg h2,if_neg h3]
theorem T4.inj4 {a a':Bool} {b b':Nat} {c c':Int} {d d':Bool} (h:((a,b,c,d):T4)=(a',b',c',d')):a=a'∧b=b'∧c=c'∧d=d':=by
 simp only[Prod.mk.injEq] at h
 exact h
noncomputable def Bb (m:Int) (s:Bool) (A:Nat) (e:Int):Bool×Nat×Int:=if 0≤e then (s,A,e) else (s&&decide (Bg m s A false (-e).toNat≠0),Bg m s A false (-e).toNat,0)
theorem a1z {m:Int} {s:Bool} {A:Nat} {e:Int} (h1:1≤m) (h2:m≤7) (he : ¬ 0≤e):Ff m s A e 0=((Bb m s A e).1,(Bb m s A e).2.1,(Bb m s A e).2.2,true):=by
 rw[Oz (by omega) (by omega) rfl,Bb,if_neg he,show -0-e = -e by omega]
 rfl
theorem Pp {m:Int} {s:Bool} {A:Nat} {e:Int} (hA:A<E34) (hs:A=0→s=false) (h2:e≤6111):(Bb m s A e).2.1<E34∧0≤(Bb m s A e).2.2∧(Bb m s A e).2.2≤6111∧((Bb m s A e).2.1=0→(Bb m s A e).1=false):=by
 unfold Bb
 split
 ·exact ⟨hA,by assumption,h2,hs⟩
 ·refine ⟨Xx hA,Int.le_refl 0,show (0:Int)≤6111 by decide,fun h => ?_⟩
  have h':Bg m s A false (-e).toNat=0:=h
  show (s&&decide (Bg m s A false (-e).toNat≠0))=false
  rw[h']
  simp
end Go.Proofs.YtdkgnmiiibpnnaaGreatDoor
