/- wide.Read: the number of a text. -/
import Derived.Test.YtdkgnmiiibpnnaaGreatDoorVcZ
namespace Go.Proofs.YtdkgnmiiibpnnaaGreatDoor
open Go.RowKit
set_option linter.unusedVariables false
set_option linter.unusedSimpArgs false
set_option maxRecDepth 100000
def bAt (s:ByteArray) (k:Nat):Nat:=((s.data[k]?).getD 0).toNat
theorem Yj {s:ByteArray} {k:Nat} (h:k<s.size):(s[k]'h).toNat=bAt s k:=by
 unfold bAt
 have hk:k<s.data.size:=h
 have:(s.data[k]?).getD 0=s.data[k]'hk:=by rw[Array.getElem?_eq_getElem hk];rfl
 rw[this]
 rfl
theorem NextIs.low {b:ByteArray} {p c:Int} {w:Nat} (h:NextIs b p c w) (h0:0≤p) (hlt:p<(b.size:Int)) (ha:bAt b p.toNat<128):c=bAt b p.toNat∧w=1:=by
 have hl:p.toNat<b.size:=by omega
 have:=decode_ascii b p.toNat hl (by rw[Yj hl];exact ha)
 have h1:=h.c
 have h2:=h.w
 rw[this] at h1 h2
 rw[Yj hl] at h1
 exact ⟨h1.symm,h2.symm⟩
theorem NextIs.high {b:ByteArray} {p c:Int} {w:Nat} (h:NextIs b p c w) (h0:0≤p) (hlt:p<(b.size:Int)) (ha:128≤bAt b p.toNat):128≤c:=by
 have hl:p.toNat<b.size:=by omega
 have:=(decode_high b p.toNat hl (by rw[Yj hl];exact ha)).1
 have h1:=h.c
 omega
def pv (s:ByteArray):Nat→Nat
 | 0=>0
 | k+1=>pv s k*10+(bAt s k-48)
def isD (s:ByteArray) (k:Nat):Prop:=48≤bAt s k∧bAt s k≤57
def Dig (s:ByteArray):Prop:=0<s.size ∧ ∀ k,k<s.size→isD s k
def a10 (s:ByteArray):Prop:=Dig s∧pv s s.size<B128
open Classical in
noncomputable def rdV (s:ByteArray):Nat:=if a10 s then pv s s.size else 0
theorem b25 (s:ByteArray) {j k:Nat} (h:j≤k):pv s j≤pv s k:=by
 induction h with
 | refl=>exact Nat.le_refl _
 | step h ih=>rw[pv];omega
def RdP (s:ByteArray) (r:DV):Prop := ∃ b,r=.tup [dU (rdV s),.v (.bool b)]∧(b=true↔a10 s)
theorem Nz {s:ByteArray} (h : ¬ a10 s):RdP s (.tup [.agg [.v (.int .u64 0),.v (.int .u64 0)],.v (.bool false)]):=⟨false,by rw[rdV,if_neg h];rfl,by simp[h]⟩
theorem a4i {s:ByteArray} {m:Nat} (h:a10 s) (hm:m=pv s s.size):RdP s (.tup [dU m,.v (.bool true)]):=⟨true,by rw[rdV,if_pos h,hm],by simp[h]⟩
theorem b2m {s:ByteArray} (h : ¬ s=⟨#[]⟩):0<s.size:=by
 apply Nat.pos_of_ne_zero
 intro e
 apply h
 obtain ⟨d⟩:=s
 have:d=#[]:=Array.eq_empty_of_size_eq_zero e
 rw[this]
theorem Tf {s:ByteArray} {p c:Int} {w:Nat} (h:NextIs s p c w) (h0:0≤p) (hlt:p<(s.size:Int)):48≤c∧c≤57↔isD s p.toNat:=by
 unfold isD
 by_cases ha:bAt s p.toNat<128
 ·have:=(h.low h0 hlt ha).1
  omega
 ·have:=h.high h0 hlt (by omega)
  omega
theorem b2d {s:ByteArray} {a b:Nat} (h : ∀ k,k<a→isD s k) (hd:isD s a) (hb:b=a+1) : ∀ k,k<b→isD s k:=fun k hk=>by
 by_cases e:k=a
 ·rw[e];exact hd
 ·exact h k (by omega)
theorem b4s {m d:Nat} (h:((m*10 / B128:Nat):Int)≠0):B128≤m*10+d:=by
 unfold B128 at *
 omega
theorem b6d {m:Nat} (h:((m*10 / B128:Nat):Int)=0):m*10<B128:=by
 unfold B128 at *
 omega
theorem b44 {m d:Nat} (e:m*10<B128) (h:(((m*10 % B128+d) / B128:Nat):Int)≠0):B128≤m*10+d:=by
 rw[Nat.mod_eq_of_lt e] at h
 unfold B128 at *
 omega
theorem b64 {m d:Nat} (e:m*10<B128) (h:(((m*10 % B128+d) / B128:Nat):Int)=0):(m*10 % B128+d) % B128=m*10+d∧m*10+d<B128:=by
 rw[Nat.mod_eq_of_lt e] at h ⊢
 have:m*10+d<B128:=by
  unfold B128 at *
  omega
 exact ⟨Nat.mod_eq_of_lt this,this⟩
theorem b4y {n:Nat} {x:Int} (hx:x=(n:Int)) (hn:n<18446744073709551616):HasC Tryz.prog 59 [.v (.int .u64 x)] (fun y=>y=dU n):=by
 subst hx
 exact We hn
set_option maxHeartbeats 800000 in
theorem b7m {s:ByteArray}:HasC Tryz.prog 171 [.v (.string s)] (RdP s):=by
 refine hO [] Tryz.f171 (fun a w=>Tryz.call171 a w) Tryz.func171 rfl (by by_cases h:a10 s;exact ⟨_,a4i h rfl⟩;exact ⟨_,Nz h⟩) ?_
 refine Aa rfl (iQ 2 (iE 48 [(0,.d (Sv s)),(2,.p 2 0),(3,Ba false)] [(2,[Uv 0,Uv 0])] ?_))
 refine Ae (Aa rfl (iQ 1 (jB .eql 9 (.string s) (.string (⟨#[]⟩)) 11 ?_)))
 intro c11 hc11
 let Z1:=zT [(0,.d (Sv s)),(2,.p 2 0),(3,Ba false),(11,Ba c11)] []
 refine iE 48 Z1 [(2,[Uv 0,Uv 0])] ?_
 cases c11
 ·replace hc11:=bf hc11
  have hsz:=b2m hc11
  refine iF (Ad (Af (Aa rfl (iQ 1 ?_))))
  let Z2:=zT [(0,.d (Sv s)),(2,.p 2 0),(3,Ba false),(4,.p 4 0),(11,Ba false)] []
  refine iE 48 Z2 [(2,[Uv 0,Uv 0]),(4,[Uv 0,Uv 0])] ?_
  refine Ae (Aa rfl (iQ 1 (iG (s) 14 ?_)))
  let Z3:=zH [(2,[Uv 0,Uv 0]),(4,[Uv 0,Uv 0]),(14,[.tup [Sv s,Iv 0]])] []
  refine iE 48 (zT [(14,.p 14 0)] Z2) Z3 ?_
  refine Ak (Bq 48 (fun (vcx:Nat×Int)=>match vcx with | (m,p)=>[(0,.d (Sv s)),(2,.p 2 0),(3,Ba false),(4,.p 4 0),(11,Ba false),(14,.p 14 0)]) (fun (vcx:Nat×Int)=>match vcx with | (m,p)=>[(2,[Uv 0,Uv 0]),(4,[Hw m,Lw m]),(14,[.tup [Sv s,Iv p]])]) (fun (vcx:Nat×Int)=>match vcx with | (m,p)=>0≤p∧p≤s.size∧m=pv s p.toNat∧m<B128 ∧ ∀ k,k<p.toNat→isD s k) (fun (vcx:Nat×Int)=>match vcx with | (m,p)=>s.size-p.toNat) ((0,0)) (⟨by omega,by omega,rfl,by decide,fun k h=>by omega⟩) (by kernel_rfl) (by kernel_rfl) ?_)
  rintro ⟨m,p⟩ hinv
  simp only at hinv
  obtain ⟨h1,h2,h3,h4,h5⟩:=hinv
  refine Aa rfl ?_
  refine iN 14 (s) (p) 15 (by omega) ?_ ?_
  ·intro hp15 c15 q15 w15 hn15 hq15
   refine iQ 1 ?_
   let Z4:=zT [(15,.d (.tup [Bv true,Iv p,.v (.int .i32 c15)]))] []
   let Z5:=zT [(0,.d (Sv s)),(2,.p 2 0),(3,Ba false),(4,.p 4 0),(11,Ba false),(14,.p 14 0),(16,Ba true)] []
   let Z6:=zH [(2,[Uv 0,Uv 0]),(4,[Hw m,Lw m]),(14,[.tup [Sv s,Iv q15]])] []
   refine iE 48 (zT Z5 Z4) Z6 ?_
   have key : ¬ isD s p.toNat → ¬ a10 s:=fun hn h=>hn (h.1.2 _ (by omega))
   have hcd:48≤c15∧c15≤57↔isD s p.toNat:=Tf hn15 h1 hp15
   refine Ae (iT (Ad (Af (Ak (Aa rfl (iQ 2 (iE 48 (zT [(6,.d (.v (.int .i32 c15)))] (zT Z5 Z4)) Z6 ?_)))))))
   refine Ae (Aa rfl (iQ 1 (jB .lss 21 (.int .i32 c15) (.int .i32 48) 19 ?_)))
   intro c19 hc19
   refine iQ 1 ?_
   cases c19
   ·replace hc19:=bf hc19
    refine iQ 1 (jB .gtr 21 (.int .i32 c15) (.int .i32 57) 22 ?_)
    intro c22 hc22
    refine iQ 1 (iE 48 (zT [(6,.d (.v (.int .i32 c15))),(23,Ba c22)] (zT Z5 Z4)) Z6 ?_)
    cases c22
    ·replace hc22:=bf hc22
     have hd:=hcd.1 ⟨by omega,by omega⟩
     obtain ⟨hc,hw⟩:=hn15.low h1 hp15 (by have:=hd.2;omega)
     have hb1:=hd.1
     have hb2:=hd.2
     refine iF (Ad (Af (Aa rfl (iQ 1 (eC 86 [.agg [Hw m,Lw m],Uv 10] 27 (Dt (n:=10) h4 (by decide)) (iQ 6 ?_))))))
     let Z7:=zT [(6,.d (.v (.int .i32 c15))),(7,.d (Uv (((m*10 / B128:Nat):Int)))),(8,.p 8 0),(23,Ba false)] []
     let Z8:=zT Z7 (zT Z5 Z4)
     let Z9:=zH [(8,[Hw (m*10 % B128),Lw (m*10 % B128)])] []
     refine iE 48 Z8 (zH Z9 Z6) ?_
     refine Aa rfl (iQ 2 (jB .sub 21 (.int .i32 c15) (.int .i32 48) 33 ?_))
     intro z33 hz33
     try replace hz33:=hz33.i32 (by omega)
     refine jV 21 22 (.int .i32 z33) 34 ?_
     intro z34 hz34
     try replace hz34:=hz34.u64 (by omega)
     refine eC 59 [Uv z34] 35 (b4y (n:=bAt s p.toNat-48) (x:=z34) (by omega) (by omega)) (eC 93 [.agg [Hw (m*10 % B128),Lw (m*10 % B128)],.agg [Hw (bAt s p.toNat-48),Lw (bAt s p.toNat-48)]] 36 (a2t (Az _) (by unfold B128;omega)) ?_)
     have hstep:pv s (p.toNat+1)=m*10+(bAt s p.toNat-48):=by rw[pv,← h3]
     have big:B128≤m*10+(bAt s p.toNat-48) → ¬ a10 s:=fun hb h=>by have h6:=b25 s (show p.toNat+1≤s.size by omega);have h7:=h.2;omega
     refine iQ 5 ?_
     let Z10:=zT [(9,.d (Uv ((((m*10 % B128+(bAt s p.toNat-48)) / B128:Nat):Int))))] []
     let Z11:=zH [(8,[Hw ((m*10 % B128+(bAt s p.toNat-48)) % B128),Lw ((m*10 % B128+(bAt s p.toNat-48)) % B128)])] []
     refine iE 48 (zT Z10 Z8) (zH Z11 Z6) ?_
     refine Ae (Aa rfl (iQ 1 (jB .neq 22 (.int .u64 (((m*10 / B128:Nat):Int))) (.int .u64 0) 40 ?_)))
     intro c40 hc40
     refine iQ 1 ?_
     cases c40
     ·replace hc40:=bf hc40
      refine iQ 1 (jB .neq 22 (.int .u64 ((((m*10 % B128+(bAt s p.toNat-48)) / B128:Nat):Int))) (.int .u64 0) 43 ?_)
      have e1:=b6d (m:=m) (by omega)
      intro c43 hc43
      refine iQ 1 (iE 48 (zT [(44,Ba c43)] (zT Z8 Z10)) (zH Z11 Z6) ?_)
      cases c43
      ·replace hc43:=bf hc43
       have e2:=b64 (m:=m) (d:=bAt s p.toNat-48) e1 (by omega)
       refine iF (Ad (Af (Am rfl (iQ 2 ?_))))
       let Z12:=zH [(4,[Hw ((m*10 % B128+(bAt s p.toNat-48)) % B128),Lw ((m*10 % B128+(bAt s p.toNat-48)) % B128)])] []
       let Z13:=zH [(2,[Uv 0,Uv 0]),(14,[.tup [Sv s,Iv q15]])] []
       let Z14:=zH Z13 (zH Z12 Z11)
       refine iE 48 (zT [(44,Ba false)] (zT Z8 Z10)) Z14 ?_
       refine Ap ?_
       refine Bm ((m*10 % B128+(bAt s p.toNat-48)) % B128,q15) (⟨by omega,by omega,by rw[show q15.toNat=p.toNat+1 by omega,hstep];exact e2.1,e2.1 ▸ e2.2,b2d h5 hd (by omega)⟩) (by show s.size-q15.toNat<s.size-p.toNat;omega) (by kernel_rfl) (by kernel_rfl)
      ·replace hc43:=bt hc43
       refine iT (Aa rfl (iQ 3 (iE 48 (zT [(44,Ba true)] (zT Z8 Z10)) (zH Z11 Z6) ?_)))
       refine Ab (Ag (Ai (Db (Ai (Ag (iS (.agg [Uv 0,Uv 0]) (Bv false) [] ?_))))))
       exact Nz (big (b44 e1 (by omega)))
     ·replace hc40:=bt hc40
      refine iQ 3 (iE 48 (zT [(44,Ba true)] (zT Z8 Z10)) (zH Z11 Z6) ?_)
      refine iT (Aa rfl (iQ 3 (iE 48 (zT [(44,Ba true)] (zT Z8 Z10)) (zH Z11 Z6) ?_)))
      refine Ab (Ag (Ai (Db (Ai (Ag (iS (.agg [Uv 0,Uv 0]) (Bv false) [] ?_))))))
      exact Nz (big (b4s (by omega)))
    ·replace hc22:=bt hc22
     refine iT (Aa rfl (iQ 3 (iE 48 (zT [(6,.d (.v (.int .i32 c15))),(23,Ba true)] (zT Z5 Z4)) Z6 ?_)))
     refine Ab (Ag (Ai (Db (Ai (Ag (iS (.agg [Uv 0,Uv 0]) (Bv false) [] ?_))))))
     exact Nz (key fun hd=>by have:=hcd.2 hd;omega)
   ·replace hc19:=bt hc19
    refine iQ 3 (iE 48 (zT [(6,.d (.v (.int .i32 c15))),(23,Ba true)] (zT Z5 Z4)) Z6 ?_)
    refine iT (Aa rfl (iQ 3 (iE 48 (zT [(6,.d (.v (.int .i32 c15))),(23,Ba true)] (zT Z5 Z4)) Z6 ?_)))
    refine Ab (Ag (Ai (Db (Ai (Ag (iS (.agg [Uv 0,Uv 0]) (Bv false) [] ?_))))))
    exact Nz (key fun hd=>by have:=hcd.2 hd;omega)
  ·intro hp15
   refine iQ 1 ?_
   let Z15:=zT [(0,.d (Sv s)),(2,.p 2 0),(3,Ba false),(4,.p 4 0),(11,Ba false),(14,.p 14 0),(15,.d (.tup [Bv false])),(16,Ba false)] []
   let Z16:=zH [(2,[Uv 0,Uv 0]),(4,[Hw m,Lw m]),(14,[.tup [Sv s,Iv p]])] []
   refine iE 48 Z15 Z16 ?_
   have hp:p.toNat=s.size:=by omega
   rw[hp] at h3 h5
   refine Ae (iF (Be (Ce (Bj (Bd rfl (Af (Aa rfl (iQ 3 ?_))))))))
   let Z17:=zT [(0,.d (Sv s)),(2,.p 2 0),(3,Ba true),(4,.p 4 0),(11,Ba false),(14,.p 14 0),(15,.d (.tup [Bv false])),(16,Ba false)] []
   let Z18:=zH [(2,[Hw m,Lw m]),(4,[Hw m,Lw m]),(14,[.tup [Sv s,Iv p]])] []
   refine iE 48 Z17 Z18 ?_
   refine Ab (iS (.agg [Hw m,Lw m]) (Bv true) [] ?_)
   exact a4i ⟨⟨hsz,h5⟩,by rw[← h3];exact h4⟩ h3
 ·replace hc11:=bt hc11
  refine iT (Aa rfl (iQ 3 ?_))
  let Z19:=zT [(0,.d (Sv s)),(2,.p 2 0),(3,Ba false),(11,Ba true)] []
  refine iE 48 Z19 [(2,[Uv 0,Uv 0])] ?_
  refine Ab (Ag (iS (.agg [Uv 0,Uv 0]) (Bv false) [] ?_))
  exact Nz (fun h=>by have:=h.1.1;rw[hc11] at this;cases this)
end Go.Proofs.YtdkgnmiiibpnnaaGreatDoor
