/- The reference's sums and order: casuistref02. dec.Whole. -/
import Derived.Test.YtdkgnmiiibpnnaaGreatDoorDecY
namespace Go.Proofs.YtdkgnmiiibpnnaaGreatDoor
open Go.RowKit
set_option linter.unusedVariables false
set_option linter.unusedSimpArgs false
set_option maxRecDepth 100000
open Go.RowKit
set_option linter.unusedVariables false
set_option linter.unusedSimpArgs false
set_option maxRecDepth 100000
def isW (s:Bool) (A:Nat) (e v:Int):Prop:=V s A e (min e 0)=v*((10 ^ (0-min e 0).toNat:Nat):Int)
def inI (v:Int):Prop := -9223372036854775808≤v∧v<9223372036854775808
theorem Fb {s:Bool} {A:Nat} {e v w:Int} (h:isW s A e v) (k:isW s A e w):v=w:=by
 unfold isW at h k
 rw[h] at k
 exact Int.eq_of_mul_eq_mul_right (by have:0<10 ^ (0-min e 0).toNat:=Nat.pow_pos (by decide);omega) k
theorem b84 (s:Bool) (e:Int):isW s 0 e 0:=by
 unfold isW
 rw[V_0,Int.zero_mul]
theorem a4v {s:Bool} {A p i j:Nat} {e:Int} (hA:A=p*10 ^ j) (hi:(i:Int)=e+j):isW s A e (Ig s (p*10 ^ i)):=by
 unfold isW V
 rw[hA,← a1e,Nat.mul_assoc,Nat.mul_assoc,← Nat.pow_add,← Nat.pow_add]
 congr 3
 omega
theorem b5j {s:Bool} {A:Nat} {e v:Int} (h:isW s A e v) (he:e≤0):A=v.natAbs*10 ^ (-e).toNat:=by
 unfold isW V Ig at h
 rw[show min e 0=e by omega,show (e-e).toNat=0 by omega,show (0-e).toNat=(-e).toNat by omega,Nat.pow_zero,Nat.mul_one] at h
 have h2:=congrArg Int.natAbs h
 rw[Int.natAbs_mul,Int.natAbs_natCast] at h2
 rw[← h2]
 split<;>simp
theorem a7v (s:Bool) (A:Nat) (e:Int) : ∃ (z:Int) (ok:Bool),(ok=true→isW s A e z∧inI z)∧(ok=false→z=0 ∧ ∀ v,isW s A e v → ¬ inI v):=by
 by_cases h : ∃ v,isW s A e v∧inI v
 ·obtain ⟨v,h1,h2⟩:=h
  exact ⟨v,true,fun _=>⟨h1,h2⟩,fun h=>by cases h⟩
 ·exact ⟨0,false,fun h=>(by cases h),fun _=>⟨rfl,fun v h1 h2=>h ⟨v,h1,h2⟩⟩⟩
theorem b4x {s:Bool} {A p j:Nat} {e:Int} (hA:p*10 ^ j=A) (hx:e+(j:Int)<0) (hp:p % 10≠0) {v:Int} (h:isW s A e v):False:=by
 have h1:=b5j h (by omega)
 rw[← hA,show (-e).toNat=((-e).toNat-j-1)+1+j by omega,Nat.pow_add,← Nat.mul_assoc] at h1
 have h2:=Nat.eq_of_mul_eq_mul_right (Nat.pow_pos (by decide)) h1
 rw[h2,Nat.pow_succ,← Nat.mul_assoc,Nat.mul_mod_left] at hp
 exact hp rfl
theorem Dy {s:Bool} {n:Nat} (h:inI (Ig s n)):n≤9223372036854775808∧(s=false→n<9223372036854775808):=by
 unfold inI Ig at h
 cases s<;>simp at h ⊢ <;> omega
theorem Fu {l z w:Int} (h1:IntIs .u64 (0-l) z) (h2:IntIs .i64 z w) (h3:0≤l) (h4:l≤9223372036854775808):w = -l:=by
 have e1:z=IntKind.u64.wrap (0-l):=h1
 have e2:w=IntKind.i64.wrap z:=h2
 rw[wrap_u64] at e1
 rw[e2]
 unfold IntKind.wrap
 simp[IntKind.signed,IntKind.bits]
 split<;>omega
theorem Jf {n:Nat}:hiW n≠0↔18446744073709551616≤n:=by
 unfold hiW
 omega
theorem Ys {n:Nat} (h:hiW n=0):loW n=(n:Int):=by
 unfold hiW at h
 unfold loW
 omega
theorem a4e {n:Nat} (h:n / B128=0):n<B128:=by
 rcases (Nat.div_eq_zero_iff).1 h with k | k
 ·exact absurd k (by decide)
 ·exact k
theorem a3m {n:Nat} (h:n / B128≠0):18446744073709551616≤n:=by
 rcases Nat.lt_or_ge n B128 with k | k
 ·exact absurd (Nat.div_eq_of_lt k) h
 ·exact Nat.le_trans (by decide) k
structure WInv (s:Bool) (A p i j:Nat) (e:Int) (p2:Nat) (x2:Int):Prop where
 a:p*10 ^ j=A
 z:A=0∨0≤e+j
 p:p2=p*10 ^ i
 x:x2=e+j-i
 i:i=0∨0≤x2
 b:p2<B128
theorem WInv.over {s:Bool} {A p i j:Nat} {e:Int} {p2:Nat} {x2:Int} (h:WInv s A p i j e p2 x2) (hx:0<x2) (hp:p2≠0) (hb:18446744073709551616≤p2*10) {v:Int} (hv:isW s A e v) : ¬ inI v:=by
 obtain ⟨h1,h2,h3,h4,h5,h6⟩:=h
 obtain ⟨d,hd⟩ : ∃ d:Nat,x2=(d:Int)+1:=⟨(x2-1).toNat,by omega⟩
 have hw:=a4v (s:=s) (A:=A) (p:=p) (i:=i+(d+1)) (j:=j) (e:=e) h1.symm (by omega)
 rw[Fb hv hw]
 intro hin
 have hs:=(Dy hin).1
 have hle:p2*10≤p*10 ^ (i+(d+1)):=by
  rw[Nat.pow_add,← Nat.mul_assoc,← h3]
  refine Nat.mul_le_mul_left _ ?_
  rw[Nat.pow_succ]
  have:0<10 ^ d:=Nat.pow_pos (by decide)
  omega
 omega
theorem WInv.val {s:Bool} {A p i j:Nat} {e:Int} {p2:Nat} {x2:Int} (h:WInv s A p i j e p2 x2) (hx:x2≤0∨p2=0):isW s A e (Ig s p2):=by
 obtain ⟨h1,h2,h3,h4,h5,h6⟩:=h
 have hz:p2=0→isW s A e (Ig s p2):=fun h=>by
  have hp:p=0:=by
   rw[h] at h3
   rcases Nat.mul_eq_zero.1 h3.symm with k | k
   ·exact k
   ·exact absurd k (Nat.pos_iff_ne_zero.1 (Nat.pow_pos (by decide)))
  rw[hp,Nat.zero_mul] at h1
  rw[h,← h1,Ro]
  exact b84 s e
 by_cases hp:p2=0
 ·exact hz hp
 ·have hA:A≠0:=fun k=>by
   rw[k] at h1
   rcases Nat.mul_eq_zero.1 h1 with m | m
   ·rw[m,Nat.zero_mul] at h3
    exact hp h3
   ·exact absurd m (Nat.pos_iff_ne_zero.1 (Nat.pow_pos (by decide)))
  have:=h2.resolve_left hA
  rw[h3]
  exact a4v h1.symm (by omega)
set_option maxHeartbeats 3200000 in
theorem b3d {s:Bool} {A:Nat} {e:Int} (hA:A<B128) (h1 : -10000000000000000≤e) (h2:e≤10000000000000000):HasC Tryz.prog 91 [.agg [.v (.bool s),.v (.int .u64 (hiW (A))),.v (.int .u64 (loW (A))),.v (.int .i64 e)]] (fun y => ∃ (z:Int) (ok:Bool),y=.tup [.v (.int .i64 z),.v (.bool ok)]∧(ok=true→isW s A e z∧inI z)∧(ok=false→z=0 ∧ ∀ v,isW s A e v → ¬ inI v)):=by
 refine hO [] Tryz.f91 (fun a w=>Tryz.call91 a w) Tryz.func91 rfl (by obtain ⟨z,ok,h⟩:=a7v s A e;exact ⟨_,z,ok,rfl,h⟩) ?_
 refine Aa rfl (iQ 3 (iE 98 [(1,.p 1 0),(2,Ia 0),(3,Ba false)] [(1,[Bv s,Hw A,Lw A,Iv e])] ?_))
 refine Aa rfl (iQ 3 ?_)
 let Z1:=zT [(1,.p 1 0),(2,Ia 0),(3,Ba false),(4,.p 4 0)] []
 let Z2:=zH [(1,[Bv s,Hw A,Lw A,Iv e]),(4,[Bv s,Hw A,Lw A,Iv e])] []
 refine iE 98 Z1 Z2 ?_
 refine Ae (Ak (Bq 98 (fun (vcx:Nat×Nat×Int)=>match vcx with | (j,p,x)=>[(1,.p 1 0),(2,Ia 0),(3,Ba false),(4,.p 4 0)]) (fun (vcx:Nat×Nat×Int)=>match vcx with | (j,p,x)=>[(1,[Bv s,Hw A,Lw A,Iv e]),(4,[Bv s,Hw p,Lw p,Iv x])]) (fun (vcx:Nat×Nat×Int)=>match vcx with | (j,p,x)=>p*10 ^ j=A∧x=e+(j:Int)∧(j=0∨x≤0)∧p<B128) (fun (vcx:Nat×Nat×Int)=>match vcx with | (j,p,x)=>(0-x).toNat) ((0,A,e)) (⟨by simp,by simp,.inl rfl,hA⟩) (by kernel_rfl) (by kernel_rfl) ?_))
 rintro ⟨j,p,x⟩ hinv
 simp only at hinv
 obtain ⟨i1,i2,i3,i4⟩:=hinv
 refine Ae (Aa rfl (iQ 2 (jB .lss 3 (.int .i64 x) (.int .i64 0) 14 ?_)))
 intro c14 hc14
 refine iQ 1 ?_
 cases c14
 ·replace hc14:=bf hc14
  refine iQ 4 ?_
  let Z3:=zT [(1,.p 1 0),(2,Ia 0),(3,Ba false),(4,.p 4 0),(19,Ba false)] []
  let Z4:=zH [(1,[Bv s,Hw A,Lw A,Iv e]),(4,[Bv s,Hw p,Lw p,Iv x])] []
  refine iE 98 Z3 Z4 ?_
  have hz0:A=0∨0≤e+(j:Int):=.inr (by omega)
  have hw0:WInv s A p 0 j e p x:=⟨i1,hz0,by simp,by omega,.inl rfl,i4⟩
  have hxb:e+(j:Int)≤10000000000000000:=by omega
  clear i2 i3 hc14
  refine iF (Be (Ce (Bj (Bd rfl (Af (Ae (Ak (Bq 98 (fun (vcx:Nat×Nat×Int)=>match vcx with | (i,p2,x2)=>[(1,.p 1 0),(2,Ia 0),(3,Ba false),(4,.p 4 0),(19,Ba false)]) (fun (vcx:Nat×Nat×Int)=>match vcx with | (i,p2,x2)=>[(1,[Bv s,Hw A,Lw A,Iv e]),(4,[Bv s,Hw p2,Lw p2,Iv x2])]) (fun (vcx:Nat×Nat×Int)=>match vcx with | (i,p2,x2)=>WInv s A p i j e p2 x2) (fun (vcx:Nat×Nat×Int)=>match vcx with | (i,p2,x2)=>x2.toNat) ((0,p,x)) (hw0) (by kernel_rfl) (by kernel_rfl) ?_))))))))
  rintro ⟨i,p2,x2⟩ hinv
  simp only at hinv
  have hb2:=hinv.b;have hx2:=hinv.x
  refine Ae (Aa rfl (iQ 2 (jB .gtr 3 (.int .i64 x2) (.int .i64 0) 39 ?_)))
  intro c39 hc39
  refine iQ 1 ?_
  cases c39
  ·replace hc39:=bf hc39
   refine iQ 4 ?_
   let Z5:=zH [(1,[Bv s,Hw A,Lw A,Iv e]),(4,[Bv s,Hw p2,Lw p2,Iv x2])] []
   refine iE 98 (zT [(44,Ba false)] Z3) Z5 ?_
   have hval:=hinv.val (.inl (by omega))
   have hlo:=Kf p2
   refine iF (Be (Ce (Bj (Bd rfl (Af (Ae (Ak (Aa rfl (iQ 3 (jB .neq 22 (.int .u64 (hiW (p2))) (.int .u64 0) 68 ?_))))))))))
   intro c68 hc68
   refine iQ 1 ?_
   cases c68
   ·replace hc68:=bf hc68
    refine iQ 3 (jB .gtr 22 (.int .u64 (loW (p2))) (.int .u64 9223372036854775808) 73 ?_)
    have hh0:hiW p2=0:=Decidable.not_not.1 hc68
    have hl:=Ys hh0
    intro c73 hc73
    refine iQ 2 ?_
    cases c73
    ·replace hc73:=bf hc73
     refine iQ 3 (jB .eql 22 (.int .u64 (loW (p2))) (.int .u64 9223372036854775808) 79 ?_)
     intro c79 hc79
     refine iQ 1 ?_
     cases c79
     ·replace hc79:=bf hc79
      refine iQ 6 (iE 98 (zT [(44,Ba false),(64,Ba false)] Z3) Z5 ?_)
      refine iF (Aa rfl (iQ 3 (iE 98 (zT [(44,Ba false),(64,Ba false),(86,Ba s)] Z3) Z5 ?_)))
      cases s
      ·refine iF (Ad (Ap (Af (Aa rfl (iQ 3 (jV 22 3 (.int .u64 (loW (p2))) 97 ?_))))))
       intro z97 hz97
       try replace hz97:=hz97.i64 (by omega)
       refine iQ 2 ?_
       let Z6:=zT [(1,.p 1 0),(2,Ia z97),(3,Ba true),(4,.p 4 0),(19,Ba false),(44,Ba false),(64,Ba false),(86,Ba false)] []
       let Z7:=zH [(1,[Bv false,Hw A,Lw A,Iv e]),(4,[Bv false,Hw p2,Lw p2,Iv x2])] []
       refine iE 98 Z6 Z7 ?_
       refine Ab (iS (Iv z97) (Bv true) [] ?_)
       exact ⟨_,_,rfl,fun _=>by rw[hz97,hl];exact ⟨hval,by show inI (p2:Int);unfold inI;omega⟩,fun h=>by cases h⟩
      ·refine iT (Aa rfl (iQ 3 (jU .neg (.int .u64 (loW (p2))) 92 ?_)))
       intro z92 hz92
       try replace hz92:=hz92.u64 (by omega)
       refine jV 22 3 (.int .u64 z92) 93 ?_
       intro z93 hz93
       try replace hz93:=hz93.i64 (by omega)
       refine iQ 2 ?_
       let Z8:=zT [(1,.p 1 0),(2,Ia z93),(3,Ba true),(4,.p 4 0),(19,Ba false),(44,Ba false),(64,Ba false),(86,Ba true)] []
       let Z9:=zH [(1,[Bv true,Hw A,Lw A,Iv e]),(4,[Bv true,Hw p2,Lw p2,Iv x2])] []
       refine iE 98 Z8 Z9 ?_
       refine Ab (Ai (Ag (iS (Iv z93) (Bv true) [] ?_)))
       exact ⟨_,_,rfl,fun _=>by rw[Fu hz92 hz93 hlo.1 (by omega),hl];exact ⟨hval,by unfold inI;omega⟩,fun h=>by cases h⟩
     ·replace hc79:=bt hc79
      refine iQ 2 (jU .not (.bool s) 83 ?_)
      intro c83 hc83
      refine iQ 3 ?_
      let Z10:=zH [(1,[Bv s,Hw A,Lw A,Iv e]),(4,[Bv s,Hw p2,Lw p2,Iv x2])] []
      refine iE 98 (zT [(44,Ba false),(64,Ba c83)] Z3) Z10 ?_
      cases c83
      ·replace hc83:=bf hc83
       refine iF (Aa rfl (iQ 3 (iE 98 (zT [(44,Ba false),(64,Ba false),(86,Ba s)] Z3) Z10 ?_)))
       cases s
       ·exfalso;simp at hc83
        skip
       ·refine iT (Aa rfl (iQ 3 (jU .neg (.int .u64 (loW (p2))) 92 ?_)))
        intro z92 hz92
        try replace hz92:=hz92.u64 (by omega)
        refine jV 22 3 (.int .u64 z92) 93 ?_
        intro z93 hz93
        try replace hz93:=hz93.i64 (by omega)
        refine iQ 2 ?_
        let Z11:=zT [(1,.p 1 0),(2,Ia z93),(3,Ba true),(4,.p 4 0),(19,Ba false),(44,Ba false),(64,Ba false),(86,Ba true)] []
        let Z12:=zH [(1,[Bv true,Hw A,Lw A,Iv e]),(4,[Bv true,Hw p2,Lw p2,Iv x2])] []
        refine iE 98 Z11 Z12 ?_
        refine Ab (Ai (Ag (iS (Iv z93) (Bv true) [] ?_)))
        exact ⟨_,_,rfl,fun _=>by rw[Fu hz92 hz93 hlo.1 (by omega),hl];exact ⟨hval,by unfold inI;omega⟩,fun h=>by cases h⟩
      ·replace hc83:=bt hc83
       refine iT (Aa rfl (iQ 2 ?_))
       let Z13:=zH [(1,[Bv s,Hw A,Lw A,Iv e]),(4,[Bv s,Hw p2,Lw p2,Iv x2])] []
       refine iE 98 (zT [(44,Ba false),(64,Ba true)] Z3) Z13 ?_
       refine Ab (Ai (Ag (iS (Iv 0) (Bv false) [] ?_)))
       exact ⟨_,_,rfl,fun h=>(by cases h),fun _=>⟨rfl,fun v hv hin=>by rw[Fb hv hval] at hin;have:=Dy hin;rw[hc83] at this;have:=this.2 rfl;omega⟩⟩
    ·replace hc73:=bt hc73
     refine iQ 11 ?_
     let Z14:=zH [(1,[Bv s,Hw A,Lw A,Iv e]),(4,[Bv s,Hw p2,Lw p2,Iv x2])] []
     refine iE 98 (zT [(44,Ba false),(64,Ba true)] Z3) Z14 ?_
     refine iT (Aa rfl (iQ 2 (iE 98 (zT [(44,Ba false),(64,Ba true)] Z3) Z14 ?_)))
     refine Ab (Ai (Ag (iS (Iv 0) (Bv false) [] ?_)))
     exact ⟨_,_,rfl,fun h=>(by cases h),fun _=>⟨rfl,fun v hv hin=>by rw[Fb hv hval] at hin;have:=(Dy hin).1;omega⟩⟩
   ·replace hc68:=bt hc68
    refine iQ 17 ?_
    let Z15:=zH [(1,[Bv s,Hw A,Lw A,Iv e]),(4,[Bv s,Hw p2,Lw p2,Iv x2])] []
    refine iE 98 (zT [(44,Ba false),(64,Ba true)] Z3) Z15 ?_
    refine iT (Aa rfl (iQ 2 (iE 98 (zT [(44,Ba false),(64,Ba true)] Z3) Z15 ?_)))
    refine Ab (Ai (Ag (iS (Iv 0) (Bv false) [] ?_)))
    exact ⟨_,_,rfl,fun h=>(by cases h),fun _=>⟨rfl,fun v hv hin=>by rw[Fb hv hval] at hin;have:=(Dy hin).1;have:=Jf.1 hc68;omega⟩⟩
  ·replace hc39:=bt hc39
   refine iQ 1 (jC 16 [.agg [Bv s,Hw p2,Lw p2,Iv x2]] 42 (Du hb2) ?_)
   rintro _ ⟨zz,rfl,hzz⟩
   refine jU .not (.bool zz) 43 ?_
   intro c43 hc43
   refine iQ 1 ?_
   let Z16:=zH [(1,[Bv s,Hw A,Lw A,Iv e]),(4,[Bv s,Hw p2,Lw p2,Iv x2])] []
   refine iE 98 (zT [(44,Ba c43)] Z3) Z16 ?_
   cases c43
   ·replace hc43:=bf hc43
    have hp20:p2=0:=hzz.1 (by simpa using hc43)
    have hval:=hinv.val (.inr hp20)
    clear hp20
    have hlo:=Kf p2
    refine iF (Be (Ce (Bj (Bd rfl (Af (Ae (Ak (Aa rfl (iQ 3 (jB .neq 22 (.int .u64 (hiW (p2))) (.int .u64 0) 68 ?_))))))))))
    intro c68 hc68
    refine iQ 1 ?_
    cases c68
    ·replace hc68:=bf hc68
     refine iQ 3 (jB .gtr 22 (.int .u64 (loW (p2))) (.int .u64 9223372036854775808) 73 ?_)
     have hh0:hiW p2=0:=Decidable.not_not.1 hc68
     have hl:=Ys hh0
     intro c73 hc73
     refine iQ 2 ?_
     cases c73
     ·replace hc73:=bf hc73
      refine iQ 3 (jB .eql 22 (.int .u64 (loW (p2))) (.int .u64 9223372036854775808) 79 ?_)
      intro c79 hc79
      refine iQ 1 ?_
      cases c79
      ·replace hc79:=bf hc79
       refine iQ 6 (iE 98 (zT [(44,Ba false),(64,Ba false)] Z3) Z16 ?_)
       refine iF (Aa rfl (iQ 3 (iE 98 (zT [(44,Ba false),(64,Ba false),(86,Ba s)] Z3) Z16 ?_)))
       cases s
       ·refine iF (Ad (Ap (Af (Aa rfl (iQ 3 (jV 22 3 (.int .u64 (loW (p2))) 97 ?_))))))
        intro z97 hz97
        try replace hz97:=hz97.i64 (by omega)
        refine iQ 2 ?_
        let Z17:=zT [(1,.p 1 0),(2,Ia z97),(3,Ba true),(4,.p 4 0),(19,Ba false),(44,Ba false),(64,Ba false),(86,Ba false)] []
        let Z18:=zH [(1,[Bv false,Hw A,Lw A,Iv e]),(4,[Bv false,Hw p2,Lw p2,Iv x2])] []
        refine iE 98 Z17 Z18 ?_
        refine Ab (iS (Iv z97) (Bv true) [] ?_)
        exact ⟨_,_,rfl,fun _=>by rw[hz97,hl];exact ⟨hval,by show inI (p2:Int);unfold inI;omega⟩,fun h=>by cases h⟩
       ·refine iT (Aa rfl (iQ 3 (jU .neg (.int .u64 (loW (p2))) 92 ?_)))
        intro z92 hz92
        try replace hz92:=hz92.u64 (by omega)
        refine jV 22 3 (.int .u64 z92) 93 ?_
        intro z93 hz93
        try replace hz93:=hz93.i64 (by omega)
        refine iQ 2 ?_
        let Z19:=zT [(1,.p 1 0),(2,Ia z93),(3,Ba true),(4,.p 4 0),(19,Ba false),(44,Ba false),(64,Ba false),(86,Ba true)] []
        let Z20:=zH [(1,[Bv true,Hw A,Lw A,Iv e]),(4,[Bv true,Hw p2,Lw p2,Iv x2])] []
        refine iE 98 Z19 Z20 ?_
        refine Ab (Ai (Ag (iS (Iv z93) (Bv true) [] ?_)))
        exact ⟨_,_,rfl,fun _=>by rw[Fu hz92 hz93 hlo.1 (by omega),hl];exact ⟨hval,by unfold inI;omega⟩,fun h=>by cases h⟩
      ·replace hc79:=bt hc79
       refine iQ 2 (jU .not (.bool s) 83 ?_)
       intro c83 hc83
       refine iQ 3 ?_
       let Z21:=zH [(1,[Bv s,Hw A,Lw A,Iv e]),(4,[Bv s,Hw p2,Lw p2,Iv x2])] []
       refine iE 98 (zT [(44,Ba false),(64,Ba c83)] Z3) Z21 ?_
       cases c83
       ·replace hc83:=bf hc83
        refine iF (Aa rfl (iQ 3 (iE 98 (zT [(44,Ba false),(64,Ba false),(86,Ba s)] Z3) Z21 ?_)))
        cases s
        ·exfalso;simp at hc83
         skip
        ·refine iT (Aa rfl (iQ 3 (jU .neg (.int .u64 (loW (p2))) 92 ?_)))
         intro z92 hz92
         try replace hz92:=hz92.u64 (by omega)
         refine jV 22 3 (.int .u64 z92) 93 ?_
         intro z93 hz93
         try replace hz93:=hz93.i64 (by omega)
         refine iQ 2 ?_
         let Z22:=zT [(1,.p 1 0),(2,Ia z93),(3,Ba true),(4,.p 4 0),(19,Ba false),(44,Ba false),(64,Ba false),(86,Ba true)] []
         let Z23:=zH [(1,[Bv true,Hw A,Lw A,Iv e]),(4,[Bv true,Hw p2,Lw p2,Iv x2])] []
         refine iE 98 Z22 Z23 ?_
         refine Ab (Ai (Ag (iS (Iv z93) (Bv true) [] ?_)))
         exact ⟨_,_,rfl,fun _=>by rw[Fu hz92 hz93 hlo.1 (by omega),hl];exact ⟨hval,by unfold inI;omega⟩,fun h=>by cases h⟩
       ·replace hc83:=bt hc83
        refine iT (Aa rfl (iQ 2 ?_))
        let Z24:=zH [(1,[Bv s,Hw A,Lw A,Iv e]),(4,[Bv s,Hw p2,Lw p2,Iv x2])] []
        refine iE 98 (zT [(44,Ba false),(64,Ba true)] Z3) Z24 ?_
        refine Ab (Ai (Ag (iS (Iv 0) (Bv false) [] ?_)))
        exact ⟨_,_,rfl,fun h=>(by cases h),fun _=>⟨rfl,fun v hv hin=>by rw[Fb hv hval] at hin;have:=Dy hin;rw[hc83] at this;have:=this.2 rfl;omega⟩⟩
     ·replace hc73:=bt hc73
      refine iQ 11 ?_
      let Z25:=zH [(1,[Bv s,Hw A,Lw A,Iv e]),(4,[Bv s,Hw p2,Lw p2,Iv x2])] []
      refine iE 98 (zT [(44,Ba false),(64,Ba true)] Z3) Z25 ?_
      refine iT (Aa rfl (iQ 2 (iE 98 (zT [(44,Ba false),(64,Ba true)] Z3) Z25 ?_)))
      refine Ab (Ai (Ag (iS (Iv 0) (Bv false) [] ?_)))
      exact ⟨_,_,rfl,fun h=>(by cases h),fun _=>⟨rfl,fun v hv hin=>by rw[Fb hv hval] at hin;have:=(Dy hin).1;omega⟩⟩
    ·replace hc68:=bt hc68
     refine iQ 17 ?_
     let Z26:=zH [(1,[Bv s,Hw A,Lw A,Iv e]),(4,[Bv s,Hw p2,Lw p2,Iv x2])] []
     refine iE 98 (zT [(44,Ba false),(64,Ba true)] Z3) Z26 ?_
     refine iT (Aa rfl (iQ 2 (iE 98 (zT [(44,Ba false),(64,Ba true)] Z3) Z26 ?_)))
     refine Ab (Ai (Ag (iS (Iv 0) (Bv false) [] ?_)))
     exact ⟨_,_,rfl,fun h=>(by cases h),fun _=>⟨rfl,fun v hv hin=>by rw[Fb hv hval] at hin;have:=(Dy hin).1;have:=Jf.1 hc68;omega⟩⟩
   ·replace hc43:=bt hc43
    have hp20:p2≠0:=fun h=>by rw[hzz.2 h] at hc43;cases hc43
    refine iT (Ad (Af (Ak (Aa rfl (iQ 2 (eC 86 [.agg [Hw p2,Lw p2],Uv 10] 48 (Dt (n:=10) hb2 (by decide)) (iQ 6 ?_)))))))
    let Z27:=zT [(9,.d (Uv (((p2*10 / B128:Nat):Int)))),(10,.p 10 0),(44,Ba true)] []
    let Z28:=zH [(10,[Hw (p2*10 % B128),Lw (p2*10 % B128)])] []
    let Z29:=zH [(1,[Bv s,Hw A,Lw A,Iv e]),(4,[Bv s,Hw p2,Lw p2,Iv x2])] []
    refine iE 98 (zT Z27 Z3) (zH Z29 Z28) ?_
    refine Ae (Aa rfl (iQ 1 (jB .neq 22 (.int .u64 (((p2*10 / B128:Nat):Int))) (.int .u64 0) 52 ?_)))
    intro c52 hc52
    refine iQ 1 ?_
    cases c52
    ·replace hc52:=bf hc52
     refine iQ 2 (jB .neq 22 (.int .u64 (hiW (p2*10 % B128))) (.int .u64 0) 56 ?_)
     have hq0:p2*10 / B128=0:=by omega
     have hqm:p2*10 % B128=p2*10:=Nat.mod_eq_of_lt (a4e hq0)
     intro c56 hc56
     refine iQ 1 (iE 98 (zT [(57,Ba c56)] (zT Z27 Z3)) (zH Z29 Z28) ?_)
     cases c56
     ·replace hc56:=bf hc56
      have hsm:p2*10<18446744073709551616:=by rw[hqm] at hc56;have := @Jf (p2*10);omega
      refine iF (Ad (Af (Am rfl (iQ 3 (jB .sub 3 (.int .i64 x2) (.int .i64 1) 61 ?_)))))
      intro z61 hz61
      try replace hz61:=hz61.i64 (by omega)
      refine iQ 4 ?_
      let Z30:=zH [(4,[Bv s,Hw (p2*10 % B128),Lw (p2*10 % B128),Iv z61])] []
      refine iE 98 (zT [(57,Ba false)] (zT Z27 Z3)) (zH [(1,[Bv s,Hw A,Lw A,Iv e])] (zH Z30 Z28)) ?_
      refine Ap ?_
      refine Bm (i+1,p2*10 % B128,z61) (⟨hinv.a,hinv.z,by rw[hqm,hinv.p,Nat.pow_succ,Nat.mul_assoc],by have:=hinv.x;omega,.inr (by omega),Az _⟩) (by show z61.toNat<x2.toNat;omega) (by kernel_rfl) (by kernel_rfl)
     ·replace hc56:=bt hc56
      refine iT (Aa rfl (iQ 2 (iE 98 (zT [(57,Ba true)] (zT Z27 Z3)) (zH Z29 Z28) ?_)))
      refine Ab (Ag (Ai (Db (Ai (Ag (iS (Iv 0) (Bv false) [] ?_))))))
      exact ⟨_,_,rfl,fun h=>(by cases h),fun _=>⟨rfl,fun v hv=>hinv.over hc39 hp20 (by rw[hqm] at hc56;exact Jf.1 hc56) hv⟩⟩
    ·replace hc52:=bt hc52
     refine iQ 4 (iE 98 (zT [(57,Ba true)] (zT Z27 Z3)) (zH Z29 Z28) ?_)
     refine iT (Aa rfl (iQ 2 (iE 98 (zT [(57,Ba true)] (zT Z27 Z3)) (zH Z29 Z28) ?_)))
     refine Ab (Ag (Ai (Db (Ai (Ag (iS (Iv 0) (Bv false) [] ?_))))))
     exact ⟨_,_,rfl,fun h=>(by cases h),fun _=>⟨rfl,fun v hv=>hinv.over hc39 hp20 (by have hq:p2*10 / B128≠0:=(by omega);exact a3m hq) hv⟩⟩
 ·replace hc14:=bt hc14
  refine iQ 1 (jC 16 [.agg [Bv s,Hw p,Lw p,Iv x]] 17 (Du i4) ?_)
  rintro _ ⟨z1,rfl,hz1⟩
  refine jU .not (.bool z1) 18 ?_
  intro c18 hc18
  refine iQ 1 ?_
  let Z31:=zT [(1,.p 1 0),(2,Ia 0),(3,Ba false),(4,.p 4 0),(19,Ba c18)] []
  let Z32:=zH [(1,[Bv s,Hw A,Lw A,Iv e]),(4,[Bv s,Hw p,Lw p,Iv x])] []
  refine iE 98 Z31 Z32 ?_
  cases c18
  ·replace hc18:=bf hc18
   have hp0:p=0:=hz1.1 (by simpa using hc18)
   have hz0:A=0∨0≤e+(j:Int):=.inl (by rw[← i1,hp0,Nat.zero_mul])
   have hw0:WInv s A p 0 j e p x:=⟨i1,hz0,by simp,by omega,.inl rfl,i4⟩
   have hxb:e+(j:Int)≤10000000000000000:=by omega
   clear i2 i3 hc14
   refine iF (Be (Ce (Bj (Bd rfl (Af (Ae (Ak (Bq 98 (fun (vcx:Nat×Nat×Int)=>match vcx with | (i,p2,x2)=>[(1,.p 1 0),(2,Ia 0),(3,Ba false),(4,.p 4 0),(19,Ba false)]) (fun (vcx:Nat×Nat×Int)=>match vcx with | (i,p2,x2)=>[(1,[Bv s,Hw A,Lw A,Iv e]),(4,[Bv s,Hw p2,Lw p2,Iv x2])]) (fun (vcx:Nat×Nat×Int)=>match vcx with | (i,p2,x2)=>WInv s A p i j e p2 x2) (fun (vcx:Nat×Nat×Int)=>match vcx with | (i,p2,x2)=>x2.toNat) ((0,p,x)) (hw0) (by kernel_rfl) (by kernel_rfl) ?_))))))))
   rintro ⟨i,p2,x2⟩ hinv
   simp only at hinv
   have hb2:=hinv.b;have hx2:=hinv.x
   refine Ae (Aa rfl (iQ 2 (jB .gtr 3 (.int .i64 x2) (.int .i64 0) 39 ?_)))
   intro c39 hc39
   refine iQ 1 ?_
   cases c39
   ·replace hc39:=bf hc39
    refine iQ 4 ?_
    let Z33:=zT [(1,.p 1 0),(2,Ia 0),(3,Ba false),(4,.p 4 0),(19,Ba false),(44,Ba false)] []
    let Z34:=zH [(1,[Bv s,Hw A,Lw A,Iv e]),(4,[Bv s,Hw p2,Lw p2,Iv x2])] []
    refine iE 98 Z33 Z34 ?_
    have hval:=hinv.val (.inl (by omega))
    have hlo:=Kf p2
    refine iF (Be (Ce (Bj (Bd rfl (Af (Ae (Ak (Aa rfl (iQ 3 (jB .neq 22 (.int .u64 (hiW (p2))) (.int .u64 0) 68 ?_))))))))))
    intro c68 hc68
    refine iQ 1 ?_
    cases c68
    ·replace hc68:=bf hc68
     refine iQ 3 (jB .gtr 22 (.int .u64 (loW (p2))) (.int .u64 9223372036854775808) 73 ?_)
     have hh0:hiW p2=0:=Decidable.not_not.1 hc68
     have hl:=Ys hh0
     intro c73 hc73
     refine iQ 2 ?_
     cases c73
     ·replace hc73:=bf hc73
      refine iQ 3 (jB .eql 22 (.int .u64 (loW (p2))) (.int .u64 9223372036854775808) 79 ?_)
      intro c79 hc79
      refine iQ 1 ?_
      cases c79
      ·replace hc79:=bf hc79
       refine iQ 6 (iE 98 (zT [(64,Ba false)] Z33) Z34 ?_)
       refine iF (Aa rfl (iQ 3 (iE 98 (zT [(64,Ba false),(86,Ba s)] Z33) Z34 ?_)))
       cases s
       ·refine iF (Ad (Ap (Af (Aa rfl (iQ 3 (jV 22 3 (.int .u64 (loW (p2))) 97 ?_))))))
        intro z97 hz97
        try replace hz97:=hz97.i64 (by omega)
        refine iQ 2 ?_
        let Z35:=zT [(1,.p 1 0),(2,Ia z97),(3,Ba true),(4,.p 4 0),(19,Ba false),(44,Ba false),(64,Ba false),(86,Ba false)] []
        let Z36:=zH [(1,[Bv false,Hw A,Lw A,Iv e]),(4,[Bv false,Hw p2,Lw p2,Iv x2])] []
        refine iE 98 Z35 Z36 ?_
        refine Ab (iS (Iv z97) (Bv true) [] ?_)
        exact ⟨_,_,rfl,fun _=>by rw[hz97,hl];exact ⟨hval,by show inI (p2:Int);unfold inI;omega⟩,fun h=>by cases h⟩
       ·refine iT (Aa rfl (iQ 3 (jU .neg (.int .u64 (loW (p2))) 92 ?_)))
        intro z92 hz92
        try replace hz92:=hz92.u64 (by omega)
        refine jV 22 3 (.int .u64 z92) 93 ?_
        intro z93 hz93
        try replace hz93:=hz93.i64 (by omega)
        refine iQ 2 ?_
        let Z37:=zT [(1,.p 1 0),(2,Ia z93),(3,Ba true),(4,.p 4 0),(19,Ba false),(44,Ba false),(64,Ba false),(86,Ba true)] []
        let Z38:=zH [(1,[Bv true,Hw A,Lw A,Iv e]),(4,[Bv true,Hw p2,Lw p2,Iv x2])] []
        refine iE 98 Z37 Z38 ?_
        refine Ab (Ai (Ag (iS (Iv z93) (Bv true) [] ?_)))
        exact ⟨_,_,rfl,fun _=>by rw[Fu hz92 hz93 hlo.1 (by omega),hl];exact ⟨hval,by unfold inI;omega⟩,fun h=>by cases h⟩
      ·replace hc79:=bt hc79
       refine iQ 2 (jU .not (.bool s) 83 ?_)
       intro c83 hc83
       refine iQ 3 ?_
       let Z39:=zH [(1,[Bv s,Hw A,Lw A,Iv e]),(4,[Bv s,Hw p2,Lw p2,Iv x2])] []
       refine iE 98 (zT [(64,Ba c83)] Z33) Z39 ?_
       cases c83
       ·replace hc83:=bf hc83
        refine iF (Aa rfl (iQ 3 (iE 98 (zT [(64,Ba false),(86,Ba s)] Z33) Z39 ?_)))
        cases s
        ·exfalso;simp at hc83
         skip
        ·refine iT (Aa rfl (iQ 3 (jU .neg (.int .u64 (loW (p2))) 92 ?_)))
         intro z92 hz92
         try replace hz92:=hz92.u64 (by omega)
         refine jV 22 3 (.int .u64 z92) 93 ?_
         intro z93 hz93
         try replace hz93:=hz93.i64 (by omega)
         refine iQ 2 ?_
         let Z40:=zT [(1,.p 1 0),(2,Ia z93),(3,Ba true),(4,.p 4 0),(19,Ba false),(44,Ba false),(64,Ba false),(86,Ba true)] []
         let Z41:=zH [(1,[Bv true,Hw A,Lw A,Iv e]),(4,[Bv true,Hw p2,Lw p2,Iv x2])] []
         refine iE 98 Z40 Z41 ?_
         refine Ab (Ai (Ag (iS (Iv z93) (Bv true) [] ?_)))
         exact ⟨_,_,rfl,fun _=>by rw[Fu hz92 hz93 hlo.1 (by omega),hl];exact ⟨hval,by unfold inI;omega⟩,fun h=>by cases h⟩
       ·replace hc83:=bt hc83
        refine iT (Aa rfl (iQ 2 ?_))
        let Z42:=zH [(1,[Bv s,Hw A,Lw A,Iv e]),(4,[Bv s,Hw p2,Lw p2,Iv x2])] []
        refine iE 98 (zT [(64,Ba true)] Z33) Z42 ?_
        refine Ab (Ai (Ag (iS (Iv 0) (Bv false) [] ?_)))
        exact ⟨_,_,rfl,fun h=>(by cases h),fun _=>⟨rfl,fun v hv hin=>by rw[Fb hv hval] at hin;have:=Dy hin;rw[hc83] at this;have:=this.2 rfl;omega⟩⟩
     ·replace hc73:=bt hc73
      refine iQ 11 ?_
      let Z43:=zH [(1,[Bv s,Hw A,Lw A,Iv e]),(4,[Bv s,Hw p2,Lw p2,Iv x2])] []
      refine iE 98 (zT [(64,Ba true)] Z33) Z43 ?_
      refine iT (Aa rfl (iQ 2 (iE 98 (zT [(64,Ba true)] Z33) Z43 ?_)))
      refine Ab (Ai (Ag (iS (Iv 0) (Bv false) [] ?_)))
      exact ⟨_,_,rfl,fun h=>(by cases h),fun _=>⟨rfl,fun v hv hin=>by rw[Fb hv hval] at hin;have:=(Dy hin).1;omega⟩⟩
    ·replace hc68:=bt hc68
     refine iQ 17 ?_
     let Z44:=zH [(1,[Bv s,Hw A,Lw A,Iv e]),(4,[Bv s,Hw p2,Lw p2,Iv x2])] []
     refine iE 98 (zT [(64,Ba true)] Z33) Z44 ?_
     refine iT (Aa rfl (iQ 2 (iE 98 (zT [(64,Ba true)] Z33) Z44 ?_)))
     refine Ab (Ai (Ag (iS (Iv 0) (Bv false) [] ?_)))
     exact ⟨_,_,rfl,fun h=>(by cases h),fun _=>⟨rfl,fun v hv hin=>by rw[Fb hv hval] at hin;have:=(Dy hin).1;have:=Jf.1 hc68;omega⟩⟩
   ·replace hc39:=bt hc39
    refine iQ 1 (jC 16 [.agg [Bv s,Hw p2,Lw p2,Iv x2]] 42 (Du hb2) ?_)
    rintro _ ⟨zz,rfl,hzz⟩
    refine jU .not (.bool zz) 43 ?_
    intro c43 hc43
    refine iQ 1 ?_
    let Z45:=zT [(1,.p 1 0),(2,Ia 0),(3,Ba false),(4,.p 4 0),(19,Ba false),(44,Ba c43)] []
    let Z46:=zH [(1,[Bv s,Hw A,Lw A,Iv e]),(4,[Bv s,Hw p2,Lw p2,Iv x2])] []
    refine iE 98 Z45 Z46 ?_
    cases c43
    ·replace hc43:=bf hc43
     have hp20:p2=0:=hzz.1 (by simpa using hc43)
     have hval:=hinv.val (.inr hp20)
     clear hp20
     have hlo:=Kf p2
     refine iF (Be (Ce (Bj (Bd rfl (Af (Ae (Ak (Aa rfl (iQ 3 (jB .neq 22 (.int .u64 (hiW (p2))) (.int .u64 0) 68 ?_))))))))))
     intro c68 hc68
     refine iQ 1 ?_
     cases c68
     ·replace hc68:=bf hc68
      refine iQ 3 (jB .gtr 22 (.int .u64 (loW (p2))) (.int .u64 9223372036854775808) 73 ?_)
      have hh0:hiW p2=0:=Decidable.not_not.1 hc68
      have hl:=Ys hh0
      intro c73 hc73
      refine iQ 2 ?_
      cases c73
      ·replace hc73:=bf hc73
       refine iQ 3 (jB .eql 22 (.int .u64 (loW (p2))) (.int .u64 9223372036854775808) 79 ?_)
       intro c79 hc79
       refine iQ 1 ?_
       cases c79
       ·replace hc79:=bf hc79
        refine iQ 6 ?_
        let Z47:=zT [(1,.p 1 0),(2,Ia 0),(3,Ba false),(4,.p 4 0),(19,Ba false),(44,Ba false),(64,Ba false)] []
        refine iE 98 Z47 Z46 ?_
        refine iF (Aa rfl (iQ 3 (iE 98 (zT [(86,Ba s)] Z47) Z46 ?_)))
        cases s
        ·refine iF (Ad (Ap (Af (Aa rfl (iQ 3 (jV 22 3 (.int .u64 (loW (p2))) 97 ?_))))))
         intro z97 hz97
         try replace hz97:=hz97.i64 (by omega)
         refine iQ 2 ?_
         let Z48:=zT [(1,.p 1 0),(2,Ia z97),(3,Ba true),(4,.p 4 0),(19,Ba false),(44,Ba false),(64,Ba false),(86,Ba false)] []
         let Z49:=zH [(1,[Bv false,Hw A,Lw A,Iv e]),(4,[Bv false,Hw p2,Lw p2,Iv x2])] []
         refine iE 98 Z48 Z49 ?_
         refine Ab (iS (Iv z97) (Bv true) [] ?_)
         exact ⟨_,_,rfl,fun _=>by rw[hz97,hl];exact ⟨hval,by show inI (p2:Int);unfold inI;omega⟩,fun h=>by cases h⟩
        ·refine iT (Aa rfl (iQ 3 (jU .neg (.int .u64 (loW (p2))) 92 ?_)))
         intro z92 hz92
         try replace hz92:=hz92.u64 (by omega)
         refine jV 22 3 (.int .u64 z92) 93 ?_
         intro z93 hz93
         try replace hz93:=hz93.i64 (by omega)
         refine iQ 2 ?_
         let Z50:=zT [(1,.p 1 0),(2,Ia z93),(3,Ba true),(4,.p 4 0),(19,Ba false),(44,Ba false),(64,Ba false),(86,Ba true)] []
         let Z51:=zH [(1,[Bv true,Hw A,Lw A,Iv e]),(4,[Bv true,Hw p2,Lw p2,Iv x2])] []
         refine iE 98 Z50 Z51 ?_
         refine Ab (Ai (Ag (iS (Iv z93) (Bv true) [] ?_)))
         exact ⟨_,_,rfl,fun _=>by rw[Fu hz92 hz93 hlo.1 (by omega),hl];exact ⟨hval,by unfold inI;omega⟩,fun h=>by cases h⟩
       ·replace hc79:=bt hc79
        refine iQ 2 (jU .not (.bool s) 83 ?_)
        intro c83 hc83
        refine iQ 3 ?_
        let Z52:=zT [(1,.p 1 0),(2,Ia 0),(3,Ba false),(4,.p 4 0),(19,Ba false),(44,Ba false),(64,Ba c83)] []
        let Z53:=zH [(1,[Bv s,Hw A,Lw A,Iv e]),(4,[Bv s,Hw p2,Lw p2,Iv x2])] []
        refine iE 98 Z52 Z53 ?_
        cases c83
        ·replace hc83:=bf hc83
         refine iF (Aa rfl (iQ 3 ?_))
         let Z54:=zT [(1,.p 1 0),(2,Ia 0),(3,Ba false),(4,.p 4 0),(19,Ba false),(44,Ba false),(64,Ba false),(86,Ba s)] []
         refine iE 98 Z54 Z53 ?_
         cases s
         ·exfalso;simp at hc83
          skip
         ·refine iT (Aa rfl (iQ 3 (jU .neg (.int .u64 (loW (p2))) 92 ?_)))
          intro z92 hz92
          try replace hz92:=hz92.u64 (by omega)
          refine jV 22 3 (.int .u64 z92) 93 ?_
          intro z93 hz93
          try replace hz93:=hz93.i64 (by omega)
          refine iQ 2 ?_
          let Z55:=zT [(1,.p 1 0),(2,Ia z93),(3,Ba true),(4,.p 4 0),(19,Ba false),(44,Ba false),(64,Ba false),(86,Ba true)] []
          let Z56:=zH [(1,[Bv true,Hw A,Lw A,Iv e]),(4,[Bv true,Hw p2,Lw p2,Iv x2])] []
          refine iE 98 Z55 Z56 ?_
          refine Ab (Ai (Ag (iS (Iv z93) (Bv true) [] ?_)))
          exact ⟨_,_,rfl,fun _=>by rw[Fu hz92 hz93 hlo.1 (by omega),hl];exact ⟨hval,by unfold inI;omega⟩,fun h=>by cases h⟩
        ·replace hc83:=bt hc83
         refine iT (Aa rfl (iQ 2 ?_))
         let Z57:=zT [(1,.p 1 0),(2,Ia 0),(3,Ba false),(4,.p 4 0),(19,Ba false),(44,Ba false),(64,Ba true)] []
         let Z58:=zH [(1,[Bv s,Hw A,Lw A,Iv e]),(4,[Bv s,Hw p2,Lw p2,Iv x2])] []
         refine iE 98 Z57 Z58 ?_
         refine Ab (Ai (Ag (iS (Iv 0) (Bv false) [] ?_)))
         exact ⟨_,_,rfl,fun h=>(by cases h),fun _=>⟨rfl,fun v hv hin=>by rw[Fb hv hval] at hin;have:=Dy hin;rw[hc83] at this;have:=this.2 rfl;omega⟩⟩
      ·replace hc73:=bt hc73
       refine iQ 11 ?_
       let Z59:=zT [(1,.p 1 0),(2,Ia 0),(3,Ba false),(4,.p 4 0),(19,Ba false),(44,Ba false),(64,Ba true)] []
       let Z60:=zH [(1,[Bv s,Hw A,Lw A,Iv e]),(4,[Bv s,Hw p2,Lw p2,Iv x2])] []
       refine iE 98 Z59 Z60 ?_
       refine iT (Aa rfl (iQ 2 (iE 98 Z59 Z60 ?_)))
       refine Ab (Ai (Ag (iS (Iv 0) (Bv false) [] ?_)))
       exact ⟨_,_,rfl,fun h=>(by cases h),fun _=>⟨rfl,fun v hv hin=>by rw[Fb hv hval] at hin;have:=(Dy hin).1;omega⟩⟩
     ·replace hc68:=bt hc68
      refine iQ 17 ?_
      let Z61:=zT [(1,.p 1 0),(2,Ia 0),(3,Ba false),(4,.p 4 0),(19,Ba false),(44,Ba false),(64,Ba true)] []
      let Z62:=zH [(1,[Bv s,Hw A,Lw A,Iv e]),(4,[Bv s,Hw p2,Lw p2,Iv x2])] []
      refine iE 98 Z61 Z62 ?_
      refine iT (Aa rfl (iQ 2 (iE 98 Z61 Z62 ?_)))
      refine Ab (Ai (Ag (iS (Iv 0) (Bv false) [] ?_)))
      exact ⟨_,_,rfl,fun h=>(by cases h),fun _=>⟨rfl,fun v hv hin=>by rw[Fb hv hval] at hin;have:=(Dy hin).1;have:=Jf.1 hc68;omega⟩⟩
    ·replace hc43:=bt hc43
     have hp20:p2≠0:=fun h=>by rw[hzz.2 h] at hc43;cases hc43
     refine iT (Ad (Af (Ak (Aa rfl (iQ 2 (eC 86 [.agg [Hw p2,Lw p2],Uv 10] 48 (Dt (n:=10) hb2 (by decide)) (iQ 6 ?_)))))))
     let Z63:=zT [(1,.p 1 0),(2,Ia 0),(3,Ba false),(4,.p 4 0),(9,.d (Uv (((p2*10 / B128:Nat):Int)))),(10,.p 10 0),(19,Ba false),(44,Ba true)] []
     let Z64:=zH [(10,[Hw (p2*10 % B128),Lw (p2*10 % B128)])] []
     let Z65:=zH [(1,[Bv s,Hw A,Lw A,Iv e]),(4,[Bv s,Hw p2,Lw p2,Iv x2])] []
     refine iE 98 Z63 (zH Z65 Z64) ?_
     refine Ae (Aa rfl (iQ 1 (jB .neq 22 (.int .u64 (((p2*10 / B128:Nat):Int))) (.int .u64 0) 52 ?_)))
     intro c52 hc52
     refine iQ 1 ?_
     cases c52
     ·replace hc52:=bf hc52
      refine iQ 2 (jB .neq 22 (.int .u64 (hiW (p2*10 % B128))) (.int .u64 0) 56 ?_)
      have hq0:p2*10 / B128=0:=by omega
      have hqm:p2*10 % B128=p2*10:=Nat.mod_eq_of_lt (a4e hq0)
      intro c56 hc56
      refine iQ 1 (iE 98 (zT [(57,Ba c56)] Z63) (zH Z65 Z64) ?_)
      cases c56
      ·replace hc56:=bf hc56
       have hsm:p2*10<18446744073709551616:=by rw[hqm] at hc56;have := @Jf (p2*10);omega
       refine iF (Ad (Af (Am rfl (iQ 3 (jB .sub 3 (.int .i64 x2) (.int .i64 1) 61 ?_)))))
       intro z61 hz61
       try replace hz61:=hz61.i64 (by omega)
       refine iQ 4 ?_
       let Z66:=zH [(4,[Bv s,Hw (p2*10 % B128),Lw (p2*10 % B128),Iv z61])] []
       refine iE 98 (zT [(57,Ba false)] Z63) (zH [(1,[Bv s,Hw A,Lw A,Iv e])] (zH Z66 Z64)) ?_
       refine Ap ?_
       refine Bm (i+1,p2*10 % B128,z61) (⟨hinv.a,hinv.z,by rw[hqm,hinv.p,Nat.pow_succ,Nat.mul_assoc],by have:=hinv.x;omega,.inr (by omega),Az _⟩) (by show z61.toNat<x2.toNat;omega) (by kernel_rfl) (by kernel_rfl)
      ·replace hc56:=bt hc56
       refine iT (Aa rfl (iQ 2 (iE 98 (zT [(57,Ba true)] Z63) (zH Z65 Z64) ?_)))
       refine Ab (Ag (Ai (Db (Ai (Ag (iS (Iv 0) (Bv false) [] ?_))))))
       exact ⟨_,_,rfl,fun h=>(by cases h),fun _=>⟨rfl,fun v hv=>hinv.over hc39 hp20 (by rw[hqm] at hc56;exact Jf.1 hc56) hv⟩⟩
     ·replace hc52:=bt hc52
      refine iQ 4 (iE 98 (zT [(57,Ba true)] Z63) (zH Z65 Z64) ?_)
      refine iT (Aa rfl (iQ 2 (iE 98 (zT [(57,Ba true)] Z63) (zH Z65 Z64) ?_)))
      refine Ab (Ag (Ai (Db (Ai (Ag (iS (Iv 0) (Bv false) [] ?_))))))
      exact ⟨_,_,rfl,fun h=>(by cases h),fun _=>⟨rfl,fun v hv=>hinv.over hc39 hp20 (by have hq:p2*10 / B128≠0:=(by omega);exact a3m hq) hv⟩⟩
  ·replace hc18:=bt hc18
   refine iT (Ad (Af (Ak (Aa rfl (iQ 3 (eC 64 [.agg [Uv 0,Uv 0],.agg [Hw p,Lw p],Uv 10] 24 (Ga i4) (iQ 11 ?_)))))))
   let Z67:=zT [(1,.p 1 0),(2,Ia 0),(3,Ba false),(4,.p 4 0),(6,.p 6 0),(7,.d (Uv (((p % 10:Nat):Int)))),(19,Ba true)] []
   let Z68:=zH [(1,[Bv s,Hw A,Lw A,Iv e]),(4,[Bv s,Hw p,Lw p,Iv x]),(6,[Hw (p / 10),Lw (p / 10)])] []
   refine iE 98 Z67 Z68 ?_
   refine Ae (Aa rfl (iQ 1 (jB .neq 22 (.int .u64 (((p % 10:Nat):Int))) (.int .u64 0) 30 ?_)))
   intro c30 hc30
   refine iE 98 (zT [(30,Ba c30)] Z67) Z68 ?_
   cases c30
   ·replace hc30:=bf hc30
    have hp10:p % 10=0:=by omega
    refine iF (Ad (Af (Am rfl (iQ 3 (jB .add 3 (.int .i64 x) (.int .i64 1) 34 ?_)))))
    intro z34 hz34
    try replace hz34:=hz34.i64 (by omega)
    refine iQ 4 ?_
    let Z69:=zH [(1,[Bv s,Hw A,Lw A,Iv e]),(4,[Bv s,Hw (p / 10),Lw (p / 10),Iv z34]),(6,[Hw (p / 10),Lw (p / 10)])] []
    refine iE 98 (zT [(30,Ba false)] Z67) Z69 ?_
    refine Ap ?_
    refine Bm (j+1,p / 10,z34) (⟨by rw[Nat.pow_succ,Nat.mul_comm (10 ^ j),← Nat.mul_assoc,show p / 10*10=p by omega];exact i1,by omega,.inr (by omega),by omega⟩) (by show (0-z34).toNat<(0-x).toNat;omega) (by kernel_rfl) (by kernel_rfl)
   ·replace hc30:=bt hc30
    have hp10:p % 10≠0:=by omega
    refine iT (Aa rfl (iQ 2 (iE 98 (zT [(30,Ba true)] Z67) Z68 ?_)))
    refine Ab (Ag (Ai (Db (Ai (Ag (iS (Iv 0) (Bv false) [] ?_))))))
    exact ⟨_,_,rfl,fun h=>(by cases h),fun _=>⟨rfl,fun v hv=>(b4x i1 (by omega) hp10 hv).elim⟩⟩
end Go.Proofs.YtdkgnmiiibpnnaaGreatDoor
