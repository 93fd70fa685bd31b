/- The contracts of math/bits.Len64, LeadingZeros64 and Div64 over this program. -/
import Derived.Test.YtfkfpkhgoijfdaaGreatDoorWide2
import Derived.Test.YtfkfpkhgoijfdaaGreatDoorLen64
import Derived.BigQuiet
import Derived.Deep.QuietTactic
import Derived.Deep.DeepCutAuto
import Derived.Deep.CutBlock
namespace Go.Proofs.YtfkfpkhgoijfdaaGreatDoor
open Go.RowKit
theorem Lc (x:Int) (w:World) (h0:0≤x) (h1:x≤18446744073709551615) :
  Calls Tryz.prog 129 #[.int .u64 x] w fun e w'=>e=.returned (.int .i64 (64-(Lib.bitLen x.toNat:Int)))∧w=w':=by
 have l:=Lib.bitLen_le x.toNat 64 (by omega) (by omega)
 go_enter Tryz.func129,Tryz.ntmps129
 go_wp2_with fail
 refine (a1o x _ h0 h1).mono ?_
 rintro e w1 ⟨rfl,rfl⟩
 go_wp2_with fail
 go_ret
 exact ⟨rfl,rfl⟩
theorem Vy {l y:Int} {m d:Nat} (hl:IsW l m) (hy:IsW y d) (hd:0<d) (w:World) :
  Calls Tryz.prog 101 #[.int .u64 0,.int .u64 l,.int .u64 y] w fun e w' => ∃ q r:Int,e=.returned (.tuple #[.int .u64 q,.int .u64 r])∧IsW q (m / d)∧IsW r (m % d)∧Below w.heap.size w w':=by
 obtain ⟨a1,a2,a3⟩:=hl
 obtain ⟨b1,b2,b3⟩:=hy
 have h1 : ¬ y≤0:=by omega
 have h2:1≤y:=by omega
 have h0:(y==0)=false:=by rw[beq_eq_false_iff_ne];omega
 have A3:=Lib.hid a3;have B3:=Lib.hid b3;clear a3 b3 hd
 go_enter Tryz.func101,Tryz.ntmps101
 go_wp2_with fail
 go_quiet (fail)
 go_wp2_with fail
 go_returns
 have a3:=A3.out;have b3:=B3.out
 refine ⟨_,_,rfl,?_,?_,below_drewN (Below.refl _ _) _⟩
 ·have e:l / y=((m / d:Nat):Int):=by rw[a3,b3];rfl
  have h:=Nat.div_le_self m d
  rw[e];exact IsW.ofNat _ (by omega)
 ·have e:l % y=((m % d:Nat):Int):=by rw[a3,b3];rfl
  have h:=Nat.mod_le m d
  rw[e];exact IsW.ofNat _ (by omega)
structure KInv (y u d q r:Nat):Prop where
 eq:q*(y / 4294967296)+r=u
 lo:(u*4294967296+d) / y≤q
 hi:q≤4294967297
 rl:r<4294967296
theorem Nq {y u q r:Nat} (h:q*(y / 4294967296)+r=u):q*y+r*4294967296=u*4294967296+q*(y % 4294967296):=by
 have e:q*y=q*(y / 4294967296)*4294967296+q*(y % 4294967296):=by
  rw[Nat.mul_assoc,← Nat.mul_add,Nat.div_add_mod' y]
 rw[e]
 generalize q*(y / 4294967296)=t at *
 generalize q*(y % 4294967296)=s at *
 omega
theorem KInv.start {y u d:Nat} (hy:9223372036854775808≤y) (hy2:y<18446744073709551616) (hu:u<y) (hd:d<4294967296):KInv y u d (u / (y / 4294967296)) (u % (y / 4294967296)):=by
 have p1:2147483648≤y / 4294967296:=by omega
 have p2:y / 4294967296<4294967296:=by omega
 have hr:=Nat.mod_lt u (show 0<y / 4294967296 by omega)
 have he:u / (y / 4294967296)*(y / 4294967296)+u % (y / 4294967296)=u:=Nat.div_add_mod' u _
 have hm:=Nq he
 refine ⟨he,?_,?_,by omega⟩
 ·
  rw[← Nat.lt_add_one_iff,Nat.div_lt_iff_lt_mul (by omega),Nat.add_mul]
  have hq0:0≤u / (y / 4294967296)*(y % 4294967296):=Nat.zero_le _
  have e1:(u / (y / 4294967296))*y+u % (y / 4294967296)*4294967296=u*4294967296+u / (y / 4294967296)*(y % 4294967296):=hm
  generalize u / (y / 4294967296)*(y % 4294967296)=s at *
  generalize u / (y / 4294967296)*y=t at *
  generalize u % (y / 4294967296)=r at *
  have:(r+1)*4294967296≤y / 4294967296*4294967296:=Nat.mul_le_mul_right _ hr
  omega
 ·rw[← Nat.lt_add_one_iff,Nat.div_lt_iff_lt_mul (by omega)]
  have:4294967298*2147483648≤4294967298*(y / 4294967296):=Nat.mul_le_mul_left _ p1
  omega
theorem KInv.fit {y u d q r:Nat} (h:KInv y u d q r) (hy:0<y) (hle:q*(y % 4294967296)≤r*4294967296+d):q=(u*4294967296+d) / y:=by
 have hm:=Nq h.eq
 refine Nat.le_antisymm ?_ h.lo
 rw[Nat.le_div_iff_mul_le hy]
 omega
theorem b6g {t r u s d B:Nat} (hm:t+r*B=u*B+s) (hc:r*B+d<s):u*B+d<t:=by omega
theorem KInv.next {y u d q r:Nat} (h:KInv y u d q r) (hy:9223372036854775808≤y) (hu:u<y) (hd:d<4294967296) (hc:4294967296≤q∨r*4294967296+d<q*(y % 4294967296)) :
  1≤q∧(q-1)*(y / 4294967296)+(r+y / 4294967296)=u∧(u*4294967296+d) / y≤q-1:=by
 have hm:=Nq h.eq
 have y0:0<y:=by omega
 have hlt:(u*4294967296+d) / y<q:=by
  rcases hc with hc | hc
  ·have h1:(u*4294967296+d) / y<4294967296:=by
    rw[Nat.div_lt_iff_lt_mul y0]
    have:(u+1)*4294967296≤y*4294967296:=Nat.mul_le_mul_right _ hu
    rw[Nat.mul_comm 4294967296 y]
    omega
   exact Nat.lt_of_lt_of_le h1 hc
  ·rw[Nat.div_lt_iff_lt_mul y0]
   exact b6g hm hc
 have h1:1≤q:=Nat.lt_of_le_of_lt (Nat.zero_le _) hlt
 refine ⟨h1,?_,Nat.le_sub_one_of_lt hlt⟩
 obtain ⟨q',rfl⟩ : ∃ q',q=q'+1:=⟨q-1,by omega⟩
 have e:=h.eq
 rw[Nat.add_mul] at e
 simp only[Nat.add_sub_cancel]
 omega
theorem KInv.step {y u d q r:Nat} (h:KInv y u d q r) (hy:9223372036854775808≤y) (hu:u<y) (hd:d<4294967296) (hc:4294967296≤q∨r*4294967296+d<q*(y % 4294967296))
  (hr:r+y / 4294967296<4294967296):KInv y u d (q-1) (r+y / 4294967296):=by
 obtain ⟨a,b,c⟩:=h.next hy hu hd hc
 exact ⟨b,c,by have:=h.hi;omega,hr⟩
theorem KInv.leave {y u d q r:Nat} (h:KInv y u d q r) (hy:9223372036854775808≤y) (hu:u<y) (hd:d<4294967296) (hc:4294967296≤q∨r*4294967296+d<q*(y % 4294967296))
  (hr:4294967296≤r+y / 4294967296):q-1=(u*4294967296+d) / y:=by
 obtain ⟨a,b,c⟩:=h.next hy hu hd hc
 have hm:=Nq b
 refine Nat.le_antisymm ?_ c
 rw[Nat.le_div_iff_mul_le (by omega)]
 have h1:(q-1)*(y % 4294967296)≤4294967296*4294967295:=Nat.mul_le_mul (by have:=h.hi;omega) (by omega)
 omega
theorem b23 {y u d1 d0:Nat} (hy:0<y) :
  (u*18446744073709551616+(d1*4294967296+d0)) / y=(u*4294967296+d1) / y*4294967296+((u*4294967296+d1) % y*4294967296+d0) / y ∧
  (u*18446744073709551616+(d1*4294967296+d0)) % y=((u*4294967296+d1) % y*4294967296+d0) % y:=by
 have e:u*18446744073709551616+(d1*4294967296+d0)=((u*4294967296+d1) % y*4294967296+d0)+y*((u*4294967296+d1) / y*4294967296):=by
  have:=Nat.div_add_mod (u*4294967296+d1) y
  rw[← Nat.mul_assoc]
  generalize y*((u*4294967296+d1) / y)=t at *
  generalize (u*4294967296+d1) % y=r at *
  omega
 rw[e,Nat.add_mul_div_left _ _ hy,Nat.add_mul_mod_self_left]
 exact ⟨by rw[Nat.add_comm],rfl⟩
theorem Tb : ∀ (b x:Nat),x<2 ^ b→b≤64→x≠0→x<2 ^ Lib.bitLen x∧2 ^ Lib.bitLen x≤2*x:=by
 intro b
 induction b with
 | zero=>intro x h _ h0;simp at h;omega
 | succ b ih =>
  intro x h hb h0
  have hx:x<2 ^ 64:=Nat.lt_of_lt_of_le h (Nat.pow_le_pow_right (by decide) hb)
  rw[Lib.bitLen_half x h0 hx,Nat.pow_add,Nat.pow_one]
  by_cases h2:x / 2=0
  ·rw[h2,show Lib.bitLen 0=0 from by decide]
   omega
  ·obtain ⟨a1,a2⟩:=ih (x / 2) (by rw[Nat.pow_succ] at h;omega) (by omega) h2
   generalize 2 ^ Lib.bitLen (x / 2)=p at *
   omega
structure DSet (d n m P:Nat) (Y y1 y0 U u1 u0:Int) (YN UN D1 D0:Nat):Prop where
 iY:IsW Y YN
 i1:IsW y1 (YN / 4294967296)
 i0:IsW y0 (YN % 4294967296)
 iU:IsW U UN
 iu1:IsW u1 D1
 iu0:IsW u0 D0
 top:9223372036854775808≤YN
 d1:D1<4294967296
 d0:D0<4294967296
 lt:UN<YN
 eY:YN=d*P
 eT:(n*18446744073709551616+m)*P=UN*18446744073709551616+(D1*4294967296+D0)
 pP:0<P
theorem dset {h l y c:Int} {n m d:Nat} (hh:IsW h n) (hl:IsW l m) (hy:IsW y d) (hd:n<d) (hc:c=64-(Lib.bitLen y.toNat:Int)) :
  DSet d n m (2 ^ c.toNat) (IntKind.u64.wrap (y*2 ^ c.toNat)) (IntKind.u64.wrap (y*2 ^ c.toNat) / 4294967296) (bits BinOp.and IntKind.u64 (IntKind.u64.wrap (y*2 ^ c.toNat)) 4294967295)
   (bits BinOp.or IntKind.u64 (IntKind.u64.wrap (h*2 ^ c.toNat)) (l / 2 ^ (64-c).toNat)) (IntKind.u64.wrap (l*2 ^ c.toNat) / 4294967296) (bits BinOp.and IntKind.u64 (IntKind.u64.wrap (l*2 ^ c.toNat)) 4294967295)
   (d*2 ^ c.toNat) (n*2 ^ c.toNat+m / 2 ^ (64-c).toNat) (m*2 ^ c.toNat % 18446744073709551616 / 4294967296) (m*2 ^ c.toNat % 18446744073709551616 % 4294967296):=by
 have n1:=hh.lt;have m1:=hl.lt;have d1:=hy.lt
 obtain ⟨_,_,rfl⟩:=hh
 obtain ⟨_,_,rfl⟩:=hl
 obtain ⟨_,_,rfl⟩:=hy
 rw[Int.toNat_natCast] at hc
 obtain ⟨q1,q2⟩:=Tb 64 d d1 (by omega) (by omega)
 have q3:=Lib.bitLen_le d 64 (by omega) d1
 have hb0:0<Lib.bitLen d:=by
  rcases Nat.eq_zero_or_pos (Lib.bitLen d) with h | h
  ·rw[h] at q1;simp at q1;omega
  ·exact h
 have e1:c.toNat=64-Lib.bitLen d:=by omega
 have e2:(64-c).toNat=Lib.bitLen d:=by omega
 rw[e1,e2]
 have ep:2 ^ Lib.bitLen d*2 ^ (64-Lib.bitLen d)=18446744073709551616:=by rw[← Nat.pow_add,Nat.add_sub_cancel' q3]
 have eh:((2:Int) ^ (64-Lib.bitLen d))=((2 ^ (64-Lib.bitLen d):Nat):Int):=by rw[Int.natCast_pow];rfl
 have eb:((2:Int) ^ Lib.bitLen d)=((2 ^ Lib.bitLen d:Nat):Int):=by rw[Int.natCast_pow];rfl
 have pP:0<2 ^ (64-Lib.bitLen d):=Nat.two_pow_pos _
 have pB:0<2 ^ Lib.bitLen d:=Nat.two_pow_pos _
 rw[eh,eb,← Int.natCast_mul,← Int.natCast_mul,← Int.natCast_mul,← Int.natCast_ediv,Mul64.wrapM,Mul64.wrapM,Mul64.wrapM]
 have f1:d*2 ^ (64-Lib.bitLen d)<18446744073709551616:=by
  rw[← ep];exact Nat.mul_lt_mul_of_pos_right q1 pP
 have f2:18446744073709551616≤2*(d*2 ^ (64-Lib.bitLen d)):=by
  rw[← ep,← Nat.mul_assoc];exact Nat.mul_le_mul_right _ q2
 have f3:(n+1)*2 ^ (64-Lib.bitLen d)≤d*2 ^ (64-Lib.bitLen d):=Nat.mul_le_mul_right _ hd
 rw[Nat.add_mul,Nat.one_mul] at f3
 have f4:m / 2 ^ Lib.bitLen d<2 ^ (64-Lib.bitLen d):=by
  rw[Nat.div_lt_iff_lt_mul pB,Nat.mul_comm,ep];exact m1
 have f5:m*2 ^ (64-Lib.bitLen d) / 18446744073709551616=m / 2 ^ Lib.bitLen d:=by
  rw[← ep,Nat.mul_div_mul_right _ _ pP]
 have f6:n*2 ^ (64-Lib.bitLen d) % 2 ^ (64-Lib.bitLen d)=0:=Nat.mul_mod_left _ _
 have f7:=Nat.div_add_mod (m*2 ^ (64-Lib.bitLen d)) 18446744073709551616
 rw[f5] at f7
 have f8:=Nat.add_mul (n*18446744073709551616) m (2 ^ (64-Lib.bitLen d))
 have f9:n*18446744073709551616*2 ^ (64-Lib.bitLen d)=n*2 ^ (64-Lib.bitLen d)*18446744073709551616:=Nat.mul_right_comm _ _ _
 have g1:bits BinOp.or IntKind.u64 ((n*2 ^ (64-Lib.bitLen d) % 18446744073709551616:Nat):Int) ((m / 2 ^ Lib.bitLen d:Nat):Int)=((n*2 ^ (64-Lib.bitLen d)+m / 2 ^ Lib.bitLen d:Nat):Int):=by
  rw[Nat.mod_eq_of_lt (by omega),u64_or_nat _ _ (by omega) (by omega),nat_join (64-Lib.bitLen d) _ _ f6 f4]
 rw[g1,Mul64.maskN _ (Nat.mod_lt _ (by decide)),Mul64.maskN _ (Nat.mod_lt _ (by decide)),Nat.mod_eq_of_lt f1,Mul64.divN,Mul64.divN]
 refine ⟨IsW.ofNat _ f1,IsW.ofNat _ ?_,IsW.ofNat _ ?_,IsW.ofNat _ ?_,IsW.ofNat _ ?_,IsW.ofNat _ ?_,by omega,?_,Nat.mod_lt _ (by decide),by omega,rfl,?_,pP⟩
 ·omega
 ·omega
 ·omega
 ·omega
 ·omega
 ·omega
 ·rw[f8,f9]
  omega
theorem b8s {q y0:Int} {Q YN:Nat} (hq:IsW q Q) (hy:IsW y0 (YN % 4294967296)) (hi:Q≤4294967297):IntKind.u64.wrap (q*y0)=((Q*(YN % 4294967296):Nat):Int):=by
 rw[hq.eq,hy.eq,Mul64.mulN]
 refine Mul64.wrapN _ ?_
 have:Q*(YN % 4294967296)≤4294967297*4294967295:=Nat.mul_le_mul hi (by omega)
 omega
theorem b3s {U y1:Int} {UN YN D:Nat} (iU:IsW U UN) (i1:IsW y1 (YN / 4294967296)) (top:9223372036854775808≤YN) (ty:YN<18446744073709551616) (lt:UN<YN) (hD:D<4294967296) :
  IsW (U / y1) (UN / (YN / 4294967296))∧IsW (IntKind.u64.wrap (U-IntKind.u64.wrap (U / y1*y1))) (UN % (YN / 4294967296))∧KInv YN UN D (UN / (YN / 4294967296)) (UN % (YN / 4294967296)):=by
 have u1:=iU.lt
 have e1:U / y1=((UN / (YN / 4294967296):Nat):Int):=by rw[iU.eq,i1.eq];rfl
 have e2:U / y1*y1=((UN / (YN / 4294967296)*(YN / 4294967296):Nat):Int):=by rw[e1,i1.eq];exact (Int.natCast_mul _ _).symm
 have h1:=Nat.div_add_mod' UN (YN / 4294967296)
 have h2:=Nat.div_le_self UN (YN / 4294967296)
 have h3:IntKind.u64.wrap (U-IntKind.u64.wrap (U / y1*y1))=((UN % (YN / 4294967296):Nat):Int):=by
  rw[e2,iU.eq,IntKind.wrap_u64,IntKind.wrap_u64]
  omega
 rw[h3]
 refine ⟨by rw[e1];exact IsW.ofNat _ (Nat.lt_of_le_of_lt h2 u1),IsW.ofNat _ ?_,KInv.start top ty lt hD⟩
 exact Nat.lt_of_le_of_lt (Nat.mod_le _ _) u1
theorem b0k {U u1 q1 Y:Int} {UN D1 YN:Nat} (iU:IsW U UN) (iu1:IsW u1 D1) (iq1:IsW q1 ((UN*4294967296+D1) / YN)) (iY:IsW Y YN) (top:9223372036854775808≤YN) (_lt:UN<YN) (_hD:D1<4294967296) :
  IsW (IntKind.u64.wrap (IntKind.u64.wrap (IntKind.u64.wrap (U*4294967296)+u1)-IntKind.u64.wrap (q1*Y))) ((UN*4294967296+D1) % YN):=by
 have h1:=Nat.div_add_mod' (UN*4294967296+D1) YN
 have h2:=Nat.mod_lt (UN*4294967296+D1) (show 0<YN by omega)
 have h3:=iY.lt
 have e:q1*Y=(((UN*4294967296+D1) / YN*YN:Nat):Int):=by rw[iq1.eq,iY.eq];exact (Int.natCast_mul _ _).symm
 have h4:IntKind.u64.wrap (IntKind.u64.wrap (IntKind.u64.wrap (U*4294967296)+u1)-IntKind.u64.wrap (q1*Y))=(((UN*4294967296+D1) % YN:Nat):Int):=by
  rw[e,iU.eq,iu1.eq]
  simp only[IntKind.wrap_u64]
  omega
 rw[h4]
 exact IsW.ofNat _ (by omega)
theorem b24 {q1 q0:Int} {Q1 Q0 X:Nat} (h1:IsW q1 Q1) (h0:IsW q0 Q0) (e:X=Q1*4294967296+Q0) (hX:X<18446744073709551616):IsW (IntKind.u64.wrap (IntKind.u64.wrap (q1*4294967296)+q0)) X:=by
 have a:=h1.eq
 have b:=h0.eq
 simp only[IntKind.wrap_u64]
 exact ⟨by omega,by omega,by omega⟩
theorem b25 {Y y1 y0 U u1 u0 q1 q0 V c:Int} {d n m YN UN D1 D0 U2:Nat} (s:DSet d n m (2 ^ c.toNat) Y y1 y0 U u1 u0 YN UN D1 D0) (hN:(n*18446744073709551616+m) / d<18446744073709551616) (hd:0<d) (dl:d<18446744073709551616)
  (iq1:IsW q1 ((UN*4294967296+D1) / YN)) (e2:U2=(UN*4294967296+D1) % YN) (iV:IsW V U2) (iq0:IsW q0 ((U2*4294967296+D0) / YN)) :
  IsW (IntKind.u64.wrap (IntKind.u64.wrap (q1*4294967296)+q0)) ((n*18446744073709551616+m) / d) ∧
  IsW (IntKind.u64.wrap (IntKind.u64.wrap (IntKind.u64.wrap (V*4294967296)+u0)-IntKind.u64.wrap (q0*Y)) / 2 ^ c.toNat) ((n*18446744073709551616+m) % d):=by
 have y0:0<YN:=by have:=s.top;omega
 obtain ⟨a1,a2⟩:=b23 (u:=UN) (d1:=D1) (d0:=D0) y0
 rw[← s.eT,← e2] at a1 a2
 have ea1:(n*18446744073709551616+m)*2 ^ c.toNat / YN=(n*18446744073709551616+m) / d:=by
  rw[s.eY,Nat.mul_div_mul_right _ _ s.pP]
 have ea2:(n*18446744073709551616+m)*2 ^ c.toNat % YN=(n*18446744073709551616+m) % d*2 ^ c.toNat:=by
  rw[s.eY,Nat.mul_mod_mul_right]
 rw[ea1] at a1
 rw[ea2] at a2
 have hU2:U2<YN:=by rw[e2];exact Nat.mod_lt _ y0
 have hr:=b0k iV s.iu0 iq0 s.iY s.top hU2 s.d0
 rw[← a2] at hr
 constructor
 ·exact b24 iq1 iq0 a1 hN
 ·rw[hr.eq]
  have ep:((2:Int) ^ c.toNat)=((2 ^ c.toNat:Nat):Int):=by rw[Int.natCast_pow];rfl
  rw[ep,← Int.natCast_ediv,Nat.mul_div_cancel _ s.pP]
  exact IsW.ofNat _ (Nat.lt_trans (Nat.mod_lt _ hd) dl)
theorem b5i {n m d:Nat} (hd:n<d) (hm:m<18446744073709551616):(n*18446744073709551616+m) / d<18446744073709551616:=by
 rw[Nat.div_lt_iff_lt_mul (by omega)]
 have:(n+1)*18446744073709551616≤d*18446744073709551616:=Nat.mul_le_mul_right _ hd
 rw[Nat.mul_comm 18446744073709551616 d]
 omega
set_option maxHeartbeats 1000000 in
set_option maxRecDepth 100000 in
theorem Wh {h l y:Int} {n m d:Nat} (hh:IsW h n) (hl:IsW l m) (hy:IsW y d) (hn:0<n) (hd:n<d) (w:World) :
  Calls Tryz.prog 101 #[.int .u64 h,.int .u64 l,.int .u64 y] w fun e w' => ∃ q r:Int,e=.returned (.tuple #[.int .u64 q,.int .u64 r])∧IsW q ((n*18446744073709551616+m) / d)∧IsW r ((n*18446744073709551616+m) % d)∧Below w.heap.size w w':=by
 obtain ⟨c,hc⟩ : ∃ c:Int,c=64-(Lib.bitLen y.toNat:Int):=⟨_,rfl⟩
 have ds:=dset hh hl hy hd hc
 have QL:=Lib.hid (b5i hd hl.lt)
 have dl:=Lib.hid hy.lt
 have d0:=Lib.hid (show 0<d by omega)
 obtain ⟨a1,a2,a3⟩:=hh
 obtain ⟨l1,l2,l3⟩:=hl
 obtain ⟨b1,b2,b3⟩:=hy
 have c0:0≤c:=by have:=Lib.bitLen_le y.toNat 64 (by omega) (by omega);omega
 have c1:c≤63:=by
  have q:=Tb 64 y.toNat (by omega) (by omega) (by omega)
  rcases Nat.eq_zero_or_pos (Lib.bitLen y.toNat) with h | h
  ·rw[h] at q;simp at q;omega
  ·omega
 have h1 : ¬ y≤h:=by omega
 have h2:1≤y:=by omega
 have h3:(h==0)=false:=by rw[beq_eq_false_iff_ne];omega
 have h0:(y==0)=false:=by rw[beq_eq_false_iff_ne];omega
 have HC:=Lib.hid hc
 clear hd hn a3 b3 l3
 go_enter Tryz.func101,Tryz.ntmps101
 go_wp2_with fail
 refine (Lc y _ b1 (by omega)).mono ?_
 rintro e w1 ⟨rfl,rfl⟩
 rw[← hc]
 clear hc
 go_upto_region 14 with fail
 go_cut [2,9,10,11,12,13,14] (fun s2 s9 s10 s11 _ s13 s14 wx => ∃ (Y y1 y0 U u1 u0:Int) (YN UN D1 D0:Nat),s2=.int .u64 Y∧s9=.int .u64 y1∧s10=.int .u64 y0∧s11=.int .u64 U∧s13=.int .u64 u1∧s14=.int .u64 u0∧DSet d n m (2 ^ c.toNat) Y y1 y0 U u1 u0 YN UN D1 D0∧w=wx)
 case first =>
  go_wp2_with fail
  go_meet
  exact ⟨_,_,_,_,_,_,_,_,_,_,rfl,rfl,rfl,rfl,rfl,rfl,ds,rfl⟩
 case rest =>
 obtain ⟨Y,y1,y0,U,u1,u0,YN,UN,D1,D0,rfl,rfl,rfl,rfl,rfl,rfl,ds',rfl⟩:=hcut
 clear ds h0 h1 h2 h3 a1 a2 b1 b2 l1 l2
 have i1:=ds'.i1.c0
 have i2:1≤y1:=by have:=ds'.i1.eq;have:=ds'.top;omega
 have i3:=ds'.iU.c0
 have i4:=ds'.iU.c1
 have i7:y1<4294967296:=by have:=ds'.i1.eq;have:=ds'.iY.lt;omega
 have lt:=ds'.lt
 have hD:=ds'.d1
 have iD:=ds'.iu1
 go_upto_block 0 with fail
 go_cut [15,16] (fun s15 _ wx => ∃ q:Int,s15=.int .u64 q∧IsW q ((UN*4294967296+D1) / YN)∧w=wx)
 case first =>
  have j1:=Lib.hid (b3s ds'.iU ds'.i1 ds'.top ds'.iY.lt ds'.lt ds'.d1)
  have i5:0≤u1:=by have:=iD.c0;omega
  have i6:u1<4294967296:=by have:=iD.eq;omega
  go_wp2_with fail
  go_loop [15,16] (fun s15 s16 => ∃ (q r:Int) (Q R:Nat),s15=.int .u64 q∧s16=.int .u64 r∧IsW q Q∧IsW r R∧KInv YN UN D1 Q R) (fun s15 _=>(intOf s15).toNat)
  case atStart=>exact ⟨_,_,_,_,rfl,rfl,j1.out.1,j1.out.2.1,j1.out.2.2⟩
  case round =>
   clear j1
   obtain ⟨q,r,Q,R,rfl,rfl,iq,ir,kinv⟩:=hrel
   have g1:=iq.c0
   have g2:q≤4294967297:=by have:=iq.eq;have:=kinv.hi;omega
   have g3:=ir.c0
   have g4:r<4294967296:=by have:=ir.eq;have:=kinv.rl;omega
   have hmul:=Lib.hid (b8s iq ds'.i0 kinv.hi)
   by_cases kc:(4294967296≤Q∨R*4294967296+D1<Q*(YN % 4294967296))
   ·obtain ⟨n1,n2,n3⟩:=kinv.next ds'.top lt hD kc
    have g5:1≤q:=by have:=iq.eq;omega
    have N2:=Lib.hid n2;have N3:=Lib.hid n3;clear n1 n2 n3
    by_cases kr:4294967296≤r+y1
    ·have fin:=Lib.hid (kinv.leave ds'.top lt hD kc (by have:=ir.eq;have:=ds'.i1.eq;omega))
     have fq:IsW (q-1) (Q-1):=⟨by omega,by omega,by have:=iq.eq;omega⟩
     by_cases k1:4294967296≤q
     ·clear kc
      go_wp2_with fail
      go_meet
      exact ⟨_,rfl,fq.cast fin.out,rfl⟩
     ·have k2:4294967296*r+u1<IntKind.u64.wrap (q*y0):=by
       have h:=hmul.out;have:=ir.eq;have:=iD.eq;have:=iq.eq
       rw[h]
       rcases kc with kc | kc<;>omega
      clear kc
      go_wp2_with fail
      go_meet
      exact ⟨_,rfl,fq.cast fin.out,rfl⟩
    ·have nxt:=Lib.hid (kinv.step ds'.top lt hD kc (by have:=ir.eq;have:=ds'.i1.eq;omega))
     have fq:IsW (q-1) (Q-1):=⟨by omega,by omega,by have:=iq.eq;omega⟩
     have fr:IsW (r+y1) (R+YN / 4294967296):=⟨by omega,by omega,by have:=ir.eq;have:=ds'.i1.eq;omega⟩
     by_cases k1:4294967296≤q
     ·clear kc
      go_wp2_with fail
      go_round
      case rel=>exact ⟨_,_,_,_,rfl,rfl,fq,fr,nxt.out⟩
      case measure=>simp[intOf];omega
     ·have k2:4294967296*r+u1<IntKind.u64.wrap (q*y0):=by
       have h:=hmul.out;have:=ir.eq;have:=iD.eq;have:=iq.eq
       rw[h]
       rcases kc with kc | kc<;>omega
      clear kc
      go_wp2_with fail
      go_round
      case rel=>exact ⟨_,_,_,_,rfl,rfl,fq,fr,nxt.out⟩
      case measure=>simp[intOf];omega
   ·have fin:=Lib.hid (kinv.fit (by have:=ds'.top;omega) (by omega))
    have k1 : ¬ 4294967296≤q:=by have:=iq.eq;omega
    have k2 : ¬ 4294967296*r+u1<IntKind.u64.wrap (q*y0):=by
     have h:=hmul.out;have:=ir.eq;have:=iD.eq;have:=iq.eq
     rw[h];omega
    clear kc
    go_wp2_with fail
    go_meet
    exact ⟨_,rfl,iq.cast fin.out,rfl⟩
 case rest =>
 obtain ⟨q1,rfl,iq1,rfl⟩:=hcut
 go_upto_region 21 with fail
 go_cut [17] (fun s17 wx => ∃ V:Int,s17=.int .u64 V∧IsW V ((UN*4294967296+D1) % YN)∧w=wx)
 case first =>
  have hv:=Lib.hid (b0k ds'.iU ds'.iu1 iq1 ds'.iY ds'.top ds'.lt ds'.d1)
  go_wp2_with fail
  go_meet
  refine ⟨_,rfl,?_,rfl⟩
  have hv:=hv.out
  simp only[IntKind.wrap_u64] at hv ⊢
  exact hv
 case rest =>
 obtain ⟨V,rfl,iU2,rfl⟩:=hcut
 clear lt hD iD i3 i4
 have hR:=Nat.mod_lt (UN*4294967296+D1) (show 0<YN by have:=ds'.top;omega)
 obtain ⟨U2,hU2⟩ : ∃ U2,U2=(UN*4294967296+D1) % YN:=⟨_,rfl⟩
 rw[← hU2] at iU2 hR
 have HU2:=Lib.hid hU2;clear hU2
 have lt:=hR
 have hD:=ds'.d0
 have iD:=ds'.iu0
 have i3:=iU2.c0
 have i4:=iU2.c1
 go_upto_block 2 with fail
 go_cut [18,16] (fun s18 _ wx => ∃ q:Int,s18=.int .u64 q∧IsW q ((U2*4294967296+D0) / YN)∧w=wx)
 case first =>
  have j1:=Lib.hid (b3s iU2 ds'.i1 ds'.top ds'.iY.lt lt hD)
  have i5:0≤u0:=by have:=iD.c0;omega
  have i6:u0<4294967296:=by have:=iD.eq;omega
  go_wp2_with fail
  go_loop [18,16] (fun s18 s16 => ∃ (q r:Int) (Q R:Nat),s18=.int .u64 q∧s16=.int .u64 r∧IsW q Q∧IsW r R∧KInv YN U2 D0 Q R) (fun s18 _=>(intOf s18).toNat)
  case atStart=>exact ⟨_,_,_,_,rfl,rfl,j1.out.1,j1.out.2.1,j1.out.2.2⟩
  case round =>
   clear j1
   obtain ⟨q,r,Q,R,rfl,rfl,iq,ir,kinv⟩:=hrel
   have g1:=iq.c0
   have g2:q≤4294967297:=by have:=iq.eq;have:=kinv.hi;omega
   have g3:=ir.c0
   have g4:r<4294967296:=by have:=ir.eq;have:=kinv.rl;omega
   have hmul:=Lib.hid (b8s iq ds'.i0 kinv.hi)
   by_cases kc:(4294967296≤Q∨R*4294967296+D0<Q*(YN % 4294967296))
   ·obtain ⟨n1,n2,n3⟩:=kinv.next ds'.top lt hD kc
    have g5:1≤q:=by have:=iq.eq;omega
    have N2:=Lib.hid n2;have N3:=Lib.hid n3;clear n1 n2 n3
    by_cases kr:4294967296≤r+y1
    ·have fin:=Lib.hid (kinv.leave ds'.top lt hD kc (by have:=ir.eq;have:=ds'.i1.eq;omega))
     have fq:IsW (q-1) (Q-1):=⟨by omega,by omega,by have:=iq.eq;omega⟩
     by_cases k1:4294967296≤q
     ·clear kc
      go_wp2_with fail
      go_meet
      exact ⟨_,rfl,fq.cast fin.out,rfl⟩
     ·have k2:4294967296*r+u0<IntKind.u64.wrap (q*y0):=by
       have h:=hmul.out;have:=ir.eq;have:=iD.eq;have:=iq.eq
       rw[h]
       rcases kc with kc | kc<;>omega
      clear kc
      go_wp2_with fail
      go_meet
      exact ⟨_,rfl,fq.cast fin.out,rfl⟩
    ·have nxt:=Lib.hid (kinv.step ds'.top lt hD kc (by have:=ir.eq;have:=ds'.i1.eq;omega))
     have fq:IsW (q-1) (Q-1):=⟨by omega,by omega,by have:=iq.eq;omega⟩
     have fr:IsW (r+y1) (R+YN / 4294967296):=⟨by omega,by omega,by have:=ir.eq;have:=ds'.i1.eq;omega⟩
     by_cases k1:4294967296≤q
     ·clear kc
      go_wp2_with fail
      go_round
      case rel=>exact ⟨_,_,_,_,rfl,rfl,fq,fr,nxt.out⟩
      case measure=>simp[intOf];omega
     ·have k2:4294967296*r+u0<IntKind.u64.wrap (q*y0):=by
       have h:=hmul.out;have:=ir.eq;have:=iD.eq;have:=iq.eq
       rw[h]
       rcases kc with kc | kc<;>omega
      clear kc
      go_wp2_with fail
      go_round
      case rel=>exact ⟨_,_,_,_,rfl,rfl,fq,fr,nxt.out⟩
      case measure=>simp[intOf];omega
   ·have fin:=Lib.hid (kinv.fit (by have:=ds'.top;omega) (by omega))
    have k1 : ¬ 4294967296≤q:=by have:=iq.eq;omega
    have k2 : ¬ 4294967296*r+u0<IntKind.u64.wrap (q*y0):=by
     have h:=hmul.out;have:=ir.eq;have:=iD.eq;have:=iq.eq
     rw[h];omega
    clear kc
    go_wp2_with fail
    go_meet
    exact ⟨_,rfl,iq.cast fin.out,rfl⟩
 case rest =>
 obtain ⟨q0,rfl,iq0,rfl⟩:=hcut
 go_wp2_with fail
 go_ret2
 have fin:=b25 ds' QL.out d0.out dl.out iq1 HU2.out iU2 iq0
 simp only[IntKind.wrap_u64] at fin ⊢
 exact ⟨_,_,rfl,fin.1,fin.2,Below.refl _ _⟩
theorem It {h l y:Int} {n m d:Nat} (hh:IsW h n) (hl:IsW l m) (hy:IsW y d) (hd:n<d) (w:World) :
  Calls Tryz.prog 101 #[.int .u64 h,.int .u64 l,.int .u64 y] w fun e w' => ∃ q r:Int,e=.returned (.tuple #[.int .u64 q,.int .u64 r])∧IsW q ((n*18446744073709551616+m) / d)∧IsW r ((n*18446744073709551616+m) % d)∧Below w.heap.size w w':=by
 rcases Nat.eq_zero_or_pos n with h0 | h0
 ·subst h0
  obtain rfl:h=0:=hh.eq
  have:=Vy hl hy (by omega) w
  simpa using this
 ·exact Wh hh hl hy h0 hd w
end Go.Proofs.YtfkfpkhgoijfdaaGreatDoor
