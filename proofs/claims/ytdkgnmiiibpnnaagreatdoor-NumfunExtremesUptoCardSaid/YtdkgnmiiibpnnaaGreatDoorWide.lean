/- The contracts of package wide's sums and products, for all arguments. -/
import Derived.Test.YtdkgnmiiibpnnaaGreatDoorNum
import Derived.Test.YtdkgnmiiibpnnaaGreatDoorBits
import Derived.BigRegion
import Derived.Lib.Hide
namespace Go.Proofs.YtdkgnmiiibpnnaaGreatDoor
open Go.RowKit
set_option maxHeartbeats 400000 in
theorem Nh {a1 a0 b1 b0:Int} {a b:Nat} (ha:IsU a1 a0 a) (hb:IsU b1 b0 b) (w:World) :
  Calls Tryz.prog 93 #[.agg #[.int .u64 a1,.int .u64 a0],.agg #[.int .u64 b1,.int .u64 b0]] w fun e w' =>
   ∃ r1 r0 c:Int,e=.returned (.tuple #[.agg #[.int .u64 r1,.int .u64 r0],.int .u64 c])∧IsU r1 r0 ((a+b) % 340282366920938463463374607431768211456)∧IsW c ((a+b) / 340282366920938463463374607431768211456)∧Below w.heap.size w w':=by
 obtain ⟨p1,p2,p3,p4,p5⟩:=ha
 obtain ⟨q1,q2,q3,q4,q5⟩:=hb
 have P5:=Lib.hid p5;clear p5
 have Q5:=Lib.hid q5;clear q5
 go_enter Tryz.func93,Tryz.ntmps93
 go_wp2_with (simp (disch:=omega) only[Lv])
 refine bodyPost_ret (v := ?_) ?_ rfl ?_
 rotate_left
 ·simp[results,Tryz.results93,go_sem]
  exact rfl
 have p5:=P5.out;have q5:=Q5.out
 refine ⟨_,_,_,rfl,⟨by omega,by omega,by omega,by omega,by omega⟩,⟨by omega,by omega,by omega⟩,?_⟩
 repeat' (first | exact Below.refl _ _ | refine Below.alloc ?_ (by simp;try omega) _ | refine Below.setCell ?_ (by simp;try omega) _)
set_option maxHeartbeats 400000 in
theorem Kc {a1 a0 b1 b0:Int} {a b:Nat} (ha:IsU a1 a0 a) (hb:IsU b1 b0 b) (w:World) :
  Calls Tryz.prog 89 #[.agg #[.int .u64 a1,.int .u64 a0],.agg #[.int .u64 b1,.int .u64 b0]] w fun e w' =>
   ∃ r1 r0 c:Int,e=.returned (.tuple #[.agg #[.int .u64 r1,.int .u64 r0],.int .u64 c])∧IsU r1 r0 ((a+340282366920938463463374607431768211456-b) % 340282366920938463463374607431768211456)∧IsW c (Ft a b)∧Below w.heap.size w w':=by
 obtain ⟨p1,p2,p3,p4,p5⟩:=ha
 obtain ⟨q1,q2,q3,q4,q5⟩:=hb
 have P5:=Lib.hid p5;clear p5
 have Q5:=Lib.hid q5;clear q5
 have l0:=a4i a0 b0 0
 go_enter Tryz.func89,Tryz.ntmps89
 go_wp2_with (simp (disch:=omega) only[a15])
 refine bodyPost_ret (v := ?_) ?_ rfl ?_
 rotate_left
 ·simp[results,Tryz.results89,go_sem]
  exact rfl
 have p5:=P5.out;have q5:=Q5.out
 have l1:=a4i a1 b1 (Rc a0 b0 0)
 have d0:=Zc a0 b0 0
 have d1:=Zc a1 b1 (Rc a0 b0 0)
 have hU:IsU ((a1-b1-Rc a0 b0 0) % 18446744073709551616) ((a0-b0) % 18446744073709551616) ((a+340282366920938463463374607431768211456-b) % 340282366920938463463374607431768211456):=by
  refine ⟨by omega,by omega,by omega,by omega,?_⟩
  split at d0<;>omega
 have hW:IsW (Rc a1 b1 (Rc a0 b0 0)) (Ft a b):=by
  refine ⟨by omega,by omega,?_⟩
  have d2:=Gm a b
  split at d0<;>split at d1<;>split at d2<;>omega
 refine ⟨_,_,_,rfl,hU,hW,?_⟩
 repeat' (first | exact Below.refl _ _ | refine Below.alloc ?_ (by simp;try omega) _ | refine Below.setCell ?_ (by simp;try omega) _)
theorem Sq {x y:Int} {n m:Nat} (hx:IsW x n) (hy:IsW y m) (w:World) :
  Calls Tryz.prog 116 #[.int .u64 x,.int .u64 y] w fun e w' => ∃ h l:Int,e=.returned (.tuple #[.int .u64 h,.int .u64 l])∧IsW h (n*m / 18446744073709551616)∧IsW l (n*m % 18446744073709551616)∧w=w':=by
 obtain ⟨a,b,rfl⟩:=hx
 obtain ⟨c,d,rfl⟩:=hy
 refine (a1u n m (by omega) (by omega) w).mono ?_
 rintro e w1 ⟨rfl,rfl⟩
 have h:n*m / 18446744073709551616<18446744073709551616:=by
  have h1:n*m<18446744073709551616*18446744073709551616:=Nat.mul_lt_mul_of_lt_of_lt (by omega) (by omega)
  omega
 exact ⟨_,_,rfl,⟨by omega,by omega,rfl⟩,⟨by omega,by omega,rfl⟩,rfl⟩
theorem a1r {a n:Nat} {H1 L1 H0 L0:Int} (A1 A0:Nat) (ha:a=A1*18446744073709551616+A0) (h1:A1<18446744073709551616) (h0:A0<18446744073709551616) (hn:n<18446744073709551616)
  (k1:H0=((A0*n / 18446744073709551616:Nat):Int)) (k2:L0=((A0*n % 18446744073709551616:Nat):Int)) (k3:H1=((A1*n / 18446744073709551616:Nat):Int)) (k4:L1=((A1*n % 18446744073709551616:Nat):Int)) :
  IsU ((L1+H0) % 18446744073709551616) L0 (a*n % 340282366920938463463374607431768211456)∧IsW (IntKind.u64.wrap (H1+(L1+H0) / 18446744073709551616)) (a*n / 340282366920938463463374607431768211456):=by
 have m1:A1*n≤18446744073709551615*18446744073709551615:=Nat.mul_le_mul (by omega) (by omega)
 have m0:A0*n≤18446744073709551615*18446744073709551615:=Nat.mul_le_mul (by omega) (by omega)
 have e:a*n=(A1*n)*18446744073709551616+A0*n:=by rw[ha,Nat.add_mul,Nat.mul_right_comm]
 rw[e]
 generalize A1*n=Q at *
 generalize A0*n=P at *
 clear ha e
 rw[IntKind.wrap_u64]
 subst k1 k2 k3 k4
 refine ⟨⟨by omega,by omega,by omega,by omega,by omega⟩,⟨by omega,by omega,by omega⟩⟩
set_option maxHeartbeats 400000 in
theorem Gi {a1 a0 x:Int} {a n:Nat} (ha:IsU a1 a0 a) (hx:IsW x n) (w:World) :
  Calls Tryz.prog 86 #[.agg #[.int .u64 a1,.int .u64 a0],.int .u64 x] w fun e w' =>
   ∃ c r1 r0:Int,e=.returned (.tuple #[.int .u64 c,.agg #[.int .u64 r1,.int .u64 r0]])∧IsU r1 r0 ((a*n) % 340282366920938463463374607431768211456)∧IsW c ((a*n) / 340282366920938463463374607431768211456)∧Below w.heap.size w w':=by
 obtain ⟨A1,A0,e1,e0,p1,p2,P5⟩:=ha.nat
 have E1:=Lib.hid e1
 have E0:=Lib.hid e0
 have P5:=Lib.hid P5
 have c1:IsW a1 A1:=⟨by omega,by omega,e1⟩
 have c0:IsW a0 A0:=⟨by omega,by omega,e0⟩
 clear e1 e0
 go_enter Tryz.func86,Tryz.ntmps86
 go_wp2_with fail
 refine (Sq c0 hx _).mono ?_
 rintro e w1 ⟨h0,l0,rfl,k1,k2,rfl⟩
 go_wp2_with fail
 refine (Sq c1 hx _).mono ?_
 rintro e w1 ⟨h1,l1,rfl,k3,k4,rfl⟩
 obtain ⟨b1,b2,b3⟩:=k1
 obtain ⟨b4,b5,b6⟩:=k2
 obtain ⟨b7,b8,b9⟩:=k3
 obtain ⟨d1,d2,d3⟩:=k4
 have B3:=Lib.hid b3;clear b3
 have B6:=Lib.hid b6;clear b6
 have B9:=Lib.hid b9;clear b9
 have D3:=Lib.hid d3;clear d3
 go_wp2_with (simp (disch:=omega) only[Lv])
 refine bodyPost_ret (v := ?_) ?_ rfl ?_
 rotate_left
 ·simp[results,Tryz.results86,go_sem]
  exact rfl
 have K:=a1r A1 A0 P5.out p1 p2 hx.lt B3.out B6.out B9.out D3.out
 refine ⟨_,_,_,rfl,K.1,K.2,?_⟩
 repeat' (first | exact Below.refl _ _ | refine Below.alloc ?_ (by simp;try omega) _ | refine Below.setCell ?_ (by simp;try omega) _)
theorem b69 {a b:Nat} {o0 m1 l0 o1 g1 g0:Int} (B1 B0:Nat) (hb:b=B1*18446744073709551616+B0) (h1:B1<18446744073709551616) (h0:B0<18446744073709551616) (ha:a<340282366920938463463374607431768211456)
  (k1:IsU m1 l0 (a*B0 % 340282366920938463463374607431768211456)) (k2:IsW o0 (a*B0 / 340282366920938463463374607431768211456)) (k3:IsU g1 g0 (a*B1 % 340282366920938463463374607431768211456)) (k4:IsW o1 (a*B1 / 340282366920938463463374607431768211456)) :
  IsU (IntKind.u64.wrap (o1+(o0+g1+(m1+g0) / 18446744073709551616) / 18446744073709551616)) ((o0+g1+(m1+g0) / 18446744073709551616) % 18446744073709551616) (a*b / 340282366920938463463374607431768211456) ∧
   IsU ((m1+g0) % 18446744073709551616) l0 (a*b % 340282366920938463463374607431768211456):=by
 have q1:a*B1≤340282366920938463463374607431768211455*18446744073709551615:=Nat.mul_le_mul (by omega) (by omega)
 have q0:a*B0≤340282366920938463463374607431768211455*18446744073709551615:=Nat.mul_le_mul (by omega) (by omega)
 have e:a*b=(a*B1)*18446744073709551616+a*B0:=by rw[hb,Nat.mul_add,Nat.mul_assoc]
 rw[e]
 generalize a*B1=Q at *
 generalize a*B0=P at *
 clear hb e ha
 obtain ⟨x1,x2,x3,x4,x5⟩:=k1
 obtain ⟨y1,y2,y3⟩:=k2
 obtain ⟨z1,z2,z3,z4,z5⟩:=k3
 obtain ⟨u1,u2,u3⟩:=k4
 rw[IntKind.wrap_u64]
 refine ⟨⟨by omega,by omega,by omega,by omega,by omega⟩,⟨by omega,by omega,by omega,by omega,by omega⟩⟩
set_option maxHeartbeats 400000 in
theorem a7x {a1 a0 b1 b0:Int} {a b:Nat} (ha:IsU a1 a0 a) (hb:IsU b1 b0 b) (w:World) :
  Calls Tryz.prog 61 #[.agg #[.int .u64 a1,.int .u64 a0],.agg #[.int .u64 b1,.int .u64 b0]] w fun e w' =>
   ∃ h1 h0 l1 l0:Int,e=.returned (.tuple #[.agg #[.int .u64 h1,.int .u64 h0],.agg #[.int .u64 l1,.int .u64 l0]])∧IsU h1 h0 (a*b / 340282366920938463463374607431768211456)∧IsU l1 l0 (a*b % 340282366920938463463374607431768211456)∧Below w.heap.size w w':=by
 obtain ⟨B1,B0,e1,e0,p1,p2,P5⟩:=hb.nat
 have c1:IsW b1 B1:=⟨by omega,by omega,e1⟩
 have c0:IsW b0 B0:=⟨by omega,by omega,e0⟩
 have P5:=Lib.hid P5
 clear e1 e0
 go_enter Tryz.func61,Tryz.ntmps61
 go_wp2_with fail
 refine (Gi ha c0 _).mono ?_
 rintro e w1 ⟨o0,m1,l0,rfl,k1,k2,hb1⟩
 obtain ⟨hc1,hf1⟩:=b0n hb1
 have hz1:=hb1.size
 simp at hz1
 have s0:w.heap.size<w1.heap.size:=by omega
 have s1:w.heap.size+1<w1.heap.size:=by omega
 have s2:w.heap.size+1+1<w1.heap.size:=by omega
 have s3:w.heap.size+1+1+1<w1.heap.size:=by omega
 go_wp2_with fail
 refine (Gi ha c1 _).mono ?_
 rintro e w2 ⟨o1,g1,g0,rfl,k3,k4,hb2⟩
 obtain ⟨hc2,hf2⟩:=b0n hb2
 have hz2:=hb2.size
 simp at hz2
 have t0:w.heap.size<w2.heap.size:=by omega
 have t1:w.heap.size+1<w2.heap.size:=by omega
 have t2:w.heap.size+1+1<w2.heap.size:=by omega
 have t3:w.heap.size+1+1+1<w2.heap.size:=by omega
 have t4:w1.heap.size<w2.heap.size:=by omega
 have x1:=k1.h0;have x2:=k1.h1;have x3:=k1.l0;have x4:=k1.l1
 have y1:=k2.c0;have y2:=k2.c1
 have z1:=k3.h0;have z2:=k3.h1;have z3:=k3.l0;have z4:=k3.l1
 have u1:=k4.c0;have u2:=k4.c1
 go_wp2_with (simp (disch:=omega) only[Lv])
 go_region
 go_wp2
 have hB1:Below w.heap.size w w1:=((((((Below.refl _ w).alloc (Nat.le_refl _) _).alloc (by simp) _).alloc (by simp;omega) _).alloc (by simp;omega) _).trans (hb1.mono (by simp;omega)))
 have hB2:Below w.heap.size w w2:=(hB1.alloc (by omega) _).trans (hb2.mono (by simp;omega))
 refine bodyPost_ret (v := ?_) ?_ rfl ?_
 rotate_left
 ·simp only[results,Tryz.results61]
  go_simp
  exact rfl
 have K:=b69 B1 B0 P5.out p1 p2 ha.lt k1 k2 k3 k4
 refine ⟨_,_,_,_,rfl,K.1,K.2,?_⟩
 clear hb1 hb2
 repeat' (first | exact Below.refl _ _ | exact hB2 | refine Below.drew ?_ | refine Below.alloc ?_ (by simp;try omega) _ | refine Below.setCell ?_ (by simp;try omega) _)
end Go.Proofs.YtdkgnmiiibpnnaaGreatDoor
