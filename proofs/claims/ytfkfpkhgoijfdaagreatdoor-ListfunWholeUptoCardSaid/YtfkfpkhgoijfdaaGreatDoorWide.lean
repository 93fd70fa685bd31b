/- The contracts of package wide's sums and products, for all arguments. -/
import Derived.Test.YtfkfpkhgoijfdaaGreatDoorNum
import Derived.Test.YtfkfpkhgoijfdaaGreatDoorBits
import Derived.BigRegion
import Derived.Lib.Hide
namespace Go.Proofs.YtfkfpkhgoijfdaaGreatDoor
open Go.RowKit
set_option maxHeartbeats 400000 in
theorem Nt {a1 a0 b1 b0:Int} {a b:Nat} (ha:IsU a1 a0 a) (hb:IsU b1 b0 b) (w:World) :
  Calls Tryz.prog 157 #[.agg #[.int .u64 a1,.int .u64 a0],.agg #[.int .u64 b1,.int .u64 b0]] w fun e w' =>
   ∃ r1 r0 c:Int,e=.returned (.tuple #[.agg #[.int .u64 r1,.int .u64 r0],.int .u64 c])∧IsU r1 r0 ((a+b) % 340282366920938463463374607431768211456)∧IsW c ((a+b) / 340282366920938463463374607431768211456)∧Below w.heap.size w w':=by
 obtain ⟨p1,p2,p3,p4,p5⟩:=ha
 obtain ⟨q1,q2,q3,q4,q5⟩:=hb
 have P5:=Lib.hid p5;clear p5
 have Q5:=Lib.hid q5;clear q5
 go_enter Tryz.func157,Tryz.ntmps157
 go_wp2_with (simp (disch:=omega) only[Sp])
 refine bodyPost_ret (v := ?_) ?_ rfl ?_
 rotate_left
 ·simp[results,Tryz.results157,go_sem]
  exact rfl
 have p5:=P5.out;have q5:=Q5.out
 refine ⟨_,_,_,rfl,⟨by omega,by omega,by omega,by omega,by omega⟩,⟨by omega,by omega,by omega⟩,?_⟩
 repeat' (first | exact Below.refl _ _ | refine Below.alloc ?_ (by simp;try omega) _ | refine Below.setCell ?_ (by simp;try omega) _)
theorem Rv {x y:Int} {n m:Nat} (hx:IsW x n) (hy:IsW y m) (w:World) :
  Calls Tryz.prog 102 #[.int .u64 x,.int .u64 y] w fun e w' => ∃ h l:Int,e=.returned (.tuple #[.int .u64 h,.int .u64 l])∧IsW h (n*m / 18446744073709551616)∧IsW l (n*m % 18446744073709551616)∧w=w':=by
 obtain ⟨a,b,rfl⟩:=hx
 obtain ⟨c,d,rfl⟩:=hy
 refine (a10 n m (by omega) (by omega) w).mono ?_
 rintro e w1 ⟨rfl,rfl⟩
 have h:n*m / 18446744073709551616<18446744073709551616:=by
  have h1:n*m<18446744073709551616*18446744073709551616:=Nat.mul_lt_mul_of_lt_of_lt (by omega) (by omega)
  omega
 exact ⟨_,_,rfl,⟨by omega,by omega,rfl⟩,⟨by omega,by omega,rfl⟩,rfl⟩
theorem a2f {a n:Nat} {H1 L1 H0 L0:Int} (A1 A0:Nat) (ha:a=A1*18446744073709551616+A0) (h1:A1<18446744073709551616) (h0:A0<18446744073709551616) (hn:n<18446744073709551616)
  (k1:H0=((A0*n / 18446744073709551616:Nat):Int)) (k2:L0=((A0*n % 18446744073709551616:Nat):Int)) (k3:H1=((A1*n / 18446744073709551616:Nat):Int)) (k4:L1=((A1*n % 18446744073709551616:Nat):Int)) :
  IsU ((L1+H0) % 18446744073709551616) L0 (a*n % 340282366920938463463374607431768211456)∧IsW (IntKind.u64.wrap (H1+(L1+H0) / 18446744073709551616)) (a*n / 340282366920938463463374607431768211456):=by
 have m1:A1*n≤18446744073709551615*18446744073709551615:=Nat.mul_le_mul (by omega) (by omega)
 have m0:A0*n≤18446744073709551615*18446744073709551615:=Nat.mul_le_mul (by omega) (by omega)
 have e:a*n=(A1*n)*18446744073709551616+A0*n:=by rw[ha,Nat.add_mul,Nat.mul_right_comm]
 rw[e]
 generalize A1*n=Q at *
 generalize A0*n=P at *
 clear ha e
 rw[IntKind.wrap_u64]
 subst k1 k2 k3 k4
 refine ⟨⟨by omega,by omega,by omega,by omega,by omega⟩,⟨by omega,by omega,by omega⟩⟩
set_option maxHeartbeats 400000 in
theorem My {a1 a0 x:Int} {a n:Nat} (ha:IsU a1 a0 a) (hx:IsW x n) (w:World) :
  Calls Tryz.prog 77 #[.agg #[.int .u64 a1,.int .u64 a0],.int .u64 x] w fun e w' =>
   ∃ c r1 r0:Int,e=.returned (.tuple #[.int .u64 c,.agg #[.int .u64 r1,.int .u64 r0]])∧IsU r1 r0 ((a*n) % 340282366920938463463374607431768211456)∧IsW c ((a*n) / 340282366920938463463374607431768211456)∧Below w.heap.size w w':=by
 obtain ⟨A1,A0,e1,e0,p1,p2,P5⟩:=ha.nat
 have E1:=Lib.hid e1
 have E0:=Lib.hid e0
 have P5:=Lib.hid P5
 have c1:IsW a1 A1:=⟨by omega,by omega,e1⟩
 have c0:IsW a0 A0:=⟨by omega,by omega,e0⟩
 clear e1 e0
 go_enter Tryz.func77,Tryz.ntmps77
 go_wp2_with fail
 refine (Rv c0 hx _).mono ?_
 rintro e w1 ⟨h0,l0,rfl,k1,k2,rfl⟩
 go_wp2_with fail
 refine (Rv c1 hx _).mono ?_
 rintro e w1 ⟨h1,l1,rfl,k3,k4,rfl⟩
 obtain ⟨b1,b2,b3⟩:=k1
 obtain ⟨b4,b5,b6⟩:=k2
 obtain ⟨b7,b8,b9⟩:=k3
 obtain ⟨d1,d2,d3⟩:=k4
 have B3:=Lib.hid b3;clear b3
 have B6:=Lib.hid b6;clear b6
 have B9:=Lib.hid b9;clear b9
 have D3:=Lib.hid d3;clear d3
 go_wp2_with (simp (disch:=omega) only[Sp])
 refine bodyPost_ret (v := ?_) ?_ rfl ?_
 rotate_left
 ·simp[results,Tryz.results77,go_sem]
  exact rfl
 have K:=a2f A1 A0 P5.out p1 p2 hx.lt B3.out B6.out B9.out D3.out
 refine ⟨_,_,_,rfl,K.1,K.2,?_⟩
 repeat' (first | exact Below.refl _ _ | refine Below.alloc ?_ (by simp;try omega) _ | refine Below.setCell ?_ (by simp;try omega) _)
end Go.Proofs.YtfkfpkhgoijfdaaGreatDoor
