/- The contract of package wide's division by a word, for all arguments. -/
import Derived.Test.YtfkfpkhgoijfdaaGreatDoorDiv64
import Derived.Deep.RegionHeld3
namespace Go.Proofs.YtfkfpkhgoijfdaaGreatDoor
open Go.RowKit
set_option linter.unusedVariables false
theorem IsU.words {h l:Int} {n:Nat} (u:IsU h l n) : ∃ H L:Nat,IsW h H∧IsW l L∧n=H*18446744073709551616+L:=by
 obtain ⟨H,L,e1,e2,e3,e4,e5⟩:=u.nat
 exact ⟨H,L,⟨by omega,by omega,e1⟩,⟨by omega,by omega,e2⟩,e5⟩
theorem Xb {A Q r x d W:Nat} (_hx:0<x) (hA:A=Q*x+r) (_hr:r<x):A*W+d=(Q*W+(r*W+d) / x)*x+(r*W+d) % x:=by
 have h:=Nat.div_add_mod' (r*W+d) x
 rw[hA,Nat.add_mul,Nat.add_mul,Nat.mul_right_comm Q x W]
 omega
theorem a2e {h l x:Nat} {H1 H0 L1 L0:Nat} (hx:0<x) (eh:h=H1*18446744073709551616+H0) (el:l=L1*18446744073709551616+L0) (h1:H1<18446744073709551616) (h0:H0<18446744073709551616) (l1:L1<18446744073709551616) (l0:L0<18446744073709551616)
  {r3 r2 r1 r0 q3 q2 q1 q0:Nat} (e3:q3=H1 / x) (f3:r3=H1 % x) (e2:q2=(r3*18446744073709551616+H0) / x) (f2:r2=(r3*18446744073709551616+H0) % x)
  (e1:q1=(r2*18446744073709551616+L1) / x) (f1:r1=(r2*18446744073709551616+L1) % x) (e0:q0=(r1*18446744073709551616+L0) / x) (f0:r0=(r1*18446744073709551616+L0) % x)
  (b3:q3<18446744073709551616) (b2:q2<18446744073709551616) (b1:q1<18446744073709551616) (b0:q0<18446744073709551616) :
  q3*18446744073709551616+q2=(h*340282366920938463463374607431768211456+l) / x / 340282366920938463463374607431768211456∧q1*18446744073709551616+q0=(h*340282366920938463463374607431768211456+l) / x % 340282366920938463463374607431768211456∧r0=(h*340282366920938463463374607431768211456+l) % x:=by
 have s3:H1=q3*x+r3:=by rw[e3,f3];exact (Nat.div_add_mod' H1 x).symm
 have t3:r3<x:=by rw[f3];exact Nat.mod_lt _ hx
 have s2:=Xb (d:=H0) (W:=18446744073709551616) hx s3 t3
 rw[← e2,← f2] at s2
 have t2:r2<x:=by rw[f2];exact Nat.mod_lt _ hx
 have s1:=Xb (d:=L1) (W:=18446744073709551616) hx s2 t2
 rw[← e1,← f1] at s1
 have t1:r1<x:=by rw[f1];exact Nat.mod_lt _ hx
 have s0:=Xb (d:=L0) (W:=18446744073709551616) hx s1 t1
 rw[← e0,← f0] at s0
 have t0:r0<x:=by rw[f0];exact Nat.mod_lt _ hx
 have eN:h*340282366920938463463374607431768211456+l=((H1*18446744073709551616+H0)*18446744073709551616+L1)*18446744073709551616+L0:=by
  simp only[eh,el,Nat.add_mul,Nat.mul_assoc,Nat.reduceMul,Nat.add_assoc]
 rw[eN,s0]
 have dv:((((q3*18446744073709551616+q2)*18446744073709551616+q1)*18446744073709551616+q0)*x+r0) / x=((q3*18446744073709551616+q2)*18446744073709551616+q1)*18446744073709551616+q0:=by
  rw[Nat.add_comm,Nat.add_mul_div_right _ _ hx,Nat.div_eq_of_lt t0];omega
 have md:((((q3*18446744073709551616+q2)*18446744073709551616+q1)*18446744073709551616+q0)*x+r0) % x=r0:=by
  rw[Nat.add_comm,Nat.add_mul_mod_self_right,Nat.mod_eq_of_lt t0]
 rw[dv,md]
 clear eN s0 s1 s2 s3 dv md e3 e2 e1 e0 f3 f2 f1 f0
 refine ⟨by omega,by omega,rfl⟩
set_option maxRecDepth 100000 in
set_option maxHeartbeats 1600000 in
theorem Iy {h1 h0 l1 l0 x:Int} {h l n:Nat} (hh:IsU h1 h0 h) (hl:IsU l1 l0 l) (hx:IsW x n) (hn:0<n) (w:World) :
  Calls Tryz.prog 76 #[.agg #[.int .u64 h1,.int .u64 h0],.agg #[.int .u64 l1,.int .u64 l0],.int .u64 x] w fun e w' =>
   ∃ p1 p0 q1 q0 r:Int,e=.returned (.tuple #[.agg #[.int .u64 p1,.int .u64 p0],.agg #[.int .u64 q1,.int .u64 q0],.int .u64 r,.bool true]) ∧
    IsU p1 p0 ((h*340282366920938463463374607431768211456+l) / n / 340282366920938463463374607431768211456)∧IsU q1 q0 ((h*340282366920938463463374607431768211456+l) / n % 340282366920938463463374607431768211456)∧IsW r ((h*340282366920938463463374607431768211456+l) % n)∧Below w.heap.size w w':=by
 obtain ⟨H1,H0,i1,i0,eh⟩:=hh.words
 obtain ⟨L1,L0,j1,j0,el⟩:=hl.words
 have EH:=Lib.hid eh;have EL:=Lib.hid el;clear eh el hh hl
 have z:IsW (0:Int) 0:=⟨by omega,by omega,rfl⟩
 have x0:(x==0)=false:=by have:=hx.eq;rw[beq_eq_false_iff_ne];omega
 have hn':=Lib.hid hn
 have x00 : ∀ w,(Instr.index 162 (.agg #[.int .u64 h1,.int .u64 h0,.int .u64 l1,.int .u64 l0]) (.int .i64 0)).run Tryz.prog w=.ok (.int .u64 h1) w:=fun _=>by kernel_rfl
 have x01 : ∀ w,(Instr.index 162 (.agg #[.int .u64 h1,.int .u64 h0,.int .u64 l1,.int .u64 l0]) (.int .i64 1)).run Tryz.prog w=.ok (.int .u64 h0) w:=fun _=>by kernel_rfl
 have x02 : ∀ w,(Instr.index 162 (.agg #[.int .u64 h1,.int .u64 h0,.int .u64 l1,.int .u64 l0]) (.int .i64 2)).run Tryz.prog w=.ok (.int .u64 l1) w:=fun _=>by kernel_rfl
 have x03 : ∀ w,(Instr.index 162 (.agg #[.int .u64 h1,.int .u64 h0,.int .u64 l1,.int .u64 l0]) (.int .i64 3)).run Tryz.prog w=.ok (.int .u64 l0) w:=fun _=>by kernel_rfl
 go_enter Tryz.func76,Tryz.ntmps76
 go_wp2_with fail
 refine wp_loop_rounds 5 ?_
 rw[rounds_succ]
 go_wp2_with fail
 refine (It z i1 hx hn'.out _).mono ?_
 rintro e w1 ⟨q3,r3,rfl,iq3,ir3,hb_⟩
 have N_b6:Blk w1 (w.heap.size+1+1) #[_,_]:=Blk.below (by (repeat' (first | (with_reducible assumption) | (with_reducible refine Blk.new ?_;first | (with_reducible rfl) | (simp;done)) | (with_reducible refine Blk.alloc ?_ _) | (with_reducible refine Blk.drew ?_) | (with_reducible refine Blk.drewN ?_ _) | (with_reducible apply Blk.set2_0) | (with_reducible apply Blk.set2_1) | (with_reducible refine Blk.other ?_ _ ?_;rotate_left;focus (first | omega | (simp;done) | (simp;omega)))))) hb_
 have N_b7:Blk w1 (w.heap.size+1+1+1) #[_,_]:=Blk.below (by (repeat' (first | (with_reducible assumption) | (with_reducible refine Blk.new ?_;first | (with_reducible rfl) | (simp;done)) | (with_reducible refine Blk.alloc ?_ _) | (with_reducible refine Blk.drew ?_) | (with_reducible refine Blk.drewN ?_ _) | (with_reducible apply Blk.set2_0) | (with_reducible apply Blk.set2_1) | (with_reducible refine Blk.other ?_ _ ?_;rotate_left;focus (first | omega | (simp;done) | (simp;omega)))))) hb_
 have N_b10:Blk w1 (w.heap.size+1+1+1+1) #[_,_,_,_]:=Blk.below (by (repeat' (first | (with_reducible assumption) | (with_reducible refine Blk.new ?_;first | (with_reducible rfl) | (simp;done)) | (with_reducible refine Blk.alloc ?_ _) | (with_reducible refine Blk.drew ?_) | (with_reducible refine Blk.drewN ?_ _) | (with_reducible apply Blk.set4_0) | (with_reducible apply Blk.set4_1) | (with_reducible apply Blk.set4_2) | (with_reducible apply Blk.set4_3) | (with_reducible refine Blk.other ?_ _ ?_;rotate_left;focus (first | omega | (simp;done) | (simp;omega)))))) hb_
 have HB_w1:Below w.heap.size w w1:=Below.trans (by go_grown) (hb_.mono (by go_size))
 have HZ_w1:w.heap.size≤w1.heap.size:=HB_w1.size
 clear hb_
 have K_b6:=N_b6
 clear N_b6
 have K_b7:=N_b7
 clear N_b7
 have K_b10:=N_b10
 clear N_b10
 obtain ⟨c_b6_0,c_b6_1,f_b6,z0_b6,z1_b6,z2_b6,z3_b6,z4_b6⟩:=Cx K_b6
 obtain ⟨c_b7_0,c_b7_1,f_b7,z0_b7,z1_b7,z2_b7,z3_b7,z4_b7⟩:=Cx K_b7
 obtain ⟨c_b10_0,c_b10_1,c_b10_2,c_b10_3,f_b10,z0_b10,z1_b10,z2_b10,z3_b10,z4_b10⟩:=b2i K_b10
 go_wp2_with fail
 rw[rounds_succ]
 go_wp2_with fail
 refine (It ir3 i0 hx (Nat.mod_lt _ hn'.out) _).mono ?_
 rintro e w2 ⟨q2,r2,rfl,iq2,ir2,hb_⟩
 have N_b6:Blk w2 (w.heap.size+1+1) #[_,_]:=Blk.below (by (repeat' (first | (with_reducible assumption) | (with_reducible refine Blk.new ?_;first | (with_reducible rfl) | (simp;done)) | (with_reducible refine Blk.alloc ?_ _) | (with_reducible refine Blk.drew ?_) | (with_reducible refine Blk.drewN ?_ _) | (with_reducible apply Blk.set2_0) | (with_reducible apply Blk.set2_1) | (with_reducible refine Blk.other ?_ _ ?_;rotate_left;focus (first | omega | (simp;done) | (simp;omega)))))) hb_
 have N_b7:Blk w2 (w.heap.size+1+1+1) #[_,_]:=Blk.below (by (repeat' (first | (with_reducible assumption) | (with_reducible refine Blk.new ?_;first | (with_reducible rfl) | (simp;done)) | (with_reducible refine Blk.alloc ?_ _) | (with_reducible refine Blk.drew ?_) | (with_reducible refine Blk.drewN ?_ _) | (with_reducible apply Blk.set2_0) | (with_reducible apply Blk.set2_1) | (with_reducible refine Blk.other ?_ _ ?_;rotate_left;focus (first | omega | (simp;done) | (simp;omega)))))) hb_
 have N_b10:Blk w2 (w.heap.size+1+1+1+1) #[_,_,_,_]:=Blk.below (by (repeat' (first | (with_reducible assumption) | (with_reducible refine Blk.new ?_;first | (with_reducible rfl) | (simp;done)) | (with_reducible refine Blk.alloc ?_ _) | (with_reducible refine Blk.drew ?_) | (with_reducible refine Blk.drewN ?_ _) | (with_reducible apply Blk.set4_0) | (with_reducible apply Blk.set4_1) | (with_reducible apply Blk.set4_2) | (with_reducible apply Blk.set4_3) | (with_reducible refine Blk.other ?_ _ ?_;rotate_left;focus (first | omega | (simp;done) | (simp;omega)))))) hb_
 have HB_w2:Below w.heap.size w w2:=Below.trans (by go_grown) (hb_.mono (by go_size))
 have HZ_w2:w.heap.size≤w2.heap.size:=HB_w2.size
 clear hb_
 clear c_b6_0 c_b6_1 f_b6 z1_b6 z2_b6 z3_b6 z4_b6 c_b7_0 c_b7_1 f_b7 z1_b7 z2_b7 z3_b7 z4_b7 c_b10_0 c_b10_1 c_b10_2 c_b10_3 f_b10 z1_b10 z2_b10 z3_b10 z4_b10 K_b6 K_b7 K_b10
 have K_b6:=N_b6
 clear N_b6
 have K_b7:=N_b7
 clear N_b7
 have K_b10:=N_b10
 clear N_b10
 obtain ⟨c_b6_0,c_b6_1,f_b6,z0_b6,z1_b6,z2_b6,z3_b6,z4_b6⟩:=Cx K_b6
 obtain ⟨c_b7_0,c_b7_1,f_b7,z0_b7,z1_b7,z2_b7,z3_b7,z4_b7⟩:=Cx K_b7
 obtain ⟨c_b10_0,c_b10_1,c_b10_2,c_b10_3,f_b10,z0_b10,z1_b10,z2_b10,z3_b10,z4_b10⟩:=b2i K_b10
 go_wp2_with fail
 rw[rounds_succ]
 go_wp2_with fail
 refine (It ir2 j1 hx (Nat.mod_lt _ hn'.out) _).mono ?_
 rintro e w3 ⟨q1,r1,rfl,iq1,ir1,hb_⟩
 have N_b6:Blk w3 (w.heap.size+1+1) #[_,_]:=Blk.below (by (repeat' (first | (with_reducible assumption) | (with_reducible refine Blk.new ?_;first | (with_reducible rfl) | (simp;done)) | (with_reducible refine Blk.alloc ?_ _) | (with_reducible refine Blk.drew ?_) | (with_reducible refine Blk.drewN ?_ _) | (with_reducible apply Blk.set2_0) | (with_reducible apply Blk.set2_1) | (with_reducible refine Blk.other ?_ _ ?_;rotate_left;focus (first | omega | (simp;done) | (simp;omega)))))) hb_
 have N_b7:Blk w3 (w.heap.size+1+1+1) #[_,_]:=Blk.below (by (repeat' (first | (with_reducible assumption) | (with_reducible refine Blk.new ?_;first | (with_reducible rfl) | (simp;done)) | (with_reducible refine Blk.alloc ?_ _) | (with_reducible refine Blk.drew ?_) | (with_reducible refine Blk.drewN ?_ _) | (with_reducible apply Blk.set2_0) | (with_reducible apply Blk.set2_1) | (with_reducible refine Blk.other ?_ _ ?_;rotate_left;focus (first | omega | (simp;done) | (simp;omega)))))) hb_
 have N_b10:Blk w3 (w.heap.size+1+1+1+1) #[_,_,_,_]:=Blk.below (by (repeat' (first | (with_reducible assumption) | (with_reducible refine Blk.new ?_;first | (with_reducible rfl) | (simp;done)) | (with_reducible refine Blk.alloc ?_ _) | (with_reducible refine Blk.drew ?_) | (with_reducible refine Blk.drewN ?_ _) | (with_reducible apply Blk.set4_0) | (with_reducible apply Blk.set4_1) | (with_reducible apply Blk.set4_2) | (with_reducible apply Blk.set4_3) | (with_reducible refine Blk.other ?_ _ ?_;rotate_left;focus (first | omega | (simp;done) | (simp;omega)))))) hb_
 have HB_w3:Below w.heap.size w w3:=Below.trans (by go_grown) (hb_.mono (by go_size))
 have HZ_w3:w.heap.size≤w3.heap.size:=HB_w3.size
 clear hb_
 clear c_b6_0 c_b6_1 f_b6 z1_b6 z2_b6 z3_b6 z4_b6 c_b7_0 c_b7_1 f_b7 z1_b7 z2_b7 z3_b7 z4_b7 c_b10_0 c_b10_1 c_b10_2 c_b10_3 f_b10 z1_b10 z2_b10 z3_b10 z4_b10 K_b6 K_b7 K_b10
 have K_b6:=N_b6
 clear N_b6
 have K_b7:=N_b7
 clear N_b7
 have K_b10:=N_b10
 clear N_b10
 obtain ⟨c_b6_0,c_b6_1,f_b6,z0_b6,z1_b6,z2_b6,z3_b6,z4_b6⟩:=Cx K_b6
 obtain ⟨c_b7_0,c_b7_1,f_b7,z0_b7,z1_b7,z2_b7,z3_b7,z4_b7⟩:=Cx K_b7
 obtain ⟨c_b10_0,c_b10_1,c_b10_2,c_b10_3,f_b10,z0_b10,z1_b10,z2_b10,z3_b10,z4_b10⟩:=b2i K_b10
 go_wp2_with fail
 rw[rounds_succ]
 go_wp2_with fail
 refine (It ir1 j0 hx (Nat.mod_lt _ hn'.out) _).mono ?_
 rintro e w4 ⟨q0,r0,rfl,iq0,ir0,hb_⟩
 have N_b6:Blk w4 (w.heap.size+1+1) #[_,_]:=Blk.below (by (repeat' (first | (with_reducible assumption) | (with_reducible refine Blk.new ?_;first | (with_reducible rfl) | (simp;done)) | (with_reducible refine Blk.alloc ?_ _) | (with_reducible refine Blk.drew ?_) | (with_reducible refine Blk.drewN ?_ _) | (with_reducible apply Blk.set2_0) | (with_reducible apply Blk.set2_1) | (with_reducible refine Blk.other ?_ _ ?_;rotate_left;focus (first | omega | (simp;done) | (simp;omega)))))) hb_
 have N_b7:Blk w4 (w.heap.size+1+1+1) #[_,_]:=Blk.below (by (repeat' (first | (with_reducible assumption) | (with_reducible refine Blk.new ?_;first | (with_reducible rfl) | (simp;done)) | (with_reducible refine Blk.alloc ?_ _) | (with_reducible refine Blk.drew ?_) | (with_reducible refine Blk.drewN ?_ _) | (with_reducible apply Blk.set2_0) | (with_reducible apply Blk.set2_1) | (with_reducible refine Blk.other ?_ _ ?_;rotate_left;focus (first | omega | (simp;done) | (simp;omega)))))) hb_
 have N_b10:Blk w4 (w.heap.size+1+1+1+1) #[_,_,_,_]:=Blk.below (by (repeat' (first | (with_reducible assumption) | (with_reducible refine Blk.new ?_;first | (with_reducible rfl) | (simp;done)) | (with_reducible refine Blk.alloc ?_ _) | (with_reducible refine Blk.drew ?_) | (with_reducible refine Blk.drewN ?_ _) | (with_reducible apply Blk.set4_0) | (with_reducible apply Blk.set4_1) | (with_reducible apply Blk.set4_2) | (with_reducible apply Blk.set4_3) | (with_reducible refine Blk.other ?_ _ ?_;rotate_left;focus (first | omega | (simp;done) | (simp;omega)))))) hb_
 have HB_w4:Below w.heap.size w w4:=Below.trans (by go_grown) (hb_.mono (by go_size))
 have HZ_w4:w.heap.size≤w4.heap.size:=HB_w4.size
 clear hb_
 clear c_b6_0 c_b6_1 f_b6 z1_b6 z2_b6 z3_b6 z4_b6 c_b7_0 c_b7_1 f_b7 z1_b7 z2_b7 z3_b7 z4_b7 c_b10_0 c_b10_1 c_b10_2 c_b10_3 f_b10 z1_b10 z2_b10 z3_b10 z4_b10 K_b6 K_b7 K_b10
 have K_b6:=N_b6
 clear N_b6
 have K_b7:=N_b7
 clear N_b7
 have K_b10:=N_b10
 clear N_b10
 obtain ⟨c_b6_0,c_b6_1,f_b6,z0_b6,z1_b6,z2_b6,z3_b6,z4_b6⟩:=Cx K_b6
 obtain ⟨c_b7_0,c_b7_1,f_b7,z0_b7,z1_b7,z2_b7,z3_b7,z4_b7⟩:=Cx K_b7
 obtain ⟨c_b10_0,c_b10_1,c_b10_2,c_b10_3,f_b10,z0_b10,z1_b10,z2_b10,z3_b10,z4_b10⟩:=b2i K_b10
 go_wp2_with fail
 rw[rounds_succ]
 go_wp2_with fail
 have T4:Blk (w4.setCell { block:=w.heap.size+1+1+1+1,off:=3 } (Value.int IntKind.u64 q0)) (w.heap.size+1+1+1+1) #[.int .u64 q3,.int .u64 q2,.int .u64 q1,.int .u64 q0]:=(by (repeat' (first | (with_reducible assumption) | (with_reducible refine Blk.new ?_;first | (with_reducible rfl) | (simp;done)) | (with_reducible refine Blk.alloc ?_ _) | (with_reducible refine Blk.drew ?_) | (with_reducible refine Blk.drewN ?_ _) | (with_reducible apply Blk.set4_0) | (with_reducible apply Blk.set4_1) | (with_reducible apply Blk.set4_2) | (with_reducible apply Blk.set4_3) | (with_reducible refine Blk.other ?_ _ ?_;rotate_left;focus (first | omega | (simp;done) | (simp;omega))))))
 obtain ⟨T0,T1,T2,T3⟩:=b6p T4
 go_region_held3 (fun w'=>w'.cell? ⟨w.heap.size+1+1+1+1,0,none⟩=some (.int .u64 q3)∧w'.cell? ⟨w.heap.size+1+1+1+1,1,none⟩=some (.int .u64 q2)∧w'.cell? ⟨w.heap.size+1+1+1+1,2,none⟩=some (.int .u64 q1)∧w'.cell? ⟨w.heap.size+1+1+1+1,3,none⟩=some (.int .u64 q0)) (go_keep) (fail)
 all_goals
  go_wp2_with fail
  (try simp only[Exit.inBlock,Exit.then])
  refine bodyPost_ret (v := ?_) ?_ rfl ?_
  rotate_left
  ·simp only[results,Tryz.results76]
   go_simp
   exact rfl
  have E:=a2e hn EH.out EL.out i1.lt i0.lt j1.lt j0.lt (by simp) (by simp) rfl rfl rfl rfl rfl rfl iq3.lt iq2.lt iq1.lt iq0.lt
  have u1:=IsU.mk' (h:=_) (l:=_) iq3.lt iq2.lt
  have u0:=IsU.mk' (h:=_) (l:=_) iq1.lt iq0.lt
  rw[← iq3.eq,← iq2.eq] at u1
  rw[← iq1.eq,← iq0.eq] at u0
  exact ⟨_,_,_,_,_,rfl,u1.cast E.1,u0.cast E.2.1,ir0.cast E.2.2,by go_grown⟩
end Go.Proofs.YtfkfpkhgoijfdaaGreatDoor
