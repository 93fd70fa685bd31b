/- The contract of package wide's square root, for all arguments. -/
import Derived.Test.YtdkgnmiiibpnnaaGreatDoorWide5
import Derived.Deep.CutBlock
namespace Go.Proofs.YtdkgnmiiibpnnaaGreatDoor
open Go.RowKit
set_option linter.unusedVariables false
theorem Vr {k:Nat} (h:64≤k):2 ^ k=2 ^ (k-64)*18446744073709551616:=by
 rw[show (18446744073709551616:Nat)=2 ^ 64 from rfl,← Nat.pow_add,Nat.sub_add_cancel h]
theorem b4u {r1 r0:Int} {r k:Nat} (u:IsU r1 r0 r) (hm:r % 2 ^ k=0) (h65:65≤k) (h128:k≤128) :
  IsU (bits BinOp.or IntKind.u64 r1 (IntKind.u64.wrap (2 ^ (k-1-64)))) r0 (r+2 ^ (k-1)):=by
 obtain ⟨R1,R0,rfl,rfl,p1,p0,rfl⟩:=u.nat
 have e1:=Vr (k:=k) (by omega)
 have e2:=Vr (k:=k-1) (by omega)
 have e3:k-64=(k-1-64)+1:=by omega
 have e4:2 ^ (k-64)=2*2 ^ (k-1-64):=by rw[e3,Nat.pow_succ,Nat.mul_comm]
 have hp:2 ^ (k-1-64)≤2 ^ 63:=Nat.pow_le_pow_right (by decide) (by omega)
 have hpos:0<2 ^ (k-1-64):=Nat.two_pow_pos _
 have hR1:R1 % 2 ^ (k-64)=0:=by
  have hd:2 ^ k ∣ R1*18446744073709551616+R0:=Nat.dvd_of_mod_eq_zero hm
  obtain ⟨c,hc⟩:=hd
  rw[e1,Nat.mul_right_comm] at hc
  have hR:R1=2 ^ (k-64)*c:=by
   generalize 2 ^ (k-64)*c=z at *
   omega
  rw[hR]
  exact Nat.mul_mod_right _ _
 have hlt:R1+2 ^ (k-64)≤2 ^ (128-k)*2 ^ (k-64):=by
  have e5:2 ^ (128-k)*2 ^ (k-64)=18446744073709551616:=by rw[← Nat.pow_add,show 128-k+(k-64)=64 by omega]
  obtain ⟨c,hc⟩:=Nat.dvd_of_mod_eq_zero hR1
  rw[hc,Nat.mul_comm (2 ^ (k-64)) c,← Nat.succ_mul]
  apply Nat.mul_le_mul_right
  rw[Nat.succ_le_iff]
  refine Nat.lt_of_mul_lt_mul_right (a:=2 ^ (k-64)) ?_
  rw[e5,Nat.mul_comm,← hc]
  exact p1
 have e5:2 ^ (128-k)*2 ^ (k-64)=18446744073709551616:=by rw[← Nat.pow_add,show 128-k+(k-64)=64 by omega]
 rw[e5] at hlt
 have ew:IntKind.u64.wrap ((2:Int) ^ (k-1-64))=((2 ^ (k-1-64):Nat):Int):=by
  have:((2:Int) ^ (k-1-64))=((2 ^ (k-1-64):Nat):Int):=by rw[Int.natCast_pow];rfl
  rw[this]
  exact Mul64.wrapN _ (by omega)
 have eo:bits BinOp.or IntKind.u64 (R1:Int) ((2 ^ (k-1-64):Nat):Int)=((R1+2 ^ (k-1-64):Nat):Int):=by
  rw[u64_or_nat _ _ p1 (by omega),nat_join (k-64) _ _ hR1 (by omega)]
 rw[ew,eo,e2]
 have:=IsU.mk' (h:=R1+2 ^ (k-1-64)) (l:=R0) (by omega) p0
 refine this.cast ?_
 rw[Nat.add_mul]
 omega
theorem b3a {r1 r0:Int} {r k:Nat} (u:IsU r1 r0 r) (hm:r % 2 ^ k=0) (h1:1≤k) (h64:k≤64) :
  IsU r1 (bits BinOp.or IntKind.u64 r0 (IntKind.u64.wrap (2 ^ (k-1)))) (r+2 ^ (k-1)):=by
 obtain ⟨R1,R0,rfl,rfl,p1,p0,rfl⟩:=u.nat
 have ek:2 ^ k=2*2 ^ (k-1):=by
  rw[show k=(k-1)+1 by omega,Nat.pow_succ,Nat.mul_comm];simp
 have e64:2 ^ (64-k)*2 ^ k=18446744073709551616:=by rw[← Nat.pow_add,show 64-k+k=64 by omega]
 have hp:2 ^ (k-1)≤2 ^ 63:=Nat.pow_le_pow_right (by decide) (by omega)
 have hpos:0<2 ^ (k-1):=Nat.two_pow_pos _
 have hR0:R0 % 2 ^ k=0:=by
  have:(R1*18446744073709551616+R0) % 2 ^ k=R0 % 2 ^ k:=by
   rw[← e64,← Nat.mul_assoc,Nat.add_comm,Nat.add_mul_mod_self_right]
  rw[← this];exact hm
 have hlt:R0+2 ^ k≤18446744073709551616:=by
  obtain ⟨c,hc⟩:=Nat.dvd_of_mod_eq_zero hR0
  rw[hc,← e64,Nat.mul_comm (2 ^ k) c,← Nat.succ_mul]
  apply Nat.mul_le_mul_right
  rw[Nat.succ_le_iff]
  refine Nat.lt_of_mul_lt_mul_right (a:=2 ^ k) ?_
  rw[e64,Nat.mul_comm,← hc]
  exact p0
 have ew:IntKind.u64.wrap ((2:Int) ^ (k-1))=((2 ^ (k-1):Nat):Int):=by
  have:((2:Int) ^ (k-1))=((2 ^ (k-1):Nat):Int):=by rw[Int.natCast_pow];rfl
  rw[this]
  exact Mul64.wrapN _ (by omega)
 have eo:bits BinOp.or IntKind.u64 (R0:Int) ((2 ^ (k-1):Nat):Int)=((R0+2 ^ (k-1):Nat):Int):=by
  rw[u64_or_nat _ _ p0 (by omega),nat_join k _ _ hR0 (by omega)]
 rw[ew,eo]
 have:=IsU.mk' (h:=R1) (l:=R0+2 ^ (k-1)) p1 (by omega)
 exact this.cast (by omega)
structure RInv (N k r x y:Nat):Prop where
 mult:r % 2 ^ k=0
 le:r*r≤N
 gt:N<(r+2 ^ k)*(r+2 ^ k)
 sq:x*340282366920938463463374607431768211456+y=r*r
theorem RInv.start {h l:Nat} (hh:h<340282366920938463463374607431768211456) (hl:l<340282366920938463463374607431768211456):RInv (h*340282366920938463463374607431768211456+l) 128 0 0 0 :=
 ⟨by simp,by simp,by rw[Nat.zero_add,show (2 ^ 128:Nat)=340282366920938463463374607431768211456 from rfl];omega,by simp⟩
theorem a7i {k:Nat} (h:1≤k):2 ^ k=2 ^ (k-1)+2 ^ (k-1):=by
 have:2 ^ k=2 ^ (k-1)*2:=by rw[← Nat.pow_succ,Nat.succ_eq_add_one,Nat.sub_add_cancel h]
 omega
theorem RInv.yes {N k r x y a b:Nat} (i:RInv N k r x y) (h:1≤k) (hle:(r+2 ^ (k-1))*(r+2 ^ (k-1))≤N) (hs:a*340282366920938463463374607431768211456+b=(r+2 ^ (k-1))*(r+2 ^ (k-1))):RInv N (k-1) (r+2 ^ (k-1)) a b:=by
 have e:=a7i h
 refine ⟨?_,hle,?_,hs⟩
 ·have:r % 2 ^ (k-1)=0:=by
   have h1:=i.mult
   have h2:2 ^ (k-1) ∣ 2 ^ k:=Nat.pow_dvd_pow 2 (by omega)
   exact Nat.mod_eq_zero_of_dvd (Nat.dvd_trans h2 (Nat.dvd_of_mod_eq_zero h1))
  rw[Nat.add_mod_right];exact this
 ·have:=i.gt
  rw[e,← Nat.add_assoc] at this
  exact this
theorem RInv.no {N k r x y:Nat} (i:RInv N k r x y) (h:1≤k) (hgt:N<(r+2 ^ (k-1))*(r+2 ^ (k-1))):RInv N (k-1) r x y:=by
 refine ⟨?_,i.le,hgt,i.sq⟩
 have h1:=i.mult
 have h2:2 ^ (k-1) ∣ 2 ^ k:=Nat.pow_dvd_pow 2 (by omega)
 exact Nat.mod_eq_zero_of_dvd (Nat.dvd_trans h2 (Nat.dvd_of_mod_eq_zero h1))
set_option maxHeartbeats 1600000 in
set_option maxRecDepth 100000 in
theorem a56 {h1 h0 l1 l0:Int} {h l:Nat} (hh:IsU h1 h0 h) (hl:IsU l1 l0 l) (w:World) :
  Calls Tryz.prog 75 #[.agg #[.int .u64 h1,.int .u64 h0],.agg #[.int .u64 l1,.int .u64 l0]] w fun e w' => ∃ (r:Nat) (r1 r0:Int) (b:Bool),e=.returned (.tuple #[.agg #[.int .u64 r1,.int .u64 r0],.bool b])∧(b=true↔r*r=h*340282366920938463463374607431768211456+l)∧IsU r1 r0 r∧r*r≤h*340282366920938463463374607431768211456+l∧h*340282366920938463463374607431768211456+l<(r+1)*(r+1)∧Below w.heap.size w w':=by
 go_enter Tryz.func75,Tryz.ntmps75
 go_wp2_with fail
 go_loopw [9] (fun s9 wr => ∃ (k r x y:Nat) (r1 r0 x1 x0 y1 y0:Int),k≤128∧s9=.int .i64 ((k:Int)-1)∧IsU r1 r0 r∧IsU x1 x0 x∧IsU y1 y0 y∧RInv (h*340282366920938463463374607431768211456+l) k r x y∧Blk wr w.heap.size #[.int .u64 h1,.int .u64 h0]∧Blk wr (w.heap.size+1) #[.int .u64 l1,.int .u64 l0]∧Blk wr (w.heap.size+1+1) #[.int .u64 0,.int .u64 0]∧Blk wr (w.heap.size+1+1+1) #[.int .u64 r1,.int .u64 r0]∧Blk wr (w.heap.size+1+1+1+1) #[.int .u64 x1,.int .u64 x0]∧Blk wr (w.heap.size+1+1+1+1+1) #[.int .u64 y1,.int .u64 y0]∧Below w.heap.size w wr) (fun s9 _=>(intOf s9+1).toNat)
 case atStart=>exact ⟨128,0,0,0,0,0,0,0,0,0,by omega,rfl,IsU.zero,IsU.zero,IsU.zero,RInv.start hh.lt hl.lt,(by (repeat' (first | (with_reducible assumption) | (with_reducible refine Blk.new ?_;first | (with_reducible rfl) | (simp;done)) | (with_reducible refine Blk.alloc ?_ _) | (with_reducible refine Blk.drew ?_) | (with_reducible refine Blk.drewN ?_ _) | (with_reducible apply Blk.set2_0) | (with_reducible apply Blk.set2_1) | (with_reducible refine Blk.other ?_ _ ?_;rotate_left;focus (first | omega | (simp;done) | (simp;omega)))))),(by (repeat' (first | (with_reducible assumption) | (with_reducible refine Blk.new ?_;first | (with_reducible rfl) | (simp;done)) | (with_reducible refine Blk.alloc ?_ _) | (with_reducible refine Blk.drew ?_) | (with_reducible refine Blk.drewN ?_ _) | (with_reducible apply Blk.set2_0) | (with_reducible apply Blk.set2_1) | (with_reducible refine Blk.other ?_ _ ?_;rotate_left;focus (first | omega | (simp;done) | (simp;omega)))))),(by (repeat' (first | (with_reducible assumption) | (with_reducible refine Blk.new ?_;first | (with_reducible rfl) | (simp;done)) | (with_reducible refine Blk.alloc ?_ _) | (with_reducible refine Blk.drew ?_) | (with_reducible refine Blk.drewN ?_ _) | (with_reducible apply Blk.set2_0) | (with_reducible apply Blk.set2_1) | (with_reducible refine Blk.other ?_ _ ?_;rotate_left;focus (first | omega | (simp;done) | (simp;omega)))))),(by (repeat' (first | (with_reducible assumption) | (with_reducible refine Blk.new ?_;first | (with_reducible rfl) | (simp;done)) | (with_reducible refine Blk.alloc ?_ _) | (with_reducible refine Blk.drew ?_) | (with_reducible refine Blk.drewN ?_ _) | (with_reducible apply Blk.set2_0) | (with_reducible apply Blk.set2_1) | (with_reducible refine Blk.other ?_ _ ?_;rotate_left;focus (first | omega | (simp;done) | (simp;omega)))))),(by (repeat' (first | (with_reducible assumption) | (with_reducible refine Blk.new ?_;first | (with_reducible rfl) | (simp;done)) | (with_reducible refine Blk.alloc ?_ _) | (with_reducible refine Blk.drew ?_) | (with_reducible refine Blk.drewN ?_ _) | (with_reducible apply Blk.set2_0) | (with_reducible apply Blk.set2_1) | (with_reducible refine Blk.other ?_ _ ?_;rotate_left;focus (first | omega | (simp;done) | (simp;omega)))))),(by (repeat' (first | (with_reducible assumption) | (with_reducible refine Blk.new ?_;first | (with_reducible rfl) | (simp;done)) | (with_reducible refine Blk.alloc ?_ _) | (with_reducible refine Blk.drew ?_) | (with_reducible refine Blk.drewN ?_ _) | (with_reducible apply Blk.set2_0) | (with_reducible apply Blk.set2_1) | (with_reducible refine Blk.other ?_ _ ?_;rotate_left;focus (first | omega | (simp;done) | (simp;omega)))))),by go_grown⟩
 case round =>
  obtain ⟨k,r,x,y,r1,r0,x1,x0,y1,y0,hk,rfl,ur,ux,uy,inv,K_b2,K_b3,K_b4,K_b6,K_b7,K_b8,HB_wr⟩:=hrel
  have HZ_wr:=HB_wr.size
  obtain ⟨c_b2_0,c_b2_1,f_b2,z0_b2,z1_b2,z2_b2,z3_b2,z4_b2⟩:=As K_b2
  obtain ⟨c_b3_0,c_b3_1,f_b3,z0_b3,z1_b3,z2_b3,z3_b3,z4_b3⟩:=As K_b3
  obtain ⟨c_b4_0,c_b4_1,f_b4,z0_b4,z1_b4,z2_b4,z3_b4,z4_b4⟩:=As K_b4
  obtain ⟨c_b6_0,c_b6_1,f_b6,z0_b6,z1_b6,z2_b6,z3_b6,z4_b6⟩:=As K_b6
  obtain ⟨c_b7_0,c_b7_1,f_b7,z0_b7,z1_b7,z2_b7,z3_b7,z4_b7⟩:=As K_b7
  obtain ⟨c_b8_0,c_b8_1,f_b8,z0_b8,z1_b8,z2_b8,z3_b8,z4_b8⟩:=As K_b8
  by_cases hk1:1≤k
  ·go_upto_if 19 with fail
   go_cut [] (fun wx => ∃ t1 t0:Int,IsU t1 t0 (r+2 ^ (k-1))∧Blk wx w.heap.size #[.int .u64 h1,.int .u64 h0]∧Blk wx (w.heap.size+1) #[.int .u64 l1,.int .u64 l0]∧Blk wx (w.heap.size+1+1) #[.int .u64 0,.int .u64 0]∧Blk wx (w.heap.size+1+1+1) #[.int .u64 r1,.int .u64 r0]∧Blk wx (w.heap.size+1+1+1+1) #[.int .u64 x1,.int .u64 x0]∧Blk wx (w.heap.size+1+1+1+1+1) #[.int .u64 y1,.int .u64 y0]∧Blk wx wr.heap.size #[.int .u64 t1,.int .u64 t0]∧Below w.heap.size w wx)
   case first =>
    by_cases h64:65≤k
    ·have t:=b4u ur inv.mult h64 hk
     go_wp2_with fail
     go_region
     go_wp2_with fail
     go_meet
     exact ⟨_,_,t,(by (repeat' (first | (with_reducible assumption) | (with_reducible refine Blk.new ?_;first | (with_reducible rfl) | (simp;done)) | (with_reducible refine Blk.alloc ?_ _) | (with_reducible refine Blk.drew ?_) | (with_reducible refine Blk.drewN ?_ _) | (with_reducible apply Blk.set2_0) | (with_reducible apply Blk.set2_1) | (with_reducible refine Blk.other ?_ _ ?_;rotate_left;focus (first | omega | (simp;done) | (simp;omega)))))),(by (repeat' (first | (with_reducible assumption) | (with_reducible refine Blk.new ?_;first | (with_reducible rfl) | (simp;done)) | (with_reducible refine Blk.alloc ?_ _) | (with_reducible refine Blk.drew ?_) | (with_reducible refine Blk.drewN ?_ _) | (with_reducible apply Blk.set2_0) | (with_reducible apply Blk.set2_1) | (with_reducible refine Blk.other ?_ _ ?_;rotate_left;focus (first | omega | (simp;done) | (simp;omega)))))),(by (repeat' (first | (with_reducible assumption) | (with_reducible refine Blk.new ?_;first | (with_reducible rfl) | (simp;done)) | (with_reducible refine Blk.alloc ?_ _) | (with_reducible refine Blk.drew ?_) | (with_reducible refine Blk.drewN ?_ _) | (with_reducible apply Blk.set2_0) | (with_reducible apply Blk.set2_1) | (with_reducible refine Blk.other ?_ _ ?_;rotate_left;focus (first | omega | (simp;done) | (simp;omega)))))),(by (repeat' (first | (with_reducible assumption) | (with_reducible refine Blk.new ?_;first | (with_reducible rfl) | (simp;done)) | (with_reducible refine Blk.alloc ?_ _) | (with_reducible refine Blk.drew ?_) | (with_reducible refine Blk.drewN ?_ _) | (with_reducible apply Blk.set2_0) | (with_reducible apply Blk.set2_1) | (with_reducible refine Blk.other ?_ _ ?_;rotate_left;focus (first | omega | (simp;done) | (simp;omega)))))),(by (repeat' (first | (with_reducible assumption) | (with_reducible refine Blk.new ?_;first | (with_reducible rfl) | (simp;done)) | (with_reducible refine Blk.alloc ?_ _) | (with_reducible refine Blk.drew ?_) | (with_reducible refine Blk.drewN ?_ _) | (with_reducible apply Blk.set2_0) | (with_reducible apply Blk.set2_1) | (with_reducible refine Blk.other ?_ _ ?_;rotate_left;focus (first | omega | (simp;done) | (simp;omega)))))),(by (repeat' (first | (with_reducible assumption) | (with_reducible refine Blk.new ?_;first | (with_reducible rfl) | (simp;done)) | (with_reducible refine Blk.alloc ?_ _) | (with_reducible refine Blk.drew ?_) | (with_reducible refine Blk.drewN ?_ _) | (with_reducible apply Blk.set2_0) | (with_reducible apply Blk.set2_1) | (with_reducible refine Blk.other ?_ _ ?_;rotate_left;focus (first | omega | (simp;done) | (simp;omega)))))),(by (repeat' (first | (with_reducible assumption) | (with_reducible refine Blk.new ?_;first | (with_reducible rfl) | (simp;done)) | (with_reducible refine Blk.alloc ?_ _) | (with_reducible refine Blk.drew ?_) | (with_reducible refine Blk.drewN ?_ _) | (with_reducible apply Blk.set2_0) | (with_reducible apply Blk.set2_1) | (with_reducible refine Blk.other ?_ _ ?_;rotate_left;focus (first | omega | (simp;done) | (simp;omega)))))),by go_grown⟩
    ·have t:=b3a ur inv.mult hk1 (by omega)
     go_wp2_with fail
     go_region
     go_wp2_with fail
     go_meet
     exact ⟨_,_,t,(by (repeat' (first | (with_reducible assumption) | (with_reducible refine Blk.new ?_;first | (with_reducible rfl) | (simp;done)) | (with_reducible refine Blk.alloc ?_ _) | (with_reducible refine Blk.drew ?_) | (with_reducible refine Blk.drewN ?_ _) | (with_reducible apply Blk.set2_0) | (with_reducible apply Blk.set2_1) | (with_reducible refine Blk.other ?_ _ ?_;rotate_left;focus (first | omega | (simp;done) | (simp;omega)))))),(by (repeat' (first | (with_reducible assumption) | (with_reducible refine Blk.new ?_;first | (with_reducible rfl) | (simp;done)) | (with_reducible refine Blk.alloc ?_ _) | (with_reducible refine Blk.drew ?_) | (with_reducible refine Blk.drewN ?_ _) | (with_reducible apply Blk.set2_0) | (with_reducible apply Blk.set2_1) | (with_reducible refine Blk.other ?_ _ ?_;rotate_left;focus (first | omega | (simp;done) | (simp;omega)))))),(by (repeat' (first | (with_reducible assumption) | (with_reducible refine Blk.new ?_;first | (with_reducible rfl) | (simp;done)) | (with_reducible refine Blk.alloc ?_ _) | (with_reducible refine Blk.drew ?_) | (with_reducible refine Blk.drewN ?_ _) | (with_reducible apply Blk.set2_0) | (with_reducible apply Blk.set2_1) | (with_reducible refine Blk.other ?_ _ ?_;rotate_left;focus (first | omega | (simp;done) | (simp;omega)))))),(by (repeat' (first | (with_reducible assumption) | (with_reducible refine Blk.new ?_;first | (with_reducible rfl) | (simp;done)) | (with_reducible refine Blk.alloc ?_ _) | (with_reducible refine Blk.drew ?_) | (with_reducible refine Blk.drewN ?_ _) | (with_reducible apply Blk.set2_0) | (with_reducible apply Blk.set2_1) | (with_reducible refine Blk.other ?_ _ ?_;rotate_left;focus (first | omega | (simp;done) | (simp;omega)))))),(by (repeat' (first | (with_reducible assumption) | (with_reducible refine Blk.new ?_;first | (with_reducible rfl) | (simp;done)) | (with_reducible refine Blk.alloc ?_ _) | (with_reducible refine Blk.drew ?_) | (with_reducible refine Blk.drewN ?_ _) | (with_reducible apply Blk.set2_0) | (with_reducible apply Blk.set2_1) | (with_reducible refine Blk.other ?_ _ ?_;rotate_left;focus (first | omega | (simp;done) | (simp;omega)))))),(by (repeat' (first | (with_reducible assumption) | (with_reducible refine Blk.new ?_;first | (with_reducible rfl) | (simp;done)) | (with_reducible refine Blk.alloc ?_ _) | (with_reducible refine Blk.drew ?_) | (with_reducible refine Blk.drewN ?_ _) | (with_reducible apply Blk.set2_0) | (with_reducible apply Blk.set2_1) | (with_reducible refine Blk.other ?_ _ ?_;rotate_left;focus (first | omega | (simp;done) | (simp;omega)))))),(by (repeat' (first | (with_reducible assumption) | (with_reducible refine Blk.new ?_;first | (with_reducible rfl) | (simp;done)) | (with_reducible refine Blk.alloc ?_ _) | (with_reducible refine Blk.drew ?_) | (with_reducible refine Blk.drewN ?_ _) | (with_reducible apply Blk.set2_0) | (with_reducible apply Blk.set2_1) | (with_reducible refine Blk.other ?_ _ ?_;rotate_left;focus (first | omega | (simp;done) | (simp;omega)))))),by go_grown⟩
   case rest =>
   clear c_b2_0 c_b2_1 f_b2 z1_b2 z2_b2 z3_b2 z4_b2 c_b3_0 c_b3_1 f_b3 z1_b3 z2_b3 z3_b3 z4_b3 c_b4_0 c_b4_1 f_b4 z1_b4 z2_b4 z3_b4 z4_b4 c_b6_0 c_b6_1 f_b6 z1_b6 z2_b6 z3_b6 z4_b6 c_b7_0 c_b7_1 f_b7 z1_b7 z2_b7 z3_b7 z4_b7 c_b8_0 c_b8_1 f_b8 z1_b8 z2_b8 z3_b8 z4_b8 K_b2 K_b3 K_b4 K_b6 K_b7 K_b8
   obtain ⟨t1,t0,ut,K_b2,K_b3,K_b4,K_b6,K_b7,K_b8,K_b10,HB_wc⟩:=hcut
   have HZ_wc:=HB_wc.size
   obtain ⟨c_b2_0,c_b2_1,f_b2,z0_b2,z1_b2,z2_b2,z3_b2,z4_b2⟩:=As K_b2
   obtain ⟨c_b3_0,c_b3_1,f_b3,z0_b3,z1_b3,z2_b3,z3_b3,z4_b3⟩:=As K_b3
   obtain ⟨c_b4_0,c_b4_1,f_b4,z0_b4,z1_b4,z2_b4,z3_b4,z4_b4⟩:=As K_b4
   obtain ⟨c_b6_0,c_b6_1,f_b6,z0_b6,z1_b6,z2_b6,z3_b6,z4_b6⟩:=As K_b6
   obtain ⟨c_b7_0,c_b7_1,f_b7,z0_b7,z1_b7,z2_b7,z3_b7,z4_b7⟩:=As K_b7
   obtain ⟨c_b8_0,c_b8_1,f_b8,z0_b8,z1_b8,z2_b8,z3_b8,z4_b8⟩:=As K_b8
   obtain ⟨c_b10_0,c_b10_1,f_b10,z0_b10,z1_b10,z2_b10,z3_b10,z4_b10⟩:=As K_b10
   obtain ⟨T,hT⟩ : ∃ T,T=r+2 ^ (k-1):=⟨_,rfl⟩
   rw[← hT] at ut
   have HT:=Lib.hid hT;clear hT
   go_wp2_with fail
   refine (Zv ut ut _).mono ?_
   rintro e w2 ⟨m1,m0,n1,n0,rfl,um,un,hb_⟩
   have N_b2:Blk w2 (w.heap.size) #[_,_]:=Blk.below (by (repeat' (first | (with_reducible assumption) | (with_reducible refine Blk.new ?_;first | (with_reducible rfl) | (simp;done)) | (with_reducible refine Blk.alloc ?_ _) | (with_reducible refine Blk.drew ?_) | (with_reducible refine Blk.drewN ?_ _) | (with_reducible apply Blk.set2_0) | (with_reducible apply Blk.set2_1) | (with_reducible refine Blk.other ?_ _ ?_;rotate_left;focus (first | omega | (simp;done) | (simp;omega)))))) hb_
   have N_b3:Blk w2 (w.heap.size+1) #[_,_]:=Blk.below (by (repeat' (first | (with_reducible assumption) | (with_reducible refine Blk.new ?_;first | (with_reducible rfl) | (simp;done)) | (with_reducible refine Blk.alloc ?_ _) | (with_reducible refine Blk.drew ?_) | (with_reducible refine Blk.drewN ?_ _) | (with_reducible apply Blk.set2_0) | (with_reducible apply Blk.set2_1) | (with_reducible refine Blk.other ?_ _ ?_;rotate_left;focus (first | omega | (simp;done) | (simp;omega)))))) hb_
   have N_b4:Blk w2 (w.heap.size+1+1) #[_,_]:=Blk.below (by (repeat' (first | (with_reducible assumption) | (with_reducible refine Blk.new ?_;first | (with_reducible rfl) | (simp;done)) | (with_reducible refine Blk.alloc ?_ _) | (with_reducible refine Blk.drew ?_) | (with_reducible refine Blk.drewN ?_ _) | (with_reducible apply Blk.set2_0) | (with_reducible apply Blk.set2_1) | (with_reducible refine Blk.other ?_ _ ?_;rotate_left;focus (first | omega | (simp;done) | (simp;omega)))))) hb_
   have N_b6:Blk w2 (w.heap.size+1+1+1) #[_,_]:=Blk.below (by (repeat' (first | (with_reducible assumption) | (with_reducible refine Blk.new ?_;first | (with_reducible rfl) | (simp;done)) | (with_reducible refine Blk.alloc ?_ _) | (with_reducible refine Blk.drew ?_) | (with_reducible refine Blk.drewN ?_ _) | (with_reducible apply Blk.set2_0) | (with_reducible apply Blk.set2_1) | (with_reducible refine Blk.other ?_ _ ?_;rotate_left;focus (first | omega | (simp;done) | (simp;omega)))))) hb_
   have N_b7:Blk w2 (w.heap.size+1+1+1+1) #[_,_]:=Blk.below (by (repeat' (first | (with_reducible assumption) | (with_reducible refine Blk.new ?_;first | (with_reducible rfl) | (simp;done)) | (with_reducible refine Blk.alloc ?_ _) | (with_reducible refine Blk.drew ?_) | (with_reducible refine Blk.drewN ?_ _) | (with_reducible apply Blk.set2_0) | (with_reducible apply Blk.set2_1) | (with_reducible refine Blk.other ?_ _ ?_;rotate_left;focus (first | omega | (simp;done) | (simp;omega)))))) hb_
   have N_b8:Blk w2 (w.heap.size+1+1+1+1+1) #[_,_]:=Blk.below (by (repeat' (first | (with_reducible assumption) | (with_reducible refine Blk.new ?_;first | (with_reducible rfl) | (simp;done)) | (with_reducible refine Blk.alloc ?_ _) | (with_reducible refine Blk.drew ?_) | (with_reducible refine Blk.drewN ?_ _) | (with_reducible apply Blk.set2_0) | (with_reducible apply Blk.set2_1) | (with_reducible refine Blk.other ?_ _ ?_;rotate_left;focus (first | omega | (simp;done) | (simp;omega)))))) hb_
   have N_b10:Blk w2 (wr.heap.size) #[_,_]:=Blk.below (by (repeat' (first | (with_reducible assumption) | (with_reducible refine Blk.new ?_;first | (with_reducible rfl) | (simp;done)) | (with_reducible refine Blk.alloc ?_ _) | (with_reducible refine Blk.drew ?_) | (with_reducible refine Blk.drewN ?_ _) | (with_reducible apply Blk.set2_0) | (with_reducible apply Blk.set2_1) | (with_reducible refine Blk.other ?_ _ ?_;rotate_left;focus (first | omega | (simp;done) | (simp;omega)))))) hb_
   have HB_w2:Below w.heap.size w w2:=Below.trans (by go_grown) (hb_.mono (by go_size))
   have HZ_w2:w.heap.size≤w2.heap.size:=HB_w2.size
   clear hb_
   clear c_b2_0 c_b2_1 f_b2 z1_b2 z2_b2 z3_b2 z4_b2 c_b3_0 c_b3_1 f_b3 z1_b3 z2_b3 z3_b3 z4_b3 c_b4_0 c_b4_1 f_b4 z1_b4 z2_b4 z3_b4 z4_b4 c_b6_0 c_b6_1 f_b6 z1_b6 z2_b6 z3_b6 z4_b6 c_b7_0 c_b7_1 f_b7 z1_b7 z2_b7 z3_b7 z4_b7 c_b8_0 c_b8_1 f_b8 z1_b8 z2_b8 z3_b8 z4_b8 c_b10_0 c_b10_1 f_b10 z1_b10 z2_b10 z3_b10 z4_b10 K_b2 K_b3 K_b4 K_b6 K_b7 K_b8 K_b10
   have K_b2:=N_b2
   clear N_b2
   have K_b3:=N_b3
   clear N_b3
   have K_b4:=N_b4
   clear N_b4
   have K_b6:=N_b6
   clear N_b6
   have K_b7:=N_b7
   clear N_b7
   have K_b8:=N_b8
   clear N_b8
   have K_b10:=N_b10
   clear N_b10
   obtain ⟨c_b2_0,c_b2_1,f_b2,z0_b2,z1_b2,z2_b2,z3_b2,z4_b2⟩:=As K_b2
   obtain ⟨c_b3_0,c_b3_1,f_b3,z0_b3,z1_b3,z2_b3,z3_b3,z4_b3⟩:=As K_b3
   obtain ⟨c_b4_0,c_b4_1,f_b4,z0_b4,z1_b4,z2_b4,z3_b4,z4_b4⟩:=As K_b4
   obtain ⟨c_b6_0,c_b6_1,f_b6,z0_b6,z1_b6,z2_b6,z3_b6,z4_b6⟩:=As K_b6
   obtain ⟨c_b7_0,c_b7_1,f_b7,z0_b7,z1_b7,z2_b7,z3_b7,z4_b7⟩:=As K_b7
   obtain ⟨c_b8_0,c_b8_1,f_b8,z0_b8,z1_b8,z2_b8,z3_b8,z4_b8⟩:=As K_b8
   obtain ⟨c_b10_0,c_b10_1,f_b10,z0_b10,z1_b10,z2_b10,z3_b10,z4_b10⟩:=As K_b10
   go_wp2_with fail
   refine (Vm um un hh hl _).mono ?_
   have eT:T*T / 340282366920938463463374607431768211456*340282366920938463463374607431768211456+T*T % 340282366920938463463374607431768211456=T*T:=Nat.div_add_mod' _ _
   rw[eT]
   clear eT
   by_cases hle:T*T≤h*340282366920938463463374607431768211456+l
   ·have hcm:Ch (T*T) (h*340282366920938463463374607431768211456+l)≤0:=by
     unfold Ch;repeat' split
     all_goals omega
    obtain ⟨cm,ecm⟩ : ∃ cm,cm=Ch (T*T) (h*340282366920938463463374607431768211456+l):=⟨_,rfl⟩
    rw[← ecm] at hcm ⊢
    clear ecm
    have nxt:=Lib.hid (inv.yes (a:=T*T / 340282366920938463463374607431768211456) (b:=T*T % 340282366920938463463374607431768211456) hk1 (by rw[← HT.out];exact hle) (by rw[← HT.out];exact Nat.div_add_mod' _ _))
    clear hle
    rintro e w3 ⟨rfl,hb_⟩
    have N_b2:Blk w3 (w.heap.size) #[_,_]:=Blk.below (by (repeat' (first | (with_reducible assumption) | (with_reducible refine Blk.new ?_;first | (with_reducible rfl) | (simp;done)) | (with_reducible refine Blk.alloc ?_ _) | (with_reducible refine Blk.drew ?_) | (with_reducible refine Blk.drewN ?_ _) | (with_reducible apply Blk.set2_0) | (with_reducible apply Blk.set2_1) | (with_reducible refine Blk.other ?_ _ ?_;rotate_left;focus (first | omega | (simp;done) | (simp;omega)))))) hb_
    have N_b3:Blk w3 (w.heap.size+1) #[_,_]:=Blk.below (by (repeat' (first | (with_reducible assumption) | (with_reducible refine Blk.new ?_;first | (with_reducible rfl) | (simp;done)) | (with_reducible refine Blk.alloc ?_ _) | (with_reducible refine Blk.drew ?_) | (with_reducible refine Blk.drewN ?_ _) | (with_reducible apply Blk.set2_0) | (with_reducible apply Blk.set2_1) | (with_reducible refine Blk.other ?_ _ ?_;rotate_left;focus (first | omega | (simp;done) | (simp;omega)))))) hb_
    have N_b4:Blk w3 (w.heap.size+1+1) #[_,_]:=Blk.below (by (repeat' (first | (with_reducible assumption) | (with_reducible refine Blk.new ?_;first | (with_reducible rfl) | (simp;done)) | (with_reducible refine Blk.alloc ?_ _) | (with_reducible refine Blk.drew ?_) | (with_reducible refine Blk.drewN ?_ _) | (with_reducible apply Blk.set2_0) | (with_reducible apply Blk.set2_1) | (with_reducible refine Blk.other ?_ _ ?_;rotate_left;focus (first | omega | (simp;done) | (simp;omega)))))) hb_
    have N_b6:Blk w3 (w.heap.size+1+1+1) #[_,_]:=Blk.below (by (repeat' (first | (with_reducible assumption) | (with_reducible refine Blk.new ?_;first | (with_reducible rfl) | (simp;done)) | (with_reducible refine Blk.alloc ?_ _) | (with_reducible refine Blk.drew ?_) | (with_reducible refine Blk.drewN ?_ _) | (with_reducible apply Blk.set2_0) | (with_reducible apply Blk.set2_1) | (with_reducible refine Blk.other ?_ _ ?_;rotate_left;focus (first | omega | (simp;done) | (simp;omega)))))) hb_
    have N_b7:Blk w3 (w.heap.size+1+1+1+1) #[_,_]:=Blk.below (by (repeat' (first | (with_reducible assumption) | (with_reducible refine Blk.new ?_;first | (with_reducible rfl) | (simp;done)) | (with_reducible refine Blk.alloc ?_ _) | (with_reducible refine Blk.drew ?_) | (with_reducible refine Blk.drewN ?_ _) | (with_reducible apply Blk.set2_0) | (with_reducible apply Blk.set2_1) | (with_reducible refine Blk.other ?_ _ ?_;rotate_left;focus (first | omega | (simp;done) | (simp;omega)))))) hb_
    have N_b8:Blk w3 (w.heap.size+1+1+1+1+1) #[_,_]:=Blk.below (by (repeat' (first | (with_reducible assumption) | (with_reducible refine Blk.new ?_;first | (with_reducible rfl) | (simp;done)) | (with_reducible refine Blk.alloc ?_ _) | (with_reducible refine Blk.drew ?_) | (with_reducible refine Blk.drewN ?_ _) | (with_reducible apply Blk.set2_0) | (with_reducible apply Blk.set2_1) | (with_reducible refine Blk.other ?_ _ ?_;rotate_left;focus (first | omega | (simp;done) | (simp;omega)))))) hb_
    have N_b10:Blk w3 (wr.heap.size) #[_,_]:=Blk.below (by (repeat' (first | (with_reducible assumption) | (with_reducible refine Blk.new ?_;first | (with_reducible rfl) | (simp;done)) | (with_reducible refine Blk.alloc ?_ _) | (with_reducible refine Blk.drew ?_) | (with_reducible refine Blk.drewN ?_ _) | (with_reducible apply Blk.set2_0) | (with_reducible apply Blk.set2_1) | (with_reducible refine Blk.other ?_ _ ?_;rotate_left;focus (first | omega | (simp;done) | (simp;omega)))))) hb_
    have N_b11:Blk w3 (w2.heap.size) #[_,_]:=Blk.below (by (repeat' (first | (with_reducible assumption) | (with_reducible refine Blk.new ?_;first | (with_reducible rfl) | (simp;done)) | (with_reducible refine Blk.alloc ?_ _) | (with_reducible refine Blk.drew ?_) | (with_reducible refine Blk.drewN ?_ _) | (with_reducible apply Blk.set2_0) | (with_reducible apply Blk.set2_1) | (with_reducible refine Blk.other ?_ _ ?_;rotate_left;focus (first | omega | (simp;done) | (simp;omega)))))) hb_
    have N_b12:Blk w3 (w2.heap.size+1) #[_,_]:=Blk.below (by (repeat' (first | (with_reducible assumption) | (with_reducible refine Blk.new ?_;first | (with_reducible rfl) | (simp;done)) | (with_reducible refine Blk.alloc ?_ _) | (with_reducible refine Blk.drew ?_) | (with_reducible refine Blk.drewN ?_ _) | (with_reducible apply Blk.set2_0) | (with_reducible apply Blk.set2_1) | (with_reducible refine Blk.other ?_ _ ?_;rotate_left;focus (first | omega | (simp;done) | (simp;omega)))))) hb_
    have HB_w3:Below w.heap.size w w3:=Below.trans (by go_grown) (hb_.mono (by go_size))
    have HZ_w3:w.heap.size≤w3.heap.size:=HB_w3.size
    clear hb_
    clear c_b2_0 c_b2_1 f_b2 z1_b2 z2_b2 z3_b2 z4_b2 c_b3_0 c_b3_1 f_b3 z1_b3 z2_b3 z3_b3 z4_b3 c_b4_0 c_b4_1 f_b4 z1_b4 z2_b4 z3_b4 z4_b4 c_b6_0 c_b6_1 f_b6 z1_b6 z2_b6 z3_b6 z4_b6 c_b7_0 c_b7_1 f_b7 z1_b7 z2_b7 z3_b7 z4_b7 c_b8_0 c_b8_1 f_b8 z1_b8 z2_b8 z3_b8 z4_b8 c_b10_0 c_b10_1 f_b10 z1_b10 z2_b10 z3_b10 z4_b10 K_b2 K_b3 K_b4 K_b6 K_b7 K_b8 K_b10
    have K_b2:=N_b2
    clear N_b2
    have K_b3:=N_b3
    clear N_b3
    have K_b4:=N_b4
    clear N_b4
    have K_b6:=N_b6
    clear N_b6
    have K_b7:=N_b7
    clear N_b7
    have K_b8:=N_b8
    clear N_b8
    have K_b10:=N_b10
    clear N_b10
    have K_b11:=N_b11
    clear N_b11
    have K_b12:=N_b12
    clear N_b12
    obtain ⟨c_b2_0,c_b2_1,f_b2,z0_b2,z1_b2,z2_b2,z3_b2,z4_b2⟩:=As K_b2
    obtain ⟨c_b3_0,c_b3_1,f_b3,z0_b3,z1_b3,z2_b3,z3_b3,z4_b3⟩:=As K_b3
    obtain ⟨c_b4_0,c_b4_1,f_b4,z0_b4,z1_b4,z2_b4,z3_b4,z4_b4⟩:=As K_b4
    obtain ⟨c_b6_0,c_b6_1,f_b6,z0_b6,z1_b6,z2_b6,z3_b6,z4_b6⟩:=As K_b6
    obtain ⟨c_b7_0,c_b7_1,f_b7,z0_b7,z1_b7,z2_b7,z3_b7,z4_b7⟩:=As K_b7
    obtain ⟨c_b8_0,c_b8_1,f_b8,z0_b8,z1_b8,z2_b8,z3_b8,z4_b8⟩:=As K_b8
    obtain ⟨c_b10_0,c_b10_1,f_b10,z0_b10,z1_b10,z2_b10,z3_b10,z4_b10⟩:=As K_b10
    obtain ⟨c_b11_0,c_b11_1,f_b11,z0_b11,z1_b11,z2_b11,z3_b11,z4_b11⟩:=As K_b11
    obtain ⟨c_b12_0,c_b12_1,f_b12,z0_b12,z1_b12,z2_b12,z3_b12,z4_b12⟩:=As K_b12
    go_wp2_with fail
    go_region_held3 (fun w'=>(w'.cell? ⟨wr.heap.size,0,none⟩=some (.int .u64 t1)∧w'.cell? ⟨wr.heap.size,1,none⟩=some (.int .u64 t0))∧(w'.cell? ⟨w2.heap.size,0,none⟩=some (.int .u64 m1)∧w'.cell? ⟨w2.heap.size,1,none⟩=some (.int .u64 m0))∧(w'.cell? ⟨w2.heap.size+1,0,none⟩=some (.int .u64 n1)∧w'.cell? ⟨w2.heap.size+1,1,none⟩=some (.int .u64 n0))) (first | (go_keep;done) | exact ⟨Dk (by (repeat' (first | (with_reducible assumption) | (with_reducible refine Blk.new ?_;first | (with_reducible rfl) | (simp;done)) | (with_reducible refine Blk.alloc ?_ _) | (with_reducible refine Blk.drew ?_) | (with_reducible refine Blk.drewN ?_ _) | (with_reducible apply Blk.set2_0) | (with_reducible apply Blk.set2_1) | (with_reducible refine Blk.other ?_ _ ?_;rotate_left;focus (first | omega | (simp;done) | (simp;omega)))))),Dk (by (repeat' (first | (with_reducible assumption) | (with_reducible refine Blk.new ?_;first | (with_reducible rfl) | (simp;done)) | (with_reducible refine Blk.alloc ?_ _) | (with_reducible refine Blk.drew ?_) | (with_reducible refine Blk.drewN ?_ _) | (with_reducible apply Blk.set2_0) | (with_reducible apply Blk.set2_1) | (with_reducible refine Blk.other ?_ _ ?_;rotate_left;focus (first | omega | (simp;done) | (simp;omega)))))),Dk (by (repeat' (first | (with_reducible assumption) | (with_reducible refine Blk.new ?_;first | (with_reducible rfl) | (simp;done)) | (with_reducible refine Blk.alloc ?_ _) | (with_reducible refine Blk.drew ?_) | (with_reducible refine Blk.drewN ?_ _) | (with_reducible apply Blk.set2_0) | (with_reducible apply Blk.set2_1) | (with_reducible refine Blk.other ?_ _ ?_;rotate_left;focus (first | omega | (simp;done) | (simp;omega))))))⟩) (fail)
    all_goals
     go_wp2_with fail
     go_roundw
     case rel =>
      have nxt:=nxt.out
      rw[← HT.out] at nxt
      exact ⟨k-1,T,_,_,t1,t0,_,_,_,_,by omega,by congr 1;omega,ut,um,un,nxt,(by (repeat' (first | (with_reducible assumption) | (with_reducible refine Blk.new ?_;first | (with_reducible rfl) | (simp;done)) | (with_reducible refine Blk.alloc ?_ _) | (with_reducible refine Blk.drew ?_) | (with_reducible refine Blk.drewN ?_ _) | (with_reducible apply Blk.set2_0) | (with_reducible apply Blk.set2_1) | (with_reducible refine Blk.other ?_ _ ?_;rotate_left;focus (first | omega | (simp;done) | (simp;omega)))))),(by (repeat' (first | (with_reducible assumption) | (with_reducible refine Blk.new ?_;first | (with_reducible rfl) | (simp;done)) | (with_reducible refine Blk.alloc ?_ _) | (with_reducible refine Blk.drew ?_) | (with_reducible refine Blk.drewN ?_ _) | (with_reducible apply Blk.set2_0) | (with_reducible apply Blk.set2_1) | (with_reducible refine Blk.other ?_ _ ?_;rotate_left;focus (first | omega | (simp;done) | (simp;omega)))))),(by (repeat' (first | (with_reducible assumption) | (with_reducible refine Blk.new ?_;first | (with_reducible rfl) | (simp;done)) | (with_reducible refine Blk.alloc ?_ _) | (with_reducible refine Blk.drew ?_) | (with_reducible refine Blk.drewN ?_ _) | (with_reducible apply Blk.set2_0) | (with_reducible apply Blk.set2_1) | (with_reducible refine Blk.other ?_ _ ?_;rotate_left;focus (first | omega | (simp;done) | (simp;omega)))))),(by (repeat' (first | (with_reducible assumption) | (with_reducible refine Blk.new ?_;first | (with_reducible rfl) | (simp;done)) | (with_reducible refine Blk.alloc ?_ _) | (with_reducible refine Blk.drew ?_) | (with_reducible refine Blk.drewN ?_ _) | (with_reducible apply Blk.set2_0) | (with_reducible apply Blk.set2_1) | (with_reducible refine Blk.other ?_ _ ?_;rotate_left;focus (first | omega | (simp;done) | (simp;omega)))))),(by (repeat' (first | (with_reducible assumption) | (with_reducible refine Blk.new ?_;first | (with_reducible rfl) | (simp;done)) | (with_reducible refine Blk.alloc ?_ _) | (with_reducible refine Blk.drew ?_) | (with_reducible refine Blk.drewN ?_ _) | (with_reducible apply Blk.set2_0) | (with_reducible apply Blk.set2_1) | (with_reducible refine Blk.other ?_ _ ?_;rotate_left;focus (first | omega | (simp;done) | (simp;omega)))))),(by (repeat' (first | (with_reducible assumption) | (with_reducible refine Blk.new ?_;first | (with_reducible rfl) | (simp;done)) | (with_reducible refine Blk.alloc ?_ _) | (with_reducible refine Blk.drew ?_) | (with_reducible refine Blk.drewN ?_ _) | (with_reducible apply Blk.set2_0) | (with_reducible apply Blk.set2_1) | (with_reducible refine Blk.other ?_ _ ?_;rotate_left;focus (first | omega | (simp;done) | (simp;omega)))))),by go_grown⟩
     case measure=>simp[intOf];omega
   ·have hcm : ¬ Ch (T*T) (h*340282366920938463463374607431768211456+l)≤0:=by
     unfold Ch;repeat' split
     all_goals omega
    obtain ⟨cm,ecm⟩ : ∃ cm,cm=Ch (T*T) (h*340282366920938463463374607431768211456+l):=⟨_,rfl⟩
    rw[← ecm] at hcm ⊢
    clear ecm
    have nxt:=Lib.hid (inv.no hk1 (by rw[← HT.out];omega))
    clear hle
    rintro e w3 ⟨rfl,hb_⟩
    have N_b2:Blk w3 (w.heap.size) #[_,_]:=Blk.below (by (repeat' (first | (with_reducible assumption) | (with_reducible refine Blk.new ?_;first | (with_reducible rfl) | (simp;done)) | (with_reducible refine Blk.alloc ?_ _) | (with_reducible refine Blk.drew ?_) | (with_reducible refine Blk.drewN ?_ _) | (with_reducible apply Blk.set2_0) | (with_reducible apply Blk.set2_1) | (with_reducible refine Blk.other ?_ _ ?_;rotate_left;focus (first | omega | (simp;done) | (simp;omega)))))) hb_
    have N_b3:Blk w3 (w.heap.size+1) #[_,_]:=Blk.below (by (repeat' (first | (with_reducible assumption) | (with_reducible refine Blk.new ?_;first | (with_reducible rfl) | (simp;done)) | (with_reducible refine Blk.alloc ?_ _) | (with_reducible refine Blk.drew ?_) | (with_reducible refine Blk.drewN ?_ _) | (with_reducible apply Blk.set2_0) | (with_reducible apply Blk.set2_1) | (with_reducible refine Blk.other ?_ _ ?_;rotate_left;focus (first | omega | (simp;done) | (simp;omega)))))) hb_
    have N_b4:Blk w3 (w.heap.size+1+1) #[_,_]:=Blk.below (by (repeat' (first | (with_reducible assumption) | (with_reducible refine Blk.new ?_;first | (with_reducible rfl) | (simp;done)) | (with_reducible refine Blk.alloc ?_ _) | (with_reducible refine Blk.drew ?_) | (with_reducible refine Blk.drewN ?_ _) | (with_reducible apply Blk.set2_0) | (with_reducible apply Blk.set2_1) | (with_reducible refine Blk.other ?_ _ ?_;rotate_left;focus (first | omega | (simp;done) | (simp;omega)))))) hb_
    have N_b6:Blk w3 (w.heap.size+1+1+1) #[_,_]:=Blk.below (by (repeat' (first | (with_reducible assumption) | (with_reducible refine Blk.new ?_;first | (with_reducible rfl) | (simp;done)) | (with_reducible refine Blk.alloc ?_ _) | (with_reducible refine Blk.drew ?_) | (with_reducible refine Blk.drewN ?_ _) | (with_reducible apply Blk.set2_0) | (with_reducible apply Blk.set2_1) | (with_reducible refine Blk.other ?_ _ ?_;rotate_left;focus (first | omega | (simp;done) | (simp;omega)))))) hb_
    have N_b7:Blk w3 (w.heap.size+1+1+1+1) #[_,_]:=Blk.below (by (repeat' (first | (with_reducible assumption) | (with_reducible refine Blk.new ?_;first | (with_reducible rfl) | (simp;done)) | (with_reducible refine Blk.alloc ?_ _) | (with_reducible refine Blk.drew ?_) | (with_reducible refine Blk.drewN ?_ _) | (with_reducible apply Blk.set2_0) | (with_reducible apply Blk.set2_1) | (with_reducible refine Blk.other ?_ _ ?_;rotate_left;focus (first | omega | (simp;done) | (simp;omega)))))) hb_
    have N_b8:Blk w3 (w.heap.size+1+1+1+1+1) #[_,_]:=Blk.below (by (repeat' (first | (with_reducible assumption) | (with_reducible refine Blk.new ?_;first | (with_reducible rfl) | (simp;done)) | (with_reducible refine Blk.alloc ?_ _) | (with_reducible refine Blk.drew ?_) | (with_reducible refine Blk.drewN ?_ _) | (with_reducible apply Blk.set2_0) | (with_reducible apply Blk.set2_1) | (with_reducible refine Blk.other ?_ _ ?_;rotate_left;focus (first | omega | (simp;done) | (simp;omega)))))) hb_
    have HB_w3:Below w.heap.size w w3:=Below.trans (by go_grown) (hb_.mono (by go_size))
    have HZ_w3:w.heap.size≤w3.heap.size:=HB_w3.size
    clear hb_
    clear c_b2_0 c_b2_1 f_b2 z1_b2 z2_b2 z3_b2 z4_b2 c_b3_0 c_b3_1 f_b3 z1_b3 z2_b3 z3_b3 z4_b3 c_b4_0 c_b4_1 f_b4 z1_b4 z2_b4 z3_b4 z4_b4 c_b6_0 c_b6_1 f_b6 z1_b6 z2_b6 z3_b6 z4_b6 c_b7_0 c_b7_1 f_b7 z1_b7 z2_b7 z3_b7 z4_b7 c_b8_0 c_b8_1 f_b8 z1_b8 z2_b8 z3_b8 z4_b8 c_b10_0 c_b10_1 f_b10 z1_b10 z2_b10 z3_b10 z4_b10 K_b2 K_b3 K_b4 K_b6 K_b7 K_b8 K_b10
    have K_b2:=N_b2
    clear N_b2
    have K_b3:=N_b3
    clear N_b3
    have K_b4:=N_b4
    clear N_b4
    have K_b6:=N_b6
    clear N_b6
    have K_b7:=N_b7
    clear N_b7
    have K_b8:=N_b8
    clear N_b8
    obtain ⟨c_b2_0,c_b2_1,f_b2,z0_b2,z1_b2,z2_b2,z3_b2,z4_b2⟩:=As K_b2
    obtain ⟨c_b3_0,c_b3_1,f_b3,z0_b3,z1_b3,z2_b3,z3_b3,z4_b3⟩:=As K_b3
    obtain ⟨c_b4_0,c_b4_1,f_b4,z0_b4,z1_b4,z2_b4,z3_b4,z4_b4⟩:=As K_b4
    obtain ⟨c_b6_0,c_b6_1,f_b6,z0_b6,z1_b6,z2_b6,z3_b6,z4_b6⟩:=As K_b6
    obtain ⟨c_b7_0,c_b7_1,f_b7,z0_b7,z1_b7,z2_b7,z3_b7,z4_b7⟩:=As K_b7
    obtain ⟨c_b8_0,c_b8_1,f_b8,z0_b8,z1_b8,z2_b8,z3_b8,z4_b8⟩:=As K_b8
    go_wp2_with fail
    go_roundw
    case rel=>exact ⟨k-1,r,x,y,r1,r0,x1,x0,y1,y0,by omega,by congr 1;omega,ur,ux,uy,nxt.out,(by (repeat' (first | (with_reducible assumption) | (with_reducible refine Blk.new ?_;first | (with_reducible rfl) | (simp;done)) | (with_reducible refine Blk.alloc ?_ _) | (with_reducible refine Blk.drew ?_) | (with_reducible refine Blk.drewN ?_ _) | (with_reducible apply Blk.set2_0) | (with_reducible apply Blk.set2_1) | (with_reducible refine Blk.other ?_ _ ?_;rotate_left;focus (first | omega | (simp;done) | (simp;omega)))))),(by (repeat' (first | (with_reducible assumption) | (with_reducible refine Blk.new ?_;first | (with_reducible rfl) | (simp;done)) | (with_reducible refine Blk.alloc ?_ _) | (with_reducible refine Blk.drew ?_) | (with_reducible refine Blk.drewN ?_ _) | (with_reducible apply Blk.set2_0) | (with_reducible apply Blk.set2_1) | (with_reducible refine Blk.other ?_ _ ?_;rotate_left;focus (first | omega | (simp;done) | (simp;omega)))))),(by (repeat' (first | (with_reducible assumption) | (with_reducible refine Blk.new ?_;first | (with_reducible rfl) | (simp;done)) | (with_reducible refine Blk.alloc ?_ _) | (with_reducible refine Blk.drew ?_) | (with_reducible refine Blk.drewN ?_ _) | (with_reducible apply Blk.set2_0) | (with_reducible apply Blk.set2_1) | (with_reducible refine Blk.other ?_ _ ?_;rotate_left;focus (first | omega | (simp;done) | (simp;omega)))))),(by (repeat' (first | (with_reducible assumption) | (with_reducible refine Blk.new ?_;first | (with_reducible rfl) | (simp;done)) | (with_reducible refine Blk.alloc ?_ _) | (with_reducible refine Blk.drew ?_) | (with_reducible refine Blk.drewN ?_ _) | (with_reducible apply Blk.set2_0) | (with_reducible apply Blk.set2_1) | (with_reducible refine Blk.other ?_ _ ?_;rotate_left;focus (first | omega | (simp;done) | (simp;omega)))))),(by (repeat' (first | (with_reducible assumption) | (with_reducible refine Blk.new ?_;first | (with_reducible rfl) | (simp;done)) | (with_reducible refine Blk.alloc ?_ _) | (with_reducible refine Blk.drew ?_) | (with_reducible refine Blk.drewN ?_ _) | (with_reducible apply Blk.set2_0) | (with_reducible apply Blk.set2_1) | (with_reducible refine Blk.other ?_ _ ?_;rotate_left;focus (first | omega | (simp;done) | (simp;omega)))))),(by (repeat' (first | (with_reducible assumption) | (with_reducible refine Blk.new ?_;first | (with_reducible rfl) | (simp;done)) | (with_reducible refine Blk.alloc ?_ _) | (with_reducible refine Blk.drew ?_) | (with_reducible refine Blk.drewN ?_ _) | (with_reducible apply Blk.set2_0) | (with_reducible apply Blk.set2_1) | (with_reducible refine Blk.other ?_ _ ?_;rotate_left;focus (first | omega | (simp;done) | (simp;omega)))))),by go_grown⟩
    case measure=>simp[intOf];omega
  ·obtain rfl:k=0:=by omega
   have fin:=Lib.hid inv
   clear inv
   by_cases c1:x1=h1
   ·subst c1
    by_cases c2:x0=h0
    ·subst c2
     have ex:x=h:=ux.fn hh
     by_cases c3:y1=l1
     ·subst c3
      by_cases c4:y0=l0
      ·subst c4
       have ey:y=l:=uy.fn hl
       go_wp2_with fail
       go_region_held3 (fun w'=>(w'.cell? ⟨w.heap.size,0,none⟩=some (.int .u64 x1)∧w'.cell? ⟨w.heap.size,1,none⟩=some (.int .u64 x0))∧(w'.cell? ⟨w.heap.size+1,0,none⟩=some (.int .u64 y1)∧w'.cell? ⟨w.heap.size+1,1,none⟩=some (.int .u64 y0))∧(w'.cell? ⟨w.heap.size+1+1+1,0,none⟩=some (.int .u64 r1)∧w'.cell? ⟨w.heap.size+1+1+1,1,none⟩=some (.int .u64 r0))∧(w'.cell? ⟨w.heap.size+1+1+1+1,0,none⟩=some (.int .u64 x1)∧w'.cell? ⟨w.heap.size+1+1+1+1,1,none⟩=some (.int .u64 x0))∧(w'.cell? ⟨w.heap.size+1+1+1+1+1,0,none⟩=some (.int .u64 y1)∧w'.cell? ⟨w.heap.size+1+1+1+1+1,1,none⟩=some (.int .u64 y0))) (first | (go_keep;done) | exact ⟨Dk (by (repeat' (first | (with_reducible assumption) | (with_reducible refine Blk.new ?_;first | (with_reducible rfl) | (simp;done)) | (with_reducible refine Blk.alloc ?_ _) | (with_reducible refine Blk.drew ?_) | (with_reducible refine Blk.drewN ?_ _) | (with_reducible apply Blk.set2_0) | (with_reducible apply Blk.set2_1) | (with_reducible refine Blk.other ?_ _ ?_;rotate_left;focus (first | omega | (simp;done) | (simp;omega)))))),Dk (by (repeat' (first | (with_reducible assumption) | (with_reducible refine Blk.new ?_;first | (with_reducible rfl) | (simp;done)) | (with_reducible refine Blk.alloc ?_ _) | (with_reducible refine Blk.drew ?_) | (with_reducible refine Blk.drewN ?_ _) | (with_reducible apply Blk.set2_0) | (with_reducible apply Blk.set2_1) | (with_reducible refine Blk.other ?_ _ ?_;rotate_left;focus (first | omega | (simp;done) | (simp;omega)))))),Dk (by (repeat' (first | (with_reducible assumption) | (with_reducible refine Blk.new ?_;first | (with_reducible rfl) | (simp;done)) | (with_reducible refine Blk.alloc ?_ _) | (with_reducible refine Blk.drew ?_) | (with_reducible refine Blk.drewN ?_ _) | (with_reducible apply Blk.set2_0) | (with_reducible apply Blk.set2_1) | (with_reducible refine Blk.other ?_ _ ?_;rotate_left;focus (first | omega | (simp;done) | (simp;omega)))))),Dk (by (repeat' (first | (with_reducible assumption) | (with_reducible refine Blk.new ?_;first | (with_reducible rfl) | (simp;done)) | (with_reducible refine Blk.alloc ?_ _) | (with_reducible refine Blk.drew ?_) | (with_reducible refine Blk.drewN ?_ _) | (with_reducible apply Blk.set2_0) | (with_reducible apply Blk.set2_1) | (with_reducible refine Blk.other ?_ _ ?_;rotate_left;focus (first | omega | (simp;done) | (simp;omega)))))),Dk (by (repeat' (first | (with_reducible assumption) | (with_reducible refine Blk.new ?_;first | (with_reducible rfl) | (simp;done)) | (with_reducible refine Blk.alloc ?_ _) | (with_reducible refine Blk.drew ?_) | (with_reducible refine Blk.drewN ?_ _) | (with_reducible apply Blk.set2_0) | (with_reducible apply Blk.set2_1) | (with_reducible refine Blk.other ?_ _ ?_;rotate_left;focus (first | omega | (simp;done) | (simp;omega))))))⟩) (fail)
       all_goals
        go_wp2_with fail
        (try simp only[Exit.inBlock,Exit.then])
        refine bodyPost_ret (v := ?_) ?_ rfl ?_
        rotate_left
        ·simp only[results,Tryz.results75]
         go_simp
         exact rfl
        have fin:=fin.out
        exact ⟨r,_,_,true,rfl,by have:=fin.sq;rw[ex,ey] at this;simp[this],ur,fin.le,by have:=fin.gt;simpa using this,by go_grown⟩
      ·have ne:y≠l:=fun e=>c4 ((e ▸ uy).inj hl).2
       have c4':(y0==l0)=false:=by simpa using c4
       go_wp2_with fail
       go_region_held3 (fun w'=>(w'.cell? ⟨w.heap.size,0,none⟩=some (.int .u64 x1)∧w'.cell? ⟨w.heap.size,1,none⟩=some (.int .u64 x0))∧(w'.cell? ⟨w.heap.size+1,0,none⟩=some (.int .u64 y1)∧w'.cell? ⟨w.heap.size+1,1,none⟩=some (.int .u64 l0))∧(w'.cell? ⟨w.heap.size+1+1+1,0,none⟩=some (.int .u64 r1)∧w'.cell? ⟨w.heap.size+1+1+1,1,none⟩=some (.int .u64 r0))∧(w'.cell? ⟨w.heap.size+1+1+1+1,0,none⟩=some (.int .u64 x1)∧w'.cell? ⟨w.heap.size+1+1+1+1,1,none⟩=some (.int .u64 x0))∧(w'.cell? ⟨w.heap.size+1+1+1+1+1,0,none⟩=some (.int .u64 y1)∧w'.cell? ⟨w.heap.size+1+1+1+1+1,1,none⟩=some (.int .u64 y0))) (first | (go_keep;done) | exact ⟨Dk (by (repeat' (first | (with_reducible assumption) | (with_reducible refine Blk.new ?_;first | (with_reducible rfl) | (simp;done)) | (with_reducible refine Blk.alloc ?_ _) | (with_reducible refine Blk.drew ?_) | (with_reducible refine Blk.drewN ?_ _) | (with_reducible apply Blk.set2_0) | (with_reducible apply Blk.set2_1) | (with_reducible refine Blk.other ?_ _ ?_;rotate_left;focus (first | omega | (simp;done) | (simp;omega)))))),Dk (by (repeat' (first | (with_reducible assumption) | (with_reducible refine Blk.new ?_;first | (with_reducible rfl) | (simp;done)) | (with_reducible refine Blk.alloc ?_ _) | (with_reducible refine Blk.drew ?_) | (with_reducible refine Blk.drewN ?_ _) | (with_reducible apply Blk.set2_0) | (with_reducible apply Blk.set2_1) | (with_reducible refine Blk.other ?_ _ ?_;rotate_left;focus (first | omega | (simp;done) | (simp;omega)))))),Dk (by (repeat' (first | (with_reducible assumption) | (with_reducible refine Blk.new ?_;first | (with_reducible rfl) | (simp;done)) | (with_reducible refine Blk.alloc ?_ _) | (with_reducible refine Blk.drew ?_) | (with_reducible refine Blk.drewN ?_ _) | (with_reducible apply Blk.set2_0) | (with_reducible apply Blk.set2_1) | (with_reducible refine Blk.other ?_ _ ?_;rotate_left;focus (first | omega | (simp;done) | (simp;omega)))))),Dk (by (repeat' (first | (with_reducible assumption) | (with_reducible refine Blk.new ?_;first | (with_reducible rfl) | (simp;done)) | (with_reducible refine Blk.alloc ?_ _) | (with_reducible refine Blk.drew ?_) | (with_reducible refine Blk.drewN ?_ _) | (with_reducible apply Blk.set2_0) | (with_reducible apply Blk.set2_1) | (with_reducible refine Blk.other ?_ _ ?_;rotate_left;focus (first | omega | (simp;done) | (simp;omega)))))),Dk (by (repeat' (first | (with_reducible assumption) | (with_reducible refine Blk.new ?_;first | (with_reducible rfl) | (simp;done)) | (with_reducible refine Blk.alloc ?_ _) | (with_reducible refine Blk.drew ?_) | (with_reducible refine Blk.drewN ?_ _) | (with_reducible apply Blk.set2_0) | (with_reducible apply Blk.set2_1) | (with_reducible refine Blk.other ?_ _ ?_;rotate_left;focus (first | omega | (simp;done) | (simp;omega))))))⟩) (fail)
       all_goals
        go_wp2_with fail
        (try simp only[Exit.inBlock,Exit.then])
        refine bodyPost_ret (v := ?_) ?_ rfl ?_
        rotate_left
        ·simp only[results,Tryz.results75]
         go_simp
         exact rfl
        have fin:=fin.out
        exact ⟨r,_,_,false,rfl,by have:=fin.sq;have:=ux.lt;have:=uy.lt;have:=hh.lt;have:=hl.lt;simp;omega,ur,fin.le,by have:=fin.gt;simpa using this,by go_grown⟩
     ·have ne:y≠l:=fun e=>c3 ((e ▸ uy).inj hl).1
      have c3':(y1==l1)=false:=by simpa using c3
      go_wp2_with fail
      go_region_held3 (fun w'=>(w'.cell? ⟨w.heap.size,0,none⟩=some (.int .u64 x1)∧w'.cell? ⟨w.heap.size,1,none⟩=some (.int .u64 x0))∧(w'.cell? ⟨w.heap.size+1,0,none⟩=some (.int .u64 l1)∧w'.cell? ⟨w.heap.size+1,1,none⟩=some (.int .u64 l0))∧(w'.cell? ⟨w.heap.size+1+1+1,0,none⟩=some (.int .u64 r1)∧w'.cell? ⟨w.heap.size+1+1+1,1,none⟩=some (.int .u64 r0))∧(w'.cell? ⟨w.heap.size+1+1+1+1,0,none⟩=some (.int .u64 x1)∧w'.cell? ⟨w.heap.size+1+1+1+1,1,none⟩=some (.int .u64 x0))∧(w'.cell? ⟨w.heap.size+1+1+1+1+1,0,none⟩=some (.int .u64 y1)∧w'.cell? ⟨w.heap.size+1+1+1+1+1,1,none⟩=some (.int .u64 y0))) (first | (go_keep;done) | exact ⟨Dk (by (repeat' (first | (with_reducible assumption) | (with_reducible refine Blk.new ?_;first | (with_reducible rfl) | (simp;done)) | (with_reducible refine Blk.alloc ?_ _) | (with_reducible refine Blk.drew ?_) | (with_reducible refine Blk.drewN ?_ _) | (with_reducible apply Blk.set2_0) | (with_reducible apply Blk.set2_1) | (with_reducible refine Blk.other ?_ _ ?_;rotate_left;focus (first | omega | (simp;done) | (simp;omega)))))),Dk (by (repeat' (first | (with_reducible assumption) | (with_reducible refine Blk.new ?_;first | (with_reducible rfl) | (simp;done)) | (with_reducible refine Blk.alloc ?_ _) | (with_reducible refine Blk.drew ?_) | (with_reducible refine Blk.drewN ?_ _) | (with_reducible apply Blk.set2_0) | (with_reducible apply Blk.set2_1) | (with_reducible refine Blk.other ?_ _ ?_;rotate_left;focus (first | omega | (simp;done) | (simp;omega)))))),Dk (by (repeat' (first | (with_reducible assumption) | (with_reducible refine Blk.new ?_;first | (with_reducible rfl) | (simp;done)) | (with_reducible refine Blk.alloc ?_ _) | (with_reducible refine Blk.drew ?_) | (with_reducible refine Blk.drewN ?_ _) | (with_reducible apply Blk.set2_0) | (with_reducible apply Blk.set2_1) | (with_reducible refine Blk.other ?_ _ ?_;rotate_left;focus (first | omega | (simp;done) | (simp;omega)))))),Dk (by (repeat' (first | (with_reducible assumption) | (with_reducible refine Blk.new ?_;first | (with_reducible rfl) | (simp;done)) | (with_reducible refine Blk.alloc ?_ _) | (with_reducible refine Blk.drew ?_) | (with_reducible refine Blk.drewN ?_ _) | (with_reducible apply Blk.set2_0) | (with_reducible apply Blk.set2_1) | (with_reducible refine Blk.other ?_ _ ?_;rotate_left;focus (first | omega | (simp;done) | (simp;omega)))))),Dk (by (repeat' (first | (with_reducible assumption) | (with_reducible refine Blk.new ?_;first | (with_reducible rfl) | (simp;done)) | (with_reducible refine Blk.alloc ?_ _) | (with_reducible refine Blk.drew ?_) | (with_reducible refine Blk.drewN ?_ _) | (with_reducible apply Blk.set2_0) | (with_reducible apply Blk.set2_1) | (with_reducible refine Blk.other ?_ _ ?_;rotate_left;focus (first | omega | (simp;done) | (simp;omega))))))⟩) (fail)
      all_goals
       go_wp2_with fail
       (try simp only[Exit.inBlock,Exit.then])
       refine bodyPost_ret (v := ?_) ?_ rfl ?_
       rotate_left
       ·simp only[results,Tryz.results75]
        go_simp
        exact rfl
       have fin:=fin.out
       exact ⟨r,_,_,false,rfl,by have:=fin.sq;have:=ux.lt;have:=uy.lt;have:=hh.lt;have:=hl.lt;simp;omega,ur,fin.le,by have:=fin.gt;simpa using this,by go_grown⟩
    ·have ne:x≠h:=fun e=>c2 ((e ▸ ux).inj hh).2
     have c2':(x0==h0)=false:=by simpa using c2
     go_wp2_with fail
     go_region
     all_goals
      go_wp2_with fail
      (try simp only[Exit.inBlock,Exit.then])
      refine bodyPost_ret (v := ?_) ?_ rfl ?_
      rotate_left
      ·simp only[results,Tryz.results75]
       go_simp
       exact rfl
      have fin:=fin.out
      exact ⟨r,_,_,false,rfl,by have:=fin.sq;have:=ux.lt;have:=uy.lt;have:=hh.lt;have:=hl.lt;simp;omega,ur,fin.le,by have:=fin.gt;simpa using this,by go_grown⟩
   ·have ne:x≠h:=fun e=>c1 ((e ▸ ux).inj hh).1
    have c1':(x1==h1)=false:=by simpa using c1
    go_wp2_with fail
    go_region
    all_goals
     go_wp2_with fail
     (try simp only[Exit.inBlock,Exit.then])
     refine bodyPost_ret (v := ?_) ?_ rfl ?_
     rotate_left
     ·simp only[results,Tryz.results75]
      go_simp
      exact rfl
     have fin:=fin.out
     exact ⟨r,_,_,false,rfl,by have:=fin.sq;have:=ux.lt;have:=uy.lt;have:=hh.lt;have:=hl.lt;simp;omega,ur,fin.le,by have:=fin.gt;simpa using this,by go_grown⟩
end Go.Proofs.YtdkgnmiiibpnnaaGreatDoor
