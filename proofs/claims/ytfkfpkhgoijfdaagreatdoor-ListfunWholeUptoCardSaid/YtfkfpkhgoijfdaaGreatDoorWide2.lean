/- The contracts of package wide's comparisons and sums of four words, for all arguments. -/
import Derived.Test.YtfkfpkhgoijfdaaGreatDoorWide
import Derived.Handy
import Derived.Test.YtfkfpkhgoijfdaaGreatDoorBlk
import Derived.Deep.RegionWith
import Derived.Deep.DeepCutAuto
namespace Go.Proofs.YtfkfpkhgoijfdaaGreatDoor
open Go.RowKit
theorem Vs (x:Int) (w:World) :
  Calls Tryz.prog 73 #[.int .u64 x] w fun e w'=>e=.returned (.agg #[.int .u64 0,.int .u64 x])∧Below w.heap.size w w':=by
 go_enter Tryz.func73,Tryz.ntmps73
 go_wp2_with fail
 go_returns
 exact ⟨rfl,by go_grown⟩
theorem Ii {a1 a0:Int} {a:Nat} (ha:IsU a1 a0 a) (w:World) :
  Calls Tryz.prog 100 #[.agg #[.int .u64 a1,.int .u64 a0]] w fun e w'=>e=.returned (.bool (Lg a))∧Below w.heap.size w w':=by
 obtain ⟨p1,p2,p3,p4,p5⟩:=ha
 by_cases h1:a1=0
 ·subst h1
  by_cases h0:a0=0
  ·subst h0
   rw[Xe (by omega)]
   clear p5
   go_enter Tryz.func100,Tryz.ntmps100
   go_wp2_with fail
   go_returns
   exact ⟨rfl,by go_grown⟩
  ·rw[Qn (by omega)]
   clear p5
   have h:(a0==0)=false:=by simpa using h0
   go_enter Tryz.func100,Tryz.ntmps100
   go_wp2_with fail
   go_returns
   exact ⟨rfl,by go_grown⟩
 ·rw[Qn (by omega)]
  clear p5
  have h:(a1==0)=false:=by simpa using h1
  go_enter Tryz.func100,Tryz.ntmps100
  go_wp2_with fail
  go_returns
  exact ⟨rfl,by go_grown⟩
theorem a9w {a1 a0 b1 b0:Int} {a b:Nat} (ha:IsU a1 a0 a) (hb:IsU b1 b0 b) (w:World) :
  Calls Tryz.prog 98 #[.agg #[.int .u64 a1,.int .u64 a0],.agg #[.int .u64 b1,.int .u64 b0]] w fun e w'=>e=.returned (.int .i64 (Lv a b))∧Below w.heap.size w w':=by
 obtain ⟨p1,p2,p3,p4,p5⟩:=ha
 obtain ⟨q1,q2,q3,q4,q5⟩:=hb
 by_cases h1:a1<b1
 ·rw[a22 (by omega)]
  clear p5 q5
  go_enter Tryz.func98,Tryz.ntmps98
  go_wp2_with fail
  go_returns
  exact ⟨rfl,by go_grown⟩
 ·by_cases h2:a1=b1
  ·subst h2
   by_cases h3:a0<b0
   ·rw[a22 (by omega)]
    clear p5 q5
    go_enter Tryz.func98,Tryz.ntmps98
    go_wp2_with fail
    go_returns
    exact ⟨rfl,by go_grown⟩
   ·by_cases h4:a0=b0
    ·subst h4
     rw[show a=b by omega,b2m]
     clear p5 q5
     go_enter Tryz.func98,Tryz.ntmps98
     go_wp2_with fail
     go_returns
     exact ⟨rfl,by go_grown⟩
    ·rw[a3k (by omega)]
     clear p5 q5
     go_enter Tryz.func98,Tryz.ntmps98
     go_wp2_with fail
     go_returns
     exact ⟨rfl,by go_grown⟩
  ·rw[a3k (by omega)]
   clear p5 q5
   go_enter Tryz.func98,Tryz.ntmps98
   go_wp2_with fail
   go_returns
   exact ⟨rfl,by go_grown⟩
theorem b1t {a b c d:Nat} {o2 o3:Int} (la:a<340282366920938463463374607431768211456) (lb:b<340282366920938463463374607431768211456) (lc:c<340282366920938463463374607431768211456) (ld:d<340282366920938463463374607431768211456)
  (k2:IsW o2 ((a+b) / 340282366920938463463374607431768211456)) (k3:IsW o3 (((a+b) % 340282366920938463463374607431768211456+(c+d) / 340282366920938463463374607431768211456) / 340282366920938463463374607431768211456)) :
  IsW (IntKind.u64.wrap (o2+o3)) ((a*340282366920938463463374607431768211456+c+(b*340282366920938463463374607431768211456+d)) / 115792089237316195423570985008687907853269984665640564039457584007913129639936):=by
 obtain ⟨y1,y2,y3⟩:=k2
 obtain ⟨u1,u2,u3⟩:=k3
 rw[IntKind.wrap_u64]
 refine ⟨by omega,by omega,by omega⟩
set_option maxHeartbeats 800000 in
theorem a52 {a1 a0 c1 c0 b1 b0 d1 d0:Int} {a b c d:Nat} (ha:IsU a1 a0 a) (hc:IsU c1 c0 c) (hb:IsU b1 b0 b) (hd:IsU d1 d0 d) (w:World) :
  Calls Tryz.prog 174 #[.agg #[.int .u64 a1,.int .u64 a0],.agg #[.int .u64 c1,.int .u64 c0],.agg #[.int .u64 b1,.int .u64 b0],.agg #[.int .u64 d1,.int .u64 d0]] w fun e w' =>
   ∃ h1 h0 l1 l0 o:Int,e=.returned (.tuple #[.agg #[.int .u64 h1,.int .u64 h0],.agg #[.int .u64 l1,.int .u64 l0],.int .u64 o]) ∧
    IsU h1 h0 ((a*340282366920938463463374607431768211456+c+(b*340282366920938463463374607431768211456+d)) / 340282366920938463463374607431768211456 % 340282366920938463463374607431768211456) ∧
    IsU l1 l0 ((a*340282366920938463463374607431768211456+c+(b*340282366920938463463374607431768211456+d)) % 340282366920938463463374607431768211456) ∧
    IsW o ((a*340282366920938463463374607431768211456+c+(b*340282366920938463463374607431768211456+d)) / 115792089237316195423570985008687907853269984665640564039457584007913129639936)∧Below w.heap.size w w':=by
 go_enter Tryz.func174,Tryz.ntmps174
 go_wp2_with fail
 refine (Nt hc hd _).mono ?_
 rintro e w1 ⟨l1,l0,o,rfl,u1,k1,hb_⟩
 have N_b4:Blk w1 (w.heap.size) #[_,_]:=Blk.below (by (repeat' (first | (with_reducible assumption) | (with_reducible refine Blk.new ?_;first | (with_reducible rfl) | (simp;done)) | (with_reducible refine Blk.alloc ?_ _) | (with_reducible refine Blk.drew ?_) | (with_reducible refine Blk.drewN ?_ _) | (with_reducible apply Blk.set2_0) | (with_reducible apply Blk.set2_1) | (with_reducible refine Blk.other ?_ _ ?_;rotate_left;focus (first | omega | (simp;done) | (simp;omega)))))) hb_
 have N_b6:Blk w1 (w.heap.size+1+1) #[_,_]:=Blk.below (by (repeat' (first | (with_reducible assumption) | (with_reducible refine Blk.new ?_;first | (with_reducible rfl) | (simp;done)) | (with_reducible refine Blk.alloc ?_ _) | (with_reducible refine Blk.drew ?_) | (with_reducible refine Blk.drewN ?_ _) | (with_reducible apply Blk.set2_0) | (with_reducible apply Blk.set2_1) | (with_reducible refine Blk.other ?_ _ ?_;rotate_left;focus (first | omega | (simp;done) | (simp;omega)))))) hb_
 have N_b8:Blk w1 (w.heap.size+1+1+1+1) #[_,_]:=Blk.below (by (repeat' (first | (with_reducible assumption) | (with_reducible refine Blk.new ?_;first | (with_reducible rfl) | (simp;done)) | (with_reducible refine Blk.alloc ?_ _) | (with_reducible refine Blk.drew ?_) | (with_reducible refine Blk.drewN ?_ _) | (with_reducible apply Blk.set2_0) | (with_reducible apply Blk.set2_1) | (with_reducible refine Blk.other ?_ _ ?_;rotate_left;focus (first | omega | (simp;done) | (simp;omega)))))) hb_
 have N_b9:Blk w1 (w.heap.size+1+1+1+1+1) #[_,_]:=Blk.below (by (repeat' (first | (with_reducible assumption) | (with_reducible refine Blk.new ?_;first | (with_reducible rfl) | (simp;done)) | (with_reducible refine Blk.alloc ?_ _) | (with_reducible refine Blk.drew ?_) | (with_reducible refine Blk.drewN ?_ _) | (with_reducible apply Blk.set2_0) | (with_reducible apply Blk.set2_1) | (with_reducible refine Blk.other ?_ _ ?_;rotate_left;focus (first | omega | (simp;done) | (simp;omega)))))) hb_
 have HB_w1:Below w.heap.size w w1:=Below.trans (by go_grown) (hb_.mono (by go_size))
 have HZ_w1:w.heap.size≤w1.heap.size:=HB_w1.size
 clear hb_
 have K_b4:=N_b4
 clear N_b4
 have K_b6:=N_b6
 clear N_b6
 have K_b8:=N_b8
 clear N_b8
 have K_b9:=N_b9
 clear N_b9
 obtain ⟨c_b4_0,c_b4_1,f_b4,z0_b4,z1_b4,z2_b4,z3_b4,z4_b4⟩:=Cx K_b4
 obtain ⟨c_b6_0,c_b6_1,f_b6,z0_b6,z1_b6,z2_b6,z3_b6,z4_b6⟩:=Cx K_b6
 obtain ⟨c_b8_0,c_b8_1,f_b8,z0_b8,z1_b8,z2_b8,z3_b8,z4_b8⟩:=Cx K_b8
 obtain ⟨c_b9_0,c_b9_1,f_b9,z0_b9,z1_b9,z2_b9,z3_b9,z4_b9⟩:=Cx K_b9
 go_wp2_with fail
 refine (Nt ha hb _).mono ?_
 rintro e w2 ⟨h1,h0,o2,rfl,u2,k2,hb_⟩
 have N_b8:Blk w2 (w.heap.size+1+1+1+1) #[_,_]:=Blk.below (by (repeat' (first | (with_reducible assumption) | (with_reducible refine Blk.new ?_;first | (with_reducible rfl) | (simp;done)) | (with_reducible refine Blk.alloc ?_ _) | (with_reducible refine Blk.drew ?_) | (with_reducible refine Blk.drewN ?_ _) | (with_reducible apply Blk.set2_0) | (with_reducible apply Blk.set2_1) | (with_reducible refine Blk.other ?_ _ ?_;rotate_left;focus (first | omega | (simp;done) | (simp;omega)))))) hb_
 have N_b9:Blk w2 (w.heap.size+1+1+1+1+1) #[_,_]:=Blk.below (by (repeat' (first | (with_reducible assumption) | (with_reducible refine Blk.new ?_;first | (with_reducible rfl) | (simp;done)) | (with_reducible refine Blk.alloc ?_ _) | (with_reducible refine Blk.drew ?_) | (with_reducible refine Blk.drewN ?_ _) | (with_reducible apply Blk.set2_0) | (with_reducible apply Blk.set2_1) | (with_reducible refine Blk.other ?_ _ ?_;rotate_left;focus (first | omega | (simp;done) | (simp;omega)))))) hb_
 have N_b11:Blk w2 (w1.heap.size) #[_,_]:=Blk.below (by (repeat' (first | (with_reducible assumption) | (with_reducible refine Blk.new ?_;first | (with_reducible rfl) | (simp;done)) | (with_reducible refine Blk.alloc ?_ _) | (with_reducible refine Blk.drew ?_) | (with_reducible refine Blk.drewN ?_ _) | (with_reducible apply Blk.set2_0) | (with_reducible apply Blk.set2_1) | (with_reducible refine Blk.other ?_ _ ?_;rotate_left;focus (first | omega | (simp;done) | (simp;omega)))))) hb_
 have HB_w2:Below w.heap.size w w2:=Below.trans (by go_grown) (hb_.mono (by go_size))
 have HZ_w2:w.heap.size≤w2.heap.size:=HB_w2.size
 clear hb_
 clear c_b4_0 c_b4_1 f_b4 z1_b4 z2_b4 z3_b4 z4_b4 c_b6_0 c_b6_1 f_b6 z1_b6 z2_b6 z3_b6 z4_b6 c_b8_0 c_b8_1 f_b8 z1_b8 z2_b8 z3_b8 z4_b8 c_b9_0 c_b9_1 f_b9 z1_b9 z2_b9 z3_b9 z4_b9 K_b4 K_b6 K_b8 K_b9
 have K_b8:=N_b8
 clear N_b8
 have K_b9:=N_b9
 clear N_b9
 have K_b11:=N_b11
 clear N_b11
 obtain ⟨c_b8_0,c_b8_1,f_b8,z0_b8,z1_b8,z2_b8,z3_b8,z4_b8⟩:=Cx K_b8
 obtain ⟨c_b9_0,c_b9_1,f_b9,z0_b9,z1_b9,z2_b9,z3_b9,z4_b9⟩:=Cx K_b9
 obtain ⟨c_b11_0,c_b11_1,f_b11,z0_b11,z1_b11,z2_b11,z3_b11,z4_b11⟩:=Cx K_b11
 go_wp2_with fail
 go_cut [15] (fun s15 wx => ∃ r1 r0 o3:Int,s15=.int .u64 o3∧IsU r1 r0 (((a+b) % 340282366920938463463374607431768211456+(c+d) / 340282366920938463463374607431768211456) % 340282366920938463463374607431768211456)∧IsW o3 (((a+b) % 340282366920938463463374607431768211456+(c+d) / 340282366920938463463374607431768211456) / 340282366920938463463374607431768211456)∧Blk wx (w.heap.size+1+1+1+1) #[.int .u64 0,.int .u64 0]∧Blk wx (w.heap.size+1+1+1+1+1) #[.int .u64 0,.int .u64 0]∧Blk wx w1.heap.size #[.int .u64 l1,.int .u64 l0]∧Blk wx w2.heap.size #[.int .u64 r1,.int .u64 r0]∧Below w.heap.size w wx)
 case first =>
  have tok1:True:=trivial
  have tok2:True:=trivial
  go_region_with (first | (go_at_call 73;have _t:=tok1;clear tok1;refine (Vs _ _).mono ?_;rintro e w3 ⟨rfl,hb_⟩;have N_b8:Blk w3 (w.heap.size+1+1+1+1) #[_,_]:=Blk.below (by (repeat' (first | (with_reducible assumption) | (with_reducible refine Blk.new ?_;first | (with_reducible rfl) | (simp;done)) | (with_reducible refine Blk.alloc ?_ _) | (with_reducible refine Blk.drew ?_) | (with_reducible refine Blk.drewN ?_ _) | (with_reducible apply Blk.set2_0) | (with_reducible apply Blk.set2_1) | (with_reducible refine Blk.other ?_ _ ?_;rotate_left;focus (first | omega | (simp;done) | (simp;omega)))))) hb_;have N_b9:Blk w3 (w.heap.size+1+1+1+1+1) #[_,_]:=Blk.below (by (repeat' (first | (with_reducible assumption) | (with_reducible refine Blk.new ?_;first | (with_reducible rfl) | (simp;done)) | (with_reducible refine Blk.alloc ?_ _) | (with_reducible refine Blk.drew ?_) | (with_reducible refine Blk.drewN ?_ _) | (with_reducible apply Blk.set2_0) | (with_reducible apply Blk.set2_1) | (with_reducible refine Blk.other ?_ _ ?_;rotate_left;focus (first | omega | (simp;done) | (simp;omega)))))) hb_;have N_b11:Blk w3 (w1.heap.size) #[_,_]:=Blk.below (by (repeat' (first | (with_reducible assumption) | (with_reducible refine Blk.new ?_;first | (with_reducible rfl) | (simp;done)) | (with_reducible refine Blk.alloc ?_ _) | (with_reducible refine Blk.drew ?_) | (with_reducible refine Blk.drewN ?_ _) | (with_reducible apply Blk.set2_0) | (with_reducible apply Blk.set2_1) | (with_reducible refine Blk.other ?_ _ ?_;rotate_left;focus (first | omega | (simp;done) | (simp;omega)))))) hb_;have N_b13:Blk w3 (w2.heap.size) #[_,_]:=Blk.below (by (repeat' (first | (with_reducible assumption) | (with_reducible refine Blk.new ?_;first | (with_reducible rfl) | (simp;done)) | (with_reducible refine Blk.alloc ?_ _) | (with_reducible refine Blk.drew ?_) | (with_reducible refine Blk.drewN ?_ _) | (with_reducible apply Blk.set2_0) | (with_reducible apply Blk.set2_1) | (with_reducible refine Blk.other ?_ _ ?_;rotate_left;focus (first | omega | (simp;done) | (simp;omega)))))) hb_;have HB_w3:Below w.heap.size w w3:=Below.trans (by go_grown) (hb_.mono (by go_size));have HZ_w3:w.heap.size≤w3.heap.size:=HB_w3.size;clear hb_;clear c_b8_0 c_b8_1 f_b8 z1_b8 z2_b8 z3_b8 z4_b8 c_b9_0 c_b9_1 f_b9 z1_b9 z2_b9 z3_b9 z4_b9 c_b11_0 c_b11_1 f_b11 z1_b11 z2_b11 z3_b11 z4_b11 K_b8 K_b9 K_b11;have K_b8:=N_b8;clear N_b8;have K_b9:=N_b9;clear N_b9;have K_b11:=N_b11;clear N_b11;have K_b13:=N_b13;clear N_b13;obtain ⟨c_b8_0,c_b8_1,f_b8,z0_b8,z1_b8,z2_b8,z3_b8,z4_b8⟩:=Cx K_b8;obtain ⟨c_b9_0,c_b9_1,f_b9,z0_b9,z1_b9,z2_b9,z3_b9,z4_b9⟩:=Cx K_b9;obtain ⟨c_b11_0,c_b11_1,f_b11,z0_b11,z1_b11,z2_b11,z3_b11,z4_b11⟩:=Cx K_b11;obtain ⟨c_b13_0,c_b13_1,f_b13,z0_b13,z1_b13,z2_b13,z3_b13,z4_b13⟩:=Cx K_b13) | (go_at_call 157;have _t:=tok2;clear tok2;refine (Nt u2 k1.isU _).mono ?_;rintro e w4 ⟨r1,r0,o3,rfl,u3,k3,hb_⟩;have N_b8:Blk w4 (w.heap.size+1+1+1+1) #[_,_]:=Blk.below (by (repeat' (first | (with_reducible assumption) | (with_reducible refine Blk.new ?_;first | (with_reducible rfl) | (simp;done)) | (with_reducible refine Blk.alloc ?_ _) | (with_reducible refine Blk.drew ?_) | (with_reducible refine Blk.drewN ?_ _) | (with_reducible apply Blk.set2_0) | (with_reducible apply Blk.set2_1) | (with_reducible refine Blk.other ?_ _ ?_;rotate_left;focus (first | omega | (simp;done) | (simp;omega)))))) hb_;have N_b9:Blk w4 (w.heap.size+1+1+1+1+1) #[_,_]:=Blk.below (by (repeat' (first | (with_reducible assumption) | (with_reducible refine Blk.new ?_;first | (with_reducible rfl) | (simp;done)) | (with_reducible refine Blk.alloc ?_ _) | (with_reducible refine Blk.drew ?_) | (with_reducible refine Blk.drewN ?_ _) | (with_reducible apply Blk.set2_0) | (with_reducible apply Blk.set2_1) | (with_reducible refine Blk.other ?_ _ ?_;rotate_left;focus (first | omega | (simp;done) | (simp;omega)))))) hb_;have N_b11:Blk w4 (w1.heap.size) #[_,_]:=Blk.below (by (repeat' (first | (with_reducible assumption) | (with_reducible refine Blk.new ?_;first | (with_reducible rfl) | (simp;done)) | (with_reducible refine Blk.alloc ?_ _) | (with_reducible refine Blk.drew ?_) | (with_reducible refine Blk.drewN ?_ _) | (with_reducible apply Blk.set2_0) | (with_reducible apply Blk.set2_1) | (with_reducible refine Blk.other ?_ _ ?_;rotate_left;focus (first | omega | (simp;done) | (simp;omega)))))) hb_;have N_b13:Blk w4 (w2.heap.size) #[_,_]:=Blk.below (by (repeat' (first | (with_reducible assumption) | (with_reducible refine Blk.new ?_;first | (with_reducible rfl) | (simp;done)) | (with_reducible refine Blk.alloc ?_ _) | (with_reducible refine Blk.drew ?_) | (with_reducible refine Blk.drewN ?_ _) | (with_reducible apply Blk.set2_0) | (with_reducible apply Blk.set2_1) | (with_reducible refine Blk.other ?_ _ ?_;rotate_left;focus (first | omega | (simp;done) | (simp;omega)))))) hb_;have HB_w4:Below w.heap.size w w4:=Below.trans (by go_grown) (hb_.mono (by go_size));have HZ_w4:w.heap.size≤w4.heap.size:=HB_w4.size;clear hb_;clear c_b8_0 c_b8_1 f_b8 z1_b8 z2_b8 z3_b8 z4_b8 c_b9_0 c_b9_1 f_b9 z1_b9 z2_b9 z3_b9 z4_b9 c_b11_0 c_b11_1 f_b11 z1_b11 z2_b11 z3_b11 z4_b11 c_b13_0 c_b13_1 f_b13 z1_b13 z2_b13 z3_b13 z4_b13 K_b8 K_b9 K_b11 K_b13;have K_b8:=N_b8;clear N_b8;have K_b9:=N_b9;clear N_b9;have K_b11:=N_b11;clear N_b11;have K_b13:=N_b13;clear N_b13;obtain ⟨c_b8_0,c_b8_1,f_b8,z0_b8,z1_b8,z2_b8,z3_b8,z4_b8⟩:=Cx K_b8;obtain ⟨c_b9_0,c_b9_1,f_b9,z0_b9,z1_b9,z2_b9,z3_b9,z4_b9⟩:=Cx K_b9;obtain ⟨c_b11_0,c_b11_1,f_b11,z0_b11,z1_b11,z2_b11,z3_b11,z4_b11⟩:=Cx K_b11;obtain ⟨c_b13_0,c_b13_1,f_b13,z0_b13,z1_b13,z2_b13,z3_b13,z4_b13⟩:=Cx K_b13))
  all_goals
   go_wp2_with fail
   go_meet
   exact ⟨_,_,_,rfl,u3,k3,(by (repeat' (first | (with_reducible assumption) | (with_reducible refine Blk.new ?_;first | (with_reducible rfl) | (simp;done)) | (with_reducible refine Blk.alloc ?_ _) | (with_reducible refine Blk.drew ?_) | (with_reducible refine Blk.drewN ?_ _) | (with_reducible apply Blk.set2_0) | (with_reducible apply Blk.set2_1) | (with_reducible refine Blk.other ?_ _ ?_;rotate_left;focus (first | omega | (simp;done) | (simp;omega)))))),(by (repeat' (first | (with_reducible assumption) | (with_reducible refine Blk.new ?_;first | (with_reducible rfl) | (simp;done)) | (with_reducible refine Blk.alloc ?_ _) | (with_reducible refine Blk.drew ?_) | (with_reducible refine Blk.drewN ?_ _) | (with_reducible apply Blk.set2_0) | (with_reducible apply Blk.set2_1) | (with_reducible refine Blk.other ?_ _ ?_;rotate_left;focus (first | omega | (simp;done) | (simp;omega)))))),(by (repeat' (first | (with_reducible assumption) | (with_reducible refine Blk.new ?_;first | (with_reducible rfl) | (simp;done)) | (with_reducible refine Blk.alloc ?_ _) | (with_reducible refine Blk.drew ?_) | (with_reducible refine Blk.drewN ?_ _) | (with_reducible apply Blk.set2_0) | (with_reducible apply Blk.set2_1) | (with_reducible refine Blk.other ?_ _ ?_;rotate_left;focus (first | omega | (simp;done) | (simp;omega)))))),(by (repeat' (first | (with_reducible assumption) | (with_reducible refine Blk.new ?_;first | (with_reducible rfl) | (simp;done)) | (with_reducible refine Blk.alloc ?_ _) | (with_reducible refine Blk.drew ?_) | (with_reducible refine Blk.drewN ?_ _) | (with_reducible apply Blk.set2_0) | (with_reducible apply Blk.set2_1) | (with_reducible refine Blk.other ?_ _ ?_;rotate_left;focus (first | omega | (simp;done) | (simp;omega)))))),by go_grown⟩
 case rest =>
 obtain ⟨r1,r0,o3,rfl,u3,k3,K_b8,K_b9,K_b11,K_b13,HB_wc⟩:=hcut
 obtain ⟨c_b8_0,c_b8_1,f_b8,z0_b8,z1_b8,z2_b8,z3_b8,z4_b8⟩:=Cx K_b8
 obtain ⟨c_b9_0,c_b9_1,f_b9,z0_b9,z1_b9,z2_b9,z3_b9,z4_b9⟩:=Cx K_b9
 obtain ⟨c_b11_0,c_b11_1,f_b11,z0_b11,z1_b11,z2_b11,z3_b11,z4_b11⟩:=Cx K_b11
 obtain ⟨c_b13_0,c_b13_1,f_b13,z0_b13,z1_b13,z2_b13,z3_b13,z4_b13⟩:=Cx K_b13
 go_wp2_with fail
 go_region
 go_wp2_with fail
 (try simp only[Exit.inBlock,Exit.then])
 refine bodyPost_ret (v := ?_) ?_ rfl ?_
 rotate_left
 ·simp only[results,Tryz.results174]
  go_simp
  exact rfl
 have la:=ha.lt;have lb:=hb.lt;have lc:=hc.lt;have ld:=hd.lt
 exact ⟨_,_,_,_,_,rfl,u3.cast (by omega),u1.cast (by omega),b1t la lb lc ld k2 k3,by go_grown⟩
end Go.Proofs.YtfkfpkhgoijfdaaGreatDoor
