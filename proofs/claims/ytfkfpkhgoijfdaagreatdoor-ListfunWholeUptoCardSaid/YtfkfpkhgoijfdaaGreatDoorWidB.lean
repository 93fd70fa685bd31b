/- Decimal digits of natural numbers, the lowest first, without noughts above: plain facts, no program in sight. The contracts of package wide's powers of ten and of its count of digits, for all arguments. The contract of package wide's count of digits, for all arguments. -/
import Derived.Test.YtfkfpkhgoijfdaaGreatDoorRows
import Derived.Test.YtfkfpkhgoijfdaaGreatDoorWide5
namespace Go.Proofs.YtfkfpkhgoijfdaaGreatDoor
def Tf (n:Nat):List Nat:=if n=0 then [] else n % 10::Tf (n / 10)
termination_by n
decreasing_by omega
theorem Pf:Tf 0=[]:=by rw[Tf];simp
theorem Sz {n:Nat} (h:n≠0):Tf n=n % 10::Tf (n / 10):=by rw[Tf,if_neg h]
def nd (n:Nat):Nat:=(Tf n).length
theorem Qf:nd 0=0:=by simp[nd,Pf]
theorem Pg {n:Nat} (h:n≠0):nd n=nd (n / 10)+1:=by simp[nd,Sz h]
theorem a8i (k:Nat) : ∀ n:Nat,10 ^ k≤n→nd n=k+nd (n / 10 ^ k):=by
 induction k with
 | zero=>intro n _;simp
 | succ k ih =>
  intro n h
  have h0:n≠0:=by
   have:0<10 ^ (k+1):=Nat.pow_pos (by decide)
   omega
  have h1:10 ^ k≤n / 10:=by
   rw[Nat.le_div_iff_mul_le (by decide),← Nat.pow_succ];exact h
  rw[Pg h0,ih _ h1,Nat.div_div_eq_div_mul,Nat.pow_succ,Nat.mul_comm 10]
  omega
theorem Jf (k:Nat) : ∀ n:Nat,n<10 ^ k→nd n≤k:=by
 induction k with
 | zero=>intro n h;simp at h;subst h;simp[Qf]
 | succ k ih =>
  intro n h
  by_cases h0:n=0
  ·subst h0;simp[Qf]
  ·rw[Pg h0]
   have:=ih (n / 10) (by rw[Nat.pow_succ] at h;omega)
   omega
def Ge:List Nat→Nat
 | []=>0
 | d::ds=>d+10*Ge ds
theorem a4p (n:Nat):Ge (Tf n)=n:=by
 induction n using Nat.strongRecOn with
 | _ n ih =>
  by_cases h:n=0
  ·subst h;simp[Pf,Ge]
  ·rw[Sz h,Ge,ih (n / 10) (by omega)];omega
theorem b3f {n d:Nat} (h:d ∈ Tf n):d<10:=by
 induction n using Nat.strongRecOn with
 | _ n ih =>
  by_cases h0:n=0
  ·subst h0;simp[Pf] at h
  ·rw[Sz h0,List.mem_cons] at h
   rcases h with h | h
   ·omega
   ·exact ih (n / 10) (by omega) h
open Go.RowKit
set_option linter.unusedVariables false
theorem a7b {i:Nat} (h:i≤38):10 ^ i<340282366920938463463374607431768211456:=by
 have h1:10 ^ i≤10 ^ 38:=Nat.pow_le_pow_right (by decide) h
 have h2:10 ^ 38<340282366920938463463374607431768211456:=by decide
 exact Nat.lt_of_le_of_lt h1 h2
set_option maxHeartbeats 800000 in
theorem a6j {k:Int} (h0:0≤k) (h1:k≤38) (w:World) :
  Calls Tryz.prog 128 #[.int .i64 k] w fun e w' => ∃ t1 t0:Int,e=.returned (.tuple #[.agg #[.int .u64 t1,.int .u64 t0],.bool true])∧IsU t1 t0 (10 ^ k.toNat)∧Below w.heap.size w w':=by
 have one:IsU 0 1 (10 ^ 0):=⟨by omega,by omega,by omega,by omega,by simp⟩
 have ten:IsW (10:Int) 10:=⟨by omega,by omega,rfl⟩
 go_enter Tryz.func128,Tryz.ntmps128
 go_wp2_with fail
 refine (Vs _ _).mono ?_
 rintro e w1 ⟨rfl,hb_⟩
 have N_b2:Blk w1 (w.heap.size) #[_,_]:=Blk.below (by (repeat' (first | (with_reducible assumption) | (with_reducible refine Blk.new ?_;first | (with_reducible rfl) | (simp;done)) | (with_reducible refine Blk.alloc ?_ _) | (with_reducible refine Blk.drew ?_) | (with_reducible refine Blk.drewN ?_ _) | (with_reducible apply Blk.set2_0) | (with_reducible apply Blk.set2_1) | (with_reducible refine Blk.other ?_ _ ?_;rotate_left;focus (first | omega | (simp;done) | (simp;omega)))))) hb_
 have HB_w1:Below w.heap.size w w1:=Below.trans (by go_grown) (hb_.mono (by go_size))
 have HZ_w1:w.heap.size≤w1.heap.size:=HB_w1.size
 clear hb_
 have K_b2:=N_b2
 clear N_b2
 obtain ⟨c_b2_0,c_b2_1,f_b2,z0_b2,z1_b2,z2_b2,z3_b2,z4_b2⟩:=Cx K_b2
 go_wp2_with fail
 go_loopw [14] (fun i wr => ∃ (j:Nat) (a1 a0:Int),(j:Int)≤k∧i=.int .i64 j∧IsU a1 a0 (10 ^ j)∧Blk wr w.heap.size #[.int .u64 0,.int .u64 0]∧Blk wr w1.heap.size #[.int .u64 a1,.int .u64 a0]∧Below w.heap.size w wr) (fun i _=>(k-intOf i).toNat)
 case atStart=>exact ⟨0,0,1,by omega,rfl,one,(by (repeat' (first | (with_reducible assumption) | (with_reducible refine Blk.new ?_;first | (with_reducible rfl) | (simp;done)) | (with_reducible refine Blk.alloc ?_ _) | (with_reducible refine Blk.drew ?_) | (with_reducible refine Blk.drewN ?_ _) | (with_reducible apply Blk.set2_0) | (with_reducible apply Blk.set2_1) | (with_reducible refine Blk.other ?_ _ ?_;rotate_left;focus (first | omega | (simp;done) | (simp;omega)))))),(by (repeat' (first | (with_reducible assumption) | (with_reducible refine Blk.new ?_;first | (with_reducible rfl) | (simp;done)) | (with_reducible refine Blk.alloc ?_ _) | (with_reducible refine Blk.drew ?_) | (with_reducible refine Blk.drewN ?_ _) | (with_reducible apply Blk.set2_0) | (with_reducible apply Blk.set2_1) | (with_reducible refine Blk.other ?_ _ ?_;rotate_left;focus (first | omega | (simp;done) | (simp;omega)))))),by go_grown⟩
 case round =>
  clear c_b2_0 c_b2_1 f_b2 z1_b2 z2_b2 z3_b2 z4_b2 K_b2
  obtain ⟨j,a1,a0,hj,rfl,ua,K_b2,K_b4,HB_wr⟩:=hrel
  have HZ_wr:=HB_wr.size
  have hne:w.heap.size≠w1.heap.size:=by omega
  have hne':w1.heap.size≠w.heap.size:=by omega
  obtain ⟨c_b2_0,c_b2_1,f_b2,z0_b2,z1_b2,z2_b2,z3_b2,z4_b2⟩:=Cx K_b2
  obtain ⟨c_b4_0,c_b4_1,f_b4,z0_b4,z1_b4,z2_b4,z3_b4,z4_b4⟩:=Cx K_b4
  by_cases hlt:(j:Int)<k
  ·go_wp2_with fail
   refine (My ua ten _).mono ?_
   rintro e w2 ⟨o,r1,r0,rfl,ur,_,hb_⟩
   have N_b2:Blk w2 (w.heap.size) #[_,_]:=Blk.below (by (repeat' (first | (with_reducible assumption) | (with_reducible refine Blk.new ?_;first | (with_reducible rfl) | (simp;done)) | (with_reducible refine Blk.alloc ?_ _) | (with_reducible refine Blk.drew ?_) | (with_reducible refine Blk.drewN ?_ _) | (with_reducible apply Blk.set2_0) | (with_reducible apply Blk.set2_1) | (with_reducible refine Blk.other ?_ _ ?_;rotate_left;focus (first | omega | (simp;done) | (simp;omega)))))) hb_
   have N_b4:Blk w2 (w1.heap.size) #[_,_]:=Blk.below (by (repeat' (first | (with_reducible assumption) | (with_reducible refine Blk.new ?_;first | (with_reducible rfl) | (simp;done)) | (with_reducible refine Blk.alloc ?_ _) | (with_reducible refine Blk.drew ?_) | (with_reducible refine Blk.drewN ?_ _) | (with_reducible apply Blk.set2_0) | (with_reducible apply Blk.set2_1) | (with_reducible refine Blk.other ?_ _ ?_;rotate_left;focus (first | omega | (simp;done) | (simp;omega)))))) hb_
   have HB_w2:Below w.heap.size w w2:=Below.trans (by go_grown) (hb_.mono (by go_size))
   have HZ_w2:w.heap.size≤w2.heap.size:=HB_w2.size
   clear hb_
   clear c_b2_0 c_b2_1 f_b2 z1_b2 z2_b2 z3_b2 z4_b2 c_b4_0 c_b4_1 f_b4 z1_b4 z2_b4 z3_b4 z4_b4 K_b2 K_b4
   have K_b2:=N_b2
   clear N_b2
   have K_b4:=N_b4
   clear N_b4
   obtain ⟨c_b2_0,c_b2_1,f_b2,z0_b2,z1_b2,z2_b2,z3_b2,z4_b2⟩:=Cx K_b2
   obtain ⟨c_b4_0,c_b4_1,f_b4,z0_b4,z1_b4,z2_b4,z3_b4,z4_b4⟩:=Cx K_b4
   go_wp2_with fail
   go_roundw
   case rel =>
    refine ⟨j+1,_,_,by omega,by go_num,ur.cast ?_,(by (repeat' (first | (with_reducible assumption) | (with_reducible refine Blk.new ?_;first | (with_reducible rfl) | (simp;done)) | (with_reducible refine Blk.alloc ?_ _) | (with_reducible refine Blk.drew ?_) | (with_reducible refine Blk.drewN ?_ _) | (with_reducible apply Blk.set2_0) | (with_reducible apply Blk.set2_1) | (with_reducible refine Blk.other ?_ _ ?_;rotate_left;focus (first | omega | (simp;done) | (simp;omega)))))),(by (repeat' (first | (with_reducible assumption) | (with_reducible refine Blk.new ?_;first | (with_reducible rfl) | (simp;done)) | (with_reducible refine Blk.alloc ?_ _) | (with_reducible refine Blk.drew ?_) | (with_reducible refine Blk.drewN ?_ _) | (with_reducible apply Blk.set2_0) | (with_reducible apply Blk.set2_1) | (with_reducible refine Blk.other ?_ _ ?_;rotate_left;focus (first | omega | (simp;done) | (simp;omega)))))),by go_grown⟩
    rw[← Nat.pow_succ]
    exact Nat.mod_eq_of_lt (a7b (by omega))
   case measure=>simp[intOf];omega
  ·go_wp2_with fail
   (try simp only[Exit.inBlock,Exit.then])
   refine bodyPost_ret (v := ?_) ?_ rfl ?_
   rotate_left
   ·simp only[results,Tryz.results128]
    go_simp
    exact rfl
   exact ⟨_,_,rfl,ua.cast (by congr 1;omega),by go_grown⟩
open Go.RowKit
set_option linter.unusedVariables false
theorem b58:115792089237316195423570985008687907853269984665640564039457584007913129639936≤10 ^ 78:=by decide
theorem b5k {N:Nat} (h:340282366920938463463374607431768211456≤N):nd N=19+nd (N / 10000000000000000000):=a8i 19 N (by omega)
set_option maxHeartbeats 800000 in
set_option maxRecDepth 100000 in
theorem Zq {h1 h0 l1 l0:Int} {h l:Nat} (hh:IsU h1 h0 h) (hl:IsU l1 l0 l) (w:World) :
  Calls Tryz.prog 158 #[.agg #[.int .u64 h1,.int .u64 h0],.agg #[.int .u64 l1,.int .u64 l0]] w fun e w'=>e=.returned (.int .i64 (nd (h*340282366920938463463374607431768211456+l)))∧Below w.heap.size w w':=by
 have big:IsW (10000000000000000000:Int) 10000000000000000000:=⟨by omega,by omega,rfl⟩
 have ten:IsW (10:Int) 10:=⟨by omega,by omega,rfl⟩
 have bd:nd (h*340282366920938463463374607431768211456+l)≤78:=by
  apply Jf
  have:=hh.lt;have:=hl.lt
  refine Nat.lt_of_lt_of_le ?_ b58
  omega
 obtain ⟨N,hN⟩ : ∃ N,N=nd (h*340282366920938463463374607431768211456+l):=⟨_,rfl⟩
 rw[← hN] at bd ⊢
 have HN:=Lib.hid hN;clear hN
 go_enter Tryz.func158,Tryz.ntmps158
 go_wp2_with fail
 go_loopw [5] (fun s5 wr => ∃ (n x y:Nat) (x1 x0 y1 y0:Int),s5=.int .i64 n∧IsU x1 x0 x∧IsU y1 y0 y∧N=n+nd (x*340282366920938463463374607431768211456+y)∧Blk wr w.heap.size #[.int .u64 x1,.int .u64 x0]∧Blk wr (w.heap.size+1) #[.int .u64 y1,.int .u64 y0]∧Below w.heap.size w wr) (fun s5 _=>100-(intOf s5).toNat)
 case atStart=>exact ⟨0,h,l,h1,h0,l1,l0,rfl,hh,hl,by rw[HN.out];omega,(by (repeat' (first | (with_reducible assumption) | (with_reducible refine Blk.new ?_;first | (with_reducible rfl) | (simp;done)) | (with_reducible refine Blk.alloc ?_ _) | (with_reducible refine Blk.drew ?_) | (with_reducible refine Blk.drewN ?_ _) | (with_reducible apply Blk.set2_0) | (with_reducible apply Blk.set2_1) | (with_reducible refine Blk.other ?_ _ ?_;rotate_left;focus (first | omega | (simp;done) | (simp;omega)))))),(by (repeat' (first | (with_reducible assumption) | (with_reducible refine Blk.new ?_;first | (with_reducible rfl) | (simp;done)) | (with_reducible refine Blk.alloc ?_ _) | (with_reducible refine Blk.drew ?_) | (with_reducible refine Blk.drewN ?_ _) | (with_reducible apply Blk.set2_0) | (with_reducible apply Blk.set2_1) | (with_reducible refine Blk.other ?_ _ ?_;rotate_left;focus (first | omega | (simp;done) | (simp;omega)))))),by go_grown⟩
 case round =>
  obtain ⟨n,x,y,x1,x0,y1,y0,rfl,ux,uy,e,K_b2,K_b3,HB_wr⟩:=hrel
  have E:=Lib.hid e
  have nb:n≤78:=by omega
  have HZ_wr:=HB_wr.size
  clear e
  obtain ⟨c_b2_0,c_b2_1,f_b2,z0_b2,z1_b2,z2_b2,z3_b2,z4_b2⟩:=Cx K_b2
  obtain ⟨c_b3_0,c_b3_1,f_b3,z0_b3,z1_b3,z2_b3,z3_b3,z4_b3⟩:=Cx K_b3
  by_cases hx:x=0
  ·have zx:Lg x=true:=Xe hx
   have HX:=Lib.hid hx;clear hx
   go_wp2_with fail
   refine (Ii ux _).mono ?_
   rintro e w1 ⟨rfl,hb_⟩
   have N_b2:Blk w1 (w.heap.size) #[_,_]:=Blk.below (by (repeat' (first | (with_reducible assumption) | (with_reducible refine Blk.new ?_;first | (with_reducible rfl) | (simp;done)) | (with_reducible refine Blk.alloc ?_ _) | (with_reducible refine Blk.drew ?_) | (with_reducible refine Blk.drewN ?_ _) | (with_reducible apply Blk.set2_0) | (with_reducible apply Blk.set2_1) | (with_reducible refine Blk.other ?_ _ ?_;rotate_left;focus (first | omega | (simp;done) | (simp;omega)))))) hb_
   have N_b3:Blk w1 (w.heap.size+1) #[_,_]:=Blk.below (by (repeat' (first | (with_reducible assumption) | (with_reducible refine Blk.new ?_;first | (with_reducible rfl) | (simp;done)) | (with_reducible refine Blk.alloc ?_ _) | (with_reducible refine Blk.drew ?_) | (with_reducible refine Blk.drewN ?_ _) | (with_reducible apply Blk.set2_0) | (with_reducible apply Blk.set2_1) | (with_reducible refine Blk.other ?_ _ ?_;rotate_left;focus (first | omega | (simp;done) | (simp;omega)))))) hb_
   have HB_w1:Below w.heap.size w w1:=Below.trans (by go_grown) (hb_.mono (by go_size))
   have HZ_w1:w.heap.size≤w1.heap.size:=HB_w1.size
   clear hb_
   clear c_b2_0 c_b2_1 f_b2 z1_b2 z2_b2 z3_b2 z4_b2 c_b3_0 c_b3_1 f_b3 z1_b3 z2_b3 z3_b3 z4_b3 K_b2 K_b3
   have K_b2:=N_b2
   clear N_b2
   have K_b3:=N_b3
   clear N_b3
   obtain ⟨c_b2_0,c_b2_1,f_b2,z0_b2,z1_b2,z2_b2,z3_b2,z4_b2⟩:=Cx K_b2
   obtain ⟨c_b3_0,c_b3_1,f_b3,z0_b3,z1_b3,z2_b3,z3_b3,z4_b3⟩:=Cx K_b3
   go_wp2_with fail
   go_loopw [5] (fun s5 wr => ∃ (n y:Nat) (y1 y0:Int),s5=.int .i64 n∧IsU y1 y0 y∧N=n+nd y∧Blk wr (w.heap.size+1) #[.int .u64 y1,.int .u64 y0]∧Below w.heap.size w wr) (fun s5 _=>100-(intOf s5).toNat)
   case atStart=>exact ⟨n,y,y1,y0,rfl,uy,by rw[E.out,HX.out];simp,K_b3,HB_w1⟩
   case round =>
    clear E HX zx ux uy nb HB_wr HB_w1
    clear c_b2_0 c_b2_1 f_b2 z1_b2 z2_b2 z3_b2 z4_b2 c_b3_0 c_b3_1 f_b3 z1_b3 z2_b3 z3_b3 z4_b3 K_b2 K_b3
    obtain ⟨n,y,y1,y0,rfl,uy,e,K_b3,HB_wr⟩:=hrel
    have E:=Lib.hid e
    have nb:n≤78:=by omega
    have HZ_wr:=HB_wr.size
    clear e
    obtain ⟨c_b3_0,c_b3_1,f_b3,z0_b3,z1_b3,z2_b3,z3_b3,z4_b3⟩:=Cx K_b3
    by_cases hy:y=0
    ·have zy:Lg y=true:=Xe hy
     have HX:=Lib.hid hy;clear hy
     go_wp2_with fail
     refine (Ii uy _).mono ?_
     rintro e w2 ⟨rfl,hb_⟩
     have N_b3:Blk w2 (w.heap.size+1) #[_,_]:=Blk.below (by (repeat' (first | (with_reducible assumption) | (with_reducible refine Blk.new ?_;first | (with_reducible rfl) | (simp;done)) | (with_reducible refine Blk.alloc ?_ _) | (with_reducible refine Blk.drew ?_) | (with_reducible refine Blk.drewN ?_ _) | (with_reducible apply Blk.set2_0) | (with_reducible apply Blk.set2_1) | (with_reducible refine Blk.other ?_ _ ?_;rotate_left;focus (first | omega | (simp;done) | (simp;omega)))))) hb_
     have HB_w2:Below w.heap.size w w2:=Below.trans (by go_grown) (hb_.mono (by go_size))
     have HZ_w2:w.heap.size≤w2.heap.size:=HB_w2.size
     clear hb_
     clear c_b3_0 c_b3_1 f_b3 z1_b3 z2_b3 z3_b3 z4_b3 K_b3
     have K_b3:=N_b3
     clear N_b3
     obtain ⟨c_b3_0,c_b3_1,f_b3,z0_b3,z1_b3,z2_b3,z3_b3,z4_b3⟩:=Cx K_b3
     go_wp2_with fail
     go_returns
     refine ⟨?_,by go_grown⟩
     have e:=E.out
     rw[HX.out,Qf] at e
     rw[e];rfl
    ·have zy:Lg y=false:=Qn hy
     have E2:=Lib.hid (Pg hy)
     clear hy
     go_wp2_with fail
     refine (Ii uy _).mono ?_
     rintro e w2 ⟨rfl,hb_⟩
     have N_b3:Blk w2 (w.heap.size+1) #[_,_]:=Blk.below (by (repeat' (first | (with_reducible assumption) | (with_reducible refine Blk.new ?_;first | (with_reducible rfl) | (simp;done)) | (with_reducible refine Blk.alloc ?_ _) | (with_reducible refine Blk.drew ?_) | (with_reducible refine Blk.drewN ?_ _) | (with_reducible apply Blk.set2_0) | (with_reducible apply Blk.set2_1) | (with_reducible refine Blk.other ?_ _ ?_;rotate_left;focus (first | omega | (simp;done) | (simp;omega)))))) hb_
     have HB_w2:Below w.heap.size w w2:=Below.trans (by go_grown) (hb_.mono (by go_size))
     have HZ_w2:w.heap.size≤w2.heap.size:=HB_w2.size
     clear hb_
     clear c_b3_0 c_b3_1 f_b3 z1_b3 z2_b3 z3_b3 z4_b3 K_b3
     have K_b3:=N_b3
     clear N_b3
     obtain ⟨c_b3_0,c_b3_1,f_b3,z0_b3,z1_b3,z2_b3,z3_b3,z4_b3⟩:=Cx K_b3
     go_wp2_with fail
     refine (Iy IsU.zero uy ten (by decide) _).mono ?_
     rintro e w3 ⟨p1,p0,q1,q0,r,rfl,up,uq,ir,hb_⟩
     have N_b3:Blk w3 (w.heap.size+1) #[_,_]:=Blk.below (by (repeat' (first | (with_reducible assumption) | (with_reducible refine Blk.new ?_;first | (with_reducible rfl) | (simp;done)) | (with_reducible refine Blk.alloc ?_ _) | (with_reducible refine Blk.drew ?_) | (with_reducible refine Blk.drewN ?_ _) | (with_reducible apply Blk.set2_0) | (with_reducible apply Blk.set2_1) | (with_reducible refine Blk.other ?_ _ ?_;rotate_left;focus (first | omega | (simp;done) | (simp;omega)))))) hb_
     have HB_w3:Below w.heap.size w w3:=Below.trans (by go_grown) (hb_.mono (by go_size))
     have HZ_w3:w.heap.size≤w3.heap.size:=HB_w3.size
     clear hb_
     clear c_b3_0 c_b3_1 f_b3 z1_b3 z2_b3 z3_b3 z4_b3 K_b3
     have K_b3:=N_b3
     clear N_b3
     obtain ⟨c_b3_0,c_b3_1,f_b3,z0_b3,z1_b3,z2_b3,z3_b3,z4_b3⟩:=Cx K_b3
     go_wp2_with fail
     go_roundw
     case rel =>
      have e:=E.out;have e2:=E2.out;have lt:=uy.lt
      exact ⟨n+1,y / 10,_,_,by go_num,uq.cast (by omega),by omega,(by (repeat' (first | (with_reducible assumption) | (with_reducible refine Blk.new ?_;first | (with_reducible rfl) | (simp;done)) | (with_reducible refine Blk.alloc ?_ _) | (with_reducible refine Blk.drew ?_) | (with_reducible refine Blk.drewN ?_ _) | (with_reducible apply Blk.set2_0) | (with_reducible apply Blk.set2_1) | (with_reducible refine Blk.other ?_ _ ?_;rotate_left;focus (first | omega | (simp;done) | (simp;omega)))))),by go_grown⟩
     case measure=>simp[intOf];omega
  ·have zx:Lg x=false:=Qn hx
   have E2:=Lib.hid (b5k (N:=x*340282366920938463463374607431768211456+y) (by omega))
   have nb2:n≤59:=by have:=E.out;have:=E2.out;omega
   clear hx
   go_wp2_with fail
   refine (Ii ux _).mono ?_
   rintro e w1 ⟨rfl,hb_⟩
   have N_b2:Blk w1 (w.heap.size) #[_,_]:=Blk.below (by (repeat' (first | (with_reducible assumption) | (with_reducible refine Blk.new ?_;first | (with_reducible rfl) | (simp;done)) | (with_reducible refine Blk.alloc ?_ _) | (with_reducible refine Blk.drew ?_) | (with_reducible refine Blk.drewN ?_ _) | (with_reducible apply Blk.set2_0) | (with_reducible apply Blk.set2_1) | (with_reducible refine Blk.other ?_ _ ?_;rotate_left;focus (first | omega | (simp;done) | (simp;omega)))))) hb_
   have N_b3:Blk w1 (w.heap.size+1) #[_,_]:=Blk.below (by (repeat' (first | (with_reducible assumption) | (with_reducible refine Blk.new ?_;first | (with_reducible rfl) | (simp;done)) | (with_reducible refine Blk.alloc ?_ _) | (with_reducible refine Blk.drew ?_) | (with_reducible refine Blk.drewN ?_ _) | (with_reducible apply Blk.set2_0) | (with_reducible apply Blk.set2_1) | (with_reducible refine Blk.other ?_ _ ?_;rotate_left;focus (first | omega | (simp;done) | (simp;omega)))))) hb_
   have HB_w1:Below w.heap.size w w1:=Below.trans (by go_grown) (hb_.mono (by go_size))
   have HZ_w1:w.heap.size≤w1.heap.size:=HB_w1.size
   clear hb_
   clear c_b3_0 c_b3_1 f_b3 z1_b3 z2_b3 z3_b3 z4_b3 K_b3
   have K_b2:=N_b2
   clear N_b2
   have K_b3:=N_b3
   clear N_b3
   obtain ⟨c_b2_0,c_b2_1,f_b2,z0_b2,z1_b2,z2_b2,z3_b2,z4_b2⟩:=Cx K_b2
   obtain ⟨c_b3_0,c_b3_1,f_b3,z0_b3,z1_b3,z2_b3,z3_b3,z4_b3⟩:=Cx K_b3
   go_wp2_with fail
   refine (Iy ux uy big (by decide) _).mono ?_
   rintro e w2 ⟨p1,p0,q1,q0,r,rfl,up,uq,ir,hb_⟩
   have N_b2:Blk w2 (w.heap.size) #[_,_]:=Blk.below (by (repeat' (first | (with_reducible assumption) | (with_reducible refine Blk.new ?_;first | (with_reducible rfl) | (simp;done)) | (with_reducible refine Blk.alloc ?_ _) | (with_reducible refine Blk.drew ?_) | (with_reducible refine Blk.drewN ?_ _) | (with_reducible apply Blk.set2_0) | (with_reducible apply Blk.set2_1) | (with_reducible refine Blk.other ?_ _ ?_;rotate_left;focus (first | omega | (simp;done) | (simp;omega)))))) hb_
   have N_b3:Blk w2 (w.heap.size+1) #[_,_]:=Blk.below (by (repeat' (first | (with_reducible assumption) | (with_reducible refine Blk.new ?_;first | (with_reducible rfl) | (simp;done)) | (with_reducible refine Blk.alloc ?_ _) | (with_reducible refine Blk.drew ?_) | (with_reducible refine Blk.drewN ?_ _) | (with_reducible apply Blk.set2_0) | (with_reducible apply Blk.set2_1) | (with_reducible refine Blk.other ?_ _ ?_;rotate_left;focus (first | omega | (simp;done) | (simp;omega)))))) hb_
   have HB_w2:Below w.heap.size w w2:=Below.trans (by go_grown) (hb_.mono (by go_size))
   have HZ_w2:w.heap.size≤w2.heap.size:=HB_w2.size
   clear hb_
   clear c_b2_0 c_b2_1 f_b2 z1_b2 z2_b2 z3_b2 z4_b2 c_b3_0 c_b3_1 f_b3 z1_b3 z2_b3 z3_b3 z4_b3 K_b2 K_b3
   have K_b2:=N_b2
   clear N_b2
   have K_b3:=N_b3
   clear N_b3
   obtain ⟨c_b2_0,c_b2_1,f_b2,z0_b2,z1_b2,z2_b2,z3_b2,z4_b2⟩:=Cx K_b2
   obtain ⟨c_b3_0,c_b3_1,f_b3,z0_b3,z1_b3,z2_b3,z3_b3,z4_b3⟩:=Cx K_b3
   go_wp2_with fail
   go_roundw
   case rel =>
    have e:=E.out;have e2:=E2.out
    refine ⟨n+19,_,_,_,_,_,_,by go_num,up,uq,?_,(by (repeat' (first | (with_reducible assumption) | (with_reducible refine Blk.new ?_;first | (with_reducible rfl) | (simp;done)) | (with_reducible refine Blk.alloc ?_ _) | (with_reducible refine Blk.drew ?_) | (with_reducible refine Blk.drewN ?_ _) | (with_reducible apply Blk.set2_0) | (with_reducible apply Blk.set2_1) | (with_reducible refine Blk.other ?_ _ ?_;rotate_left;focus (first | omega | (simp;done) | (simp;omega)))))),(by (repeat' (first | (with_reducible assumption) | (with_reducible refine Blk.new ?_;first | (with_reducible rfl) | (simp;done)) | (with_reducible refine Blk.alloc ?_ _) | (with_reducible refine Blk.drew ?_) | (with_reducible refine Blk.drewN ?_ _) | (with_reducible apply Blk.set2_0) | (with_reducible apply Blk.set2_1) | (with_reducible refine Blk.other ?_ _ ?_;rotate_left;focus (first | omega | (simp;done) | (simp;omega)))))),by go_grown⟩
    rw[Nat.div_add_mod']
    omega
   case measure=>simp[intOf];omega
end Go.Proofs.YtfkfpkhgoijfdaaGreatDoor
