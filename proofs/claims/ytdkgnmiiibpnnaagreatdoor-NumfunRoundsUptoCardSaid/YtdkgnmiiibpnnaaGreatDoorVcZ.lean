/- What is known of wide's functions, said of numbers: each word by its number. Numbers as rows of digits. Plain laws of digits: the parts of XRow, XRef1 .. XRef8 that speak of no program. The reference's numbers, digit by digit. The contracts of package wide's shift by one and long division, for all arguments. The contract of package wide's long division of four words by two, for all arguments. More of wide's functions, said of numbers. wide: a number's text; the number of a text. Texts as lists of bytes: parts, sums, places; decimal numerals. Digits in lists of bytes, and their numbers: with no program in sight. What stands between two pieces of text: said once, for both ways of a branch. The reference's quotients and roots. -/
import Derived.Test.YtdkgnmiiibpnnaaGreatDoorVcL
import Derived.Test.YtdkgnmiiibpnnaaGreatDoorWide8
import Derived.Test.YtdkgnmiiibpnnaaGreatDoorWidB
import Derived.Test.YtdkgnmiiibpnnaaGreatDoorNum
import Derived.Test.YtdkgnmiiibpnnaaGreatDoorWide2
import Derived.BigRegion
import Derived.Deep.RegionHeld3
import Derived.Deep.LoopGhost
import Derived.Test.YtdkgnmiiibpnnaaGreatDoorWide5
import Derived.Laws.RangeAny
import Derived.Lib.ItoaLen
namespace Go.Proofs.YtdkgnmiiibpnnaaGreatDoor
open Go.RowKit
set_option linter.unusedVariables false
set_option maxRecDepth 100000
theorem bf {p:Prop} (h:false=true↔p) : ¬ p:=fun k=>Bool.noConfusion (h.2 k)
theorem bt {p:Prop} (h:true=true↔p):p:=h.1 rfl
theorem bff {p:Prop} {c:Bool} (h:c=true↔p) (k : ¬ p):c=false:=by
 cases c with
 | false=>rfl
 | true=>exact absurd (h.1 rfl) k
def hiW (n:Nat):Int:=((n / 18446744073709551616:Nat):Int)
def loW (n:Nat):Int:=((n % 18446744073709551616:Nat):Int)
def B128:Nat:=340282366920938463463374607431768211456
theorem Bu {n:Nat} (h:n<B128):IsU (hiW n) (loW n) n:=by
 unfold B128 at h
 unfold hiW loW
 exact ⟨by omega,by omega,by omega,by omega,by omega⟩
theorem IsU.hl {h l:Int} {n:Nat} (u:IsU h l n):h=hiW n∧l=loW n:=by
 obtain ⟨a,b,c,d,e⟩:=u
 unfold hiW loW
 exact ⟨by omega,by omega⟩
theorem a7k {n:Nat} (h:n<18446744073709551616):hiW n=0∧loW n=n:=by
 unfold hiW loW
 exact ⟨by omega,by omega⟩
def dU (n:Nat):DV:=.agg [.v (.int .u64 (hiW n)),.v (.int .u64 (loW n))]
theorem An {P:Prop} {K:Bool→Prop} (h : ¬ P) (k:K false) : ∀ c,(c=true↔P)→K c:=fun c hc=>by
 cases c with
 | false=>exact k
 | true=>exact absurd (hc.1 rfl) h
theorem Bn {P:Prop} {K:Bool→Prop} (h:P) (k:K true) : ∀ c,(c=true↔P)→K c:=fun c hc=>by
 cases c with
 | true=>exact k
 | false=>exact Bool.noConfusion (hc.2 h)
abbrev Hw (n:Nat):DV:=.v (.int .u64 (hiW n))
abbrev Lw (n:Nat):DV:=.v (.int .u64 (loW n))
abbrev Uv (z:Int):DV:=.v (.int .u64 z)
abbrev Sv (s:ByteArray):DV:=.v (.string s)
abbrev Iv (z:Int):DV:=.v (.int .i64 z)
abbrev Bv (b:Bool):DV:=.v (.bool b)
abbrev Ia (z:Int):AV:=.d (.v (.int .i64 z))
abbrev Ba (b:Bool):AV:=.d (.v (.bool b))
theorem Az (n:Nat):n % B128<B128:=Nat.mod_lt _ (by decide)
section
variable {a b c d h l n:Nat}
theorem a2t (ha:a<B128) (hb:b<B128):HasC Tryz.prog 93 [dU a,dU b] (fun y=>y=.tup [dU ((a+b) % B128),.v (.int .u64 (((a+b) / B128:Nat):Int))]) :=
 (HasC.ofCalls (vs:=[.agg #[.int .u64 (hiW a),.int .u64 (loW a)],.agg #[.int .u64 (hiW b),.int .u64 (loW b)]]) (R:=fun r=>r=.tuple #[.agg #[.int .u64 (hiW ((a+b) % B128)),.int .u64 (loW ((a+b) % B128))],.int .u64 (((a+b) / B128:Nat):Int)]) (fun args w=>Tryz.call93 args w) rfl
  (fun w=>(Nm (Bu ha) (Bu hb) w).mono fun e w' ⟨r1,r0,c,he,h1,h2,hb⟩=>⟨_,he,by
   obtain ⟨rfl,rfl⟩:=h1.hl;obtain rfl:=h2.eq;rfl,hb⟩)).mono fun y ⟨r,hr,hy⟩=>by subst hr;exact hy
theorem Dt (ha:a<B128) (hn:n<18446744073709551616):HasC Tryz.prog 86 [dU a,.v (.int .u64 (n:Int))] (fun y=>y=.tup [.v (.int .u64 ((a*n / B128:Nat):Int)),dU (a*n % B128)]) :=
 (HasC.ofCalls (vs:=[.agg #[.int .u64 (hiW a),.int .u64 (loW a)],.int .u64 (n:Int)]) (R:=fun r=>r=.tuple #[.int .u64 ((a*n / B128:Nat):Int),.agg #[.int .u64 (hiW (a*n % B128)),.int .u64 (loW (a*n % B128))]]) (fun args w=>Tryz.call86 args w) rfl
  (fun w=>(Gb (Bu ha) (IsW.ofNat n hn) w).mono fun e w' ⟨c,r1,r0,he,h1,h2,hb⟩=>⟨_,he,by
   obtain ⟨rfl,rfl⟩:=h1.hl;obtain rfl:=h2.eq;rfl,hb⟩)).mono fun y ⟨r,hr,hy⟩=>by subst hr;exact hy
theorem Xz (ha:a<B128) (hb:b<B128):HasC Tryz.prog 61 [dU a,dU b] (fun y=>y=.tup [dU (a*b / B128),dU (a*b % B128)]) :=
 (HasC.ofCalls (vs:=[.agg #[.int .u64 (hiW a),.int .u64 (loW a)],.agg #[.int .u64 (hiW b),.int .u64 (loW b)]]) (R:=fun r=>r=.tuple #[.agg #[.int .u64 (hiW (a*b / B128)),.int .u64 (loW (a*b / B128))],.agg #[.int .u64 (hiW (a*b % B128)),.int .u64 (loW (a*b % B128))]]) (fun args w=>Tryz.call61 args w) rfl
  (fun w=>(Zv (Bu ha) (Bu hb) w).mono fun e w' ⟨r1,r0,q1,q0,he,h1,h2,hb⟩=>⟨_,he,by
   obtain ⟨rfl,rfl⟩:=h1.hl;obtain ⟨rfl,rfl⟩:=h2.hl;rfl,hb⟩)).mono fun y ⟨r,hr,hy⟩=>by subst hr;exact hy
theorem Uz (x:Int):HasC Tryz.prog 59 [.v (.int .u64 x)] (fun y=>y=.agg [.v (.int .u64 0),.v (.int .u64 x)]) :=
 (HasC.ofCalls (vs:=[.int .u64 x]) (R:=fun r=>r=.agg #[.int .u64 0,.int .u64 x]) (fun args w=>Tryz.call59 args w) rfl
  (fun w=>(Qj x w).mono fun e w' ⟨he,hb⟩=>⟨_,he,rfl,hb⟩)).mono fun y ⟨r,hr,hy⟩=>by subst hr;exact hy
theorem We (hn:n<18446744073709551616):HasC Tryz.prog 59 [.v (.int .u64 (n:Int))] (fun y=>y=dU n) :=
 (Uz (n:Int)).mono fun y hy=>by
  obtain ⟨h1,h2⟩:=a7k hn
  rw[hy,dU,h1,h2]
theorem Ea (ha:a<B128):HasC Tryz.prog 47 [dU a] (fun y => ∃ b,y=.v (.bool b)∧(b=true↔a=0)) :=
 (HasC.ofCalls (vs:=[.agg #[.int .u64 (hiW a),.int .u64 (loW a)]]) (R:=fun r=>r=.bool (decide (a=0))) (fun args w=>Tryz.call47 args w) rfl
  (fun w=>(Id (Bu ha) w).mono fun e w' ⟨he,hb⟩=>⟨_,he,by unfold Lb;rfl,hb⟩)).mono fun y ⟨r,hr,hy⟩=>by subst hr;exact ⟨_,hy,by simp⟩
theorem b0p (ha:a<B128) (hb:b<B128):HasC Tryz.prog 87 [dU a,dU b] (fun y=>y=.v (.int .i64 (Ch a b))) :=
 (HasC.ofCalls (vs:=[.agg #[.int .u64 (hiW a),.int .u64 (loW a)],.agg #[.int .u64 (hiW b),.int .u64 (loW b)]]) (R:=fun r=>r=.int .i64 (Ch a b)) (fun args w=>Tryz.call87 args w) rfl
  (fun w=>(Gs (Bu ha) (Bu hb) w).mono fun e w' ⟨he,hb⟩=>⟨_,he,rfl,hb⟩)).mono fun y ⟨r,hr,hy⟩=>by subst hr;exact hy
theorem Em (hh:h<B128) (hl:l<B128) (hn:n<18446744073709551616) (h0:0<n):HasC Tryz.prog 64 [dU h,dU l,.v (.int .u64 (n:Int))] (fun y=>y=.tup [dU ((h*B128+l) / n / B128),dU ((h*B128+l) / n % B128),.v (.int .u64 (((h*B128+l) % n:Nat):Int)),.v (.bool true)]) :=
 (HasC.ofCalls (vs:=[.agg #[.int .u64 (hiW h),.int .u64 (loW h)],.agg #[.int .u64 (hiW l),.int .u64 (loW l)],.int .u64 (n:Int)]) (R:=fun r=>r=.tuple #[.agg #[.int .u64 (hiW ((h*B128+l) / n / B128)),.int .u64 (loW ((h*B128+l) / n / B128))],.agg #[.int .u64 (hiW ((h*B128+l) / n % B128)),.int .u64 (loW ((h*B128+l) / n % B128))],.int .u64 (((h*B128+l) % n:Nat):Int),.bool true]) (fun args w=>Tryz.call64 args w) rfl
  (fun w=>(Iy (Bu hh) (Bu hl) (IsW.ofNat n hn) h0 w).mono fun e w' ⟨p1,p0,q1,q0,r,he,h1,h2,h3,hb⟩=>⟨_,he,by
   obtain ⟨rfl,rfl⟩:=h1.hl;obtain ⟨rfl,rfl⟩:=h2.hl;obtain rfl:=h3.eq;rfl,hb⟩)).mono fun y ⟨r,hr,hy⟩=>by subst hr;exact hy
theorem Te {k:Int} (h0:0≤k) (h1:k≤38):HasC Tryz.prog 45 [.v (.int .i64 k)] (fun y=>y=.tup [dU (10 ^ k.toNat),.v (.bool true)]) :=
 (HasC.ofCalls (vs:=[.int .i64 k]) (R:=fun r=>r=.tuple #[.agg #[.int .u64 (hiW (10 ^ k.toNat)),.int .u64 (loW (10 ^ k.toNat))],.bool true]) (fun args w=>Tryz.call45 args w) rfl
  (fun w=>(a9y h0 h1 w).mono fun e w' ⟨r1,r0,he,h1,hb⟩=>⟨_,he,by obtain ⟨rfl,rfl⟩:=h1.hl;rfl,hb⟩)).mono fun y ⟨r,hr,hy⟩=>by subst hr;exact hy
theorem Wa (hh:h<B128) (hl:l<B128):HasC Tryz.prog 92 [dU h,dU l] (fun y=>y=.v (.int .i64 (nd (h*B128+l)))) :=
 (HasC.ofCalls (vs:=[.agg #[.int .u64 (hiW h),.int .u64 (loW h)],.agg #[.int .u64 (hiW l),.int .u64 (loW l)]]) (R:=fun r=>r=.int .i64 (nd (h*B128+l))) (fun args w=>Tryz.call92 args w) rfl
  (fun w=>(a0p (Bu hh) (Bu hl) w).mono fun e w' ⟨he,hb⟩=>⟨_,he,rfl,hb⟩)).mono fun y ⟨r,hr,hy⟩=>by subst hr;exact hy
theorem a4p (ha:a<B128) (hc:c<B128) (hb:b<B128) (hd:d<B128):HasC Tryz.prog 55 [dU a,dU c,dU b,dU d] (fun y=>y=.tup [dU ((a*B128+c+(b*B128+d)) / B128 % B128),dU ((a*B128+c+(b*B128+d)) % B128),.v (.int .u64 (((a*B128+c+(b*B128+d)) / (B128*B128):Nat):Int))]) :=
 (HasC.ofCalls (vs:=[.agg #[.int .u64 (hiW a),.int .u64 (loW a)],.agg #[.int .u64 (hiW c),.int .u64 (loW c)],.agg #[.int .u64 (hiW b),.int .u64 (loW b)],.agg #[.int .u64 (hiW d),.int .u64 (loW d)]]) (R:=fun r=>r=.tuple #[.agg #[.int .u64 (hiW ((a*B128+c+(b*B128+d)) / B128 % B128)),.int .u64 (loW ((a*B128+c+(b*B128+d)) / B128 % B128))],.agg #[.int .u64 (hiW ((a*B128+c+(b*B128+d)) % B128)),.int .u64 (loW ((a*B128+c+(b*B128+d)) % B128))],.int .u64 (((a*B128+c+(b*B128+d)) / (B128*B128):Nat):Int)]) (fun args w=>Tryz.call55 args w) rfl
  (fun w=>(a5j (Bu ha) (Bu hc) (Bu hb) (Bu hd) w).mono fun e w' ⟨p1,p0,q1,q0,r,he,h1,h2,h3,hb⟩=>⟨_,he,by
   obtain ⟨rfl,rfl⟩:=h1.hl;obtain ⟨rfl,rfl⟩:=h2.hl;obtain rfl:=h3.eq;rfl,hb⟩)).mono fun y ⟨r,hr,hy⟩=>by subst hr;exact hy
theorem Pm:Ch a b<0↔a<b:=by unfold Ch;split<;>(try split)<;>constructor<;>intro<;>omega
theorem b5q:0≤Ch a b↔b≤a:=by unfold Ch;split<;>(try split)<;>constructor<;>intro<;>omega
end
open Go.RowKit
set_option linter.unusedVariables false
set_option linter.unusedSimpArgs false
set_option maxRecDepth 100000
def dg (ds:List Nat):List DV:=ds.map fun (d:Nat)=>.v (.int .i64 (d:Int))
theorem Cr (ds:List Nat):(dg ds).length=ds.length:=by simp[dg]
theorem Oi : ∀ ds,Cb (dg ds)=true
 | []=>rfl
 | d::ds=>by
  show (DV.one _&&Cb (dg ds))=true
  rw[Oi ds]
  rfl
open Go.RowKit
set_option linter.unusedVariables false
theorem Zk (ds es:List Nat):Fx (ds ++ es)=Fx ds+10 ^ ds.length*Fx es:=by
 induction ds with
 | nil=>simp[Fx]
 | cons d ds ih=>rw[List.cons_append,Fx,ih,Fx,List.length_cons,Nat.pow_succ,Nat.mul_add,Nat.mul_left_comm,Nat.mul_comm (10 ^ ds.length) 10,Nat.mul_assoc,Nat.mul_left_comm 10];omega
theorem a3p {ds:List Nat} (h : ∀ d ∈ ds,d<10):Fx ds<10 ^ ds.length:=by
 induction ds with
 | nil=>simp[Fx]
 | cons d ds ih =>
  have h1:=ih fun x hx=>h x (by simp[hx])
  have h2:=h d (by simp)
  rw[Fx,List.length_cons,Nat.pow_succ]
  omega
def dig (n k:Nat):Nat:=n / 10 ^ k % 10
theorem Eg (n:Nat):n<10 ^ nd n:=by
 have h:=a3p (ds:=Ts n) fun d hd=>b31 hd
 rwa[a65] at h
theorem Oo (n k:Nat):dig n k<10:=Nat.mod_lt _ (by decide)
theorem Oy {n k:Nat} (h:nd n≤k):n / 10 ^ k=0:=by
 have h1:=Eg n
 have h2:10 ^ nd n≤10 ^ k:=Nat.pow_le_pow_right (by decide) h
 exact Nat.div_eq_of_lt (by omega)
theorem Si (n k:Nat):n / 10 ^ k=dig n k+10*(n / 10 ^ (k+1)):=by
 unfold dig
 rw[Nat.pow_succ,← Nat.div_div_eq_div_mul]
 omega
theorem Ku (ds:List Nat) (d:Nat):Fx (ds ++ [d])=Fx ds+10 ^ ds.length*d:=by rw[Zk];simp[Fx]
theorem a1o (A k s q:Nat):A+10 ^ k*s+10 ^ (k+1)*q=A+10 ^ k*(s+10*q):=by
 rw[Nat.mul_add,Nat.pow_succ,Nat.mul_assoc,Nat.add_assoc]
structure SmallInv (n x add k c:Nat) (ds:List Nat):Prop where
 len:ds.length=k
 lt : ∀ d ∈ ds,d<10
 cl:c<4294967296
 val:Fx ds+10 ^ k*(c+x*(n / 10 ^ k))=n*x+add
theorem SmallInv.start (n x:Nat) {add:Nat} (h:add<4294967296):SmallInv n x add 0 add []:=⟨rfl,by simp,h,by simp[Fx,Nat.mul_comm];omega⟩
theorem SmallInv.next {n x add k c:Nat} {ds:List Nat} (i:SmallInv n x add k c ds) (hx:x≤4294967296):SmallInv n x add (k+1) ((dig n k*x+c) / 10) (ds ++ [(dig n k*x+c) % 10]):=by
 have hd:=Oo n k
 have hm:dig n k*x≤9*4294967296:=Nat.mul_le_mul (by omega) (by omega)
 have hc:=i.cl
 refine ⟨by simp[i.len],?_,by omega,?_⟩
 ·intro d h
  rw[List.mem_append] at h
  rcases h with h | h
  ·exact i.lt d h
  ·have:d=(dig n k*x+c) % 10:=by simpa using h
   omega
 ·have h1:=i.val
  rw[Si n k] at h1
  rw[Ku,i.len,← h1]
  have e:c+x*(dig n k+10*(n / 10 ^ (k+1)))=(dig n k*x+c) % 10+10*((dig n k*x+c) / 10+x*(n / 10 ^ (k+1))):=by
   have e1:x*(dig n k+10*(n / 10 ^ (k+1)))=dig n k*x+10*(x*(n / 10 ^ (k+1))):=by rw[Nat.mul_add,Nat.mul_comm x (dig n k),Nat.mul_left_comm]
   rw[e1]
   have:=Nat.mod_add_div (dig n k*x+c) 10
   omega
  rw[e]
  exact a1o _ _ _ _
theorem SmallInv.done {n x add k c:Nat} {ds:List Nat} (i:SmallInv n x add k c ds) (h1:nd n≤k) (h2:c=0):Fx ds=n*x+add:=by
 have:=i.val
 rw[Oy h1,h2] at this
 simpa using this
theorem SmallInv.bound {n x add k c:Nat} {ds:List Nat} (i:SmallInv n x add k c ds) (hx:x≤4294967296) (ha:add<4294967296) (h:k<nd n∨0<c):k≤nd n+10:=by
 rcases h with h | h
 ·omega
 ·rcases Nat.lt_or_ge k (nd n) with hk | hk
  ·omega
  ·have h1:=i.val
   rw[Oy hk,Nat.mul_zero,Nat.add_zero] at h1
   have h2:10 ^ k≤10 ^ k*c:=Nat.le_mul_of_pos_right _ h
   have h3:=Eg n
   have h4:n*x+add<10 ^ (nd n+10):=by
    have a1:(n+1)*4294967296≤10 ^ nd n*4294967296:=Nat.mul_le_mul_right _ h3
    have a2:n*x≤n*4294967296:=Nat.mul_le_mul_left _ (by omega)
    rw[Nat.pow_add]
    have a3:10 ^ nd n*4294967296≤10 ^ nd n*10 ^ 10:=Nat.mul_le_mul_left _ (by decide)
    rw[Nat.add_mul] at a1
    omega
   have h5:10 ^ k<10 ^ (nd n+10):=by omega
   have:=(Nat.pow_lt_pow_iff_right (by decide:1<10)).1 h5
   omega
theorem b3k {a b:Nat} (h:a≤b):nd a≤nd b:=Cj _ _ (Nat.lt_of_le_of_lt h (Eg b))
structure AddInv (a b k c:Nat) (ds:List Nat):Prop where
 len:ds.length=k
 lt : ∀ d ∈ ds,d<10
 cl:c≤1
 val:Fx ds+10 ^ k*(c+(a / 10 ^ k+b / 10 ^ k))=a+b
theorem AddInv.start (a b:Nat):AddInv a b 0 0 []:=⟨rfl,by simp,by omega,by simp[Fx]⟩
theorem Wg {ds:List Nat} {x:Nat} (h : ∀ d ∈ ds,d<10) (hx:x<10) : ∀ d ∈ ds ++ [x],d<10:=by
 intro d hd
 rw[List.mem_append] at hd
 rcases hd with hd | hd
 ·exact h d hd
 ·have:d=x:=by simpa using hd
  omega
theorem AddInv.next {a b k c:Nat} {ds:List Nat} (i:AddInv a b k c ds):AddInv a b (k+1) ((dig a k+dig b k+c) / 10) (ds ++ [(dig a k+dig b k+c) % 10]):=by
 have ha:=Oo a k
 have hb:=Oo b k
 have hc:=i.cl
 refine ⟨by simp[i.len],Wg i.lt (by omega),by omega,?_⟩
 have h1:=i.val
 rw[Si a k,Si b k] at h1
 rw[Ku,i.len,← h1]
 have e:c+(dig a k+10*(a / 10 ^ (k+1))+(dig b k+10*(b / 10 ^ (k+1))))=(dig a k+dig b k+c) % 10+10*((dig a k+dig b k+c) / 10+(a / 10 ^ (k+1)+b / 10 ^ (k+1))):=by omega
 rw[e]
 exact a1o _ _ _ _
theorem AddInv.done {a b k c:Nat} {ds:List Nat} (i:AddInv a b k c ds) (h1:nd a≤k) (h2:nd b≤k) (h3:c=0):Fx ds=a+b:=by
 have:=i.val
 rw[Oy h1,Oy h2,h3] at this
 simpa using this
theorem AddInv.bound {a b k c m:Nat} {ds:List Nat} (i:AddInv a b k c ds) (ha:nd a≤m) (hb:nd b≤m) (h:k<nd a∨k<nd b∨0<c):k≤m:=by
 rcases Nat.lt_or_ge m k with hk | hk
 ·rcases h with h | h | h
  ·omega
  ·omega
  ·have h1:=i.val
   rw[Oy (by omega:nd a≤k),Oy (by omega:nd b≤k)] at h1
   have h2:10 ^ k≤10 ^ k*(c+(0+0)):=Nat.le_mul_of_pos_right _ (by omega)
   have h3:=Eg a
   have h4:=Eg b
   have h5:10 ^ nd a≤10 ^ m:=Nat.pow_le_pow_right (by decide) ha
   have h6:10 ^ nd b≤10 ^ m:=Nat.pow_le_pow_right (by decide) hb
   have h7:10 ^ (m+1)≤10 ^ k:=Nat.pow_le_pow_right (by decide) hk
   rw[Nat.pow_succ] at h7
   omega
 ·exact hk
structure SubInv (a b k c:Nat) (ds:List Nat):Prop where
 len:ds.length=k
 lt : ∀ d ∈ ds,d<10
 cl:c≤1
 val:Fx ds+b % 10 ^ k=a % 10 ^ k+c*10 ^ k
theorem SubInv.start (a b:Nat):SubInv a b 0 0 []:=⟨rfl,by simp,by omega,by simp[Fx,Nat.mod_one]⟩
theorem Ng (n k:Nat):n % 10 ^ (k+1)=n % 10 ^ k+10 ^ k*dig n k:=by
 unfold dig
 rw[Nat.pow_succ,Nat.mod_mul]
theorem SubInv.big {a b k c:Nat} {ds:List Nat} (i:SubInv a b k c ds) (h:dig b k+c≤dig a k):SubInv a b (k+1) 0 (ds ++ [dig a k-dig b k-c]):=by
 have ha:=Oo a k
 refine ⟨by simp[i.len],Wg i.lt (by omega),by omega,?_⟩
 have h1:=i.val
 rw[Ku,i.len,Ng a k,Ng b k]
 obtain ⟨x,hx⟩ : ∃ x,x=dig a k-dig b k-c:=⟨_,rfl⟩
 rw[← hx]
 have e:dig a k=x+dig b k+c:=by omega
 rw[e,Nat.mul_add,Nat.mul_add,Nat.mul_comm (10 ^ k) c]
 omega
theorem SubInv.small {a b k c:Nat} {ds:List Nat} (i:SubInv a b k c ds) (h:dig a k<dig b k+c):SubInv a b (k+1) 1 (ds ++ [dig a k+10-dig b k-c]):=by
 have ha:=Oo a k
 have hb:=Oo b k
 have hc:=i.cl
 refine ⟨by simp[i.len],Wg i.lt (by omega),by omega,?_⟩
 have h1:=i.val
 rw[Ku,i.len,Ng a k,Ng b k]
 obtain ⟨x,hx⟩ : ∃ x,x=dig a k+10-dig b k-c:=⟨_,rfl⟩
 rw[← hx]
 have e:dig a k+10=x+dig b k+c:=by omega
 have e2:10 ^ k*(dig a k+10)=10 ^ k*x+10 ^ k*dig b k+c*10 ^ k:=by rw[e,Nat.mul_add,Nat.mul_add,Nat.mul_comm (10 ^ k) c]
 rw[Nat.mul_add] at e2
 rw[Nat.one_mul,Nat.pow_succ]
 omega
theorem SubInv.done {a b k c:Nat} {ds:List Nat} (i:SubInv a b k c ds) (hle:b≤a) (h1:nd a≤k):Fx ds=a-b:=by
 have hv:=i.val
 have ha:a<10 ^ k:=Nat.lt_of_lt_of_le (Eg a) (Nat.pow_le_pow_right (by decide) h1)
 rw[Nat.mod_eq_of_lt ha,Nat.mod_eq_of_lt (Nat.lt_of_le_of_lt hle ha)] at hv
 have hd:=a3p i.lt
 rw[i.len] at hd
 have hc:=i.cl
 rcases Nat.eq_zero_or_pos c with h0 | h0
 ·rw[h0] at hv;omega
 ·have:c=1:=by omega
  rw[this,Nat.one_mul] at hv
  omega
open Go.RowKit
set_option linter.unusedVariables false
set_option linter.unusedSimpArgs false
set_option maxRecDepth 100000
open Go.RowKit
theorem Mr (i:Nat) {x y:Int} (hx0:0≤x) (hx1:x<18446744073709551616) (hm:x.toNat % 2 ^ i=0) (hy0:0≤y) (hy1:y.toNat<2 ^ i) (hy2:y<18446744073709551616):bits .or .u64 x y=x+y:=by
 rw[u64_or x y hx0 hx1 hy0 hy2,nat_join i _ _ hm hy1]
 omega
set_option maxHeartbeats 800000 in
theorem Ox {h1 h0 l1 l0:Int} {h l:Nat} (hh:IsU h1 h0 h) (hl:IsU l1 l0 l) (w:World) :
  Calls Tryz.prog 88 #[.agg #[.int .u64 h1,.int .u64 h0],.agg #[.int .u64 l1,.int .u64 l0],.int .u64 0] w fun e w' =>
   ∃ r1 r0 q1 q0:Int,e=.returned (.tuple #[.agg #[.int .u64 r1,.int .u64 r0],.agg #[.int .u64 q1,.int .u64 q0]]) ∧
    IsU r1 r0 ((2*h+l / 170141183460469231731687303715884105728) % 340282366920938463463374607431768211456)∧IsU q1 q0 (2*l % 340282366920938463463374607431768211456)∧Below w.heap.size w w':=by
 obtain ⟨p1,p2,p3,p4,p5⟩:=hh
 obtain ⟨q1,q2,q3,q4,q5⟩:=hl
 have P5:=Lib.hid p5;clear p5
 have Q5:=Lib.hid q5;clear q5
 go_enter Tryz.func88,Tryz.ntmps88
 go_wp2_with fail
 go_region_held3 (fun w'=>w'.cell? ⟨w.heap.size,0,none⟩=some (.int .u64 h1)∧w'.cell? ⟨w.heap.size,1,none⟩=some (.int .u64 h0)∧w'.cell? ⟨w.heap.size+1,0,none⟩=some (.int .u64 l1)∧w'.cell? ⟨w.heap.size+1,1,none⟩=some (.int .u64 l0)) (go_keep) (fail)
 go_wp2_with fail
 (try simp only[Exit.inBlock,Exit.then])
 refine bodyPost_ret (v := ?_) ?_ rfl ?_
 rotate_left
 ·simp only[results,Tryz.results88]
  go_simp
  exact rfl
 have p5:=P5.out;have q5:=Q5.out
 refine ⟨_,_,_,_,rfl,?_,?_,by go_grown⟩
 ·rw[IntKind.wrap_u64,IntKind.wrap_u64,Mr 1 (by omega) (by omega) (by simp only[Nat.pow_one];omega) (by omega) (by simp only[Nat.pow_one];omega) (by omega),Mr 1 (by omega) (by omega) (by simp only[Nat.pow_one];omega) (by omega) (by simp only[Nat.pow_one];omega) (by omega)]
  exact ⟨by omega,by omega,by omega,by omega,by omega⟩
 ·rw[IntKind.wrap_u64,IntKind.wrap_u64,Mr 1 (by omega) (by omega) (by simp only[Nat.pow_one];omega) (by omega) (by simp only[Nat.pow_one];omega) (by omega),Mr 1 (by omega) (by omega) (by simp only[Nat.pow_one];omega) (by omega) (by simp only[Nat.pow_one];omega) (by omega)]
  exact ⟨by omega,by omega,by omega,by omega,by omega⟩
def DivInv (N d k r q:Nat):Prop:=r<d ∧ ∃ Q rest:Nat,q=rest*2 ^ k+Q∧Q<2 ^ k∧rest<2 ^ (128-k)∧N=(Q*d+r)*2 ^ (128-k)+rest
theorem DivInv.start {hi lo d:Nat} (h:hi<d) (hl:lo<340282366920938463463374607431768211456):DivInv (hi*340282366920938463463374607431768211456+lo) d 0 hi lo :=
 ⟨h,0,lo,by simp,by simp,by simpa using hl,by simp⟩
theorem DivInv.finish {N d r q:Nat} (h:DivInv N d 128 r q):q=N / d∧r=N % d:=by
 obtain ⟨h1,Q,rest,h2,h3,h4,h5⟩:=h
 simp at h4
 subst h4
 simp at h2 h5
 subst h2
 have hd:0<d:=by omega
 constructor
 ·rw[h5,Nat.add_comm,Nat.add_mul_div_right _ _ hd,Nat.div_eq_of_lt h1];omega
 ·rw[h5,Nat.add_comm,Nat.add_mul_mod_self_right,Nat.mod_eq_of_lt h1]
theorem DivInv.qlt {N d k r q:Nat} (h:DivInv N d k r q) (hk:k≤128):q<340282366920938463463374607431768211456:=by
 obtain ⟨h1,Q,rest,h2,h3,h4,h5⟩:=h
 have e:2 ^ (128-k)*2 ^ k=340282366920938463463374607431768211456:=by rw[← Nat.pow_add,Nat.sub_add_cancel hk]
 have:(rest+1)*2 ^ k≤2 ^ (128-k)*2 ^ k:=Nat.mul_le_mul_right _ h4
 rw[e,Nat.add_mul] at this
 omega
theorem DivInv.step {N d k r q:Nat} (h:DivInv N d k r q) (hk:k<128) :
  (d≤2*r+q / 170141183460469231731687303715884105728→DivInv N d (k+1) (2*r+q / 170141183460469231731687303715884105728-d) (2*q % 340282366920938463463374607431768211456+1))∧(2*r+q / 170141183460469231731687303715884105728<d→DivInv N d (k+1) (2*r+q / 170141183460469231731687303715884105728) (2*q % 340282366920938463463374607431768211456))∧q / 170141183460469231731687303715884105728≤1∧2*q % 340282366920938463463374607431768211456 % 2=0:=by
 have hq:=h.qlt (by omega)
 obtain ⟨h1,Q,rest,h2,h3,h4,h5⟩:=h
 obtain ⟨j,hj⟩ : ∃ j,128=k+1+j:=⟨127-k,by omega⟩
 have e1:128-k=j+1:=by omega
 have e2:128-(k+1)=j:=by omega
 rw[e1] at h4 h5
 have ps:2 ^ j*2 ^ k=170141183460469231731687303715884105728:=by rw[← Nat.pow_add,show j+k=127 by omega]
 have pj:0<2 ^ j:=Nat.two_pow_pos j
 have pk:0<2 ^ k:=Nat.two_pow_pos k
 have ek:2 ^ (k+1)=2*2 ^ k:=by rw[Nat.pow_succ,Nat.mul_comm]
 have ej:2 ^ (j+1)=2*2 ^ j:=by rw[Nat.pow_succ,Nat.mul_comm]
 rw[ej] at h4 h5
 unfold DivInv
 rw[e2,ek]
 generalize 2 ^ j=s at *
 generalize 2 ^ k=p at *
 clear e1 e2 ek ej hj hk
 obtain ⟨t,rest',hr,ht,hr'⟩ : ∃ t rest',rest=t*s+rest'∧t≤1∧rest'<s:=by
  refine ⟨rest / s,rest % s,by rw[Nat.mul_comm];exact (Nat.div_add_mod rest s).symm,?_,Nat.mod_lt _ pj⟩
  have:rest / s<2:=by rw[Nat.div_lt_iff_lt_mul pj];omega
  omega
 have hlow:rest'*p+Q<170141183460469231731687303715884105728:=by
  have:(rest'+1)*p≤s*p:=Nat.mul_le_mul_right _ hr'
  rw[ps,Nat.add_mul] at this
  omega
 have hqv:q=t*170141183460469231731687303715884105728+(rest'*p+Q):=by
  rw[h2,hr,Nat.add_mul,Nat.mul_assoc,ps,Nat.add_assoc]
 have hqt:q / 170141183460469231731687303715884105728=t:=by omega
 have hq2:2*q % 340282366920938463463374607431768211456=rest'*(2*p)+2*Q:=by
  have:rest'*(2*p)=2*(rest'*p):=by rw[Nat.mul_left_comm]
  omega
 have hN:N=(2*Q*d+(2*r+t))*s+rest':=by
  rw[h5,hr]
  have a1:(Q*d+r)*(2*s)=(2*Q*d+2*r)*s:=by
   rw[Nat.mul_left_comm,← Nat.mul_assoc,Nat.mul_add,← Nat.mul_assoc]
  have a2:(2*Q*d+(2*r+t))*s=(2*Q*d+2*r)*s+t*s:=by rw[← Nat.add_assoc,Nat.add_mul]
  rw[a1,a2];omega
 rw[hqt,hq2]
 refine ⟨fun hge=>⟨by omega,2*Q+1,rest',by omega,by omega,hr',?_⟩,fun hlt=>⟨hlt,2*Q,rest',rfl,by omega,hr',hN⟩,ht,?_⟩
 ·rw[hN]
  congr 2
  rw[Nat.add_mul]
  omega
 ·have:rest'*(2*p)=2*(rest'*p):=by rw[Nat.mul_left_comm]
  omega
open Go.RowKit
theorem IsU.or1 {h l:Int} {n:Nat} (u:IsU h l n) (he:n % 2=0):IsU h (bits .or .u64 l 1) (n+1):=by
 obtain ⟨a,b,c,d,e⟩:=u
 rw[Mr 1 c d (by simp only[Nat.pow_one];omega) (by omega) (by decide) (by omega)]
 exact ⟨a,b,by omega,by omega,by omega⟩
theorem DivInv.next {N d k r q r2 q2:Nat} (h:DivInv N d k r q) (hk:k<128) (e2:r2=2*r+q / 170141183460469231731687303715884105728) (e3:q2=2*q % 340282366920938463463374607431768211456) :
  (d≤r2→DivInv N d (k+1) (r2-d) (q2+1))∧(r2<d→DivInv N d (k+1) r2 q2)∧r2≤2*r+1∧2*r≤r2∧q2 % 2=0:=by
 subst e2 e3
 obtain ⟨a,b,c,e⟩:=h.step hk
 exact ⟨a,b,by omega,by omega,e⟩
set_option maxRecDepth 100000 in
set_option maxHeartbeats 1600000 in
theorem Yy {h1 h0 l1 l0 d1 d0:Int} {h l d:Nat} (hh:IsU h1 h0 h) (hl:IsU l1 l0 l) (hd:IsU d1 d0 d) (hlt:h<d) (w:World) :
  Calls Tryz.prog 46 #[.agg #[.int .u64 h1,.int .u64 h0],.agg #[.int .u64 l1,.int .u64 l0],.agg #[.int .u64 d1,.int .u64 d0]] w fun e w' =>
   ∃ q1 q0 r1 r0:Int,e=.returned (.tuple #[.agg #[.int .u64 q1,.int .u64 q0],.agg #[.int .u64 r1,.int .u64 r0],.bool true]) ∧
    IsU q1 q0 ((h*340282366920938463463374607431768211456+l) / d)∧IsU r1 r0 ((h*340282366920938463463374607431768211456+l) % d)∧Below w.heap.size w w':=by
 have hc:decide (0≤Ch h d)=false:=by
  unfold Ch;repeat' split
  all_goals first | rfl | omega
 go_enter Tryz.func46,Tryz.ntmps46
 go_wp2_with fail
 refine (Gs hh hd _).mono ?_
 rintro e w1 ⟨rfl,hb_⟩
 have N_b3:Blk w1 (w.heap.size) #[_,_]:=Blk.below (by (repeat' (first | (with_reducible assumption) | (with_reducible refine Blk.new ?_;first | (with_reducible rfl) | (simp;done)) | (with_reducible refine Blk.alloc ?_ _) | (with_reducible refine Blk.drew ?_) | (with_reducible refine Blk.drewN ?_ _) | (with_reducible apply Blk.set2_0) | (with_reducible apply Blk.set2_1) | (with_reducible refine Blk.other ?_ _ ?_;rotate_left;focus (first | omega | (simp;done) | (simp;omega)))))) hb_
 have N_b4:Blk w1 (w.heap.size+1) #[_,_]:=Blk.below (by (repeat' (first | (with_reducible assumption) | (with_reducible refine Blk.new ?_;first | (with_reducible rfl) | (simp;done)) | (with_reducible refine Blk.alloc ?_ _) | (with_reducible refine Blk.drew ?_) | (with_reducible refine Blk.drewN ?_ _) | (with_reducible apply Blk.set2_0) | (with_reducible apply Blk.set2_1) | (with_reducible refine Blk.other ?_ _ ?_;rotate_left;focus (first | omega | (simp;done) | (simp;omega)))))) hb_
 have N_b5:Blk w1 (w.heap.size+1+1) #[_,_]:=Blk.below (by (repeat' (first | (with_reducible assumption) | (with_reducible refine Blk.new ?_;first | (with_reducible rfl) | (simp;done)) | (with_reducible refine Blk.alloc ?_ _) | (with_reducible refine Blk.drew ?_) | (with_reducible refine Blk.drewN ?_ _) | (with_reducible apply Blk.set2_0) | (with_reducible apply Blk.set2_1) | (with_reducible refine Blk.other ?_ _ ?_;rotate_left;focus (first | omega | (simp;done) | (simp;omega)))))) hb_
 have N_b6:Blk w1 (w.heap.size+1+1+1) #[_,_]:=Blk.below (by (repeat' (first | (with_reducible assumption) | (with_reducible refine Blk.new ?_;first | (with_reducible rfl) | (simp;done)) | (with_reducible refine Blk.alloc ?_ _) | (with_reducible refine Blk.drew ?_) | (with_reducible refine Blk.drewN ?_ _) | (with_reducible apply Blk.set2_0) | (with_reducible apply Blk.set2_1) | (with_reducible refine Blk.other ?_ _ ?_;rotate_left;focus (first | omega | (simp;done) | (simp;omega)))))) hb_
 have N_b7:Blk w1 (w.heap.size+1+1+1+1) #[_,_]:=Blk.below (by (repeat' (first | (with_reducible assumption) | (with_reducible refine Blk.new ?_;first | (with_reducible rfl) | (simp;done)) | (with_reducible refine Blk.alloc ?_ _) | (with_reducible refine Blk.drew ?_) | (with_reducible refine Blk.drewN ?_ _) | (with_reducible apply Blk.set2_0) | (with_reducible apply Blk.set2_1) | (with_reducible refine Blk.other ?_ _ ?_;rotate_left;focus (first | omega | (simp;done) | (simp;omega)))))) hb_
 have HB_w1:Below w.heap.size w w1:=Below.trans (by go_grown) (hb_.mono (by go_size))
 have HZ_w1:w.heap.size≤w1.heap.size:=HB_w1.size
 clear hb_
 have K_b3:=N_b3
 clear N_b3
 have K_b4:=N_b4
 clear N_b4
 have K_b5:=N_b5
 clear N_b5
 have K_b6:=N_b6
 clear N_b6
 have K_b7:=N_b7
 clear N_b7
 obtain ⟨c_b3_0,c_b3_1,f_b3,z0_b3,z1_b3,z2_b3,z3_b3,z4_b3⟩:=As K_b3
 obtain ⟨c_b4_0,c_b4_1,f_b4,z0_b4,z1_b4,z2_b4,z3_b4,z4_b4⟩:=As K_b4
 obtain ⟨c_b5_0,c_b5_1,f_b5,z0_b5,z1_b5,z2_b5,z3_b5,z4_b5⟩:=As K_b5
 obtain ⟨c_b6_0,c_b6_1,f_b6,z0_b6,z1_b6,z2_b6,z3_b6,z4_b6⟩:=As K_b6
 obtain ⟨c_b7_0,c_b7_1,f_b7,z0_b7,z1_b7,z2_b7,z3_b7,z4_b7⟩:=As K_b7
 go_wp2_with fail
 go_cut [9,10] (fun s9 s10 wx => ∃ b9 b10:Nat,s9=.pointer (some ⟨b9,0,none⟩)∧s10=.pointer (some ⟨b10,0,none⟩)∧b9≠b10∧w.heap.size+1+1+1+1<b9∧w.heap.size+1+1+1+1<b10 ∧
   Blk wx (w.heap.size+1+1) #[.int .u64 d1,.int .u64 d0]∧Blk wx (w.heap.size+1+1+1) #[.int .u64 0,.int .u64 0]∧Blk wx (w.heap.size+1+1+1+1) #[.int .u64 0,.int .u64 0]∧Blk wx b9 #[.int .u64 h1,.int .u64 h0]∧Blk wx b10 #[.int .u64 l1,.int .u64 l0]∧Below w.heap.size w wx)
 case first =>
  go_region_held3 (fun w'=>w'.cell? ⟨w.heap.size,0,none⟩=some (.int .u64 h1)∧w'.cell? ⟨w.heap.size,1,none⟩=some (.int .u64 h0)∧w'.cell? ⟨w.heap.size+1,0,none⟩=some (.int .u64 l1)∧w'.cell? ⟨w.heap.size+1,1,none⟩=some (.int .u64 l0)) (go_keep) (fail)
  all_goals
   go_wp2_with fail
   go_meet
   exact ⟨_,_,rfl,rfl,by omega,by omega,by omega,(by (repeat' (first | (with_reducible assumption) | (with_reducible refine Blk.new ?_;first | (with_reducible rfl) | (simp;done)) | (with_reducible refine Blk.alloc ?_ _) | (with_reducible refine Blk.drew ?_) | (with_reducible refine Blk.drewN ?_ _) | (with_reducible apply Blk.set2_0) | (with_reducible apply Blk.set2_1) | (with_reducible refine Blk.other ?_ _ ?_;rotate_left;focus (first | omega | (simp;done) | (simp;omega)))))),(by (repeat' (first | (with_reducible assumption) | (with_reducible refine Blk.new ?_;first | (with_reducible rfl) | (simp;done)) | (with_reducible refine Blk.alloc ?_ _) | (with_reducible refine Blk.drew ?_) | (with_reducible refine Blk.drewN ?_ _) | (with_reducible apply Blk.set2_0) | (with_reducible apply Blk.set2_1) | (with_reducible refine Blk.other ?_ _ ?_;rotate_left;focus (first | omega | (simp;done) | (simp;omega)))))),(by (repeat' (first | (with_reducible assumption) | (with_reducible refine Blk.new ?_;first | (with_reducible rfl) | (simp;done)) | (with_reducible refine Blk.alloc ?_ _) | (with_reducible refine Blk.drew ?_) | (with_reducible refine Blk.drewN ?_ _) | (with_reducible apply Blk.set2_0) | (with_reducible apply Blk.set2_1) | (with_reducible refine Blk.other ?_ _ ?_;rotate_left;focus (first | omega | (simp;done) | (simp;omega)))))),(by (repeat' (first | (with_reducible assumption) | (with_reducible refine Blk.new ?_;first | (with_reducible rfl) | (simp;done)) | (with_reducible refine Blk.alloc ?_ _) | (with_reducible refine Blk.drew ?_) | (with_reducible refine Blk.drewN ?_ _) | (with_reducible apply Blk.set2_0) | (with_reducible apply Blk.set2_1) | (with_reducible refine Blk.other ?_ _ ?_;rotate_left;focus (first | omega | (simp;done) | (simp;omega)))))),(by (repeat' (first | (with_reducible assumption) | (with_reducible refine Blk.new ?_;first | (with_reducible rfl) | (simp;done)) | (with_reducible refine Blk.alloc ?_ _) | (with_reducible refine Blk.drew ?_) | (with_reducible refine Blk.drewN ?_ _) | (with_reducible apply Blk.set2_0) | (with_reducible apply Blk.set2_1) | (with_reducible refine Blk.other ?_ _ ?_;rotate_left;focus (first | omega | (simp;done) | (simp;omega)))))),by go_grown⟩
 case rest =>
 obtain ⟨b9,b10,rfl,rfl,n1,n2,n3,K_b5,K_b6,K_b7,K_b9,K_b10,HB_wc⟩:=hcut
 go_wp2_with fail
 go_loopw [20] (fun i wr => ∃ (k r q:Nat) (r1 r0 q1 q0:Int),k≤128∧i=.int .i64 k∧IsU r1 r0 r∧IsU q1 q0 q∧DivInv (h*340282366920938463463374607431768211456+l) d k r q ∧
   Blk wr (w.heap.size+1+1) #[.int .u64 d1,.int .u64 d0]∧Blk wr (w.heap.size+1+1+1) #[.int .u64 0,.int .u64 0]∧Blk wr (w.heap.size+1+1+1+1) #[.int .u64 0,.int .u64 0]∧Blk wr b9 #[.int .u64 r1,.int .u64 r0]∧Blk wr b10 #[.int .u64 q1,.int .u64 q0]∧Below w.heap.size w wr)
  (fun i _=>128-(intOf i).toNat)
 case atStart=>exact ⟨0,h,l,h1,h0,l1,l0,by omega,rfl,hh,hl,DivInv.start hlt hl.lt,K_b5,K_b6,K_b7,K_b9,K_b10,HB_wc⟩
 case round =>
  clear K_b5 K_b6 K_b7 K_b9 K_b10 HB_wc
  obtain ⟨k,r,q,r1,r0,q1,q0,hk,rfl,ur,uq,inv,K_b5,K_b6,K_b7,K_b9,K_b10,HB_wr⟩:=hrel
  have m1:w.heap.size+1+1≠b9:=by omega
  have m2:w.heap.size+1+1≠b10:=by omega
  have m3:w.heap.size+1+1+1≠b9:=by omega
  have m4:w.heap.size+1+1+1≠b10:=by omega
  have m5:w.heap.size+1+1+1+1≠b9:=by omega
  have m6:w.heap.size+1+1+1+1≠b10:=by omega
  have m7:b10≠b9:=by omega
  have HZ_wr:=HB_wr.size
  obtain ⟨c_b5_0,c_b5_1,f_b5,z0_b5,z1_b5,z2_b5,z3_b5,z4_b5⟩:=As K_b5
  obtain ⟨c_b6_0,c_b6_1,f_b6,z0_b6,z1_b6,z2_b6,z3_b6,z4_b6⟩:=As K_b6
  obtain ⟨c_b7_0,c_b7_1,f_b7,z0_b7,z1_b7,z2_b7,z3_b7,z4_b7⟩:=As K_b7
  obtain ⟨c_b9_0,c_b9_1,f_b9,z0_b9,z1_b9,z2_b9,z3_b9,z4_b9⟩:=As K_b9
  obtain ⟨c_b10_0,c_b10_1,f_b10,z0_b10,z1_b10,z2_b10,z3_b10,z4_b10⟩:=As K_b10
  by_cases hkl:k<128
  ·have rl:=inv.1
   obtain ⟨r2,e2⟩ : ∃ r2,r2=2*r+q / 170141183460469231731687303715884105728:=⟨_,rfl⟩
   obtain ⟨q2,e3⟩ : ∃ q2,q2=2*q % 340282366920938463463374607431768211456:=⟨_,rfl⟩
   have St:=Lib.hid (inv.next hkl e2 e3)
   have E2:=Lib.hid e2;have E3:=Lib.hid e3;clear e2 e3
   have dl:=Lib.hid hd.lt
   by_cases hov:9223372036854775808≤r1
   ·have ov:(r1 / 9223372036854775808==1)=true:=by
     have x1:=ur.h0;have x2:=ur.h1
     rw[beq_iff_eq];omega
    have hr:=Lib.hid (show 170141183460469231731687303715884105728≤r by have:=ur.eq;have:=ur.l0;omega)
    clear hov
    go_wp2_with fail
    refine (Ox ur uq _).mono ?_
    rintro e w3 ⟨s1,s0,t1,t0,rfl,u1,u2,hb_⟩
    have N_b5:Blk w3 (w.heap.size+1+1) #[_,_]:=Blk.below (by (repeat' (first | (with_reducible assumption) | (with_reducible refine Blk.new ?_;first | (with_reducible rfl) | (simp;done)) | (with_reducible refine Blk.alloc ?_ _) | (with_reducible refine Blk.drew ?_) | (with_reducible refine Blk.drewN ?_ _) | (with_reducible apply Blk.set2_0) | (with_reducible apply Blk.set2_1) | (with_reducible refine Blk.other ?_ _ ?_;rotate_left;focus (first | omega | (simp;done) | (simp;omega)))))) hb_
    have N_b6:Blk w3 (w.heap.size+1+1+1) #[_,_]:=Blk.below (by (repeat' (first | (with_reducible assumption) | (with_reducible refine Blk.new ?_;first | (with_reducible rfl) | (simp;done)) | (with_reducible refine Blk.alloc ?_ _) | (with_reducible refine Blk.drew ?_) | (with_reducible refine Blk.drewN ?_ _) | (with_reducible apply Blk.set2_0) | (with_reducible apply Blk.set2_1) | (with_reducible refine Blk.other ?_ _ ?_;rotate_left;focus (first | omega | (simp;done) | (simp;omega)))))) hb_
    have N_b7:Blk w3 (w.heap.size+1+1+1+1) #[_,_]:=Blk.below (by (repeat' (first | (with_reducible assumption) | (with_reducible refine Blk.new ?_;first | (with_reducible rfl) | (simp;done)) | (with_reducible refine Blk.alloc ?_ _) | (with_reducible refine Blk.drew ?_) | (with_reducible refine Blk.drewN ?_ _) | (with_reducible apply Blk.set2_0) | (with_reducible apply Blk.set2_1) | (with_reducible refine Blk.other ?_ _ ?_;rotate_left;focus (first | omega | (simp;done) | (simp;omega)))))) hb_
    have N_b9:Blk w3 (b9) #[_,_]:=Blk.below (by (repeat' (first | (with_reducible assumption) | (with_reducible refine Blk.new ?_;first | (with_reducible rfl) | (simp;done)) | (with_reducible refine Blk.alloc ?_ _) | (with_reducible refine Blk.drew ?_) | (with_reducible refine Blk.drewN ?_ _) | (with_reducible apply Blk.set2_0) | (with_reducible apply Blk.set2_1) | (with_reducible refine Blk.other ?_ _ ?_;rotate_left;focus (first | omega | (simp;done) | (simp;omega)))))) hb_
    have N_b10:Blk w3 (b10) #[_,_]:=Blk.below (by (repeat' (first | (with_reducible assumption) | (with_reducible refine Blk.new ?_;first | (with_reducible rfl) | (simp;done)) | (with_reducible refine Blk.alloc ?_ _) | (with_reducible refine Blk.drew ?_) | (with_reducible refine Blk.drewN ?_ _) | (with_reducible apply Blk.set2_0) | (with_reducible apply Blk.set2_1) | (with_reducible refine Blk.other ?_ _ ?_;rotate_left;focus (first | omega | (simp;done) | (simp;omega)))))) hb_
    have HB_w3:Below w.heap.size w w3:=Below.trans (by go_grown) (hb_.mono (by go_size))
    have HZ_w3:w.heap.size≤w3.heap.size:=HB_w3.size
    clear hb_
    clear c_b5_0 c_b5_1 f_b5 z1_b5 z2_b5 z3_b5 z4_b5 c_b6_0 c_b6_1 f_b6 z1_b6 z2_b6 z3_b6 z4_b6 c_b7_0 c_b7_1 f_b7 z1_b7 z2_b7 z3_b7 z4_b7 c_b9_0 c_b9_1 f_b9 z1_b9 z2_b9 z3_b9 z4_b9 c_b10_0 c_b10_1 f_b10 z1_b10 z2_b10 z3_b10 z4_b10 K_b5 K_b6 K_b7 K_b9 K_b10
    have K_b5:=N_b5
    clear N_b5
    have K_b6:=N_b6
    clear N_b6
    have K_b7:=N_b7
    clear N_b7
    have K_b9:=N_b9
    clear N_b9
    have K_b10:=N_b10
    clear N_b10
    obtain ⟨c_b5_0,c_b5_1,f_b5,z0_b5,z1_b5,z2_b5,z3_b5,z4_b5⟩:=As K_b5
    obtain ⟨c_b6_0,c_b6_1,f_b6,z0_b6,z1_b6,z2_b6,z3_b6,z4_b6⟩:=As K_b6
    obtain ⟨c_b7_0,c_b7_1,f_b7,z0_b7,z1_b7,z2_b7,z3_b7,z4_b7⟩:=As K_b7
    obtain ⟨c_b9_0,c_b9_1,f_b9,z0_b9,z1_b9,z2_b9,z3_b9,z4_b9⟩:=As K_b9
    obtain ⟨c_b10_0,c_b10_1,f_b10,z0_b10,z1_b10,z2_b10,z3_b10,z4_b10⟩:=As K_b10
    go_wp2_with fail
    refine (Js u1 hd _).mono ?_
    rintro e w4 ⟨v1,v0,c,rfl,u3,_,hb_⟩
    have N_b5:Blk w4 (w.heap.size+1+1) #[_,_]:=Blk.below (by (repeat' (first | (with_reducible assumption) | (with_reducible refine Blk.new ?_;first | (with_reducible rfl) | (simp;done)) | (with_reducible refine Blk.alloc ?_ _) | (with_reducible refine Blk.drew ?_) | (with_reducible refine Blk.drewN ?_ _) | (with_reducible apply Blk.set2_0) | (with_reducible apply Blk.set2_1) | (with_reducible refine Blk.other ?_ _ ?_;rotate_left;focus (first | omega | (simp;done) | (simp;omega)))))) hb_
    have N_b6:Blk w4 (w.heap.size+1+1+1) #[_,_]:=Blk.below (by (repeat' (first | (with_reducible assumption) | (with_reducible refine Blk.new ?_;first | (with_reducible rfl) | (simp;done)) | (with_reducible refine Blk.alloc ?_ _) | (with_reducible refine Blk.drew ?_) | (with_reducible refine Blk.drewN ?_ _) | (with_reducible apply Blk.set2_0) | (with_reducible apply Blk.set2_1) | (with_reducible refine Blk.other ?_ _ ?_;rotate_left;focus (first | omega | (simp;done) | (simp;omega)))))) hb_
    have N_b7:Blk w4 (w.heap.size+1+1+1+1) #[_,_]:=Blk.below (by (repeat' (first | (with_reducible assumption) | (with_reducible refine Blk.new ?_;first | (with_reducible rfl) | (simp;done)) | (with_reducible refine Blk.alloc ?_ _) | (with_reducible refine Blk.drew ?_) | (with_reducible refine Blk.drewN ?_ _) | (with_reducible apply Blk.set2_0) | (with_reducible apply Blk.set2_1) | (with_reducible refine Blk.other ?_ _ ?_;rotate_left;focus (first | omega | (simp;done) | (simp;omega)))))) hb_
    have N_b9:Blk w4 (b9) #[_,_]:=Blk.below (by (repeat' (first | (with_reducible assumption) | (with_reducible refine Blk.new ?_;first | (with_reducible rfl) | (simp;done)) | (with_reducible refine Blk.alloc ?_ _) | (with_reducible refine Blk.drew ?_) | (with_reducible refine Blk.drewN ?_ _) | (with_reducible apply Blk.set2_0) | (with_reducible apply Blk.set2_1) | (with_reducible refine Blk.other ?_ _ ?_;rotate_left;focus (first | omega | (simp;done) | (simp;omega)))))) hb_
    have N_b10:Blk w4 (b10) #[_,_]:=Blk.below (by (repeat' (first | (with_reducible assumption) | (with_reducible refine Blk.new ?_;first | (with_reducible rfl) | (simp;done)) | (with_reducible refine Blk.alloc ?_ _) | (with_reducible refine Blk.drew ?_) | (with_reducible refine Blk.drewN ?_ _) | (with_reducible apply Blk.set2_0) | (with_reducible apply Blk.set2_1) | (with_reducible refine Blk.other ?_ _ ?_;rotate_left;focus (first | omega | (simp;done) | (simp;omega)))))) hb_
    have HB_w4:Below w.heap.size w w4:=Below.trans (by go_grown) (hb_.mono (by go_size))
    have HZ_w4:w.heap.size≤w4.heap.size:=HB_w4.size
    clear hb_
    clear c_b5_0 c_b5_1 f_b5 z1_b5 z2_b5 z3_b5 z4_b5 c_b6_0 c_b6_1 f_b6 z1_b6 z2_b6 z3_b6 z4_b6 c_b7_0 c_b7_1 f_b7 z1_b7 z2_b7 z3_b7 z4_b7 c_b9_0 c_b9_1 f_b9 z1_b9 z2_b9 z3_b9 z4_b9 c_b10_0 c_b10_1 f_b10 z1_b10 z2_b10 z3_b10 z4_b10 K_b5 K_b6 K_b7 K_b9 K_b10
    have K_b5:=N_b5
    clear N_b5
    have K_b6:=N_b6
    clear N_b6
    have K_b7:=N_b7
    clear N_b7
    have K_b9:=N_b9
    clear N_b9
    have K_b10:=N_b10
    clear N_b10
    obtain ⟨c_b5_0,c_b5_1,f_b5,z0_b5,z1_b5,z2_b5,z3_b5,z4_b5⟩:=As K_b5
    obtain ⟨c_b6_0,c_b6_1,f_b6,z0_b6,z1_b6,z2_b6,z3_b6,z4_b6⟩:=As K_b6
    obtain ⟨c_b7_0,c_b7_1,f_b7,z0_b7,z1_b7,z2_b7,z3_b7,z4_b7⟩:=As K_b7
    obtain ⟨c_b9_0,c_b9_1,f_b9,z0_b9,z1_b9,z2_b9,z3_b9,z4_b9⟩:=As K_b9
    obtain ⟨c_b10_0,c_b10_1,f_b10,z0_b10,z1_b10,z2_b10,z3_b10,z4_b10⟩:=As K_b10
    go_wp2_with fail
    go_roundw
    case rel =>
     have St:=St.out;have e2:=E2.out;have e3:=E3.out;have dl:=dl.out;have hr:=hr.out
     rw[← e2] at u3
     rw[← e3] at u2
     exact ⟨k+1,_,_,_,_,_,_,by omega,by go_num,u3.cast (m:=r2-d) (by omega),u2.or1 St.2.2.2.2,St.1 (by omega),(by (repeat' (first | (with_reducible assumption) | (with_reducible refine Blk.new ?_;first | (with_reducible rfl) | (simp;done)) | (with_reducible refine Blk.alloc ?_ _) | (with_reducible refine Blk.drew ?_) | (with_reducible refine Blk.drewN ?_ _) | (with_reducible apply Blk.set2_0) | (with_reducible apply Blk.set2_1) | (with_reducible refine Blk.other ?_ _ ?_;rotate_left;focus (first | omega | (simp;done) | (simp;omega)))))),(by (repeat' (first | (with_reducible assumption) | (with_reducible refine Blk.new ?_;first | (with_reducible rfl) | (simp;done)) | (with_reducible refine Blk.alloc ?_ _) | (with_reducible refine Blk.drew ?_) | (with_reducible refine Blk.drewN ?_ _) | (with_reducible apply Blk.set2_0) | (with_reducible apply Blk.set2_1) | (with_reducible refine Blk.other ?_ _ ?_;rotate_left;focus (first | omega | (simp;done) | (simp;omega)))))),(by (repeat' (first | (with_reducible assumption) | (with_reducible refine Blk.new ?_;first | (with_reducible rfl) | (simp;done)) | (with_reducible refine Blk.alloc ?_ _) | (with_reducible refine Blk.drew ?_) | (with_reducible refine Blk.drewN ?_ _) | (with_reducible apply Blk.set2_0) | (with_reducible apply Blk.set2_1) | (with_reducible refine Blk.other ?_ _ ?_;rotate_left;focus (first | omega | (simp;done) | (simp;omega)))))),(by (repeat' (first | (with_reducible assumption) | (with_reducible refine Blk.new ?_;first | (with_reducible rfl) | (simp;done)) | (with_reducible refine Blk.alloc ?_ _) | (with_reducible refine Blk.drew ?_) | (with_reducible refine Blk.drewN ?_ _) | (with_reducible apply Blk.set2_0) | (with_reducible apply Blk.set2_1) | (with_reducible refine Blk.other ?_ _ ?_;rotate_left;focus (first | omega | (simp;done) | (simp;omega)))))),(by (repeat' (first | (with_reducible assumption) | (with_reducible refine Blk.new ?_;first | (with_reducible rfl) | (simp;done)) | (with_reducible refine Blk.alloc ?_ _) | (with_reducible refine Blk.drew ?_) | (with_reducible refine Blk.drewN ?_ _) | (with_reducible apply Blk.set2_0) | (with_reducible apply Blk.set2_1) | (with_reducible refine Blk.other ?_ _ ?_;rotate_left;focus (first | omega | (simp;done) | (simp;omega)))))),by go_grown⟩
    case measure=>simp[intOf];omega
   ·have ov:(r1 / 9223372036854775808==1)=false:=by
     have x1:=ur.h0;have x2:=ur.h1
     rw[beq_eq_false_iff_ne];omega
    have hr:=Lib.hid (show r<170141183460469231731687303715884105728 by have:=ur.eq;have:=ur.l1;omega)
    clear hov
    by_cases hge:d≤r2
    ·have hg:decide (0≤Ch r2 d)=true:=by
      unfold Ch;repeat' split
      all_goals first | rfl | omega
     go_wp2_with fail
     refine (Ox ur uq _).mono ?_
     rintro e w3 ⟨s1,s0,t1,t0,rfl,u1,u2,hb_⟩
     have N_b5:Blk w3 (w.heap.size+1+1) #[_,_]:=Blk.below (by (repeat' (first | (with_reducible assumption) | (with_reducible refine Blk.new ?_;first | (with_reducible rfl) | (simp;done)) | (with_reducible refine Blk.alloc ?_ _) | (with_reducible refine Blk.drew ?_) | (with_reducible refine Blk.drewN ?_ _) | (with_reducible apply Blk.set2_0) | (with_reducible apply Blk.set2_1) | (with_reducible refine Blk.other ?_ _ ?_;rotate_left;focus (first | omega | (simp;done) | (simp;omega)))))) hb_
     have N_b6:Blk w3 (w.heap.size+1+1+1) #[_,_]:=Blk.below (by (repeat' (first | (with_reducible assumption) | (with_reducible refine Blk.new ?_;first | (with_reducible rfl) | (simp;done)) | (with_reducible refine Blk.alloc ?_ _) | (with_reducible refine Blk.drew ?_) | (with_reducible refine Blk.drewN ?_ _) | (with_reducible apply Blk.set2_0) | (with_reducible apply Blk.set2_1) | (with_reducible refine Blk.other ?_ _ ?_;rotate_left;focus (first | omega | (simp;done) | (simp;omega)))))) hb_
     have N_b7:Blk w3 (w.heap.size+1+1+1+1) #[_,_]:=Blk.below (by (repeat' (first | (with_reducible assumption) | (with_reducible refine Blk.new ?_;first | (with_reducible rfl) | (simp;done)) | (with_reducible refine Blk.alloc ?_ _) | (with_reducible refine Blk.drew ?_) | (with_reducible refine Blk.drewN ?_ _) | (with_reducible apply Blk.set2_0) | (with_reducible apply Blk.set2_1) | (with_reducible refine Blk.other ?_ _ ?_;rotate_left;focus (first | omega | (simp;done) | (simp;omega)))))) hb_
     have N_b9:Blk w3 (b9) #[_,_]:=Blk.below (by (repeat' (first | (with_reducible assumption) | (with_reducible refine Blk.new ?_;first | (with_reducible rfl) | (simp;done)) | (with_reducible refine Blk.alloc ?_ _) | (with_reducible refine Blk.drew ?_) | (with_reducible refine Blk.drewN ?_ _) | (with_reducible apply Blk.set2_0) | (with_reducible apply Blk.set2_1) | (with_reducible refine Blk.other ?_ _ ?_;rotate_left;focus (first | omega | (simp;done) | (simp;omega)))))) hb_
     have N_b10:Blk w3 (b10) #[_,_]:=Blk.below (by (repeat' (first | (with_reducible assumption) | (with_reducible refine Blk.new ?_;first | (with_reducible rfl) | (simp;done)) | (with_reducible refine Blk.alloc ?_ _) | (with_reducible refine Blk.drew ?_) | (with_reducible refine Blk.drewN ?_ _) | (with_reducible apply Blk.set2_0) | (with_reducible apply Blk.set2_1) | (with_reducible refine Blk.other ?_ _ ?_;rotate_left;focus (first | omega | (simp;done) | (simp;omega)))))) hb_
     have HB_w3:Below w.heap.size w w3:=Below.trans (by go_grown) (hb_.mono (by go_size))
     have HZ_w3:w.heap.size≤w3.heap.size:=HB_w3.size
     clear hb_
     clear c_b5_0 c_b5_1 f_b5 z1_b5 z2_b5 z3_b5 z4_b5 c_b6_0 c_b6_1 f_b6 z1_b6 z2_b6 z3_b6 z4_b6 c_b7_0 c_b7_1 f_b7 z1_b7 z2_b7 z3_b7 z4_b7 c_b9_0 c_b9_1 f_b9 z1_b9 z2_b9 z3_b9 z4_b9 c_b10_0 c_b10_1 f_b10 z1_b10 z2_b10 z3_b10 z4_b10 K_b5 K_b6 K_b7 K_b9 K_b10
     have K_b5:=N_b5
     clear N_b5
     have K_b6:=N_b6
     clear N_b6
     have K_b7:=N_b7
     clear N_b7
     have K_b9:=N_b9
     clear N_b9
     have K_b10:=N_b10
     clear N_b10
     obtain ⟨c_b5_0,c_b5_1,f_b5,z0_b5,z1_b5,z2_b5,z3_b5,z4_b5⟩:=As K_b5
     obtain ⟨c_b6_0,c_b6_1,f_b6,z0_b6,z1_b6,z2_b6,z3_b6,z4_b6⟩:=As K_b6
     obtain ⟨c_b7_0,c_b7_1,f_b7,z0_b7,z1_b7,z2_b7,z3_b7,z4_b7⟩:=As K_b7
     obtain ⟨c_b9_0,c_b9_1,f_b9,z0_b9,z1_b9,z2_b9,z3_b9,z4_b9⟩:=As K_b9
     obtain ⟨c_b10_0,c_b10_1,f_b10,z0_b10,z1_b10,z2_b10,z3_b10,z4_b10⟩:=As K_b10
     have u1:=u1.cast (m:=r2) (by have:=St.out;have:=E2.out;have:=hr.out;omega)
     go_wp2_with fail
     refine (Gs u1 hd _).mono ?_
     rintro e w5 ⟨rfl,hb_⟩
     have N_b5:Blk w5 (w.heap.size+1+1) #[_,_]:=Blk.below (by (repeat' (first | (with_reducible assumption) | (with_reducible refine Blk.new ?_;first | (with_reducible rfl) | (simp;done)) | (with_reducible refine Blk.alloc ?_ _) | (with_reducible refine Blk.drew ?_) | (with_reducible refine Blk.drewN ?_ _) | (with_reducible apply Blk.set2_0) | (with_reducible apply Blk.set2_1) | (with_reducible refine Blk.other ?_ _ ?_;rotate_left;focus (first | omega | (simp;done) | (simp;omega)))))) hb_
     have N_b6:Blk w5 (w.heap.size+1+1+1) #[_,_]:=Blk.below (by (repeat' (first | (with_reducible assumption) | (with_reducible refine Blk.new ?_;first | (with_reducible rfl) | (simp;done)) | (with_reducible refine Blk.alloc ?_ _) | (with_reducible refine Blk.drew ?_) | (with_reducible refine Blk.drewN ?_ _) | (with_reducible apply Blk.set2_0) | (with_reducible apply Blk.set2_1) | (with_reducible refine Blk.other ?_ _ ?_;rotate_left;focus (first | omega | (simp;done) | (simp;omega)))))) hb_
     have N_b7:Blk w5 (w.heap.size+1+1+1+1) #[_,_]:=Blk.below (by (repeat' (first | (with_reducible assumption) | (with_reducible refine Blk.new ?_;first | (with_reducible rfl) | (simp;done)) | (with_reducible refine Blk.alloc ?_ _) | (with_reducible refine Blk.drew ?_) | (with_reducible refine Blk.drewN ?_ _) | (with_reducible apply Blk.set2_0) | (with_reducible apply Blk.set2_1) | (with_reducible refine Blk.other ?_ _ ?_;rotate_left;focus (first | omega | (simp;done) | (simp;omega)))))) hb_
     have N_b9:Blk w5 (b9) #[_,_]:=Blk.below (by (repeat' (first | (with_reducible assumption) | (with_reducible refine Blk.new ?_;first | (with_reducible rfl) | (simp;done)) | (with_reducible refine Blk.alloc ?_ _) | (with_reducible refine Blk.drew ?_) | (with_reducible refine Blk.drewN ?_ _) | (with_reducible apply Blk.set2_0) | (with_reducible apply Blk.set2_1) | (with_reducible refine Blk.other ?_ _ ?_;rotate_left;focus (first | omega | (simp;done) | (simp;omega)))))) hb_
     have N_b10:Blk w5 (b10) #[_,_]:=Blk.below (by (repeat' (first | (with_reducible assumption) | (with_reducible refine Blk.new ?_;first | (with_reducible rfl) | (simp;done)) | (with_reducible refine Blk.alloc ?_ _) | (with_reducible refine Blk.drew ?_) | (with_reducible refine Blk.drewN ?_ _) | (with_reducible apply Blk.set2_0) | (with_reducible apply Blk.set2_1) | (with_reducible refine Blk.other ?_ _ ?_;rotate_left;focus (first | omega | (simp;done) | (simp;omega)))))) hb_
     have HB_w5:Below w.heap.size w w5:=Below.trans (by go_grown) (hb_.mono (by go_size))
     have HZ_w5:w.heap.size≤w5.heap.size:=HB_w5.size
     clear hb_
     clear c_b5_0 c_b5_1 f_b5 z1_b5 z2_b5 z3_b5 z4_b5 c_b6_0 c_b6_1 f_b6 z1_b6 z2_b6 z3_b6 z4_b6 c_b7_0 c_b7_1 f_b7 z1_b7 z2_b7 z3_b7 z4_b7 c_b9_0 c_b9_1 f_b9 z1_b9 z2_b9 z3_b9 z4_b9 c_b10_0 c_b10_1 f_b10 z1_b10 z2_b10 z3_b10 z4_b10 K_b5 K_b6 K_b7 K_b9 K_b10
     have K_b5:=N_b5
     clear N_b5
     have K_b6:=N_b6
     clear N_b6
     have K_b7:=N_b7
     clear N_b7
     have K_b9:=N_b9
     clear N_b9
     have K_b10:=N_b10
     clear N_b10
     obtain ⟨c_b5_0,c_b5_1,f_b5,z0_b5,z1_b5,z2_b5,z3_b5,z4_b5⟩:=As K_b5
     obtain ⟨c_b6_0,c_b6_1,f_b6,z0_b6,z1_b6,z2_b6,z3_b6,z4_b6⟩:=As K_b6
     obtain ⟨c_b7_0,c_b7_1,f_b7,z0_b7,z1_b7,z2_b7,z3_b7,z4_b7⟩:=As K_b7
     obtain ⟨c_b9_0,c_b9_1,f_b9,z0_b9,z1_b9,z2_b9,z3_b9,z4_b9⟩:=As K_b9
     obtain ⟨c_b10_0,c_b10_1,f_b10,z0_b10,z1_b10,z2_b10,z3_b10,z4_b10⟩:=As K_b10
     go_wp2_with fail
     refine (Js u1 hd _).mono ?_
     rintro e w4 ⟨v1,v0,c,rfl,u3,_,hb_⟩
     have N_b5:Blk w4 (w.heap.size+1+1) #[_,_]:=Blk.below (by (repeat' (first | (with_reducible assumption) | (with_reducible refine Blk.new ?_;first | (with_reducible rfl) | (simp;done)) | (with_reducible refine Blk.alloc ?_ _) | (with_reducible refine Blk.drew ?_) | (with_reducible refine Blk.drewN ?_ _) | (with_reducible apply Blk.set2_0) | (with_reducible apply Blk.set2_1) | (with_reducible refine Blk.other ?_ _ ?_;rotate_left;focus (first | omega | (simp;done) | (simp;omega)))))) hb_
     have N_b6:Blk w4 (w.heap.size+1+1+1) #[_,_]:=Blk.below (by (repeat' (first | (with_reducible assumption) | (with_reducible refine Blk.new ?_;first | (with_reducible rfl) | (simp;done)) | (with_reducible refine Blk.alloc ?_ _) | (with_reducible refine Blk.drew ?_) | (with_reducible refine Blk.drewN ?_ _) | (with_reducible apply Blk.set2_0) | (with_reducible apply Blk.set2_1) | (with_reducible refine Blk.other ?_ _ ?_;rotate_left;focus (first | omega | (simp;done) | (simp;omega)))))) hb_
     have N_b7:Blk w4 (w.heap.size+1+1+1+1) #[_,_]:=Blk.below (by (repeat' (first | (with_reducible assumption) | (with_reducible refine Blk.new ?_;first | (with_reducible rfl) | (simp;done)) | (with_reducible refine Blk.alloc ?_ _) | (with_reducible refine Blk.drew ?_) | (with_reducible refine Blk.drewN ?_ _) | (with_reducible apply Blk.set2_0) | (with_reducible apply Blk.set2_1) | (with_reducible refine Blk.other ?_ _ ?_;rotate_left;focus (first | omega | (simp;done) | (simp;omega)))))) hb_
     have N_b9:Blk w4 (b9) #[_,_]:=Blk.below (by (repeat' (first | (with_reducible assumption) | (with_reducible refine Blk.new ?_;first | (with_reducible rfl) | (simp;done)) | (with_reducible refine Blk.alloc ?_ _) | (with_reducible refine Blk.drew ?_) | (with_reducible refine Blk.drewN ?_ _) | (with_reducible apply Blk.set2_0) | (with_reducible apply Blk.set2_1) | (with_reducible refine Blk.other ?_ _ ?_;rotate_left;focus (first | omega | (simp;done) | (simp;omega)))))) hb_
     have N_b10:Blk w4 (b10) #[_,_]:=Blk.below (by (repeat' (first | (with_reducible assumption) | (with_reducible refine Blk.new ?_;first | (with_reducible rfl) | (simp;done)) | (with_reducible refine Blk.alloc ?_ _) | (with_reducible refine Blk.drew ?_) | (with_reducible refine Blk.drewN ?_ _) | (with_reducible apply Blk.set2_0) | (with_reducible apply Blk.set2_1) | (with_reducible refine Blk.other ?_ _ ?_;rotate_left;focus (first | omega | (simp;done) | (simp;omega)))))) hb_
     have HB_w4:Below w.heap.size w w4:=Below.trans (by go_grown) (hb_.mono (by go_size))
     have HZ_w4:w.heap.size≤w4.heap.size:=HB_w4.size
     clear hb_
     clear c_b5_0 c_b5_1 f_b5 z1_b5 z2_b5 z3_b5 z4_b5 c_b6_0 c_b6_1 f_b6 z1_b6 z2_b6 z3_b6 z4_b6 c_b7_0 c_b7_1 f_b7 z1_b7 z2_b7 z3_b7 z4_b7 c_b9_0 c_b9_1 f_b9 z1_b9 z2_b9 z3_b9 z4_b9 c_b10_0 c_b10_1 f_b10 z1_b10 z2_b10 z3_b10 z4_b10 K_b5 K_b6 K_b7 K_b9 K_b10
     have K_b5:=N_b5
     clear N_b5
     have K_b6:=N_b6
     clear N_b6
     have K_b7:=N_b7
     clear N_b7
     have K_b9:=N_b9
     clear N_b9
     have K_b10:=N_b10
     clear N_b10
     obtain ⟨c_b5_0,c_b5_1,f_b5,z0_b5,z1_b5,z2_b5,z3_b5,z4_b5⟩:=As K_b5
     obtain ⟨c_b6_0,c_b6_1,f_b6,z0_b6,z1_b6,z2_b6,z3_b6,z4_b6⟩:=As K_b6
     obtain ⟨c_b7_0,c_b7_1,f_b7,z0_b7,z1_b7,z2_b7,z3_b7,z4_b7⟩:=As K_b7
     obtain ⟨c_b9_0,c_b9_1,f_b9,z0_b9,z1_b9,z2_b9,z3_b9,z4_b9⟩:=As K_b9
     obtain ⟨c_b10_0,c_b10_1,f_b10,z0_b10,z1_b10,z2_b10,z3_b10,z4_b10⟩:=As K_b10
     go_wp2_with fail
     go_roundw
     case rel =>
      have St:=St.out;have e3:=E3.out;have dl:=dl.out;have hr:=hr.out
      rw[← e3] at u2
      exact ⟨k+1,_,_,_,_,_,_,by omega,by go_num,u3.cast (m:=r2-d) (by omega),u2.or1 St.2.2.2.2,St.1 (by omega),(by (repeat' (first | (with_reducible assumption) | (with_reducible refine Blk.new ?_;first | (with_reducible rfl) | (simp;done)) | (with_reducible refine Blk.alloc ?_ _) | (with_reducible refine Blk.drew ?_) | (with_reducible refine Blk.drewN ?_ _) | (with_reducible apply Blk.set2_0) | (with_reducible apply Blk.set2_1) | (with_reducible refine Blk.other ?_ _ ?_;rotate_left;focus (first | omega | (simp;done) | (simp;omega)))))),(by (repeat' (first | (with_reducible assumption) | (with_reducible refine Blk.new ?_;first | (with_reducible rfl) | (simp;done)) | (with_reducible refine Blk.alloc ?_ _) | (with_reducible refine Blk.drew ?_) | (with_reducible refine Blk.drewN ?_ _) | (with_reducible apply Blk.set2_0) | (with_reducible apply Blk.set2_1) | (with_reducible refine Blk.other ?_ _ ?_;rotate_left;focus (first | omega | (simp;done) | (simp;omega)))))),(by (repeat' (first | (with_reducible assumption) | (with_reducible refine Blk.new ?_;first | (with_reducible rfl) | (simp;done)) | (with_reducible refine Blk.alloc ?_ _) | (with_reducible refine Blk.drew ?_) | (with_reducible refine Blk.drewN ?_ _) | (with_reducible apply Blk.set2_0) | (with_reducible apply Blk.set2_1) | (with_reducible refine Blk.other ?_ _ ?_;rotate_left;focus (first | omega | (simp;done) | (simp;omega)))))),(by (repeat' (first | (with_reducible assumption) | (with_reducible refine Blk.new ?_;first | (with_reducible rfl) | (simp;done)) | (with_reducible refine Blk.alloc ?_ _) | (with_reducible refine Blk.drew ?_) | (with_reducible refine Blk.drewN ?_ _) | (with_reducible apply Blk.set2_0) | (with_reducible apply Blk.set2_1) | (with_reducible refine Blk.other ?_ _ ?_;rotate_left;focus (first | omega | (simp;done) | (simp;omega)))))),(by (repeat' (first | (with_reducible assumption) | (with_reducible refine Blk.new ?_;first | (with_reducible rfl) | (simp;done)) | (with_reducible refine Blk.alloc ?_ _) | (with_reducible refine Blk.drew ?_) | (with_reducible refine Blk.drewN ?_ _) | (with_reducible apply Blk.set2_0) | (with_reducible apply Blk.set2_1) | (with_reducible refine Blk.other ?_ _ ?_;rotate_left;focus (first | omega | (simp;done) | (simp;omega)))))),by go_grown⟩
     case measure=>simp[intOf];omega
    ·have hg:decide (0≤Ch r2 d)=false:=by
      unfold Ch;repeat' split
      all_goals first | rfl | omega
     go_wp2_with fail
     refine (Ox ur uq _).mono ?_
     rintro e w3 ⟨s1,s0,t1,t0,rfl,u1,u2,hb_⟩
     have N_b5:Blk w3 (w.heap.size+1+1) #[_,_]:=Blk.below (by (repeat' (first | (with_reducible assumption) | (with_reducible refine Blk.new ?_;first | (with_reducible rfl) | (simp;done)) | (with_reducible refine Blk.alloc ?_ _) | (with_reducible refine Blk.drew ?_) | (with_reducible refine Blk.drewN ?_ _) | (with_reducible apply Blk.set2_0) | (with_reducible apply Blk.set2_1) | (with_reducible refine Blk.other ?_ _ ?_;rotate_left;focus (first | omega | (simp;done) | (simp;omega)))))) hb_
     have N_b6:Blk w3 (w.heap.size+1+1+1) #[_,_]:=Blk.below (by (repeat' (first | (with_reducible assumption) | (with_reducible refine Blk.new ?_;first | (with_reducible rfl) | (simp;done)) | (with_reducible refine Blk.alloc ?_ _) | (with_reducible refine Blk.drew ?_) | (with_reducible refine Blk.drewN ?_ _) | (with_reducible apply Blk.set2_0) | (with_reducible apply Blk.set2_1) | (with_reducible refine Blk.other ?_ _ ?_;rotate_left;focus (first | omega | (simp;done) | (simp;omega)))))) hb_
     have N_b7:Blk w3 (w.heap.size+1+1+1+1) #[_,_]:=Blk.below (by (repeat' (first | (with_reducible assumption) | (with_reducible refine Blk.new ?_;first | (with_reducible rfl) | (simp;done)) | (with_reducible refine Blk.alloc ?_ _) | (with_reducible refine Blk.drew ?_) | (with_reducible refine Blk.drewN ?_ _) | (with_reducible apply Blk.set2_0) | (with_reducible apply Blk.set2_1) | (with_reducible refine Blk.other ?_ _ ?_;rotate_left;focus (first | omega | (simp;done) | (simp;omega)))))) hb_
     have N_b9:Blk w3 (b9) #[_,_]:=Blk.below (by (repeat' (first | (with_reducible assumption) | (with_reducible refine Blk.new ?_;first | (with_reducible rfl) | (simp;done)) | (with_reducible refine Blk.alloc ?_ _) | (with_reducible refine Blk.drew ?_) | (with_reducible refine Blk.drewN ?_ _) | (with_reducible apply Blk.set2_0) | (with_reducible apply Blk.set2_1) | (with_reducible refine Blk.other ?_ _ ?_;rotate_left;focus (first | omega | (simp;done) | (simp;omega)))))) hb_
     have N_b10:Blk w3 (b10) #[_,_]:=Blk.below (by (repeat' (first | (with_reducible assumption) | (with_reducible refine Blk.new ?_;first | (with_reducible rfl) | (simp;done)) | (with_reducible refine Blk.alloc ?_ _) | (with_reducible refine Blk.drew ?_) | (with_reducible refine Blk.drewN ?_ _) | (with_reducible apply Blk.set2_0) | (with_reducible apply Blk.set2_1) | (with_reducible refine Blk.other ?_ _ ?_;rotate_left;focus (first | omega | (simp;done) | (simp;omega)))))) hb_
     have HB_w3:Below w.heap.size w w3:=Below.trans (by go_grown) (hb_.mono (by go_size))
     have HZ_w3:w.heap.size≤w3.heap.size:=HB_w3.size
     clear hb_
     clear c_b5_0 c_b5_1 f_b5 z1_b5 z2_b5 z3_b5 z4_b5 c_b6_0 c_b6_1 f_b6 z1_b6 z2_b6 z3_b6 z4_b6 c_b7_0 c_b7_1 f_b7 z1_b7 z2_b7 z3_b7 z4_b7 c_b9_0 c_b9_1 f_b9 z1_b9 z2_b9 z3_b9 z4_b9 c_b10_0 c_b10_1 f_b10 z1_b10 z2_b10 z3_b10 z4_b10 K_b5 K_b6 K_b7 K_b9 K_b10
     have K_b5:=N_b5
     clear N_b5
     have K_b6:=N_b6
     clear N_b6
     have K_b7:=N_b7
     clear N_b7
     have K_b9:=N_b9
     clear N_b9
     have K_b10:=N_b10
     clear N_b10
     obtain ⟨c_b5_0,c_b5_1,f_b5,z0_b5,z1_b5,z2_b5,z3_b5,z4_b5⟩:=As K_b5
     obtain ⟨c_b6_0,c_b6_1,f_b6,z0_b6,z1_b6,z2_b6,z3_b6,z4_b6⟩:=As K_b6
     obtain ⟨c_b7_0,c_b7_1,f_b7,z0_b7,z1_b7,z2_b7,z3_b7,z4_b7⟩:=As K_b7
     obtain ⟨c_b9_0,c_b9_1,f_b9,z0_b9,z1_b9,z2_b9,z3_b9,z4_b9⟩:=As K_b9
     obtain ⟨c_b10_0,c_b10_1,f_b10,z0_b10,z1_b10,z2_b10,z3_b10,z4_b10⟩:=As K_b10
     have u1:=u1.cast (m:=r2) (by have:=St.out;have:=E2.out;have:=hr.out;omega)
     go_wp2_with fail
     refine (Gs u1 hd _).mono ?_
     rintro e w5 ⟨rfl,hb_⟩
     have N_b5:Blk w5 (w.heap.size+1+1) #[_,_]:=Blk.below (by (repeat' (first | (with_reducible assumption) | (with_reducible refine Blk.new ?_;first | (with_reducible rfl) | (simp;done)) | (with_reducible refine Blk.alloc ?_ _) | (with_reducible refine Blk.drew ?_) | (with_reducible refine Blk.drewN ?_ _) | (with_reducible apply Blk.set2_0) | (with_reducible apply Blk.set2_1) | (with_reducible refine Blk.other ?_ _ ?_;rotate_left;focus (first | omega | (simp;done) | (simp;omega)))))) hb_
     have N_b6:Blk w5 (w.heap.size+1+1+1) #[_,_]:=Blk.below (by (repeat' (first | (with_reducible assumption) | (with_reducible refine Blk.new ?_;first | (with_reducible rfl) | (simp;done)) | (with_reducible refine Blk.alloc ?_ _) | (with_reducible refine Blk.drew ?_) | (with_reducible refine Blk.drewN ?_ _) | (with_reducible apply Blk.set2_0) | (with_reducible apply Blk.set2_1) | (with_reducible refine Blk.other ?_ _ ?_;rotate_left;focus (first | omega | (simp;done) | (simp;omega)))))) hb_
     have N_b7:Blk w5 (w.heap.size+1+1+1+1) #[_,_]:=Blk.below (by (repeat' (first | (with_reducible assumption) | (with_reducible refine Blk.new ?_;first | (with_reducible rfl) | (simp;done)) | (with_reducible refine Blk.alloc ?_ _) | (with_reducible refine Blk.drew ?_) | (with_reducible refine Blk.drewN ?_ _) | (with_reducible apply Blk.set2_0) | (with_reducible apply Blk.set2_1) | (with_reducible refine Blk.other ?_ _ ?_;rotate_left;focus (first | omega | (simp;done) | (simp;omega)))))) hb_
     have N_b9:Blk w5 (b9) #[_,_]:=Blk.below (by (repeat' (first | (with_reducible assumption) | (with_reducible refine Blk.new ?_;first | (with_reducible rfl) | (simp;done)) | (with_reducible refine Blk.alloc ?_ _) | (with_reducible refine Blk.drew ?_) | (with_reducible refine Blk.drewN ?_ _) | (with_reducible apply Blk.set2_0) | (with_reducible apply Blk.set2_1) | (with_reducible refine Blk.other ?_ _ ?_;rotate_left;focus (first | omega | (simp;done) | (simp;omega)))))) hb_
     have N_b10:Blk w5 (b10) #[_,_]:=Blk.below (by (repeat' (first | (with_reducible assumption) | (with_reducible refine Blk.new ?_;first | (with_reducible rfl) | (simp;done)) | (with_reducible refine Blk.alloc ?_ _) | (with_reducible refine Blk.drew ?_) | (with_reducible refine Blk.drewN ?_ _) | (with_reducible apply Blk.set2_0) | (with_reducible apply Blk.set2_1) | (with_reducible refine Blk.other ?_ _ ?_;rotate_left;focus (first | omega | (simp;done) | (simp;omega)))))) hb_
     have HB_w5:Below w.heap.size w w5:=Below.trans (by go_grown) (hb_.mono (by go_size))
     have HZ_w5:w.heap.size≤w5.heap.size:=HB_w5.size
     clear hb_
     clear c_b5_0 c_b5_1 f_b5 z1_b5 z2_b5 z3_b5 z4_b5 c_b6_0 c_b6_1 f_b6 z1_b6 z2_b6 z3_b6 z4_b6 c_b7_0 c_b7_1 f_b7 z1_b7 z2_b7 z3_b7 z4_b7 c_b9_0 c_b9_1 f_b9 z1_b9 z2_b9 z3_b9 z4_b9 c_b10_0 c_b10_1 f_b10 z1_b10 z2_b10 z3_b10 z4_b10 K_b5 K_b6 K_b7 K_b9 K_b10
     have K_b5:=N_b5
     clear N_b5
     have K_b6:=N_b6
     clear N_b6
     have K_b7:=N_b7
     clear N_b7
     have K_b9:=N_b9
     clear N_b9
     have K_b10:=N_b10
     clear N_b10
     obtain ⟨c_b5_0,c_b5_1,f_b5,z0_b5,z1_b5,z2_b5,z3_b5,z4_b5⟩:=As K_b5
     obtain ⟨c_b6_0,c_b6_1,f_b6,z0_b6,z1_b6,z2_b6,z3_b6,z4_b6⟩:=As K_b6
     obtain ⟨c_b7_0,c_b7_1,f_b7,z0_b7,z1_b7,z2_b7,z3_b7,z4_b7⟩:=As K_b7
     obtain ⟨c_b9_0,c_b9_1,f_b9,z0_b9,z1_b9,z2_b9,z3_b9,z4_b9⟩:=As K_b9
     obtain ⟨c_b10_0,c_b10_1,f_b10,z0_b10,z1_b10,z2_b10,z3_b10,z4_b10⟩:=As K_b10
     go_wp2_with fail
     go_roundw
     case rel =>
      have St:=St.out;have e3:=E3.out
      rw[← e3] at u2
      exact ⟨k+1,_,_,_,_,_,_,by omega,by go_num,u1,u2,St.2.1 (by omega),(by (repeat' (first | (with_reducible assumption) | (with_reducible refine Blk.new ?_;first | (with_reducible rfl) | (simp;done)) | (with_reducible refine Blk.alloc ?_ _) | (with_reducible refine Blk.drew ?_) | (with_reducible refine Blk.drewN ?_ _) | (with_reducible apply Blk.set2_0) | (with_reducible apply Blk.set2_1) | (with_reducible refine Blk.other ?_ _ ?_;rotate_left;focus (first | omega | (simp;done) | (simp;omega)))))),(by (repeat' (first | (with_reducible assumption) | (with_reducible refine Blk.new ?_;first | (with_reducible rfl) | (simp;done)) | (with_reducible refine Blk.alloc ?_ _) | (with_reducible refine Blk.drew ?_) | (with_reducible refine Blk.drewN ?_ _) | (with_reducible apply Blk.set2_0) | (with_reducible apply Blk.set2_1) | (with_reducible refine Blk.other ?_ _ ?_;rotate_left;focus (first | omega | (simp;done) | (simp;omega)))))),(by (repeat' (first | (with_reducible assumption) | (with_reducible refine Blk.new ?_;first | (with_reducible rfl) | (simp;done)) | (with_reducible refine Blk.alloc ?_ _) | (with_reducible refine Blk.drew ?_) | (with_reducible refine Blk.drewN ?_ _) | (with_reducible apply Blk.set2_0) | (with_reducible apply Blk.set2_1) | (with_reducible refine Blk.other ?_ _ ?_;rotate_left;focus (first | omega | (simp;done) | (simp;omega)))))),(by (repeat' (first | (with_reducible assumption) | (with_reducible refine Blk.new ?_;first | (with_reducible rfl) | (simp;done)) | (with_reducible refine Blk.alloc ?_ _) | (with_reducible refine Blk.drew ?_) | (with_reducible refine Blk.drewN ?_ _) | (with_reducible apply Blk.set2_0) | (with_reducible apply Blk.set2_1) | (with_reducible refine Blk.other ?_ _ ?_;rotate_left;focus (first | omega | (simp;done) | (simp;omega)))))),(by (repeat' (first | (with_reducible assumption) | (with_reducible refine Blk.new ?_;first | (with_reducible rfl) | (simp;done)) | (with_reducible refine Blk.alloc ?_ _) | (with_reducible refine Blk.drew ?_) | (with_reducible refine Blk.drewN ?_ _) | (with_reducible apply Blk.set2_0) | (with_reducible apply Blk.set2_1) | (with_reducible refine Blk.other ?_ _ ?_;rotate_left;focus (first | omega | (simp;done) | (simp;omega)))))),by go_grown⟩
     case measure=>simp[intOf];omega
  ·obtain rfl:k=128:=by omega
   have fin:=Lib.hid inv.finish
   go_wp2_with fail
   go_region_held3 (fun w'=>w'.cell? ⟨b9,0,none⟩=some (.int .u64 r1)∧w'.cell? ⟨b9,1,none⟩=some (.int .u64 r0)∧w'.cell? ⟨b10,0,none⟩=some (.int .u64 q1)∧w'.cell? ⟨b10,1,none⟩=some (.int .u64 q0)) (go_keep) (fail)
   all_goals
    go_wp2_with fail
    (try simp only[Exit.inBlock,Exit.then])
    refine bodyPost_ret (v := ?_) ?_ rfl ?_
    rotate_left
    ·simp only[results,Tryz.results46]
     go_simp
     exact rfl
    have fin:=fin.out
    exact ⟨_,_,_,_,rfl,uq.cast fin.1,ur.cast fin.2,by go_grown⟩
open Go.RowKit
set_option linter.unusedVariables false
set_option maxRecDepth 100000
theorem Kf (n:Nat):0≤loW n∧loW n<18446744073709551616:=by
 unfold loW
 exact ⟨by omega,by omega⟩
section
variable {a b c d h l n:Nat}
theorem Sp (hh:h<B128) (hl:l<B128) (hd:d<B128) (hlt:h<d):HasC Tryz.prog 46 [dU h,dU l,dU d] (fun y=>y=.tup [dU ((h*B128+l) / d),dU ((h*B128+l) % d),.v (.bool true)]) :=
 (HasC.ofCalls (vs:=[.agg #[.int .u64 (hiW h),.int .u64 (loW h)],.agg #[.int .u64 (hiW l),.int .u64 (loW l)],.agg #[.int .u64 (hiW d),.int .u64 (loW d)]]) (R:=fun r=>r=.tuple #[.agg #[.int .u64 (hiW ((h*B128+l) / d)),.int .u64 (loW ((h*B128+l) / d))],.agg #[.int .u64 (hiW ((h*B128+l) % d)),.int .u64 (loW ((h*B128+l) % d))],.bool true]) (fun args w=>Tryz.call46 args w) rfl
  (fun w=>(Yy (Bu hh) (Bu hl) (Bu hd) hlt w).mono fun e w' ⟨q1,q0,r1,r0,he,h1,h2,hb⟩=>⟨_,he,by
   obtain ⟨rfl,rfl⟩:=h1.hl;obtain ⟨rfl,rfl⟩:=h2.hl;rfl,hb⟩)).mono fun y ⟨r,hr,hy⟩=>by subst hr;exact hy
theorem b3l (ha:a<B128) (hc:c<B128) (hb:b<B128) (hd:d<B128):HasC Tryz.prog 57 [dU a,dU c,dU b,dU d] (fun y=>y=.v (.int .i64 (Ch (a*B128+c) (b*B128+d)))) :=
 (HasC.ofCalls (vs:=[.agg #[.int .u64 (hiW a),.int .u64 (loW a)],.agg #[.int .u64 (hiW c),.int .u64 (loW c)],.agg #[.int .u64 (hiW b),.int .u64 (loW b)],.agg #[.int .u64 (hiW d),.int .u64 (loW d)]]) (R:=fun r=>r=.int .i64 (Ch (a*B128+c) (b*B128+d))) (fun args w=>Tryz.call57 args w) rfl
  (fun w=>(Vm (Bu ha) (Bu hc) (Bu hb) (Bu hd) w).mono fun e w' ⟨he,hb⟩=>⟨_,he,rfl,hb⟩)).mono fun y ⟨r,hr,hy⟩=>by subst hr;exact hy
theorem b2q (ha:a<B128) (hc:c<B128) (hb:b<B128) (hd:d<B128):HasC Tryz.prog 58 [dU a,dU c,dU b,dU d] (fun y=>y=.tup [dU ((a*B128+c+B128*B128-(b*B128+d)) / B128 % B128),dU ((a*B128+c+B128*B128-(b*B128+d)) % B128),.v (.int .u64 ((Ft (a*B128+c) (b*B128+d):Nat):Int))]) :=
 (HasC.ofCalls (vs:=[.agg #[.int .u64 (hiW a),.int .u64 (loW a)],.agg #[.int .u64 (hiW c),.int .u64 (loW c)],.agg #[.int .u64 (hiW b),.int .u64 (loW b)],.agg #[.int .u64 (hiW d),.int .u64 (loW d)]]) (R:=fun r=>r=.tuple #[.agg #[.int .u64 (hiW ((a*B128+c+B128*B128-(b*B128+d)) / B128 % B128)),.int .u64 (loW ((a*B128+c+B128*B128-(b*B128+d)) / B128 % B128))],.agg #[.int .u64 (hiW ((a*B128+c+B128*B128-(b*B128+d)) % B128)),.int .u64 (loW ((a*B128+c+B128*B128-(b*B128+d)) % B128))],.int .u64 ((Ft (a*B128+c) (b*B128+d):Nat):Int)]) (fun args w=>Tryz.call58 args w) rfl
  (fun w=>(a5v (Bu ha) (Bu hc) (Bu hb) (Bu hd) w).mono fun e w' ⟨p1,p0,q1,q0,r,he,h1,h2,h3,hb⟩=>⟨_,he,by
   obtain ⟨rfl,rfl⟩:=h1.hl;obtain ⟨rfl,rfl⟩:=h2.hl;obtain rfl:=h3.eq;rfl,hb⟩)).mono fun y ⟨r,hr,hy⟩=>by subst hr;exact hy
theorem b2k (hh:h<B128) (hl:l<B128):HasC Tryz.prog 75 [dU h,dU l] (fun y => ∃ (r:Nat) (b:Bool),y=.tup [dU r,.v (.bool b)]∧(b=true↔r*r=h*B128+l)∧r<B128∧r*r≤h*B128+l∧h*B128+l<(r+1)*(r+1)) :=
 (HasC.ofCalls (vs:=[.agg #[.int .u64 (hiW h),.int .u64 (loW h)],.agg #[.int .u64 (hiW l),.int .u64 (loW l)]]) (R:=fun v => ∃ (r:Nat) (b:Bool),v=.tuple #[.agg #[.int .u64 (hiW r),.int .u64 (loW r)],.bool b]∧(b=true↔r*r=h*B128+l)∧r<B128∧r*r≤h*B128+l∧h*B128+l<(r+1)*(r+1)) (fun args w=>Tryz.call75 args w) rfl
  (fun w=>(a56 (Bu hh) (Bu hl) w).mono fun e w' ⟨r,r1,r0,b,he,h1,h2,h3,h4,hb⟩=>⟨_,he,by
   have hlt:=h2.lt
   obtain ⟨rfl,rfl⟩:=h2.hl
   exact ⟨r,b,rfl,h1,hlt,h3,h4⟩,hb⟩)).mono fun y ⟨v,⟨r,b,hv,h1⟩,hy⟩=>by subst hv;exact ⟨r,b,hy,h1⟩
end
theorem Uh {Im:Nat→Nat→Prop} {W:World} : ∀ {ds:List DV} {xs:List Value},DV.bases ds=some xs→DV.relL Im W ds xs
 | [],xs,h=>by simp[DV.bases] at h;subst h;rw[DV.relL]
 | .v x::ds,xs,h=>by
  simp only[DV.bases] at h
  split at h
  ·rename_i ys hy
   simp at h
   subst h
   rw[DV.relL]
   exact ⟨x,ys,rfl,by rw[DV.rel],Uh hy⟩
  ·cases h
 | .sl _ _::ds,xs,h=>by simp[DV.bases] at h
 | .agg _::ds,xs,h=>by simp[DV.bases] at h
 | .tup _::ds,xs,h=>by simp[DV.bases] at h
 | .ifc _ _::ds,xs,h=>by simp[DV.bases] at h
 | .bx _::ds,xs,h=>by simp[DV.bases] at h
theorem b1d {Im:Nat→Nat→Prop} {W:World} {d:DV} {x:Value} (h:d.base=some x):d.rel Im W x:=by
 cases d with
 | v z=>simp[DV.base] at h;subst h;rw[DV.rel]
 | agg cs =>
  simp only[DV.base] at h
  split at h
  ·rename_i xs hx
   simp at h
   subst h
   rw[DV.rel]
   exact ⟨xs.toArray,rfl,by simpa using Uh hx⟩
  ·cases h
 | sl n cs=>simp[DV.base] at h
 | tup n=>simp[DV.base] at h
 | ifc t n=>simp[DV.base] at h
 | bx n=>simp[DV.base] at h
theorem Ug {Im:Nat→Nat→Prop} {W:World} : ∀ {ds:List DV} {vs:List Value},ds.map DV.base=vs.map some→DV.relL Im W ds vs
 | [],[],h=>by rw[DV.relL]
 | [],v::vs,h=>by simp at h
 | d::ds,[],h=>by simp at h
 | d::ds,v::vs,h=>by
  simp only[List.map_cons,List.cons.injEq] at h
  rw[DV.relL]
  exact ⟨v,vs,rfl,b1d h.1,Ug h.2⟩
theorem HasC.walk {f:FuncId} {ds:List DV} {vs:List Value} (h:HasC Tryz.prog f ds (fun y=>y=.v (.bool true))) (hb:ds.map DV.base=vs.map some) (w:World) (hk:Kw w:=by first | exact ⟨.inl (by kernel_rfl),.inl (by kernel_rfl)⟩ | exact ⟨.inl (by kernel_rfl),.inl (by kernel_rfl),.inl (by kernel_rfl)⟩):Calls Tryz.prog f vs.toArray w fun e w'=>e=.returned (.bool true)∧Below w.heap.size w w' :=
 (h.2.2 w vs.toArray (fun _ _=>False) hk (fun _ _ h=>h.elim) (Ug hb)).mono fun e w' ⟨r,y,h1,h2,h3,h4⟩=>by
  subst h2
  rw[DV.rel] at h3
  subst h3
  exact ⟨h1,h4⟩
open Go.RowKit
set_option linter.unusedVariables false
set_option linter.unusedSimpArgs false
set_option maxRecDepth 100000
open Go.RowKit
set_option linter.unusedVariables false
set_option linter.unusedSimpArgs false
set_option maxRecDepth 100000
abbrev L8:=List UInt8
theorem Zx {b:Bool} {p q:Prop} (h:b=true∧p∨b=false∧q) (hb : ¬ b=false):p:=by
 rcases h with h | h
 ·exact h.2
 ·exact absurd h.1 hb
theorem b3j {b:Bool} {p q:Prop} (h:b=true∧p∨b=false∧q) (hb:b=false):q:=by
 rcases h with h | h
 ·rw[hb] at h;cases h.1
 ·exact h.2
theorem Qg {b:Bool} (h : ¬ b=true):b=false:=by simpa using h
def tx (l:L8):ByteArray:=⟨l.toArray⟩
@[simp] theorem Aj (l:L8):(tx l).size=l.length:=by simp[tx,ByteArray.size]
theorem Dg (a b:L8):tx a ++ tx b=tx (a ++ b):=by
 apply ByteArray.ext
 simp[tx]
theorem Rc {a b:L8} (h:tx a=tx b):a=b:=by
 have:=congrArg (fun x:ByteArray=>x.data.toList) h
 simpa [tx] using this
theorem Ti {a b:L8}:tx a=tx b↔a=b:=⟨Rc,fun h=>by rw[h]⟩
theorem Wk (s:ByteArray):s=tx s.data.toList:=by
 apply ByteArray.ext
 simp[tx]
theorem Bs (l:L8) (i j:Nat):(tx l).extract i j=tx ((l.drop i).take (j-i)):=by
 apply ByteArray.ext
 simp[tx,List.drop_take]
theorem b82 (l:L8) (k:Nat):Uw (tx l) k=(((l[k]?).getD 0).toNat:Int):=by simp[Uw,tx]
theorem a9o:tx []=⟨#[]⟩:=rfl
theorem a16 (n:Int) (h : -9223372036854775808≤n∧n≤9223372036854775807):(Lib.itoa n).length≤21:=Lib.itoa_length_le n h.1 h.2
theorem b5n {n:Int} (h:0≤n):Lib.itoa n=Lib.decDigits n.toNat:=by unfold Lib.itoa;rw[if_neg (by omega)]
def Bt (n:Int) (w:Nat):L8:=List.replicate (w-(Lib.itoa n).length) 48 ++ Lib.itoa n
theorem a8k (n:Int) (w:Nat):(Bt n w).length=max w (Lib.itoa n).length:=by simp[Bt];omega
open Go.RowKit
set_option linter.unusedVariables false
set_option linter.unusedSimpArgs false
set_option maxRecDepth 100000
def Ci (c:UInt8):Bool:=decide (48≤c.toNat)&&decide (c.toNat≤57)
theorem Cy {c:UInt8}:Ci c=true↔48≤c.toNat∧c.toNat≤57:=by simp[Ci]
def nvA (n:Nat) (l:L8):Nat:=l.foldl (fun n c=>n*10+(c.toNat-48)) n
def nvL (l:L8):Nat:=nvA 0 l
def ndg:L8→Nat
 | []=>0
 | c::l=>if Ci c then ndg l+1 else 0
theorem Xk : ∀ l:L8,ndg l≤l.length
 | []=>Nat.le_refl _
 | c::l=>by
  have:=Xk l
  unfold ndg
  split<;>simp<;>omega
theorem Qk : ∀ (l:L8) (i:Nat) (c:UInt8),i<ndg l→l[i]? = some c→Ci c=true
 | [],i,c,h,e=>by simp at e
 | a::l,i,c,h,e=>by
  unfold ndg at h
  split at h
  ·rename_i ha
   cases i with
   | zero=>simp at e;subst e;exact ha
   | succ i=>exact Qk l i c (by omega) (by simpa using e)
  ·omega
theorem Xc : ∀ (l:L8) (c:UInt8),l[ndg l]? = some c→Ci c=false
 | [],c,e=>by simp at e
 | a::l,c,e=>by
  unfold ndg at e
  split at e
  ·exact Xc l c (by simpa using e)
  ·rename_i ha
   simp at e
   subst e
   simpa using ha
theorem Lj {l:L8} {k:Nat} (hk:k≤l.length) (h : ∀ i c,i<k→l[i]? = some c→Ci c=true) (he : ∀ c,l[k]? = some c→Ci c=false):ndg l=k:=by
 apply Classical.byContradiction
 intro hne
 rcases Nat.lt_or_gt_of_ne hne with hlt | hlt
 ·have h1:ndg l<l.length:=by omega
  have h2:=Xc l _ (List.getElem?_eq_getElem h1)
  have h3:=h _ _ hlt (List.getElem?_eq_getElem h1)
  rw[h2] at h3
  cases h3
 ·have h1:k<l.length:=by have:=Xk l;omega
  have h2:=he _ (List.getElem?_eq_getElem h1)
  have h3:=Qk l _ _ hlt (List.getElem?_eq_getElem h1)
  rw[h2] at h3
  cases h3
theorem a98 : ∀ (l:L8) (n:Nat),l.all Ci=true→nvA n l+1≤(n+1)*10 ^ l.length
 | [],n,h=>by simp[nvA]
 | c::l,n,h=>by
  simp only[List.all_cons,Bool.and_eq_true] at h
  have h1:=a98 l (n*10+(c.toNat-48)) h.2
  have h2:=(Cy.1 h.1).2
  have h3:(n*10+(c.toNat-48)+1)*10 ^ l.length≤((n+1)*10)*10 ^ l.length:=Nat.mul_le_mul_right _ (by omega)
  show nvA (n*10+(c.toNat-48)) l+1≤_
  rw[List.length_cons,Nat.pow_succ,Nat.mul_comm (10 ^ l.length) 10,← Nat.mul_assoc]
  omega
theorem Fy {l:L8} {k:Nat} (h:l.all Ci=true) (hk:l.length≤k):nvL l<10 ^ k:=by
 have h1:=a98 l 0 h
 have h2:10 ^ l.length≤10 ^ k:=Nat.pow_le_pow_right (by decide) hk
 unfold nvL
 omega
theorem a8j (l:L8) (c:UInt8) (n:Nat):nvA n (l ++ [c])=nvA n l*10+(c.toNat-48):=by simp[nvA]
theorem Sy {l:L8} {k:Nat} {c:UInt8} (h:l[k]? = some c):nvL (l.take (k+1))=nvL (l.take k)*10+(c.toNat-48):=by
 obtain ⟨hk,e⟩:=List.getElem?_eq_some_iff.1 h
 rw[List.take_succ_eq_append_getElem hk,e]
 exact a8j _ _ _
theorem Ju {l:L8} {k:Nat} (h:k≤ndg l):(l.take k).all Ci=true:=by
 rw[List.all_eq_true]
 intro c hc
 obtain ⟨i,hi,rfl⟩:=List.getElem_of_mem hc
 simp at hi
 exact Qk l i _ (by omega) (by rw[List.getElem_take];exact List.getElem?_eq_getElem (by omega))
open Go.RowKit
set_option linter.unusedVariables false
section
variable {ex:List Nat} {Q:Ex→AS→Prop} {s:AS}
theorem Ef {x y:Code} {α:Type} (n:Nat) (t:α→List (Nat×AV)) (h:α→List (Nat×List DV)) (J:α→Prop) (rest : ∀ a:α,J a→VC ex y Q (mkS n (t a) (h a)))
  (k:(∀ a:α,J a→VC ex y Q (mkS n (t a) (h a)))→VC ex x (Yn (fun s'=>VC ex y Q s') Q) s):VC ex (.seq x y) Q s:=Ae (k rest)
theorem Cc {y:Code} {α:Type} {n:Nat} {t:α→List (Nat×AV)} {h:α→List (Nat×List DV)} {J:α→Prop} (rest : ∀ a:α,J a→VC ex y Q (mkS n (t a) (h a))) (a:α) (hj:J a) (hs:s=mkS n (t a) (h a)):Yn (fun s'=>VC ex y Q s') Q .normal s:=by
 subst hs
 exact rest a hj
end
open Go.RowKit
set_option linter.unusedVariables false
set_option linter.unusedSimpArgs false
set_option maxRecDepth 100000
structure RootInv (a k q:Nat):Prop where
 lo:q*q≤a
 hi:a<(q+10 ^ k)*(q+10 ^ k)
theorem Qi : ∀ a:Nat,∃ s,s*s≤a∧a<(s+1)*(s+1)
 | 0=>⟨0,by omega,by omega⟩
 | a+1=>by
  obtain ⟨s,h1,h2⟩:=Qi a
  by_cases h:a+1<(s+1)*(s+1)
  ·exact ⟨s,by omega,h⟩
  ·refine ⟨s+1,by omega,?_⟩
   have:(s+1+1)*(s+1+1)=(s+1)*(s+1)+2*(s+1)+1:=by rw[Nat.add_mul,Nat.mul_add];omega
   omega
end Go.Proofs.YtdkgnmiiibpnnaaGreatDoor
