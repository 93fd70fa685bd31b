/- What is known of wide's functions, said of numbers: each word by its number. Numbers as rows of digits. Plain laws of digits: the parts of XRow, XRef1 .. XRef8 that speak of no program. The reference's numbers, digit by digit. The contracts of package wide's shift by one and long division, for all arguments. The contract of package wide's long division of four words by two, for all arguments. More of wide's functions, said of numbers. wide: a number's text; the number of a text. Texts as lists of bytes: parts, sums, places; decimal numerals. Digits in lists of bytes, and their numbers: with no program in sight. What stands between two pieces of text: said once, for both ways of a branch. The reference's quotients and roots. -/
import Derived.Test.YtdkgnmiiibpnnaaGreatDoorVcL
import Derived.Test.YtdkgnmiiibpnnaaGreatDoorWide8
import Derived.Test.YtdkgnmiiibpnnaaGreatDoorWidB
import Derived.Test.YtdkgnmiiibpnnaaGreatDoorNum
import Derived.Test.YtdkgnmiiibpnnaaGreatDoorWide2
import Derived.BigRegion
import Derived.Deep.RegionHeld3
import Derived.Deep.LoopGhost
import Derived.Test.YtdkgnmiiibpnnaaGreatDoorWide5
import Derived.Laws.RangeAny
import Derived.Lib.ItoaLen
namespace Go.Proofs.YtdkgnmiiibpnnaaGreatDoor
open Go.RowKit
set_option linter.unusedVariables false
set_option maxRecDepth 100000
theorem bf {p:Prop} (h:false=true↔p) : ¬ p:=fun k=>Bool.noConfusion (h.2 k)
theorem bt {p:Prop} (h:true=true↔p):p:=h.1 rfl
theorem bff {p:Prop} {c:Bool} (h:c=true↔p) (k : ¬ p):c=false:=by
 cases c with
 | false=>rfl
 | true=>exact absurd (h.1 rfl) k
def hiW (n:Nat):Int:=((n / 18446744073709551616:Nat):Int)
def loW (n:Nat):Int:=((n % 18446744073709551616:Nat):Int)
def B128:Nat:=340282366920938463463374607431768211456
theorem Ce {n:Nat} (h:n<B128):IsU (hiW n) (loW n) n:=by
 unfold B128 at h
 unfold hiW loW
 exact ⟨by omega,by omega,by omega,by omega,by omega⟩
theorem IsU.hl {h l:Int} {n:Nat} (u:IsU h l n):h=hiW n∧l=loW n:=by
 obtain ⟨a,b,c,d,e⟩:=u
 unfold hiW loW
 exact ⟨by omega,by omega⟩
theorem a92 {n:Nat} (h:n<18446744073709551616):hiW n=0∧loW n=n:=by
 unfold hiW loW
 exact ⟨by omega,by omega⟩
def dU (n:Nat):DV:=.agg [.v (.int .u64 (hiW n)),.v (.int .u64 (loW n))]
theorem An {P:Prop} {K:Bool→Prop} (h : ¬ P) (k:K false) : ∀ c,(c=true↔P)→K c:=fun c hc=>by
 cases c with
 | false=>exact k
 | true=>exact absurd (hc.1 rfl) h
theorem Bj {P:Prop} {K:Bool→Prop} (h:P) (k:K true) : ∀ c,(c=true↔P)→K c:=fun c hc=>by
 cases c with
 | true=>exact k
 | false=>exact Bool.noConfusion (hc.2 h)
abbrev Hw (n:Nat):DV:=.v (.int .u64 (hiW n))
abbrev Lw (n:Nat):DV:=.v (.int .u64 (loW n))
abbrev Uv (z:Int):DV:=.v (.int .u64 z)
abbrev Sv (s:ByteArray):DV:=.v (.string s)
abbrev Iv (z:Int):DV:=.v (.int .i64 z)
abbrev Bv (b:Bool):DV:=.v (.bool b)
abbrev Ia (z:Int):AV:=.d (.v (.int .i64 z))
abbrev Ba (b:Bool):AV:=.d (.v (.bool b))
theorem Bk (n:Nat):n % B128<B128:=Nat.mod_lt _ (by decide)
section
variable {a b c d h l n:Nat}
theorem a2l (ha:a<B128) (hb:b<B128):HasC Tryz.prog 93 [dU a,dU b] (fun y=>y=.tup [dU ((a+b) % B128),.v (.int .u64 (((a+b) / B128:Nat):Int))]) :=
 (HasC.ofCalls (vs:=[.agg #[.int .u64 (hiW a),.int .u64 (loW a)],.agg #[.int .u64 (hiW b),.int .u64 (loW b)]]) (R:=fun r=>r=.tuple #[.agg #[.int .u64 (hiW ((a+b) % B128)),.int .u64 (loW ((a+b) % B128))],.int .u64 (((a+b) / B128:Nat):Int)]) (fun args w=>Tryz.call93 args w) rfl
  (fun w=>(Nh (Ce ha) (Ce hb) w).mono fun e w' ⟨r1,r0,c,he,h1,h2,hb⟩=>⟨_,he,by
   obtain ⟨rfl,rfl⟩:=h1.hl;obtain rfl:=h2.eq;rfl,hb⟩)).mono fun y ⟨r,hr,hy⟩=>by subst hr;exact hy
theorem Fm (ha:a<B128) (hn:n<18446744073709551616):HasC Tryz.prog 86 [dU a,.v (.int .u64 (n:Int))] (fun y=>y=.tup [.v (.int .u64 ((a*n / B128:Nat):Int)),dU (a*n % B128)]) :=
 (HasC.ofCalls (vs:=[.agg #[.int .u64 (hiW a),.int .u64 (loW a)],.int .u64 (n:Int)]) (R:=fun r=>r=.tuple #[.int .u64 ((a*n / B128:Nat):Int),.agg #[.int .u64 (hiW (a*n % B128)),.int .u64 (loW (a*n % B128))]]) (fun args w=>Tryz.call86 args w) rfl
  (fun w=>(Gi (Ce ha) (IsW.ofNat n hn) w).mono fun e w' ⟨c,r1,r0,he,h1,h2,hb⟩=>⟨_,he,by
   obtain ⟨rfl,rfl⟩:=h1.hl;obtain rfl:=h2.eq;rfl,hb⟩)).mono fun y ⟨r,hr,hy⟩=>by subst hr;exact hy
theorem a70 (ha:a<B128) (hb:b<B128):HasC Tryz.prog 61 [dU a,dU b] (fun y=>y=.tup [dU (a*b / B128),dU (a*b % B128)]) :=
 (HasC.ofCalls (vs:=[.agg #[.int .u64 (hiW a),.int .u64 (loW a)],.agg #[.int .u64 (hiW b),.int .u64 (loW b)]]) (R:=fun r=>r=.tuple #[.agg #[.int .u64 (hiW (a*b / B128)),.int .u64 (loW (a*b / B128))],.agg #[.int .u64 (hiW (a*b % B128)),.int .u64 (loW (a*b % B128))]]) (fun args w=>Tryz.call61 args w) rfl
  (fun w=>(a7x (Ce ha) (Ce hb) w).mono fun e w' ⟨r1,r0,q1,q0,he,h1,h2,hb⟩=>⟨_,he,by
   obtain ⟨rfl,rfl⟩:=h1.hl;obtain ⟨rfl,rfl⟩:=h2.hl;rfl,hb⟩)).mono fun y ⟨r,hr,hy⟩=>by subst hr;exact hy
theorem Uk (x:Int):HasC Tryz.prog 59 [.v (.int .u64 x)] (fun y=>y=.agg [.v (.int .u64 0),.v (.int .u64 x)]) :=
 (HasC.ofCalls (vs:=[.int .u64 x]) (R:=fun r=>r=.agg #[.int .u64 0,.int .u64 x]) (fun args w=>Tryz.call59 args w) rfl
  (fun w=>(Qg x w).mono fun e w' ⟨he,hb⟩=>⟨_,he,rfl,hb⟩)).mono fun y ⟨r,hr,hy⟩=>by subst hr;exact hy
theorem Wt (hn:n<18446744073709551616):HasC Tryz.prog 59 [.v (.int .u64 (n:Int))] (fun y=>y=dU n) :=
 (Uk (n:Int)).mono fun y hy=>by
  obtain ⟨h1,h2⟩:=a92 hn
  rw[hy,dU,h1,h2]
theorem Fe (ha:a<B128):HasC Tryz.prog 47 [dU a] (fun y => ∃ b,y=.v (.bool b)∧(b=true↔a=0)) :=
 (HasC.ofCalls (vs:=[.agg #[.int .u64 (hiW a),.int .u64 (loW a)]]) (R:=fun r=>r=.bool (decide (a=0))) (fun args w=>Tryz.call47 args w) rfl
  (fun w=>(Hr (Ce ha) w).mono fun e w' ⟨he,hb⟩=>⟨_,he,by unfold Lq;rfl,hb⟩)).mono fun y ⟨r,hr,hy⟩=>by subst hr;exact ⟨_,hy,by simp⟩
theorem a88 (ha:a<B128) (hb:b<B128):HasC Tryz.prog 87 [dU a,dU b] (fun y=>y=.v (.int .i64 (Cy a b))) :=
 (HasC.ofCalls (vs:=[.agg #[.int .u64 (hiW a),.int .u64 (loW a)],.agg #[.int .u64 (hiW b),.int .u64 (loW b)]]) (R:=fun r=>r=.int .i64 (Cy a b)) (fun args w=>Tryz.call87 args w) rfl
  (fun w=>(Gq (Ce ha) (Ce hb) w).mono fun e w' ⟨he,hb⟩=>⟨_,he,rfl,hb⟩)).mono fun y ⟨r,hr,hy⟩=>by subst hr;exact hy
theorem Eb (hh:h<B128) (hl:l<B128) (hn:n<18446744073709551616) (h0:0<n):HasC Tryz.prog 64 [dU h,dU l,.v (.int .u64 (n:Int))] (fun y=>y=.tup [dU ((h*B128+l) / n / B128),dU ((h*B128+l) / n % B128),.v (.int .u64 (((h*B128+l) % n:Nat):Int)),.v (.bool true)]) :=
 (HasC.ofCalls (vs:=[.agg #[.int .u64 (hiW h),.int .u64 (loW h)],.agg #[.int .u64 (hiW l),.int .u64 (loW l)],.int .u64 (n:Int)]) (R:=fun r=>r=.tuple #[.agg #[.int .u64 (hiW ((h*B128+l) / n / B128)),.int .u64 (loW ((h*B128+l) / n / B128))],.agg #[.int .u64 (hiW ((h*B128+l) / n % B128)),.int .u64 (loW ((h*B128+l) / n % B128))],.int .u64 (((h*B128+l) % n:Nat):Int),.bool true]) (fun args w=>Tryz.call64 args w) rfl
  (fun w=>(Ik (Ce hh) (Ce hl) (IsW.ofNat n hn) h0 w).mono fun e w' ⟨p1,p0,q1,q0,r,he,h1,h2,h3,hb⟩=>⟨_,he,by
   obtain ⟨rfl,rfl⟩:=h1.hl;obtain ⟨rfl,rfl⟩:=h2.hl;obtain rfl:=h3.eq;rfl,hb⟩)).mono fun y ⟨r,hr,hy⟩=>by subst hr;exact hy
theorem a2r {k:Int} (h0:0≤k) (h1:k≤38):HasC Tryz.prog 45 [.v (.int .i64 k)] (fun y=>y=.tup [dU (10 ^ k.toNat),.v (.bool true)]) :=
 (HasC.ofCalls (vs:=[.int .i64 k]) (R:=fun r=>r=.tuple #[.agg #[.int .u64 (hiW (10 ^ k.toNat)),.int .u64 (loW (10 ^ k.toNat))],.bool true]) (fun args w=>Tryz.call45 args w) rfl
  (fun w=>(b1e h0 h1 w).mono fun e w' ⟨r1,r0,he,h1,hb⟩=>⟨_,he,by obtain ⟨rfl,rfl⟩:=h1.hl;rfl,hb⟩)).mono fun y ⟨r,hr,hy⟩=>by subst hr;exact hy
theorem Un (hh:h<B128) (hl:l<B128):HasC Tryz.prog 92 [dU h,dU l] (fun y=>y=.v (.int .i64 (nd (h*B128+l)))) :=
 (HasC.ofCalls (vs:=[.agg #[.int .u64 (hiW h),.int .u64 (loW h)],.agg #[.int .u64 (hiW l),.int .u64 (loW l)]]) (R:=fun r=>r=.int .i64 (nd (h*B128+l))) (fun args w=>Tryz.call92 args w) rfl
  (fun w=>(a0m (Ce hh) (Ce hl) w).mono fun e w' ⟨he,hb⟩=>⟨_,he,rfl,hb⟩)).mono fun y ⟨r,hr,hy⟩=>by subst hr;exact hy
theorem a4g (ha:a<B128) (hc:c<B128) (hb:b<B128) (hd:d<B128):HasC Tryz.prog 55 [dU a,dU c,dU b,dU d] (fun y=>y=.tup [dU ((a*B128+c+(b*B128+d)) / B128 % B128),dU ((a*B128+c+(b*B128+d)) % B128),.v (.int .u64 (((a*B128+c+(b*B128+d)) / (B128*B128):Nat):Int))]) :=
 (HasC.ofCalls (vs:=[.agg #[.int .u64 (hiW a),.int .u64 (loW a)],.agg #[.int .u64 (hiW c),.int .u64 (loW c)],.agg #[.int .u64 (hiW b),.int .u64 (loW b)],.agg #[.int .u64 (hiW d),.int .u64 (loW d)]]) (R:=fun r=>r=.tuple #[.agg #[.int .u64 (hiW ((a*B128+c+(b*B128+d)) / B128 % B128)),.int .u64 (loW ((a*B128+c+(b*B128+d)) / B128 % B128))],.agg #[.int .u64 (hiW ((a*B128+c+(b*B128+d)) % B128)),.int .u64 (loW ((a*B128+c+(b*B128+d)) % B128))],.int .u64 (((a*B128+c+(b*B128+d)) / (B128*B128):Nat):Int)]) (fun args w=>Tryz.call55 args w) rfl
  (fun w=>(a5f (Ce ha) (Ce hc) (Ce hb) (Ce hd) w).mono fun e w' ⟨p1,p0,q1,q0,r,he,h1,h2,h3,hb⟩=>⟨_,he,by
   obtain ⟨rfl,rfl⟩:=h1.hl;obtain ⟨rfl,rfl⟩:=h2.hl;obtain rfl:=h3.eq;rfl,hb⟩)).mono fun y ⟨r,hr,hy⟩=>by subst hr;exact hy
theorem Pt:Cy a b<0↔a<b:=by unfold Cy;split<;>(try split)<;>constructor<;>intro<;>omega
theorem b5r:0≤Cy a b↔b≤a:=by unfold Cy;split<;>(try split)<;>constructor<;>intro<;>omega
end
open Go.RowKit
set_option linter.unusedVariables false
set_option linter.unusedSimpArgs false
set_option maxRecDepth 100000
def dg (ds:List Nat):List DV:=ds.map fun (d:Nat)=>.v (.int .i64 (d:Int))
theorem Ch (ds:List Nat):(dg ds).length=ds.length:=by simp[dg]
theorem Oh : ∀ ds,Bt (dg ds)=true
 | []=>rfl
 | d::ds=>by
  show (DV.one _&&Bt (dg ds))=true
  rw[Oh ds]
  rfl
open Go.RowKit
set_option linter.unusedVariables false
theorem Yn (ds es:List Nat):Fx (ds ++ es)=Fx ds+10 ^ ds.length*Fx es:=by
 induction ds with
 | nil=>simp[Fx]
 | cons d ds ih=>rw[List.cons_append,Fx,ih,Fx,List.length_cons,Nat.pow_succ,Nat.mul_add,Nat.mul_left_comm,Nat.mul_comm (10 ^ ds.length) 10,Nat.mul_assoc,Nat.mul_left_comm 10];omega
theorem a3r {ds:List Nat} (h : ∀ d ∈ ds,d<10):Fx ds<10 ^ ds.length:=by
 induction ds with
 | nil=>simp[Fx]
 | cons d ds ih =>
  have h1:=ih fun x hx=>h x (by simp[hx])
  have h2:=h d (by simp)
  rw[Fx,List.length_cons,Nat.pow_succ]
  omega
def dig (n k:Nat):Nat:=n / 10 ^ k % 10
theorem Fc (n:Nat):n<10 ^ nd n:=by
 have h:=a3r (ds:=Uc n) fun d hd=>b4v hd
 rwa[a5p] at h
theorem Pf (n k:Nat):dig n k<10:=Nat.mod_lt _ (by decide)
theorem Ma {n k:Nat} (h:nd n≤k):n / 10 ^ k=0:=by
 have h1:=Fc n
 have h2:10 ^ nd n≤10 ^ k:=Nat.pow_le_pow_right (by decide) h
 exact Nat.div_eq_of_lt (by omega)
theorem Rp (n k:Nat):n / 10 ^ k=dig n k+10*(n / 10 ^ (k+1)):=by
 unfold dig
 rw[Nat.pow_succ,← Nat.div_div_eq_div_mul]
 omega
theorem Kt (ds:List Nat) (d:Nat):Fx (ds ++ [d])=Fx ds+10 ^ ds.length*d:=by rw[Yn];simp[Fx]
theorem a0x (A k s q:Nat):A+10 ^ k*s+10 ^ (k+1)*q=A+10 ^ k*(s+10*q):=by
 rw[Nat.mul_add,Nat.pow_succ,Nat.mul_assoc,Nat.add_assoc]
structure SmallInv (n x add k c:Nat) (ds:List Nat):Prop where
 len:ds.length=k
 lt : ∀ d ∈ ds,d<10
 cl:c<4294967296
 val:Fx ds+10 ^ k*(c+x*(n / 10 ^ k))=n*x+add
theorem SmallInv.start (n x:Nat) {add:Nat} (h:add<4294967296):SmallInv n x add 0 add []:=⟨rfl,by simp,h,by simp[Fx,Nat.mul_comm];omega⟩
theorem SmallInv.next {n x add k c:Nat} {ds:List Nat} (i:SmallInv n x add k c ds) (hx:x≤4294967296):SmallInv n x add (k+1) ((dig n k*x+c) / 10) (ds ++ [(dig n k*x+c) % 10]):=by
 have hd:=Pf n k
 have hm:dig n k*x≤9*4294967296:=Nat.mul_le_mul (by omega) (by omega)
 have hc:=i.cl
 refine ⟨by simp[i.len],?_,by omega,?_⟩
 ·intro d h
  rw[List.mem_append] at h
  rcases h with h | h
  ·exact i.lt d h
  ·have:d=(dig n k*x+c) % 10:=by simpa using h
   omega
 ·have h1:=i.val
  rw[Rp n k] at h1
  rw[Kt,i.len,← h1]
  have e:c+x*(dig n k+10*(n / 10 ^ (k+1)))=(dig n k*x+c) % 10+10*((dig n k*x+c) / 10+x*(n / 10 ^ (k+1))):=by
   have e1:x*(dig n k+10*(n / 10 ^ (k+1)))=dig n k*x+10*(x*(n / 10 ^ (k+1))):=by rw[Nat.mul_add,Nat.mul_comm x (dig n k),Nat.mul_left_comm]
   rw[e1]
   have:=Nat.mod_add_div (dig n k*x+c) 10
   omega
  rw[e]
  exact a0x _ _ _ _
theorem SmallInv.done {n x add k c:Nat} {ds:List Nat} (i:SmallInv n x add k c ds) (h1:nd n≤k) (h2:c=0):Fx ds=n*x+add:=by
 have:=i.val
 rw[Ma h1,h2] at this
 simpa using this
theorem SmallInv.bound {n x add k c:Nat} {ds:List Nat} (i:SmallInv n x add k c ds) (hx:x≤4294967296) (ha:add<4294967296) (h:k<nd n∨0<c):k≤nd n+10:=by
 rcases h with h | h
 ·omega
 ·rcases Nat.lt_or_ge k (nd n) with hk | hk
  ·omega
  ·have h1:=i.val
   rw[Ma hk,Nat.mul_zero,Nat.add_zero] at h1
   have h2:10 ^ k≤10 ^ k*c:=Nat.le_mul_of_pos_right _ h
   have h3:=Fc n
   have h4:n*x+add<10 ^ (nd n+10):=by
    have a1:(n+1)*4294967296≤10 ^ nd n*4294967296:=Nat.mul_le_mul_right _ h3
    have a2:n*x≤n*4294967296:=Nat.mul_le_mul_left _ (by omega)
    rw[Nat.pow_add]
    have a3:10 ^ nd n*4294967296≤10 ^ nd n*10 ^ 10:=Nat.mul_le_mul_left _ (by decide)
    rw[Nat.add_mul] at a1
    omega
   have h5:10 ^ k<10 ^ (nd n+10):=by omega
   have:=(Nat.pow_lt_pow_iff_right (by decide:1<10)).1 h5
   omega
structure AddInv (a b k c:Nat) (ds:List Nat):Prop where
 len:ds.length=k
 lt : ∀ d ∈ ds,d<10
 cl:c≤1
 val:Fx ds+10 ^ k*(c+(a / 10 ^ k+b / 10 ^ k))=a+b
theorem AddInv.start (a b:Nat):AddInv a b 0 0 []:=⟨rfl,by simp,by omega,by simp[Fx]⟩
theorem Wu {ds:List Nat} {x:Nat} (h : ∀ d ∈ ds,d<10) (hx:x<10) : ∀ d ∈ ds ++ [x],d<10:=by
 intro d hd
 rw[List.mem_append] at hd
 rcases hd with hd | hd
 ·exact h d hd
 ·have:d=x:=by simpa using hd
  omega
theorem AddInv.next {a b k c:Nat} {ds:List Nat} (i:AddInv a b k c ds):AddInv a b (k+1) ((dig a k+dig b k+c) / 10) (ds ++ [(dig a k+dig b k+c) % 10]):=by
 have ha:=Pf a k
 have hb:=Pf b k
 have hc:=i.cl
 refine ⟨by simp[i.len],Wu i.lt (by omega),by omega,?_⟩
 have h1:=i.val
 rw[Rp a k,Rp b k] at h1
 rw[Kt,i.len,← h1]
 have e:c+(dig a k+10*(a / 10 ^ (k+1))+(dig b k+10*(b / 10 ^ (k+1))))=(dig a k+dig b k+c) % 10+10*((dig a k+dig b k+c) / 10+(a / 10 ^ (k+1)+b / 10 ^ (k+1))):=by omega
 rw[e]
 exact a0x _ _ _ _
theorem AddInv.done {a b k c:Nat} {ds:List Nat} (i:AddInv a b k c ds) (h1:nd a≤k) (h2:nd b≤k) (h3:c=0):Fx ds=a+b:=by
 have:=i.val
 rw[Ma h1,Ma h2,h3] at this
 simpa using this
theorem AddInv.bound {a b k c m:Nat} {ds:List Nat} (i:AddInv a b k c ds) (ha:nd a≤m) (hb:nd b≤m) (h:k<nd a∨k<nd b∨0<c):k≤m:=by
 rcases Nat.lt_or_ge m k with hk | hk
 ·rcases h with h | h | h
  ·omega
  ·omega
  ·have h1:=i.val
   rw[Ma (by omega:nd a≤k),Ma (by omega:nd b≤k)] at h1
   have h2:10 ^ k≤10 ^ k*(c+(0+0)):=Nat.le_mul_of_pos_right _ (by omega)
   have h3:=Fc a
   have h4:=Fc b
   have h5:10 ^ nd a≤10 ^ m:=Nat.pow_le_pow_right (by decide) ha
   have h6:10 ^ nd b≤10 ^ m:=Nat.pow_le_pow_right (by decide) hb
   have h7:10 ^ (m+1)≤10 ^ k:=Nat.pow_le_pow_right (by decide) hk
   rw[Nat.pow_succ] at h7
   omega
 ·exact hk
structure SubInv (a b k c:Nat) (ds:List Nat):Prop where
 len:ds.length=k
 lt : ∀ d ∈ ds,d<10
 cl:c≤1
 val:Fx ds+b % 10 ^ k=a % 10 ^ k+c*10 ^ k
theorem SubInv.start (a b:Nat):SubInv a b 0 0 []:=⟨rfl,by simp,by omega,by simp[Fx,Nat.mod_one]⟩
theorem Nd (n k:Nat):n % 10 ^ (k+1)=n % 10 ^ k+10 ^ k*dig n k:=by
 unfold dig
 rw[Nat.pow_succ,Nat.mod_mul]
theorem SubInv.big {a b k c:Nat} {ds:List Nat} (i:SubInv a b k c ds) (h:dig b k+c≤dig a k):SubInv a b (k+1) 0 (ds ++ [dig a k-dig b k-c]):=by
 have ha:=Pf a k
 refine ⟨by simp[i.len],Wu i.lt (by omega),by omega,?_⟩
 have h1:=i.val
 rw[Kt,i.len,Nd a k,Nd b k]
 obtain ⟨x,hx⟩ : ∃ x,x=dig a k-dig b k-c:=⟨_,rfl⟩
 rw[← hx]
 have e:dig a k=x+dig b k+c:=by omega
 rw[e,Nat.mul_add,Nat.mul_add,Nat.mul_comm (10 ^ k) c]
 omega
theorem SubInv.small {a b k c:Nat} {ds:List Nat} (i:SubInv a b k c ds) (h:dig a k<dig b k+c):SubInv a b (k+1) 1 (ds ++ [dig a k+10-dig b k-c]):=by
 have ha:=Pf a k
 have hb:=Pf b k
 have hc:=i.cl
 refine ⟨by simp[i.len],Wu i.lt (by omega),by omega,?_⟩
 have h1:=i.val
 rw[Kt,i.len,Nd a k,Nd b k]
 obtain ⟨x,hx⟩ : ∃ x,x=dig a k+10-dig b k-c:=⟨_,rfl⟩
 rw[← hx]
 have e:dig a k+10=x+dig b k+c:=by omega
 have e2:10 ^ k*(dig a k+10)=10 ^ k*x+10 ^ k*dig b k+c*10 ^ k:=by rw[e,Nat.mul_add,Nat.mul_add,Nat.mul_comm (10 ^ k) c]
 rw[Nat.mul_add] at e2
 rw[Nat.one_mul,Nat.pow_succ]
 omega
theorem SubInv.done {a b k c:Nat} {ds:List Nat} (i:SubInv a b k c ds) (hle:b≤a) (h1:nd a≤k):Fx ds=a-b:=by
 have hv:=i.val
 have ha:a<10 ^ k:=Nat.lt_of_lt_of_le (Fc a) (Nat.pow_le_pow_right (by decide) h1)
 rw[Nat.mod_eq_of_lt ha,Nat.mod_eq_of_lt (Nat.lt_of_le_of_lt hle ha)] at hv
 have hd:=a3r i.lt
 rw[i.len] at hd
 have hc:=i.cl
 rcases Nat.eq_zero_or_pos c with h0 | h0
 ·rw[h0] at hv;omega
 ·have:c=1:=by omega
  rw[this,Nat.one_mul] at hv
  omega
open Go.RowKit
set_option linter.unusedVariables false
set_option linter.unusedSimpArgs false
set_option maxRecDepth 100000
open Go.RowKit
theorem Mk (i:Nat) {x y:Int} (hx0:0≤x) (hx1:x<18446744073709551616) (hm:x.toNat % 2 ^ i=0) (hy0:0≤y) (hy1:y.toNat<2 ^ i) (hy2:y<18446744073709551616):bits .or .u64 x y=x+y:=by
 rw[u64_or x y hx0 hx1 hy0 hy2,nat_join i _ _ hm hy1]
 omega
set_option maxHeartbeats 800000 in
theorem Od {h1 h0 l1 l0:Int} {h l:Nat} (hh:IsU h1 h0 h) (hl:IsU l1 l0 l) (w:World) :
  Calls Tryz.prog 88 #[.agg #[.int .u64 h1,.int .u64 h0],.agg #[.int .u64 l1,.int .u64 l0],.int .u64 0] w fun e w' =>
   ∃ r1 r0 q1 q0:Int,e=.returned (.tuple #[.agg #[.int .u64 r1,.int .u64 r0],.agg #[.int .u64 q1,.int .u64 q0]]) ∧
    IsU r1 r0 ((2*h+l / 170141183460469231731687303715884105728) % 340282366920938463463374607431768211456)∧IsU q1 q0 (2*l % 340282366920938463463374607431768211456)∧Below w.heap.size w w':=by
 obtain ⟨p1,p2,p3,p4,p5⟩:=hh
 obtain ⟨q1,q2,q3,q4,q5⟩:=hl
 have P5:=Lib.hid p5;clear p5
 have Q5:=Lib.hid q5;clear q5
 go_enter Tryz.func88,Tryz.ntmps88
 go_wp2_with fail
 go_region_held3 (fun w'=>w'.cell? ⟨w.heap.size,0,none⟩=some (.int .u64 h1)∧w'.cell? ⟨w.heap.size,1,none⟩=some (.int .u64 h0)∧w'.cell? ⟨w.heap.size+1,0,none⟩=some (.int .u64 l1)∧w'.cell? ⟨w.heap.size+1,1,none⟩=some (.int .u64 l0)) (go_keep) (fail)
 go_wp2_with fail
 (try simp only[Exit.inBlock,Exit.then])
 refine bodyPost_ret (v := ?_) ?_ rfl ?_
 rotate_left
 ·simp only[results,Tryz.results88]
  go_simp
  exact rfl
 have p5:=P5.out;have q5:=Q5.out
 refine ⟨_,_,_,_,rfl,?_,?_,by go_grown⟩
 ·rw[IntKind.wrap_u64,IntKind.wrap_u64,Mk 1 (by omega) (by omega) (by simp only[Nat.pow_one];omega) (by omega) (by simp only[Nat.pow_one];omega) (by omega),Mk 1 (by omega) (by omega) (by simp only[Nat.pow_one];omega) (by omega) (by simp only[Nat.pow_one];omega) (by omega)]
  exact ⟨by omega,by omega,by omega,by omega,by omega⟩
 ·rw[IntKind.wrap_u64,IntKind.wrap_u64,Mk 1 (by omega) (by omega) (by simp only[Nat.pow_one];omega) (by omega) (by simp only[Nat.pow_one];omega) (by omega),Mk 1 (by omega) (by omega) (by simp only[Nat.pow_one];omega) (by omega) (by simp only[Nat.pow_one];omega) (by omega)]
  exact ⟨by omega,by omega,by omega,by omega,by omega⟩
def DivInv (N d k r q:Nat):Prop:=r<d ∧ ∃ Q rest:Nat,q=rest*2 ^ k+Q∧Q<2 ^ k∧rest<2 ^ (128-k)∧N=(Q*d+r)*2 ^ (128-k)+rest
theorem DivInv.start {hi lo d:Nat} (h:hi<d) (hl:lo<340282366920938463463374607431768211456):DivInv (hi*340282366920938463463374607431768211456+lo) d 0 hi lo :=
 ⟨h,0,lo,by simp,by simp,by simpa using hl,by simp⟩
theorem DivInv.finish {N d r q:Nat} (h:DivInv N d 128 r q):q=N / d∧r=N % d:=by
 obtain ⟨h1,Q,rest,h2,h3,h4,h5⟩:=h
 simp at h4
 subst h4
 simp at h2 h5
 subst h2
 have hd:0<d:=by omega
 constructor
 ·rw[h5,Nat.add_comm,Nat.add_mul_div_right _ _ hd,Nat.div_eq_of_lt h1];omega
 ·rw[h5,Nat.add_comm,Nat.add_mul_mod_self_right,Nat.mod_eq_of_lt h1]
theorem DivInv.qlt {N d k r q:Nat} (h:DivInv N d k r q) (hk:k≤128):q<340282366920938463463374607431768211456:=by
 obtain ⟨h1,Q,rest,h2,h3,h4,h5⟩:=h
 have e:2 ^ (128-k)*2 ^ k=340282366920938463463374607431768211456:=by rw[← Nat.pow_add,Nat.sub_add_cancel hk]
 have:(rest+1)*2 ^ k≤2 ^ (128-k)*2 ^ k:=Nat.mul_le_mul_right _ h4
 rw[e,Nat.add_mul] at this
 omega
theorem DivInv.step {N d k r q:Nat} (h:DivInv N d k r q) (hk:k<128) :
  (d≤2*r+q / 170141183460469231731687303715884105728→DivInv N d (k+1) (2*r+q / 170141183460469231731687303715884105728-d) (2*q % 340282366920938463463374607431768211456+1))∧(2*r+q / 170141183460469231731687303715884105728<d→DivInv N d (k+1) (2*r+q / 170141183460469231731687303715884105728) (2*q % 340282366920938463463374607431768211456))∧q / 170141183460469231731687303715884105728≤1∧2*q % 340282366920938463463374607431768211456 % 2=0:=by
 have hq:=h.qlt (by omega)
 obtain ⟨h1,Q,rest,h2,h3,h4,h5⟩:=h
 obtain ⟨j,hj⟩ : ∃ j,128=k+1+j:=⟨127-k,by omega⟩
 have e1:128-k=j+1:=by omega
 have e2:128-(k+1)=j:=by omega
 rw[e1] at h4 h5
 have ps:2 ^ j*2 ^ k=170141183460469231731687303715884105728:=by rw[← Nat.pow_add,show j+k=127 by omega]
 have pj:0<2 ^ j:=Nat.two_pow_pos j
 have pk:0<2 ^ k:=Nat.two_pow_pos k
 have ek:2 ^ (k+1)=2*2 ^ k:=by rw[Nat.pow_succ,Nat.mul_comm]
 have ej:2 ^ (j+1)=2*2 ^ j:=by rw[Nat.pow_succ,Nat.mul_comm]
 rw[ej] at h4 h5
 unfold DivInv
 rw[e2,ek]
 generalize 2 ^ j=s at *
 generalize 2 ^ k=p at *
 clear e1 e2 ek ej hj hk
 obtain ⟨t,rest',hr,ht,hr'⟩ : ∃ t rest',rest=t*s+rest'∧t≤1∧rest'<s:=by
  refine ⟨rest / s,rest % s,by rw[Nat.mul_comm];exact (Nat.div_add_mod rest s).symm,?_,Nat.mod_lt _ pj⟩
  have:rest / s<2:=by rw[Nat.div_lt_iff_lt_mul pj];omega
  omega
 have hlow:rest'*p+Q<170141183460469231731687303715884105728:=by
  have:(rest'+1)*p≤s*p:=Nat.mul_le_mul_right _ hr'
  rw[ps,Nat.add_mul] at this
  omega
 have hqv:q=t*170141183460469231731687303715884105728+(rest'*p+Q):=by
  rw[h2,hr,Nat.add_mul,Nat.mul_assoc,ps,Nat.add_assoc]
 have hqt:q / 170141183460469231731687303715884105728=t:=by omega
 have hq2:2*q % 340282366920938463463374607431768211456=rest'*(2*p)+2*Q:=by
  have:rest'*(2*p)=2*(rest'*p):=by rw[Nat.mul_left_comm]
  omega
 have hN:N=(2*Q*d+(2*r+t))*s+rest':=by
  rw[h5,hr]
  have a1:(Q*d+r)*(2*s)=(2*Q*d+2*r)*s:=by
   rw[Nat.mul_left_comm,← Nat.mul_assoc,Nat.mul_add,← Nat.mul_assoc]
  have a2:(2*Q*d+(2*r+t))*s=(2*Q*d+2*r)*s+t*s:=by rw[← Nat.add_assoc,Nat.add_mul]
  rw[a1,a2];omega
 rw[hqt,hq2]
 refine ⟨fun hge=>⟨by omega,2*Q+1,rest',by omega,by omega,hr',?_⟩,fun hlt=>⟨hlt,2*Q,rest',rfl,by omega,hr',hN⟩,ht,?_⟩
 ·rw[hN]
  congr 2
  rw[Nat.add_mul]
  omega
 ·have:rest'*(2*p)=2*(rest'*p):=by rw[Nat.mul_left_comm]
  omega
open Go.RowKit
theorem IsU.or1 {h l:Int} {n:Nat} (u:IsU h l n) (he:n % 2=0):IsU h (bits .or .u64 l 1) (n+1):=by
 obtain ⟨a,b,c,d,e⟩:=u
 rw[Mk 1 c d (by simp only[Nat.pow_one];omega) (by omega) (by decide) (by omega)]
 exact ⟨a,b,by omega,by omega,by omega⟩
theorem DivInv.next {N d k r q r2 q2:Nat} (h:DivInv N d k r q) (hk:k<128) (e2:r2=2*r+q / 170141183460469231731687303715884105728) (e3:q2=2*q % 340282366920938463463374607431768211456) :
  (d≤r2→DivInv N d (k+1) (r2-d) (q2+1))∧(r2<d→DivInv N d (k+1) r2 q2)∧r2≤2*r+1∧2*r≤r2∧q2 % 2=0:=by
 subst e2 e3
 obtain ⟨a,b,c,e⟩:=h.step hk
 exact ⟨a,b,by omega,by omega,e⟩
set_option maxRecDepth 100000 in
set_option maxHeartbeats 1600000 in
theorem Wg {h1 h0 l1 l0 d1 d0:Int} {h l d:Nat} (hh:IsU h1 h0 h) (hl:IsU l1 l0 l) (hd:IsU d1 d0 d) (hlt:h<d) (w:World) :
  Calls Tryz.prog 46 #[.agg #[.int .u64 h1,.int .u64 h0],.agg #[.int .u64 l1,.int .u64 l0],.agg #[.int .u64 d1,.int .u64 d0]] w fun e w' =>
   ∃ q1 q0 r1 r0:Int,e=.returned (.tuple #[.agg #[.int .u64 q1,.int .u64 q0],.agg #[.int .u64 r1,.int .u64 r0],.bool true]) ∧
    IsU q1 q0 ((h*340282366920938463463374607431768211456+l) / d)∧IsU r1 r0 ((h*340282366920938463463374607431768211456+l) % d)∧Below w.heap.size w w':=by
 have hc:decide (0≤Cy h d)=false:=by
  unfold Cy;repeat' split
  all_goals first | rfl | omega
 go_enter Tryz.func46,Tryz.ntmps46
 go_wp2_with fail
 refine (Gq hh hd _).mono ?_
 rintro e w1 ⟨rfl,hb_⟩
 have N_b3:Blk w1 (w.heap.size) #[_,_]:=Blk.below (by (repeat' (first | (with_reducible assumption) | (with_reducible refine Blk.new ?_;first | (with_reducible rfl) | (simp;done)) | (with_reducible refine Blk.alloc ?_ _) | (with_reducible refine Blk.drew ?_) | (with_reducible refine Blk.drewN ?_ _) | (with_reducible apply Blk.set2_0) | (with_reducible apply Blk.set2_1) | (with_reducible refine Blk.other ?_ _ ?_;rotate_left;focus (first | omega | (simp;done) | (simp;omega)))))) hb_
 have N_b4:Blk w1 (w.heap.size+1) #[_,_]:=Blk.below (by (repeat' (first | (with_reducible assumption) | (with_reducible refine Blk.new ?_;first | (with_reducible rfl) | (simp;done)) | (with_reducible refine Blk.alloc ?_ _) | (with_reducible refine Blk.drew ?_) | (with_reducible refine Blk.drewN ?_ _) | (with_reducible apply Blk.set2_0) | (with_reducible apply Blk.set2_1) | (with_reducible refine Blk.other ?_ _ ?_;rotate_left;focus (first | omega | (simp;done) | (simp;omega)))))) hb_
 have N_b5:Blk w1 (w.heap.size+1+1) #[_,_]:=Blk.below (by (repeat' (first | (with_reducible assumption) | (with_reducible refine Blk.new ?_;first | (with_reducible rfl) | (simp;done)) | (with_reducible refine Blk.alloc ?_ _) | (with_reducible refine Blk.drew ?_) | (with_reducible refine Blk.drewN ?_ _) | (with_reducible apply Blk.set2_0) | (with_reducible apply Blk.set2_1) | (with_reducible refine Blk.other ?_ _ ?_;rotate_left;focus (first | omega | (simp;done) | (simp;omega)))))) hb_
 have N_b6:Blk w1 (w.heap.size+1+1+1) #[_,_]:=Blk.below (by (repeat' (first | (with_reducible assumption) | (with_reducible refine Blk.new ?_;first | (with_reducible rfl) | (simp;done)) | (with_reducible refine Blk.alloc ?_ _) | (with_reducible refine Blk.drew ?_) | (with_reducible refine Blk.drewN ?_ _) | (with_reducible apply Blk.set2_0) | (with_reducible apply Blk.set2_1) | (with_reducible refine Blk.other ?_ _ ?_;rotate_left;focus (first | omega | (simp;done) | (simp;omega)))))) hb_
 have N_b7:Blk w1 (w.heap.size+1+1+1+1) #[_,_]:=Blk.below (by (repeat' (first | (with_reducible assumption) | (with_reducible refine Blk.new ?_;first | (with_reducible rfl) | (simp;done)) | (with_reducible refine Blk.alloc ?_ _) | (with_reducible refine Blk.drew ?_) | (with_reducible refine Blk.drewN ?_ _) | (with_reducible apply Blk.set2_0) | (with_reducible apply Blk.set2_1) | (with_reducible refine Blk.other ?_ _ ?_;rotate_left;focus (first | omega | (simp;done) | (simp;omega)))))) hb_
 have HB_w1:Below w.heap.size w w1:=Below.trans (by go_grown) (hb_.mono (by go_size))
 have HZ_w1:w.heap.size≤w1.heap.size:=HB_w1.size
 clear hb_
 have K_b3:=N_b3
 clear N_b3
 have K_b4:=N_b4
 clear N_b4
 have K_b5:=N_b5
 clear N_b5
 have K_b6:=N_b6
 clear N_b6
 have K_b7:=N_b7
 clear N_b7
 obtain ⟨c_b3_0,c_b3_1,f_b3,z0_b3,z1_b3,z2_b3,z3_b3,z4_b3⟩:=Bd K_b3
 obtain ⟨c_b4_0,c_b4_1,f_b4,z0_b4,z1_b4,z2_b4,z3_b4,z4_b4⟩:=Bd K_b4
 obtain ⟨c_b5_0,c_b5_1,f_b5,z0_b5,z1_b5,z2_b5,z3_b5,z4_b5⟩:=Bd K_b5
 obtain ⟨c_b6_0,c_b6_1,f_b6,z0_b6,z1_b6,z2_b6,z3_b6,z4_b6⟩:=Bd K_b6
 obtain ⟨c_b7_0,c_b7_1,f_b7,z0_b7,z1_b7,z2_b7,z3_b7,z4_b7⟩:=Bd K_b7
 go_wp2_with fail
 go_cut [9,10] (fun s9 s10 wx => ∃ b9 b10:Nat,s9=.pointer (some ⟨b9,0,none⟩)∧s10=.pointer (some ⟨b10,0,none⟩)∧b9≠b10∧w.heap.size+1+1+1+1<b9∧w.heap.size+1+1+1+1<b10 ∧
   Blk wx (w.heap.size+1+1) #[.int .u64 d1,.int .u64 d0]∧Blk wx (w.heap.size+1+1+1) #[.int .u64 0,.int .u64 0]∧Blk wx (w.heap.size+1+1+1+1) #[.int .u64 0,.int .u64 0]∧Blk wx b9 #[.int .u64 h1,.int .u64 h0]∧Blk wx b10 #[.int .u64 l1,.int .u64 l0]∧Below w.heap.size w wx)
 case first =>
  go_region_held3 (fun w'=>w'.cell? ⟨w.heap.size,0,none⟩=some (.int .u64 h1)∧w'.cell? ⟨w.heap.size,1,none⟩=some (.int .u64 h0)∧w'.cell? ⟨w.heap.size+1,0,none⟩=some (.int .u64 l1)∧w'.cell? ⟨w.heap.size+1,1,none⟩=some (.int .u64 l0)) (go_keep) (fail)
  all_goals
   go_wp2_with fail
   go_meet
   exact ⟨_,_,rfl,rfl,by omega,by omega,by omega,(by (repeat' (first | (with_reducible assumption) | (with_reducible refine Blk.new ?_;first | (with_reducible rfl) | (simp;done)) | (with_reducible refine Blk.alloc ?_ _) | (with_reducible refine Blk.drew ?_) | (with_reducible refine Blk.drewN ?_ _) | (with_reducible apply Blk.set2_0) | (with_reducible apply Blk.set2_1) | (with_reducible refine Blk.other ?_ _ ?_;rotate_left;focus (first | omega | (simp;done) | (simp;omega)))))),(by (repeat' (first | (with_reducible assumption) | (with_reducible refine Blk.new ?_;first | (with_reducible rfl) | (simp;done)) | (with_reducible refine Blk.alloc ?_ _) | (with_reducible refine Blk.drew ?_) | (with_reducible refine Blk.drewN ?_ _) | (with_reducible apply Blk.set2_0) | (with_reducible apply Blk.set2_1) | (with_reducible refine Blk.other ?_ _ ?_;rotate_left;focus (first | omega | (simp;done) | (simp;omega)))))),(by (repeat' (first | (with_reducible assumption) | (with_reducible refine Blk.new ?_;first | (with_reducible rfl) | (simp;done)) | (with_reducible refine Blk.alloc ?_ _) | (with_reducible refine Blk.drew ?_) | (with_reducible refine Blk.drewN ?_ _) | (with_reducible apply Blk.set2_0) | (with_reducible apply Blk.set2_1) | (with_reducible refine Blk.other ?_ _ ?_;rotate_left;focus (first | omega | (simp;done) | (simp;omega)))))),(by (repeat' (first | (with_reducible assumption) | (with_reducible refine Blk.new ?_;first | (with_reducible rfl) | (simp;done)) | (with_reducible refine Blk.alloc ?_ _) | (with_reducible refine Blk.drew ?_) | (with_reducible refine Blk.drewN ?_ _) | (with_reducible apply Blk.set2_0) | (with_reducible apply Blk.set2_1) | (with_reducible refine Blk.other ?_ _ ?_;rotate_left;focus (first | omega | (simp;done) | (simp;omega)))))),(by (repeat' (first | (with_reducible assumption) | (with_reducible refine Blk.new ?_;first | (with_reducible rfl) | (simp;done)) | (with_reducible refine Blk.alloc ?_ _) | (with_reducible refine Blk.drew ?_) | (with_reducible refine Blk.drewN ?_ _) | (with_reducible apply Blk.set2_0) | (with_reducible apply Blk.set2_1) | (with_reducible refine Blk.other ?_ _ ?_;rotate_left;focus (first | omega | (simp;done) | (simp;omega)))))),by go_grown⟩
 case rest =>
 obtain ⟨b9,b10,rfl,rfl,n1,n2,n3,K_b5,K_b6,K_b7,K_b9,K_b10,HB_wc⟩:=hcut
 go_wp2_with fail
 go_loopw [20] (fun i wr => ∃ (k r q:Nat) (r1 r0 q1 q0:Int),k≤128∧i=.int .i64 k∧IsU r1 r0 r∧IsU q1 q0 q∧DivInv (h*340282366920938463463374607431768211456+l) d k r q ∧
   Blk wr (w.heap.size+1+1) #[.int .u64 d1,.int .u64 d0]∧Blk wr (w.heap.size+1+1+1) #[.int .u64 0,.int .u64 0]∧Blk wr (w.heap.size+1+1+1+1) #[.int .u64 0,.int .u64 0]∧Blk wr b9 #[.int .u64 r1,.int .u64 r0]∧Blk wr b10 #[.int .u64 q1,.int .u64 q0]∧Below w.heap.size w wr)
  (fun i _=>128-(intOf i).toNat)
 case atStart=>exact ⟨0,h,l,h1,h0,l1,l0,by omega,rfl,hh,hl,DivInv.start hlt hl.lt,K_b5,K_b6,K_b7,K_b9,K_b10,HB_wc⟩
 case round =>
  clear K_b5 K_b6 K_b7 K_b9 K_b10 HB_wc
  obtain ⟨k,r,q,r1,r0,q1,q0,hk,rfl,ur,uq,inv,K_b5,K_b6,K_b7,K_b9,K_b10,HB_wr⟩:=hrel
  have m1:w.heap.size+1+1≠b9:=by omega
  have m2:w.heap.size+1+1≠b10:=by omega
  have m3:w.heap.size+1+1+1≠b9:=by omega
  have m4:w.heap.size+1+1+1≠b10:=by omega
  have m5:w.heap.size+1+1+1+1≠b9:=by omega
  have m6:w.heap.size+1+1+1+1≠b10:=by omega
  have m7:b10≠b9:=by omega
  have HZ_wr:=HB_wr.size
  obtain ⟨c_b5_0,c_b5_1,f_b5,z0_b5,z1_b5,z2_b5,z3_b5,z4_b5⟩:=Bd K_b5
  obtain ⟨c_b6_0,c_b6_1,f_b6,z0_b6,z1_b6,z2_b6,z3_b6,z4_b6⟩:=Bd K_b6
  obtain ⟨c_b7_0,c_b7_1,f_b7,z0_b7,z1_b7,z2_b7,z3_b7,z4_b7⟩:=Bd K_b7
  obtain ⟨c_b9_0,c_b9_1,f_b9,z0_b9,z1_b9,z2_b9,z3_b9,z4_b9⟩:=Bd K_b9
  obtain ⟨c_b10_0,c_b10_1,f_b10,z0_b10,z1_b10,z2_b10,z3_b10,z4_b10⟩:=Bd K_b10
  by_cases hkl:k<128
  ·have rl:=inv.1
   obtain ⟨r2,e2⟩ : ∃ r2,r2=2*r+q / 170141183460469231731687303715884105728:=⟨_,rfl⟩
   obtain ⟨q2,e3⟩ : ∃ q2,q2=2*q % 340282366920938463463374607431768211456:=⟨_,rfl⟩
   have St:=Lib.hid (inv.next hkl e2 e3)
   have E2:=Lib.hid e2;have E3:=Lib.hid e3;clear e2 e3
   have dl:=Lib.hid hd.lt
   by_cases hov:9223372036854775808≤r1
   ·have ov:(r1 / 9223372036854775808==1)=true:=by
     have x1:=ur.h0;have x2:=ur.h1
     rw[beq_iff_eq];omega
    have hr:=Lib.hid (show 170141183460469231731687303715884105728≤r by have:=ur.eq;have:=ur.l0;omega)
    clear hov
    go_wp2_with fail
    refine (Od ur uq _).mono ?_
    rintro e w3 ⟨s1,s0,t1,t0,rfl,u1,u2,hb_⟩
    have N_b5:Blk w3 (w.heap.size+1+1) #[_,_]:=Blk.below (by (repeat' (first | (with_reducible assumption) | (with_reducible refine Blk.new ?_;first | (with_reducible rfl) | (simp;done)) | (with_reducible refine Blk.alloc ?_ _) | (with_reducible refine Blk.drew ?_) | (with_reducible refine Blk.drewN ?_ _) | (with_reducible apply Blk.set2_0) | (with_reducible apply Blk.set2_1) | (with_reducible refine Blk.other ?_ _ ?_;rotate_left;focus (first | omega | (simp;done) | (simp;omega)))))) hb_
    have N_b6:Blk w3 (w.heap.size+1+1+1) #[_,_]:=Blk.below (by (repeat' (first | (with_reducible assumption) | (with_reducible refine Blk.new ?_;first | (with_reducible rfl) | (simp;done)) | (with_reducible refine Blk.alloc ?_ _) | (with_reducible refine Blk.drew ?_) | (with_reducible refine Blk.drewN ?_ _) | (with_reducible apply Blk.set2_0) | (with_reducible apply Blk.set2_1) | (with_reducible refine Blk.other ?_ _ ?_;rotate_left;focus (first | omega | (simp;done) | (simp;omega)))))) hb_
    have N_b7:Blk w3 (w.heap.size+1+1+1+1) #[_,_]:=Blk.below (by (repeat' (first | (with_reducible assumption) | (with_reducible refine Blk.new ?_;first | (with_reducible rfl) | (simp;done)) | (with_reducible refine Blk.alloc ?_ _) | (with_reducible refine Blk.drew ?_) | (with_reducible refine Blk.drewN ?_ _) | (with_reducible apply Blk.set2_0) | (with_reducible apply Blk.set2_1) | (with_reducible refine Blk.other ?_ _ ?_;rotate_left;focus (first | omega | (simp;done) | (simp;omega)))))) hb_
    have N_b9:Blk w3 (b9) #[_,_]:=Blk.below (by (repeat' (first | (with_reducible assumption) | (with_reducible refine Blk.new ?_;first | (with_reducible rfl) | (simp;done)) | (with_reducible refine Blk.alloc ?_ _) | (with_reducible refine Blk.drew ?_) | (with_reducible refine Blk.drewN ?_ _) | (with_reducible apply Blk.set2_0) | (with_reducible apply Blk.set2_1) | (with_reducible refine Blk.other ?_ _ ?_;rotate_left;focus (first | omega | (simp;done) | (simp;omega)))))) hb_
    have N_b10:Blk w3 (b10) #[_,_]:=Blk.below (by (repeat' (first | (with_reducible assumption) | (with_reducible refine Blk.new ?_;first | (with_reducible rfl) | (simp;done)) | (with_reducible refine Blk.alloc ?_ _) | (with_reducible refine Blk.drew ?_) | (with_reducible refine Blk.drewN ?_ _) | (with_reducible apply Blk.set2_0) | (with_reducible apply Blk.set2_1) | (with_reducible refine Blk.other ?_ _ ?_;rotate_left;focus (first | omega | (simp;done) | (simp;omega)))))) hb_
    have HB_w3:Below w.heap.size w w3:=Below.trans (by go_grown) (hb_.mono (by go_size))
    have HZ_w3:w.heap.size≤w3.heap.size:=HB_w3.size
    clear hb_
    clear c_b5_0 c_b5_1 f_b5 z1_b5 z2_b5 z3_b5 z4_b5 c_b6_0 c_b6_1 f_b6 z1_b6 z2_b6 z3_b6 z4_b6 c_b7_0 c_b7_1 f_b7 z1_b7 z2_b7 z3_b7 z4_b7 c_b9_0 c_b9_1 f_b9 z1_b9 z2_b9 z3_b9 z4_b9 c_b10_0 c_b10_1 f_b10 z1_b10 z2_b10 z3_b10 z4_b10 K_b5 K_b6 K_b7 K_b9 K_b10
    have K_b5:=N_b5
    clear N_b5
    have K_b6:=N_b6
    clear N_b6
    have K_b7:=N_b7
    clear N_b7
    have K_b9:=N_b9
    clear N_b9
    have K_b10:=N_b10
    clear N_b10
    obtain ⟨c_b5_0,c_b5_1,f_b5,z0_b5,z1_b5,z2_b5,z3_b5,z4_b5⟩:=Bd K_b5
    obtain ⟨c_b6_0,c_b6_1,f_b6,z0_b6,z1_b6,z2_b6,z3_b6,z4_b6⟩:=Bd K_b6
    obtain ⟨c_b7_0,c_b7_1,f_b7,z0_b7,z1_b7,z2_b7,z3_b7,z4_b7⟩:=Bd K_b7
    obtain ⟨c_b9_0,c_b9_1,f_b9,z0_b9,z1_b9,z2_b9,z3_b9,z4_b9⟩:=Bd K_b9
    obtain ⟨c_b10_0,c_b10_1,f_b10,z0_b10,z1_b10,z2_b10,z3_b10,z4_b10⟩:=Bd K_b10
    go_wp2_with fail
    refine (Kc u1 hd _).mono ?_
    rintro e w4 ⟨v1,v0,c,rfl,u3,_,hb_⟩
    have N_b5:Blk w4 (w.heap.size+1+1) #[_,_]:=Blk.below (by (repeat' (first | (with_reducible assumption) | (with_reducible refine Blk.new ?_;first | (with_reducible rfl) | (simp;done)) | (with_reducible refine Blk.alloc ?_ _) | (with_reducible refine Blk.drew ?_) | (with_reducible refine Blk.drewN ?_ _) | (with_reducible apply Blk.set2_0) | (with_reducible apply Blk.set2_1) | (with_reducible refine Blk.other ?_ _ ?_;rotate_left;focus (first | omega | (simp;done) | (simp;omega)))))) hb_
    have N_b6:Blk w4 (w.heap.size+1+1+1) #[_,_]:=Blk.below (by (repeat' (first | (with_reducible assumption) | (with_reducible refine Blk.new ?_;first | (with_reducible rfl) | (simp;done)) | (with_reducible refine Blk.alloc ?_ _) | (with_reducible refine Blk.drew ?_) | (with_reducible refine Blk.drewN ?_ _) | (with_reducible apply Blk.set2_0) | (with_reducible apply Blk.set2_1) | (with_reducible refine Blk.other ?_ _ ?_;rotate_left;focus (first | omega | (simp;done) | (simp;omega)))))) hb_
    have N_b7:Blk w4 (w.heap.size+1+1+1+1) #[_,_]:=Blk.below (by (repeat' (first | (with_reducible assumption) | (with_reducible refine Blk.new ?_;first | (with_reducible rfl) | (simp;done)) | (with_reducible refine Blk.alloc ?_ _) | (with_reducible refine Blk.drew ?_) | (with_reducible refine Blk.drewN ?_ _) | (with_reducible apply Blk.set2_0) | (with_reducible apply Blk.set2_1) | (with_reducible refine Blk.other ?_ _ ?_;rotate_left;focus (first | omega | (simp;done) | (simp;omega)))))) hb_
    have N_b9:Blk w4 (b9) #[_,_]:=Blk.below (by (repeat' (first | (with_reducible assumption) | (with_reducible refine Blk.new ?_;first | (with_reducible rfl) | (simp;done)) | (with_reducible refine Blk.alloc ?_ _) | (with_reducible refine Blk.drew ?_) | (with_reducible refine Blk.drewN ?_ _) | (with_reducible apply Blk.set2_0) | (with_reducible apply Blk.set2_1) | (with_reducible refine Blk.other ?_ _ ?_;rotate_left;focus (first | omega | (simp;done) | (simp;omega)))))) hb_
    have N_b10:Blk w4 (b10) #[_,_]:=Blk.below (by (repeat' (first | (with_reducible assumption) | (with_reducible refine Blk.new ?_;first | (with_reducible rfl) | (simp;done)) | (with_reducible refine Blk.alloc ?_ _) | (with_reducible refine Blk.drew ?_) | (with_reducible refine Blk.drewN ?_ _) | (with_reducible apply Blk.set2_0) | (with_reducible apply Blk.set2_1) | (with_reducible refine Blk.other ?_ _ ?_;rotate_left;focus (first | omega | (simp;done) | (simp;omega)))))) hb_
    have HB_w4:Below w.heap.size w w4:=Below.trans (by go_grown) (hb_.mono (by go_size))
    have HZ_w4:w.heap.size≤w4.heap.size:=HB_w4.size
    clear hb_
    clear c_b5_0 c_b5_1 f_b5 z1_b5 z2_b5 z3_b5 z4_b5 c_b6_0 c_b6_1 f_b6 z1_b6 z2_b6 z3_b6 z4_b6 c_b7_0 c_b7_1 f_b7 z1_b7 z2_b7 z3_b7 z4_b7 c_b9_0 c_b9_1 f_b9 z1_b9 z2_b9 z3_b9 z4_b9 c_b10_0 c_b10_1 f_b10 z1_b10 z2_b10 z3_b10 z4_b10 K_b5 K_b6 K_b7 K_b9 K_b10
    have K_b5:=N_b5
    clear N_b5
    have K_b6:=N_b6
    clear N_b6
    have K_b7:=N_b7
    clear N_b7
    have K_b9:=N_b9
    clear N_b9
    have K_b10:=N_b10
    clear N_b10
    obtain ⟨c_b5_0,c_b5_1,f_b5,z0_b5,z1_b5,z2_b5,z3_b5,z4_b5⟩:=Bd K_b5
    obtain ⟨c_b6_0,c_b6_1,f_b6,z0_b6,z1_b6,z2_b6,z3_b6,z4_b6⟩:=Bd K_b6
    obtain ⟨c_b7_0,c_b7_1,f_b7,z0_b7,z1_b7,z2_b7,z3_b7,z4_b7⟩:=Bd K_b7
    obtain ⟨c_b9_0,c_b9_1,f_b9,z0_b9,z1_b9,z2_b9,z3_b9,z4_b9⟩:=Bd K_b9
    obtain ⟨c_b10_0,c_b10_1,f_b10,z0_b10,z1_b10,z2_b10,z3_b10,z4_b10⟩:=Bd K_b10
    go_wp2_with fail
    go_roundw
    case rel =>
     have St:=St.out;have e2:=E2.out;have e3:=E3.out;have dl:=dl.out;have hr:=hr.out
     rw[← e2] at u3
     rw[← e3] at u2
     exact ⟨k+1,_,_,_,_,_,_,by omega,by go_num,u3.cast (m:=r2-d) (by omega),u2.or1 St.2.2.2.2,St.1 (by omega),(by (repeat' (first | (with_reducible assumption) | (with_reducible refine Blk.new ?_;first | (with_reducible rfl) | (simp;done)) | (with_reducible refine Blk.alloc ?_ _) | (with_reducible refine Blk.drew ?_) | (with_reducible refine Blk.drewN ?_ _) | (with_reducible apply Blk.set2_0) | (with_reducible apply Blk.set2_1) | (with_reducible refine Blk.other ?_ _ ?_;rotate_left;focus (first | omega | (simp;done) | (simp;omega)))))),(by (repeat' (first | (with_reducible assumption) | (with_reducible refine Blk.new ?_;first | (with_reducible rfl) | (simp;done)) | (with_reducible refine Blk.alloc ?_ _) | (with_reducible refine Blk.drew ?_) | (with_reducible refine Blk.drewN ?_ _) | (with_reducible apply Blk.set2_0) | (with_reducible apply Blk.set2_1) | (with_reducible refine Blk.other ?_ _ ?_;rotate_left;focus (first | omega | (simp;done) | (simp;omega)))))),(by (repeat' (first | (with_reducible assumption) | (with_reducible refine Blk.new ?_;first | (with_reducible rfl) | (simp;done)) | (with_reducible refine Blk.alloc ?_ _) | (with_reducible refine Blk.drew ?_) | (with_reducible refine Blk.drewN ?_ _) | (with_reducible apply Blk.set2_0) | (with_reducible apply Blk.set2_1) | (with_reducible refine Blk.other ?_ _ ?_;rotate_left;focus (first | omega | (simp;done) | (simp;omega)))))),(by (repeat' (first | (with_reducible assumption) | (with_reducible refine Blk.new ?_;first | (with_reducible rfl) | (simp;done)) | (with_reducible refine Blk.alloc ?_ _) | (with_reducible refine Blk.drew ?_) | (with_reducible refine Blk.drewN ?_ _) | (with_reducible apply Blk.set2_0) | (with_reducible apply Blk.set2_1) | (with_reducible refine Blk.other ?_ _ ?_;rotate_left;focus (first | omega | (simp;done) | (simp;omega)))))),(by (repeat' (first | (with_reducible assumption) | (with_reducible refine Blk.new ?_;first | (with_reducible rfl) | (simp;done)) | (with_reducible refine Blk.alloc ?_ _) | (with_reducible refine Blk.drew ?_) | (with_reducible refine Blk.drewN ?_ _) | (with_reducible apply Blk.set2_0) | (with_reducible apply Blk.set2_1) | (with_reducible refine Blk.other ?_ _ ?_;rotate_left;focus (first | omega | (simp;done) | (simp;omega)))))),by go_grown⟩
    case measure=>simp[intOf];omega
   ·have ov:(r1 / 9223372036854775808==1)=false:=by
     have x1:=ur.h0;have x2:=ur.h1
     rw[beq_eq_false_iff_ne];omega
    have hr:=Lib.hid (show r<170141183460469231731687303715884105728 by have:=ur.eq;have:=ur.l1;omega)
    clear hov
    by_cases hge:d≤r2
    ·have hg:decide (0≤Cy r2 d)=true:=by
      unfold Cy;repeat' split
      all_goals first | rfl | omega
     go_wp2_with fail
     refine (Od ur uq _).mono ?_
     rintro e w3 ⟨s1,s0,t1,t0,rfl,u1,u2,hb_⟩
     have N_b5:Blk w3 (w.heap.size+1+1) #[_,_]:=Blk.below (by (repeat' (first | (with_reducible assumption) | (with_reducible refine Blk.new ?_;first | (with_reducible rfl) | (simp;done)) | (with_reducible refine Blk.alloc ?_ _) | (with_reducible refine Blk.drew ?_) | (with_reducible refine Blk.drewN ?_ _) | (with_reducible apply Blk.set2_0) | (with_reducible apply Blk.set2_1) | (with_reducible refine Blk.other ?_ _ ?_;rotate_left;focus (first | omega | (simp;done) | (simp;omega)))))) hb_
     have N_b6:Blk w3 (w.heap.size+1+1+1) #[_,_]:=Blk.below (by (repeat' (first | (with_reducible assumption) | (with_reducible refine Blk.new ?_;first | (with_reducible rfl) | (simp;done)) | (with_reducible refine Blk.alloc ?_ _) | (with_reducible refine Blk.drew ?_) | (with_reducible refine Blk.drewN ?_ _) | (with_reducible apply Blk.set2_0) | (with_reducible apply Blk.set2_1) | (with_reducible refine Blk.other ?_ _ ?_;rotate_left;focus (first | omega | (simp;done) | (simp;omega)))))) hb_
     have N_b7:Blk w3 (w.heap.size+1+1+1+1) #[_,_]:=Blk.below (by (repeat' (first | (with_reducible assumption) | (with_reducible refine Blk.new ?_;first | (with_reducible rfl) | (simp;done)) | (with_reducible refine Blk.alloc ?_ _) | (with_reducible refine Blk.drew ?_) | (with_reducible refine Blk.drewN ?_ _) | (with_reducible apply Blk.set2_0) | (with_reducible apply Blk.set2_1) | (with_reducible refine Blk.other ?_ _ ?_;rotate_left;focus (first | omega | (simp;done) | (simp;omega)))))) hb_
     have N_b9:Blk w3 (b9) #[_,_]:=Blk.below (by (repeat' (first | (with_reducible assumption) | (with_reducible refine Blk.new ?_;first | (with_reducible rfl) | (simp;done)) | (with_reducible refine Blk.alloc ?_ _) | (with_reducible refine Blk.drew ?_) | (with_reducible refine Blk.drewN ?_ _) | (with_reducible apply Blk.set2_0) | (with_reducible apply Blk.set2_1) | (with_reducible refine Blk.other ?_ _ ?_;rotate_left;focus (first | omega | (simp;done) | (simp;omega)))))) hb_
     have N_b10:Blk w3 (b10) #[_,_]:=Blk.below (by (repeat' (first | (with_reducible assumption) | (with_reducible refine Blk.new ?_;first | (with_reducible rfl) | (simp;done)) | (with_reducible refine Blk.alloc ?_ _) | (with_reducible refine Blk.drew ?_) | (with_reducible refine Blk.drewN ?_ _) | (with_reducible apply Blk.set2_0) | (with_reducible apply Blk.set2_1) | (with_reducible refine Blk.other ?_ _ ?_;rotate_left;focus (first | omega | (simp;done) | (simp;omega)))))) hb_
     have HB_w3:Below w.heap.size w w3:=Below.trans (by go_grown) (hb_.mono (by go_size))
     have HZ_w3:w.heap.size≤w3.heap.size:=HB_w3.size
     clear hb_
     clear c_b5_0 c_b5_1 f_b5 z1_b5 z2_b5 z3_b5 z4_b5 c_b6_0 c_b6_1 f_b6 z1_b6 z2_b6 z3_b6 z4_b6 c_b7_0 c_b7_1 f_b7 z1_b7 z2_b7 z3_b7 z4_b7 c_b9_0 c_b9_1 f_b9 z1_b9 z2_b9 z3_b9 z4_b9 c_b10_0 c_b10_1 f_b10 z1_b10 z2_b10 z3_b10 z4_b10 K_b5 K_b6 K_b7 K_b9 K_b10
     have K_b5:=N_b5
     clear N_b5
     have K_b6:=N_b6
     clear N_b6
     have K_b7:=N_b7
     clear N_b7
     have K_b9:=N_b9
     clear N_b9
     have K_b10:=N_b10
     clear N_b10
     obtain ⟨c_b5_0,c_b5_1,f_b5,z0_b5,z1_b5,z2_b5,z3_b5,z4_b5⟩:=Bd K_b5
     obtain ⟨c_b6_0,c_b6_1,f_b6,z0_b6,z1_b6,z2_b6,z3_b6,z4_b6⟩:=Bd K_b6
     obtain ⟨c_b7_0,c_b7_1,f_b7,z0_b7,z1_b7,z2_b7,z3_b7,z4_b7⟩:=Bd K_b7
     obtain ⟨c_b9_0,c_b9_1,f_b9,z0_b9,z1_b9,z2_b9,z3_b9,z4_b9⟩:=Bd K_b9
     obtain ⟨c_b10_0,c_b10_1,f_b10,z0_b10,z1_b10,z2_b10,z3_b10,z4_b10⟩:=Bd K_b10
     have u1:=u1.cast (m:=r2) (by have:=St.out;have:=E2.out;have:=hr.out;omega)
     go_wp2_with fail
     refine (Gq u1 hd _).mono ?_
     rintro e w5 ⟨rfl,hb_⟩
     have N_b5:Blk w5 (w.heap.size+1+1) #[_,_]:=Blk.below (by (repeat' (first | (with_reducible assumption) | (with_reducible refine Blk.new ?_;first | (with_reducible rfl) | (simp;done)) | (with_reducible refine Blk.alloc ?_ _) | (with_reducible refine Blk.drew ?_) | (with_reducible refine Blk.drewN ?_ _) | (with_reducible apply Blk.set2_0) | (with_reducible apply Blk.set2_1) | (with_reducible refine Blk.other ?_ _ ?_;rotate_left;focus (first | omega | (simp;done) | (simp;omega)))))) hb_
     have N_b6:Blk w5 (w.heap.size+1+1+1) #[_,_]:=Blk.below (by (repeat' (first | (with_reducible assumption) | (with_reducible refine Blk.new ?_;first | (with_reducible rfl) | (simp;done)) | (with_reducible refine Blk.alloc ?_ _) | (with_reducible refine Blk.drew ?_) | (with_reducible refine Blk.drewN ?_ _) | (with_reducible apply Blk.set2_0) | (with_reducible apply Blk.set2_1) | (with_reducible refine Blk.other ?_ _ ?_;rotate_left;focus (first | omega | (simp;done) | (simp;omega)))))) hb_
     have N_b7:Blk w5 (w.heap.size+1+1+1+1) #[_,_]:=Blk.below (by (repeat' (first | (with_reducible assumption) | (with_reducible refine Blk.new ?_;first | (with_reducible rfl) | (simp;done)) | (with_reducible refine Blk.alloc ?_ _) | (with_reducible refine Blk.drew ?_) | (with_reducible refine Blk.drewN ?_ _) | (with_reducible apply Blk.set2_0) | (with_reducible apply Blk.set2_1) | (with_reducible refine Blk.other ?_ _ ?_;rotate_left;focus (first | omega | (simp;done) | (simp;omega)))))) hb_
     have N_b9:Blk w5 (b9) #[_,_]:=Blk.below (by (repeat' (first | (with_reducible assumption) | (with_reducible refine Blk.new ?_;first | (with_reducible rfl) | (simp;done)) | (with_reducible refine Blk.alloc ?_ _) | (with_reducible refine Blk.drew ?_) | (with_reducible refine Blk.drewN ?_ _) | (with_reducible apply Blk.set2_0) | (with_reducible apply Blk.set2_1) | (with_reducible refine Blk.other ?_ _ ?_;rotate_left;focus (first | omega | (simp;done) | (simp;omega)))))) hb_
     have N_b10:Blk w5 (b10) #[_,_]:=Blk.below (by (repeat' (first | (with_reducible assumption) | (with_reducible refine Blk.new ?_;first | (with_reducible rfl) | (simp;done)) | (with_reducible refine Blk.alloc ?_ _) | (with_reducible refine Blk.drew ?_) | (with_reducible refine Blk.drewN ?_ _) | (with_reducible apply Blk.set2_0) | (with_reducible apply Blk.set2_1) | (with_reducible refine Blk.other ?_ _ ?_;rotate_left;focus (first | omega | (simp;done) | (simp;omega)))))) hb_
     have HB_w5:Below w.heap.size w w5:=Below.trans (by go_grown) (hb_.mono (by go_size))
     have HZ_w5:w.heap.size≤w5.heap.size:=HB_w5.size
     clear hb_
     clear c_b5_0 c_b5_1 f_b5 z1_b5 z2_b5 z3_b5 z4_b5 c_b6_0 c_b6_1 f_b6 z1_b6 z2_b6 z3_b6 z4_b6 c_b7_0 c_b7_1 f_b7 z1_b7 z2_b7 z3_b7 z4_b7 c_b9_0 c_b9_1 f_b9 z1_b9 z2_b9 z3_b9 z4_b9 c_b10_0 c_b10_1 f_b10 z1_b10 z2_b10 z3_b10 z4_b10 K_b5 K_b6 K_b7 K_b9 K_b10
     have K_b5:=N_b5
     clear N_b5
     have K_b6:=N_b6
     clear N_b6
     have K_b7:=N_b7
     clear N_b7
     have K_b9:=N_b9
     clear N_b9
     have K_b10:=N_b10
     clear N_b10
     obtain ⟨c_b5_0,c_b5_1,f_b5,z0_b5,z1_b5,z2_b5,z3_b5,z4_b5⟩:=Bd K_b5
     obtain ⟨c_b6_0,c_b6_1,f_b6,z0_b6,z1_b6,z2_b6,z3_b6,z4_b6⟩:=Bd K_b6
     obtain ⟨c_b7_0,c_b7_1,f_b7,z0_b7,z1_b7,z2_b7,z3_b7,z4_b7⟩:=Bd K_b7
     obtain ⟨c_b9_0,c_b9_1,f_b9,z0_b9,z1_b9,z2_b9,z3_b9,z4_b9⟩:=Bd K_b9
     obtain ⟨c_b10_0,c_b10_1,f_b10,z0_b10,z1_b10,z2_b10,z3_b10,z4_b10⟩:=Bd K_b10
     go_wp2_with fail
     refine (Kc u1 hd _).mono ?_
     rintro e w4 ⟨v1,v0,c,rfl,u3,_,hb_⟩
     have N_b5:Blk w4 (w.heap.size+1+1) #[_,_]:=Blk.below (by (repeat' (first | (with_reducible assumption) | (with_reducible refine Blk.new ?_;first | (with_reducible rfl) | (simp;done)) | (with_reducible refine Blk.alloc ?_ _) | (with_reducible refine Blk.drew ?_) | (with_reducible refine Blk.drewN ?_ _) | (with_reducible apply Blk.set2_0) | (with_reducible apply Blk.set2_1) | (with_reducible refine Blk.other ?_ _ ?_;rotate_left;focus (first | omega | (simp;done) | (simp;omega)))))) hb_
     have N_b6:Blk w4 (w.heap.size+1+1+1) #[_,_]:=Blk.below (by (repeat' (first | (with_reducible assumption) | (with_reducible refine Blk.new ?_;first | (with_reducible rfl) | (simp;done)) | (with_reducible refine Blk.alloc ?_ _) | (with_reducible refine Blk.drew ?_) | (with_reducible refine Blk.drewN ?_ _) | (with_reducible apply Blk.set2_0) | (with_reducible apply Blk.set2_1) | (with_reducible refine Blk.other ?_ _ ?_;rotate_left;focus (first | omega | (simp;done) | (simp;omega)))))) hb_
     have N_b7:Blk w4 (w.heap.size+1+1+1+1) #[_,_]:=Blk.below (by (repeat' (first | (with_reducible assumption) | (with_reducible refine Blk.new ?_;first | (with_reducible rfl) | (simp;done)) | (with_reducible refine Blk.alloc ?_ _) | (with_reducible refine Blk.drew ?_) | (with_reducible refine Blk.drewN ?_ _) | (with_reducible apply Blk.set2_0) | (with_reducible apply Blk.set2_1) | (with_reducible refine Blk.other ?_ _ ?_;rotate_left;focus (first | omega | (simp;done) | (simp;omega)))))) hb_
     have N_b9:Blk w4 (b9) #[_,_]:=Blk.below (by (repeat' (first | (with_reducible assumption) | (with_reducible refine Blk.new ?_;first | (with_reducible rfl) | (simp;done)) | (with_reducible refine Blk.alloc ?_ _) | (with_reducible refine Blk.drew ?_) | (with_reducible refine Blk.drewN ?_ _) | (with_reducible apply Blk.set2_0) | (with_reducible apply Blk.set2_1) | (with_reducible refine Blk.other ?_ _ ?_;rotate_left;focus (first | omega | (simp;done) | (simp;omega)))))) hb_
     have N_b10:Blk w4 (b10) #[_,_]:=Blk.below (by (repeat' (first | (with_reducible assumption) | (with_reducible refine Blk.new ?_;first | (with_reducible rfl) | (simp;done)) | (with_reducible refine Blk.alloc ?_ _) | (with_reducible refine Blk.drew ?_) | (with_reducible refine Blk.drewN ?_ _) | (with_reducible apply Blk.set2_0) | (with_reducible apply Blk.set2_1) | (with_reducible refine Blk.other ?_ _ ?_;rotate_left;focus (first | omega | (simp;done) | (simp;omega)))))) hb_
     have HB_w4:Below w.heap.size w w4:=Below.trans (by go_grown) (hb_.mono (by go_size))
     have HZ_w4:w.heap.size≤w4.heap.size:=HB_w4.size
     clear hb_
     clear c_b5_0 c_b5_1 f_b5 z1_b5 z2_b5 z3_b5 z4_b5 c_b6_0 c_b6_1 f_b6 z1_b6 z2_b6 z3_b6 z4_b6 c_b7_0 c_b7_1 f_b7 z1_b7 z2_b7 z3_b7 z4_b7 c_b9_0 c_b9_1 f_b9 z1_b9 z2_b9 z3_b9 z4_b9 c_b10_0 c_b10_1 f_b10 z1_b10 z2_b10 z3_b10 z4_b10 K_b5 K_b6 K_b7 K_b9 K_b10
     have K_b5:=N_b5
     clear N_b5
     have K_b6:=N_b6
     clear N_b6
     have K_b7:=N_b7
     clear N_b7
     have K_b9:=N_b9
     clear N_b9
     have K_b10:=N_b10
     clear N_b10
     obtain ⟨c_b5_0,c_b5_1,f_b5,z0_b5,z1_b5,z2_b5,z3_b5,z4_b5⟩:=Bd K_b5
     obtain ⟨c_b6_0,c_b6_1,f_b6,z0_b6,z1_b6,z2_b6,z3_b6,z4_b6⟩:=Bd K_b6
     obtain ⟨c_b7_0,c_b7_1,f_b7,z0_b7,z1_b7,z2_b7,z3_b7,z4_b7⟩:=Bd K_b7
     obtain ⟨c_b9_0,c_b9_1,f_b9,z0_b9,z1_b9,z2_b9,z3_b9,z4_b9⟩:=Bd K_b9
     obtain ⟨c_b10_0,c_b10_1,f_b10,z0_b10,z1_b10,z2_b10,z3_b10,z4_b10⟩:=Bd K_b10
     go_wp2_with fail
     go_roundw
     case rel =>
      have St:=St.out;have e3:=E3.out;have dl:=dl.out;have hr:=hr.out
      rw[← e3] at u2
      exact ⟨k+1,_,_,_,_,_,_,by omega,by go_num,u3.cast (m:=r2-d) (by omega),u2.or1 St.2.2.2.2,St.1 (by omega),(by (repeat' (first | (with_reducible assumption) | (with_reducible refine Blk.new ?_;first | (with_reducible rfl) | (simp;done)) | (with_reducible refine Blk.alloc ?_ _) | (with_reducible refine Blk.drew ?_) | (with_reducible refine Blk.drewN ?_ _) | (with_reducible apply Blk.set2_0) | (with_reducible apply Blk.set2_1) | (with_reducible refine Blk.other ?_ _ ?_;rotate_left;focus (first | omega | (simp;done) | (simp;omega)))))),(by (repeat' (first | (with_reducible assumption) | (with_reducible refine Blk.new ?_;first | (with_reducible rfl) | (simp;done)) | (with_reducible refine Blk.alloc ?_ _) | (with_reducible refine Blk.drew ?_) | (with_reducible refine Blk.drewN ?_ _) | (with_reducible apply Blk.set2_0) | (with_reducible apply Blk.set2_1) | (with_reducible refine Blk.other ?_ _ ?_;rotate_left;focus (first | omega | (simp;done) | (simp;omega)))))),(by (repeat' (first | (with_reducible assumption) | (with_reducible refine Blk.new ?_;first | (with_reducible rfl) | (simp;done)) | (with_reducible refine Blk.alloc ?_ _) | (with_reducible refine Blk.drew ?_) | (with_reducible refine Blk.drewN ?_ _) | (with_reducible apply Blk.set2_0) | (with_reducible apply Blk.set2_1) | (with_reducible refine Blk.other ?_ _ ?_;rotate_left;focus (first | omega | (simp;done) | (simp;omega)))))),(by (repeat' (first | (with_reducible assumption) | (with_reducible refine Blk.new ?_;first | (with_reducible rfl) | (simp;done)) | (with_reducible refine Blk.alloc ?_ _) | (with_reducible refine Blk.drew ?_) | (with_reducible refine Blk.drewN ?_ _) | (with_reducible apply Blk.set2_0) | (with_reducible apply Blk.set2_1) | (with_reducible refine Blk.other ?_ _ ?_;rotate_left;focus (first | omega | (simp;done) | (simp;omega)))))),(by (repeat' (first | (with_reducible assumption) | (with_reducible refine Blk.new ?_;first | (with_reducible rfl) | (simp;done)) | (with_reducible refine Blk.alloc ?_ _) | (with_reducible refine Blk.drew ?_) | (with_reducible refine Blk.drewN ?_ _) | (with_reducible apply Blk.set2_0) | (with_reducible apply Blk.set2_1) | (with_reducible refine Blk.other ?_ _ ?_;rotate_left;focus (first | omega | (simp;done) | (simp;omega)))))),by go_grown⟩
     case measure=>simp[intOf];omega
    ·have hg:decide (0≤Cy r2 d)=false:=by
      unfold Cy;repeat' split
      all_goals first | rfl | omega
     go_wp2_with fail
     refine (Od ur uq _).mono ?_
     rintro e w3 ⟨s1,s0,t1,t0,rfl,u1,u2,hb_⟩
     have N_b5:Blk w3 (w.heap.size+1+1) #[_,_]:=Blk.below (by (repeat' (first | (with_reducible assumption) | (with_reducible refine Blk.new ?_;first | (with_reducible rfl) | (simp;done)) | (with_reducible refine Blk.alloc ?_ _) | (with_reducible refine Blk.drew ?_) | (with_reducible refine Blk.drewN ?_ _) | (with_reducible apply Blk.set2_0) | (with_reducible apply Blk.set2_1) | (with_reducible refine Blk.other ?_ _ ?_;rotate_left;focus (first | omega | (simp;done) | (simp;omega)))))) hb_
     have N_b6:Blk w3 (w.heap.size+1+1+1) #[_,_]:=Blk.below (by (repeat' (first | (with_reducible assumption) | (with_reducible refine Blk.new ?_;first | (with_reducible rfl) | (simp;done)) | (with_reducible refine Blk.alloc ?_ _) | (with_reducible refine Blk.drew ?_) | (with_reducible refine Blk.drewN ?_ _) | (with_reducible apply Blk.set2_0) | (with_reducible apply Blk.set2_1) | (with_reducible refine Blk.other ?_ _ ?_;rotate_left;focus (first | omega | (simp;done) | (simp;omega)))))) hb_
     have N_b7:Blk w3 (w.heap.size+1+1+1+1) #[_,_]:=Blk.below (by (repeat' (first | (with_reducible assumption) | (with_reducible refine Blk.new ?_;first | (with_reducible rfl) | (simp;done)) | (with_reducible refine Blk.alloc ?_ _) | (with_reducible refine Blk.drew ?_) | (with_reducible refine Blk.drewN ?_ _) | (with_reducible apply Blk.set2_0) | (with_reducible apply Blk.set2_1) | (with_reducible refine Blk.other ?_ _ ?_;rotate_left;focus (first | omega | (simp;done) | (simp;omega)))))) hb_
     have N_b9:Blk w3 (b9) #[_,_]:=Blk.below (by (repeat' (first | (with_reducible assumption) | (with_reducible refine Blk.new ?_;first | (with_reducible rfl) | (simp;done)) | (with_reducible refine Blk.alloc ?_ _) | (with_reducible refine Blk.drew ?_) | (with_reducible refine Blk.drewN ?_ _) | (with_reducible apply Blk.set2_0) | (with_reducible apply Blk.set2_1) | (with_reducible refine Blk.other ?_ _ ?_;rotate_left;focus (first | omega | (simp;done) | (simp;omega)))))) hb_
     have N_b10:Blk w3 (b10) #[_,_]:=Blk.below (by (repeat' (first | (with_reducible assumption) | (with_reducible refine Blk.new ?_;first | (with_reducible rfl) | (simp;done)) | (with_reducible refine Blk.alloc ?_ _) | (with_reducible refine Blk.drew ?_) | (with_reducible refine Blk.drewN ?_ _) | (with_reducible apply Blk.set2_0) | (with_reducible apply Blk.set2_1) | (with_reducible refine Blk.other ?_ _ ?_;rotate_left;focus (first | omega | (simp;done) | (simp;omega)))))) hb_
     have HB_w3:Below w.heap.size w w3:=Below.trans (by go_grown) (hb_.mono (by go_size))
     have HZ_w3:w.heap.size≤w3.heap.size:=HB_w3.size
     clear hb_
     clear c_b5_0 c_b5_1 f_b5 z1_b5 z2_b5 z3_b5 z4_b5 c_b6_0 c_b6_1 f_b6 z1_b6 z2_b6 z3_b6 z4_b6 c_b7_0 c_b7_1 f_b7 z1_b7 z2_b7 z3_b7 z4_b7 c_b9_0 c_b9_1 f_b9 z1_b9 z2_b9 z3_b9 z4_b9 c_b10_0 c_b10_1 f_b10 z1_b10 z2_b10 z3_b10 z4_b10 K_b5 K_b6 K_b7 K_b9 K_b10
     have K_b5:=N_b5
     clear N_b5
     have K_b6:=N_b6
     clear N_b6
     have K_b7:=N_b7
     clear N_b7
     have K_b9:=N_b9
     clear N_b9
     have K_b10:=N_b10
     clear N_b10
     obtain ⟨c_b5_0,c_b5_1,f_b5,z0_b5,z1_b5,z2_b5,z3_b5,z4_b5⟩:=Bd K_b5
     obtain ⟨c_b6_0,c_b6_1,f_b6,z0_b6,z1_b6,z2_b6,z3_b6,z4_b6⟩:=Bd K_b6
     obtain ⟨c_b7_0,c_b7_1,f_b7,z0_b7,z1_b7,z2_b7,z3_b7,z4_b7⟩:=Bd K_b7
     obtain ⟨c_b9_0,c_b9_1,f_b9,z0_b9,z1_b9,z2_b9,z3_b9,z4_b9⟩:=Bd K_b9
     obtain ⟨c_b10_0,c_b10_1,f_b10,z0_b10,z1_b10,z2_b10,z3_b10,z4_b10⟩:=Bd K_b10
     have u1:=u1.cast (m:=r2) (by have:=St.out;have:=E2.out;have:=hr.out;omega)
     go_wp2_with fail
     refine (Gq u1 hd _).mono ?_
     rintro e w5 ⟨rfl,hb_⟩
     have N_b5:Blk w5 (w.heap.size+1+1) #[_,_]:=Blk.below (by (repeat' (first | (with_reducible assumption) | (with_reducible refine Blk.new ?_;first | (with_reducible rfl) | (simp;done)) | (with_reducible refine Blk.alloc ?_ _) | (with_reducible refine Blk.drew ?_) | (with_reducible refine Blk.drewN ?_ _) | (with_reducible apply Blk.set2_0) | (with_reducible apply Blk.set2_1) | (with_reducible refine Blk.other ?_ _ ?_;rotate_left;focus (first | omega | (simp;done) | (simp;omega)))))) hb_
     have N_b6:Blk w5 (w.heap.size+1+1+1) #[_,_]:=Blk.below (by (repeat' (first | (with_reducible assumption) | (with_reducible refine Blk.new ?_;first | (with_reducible rfl) | (simp;done)) | (with_reducible refine Blk.alloc ?_ _) | (with_reducible refine Blk.drew ?_) | (with_reducible refine Blk.drewN ?_ _) | (with_reducible apply Blk.set2_0) | (with_reducible apply Blk.set2_1) | (with_reducible refine Blk.other ?_ _ ?_;rotate_left;focus (first | omega | (simp;done) | (simp;omega)))))) hb_
     have N_b7:Blk w5 (w.heap.size+1+1+1+1) #[_,_]:=Blk.below (by (repeat' (first | (with_reducible assumption) | (with_reducible refine Blk.new ?_;first | (with_reducible rfl) | (simp;done)) | (with_reducible refine Blk.alloc ?_ _) | (with_reducible refine Blk.drew ?_) | (with_reducible refine Blk.drewN ?_ _) | (with_reducible apply Blk.set2_0) | (with_reducible apply Blk.set2_1) | (with_reducible refine Blk.other ?_ _ ?_;rotate_left;focus (first | omega | (simp;done) | (simp;omega)))))) hb_
     have N_b9:Blk w5 (b9) #[_,_]:=Blk.below (by (repeat' (first | (with_reducible assumption) | (with_reducible refine Blk.new ?_;first | (with_reducible rfl) | (simp;done)) | (with_reducible refine Blk.alloc ?_ _) | (with_reducible refine Blk.drew ?_) | (with_reducible refine Blk.drewN ?_ _) | (with_reducible apply Blk.set2_0) | (with_reducible apply Blk.set2_1) | (with_reducible refine Blk.other ?_ _ ?_;rotate_left;focus (first | omega | (simp;done) | (simp;omega)))))) hb_
     have N_b10:Blk w5 (b10) #[_,_]:=Blk.below (by (repeat' (first | (with_reducible assumption) | (with_reducible refine Blk.new ?_;first | (with_reducible rfl) | (simp;done)) | (with_reducible refine Blk.alloc ?_ _) | (with_reducible refine Blk.drew ?_) | (with_reducible refine Blk.drewN ?_ _) | (with_reducible apply Blk.set2_0) | (with_reducible apply Blk.set2_1) | (with_reducible refine Blk.other ?_ _ ?_;rotate_left;focus (first | omega | (simp;done) | (simp;omega)))))) hb_
     have HB_w5:Below w.heap.size w w5:=Below.trans (by go_grown) (hb_.mono (by go_size))
     have HZ_w5:w.heap.size≤w5.heap.size:=HB_w5.size
     clear hb_
     clear c_b5_0 c_b5_1 f_b5 z1_b5 z2_b5 z3_b5 z4_b5 c_b6_0 c_b6_1 f_b6 z1_b6 z2_b6 z3_b6 z4_b6 c_b7_0 c_b7_1 f_b7 z1_b7 z2_b7 z3_b7 z4_b7 c_b9_0 c_b9_1 f_b9 z1_b9 z2_b9 z3_b9 z4_b9 c_b10_0 c_b10_1 f_b10 z1_b10 z2_b10 z3_b10 z4_b10 K_b5 K_b6 K_b7 K_b9 K_b10
     have K_b5:=N_b5
     clear N_b5
     have K_b6:=N_b6
     clear N_b6
     have K_b7:=N_b7
     clear N_b7
     have K_b9:=N_b9
     clear N_b9
     have K_b10:=N_b10
     clear N_b10
     obtain ⟨c_b5_0,c_b5_1,f_b5,z0_b5,z1_b5,z2_b5,z3_b5,z4_b5⟩:=Bd K_b5
     obtain ⟨c_b6_0,c_b6_1,f_b6,z0_b6,z1_b6,z2_b6,z3_b6,z4_b6⟩:=Bd K_b6
     obtain ⟨c_b7_0,c_b7_1,f_b7,z0_b7,z1_b7,z2_b7,z3_b7,z4_b7⟩:=Bd K_b7
     obtain ⟨c_b9_0,c_b9_1,f_b9,z0_b9,z1_b9,z2_b9,z3_b9,z4_b9⟩:=Bd K_b9
     obtain ⟨c_b10_0,c_b10_1,f_b10,z0_b10,z1_b10,z2_b10,z3_b10,z4_b10⟩:=Bd K_b10
     go_wp2_with fail
     go_roundw
     case rel =>
      have St:=St.out;have e3:=E3.out
      rw[← e3] at u2
      exact ⟨k+1,_,_,_,_,_,_,by omega,by go_num,u1,u2,St.2.1 (by omega),(by (repeat' (first | (with_reducible assumption) | (with_reducible refine Blk.new ?_;first | (with_reducible rfl) | (simp;done)) | (with_reducible refine Blk.alloc ?_ _) | (with_reducible refine Blk.drew ?_) | (with_reducible refine Blk.drewN ?_ _) | (with_reducible apply Blk.set2_0) | (with_reducible apply Blk.set2_1) | (with_reducible refine Blk.other ?_ _ ?_;rotate_left;focus (first | omega | (simp;done) | (simp;omega)))))),(by (repeat' (first | (with_reducible assumption) | (with_reducible refine Blk.new ?_;first | (with_reducible rfl) | (simp;done)) | (with_reducible refine Blk.alloc ?_ _) | (with_reducible refine Blk.drew ?_) | (with_reducible refine Blk.drewN ?_ _) | (with_reducible apply Blk.set2_0) | (with_reducible apply Blk.set2_1) | (with_reducible refine Blk.other ?_ _ ?_;rotate_left;focus (first | omega | (simp;done) | (simp;omega)))))),(by (repeat' (first | (with_reducible assumption) | (with_reducible refine Blk.new ?_;first | (with_reducible rfl) | (simp;done)) | (with_reducible refine Blk.alloc ?_ _) | (with_reducible refine Blk.drew ?_) | (with_reducible refine Blk.drewN ?_ _) | (with_reducible apply Blk.set2_0) | (with_reducible apply Blk.set2_1) | (with_reducible refine Blk.other ?_ _ ?_;rotate_left;focus (first | omega | (simp;done) | (simp;omega)))))),(by (repeat' (first | (with_reducible assumption) | (with_reducible refine Blk.new ?_;first | (with_reducible rfl) | (simp;done)) | (with_reducible refine Blk.alloc ?_ _) | (with_reducible refine Blk.drew ?_) | (with_reducible refine Blk.drewN ?_ _) | (with_reducible apply Blk.set2_0) | (with_reducible apply Blk.set2_1) | (with_reducible refine Blk.other ?_ _ ?_;rotate_left;focus (first | omega | (simp;done) | (simp;omega)))))),(by (repeat' (first | (with_reducible assumption) | (with_reducible refine Blk.new ?_;first | (with_reducible rfl) | (simp;done)) | (with_reducible refine Blk.alloc ?_ _) | (with_reducible refine Blk.drew ?_) | (with_reducible refine Blk.drewN ?_ _) | (with_reducible apply Blk.set2_0) | (with_reducible apply Blk.set2_1) | (with_reducible refine Blk.other ?_ _ ?_;rotate_left;focus (first | omega | (simp;done) | (simp;omega)))))),by go_grown⟩
     case measure=>simp[intOf];omega
  ·obtain rfl:k=128:=by omega
   have fin:=Lib.hid inv.finish
   go_wp2_with fail
   go_region_held3 (fun w'=>w'.cell? ⟨b9,0,none⟩=some (.int .u64 r1)∧w'.cell? ⟨b9,1,none⟩=some (.int .u64 r0)∧w'.cell? ⟨b10,0,none⟩=some (.int .u64 q1)∧w'.cell? ⟨b10,1,none⟩=some (.int .u64 q0)) (go_keep) (fail)
   all_goals
    go_wp2_with fail
    (try simp only[Exit.inBlock,Exit.then])
    refine bodyPost_ret (v := ?_) ?_ rfl ?_
    rotate_left
    ·simp only[results,Tryz.results46]
     go_simp
     exact rfl
    have fin:=fin.out
    exact ⟨_,_,_,_,rfl,uq.cast fin.1,ur.cast fin.2,by go_grown⟩
open Go.RowKit
set_option linter.unusedVariables false
set_option maxRecDepth 100000
theorem dU_0:dU 0=.agg [.v (.int .u64 0),.v (.int .u64 0)]:=rfl
section
variable {a b c d h l n:Nat}
theorem a2v (hh:h<B128) (hl:l<B128) (hd:d<B128) (hlt:h<d):HasC Tryz.prog 46 [dU h,dU l,dU d] (fun y=>y=.tup [dU ((h*B128+l) / d),dU ((h*B128+l) % d),.v (.bool true)]) :=
 (HasC.ofCalls (vs:=[.agg #[.int .u64 (hiW h),.int .u64 (loW h)],.agg #[.int .u64 (hiW l),.int .u64 (loW l)],.agg #[.int .u64 (hiW d),.int .u64 (loW d)]]) (R:=fun r=>r=.tuple #[.agg #[.int .u64 (hiW ((h*B128+l) / d)),.int .u64 (loW ((h*B128+l) / d))],.agg #[.int .u64 (hiW ((h*B128+l) % d)),.int .u64 (loW ((h*B128+l) % d))],.bool true]) (fun args w=>Tryz.call46 args w) rfl
  (fun w=>(Wg (Ce hh) (Ce hl) (Ce hd) hlt w).mono fun e w' ⟨q1,q0,r1,r0,he,h1,h2,hb⟩=>⟨_,he,by
   obtain ⟨rfl,rfl⟩:=h1.hl;obtain ⟨rfl,rfl⟩:=h2.hl;rfl,hb⟩)).mono fun y ⟨r,hr,hy⟩=>by subst hr;exact hy
theorem b38 (ha:a<B128) (hc:c<B128) (hb:b<B128) (hd:d<B128):HasC Tryz.prog 57 [dU a,dU c,dU b,dU d] (fun y=>y=.v (.int .i64 (Cy (a*B128+c) (b*B128+d)))) :=
 (HasC.ofCalls (vs:=[.agg #[.int .u64 (hiW a),.int .u64 (loW a)],.agg #[.int .u64 (hiW c),.int .u64 (loW c)],.agg #[.int .u64 (hiW b),.int .u64 (loW b)],.agg #[.int .u64 (hiW d),.int .u64 (loW d)]]) (R:=fun r=>r=.int .i64 (Cy (a*B128+c) (b*B128+d))) (fun args w=>Tryz.call57 args w) rfl
  (fun w=>(a4v (Ce ha) (Ce hc) (Ce hb) (Ce hd) w).mono fun e w' ⟨he,hb⟩=>⟨_,he,rfl,hb⟩)).mono fun y ⟨r,hr,hy⟩=>by subst hr;exact hy
theorem b3p (ha:a<B128) (hc:c<B128) (hb:b<B128) (hd:d<B128):HasC Tryz.prog 58 [dU a,dU c,dU b,dU d] (fun y=>y=.tup [dU ((a*B128+c+B128*B128-(b*B128+d)) / B128 % B128),dU ((a*B128+c+B128*B128-(b*B128+d)) % B128),.v (.int .u64 ((Ft (a*B128+c) (b*B128+d):Nat):Int))]) :=
 (HasC.ofCalls (vs:=[.agg #[.int .u64 (hiW a),.int .u64 (loW a)],.agg #[.int .u64 (hiW c),.int .u64 (loW c)],.agg #[.int .u64 (hiW b),.int .u64 (loW b)],.agg #[.int .u64 (hiW d),.int .u64 (loW d)]]) (R:=fun r=>r=.tuple #[.agg #[.int .u64 (hiW ((a*B128+c+B128*B128-(b*B128+d)) / B128 % B128)),.int .u64 (loW ((a*B128+c+B128*B128-(b*B128+d)) / B128 % B128))],.agg #[.int .u64 (hiW ((a*B128+c+B128*B128-(b*B128+d)) % B128)),.int .u64 (loW ((a*B128+c+B128*B128-(b*B128+d)) % B128))],.int .u64 ((Ft (a*B128+c) (b*B128+d):Nat):Int)]) (fun args w=>Tryz.call58 args w) rfl
  (fun w=>(a4k (Ce ha) (Ce hc) (Ce hb) (Ce hd) w).mono fun e w' ⟨p1,p0,q1,q0,r,he,h1,h2,h3,hb⟩=>⟨_,he,by
   obtain ⟨rfl,rfl⟩:=h1.hl;obtain ⟨rfl,rfl⟩:=h2.hl;obtain rfl:=h3.eq;rfl,hb⟩)).mono fun y ⟨r,hr,hy⟩=>by subst hr;exact hy
end
theorem Vc {Im:Nat→Nat→Prop} {W:World} : ∀ {ds:List DV} {xs:List Value},DV.bases ds=some xs→DV.relL Im W ds xs
 | [],xs,h=>by simp[DV.bases] at h;subst h;rw[DV.relL]
 | .v x::ds,xs,h=>by
  simp only[DV.bases] at h
  split at h
  ·rename_i ys hy
   simp at h
   subst h
   rw[DV.relL]
   exact ⟨x,ys,rfl,by rw[DV.rel],Vc hy⟩
  ·cases h
 | .sl _ _::ds,xs,h=>by simp[DV.bases] at h
 | .agg _::ds,xs,h=>by simp[DV.bases] at h
 | .tup _::ds,xs,h=>by simp[DV.bases] at h
 | .ifc _ _::ds,xs,h=>by simp[DV.bases] at h
 | .bx _::ds,xs,h=>by simp[DV.bases] at h
theorem b1s {Im:Nat→Nat→Prop} {W:World} {d:DV} {x:Value} (h:d.base=some x):d.rel Im W x:=by
 cases d with
 | v z=>simp[DV.base] at h;subst h;rw[DV.rel]
 | agg cs =>
  simp only[DV.base] at h
  split at h
  ·rename_i xs hx
   simp at h
   subst h
   rw[DV.rel]
   exact ⟨xs.toArray,rfl,by simpa using Vc hx⟩
  ·cases h
 | sl n cs=>simp[DV.base] at h
 | tup n=>simp[DV.base] at h
 | ifc t n=>simp[DV.base] at h
 | bx n=>simp[DV.base] at h
theorem Vh {Im:Nat→Nat→Prop} {W:World} : ∀ {ds:List DV} {vs:List Value},ds.map DV.base=vs.map some→DV.relL Im W ds vs
 | [],[],h=>by rw[DV.relL]
 | [],v::vs,h=>by simp at h
 | d::ds,[],h=>by simp at h
 | d::ds,v::vs,h=>by
  simp only[List.map_cons,List.cons.injEq] at h
  rw[DV.relL]
  exact ⟨v,vs,rfl,b1s h.1,Vh h.2⟩
theorem HasC.walk {f:FuncId} {ds:List DV} {vs:List Value} (h:HasC Tryz.prog f ds (fun y=>y=.v (.bool true))) (hb:ds.map DV.base=vs.map some) (w:World) (hk:Kw w:=by first | exact ⟨.inl (by kernel_rfl),.inl (by kernel_rfl)⟩ | exact ⟨.inl (by kernel_rfl),.inl (by kernel_rfl),.inl (by kernel_rfl)⟩):Calls Tryz.prog f vs.toArray w fun e w'=>e=.returned (.bool true)∧Below w.heap.size w w' :=
 (h.2.2 w vs.toArray (fun _ _=>False) hk (fun _ _ h=>h.elim) (Vh hb)).mono fun e w' ⟨r,y,h1,h2,h3,h4⟩=>by
  subst h2
  rw[DV.rel] at h3
  subst h3
  exact ⟨h1,h4⟩
open Go.RowKit
set_option linter.unusedVariables false
set_option linter.unusedSimpArgs false
set_option maxRecDepth 100000
def tl (a:Nat):Nat→List Int
 | 0=>[]
 | k+1=>((48+dig a k:Nat):Int)::tl a k
theorem Wk (a:Nat) : ∀ k,(tl a k).length=k
 | 0=>rfl
 | k+1=>by simp[tl,Wk a k]
def txS (a:Nat):ByteArray:=if a=0 then ⟨#[48]⟩ else Tb (tl a (nd a))
def tcs (a k:Nat):List DV:=List.replicate (40-k) (.v (.int .u8 0)) ++ (tl a k).map fun z=>.v (.int .u8 z)
theorem Xc {a k:Nat} (h:k≤40):(tcs a k).length=40:=by simp[tcs,Wk];omega
theorem a7m {cs:List DV} (h:cs.length≠1):Jf cs=false:=by
 unfold Jf
 split
 ·simp at h
 ·rfl
theorem a9u {a k:Nat} (h:k≤40):Jf (tcs a k)=false:=a7m (by rw[Xc h];decide)
theorem b06 {a k:Nat} {c z:Int} (hk:k<40) (hc:c=39-(k:Int)) (hz:z=((48+dig a k:Nat):Int)):Eg (tcs a k) (0+c.toNat*1) [.v (.int .u8 z)]=tcs a (k+1):=by
 have e:0+c.toNat*1=39-k:=by omega
 rw[e]
 unfold Eg tcs
 have e1:40-k=(39-k)+1:=by omega
 have e2:40-(k+1)=39-k:=by omega
 rw[e1,e2,List.replicate_succ',List.append_assoc]
 have hl:(List.replicate (39-k) (DV.v (.int .u8 0))).length=39-k:=by simp
 generalize List.replicate (39-k) (DV.v (.int .u8 0))=r at hl ⊢
 rw[← hl]
 simp[tl,hz]
theorem b01 {a k:Nat} {c:Int} (hk:k≤40) (hc:c=40-(k:Int)):((tcs a k).drop (c.toNat*1)).take (k*1)=(tl a k).map fun z=>.v (.int .u8 z):=by
 have e:c.toNat*1=40-k:=by omega
 rw[e]
 unfold tcs
 rw[List.drop_append_of_le_length (by simp),List.drop_of_length_le (by simp),List.nil_append,List.take_of_length_le (by simp[Wk])]
theorem Oa {a m k:Nat} (h:m=a / 10 ^ k) (hm:m<B128):(0*B128+m) / 10 % B128=a / 10 ^ (k+1):=by
 rw[Nat.zero_mul,Nat.zero_add,Nat.mod_eq_of_lt (by omega),h,Nat.div_div_eq_div_mul,← Nat.pow_succ]
theorem Yc {a m k:Nat} (h:m=a / 10 ^ k):(0*B128+m) % 10=dig a k:=by
 rw[Nat.zero_mul,Nat.zero_add,h];rfl
theorem b8q:B128≤10 ^ 39:=by decide
theorem b27 {a k:Nat} (ha:a<B128) (h:a / 10 ^ k≠0):k<39:=by
 apply Classical.byContradiction
 intro hn
 apply h
 apply Nat.div_eq_of_lt
 have h1:10 ^ 39≤10 ^ k:=Nat.pow_le_pow_right (by decide) (by omega)
 have:=b8q
 omega
theorem c0w {a k:Nat} (h0:a / 10 ^ k=0) (h1:k=0∨a / 10 ^ (k-1)≠0):nd a=k:=by
 have hlt:a<10 ^ k:=by
  apply Classical.byContradiction
  intro hn
  have:1≤a / 10 ^ k:=(Nat.le_div_iff_mul_le (Nat.pow_pos (by decide))).2 (by omega)
  omega
 have hle:=Cp _ _ hlt
 rcases h1 with h1 | h1
 ·omega
 ·apply Classical.byContradiction
  intro hne
  apply h1
  exact Ma (by omega)
theorem Zu {m:Nat} (hm:m<B128):HasC Tryz.prog 47 [dU m] (fun y => ∃ c,y=.v (.bool c)∧(c=true↔m=0)) :=
 (Fe hm).mono fun y ⟨c,h1,h2⟩=>⟨c,h1,h2⟩
theorem a5o {m:Nat} (hm:m<B128):HasC Tryz.prog 64 [.agg [.v (.int .u64 0),.v (.int .u64 0)],dU m,.v (.int .u64 10)] (fun y=>y=.tup [dU ((0*B128+m) / 10 / B128),dU ((0*B128+m) / 10 % B128),.v (.int .u64 (((0*B128+m) % 10:Nat):Int)),.v (.bool true)]):=by
 rw[← dU_0]
 exact Eb (n:=10) (by decide) hm (by decide) (by decide)
theorem b68 {a:Nat} (ha:a<B128):HasC Tryz.prog 184 [.agg [.v (.int .u64 (hiW (a))),.v (.int .u64 (loW (a)))]] (fun r=>r=.v (.string (txS a))):=by
 refine hO [] Tryz.f184 (fun a w=>Tryz.call184 a w) Tryz.func184 rfl (⟨_,rfl⟩) ?_
 refine Aa rfl (iQ 2 (iE 33 [(1,.p 1 0),(2,.d (Sv (⟨#[]⟩)))] [(1,[Hw a,Lw a])] ?_))
 refine Ae (Aa rfl (iQ 1 (jC 47 [.agg [Hw a,Lw a]] 10 (Zu ha) ?_)))
 rintro _ ⟨c10,rfl,hc10⟩
 let Z1:=zT [(1,.p 1 0),(2,.d (Sv (⟨#[]⟩))),(10,Ba c10)] []
 refine iE 33 Z1 [(1,[Hw a,Lw a])] ?_
 cases c10
 ·replace hc10:=bf hc10
  refine iF (Ad (Af (Aa rfl (iQ 1 ?_))))
  let Z2:=zT [(1,.p 1 0),(2,.d (Sv (⟨#[]⟩))),(3,.p 3 0),(10,Ba false)] []
  let Z3:=zH [(3,[.v (.int .u8 0),.v (.int .u8 0),.v (.int .u8 0),.v (.int .u8 0),.v (.int .u8 0),.v (.int .u8 0),.v (.int .u8 0),.v (.int .u8 0),.v (.int .u8 0),.v (.int .u8 0),.v (.int .u8 0),.v (.int .u8 0),.v (.int .u8 0),.v (.int .u8 0),.v (.int .u8 0),.v (.int .u8 0),.v (.int .u8 0),.v (.int .u8 0),.v (.int .u8 0),.v (.int .u8 0),.v (.int .u8 0),.v (.int .u8 0),.v (.int .u8 0),.v (.int .u8 0),.v (.int .u8 0),.v (.int .u8 0),.v (.int .u8 0),.v (.int .u8 0),.v (.int .u8 0),.v (.int .u8 0),.v (.int .u8 0),.v (.int .u8 0),.v (.int .u8 0),.v (.int .u8 0),.v (.int .u8 0),.v (.int .u8 0),.v (.int .u8 0),.v (.int .u8 0),.v (.int .u8 0),.v (.int .u8 0)])] []
  refine iE 33 Z2 (zH [(1,[Hw a,Lw a])] Z3) ?_
  refine Aa rfl (iQ 1 (iE 33 (zT [(4,Ia 40)] Z2) (zH [(1,[Hw a,Lw a])] Z3) ?_))
  refine Ae (Aj (Bm 33 (fun (vcx:Nat×Nat×Int)=>match vcx with | (k,m,c)=>[(1,.p 1 0),(2,.d (Sv (⟨#[]⟩))),(3,.p 3 0),(4,Ia c),(10,Ba false)]) (fun (vcx:Nat×Nat×Int)=>match vcx with | (k,m,c)=>[(1,[Hw m,Lw m]),(3,tcs a k)]) (fun (vcx:Nat×Nat×Int)=>match vcx with | (k,m,c)=>c=40-(k:Int)∧m=a / 10 ^ k∧k≤39∧(k=0∨a / 10 ^ (k-1)≠0)) (fun (vcx:Nat×Nat×Int)=>match vcx with | (k,m,c)=>m) ((0,a,40)) (⟨rfl,by simp,by omega,.inl rfl⟩) (by kernel_rfl) (by kernel_rfl) ?_))
  rintro ⟨k,m,c⟩ hinv
  simp only at hinv
  obtain ⟨h1,h2,h3,h4⟩:=hinv
  have hm:m<B128:=by rw[h2];exact Nat.lt_of_le_of_lt (Nat.div_le_self _ _) ha
  refine Ae (Aa rfl (iQ 1 (jC 47 [.agg [Hw m,Lw m]] 12 (Zu hm) ?_)))
  rintro _ ⟨c12,rfl,hc12⟩
  refine jU .not (.bool c12) 13 ?_
  intro c13 hc13
  refine iE 33 (zT [(4,Ia c),(13,Ba c13)] Z2) [(1,[Hw m,Lw m]),(3,tcs a k)] ?_
  cases c13
  ·replace hc13:=bf hc13
   have hm0:m=0:=by rw[← hc12];simpa using hc13
   refine iF (Bf (Ca (Bn (Bg rfl (Af (Aa rfl (iQ 1 (b7x (n:=3) (m:=40) (z:=1) (l:=c) (cs:=(tcs a k)) (d:=31) (q:=k) (ds:=((tl a k).map fun z=>.v (.int .u8 z))) (by kernel_rfl) (by omega) (Xc (by omega)) (a9u (by omega)) (by omega) (b01 (by omega) h1) ?_))))))))
   refine b6m (n:=k) (cs:=((tl a k).map fun z=>.v (.int .u8 z))) (d:=32) (b:=(txS a)) (tl a k) (by kernel_rfl) (rfl) ((Wk a k).symm) (by rw[txS,if_neg hc10,c0w (by omega) h4]) ?_
   refine iQ 1 ?_
   let Z4:=zT [(1,.p 1 0),(2,.d (Sv (txS a))),(4,Ia c),(10,Ba false),(13,Ba false)] []
   refine iE 33 Z4 [(1,[Hw m,Lw m])] ?_
   refine Ab (iR (Sv (txS a)) ?_)
   rfl
  ·replace hc13:=bt hc13
   have hm0:m≠0:=by intro e;rw[hc12.2 e] at hc13;cases hc13
   have hk:=b27 ha (by rw[← h2];exact hm0)
   refine iT (Ad (Af (Aj (Aa rfl (iQ 2 (eC 64 [.agg [Uv 0,Uv 0],.agg [Hw m,Lw m],Uv 10] 17 (a5o hm) (iQ 11 ?_)))))))
   let Z5:=zT [(7,.d (Uv ((((0*B128+m) % 10:Nat):Int))))] []
   let Z6:=zH [(6,[Hw ((0*B128+m) / 10 % B128),Lw ((0*B128+m) / 10 % B128)])] []
   refine iE 33 (zT [(4,Ia c),(6,.p 6 0),(13,Ba true)] (zT Z5 Z2)) (zH [(1,[Hw m,Lw m]),(3,tcs a k)] Z6) ?_
   refine Aa rfl (iQ 1 (jB .sub 3 (.int .i64 c) (.int .i64 1) 23 ?_))
   intro z23 hz23
   try replace hz23:=hz23.i64 (by omega)
   refine iQ 1 (iE 33 (zT [(4,Ia z23),(6,.p 6 0),(13,Ba true)] (zT Z2 Z5)) (zH [(1,[Hw m,Lw m]),(3,tcs a k)] Z6) ?_)
   refine Aa rfl (iQ 2 (jB .add 22 (.int .u64 48) (.int .u64 ((((0*B128+m) % 10:Nat):Int))) 26 ?_))
   intro z26 hz26
   try replace hz26:=hz26.u64 (by omega)
   refine jV 22 5 (.int .u64 z26) 27 ?_
   intro z27 hz27
   try replace hz27:=hz27.u8 (by omega)
   refine b78 (n:=3) (k:=0) (m:=40) (z:=1) (q:=z23) (dst:=(some 28)) (by kernel_rfl) (by omega) ?_
   refine b73 (n:=3) (k:=(0+z23.toNat*1)) (z:=1) (d:=.v (.int .u8 z27)) (cs:=(tcs a k)) (ds:=(tcs a (k+1))) (by kernel_rfl) rfl rfl (a9u (by omega)) (by rw[Xc (by omega)];omega) (b06 (by omega) (by omega) (by rw[← Yc h2];omega)) ?_
   refine iE 33 (zT [(4,Ia z23),(6,.p 6 0),(13,Ba true)] (zT Z2 Z5)) (zH [(1,[Hw m,Lw m]),(3,tcs a (k+1))] Z6) ?_
   refine Al rfl (iQ 2 ?_)
   let Z7:=zH [(1,[Hw ((0*B128+m) / 10 % B128),Lw ((0*B128+m) / 10 % B128)])] []
   refine iE 33 (zT [(4,Ia z23),(6,.p 6 0),(13,Ba true)] (zT Z2 Z5)) (zH [(3,tcs a (k+1))] (zH Z7 Z6)) ?_
   refine Am ?_
   refine Bh (k+1,(0*B128+m) / 10 % B128,z23) (⟨by omega,Oa h2 hm,by omega,.inr (by rw[Nat.add_sub_cancel,← h2];exact hm0)⟩) (by show (0*B128+m) / 10 % B128<m;rw[Oa h2 hm,Nat.pow_succ,← Nat.div_div_eq_div_mul,← h2];omega) (by kernel_rfl) (by kernel_rfl)
 ·replace hc10:=bt hc10
  refine iT (Aa rfl (iQ 1 ?_))
  let Z8:=zT [(1,.p 1 0),(2,.d (Sv (⟨#[48]⟩))),(10,Ba true)] []
  refine iE 33 Z8 [(1,[Hw a,Lw a])] ?_
  refine Ab (Ag (iR (Sv (⟨#[48]⟩)) ?_))
  rw[txS,if_pos hc10]
open Go.RowKit
set_option linter.unusedVariables false
set_option linter.unusedSimpArgs false
set_option maxRecDepth 100000
abbrev L8:=List UInt8
theorem a0l {b:Bool} {p q:Prop} (h:b=true∧p∨b=false∧q) (hb : ¬ b=false):p:=by
 rcases h with h | h
 ·exact h.2
 ·exact absurd h.1 hb
theorem b33 {b:Bool} {p q:Prop} (h:b=true∧p∨b=false∧q) (hb:b=false):q:=by
 rcases h with h | h
 ·rw[hb] at h;cases h.1
 ·exact h.2
theorem Qd {b:Bool} (h : ¬ b=true):b=false:=by simpa using h
def tx (l:L8):ByteArray:=⟨l.toArray⟩
@[simp] theorem Ak (l:L8):(tx l).size=l.length:=by simp[tx,ByteArray.size]
theorem Ar (a b:L8):tx a ++ tx b=tx (a ++ b):=by
 apply ByteArray.ext
 simp[tx]
theorem To {a b:L8} (h:tx a=tx b):a=b:=by
 have:=congrArg (fun x:ByteArray=>x.data.toList) h
 simpa [tx] using this
theorem Pi {a b:L8}:tx a=tx b↔a=b:=⟨To,fun h=>by rw[h]⟩
theorem Wy (s:ByteArray):s=tx s.data.toList:=by
 apply ByteArray.ext
 simp[tx]
theorem Bu (l:L8) (i j:Nat):(tx l).extract i j=tx ((l.drop i).take (j-i)):=by
 apply ByteArray.ext
 simp[tx,List.drop_take]
theorem b9d (l:L8) (k:Nat):Wa (tx l) k=(((l[k]?).getD 0).toNat:Int):=by simp[Wa,tx]
theorem a1o:tx []=⟨#[]⟩:=rfl
theorem a8m (l:List Int):Tb l=tx (l.map fun z=>UInt8.ofNat z.toNat):=by
 apply ByteArray.ext
 simp[Tb,tx]
theorem Ss {a:Nat} (h:a≠0):nd a=Lib.nDigits a:=by
 have h1:=Fc a
 have h0:nd a≠0:=fun e=>by rw[e] at h1;omega
 have h2:10 ^ (nd a-1)≤a:=by
  apply Classical.byContradiction
  intro hn
  have:=Cp (nd a-1) a (by omega)
  omega
 have:=Lib.nDigits_unique (nd a-1) a h2 (by rw[show nd a-1+1=nd a by omega];exact h1)
 omega
theorem b5k (a:Nat) : ∀ k,(tl a k).map (fun z=>UInt8.ofNat z.toNat)=(List.range k).map fun t=>Lib.dg a (k-1-t)
 | 0=>rfl
 | k+1=>by
  rw[List.range_succ_eq_map,tl,List.map_cons,b5k a k,List.map_cons,List.map_map]
  congr 1
  apply List.map_congr_left
  intro t ht
  simp only[Function.comp]
  congr 1
  omega
theorem b63 (a:Nat):txS a=tx (Lib.decDigits a):=by
 unfold txS
 split
 ·rename_i h
  subst h
  rw[Lib.decDigits]
  rfl
 ·rename_i h
  rw[a8m,Lib.decDigits_eq,Ss h,b5k]
theorem Ib (n:Int) (h : -9223372036854775808≤n∧n≤9223372036854775807):(Lib.itoa n).length≤21:=Lib.itoa_length_le n h.1 h.2
theorem a95 {n:Int}:0<(Lib.itoa n).length:=by
 have h : ∀ u,0<(Lib.decDigits u).length:=fun u=>by rw[Lib.decDigits_length];exact Lib.nDigits_pos u
 unfold Lib.itoa
 split
 ·simp
 ·exact h _
theorem b3i {n:Int} (h:0≤n):Lib.itoa n=Lib.decDigits n.toNat:=by unfold Lib.itoa;rw[if_neg (by omega)]
def Bs (n:Int) (w:Nat):L8:=List.replicate (w-(Lib.itoa n).length) 48 ++ Lib.itoa n
theorem a7y (n:Int) (w:Nat):(Bs n w).length=max w (Lib.itoa n).length:=by simp[Bs];omega
open Go.RowKit
set_option linter.unusedVariables false
set_option linter.unusedSimpArgs false
set_option maxRecDepth 100000
def Ci (c:UInt8):Bool:=decide (48≤c.toNat)&&decide (c.toNat≤57)
theorem Db {c:UInt8}:Ci c=true↔48≤c.toNat∧c.toNat≤57:=by simp[Ci]
def nvA (n:Nat) (l:L8):Nat:=l.foldl (fun n c=>n*10+(c.toNat-48)) n
def nvL (l:L8):Nat:=nvA 0 l
def ndg:L8→Nat
 | []=>0
 | c::l=>if Ci c then ndg l+1 else 0
theorem Wr : ∀ l:L8,ndg l≤l.length
 | []=>Nat.le_refl _
 | c::l=>by
  have:=Wr l
  unfold ndg
  split<;>simp<;>omega
theorem Qi : ∀ (l:L8) (i:Nat) (c:UInt8),i<ndg l→l[i]? = some c→Ci c=true
 | [],i,c,h,e=>by simp at e
 | a::l,i,c,h,e=>by
  unfold ndg at h
  split at h
  ·rename_i ha
   cases i with
   | zero=>simp at e;subst e;exact ha
   | succ i=>exact Qi l i c (by omega) (by simpa using e)
  ·omega
theorem Ye : ∀ (l:L8) (c:UInt8),l[ndg l]? = some c→Ci c=false
 | [],c,e=>by simp at e
 | a::l,c,e=>by
  unfold ndg at e
  split at e
  ·exact Ye l c (by simpa using e)
  ·rename_i ha
   simp at e
   subst e
   simpa using ha
theorem Ly {l:L8} {k:Nat} (hk:k≤l.length) (h : ∀ i c,i<k→l[i]? = some c→Ci c=true) (he : ∀ c,l[k]? = some c→Ci c=false):ndg l=k:=by
 apply Classical.byContradiction
 intro hne
 rcases Nat.lt_or_gt_of_ne hne with hlt | hlt
 ·have h1:ndg l<l.length:=by omega
  have h2:=Ye l _ (List.getElem?_eq_getElem h1)
  have h3:=h _ _ hlt (List.getElem?_eq_getElem h1)
  rw[h2] at h3
  cases h3
 ·have h1:k<l.length:=by have:=Wr l;omega
  have h2:=he _ (List.getElem?_eq_getElem h1)
  have h3:=Qi l _ _ hlt (List.getElem?_eq_getElem h1)
  rw[h2] at h3
  cases h3
theorem a9g : ∀ (l:L8) (n:Nat),l.all Ci=true→nvA n l+1≤(n+1)*10 ^ l.length
 | [],n,h=>by simp[nvA]
 | c::l,n,h=>by
  simp only[List.all_cons,Bool.and_eq_true] at h
  have h1:=a9g l (n*10+(c.toNat-48)) h.2
  have h2:=(Db.1 h.1).2
  have h3:(n*10+(c.toNat-48)+1)*10 ^ l.length≤((n+1)*10)*10 ^ l.length:=Nat.mul_le_mul_right _ (by omega)
  show nvA (n*10+(c.toNat-48)) l+1≤_
  rw[List.length_cons,Nat.pow_succ,Nat.mul_comm (10 ^ l.length) 10,← Nat.mul_assoc]
  omega
theorem Fz {l:L8} {k:Nat} (h:l.all Ci=true) (hk:l.length≤k):nvL l<10 ^ k:=by
 have h1:=a9g l 0 h
 have h2:10 ^ l.length≤10 ^ k:=Nat.pow_le_pow_right (by decide) hk
 unfold nvL
 omega
theorem a7b (l:L8) (c:UInt8) (n:Nat):nvA n (l ++ [c])=nvA n l*10+(c.toNat-48):=by simp[nvA]
theorem Sc {l:L8} {k:Nat} {c:UInt8} (h:l[k]? = some c):nvL (l.take (k+1))=nvL (l.take k)*10+(c.toNat-48):=by
 obtain ⟨hk,e⟩:=List.getElem?_eq_some_iff.1 h
 rw[List.take_succ_eq_append_getElem hk,e]
 exact a7b _ _ _
theorem Jj {l:L8} {k:Nat} (h:k≤ndg l):(l.take k).all Ci=true:=by
 rw[List.all_eq_true]
 intro c hc
 obtain ⟨i,hi,rfl⟩:=List.getElem_of_mem hc
 simp at hi
 exact Qi l i _ (by omega) (by rw[List.getElem_take];exact List.getElem?_eq_getElem (by omega))
open Go.RowKit
set_option linter.unusedVariables false
section
variable {ex:List Nat} {Q:Ex→AS→Prop} {s:AS}
theorem Gb {x y:Code} {α:Type} (n:Nat) (t:α→List (Nat×AV)) (h:α→List (Nat×List DV)) (J:α→Prop) (rest : ∀ a:α,J a→VC ex y Q (mkS n (t a) (h a)))
  (k:(∀ a:α,J a→VC ex y Q (mkS n (t a) (h a)))→VC ex x (Wd (fun s'=>VC ex y Q s') Q) s):VC ex (.seq x y) Q s:=Ae (k rest)
theorem Di {y:Code} {α:Type} {n:Nat} {t:α→List (Nat×AV)} {h:α→List (Nat×List DV)} {J:α→Prop} (rest : ∀ a:α,J a→VC ex y Q (mkS n (t a) (h a))) (a:α) (hj:J a) (hs:s=mkS n (t a) (h a)):Wd (fun s'=>VC ex y Q s') Q .normal s:=by
 subst hs
 exact rest a hj
end
open Go.RowKit
set_option linter.unusedVariables false
set_option linter.unusedSimpArgs false
set_option maxRecDepth 100000
structure RootInv (a k q:Nat):Prop where
 lo:q*q≤a
 hi:a<(q+10 ^ k)*(q+10 ^ k)
theorem a3o : ∀ a:Nat,∃ s,s*s≤a∧a<(s+1)*(s+1)
 | 0=>⟨0,by omega,by omega⟩
 | a+1=>by
  obtain ⟨s,h1,h2⟩:=a3o a
  by_cases h:a+1<(s+1)*(s+1)
  ·exact ⟨s,by omega,h⟩
  ·refine ⟨s+1,by omega,?_⟩
   have:(s+1+1)*(s+1+1)=(s+1)*(s+1)+2*(s+1)+1:=by rw[Nat.add_mul,Nat.mul_add];omega
   omega
end Go.Proofs.YtdkgnmiiibpnnaaGreatDoor
