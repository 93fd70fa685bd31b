/- The reference's rounding: casuistref02. The reference's rounding: Cut, Fit, Mul. Sums and order of numbers, as plain data. The order of numbers, as plain data; what rounding keeps. Rounding keeps the order. dec: size, higher, Neg, at. dec.Add, Sub, Cmp. -/
import Derived.Test.YtdkgnmiiibpnnaaGreatDoorDecs
import Derived.Test.YtdkgnmiiibpnnaaGreatDoorVcZ
namespace Go.Proofs.YtdkgnmiiibpnnaaGreatDoor
open Go.RowKit
set_option linter.unusedVariables false
set_option linter.unusedSimpArgs false
set_option maxRecDepth 100000
structure UpC (L:Nat) (R:Bool) (c:Int):Prop where
 gt:0<c↔5<L∨(L=5∧R=true)
 eq:c=0↔L=5∧R=false
open Go.RowKit
set_option linter.unusedVariables false
set_option linter.unusedSimpArgs false
set_option maxRecDepth 100000
theorem Fd {P:Program} {f:FuncId} {ds:List DV} {t:T4} (h:HasC P f ds (fun y=>y=Xb t)):HasC P f ds (fun y => ∃ g k x ok,y=.tup [Bk g k x,.v (.bool ok)]∧t=(g,k,x,ok)) :=
 h.mono fun y hy=>⟨_,_,_,_,hy,rfl⟩
open Go.RowKit
set_option linter.unusedVariables false
set_option linter.unusedSimpArgs false
set_option maxRecDepth 100000
def Ig (s:Bool) (n:Nat):Int:=if s then -(n:Int) else n
def Dd (x y:Int):Int:=if x<y then -1 else if x=y then 0 else 1
def V (s:Bool) (A:Nat) (e E:Int):Int:=Ig s (A*10 ^ (e-E).toNat)
def Pt (s1:Bool) (A:Nat) (e1:Int) (s2:Bool) (B:Nat) (e2:Int):Int:=Dd (V s1 A e1 (min e1 e2)) (V s2 B e2 (min e1 e2))
def a2m (s1:Bool) (A:Nat) (e1:Int) (s2:Bool) (B:Nat) (e2:Int):Bool×Nat×Int :=
 if s1=s2 then (s1,A*10 ^ (e1-min e1 e2).toNat+B*10 ^ (e2-min e1 e2).toNat,min e1 e2)
 else if B*10 ^ (e2-min e1 e2).toNat≤A*10 ^ (e1-min e1 e2).toNat then (s1,A*10 ^ (e1-min e1 e2).toNat-B*10 ^ (e2-min e1 e2).toNat,min e1 e2)
 else (s2,B*10 ^ (e2-min e1 e2).toNat-A*10 ^ (e1-min e1 e2).toNat,min e1 e2)
noncomputable def Gm (s1:Bool) (A:Nat) (e1:Int) (s2:Bool) (B:Nat) (e2:Int):T4:=Fg 1 (a2m s1 A e1 s2 B e2).1 (a2m s1 A e1 s2 B e2).2.1 (a2m s1 A e1 s2 B e2).2.2 false
theorem Og {n:Nat} (h:n≠0):1≤nd n:=by
 have:=Hl h
 omega
theorem Ro (s:Bool):Ig s 0=0:=by cases s<;>rfl
theorem b3y (m:Int) (s:Bool) (k:Nat):Bg m s 0 false k=0:=by
 rw[Md (N':=0) (k':=0) (more':=false) (by simp) (by cases k<;>simp[Es]) (by cases k<;>simp[Eo]),Yh]
theorem a38 (m:Int) (s:Bool) (e:Int):Fg m s 0 e false=(false,0,max (-6176) (min (e+Dp 0 e) 6111),true):=by
 rw[Fg,b3y,(Jz (by decide) 0).1,(Jz (m:=m) (neg:=s) (by decide) _).2,Mp,if_pos rfl]
theorem a5u (m:Int) (s s':Bool) (e:Int):Fg m s 0 e false=Fg m s' 0 e false:=by rw[a38,a38]
theorem a6x (s1:Bool) (A:Nat) (e1:Int) (s2:Bool) (B:Nat) (e2:Int):Gm s1 A e1 s2 B e2=Gm s2 B e2 s1 A e1:=by
 unfold Gm a2m
 rw[Int.min_comm e2 e1]
 generalize A*10 ^ (e1-min e1 e2).toNat=X
 generalize B*10 ^ (e2-min e1 e2).toNat=Y
 by_cases h:s1=s2
 ·subst h
  rw[if_pos rfl,if_pos rfl,Nat.add_comm]
 ·have h' : ¬ s2=s1:=fun k=>h k.symm
  rw[if_neg h,if_neg h']
  rcases Nat.lt_trichotomy X Y with k | k | k
  ·rw[if_neg (show ¬ Y≤X by omega),if_pos (show X≤Y by omega)]
  ·subst k
   rw[if_pos (Nat.le_refl _),if_pos (Nat.le_refl _),Nat.sub_self]
   exact a5u _ _ _ _
  ·rw[if_pos (show Y≤X by omega),if_neg (show ¬ X≤Y by omega)]
def atN (A:Nat) (e low:Int):Nat:=A*10 ^ (e-low).toNat / 10 ^ (low-e).toNat
def atM (A:Nat) (e low:Int):Bool:=decide (A % 10 ^ (low-e).toNat≠0)
theorem Hs {A:Nat} {e low:Int} (h:low≤e):atN A e low=A*10 ^ (e-low).toNat∧atM A e low=false:=by
 unfold atN atM
 rw[show (low-e).toNat=0 by omega]
 simp[Nat.mod_one]
theorem Qm {A:Nat} {e low:Int} (h:e≤low):atN A e low=A / 10 ^ (low-e).toNat:=by
 unfold atN
 rw[show (e-low).toNat=0 by omega]
 simp
theorem b7i (e low:Int):atN 0 e low=0∧atM 0 e low=false:=by
 unfold atN atM
 simp
structure AddPre (A B:Nat) (e1 e2 low:Int):Prop where
 ha:A<E34
 hb:B<E34
 hi:B=0∨(A≠0∧e2+nd B≤e1+nd A)
 z:A=0→low=min e1 e2
 nz:A≠0→low=max (min e1 e2) (e1+nd A-70)
theorem AddPre.le {A B:Nat} {e1 e2 low:Int} (p:AddPre A B e1 e2 low):low≤e1:=by
 have:=Cj 34 A p.ha
 by_cases h:A=0
 ·have:=p.z h
  omega
 ·have:=p.nz h
  omega
theorem AddPre.fst {A B:Nat} {e1 e2 low:Int} (p:AddPre A B e1 e2 low):atN A e1 low<10 ^ 70∧atM A e1 low=false∧(A≠0→e1-low≤70-nd A):=by
 have hle:=p.le
 have hn:A≠0→e1-low≤70-nd A:=fun h=>by
  have:=p.nz h
  omega
 refine ⟨?_,(Hs hle).2,hn⟩
 rw[(Hs hle).1]
 by_cases h:A=0
 ·rw[h,Nat.zero_mul]
  exact Nat.pow_pos (by decide)
 ·have h1:=Nat.mul_lt_mul_of_pos_right (Eg A) (show 0<10 ^ (e1-low).toNat from Nat.pow_pos (by decide))
  rw[← Nat.pow_add] at h1
  have:=hn h
  have:=Cj 34 A p.ha
  exact Nat.lt_of_lt_of_le h1 (Nat.pow_le_pow_right (by decide) (by omega))
theorem AddPre.snd {A B:Nat} {e1 e2 low:Int} (p:AddPre A B e1 e2 low):atN B e2 low<10 ^ 70∧(B≠0→e2-low≤70-nd B):=by
 have hn:B≠0→e2-low≤70-nd B:=fun h=>by
  have h1:=p.hi.resolve_left h
  have:=p.nz h1.1
  omega
 refine ⟨?_,hn⟩
 by_cases h:B=0
 ·rw[h,(b7i e2 low).1]
  exact Nat.pow_pos (by decide)
 ·rcases Int.le_total low e2 with k | k
  ·rw[(Hs k).1]
   have h1:=Nat.mul_lt_mul_of_pos_right (Eg B) (show 0<10 ^ (e2-low).toNat from Nat.pow_pos (by decide))
   rw[← Nat.pow_add] at h1
   have:=hn h
   have:=Cj 34 B p.hb
   exact Nat.lt_of_lt_of_le h1 (Nat.pow_le_pow_right (by decide) (by omega))
  ·rw[Qm k]
   exact Nat.lt_of_le_of_lt (Nat.div_le_self _ _) (Nat.lt_of_lt_of_le p.hb (by decide))
theorem AddPre.two {A B:Nat} {e1 e2 low:Int} (p:AddPre A B e1 e2 low):(low=min e1 e2∧atM B e2 low=false)∨(A≠0∧e2<low∧min e1 e2=e2∧nd (atN A e1 low)=70):=by
 have hle:=p.le
 by_cases h:A=0
 ·have:=p.z h
  exact .inl ⟨this,(Hs (by omega)).2⟩
 ·have:=p.nz h
  rcases Int.lt_or_le (min e1 e2) (e1+nd A-70) with k | k
  ·refine .inr ⟨h,by omega,by omega,?_⟩
   rw[(Hs hle).1,Yb (Nat.pos_of_ne_zero h)]
   have:=Cj 34 A p.ha
   omega
  ·exact .inl ⟨by omega,(Hs (by omega)).2⟩
theorem a4x {A:Nat} {e1 low e2:Int} (h1:low≤e1) (h2:e2≤low):A*10 ^ (e1-e2).toNat=A*10 ^ (e1-low).toNat*10 ^ (low-e2).toNat:=by
 rw[Nat.mul_assoc,← Nat.pow_add]
 congr 2
 omega
theorem b38 {A B:Nat} {e1 e2 low:Int} (p:AddPre A B e1 e2 low) (s1 s2:Bool) :
  ((s1=s2∨(atN B e2 low=0∧atM B e2 low=false))→Fh 1 s1 (atN A e1 low+atN B e2 low) low (atM B e2 low)=Gm s1 A e1 s2 B e2) ∧
  (s1≠s2→atM B e2 low=false→atN B e2 low≤atN A e1 low→Fh 1 s1 (atN A e1 low-atN B e2 low) low false=Gm s1 A e1 s2 B e2) ∧
  (s1≠s2→atN A e1 low<atN B e2 low→atM B e2 low=false∧Fh 1 s2 (atN B e2 low-atN A e1 low) low false=Gm s1 A e1 s2 B e2) ∧
  (s1≠s2→atM B e2 low=true→1≤atN A e1 low-atN B e2 low∧Fh 1 s1 (atN A e1 low-atN B e2 low-1) low true=Gm s1 A e1 s2 B e2):=by
 have hle:=p.le
 obtain ⟨f1,f2,f3⟩:=p.fst
 obtain ⟨g1,g2⟩:=p.snd
 have nd78 : ∀ n,n<10 ^ 70+10 ^ 70→nd n≤78:=fun n h=>Cj 78 n (Nat.lt_of_lt_of_le h (by decide))
 rcases p.two with ⟨k1,k2⟩ | ⟨k0,k1,k2,k3⟩
 ·have hX:atN A e1 low=A*10 ^ (e1-min e1 e2).toNat:=by rw[(Hs hle).1,k1]
  have hY:atN B e2 low=B*10 ^ (e2-min e1 e2).toNat:=by rw[(Hs (by omega)).1,k1]
  rw[hX] at f1 ⊢
  rw[hY] at g1 ⊢
  rw[k2,k1]
  unfold Gm a2m
  generalize A*10 ^ (e1-min e1 e2).toNat=X at *
  generalize B*10 ^ (e2-min e1 e2).toNat=Y at *
  refine ⟨fun h => ?_,fun h _ hl => ?_,fun h hl=>⟨rfl,?_⟩,fun h hl=>by cases hl⟩
  ·rw[Hk _ _ _ _ (nd78 _ (by omega))]
   by_cases hs:s1=s2
   ·rw[if_pos hs]
   ·obtain ⟨h1,_⟩:=h.resolve_left hs
    rw[if_neg hs,if_pos (by omega),h1,Nat.add_zero,Nat.sub_zero]
  ·rw[if_neg h,if_pos hl,Hk _ _ _ _ (nd78 _ (by omega))]
  ·rw[if_neg h,if_neg (by omega),Hk _ _ _ _ (nd78 _ (by omega))]
 ·obtain ⟨j,hj⟩ : ∃ j,(low-e2).toNat=j:=⟨_,rfl⟩
  have hjl:(j:Int)=low-e2:=by omega
  have hX:A*10 ^ (e1-min e1 e2).toNat=atN A e1 low*10 ^ j:=by rw[k2,a4x hle (by omega),(Hs hle).1,hj]
  have hY:B*10 ^ (e2-min e1 e2).toNat=atN B e2 low*10 ^ j+B % 10 ^ j:=by rw[k2,Qm (by omega),hj,Int.sub_self];simp[Nat.div_add_mod']
  have hM:atM B e2 low=true↔B % 10 ^ j≠0:=by unfold atM;rw[hj];simp
  have hr:B % 10 ^ j<10 ^ j:=Nat.mod_lt _ (Nat.pow_pos (by decide))
  have hp:0<10 ^ j:=Nat.pow_pos (by decide)
  have hYE:atN B e2 low<E34:=by rw[Qm (by omega)];exact Nat.lt_of_le_of_lt (Nat.div_le_self _ _) p.hb
  have hXE:10 ^ 69≤atN A e1 low:=by
   have h0:atN A e1 low≠0:=fun h=>by rw[h,Kd] at k3;omega
   have:=a17 h0
   rw[k3] at this
   exact this
  have h69:E34+E34≤10 ^ 69:=by decide
  have he:low-(j:Int)=min e1 e2:=by omega
  unfold Gm a2m
  rw[hX,hY]
  generalize atN A e1 low=X at *
  generalize atN B e2 low=Y at *
  generalize atM B e2 low=M at *
  generalize B % 10 ^ j=r at *
  have n35 : ∀ n,10 ^ 34≤n→35≤nd n:=fun n h=>a4k h
  have h34:(10:Nat) ^ 34=E34:=by decide
  refine ⟨fun h => ?_,fun h hm hl => ?_,fun h hl => ?_,fun h hm => ?_⟩
  ·rw[Hk _ _ _ _ (nd78 _ (by omega)),← Kn (N:=X+Y) (j:=j) (r:=r) (e:=low) (more':=false) (n35 _ (by omega)) hr (by rw[hM];simp),he]
   by_cases hs:s1=s2
   ·rw[if_pos hs,Nat.add_mul,Nat.add_assoc]
   ·obtain ⟨h1,h2⟩:=h.resolve_left hs
    have hr0:r=0:=Decidable.not_not.1 fun k=>by rw[hM.2 k] at h2;cases h2
    rw[if_neg hs,h1,hr0,Nat.zero_mul,Nat.add_zero,Nat.add_zero,if_pos (Nat.zero_le _),Nat.sub_zero]
  ·have hr0:r=0:=Decidable.not_not.1 fun k=>by rw[hM.2 k] at hm;cases hm
   have hmul:=Nat.mul_le_mul_right (10 ^ j) hl
   rw[Hk _ _ _ _ (nd78 _ (by omega)),← Kn (N:=X-Y) (j:=j) (r:=0) (e:=low) (more':=false) (n35 _ (by omega)) hp (by simp),he,if_neg h,hr0,Nat.add_zero,Nat.add_zero,if_pos hmul,Nat.sub_mul]
  ·omega
  ·have hr0:r≠0:=hM.1 hm
   have hmul:=Nat.mul_le_mul_right (10 ^ j) (show Y+1≤X by omega)
   rw[Nat.add_mul,Nat.one_mul] at hmul
   refine ⟨by omega,?_⟩
   rw[Hk _ _ _ _ (nd78 _ (by omega)),← Kn (N:=X-Y-1) (j:=j) (r:=10 ^ j-r) (e:=low) (more':=false) (n35 _ (by omega)) (by omega) (by simp;omega),he,if_neg h,if_pos (by omega)]
   have e1:(X-Y-1)*10 ^ j+(10 ^ j-r)=X*10 ^ j-(Y*10 ^ j+r):=by
    rw[Nat.sub_mul,Nat.sub_mul,Nat.one_mul]
    omega
   rw[e1]
open Go.RowKit
set_option linter.unusedVariables false
set_option linter.unusedSimpArgs false
set_option maxRecDepth 100000
theorem b20 {x y:Int}:Dd x y<0↔x<y:=by unfold Dd;split<;>(try split)<;>constructor<;>intro<;>omega
theorem Wh {x y:Int}:Dd x y=0↔x=y:=by unfold Dd;split<;>(try split)<;>constructor<;>intro<;>omega
theorem a5s (x y:Int):Dd y x = -Dd x y:=by
 unfold Dd
 by_cases h1:x<y
 ·rw[if_pos h1,if_neg (by omega),if_neg (by omega)];rfl
 ·rw[if_neg h1]
  by_cases h2:x=y
  ·rw[if_pos h2,if_neg (by omega),if_pos h2.symm];rfl
  ·rw[if_neg h2,if_pos (by omega)]
theorem b1q (x y:Int):Dd (-x) (-y) = -Dd x y:=by
 rw[← a5s]
 unfold Dd
 by_cases h1:y<x
 ·rw[if_pos (by omega),if_pos h1]
 ·rw[if_neg (by omega),if_neg h1]
  by_cases h2:x=y
  ·rw[if_pos (by omega),if_pos h2.symm]
  ·rw[if_neg (by omega),if_neg (by omega)]
theorem a8n {x y:Int} {p:Nat} (hp:0<p):Dd (x*(p:Int)) (y*(p:Int))=Dd x y:=by
 have hp':(0:Int)<p:=by omega
 unfold Dd
 by_cases h1:x<y
 ·rw[if_pos (Int.mul_lt_mul_of_pos_right h1 hp'),if_pos h1]
 ·have h3:y*(p:Int)≤x*(p:Int):=Int.mul_le_mul_of_nonneg_right (by omega) (by omega)
  rw[if_neg (by omega),if_neg h1]
  by_cases h2:x=y
  ·rw[if_pos (by rw[h2]),if_pos h2]
  ·have h4:=Int.mul_lt_mul_of_pos_right (show y<x by omega) hp'
   rw[if_neg (by omega),if_neg h2]
theorem a1e (s:Bool) (n p:Nat):Ig s (n*p)=Ig s n*(p:Int):=by
 unfold Ig
 split
 ·rw[Int.natCast_mul,Int.neg_mul]
 ·exact Int.natCast_mul _ _
theorem b5r {s:Bool} {A:Nat} {e E E':Int} (h1:E'≤E) (h2:E≤e):V s A e E'=V s A e E*((10 ^ (E-E').toNat:Nat):Int):=by
 unfold V
 rw[a4x h2 h1,a1e]
theorem V_0 (s:Bool) (e E:Int):V s 0 e E=0:=by
 unfold V
 rw[Nat.zero_mul,Ro]
theorem a9s {s1 s2:Bool} {A B:Nat} {e1 e2 E:Int} (h1:E≤e1) (h2:E≤e2):Pt s1 A e1 s2 B e2=Dd (V s1 A e1 E) (V s2 B e2 E):=by
 rw[Pt,b5r (show E≤min e1 e2 by omega) (by omega),b5r (show E≤min e1 e2 by omega) (by omega)]
 exact (a8n (Nat.pow_pos (by decide))).symm
def Dl (s:Bool) (A:Nat):Int:=if A=0 then 0 else if s=true then -1 else 1
theorem a2b (s:Bool) {A p:Nat} (hA:A≠0) (hp:0<p):if s=true then Ig s (A*p)<0 else 0<Ig s (A*p):=by
 have:=Nat.mul_pos (Nat.pos_of_ne_zero hA) hp
 generalize A*p=X at *
 cases s
 ·show 0<(X:Int)
  omega
 ·show -(X:Int)<0
  omega
theorem a13 {s1 s2:Bool} {A B:Nat} {e1 e2:Int} (h:Dl s1 A≠Dl s2 B∨A=0):Dd (Dl s1 A) (Dl s2 B)=Pt s1 A e1 s2 B e2:=by
 have p1:=a2b s1 (A:=A) (p:=10 ^ (e1-min e1 e2).toNat)
 have p2:=a2b s2 (A:=B) (p:=10 ^ (e2-min e1 e2).toNat)
 have q1:0<10 ^ (e1-min e1 e2).toNat:=Nat.pow_pos (by decide)
 have q2:0<10 ^ (e2-min e1 e2).toNat:=Nat.pow_pos (by decide)
 unfold Pt V
 by_cases hA:A=0
 ·subst hA
  rw[Nat.zero_mul,Ro]
  by_cases hB:B=0
  ·subst hB
   rw[Nat.zero_mul,Ro]
   rfl
  ·have p2:=p2 hB q2
   generalize Ig s2 (B*10 ^ (e2-min e1 e2).toNat)=Y at *
   cases s2<;>simp[Dl,hB,Dd] at p2 ⊢ <;> omega
 ·have p1:=p1 hA q1
  by_cases hB:B=0
  ·subst hB
   rw[Nat.zero_mul,Ro]
   generalize Ig s1 (A*10 ^ (e1-min e1 e2).toNat)=X at *
   cases s1<;>simp[Dl,hA,Dd] at p1 ⊢ <;> omega
  ·have p2:=p2 hB q2
   have h:=h.resolve_right hA
   generalize Ig s1 (A*10 ^ (e1-min e1 e2).toNat)=X at *
   generalize Ig s2 (B*10 ^ (e2-min e1 e2).toNat)=Y at *
   cases s1<;>cases s2<;>simp[Dl,hA,hB,Dd] at h p1 p2 ⊢ <;> omega
theorem a2w (a b:Nat):Ch a b=Dd (a:Int) (b:Int):=by
 unfold Ch Dd
 by_cases h1:a<b
 ·rw[if_pos h1,if_pos (show (a:Int)<(b:Int) by omega)]
 ·rw[if_neg h1,if_neg (show ¬ (a:Int)<(b:Int) by omega)]
  by_cases h2:a=b
  ·rw[if_pos h2,if_pos (show (a:Int)=(b:Int) by omega)]
  ·rw[if_neg h2,if_neg (show ¬ (a:Int)=(b:Int) by omega)]
theorem b07 {s:Bool} {A B:Nat} {e1 e2:Int}:Pt s A e1 s B e2=if s=true then -Ch (A*10 ^ (e1-min e1 e2).toNat) (B*10 ^ (e2-min e1 e2).toNat) else Ch (A*10 ^ (e1-min e1 e2).toNat) (B*10 ^ (e2-min e1 e2).toNat):=by
 unfold Pt V Ig
 rw[a2w]
 cases s
 ·simp
 ·simp[b1q]
theorem a79 {A B:Nat} {e1 e2:Int} (hA:A≠0) (hB:B≠0) (h:e1+nd A≠e2+nd B):Ch (A*10 ^ (e1-min e1 e2).toNat) (B*10 ^ (e2-min e1 e2).toNat)=Dd (e1+nd A) (e2+nd B):=by
 have key : ∀ {A B:Nat} {x y:Nat},A≠0→B≠0→nd A+x<nd B+y→A*10 ^ x<B*10 ^ y:=by
  intro A B x y hA hB h
  have h1:=Nat.mul_lt_mul_of_pos_right (Eg A) (show 0<10 ^ x from Nat.pow_pos (by decide))
  have h2:=Nat.mul_le_mul_right (10 ^ y) (a17 hB)
  rw[← Nat.pow_add] at h1 h2
  have h3:=Og hB
  exact Nat.lt_of_lt_of_le h1 (Nat.le_trans (Nat.pow_le_pow_right (by decide) (by omega)) h2)
 rw[a2w]
 rcases Int.lt_or_lt_of_ne h with k | k
 ·have:=key (x:=(e1-min e1 e2).toNat) (y:=(e2-min e1 e2).toNat) hA hB (by omega)
  unfold Dd
  rw[if_pos (by omega),if_pos k]
 ·have:=key (x:=(e2-min e1 e2).toNat) (y:=(e1-min e1 e2).toNat) hB hA (by omega)
  unfold Dd
  rw[if_neg (by omega),if_neg (by omega),if_neg (by omega),if_neg (by omega)]
open Go.RowKit
set_option linter.unusedVariables false
set_option linter.unusedSimpArgs false
set_option maxRecDepth 100000
open Go.RowKit
set_option linter.unusedVariables false
set_option linter.unusedSimpArgs false
set_option maxRecDepth 100000
theorem Qz {g:Bool} {A:Nat} {e:Int} (hA:A<B128) (h1 : -100000000000000000≤e) (h2:e≤100000000000000000):HasC Tryz.prog 53 [.agg [.v (.bool g),.v (.int .u64 (hiW (A))),.v (.int .u64 (loW (A))),.v (.int .i64 e)]] (fun y=>y=.v (.int .i64 (e+(nd A:Int)))):=by
 refine hO [] Tryz.f53 (fun a w=>Tryz.call53 a w) Tryz.func53 rfl (⟨_,rfl⟩) ?_
 refine Aa rfl (iQ 2 (iE 10 [(1,.p 1 0),(2,Ia 0)] [(1,[Bv g,Hw A,Lw A,Iv e])] ?_))
 refine Aa rfl (iQ 5 (eC 92 [.agg [Uv 0,Uv 0],.agg [Hw A,Lw A]] 8 (Lo hA) ?_))
 have hn:nd A≤39:=Cj _ _ (Nat.lt_trans hA (by decide))
 refine jB .add 3 (.int .i64 e) (.int .i64 ((nd A:Int))) 9 ?_
 intro z9 hz9
 try replace hz9:=hz9.i64 (by omega)
 refine iQ 1 (iE 10 [(2,Ia z9)] [] ?_)
 refine Ab (iR (Iv z9) ?_)
 rw[← hz9]
theorem b2j {g1 g2:Bool} {A B:Nat} {e1 e2:Int} (hA:A<B128) (hB:B<B128) (h1 : -100000000000000000≤e1) (h2:e1≤100000000000000000) (h3 : -100000000000000000≤e2) (h4:e2≤100000000000000000):HasC Tryz.prog 52 [.agg [.v (.bool g1),.v (.int .u64 (hiW (A))),.v (.int .u64 (loW (A))),.v (.int .i64 e1)],.agg [.v (.bool g2),.v (.int .u64 (hiW (B))),.v (.int .u64 (loW (B))),.v (.int .i64 e2)]] (fun y => ∃ b,y=.v (.bool b)∧(b=true↔A≠0∧(B=0∨e2+nd B<e1+nd A))):=by
 refine hO [] Tryz.f52 (fun a w=>Tryz.call52 a w) Tryz.func52 rfl (⟨_,decide (A≠0∧(B=0∨e2+nd B<e1+nd A)),rfl,by simp⟩) ?_
 refine Aa rfl (iQ 3 ?_)
 let Z1:=zH [(2,[Bv g1,Hw A,Lw A,Iv e1]),(3,[Bv g2,Hw B,Lw B,Iv e2])] []
 refine iE 19 [(2,.p 2 0),(3,.p 3 0),(4,Ba false)] Z1 ?_
 refine Aa rfl (iQ 1 (jC 16 [.agg [Bv g1,Hw A,Lw A,Iv e1]] 6 (Du hA) ?_))
 rintro _ ⟨z,rfl,hz⟩
 refine jU .not (.bool z) 7 ?_
 intro c7 hc7
 refine iQ 1 ?_
 cases c7
 ·replace hc7:=bf hc7
  refine iQ 11 (iE 19 [(4,Ba false)] [] ?_)
  refine Ab (iR (Bv false) ?_)
  exact ⟨_,rfl,by have:A=0:=hz.1 (by simpa using hc7);simp[this]⟩
 ·replace hc7:=bt hc7
  refine iQ 1 ?_
  have hA0:A≠0:=fun h=>by rw[hz.2 h] at hc7;cases hc7
  refine jC 16 [.agg [Bv g2,Hw B,Lw B,Iv e2]] 10 (Du hB) ?_
  rintro _ ⟨w,rfl,hw⟩
  refine iQ 1 ?_
  cases w
  ·replace hw:=bf hw
   refine iQ 1 (eC 53 [.agg [Bv g1,Hw A,Lw A,Iv e1]] 13 (Qz hA h1 h2) (iQ 1 (eC 53 [.agg [Bv g2,Hw B,Lw B,Iv e2]] 15 (Qz hB h3 h4) (jB .gtr 3 (.int .i64 (e1+(nd A:Int))) (.int .i64 (e2+(nd B:Int))) 16 ?_))))
   intro c16 hc16
   refine iQ 3 (iE 19 [(4,Ba c16)] [] ?_)
   refine Ab (iR (Bv c16) ?_)
   exact ⟨_,rfl,by rw[hc16];simp[hA0,hw]⟩
  ·replace hw:=bt hw
   refine iQ 8 (iE 19 [(4,Ba true)] [] ?_)
   refine Ab (iR (Bv true) ?_)
   exact ⟨_,rfl,by simp[hA0,hw]⟩
theorem b55 {g:Bool} {A:Nat} {e:Int} (hA:A<B128):HasC Tryz.prog 60 [.agg [.v (.bool g),.v (.int .u64 (hiW (A))),.v (.int .u64 (loW (A))),.v (.int .i64 e)]] (fun y=>y=Bk (!g&&decide (A≠0)) A e):=by
 refine hO [] Tryz.f60 (fun a w=>Tryz.call60 a w) Tryz.func60 rfl (⟨_,rfl⟩) ?_
 refine Aa rfl (iQ 2 ?_)
 let Z1:=zH [(1,[Bv g,Hw A,Lw A,Iv e]),(2,[Bv false,Uv 0,Uv 0,Iv 0])] []
 refine iE 13 [(1,.p 1 0),(2,.p 2 0)] Z1 ?_
 refine Aa rfl (iQ 2 (jU .not (.bool g) 5 ?_))
 intro c5 hc5
 refine iQ 1 ?_
 cases c5
 ·replace hc5:=bf hc5
  refine iQ 6 ?_
  let Z2:=zH [(1,[Bv false,Hw A,Lw A,Iv e]),(2,[Bv false,Uv 0,Uv 0,Iv 0])] []
  refine iE 13 [(1,.p 1 0),(2,.p 2 0)] Z2 ?_
  refine Aa rfl (iQ 2 ?_)
  let Z3:=zH [(1,[Bv false,Hw A,Lw A,Iv e]),(2,[Bv false,Hw A,Lw A,Iv e])] []
  refine iE 13 [(1,.p 1 0),(2,.p 2 0)] Z3 ?_
  refine Ab (iR (.agg [Bv false,Hw A,Lw A,Iv e]) ?_)
  have hg:g=true:=by simpa using hc5
  rw[hg];rfl
 ·replace hc5:=bt hc5
  refine iQ 1 (jC 16 [.agg [Bv g,Hw A,Lw A,Iv e]] 8 (Du hA) ?_)
  rintro _ ⟨z,rfl,hz⟩
  refine jU .not (.bool z) 9 ?_
  intro c9 hc9
  refine iQ 3 ?_
  let Z4:=zH [(1,[Bv c9,Hw A,Lw A,Iv e]),(2,[Bv false,Uv 0,Uv 0,Iv 0])] []
  refine iE 13 [(1,.p 1 0),(2,.p 2 0)] Z4 ?_
  refine Aa rfl (iQ 2 ?_)
  let Z5:=zH [(1,[Bv c9,Hw A,Lw A,Iv e]),(2,[Bv c9,Hw A,Lw A,Iv e])] []
  refine iE 13 [(1,.p 1 0),(2,.p 2 0)] Z5 ?_
  refine Ab (iR (.agg [Bv c9,Hw A,Lw A,Iv e]) ?_)
  have hc:(!g&&decide (A≠0))=c9:=by rw[hc5,Bool.eq_iff_iff,hc9];cases z<;>simp_all
  rw[hc];rfl
theorem b0i {A h l j l':Nat} {e low c:Int} {mo:Bool} (h0:A*10 ^ (e-low).toNat=h*B128+l) (hl:l<B128) (hj:j≤(low-e).toNat) (hc:c=low-e-j) (h1:l'=l / 10 ^ j) (h2:mo=true↔l % 10 ^ j≠0) (h3:e<low→h=0) (hs:c≤0∨l'=0∧0<c) :
  atN A e low / B128=h∧atN A e low % B128=l'∧atM A e low=mo:=by
 rcases Int.le_total low e with k | k
 ·have hJ:(low-e).toNat=0:=by omega
  have hj0:j=0:=by omega
  subst hj0
  obtain ⟨u1,u2⟩:=Hs (A:=A) k
  rw[u1,u2,h0]
  refine ⟨(Fe hl).1,by rw[(Fe hl).2,h1];simp,?_⟩
  have : ¬ mo=true:=by rw[h2];simp[Nat.mod_one]
  cases mo<;>simp_all
 ·rw[Qm k]
  by_cases hk:e=low
  ·subst hk
   have hj0:j=0:=by omega
   subst hj0
   rw[Int.sub_self] at h0 ⊢
   obtain ⟨u1,u2⟩:=Hs (A:=A) (Int.le_refl e)
   rw[u2]
   simp at h0 ⊢
   rw[h0]
   refine ⟨(Fe hl).1,by rw[(Fe hl).2,h1];simp,?_⟩
   have : ¬ mo=true:=by rw[h2];simp[Nat.mod_one]
   cases mo<;>simp_all
  ·have hh:=h3 (by omega)
   subst hh
   rw[show (e-low).toNat=0 by omega] at h0
   have hAl:A=l:=by omega
   obtain ⟨J,hJ⟩ : ∃ J,(low-e).toNat=J:=⟨_,rfl⟩
   unfold atM
   rw[hJ,hAl]
   rw[hJ] at hj
   have key:l / 10 ^ J=l'∧(l % 10 ^ J≠0↔l % 10 ^ j≠0):=by
    rcases hs with hs | ⟨hs,_⟩
    ·have:j=J:=by omega
     rw[this] at h1 h2 ⊢
     exact ⟨h1.symm,Iff.rfl⟩
    ·have hlt:l<10 ^ j:=by
      rcases Nat.lt_or_ge l (10 ^ j) with h | h
      ·exact h
      ·have:=Nat.div_pos h (Nat.pow_pos (by decide))
       omega
     have hlt2:=Nat.lt_of_lt_of_le hlt (Nat.pow_le_pow_right (show 0<10 by decide) hj)
     rw[Nat.div_eq_of_lt hlt2,Nat.mod_eq_of_lt hlt,Nat.mod_eq_of_lt hlt2]
     exact ⟨hs.symm,Iff.rfl⟩
   refine ⟨?_,?_,?_⟩
   ·exact Nat.div_eq_of_lt (Nat.lt_of_le_of_lt (Nat.div_le_self _ _) hl)
   ·rw[Nat.mod_eq_of_lt (Nat.lt_of_le_of_lt (Nat.div_le_self _ _) hl),key.1]
   ·rw[Bool.eq_iff_iff,h2,decide_eq_true_iff]
    exact key.2
theorem Vh {l j:Nat} {mo mo':Bool} (h:mo=true↔l % 10 ^ j≠0) (hm:mo'=true↔mo=true∨l / 10 ^ j % 10≠0):mo'=true↔l % 10 ^ (j+1)≠0:=by
 rw[hm,h,Mm]
theorem a6g {l j x:Nat} {c:Bool} (h:false=true↔l % 10 ^ j≠0) (hc:c=true↔((x:Nat):Int)≠0) (hx:x=l / 10 ^ j % 10):c=true↔l % 10 ^ (j+1)≠0:=by
 refine Vh h ?_
 rw[hc,← hx]
 constructor
 ·intro k
  exact .inr (by omega)
 ·rintro (k | k)
  ·cases k
  ·omega
set_option maxHeartbeats 1600000 in
theorem b95 {s:Bool} {A:Nat} {e low:Int} (hA:A<E34) (hr:A≠0→e-low≤70∧A*10 ^ (e-low).toNat<B128*B128) (h1 : -100000000000000000≤e) (h2:e≤100000000000000000) (h3 : -100000000000000000≤low) (h4:low≤100000000000000000):HasC Tryz.prog 54 [.agg [.v (.bool s),.v (.int .u64 (hiW (A))),.v (.int .u64 (loW (A))),.v (.int .i64 e)],.v (.int .i64 low)] (fun y=>y=Lh s (atN A e low / B128) (atN A e low % B128) low (atM A e low)):=by
 refine hO [] Tryz.f54 (fun a w=>Tryz.call54 a w) Tryz.func54 rfl (⟨_,rfl⟩) ?_
 have hAB:=Nat.lt_trans hA Br
 refine Aa rfl (iQ 2 ?_)
 let Z1:=zH [(4,[Bv false,Uv 0,Uv 0,Uv 0,Uv 0,Iv 0,Bv false])] []
 refine iE 87 [(1,Ia low),(2,.p 2 0),(4,.p 4 0)] (zH [(2,[Bv s,Hw A,Lw A,Iv e])] Z1) ?_
 refine Aa rfl (iQ 8 ?_)
 let Z2:=zT [(1,Ia low),(2,.p 2 0),(4,.p 4 0),(5,.p 5 0)] []
 let Z3:=zH [(5,[Bv s,Uv 0,Uv 0,Hw A,Lw A,Iv low,Bv false])] []
 refine iE 87 Z2 (zH [(2,[Bv s,Hw A,Lw A,Iv e])] (zH Z3 Z1)) ?_
 refine Ae (Aa rfl (iQ 1 (jC 16 [.agg [Bv s,Hw A,Lw A,Iv e]] 22 (Du hAB) ?_)))
 rintro _ ⟨z,rfl,hz⟩
 refine iE 87 (zT [(22,Ba z)] Z2) (zH [(2,[Bv s,Hw A,Lw A,Iv e])] (zH Z1 Z3)) ?_
 cases z
 ·replace hz:=bf hz
  obtain ⟨r1,r2⟩:=hr hz
  refine iF (Ad (Af (Ae (Aa rfl (iQ 3 (jB .sub 3 (.int .i64 e) (.int .i64 low) 27 ?_))))))
  intro z27 hz27
  try replace hz27:=hz27.i64 (by omega)
  refine jL .min [3,3] [.int .i64 z27,.int .i64 70] 28 ?_
  intro z28 hz28
  simp only at hz28
  refine iQ 1 (iE 87 (zT [(22,Ba false),(28,Ia z28),(29,Ia 0)] Z2) (zH [(2,[Bv s,Hw A,Lw A,Iv e])] (zH Z1 Z3)) ?_)
  refine Ak (Bq 87 (fun (vcx:Nat×Nat×Nat×Int)=>match vcx with | (i,h,l,c)=>[(1,Ia low),(2,.p 2 0),(4,.p 4 0),(5,.p 5 0),(22,Ba false),(28,Ia z28),(29,Ia c)]) (fun (vcx:Nat×Nat×Nat×Int)=>match vcx with | (i,h,l,c)=>[(2,[Bv s,Hw A,Lw A,Iv e]),(4,[Bv false,Uv 0,Uv 0,Uv 0,Uv 0,Iv 0,Bv false]),(5,[Bv s,Hw h,Lw h,Hw l,Lw l,Iv low,Bv false])]) (fun (vcx:Nat×Nat×Nat×Int)=>match vcx with | (i,h,l,c)=>A*10 ^ i=h*B128+l∧h<B128∧l<B128∧c=(i:Int)∧(i:Int)≤max 0 (e-low)) (fun (vcx:Nat×Nat×Nat×Int)=>match vcx with | (i,h,l,c)=>(e-low).toNat-i) ((0,0,A,0)) (⟨by simp,by decide,hAB,by simp,by omega⟩) (by kernel_rfl) (by kernel_rfl) ?_)
  rintro ⟨i,h,l,c⟩ hinv
  simp only at hinv
  obtain ⟨i1,i2,i3,i4,i5⟩:=hinv
  refine Aa rfl (jB .lss 3 (.int .i64 c) (.int .i64 z28) 30 ?_)
  intro c30 hc30
  let Z4:=zT [(22,Ba false),(28,Ia z28),(29,Ia c),(30,Ba c30)] []
  let Z5:=zH [(5,[Bv s,Hw h,Lw h,Hw l,Lw l,Iv low,Bv false])] []
  refine iE 87 (zT Z4 Z2) (zH [(2,[Bv s,Hw A,Lw A,Iv e])] (zH Z5 Z1)) ?_
  refine Ae ?_
  cases c30
  ·replace hc30:=bf hc30
   have hi:i=(e-low).toNat:=by omega
   rw[hi] at i1
   have hh0:e<low→h=0:=fun k=>by rw[show (e-low).toNat=0 by omega] at i1;simp at i1;rcases Nat.eq_zero_or_pos h with h0 | h0;exact h0;have:=Nat.mul_le_mul_right B128 h0;omega
   refine iF (Be (Ce (Bj (Bd rfl (Af (Ae (Aa rfl (iQ 3 (jB .sub 3 (.int .i64 low) (.int .i64 e) 57 ?_)))))))))
   intro z57 hz57
   try replace hz57:=hz57.i64 (by omega)
   refine iQ 1 ?_
   let Z6:=zT [(10,Ia z57),(22,Ba false),(28,Ia z28),(29,Ia c),(30,Ba false)] []
   refine iE 87 (zT Z6 Z2) (zH [(2,[Bv s,Hw A,Lw A,Iv e])] (zH Z1 Z5)) ?_
   refine Ak (Bq 87 (fun (vcx:Nat×Nat×Int×Bool)=>match vcx with | (j,l',c',mo)=>[(1,Ia low),(2,.p 2 0),(4,.p 4 0),(5,.p 5 0),(10,Ia c'),(22,Ba false),(28,Ia z28),(29,Ia c),(30,Ba false)]) (fun (vcx:Nat×Nat×Int×Bool)=>match vcx with | (j,l',c',mo)=>[(2,[Bv s,Hw A,Lw A,Iv e]),(4,[Bv false,Uv 0,Uv 0,Uv 0,Uv 0,Iv 0,Bv false]),(5,[Bv s,Hw h,Lw h,Hw l',Lw l',Iv low,Bv mo])]) (fun (vcx:Nat×Nat×Int×Bool)=>match vcx with | (j,l',c',mo)=>j≤(low-e).toNat∧c'=low-e-(j:Int)∧l'=l / 10 ^ j∧(mo=true↔l % 10 ^ j≠0)∧l'<B128) (fun (vcx:Nat×Nat×Int×Bool)=>match vcx with | (j,l',c',mo)=>(low-e).toNat-j) ((0,l,z57,false)) (⟨Nat.zero_le _,by omega,by simp,by simp[Nat.mod_one],i3⟩) (by kernel_rfl) (by kernel_rfl) ?_)
   rintro ⟨j,l',c',mo⟩ hinv
   simp only at hinv
   obtain ⟨j1,j2,j3,j4,j5⟩:=hinv
   refine Ae (Aa rfl (iQ 1 (jB .gtr 3 (.int .i64 c') (.int .i64 0) 59 ?_)))
   intro c59 hc59
   refine iQ 1 ?_
   cases c59
   ·replace hc59:=bf hc59
    refine iQ 5 ?_
    let Z7:=zT [(10,Ia c'),(22,Ba false),(28,Ia z28),(29,Ia c),(30,Ba false),(65,Ba false)] []
    let Z8:=zH [(5,[Bv s,Hw h,Lw h,Hw l',Lw l',Iv low,Bv mo])] []
    refine iE 87 (zT Z7 Z2) (zH [(2,[Bv s,Hw A,Lw A,Iv e])] (zH Z8 Z1)) ?_
    have hf:=b0i i1 i3 j1 j2 j3 j4 hh0 (.inl (by omega))
    refine iF (Be (Ce (Bj (Bd rfl (Af (Aa rfl (iQ 2 ?_)))))))
    let Z9:=zH [(4,[Bv s,Hw h,Lw h,Hw l',Lw l',Iv low,Bv mo])] []
    refine iE 87 (zT Z7 Z2) (zH [(2,[Bv s,Hw A,Lw A,Iv e])] (zH Z9 Z8)) ?_
    refine Ab (iR (.agg [Bv s,Hw h,Lw h,Hw l',Lw l',Iv low,Bv mo]) ?_)
    rw[hf.1,hf.2.1,hf.2.2];rfl
   ·replace hc59:=bt hc59
    refine iQ 2 (jC 47 [.agg [Hw l',Lw l']] 63 (Ea j5) ?_)
    rintro _ ⟨zz,rfl,hzz⟩
    refine jU .not (.bool zz) 64 ?_
    intro c64 hc64
    refine iQ 1 ?_
    let Z10:=zT [(10,Ia c'),(22,Ba false),(28,Ia z28),(29,Ia c),(30,Ba false),(65,Ba c64)] []
    let Z11:=zH [(5,[Bv s,Hw h,Lw h,Hw l',Lw l',Iv low,Bv mo])] []
    refine iE 87 (zT Z10 Z2) (zH [(2,[Bv s,Hw A,Lw A,Iv e])] (zH Z11 Z1)) ?_
    cases c64
    ·replace hc64:=bf hc64
     have hl0:l'=0:=hzz.1 (by simpa using hc64)
     have hf:=b0i i1 i3 j1 j2 j3 j4 hh0 (.inr ⟨hl0,hc59⟩)
     refine iF (Be (Ce (Bj (Bd rfl (Af (Aa rfl (iQ 2 ?_)))))))
     let Z12:=zT [(10,Ia c'),(22,Ba false),(28,Ia z28),(29,Ia c),(30,Ba false),(65,Ba false)] []
     let Z13:=zH [(4,[Bv s,Hw h,Lw h,Hw l',Lw l',Iv low,Bv mo])] []
     refine iE 87 (zT Z12 Z2) (zH [(2,[Bv s,Hw A,Lw A,Iv e])] (zH Z13 Z11)) ?_
     refine Ab (iR (.agg [Bv s,Hw h,Lw h,Hw l',Lw l',Iv low,Bv mo]) ?_)
     rw[hf.1,hf.2.1,hf.2.2];rfl
    ·replace hc64:=bt hc64
     refine iT (Ad (Af (Ae (Ak (Aa rfl (iQ 3 (eC 64 [.agg [Uv 0,Uv 0],.agg [Hw l',Lw l'],Uv 10] 72 (Ga j5) ?_)))))))
     have hd:l' / 10=l / 10 ^ (j+1):=by rw[j3,Nat.div_div_eq_div_mul,← Nat.pow_succ]
     have hlB:l' / 10<B128:=Nat.lt_of_le_of_lt (Nat.div_le_self _ _) j5
     refine iQ 11 ?_
     let Z14:=zT [(10,Ia c'),(12,.p 12 0),(13,.d (Uv (((l' % 10:Nat):Int)))),(22,Ba false),(28,Ia z28),(29,Ia c),(30,Ba false),(65,Ba true)] []
     let Z15:=zH [(2,[Bv s,Hw A,Lw A,Iv e]),(12,[Hw (l' / 10),Lw (l' / 10)])] []
     let Z16:=zH Z15 (zH Z1 Z11)
     refine iE 87 (zT Z14 Z2) Z16 ?_
     refine Am rfl (iQ 4 ?_)
     cases mo
     ·refine iQ 1 (jB .neq 22 (.int .u64 (((l' % 10:Nat):Int))) (.int .u64 0) 82 ?_)
      intro c82 hc82
      refine iQ 5 ?_
      let Z17:=zH [(5,[Bv s,Hw h,Lw h,Hw (l' / 10),Lw (l' / 10),Iv low,Bv c82])] []
      let Z18:=zH Z17 (zH Z15 Z1)
      refine iE 87 (zT Z14 Z2) Z18 ?_
      refine Ap (Af (Am rfl (iQ 1 (jB .sub 3 (.int .i64 c') (.int .i64 1) 67 ?_))))
      intro z67 hz67
      try replace hz67:=hz67.i64 (by omega)
      refine iQ 1 ?_
      let Z19:=zT [(10,Ia z67),(12,.p 12 0),(13,.d (Uv (((l' % 10:Nat):Int)))),(22,Ba false),(28,Ia z28),(29,Ia c),(30,Ba false),(65,Ba true)] []
      refine iE 87 (zT Z19 Z2) Z18 ?_
      refine Bm (j+1,l' / 10,z67,c82) (⟨by omega,by omega,hd,a6g j4 hc82 (by rw[j3]),hlB⟩) (by show (low-e).toNat-(j+1)<(low-e).toNat-j;omega) (by kernel_rfl) (by kernel_rfl)
     ·refine iQ 7 ?_
      let Z20:=zH [(5,[Bv s,Hw h,Lw h,Hw (l' / 10),Lw (l' / 10),Iv low,Bv true])] []
      let Z21:=zH Z20 (zH Z15 Z1)
      refine iE 87 (zT Z14 Z2) Z21 ?_
      refine Ap (Af (Am rfl (iQ 1 (jB .sub 3 (.int .i64 c') (.int .i64 1) 67 ?_))))
      intro z67 hz67
      try replace hz67:=hz67.i64 (by omega)
      refine iQ 1 ?_
      let Z22:=zT [(10,Ia z67),(12,.p 12 0),(13,.d (Uv (((l' % 10:Nat):Int)))),(22,Ba false),(28,Ia z28),(29,Ia c),(30,Ba false),(65,Ba true)] []
      refine iE 87 (zT Z22 Z2) Z21 ?_
      refine Bm (j+1,l' / 10,z67,true) (⟨by omega,by omega,hd,Vh j4 (by simp),hlB⟩) (by show (low-e).toNat-(j+1)<(low-e).toNat-j;omega) (by kernel_rfl) (by kernel_rfl)
  ·replace hc30:=bt hc30
   have hjn:A*10 ^ i*10<B128*B128:=by rw[Nat.mul_assoc,← Nat.pow_succ];exact Nat.lt_of_le_of_lt (Nat.mul_le_mul_left _ (Nat.pow_le_pow_right (by decide) (by omega))) r2
   obtain ⟨q1,q2⟩:=Sl i1 i2 i3 hjn
   refine iT (Ad (Af (Ae (Ak (Aa rfl (iQ 2 (eC 86 [.agg [Hw l,Lw l],Uv 10] 34 (Dt (n:=10) i3 (by decide)) (iQ 6 ?_))))))))
   let Z23:=zT [(6,.d (Uv (((l*10 / B128:Nat):Int)))),(7,.p 7 0),(22,Ba false),(28,Ia z28),(29,Ia c),(30,Ba true)] []
   let Z24:=zH [(2,[Bv s,Hw A,Lw A,Iv e]),(7,[Hw (l*10 % B128),Lw (l*10 % B128)])] []
   let Z25:=zH Z24 (zH Z1 Z5)
   refine iE 87 (zT Z23 Z2) Z25 ?_
   refine Aa rfl (iQ 2 (eC 86 [.agg [Hw h,Lw h],Uv 10] 40 (Dt (n:=10) i2 (by decide)) (iQ 6 ?_)))
   let Z26:=zH [(9,[Hw (h*10 % B128),Lw (h*10 % B128)])] []
   refine iE 87 (zT [(9,.p 9 0)] (zT Z23 Z2)) (zH Z26 Z25) ?_
   refine Aa rfl (iQ 2 (eC 59 [Uv (((l*10 / B128:Nat):Int))] 46 (We q2) (eC 93 [.agg [Hw (h*10 % B128),Lw (h*10 % B128)],.agg [Hw (l*10 / B128),Lw (l*10 / B128)]] 47 (a2t (Az (h*10)) (Nat.lt_trans q2 (by decide))) (iQ 5 ?_))))
   let Z27:=zH [(5,[Bv s,Hw ((h*10 % B128+l*10 / B128) % B128),Lw ((h*10 % B128+l*10 / B128) % B128),Hw l,Lw l,Iv low,Bv false])] []
   let Z28:=zH Z27 (zH Z24 (zH Z1 Z26))
   refine iE 87 (zT [(9,.p 9 0)] (zT Z23 Z2)) Z28 ?_
   refine Am rfl (iQ 3 ?_)
   let Z29:=zH [(5,[Bv s,Hw ((h*10 % B128+l*10 / B128) % B128),Lw ((h*10 % B128+l*10 / B128) % B128),Hw (l*10 % B128),Lw (l*10 % B128),Iv low,Bv false])] []
   let Z30:=zH Z29 (zH Z24 (zH Z1 Z26))
   refine iE 87 (zT [(9,.p 9 0)] (zT Z23 Z2)) Z30 ?_
   refine Ap (Af (Am rfl (jB .add 3 (.int .i64 c) (.int .i64 1) 53 ?_)))
   intro z53 hz53
   try replace hz53:=hz53.i64 (by omega)
   refine iQ 1 ?_
   let Z31:=zT [(6,.d (Uv (((l*10 / B128:Nat):Int)))),(7,.p 7 0),(9,.p 9 0),(22,Ba false),(28,Ia z28),(29,Ia z53),(30,Ba true)] []
   refine iE 87 (zT Z31 Z2) Z30 ?_
   refine Bm (i+1,(h*10 % B128+l*10 / B128) % B128,l*10 % B128,z53) (⟨by rw[q1,Nat.pow_succ,Nat.mul_assoc],Az _,Az _,by omega,by omega⟩) (by show (e-low).toNat-(i+1)<(e-low).toNat-i;omega) (by kernel_rfl) (by kernel_rfl)
 ·replace hz:=bt hz
  refine iT (Aa rfl (iQ 2 ?_))
  let Z32:=zH [(4,[Bv s,Uv 0,Uv 0,Hw A,Lw A,Iv low,Bv false])] []
  refine iE 87 (zT [(22,Ba true)] Z2) (zH [(2,[Bv s,Hw A,Lw A,Iv e])] (zH Z32 Z3)) ?_
  refine Ab (Ag (iR (.agg [Bv s,Uv 0,Uv 0,Hw A,Lw A,Iv low,Bv false]) ?_))
  rw[hz,(b7i e low).1,(b7i e low).2];rfl
open Go.RowKit
set_option linter.unusedVariables false
set_option linter.unusedSimpArgs false
set_option maxRecDepth 100000
theorem AddPre.low {A B:Nat} {e1 e2 low:Int} (p:AddPre A B e1 e2 low) (h1 : -10000000000000000≤e1) (h2 : -10000000000000000≤e2) : -10000000000000100≤low:=by
 by_cases h:A=0
 ·have:=p.z h
  omega
 ·have:=p.nz h
  omega
theorem b5y {s M:Bool} {A X:Nat} {e low:Int} (hX:atN A e low=X) (hM:atM A e low=M) (hA:A<E34) (hr:A≠0→e-low≤70∧A*10 ^ (e-low).toNat<B128*B128) (h1 : -100000000000000000≤e) (h2:e≤100000000000000000) (h3 : -100000000000000000≤low) (h4:low≤100000000000000000) :
  HasC Tryz.prog 54 [Bk s A e,.v (.int .i64 low)] (fun y=>y=Lh s (X / B128) (X % B128) low M):=by
 subst hX hM
 exact b95 hA hr h1 h2 h3 h4
theorem a4h {X Y:Nat} (hX:X<10 ^ 70) (hY:Y<10 ^ 70):HasC Tryz.prog 55 [dU (X / B128),dU (X % B128),dU (Y / B128),dU (Y % B128)] (fun y=>y=.tup [dU ((X+Y) / B128),dU ((X+Y) % B128),.v (.int .u64 0)]):=by
 have e:=a4p (a:=X / B128) (c:=X % B128) (b:=Y / B128) (d:=Y % B128) (Nat.div_lt_of_lt_mul (Nat.lt_trans hX (by decide))) (Az _) (Nat.div_lt_of_lt_mul (Nat.lt_trans hY (by decide))) (Az _)
 have hs:X+Y<B128*B128:=Nat.lt_of_lt_of_le (Nat.add_lt_add hX hY) (by decide)
 rw[Nat.div_add_mod',Nat.div_add_mod',Nat.mod_eq_of_lt (Nat.div_lt_of_lt_mul hs),Nat.div_eq_of_lt hs] at e
 exact e
theorem Pv {X Y:Nat} (hX:X<10 ^ 70) (hY:Y<10 ^ 70):HasC Tryz.prog 57 [dU (X / B128),dU (X % B128),dU (Y / B128),dU (Y % B128)] (fun y=>y=.v (.int .i64 (Ch X Y))):=by
 have e:=b3l (a:=X / B128) (c:=X % B128) (b:=Y / B128) (d:=Y % B128) (Nat.div_lt_of_lt_mul (Nat.lt_trans hX (by decide))) (Az _) (Nat.div_lt_of_lt_mul (Nat.lt_trans hY (by decide))) (Az _)
 rw[Nat.div_add_mod',Nat.div_add_mod'] at e
 exact e
theorem Pw {X Y:Nat} (hX:X<10 ^ 70) (hY:Y≤X):HasC Tryz.prog 58 [dU (X / B128),dU (X % B128),dU (Y / B128),dU (Y % B128)] (fun y=>y=.tup [dU ((X-Y) / B128),dU ((X-Y) % B128),.v (.int .u64 0)]):=by
 have hXB:X<B128*B128:=Nat.lt_trans hX (by decide)
 have e:=b2q (a:=X / B128) (c:=X % B128) (b:=Y / B128) (d:=Y % B128) (Nat.div_lt_of_lt_mul hXB) (Az _) (Nat.div_lt_of_lt_mul (Nat.lt_of_le_of_lt hY hXB)) (Az _)
 have hs:X-Y<B128*B128:=Nat.lt_of_le_of_lt (Nat.sub_le _ _) hXB
 have e1:(X+B128*B128-Y) / B128 % B128=(X-Y) / B128∧(X+B128*B128-Y) % B128=(X-Y) % B128:=by
  have e2:X+B128*B128-Y=(X-Y)+B128*B128:=by omega
  rw[e2]
  refine ⟨?_,Nat.add_mul_mod_self_right _ _ _⟩
  rw[Nat.add_mul_div_right _ _ (by decide),Nat.add_mod_right,Nat.mod_eq_of_lt (Nat.div_lt_of_lt_mul hs)]
 have e3:Ft X Y=0:=by unfold Ft;rw[if_neg (by omega)]
 rw[Nat.div_add_mod',Nat.div_add_mod',e1.1,e1.2,e3] at e
 exact e
theorem Wu {X:Nat} (hX:X<10 ^ 70) (h1:1≤X):HasC Tryz.prog 58 [dU (X / B128),dU (X % B128),.agg [.v (.int .u64 0),.v (.int .u64 0)],.agg [.v (.int .u64 0),.v (.int .u64 1)]] (fun y=>y=.tup [dU ((X-1) / B128),dU ((X-1) % B128),.v (.int .u64 0)]):=by
 have e:=Pw hX h1
 rw[show 1 / B128=0 by decide,show 1 % B128=1 by decide] at e
 rw[← a0y,← b53]
 exact e
theorem a5d {g1 g2:Bool} {A B:Nat} {e1 e2:Int} (hA:A<B128) (hB:B<B128) (h1 : -100000000000000000≤e1) (h2:e1≤100000000000000000) (h3 : -100000000000000000≤e2) (h4:e2≤100000000000000000) :
  HasC Tryz.prog 52 [Bk g1 A e1,Bk g2 B e2] (fun y => ∃ b,y=.v (.bool b)∧(b=true↔A≠0∧(B=0∨e2+nd B<e1+nd A))):=b2j hA hB h1 h2 h3 h4
theorem b32 {b:Nat} {x low:Int} (hb:b<E34) (h:atN b x low<10 ^ 70):b*10 ^ (x-low).toNat<B128*B128:=by
 rcases Int.le_total low x with k | k
 ·rw[← (Hs k).1]
  exact Nat.lt_trans h (by decide)
 ·rw[show (x-low).toNat=0 by omega,Nat.pow_zero,Nat.mul_one]
  exact Nat.lt_trans hb (by decide)
theorem c02 {A B:Nat} {e1 e2:Int} (h : ¬ (B≠0∧(A=0∨e1+nd A<e2+nd B))):B=0∨(A≠0∧e2+nd B≤e1+nd A):=by
 by_cases hB:B=0
 ·exact .inl hB
 ·exact .inr ⟨fun k=>h ⟨hB,.inl k⟩,Int.not_lt.1 fun k=>h ⟨hB,.inr k⟩⟩
theorem b7s {A B:Nat} {e1 e2:Int} (h:B≠0∧(A=0∨e1+nd A<e2+nd B)):A=0∨(B≠0∧e1+nd A≤e2+nd B):=by
 rcases h.2 with k | k
 ·exact .inl k
 ·exact .inr ⟨h.1,by omega⟩
set_option maxHeartbeats 3200000 in
theorem Zg {s1 s2:Bool} {A B:Nat} {e1 e2:Int} (hA:A<E34) (hB:B<E34) (h1 : -10000000000000000≤e1) (h2:e1≤10000000000000000) (h3 : -10000000000000000≤e2) (h4:e2≤10000000000000000):HasC Tryz.prog 11 [.agg [.v (.bool s1),.v (.int .u64 (hiW (A))),.v (.int .u64 (loW (A))),.v (.int .i64 e1)],.agg [.v (.bool s2),.v (.int .u64 (hiW (B))),.v (.int .u64 (loW (B))),.v (.int .i64 e2)]] (fun y=>y=Xb (Gm s1 A e1 s2 B e2)):=by
 refine hO [] Tryz.f11 (fun a w=>Tryz.call11 a w) Tryz.func11 rfl (⟨_,rfl⟩) ?_
 have hAB:=Nat.lt_trans hA Br;have hBB:=Nat.lt_trans hB Br
 refine Aa rfl (iQ 4 ?_)
 let Z1:=zT [(2,.p 2 0),(3,.p 3 0),(4,.p 4 0),(5,Ba false)] []
 let Z2:=zH [(2,[Bv s1,Hw A,Lw A,Iv e1]),(3,[Bv s2,Hw B,Lw B,Iv e2]),(4,[Bv false,Uv 0,Uv 0,Iv 0])] []
 refine iE 122 Z1 Z2 ?_
 refine Ef 122 (fun (vcx:Bool×Bool×Nat×Nat×Int×Int×Bool)=>match vcx with | (t1,t2,a,b,x1,x2,vb11)=>[(2,.p 2 0),(3,.p 3 0),(4,.p 4 0),(5,Ba false),(11,Ba vb11)]) (fun (vcx:Bool×Bool×Nat×Nat×Int×Int×Bool)=>match vcx with | (t1,t2,a,b,x1,x2,vb11)=>[(2,[Bv t1,Hw a,Lw a,Iv x1]),(3,[Bv t2,Hw b,Lw b,Iv x2]),(4,[Bv false,Uv 0,Uv 0,Iv 0])]) (fun (vcx:Bool×Bool×Nat×Nat×Int×Int×Bool)=>match vcx with | (t1,t2,a,b,x1,x2,vb11)=>a<E34∧b<E34∧(b=0∨(a≠0∧x2+nd b≤x1+nd a))∧(-10000000000000000≤x1∧x1≤10000000000000000 ∧ -10000000000000000≤x2∧x2≤10000000000000000)∧Gm s1 A e1 s2 B e2=Gm t1 a x1 t2 b x2) ?_ ?_
 ·rintro ⟨t1,t2,a,b,x1,x2,vb11⟩ hinv
  simp only at hinv
  obtain ⟨ha,hb,hhi,⟨b1,b2,b3,b4⟩,hadd⟩:=hinv
  rw[hadd]
  have haB:=Nat.lt_trans ha Br;have hbB:=Nat.lt_trans hb Br
  have hna:=Cj 34 a ha;have hnb:=Cj 34 b hb
  refine Aa rfl (iQ 4 (jL .min [3,3] [.int .i64 x1,.int .i64 x2] 18 ?_))
  intro z18 hz18
  simp only at hz18
  refine iQ 1 ?_
  let Z3:=zH [(2,[Bv t1,Hw a,Lw a,Iv x1]),(3,[Bv t2,Hw b,Lw b,Iv x2]),(4,[Bv false,Uv 0,Uv 0,Iv 0])] []
  refine iE 122 (zT [(6,Ia z18),(11,Ba vb11)] Z1) Z3 ?_
  refine Ef 122 (fun (vcx:Int×Bool)=>match vcx with | (low,vb21)=>[(2,.p 2 0),(3,.p 3 0),(4,.p 4 0),(5,Ba false),(6,Ia low),(11,Ba vb11),(21,Ba vb21)]) (fun (vcx:Int×Bool)=>match vcx with | (low,vb21)=>[(2,[Bv t1,Hw a,Lw a,Iv x1]),(3,[Bv t2,Hw b,Lw b,Iv x2]),(4,[Bv false,Uv 0,Uv 0,Iv 0])]) (fun (vcx:Int×Bool)=>match vcx with | (low,vb21)=>AddPre a b x1 x2 low) ?_ ?_
  ·rintro ⟨low,vb21⟩ hinv
   simp only at hinv
   have hp:=hinv
   have hle:=hp.le
   have hlow : -10000000000000100≤low:=hp.low b1 b3
   obtain ⟨f1,f2,f3⟩:=hp.fst
   obtain ⟨g1,g2⟩:=hp.snd
   have hlaw:=b38 hp t1 t2
   obtain ⟨X,hX⟩ : ∃ X,atN a x1 low=X:=⟨_,rfl⟩
   obtain ⟨Y,hY⟩ : ∃ Y,atN b x2 low=Y:=⟨_,rfl⟩
   obtain ⟨M,hM⟩ : ∃ M,atM b x2 low=M:=⟨_,rfl⟩
   have r1:a≠0→x1-low≤70∧a*10 ^ (x1-low).toNat<B128*B128:=fun h=>⟨by have:=f3 h;omega,by rw[← (Hs hle).1];exact Nat.lt_trans f1 (by decide)⟩
   have r2:b≠0→x2-low≤70∧b*10 ^ (x2-low).toNat<B128*B128:=fun h=>⟨by have:=g2 h;omega,b32 hb g1⟩
   rw[hX] at f1
   rw[hY] at g1
   rw[hX,hY,hM] at hlaw
   obtain ⟨law1,law2,law3,law4⟩:=hlaw
   refine Aa rfl (iQ 2 (eC 54 [.agg [Bv t1,Hw a,Lw a,Iv x1],Iv low] 29 (b5y hX f2 ha r1 (by omega) (by omega) (by omega) (by omega)) (iQ 2 (eC 54 [.agg [Bv t2,Hw b,Lw b,Iv x2],Iv low] 32 (b5y hY hM hb r2 (by omega) (by omega) (by omega) (by omega)) (iQ 4 ?_)))))
   let Z4:=zT [(6,Ia low),(7,.p 7 0),(8,.p 8 0),(11,Ba vb11),(21,Ba vb21)] []
   let Z5:=zH [(7,[Bv t1,Hw (X / B128),Lw (X / B128),Hw (X % B128),Lw (X % B128),Iv low,Bv false])] []
   let Z6:=zH [(8,[Bv t2,Hw (Y / B128),Lw (Y / B128),Hw (Y % B128),Lw (Y % B128),Iv low,Bv M])] []
   let Z7:=zH Z6 (zH Z5 Z3)
   refine iE 122 (zT Z4 Z1) Z7 ?_
   refine Ae (Aa rfl (iQ 4 (jB .eql 4 (.bool t1) (.bool t2) 37 ?_)))
   intro c37 hc37
   refine iQ 1 ?_
   cases c37
   ·replace hc37:=bf hc37
    refine iQ 2 ?_
    have hD:t1≠t2:=hc37
    refine jC 47 [.agg [Hw (Y % B128),Lw (Y % B128)]] 41 (Ea (Az Y)) ?_
    rintro _ ⟨zl,rfl,hzl⟩
    refine iQ 1 ?_
    cases zl
    ·replace hzl:=bf hzl
     refine iQ 10 (iE 122 (zT [(52,Ba false)] (zT Z4 Z1)) Z7 ?_)
     refine iF (Ad (Af ?_))
     refine Ef 122 (fun (vcx:Bool×Nat×Nat×Bool×Bool×Bool×Bool)=>match vcx with | (u,P,Q,mx,mo,v,vb84)=>[(2,.p 2 0),(3,.p 3 0),(4,.p 4 0),(5,Ba false),(6,Ia low),(7,.p 7 0),(8,.p 8 0),(11,Ba vb11),(21,Ba vb21),(52,Ba false),(84,Ba vb84)]) (fun (vcx:Bool×Nat×Nat×Bool×Bool×Bool×Bool)=>match vcx with | (u,P,Q,mx,mo,v,vb84)=>[(2,[Bv t1,Hw a,Lw a,Iv x1]),(3,[Bv t2,Hw b,Lw b,Iv x2]),(4,[Bv false,Uv 0,Uv 0,Iv 0]),(7,[Bv u,Hw (P / B128),Lw (P / B128),Hw (P % B128),Lw (P % B128),Iv low,Bv mx]),(8,[Bv v,Hw (Q / B128),Lw (Q / B128),Hw (Q % B128),Lw (Q % B128),Iv low,Bv mo])]) (fun (vcx:Bool×Nat×Nat×Bool×Bool×Bool×Bool)=>match vcx with | (u,P,Q,mx,mo,v,vb84)=>mx=false∧Q≤P∧P<10 ^ 70∧(mo=false→Fh 1 u (P-Q) low false=Gm t1 a x1 t2 b x2)∧(mo=true→1≤P-Q∧Fh 1 u (P-Q-1) low true=Gm t1 a x1 t2 b x2)) ?_ ?_
     ·rintro ⟨u,P,Q,mx,mo,v,vb84⟩ hinv
      simp only at hinv
      obtain ⟨hmx,hQP,hP,w1,w2⟩:=hinv
      have hPQ:P-Q<10 ^ 70:=Nat.lt_of_le_of_lt (Nat.sub_le _ _) hP
      refine Aa rfl (iQ 8 (eC 58 [.agg [Hw (P / B128),Lw (P / B128)],.agg [Hw (P % B128),Lw (P % B128)],.agg [Hw (Q / B128),Lw (Q / B128)],.agg [Hw (Q % B128),Lw (Q % B128)]] 96 (Pw hP hQP) (iQ 8 ?_)))
      let Z8:=zH [(7,[Bv u,Hw ((P-Q) / B128),Lw ((P-Q) / B128),Hw ((P-Q) % B128),Lw ((P-Q) % B128),Iv low,Bv mx])] []
      let Z9:=zH [(8,[Bv v,Hw (Q / B128),Lw (Q / B128),Hw (Q % B128),Lw (Q % B128),Iv low,Bv mo])] []
      let Z10:=zH Z9 (zH Z8 Z3)
      refine iE 122 (zT [(52,Ba false),(84,Ba vb84)] (zT Z4 Z1)) Z10 ?_
      refine Ae (Aa rfl (iQ 2 (iE 122 (zT [(52,Ba false),(84,Ba vb84),(103,Ba mo)] (zT Z4 Z1)) Z10 ?_)))
      cases mo
      ·refine iF (Ad (Af (Aa rfl (iQ 1 (jC 56 [.agg [Bv u,Hw ((P-Q) / B128),Lw ((P-Q) / B128),Hw ((P-Q) % B128),Lw ((P-Q) % B128),Iv low,Bv mx],Iv 1] 119 (Hb (m:=1) (N:=P-Q) (Nat.div_add_mod' _ _).symm (Nat.div_lt_of_lt_mul (Nat.lt_trans hPQ (by decide))) (Az _) (by omega) (by omega)) ?_)))))
       rintro _ ⟨g,k,x,ok,rfl,hT⟩
       refine iQ 4 ?_
       let Z11:=zT [(2,.p 2 0),(3,.p 3 0),(4,.p 4 0),(5,Ba ok),(52,Ba false),(84,Ba vb84),(103,Ba false)] []
       let Z12:=zH [(8,[Bv v,Hw (Q / B128),Lw (Q / B128),Hw (Q % B128),Lw (Q % B128),Iv low,Bv false])] []
       let Z13:=zH [(2,[Bv t1,Hw a,Lw a,Iv x1]),(3,[Bv t2,Hw b,Lw b,Iv x2]),(4,[Bv g,Hw k,Lw k,Iv x])] []
       let Z14:=zH Z13 (zH Z12 Z8)
       refine iE 122 (zT Z11 Z4) Z14 ?_
       refine Ab (iS (.agg [Bv g,Hw k,Lw k,Iv x]) (Bv ok) [] ?_)
       rw[hmx] at hT;rw[← w1 rfl,hT];rfl
      ·obtain ⟨w3,w4⟩:=w2 rfl
       refine iT (Aa rfl (iQ 5 (eC 59 [Uv 1] 110 (Uz 1) (eC 58 [.agg [Hw ((P-Q) / B128),Lw ((P-Q) / B128)],.agg [Hw ((P-Q) % B128),Lw ((P-Q) % B128)],.agg [Uv 0,Uv 0],.agg [Uv 0,Uv 1]] 111 (Wu hPQ w3) (iQ 8 ?_)))))
       let Z15:=zT [(52,Ba false),(84,Ba vb84),(103,Ba true)] []
       let Z16:=zT Z15 (zT Z4 Z1)
       let Z17:=zH [(7,[Bv u,Hw ((P-Q-1) / B128),Lw ((P-Q-1) / B128),Hw ((P-Q-1) % B128),Lw ((P-Q-1) % B128),Iv low,Bv mx])] []
       let Z18:=zH [(8,[Bv v,Hw (Q / B128),Lw (Q / B128),Hw (Q % B128),Lw (Q % B128),Iv low,Bv true])] []
       let Z19:=zH Z18 (zH Z17 Z3)
       refine iE 122 Z16 Z19 ?_
       refine Am rfl (iQ 2 ?_)
       let Z20:=zH [(7,[Bv u,Hw ((P-Q-1) / B128),Lw ((P-Q-1) / B128),Hw ((P-Q-1) % B128),Lw ((P-Q-1) % B128),Iv low,Bv true])] []
       let Z21:=zH Z20 (zH Z3 Z18)
       refine iE 122 Z16 Z21 ?_
       refine Af (Aa rfl (iQ 1 (jC 56 [.agg [Bv u,Hw ((P-Q-1) / B128),Lw ((P-Q-1) / B128),Hw ((P-Q-1) % B128),Lw ((P-Q-1) % B128),Iv low,Bv true],Iv 1] 119 (Hb (m:=1) (N:=P-Q-1) (Nat.div_add_mod' _ _).symm (Nat.div_lt_of_lt_mul (Nat.lt_of_le_of_lt (Nat.sub_le _ _) (Nat.lt_trans hPQ (by decide)))) (Az _) (by omega) (by omega)) ?_)))
       rintro _ ⟨g,k,x,ok,rfl,hT⟩
       refine iQ 4 ?_
       let Z22:=zT [(2,.p 2 0),(3,.p 3 0),(4,.p 4 0),(5,Ba ok)] []
       let Z23:=zT Z22 (zT Z4 Z15)
       let Z24:=zH [(2,[Bv t1,Hw a,Lw a,Iv x1]),(3,[Bv t2,Hw b,Lw b,Iv x2]),(4,[Bv g,Hw k,Lw k,Iv x])] []
       let Z25:=zH Z24 (zH Z20 Z18)
       refine iE 122 Z23 Z25 ?_
       refine Ab (iS (.agg [Bv g,Hw k,Lw k,Iv x]) (Bv ok) [] ?_)
       rw[← w4,hT];rfl
     intro hmid
     refine Aa rfl (iQ 8 (eC 57 [.agg [Hw (X / B128),Lw (X / B128)],.agg [Hw (X % B128),Lw (X % B128)],.agg [Hw (Y / B128),Lw (Y / B128)],.agg [Hw (Y % B128),Lw (Y % B128)]] 83 (Pv f1 g1) (jB .lss 3 (.int .i64 (Ch X Y)) (.int .i64 0) 84 ?_)))
     intro c84 hc84
     refine iE 122 [(2,.p 2 0),(3,.p 3 0),(4,.p 4 0),(5,Ba false),(6,Ia low),(7,.p 7 0),(8,.p 8 0),(11,Ba vb11),(21,Ba vb21),(52,Ba false),(84,Ba c84)] [(2,[Bv t1,Hw a,Lw a,Iv x1]),(3,[Bv t2,Hw b,Lw b,Iv x2]),(4,[Bv false,Uv 0,Uv 0,Iv 0]),(7,[Bv t1,Hw (X / B128),Lw (X / B128),Hw (X % B128),Lw (X % B128),Iv low,Bv false]),(8,[Bv t2,Hw (Y / B128),Lw (Y / B128),Hw (Y % B128),Lw (Y % B128),Iv low,Bv M])] ?_
     cases c84
     ·replace hc84:=bf hc84
      have hle2:Y≤X:=by have:=Pm (a:=X) (b:=Y);omega
      refine iF (Ad ?_)
      refine Cc hmid (t1,X,Y,false,M,t2,false) (⟨rfl,hle2,f1,fun h=>law2 hD h hle2,fun h=>law4 hD h⟩) (by kernel_rfl)
     ·replace hc84:=bt hc84
      have hlt2:X<Y:=Pm.1 hc84
      obtain ⟨w5,w6⟩:=law3 hD hlt2
      refine iT (Am rfl (iQ 4 (iE 122 [(2,.p 2 0),(3,.p 3 0),(4,.p 4 0),(5,Ba false),(6,Ia low),(7,.p 7 0),(8,.p 8 0),(11,Ba vb11),(21,Ba vb21),(52,Ba false),(84,Ba true)] [(2,[Bv t1,Hw a,Lw a,Iv x1]),(3,[Bv t2,Hw b,Lw b,Iv x2]),(4,[Bv false,Uv 0,Uv 0,Iv 0]),(7,[Bv t2,Hw (Y / B128),Lw (Y / B128),Hw (Y % B128),Lw (Y % B128),Iv low,Bv M]),(8,[Bv t1,Hw (X / B128),Lw (X / B128),Hw (X % B128),Lw (X % B128),Iv low,Bv false])] ?_)))
      refine Cc hmid (t2,Y,X,M,false,t1,true) (⟨w5,Nat.le_of_lt hlt2,g1,fun _=>w6,fun h=>by cases h⟩) (by kernel_rfl)
    ·replace hzl:=bt hzl
     refine iQ 2 (jC 47 [.agg [Hw (Y / B128),Lw (Y / B128)]] 45 (Ea (Nat.div_lt_of_lt_mul (Nat.lt_trans g1 (by decide)))) ?_)
     rintro _ ⟨zh,rfl,hzh⟩
     refine iQ 2 ?_
     cases zh
     ·replace hzh:=bf hzh
      refine iQ 5 (iE 122 (zT [(52,Ba false)] (zT Z4 Z1)) Z7 ?_)
      refine iF (Ad (Af ?_))
      refine Ef 122 (fun (vcx:Bool×Nat×Nat×Bool×Bool×Bool×Bool)=>match vcx with | (u,P,Q,mx,mo,v,vb84)=>[(2,.p 2 0),(3,.p 3 0),(4,.p 4 0),(5,Ba false),(6,Ia low),(7,.p 7 0),(8,.p 8 0),(11,Ba vb11),(21,Ba vb21),(52,Ba false),(84,Ba vb84)]) (fun (vcx:Bool×Nat×Nat×Bool×Bool×Bool×Bool)=>match vcx with | (u,P,Q,mx,mo,v,vb84)=>[(2,[Bv t1,Hw a,Lw a,Iv x1]),(3,[Bv t2,Hw b,Lw b,Iv x2]),(4,[Bv false,Uv 0,Uv 0,Iv 0]),(7,[Bv u,Hw (P / B128),Lw (P / B128),Hw (P % B128),Lw (P % B128),Iv low,Bv mx]),(8,[Bv v,Hw (Q / B128),Lw (Q / B128),Hw (Q % B128),Lw (Q % B128),Iv low,Bv mo])]) (fun (vcx:Bool×Nat×Nat×Bool×Bool×Bool×Bool)=>match vcx with | (u,P,Q,mx,mo,v,vb84)=>mx=false∧Q≤P∧P<10 ^ 70∧(mo=false→Fh 1 u (P-Q) low false=Gm t1 a x1 t2 b x2)∧(mo=true→1≤P-Q∧Fh 1 u (P-Q-1) low true=Gm t1 a x1 t2 b x2)) ?_ ?_
      ·rintro ⟨u,P,Q,mx,mo,v,vb84⟩ hinv
       simp only at hinv
       obtain ⟨hmx,hQP,hP,w1,w2⟩:=hinv
       have hPQ:P-Q<10 ^ 70:=Nat.lt_of_le_of_lt (Nat.sub_le _ _) hP
       refine Aa rfl (iQ 8 (eC 58 [.agg [Hw (P / B128),Lw (P / B128)],.agg [Hw (P % B128),Lw (P % B128)],.agg [Hw (Q / B128),Lw (Q / B128)],.agg [Hw (Q % B128),Lw (Q % B128)]] 96 (Pw hP hQP) (iQ 8 ?_)))
       let Z26:=zH [(7,[Bv u,Hw ((P-Q) / B128),Lw ((P-Q) / B128),Hw ((P-Q) % B128),Lw ((P-Q) % B128),Iv low,Bv mx])] []
       let Z27:=zH [(8,[Bv v,Hw (Q / B128),Lw (Q / B128),Hw (Q % B128),Lw (Q % B128),Iv low,Bv mo])] []
       let Z28:=zH Z27 (zH Z26 Z3)
       refine iE 122 (zT [(52,Ba false),(84,Ba vb84)] (zT Z4 Z1)) Z28 ?_
       refine Ae (Aa rfl (iQ 2 (iE 122 (zT [(52,Ba false),(84,Ba vb84),(103,Ba mo)] (zT Z4 Z1)) Z28 ?_)))
       cases mo
       ·refine iF (Ad (Af (Aa rfl (iQ 1 (jC 56 [.agg [Bv u,Hw ((P-Q) / B128),Lw ((P-Q) / B128),Hw ((P-Q) % B128),Lw ((P-Q) % B128),Iv low,Bv mx],Iv 1] 119 (Hb (m:=1) (N:=P-Q) (Nat.div_add_mod' _ _).symm (Nat.div_lt_of_lt_mul (Nat.lt_trans hPQ (by decide))) (Az _) (by omega) (by omega)) ?_)))))
        rintro _ ⟨g,k,x,ok,rfl,hT⟩
        refine iQ 4 ?_
        let Z29:=zT [(2,.p 2 0),(3,.p 3 0),(4,.p 4 0),(5,Ba ok),(52,Ba false),(84,Ba vb84),(103,Ba false)] []
        let Z30:=zH [(8,[Bv v,Hw (Q / B128),Lw (Q / B128),Hw (Q % B128),Lw (Q % B128),Iv low,Bv false])] []
        let Z31:=zH [(2,[Bv t1,Hw a,Lw a,Iv x1]),(3,[Bv t2,Hw b,Lw b,Iv x2]),(4,[Bv g,Hw k,Lw k,Iv x])] []
        let Z32:=zH Z31 (zH Z30 Z26)
        refine iE 122 (zT Z29 Z4) Z32 ?_
        refine Ab (iS (.agg [Bv g,Hw k,Lw k,Iv x]) (Bv ok) [] ?_)
        rw[hmx] at hT;rw[← w1 rfl,hT];rfl
       ·obtain ⟨w3,w4⟩:=w2 rfl
        refine iT (Aa rfl (iQ 5 (eC 59 [Uv 1] 110 (Uz 1) (eC 58 [.agg [Hw ((P-Q) / B128),Lw ((P-Q) / B128)],.agg [Hw ((P-Q) % B128),Lw ((P-Q) % B128)],.agg [Uv 0,Uv 0],.agg [Uv 0,Uv 1]] 111 (Wu hPQ w3) (iQ 8 ?_)))))
        let Z33:=zT [(52,Ba false),(84,Ba vb84),(103,Ba true)] []
        let Z34:=zT Z33 (zT Z4 Z1)
        let Z35:=zH [(7,[Bv u,Hw ((P-Q-1) / B128),Lw ((P-Q-1) / B128),Hw ((P-Q-1) % B128),Lw ((P-Q-1) % B128),Iv low,Bv mx])] []
        let Z36:=zH [(8,[Bv v,Hw (Q / B128),Lw (Q / B128),Hw (Q % B128),Lw (Q % B128),Iv low,Bv true])] []
        let Z37:=zH Z36 (zH Z35 Z3)
        refine iE 122 Z34 Z37 ?_
        refine Am rfl (iQ 2 ?_)
        let Z38:=zH [(7,[Bv u,Hw ((P-Q-1) / B128),Lw ((P-Q-1) / B128),Hw ((P-Q-1) % B128),Lw ((P-Q-1) % B128),Iv low,Bv true])] []
        let Z39:=zH Z38 (zH Z3 Z36)
        refine iE 122 Z34 Z39 ?_
        refine Af (Aa rfl (iQ 1 (jC 56 [.agg [Bv u,Hw ((P-Q-1) / B128),Lw ((P-Q-1) / B128),Hw ((P-Q-1) % B128),Lw ((P-Q-1) % B128),Iv low,Bv true],Iv 1] 119 (Hb (m:=1) (N:=P-Q-1) (Nat.div_add_mod' _ _).symm (Nat.div_lt_of_lt_mul (Nat.lt_of_le_of_lt (Nat.sub_le _ _) (Nat.lt_trans hPQ (by decide)))) (Az _) (by omega) (by omega)) ?_)))
        rintro _ ⟨g,k,x,ok,rfl,hT⟩
        refine iQ 4 ?_
        let Z40:=zT [(2,.p 2 0),(3,.p 3 0),(4,.p 4 0),(5,Ba ok)] []
        let Z41:=zT Z40 (zT Z4 Z33)
        let Z42:=zH [(2,[Bv t1,Hw a,Lw a,Iv x1]),(3,[Bv t2,Hw b,Lw b,Iv x2]),(4,[Bv g,Hw k,Lw k,Iv x])] []
        let Z43:=zH Z42 (zH Z38 Z36)
        refine iE 122 Z41 Z43 ?_
        refine Ab (iS (.agg [Bv g,Hw k,Lw k,Iv x]) (Bv ok) [] ?_)
        rw[← w4,hT];rfl
      intro hmid
      refine Aa rfl (iQ 8 (eC 57 [.agg [Hw (X / B128),Lw (X / B128)],.agg [Hw (X % B128),Lw (X % B128)],.agg [Hw (Y / B128),Lw (Y / B128)],.agg [Hw (Y % B128),Lw (Y % B128)]] 83 (Pv f1 g1) (jB .lss 3 (.int .i64 (Ch X Y)) (.int .i64 0) 84 ?_)))
      intro c84 hc84
      refine iE 122 [(2,.p 2 0),(3,.p 3 0),(4,.p 4 0),(5,Ba false),(6,Ia low),(7,.p 7 0),(8,.p 8 0),(11,Ba vb11),(21,Ba vb21),(52,Ba false),(84,Ba c84)] [(2,[Bv t1,Hw a,Lw a,Iv x1]),(3,[Bv t2,Hw b,Lw b,Iv x2]),(4,[Bv false,Uv 0,Uv 0,Iv 0]),(7,[Bv t1,Hw (X / B128),Lw (X / B128),Hw (X % B128),Lw (X % B128),Iv low,Bv false]),(8,[Bv t2,Hw (Y / B128),Lw (Y / B128),Hw (Y % B128),Lw (Y % B128),Iv low,Bv M])] ?_
      cases c84
      ·replace hc84:=bf hc84
       have hle2:Y≤X:=by have:=Pm (a:=X) (b:=Y);omega
       refine iF (Ad ?_)
       refine Cc hmid (t1,X,Y,false,M,t2,false) (⟨rfl,hle2,f1,fun h=>law2 hD h hle2,fun h=>law4 hD h⟩) (by kernel_rfl)
      ·replace hc84:=bt hc84
       have hlt2:X<Y:=Pm.1 hc84
       obtain ⟨w5,w6⟩:=law3 hD hlt2
       refine iT (Am rfl (iQ 4 (iE 122 [(2,.p 2 0),(3,.p 3 0),(4,.p 4 0),(5,Ba false),(6,Ia low),(7,.p 7 0),(8,.p 8 0),(11,Ba vb11),(21,Ba vb21),(52,Ba false),(84,Ba true)] [(2,[Bv t1,Hw a,Lw a,Iv x1]),(3,[Bv t2,Hw b,Lw b,Iv x2]),(4,[Bv false,Uv 0,Uv 0,Iv 0]),(7,[Bv t2,Hw (Y / B128),Lw (Y / B128),Hw (Y % B128),Lw (Y % B128),Iv low,Bv M]),(8,[Bv t1,Hw (X / B128),Lw (X / B128),Hw (X % B128),Lw (X % B128),Iv low,Bv false])] ?_)))
       refine Cc hmid (t2,Y,X,M,false,t1,true) (⟨w5,Nat.le_of_lt hlt2,g1,fun _=>w6,fun h=>by cases h⟩) (by kernel_rfl)
     ·replace hzh:=bt hzh
      refine iQ 2 (jU .not (.bool M) 50 ?_)
      intro c50 hc50
      refine iQ 2 (iE 122 (zT [(52,Ba c50)] (zT Z4 Z1)) Z7 ?_)
      cases c50
      ·replace hc50:=bf hc50
       refine iF (Ad (Af ?_))
       refine Ef 122 (fun (vcx:Bool×Nat×Nat×Bool×Bool×Bool×Bool)=>match vcx with | (u,P,Q,mx,mo,v,vb84)=>[(2,.p 2 0),(3,.p 3 0),(4,.p 4 0),(5,Ba false),(6,Ia low),(7,.p 7 0),(8,.p 8 0),(11,Ba vb11),(21,Ba vb21),(52,Ba false),(84,Ba vb84)]) (fun (vcx:Bool×Nat×Nat×Bool×Bool×Bool×Bool)=>match vcx with | (u,P,Q,mx,mo,v,vb84)=>[(2,[Bv t1,Hw a,Lw a,Iv x1]),(3,[Bv t2,Hw b,Lw b,Iv x2]),(4,[Bv false,Uv 0,Uv 0,Iv 0]),(7,[Bv u,Hw (P / B128),Lw (P / B128),Hw (P % B128),Lw (P % B128),Iv low,Bv mx]),(8,[Bv v,Hw (Q / B128),Lw (Q / B128),Hw (Q % B128),Lw (Q % B128),Iv low,Bv mo])]) (fun (vcx:Bool×Nat×Nat×Bool×Bool×Bool×Bool)=>match vcx with | (u,P,Q,mx,mo,v,vb84)=>mx=false∧Q≤P∧P<10 ^ 70∧(mo=false→Fh 1 u (P-Q) low false=Gm t1 a x1 t2 b x2)∧(mo=true→1≤P-Q∧Fh 1 u (P-Q-1) low true=Gm t1 a x1 t2 b x2)) ?_ ?_
       ·rintro ⟨u,P,Q,mx,mo,v,vb84⟩ hinv
        simp only at hinv
        obtain ⟨hmx,hQP,hP,w1,w2⟩:=hinv
        have hPQ:P-Q<10 ^ 70:=Nat.lt_of_le_of_lt (Nat.sub_le _ _) hP
        refine Aa rfl (iQ 8 (eC 58 [.agg [Hw (P / B128),Lw (P / B128)],.agg [Hw (P % B128),Lw (P % B128)],.agg [Hw (Q / B128),Lw (Q / B128)],.agg [Hw (Q % B128),Lw (Q % B128)]] 96 (Pw hP hQP) (iQ 8 ?_)))
        let Z44:=zH [(7,[Bv u,Hw ((P-Q) / B128),Lw ((P-Q) / B128),Hw ((P-Q) % B128),Lw ((P-Q) % B128),Iv low,Bv mx])] []
        let Z45:=zH [(8,[Bv v,Hw (Q / B128),Lw (Q / B128),Hw (Q % B128),Lw (Q % B128),Iv low,Bv mo])] []
        let Z46:=zH Z45 (zH Z44 Z3)
        refine iE 122 (zT [(52,Ba false),(84,Ba vb84)] (zT Z4 Z1)) Z46 ?_
        refine Ae (Aa rfl (iQ 2 (iE 122 (zT [(52,Ba false),(84,Ba vb84),(103,Ba mo)] (zT Z4 Z1)) Z46 ?_)))
        cases mo
        ·refine iF (Ad (Af (Aa rfl (iQ 1 (jC 56 [.agg [Bv u,Hw ((P-Q) / B128),Lw ((P-Q) / B128),Hw ((P-Q) % B128),Lw ((P-Q) % B128),Iv low,Bv mx],Iv 1] 119 (Hb (m:=1) (N:=P-Q) (Nat.div_add_mod' _ _).symm (Nat.div_lt_of_lt_mul (Nat.lt_trans hPQ (by decide))) (Az _) (by omega) (by omega)) ?_)))))
         rintro _ ⟨g,k,x,ok,rfl,hT⟩
         refine iQ 4 ?_
         let Z47:=zT [(2,.p 2 0),(3,.p 3 0),(4,.p 4 0),(5,Ba ok),(52,Ba false),(84,Ba vb84),(103,Ba false)] []
         let Z48:=zH [(8,[Bv v,Hw (Q / B128),Lw (Q / B128),Hw (Q % B128),Lw (Q % B128),Iv low,Bv false])] []
         let Z49:=zH [(2,[Bv t1,Hw a,Lw a,Iv x1]),(3,[Bv t2,Hw b,Lw b,Iv x2]),(4,[Bv g,Hw k,Lw k,Iv x])] []
         let Z50:=zH Z49 (zH Z48 Z44)
         refine iE 122 (zT Z47 Z4) Z50 ?_
         refine Ab (iS (.agg [Bv g,Hw k,Lw k,Iv x]) (Bv ok) [] ?_)
         rw[hmx] at hT;rw[← w1 rfl,hT];rfl
        ·obtain ⟨w3,w4⟩:=w2 rfl
         refine iT (Aa rfl (iQ 5 (eC 59 [Uv 1] 110 (Uz 1) (eC 58 [.agg [Hw ((P-Q) / B128),Lw ((P-Q) / B128)],.agg [Hw ((P-Q) % B128),Lw ((P-Q) % B128)],.agg [Uv 0,Uv 0],.agg [Uv 0,Uv 1]] 111 (Wu hPQ w3) (iQ 8 ?_)))))
         let Z51:=zT [(52,Ba false),(84,Ba vb84),(103,Ba true)] []
         let Z52:=zT Z51 (zT Z4 Z1)
         let Z53:=zH [(7,[Bv u,Hw ((P-Q-1) / B128),Lw ((P-Q-1) / B128),Hw ((P-Q-1) % B128),Lw ((P-Q-1) % B128),Iv low,Bv mx])] []
         let Z54:=zH [(8,[Bv v,Hw (Q / B128),Lw (Q / B128),Hw (Q % B128),Lw (Q % B128),Iv low,Bv true])] []
         let Z55:=zH Z54 (zH Z53 Z3)
         refine iE 122 Z52 Z55 ?_
         refine Am rfl (iQ 2 ?_)
         let Z56:=zH [(7,[Bv u,Hw ((P-Q-1) / B128),Lw ((P-Q-1) / B128),Hw ((P-Q-1) % B128),Lw ((P-Q-1) % B128),Iv low,Bv true])] []
         let Z57:=zH Z56 (zH Z3 Z54)
         refine iE 122 Z52 Z57 ?_
         refine Af (Aa rfl (iQ 1 (jC 56 [.agg [Bv u,Hw ((P-Q-1) / B128),Lw ((P-Q-1) / B128),Hw ((P-Q-1) % B128),Lw ((P-Q-1) % B128),Iv low,Bv true],Iv 1] 119 (Hb (m:=1) (N:=P-Q-1) (Nat.div_add_mod' _ _).symm (Nat.div_lt_of_lt_mul (Nat.lt_of_le_of_lt (Nat.sub_le _ _) (Nat.lt_trans hPQ (by decide)))) (Az _) (by omega) (by omega)) ?_)))
         rintro _ ⟨g,k,x,ok,rfl,hT⟩
         refine iQ 4 ?_
         let Z58:=zT [(2,.p 2 0),(3,.p 3 0),(4,.p 4 0),(5,Ba ok)] []
         let Z59:=zT Z58 (zT Z4 Z51)
         let Z60:=zH [(2,[Bv t1,Hw a,Lw a,Iv x1]),(3,[Bv t2,Hw b,Lw b,Iv x2]),(4,[Bv g,Hw k,Lw k,Iv x])] []
         let Z61:=zH Z60 (zH Z56 Z54)
         refine iE 122 Z59 Z61 ?_
         refine Ab (iS (.agg [Bv g,Hw k,Lw k,Iv x]) (Bv ok) [] ?_)
         rw[← w4,hT];rfl
       intro hmid
       refine Aa rfl (iQ 8 (eC 57 [.agg [Hw (X / B128),Lw (X / B128)],.agg [Hw (X % B128),Lw (X % B128)],.agg [Hw (Y / B128),Lw (Y / B128)],.agg [Hw (Y % B128),Lw (Y % B128)]] 83 (Pv f1 g1) (jB .lss 3 (.int .i64 (Ch X Y)) (.int .i64 0) 84 ?_)))
       intro c84 hc84
       refine iE 122 [(2,.p 2 0),(3,.p 3 0),(4,.p 4 0),(5,Ba false),(6,Ia low),(7,.p 7 0),(8,.p 8 0),(11,Ba vb11),(21,Ba vb21),(52,Ba false),(84,Ba c84)] [(2,[Bv t1,Hw a,Lw a,Iv x1]),(3,[Bv t2,Hw b,Lw b,Iv x2]),(4,[Bv false,Uv 0,Uv 0,Iv 0]),(7,[Bv t1,Hw (X / B128),Lw (X / B128),Hw (X % B128),Lw (X % B128),Iv low,Bv false]),(8,[Bv t2,Hw (Y / B128),Lw (Y / B128),Hw (Y % B128),Lw (Y % B128),Iv low,Bv M])] ?_
       cases c84
       ·replace hc84:=bf hc84
        have hle2:Y≤X:=by have:=Pm (a:=X) (b:=Y);omega
        refine iF (Ad ?_)
        refine Cc hmid (t1,X,Y,false,M,t2,false) (⟨rfl,hle2,f1,fun h=>law2 hD h hle2,fun h=>law4 hD h⟩) (by kernel_rfl)
       ·replace hc84:=bt hc84
        have hlt2:X<Y:=Pm.1 hc84
        obtain ⟨w5,w6⟩:=law3 hD hlt2
        refine iT (Am rfl (iQ 4 (iE 122 [(2,.p 2 0),(3,.p 3 0),(4,.p 4 0),(5,Ba false),(6,Ia low),(7,.p 7 0),(8,.p 8 0),(11,Ba vb11),(21,Ba vb21),(52,Ba false),(84,Ba true)] [(2,[Bv t1,Hw a,Lw a,Iv x1]),(3,[Bv t2,Hw b,Lw b,Iv x2]),(4,[Bv false,Uv 0,Uv 0,Iv 0]),(7,[Bv t2,Hw (Y / B128),Lw (Y / B128),Hw (Y % B128),Lw (Y % B128),Iv low,Bv M]),(8,[Bv t1,Hw (X / B128),Lw (X / B128),Hw (X % B128),Lw (X % B128),Iv low,Bv false])] ?_)))
        refine Cc hmid (t2,Y,X,M,false,t1,true) (⟨w5,Nat.le_of_lt hlt2,g1,fun _=>w6,fun h=>by cases h⟩) (by kernel_rfl)
      ·replace hc50:=bt hc50
       have hS:t1=t2∨(Y=0∧M=false):=.inr ⟨by have:=Nat.div_add_mod' Y B128;rw[hzl,hzh] at this;omega,hc50⟩
       refine iT (Aa rfl (iQ 8 (eC 55 [.agg [Hw (X / B128),Lw (X / B128)],.agg [Hw (X % B128),Lw (X % B128)],.agg [Hw (Y / B128),Lw (Y / B128)],.agg [Hw (Y % B128),Lw (Y % B128)]] 62 (a4h f1 g1) (iQ 8 ?_))))
       let Z62:=zH [(7,[Bv t1,Hw ((X+Y) / B128),Lw ((X+Y) / B128),Hw ((X+Y) % B128),Lw ((X+Y) % B128),Iv low,Bv false])] []
       let Z63:=zH Z62 (zH Z3 Z6)
       refine iE 122 (zT [(52,Ba true)] (zT Z4 Z1)) Z63 ?_
       refine Aa rfl (iQ 4 ?_)
       let Z64:=zH [(7,[Bv t1,Hw ((X+Y) / B128),Lw ((X+Y) / B128),Hw ((X+Y) % B128),Lw ((X+Y) % B128),Iv low,Bv M])] []
       let Z65:=zH Z64 (zH Z3 Z6)
       refine iE 122 (zT [(52,Ba true)] (zT Z4 Z1)) Z65 ?_
       refine Aa rfl (iQ 1 (jC 56 [.agg [Bv t1,Hw ((X+Y) / B128),Lw ((X+Y) / B128),Hw ((X+Y) % B128),Lw ((X+Y) % B128),Iv low,Bv M],Iv 1] 72 (Hb (m:=1) (N:=X+Y) (Nat.div_add_mod' _ _).symm (Nat.div_lt_of_lt_mul (Nat.lt_of_lt_of_le (Nat.add_lt_add f1 g1) (by decide))) (Az _) (by omega) (by omega)) ?_))
       rintro _ ⟨g,k,x,ok,rfl,hT⟩
       refine iQ 4 ?_
       let Z66:=zT [(2,.p 2 0),(3,.p 3 0),(4,.p 4 0),(5,Ba ok),(52,Ba true)] []
       let Z67:=zH [(2,[Bv t1,Hw a,Lw a,Iv x1]),(3,[Bv t2,Hw b,Lw b,Iv x2]),(4,[Bv g,Hw k,Lw k,Iv x])] []
       let Z68:=zH Z67 (zH Z64 Z6)
       refine iE 122 (zT Z66 Z4) Z68 ?_
       refine Ab (Ag (iS (.agg [Bv g,Hw k,Lw k,Iv x]) (Bv ok) [] ?_))
       rw[← law1 hS,hT];rfl
   ·replace hc37:=bt hc37
    refine iQ 14 (iE 122 (zT [(52,Ba true)] (zT Z4 Z1)) Z7 ?_)
    have hS:t1=t2∨(Y=0∧M=false):=.inl hc37
    refine iT (Aa rfl (iQ 8 (eC 55 [.agg [Hw (X / B128),Lw (X / B128)],.agg [Hw (X % B128),Lw (X % B128)],.agg [Hw (Y / B128),Lw (Y / B128)],.agg [Hw (Y % B128),Lw (Y % B128)]] 62 (a4h f1 g1) (iQ 8 ?_))))
    let Z69:=zH [(7,[Bv t1,Hw ((X+Y) / B128),Lw ((X+Y) / B128),Hw ((X+Y) % B128),Lw ((X+Y) % B128),Iv low,Bv false])] []
    let Z70:=zH Z69 (zH Z3 Z6)
    refine iE 122 (zT [(52,Ba true)] (zT Z4 Z1)) Z70 ?_
    refine Aa rfl (iQ 4 ?_)
    let Z71:=zH [(7,[Bv t1,Hw ((X+Y) / B128),Lw ((X+Y) / B128),Hw ((X+Y) % B128),Lw ((X+Y) % B128),Iv low,Bv M])] []
    let Z72:=zH Z71 (zH Z3 Z6)
    refine iE 122 (zT [(52,Ba true)] (zT Z4 Z1)) Z72 ?_
    refine Aa rfl (iQ 1 (jC 56 [.agg [Bv t1,Hw ((X+Y) / B128),Lw ((X+Y) / B128),Hw ((X+Y) % B128),Lw ((X+Y) % B128),Iv low,Bv M],Iv 1] 72 (Hb (m:=1) (N:=X+Y) (Nat.div_add_mod' _ _).symm (Nat.div_lt_of_lt_mul (Nat.lt_of_lt_of_le (Nat.add_lt_add f1 g1) (by decide))) (Az _) (by omega) (by omega)) ?_))
    rintro _ ⟨g,k,x,ok,rfl,hT⟩
    refine iQ 4 ?_
    let Z73:=zT [(2,.p 2 0),(3,.p 3 0),(4,.p 4 0),(5,Ba ok),(52,Ba true)] []
    let Z74:=zH [(2,[Bv t1,Hw a,Lw a,Iv x1]),(3,[Bv t2,Hw b,Lw b,Iv x2]),(4,[Bv g,Hw k,Lw k,Iv x])] []
    let Z75:=zH Z74 (zH Z71 Z6)
    refine iE 122 (zT Z73 Z4) Z75 ?_
    refine Ab (Ag (iS (.agg [Bv g,Hw k,Lw k,Iv x]) (Bv ok) [] ?_))
    rw[← law1 hS,hT];rfl
  intro hmid
  refine Aa rfl (iQ 1 (jC 16 [.agg [Bv t1,Hw a,Lw a,Iv x1]] 20 (Du haB) ?_))
  rintro _ ⟨za,rfl,hza⟩
  refine jU .not (.bool za) 21 ?_
  intro c21 hc21
  refine iE 122 [(2,.p 2 0),(3,.p 3 0),(4,.p 4 0),(5,Ba false),(6,Ia z18),(11,Ba vb11),(21,Ba c21)] [(2,[Bv t1,Hw a,Lw a,Iv x1]),(3,[Bv t2,Hw b,Lw b,Iv x2]),(4,[Bv false,Uv 0,Uv 0,Iv 0])] ?_
  cases c21
  ·replace hc21:=bf hc21
   have ha0:a=0:=hza.1 (by simpa using hc21)
   refine iF (Ad ?_)
   refine Cc hmid (z18,false) (⟨ha,hb,hhi,fun _=>by omega,fun h=>absurd ha0 h⟩) (by kernel_rfl)
  ·replace hc21:=bt hc21
   have ha0:a≠0:=fun h=>by rw[hza.2 h] at hc21;cases hc21
   refine iT (Am rfl (iQ 2 (eC 53 [.agg [Bv t1,Hw a,Lw a,Iv x1]] 24 (Qz haB (by omega) (by omega)) (jB .sub 3 (.int .i64 (x1+(nd a:Int))) (.int .i64 70) 25 ?_))))
   intro z25 hz25
   try replace hz25:=hz25.i64 (by omega)
   refine jL .max [3,3] [.int .i64 z18,.int .i64 z25] 26 ?_
   intro z26 hz26
   simp only at hz26
   refine iQ 1 (iE 122 [(2,.p 2 0),(3,.p 3 0),(4,.p 4 0),(5,Ba false),(6,Ia z26),(11,Ba vb11),(21,Ba true)] [(2,[Bv t1,Hw a,Lw a,Iv x1]),(3,[Bv t2,Hw b,Lw b,Iv x2]),(4,[Bv false,Uv 0,Uv 0,Iv 0])] ?_)
   refine Cc hmid (z26,true) (⟨ha,hb,hhi,fun h=>absurd h ha0,fun _=>by omega⟩) (by kernel_rfl)
 intro hmid
 refine Aa rfl (iQ 2 (jC 52 [.agg [Bv s2,Hw B,Lw B,Iv e2],.agg [Bv s1,Hw A,Lw A,Iv e1]] 11 (a5d hBB hAB (by omega) (by omega) (by omega) (by omega)) ?_))
 rintro _ ⟨hg,rfl,hhg⟩
 refine iE 122 [(2,.p 2 0),(3,.p 3 0),(4,.p 4 0),(5,Ba false),(11,Ba hg)] [(2,[Bv s1,Hw A,Lw A,Iv e1]),(3,[Bv s2,Hw B,Lw B,Iv e2]),(4,[Bv false,Uv 0,Uv 0,Iv 0])] ?_
 cases hg
 ·replace hhg:=bf hhg
  refine iF (Ad ?_)
  refine Cc hmid (s1,s2,A,B,e1,e2,false) (⟨hA,hB,c02 hhg,⟨h1,h2,h3,h4⟩,rfl⟩) (by kernel_rfl)
 ·replace hhg:=bt hhg
  refine iT (Am rfl (iQ 4 (iE 122 [(2,.p 2 0),(3,.p 3 0),(4,.p 4 0),(5,Ba false),(11,Ba true)] [(2,[Bv s2,Hw B,Lw B,Iv e2]),(3,[Bv s1,Hw A,Lw A,Iv e1]),(4,[Bv false,Uv 0,Uv 0,Iv 0])] ?_)))
  refine Cc hmid (s2,s1,B,A,e2,e1,true) (⟨hB,hA,b7s hhg,⟨h3,h4,h1,h2⟩,a6x _ _ _ _ _ _⟩) (by kernel_rfl)
theorem a73 {s1 s2:Bool} {A B:Nat} {e1 e2:Int} (hA:A<E34) (hB:B<E34) (h1 : -10000000000000000≤e1) (h2:e1≤10000000000000000) (h3 : -10000000000000000≤e2) (h4:e2≤10000000000000000):HasC Tryz.prog 12 [.agg [.v (.bool s1),.v (.int .u64 (hiW (A))),.v (.int .u64 (loW (A))),.v (.int .i64 e1)],.agg [.v (.bool s2),.v (.int .u64 (hiW (B))),.v (.int .u64 (loW (B))),.v (.int .i64 e2)]] (fun y=>y=Xb (Gm s1 A e1 (!s2&&decide (B≠0)) B e2)):=by
 refine hO [] Tryz.f12 (fun a w=>Tryz.call12 a w) Tryz.func12 rfl (⟨_,rfl⟩) ?_
 refine Aa rfl (iQ 4 ?_)
 let Z1:=zT [(2,.p 2 0),(3,.p 3 0),(4,.p 4 0),(5,Ba false)] []
 let Z2:=zH [(2,[Bv s1,Hw A,Lw A,Iv e1]),(3,[Bv s2,Hw B,Lw B,Iv e2]),(4,[Bv false,Uv 0,Uv 0,Iv 0])] []
 refine iE 12 Z1 Z2 ?_
 refine Aa rfl (iQ 2 (eC 60 [.agg [Bv s2,Hw B,Lw B,Iv e2]] 8 (b55 (Nat.lt_trans hB Br)) (jC 11 [.agg [Bv s1,Hw A,Lw A,Iv e1],.agg [Bv ((!s2&&decide (B≠0))),Hw B,Lw B,Iv e2]] 9 (Fd (Zg hA hB h1 h2 h3 h4)) ?_)))
 rintro _ ⟨g,k,x,ok,rfl,hT⟩
 refine iQ 4 (iE 12 [(4,.p 4 0),(5,Ba ok)] [(4,[Bv g,Hw k,Lw k,Iv x])] ?_)
 refine Ab (iS (.agg [Bv g,Hw k,Lw k,Iv x]) (Bv ok) [] ?_)
 rw[hT];rfl
theorem So {x y:Int}:HasC Tryz.prog 114 [.v (.int .i64 x),.v (.int .i64 y)] (fun r=>r=.v (.int .i64 (Dd x y))):=by
 refine hO [] Tryz.f114 (fun a w=>Tryz.call114 a w) Tryz.func114 rfl (⟨_,rfl⟩) ?_
 refine Aa rfl (iQ 1 (iE 13 [(0,Ia x),(1,Ia y),(4,Ia 0)] [] ?_))
 refine Ae (Ak (Aa rfl (iQ 2 (jB .lss 3 (.int .i64 x) (.int .i64 y) 8 ?_))))
 intro c8 hc8
 refine iQ 1 (iE 13 [(0,Ia x),(1,Ia y),(4,Ia 0),(5,Ba c8)] [] ?_)
 cases c8
 ·replace hc8:=bf hc8
  refine iF (Aa rfl (iQ 2 (jB .gtr 3 (.int .i64 x) (.int .i64 y) 12 ?_)))
  intro c12 hc12
  refine iQ 1 ?_
  let Z1:=zT [(0,Ia x),(1,Ia y),(4,Ia 0),(5,Ba false),(9,Ba c12)] []
  refine iE 13 Z1 [] ?_
  cases c12
  ·replace hc12:=bf hc12
   refine iF (Ad (Ap (Af (Aa rfl (iQ 1 ?_)))))
   let Z2:=zT [(0,Ia x),(1,Ia y),(4,Ia 0),(5,Ba false),(9,Ba false)] []
   refine iE 13 Z2 [] ?_
   refine Ab (iR (Iv 0) ?_)
   rw[Dd,if_neg hc8,if_pos (by omega)]
  ·replace hc12:=bt hc12
   refine iT (Aa rfl (iQ 1 ?_))
   let Z3:=zT [(0,Ia x),(1,Ia y),(4,Ia 1),(5,Ba false),(9,Ba true)] []
   refine iE 13 Z3 [] ?_
   refine Ab (Ai (Ag (iR (Iv 1) ?_)))
   rw[Dd,if_neg hc8,if_neg (by omega)]
 ·replace hc8:=bt hc8
  refine iT (Aa rfl (iQ 1 ?_))
  let Z4:=zT [(0,Ia x),(1,Ia y),(4,Ia (-1)),(5,Ba true)] []
  refine iE 13 Z4 [] ?_
  refine Ab (Ai (Ag (iR (Iv (-1)) ?_)))
  rw[Dd,if_pos hc8]
theorem a1i {s:Bool} {A n:Nat} {e X:Int} (hX:X=(n:Int)) (hn:n≤38) (hA:A<B128) (h1 : -100000000000000000≤e) (h2:e≤100000000000000000):HasC Tryz.prog 115 [.agg [.v (.bool s),.v (.int .u64 (hiW (A))),.v (.int .u64 (loW (A))),.v (.int .i64 e)],.v (.int .i64 X)] (fun y=>y=Lh s (A*10 ^ n / B128) (A*10 ^ n % B128) (e-n) false):=by
 refine hO [] Tryz.f115 (fun a w=>Tryz.call115 a w) Tryz.func115 rfl (⟨_,rfl⟩) ?_
 have hXn:X.toNat=n:=by omega
 refine Aa rfl (iQ 2 ?_)
 let Z1:=zH [(4,[Bv false,Uv 0,Uv 0,Uv 0,Uv 0,Iv 0,Bv false])] []
 refine iE 30 [(1,Ia X),(2,.p 2 0),(4,.p 4 0)] (zH [(2,[Bv s,Hw A,Lw A,Iv e])] Z1) ?_
 refine Aa rfl (iQ 1 (eC 45 [Iv X] 11 (Te (k:=X) (by omega) (by omega)) ?_))
 have ht:10 ^ X.toNat<B128:=Nat.lt_of_le_of_lt (Nat.pow_le_pow_right (by decide) (show X.toNat≤38 by omega)) (by decide)
 refine iQ 6 ?_
 let Z2:=zT [(1,Ia X),(2,.p 2 0),(4,.p 4 0),(5,.p 5 0)] []
 let Z3:=zH [(2,[Bv s,Hw A,Lw A,Iv e]),(5,[Hw (10 ^ X.toNat),Lw (10 ^ X.toNat)])] []
 refine iE 30 Z2 (zH Z3 Z1) ?_
 refine Aa rfl (iQ 3 (eC 61 [.agg [Hw A,Lw A],.agg [Hw (10 ^ X.toNat),Lw (10 ^ X.toNat)]] 18 (Xz hA ht) (iQ 7 ?_)))
 let Z4:=zH [(7,[Hw (A*10 ^ X.toNat / B128),Lw (A*10 ^ X.toNat / B128)])] []
 let Z5:=zH [(8,[Hw (A*10 ^ X.toNat % B128),Lw (A*10 ^ X.toNat % B128)])] []
 let Z6:=zH Z5 (zH Z4 (zH Z3 Z1))
 refine iE 30 (zT [(7,.p 7 0),(8,.p 8 0)] Z2) Z6 ?_
 refine Aa rfl (iQ 7 (jB .sub 3 (.int .i64 e) (.int .i64 X) 28 ?_))
 intro z28 hz28
 try replace hz28:=hz28.i64 (by omega)
 refine iQ 2 ?_
 let Z7:=zH [(4,[Bv s,Hw (A*10 ^ X.toNat / B128),Lw (A*10 ^ X.toNat / B128),Hw (A*10 ^ X.toNat % B128),Lw (A*10 ^ X.toNat % B128),Iv z28,Bv false])] []
 let Z8:=zH Z7 (zH Z3 (zH Z4 Z5))
 refine iE 30 (zT [(7,.p 7 0),(8,.p 8 0)] Z2) Z8 ?_
 refine Ab (iR (.agg [Bv s,Hw (A*10 ^ X.toNat / B128),Lw (A*10 ^ X.toNat / B128),Hw (A*10 ^ X.toNat % B128),Lw (A*10 ^ X.toNat % B128),Iv z28,Bv false]) ?_)
 rw[hXn,show e-(n:Int)=z28 by omega];rfl
theorem Hh {g:Bool} {a:Nat} {x:Int} (ha:a<B128):HasC Tryz.prog 74 [Bk g a x] (fun y=>y=.v (.int .i64 (Dl g a))):=b2h ha
theorem b0r {s1 s2:Bool} {A B:Nat} (hA:A≠0) (h:Dl s1 A=Dl s2 B):B≠0∧s1=s2:=by
 unfold Dl at h
 rw[if_neg hA] at h
 by_cases hB:B=0
 ·rw[if_pos hB] at h
  cases s1<;>simp at h
 ·rw[if_neg hB] at h
  refine ⟨hB,?_⟩
  cases s1<;>cases s2<;>simp at h ⊢
theorem a5p {A B:Nat} {e1 e2:Int} (hA:A<E34) (hB:B<E34) (hA0:A≠0) (hB0:B≠0) (h:Dd (e1+nd A) (e2+nd B)=0):(e1-min e1 e2).toNat≤33∧(e2-min e1 e2).toNat≤33∧A*10 ^ (e1-min e1 e2).toNat<10 ^ 70∧B*10 ^ (e2-min e1 e2).toNat<10 ^ 70:=by
 have h0:=Wh.1 h
 have h1:=Cj 34 A hA
 have h2:=Cj 34 B hB
 have h3:=Og hA0
 have h4:=Og hB0
 have key : ∀ {A x:Nat},nd A≤34→x≤33→A*10 ^ x<10 ^ 70:=by
  intro A x h1 h2
  have h3:=Nat.mul_lt_mul_of_pos_right (Eg A) (show 0<10 ^ x from Nat.pow_pos (by decide))
  rw[← Nat.pow_add] at h3
  exact Nat.lt_of_lt_of_le h3 (Nat.pow_le_pow_right (by decide) (by omega))
 exact ⟨by omega,by omega,key h1 (by omega),key h2 (by omega)⟩
set_option maxHeartbeats 1600000 in
theorem Tg {s1 s2:Bool} {A B:Nat} {e1 e2:Int} (hA:A<E34) (hB:B<E34) (h1 : -10000000000000000≤e1) (h2:e1≤10000000000000000) (h3 : -10000000000000000≤e2) (h4:e2≤10000000000000000):HasC Tryz.prog 83 [.agg [.v (.bool s1),.v (.int .u64 (hiW (A))),.v (.int .u64 (loW (A))),.v (.int .i64 e1)],.agg [.v (.bool s2),.v (.int .u64 (hiW (B))),.v (.int .u64 (loW (B))),.v (.int .i64 e2)]] (fun y=>y=.v (.int .i64 (Pt s1 A e1 s2 B e2))):=by
 refine hO [] Tryz.f83 (fun a w=>Tryz.call83 a w) Tryz.func83 rfl (⟨_,rfl⟩) ?_
 have hAB:=Nat.lt_trans hA Br;have hBB:=Nat.lt_trans hB Br
 have hna:=Cj 34 A hA;have hnb:=Cj 34 B hB
 refine Aa rfl (iQ 3 ?_)
 let Z1:=zH [(2,[Bv s1,Hw A,Lw A,Iv e1]),(3,[Bv s2,Hw B,Lw B,Iv e2])] []
 refine iE 65 [(2,.p 2 0),(3,.p 3 0),(4,Ia 0)] Z1 ?_
 refine Ae (Aa rfl (iQ 1 (eC 74 [.agg [Bv s1,Hw A,Lw A,Iv e1]] 11 (Hh hAB) (iQ 1 (eC 74 [.agg [Bv s2,Hw B,Lw B,Iv e2]] 13 (Hh hBB) (jB .neq 3 (.int .i64 (Dl s1 A)) (.int .i64 (Dl s2 B)) 14 ?_))))))
 intro c14 hc14
 refine iQ 1 ?_
 cases c14
 ·replace hc14:=bf hc14
  refine iQ 1 (jC 16 [.agg [Bv s1,Hw A,Lw A,Iv e1]] 17 (Du hAB) ?_)
  rintro _ ⟨z,rfl,hz⟩
  refine iQ 1 ?_
  let Z2:=zT [(2,.p 2 0),(3,.p 3 0),(4,Ia 0),(18,Ba z)] []
  refine iE 65 Z2 Z1 ?_
  cases z
  ·replace hz:=bf hz
   have hss:Dl s1 A=Dl s2 B:=Decidable.not_not.1 hc14
   obtain ⟨hB0,hs12⟩:=b0r hz hss
   refine iF (Ad (Af (Aa rfl (iQ 1 (eC 53 [.agg [Bv s1,Hw A,Lw A,Iv e1]] 25 (Qz hAB (by omega) (by omega)) (iQ 1 (eC 53 [.agg [Bv s2,Hw B,Lw B,Iv e2]] 27 (Qz hBB (by omega) (by omega)) (eC 114 [Iv (e1+(nd A:Int)),Iv (e2+(nd B:Int))] 28 (So) (iQ 1 ?_)))))))))
   let Z3:=zT [(5,Ia (Dd (e1+(nd A:Int)) (e2+(nd B:Int))))] []
   let Z4:=zT [(2,.p 2 0),(3,.p 3 0),(4,Ia 0),(18,Ba false)] []
   refine iE 65 (zT Z4 Z3) Z1 ?_
   refine Ef 65 (fun (vcx:Int×Bool)=>match vcx with | (c,vb30)=>[(2,.p 2 0),(3,.p 3 0),(4,Ia 0),(5,Ia c),(18,Ba false),(30,Ba vb30)]) (fun (vcx:Int×Bool)=>match vcx with | (c,vb30)=>[(2,[Bv s1,Hw A,Lw A,Iv e1]),(3,[Bv s2,Hw B,Lw B,Iv e2])]) (fun (vcx:Int×Bool)=>match vcx with | (c,vb30)=>c=Ch (A*10 ^ (e1-min e1 e2).toNat) (B*10 ^ (e2-min e1 e2).toNat)) ?_ ?_
   ·rintro ⟨c,vb30⟩ hinv
    simp only at hinv
    have hcr : -1≤c∧c≤1:=by rw[hinv,a2w];unfold Dd;split<;>(try split)<;>omega
    have hcs := @b07 s1 A B e1 e2
    refine Ae (Aa rfl (iQ 2 (iE 65 (zT [(5,Ia c),(30,Ba vb30),(61,Ba s1)] Z4) Z1 ?_)))
    cases s1
    ·refine iF (Ad (Af (Aa rfl (iQ 2 ?_))))
     let Z5:=zT [(2,.p 2 0),(3,.p 3 0),(4,Ia c),(5,Ia c),(18,Ba false),(30,Ba vb30),(61,Ba false)] []
     let Z6:=zH [(2,[Bv false,Hw A,Lw A,Iv e1]),(3,[Bv s2,Hw B,Lw B,Iv e2])] []
     refine iE 65 Z5 Z6 ?_
     refine Ab (iR (Iv c) ?_)
     rw[← hs12,hcs,← hinv];rfl
    ·refine iT (Aa rfl (iQ 1 (jU .neg (.int .i64 c) 63 ?_)))
     intro z63 hz63
     try replace hz63:=hz63.i64 (by omega)
     refine iQ 1 ?_
     let Z7:=zT [(2,.p 2 0),(3,.p 3 0),(4,Ia z63),(5,Ia c),(18,Ba false),(30,Ba vb30),(61,Ba true)] []
     let Z8:=zH [(2,[Bv true,Hw A,Lw A,Iv e1]),(3,[Bv s2,Hw B,Lw B,Iv e2])] []
     refine iE 65 Z7 Z8 ?_
     refine Ab (Ag (iR (Iv z63) ?_))
     rw[← hs12,hcs,← hinv,if_pos rfl,hz63,Int.zero_sub]
   intro hmid
   refine Aa rfl (iQ 1 (jB .eql 3 (.int .i64 (Dd (e1+(nd A:Int)) (e2+(nd B:Int)))) (.int .i64 0) 30 ?_))
   intro c30 hc30
   refine iE 65 [(2,.p 2 0),(3,.p 3 0),(4,Ia 0),(5,Ia (Dd (e1+(nd A:Int)) (e2+(nd B:Int)))),(18,Ba false),(30,Ba c30)] [(2,[Bv s1,Hw A,Lw A,Iv e1]),(3,[Bv s2,Hw B,Lw B,Iv e2])] ?_
   cases c30
   ·replace hc30:=bf hc30
    refine iF (Ad ?_)
    refine Cc hmid (Dd (e1+(nd A:Int)) (e2+(nd B:Int)),false) ((a79 hz hB0 (fun h=>hc30 (Wh.2 h))).symm) (by kernel_rfl)
   ·replace hc30:=bt hc30
    obtain ⟨w1,w2,w3,w4⟩:=a5p hA hB hz hB0 hc30
    refine iT (Aa rfl (iQ 4 (jB .sub 3 (.int .i64 e1) (.int .i64 e2) 35 ?_)))
    intro z35 hz35
    try replace hz35:=hz35.i64 (by omega)
    refine jL .max [3,3] [.int .i64 0,.int .i64 z35] 36 ?_
    intro z36 hz36
    simp only at hz36
    refine iQ 1 ?_
    let Z9:=zH [(2,[Bv s1,Hw A,Lw A,Iv e1]),(3,[Bv s2,Hw B,Lw B,Iv e2])] []
    refine iE 65 (zT [(6,Ia z36),(30,Ba true)] (zT Z3 Z4)) Z9 ?_
    refine Aa rfl (iQ 4 (jB .sub 3 (.int .i64 e2) (.int .i64 e1) 41 ?_))
    intro z41 hz41
    try replace hz41:=hz41.i64 (by omega)
    refine jL .max [3,3] [.int .i64 0,.int .i64 z41] 42 ?_
    intro z42 hz42
    simp only at hz42
    refine iQ 1 (iE 65 (zT [(6,Ia z36),(7,Ia z42),(30,Ba true)] (zT Z3 Z4)) Z9 ?_)
    refine Aa rfl (iQ 2 (jL .min [3,3] [.int .i64 z36,.int .i64 38] 45 ?_))
    intro z45 hz45
    simp only at hz45
    refine eC 115 [.agg [Bv s1,Hw A,Lw A,Iv e1],Iv z45] 46 (a1i (n:=(e1-min e1 e2).toNat) (by omega) (by omega) hAB (by omega) (by omega)) (iQ 2 (jL .min [3,3] [.int .i64 z42,.int .i64 38] 49 ?_))
    intro z49 hz49
    simp only at hz49
    refine eC 115 [.agg [Bv s2,Hw B,Lw B,Iv e2],Iv z49] 50 (a1i (n:=(e2-min e1 e2).toNat) (by omega) (by omega) hBB (by omega) (by omega)) (iQ 4 ?_)
    let Z10:=zH [(8,[Bv s1,Hw (A*10 ^ (e1-min e1 e2).toNat / B128),Lw (A*10 ^ (e1-min e1 e2).toNat / B128),Hw (A*10 ^ (e1-min e1 e2).toNat % B128),Lw (A*10 ^ (e1-min e1 e2).toNat % B128),Iv (e1-((e1-min e1 e2).toNat:Int)),Bv false])] []
    let Z11:=zH [(9,[Bv s2,Hw (B*10 ^ (e2-min e1 e2).toNat / B128),Lw (B*10 ^ (e2-min e1 e2).toNat / B128),Hw (B*10 ^ (e2-min e1 e2).toNat % B128),Lw (B*10 ^ (e2-min e1 e2).toNat % B128),Iv (e2-((e2-min e1 e2).toNat:Int)),Bv false])] []
    let Z12:=zH Z11 (zH Z10 Z9)
    refine iE 65 (zT [(8,.p 8 0),(9,.p 9 0),(30,Ba true)] (zT Z3 Z4)) Z12 ?_
    refine Am rfl (iQ 8 (eC 57 [.agg [Hw (A*10 ^ (e1-min e1 e2).toNat / B128),Lw (A*10 ^ (e1-min e1 e2).toNat / B128)],.agg [Hw (A*10 ^ (e1-min e1 e2).toNat % B128),Lw (A*10 ^ (e1-min e1 e2).toNat % B128)],.agg [Hw (B*10 ^ (e2-min e1 e2).toNat / B128),Lw (B*10 ^ (e2-min e1 e2).toNat / B128)],.agg [Hw (B*10 ^ (e2-min e1 e2).toNat % B128),Lw (B*10 ^ (e2-min e1 e2).toNat % B128)]] 59 (Pv w3 w4) (iQ 1 (iE 65 [(2,.p 2 0),(3,.p 3 0),(4,Ia 0),(5,Ia (Ch (A*10 ^ (e1-min e1 e2).toNat) (B*10 ^ (e2-min e1 e2).toNat))),(18,Ba false),(30,Ba true)] [(2,[Bv s1,Hw A,Lw A,Iv e1]),(3,[Bv s2,Hw B,Lw B,Iv e2])] ?_))))
    refine Cc hmid (Ch (A*10 ^ (e1-min e1 e2).toNat) (B*10 ^ (e2-min e1 e2).toNat),true) (rfl) (by kernel_rfl)
  ·replace hz:=bt hz
   have hsg:Dl s1 A≠Dl s2 B∨A=0:=.inr hz
   refine iT (Aa rfl (iQ 1 (eC 74 [.agg [Bv s1,Hw A,Lw A,Iv e1]] 20 (Hh hAB) (iQ 1 (eC 74 [.agg [Bv s2,Hw B,Lw B,Iv e2]] 22 (Hh hBB) (eC 114 [Iv (Dl s1 A),Iv (Dl s2 B)] 23 (So) (iQ 1 ?_)))))))
   let Z13:=zT [(2,.p 2 0),(3,.p 3 0),(4,Ia (Dd (Dl s1 A) (Dl s2 B))),(18,Ba true)] []
   let Z14:=zH [(2,[Bv s1,Hw A,Lw A,Iv e1]),(3,[Bv s2,Hw B,Lw B,Iv e2])] []
   refine iE 65 Z13 Z14 ?_
   refine Ab (Ag (iR (Iv (Dd (Dl s1 A) (Dl s2 B))) ?_))
   rw[a13 hsg]
 ·replace hc14:=bt hc14
  refine iQ 3 ?_
  let Z15:=zT [(2,.p 2 0),(3,.p 3 0),(4,Ia 0),(18,Ba true)] []
  let Z16:=zH [(2,[Bv s1,Hw A,Lw A,Iv e1]),(3,[Bv s2,Hw B,Lw B,Iv e2])] []
  refine iE 65 Z15 Z16 ?_
  have hsg:Dl s1 A≠Dl s2 B∨A=0:=.inl hc14
  refine iT (Aa rfl (iQ 1 (eC 74 [.agg [Bv s1,Hw A,Lw A,Iv e1]] 20 (Hh hAB) (iQ 1 (eC 74 [.agg [Bv s2,Hw B,Lw B,Iv e2]] 22 (Hh hBB) (eC 114 [Iv (Dl s1 A),Iv (Dl s2 B)] 23 (So) (iQ 1 ?_)))))))
  let Z17:=zT [(2,.p 2 0),(3,.p 3 0),(4,Ia (Dd (Dl s1 A) (Dl s2 B))),(18,Ba true)] []
  refine iE 65 Z17 Z16 ?_
  refine Ab (Ag (iR (Iv (Dd (Dl s1 A) (Dl s2 B))) ?_))
  rw[a13 hsg]
end Go.Proofs.YtdkgnmiiibpnnaaGreatDoor
