/- The reference's rounding: casuistref02. The reference's rounding: Cut, Fit, Mul. Sums and order of numbers, as plain data. The order of numbers, as plain data; what rounding keeps. Rounding keeps the order. dec: size, higher, Neg, at. dec.Add, Sub, Cmp. -/
import Derived.Test.YtfkfpkhgoijfdaaGreatDoorDecs
import Derived.Test.YtfkfpkhgoijfdaaGreatDoorVcZ
namespace Go.Proofs.YtfkfpkhgoijfdaaGreatDoor
open Go.RowKit
set_option linter.unusedVariables false
set_option linter.unusedSimpArgs false
set_option maxRecDepth 100000
structure UpC (L:Nat) (R:Bool) (c:Int):Prop where
 gt:0<c↔5<L∨(L=5∧R=true)
 eq:c=0↔L=5∧R=false
open Go.RowKit
set_option linter.unusedVariables false
set_option linter.unusedSimpArgs false
set_option maxRecDepth 100000
open Go.RowKit
set_option linter.unusedVariables false
set_option linter.unusedSimpArgs false
set_option maxRecDepth 100000
def sgnV (s:Bool) (n:Nat):Int:=if s then -(n:Int) else n
def a23 (x y:Int):Int:=if x<y then -1 else if x=y then 0 else 1
def V (s:Bool) (A:Nat) (e E:Int):Int:=sgnV s (A*10 ^ (e-E).toNat)
def cmpZ (s1:Bool) (A:Nat) (e1:Int) (s2:Bool) (B:Nat) (e2:Int):Int:=a23 (V s1 A e1 (min e1 e2)) (V s2 B e2 (min e1 e2))
def atN (A:Nat) (e low:Int):Nat:=A*10 ^ (e-low).toNat / 10 ^ (low-e).toNat
def atM (A:Nat) (e low:Int):Bool:=decide (A % 10 ^ (low-e).toNat≠0)
theorem a8n {A:Nat} {e low:Int} (h:low≤e):atN A e low=A*10 ^ (e-low).toNat∧atM A e low=false:=by
 unfold atN atM
 rw[show (low-e).toNat=0 by omega]
 simp[Nat.mod_one]
structure AddPre (A B:Nat) (e1 e2 low:Int):Prop where
 ha:A<E34
 hb:B<E34
 hi:B=0∨(A≠0∧e2+nd B≤e1+nd A)
 z:A=0→low=min e1 e2
 nz:A≠0→low=max (min e1 e2) (e1+nd A-70)
theorem AddPre.le {A B:Nat} {e1 e2 low:Int} (p:AddPre A B e1 e2 low):low≤e1:=by
 have:=Ij 34 A p.ha
 by_cases h:A=0
 ·have:=p.z h
  omega
 ·have:=p.nz h
  omega
theorem AddPre.two {A B:Nat} {e1 e2 low:Int} (p:AddPre A B e1 e2 low):(low=min e1 e2∧atM B e2 low=false)∨(A≠0∧e2<low∧min e1 e2=e2∧nd (atN A e1 low)=70):=by
 have hle:=p.le
 by_cases h:A=0
 ·have:=p.z h
  exact .inl ⟨this,(a8n (by omega)).2⟩
 ·have:=p.nz h
  rcases Int.lt_or_le (min e1 e2) (e1+nd A-70) with k | k
  ·refine .inr ⟨h,by omega,by omega,?_⟩
   rw[(a8n hle).1,Wi (Nat.pos_of_ne_zero h)]
   have:=Ij 34 A p.ha
   omega
  ·exact .inl ⟨by omega,(a8n (by omega)).2⟩
open Go.RowKit
set_option linter.unusedVariables false
set_option linter.unusedSimpArgs false
set_option maxRecDepth 100000
open Go.RowKit
set_option linter.unusedVariables false
set_option linter.unusedSimpArgs false
set_option maxRecDepth 100000
open Go.RowKit
set_option linter.unusedVariables false
set_option linter.unusedSimpArgs false
set_option maxRecDepth 100000
theorem b5s {g:Bool} {A:Nat} {e:Int} (hA:A<B128):HasC Tryz.prog 107 [.agg [.v (.bool g),.v (.int .u64 (hiW (A))),.v (.int .u64 (loW (A))),.v (.int .i64 e)]] (fun y=>y=Jz (!g&&decide (A≠0)) A e):=by
 refine hO [] Tryz.f107 (fun a w=>Tryz.call107 a w) Tryz.func107 rfl (⟨_,rfl⟩) ?_
 refine Aa rfl (iQ 2 ?_)
 let Z1:=zH [(1,[Bv g,Hw A,Lw A,Iv e]),(2,[Bv false,Uv 0,Uv 0,Iv 0])] []
 refine iE 13 [(1,.p 1 0),(2,.p 2 0)] Z1 ?_
 refine Aa rfl (iQ 2 (jU .not (.bool g) 5 ?_))
 intro c5 hc5
 refine iQ 1 ?_
 cases c5
 ·replace hc5:=bf hc5
  refine iQ 6 ?_
  let Z2:=zH [(1,[Bv false,Hw A,Lw A,Iv e]),(2,[Bv false,Uv 0,Uv 0,Iv 0])] []
  refine iE 13 [(1,.p 1 0),(2,.p 2 0)] Z2 ?_
  refine Aa rfl (iQ 2 ?_)
  let Z3:=zH [(1,[Bv false,Hw A,Lw A,Iv e]),(2,[Bv false,Hw A,Lw A,Iv e])] []
  refine iE 13 [(1,.p 1 0),(2,.p 2 0)] Z3 ?_
  refine Ab (iR (.agg [Bv false,Hw A,Lw A,Iv e]) ?_)
  have hg:g=true:=by simpa using hc5
  rw[hg];rfl
 ·replace hc5:=bt hc5
  refine iQ 1 (jC 75 [.agg [Bv g,Hw A,Lw A,Iv e]] 8 (b3f hA) ?_)
  rintro _ ⟨z,rfl,hz⟩
  refine jU .not (.bool z) 9 ?_
  intro c9 hc9
  refine iQ 3 ?_
  let Z4:=zH [(1,[Bv c9,Hw A,Lw A,Iv e]),(2,[Bv false,Uv 0,Uv 0,Iv 0])] []
  refine iE 13 [(1,.p 1 0),(2,.p 2 0)] Z4 ?_
  refine Aa rfl (iQ 2 ?_)
  let Z5:=zH [(1,[Bv c9,Hw A,Lw A,Iv e]),(2,[Bv c9,Hw A,Lw A,Iv e])] []
  refine iE 13 [(1,.p 1 0),(2,.p 2 0)] Z5 ?_
  refine Ab (iR (.agg [Bv c9,Hw A,Lw A,Iv e]) ?_)
  have hc:(!g&&decide (A≠0))=c9:=by rw[hc5,Bool.eq_iff_iff,hc9];cases z<;>simp_all
  rw[hc];rfl
open Go.RowKit
set_option linter.unusedVariables false
set_option linter.unusedSimpArgs false
set_option maxRecDepth 100000
theorem AddPre.low {A B:Nat} {e1 e2 low:Int} (p:AddPre A B e1 e2 low) (h1 : -10000000000000000≤e1) (h2 : -10000000000000000≤e2) : -10000000000000100≤low:=by
 by_cases h:A=0
 ·have:=p.z h
  omega
 ·have:=p.nz h
  omega
end Go.Proofs.YtfkfpkhgoijfdaaGreatDoor
