/- Numbers of two words as pairs of integers: what a pair of words says, and small facts on such pairs. -/
import Derived.Test.YtdkgnmiiibpnnaaGreatDoorRows
import Derived.WalkKit
namespace Go.Proofs.YtdkgnmiiibpnnaaGreatDoor
open Go.RowKit
structure IsU (h l:Int) (n:Nat):Prop where
 h0:0≤h
 h1:h<18446744073709551616
 l0:0≤l
 l1:l<18446744073709551616
 eq:h*18446744073709551616+l=(n:Int)
theorem IsU.lt {h l:Int} {n:Nat} (u:IsU h l n):n<340282366920938463463374607431768211456:=by
 obtain ⟨a,b,c,d,e⟩:=u;omega
theorem IsU.zero:IsU 0 0 0:=⟨by omega,by omega,by omega,by omega,by omega⟩
theorem IsU.of (l:Nat) (hl:l<18446744073709551616):IsU 0 (l:Int) l:=⟨by omega,by omega,by omega,by omega,by omega⟩
theorem IsU.ofInt {l:Int} (h0:0≤l) (h1:l<18446744073709551616):IsU 0 l l.toNat:=⟨by omega,by omega,by omega,by omega,by omega⟩
theorem IsU.mk' {h l:Nat} (hh:h<18446744073709551616) (hl:l<18446744073709551616):IsU (h:Int) (l:Int) (h*18446744073709551616+l):=⟨by omega,by omega,by omega,by omega,by omega⟩
theorem IsU.inj {h l h' l':Int} {n:Nat} (u:IsU h l n) (v:IsU h' l' n):h=h'∧l=l':=by
 obtain ⟨a,b,c,d,e⟩:=u;obtain ⟨a',b',c',d',e'⟩:=v;omega
theorem IsU.fn {h l:Int} {n m:Nat} (u:IsU h l n) (v:IsU h l m):n=m:=by
 obtain ⟨a,b,c,d,e⟩:=u;obtain ⟨a',b',c',d',e'⟩:=v;omega
theorem IsU.nat {h l:Int} {n:Nat} (u:IsU h l n) : ∃ H L:Nat,h=(H:Int)∧l=(L:Int)∧H<18446744073709551616∧L<18446744073709551616∧n=H*18446744073709551616+L:=by
 obtain ⟨a,b,c,d,e⟩:=u
 exact ⟨h.toNat,l.toNat,by omega,by omega,by omega,by omega,by omega⟩
theorem IsU.cast {h l:Int} {n m:Nat} (u:IsU h l n) (e:n=m):IsU h l m:=e ▸ u
structure IsW (c:Int) (n:Nat):Prop where
 c0:0≤c
 c1:c<18446744073709551616
 eq:c=(n:Int)
theorem IsW.lt {c:Int} {n:Nat} (u:IsW c n):n<18446744073709551616:=by
 obtain ⟨a,b,e⟩:=u;omega
theorem IsW.ofNat (n:Nat) (h:n<18446744073709551616):IsW (n:Int) n:=⟨by omega,by omega,rfl⟩
theorem IsW.cast {c:Int} {n m:Nat} (u:IsW c n) (e:n=m):IsW c m:=e ▸ u
theorem IsW.isU {c:Int} {n:Nat} (u:IsW c n):IsU 0 c n:=by
 obtain ⟨a,b,e⟩:=u;exact ⟨by omega,by omega,a,b,by omega⟩
def Cy (a b:Nat):Int:=if a<b then -1 else if a=b then 0 else 1
theorem a3s {a b:Nat} (h:a<b):Cy a b = -1:=by unfold Cy;rw[if_pos h]
theorem a3h (a:Nat):Cy a a=0:=by unfold Cy;rw[if_neg (by omega),if_pos rfl]
theorem a4c {a b:Nat} (h:b<a):Cy a b=1:=by unfold Cy;rw[if_neg (by omega),if_neg (by omega)]
def Ft (a b:Nat):Nat:=if a<b then 1 else 0
theorem Gm (a b:Nat):Ft a b=if a<b then 1 else 0:=rfl
theorem b0n {W w1:World} (hb:Below W.heap.size W w1):(∀ b o,b<W.heap.size→w1.cell? ⟨b,o,none⟩=W.cell? ⟨b,o,none⟩)∧(∀ b o,b<W.heap.size→w1.frozen? ⟨b,o,none⟩=W.frozen? ⟨b,o,none⟩) :=
 ⟨fun b o h=>hb.cell (p:=⟨b,o,none⟩) h,fun b o h=>hb.frozen (p:=⟨b,o,none⟩) h⟩
def Lq (n:Nat):Bool:=decide (n=0)
theorem Xv {n:Nat} (h:n=0):Lq n=true:=by simp[Lq,h]
theorem Qp {n:Nat} (h:n≠0):Lq n=false:=by simp[Lq,h]
theorem lt4 {a b:Nat} (h:a+1+1+1+1≤b):a<b∧a+1<b∧a+1+1<b∧a+1+1+1<b:=by omega
end Go.Proofs.YtdkgnmiiibpnnaaGreatDoor
