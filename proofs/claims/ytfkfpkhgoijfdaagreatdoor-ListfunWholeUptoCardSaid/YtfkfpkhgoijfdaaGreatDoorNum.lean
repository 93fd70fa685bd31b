/- Numbers of two words as pairs of integers: what a pair of words says, and small facts on such pairs. -/
import Derived.Test.YtfkfpkhgoijfdaaGreatDoorRows
import Derived.WalkKit
namespace Go.Proofs.YtfkfpkhgoijfdaaGreatDoor
open Go.RowKit
structure IsU (h l:Int) (n:Nat):Prop where
 h0:0≤h
 h1:h<18446744073709551616
 l0:0≤l
 l1:l<18446744073709551616
 eq:h*18446744073709551616+l=(n:Int)
theorem IsU.lt {h l:Int} {n:Nat} (u:IsU h l n):n<340282366920938463463374607431768211456:=by
 obtain ⟨a,b,c,d,e⟩:=u;omega
theorem IsU.zero:IsU 0 0 0:=⟨by omega,by omega,by omega,by omega,by omega⟩
theorem IsU.of (l:Nat) (hl:l<18446744073709551616):IsU 0 (l:Int) l:=⟨by omega,by omega,by omega,by omega,by omega⟩
theorem IsU.ofInt {l:Int} (h0:0≤l) (h1:l<18446744073709551616):IsU 0 l l.toNat:=⟨by omega,by omega,by omega,by omega,by omega⟩
theorem IsU.mk' {h l:Nat} (hh:h<18446744073709551616) (hl:l<18446744073709551616):IsU (h:Int) (l:Int) (h*18446744073709551616+l):=⟨by omega,by omega,by omega,by omega,by omega⟩
theorem IsU.inj {h l h' l':Int} {n:Nat} (u:IsU h l n) (v:IsU h' l' n):h=h'∧l=l':=by
 obtain ⟨a,b,c,d,e⟩:=u;obtain ⟨a',b',c',d',e'⟩:=v;omega
theorem IsU.fn {h l:Int} {n m:Nat} (u:IsU h l n) (v:IsU h l m):n=m:=by
 obtain ⟨a,b,c,d,e⟩:=u;obtain ⟨a',b',c',d',e'⟩:=v;omega
theorem IsU.nat {h l:Int} {n:Nat} (u:IsU h l n) : ∃ H L:Nat,h=(H:Int)∧l=(L:Int)∧H<18446744073709551616∧L<18446744073709551616∧n=H*18446744073709551616+L:=by
 obtain ⟨a,b,c,d,e⟩:=u
 exact ⟨h.toNat,l.toNat,by omega,by omega,by omega,by omega,by omega⟩
theorem IsU.cast {h l:Int} {n m:Nat} (u:IsU h l n) (e:n=m):IsU h l m:=e ▸ u
structure IsW (c:Int) (n:Nat):Prop where
 c0:0≤c
 c1:c<18446744073709551616
 eq:c=(n:Int)
theorem IsW.lt {c:Int} {n:Nat} (u:IsW c n):n<18446744073709551616:=by
 obtain ⟨a,b,e⟩:=u;omega
theorem IsW.ofNat (n:Nat) (h:n<18446744073709551616):IsW (n:Int) n:=⟨by omega,by omega,rfl⟩
theorem IsW.cast {c:Int} {n m:Nat} (u:IsW c n) (e:n=m):IsW c m:=e ▸ u
theorem IsW.isU {c:Int} {n:Nat} (u:IsW c n):IsU 0 c n:=by
 obtain ⟨a,b,e⟩:=u;exact ⟨by omega,by omega,a,b,by omega⟩
def Lv (a b:Nat):Int:=if a<b then -1 else if a=b then 0 else 1
theorem a22 {a b:Nat} (h:a<b):Lv a b = -1:=by unfold Lv;rw[if_pos h]
theorem b2m (a:Nat):Lv a a=0:=by unfold Lv;rw[if_neg (by omega),if_pos rfl]
theorem a3k {a b:Nat} (h:b<a):Lv a b=1:=by unfold Lv;rw[if_neg (by omega),if_neg (by omega)]
def Lg (n:Nat):Bool:=decide (n=0)
theorem Xe {n:Nat} (h:n=0):Lg n=true:=by simp[Lg,h]
theorem Qn {n:Nat} (h:n≠0):Lg n=false:=by simp[Lg,h]
theorem lt1 {a b:Nat} (h:a+1≤b):a<b:=by omega
theorem lt2 {a b:Nat} (h:a+1+1≤b):a<b∧a+1<b:=by omega
end Go.Proofs.YtfkfpkhgoijfdaaGreatDoor
