/- The contract of package wide's square root, for all arguments. -/
import Derived.Test.YtfkfpkhgoijfdaaGreatDoorWide5
import Derived.Deep.CutBlock
namespace Go.Proofs.YtfkfpkhgoijfdaaGreatDoor
open Go.RowKit
set_option linter.unusedVariables false
structure RInv (N k r x y:Nat):Prop where
 mult:r % 2 ^ k=0
 le:r*r≤N
 gt:N<(r+2 ^ k)*(r+2 ^ k)
 sq:x*340282366920938463463374607431768211456+y=r*r
theorem RInv.start {h l:Nat} (hh:h<340282366920938463463374607431768211456) (hl:l<340282366920938463463374607431768211456):RInv (h*340282366920938463463374607431768211456+l) 128 0 0 0 :=
 ⟨by simp,by simp,by rw[Nat.zero_add,show (2 ^ 128:Nat)=340282366920938463463374607431768211456 from rfl];omega,by simp⟩
theorem a88 {k:Nat} (h:1≤k):2 ^ k=2 ^ (k-1)+2 ^ (k-1):=by
 have:2 ^ k=2 ^ (k-1)*2:=by rw[← Nat.pow_succ,Nat.succ_eq_add_one,Nat.sub_add_cancel h]
 omega
theorem RInv.yes {N k r x y a b:Nat} (i:RInv N k r x y) (h:1≤k) (hle:(r+2 ^ (k-1))*(r+2 ^ (k-1))≤N) (hs:a*340282366920938463463374607431768211456+b=(r+2 ^ (k-1))*(r+2 ^ (k-1))):RInv N (k-1) (r+2 ^ (k-1)) a b:=by
 have e:=a88 h
 refine ⟨?_,hle,?_,hs⟩
 ·have:r % 2 ^ (k-1)=0:=by
   have h1:=i.mult
   have h2:2 ^ (k-1) ∣ 2 ^ k:=Nat.pow_dvd_pow 2 (by omega)
   exact Nat.mod_eq_zero_of_dvd (Nat.dvd_trans h2 (Nat.dvd_of_mod_eq_zero h1))
  rw[Nat.add_mod_right];exact this
 ·have:=i.gt
  rw[e,← Nat.add_assoc] at this
  exact this
theorem RInv.no {N k r x y:Nat} (i:RInv N k r x y) (h:1≤k) (hgt:N<(r+2 ^ (k-1))*(r+2 ^ (k-1))):RInv N (k-1) r x y:=by
 refine ⟨?_,i.le,hgt,i.sq⟩
 have h1:=i.mult
 have h2:2 ^ (k-1) ∣ 2 ^ k:=Nat.pow_dvd_pow 2 (by omega)
 exact Nat.mod_eq_zero_of_dvd (Nat.dvd_trans h2 (Nat.dvd_of_mod_eq_zero h1))
end Go.Proofs.YtfkfpkhgoijfdaaGreatDoor
