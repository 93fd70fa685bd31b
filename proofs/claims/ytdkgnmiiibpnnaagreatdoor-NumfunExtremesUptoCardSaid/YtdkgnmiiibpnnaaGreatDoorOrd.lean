/- The order of values turns and leads on. -/
import Derived.Test.YtdkgnmiiibpnnaaGreatDoorVlF
import Derived.Test.YtdkgnmiiibpnnaaGreatDoorDecY
namespace Go.Proofs.YtdkgnmiiibpnnaaGreatDoor
open Go.RowKit
set_option linter.unusedVariables false
set_option linter.unusedSimpArgs false
set_option maxRecDepth 100000
theorem a3k : ∀ a b:L8,Lib.compareBytes b a = -Lib.compareBytes a b
 | [],[]=>rfl
 | [],_::_=>rfl
 | _::_,[]=>rfl
 | x::a,y::b=>by
  rw[Lib.compareBytes,Lib.compareBytes]
  simp only[UInt8.lt_iff_toNat_lt]
  by_cases h1:x.toNat<y.toNat
  ·rw[if_neg (show ¬ y.toNat<x.toNat by omega),if_pos h1,if_pos h1];rfl
  ·by_cases h2:y.toNat<x.toNat
   ·rw[if_pos h2,if_neg h1,if_pos h2]
   ·rw[if_neg h2,if_neg h1,if_neg h1,if_neg h2,a3k a b]
theorem b5u : ∀ {a b c:L8},Lib.compareBytes a b≤0→Lib.compareBytes b c≤0→Lib.compareBytes a c≤0
 | [],b,[],_,_=>by simp[Lib.compareBytes]
 | [],b,_::_,_,_=>by simp[Lib.compareBytes]
 | _::_,[],c,h,_=>by simp[Lib.compareBytes] at h
 | _::_,_::_,[],_,h=>by simp[Lib.compareBytes] at h
 | x::a,y::b,z::c,h1,h2=>by
  rw[Lib.compareBytes] at h1 h2 ⊢
  simp only[UInt8.lt_iff_toNat_lt] at h1 h2 ⊢
  split at h1
  ·split at h2
   ·rw[if_pos (by omega)];decide
   ·split at h2
    ·omega
    ·rw[if_pos (by omega)];decide
  ·split at h1
   ·omega
   ·split at h2
    ·rw[if_pos (by omega)];decide
    ·split at h2
     ·omega
     ·rw[if_neg (by omega),if_neg (by omega)]
      exact b5u h1 h2
theorem Kl {x y z:Int} (h1:Bz x y≤0) (h2:Bz y z≤0):Bz x z≤0:=by
 rw[b2l] at *
 omega
theorem b47 {s1 s2 s3:Bool} {A B C:Nat} {e1 e2 e3:Int} (h1:Ju s1 A e1 s2 B e2≤0) (h2:Ju s2 B e2 s3 C e3≤0):Ju s1 A e1 s3 C e3≤0:=by
 rw[Se (E:=min (min e1 e2) e3) (by omega) (by omega)] at h1 h2 ⊢
 exact Kl h1 h2
theorem b15 (a b:Vl):Cd b a=(Cd a b).map (fun c => -c):=by
 by_cases h:a.kindI=b.kindI
 ·cases a
  case num g n e=>obtain ⟨g',n',e',rfl⟩:=Yu h.symm;simp only[Cd,Option.map_some,a5w g g' n n' e e']
  case text l=>obtain ⟨l',rfl⟩:=a0r h.symm;simp only[Cd,Option.map_some,a3k l l']
  case day y m d=>obtain ⟨y',m',d',rfl⟩:=a0i h.symm;simp only[Cd,Option.map_some,Fj (Nb y m d)]
  case time s z o =>
   obtain ⟨s',z',o',rfl⟩:=a1e h.symm
   simp only[Cd]
   by_cases hz:z=z'
   ·rw[if_pos hz,if_pos hz.symm,Option.map_some,Fj (s-o)]
   ·rw[if_neg hz,if_neg (Ne.symm hz)];rfl
  case mom y m d s z o =>
   obtain ⟨y',m',d',s',z',o',rfl⟩:=a0g h.symm
   simp only[Cd]
   by_cases hz:z=z'
   ·rw[if_pos hz,if_pos hz.symm,Option.map_some,Fj (86400*Fg y m d+s-o)]
   ·rw[if_neg hz,if_neg (Ne.symm hz)];rfl
  case days n=>obtain ⟨n',rfl⟩:=a0p h.symm;simp only[Cd,Option.map_some,Fj n]
  case months n=>obtain ⟨n',rfl⟩:=Zd h.symm;simp only[Cd,Option.map_some,Fj n]
  all_goals
   rw[Wc (show ¬ (3≤b.kindI∧b.kindI≤9) by rw[← h];simp[Vl.kindI]),Wc (by simp[Vl.kindI])]
   rfl
 ·rw[Ic h,Ic (Ne.symm h)]
  rfl
theorem Rg {a b c:Vl} {i j:Int} (h1:Cd a b=some i) (h2:Cd b c=some j) : ∃ k,Cd a c=some k∧(i≤0→j≤0→k≤0):=by
 have hk:a.kindI=b.kindI:=by
  by_cases hk:a.kindI=b.kindI
  ·exact hk
  ·rw[Ic hk] at h1;cases h1
 have hk2:b.kindI=c.kindI:=by
  by_cases hk:b.kindI=c.kindI
  ·exact hk
  ·rw[Ic hk] at h2;cases h2
 cases a
 case num g n e =>
  obtain ⟨g',n',e',rfl⟩:=Yu hk.symm
  obtain ⟨g3,n3,e3,rfl⟩:=Yu hk2.symm
  simp only[Cd,Option.some.injEq] at h1 h2 ⊢
  exact ⟨_,rfl,fun a b=>b47 (by rw[h1];exact a) (by rw[h2];exact b)⟩
 case text l =>
  obtain ⟨l',rfl⟩:=a0r hk.symm
  obtain ⟨l3,rfl⟩:=a0r hk2.symm
  simp only[Cd,Option.some.injEq] at h1 h2 ⊢
  exact ⟨_,rfl,fun a b=>b5u (by rw[h1];exact a) (by rw[h2];exact b)⟩
 case day y m d =>
  obtain ⟨y',m',d',rfl⟩:=a0i hk.symm
  obtain ⟨y3,m3,d3,rfl⟩:=a0i hk2.symm
  simp only[Cd,Option.some.injEq] at h1 h2 ⊢
  exact ⟨_,rfl,fun a b=>Kl (by rw[h1];exact a) (by rw[h2];exact b)⟩
 case time s z o =>
  obtain ⟨s',z',o',rfl⟩:=a1e hk.symm
  obtain ⟨s3,z3,o3,rfl⟩:=a1e hk2.symm
  simp only[Cd] at h1 h2 ⊢
  split at h1
  ·split at h2
   ·rename_i e1 e2
    cases h1
    cases h2
    rw[if_pos (e1.trans e2)]
    exact ⟨_,rfl,fun a b=>Kl a b⟩
   ·cases h2
  ·cases h1
 case mom y m d s z o =>
  obtain ⟨y',m',d',s',z',o',rfl⟩:=a0g hk.symm
  obtain ⟨y3,m3,d3,s3,z3,o3,rfl⟩:=a0g hk2.symm
  simp only[Cd] at h1 h2 ⊢
  split at h1
  ·split at h2
   ·rename_i e1 e2
    cases h1
    cases h2
    rw[if_pos (e1.trans e2)]
    exact ⟨_,rfl,fun a b=>Kl a b⟩
   ·cases h2
  ·cases h1
 case days n =>
  obtain ⟨n',rfl⟩:=a0p hk.symm
  obtain ⟨n3,rfl⟩:=a0p hk2.symm
  simp only[Cd,Option.some.injEq] at h1 h2 ⊢
  exact ⟨_,rfl,fun a b=>Kl (by rw[h1];exact a) (by rw[h2];exact b)⟩
 case months n =>
  obtain ⟨n',rfl⟩:=Zd hk.symm
  obtain ⟨n3,rfl⟩:=Zd hk2.symm
  simp only[Cd,Option.some.injEq] at h1 h2 ⊢
  exact ⟨_,rfl,fun a b=>Kl (by rw[h1];exact a) (by rw[h2];exact b)⟩
 all_goals
  rw[Wc (by simp[Vl.kindI])] at h1
  cases h1
end Go.Proofs.YtdkgnmiiibpnnaaGreatDoor
