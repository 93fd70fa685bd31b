/- The least and the greatest of some values, as plain laws. -/
import Derived.Test.YtdkgnmiiibpnnaaGreatDoorOrd
namespace Go.Proofs.YtdkgnmiiibpnnaaGreatDoor
open Go.RowKit
set_option linter.unusedVariables false
set_option linter.unusedSimpArgs false
set_option maxRecDepth 100000
theorem Ez {a b:Vl} {c:Int} (h:Cd a b=some c):Cd b a=some (-c):=by rw[b15,h];rfl
theorem a29 {a b c:Vl} {i j s:Int} (hs:s=1∨s = -1) (h1:Cd a b=some i) (h2:Cd b c=some j) : ∃ k,Cd a c=some k∧(s*i≤0→s*j≤0→s*k≤0):=by
 rcases hs with rfl | rfl
 ·obtain ⟨k,h3,h4⟩:=Rg h1 h2
  exact ⟨k,h3,by omega⟩
 ·obtain ⟨k,h3,h4⟩:=Rg (Ez h2) (Ez h1)
  exact ⟨-k,Ez h3,by omega⟩
theorem Mi {a b:Vl} {c:Int} (h:Cd a b=some c):Cd a a=some 0:=by
 obtain ⟨k,h1,_⟩:=Rg h (Ez h)
 have h2:=Ez h1
 rw[h1] at h2
 rw[h1]
 injection h2 with h2
 congr 1
 omega
def ExI (s:Int) (p:List Vl) (w:Vl):Prop :=
 (∃ k:Nat,p[k]? = some w ∧ ∀ (j:Nat) (x:Vl),j<k→p[j]? = some x→Cd x w≠some 0) ∧ ∀ x ∈ p,∃ c,Cd x w=some c∧0≤s*c
theorem Kn {s:Int} {p:List Vl} {w:Vl} (h:ExI s p w):w ∈ p:=h.1.elim fun _ hk=>List.mem_of_getElem? hk.1
theorem a27 {s:Int} {v:Vl} (hk:3≤v.kindI∧v.kindI≤9) (hv:Cd v v=some 0):ExI s [v] v :=
 ⟨⟨0,rfl,fun j x hj=>absurd hj (Nat.not_lt_zero j)⟩,fun x hx=>by
  rw[List.mem_singleton.1 hx]
  exact ⟨0,hv,by omega⟩⟩
theorem Sm {s c:Int} {p:List Vl} {w v:Vl} (hs:s=1∨s = -1) (h:ExI s p w) (hv:Cd v w=some c) (hc : ¬ s*c<0):ExI s (p ++ [v]) w:=by
 obtain ⟨⟨k,h1,h2⟩,h3⟩:=h
 have hk:k<p.length:=(List.getElem?_eq_some_iff.1 h1).1
 refine ⟨⟨k,by rw[List.getElem?_append_left hk];exact h1,fun j x hj hx=>h2 j x hj (by rwa[List.getElem?_append_left (by omega)] at hx)⟩,fun x hx => ?_⟩
 rcases List.mem_append.1 hx with hx | hx
 ·exact h3 x hx
 ·rw[List.mem_singleton.1 hx]
  exact ⟨c,hv,by omega⟩
theorem Sf {s c:Int} {p:List Vl} {w v:Vl} (hs:s=1∨s = -1) (h:ExI s p w) (hv:Cd v w=some c) (hc:s*c<0):ExI s (p ++ [v]) v:=by
 have key : ∀ x ∈ p,∃ k,Cd x v=some k∧0<s*k:=fun x hx=>by
  obtain ⟨i,h1,h2⟩:=h.2 x hx
  obtain ⟨k,h3,h4⟩:=a29 hs h1 (Ez hv)
  refine ⟨k,h3,Classical.byContradiction fun hn => ?_⟩
  obtain ⟨q,h5,h6⟩:=a29 hs (Ez h1) h3
  rw[Ez hv] at h5
  injection h5 with h5
  subst h5
  rcases hs with rfl | rfl<;>omega
 have hvv:=Mi hv
 refine ⟨⟨p.length,by rw[List.getElem?_append_right (Nat.le_refl _)];simp,fun j x hj hx e => ?_⟩,fun x hx => ?_⟩
 ·rw[List.getElem?_append_left hj] at hx
  obtain ⟨k,h1,h2⟩:=key x (List.mem_of_getElem? hx)
  rw[h1] at e
  injection e with e
  rw[e] at h2
  omega
 ·rcases List.mem_append.1 hx with hx | hx
  ·obtain ⟨k,h1,h2⟩:=key x hx
   exact ⟨k,h1,by omega⟩
  ·rw[List.mem_singleton.1 hx]
   exact ⟨0,hvv,by omega⟩
def Lz:List Vl→Prop
 | []=>False
 | v::r=>(3≤v.kindI∧v.kindI≤9) ∧ ∀ x ∈ r,(Cd x v).isSome=true
theorem Sw {v:Vl} (hk:3≤v.kindI∧v.kindI≤9):Cd v v=some 0:=by
 have:(Cd v v).isSome=true:=by
  cases v<;>simp[Vl.kindI] at hk<;>simp[Cd]
 obtain ⟨c,hc⟩:=Option.isSome_iff_exists.1 this
 exact Mi hc
theorem b3m {s:Int} {v w:Vl} {r:List Vl} (hk:3≤v.kindI∧v.kindI≤9) (h:ExI s (v::r) w):Lz (v::r):=⟨hk,fun x hx=>by
 obtain ⟨i,h1,_⟩:=h.2 x (List.mem_cons_of_mem _ hx)
 obtain ⟨j,h2,_⟩:=h.2 v (List.mem_cons_self ..)
 obtain ⟨k,h3,_⟩:=Rg h1 (Ez h2)
 rw[h3];rfl⟩
theorem a3l {s:Int} {v w x:Vl} {r p:List Vl} (h:ExI s p w) (hp : ∀ y ∈ p,y ∈ v::r) (hv:v ∈ p) (hx:x ∈ v::r) (hn:Cd x w=none) : ¬ Lz (v::r):=fun hA=>by
 obtain ⟨j,h2,_⟩:=h.2 v hv
 have hxv : ∃ i,Cd x v=some i:=by
  rcases List.mem_cons.1 hx with e | e
  ·rw[e];exact ⟨0,Sw hA.1⟩
  ·exact Option.isSome_iff_exists.1 (hA.2 x e)
 obtain ⟨i,h3⟩:=hxv
 obtain ⟨k,h4,_⟩:=Rg h3 h2
 rw[hn] at h4
 cases h4
def ExQ (s:Int) (vs:List Vl) (w:Vl):Prop:=(w=.null ∧ ¬ Lz vs)∨(Lz vs∧ExI s vs w∧3≤w.kindI∧w.kindI≤9)
theorem Zi {s:Int} {p:List Vl} {v w:Vl} (h:ExI s p w) (hv:v ∈ p) (hk:3≤v.kindI∧v.kindI≤9):3≤w.kindI∧w.kindI≤9:=by
 obtain ⟨j,h2,_⟩:=h.2 v hv
 by_cases e:v.kindI=w.kindI
 ·omega
 ·rw[Ic e] at h2;cases h2
theorem b96 {s:Int} (hs:s=1∨s = -1) (vs:List Vl) : ∃ w,ExQ s vs w:=by
 by_cases hA:Lz vs
 ·match vs,hA with
  | v::r,hA =>
   have : ∀ k,k≤r.length → ∃ w,ExI s ((v::r).take (k+1)) w:=fun k=>by
    induction k with
    | zero=>exact fun _=>⟨v,a27 hA.1 (Sw hA.1)⟩
    | succ k ih =>
     intro hk
     obtain ⟨w,hw⟩:=ih (by omega)
     have hlt:k+1<(v::r).length:=by simp;omega
     obtain ⟨x,hx⟩ : ∃ x,(v::r)[k+1]? = some x:=⟨_,List.getElem?_eq_getElem hlt⟩
     have e:(v::r).take (k+1+1)=(v::r).take (k+1) ++ [x]:=by
      rw[List.take_add_one,hx];rfl
     rw[e]
     cases hc:Cd x w with
     | none=>exact absurd hA (a3l hw (fun y hy=>List.mem_of_mem_take hy) (by simp) (List.mem_of_getElem? hx) hc)
     | some c =>
      by_cases h0:s*c<0
      ·exact ⟨x,Sf hs hw hc h0⟩
      ·exact ⟨w,Sm hs hw hc h0⟩
   obtain ⟨w,hw⟩:=this r.length (Nat.le_refl _)
   rw[List.take_of_length_le (by simp)] at hw
   exact ⟨w,.inr ⟨hA,hw,Zi hw (List.mem_cons_self ..) hA.1⟩⟩
 ·exact ⟨.null,.inl ⟨rfl,hA⟩⟩
theorem Fs {s:Int} {vs:List Vl} {w:Vl} (h:ExQ s vs w):w.kindI=1 ↔ ¬ Lz vs:=by
 rcases h with ⟨rfl,h⟩ | ⟨h,_,k1,k2⟩
 ·exact ⟨fun _=>h,fun _=>rfl⟩
 ·exact ⟨fun e=>by omega,fun e=>absurd h e⟩
theorem Qh {s:Int} {vs:List Vl} {w:Vl} (h:ExQ s vs w) (hA:Lz vs):ExI s vs w:=by
 rcases h with ⟨_,h⟩ | ⟨_,h,_⟩
 ·exact absurd hA h
 ·exact h
noncomputable def Ke (v:Vl) (z:Int) (vs:List Vl):Nat:=vs.countP fun x=>decide (Cd x v=some z)
theorem Km {s z:Int} {vs:List Vl} {w:Vl} (h:ExI s vs w) (hz:s*z<0):Ke w z vs=0:=by
 rw[Ke,List.countP_eq_zero]
 intro x hx e
 obtain ⟨c,h1,h2⟩:=h.2 x hx
 rw[h1] at e
 have:c=z:=by simpa using e
 subst this
 omega
theorem Lb {s:Int} {vs:List Vl} {w:Vl} (h:ExI s vs w):0<Ke w 0 vs:=by
 rw[Ke,List.countP_pos_iff]
 refine ⟨w,Kn h,?_⟩
 obtain ⟨c,h1,_⟩:=h.2 w (Kn h)
 rw[Mi h1]
 simp
theorem a64 {w y:Vl} {z:Int} {vs:List Vl} {k:Nat} (h:vs[k]? = some y):Ke w z (vs.take (k+1))=Ke w z (vs.take k)+if Cd y w=some z then 1 else 0:=by
 rw[List.take_add_one,h]
 simp[Ke,List.countP_append,List.countP_cons]
end Go.Proofs.YtdkgnmiiibpnnaaGreatDoor
