/- numeral: numbers as texts, and texts as numbers: in lists of bytes, with no program in sight. -/
import Derived.Test.YtdkgnmiiibpnnaaGreatDoorVcZ
import Derived.Test.YtdkgnmiiibpnnaaGreatDoorDecs
namespace Go.Proofs.YtdkgnmiiibpnnaaGreatDoor
open Go.RowKit
set_option linter.unusedVariables false
set_option linter.unusedSimpArgs false
set_option maxRecDepth 100000
def Eu (c:UInt8):L8→Nat
 | []=>0
 | x::l=>if x=c then 0 else Eu c l+1
def Di (c:UInt8) (l:L8):L8×L8×Bool:=if Eu c l<l.length then (l.take (Eu c l),l.drop (Eu c l+1),true) else (l,[],false)
theorem b0a (c:UInt8) (l:L8):(Di c l).1.length≤l.length∧(Di c l).2.1.length≤l.length:=by
 unfold Di
 split<;>simp<;>omega
def Cd (l:L8):Bool := !l.isEmpty&&l.all Ci
theorem Er {l:L8}:Cd l=true↔l≠[]∧l.all Ci=true:=by
 unfold Cd
 cases l<;>simp
def Dq (e:L8):L8:=if e.head?=some 45∨e.head?=some 43 then e.tail else e
def c1g (l:L8):Bool := !(Di 69 l).2.2||(Cd (Dq (Di 69 l).2.1)&&decide ((Dq (Di 69 l).2.1).length≤6))
def c1h (s:L8):Bool:=((Di 46 s).2.2&&Cd (Di 46 s).2.1&&((Di 46 s).1.isEmpty||Cd (Di 46 s).1))||(!(Di 46 s).2.2&&Cd (Di 46 s).1)
def Gu (l:L8):Bool:=c1g l&&c1h (Di 69 l).1
def Ip (e:L8):Int:=if e.head?=some 45 then -(nvL (Dq e):Int) else nvL (Dq e)
def b8s (l:L8):L8:=(Di 46 (Di 69 l).1).1 ++ (Di 46 (Di 69 l).1).2.1
def b9f (l:L8):Nat:=nvL (b8s l)
def b9k (l:L8):Int:=Ip (Di 69 l).2.1-(Di 46 (Di 69 l).1).2.1.length
noncomputable def Fp (l:L8):T4:=if Gu l then Fg 1 false (b9f l) (b9k l) false else (false,0,0,false)
theorem a2p : ∀ (l:L8) (n:Nat),nvA n l=n*10 ^ l.length+nvL l
 | [],n=>by simp[nvA,nvL]
 | c::l,n=>by
  show nvA (n*10+(c.toNat-48)) l=n*10 ^ (l.length+1)+nvA (0*10+(c.toNat-48)) l
  rw[a2p l,a2p l (0*10+(c.toNat-48)),Nat.pow_succ,Nat.add_mul,Nat.add_mul,Nat.mul_assoc n 10,Nat.mul_comm 10 (10 ^ l.length)]
  omega
theorem a4m (a b:L8):nvL (a ++ b)=nvL a*10 ^ b.length+nvL b:=by
 rw[← a2p]
 simp[nvL,nvA,List.foldl_append]
theorem Sm (c:UInt8) (l:L8):nvL (c::l)=(c.toNat-48)*10 ^ l.length+nvL l:=by
 have:=a4m [c] l
 rw[List.singleton_append] at this
 rw[this]
 congr 2
 show 0*10+(c.toNat-48)=c.toNat-48
 omega
def lz (l:L8):L8:=l.dropWhile (· == 48)
theorem b1s : ∀ l:L8,nvL (lz l)=nvL l
 | []=>rfl
 | c::l=>by
  unfold lz
  rw[List.dropWhile_cons]
  split
  ·rename_i h
   have:c=48:=by simpa using h
   rw[Sm,this]
   have:=b1s l
   unfold lz at this
   rw[this]
   simp
  ·rfl
theorem b2r {l:L8} {c:UInt8} {r:L8} (h:lz l=c::r):c≠48:=by
 intro e
 have:=List.head?_dropWhile_not (p:=(· == (48:UInt8))) l
 unfold lz at h
 rw[h] at this
 simp[e] at this
theorem b6s {l:L8} (h:l.all Ci=true):(lz l).all Ci=true:=by
 rw[List.all_eq_true] at h ⊢
 exact fun x hx=>h x ((List.dropWhile_sublist _).subset hx)
theorem b8o {l:L8} {c:UInt8} {r:L8} (h:l=c::r) (hd:l.all Ci=true) (hc:c≠48):10 ^ (l.length-1)≤nvL l:=by
 subst h
 rw[Sm]
 have h1:Ci c=true:=by simp at hd;exact hd.1
 have h2:=Cy.1 h1
 have h3:c.toNat≠48:=fun e=>hc (UInt8.toNat_inj.1 e)
 have h4:1*10 ^ r.length≤(c.toNat-48)*10 ^ r.length:=Nat.mul_le_mul_right _ (by omega)
 simp only[List.length_cons,Nat.add_sub_cancel]
 omega
theorem a0f : ∀ {l:L8},l.all Ci=true→(nvL l=0↔l.all (· == 48)=true)
 | [],h=>by simp[nvL,nvA]
 | c::l,h=>by
  simp only[List.all_cons,Bool.and_eq_true] at h ⊢
  have h2:=Cy.1 h.1
  rw[Sm,← a0f h.2]
  have h5:0<10 ^ l.length:=Nat.pow_pos (by decide)
  constructor
  ·intro e
   have e1:(c.toNat-48)*10 ^ l.length=0:=by omega
   rcases Nat.mul_eq_zero.1 e1 with q | q
   ·refine ⟨?_,by omega⟩
    have:c=48:=UInt8.toNat_inj.1 (by show c.toNat=48;omega)
    simp[this]
   ·omega
  ·rintro ⟨q,r⟩
   have:c=48:=by simpa using q
   rw[this,r]
   simp
theorem b46 {m:Int} {L:L8} {e:Int} {more:Bool} (hd:L.all Ci=true) (h0 : ∀ c r,L=c::r→c≠48) (hL:38<L.length) (hm:more=true ↔ ¬ (L.drop 38).all (· == 48)=true) :
  Fg m false (nvL L) e false=Fg m false (nvL (L.take 38)) (e+(L.length-38:Nat)) more:=by
 have hda:(L.take 38).all Ci=true∧(L.drop 38).all Ci=true:=by
  rw[← Bool.and_eq_true,← List.all_append,List.take_append_drop]
  exact hd
 have hlen:(L.drop 38).length=L.length-38:=List.length_drop
 have hnv:nvL L=nvL (L.take 38)*10 ^ (L.length-38)+nvL (L.drop 38):=by
  have:=a4m (L.take 38) (L.drop 38)
  rwa[List.take_append_drop,hlen] at this
 have hr:nvL (L.drop 38)<10 ^ (L.length-38):=Fy hda.2 (by omega)
 have hnd:35≤nd (nvL (L.take 38)):=by
  have ht:(L.take 38).length=38:=by rw[List.length_take];omega
  obtain ⟨c,r,hcr⟩ : ∃ c r,L=c::r:=by cases L with | nil=>simp at hL | cons c r=>exact ⟨c,r,rfl⟩
  have h2:L.take 38=c::r.take 37:=by rw[hcr];rfl
  have h3:=b8o h2 hda.1 (h0 c r hcr)
  rw[ht] at h3
  have:=a4k (n:=nvL (L.take 38)) (k:=37) h3
  omega
 have hmm:more=true↔false=true∨nvL (L.drop 38)≠0:=by
  rw[hm,Ne,a0f hda.2]
  simp
 have h:=Kn (m:=m) (neg:=false) (e:=e+(L.length-38:Nat)) hnd hr hmm
 rw[hnv,← h]
 congr 1
 omega
end Go.Proofs.YtdkgnmiiibpnnaaGreatDoor
