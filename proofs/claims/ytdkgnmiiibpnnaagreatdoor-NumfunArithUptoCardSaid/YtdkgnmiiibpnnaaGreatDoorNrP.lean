/- numeral: numbers as texts, and texts as numbers: in lists of bytes, with no program in sight. -/
import Derived.Test.YtdkgnmiiibpnnaaGreatDoorVcZ
import Derived.Test.YtdkgnmiiibpnnaaGreatDoorDecs
namespace Go.Proofs.YtdkgnmiiibpnnaaGreatDoor
open Go.RowKit
set_option linter.unusedVariables false
set_option linter.unusedSimpArgs false
set_option maxRecDepth 100000
def Em (c:UInt8):L8→Nat
 | []=>0
 | x::l=>if x=c then 0 else Em c l+1
def Dj (c:UInt8) (l:L8):L8×L8×Bool:=if Em c l<l.length then (l.take (Em c l),l.drop (Em c l+1),true) else (l,[],false)
theorem a7w (c:UInt8) (l:L8):(Dj c l).1.length≤l.length∧(Dj c l).2.1.length≤l.length:=by
 unfold Dj
 split<;>simp<;>omega
def Cb (l:L8):Bool := !l.isEmpty&&l.all Ch
theorem El {l:L8}:Cb l=true↔l≠[]∧l.all Ch=true:=by
 unfold Cb
 cases l<;>simp
def Dn (e:L8):L8:=if e.head?=some 45∨e.head?=some 43 then e.tail else e
def b7b (l:L8):Bool := !(Dj 69 l).2.2||(Cb (Dn (Dj 69 l).2.1)&&decide ((Dn (Dj 69 l).2.1).length≤6))
def b7p (s:L8):Bool:=((Dj 46 s).2.2&&Cb (Dj 46 s).2.1&&((Dj 46 s).1.isEmpty||Cb (Dj 46 s).1))||(!(Dj 46 s).2.2&&Cb (Dj 46 s).1)
def Gq (l:L8):Bool:=b7b l&&b7p (Dj 69 l).1
def Il (e:L8):Int:=if e.head?=some 45 then -(nvL (Dn e):Int) else nvL (Dn e)
def b8g (l:L8):L8:=(Dj 46 (Dj 69 l).1).1 ++ (Dj 46 (Dj 69 l).1).2.1
def b7k (l:L8):Nat:=nvL (b8g l)
def b67 (l:L8):Int:=Il (Dj 69 l).2.1-(Dj 46 (Dj 69 l).1).2.1.length
noncomputable def Fm (l:L8):T4:=if Gq l then Fb 1 false (b7k l) (b67 l) false else (false,0,0,false)
theorem a1h : ∀ (l:L8) (n:Nat),nvA n l=n*10 ^ l.length+nvL l
 | [],n=>by simp[nvA,nvL]
 | c::l,n=>by
  show nvA (n*10+(c.toNat-48)) l=n*10 ^ (l.length+1)+nvA (0*10+(c.toNat-48)) l
  rw[a1h l,a1h l (0*10+(c.toNat-48)),Nat.pow_succ,Nat.add_mul,Nat.add_mul,Nat.mul_assoc n 10,Nat.mul_comm 10 (10 ^ l.length)]
  omega
theorem a2f (a b:L8):nvL (a ++ b)=nvL a*10 ^ b.length+nvL b:=by
 rw[← a1h]
 simp[nvL,nvA,List.foldl_append]
theorem Rc (c:UInt8) (l:L8):nvL (c::l)=(c.toNat-48)*10 ^ l.length+nvL l:=by
 have:=a2f [c] l
 rw[List.singleton_append] at this
 rw[this]
 congr 2
 show 0*10+(c.toNat-48)=c.toNat-48
 omega
def lz (l:L8):L8:=l.dropWhile (· == 48)
theorem a6f : ∀ l:L8,nvL (lz l)=nvL l
 | []=>rfl
 | c::l=>by
  unfold lz
  rw[List.dropWhile_cons]
  split
  ·rename_i h
   have:c=48:=by simpa using h
   rw[Rc,this]
   have:=a6f l
   unfold lz at this
   rw[this]
   simp
  ·rfl
theorem b2q {l:L8} {c:UInt8} {r:L8} (h:lz l=c::r):c≠48:=by
 intro e
 have:=List.head?_dropWhile_not (p:=(· == (48:UInt8))) l
 unfold lz at h
 rw[h] at this
 simp[e] at this
theorem b43 {l:L8} (h:l.all Ch=true):(lz l).all Ch=true:=by
 rw[List.all_eq_true] at h ⊢
 exact fun x hx=>h x ((List.dropWhile_sublist _).subset hx)
theorem b4c {l:L8} {c:UInt8} {r:L8} (h:l=c::r) (hd:l.all Ch=true) (hc:c≠48):10 ^ (l.length-1)≤nvL l:=by
 subst h
 rw[Rc]
 have h1:Ch c=true:=by simp at hd;exact hd.1
 have h2:=Cr.1 h1
 have h3:c.toNat≠48:=fun e=>hc (UInt8.toNat_inj.1 e)
 have h4:1*10 ^ r.length≤(c.toNat-48)*10 ^ r.length:=Nat.mul_le_mul_right _ (by omega)
 simp only[List.length_cons,Nat.add_sub_cancel]
 omega
theorem Zp : ∀ {l:L8},l.all Ch=true→(nvL l=0↔l.all (· == 48)=true)
 | [],h=>by simp[nvL,nvA]
 | c::l,h=>by
  simp only[List.all_cons,Bool.and_eq_true] at h ⊢
  have h2:=Cr.1 h.1
  rw[Rc,← Zp h.2]
  have h5:0<10 ^ l.length:=Nat.pow_pos (by decide)
  constructor
  ·intro e
   have e1:(c.toNat-48)*10 ^ l.length=0:=by omega
   rcases Nat.mul_eq_zero.1 e1 with q | q
   ·refine ⟨?_,by omega⟩
    have:c=48:=UInt8.toNat_inj.1 (by show c.toNat=48;omega)
    simp[this]
   ·omega
  ·rintro ⟨q,r⟩
   have:c=48:=by simpa using q
   rw[this,r]
   simp
theorem b2v {m:Int} {L:L8} {e:Int} {more:Bool} (hd:L.all Ch=true) (h0 : ∀ c r,L=c::r→c≠48) (hL:38<L.length) (hm:more=true ↔ ¬ (L.drop 38).all (· == 48)=true) :
  Fb m false (nvL L) e false=Fb m false (nvL (L.take 38)) (e+(L.length-38:Nat)) more:=by
 have hda:(L.take 38).all Ch=true∧(L.drop 38).all Ch=true:=by
  rw[← Bool.and_eq_true,← List.all_append,List.take_append_drop]
  exact hd
 have hlen:(L.drop 38).length=L.length-38:=List.length_drop
 have hnv:nvL L=nvL (L.take 38)*10 ^ (L.length-38)+nvL (L.drop 38):=by
  have:=a2f (L.take 38) (L.drop 38)
  rwa[List.take_append_drop,hlen] at this
 have hr:nvL (L.drop 38)<10 ^ (L.length-38):=Fp hda.2 (by omega)
 have hnd:35≤nd (nvL (L.take 38)):=by
  have ht:(L.take 38).length=38:=by rw[List.length_take];omega
  obtain ⟨c,r,hcr⟩ : ∃ c r,L=c::r:=by cases L with | nil=>simp at hL | cons c r=>exact ⟨c,r,rfl⟩
  have h2:L.take 38=c::r.take 37:=by rw[hcr];rfl
  have h3:=b4c h2 hda.1 (h0 c r hcr)
  rw[ht] at h3
  have:=a61 (n:=nvL (L.take 38)) (k:=37) h3
  omega
 have hmm:more=true↔false=true∨nvL (L.drop 38)≠0:=by
  rw[hm,Ne,Zp hda.2]
  simp
 have h:=Jx (m:=m) (neg:=false) (e:=e+(L.length-38:Nat)) hnd hr hmm
 rw[hnv,← h]
 congr 1
 omega
end Go.Proofs.YtdkgnmiiibpnnaaGreatDoor
