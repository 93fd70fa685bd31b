/- numeral: numbers as texts, and texts as numbers: in lists of bytes, with no program in sight. -/
import Derived.Test.YtfkfpkhgoijfdaaGreatDoorVcZ
import Derived.Test.YtfkfpkhgoijfdaaGreatDoorDecs
namespace Go.Proofs.YtfkfpkhgoijfdaaGreatDoor
open Go.RowKit
set_option linter.unusedVariables false
set_option linter.unusedSimpArgs false
set_option maxRecDepth 100000
def Fa (c:UInt8):L8→Nat
 | []=>0
 | x::l=>if x=c then 0 else Fa c l+1
def Du (c:UInt8) (l:L8):L8×L8×Bool:=if Fa c l<l.length then (l.take (Fa c l),l.drop (Fa c l+1),true) else (l,[],false)
theorem a6x (c:UInt8) (l:L8):(Du c l).1.length≤l.length∧(Du c l).2.1.length≤l.length:=by
 unfold Du
 split<;>simp<;>omega
def Cf (l:L8):Bool := !l.isEmpty&&l.all Cl
theorem Ew {l:L8}:Cf l=true↔l≠[]∧l.all Cl=true:=by
 unfold Cf
 cases l<;>simp
def Dz (e:L8):L8:=if e.head?=some 45∨e.head?=some 43 then e.tail else e
def b8c (l:L8):Bool := !(Du 69 l).2.2||(Cf (Dz (Du 69 l).2.1)&&decide ((Dz (Du 69 l).2.1).length≤6))
def b64 (s:L8):Bool:=((Du 46 s).2.2&&Cf (Du 46 s).2.1&&((Du 46 s).1.isEmpty||Cf (Du 46 s).1))||(!(Du 46 s).2.2&&Cf (Du 46 s).1)
def Gu (l:L8):Bool:=b8c l&&b64 (Du 69 l).1
def Ir (e:L8):Int:=if e.head?=some 45 then -(nvL (Dz e):Int) else nvL (Dz e)
def b65 (l:L8):L8:=(Du 46 (Du 69 l).1).1 ++ (Du 46 (Du 69 l).1).2.1
def b7v (l:L8):Nat:=nvL (b65 l)
def b8p (l:L8):Int:=Ir (Du 69 l).2.1-(Du 46 (Du 69 l).1).2.1.length
noncomputable def Gb (l:L8):T4:=if Gu l then Lo 1 false (b7v l) (b8p l) false else (false,0,0,false)
def Jg (N:Nat) (e:Int):L8 :=
 if e<0 ∧ -40≤e then
  let s:=List.replicate ((-e).toNat+1-(Lib.decDigits N).length) 48 ++ Lib.decDigits N
  s.take (s.length-(-e).toNat) ++ 46::s.drop (s.length-(-e).toNat)
 else if e=0 then Lib.decDigits N else Lib.decDigits N ++ 69::Lib.itoa e
def Dr (neg:Bool) (N:Nat) (e:Int):L8:=if neg then 45::Jg N e else Jg N e
theorem b2v {N k:Nat} (h:N<10 ^ k) (hk:k≠0):(Lib.decDigits N).length≤k:=by
 rw[Lib.decDigits_length]
 by_cases h0:N=0
 ·subst h0
  have:Lib.nDigits 0=1:=Lib.nDigits_small (by decide)
  omega
 ·rw[← Ro h0]
  exact Jf _ _ h
theorem a1p : ∀ (l:L8) (n:Nat),nvA n l=n*10 ^ l.length+nvL l
 | [],n=>by simp[nvA,nvL]
 | c::l,n=>by
  show nvA (n*10+(c.toNat-48)) l=n*10 ^ (l.length+1)+nvA (0*10+(c.toNat-48)) l
  rw[a1p l,a1p l (0*10+(c.toNat-48)),Nat.pow_succ,Nat.add_mul,Nat.add_mul,Nat.mul_assoc n 10,Nat.mul_comm 10 (10 ^ l.length)]
  omega
theorem a3d (a b:L8):nvL (a ++ b)=nvL a*10 ^ b.length+nvL b:=by
 rw[← a1p]
 simp[nvL,nvA,List.foldl_append]
theorem Sh (c:UInt8) (l:L8):nvL (c::l)=(c.toNat-48)*10 ^ l.length+nvL l:=by
 have:=a3d [c] l
 rw[List.singleton_append] at this
 rw[this]
 congr 2
 show 0*10+(c.toNat-48)=c.toNat-48
 omega
def lz (l:L8):L8:=l.dropWhile (· == 48)
theorem a6l : ∀ l:L8,nvL (lz l)=nvL l
 | []=>rfl
 | c::l=>by
  unfold lz
  rw[List.dropWhile_cons]
  split
  ·rename_i h
   have:c=48:=by simpa using h
   rw[Sh,this]
   have:=a6l l
   unfold lz at this
   rw[this]
   simp
  ·rfl
theorem b04 {l:L8} {c:UInt8} {r:L8} (h:lz l=c::r):c≠48:=by
 intro e
 have:=List.head?_dropWhile_not (p:=(· == (48:UInt8))) l
 unfold lz at h
 rw[h] at this
 simp[e] at this
theorem b6h {l:L8} (h:l.all Cl=true):(lz l).all Cl=true:=by
 rw[List.all_eq_true] at h ⊢
 exact fun x hx=>h x ((List.dropWhile_sublist _).subset hx)
theorem b5x {l:L8} {c:UInt8} {r:L8} (h:l=c::r) (hd:l.all Cl=true) (hc:c≠48):10 ^ (l.length-1)≤nvL l:=by
 subst h
 rw[Sh]
 have h1:Cl c=true:=by simp at hd;exact hd.1
 have h2:=Cz.1 h1
 have h3:c.toNat≠48:=fun e=>hc (UInt8.toNat_inj.1 e)
 have h4:1*10 ^ r.length≤(c.toNat-48)*10 ^ r.length:=Nat.mul_le_mul_right _ (by omega)
 simp only[List.length_cons,Nat.add_sub_cancel]
 omega
theorem Yb : ∀ {l:L8},l.all Cl=true→(nvL l=0↔l.all (· == 48)=true)
 | [],h=>by simp[nvL,nvA]
 | c::l,h=>by
  simp only[List.all_cons,Bool.and_eq_true] at h ⊢
  have h2:=Cz.1 h.1
  rw[Sh,← Yb h.2]
  have h5:0<10 ^ l.length:=Nat.pow_pos (by decide)
  constructor
  ·intro e
   have e1:(c.toNat-48)*10 ^ l.length=0:=by omega
   rcases Nat.mul_eq_zero.1 e1 with q | q
   ·refine ⟨?_,by omega⟩
    have:c=48:=UInt8.toNat_inj.1 (by show c.toNat=48;omega)
    simp[this]
   ·omega
  ·rintro ⟨q,r⟩
   have:c=48:=by simpa using q
   rw[this,r]
   simp
theorem b11 {m:Int} {L:L8} {e:Int} {more:Bool} (hd:L.all Cl=true) (h0 : ∀ c r,L=c::r→c≠48) (hL:38<L.length) (hm:more=true ↔ ¬ (L.drop 38).all (· == 48)=true) :
  Lo m false (nvL L) e false=Lo m false (nvL (L.take 38)) (e+(L.length-38:Nat)) more:=by
 have hda:(L.take 38).all Cl=true∧(L.drop 38).all Cl=true:=by
  rw[← Bool.and_eq_true,← List.all_append,List.take_append_drop]
  exact hd
 have hlen:(L.drop 38).length=L.length-38:=List.length_drop
 have hnv:nvL L=nvL (L.take 38)*10 ^ (L.length-38)+nvL (L.drop 38):=by
  have:=a3d (L.take 38) (L.drop 38)
  rwa[List.take_append_drop,hlen] at this
 have hr:nvL (L.drop 38)<10 ^ (L.length-38):=Gf hda.2 (by omega)
 have hnd:35≤nd (nvL (L.take 38)):=by
  have ht:(L.take 38).length=38:=by rw[List.length_take];omega
  obtain ⟨c,r,hcr⟩ : ∃ c r,L=c::r:=by cases L with | nil=>simp at hL | cons c r=>exact ⟨c,r,rfl⟩
  have h2:L.take 38=c::r.take 37:=by rw[hcr];rfl
  have h3:=b5x h2 hda.1 (h0 c r hcr)
  rw[ht] at h3
  have:=b3y (n:=nvL (L.take 38)) (k:=37) h3
  omega
 have hmm:more=true↔false=true∨nvL (L.drop 38)≠0:=by
  rw[hm,Ne,Yb hda.2]
  simp
 have h:=a3r (m:=m) (neg:=false) (e:=e+(L.length-38:Nat)) hnd hr hmm
 rw[hnv,← h]
 congr 1
 omega
end Go.Proofs.YtfkfpkhgoijfdaaGreatDoor
