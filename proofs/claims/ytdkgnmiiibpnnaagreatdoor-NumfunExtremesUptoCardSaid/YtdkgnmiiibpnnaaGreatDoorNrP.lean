/- numeral: numbers as texts, and texts as numbers: in lists of bytes, with no program in sight. -/
import Derived.Test.YtdkgnmiiibpnnaaGreatDoorVcZ
import Derived.Test.YtdkgnmiiibpnnaaGreatDoorDecs
namespace Go.Proofs.YtdkgnmiiibpnnaaGreatDoor
open Go.RowKit
set_option linter.unusedVariables false
set_option linter.unusedSimpArgs false
set_option maxRecDepth 100000
def Es (c:UInt8):L8→Nat
 | []=>0
 | x::l=>if x=c then 0 else Es c l+1
def Dp (c:UInt8) (l:L8):L8×L8×Bool:=if Es c l<l.length then (l.take (Es c l),l.drop (Es c l+1),true) else (l,[],false)
theorem a9z (c:UInt8) (l:L8):(Dp c l).1.length≤l.length∧(Dp c l).2.1.length≤l.length:=by
 unfold Dp
 split<;>simp<;>omega
def Cc (l:L8):Bool := !l.isEmpty&&l.all Ci
theorem Eq {l:L8}:Cc l=true↔l≠[]∧l.all Ci=true:=by
 unfold Cc
 cases l<;>simp
def Dv (e:L8):L8:=if e.head?=some 45∨e.head?=some 43 then e.tail else e
def b9u (l:L8):Bool := !(Dp 69 l).2.2||(Cc (Dv (Dp 69 l).2.1)&&decide ((Dv (Dp 69 l).2.1).length≤6))
def b9n (s:L8):Bool:=((Dp 46 s).2.2&&Cc (Dp 46 s).2.1&&((Dp 46 s).1.isEmpty||Cc (Dp 46 s).1))||(!(Dp 46 s).2.2&&Cc (Dp 46 s).1)
def Gt (l:L8):Bool:=b9u l&&b9n (Dp 69 l).1
def Ie (e:L8):Int:=if e.head?=some 45 then -(nvL (Dv e):Int) else nvL (Dv e)
def b8w (l:L8):L8:=(Dp 46 (Dp 69 l).1).1 ++ (Dp 46 (Dp 69 l).1).2.1
def b9p (l:L8):Nat:=nvL (b8w l)
def b91 (l:L8):Int:=Ie (Dp 69 l).2.1-(Dp 46 (Dp 69 l).1).2.1.length
noncomputable def Fv (l:L8):T4:=if Gt l then Fk 1 false (b9p l) (b91 l) false else (false,0,0,false)
def Iz (N:Nat) (e:Int):L8 :=
 if e<0 ∧ -40≤e then
  let s:=List.replicate ((-e).toNat+1-(Lib.decDigits N).length) 48 ++ Lib.decDigits N
  s.take (s.length-(-e).toNat) ++ 46::s.drop (s.length-(-e).toNat)
 else if e=0 then Lib.decDigits N else Lib.decDigits N ++ 69::Lib.itoa e
def Dn (neg:Bool) (N:Nat) (e:Int):L8:=if neg then 45::Iz N e else Iz N e
theorem b3u {N k:Nat} (h:N<10 ^ k) (hk:k≠0):(Lib.decDigits N).length≤k:=by
 rw[Lib.decDigits_length]
 by_cases h0:N=0
 ·subst h0
  have:Lib.nDigits 0=1:=Lib.nDigits_small (by decide)
  omega
 ·rw[← Ss h0]
  exact Cp _ _ h
theorem a18 : ∀ (l:L8) (n:Nat),nvA n l=n*10 ^ l.length+nvL l
 | [],n=>by simp[nvA,nvL]
 | c::l,n=>by
  show nvA (n*10+(c.toNat-48)) l=n*10 ^ (l.length+1)+nvA (0*10+(c.toNat-48)) l
  rw[a18 l,a18 l (0*10+(c.toNat-48)),Nat.pow_succ,Nat.add_mul,Nat.add_mul,Nat.mul_assoc n 10,Nat.mul_comm 10 (10 ^ l.length)]
  omega
theorem a4f (a b:L8):nvL (a ++ b)=nvL a*10 ^ b.length+nvL b:=by
 rw[← a18]
 simp[nvL,nvA,List.foldl_append]
theorem Sz (c:UInt8) (l:L8):nvL (c::l)=(c.toNat-48)*10 ^ l.length+nvL l:=by
 have:=a4f [c] l
 rw[List.singleton_append] at this
 rw[this]
 congr 2
 show 0*10+(c.toNat-48)=c.toNat-48
 omega
def lz (l:L8):L8:=l.dropWhile (· == 48)
theorem b0a : ∀ l:L8,nvL (lz l)=nvL l
 | []=>rfl
 | c::l=>by
  unfold lz
  rw[List.dropWhile_cons]
  split
  ·rename_i h
   have:c=48:=by simpa using h
   rw[Sz,this]
   have:=b0a l
   unfold lz at this
   rw[this]
   simp
  ·rfl
theorem b4b {l:L8} {c:UInt8} {r:L8} (h:lz l=c::r):c≠48:=by
 intro e
 have:=List.head?_dropWhile_not (p:=(· == (48:UInt8))) l
 unfold lz at h
 rw[h] at this
 simp[e] at this
theorem b77 {l:L8} (h:l.all Ci=true):(lz l).all Ci=true:=by
 rw[List.all_eq_true] at h ⊢
 exact fun x hx=>h x ((List.dropWhile_sublist _).subset hx)
theorem b7i {l:L8} {c:UInt8} {r:L8} (h:l=c::r) (hd:l.all Ci=true) (hc:c≠48):10 ^ (l.length-1)≤nvL l:=by
 subst h
 rw[Sz]
 have h1:Ci c=true:=by simp at hd;exact hd.1
 have h2:=Db.1 h1
 have h3:c.toNat≠48:=fun e=>hc (UInt8.toNat_inj.1 e)
 have h4:1*10 ^ r.length≤(c.toNat-48)*10 ^ r.length:=Nat.mul_le_mul_right _ (by omega)
 simp only[List.length_cons,Nat.add_sub_cancel]
 omega
theorem Yo : ∀ {l:L8},l.all Ci=true→(nvL l=0↔l.all (· == 48)=true)
 | [],h=>by simp[nvL,nvA]
 | c::l,h=>by
  simp only[List.all_cons,Bool.and_eq_true] at h ⊢
  have h2:=Db.1 h.1
  rw[Sz,← Yo h.2]
  have h5:0<10 ^ l.length:=Nat.pow_pos (by decide)
  constructor
  ·intro e
   have e1:(c.toNat-48)*10 ^ l.length=0:=by omega
   rcases Nat.mul_eq_zero.1 e1 with q | q
   ·refine ⟨?_,by omega⟩
    have:c=48:=UInt8.toNat_inj.1 (by show c.toNat=48;omega)
    simp[this]
   ·omega
  ·rintro ⟨q,r⟩
   have:c=48:=by simpa using q
   rw[this,r]
   simp
theorem b3v {m:Int} {L:L8} {e:Int} {more:Bool} (hd:L.all Ci=true) (h0 : ∀ c r,L=c::r→c≠48) (hL:38<L.length) (hm:more=true ↔ ¬ (L.drop 38).all (· == 48)=true) :
  Fk m false (nvL L) e false=Fk m false (nvL (L.take 38)) (e+(L.length-38:Nat)) more:=by
 have hda:(L.take 38).all Ci=true∧(L.drop 38).all Ci=true:=by
  rw[← Bool.and_eq_true,← List.all_append,List.take_append_drop]
  exact hd
 have hlen:(L.drop 38).length=L.length-38:=List.length_drop
 have hnv:nvL L=nvL (L.take 38)*10 ^ (L.length-38)+nvL (L.drop 38):=by
  have:=a4f (L.take 38) (L.drop 38)
  rwa[List.take_append_drop,hlen] at this
 have hr:nvL (L.drop 38)<10 ^ (L.length-38):=Fz hda.2 (by omega)
 have hnd:35≤nd (nvL (L.take 38)):=by
  have ht:(L.take 38).length=38:=by rw[List.length_take];omega
  obtain ⟨c,r,hcr⟩ : ∃ c r,L=c::r:=by cases L with | nil=>simp at hL | cons c r=>exact ⟨c,r,rfl⟩
  have h2:L.take 38=c::r.take 37:=by rw[hcr];rfl
  have h3:=b7i h2 hda.1 (h0 c r hcr)
  rw[ht] at h3
  have:=a9f (n:=nvL (L.take 38)) (k:=37) h3
  omega
 have hmm:more=true↔false=true∨nvL (L.drop 38)≠0:=by
  rw[hm,Ne,Yo hda.2]
  simp
 have h:=Ku (m:=m) (neg:=false) (e:=e+(L.length-38:Nat)) hnd hr hmm
 rw[hnv,← h]
 congr 1
 omega
end Go.Proofs.YtdkgnmiiibpnnaaGreatDoor
