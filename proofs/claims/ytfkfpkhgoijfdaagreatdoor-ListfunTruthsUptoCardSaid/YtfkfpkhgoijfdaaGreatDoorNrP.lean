/- numeral: numbers as texts, and texts as numbers: in lists of bytes, with no program in sight. -/
import Derived.Test.YtfkfpkhgoijfdaaGreatDoorVcZ
import Derived.Test.YtfkfpkhgoijfdaaGreatDoorDecs
namespace Go.Proofs.YtfkfpkhgoijfdaaGreatDoor
open Go.RowKit
set_option linter.unusedVariables false
set_option linter.unusedSimpArgs false
set_option maxRecDepth 100000
def El (c:UInt8):L8→Nat
 | []=>0
 | x::l=>if x=c then 0 else El c l+1
def Di (c:UInt8) (l:L8):L8×L8×Bool:=if El c l<l.length then (l.take (El c l),l.drop (El c l+1),true) else (l,[],false)
theorem a5o (c:UInt8) (l:L8):(Di c l).1.length≤l.length∧(Di c l).2.1.length≤l.length:=by
 unfold Di
 split<;>simp<;>omega
def Cb (l:L8):Bool := !l.isEmpty&&l.all Cg
theorem Ej {l:L8}:Cb l=true↔l≠[]∧l.all Cg=true:=by
 unfold Cb
 cases l<;>simp
def Dn (e:L8):L8:=if e.head?=some 45∨e.head?=some 43 then e.tail else e
def b7z (l:L8):Bool := !(Di 69 l).2.2||(Cb (Dn (Di 69 l).2.1)&&decide ((Dn (Di 69 l).2.1).length≤6))
def b7x (s:L8):Bool:=((Di 46 s).2.2&&Cb (Di 46 s).2.1&&((Di 46 s).1.isEmpty||Cb (Di 46 s).1))||(!(Di 46 s).2.2&&Cb (Di 46 s).1)
def Gd (l:L8):Bool:=b7z l&&b7x (Di 69 l).1
def Ho (e:L8):Int:=if e.head?=some 45 then -(nvL (Dn e):Int) else nvL (Dn e)
def b78 (l:L8):L8:=(Di 46 (Di 69 l).1).1 ++ (Di 46 (Di 69 l).1).2.1
def b6g (l:L8):Nat:=nvL (b78 l)
def b5k (l:L8):Int:=Ho (Di 69 l).2.1-(Di 46 (Di 69 l).1).2.1.length
noncomputable def Fg (l:L8):T4:=if Gd l then Kh 1 false (b6g l) (b5k l) false else (false,0,0,false)
def Ie (N:Nat) (e:Int):L8 :=
 if e<0 ∧ -40≤e then
  let s:=List.replicate ((-e).toNat+1-(Lib.decDigits N).length) 48 ++ Lib.decDigits N
  s.take (s.length-(-e).toNat) ++ 46::s.drop (s.length-(-e).toNat)
 else if e=0 then Lib.decDigits N else Lib.decDigits N ++ 69::Lib.itoa e
def De (neg:Bool) (N:Nat) (e:Int):L8:=if neg then 45::Ie N e else Ie N e
theorem b0o {N k:Nat} (h:N<10 ^ k) (hk:k≠0):(Lib.decDigits N).length≤k:=by
 rw[Lib.decDigits_length]
 by_cases h0:N=0
 ·subst h0
  have:Lib.nDigits 0=1:=Lib.nDigits_small (by decide)
  omega
 ·rw[← Rd h0]
  exact Ij _ _ h
theorem Zy : ∀ (l:L8) (n:Nat),nvA n l=n*10 ^ l.length+nvL l
 | [],n=>by simp[nvA,nvL]
 | c::l,n=>by
  show nvA (n*10+(c.toNat-48)) l=n*10 ^ (l.length+1)+nvA (0*10+(c.toNat-48)) l
  rw[Zy l,Zy l (0*10+(c.toNat-48)),Nat.pow_succ,Nat.add_mul,Nat.add_mul,Nat.mul_assoc n 10,Nat.mul_comm 10 (10 ^ l.length)]
  omega
theorem a1j (a b:L8):nvL (a ++ b)=nvL a*10 ^ b.length+nvL b:=by
 rw[← Zy]
 simp[nvL,nvA,List.foldl_append]
theorem Qa (c:UInt8) (l:L8):nvL (c::l)=(c.toNat-48)*10 ^ l.length+nvL l:=by
 have:=a1j [c] l
 rw[List.singleton_append] at this
 rw[this]
 congr 2
 show 0*10+(c.toNat-48)=c.toNat-48
 omega
def lz (l:L8):L8:=l.dropWhile (· == 48)
theorem a8b : ∀ l:L8,nvL (lz l)=nvL l
 | []=>rfl
 | c::l=>by
  unfold lz
  rw[List.dropWhile_cons]
  split
  ·rename_i h
   have:c=48:=by simpa using h
   rw[Qa,this]
   have:=a8b l
   unfold lz at this
   rw[this]
   simp
  ·rfl
theorem a9n {l:L8} {c:UInt8} {r:L8} (h:lz l=c::r):c≠48:=by
 intro e
 have:=List.head?_dropWhile_not (p:=(· == (48:UInt8))) l
 unfold lz at h
 rw[h] at this
 simp[e] at this
theorem b3a {l:L8} (h:l.all Cg=true):(lz l).all Cg=true:=by
 rw[List.all_eq_true] at h ⊢
 exact fun x hx=>h x ((List.dropWhile_sublist _).subset hx)
theorem b2f {l:L8} {c:UInt8} {r:L8} (h:l=c::r) (hd:l.all Cg=true) (hc:c≠48):10 ^ (l.length-1)≤nvL l:=by
 subst h
 rw[Qa]
 have h1:Cg c=true:=by simp at hd;exact hd.1
 have h2:=Cr.1 h1
 have h3:c.toNat≠48:=fun e=>hc (UInt8.toNat_inj.1 e)
 have h4:1*10 ^ r.length≤(c.toNat-48)*10 ^ r.length:=Nat.mul_le_mul_right _ (by omega)
 simp only[List.length_cons,Nat.add_sub_cancel]
 omega
theorem Ze : ∀ {l:L8},l.all Cg=true→(nvL l=0↔l.all (· == 48)=true)
 | [],h=>by simp[nvL,nvA]
 | c::l,h=>by
  simp only[List.all_cons,Bool.and_eq_true] at h ⊢
  have h2:=Cr.1 h.1
  rw[Qa,← Ze h.2]
  have h5:0<10 ^ l.length:=Nat.pow_pos (by decide)
  constructor
  ·intro e
   have e1:(c.toNat-48)*10 ^ l.length=0:=by omega
   rcases Nat.mul_eq_zero.1 e1 with q | q
   ·refine ⟨?_,by omega⟩
    have:c=48:=UInt8.toNat_inj.1 (by show c.toNat=48;omega)
    simp[this]
   ·omega
  ·rintro ⟨q,r⟩
   have:c=48:=by simpa using q
   rw[this,r]
   simp
theorem b1d {m:Int} {L:L8} {e:Int} {more:Bool} (hd:L.all Cg=true) (h0 : ∀ c r,L=c::r→c≠48) (hL:38<L.length) (hm:more=true ↔ ¬ (L.drop 38).all (· == 48)=true) :
  Kh m false (nvL L) e false=Kh m false (nvL (L.take 38)) (e+(L.length-38:Nat)) more:=by
 have hda:(L.take 38).all Cg=true∧(L.drop 38).all Cg=true:=by
  rw[← Bool.and_eq_true,← List.all_append,List.take_append_drop]
  exact hd
 have hlen:(L.drop 38).length=L.length-38:=List.length_drop
 have hnv:nvL L=nvL (L.take 38)*10 ^ (L.length-38)+nvL (L.drop 38):=by
  have:=a1j (L.take 38) (L.drop 38)
  rwa[List.take_append_drop,hlen] at this
 have hr:nvL (L.drop 38)<10 ^ (L.length-38):=Fm hda.2 (by omega)
 have hnd:35≤nd (nvL (L.take 38)):=by
  have ht:(L.take 38).length=38:=by rw[List.length_take];omega
  obtain ⟨c,r,hcr⟩ : ∃ c r,L=c::r:=by cases L with | nil=>simp at hL | cons c r=>exact ⟨c,r,rfl⟩
  have h2:L.take 38=c::r.take 37:=by rw[hcr];rfl
  have h3:=b2f h2 hda.1 (h0 c r hcr)
  rw[ht] at h3
  have:=b1y (n:=nvL (L.take 38)) (k:=37) h3
  omega
 have hmm:more=true↔false=true∨nvL (L.drop 38)≠0:=by
  rw[hm,Ne,Ze hda.2]
  simp
 have h:=a29 (m:=m) (neg:=false) (e:=e+(L.length-38:Nat)) hnd hr hmm
 rw[hnv,← h]
 congr 1
 omega
end Go.Proofs.YtfkfpkhgoijfdaaGreatDoor
