/- Texts as lists of bytes: signs at places. strings.Cut at a sign of one byte, TrimPrefix, TrimLeft, Trim, strconv.Atoi, wide.Read: as what reads so, of lists of bytes. -/
import Derived.Test.YtfkfpkhgoijfdaaGreatDoorVcZ
import Derived.Test.YtfkfpkhgoijfdaaGreatDoorRed
import Derived.Test.YtfkfpkhgoijfdaaGreatDoorNrP
import Derived.Test.YtfkfpkhgoijfdaaGreatDoorLayZ
import Derived.Test.YtfkfpkhgoijfdaaGreatDoorIto
namespace Go.Proofs.YtfkfpkhgoijfdaaGreatDoor
open Go.RowKit
set_option linter.unusedVariables false
set_option linter.unusedSimpArgs false
set_option maxRecDepth 100000
theorem Ww (l:L8) (k:Nat):bAt (tx l) k=((l[k]?).getD 0).toNat:=by simp[bAt,tx]
theorem a1k {l:L8} {k:Nat} {c:UInt8} (h:l[k]? = some c):isD (tx l) k↔Cl c=true:=by
 unfold isD
 rw[Ww,h,Cz]
 rfl
theorem Mw {l:L8} {k:Nat} {c:UInt8} (h:l[k]? = some c):Um (tx l) k=(c.toNat:Int):=by rw[b78,h];rfl
theorem Cs (l:L8):tx l=⟨#[]⟩↔l=[]:=by rw[← a2j,Ok]
theorem Rb {l:L8} {z:Int} {c:UInt8} (h:l≠[]) (hz:z=Um (tx l) 0):z=(c.toNat:Int)↔l.head?=some c:=by
 cases l with
 | nil=>exact absurd rfl h
 | cons x r =>
  rw[hz,Mw (l:=x::r) (k:=0) (c:=x) rfl]
  simp only[List.head?_cons,Option.some.injEq]
  constructor
  ·intro e;exact UInt8.toNat_inj.1 (by omega)
  ·rintro rfl;rfl
theorem Kt {l:L8} {s:ByteArray} (hs:s=(tx l).extract 1 (tx l).size):s=tx l.tail:=by
 rw[hs,Ca,Ak,← List.drop_one,List.take_of_length_le (by rw[List.length_drop];omega)]
theorem Nu {l:L8} {s:ByteArray} {k:Nat} (hs:s=(tx l).extract k (tx l).size):s=tx (l.drop k):=by
 rw[hs,Ca,Ak,List.take_of_length_le (by rw[List.length_drop];exact Nat.le_refl _)]
theorem a3q {l:L8} {k:Nat} {c:UInt8} (h:l[k]? = some c) (hc:Cl c=false) : ¬ l.all Cl=true:=fun ha=>by
 have:=List.all_eq_true.1 ha c (List.mem_of_getElem? h)
 rw[hc] at this
 cases this
theorem Lk {l:L8} {k:Nat} {c:UInt8} (h:l[k]? = some c) (ha:(l.take k).all Cl=true) (hc:Cl c=true):(l.take (k+1)).all Cl=true:=by
 obtain ⟨hk,e⟩:=List.getElem?_eq_some_iff.1 h
 rw[List.take_succ_eq_append_getElem hk,e,List.all_append,ha]
 simp[hc]
open Go.Shelf Go.RowKit
set_option linter.unusedVariables false
set_option linter.unusedSimpArgs false
set_option maxRecDepth 100000
theorem Wo {l:L8} {s:ByteArray} {k:Nat} (hs:s=(tx l).extract 0 k):s=tx (l.take k):=by
 rw[hs,Ca]
 rfl
theorem a6z (c:UInt8) : ∀ l:L8,Lib.indexByte l c=if Fa c l<l.length then (Fa c l:Int) else -1
 | []=>rfl
 | x::l=>by
  have ih:=a6z c l
  unfold Lib.indexByte Fa
  by_cases h:x=c
  ·subst h
   simp
  ·have h1:(x==c)=false:=by simpa using h
   simp only[h1,if_neg h,ih,List.length_cons,Nat.add_lt_add_iff_right]
   by_cases h2:Fa c l<l.length
   ·have h3:((Fa c l:Int) == -1)=false:=by
     rw[beq_eq_false_iff_ne]
     omega
    simp[h2,h3]
   ·simp[h2]
theorem b68 {l:L8} {c:UInt8} {z:Int} (hz:z=(c.toNat:Int)):HasC Tryz.prog 175 [.v (.string (tx l)),.v (.int .u8 z)] (fun y=>y=.v (.int .i64 (if Fa c l<l.length then (Fa c l:Int) else -1))) :=
 (HasC.ofCallsK (vs:=[.string (tx l),.int .u8 z]) (R:=fun r=>r=.int .i64 (if Fa c l<l.length then (Fa c l:Int) else -1)) (fun args w=>Tryz.call175 args w) ⟨_,rfl⟩ rfl fun w hk =>
  (Any.stringslite_IndexByte b1g (tx l) z w).mono fun e w' ⟨he,hw⟩=>⟨_,he,by rw[hz,Int.toNat_natCast,show c.toNat.toUInt8=c by simp,← a6z];rfl,by rw[hw];exact Below.refl _ _⟩).mono fun y ⟨r,hr,hy⟩=>by rw[hy,hr];rfl
theorem b8a {l:L8} {c:UInt8}:HasC Tryz.prog 162 [.v (.string (tx l)),.v (.string (tx [c]))] (fun y=>y=.v (.int .i64 (if Fa c l<l.length then (Fa c l:Int) else -1))):=by
 refine hO [] Tryz.f162 (fun a w=>Tryz.call162 a w) Tryz.func162 rfl (⟨_,rfl⟩) ?_
 refine Aa rfl (iQ 1 ?_)
 let Z1:=zT [(0,.d (Sv (tx l))),(1,.d (Sv (tx [c]))),(4,Ia 0)] []
 refine iE 143 Z1 [] ?_
 refine Aa rfl (iQ 1 (jL .len [9] [.string (tx [c])] 15 ?_))
 intro n15 hn15
 have e15:n15=1:=by rw[hn15];exact Ak [c]
 refine iQ 1 (iE 143 (zT [(5,Ia ((n15:Nat)))] Z1) [] ?_)
 refine Af (Al (Aa rfl (iQ 1 (jB .eql 3 (.int .i64 ((n15:Nat))) (.int .i64 0) 18 ?_))))
 intro c18 hc18
 refine iQ 1 ?_
 obtain rfl:c18=false:=bff hc18 (by omega)
 refine iQ 2 (jB .eql 9 (.string (tx [c])) (.string (tx l)) 22 ?_)
 intro c22 hc22
 refine iQ 2 (iE 143 (zT [(5,Ia ((n15:Nat))),(16,Ba c22)] Z1) [] ?_)
 cases c22
 ·replace hc22:=bf hc22
  refine iF (Aa rfl (iQ 1 (jB .eql 3 (.int .i64 ((n15:Nat))) (.int .i64 1) 26 ?_)))
  intro c26 hc26
  refine iQ 1 ?_
  let Z2:=zT [(5,Ia ((n15:Nat))),(16,Ba false),(24,Ba c26)] []
  refine iE 143 (zT Z2 Z1) [] ?_
  obtain rfl:c26=true:=hc26.2 (by omega)
  refine iT (Aa rfl (iQ 2 (jX 9 (.string (tx [c])) (.int .i64 0) 29 ?_)))
  refine And.intro (by rw[Ak,List.length_singleton];omega) ?_
  intro z29 hz29
  refine eC 175 [Sv (tx l),.v (.int .u8 z29)] 30 (b68 (c:=c) (z:=z29) (by rw[hz29];exact Mw rfl)) (iQ 1 ?_)
  let Z3:=zT [(4,Ia (if Fa c l<l.length then (Fa c l:Int) else -1))] []
  let Z4:=zT [(0,.d (Sv (tx l))),(1,.d (Sv (tx [c]))),(5,Ia ((n15:Nat))),(16,Ba false),(24,Ba true)] []
  refine iE 143 (zT Z4 Z3) [] ?_
  refine Ab (Aj (Ai (iR (Iv (if Fa c l<l.length then (Fa c l:Int) else -1)) ?_)))
  rfl
 ·replace hc22:=bt hc22
  refine iT (Aa rfl (iQ 1 (iE 143 (zT [(5,Ia ((n15:Nat))),(16,Ba true)] Z1) [] ?_)))
  refine Ab (Aj (Ai (iR (Iv 0) ?_)))
  have hl:l=[c]:=(Tc hc22).symm
  rw[hl,if_pos (by simp[Fa])];simp[Fa]
theorem b5s {l:L8} {c:UInt8} {i:Int} (h:i=if Fa c l<l.length then (Fa c l:Int) else -1):HasC Tryz.prog 162 [.v (.string (tx l)),.v (.string (tx [c]))] (fun y=>y=.v (.int .i64 i)):=by subst h;exact b8a
theorem b5v {l:L8} {c:UInt8} (hL:l.length≤9223372036854775806):HasC Tryz.prog 142 [.v (.string (tx l)),.v (.string (tx [c]))] (fun y=>y=.tup [.v (.string (tx (Du c l).1)),.v (.string (tx (Du c l).2.1)),.v (.bool (Du c l).2.2)]):=by
 refine hO [] Tryz.f142 (fun a w=>Tryz.call142 a w) Tryz.func142 rfl (⟨_,rfl⟩) ?_
 obtain ⟨i,hi⟩ : ∃ i:Int,i=if Fa c l<l.length then (Fa c l:Int) else -1:=⟨_,rfl⟩
 refine Aa rfl (iQ 3 ?_)
 let Z1:=zT [(0,.d (Sv (tx l))),(1,.d (Sv (tx [c]))),(4,.d (Sv (⟨#[]⟩))),(5,.d (Sv (⟨#[]⟩))),(6,Ba false)] []
 refine iE 23 Z1 [] ?_
 refine Af (Aa rfl (iQ 2 (eC 162 [Sv (tx l),Sv (tx [c])] 10 (b5s (l:=l) (c:=c) hi) (iQ 1 (iE 23 (zT [(7,Ia i)] Z1) [] ?_)))))
 refine Aa rfl (iQ 1 (jB .geq 3 (.int .i64 i) (.int .i64 0) 12 ?_))
 intro c12 hc12
 refine iE 23 (zT [(7,Ia i),(12,Ba c12)] Z1) [] ?_
 cases c12
 ·replace hc12:=bf hc12
  have hlt : ¬ Fa c l<l.length:=fun h=>by rw[if_pos h] at hi;omega
  refine iF (Ae (Ag (Aa rfl (iQ 4 ?_))))
  let Z2:=zT [(0,.d (Sv (tx l))),(1,.d (Sv (tx [c]))),(4,.d (Sv (tx l))),(5,.d (Sv (⟨#[]⟩))),(6,Ba false),(7,Ia i),(12,Ba false)] []
  refine iE 23 Z2 [] ?_
  refine Ab (iS (Sv (tx l)) (Sv (⟨#[]⟩)) [Bv false] ?_)
  rw[Du,if_neg hlt];rfl
 ·replace hc12:=bt hc12
  have hlt:Fa c l<l.length:=by apply Classical.byContradiction;intro h;rw[if_neg h] at hi;omega
  rw[if_pos hlt] at hi
  refine iT (Aa rfl (iQ 2 (iY 9 (tx l) (0) (i) (some 15) ?_)))
  refine And.intro (by rw[Ak];omega) ?_
  intro s15 hs15
  have e15:s15=tx (l.take (Fa c l)):=Wo (by rw[hs15,hi];rfl)
  refine iQ 3 (jL .len [9] [.string (tx [c])] 19 ?_)
  intro n19 hn19
  have e19:n19=1:=by rw[hn19];exact Ak [c]
  refine jB .add 3 (.int .i64 i) (.int .i64 ((n19:Nat))) 20 ?_
  intro z20 hz20
  try replace hz20:=hz20.i64 (by omega)
  refine iY 9 (tx l) (z20) (((tx l:ByteArray).size:Int)) (some 21) ?_
  refine And.intro (by rw[Ak];omega) ?_
  intro s21 hs21
  have e21:s21=tx (l.drop (Fa c l+1)):=Nu (by rw[hs21,show z20.toNat=Fa c l+1 by omega,Int.toNat_natCast])
  refine iQ 3 ?_
  let Z3:=zT [(0,.d (Sv (tx l))),(1,.d (Sv (tx [c]))),(4,.d (Sv s15)),(5,.d (Sv s21)),(6,Ba true),(7,Ia i),(12,Ba true)] []
  refine iE 23 Z3 [] ?_
  refine Ab (Ai (iS (Sv s15) (Sv s21) [Bv true] ?_))
  rw[e15,e21,Du,if_pos hlt]
theorem b1y {l a b:L8} {c:UInt8} {g:Bool} (h:Du c l=(a,b,g)) (hL:l.length≤9223372036854775806):HasC Tryz.prog 142 [.v (.string (tx l)),.v (.string (tx [c]))] (fun y=>y=.tup [.v (.string (tx a)),.v (.string (tx b)),.v (.bool g)]):=by
 have k:=b5v (l:=l) (c:=c) hL
 rwa[h] at k
theorem Jw {l a b:L8} {c:UInt8} {g:Bool} (h:Du c l=(a,b,g)) (hL:l.length≤9223372036854775806):HasC Tryz.prog 116 [.v (.string (tx l)),.v (.string (tx [c]))] (fun y=>y=.tup [.v (.string (tx a)),.v (.string (tx b)),.v (.bool g)]):=by
 refine hO [] Tryz.f116 (fun a w=>Tryz.call116 a w) Tryz.func116 rfl (⟨_,rfl⟩) ?_
 refine Aa rfl (iQ 3 ?_)
 let Z1:=zT [(0,.d (Sv (tx l))),(1,.d (Sv (tx [c]))),(4,.d (Sv (⟨#[]⟩))),(5,.d (Sv (⟨#[]⟩))),(6,Ba false)] []
 refine iE 13 Z1 [] ?_
 refine Aa rfl (iQ 2 (eC 142 [Sv (tx l),Sv (tx [c])] 9 (b1y h hL) (iQ 6 ?_)))
 let Z2:=zT [(4,.d (Sv (tx a))),(5,.d (Sv (tx b))),(6,Ba g)] []
 refine iE 13 Z2 [] ?_
 refine Ab (iS (Sv (tx a)) (Sv (tx b)) [Bv g] ?_)
 rfl
def Da (c:UInt8) (l:L8):L8:=if l.head?=some c then l.tail else l
theorem b4b {l:L8} {c:UInt8} (h:l≠[]):(tx l).extract 0 1=tx [c]↔l.head?=some c:=by
 rw[Ca,Ok]
 cases l with
 | nil=>exact absurd rfl h
 | cons c r=>simp
theorem b5r {l:L8} {c:UInt8}:HasC Tryz.prog 146 [.v (.string (tx l)),.v (.string (tx [c]))] (fun r => ∃ b,r=.v (.bool b)∧(b=true↔l.head?=some c)):=by
 refine hO [] Tryz.f146 (fun a w=>Tryz.call146 a w) Tryz.func146 rfl (⟨_,decide (l.head?=some c),rfl,by simp⟩) ?_
 refine Aa rfl (iQ 1 ?_)
 let Z1:=zT [(0,.d (Sv (tx l))),(1,.d (Sv (tx [c]))),(4,Ba false)] []
 refine iE 18 Z1 [] ?_
 refine Aa rfl (iQ 1 (jL .len [9] [.string (tx l)] 6 ?_))
 intro n6 hn6
 have e6:n6=l.length:=by rw[hn6];exact Ak l
 refine iQ 1 (jL .len [9] [.string (tx [c])] 8 ?_)
 intro n8 hn8
 have e8:n8=1:=by rw[hn8];exact Ak [c]
 refine jB .geq 3 (.int .i64 ((n6:Nat))) (.int .i64 ((n8:Nat))) 9 ?_
 intro c9 hc9
 refine iQ 1 ?_
 cases c9
 ·replace hc9:=bf hc9
  refine iQ 8 (iE 18 [(4,Ba false)] [] ?_)
  have h0:l=[]:=List.eq_nil_of_length_eq_zero (by omega)
  refine Ab (iR (Bv false) ?_)
  subst h0;exact ⟨_,rfl,by simp⟩
 ·replace hc9:=bt hc9
  refine iQ 2 (jL .len [9] [.string (tx [c])] 13 ?_)
  intro n13 hn13
  have e13:n13=1:=by rw[hn13];exact Ak [c]
  refine iY 9 (tx l) (0) ((n13:Nat)) (some 14) ?_
  refine And.intro (by rw[Ak];omega) ?_
  intro s14 hs14
  have hl14:=Dj hs14 (by rw[Ak];omega)
  refine iQ 1 (jB .eql 9 (.string s14) (.string (tx [c])) 16 ?_)
  intro c16 hc16
  refine iQ 2 (iE 18 [(4,Ba c16)] [] ?_)
  refine Ab (iR (Bv c16) ?_)
  exact ⟨_,rfl,by rw[hc16,hs14,e13];exact b4b (fun e=>by rw[e] at e6;simp at e6;omega)⟩
theorem b2u {l:L8} {c:UInt8}:HasC Tryz.prog 130 [.v (.string (tx l)),.v (.string (tx [c]))] (fun r=>r=.v (.string (tx (Da c l)))):=by
 refine hO [] Tryz.f130 (fun a w=>Tryz.call130 a w) Tryz.func130 rfl (⟨_,rfl⟩) ?_
 refine Aa rfl (iQ 1 ?_)
 let Z1:=zT [(0,.d (Sv (tx l))),(1,.d (Sv (tx [c]))),(4,.d (Sv (⟨#[]⟩)))] []
 refine iE 13 Z1 [] ?_
 refine Af (Aa rfl (iQ 2 (jC 146 [Sv (tx l),Sv (tx [c])] 7 (b5r) ?_)))
 rintro _ ⟨b,rfl,hb⟩
 refine iE 13 (zT [(7,Ba b)] Z1) [] ?_
 cases b
 ·replace hb:=bf hb
  refine iF (Ae (Ag (Aa rfl (iQ 2 ?_))))
  let Z2:=zT [(0,.d (Sv (tx l))),(1,.d (Sv (tx [c]))),(4,.d (Sv (tx l))),(7,Ba false)] []
  refine iE 13 Z2 [] ?_
  refine Ab (iR (Sv (tx l)) ?_)
  rw[Da,if_neg hb]
 ·replace hb:=bt hb
  refine iT (Aa rfl (iQ 2 (jL .len [9] [.string (tx [c])] 10 ?_)))
  intro n10 hn10
  have e10:n10=1:=by rw[hn10];exact Ak [c]
  have hl:1≤l.length:=by cases l with | nil=>cases hb | cons c r=>simp
  refine iY 9 (tx l) ((n10:Nat)) (((tx l:ByteArray).size:Int)) (some 11) ?_
  refine And.intro (by rw[Ak];omega) ?_
  intro s11 hs11
  have hl11:=Dj hs11 (by rw[Ak];omega)
  refine iQ 1 ?_
  let Z3:=zT [(0,.d (Sv (tx l))),(1,.d (Sv (tx [c]))),(4,.d (Sv s11)),(7,Ba true)] []
  refine iE 13 Z3 [] ?_
  refine Ab (Ai (iR (Sv s11) ?_))
  rw[Kt (l:=l) (s:=s11) (by rw[hs11,e10,Int.toNat_natCast,Int.toNat_natCast]),Da,if_pos hb]
theorem a9z {l:L8} {c:UInt8}:HasC Tryz.prog 105 [.v (.string (tx l)),.v (.string (tx [c]))] (fun r=>r=.v (.string (tx (Da c l)))):=by
 refine hO [] Tryz.f105 (fun a w=>Tryz.call105 a w) Tryz.func105 rfl (⟨_,rfl⟩) ?_
 refine Aa rfl (iQ 1 ?_)
 let Z1:=zT [(0,.d (Sv (tx l))),(1,.d (Sv (tx [c]))),(4,.d (Sv (⟨#[]⟩)))] []
 refine iE 8 Z1 [] ?_
 refine Aa rfl (iQ 2 (eC 130 [Sv (tx l),Sv (tx [c])] 7 (b2u) (iQ 1 (iE 8 [(4,.d (Sv (tx (Da c l))))] [] ?_))))
 refine Ab (iR (Sv (tx (Da c l))) ?_)
 rfl
theorem a8y {l:L8} {s:ByteArray} (hs:s=tx l):HasC Tryz.prog 133 [.v (.string s),.v (.string ⟨#[48]⟩)] (fun y=>y=.v (.string (tx (lz l)))):=by
 subst hs
 exact (HasC.ofCallsK (vs:=[.string (tx l),.string ⟨#[48]⟩]) (R:=fun r=>r=.string (tx (lz l))) (fun args w=>Tryz.call133 args w) ⟨_,rfl⟩ rfl fun w hk =>
  (Any.strings_TrimLeft_one a5b (tx l) 48 (by decide) w).mono fun e w' ⟨he,hw⟩=>⟨_,he,rfl,by rw[hw];exact Below.refl _ _⟩).mono fun y ⟨r,hr,hy⟩=>by rw[hy,hr];rfl
theorem a4g (l:L8):Lib.trimB l 48=[]↔l.all (· == 48)=true:=by
 have hw : ∀ m:L8,m.dropWhile (· == (48:UInt8))=[]↔m.all (· == 48)=true:=fun m=>by
  induction m with
  | nil=>simp
  | cons x r ih =>
   rw[List.dropWhile_cons,List.all_cons]
   by_cases hx:(x==48)=true
   ·rw[if_pos hx,ih,hx,Bool.true_and]
   ·rw[if_neg hx]
    simp only[hx,Bool.false_and]
    simp
 unfold Lib.trimB Lib.trimLeftB Lib.trimRightB
 rw[hw]
 constructor
 ·intro h
  rw[← List.all_reverse,← hw]
  apply Classical.byContradiction
  intro hn
  obtain ⟨x,r,hx⟩ : ∃ x r,l.reverse.dropWhile (· == (48:UInt8))=x::r:=by
   cases hd:l.reverse.dropWhile (· == (48:UInt8)) with
   | nil=>exact absurd hd hn
   | cons x r=>exact ⟨x,r,rfl⟩
  have h1:=List.head?_dropWhile_not (p:=(· == (48:UInt8))) l.reverse
  rw[hx] at h1 h
  simp only[List.head?_cons] at h1
  rw[List.all_reverse,List.all_cons,Bool.and_eq_true] at h
  have h2:=h.1
  rw[h1] at h2
  cases h2
 ·intro h
  have:l.reverse.dropWhile (· == (48:UInt8))=[]:=by rw[hw,List.all_reverse];exact h
  rw[this]
  rfl
theorem b1i {l:L8} {s:ByteArray} (hs:s=tx l) (hL:l.length≤9223372036854775807):HasC Tryz.prog 134 [.v (.string s),.v (.string ⟨#[48]⟩)] (fun y => ∃ t:L8,y=.v (.string (tx t))∧(t=[]↔l.all (· == 48)=true)):=by
 subst hs
 exact (HasC.ofCallsK (vs:=[.string (tx l),.string ⟨#[48]⟩]) (R:=fun r=>r=.string (tx (Lib.trimB l 48))) (fun args w=>Tryz.call134 args w) ⟨_,rfl⟩ rfl fun w hk =>
  (Any.strings_Trim_one a7r (tx l) 48 (by decide) w (by rw[Ak];exact hL)).mono fun e w' ⟨he,hw⟩=>⟨_,he,rfl,by
   rcases hw with rfl | rfl
   ·exact Below.refl _ _
   ·exact (Below.refl _ _).drew⟩).mono fun y ⟨r,hr,hy⟩=>⟨_,by rw[hy,hr];rfl,a4g l⟩
theorem b9r : ∀ (l:L8) (a k:Nat),l.all Cl=true→a<10 ^ k→k+l.length≤18→Lib.parseUint10 a l=.ok (nvA a l)
 | [],a,k,h,_,_=>rfl
 | c::l,a,k,h,h1,h2=>by
  simp only[List.all_cons,Bool.and_eq_true] at h
  have hc:=Cz.1 h.1
  simp only[List.length_cons] at h2
  have h3:10 ^ k≤10 ^ 17:=Nat.pow_le_pow_right (by decide) (by omega)
  have h4:a*10+(c.toNat-48)<10 ^ (k+1):=by rw[Nat.pow_succ];omega
  have h5:10 ^ (k+1)≤10 ^ 18:=Nat.pow_le_pow_right (by decide) (by omega)
  unfold Lib.parseUint10
  rw[if_pos hc,if_neg (by omega),if_neg (by omega)]
  exact b9r l _ (k+1) h.2 h4 (by omega)
theorem b7c {l:L8} (h:l.all Cl=true) (h0:l≠[]) (hl:l.length≤6):Lib.parseMag l=.ok (nvL l)∧nvL l<1000000:=by
 unfold Lib.parseMag
 rw[if_neg h0]
 exact ⟨b9r l 0 0 h (by decide) (by omega),Gf h hl⟩
theorem a7d {e:L8} (h1:Cf (Dz e)=true) (h2:(Dz e).length≤6):Lib.atoiAll (Da 43 e)=.ok (Ir e):=by
 obtain ⟨h3,h4⟩:=Ew.1 h1
 obtain ⟨m1,m2⟩:=b7c h4 h3 h2
 cases e with
 | nil=>exact absurd rfl h3
 | cons c r =>
  by_cases hp:c=43
  ·subst hp
   have hs:Dz (43::r)=r:=by simp[Dz]
   have ht:Da 43 (43::r)=r:=by simp[Da]
   rw[hs] at h3 h4 m1 m2
   rw[ht,Ir,hs,if_neg (by simp)]
   cases r with
   | nil=>exact absurd rfl h3
   | cons d q =>
    have hd:Cl d=true:=by simp only[List.all_cons,Bool.and_eq_true] at h4;exact h4.1
    have hd2:=Cz.1 hd
    unfold Lib.atoiAll
    simp only
    rw[if_neg (by omega),m1]
    simp only
    rw[if_neg (by omega),if_neg (by omega),if_neg (by omega)]
  ·have ht:Da 43 (c::r)=c::r:=by simp[Da,hp]
   rw[ht]
   by_cases hm:c=45
   ·subst hm
    have hs:Dz (45::r)=r:=by simp[Dz]
    rw[hs] at h3 h4 m1 m2
    rw[Ir,hs,if_pos (by simp)]
    unfold Lib.atoiAll
    simp only
    rw[if_pos (by decide),m1]
    simp only
    rw[if_neg (by simp),if_neg (by omega),if_pos (by decide)]
   ·have hs:Dz (c::r)=c::r:=by simp[Dz,hp,hm]
    rw[hs] at h3 h4 m1 m2
    have hd:Cl c=true:=by simp only[List.all_cons,Bool.and_eq_true] at h4;exact h4.1
    have hd2:=Cz.1 hd
    rw[Ir,hs,if_neg (by simp[hm])]
    unfold Lib.atoiAll
    simp only
    rw[if_neg (by omega),m1]
    simp only
    rw[if_neg (by omega),if_neg (by omega),if_neg (by omega)]
theorem Kw.errSyn {w:World} (h:Kw w) : ∃ ev,w.cell? ⟨5,0,none⟩=some ev∧(ev=.nilIface ∨ ∃ te pe,ev=.iface te pe):=by
 rcases h.syn with h | ⟨cs,h1,t,p,rfl⟩
 ·have h2:(Tryz.prog.globalNamed "strconv.ErrSyntax").isSome=true:=by kernel_rfl
  rw[h] at h2
  cases h2
 ·have:=World.var?_cell (show Tryz.prog.globalNamed "strconv.ErrSyntax" = some 5 by kernel_rfl) h1 0
  exact ⟨.iface t p,by rw[this];rfl,.inr ⟨t,p,rfl⟩⟩
theorem b4w {e:L8} {v:Int} (h:e=[]∧v=0∨Lib.atoiAll e=.ok v∧e.length≤100):HasC Tryz.prog 132 [.v (.string (tx e))] (fun y => ∃ x:Value,y=.tup [.v (.int .i64 v),.v x]) :=
 (HasC.ofCallsK (vs:=[.string (tx e)]) (R:=fun r=>r=.tuple #[.int .i64 v,.nilIface] ∨ ∃ t p,r=.tuple #[.int .i64 v,.iface t p]) (fun args w=>Tryz.call132 args w) ⟨_,.inl rfl⟩ rfl fun w hk=>by
  rcases h with ⟨rfl,rfl⟩ | ⟨h,hl⟩
  ·obtain ⟨ev,h1,h2⟩:=hk.errSyn
   exact (Any.strconv_Atoi_syntax a0t (tx []) (by rw[Ak];decide) rfl ev w h1 h2).mono fun e w' ⟨N,he,_,_,hb⟩=>⟨_,he,.inr ⟨_,_,rfl⟩,hb⟩
  ·exact (Any.strconv_Atoi_ok a0t (tx e) (by rw[Ak];omega) v h w).mono fun e w' ⟨he,hw⟩=>⟨_,he,.inl rfl,by
    rcases hw with rfl | ⟨t,rfl⟩
    ·exact Below.refl _ _
    ·exact Lib.bytesWorld_below _ _ _⟩).mono fun y ⟨r,hr,hy⟩=>by
   rcases hr with hr | ⟨t,p,hr⟩
   ·exact ⟨.nilIface,by rw[hy,hr];rfl⟩
   ·exact ⟨.iface t p,by rw[hy,hr];rfl⟩
theorem b3k {l:L8} : ∀ k,k≤l.length→pv (tx l) k=nvL (l.take k)
 | 0,h=>rfl
 | k+1,h=>by
  have hg:=List.getElem?_eq_getElem (show k<l.length by omega)
  rw[pv,b3k k (by omega),Rp hg,Ww,hg]
  rfl
theorem a3p {l:L8} {s:ByteArray} (hs:s=tx l) (hd:l.all Cl=true) (h0:l≠[]) (hl:l.length≤38):HasC Tryz.prog 135 [.v (.string s)] (fun y=>y=.tup [dU (nvL l),.v (.bool true)]):=by
 subst hs
 have hpv:pv (tx l) (tx l).size=nvL l:=by rw[Ak,b3k _ (Nat.le_refl _),List.take_length]
 have hok:Zr (tx l):=by
  refine ⟨⟨by rw[Ak];exact List.length_pos_iff.2 h0,fun k hk => ?_⟩,?_⟩
  ·rw[Ak] at hk
   have hg:=List.getElem?_eq_getElem hk
   rw[a1k hg]
   exact List.all_eq_true.1 hd _ (List.mem_of_getElem? hg)
  ·rw[hpv]
   exact Nat.lt_trans (Gf hd hl) (by decide)
 exact b5o.mono fun r ⟨b,hr,hb⟩=>by rw[hr,hb.2 hok,rdV,if_pos hok,hpv]
end Go.Proofs.YtfkfpkhgoijfdaaGreatDoor
