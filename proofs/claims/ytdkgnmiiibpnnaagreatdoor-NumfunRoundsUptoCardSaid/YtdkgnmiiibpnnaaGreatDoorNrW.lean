/- numeral: Text, Shape, Read, Signed, Plain. numeral: Read, Signed, Plain. -/
import Derived.Test.YtdkgnmiiibpnnaaGreatDoorNrV
import Derived.Test.YtdkgnmiiibpnnaaGreatDoorDecY
namespace Go.Proofs.YtdkgnmiiibpnnaaGreatDoor
open Go.RowKit
set_option linter.unusedVariables false
set_option linter.unusedSimpArgs false
set_option maxRecDepth 100000
theorem Ee {l:L8}:HasC Tryz.prog 189 [.v (.string (tx l))] (fun r => ∃ b,r=.v (.bool b)∧(b=true↔Cd l=true)):=by
 refine hO [] Tryz.f189 (fun a w=>Tryz.call189 a w) Tryz.func189 rfl (⟨_,Cd l,rfl,Iff.rfl⟩) ?_
 refine Aa rfl (iQ 1 (iE 18 [(0,.d (Sv (tx l))),(2,Ba false)] [] ?_))
 refine Ae (Aa rfl (iQ 1 (iG (tx l) 6 ?_)))
 let Z1:=zT [(0,.d (Sv (tx l))),(2,Ba false),(6,.p 6 0)] []
 refine iE 18 Z1 [(6,[.tup [Sv (tx l),Iv 0]])] ?_
 refine Ak (Bq 18 (fun (vcx:Int)=>match vcx with | p=>[(0,.d (Sv (tx l))),(2,Ba false),(6,.p 6 0)]) (fun (vcx:Int)=>match vcx with | p=>[(6,[.tup [Sv (tx l),Iv p]])]) (fun (vcx:Int)=>match vcx with | p=>0≤p∧p≤l.length∧(l.take p.toNat).all Ci=true) (fun (vcx:Int)=>match vcx with | p=>l.length-p.toNat) 0 (⟨by omega,by omega,rfl⟩) (by kernel_rfl) (by kernel_rfl) ?_)
 rintro p hinv
 simp only at hinv
 obtain ⟨h1,h2,h3⟩:=hinv
 refine Aa rfl ?_
 refine iN 6 (tx l) (p) 7 (by omega) ?_ ?_
 ·intro hp7 c7 q7 w7 hn7 hq7
  refine iQ 1 ?_
  let Z2:=zT [(7,.d (.tup [Bv true,Iv p,.v (.int .i32 c7)]))] []
  let Z3:=zT [(0,.d (Sv (tx l))),(2,Ba false),(6,.p 6 0),(8,Ba true)] []
  refine iE 18 (zT Z3 Z2) [(6,[.tup [Sv (tx l),Iv q7]])] ?_
  have hpl:p.toNat<l.length:=by have:=Aj l;omega
  have hg:=List.getElem?_eq_getElem hpl
  have hcd:48≤c7∧c7≤57↔isD (tx l) p.toNat:=Tf hn7 h1 hp7
  rw[a3g hg] at hcd
  have key : ¬ Ci (l[p.toNat]'hpl)=true → ¬ Cd l=true:=fun hn h=>hn (List.all_eq_true.1 (Er.1 h).2 _ (List.mem_of_getElem? hg))
  refine Ae (iT (Ad (Af (Ak (Aa rfl (iQ 2 (iE 18 (zT [(4,.d (.v (.int .i32 c7)))] (zT Z3 Z2)) [(6,[.tup [Sv (tx l),Iv q7]])] ?_)))))))
  refine Aa rfl (iQ 1 (jB .lss 21 (.int .i32 c7) (.int .i32 48) 11 ?_))
  intro c11 hc11
  refine iQ 1 ?_
  cases c11
  ·replace hc11:=bf hc11
   refine iQ 1 (jB .gtr 21 (.int .i32 c7) (.int .i32 57) 14 ?_)
   intro c14 hc14
   refine iQ 1 (iE 18 (zT [(4,.d (.v (.int .i32 c7))),(15,Ba c14)] (zT Z3 Z2)) [(6,[.tup [Sv (tx l),Iv q7]])] ?_)
   cases c14
   ·replace hc14:=bf hc14
    have hd:=hcd.1 ⟨by omega,by omega⟩
    have hd2:=Cy.1 hd
    have hba:=Wq l p.toNat
    rw[hg] at hba
    simp only[Option.getD_some] at hba
    obtain ⟨hc,hw⟩:=hn7.low h1 hp7 (by omega)
    refine iF (Ad (Ap ?_))
    refine Bm (q7) (⟨by omega,by omega,by rw[hq7,hw,show (p+((1:Nat):Int)).toNat=p.toNat+1 by omega];exact Ky hg h3 hd⟩) (by show l.length-q7.toNat<l.length-p.toNat;omega) (by kernel_rfl) (by kernel_rfl)
   ·replace hc14:=bt hc14
    refine iT (Aa rfl (iQ 1 (iE 18 (zT [(4,.d (.v (.int .i32 c7))),(15,Ba true)] (zT Z3 Z2)) [(6,[.tup [Sv (tx l),Iv q7]])] ?_)))
    refine Ab (Ai (Db (Ai (Ag (iR (Bv false) ?_)))))
    exact ⟨_,rfl,by simp only[Bool.false_eq_true,false_iff];exact key (fun e=>by have:=hcd.2 e;omega)⟩
  ·replace hc11:=bt hc11
   refine iQ 3 (iE 18 (zT [(4,.d (.v (.int .i32 c7))),(15,Ba true)] (zT Z3 Z2)) [(6,[.tup [Sv (tx l),Iv q7]])] ?_)
   refine iT (Aa rfl (iQ 1 (iE 18 (zT [(4,.d (.v (.int .i32 c7))),(15,Ba true)] (zT Z3 Z2)) [(6,[.tup [Sv (tx l),Iv q7]])] ?_)))
   refine Ab (Ai (Db (Ai (Ag (iR (Bv false) ?_)))))
   exact ⟨_,rfl,by simp only[Bool.false_eq_true,false_iff];exact key (fun e=>by have:=hcd.2 e;omega)⟩
 ·intro hp7
  refine iQ 1 ?_
  let Z4:=zT [(0,.d (Sv (tx l))),(2,Ba false),(6,.p 6 0),(7,.d (.tup [Bv false])),(8,Ba false)] []
  refine iE 18 Z4 [(6,[.tup [Sv (tx l),Iv p]])] ?_
  have hp:p.toNat=l.length:=by have:=Aj l;omega
  rw[hp,List.take_of_length_le (Nat.le_refl _)] at h3
  refine Ae (iF (Be (Ce (Bj (Bd rfl (Af (Aa rfl (iQ 1 (jB .neq 9 (.string (tx l)) (.string (⟨#[]⟩)) 17 ?_)))))))))
  intro c17 hc17
  refine iQ 1 ?_
  let Z5:=zT [(0,.d (Sv (tx l))),(2,Ba c17),(6,.p 6 0),(7,.d (.tup [Bv false])),(8,Ba false)] []
  refine iE 18 Z5 [(6,[.tup [Sv (tx l),Iv p]])] ?_
  refine Ab (iR (Bv c17) ?_)
  exact ⟨_,rfl,by rw[hc17,Er,Ne,Cq];exact ⟨fun h=>⟨h,h3⟩,fun h=>h.1⟩⟩
theorem Qc {l:L8} {s:ByteArray} (hs:s=tx l):HasC Tryz.prog 189 [.v (.string s)] (fun r => ∃ b,r=.v (.bool b)∧(b=true↔Cd l=true)):=by subst hs;exact Ee
theorem Cx {l s1 e1 w p:L8} {is1 pt:Bool} (hX:Di 69 l=(s1,e1,is1)) (hY:Di 46 s1=(w,p,pt)) :
  Gu l=((!is1||(Cd (Dq e1)&&decide ((Dq e1).length≤6)))&&((pt&&Cd p&&(w.isEmpty||Cd w))||(!pt&&Cd w))):=by simp only[Gu,c1g,c1h,hX,hY]
theorem Ht {c:UInt8} {l a b:L8} {g:Bool} (h:Di c l=(a,b,g)):(g=false→b=[])∧a.length≤l.length∧b.length≤l.length:=by
 have h1:=b0a c l
 rw[h] at h1
 refine ⟨fun hg => ?_,h1.1,h1.2⟩
 subst hg
 unfold Di at h
 split at h
 ·simp at h
 ·simp at h;exact h.2
theorem Td {e:L8} (h:e.head?=some 45∨e.head?=some 43):Dq e=e.tail:=by rw[Dq,if_pos h]
theorem Un {e:L8} (h : ¬ (e.head?=some 45∨e.head?=some 43)):Dq e=e:=by rw[Dq,if_neg h]
set_option maxHeartbeats 1600000 in
theorem b2p {l:L8} (hL:l.length≤1000000000000000):HasC Tryz.prog 167 [.v (.string (tx l))] (fun r => ∃ b,r=.v (.bool b)∧(b=true↔Gu l=true)):=by
 refine hO [] Tryz.f167 (fun a w=>Tryz.call167 a w) Tryz.func167 rfl (⟨_,Gu l,rfl,Iff.rfl⟩) ?_
 obtain ⟨s1,e1,is1,hX⟩ : ∃ a b g,Di 69 l=(a,b,g):=⟨_,_,_,rfl⟩
 obtain ⟨w,p,pt,hY⟩ : ∃ a b g,Di 46 s1=(a,b,g):=⟨_,_,_,rfl⟩
 have hx:=Ht hX
 refine Aa rfl (iQ 1 (iE 64 [(0,.d (Sv (tx l))),(2,Ba false)] [] ?_))
 refine Aa rfl (iQ 1 (eC 153 [Sv (tx l),Sv (⟨#[69]⟩)] 10 (Jw hX (by omega)) (iQ 7 ?_)))
 let Z1:=zT [(0,.d (Sv (tx s1))),(2,Ba false),(3,.d (Sv (tx e1))),(4,Ba is1)] []
 refine iE 64 Z1 [] ?_
 refine Ae (Aa rfl (iQ 1 ?_))
 let Z2:=zT [(0,.d (Sv (tx s1))),(2,Ba false),(3,.d (Sv (tx e1))),(14,Ba is1)] []
 refine iE 64 Z2 [] ?_
 cases is1
 ·have hS:Gu l=((pt&&Cd p&&(w.isEmpty||Cd w))||(!pt&&Cd w)):=by rw[Cx hX hY];simp
  refine iF (Ad (Af (Aa rfl (iQ 1 (eC 153 [Sv (tx s1),Sv (⟨#[46]⟩)] 39 (Jw hY (by omega)) (iQ 7 ?_))))))
  let Z3:=zT [(0,.d (Sv (tx s1))),(2,Ba false),(3,.d (Sv (tx e1))),(5,.d (Sv (tx w))),(6,.d (Sv (tx p))),(7,Ba pt),(14,Ba false)] []
  refine iE 64 Z3 [] ?_
  refine Aa rfl (iQ 2 ?_)
  cases pt
  ·refine iQ 13 (jU .not (.bool false) 58 ?_)
   intro c58 hc58
   refine iQ 1 ?_
   obtain rfl:c58=true:=hc58.2 (by simp)
   refine iQ 1 (jC 189 [Sv (tx w)] 61 (Ee) ?_)
   rintro _ ⟨b3,rfl,hb3⟩
   refine iQ 3 ?_
   let Z4:=zT [(0,.d (Sv (tx s1))),(2,Ba b3),(3,.d (Sv (tx e1))),(14,Ba false)] []
   refine iE 64 Z4 [] ?_
   refine Ab (iR (Bv b3) ?_)
   exact ⟨_,rfl,by rw[hS,hb3];simp⟩
  ·refine iQ 1 (jC 189 [Sv (tx p)] 46 (Ee) ?_)
   rintro _ ⟨b1,rfl,hb1⟩
   refine iQ 2 ?_
   cases b1
   ·replace hb1:=bf hb1
    refine iQ 9 (jU .not (.bool true) 58 ?_)
    intro c58 hc58
    refine iQ 1 ?_
    obtain rfl:c58=false:=bff hc58 (by simp)
    refine iQ 5 ?_
    let Z5:=zT [(0,.d (Sv (tx s1))),(2,Ba false),(3,.d (Sv (tx e1))),(14,Ba false)] []
    refine iE 64 Z5 [] ?_
    refine Ab (iR (Bv false) ?_)
    exact ⟨_,rfl,by rw[hS];simp[hb1]⟩
   ·replace hb1:=bt hb1
    refine iQ 1 (jB .eql 9 (.string (tx w)) (.string (⟨#[]⟩)) 50 ?_)
    intro c50 hc50
    refine iQ 1 ?_
    cases c50
    ·replace hc50:=bf hc50
     refine iQ 1 ?_
     have hw0:w.isEmpty=false:=by cases w with | nil=>exact absurd rfl hc50 | cons x r=>rfl
     refine jC 189 [Sv (tx w)] 53 (Ee) ?_
     rintro _ ⟨b2,rfl,hb2⟩
     refine iQ 3 ?_
     cases b2
     ·replace hb2:=bf hb2
      refine iQ 1 (jU .not (.bool true) 58 ?_)
      intro c58 hc58
      refine iQ 1 ?_
      obtain rfl:c58=false:=bff hc58 (by simp)
      refine iQ 5 ?_
      let Z6:=zT [(0,.d (Sv (tx s1))),(2,Ba false),(3,.d (Sv (tx e1))),(14,Ba false)] []
      refine iE 64 Z6 [] ?_
      refine Ab (iR (Bv false) ?_)
      exact ⟨_,rfl,by rw[hS];simp[hb1,hb2,hw0]⟩
     ·replace hb2:=bt hb2
      refine iQ 8 ?_
      let Z7:=zT [(0,.d (Sv (tx s1))),(2,Ba true),(3,.d (Sv (tx e1))),(14,Ba false)] []
      refine iE 64 Z7 [] ?_
      refine Ab (iR (Bv true) ?_)
      exact ⟨_,rfl,by rw[hS];simp[hb1,hb2]⟩
    ·replace hc50:=bt hc50
     refine iQ 13 ?_
     let Z8:=zT [(0,.d (Sv (tx s1))),(2,Ba true),(3,.d (Sv (tx e1))),(14,Ba false)] []
     refine iE 64 Z8 [] ?_
     refine Ab (iR (Bv true) ?_)
     exact ⟨_,rfl,by rw[hS];simp[hb1,(Cq _).1 hc50]⟩
 ·refine iT (Ae (Aa rfl (iQ 1 (jB .neq 9 (.string (tx e1)) (.string (⟨#[]⟩)) 16 ?_))))
  intro c16 hc16
  refine iQ 1 ?_
  cases c16
  ·replace hc16:=bf hc16
   refine iQ 9 ?_
   let Z9:=zT [(0,.d (Sv (tx s1))),(2,Ba false),(3,.d (Sv (tx e1))),(14,Ba true),(26,Ba false)] []
   refine iE 64 Z9 [] ?_
   have h0:e1=[]:=(Cq _).1 (Classical.not_not.1 hc16)
   have hsg:Dq e1=e1:=Un (by rw[h0];simp)
   have eE:tx e1=tx e1:=rfl
   refine iF (Ad (Af (Aa rfl (iQ 1 (jC 189 [Sv (tx e1)] 30 (Qc eE) ?_)))))
   rintro _ ⟨b4,rfl,hb4⟩
   refine jU .not (.bool b4) 31 ?_
   intro c31 hc31
   refine iQ 1 ?_
   cases c31
   ·replace hc31:=bf hc31
    refine iQ 1 (jL .len [9] [.string (tx e1)] 34 ?_)
    intro n34 hn34
    have h8:Cd (e1)=true:=hb4.1 (by simpa using hc31)
    have e34:n34=(e1).length:=by rw[hn34,eE,Aj]
    refine jB .gtr 3 (.int .i64 ((n34:Nat))) (.int .i64 6) 35 ?_
    intro c35 hc35
    refine iQ 1 (iE 64 (zT [(36,Ba c35)] Z9) [] ?_)
    cases c35
    ·replace hc35:=bf hc35
     have hS:Gu l=((pt&&Cd p&&(w.isEmpty||Cd w))||(!pt&&Cd w)):=by rw[Cx hX hY,hsg,h8,decide_eq_true (show (e1).length≤6 by omega)];simp
     refine iF (Ad (Af (Aa rfl (iQ 1 (eC 153 [Sv (tx s1),Sv (⟨#[46]⟩)] 39 (Jw hY (by omega)) (iQ 7 ?_))))))
     let Z10:=zT [(5,.d (Sv (tx w))),(6,.d (Sv (tx p))),(7,Ba pt),(36,Ba false)] []
     refine iE 64 (zT Z10 Z9) [] ?_
     refine Aa rfl (iQ 2 ?_)
     cases pt
     ·refine iQ 13 (jU .not (.bool false) 58 ?_)
      intro c58 hc58
      refine iQ 1 ?_
      obtain rfl:c58=true:=hc58.2 (by simp)
      refine iQ 1 (jC 189 [Sv (tx w)] 61 (Ee) ?_)
      rintro _ ⟨b3,rfl,hb3⟩
      refine iQ 3 ?_
      let Z11:=zT [(0,.d (Sv (tx s1))),(2,Ba b3),(3,.d (Sv (tx e1))),(14,Ba true),(26,Ba false),(36,Ba false)] []
      refine iE 64 Z11 [] ?_
      refine Ab (iR (Bv b3) ?_)
      exact ⟨_,rfl,by rw[hS,hb3];simp⟩
     ·refine iQ 1 (jC 189 [Sv (tx p)] 46 (Ee) ?_)
      rintro _ ⟨b1,rfl,hb1⟩
      refine iQ 2 ?_
      cases b1
      ·replace hb1:=bf hb1
       refine iQ 9 (jU .not (.bool true) 58 ?_)
       intro c58 hc58
       refine iQ 1 ?_
       obtain rfl:c58=false:=bff hc58 (by simp)
       refine iQ 5 (iE 64 (zT [(36,Ba false)] Z9) [] ?_)
       refine Ab (iR (Bv false) ?_)
       exact ⟨_,rfl,by rw[hS];simp[hb1]⟩
      ·replace hb1:=bt hb1
       refine iQ 1 (jB .eql 9 (.string (tx w)) (.string (⟨#[]⟩)) 50 ?_)
       intro c50 hc50
       refine iQ 1 ?_
       cases c50
       ·replace hc50:=bf hc50
        refine iQ 1 ?_
        have hw0:w.isEmpty=false:=by cases w with | nil=>exact absurd rfl hc50 | cons x r=>rfl
        refine jC 189 [Sv (tx w)] 53 (Ee) ?_
        rintro _ ⟨b2,rfl,hb2⟩
        refine iQ 3 ?_
        cases b2
        ·replace hb2:=bf hb2
         refine iQ 1 (jU .not (.bool true) 58 ?_)
         intro c58 hc58
         refine iQ 1 ?_
         obtain rfl:c58=false:=bff hc58 (by simp)
         refine iQ 5 (iE 64 (zT [(36,Ba false)] Z9) [] ?_)
         refine Ab (iR (Bv false) ?_)
         exact ⟨_,rfl,by rw[hS];simp[hb1,hb2,hw0]⟩
        ·replace hb2:=bt hb2
         refine iQ 8 ?_
         let Z12:=zT [(0,.d (Sv (tx s1))),(2,Ba true),(3,.d (Sv (tx e1))),(14,Ba true),(26,Ba false),(36,Ba false)] []
         refine iE 64 Z12 [] ?_
         refine Ab (iR (Bv true) ?_)
         exact ⟨_,rfl,by rw[hS];simp[hb1,hb2]⟩
       ·replace hc50:=bt hc50
        refine iQ 13 ?_
        let Z13:=zT [(0,.d (Sv (tx s1))),(2,Ba true),(3,.d (Sv (tx e1))),(14,Ba true),(26,Ba false),(36,Ba false)] []
        refine iE 64 Z13 [] ?_
        refine Ab (iR (Bv true) ?_)
        exact ⟨_,rfl,by rw[hS];simp[hb1,(Cq _).1 hc50]⟩
    ·replace hc35:=bt hc35
     refine iT (Aa rfl (iQ 1 (iE 64 (zT [(36,Ba true)] Z9) [] ?_)))
     refine Ab (Ag (iR (Bv false) ?_))
     exact ⟨_,rfl,by rw[Cx hX hY,hsg];rw[decide_eq_false (show ¬ (e1).length≤6 by omega)];simp⟩
   ·replace hc31:=bt hc31
    refine iQ 4 (iE 64 (zT [(36,Ba true)] Z9) [] ?_)
    refine iT (Aa rfl (iQ 1 (iE 64 (zT [(36,Ba true)] Z9) [] ?_)))
    refine Ab (Ag (iR (Bv false) ?_))
    exact ⟨_,rfl,by rw[Cx hX hY,hsg];have h9 : ¬ Cd (e1)=true:=(fun h=>by have:=hb4.2 h;rw[hc31] at this;cases this);simp[h9]⟩
  ·replace hc16:=bt hc16
   refine iQ 1 (jX 9 (.string (tx e1)) (.int .i64 0) 19 ?_)
   have h0:e1≠[]:=fun e=>hc16 ((Cq _).2 e)
   have h00:0<e1.length:=List.length_pos_iff.2 h0
   refine And.intro (by rw[Aj];omega) ?_
   intro z19 hz19
   have e19:=Rz (z:=z19) (c:=45) h0 hz19
   refine jB .eql 5 (.int .u8 z19) (.int .u8 45) 20 ?_
   intro c20 hc20
   refine iQ 1 ?_
   cases c20
   ·replace hc20:=bf hc20
    refine iQ 1 (jX 9 (.string (tx e1)) (.int .i64 0) 23 ?_)
    refine And.intro (by rw[Aj];omega) ?_
    intro z23 hz23
    have e23:=Rz (z:=z23) (c:=43) h0 hz23
    refine jB .eql 5 (.int .u8 z23) (.int .u8 43) 24 ?_
    intro c24 hc24
    refine iQ 2 ?_
    let Z14:=zT [(0,.d (Sv (tx s1))),(2,Ba false),(3,.d (Sv (tx e1))),(14,Ba true),(26,Ba c24)] []
    refine iE 64 Z14 [] ?_
    cases c24
    ·replace hc24:=bf hc24
     have hsg:Dq e1=e1:=Un (by rintro (q | q);exact hc20 (e19.2 q);exact hc24 (e23.2 q))
     have eE:tx e1=tx e1:=rfl
     refine iF (Ad (Af (Aa rfl (iQ 1 (jC 189 [Sv (tx e1)] 30 (Qc eE) ?_)))))
     rintro _ ⟨b4,rfl,hb4⟩
     refine jU .not (.bool b4) 31 ?_
     intro c31 hc31
     refine iQ 1 ?_
     cases c31
     ·replace hc31:=bf hc31
      refine iQ 1 (jL .len [9] [.string (tx e1)] 34 ?_)
      intro n34 hn34
      have h8:Cd (e1)=true:=hb4.1 (by simpa using hc31)
      have e34:n34=(e1).length:=by rw[hn34,eE,Aj]
      refine jB .gtr 3 (.int .i64 ((n34:Nat))) (.int .i64 6) 35 ?_
      intro c35 hc35
      refine iQ 1 ?_
      let Z15:=zT [(0,.d (Sv (tx s1))),(2,Ba false),(3,.d (Sv (tx e1))),(14,Ba true),(26,Ba false),(36,Ba c35)] []
      refine iE 64 Z15 [] ?_
      cases c35
      ·replace hc35:=bf hc35
       have hS:Gu l=((pt&&Cd p&&(w.isEmpty||Cd w))||(!pt&&Cd w)):=by rw[Cx hX hY,hsg,h8,decide_eq_true (show (e1).length≤6 by omega)];simp
       refine iF (Ad (Af (Aa rfl (iQ 1 (eC 153 [Sv (tx s1),Sv (⟨#[46]⟩)] 39 (Jw hY (by omega)) (iQ 7 ?_))))))
       let Z16:=zT [(0,.d (Sv (tx s1))),(2,Ba false),(3,.d (Sv (tx e1))),(5,.d (Sv (tx w))),(6,.d (Sv (tx p))),(7,Ba pt),(14,Ba true),(26,Ba false),(36,Ba false)] []
       refine iE 64 Z16 [] ?_
       refine Aa rfl (iQ 2 ?_)
       cases pt
       ·refine iQ 13 (jU .not (.bool false) 58 ?_)
        intro c58 hc58
        refine iQ 1 ?_
        obtain rfl:c58=true:=hc58.2 (by simp)
        refine iQ 1 (jC 189 [Sv (tx w)] 61 (Ee) ?_)
        rintro _ ⟨b3,rfl,hb3⟩
        refine iQ 3 ?_
        let Z17:=zT [(0,.d (Sv (tx s1))),(2,Ba b3),(3,.d (Sv (tx e1))),(14,Ba true),(26,Ba false),(36,Ba false)] []
        refine iE 64 Z17 [] ?_
        refine Ab (iR (Bv b3) ?_)
        exact ⟨_,rfl,by rw[hS,hb3];simp⟩
       ·refine iQ 1 (jC 189 [Sv (tx p)] 46 (Ee) ?_)
        rintro _ ⟨b1,rfl,hb1⟩
        refine iQ 2 ?_
        cases b1
        ·replace hb1:=bf hb1
         refine iQ 9 (jU .not (.bool true) 58 ?_)
         intro c58 hc58
         refine iQ 1 ?_
         obtain rfl:c58=false:=bff hc58 (by simp)
         refine iQ 5 ?_
         let Z18:=zT [(0,.d (Sv (tx s1))),(2,Ba false),(3,.d (Sv (tx e1))),(14,Ba true),(26,Ba false),(36,Ba false)] []
         refine iE 64 Z18 [] ?_
         refine Ab (iR (Bv false) ?_)
         exact ⟨_,rfl,by rw[hS];simp[hb1]⟩
        ·replace hb1:=bt hb1
         refine iQ 1 (jB .eql 9 (.string (tx w)) (.string (⟨#[]⟩)) 50 ?_)
         intro c50 hc50
         refine iQ 1 ?_
         cases c50
         ·replace hc50:=bf hc50
          refine iQ 1 ?_
          have hw0:w.isEmpty=false:=by cases w with | nil=>exact absurd rfl hc50 | cons x r=>rfl
          refine jC 189 [Sv (tx w)] 53 (Ee) ?_
          rintro _ ⟨b2,rfl,hb2⟩
          refine iQ 3 ?_
          cases b2
          ·replace hb2:=bf hb2
           refine iQ 1 (jU .not (.bool true) 58 ?_)
           intro c58 hc58
           refine iQ 1 ?_
           obtain rfl:c58=false:=bff hc58 (by simp)
           refine iQ 5 ?_
           let Z19:=zT [(0,.d (Sv (tx s1))),(2,Ba false),(3,.d (Sv (tx e1))),(14,Ba true),(26,Ba false),(36,Ba false)] []
           refine iE 64 Z19 [] ?_
           refine Ab (iR (Bv false) ?_)
           exact ⟨_,rfl,by rw[hS];simp[hb1,hb2,hw0]⟩
          ·replace hb2:=bt hb2
           refine iQ 8 ?_
           let Z20:=zT [(0,.d (Sv (tx s1))),(2,Ba true),(3,.d (Sv (tx e1))),(14,Ba true),(26,Ba false),(36,Ba false)] []
           refine iE 64 Z20 [] ?_
           refine Ab (iR (Bv true) ?_)
           exact ⟨_,rfl,by rw[hS];simp[hb1,hb2]⟩
         ·replace hc50:=bt hc50
          refine iQ 13 ?_
          let Z21:=zT [(0,.d (Sv (tx s1))),(2,Ba true),(3,.d (Sv (tx e1))),(14,Ba true),(26,Ba false),(36,Ba false)] []
          refine iE 64 Z21 [] ?_
          refine Ab (iR (Bv true) ?_)
          exact ⟨_,rfl,by rw[hS];simp[hb1,(Cq _).1 hc50]⟩
      ·replace hc35:=bt hc35
       refine iT (Aa rfl (iQ 1 ?_))
       let Z22:=zT [(0,.d (Sv (tx s1))),(2,Ba false),(3,.d (Sv (tx e1))),(14,Ba true),(26,Ba false),(36,Ba true)] []
       refine iE 64 Z22 [] ?_
       refine Ab (Ag (iR (Bv false) ?_))
       exact ⟨_,rfl,by rw[Cx hX hY,hsg];rw[decide_eq_false (show ¬ (e1).length≤6 by omega)];simp⟩
     ·replace hc31:=bt hc31
      refine iQ 4 ?_
      let Z23:=zT [(0,.d (Sv (tx s1))),(2,Ba false),(3,.d (Sv (tx e1))),(14,Ba true),(26,Ba false),(36,Ba true)] []
      refine iE 64 Z23 [] ?_
      refine iT (Aa rfl (iQ 1 (iE 64 Z23 [] ?_)))
      refine Ab (Ag (iR (Bv false) ?_))
      exact ⟨_,rfl,by rw[Cx hX hY,hsg];have h9 : ¬ Cd (e1)=true:=(fun h=>by have:=hb4.2 h;rw[hc31] at this;cases this);simp[h9]⟩
    ·replace hc24:=bt hc24
     have hsg:Dq e1=e1.tail:=Td (.inr (e23.1 hc24))
     refine iT (Am rfl (iQ 1 (iY 9 (tx e1) (1) (((tx e1:ByteArray).size:Int)) (some 28) ?_)))
     refine And.intro (by rw[Aj];omega) ?_
     intro s28 hs28
     have eE:s28=tx e1.tail:=Kl hs28
     refine iQ 1 ?_
     let Z24:=zT [(0,.d (Sv (tx s1))),(2,Ba false),(3,.d (Sv s28)),(14,Ba true),(26,Ba true)] []
     refine iE 64 Z24 [] ?_
     refine Af (Aa rfl (iQ 1 (jC 189 [Sv s28] 30 (Qc eE) ?_)))
     rintro _ ⟨b4,rfl,hb4⟩
     refine jU .not (.bool b4) 31 ?_
     intro c31 hc31
     refine iQ 1 ?_
     cases c31
     ·replace hc31:=bf hc31
      refine iQ 1 (jL .len [9] [.string s28] 34 ?_)
      intro n34 hn34
      have h8:Cd (e1.tail)=true:=hb4.1 (by simpa using hc31)
      have e34:n34=(e1.tail).length:=by rw[hn34,eE,Aj]
      refine jB .gtr 3 (.int .i64 ((n34:Nat))) (.int .i64 6) 35 ?_
      intro c35 hc35
      refine iQ 1 (iE 64 (zT [(36,Ba c35)] Z24) [] ?_)
      cases c35
      ·replace hc35:=bf hc35
       have hS:Gu l=((pt&&Cd p&&(w.isEmpty||Cd w))||(!pt&&Cd w)):=by rw[Cx hX hY,hsg,h8,decide_eq_true (show (e1.tail).length≤6 by omega)];simp
       refine iF (Ad (Af (Aa rfl (iQ 1 (eC 153 [Sv (tx s1),Sv (⟨#[46]⟩)] 39 (Jw hY (by omega)) (iQ 7 ?_))))))
       let Z25:=zT [(5,.d (Sv (tx w))),(6,.d (Sv (tx p))),(7,Ba pt),(36,Ba false)] []
       refine iE 64 (zT Z25 Z24) [] ?_
       refine Aa rfl (iQ 2 ?_)
       cases pt
       ·refine iQ 13 (jU .not (.bool false) 58 ?_)
        intro c58 hc58
        refine iQ 1 ?_
        obtain rfl:c58=true:=hc58.2 (by simp)
        refine iQ 1 (jC 189 [Sv (tx w)] 61 (Ee) ?_)
        rintro _ ⟨b3,rfl,hb3⟩
        refine iQ 3 ?_
        let Z26:=zT [(0,.d (Sv (tx s1))),(2,Ba b3),(3,.d (Sv s28)),(14,Ba true),(26,Ba true),(36,Ba false)] []
        refine iE 64 Z26 [] ?_
        refine Ab (iR (Bv b3) ?_)
        exact ⟨_,rfl,by rw[hS,hb3];simp⟩
       ·refine iQ 1 (jC 189 [Sv (tx p)] 46 (Ee) ?_)
        rintro _ ⟨b1,rfl,hb1⟩
        refine iQ 2 ?_
        cases b1
        ·replace hb1:=bf hb1
         refine iQ 9 (jU .not (.bool true) 58 ?_)
         intro c58 hc58
         refine iQ 1 ?_
         obtain rfl:c58=false:=bff hc58 (by simp)
         refine iQ 5 (iE 64 (zT [(36,Ba false)] Z24) [] ?_)
         refine Ab (iR (Bv false) ?_)
         exact ⟨_,rfl,by rw[hS];simp[hb1]⟩
        ·replace hb1:=bt hb1
         refine iQ 1 (jB .eql 9 (.string (tx w)) (.string (⟨#[]⟩)) 50 ?_)
         intro c50 hc50
         refine iQ 1 ?_
         cases c50
         ·replace hc50:=bf hc50
          refine iQ 1 ?_
          have hw0:w.isEmpty=false:=by cases w with | nil=>exact absurd rfl hc50 | cons x r=>rfl
          refine jC 189 [Sv (tx w)] 53 (Ee) ?_
          rintro _ ⟨b2,rfl,hb2⟩
          refine iQ 3 ?_
          cases b2
          ·replace hb2:=bf hb2
           refine iQ 1 (jU .not (.bool true) 58 ?_)
           intro c58 hc58
           refine iQ 1 ?_
           obtain rfl:c58=false:=bff hc58 (by simp)
           refine iQ 5 (iE 64 (zT [(36,Ba false)] Z24) [] ?_)
           refine Ab (iR (Bv false) ?_)
           exact ⟨_,rfl,by rw[hS];simp[hb1,hb2,hw0]⟩
          ·replace hb2:=bt hb2
           refine iQ 8 ?_
           let Z27:=zT [(0,.d (Sv (tx s1))),(2,Ba true),(3,.d (Sv s28)),(14,Ba true),(26,Ba true),(36,Ba false)] []
           refine iE 64 Z27 [] ?_
           refine Ab (iR (Bv true) ?_)
           exact ⟨_,rfl,by rw[hS];simp[hb1,hb2]⟩
         ·replace hc50:=bt hc50
          refine iQ 13 ?_
          let Z28:=zT [(0,.d (Sv (tx s1))),(2,Ba true),(3,.d (Sv s28)),(14,Ba true),(26,Ba true),(36,Ba false)] []
          refine iE 64 Z28 [] ?_
          refine Ab (iR (Bv true) ?_)
          exact ⟨_,rfl,by rw[hS];simp[hb1,(Cq _).1 hc50]⟩
      ·replace hc35:=bt hc35
       refine iT (Aa rfl (iQ 1 (iE 64 (zT [(36,Ba true)] Z24) [] ?_)))
       refine Ab (Ag (iR (Bv false) ?_))
       exact ⟨_,rfl,by rw[Cx hX hY,hsg];rw[decide_eq_false (show ¬ (e1.tail).length≤6 by omega)];simp⟩
     ·replace hc31:=bt hc31
      refine iQ 4 (iE 64 (zT [(36,Ba true)] Z24) [] ?_)
      refine iT (Aa rfl (iQ 1 (iE 64 (zT [(36,Ba true)] Z24) [] ?_)))
      refine Ab (Ag (iR (Bv false) ?_))
      exact ⟨_,rfl,by rw[Cx hX hY,hsg];have h9 : ¬ Cd (e1.tail)=true:=(fun h=>by have:=hb4.2 h;rw[hc31] at this;cases this);simp[h9]⟩
   ·replace hc20:=bt hc20
    refine iQ 5 ?_
    let Z29:=zT [(0,.d (Sv (tx s1))),(2,Ba false),(3,.d (Sv (tx e1))),(14,Ba true),(26,Ba true)] []
    refine iE 64 Z29 [] ?_
    have hsg:Dq e1=e1.tail:=Td (.inl (e19.1 hc20))
    refine iT (Am rfl (iQ 1 (iY 9 (tx e1) (1) (((tx e1:ByteArray).size:Int)) (some 28) ?_)))
    refine And.intro (by rw[Aj];omega) ?_
    intro s28 hs28
    have eE:s28=tx e1.tail:=Kl hs28
    refine iQ 1 ?_
    let Z30:=zT [(0,.d (Sv (tx s1))),(2,Ba false),(3,.d (Sv s28)),(14,Ba true),(26,Ba true)] []
    refine iE 64 Z30 [] ?_
    refine Af (Aa rfl (iQ 1 (jC 189 [Sv s28] 30 (Qc eE) ?_)))
    rintro _ ⟨b4,rfl,hb4⟩
    refine jU .not (.bool b4) 31 ?_
    intro c31 hc31
    refine iQ 1 ?_
    cases c31
    ·replace hc31:=bf hc31
     refine iQ 1 (jL .len [9] [.string s28] 34 ?_)
     intro n34 hn34
     have h8:Cd (e1.tail)=true:=hb4.1 (by simpa using hc31)
     have e34:n34=(e1.tail).length:=by rw[hn34,eE,Aj]
     refine jB .gtr 3 (.int .i64 ((n34:Nat))) (.int .i64 6) 35 ?_
     intro c35 hc35
     refine iQ 1 (iE 64 (zT [(36,Ba c35)] Z30) [] ?_)
     cases c35
     ·replace hc35:=bf hc35
      have hS:Gu l=((pt&&Cd p&&(w.isEmpty||Cd w))||(!pt&&Cd w)):=by rw[Cx hX hY,hsg,h8,decide_eq_true (show (e1.tail).length≤6 by omega)];simp
      refine iF (Ad (Af (Aa rfl (iQ 1 (eC 153 [Sv (tx s1),Sv (⟨#[46]⟩)] 39 (Jw hY (by omega)) (iQ 7 ?_))))))
      let Z31:=zT [(5,.d (Sv (tx w))),(6,.d (Sv (tx p))),(7,Ba pt),(36,Ba false)] []
      refine iE 64 (zT Z31 Z30) [] ?_
      refine Aa rfl (iQ 2 ?_)
      cases pt
      ·refine iQ 13 (jU .not (.bool false) 58 ?_)
       intro c58 hc58
       refine iQ 1 ?_
       obtain rfl:c58=true:=hc58.2 (by simp)
       refine iQ 1 (jC 189 [Sv (tx w)] 61 (Ee) ?_)
       rintro _ ⟨b3,rfl,hb3⟩
       refine iQ 3 ?_
       let Z32:=zT [(0,.d (Sv (tx s1))),(2,Ba b3),(3,.d (Sv s28)),(14,Ba true),(26,Ba true),(36,Ba false)] []
       refine iE 64 Z32 [] ?_
       refine Ab (iR (Bv b3) ?_)
       exact ⟨_,rfl,by rw[hS,hb3];simp⟩
      ·refine iQ 1 (jC 189 [Sv (tx p)] 46 (Ee) ?_)
       rintro _ ⟨b1,rfl,hb1⟩
       refine iQ 2 ?_
       cases b1
       ·replace hb1:=bf hb1
        refine iQ 9 (jU .not (.bool true) 58 ?_)
        intro c58 hc58
        refine iQ 1 ?_
        obtain rfl:c58=false:=bff hc58 (by simp)
        refine iQ 5 (iE 64 (zT [(36,Ba false)] Z30) [] ?_)
        refine Ab (iR (Bv false) ?_)
        exact ⟨_,rfl,by rw[hS];simp[hb1]⟩
       ·replace hb1:=bt hb1
        refine iQ 1 (jB .eql 9 (.string (tx w)) (.string (⟨#[]⟩)) 50 ?_)
        intro c50 hc50
        refine iQ 1 ?_
        cases c50
        ·replace hc50:=bf hc50
         refine iQ 1 ?_
         have hw0:w.isEmpty=false:=by cases w with | nil=>exact absurd rfl hc50 | cons x r=>rfl
         refine jC 189 [Sv (tx w)] 53 (Ee) ?_
         rintro _ ⟨b2,rfl,hb2⟩
         refine iQ 3 ?_
         cases b2
         ·replace hb2:=bf hb2
          refine iQ 1 (jU .not (.bool true) 58 ?_)
          intro c58 hc58
          refine iQ 1 ?_
          obtain rfl:c58=false:=bff hc58 (by simp)
          refine iQ 5 (iE 64 (zT [(36,Ba false)] Z30) [] ?_)
          refine Ab (iR (Bv false) ?_)
          exact ⟨_,rfl,by rw[hS];simp[hb1,hb2,hw0]⟩
         ·replace hb2:=bt hb2
          refine iQ 8 ?_
          let Z33:=zT [(0,.d (Sv (tx s1))),(2,Ba true),(3,.d (Sv s28)),(14,Ba true),(26,Ba true),(36,Ba false)] []
          refine iE 64 Z33 [] ?_
          refine Ab (iR (Bv true) ?_)
          exact ⟨_,rfl,by rw[hS];simp[hb1,hb2]⟩
        ·replace hc50:=bt hc50
         refine iQ 13 ?_
         let Z34:=zT [(0,.d (Sv (tx s1))),(2,Ba true),(3,.d (Sv s28)),(14,Ba true),(26,Ba true),(36,Ba false)] []
         refine iE 64 Z34 [] ?_
         refine Ab (iR (Bv true) ?_)
         exact ⟨_,rfl,by rw[hS];simp[hb1,(Cq _).1 hc50]⟩
     ·replace hc35:=bt hc35
      refine iT (Aa rfl (iQ 1 (iE 64 (zT [(36,Ba true)] Z30) [] ?_)))
      refine Ab (Ag (iR (Bv false) ?_))
      exact ⟨_,rfl,by rw[Cx hX hY,hsg];rw[decide_eq_false (show ¬ (e1.tail).length≤6 by omega)];simp⟩
    ·replace hc31:=bt hc31
     refine iQ 4 (iE 64 (zT [(36,Ba true)] Z30) [] ?_)
     refine iT (Aa rfl (iQ 1 (iE 64 (zT [(36,Ba true)] Z30) [] ?_)))
     refine Ab (Ag (iR (Bv false) ?_))
     exact ⟨_,rfl,by rw[Cx hX hY,hsg];have h9 : ¬ Cd (e1.tail)=true:=(fun h=>by have:=hb4.2 h;rw[hc31] at this;cases this);simp[h9]⟩
open Go.RowKit
set_option linter.unusedVariables false
set_option linter.unusedSimpArgs false
set_option maxRecDepth 100000
theorem b8t {N:Nat} (h:N<10 ^ 38):N<B128∧nd N≤78:=⟨Nat.lt_trans h (by decide),Nat.le_trans (Cj 38 N h) (by decide)⟩
theorem a22 {N:Nat} {E:Int} {more:Bool} {g:Bool} {k:Nat} {x:Int} {ok:Bool} (h:Fg 1 false N E more=(g,k,x,ok)) (hN:N<10 ^ 38) (he0 : -1000000000000000000≤E) (he1:E≤1000000000000000000) :
  HasC Tryz.prog 56 [.agg [.v (.bool false),.v (.int .u64 0),.v (.int .u64 0),.v (.int .u64 (hiW N)),.v (.int .u64 (loW N)),.v (.int .i64 E),.v (.bool more)],.v (.int .i64 1)] (fun y=>y=.tup [Bk g k x,.v (.bool ok)]) :=
 (Ik (m:=1) (neg:=false) (more:=more) (b8t hN).1 he0 he1).mono fun y ⟨g',k',x',ok',h1,h2⟩=>by
  rw[Hk _ _ _ _ (b8t hN).2,h] at h2
  simp only[Prod.mk.injEq] at h2
  obtain ⟨a1,a2,a3,a4⟩:=h2
  rw[h1,a1,a2,a3,a4]
theorem b62 {E:Int} {g:Bool} {k:Nat} {x:Int} {ok:Bool} (h:Fg 1 false 0 E false=(g,k,x,ok)) (he0 : -1000000000000000000≤E) (he1:E≤1000000000000000000) :
  HasC Tryz.prog 56 [.agg [.v (.bool false),.v (.int .u64 0),.v (.int .u64 0),.v (.int .u64 0),.v (.int .u64 0),.v (.int .i64 E),.v (.bool false)],.v (.int .i64 1)] (fun y=>y=.tup [Bk g k x,.v (.bool ok)]):=by
 have c:=a22 h (by decide) he0 he1
 exact c
theorem a0o {l s1 e1 w p:L8} {is1 pt:Bool} (hX:Di 69 l=(s1,e1,is1)) (hY:Di 46 s1=(w,p,pt)) (h:Gu l=true) :
  (Cs 43 e1=[]∧Ip e1=0∨Lib.atoiAll (Cs 43 e1)=.ok (Ip e1)∧(Cs 43 e1).length≤100) ∧ -999999≤Ip e1∧Ip e1≤999999∧(w ++ p).all Ci=true∧Fp l=Fg 1 false (nvL (w ++ p)) (Ip e1-p.length) false:=by
 have hr:Fp l=Fg 1 false (nvL (w ++ p)) (Ip e1-p.length) false:=by
  rw[Fp,if_pos h]
  simp only[b9f,b9k,b8s,hX,hY]
 rw[Cx hX hY,Bool.and_eq_true] at h
 obtain ⟨hE,hP⟩:=h
 have hpn:=(Ht hY).1
 have hall:(w ++ p).all Ci=true:=by
  rw[List.all_append,Bool.and_eq_true]
  rw[Bool.or_eq_true] at hP
  rcases hP with hP | hP
  ·simp only[Bool.and_eq_true,Bool.or_eq_true] at hP
   refine ⟨?_,(Er.1 hP.1.2).2⟩
   rcases hP.2 with h | h
   ·rw[List.isEmpty_iff] at h
    rw[h]
    rfl
   ·exact (Er.1 h).2
  ·simp only[Bool.and_eq_true,Bool.not_eq_true'] at hP
   rw[hpn hP.1]
   exact ⟨(Er.1 hP.2).2,rfl⟩
 rw[Bool.or_eq_true] at hE
 rcases hE with hE | hE
 ·have he:e1=[]:=(Ht hX).1 (by simpa using hE)
  subst he
  exact ⟨.inl ⟨rfl,rfl⟩,by decide,by decide,hall,hr⟩
 ·simp only[Bool.and_eq_true,decide_eq_true_eq] at hE
  have h1:=b14 hE.1 hE.2
  have h2:=(c0s (Er.1 hE.1).2 (Er.1 hE.1).1 hE.2).2
  have h3:(Cs 43 e1).length≤100:=by
   have h4:e1.length≤(Dq e1).length+1:=by
    unfold Dq
    split
    ·rw[List.length_tail];omega
    ·omega
   unfold Cs
   split
   ·rw[List.length_tail];omega
   ·omega
  have h5 : -999999≤Ip e1∧Ip e1≤999999:=by
   unfold Ip
   split<;>omega
  exact ⟨.inr ⟨h1,h3⟩,h5.1,h5.2,hall,hr⟩
theorem a6d {l L:L8} {s:ByteArray} (hs:s=tx l) (hL:L=lz l):HasC Tryz.prog 169 [.v (.string s),.v (.string ⟨#[48]⟩)] (fun y=>y=.v (.string (tx L))):=by subst hL;exact a8l hs
set_option maxHeartbeats 1600000 in
theorem b2z {l:L8} {g:Bool} {k:Nat} {x:Int} {ok:Bool} (hT:Fp l=(g,k,x,ok)) (hL:l.length≤1000000000000000):HasC Tryz.prog 142 [.v (.string (tx l))] (fun y=>y=.tup [Bk g k x,.v (.bool ok)]):=by
 refine hO [] Tryz.f142 (fun a w=>Tryz.call142 a w) Tryz.func142 rfl (⟨_,rfl⟩) ?_
 obtain ⟨s1,e1,is1,hX⟩ : ∃ a b g,Di 69 l=(a,b,g):=⟨_,_,_,rfl⟩
 obtain ⟨w,p,pt,hY⟩ : ∃ a b g,Di 46 s1=(a,b,g):=⟨_,_,_,rfl⟩
 have hx:=Ht hX
 have hy:=Ht hY
 refine Aa rfl (iQ 2 ?_)
 let Z1:=zT [(0,.d (Sv (tx l))),(2,.p 2 0),(3,Ba false)] []
 refine iE 74 Z1 [(2,[Bv false,Uv 0,Uv 0,Iv 0])] ?_
 refine Ae (Aa rfl (iQ 1 (jC 167 [Sv (tx l)] 15 (b2p hL) ?_)))
 rintro _ ⟨b,rfl,hb⟩
 refine jU .not (.bool b) 16 ?_
 intro c16 hc16
 refine iE 74 (zT [(16,Ba c16)] Z1) [(2,[Bv false,Uv 0,Uv 0,Iv 0])] ?_
 cases c16
 ·replace hc16:=bf hc16
  obtain ⟨f1,f2,f3,f4,f5⟩:=a0o hX hY (hb.1 (by simpa using hc16))
  refine iF (Ad (Af (Aa rfl (iQ 1 (eC 153 [Sv (tx l),Sv (⟨#[69]⟩)] 20 (Jw hX (by omega)) (iQ 7 ?_))))))
  let Z2:=zT [(0,.d (Sv (tx s1))),(2,.p 2 0),(3,Ba false),(4,.d (Sv (tx e1))),(16,Ba false)] []
  refine iE 74 Z2 [(2,[Bv false,Uv 0,Uv 0,Iv 0])] ?_
  refine Aa rfl (iQ 1 (eC 141 [Sv (tx e1),Sv (⟨#[43]⟩)] 26 (a8y (l:=e1) (c:=43)) (jC 168 [Sv (tx (Cs 43 e1))] 27 (b61 (v:=Ip e1) f1) ?_)))
  rintro _ ⟨er,rfl⟩
  refine iQ 5 ?_
  let Z3:=zT [(0,.d (Sv (tx s1))),(2,.p 2 0),(3,Ba false),(6,Ia (Ip e1)),(16,Ba false)] []
  refine iE 74 Z3 [(2,[Bv false,Uv 0,Uv 0,Iv 0])] ?_
  refine Aa rfl (iQ 1 (eC 153 [Sv (tx s1),Sv (⟨#[46]⟩)] 32 (Jw hY (by omega)) (iQ 7 (iE 74 (zT [(8,.d (Sv (tx w))),(9,.d (Sv (tx p)))] Z3) [(2,[Bv false,Uv 0,Uv 0,Iv 0])] ?_))))
  refine Aa rfl (iQ 2 (jB .add 9 (.string (tx w)) (.string (tx p)) 38 ?_))
  refine And.intro (Cw (m:=(w).length) (n:=(p).length) rfl rfl (by omega)) ?_
  intro s38 hs38
  have hl38:(s38:ByteArray).size=(w).length+(p).length:=Bz hs38 rfl rfl
  have e38:s38=tx (w ++ p):=by rw[hs38,Dg]
  obtain ⟨L,hLz⟩ : ∃ L,L=lz (w ++ p):=⟨_,rfl⟩
  have hLd:L.all Ci=true:=by rw[hLz];exact b6s f4
  have hLn:nvL L=nvL (w ++ p):=by rw[hLz,b1s]
  have hL0 : ∀ c r,L=c::r→c≠48:=fun c r h=>b2r (hLz.symm.trans h)
  have hLl:L.length≤w.length+p.length:=by rw[hLz];have:=(List.dropWhile_sublist (p:=(· == (48:UInt8))) (l:=w ++ p)).length_le;rw[List.length_append] at this;exact this
  rw[← hLn] at f5
  refine eC 169 [Sv s38,Sv (⟨#[48]⟩)] 39 (a6d e38 hLz) (iQ 1 (iE 74 (zT [(9,.d (Sv (tx p))),(11,.d (Sv (tx L)))] Z3) [(2,[Bv false,Uv 0,Uv 0,Iv 0])] ?_))
  refine Aa rfl (iQ 2 (jL .len [9] [.string (tx p)] 42 ?_))
  intro n42 hn42
  have e42:n42=p.length:=by rw[hn42];exact Aj _
  refine jB .sub 3 (.int .i64 (Ip e1)) (.int .i64 ((n42:Nat))) 43 ?_
  intro z43 hz43
  try replace hz43:=hz43.i64 (by omega)
  refine iQ 3 ?_
  let Z4:=zT [(0,.d (Sv (tx s1))),(2,.p 2 0),(3,Ba false),(9,.d (Sv (tx p))),(11,.d (Sv (tx L))),(12,.p 12 0),(16,Ba false)] []
  let Z5:=zH [(12,[Bv false,Uv 0,Uv 0,Uv 0,Uv 0,Iv z43,Bv false])] []
  refine iE 74 Z4 (zH [(2,[Bv false,Uv 0,Uv 0,Iv 0])] Z5) ?_
  refine Ae (Aa rfl (iQ 1 (jL .len [9] [.string (tx L)] 46 ?_)))
  intro n46 hn46
  have e46:n46=L.length:=by rw[hn46];exact Aj _
  refine jB .sub 3 (.int .i64 ((n46:Nat))) (.int .i64 38) 47 ?_
  intro z47 hz47
  try replace hz47:=hz47.i64 (by omega)
  refine iQ 1 (iE 74 (zT [(13,Ia z47)] Z4) (zH [(2,[Bv false,Uv 0,Uv 0,Iv 0])] Z5) ?_)
  refine Aa rfl (iQ 1 (jB .gtr 3 (.int .i64 z47) (.int .i64 0) 49 ?_))
  intro c49 hc49
  refine iE 74 (zT [(13,Ia z47),(49,Ba c49)] Z4) (zH [(2,[Bv false,Uv 0,Uv 0,Iv 0])] Z5) ?_
  cases c49
  ·replace hc49:=bf hc49
   refine iF (Ad (Af (Ae (Aa rfl (iQ 1 (jB .neq 9 (.string (tx L)) (.string (⟨#[]⟩)) 63 ?_))))))
   intro c63 hc63
   refine iE 74 (zT [(13,Ia z47),(49,Ba false),(63,Ba c63)] Z4) (zH [(2,[Bv false,Uv 0,Uv 0,Iv 0])] Z5) ?_
   cases c63
   ·replace hc63:=bf hc63
    have hLn0:L=[]:=(Cq _).1 (Classical.not_not.1 hc63)
    refine iF (Ad (Af (Aa rfl (iQ 1 (eC 56 [.agg [Bv false,Uv 0,Uv 0,Uv 0,Uv 0,Iv z43,Bv false],Iv 1] 71 (b62 (E:=z43) (by rw[← hT,f5,hLn0];exact congrArg (fun z ↦ Fg 1 false 0 z false) (by omega)) (by omega) (by omega)) (iQ 4 ?_))))))
    let Z6:=zT [(0,.d (Sv (tx s1))),(2,.p 2 0),(3,Ba ok),(9,.d (Sv (tx p))),(11,.d (Sv (tx L))),(12,.p 12 0),(13,Ia z47),(16,Ba false),(49,Ba false),(63,Ba false)] []
    refine iE 74 Z6 (zH [(2,[Bv g,Hw k,Lw k,Iv x])] Z5) ?_
    refine Ab (iS (.agg [Bv g,Hw k,Lw k,Iv x]) (Bv ok) [] ?_)
    rfl
   ·replace hc63:=bt hc63
    have hLn0:L≠[]:=fun h=>hc63 ((Cq _).2 h)
    refine iT (Am rfl (iQ 1 (eC 171 [Sv (tx L)] 66 (a3z (l:=L) rfl hLd hLn0 (by omega)) (iQ 5 ?_))))
    let Z7:=zH [(12,[Bv false,Uv 0,Uv 0,Hw (nvL L),Lw (nvL L),Iv z43,Bv false])] []
    refine iE 74 (zT [(13,Ia z47),(49,Ba false),(63,Ba true)] Z4) (zH [(2,[Bv false,Uv 0,Uv 0,Iv 0])] Z7) ?_
    refine Af (Aa rfl (iQ 1 (eC 56 [.agg [Bv false,Uv 0,Uv 0,Hw (nvL L),Lw (nvL L),Iv z43,Bv false],Iv 1] 71 (a22 (N:=nvL L) (E:=z43) (more:=false) (by rw[← hT,f5];congr 1;omega) (Fy hLd (by omega)) (by omega) (by omega)) (iQ 4 ?_))))
    let Z8:=zT [(0,.d (Sv (tx s1))),(2,.p 2 0),(3,Ba ok),(9,.d (Sv (tx p))),(11,.d (Sv (tx L))),(12,.p 12 0),(13,Ia z47),(16,Ba false),(49,Ba false),(63,Ba true)] []
    refine iE 74 Z8 (zH [(2,[Bv g,Hw k,Lw k,Iv x])] Z7) ?_
    refine Ab (iS (.agg [Bv g,Hw k,Lw k,Iv x]) (Bv ok) [] ?_)
    rfl
  ·replace hc49:=bt hc49
   refine iT (Aa rfl (iQ 1 (iY 9 (tx L) (38) (((tx L:ByteArray).size:Int)) (some 51) ?_)))
   refine And.intro (by rw[Aj];omega) ?_
   intro s51 hs51
   have hl51:=Dj hs51 (by rw[Aj];omega)
   have e51:s51=tx (L.drop 38):=Qh (by rw[hs51,Int.toNat_natCast];rfl)
   refine jC 170 [Sv s51,Sv (⟨#[48]⟩)] 52 (b24 e51 (by rw[List.length_drop];omega)) ?_
   rintro _ ⟨t,rfl,ht⟩
   refine jB .neq 9 (.string (tx t)) (.string (⟨#[]⟩)) 53 ?_
   intro c53 hc53
   refine iQ 2 ?_
   let Z9:=zH [(12,[Bv false,Uv 0,Uv 0,Uv 0,Uv 0,Iv z43,Bv c53])] []
   refine iE 74 (zT [(13,Ia z47),(49,Ba true)] Z4) (zH [(2,[Bv false,Uv 0,Uv 0,Iv 0])] Z9) ?_
   refine Aa rfl (iQ 3 (jB .add 3 (.int .i64 z43) (.int .i64 z47) 58 ?_))
   intro z58 hz58
   try replace hz58:=hz58.i64 (by omega)
   refine iQ 2 ?_
   let Z10:=zH [(12,[Bv false,Uv 0,Uv 0,Uv 0,Uv 0,Iv z58,Bv c53])] []
   refine iE 74 (zT [(13,Ia z47),(49,Ba true)] Z4) (zH [(2,[Bv false,Uv 0,Uv 0,Iv 0])] Z10) ?_
   refine Am rfl (iQ 1 (iY 9 (tx L) (0) (38) (some 61) ?_))
   refine And.intro (by rw[Aj];omega) ?_
   intro s61 hs61
   have hl61:=Dj hs61 (by rw[Aj];omega)
   have e61:s61=tx (L.take 38):=a4n (by rw[hs61];rfl)
   have hL38:L.take 38≠[]:=fun h=>by have:=congrArg List.length h;rw[List.length_take,List.length_nil] at this;omega
   refine iQ 1 ?_
   let Z11:=zT [(0,.d (Sv (tx s1))),(2,.p 2 0),(3,Ba false),(9,.d (Sv (tx p))),(11,.d (Sv s61)),(12,.p 12 0),(13,Ia z47),(16,Ba false),(49,Ba true)] []
   refine iE 74 Z11 (zH [(2,[Bv false,Uv 0,Uv 0,Iv 0])] Z10) ?_
   refine Af (Ae (Aa rfl (iQ 1 (jB .neq 9 (.string s61) (.string (⟨#[]⟩)) 63 ?_))))
   intro c63 hc63
   refine iE 74 (zT [(63,Ba c63)] Z11) (zH [(2,[Bv false,Uv 0,Uv 0,Iv 0])] Z10) ?_
   obtain rfl:c63=true:=hc63.2 ((by rw[e61,Ne,Cq];exact hL38))
   have hLd38:(L.take 38).all Ci=true:=by rw[List.all_eq_true] at hLd ⊢;exact fun y hy=>hLd y (List.mem_of_mem_take hy)
   refine iT (Am rfl (iQ 1 (eC 171 [Sv s61] 66 (a3z e61 hLd38 hL38 (by rw[List.length_take];omega)) ?_)))
   have hfc:=b46 (m:=1) (e:=Ip e1-p.length) (more:=c53) hLd hL0 (by omega) (by rw[hc53,Ne,Cq,ht])
   refine iQ 5 ?_
   let Z12:=zH [(12,[Bv false,Uv 0,Uv 0,Hw (nvL (L.take 38)),Lw (nvL (L.take 38)),Iv z58,Bv c53])] []
   refine iE 74 (zT [(63,Ba true)] Z11) (zH [(2,[Bv false,Uv 0,Uv 0,Iv 0])] Z12) ?_
   refine Af (Aa rfl (iQ 1 (eC 56 [.agg [Bv false,Uv 0,Uv 0,Hw (nvL (L.take 38)),Lw (nvL (L.take 38)),Iv z58,Bv c53],Iv 1] 71 (a22 (N:=nvL (L.take 38)) (E:=z58) (more:=c53) (by rw[← hT,f5,hfc,show z58=Ip e1-(p.length:Int)+((L.length-38:Nat):Int) by omega]) (Fy hLd38 (by rw[List.length_take];omega)) (by omega) (by omega)) (iQ 4 ?_))))
   let Z13:=zT [(0,.d (Sv (tx s1))),(2,.p 2 0),(3,Ba ok),(9,.d (Sv (tx p))),(11,.d (Sv s61)),(12,.p 12 0),(13,Ia z47),(16,Ba false),(49,Ba true),(63,Ba true)] []
   refine iE 74 Z13 (zH [(2,[Bv g,Hw k,Lw k,Iv x])] Z12) ?_
   refine Ab (iS (.agg [Bv g,Hw k,Lw k,Iv x]) (Bv ok) [] ?_)
   rfl
 ·replace hc16:=bt hc16
  refine iT (Aa rfl (iQ 3 (iE 74 (zT [(16,Ba true)] Z1) [(2,[Bv false,Uv 0,Uv 0,Iv 0])] ?_)))
  refine Ab (Ag (iS (.agg [Bv false,Uv 0,Uv 0,Iv 0]) (Bv false) [] ?_))
  have hs:Fp l=(false,0,0,false):=by rw[Fp,if_neg (fun h=>by have:=hb.2 h;rw[hc16] at this;cases this)]
  rw[hs] at hT
  simp only[Prod.mk.injEq] at hT
  obtain ⟨a1,a2,a3,a4⟩:=hT
  rw[← a1,← a2,← a3,← a4]
  rfl
theorem a9v {l:L8} {s:ByteArray} {g:Bool} {k:Nat} {x:Int} {ok:Bool} (hs:s=tx l) (hT:Fp l=(g,k,x,ok)) (hL:l.length≤1000000000000000) :
  HasC Tryz.prog 142 [.v (.string s)] (fun y=>y=.tup [Bk g k x,.v (.bool ok)]):=by subst hs;exact b2z hT hL
theorem Zj {m:Int} {s:Bool} {N:Nat} {e:Int} {more:Bool} {g:Bool} {k:Nat} {x:Int} {ok:Bool} (ht:Fg m s N e more=(g,k,x,ok)):k<E34 ∧ -6176≤x∧x≤6111∧(k=0→g=false):=by
 unfold Fg at ht
 exact Ma (Yr (Rb (by unfold Dp;omega))) ht
theorem Oe {l:L8} {g:Bool} {k:Nat} {x:Int} {ok:Bool} (h:Fp l=(g,k,x,ok)):k<E34 ∧ -6176≤x∧x≤6111∧(k=0→g=false):=by
 unfold Fp at h
 split at h
 ·exact Zj h
 ·simp only[Prod.mk.injEq] at h
  obtain ⟨rfl,rfl,rfl,rfl⟩:=h
  exact ⟨by decide,by decide,by decide,fun _=>rfl⟩
noncomputable def Ry (l:L8):T4:=if l.head?=some 45 then (!(Fp l.tail).1&&decide ((Fp l.tail).2.1≠0),(Fp l.tail).2.1,(Fp l.tail).2.2.1,(Fp l.tail).2.2.2) else Fp l
theorem a6p (c:UInt8) (l:L8):(Cs c l).length≤l.length∧((Cs c l).length≠l.length↔l.head?=some c):=by
 unfold Cs
 split
 ·rename_i h
  cases l with
  | nil=>cases h
  | cons x r=>simp at h;simp[h]
 ·rename_i h
  simp[h]
theorem b0v {l:L8} {g:Bool} {k:Nat} {x:Int} {ok:Bool} (hT:Ry l=(g,k,x,ok)) (hL:l.length≤1000000000000000):HasC Tryz.prog 121 [.v (.string (tx l))] (fun y=>y=.tup [Bk g k x,.v (.bool ok)]):=by
 refine hO [] Tryz.f121 (fun a w=>Tryz.call121 a w) Tryz.func121 rfl (⟨_,rfl⟩) ?_
 obtain ⟨g1,k1,x1,ok1,hR⟩ : ∃ a b c d,Fp (Cs 45 l)=(a,b,c,d):=⟨_,_,_,_,rfl⟩
 have htl:=a6p 45 l
 have hrg:=Oe hR
 refine Aa rfl (iQ 2 ?_)
 let Z1:=zT [(0,.d (Sv (tx l))),(2,.p 2 0),(3,Ba false)] []
 refine iE 24 Z1 [(2,[Bv false,Uv 0,Uv 0,Iv 0])] ?_
 refine Aa rfl (iQ 1 (eC 141 [Sv (tx l),Sv (⟨#[45]⟩)] 8 (a8y (l:=l) (c:=45)) (iQ 1 (iE 24 (zT [(4,.d (Sv (tx (Cs 45 l))))] Z1) [(2,[Bv false,Uv 0,Uv 0,Iv 0])] ?_))))
 refine Aa rfl (iQ 1 (eC 142 [Sv (tx (Cs 45 l))] 11 (a9v (l:=Cs 45 l) rfl hR (by omega)) (iQ 6 ?_)))
 let Z2:=zT [(4,.d (Sv (tx (Cs 45 l)))),(5,.p 5 0),(6,Ba ok1)] []
 let Z3:=zH [(2,[Bv false,Uv 0,Uv 0,Iv 0]),(5,[Bv g1,Hw k1,Lw k1,Iv x1])] []
 refine iE 24 (zT Z2 Z1) Z3 ?_
 refine Ae (Aa rfl (iQ 1 (jL .len [9] [.string (tx (Cs 45 l))] 15 ?_)))
 intro n15 hn15
 have e15:n15=(Cs 45 l).length:=by rw[hn15];exact Aj _
 refine iQ 1 (jL .len [9] [.string (tx l)] 17 ?_)
 intro n17 hn17
 have e17:n17=l.length:=by rw[hn17];exact Aj _
 refine jB .neq 3 (.int .i64 ((n15:Nat))) (.int .i64 ((n17:Nat))) 18 ?_
 intro c18 hc18
 refine iE 24 (zT [(18,Ba c18)] (zT Z2 Z1)) Z3 ?_
 cases c18
 ·replace hc18:=bf hc18
  have hh : ¬ l.head?=some 45:=fun h=>htl.2.2 h (by omega)
  refine iF (Ad (Af (Aa rfl (iQ 4 ?_))))
  let Z4:=zT [(0,.d (Sv (tx l))),(2,.p 2 0),(3,Ba ok1),(18,Ba false)] []
  let Z5:=zH [(2,[Bv g1,Hw k1,Lw k1,Iv x1]),(5,[Bv g1,Hw k1,Lw k1,Iv x1])] []
  refine iE 24 (zT Z4 Z2) Z5 ?_
  refine Ab (iS (.agg [Bv g1,Hw k1,Lw k1,Iv x1]) (Bv ok1) [] ?_)
  rw[Ry,if_neg hh] at hT
  rw[Cs,if_neg hh,hT] at hR
  simp only[Prod.mk.injEq] at hR
  obtain ⟨a1,a2,a3,a4⟩:=hR
  rw[← a1,← a2,← a3,← a4]
  rfl
 ·replace hc18:=bt hc18
  have hh:l.head?=some 45:=htl.2.1 (by omega)
  refine iT (Aa rfl (iQ 1 (eC 60 [.agg [Bv g1,Hw k1,Lw k1,Iv x1]] 20 (b55 (g:=g1) (A:=k1) (e:=x1) (Nat.lt_trans hrg.1 Br)) (iQ 3 ?_))))
  let Z6:=zT [(0,.d (Sv (tx l))),(2,.p 2 0),(3,Ba ok1),(18,Ba true)] []
  let Z7:=zH [(2,[Bv (!g1&&decide (k1≠0)),Hw k1,Lw k1,Iv x1])] []
  refine iE 24 (zT Z6 Z2) (zH [(5,[Bv g1,Hw k1,Lw k1,Iv x1])] Z7) ?_
  refine Ab (Ag (iS (.agg [Bv (!g1&&decide (k1≠0)),Hw k1,Lw k1,Iv x1]) (Bv ok1) [] ?_))
  rw[Ry,if_pos hh] at hT
  rw[Cs,if_pos hh] at hR
  rw[hR] at hT
  simp only[Prod.mk.injEq] at hT
  obtain ⟨a1,a2,a3,a4⟩:=hT
  rw[← a1,← a2,← a3,← a4]
  rfl
theorem a6l {l:L8} {s:ByteArray} {g:Bool} {k:Nat} {x:Int} {ok:Bool} (hs:s=tx l) (hT:Ry l=(g,k,x,ok)) (hL:l.length≤1000000000000000) :
  HasC Tryz.prog 121 [.v (.string s)] (fun y=>y=.tup [Bk g k x,.v (.bool ok)]):=by subst hs;exact b0v hT hL
theorem a6z {l:L8} {g:Bool} {k:Nat} {x:Int} {ok:Bool} (h:Ry l=(g,k,x,ok)):k<E34 ∧ -6176≤x∧x≤6111∧(k=0→g=false):=by
 unfold Ry at h
 split at h
 ·obtain ⟨g1,k1,x1,ok1,hR⟩ : ∃ a b c d,Fp l.tail=(a,b,c,d):=⟨_,_,_,_,rfl⟩
  have hr:=Oe hR
  rw[hR] at h
  simp only[Prod.mk.injEq] at h
  obtain ⟨rfl,rfl,rfl,rfl⟩:=h
  exact ⟨hr.1,hr.2.1,hr.2.2.1,fun h=>by simp[h]⟩
 ·exact Oe h
end Go.Proofs.YtdkgnmiiibpnnaaGreatDoor
