/-
  numeral: Text, Shape, Read, Signed, Plain. numeral: Read, Signed, Plain.
-/
import Derived.Test.YtpambeengdhhmaaGreatDoorNrV
import Derived.Test.YtpambeengdhhmaaGreatDoorDecY
namespace Go.Proofs.YtpambeengdhhmaaGreatDoor

open Go.RowKit
set_option linter.unusedVariables false
set_option linter.unusedSimpArgs false
set_option maxRecDepth 100000

theorem c_digs {l : L8} : HasC Tryz.prog 86 [.v (.string (tx l))] (fun r => ∃ b, r = .v (.bool b) ∧ (b = true ↔ digsB l = true)) := by
 refine HasC.of [] (fn := Tryz.f86) tyOk mixed (fun args w => Tryz.call86 args w) Tryz.func86 rfl (by kernel_rfl) (Nat.le_of_ble_eq_true rfl) (⟨_, digsB l, rfl, Iff.rfl⟩) ?_
 refine vc_seqr rfl (iQ 1 (iE 18 [(0, .d (Sv (tx l))), (2, Ba false)] [] ?_))
 refine vc_seq (vc_seqr rfl (iQ 1 (iG (tx l) 6 ?_)))
 refine iE 18 [(0, .d (Sv (tx l))), (2, Ba false), (6, .p 6 0)] [(6, [.tup [Sv (tx l), Iv 0]])] ?_
 refine vc_block (vc_loop 18 (fun (vcx : Int) => match vcx with | p => [(0, .d (Sv (tx l))), (2, Ba false), (6, .p 6 0)]) (fun (vcx : Int) => match vcx with | p => [(6, [.tup [Sv (tx l), Iv p]])]) (fun (vcx : Int) => match vcx with | p => 0 ≤ p ∧ p ≤ l.length ∧ (l.take p.toNat).all isDg = true) (fun (vcx : Int) => match vcx with | p => l.length - p.toNat) 0 (⟨by omega, by omega, rfl⟩) (by kernel_rfl) (by kernel_rfl) ?_)
 rintro p hinv
 simp only at hinv
 obtain ⟨h1, h2, h3⟩ := hinv
 refine vc_seqr rfl ?_
 refine iN 6 (tx l) (p) 7 (by omega) ?_ ?_
 ·intro hp7 c7 q7 w7 hn7 hq7
  refine iQ 1 (iE 18 [(0, .d (Sv (tx l))), (2, Ba false), (6, .p 6 0), (7, .d (.tup [Bv true, Iv p, .v (.int .i32 c7)])), (8, Ba true)] [(6, [.tup [Sv (tx l), Iv q7]])] ?_)
  have hpl : p.toNat < l.length := by have := tx_size l; omega
  have hg := List.getElem?_eq_getElem hpl
  have hcd : 48 ≤ c7 ∧ c7 ≤ 57 ↔ isD (tx l) p.toNat := rd_digit hn7 h1 hp7
  rw [isD_tx hg] at hcd
  have key : ¬ isDg (l[p.toNat]'hpl) = true → ¬ digsB l = true := fun hn h => hn (List.all_eq_true.1 (digsB_iff.1 h).2 _ (List.mem_of_getElem? hg))
  refine vc_seq (iT (vc_skip (seq_n (vc_block (vc_seqr rfl (iQ 2 (iE 18 [(0, .d (Sv (tx l))), (2, Ba false), (4, .d (.v (.int .i32 c7))), (6, .p 6 0), (7, .d (.tup [Bv true, Iv p, .v (.int .i32 c7)])), (8, Ba true)] [(6, [.tup [Sv (tx l), Iv q7]])] ?_)))))))
  refine vc_seqr rfl (iQ 1 (iB .lss 21 (.int .i32 c7) (.int .i32 48) (some 11) ?_))
  intro c11 hc11
  refine iQ 1 ?_
  cases c11
  ·replace hc11 := bf hc11
   refine iQ 1 (iB .gtr 21 (.int .i32 c7) (.int .i32 57) (some 14) ?_)
   intro c14 hc14
   refine iQ 1 (iE 18 [(0, .d (Sv (tx l))), (2, Ba false), (4, .d (.v (.int .i32 c7))), (6, .p 6 0), (7, .d (.tup [Bv true, Iv p, .v (.int .i32 c7)])), (8, Ba true), (15, Ba c14)] [(6, [.tup [Sv (tx l), Iv q7]])] ?_)
   cases c14
   ·replace hc14 := bf hc14
    have hd := hcd.1 ⟨by omega, by omega⟩
    have hd2 := isDg_iff.1 hd
    have hba := bAt_tx l p.toNat
    rw [hg] at hba
    simp only [Option.getD_some] at hba
    obtain ⟨hc, hw⟩ := hn7.low h1 hp7 (by omega)
    refine iF (vc_skip (block_n ?_))
    refine loop_n (q7) (⟨by omega, by omega, by rw [hq7, hw, show (p + ((1 : Nat) : Int)).toNat = p.toNat + 1 by omega]; exact take_snoc_all hg h3 hd⟩) (by show l.length - q7.toNat < l.length - p.toNat; omega) (by kernel_rfl) (by kernel_rfl)
   ·replace hc14 := bt hc14
    refine iT (vc_seqr rfl (iQ 1 (iE 18 [(0, .d (Sv (tx l))), (2, Ba false), (4, .d (.v (.int .i32 c7))), (6, .p 6 0), (7, .d (.tup [Bv true, Iv p, .v (.int .i32 c7)])), (8, Ba true), (15, Ba true)] [(6, [.tup [Sv (tx l), Iv q7]])] ?_)))
    refine vc_ret (block_r (loop_r (block_r (seq_r (iR (Bv false) ?_)))))
    exact ⟨_, rfl, by simp only [Bool.false_eq_true, false_iff]; exact key (fun e => by have := hcd.2 e; omega)⟩
  ·replace hc11 := bt hc11
   refine iQ 3 (iE 18 [(0, .d (Sv (tx l))), (2, Ba false), (4, .d (.v (.int .i32 c7))), (6, .p 6 0), (7, .d (.tup [Bv true, Iv p, .v (.int .i32 c7)])), (8, Ba true), (15, Ba true)] [(6, [.tup [Sv (tx l), Iv q7]])] ?_)
   refine iT (vc_seqr rfl (iQ 1 (iE 18 [(0, .d (Sv (tx l))), (2, Ba false), (4, .d (.v (.int .i32 c7))), (6, .p 6 0), (7, .d (.tup [Bv true, Iv p, .v (.int .i32 c7)])), (8, Ba true), (15, Ba true)] [(6, [.tup [Sv (tx l), Iv q7]])] ?_)))
   refine vc_ret (block_r (loop_r (block_r (seq_r (iR (Bv false) ?_)))))
   exact ⟨_, rfl, by simp only [Bool.false_eq_true, false_iff]; exact key (fun e => by have := hcd.2 e; omega)⟩
 ·intro hp7 
  refine iQ 1 (iE 18 [(0, .d (Sv (tx l))), (2, Ba false), (6, .p 6 0), (7, .d (.tup [Bv false])), (8, Ba false)] [(6, [.tup [Sv (tx l), Iv p]])] ?_)
  have hp : p.toNat = l.length := by have := tx_size l; omega
  rw [hp, List.take_of_length_le (Nat.le_refl _)] at h3
  refine vc_seq (iF (vc_exit (seq_x (loop_x (block_x rfl (seq_n (vc_seqr rfl (iQ 1 (iB .neq 9 (.string (tx l)) (.string (⟨#[]⟩)) (some 17) ?_)))))))))
  intro c17 hc17
  refine iQ 1 (iE 18 [(0, .d (Sv (tx l))), (2, Ba c17), (6, .p 6 0), (7, .d (.tup [Bv false])), (8, Ba false)] [(6, [.tup [Sv (tx l), Iv p]])] ?_)
  refine vc_ret (iR (Bv c17) ?_)
  exact ⟨_, rfl, by rw [hc17, digsB_iff, Ne, bempty]; exact ⟨fun h => ⟨h, h3⟩, fun h => h.1⟩⟩
theorem c_digsE {l : L8} {s : ByteArray} (hs : s = tx l) : HasC Tryz.prog 86 [.v (.string s)] (fun r => ∃ b, r = .v (.bool b) ∧ (b = true ↔ digsB l = true)) := by subst hs; exact c_digs
theorem shape_eq {l s1 e1 w p : L8} {is1 pt : Bool} (hX : cutL 69 l = (s1, e1, is1)) (hY : cutL 46 s1 = (w, p, pt)) :
    shapeB l = ((!is1 || (digsB (signP e1) && decide ((signP e1).length ≤ 6))) && ((pt && digsB p && (w.isEmpty || digsB w)) || (!pt && digsB w))) := by simp only [shapeB, expB, pntB, hX, hY]
theorem cutL_rest {c : UInt8} {l a b : L8} {g : Bool} (h : cutL c l = (a, b, g)) : (g = false → b = []) ∧ a.length ≤ l.length ∧ b.length ≤ l.length := by
  have h1 := cutL_len c l
  rw [h] at h1
  refine ⟨fun hg => ?_, h1.1, h1.2⟩
  subst hg
  unfold cutL at h
  split at h
  · simp at h
  · simp at h; exact h.2
theorem signP_tail {e : L8} (h : e.head? = some 45 ∨ e.head? = some 43) : signP e = e.tail := by rw [signP, if_pos h]
theorem signP_own {e : L8} (h : ¬ (e.head? = some 45 ∨ e.head? = some 43)) : signP e = e := by rw [signP, if_neg h]

set_option maxHeartbeats 1600000 in
theorem c_Shape {l : L8} (hL : l.length ≤ 1000000000000000) : HasC Tryz.prog 52 [.v (.string (tx l))] (fun r => ∃ b, r = .v (.bool b) ∧ (b = true ↔ shapeB l = true)) := by
 refine HasC.of [] (fn := Tryz.f52) tyOk mixed (fun args w => Tryz.call52 args w) Tryz.func52 rfl (by kernel_rfl) (Nat.le_of_ble_eq_true rfl) (⟨_, shapeB l, rfl, Iff.rfl⟩) ?_
 obtain ⟨s1, e1, is1, hX⟩ : ∃ a b g, cutL 69 l = (a, b, g) := ⟨_, _, _, rfl⟩
 obtain ⟨w, p, pt, hY⟩ : ∃ a b g, cutL 46 s1 = (a, b, g) := ⟨_, _, _, rfl⟩
 have hx := cutL_rest hX
 refine vc_seqr rfl (iQ 1 (iE 64 [(0, .d (Sv (tx l))), (2, Ba false)] [] ?_))
 refine vc_seqr rfl (iQ 1 (iC 53 [Sv (tx l), Sv (⟨#[69]⟩)] (some 10) (c_CutE hX (by omega)) ?_))
 rintro _ rfl
 refine iQ 7 (iE 64 [(0, .d (Sv (tx s1))), (2, Ba false), (3, .d (Sv (tx e1))), (4, Ba is1)] [] ?_)
 refine vc_seq (vc_seqr rfl (iQ 1 (iE 64 [(0, .d (Sv (tx s1))), (2, Ba false), (3, .d (Sv (tx e1))), (14, Ba is1)] [] ?_)))
 cases is1
 ·skip
  have hS : shapeB l = ((pt && digsB p && (w.isEmpty || digsB w)) || (!pt && digsB w)) := by rw [shape_eq hX hY]; simp
  refine iF (vc_skip (seq_n (vc_seqr rfl (iQ 1 (iC 53 [Sv (tx s1), Sv (⟨#[46]⟩)] (some 39) (c_CutE hY (by omega)) ?_)))))
  rintro _ rfl
  refine iQ 7 (iE 64 [(0, .d (Sv (tx s1))), (2, Ba false), (3, .d (Sv (tx e1))), (5, .d (Sv (tx w))), (6, .d (Sv (tx p))), (7, Ba pt), (14, Ba false)] [] ?_)
  refine vc_seqr rfl (iQ 2 ?_)
  cases pt
  ·skip
   refine iQ 13 (iU .not (.bool false) (some 58) ?_)
   intro c58 hc58
   refine iQ 1 ?_
   obtain rfl : c58 = true := hc58.2 (by simp)
   refine iQ 1 (iC 86 [Sv (tx w)] (some 61) (c_digs) ?_)
   rintro _ ⟨b3, rfl, hb3⟩
   refine iQ 3 (iE 64 [(0, .d (Sv (tx s1))), (2, Ba b3), (3, .d (Sv (tx e1))), (14, Ba false)] [] ?_)
   refine vc_ret (iR (Bv b3) ?_)
   exact ⟨_, rfl, by rw [hS, hb3]; simp⟩
  ·skip
   refine iQ 1 (iC 86 [Sv (tx p)] (some 46) (c_digs) ?_)
   rintro _ ⟨b1, rfl, hb1⟩
   refine iQ 2 ?_
   cases b1
   ·replace hb1 := bf hb1
    refine iQ 9 (iU .not (.bool true) (some 58) ?_)
    intro c58 hc58
    refine iQ 1 ?_
    obtain rfl : c58 = false := bff hc58 (by simp)
    refine iQ 5 (iE 64 [(0, .d (Sv (tx s1))), (2, Ba false), (3, .d (Sv (tx e1))), (14, Ba false)] [] ?_)
    refine vc_ret (iR (Bv false) ?_)
    exact ⟨_, rfl, by rw [hS]; simp [hb1]⟩
   ·replace hb1 := bt hb1
    refine iQ 1 (iB .eql 9 (.string (tx w)) (.string (⟨#[]⟩)) (some 50) ?_)
    intro c50 hc50
    refine iQ 1 ?_
    cases c50
    ·replace hc50 := bf hc50
     refine iQ 1 ?_
     have hw0 : w.isEmpty = false := by cases w with | nil => exact absurd rfl hc50 | cons x r => rfl
     refine iC 86 [Sv (tx w)] (some 53) (c_digs) ?_
     rintro _ ⟨b2, rfl, hb2⟩
     refine iQ 3 ?_
     cases b2
     ·replace hb2 := bf hb2
      refine iQ 1 (iU .not (.bool true) (some 58) ?_)
      intro c58 hc58
      refine iQ 1 ?_
      obtain rfl : c58 = false := bff hc58 (by simp)
      refine iQ 5 (iE 64 [(0, .d (Sv (tx s1))), (2, Ba false), (3, .d (Sv (tx e1))), (14, Ba false)] [] ?_)
      refine vc_ret (iR (Bv false) ?_)
      exact ⟨_, rfl, by rw [hS]; simp [hb1, hb2, hw0]⟩
     ·replace hb2 := bt hb2
      refine iQ 8 (iE 64 [(0, .d (Sv (tx s1))), (2, Ba true), (3, .d (Sv (tx e1))), (14, Ba false)] [] ?_)
      refine vc_ret (iR (Bv true) ?_)
      exact ⟨_, rfl, by rw [hS]; simp [hb1, hb2]⟩
    ·replace hc50 := bt hc50
     refine iQ 13 (iE 64 [(0, .d (Sv (tx s1))), (2, Ba true), (3, .d (Sv (tx e1))), (14, Ba false)] [] ?_)
     refine vc_ret (iR (Bv true) ?_)
     exact ⟨_, rfl, by rw [hS]; simp [hb1, (bempty _).1 hc50]⟩
 ·skip
  refine iT (vc_seq (vc_seqr rfl (iQ 1 (iB .neq 9 (.string (tx e1)) (.string (⟨#[]⟩)) (some 16) ?_))))
  intro c16 hc16
  refine iQ 1 ?_
  cases c16
  ·replace hc16 := bf hc16
   refine iQ 9 (iE 64 [(0, .d (Sv (tx s1))), (2, Ba false), (3, .d (Sv (tx e1))), (14, Ba true), (26, Ba false)] [] ?_)
   have h0 : e1 = [] := (bempty _).1 (Classical.not_not.1 hc16)
   have hsg : signP e1 = e1 := signP_own (by rw [h0]; simp)
   have eE : tx e1 = tx e1 := rfl
   refine iF (vc_skip (seq_n (vc_seqr rfl (iQ 1 (iC 86 [Sv (tx e1)] (some 30) (c_digsE eE) ?_)))))
   rintro _ ⟨b4, rfl, hb4⟩
   refine iU .not (.bool b4) (some 31) ?_
   intro c31 hc31
   refine iQ 1 ?_
   cases c31
   ·replace hc31 := bf hc31
    refine iQ 1 (iL .len [9] [.string (tx e1)] (some 34) ?_)
    intro n34 hn34
    have h8 : digsB (e1) = true := hb4.1 (by simpa using hc31)
    have e34 : n34 = (e1).length := by rw [hn34, eE, tx_size]
    refine iB .gtr 3 (.int .i64 ((n34 : Nat))) (.int .i64 6) (some 35) ?_
    intro c35 hc35
    refine iQ 1 (iE 64 [(0, .d (Sv (tx s1))), (2, Ba false), (3, .d (Sv (tx e1))), (14, Ba true), (26, Ba false), (36, Ba c35)] [] ?_)
    cases c35
    ·replace hc35 := bf hc35
     have hS : shapeB l = ((pt && digsB p && (w.isEmpty || digsB w)) || (!pt && digsB w)) := by rw [shape_eq hX hY, hsg, h8, decide_eq_true (show (e1).length ≤ 6 by omega)]; simp
     refine iF (vc_skip (seq_n (vc_seqr rfl (iQ 1 (iC 53 [Sv (tx s1), Sv (⟨#[46]⟩)] (some 39) (c_CutE hY (by omega)) ?_)))))
     rintro _ rfl
     refine iQ 7 (iE 64 [(0, .d (Sv (tx s1))), (2, Ba false), (3, .d (Sv (tx e1))), (5, .d (Sv (tx w))), (6, .d (Sv (tx p))), (7, Ba pt), (14, Ba true), (26, Ba false), (36, Ba false)] [] ?_)
     refine vc_seqr rfl (iQ 2 ?_)
     cases pt
     ·skip
      refine iQ 13 (iU .not (.bool false) (some 58) ?_)
      intro c58 hc58
      refine iQ 1 ?_
      obtain rfl : c58 = true := hc58.2 (by simp)
      refine iQ 1 (iC 86 [Sv (tx w)] (some 61) (c_digs) ?_)
      rintro _ ⟨b3, rfl, hb3⟩
      refine iQ 3 (iE 64 [(0, .d (Sv (tx s1))), (2, Ba b3), (3, .d (Sv (tx e1))), (14, Ba true), (26, Ba false), (36, Ba false)] [] ?_)
      refine vc_ret (iR (Bv b3) ?_)
      exact ⟨_, rfl, by rw [hS, hb3]; simp⟩
     ·skip
      refine iQ 1 (iC 86 [Sv (tx p)] (some 46) (c_digs) ?_)
      rintro _ ⟨b1, rfl, hb1⟩
      refine iQ 2 ?_
      cases b1
      ·replace hb1 := bf hb1
       refine iQ 9 (iU .not (.bool true) (some 58) ?_)
       intro c58 hc58
       refine iQ 1 ?_
       obtain rfl : c58 = false := bff hc58 (by simp)
       refine iQ 5 (iE 64 [(0, .d (Sv (tx s1))), (2, Ba false), (3, .d (Sv (tx e1))), (14, Ba true), (26, Ba false), (36, Ba false)] [] ?_)
       refine vc_ret (iR (Bv false) ?_)
       exact ⟨_, rfl, by rw [hS]; simp [hb1]⟩
      ·replace hb1 := bt hb1
       refine iQ 1 (iB .eql 9 (.string (tx w)) (.string (⟨#[]⟩)) (some 50) ?_)
       intro c50 hc50
       refine iQ 1 ?_
       cases c50
       ·replace hc50 := bf hc50
        refine iQ 1 ?_
        have hw0 : w.isEmpty = false := by cases w with | nil => exact absurd rfl hc50 | cons x r => rfl
        refine iC 86 [Sv (tx w)] (some 53) (c_digs) ?_
        rintro _ ⟨b2, rfl, hb2⟩
        refine iQ 3 ?_
        cases b2
        ·replace hb2 := bf hb2
         refine iQ 1 (iU .not (.bool true) (some 58) ?_)
         intro c58 hc58
         refine iQ 1 ?_
         obtain rfl : c58 = false := bff hc58 (by simp)
         refine iQ 5 (iE 64 [(0, .d (Sv (tx s1))), (2, Ba false), (3, .d (Sv (tx e1))), (14, Ba true), (26, Ba false), (36, Ba false)] [] ?_)
         refine vc_ret (iR (Bv false) ?_)
         exact ⟨_, rfl, by rw [hS]; simp [hb1, hb2, hw0]⟩
        ·replace hb2 := bt hb2
         refine iQ 8 (iE 64 [(0, .d (Sv (tx s1))), (2, Ba true), (3, .d (Sv (tx e1))), (14, Ba true), (26, Ba false), (36, Ba false)] [] ?_)
         refine vc_ret (iR (Bv true) ?_)
         exact ⟨_, rfl, by rw [hS]; simp [hb1, hb2]⟩
       ·replace hc50 := bt hc50
        refine iQ 13 (iE 64 [(0, .d (Sv (tx s1))), (2, Ba true), (3, .d (Sv (tx e1))), (14, Ba true), (26, Ba false), (36, Ba false)] [] ?_)
        refine vc_ret (iR (Bv true) ?_)
        exact ⟨_, rfl, by rw [hS]; simp [hb1, (bempty _).1 hc50]⟩
    ·replace hc35 := bt hc35
     refine iT (vc_seqr rfl (iQ 1 (iE 64 [(0, .d (Sv (tx s1))), (2, Ba false), (3, .d (Sv (tx e1))), (14, Ba true), (26, Ba false), (36, Ba true)] [] ?_)))
     refine vc_ret (seq_r (iR (Bv false) ?_))
     exact ⟨_, rfl, by rw [shape_eq hX hY, hsg]; rw [decide_eq_false (show ¬ (e1).length ≤ 6 by omega)]; simp⟩
   ·replace hc31 := bt hc31
    refine iQ 4 (iE 64 [(0, .d (Sv (tx s1))), (2, Ba false), (3, .d (Sv (tx e1))), (14, Ba true), (26, Ba false), (36, Ba true)] [] ?_)
    refine iT (vc_seqr rfl (iQ 1 (iE 64 [(0, .d (Sv (tx s1))), (2, Ba false), (3, .d (Sv (tx e1))), (14, Ba true), (26, Ba false), (36, Ba true)] [] ?_)))
    refine vc_ret (seq_r (iR (Bv false) ?_))
    exact ⟨_, rfl, by rw [shape_eq hX hY, hsg]; have h9 : ¬ digsB (e1) = true := (fun h => by have := hb4.2 h; rw [hc31] at this; cases this); simp [h9]⟩
  ·replace hc16 := bt hc16
   refine iQ 1 (iX 9 (.string (tx e1)) (.int .i64 0) (some 19) ?_)
   have h0 : e1 ≠ [] := fun e => hc16 ((bempty _).2 e)
   have h00 : 0 < e1.length := List.length_pos_iff.2 h0
   refine And.intro (by rw [tx_size]; omega) ?_
   intro z19 hz19
   have e19 := at0_tx (z := z19) (c := 45) h0 hz19
   refine iB .eql 5 (.int .u8 z19) (.int .u8 45) (some 20) ?_
   intro c20 hc20
   refine iQ 1 ?_
   cases c20
   ·replace hc20 := bf hc20
    refine iQ 1 (iX 9 (.string (tx e1)) (.int .i64 0) (some 23) ?_)
    refine And.intro (by rw [tx_size]; omega) ?_
    intro z23 hz23
    have e23 := at0_tx (z := z23) (c := 43) h0 hz23
    refine iB .eql 5 (.int .u8 z23) (.int .u8 43) (some 24) ?_
    intro c24 hc24
    refine iQ 2 (iE 64 [(0, .d (Sv (tx s1))), (2, Ba false), (3, .d (Sv (tx e1))), (14, Ba true), (26, Ba c24)] [] ?_)
    cases c24
    ·replace hc24 := bf hc24
     have hsg : signP e1 = e1 := signP_own (by rintro (q | q); exact hc20 (e19.2 q); exact hc24 (e23.2 q))
     have eE : tx e1 = tx e1 := rfl
     refine iF (vc_skip (seq_n (vc_seqr rfl (iQ 1 (iC 86 [Sv (tx e1)] (some 30) (c_digsE eE) ?_)))))
     rintro _ ⟨b4, rfl, hb4⟩
     refine iU .not (.bool b4) (some 31) ?_
     intro c31 hc31
     refine iQ 1 ?_
     cases c31
     ·replace hc31 := bf hc31
      refine iQ 1 (iL .len [9] [.string (tx e1)] (some 34) ?_)
      intro n34 hn34
      have h8 : digsB (e1) = true := hb4.1 (by simpa using hc31)
      have e34 : n34 = (e1).length := by rw [hn34, eE, tx_size]
      refine iB .gtr 3 (.int .i64 ((n34 : Nat))) (.int .i64 6) (some 35) ?_
      intro c35 hc35
      refine iQ 1 (iE 64 [(0, .d (Sv (tx s1))), (2, Ba false), (3, .d (Sv (tx e1))), (14, Ba true), (26, Ba false), (36, Ba c35)] [] ?_)
      cases c35
      ·replace hc35 := bf hc35
       have hS : shapeB l = ((pt && digsB p && (w.isEmpty || digsB w)) || (!pt && digsB w)) := by rw [shape_eq hX hY, hsg, h8, decide_eq_true (show (e1).length ≤ 6 by omega)]; simp
       refine iF (vc_skip (seq_n (vc_seqr rfl (iQ 1 (iC 53 [Sv (tx s1), Sv (⟨#[46]⟩)] (some 39) (c_CutE hY (by omega)) ?_)))))
       rintro _ rfl
       refine iQ 7 (iE 64 [(0, .d (Sv (tx s1))), (2, Ba false), (3, .d (Sv (tx e1))), (5, .d (Sv (tx w))), (6, .d (Sv (tx p))), (7, Ba pt), (14, Ba true), (26, Ba false), (36, Ba false)] [] ?_)
       refine vc_seqr rfl (iQ 2 ?_)
       cases pt
       ·skip
        refine iQ 13 (iU .not (.bool false) (some 58) ?_)
        intro c58 hc58
        refine iQ 1 ?_
        obtain rfl : c58 = true := hc58.2 (by simp)
        refine iQ 1 (iC 86 [Sv (tx w)] (some 61) (c_digs) ?_)
        rintro _ ⟨b3, rfl, hb3⟩
        refine iQ 3 (iE 64 [(0, .d (Sv (tx s1))), (2, Ba b3), (3, .d (Sv (tx e1))), (14, Ba true), (26, Ba false), (36, Ba false)] [] ?_)
        refine vc_ret (iR (Bv b3) ?_)
        exact ⟨_, rfl, by rw [hS, hb3]; simp⟩
       ·skip
        refine iQ 1 (iC 86 [Sv (tx p)] (some 46) (c_digs) ?_)
        rintro _ ⟨b1, rfl, hb1⟩
        refine iQ 2 ?_
        cases b1
        ·replace hb1 := bf hb1
         refine iQ 9 (iU .not (.bool true) (some 58) ?_)
         intro c58 hc58
         refine iQ 1 ?_
         obtain rfl : c58 = false := bff hc58 (by simp)
         refine iQ 5 (iE 64 [(0, .d (Sv (tx s1))), (2, Ba false), (3, .d (Sv (tx e1))), (14, Ba true), (26, Ba false), (36, Ba false)] [] ?_)
         refine vc_ret (iR (Bv false) ?_)
         exact ⟨_, rfl, by rw [hS]; simp [hb1]⟩
        ·replace hb1 := bt hb1
         refine iQ 1 (iB .eql 9 (.string (tx w)) (.string (⟨#[]⟩)) (some 50) ?_)
         intro c50 hc50
         refine iQ 1 ?_
         cases c50
         ·replace hc50 := bf hc50
          refine iQ 1 ?_
          have hw0 : w.isEmpty = false := by cases w with | nil => exact absurd rfl hc50 | cons x r => rfl
          refine iC 86 [Sv (tx w)] (some 53) (c_digs) ?_
          rintro _ ⟨b2, rfl, hb2⟩
          refine iQ 3 ?_
          cases b2
          ·replace hb2 := bf hb2
           refine iQ 1 (iU .not (.bool true) (some 58) ?_)
           intro c58 hc58
           refine iQ 1 ?_
           obtain rfl : c58 = false := bff hc58 (by simp)
           refine iQ 5 (iE 64 [(0, .d (Sv (tx s1))), (2, Ba false), (3, .d (Sv (tx e1))), (14, Ba true), (26, Ba false), (36, Ba false)] [] ?_)
           refine vc_ret (iR (Bv false) ?_)
           exact ⟨_, rfl, by rw [hS]; simp [hb1, hb2, hw0]⟩
          ·replace hb2 := bt hb2
           refine iQ 8 (iE 64 [(0, .d (Sv (tx s1))), (2, Ba true), (3, .d (Sv (tx e1))), (14, Ba true), (26, Ba false), (36, Ba false)] [] ?_)
           refine vc_ret (iR (Bv true) ?_)
           exact ⟨_, rfl, by rw [hS]; simp [hb1, hb2]⟩
         ·replace hc50 := bt hc50
          refine iQ 13 (iE 64 [(0, .d (Sv (tx s1))), (2, Ba true), (3, .d (Sv (tx e1))), (14, Ba true), (26, Ba false), (36, Ba false)] [] ?_)
          refine vc_ret (iR (Bv true) ?_)
          exact ⟨_, rfl, by rw [hS]; simp [hb1, (bempty _).1 hc50]⟩
      ·replace hc35 := bt hc35
       refine iT (vc_seqr rfl (iQ 1 (iE 64 [(0, .d (Sv (tx s1))), (2, Ba false), (3, .d (Sv (tx e1))), (14, Ba true), (26, Ba false), (36, Ba true)] [] ?_)))
       refine vc_ret (seq_r (iR (Bv false) ?_))
       exact ⟨_, rfl, by rw [shape_eq hX hY, hsg]; rw [decide_eq_false (show ¬ (e1).length ≤ 6 by omega)]; simp⟩
     ·replace hc31 := bt hc31
      refine iQ 4 (iE 64 [(0, .d (Sv (tx s1))), (2, Ba false), (3, .d (Sv (tx e1))), (14, Ba true), (26, Ba false), (36, Ba true)] [] ?_)
      refine iT (vc_seqr rfl (iQ 1 (iE 64 [(0, .d (Sv (tx s1))), (2, Ba false), (3, .d (Sv (tx e1))), (14, Ba true), (26, Ba false), (36, Ba true)] [] ?_)))
      refine vc_ret (seq_r (iR (Bv false) ?_))
      exact ⟨_, rfl, by rw [shape_eq hX hY, hsg]; have h9 : ¬ digsB (e1) = true := (fun h => by have := hb4.2 h; rw [hc31] at this; cases this); simp [h9]⟩
    ·replace hc24 := bt hc24
     have hsg : signP e1 = e1.tail := signP_tail (.inr (e23.1 hc24))
     refine iT (vc_reg rfl (iQ 1 (iY 9 (tx e1) (1) (((tx e1 : ByteArray).size : Int)) (some 28) ?_)))
     refine And.intro (by rw [tx_size]; omega) ?_
     intro s28 hs28
     have eE : s28 = tx e1.tail := tail_tx hs28
     refine iQ 1 (iE 64 [(0, .d (Sv (tx s1))), (2, Ba false), (3, .d (Sv s28)), (14, Ba true), (26, Ba true)] [] ?_)
     refine seq_n (vc_seqr rfl (iQ 1 (iC 86 [Sv s28] (some 30) (c_digsE eE) ?_)))
     rintro _ ⟨b4, rfl, hb4⟩
     refine iU .not (.bool b4) (some 31) ?_
     intro c31 hc31
     refine iQ 1 ?_
     cases c31
     ·replace hc31 := bf hc31
      refine iQ 1 (iL .len [9] [.string s28] (some 34) ?_)
      intro n34 hn34
      have h8 : digsB (e1.tail) = true := hb4.1 (by simpa using hc31)
      have e34 : n34 = (e1.tail).length := by rw [hn34, eE, tx_size]
      refine iB .gtr 3 (.int .i64 ((n34 : Nat))) (.int .i64 6) (some 35) ?_
      intro c35 hc35
      refine iQ 1 (iE 64 [(0, .d (Sv (tx s1))), (2, Ba false), (3, .d (Sv s28)), (14, Ba true), (26, Ba true), (36, Ba c35)] [] ?_)
      cases c35
      ·replace hc35 := bf hc35
       have hS : shapeB l = ((pt && digsB p && (w.isEmpty || digsB w)) || (!pt && digsB w)) := by rw [shape_eq hX hY, hsg, h8, decide_eq_true (show (e1.tail).length ≤ 6 by omega)]; simp
       refine iF (vc_skip (seq_n (vc_seqr rfl (iQ 1 (iC 53 [Sv (tx s1), Sv (⟨#[46]⟩)] (some 39) (c_CutE hY (by omega)) ?_)))))
       rintro _ rfl
       refine iQ 7 (iE 64 [(0, .d (Sv (tx s1))), (2, Ba false), (3, .d (Sv s28)), (5, .d (Sv (tx w))), (6, .d (Sv (tx p))), (7, Ba pt), (14, Ba true), (26, Ba true), (36, Ba false)] [] ?_)
       refine vc_seqr rfl (iQ 2 ?_)
       cases pt
       ·skip
        refine iQ 13 (iU .not (.bool false) (some 58) ?_)
        intro c58 hc58
        refine iQ 1 ?_
        obtain rfl : c58 = true := hc58.2 (by simp)
        refine iQ 1 (iC 86 [Sv (tx w)] (some 61) (c_digs) ?_)
        rintro _ ⟨b3, rfl, hb3⟩
        refine iQ 3 (iE 64 [(0, .d (Sv (tx s1))), (2, Ba b3), (3, .d (Sv s28)), (14, Ba true), (26, Ba true), (36, Ba false)] [] ?_)
        refine vc_ret (iR (Bv b3) ?_)
        exact ⟨_, rfl, by rw [hS, hb3]; simp⟩
       ·skip
        refine iQ 1 (iC 86 [Sv (tx p)] (some 46) (c_digs) ?_)
        rintro _ ⟨b1, rfl, hb1⟩
        refine iQ 2 ?_
        cases b1
        ·replace hb1 := bf hb1
         refine iQ 9 (iU .not (.bool true) (some 58) ?_)
         intro c58 hc58
         refine iQ 1 ?_
         obtain rfl : c58 = false := bff hc58 (by simp)
         refine iQ 5 (iE 64 [(0, .d (Sv (tx s1))), (2, Ba false), (3, .d (Sv s28)), (14, Ba true), (26, Ba true), (36, Ba false)] [] ?_)
         refine vc_ret (iR (Bv false) ?_)
         exact ⟨_, rfl, by rw [hS]; simp [hb1]⟩
        ·replace hb1 := bt hb1
         refine iQ 1 (iB .eql 9 (.string (tx w)) (.string (⟨#[]⟩)) (some 50) ?_)
         intro c50 hc50
         refine iQ 1 ?_
         cases c50
         ·replace hc50 := bf hc50
          refine iQ 1 ?_
          have hw0 : w.isEmpty = false := by cases w with | nil => exact absurd rfl hc50 | cons x r => rfl
          refine iC 86 [Sv (tx w)] (some 53) (c_digs) ?_
          rintro _ ⟨b2, rfl, hb2⟩
          refine iQ 3 ?_
          cases b2
          ·replace hb2 := bf hb2
           refine iQ 1 (iU .not (.bool true) (some 58) ?_)
           intro c58 hc58
           refine iQ 1 ?_
           obtain rfl : c58 = false := bff hc58 (by simp)
           refine iQ 5 (iE 64 [(0, .d (Sv (tx s1))), (2, Ba false), (3, .d (Sv s28)), (14, Ba true), (26, Ba true), (36, Ba false)] [] ?_)
           refine vc_ret (iR (Bv false) ?_)
           exact ⟨_, rfl, by rw [hS]; simp [hb1, hb2, hw0]⟩
          ·replace hb2 := bt hb2
           refine iQ 8 (iE 64 [(0, .d (Sv (tx s1))), (2, Ba true), (3, .d (Sv s28)), (14, Ba true), (26, Ba true), (36, Ba false)] [] ?_)
           refine vc_ret (iR (Bv true) ?_)
           exact ⟨_, rfl, by rw [hS]; simp [hb1, hb2]⟩
         ·replace hc50 := bt hc50
          refine iQ 13 (iE 64 [(0, .d (Sv (tx s1))), (2, Ba true), (3, .d (Sv s28)), (14, Ba true), (26, Ba true), (36, Ba false)] [] ?_)
          refine vc_ret (iR (Bv true) ?_)
          exact ⟨_, rfl, by rw [hS]; simp [hb1, (bempty _).1 hc50]⟩
      ·replace hc35 := bt hc35
       refine iT (vc_seqr rfl (iQ 1 (iE 64 [(0, .d (Sv (tx s1))), (2, Ba false), (3, .d (Sv s28)), (14, Ba true), (26, Ba true), (36, Ba true)] [] ?_)))
       refine vc_ret (seq_r (iR (Bv false) ?_))
       exact ⟨_, rfl, by rw [shape_eq hX hY, hsg]; rw [decide_eq_false (show ¬ (e1.tail).length ≤ 6 by omega)]; simp⟩
     ·replace hc31 := bt hc31
      refine iQ 4 (iE 64 [(0, .d (Sv (tx s1))), (2, Ba false), (3, .d (Sv s28)), (14, Ba true), (26, Ba true), (36, Ba true)] [] ?_)
      refine iT (vc_seqr rfl (iQ 1 (iE 64 [(0, .d (Sv (tx s1))), (2, Ba false), (3, .d (Sv s28)), (14, Ba true), (26, Ba true), (36, Ba true)] [] ?_)))
      refine vc_ret (seq_r (iR (Bv false) ?_))
      exact ⟨_, rfl, by rw [shape_eq hX hY, hsg]; have h9 : ¬ digsB (e1.tail) = true := (fun h => by have := hb4.2 h; rw [hc31] at this; cases this); simp [h9]⟩
   ·replace hc20 := bt hc20
    refine iQ 5 (iE 64 [(0, .d (Sv (tx s1))), (2, Ba false), (3, .d (Sv (tx e1))), (14, Ba true), (26, Ba true)] [] ?_)
    have hsg : signP e1 = e1.tail := signP_tail (.inl (e19.1 hc20))
    refine iT (vc_reg rfl (iQ 1 (iY 9 (tx e1) (1) (((tx e1 : ByteArray).size : Int)) (some 28) ?_)))
    refine And.intro (by rw [tx_size]; omega) ?_
    intro s28 hs28
    have eE : s28 = tx e1.tail := tail_tx hs28
    refine iQ 1 (iE 64 [(0, .d (Sv (tx s1))), (2, Ba false), (3, .d (Sv s28)), (14, Ba true), (26, Ba true)] [] ?_)
    refine seq_n (vc_seqr rfl (iQ 1 (iC 86 [Sv s28] (some 30) (c_digsE eE) ?_)))
    rintro _ ⟨b4, rfl, hb4⟩
    refine iU .not (.bool b4) (some 31) ?_
    intro c31 hc31
    refine iQ 1 ?_
    cases c31
    ·replace hc31 := bf hc31
     refine iQ 1 (iL .len [9] [.string s28] (some 34) ?_)
     intro n34 hn34
     have h8 : digsB (e1.tail) = true := hb4.1 (by simpa using hc31)
     have e34 : n34 = (e1.tail).length := by rw [hn34, eE, tx_size]
     refine iB .gtr 3 (.int .i64 ((n34 : Nat))) (.int .i64 6) (some 35) ?_
     intro c35 hc35
     refine iQ 1 (iE 64 [(0, .d (Sv (tx s1))), (2, Ba false), (3, .d (Sv s28)), (14, Ba true), (26, Ba true), (36, Ba c35)] [] ?_)
     cases c35
     ·replace hc35 := bf hc35
      have hS : shapeB l = ((pt && digsB p && (w.isEmpty || digsB w)) || (!pt && digsB w)) := by rw [shape_eq hX hY, hsg, h8, decide_eq_true (show (e1.tail).length ≤ 6 by omega)]; simp
      refine iF (vc_skip (seq_n (vc_seqr rfl (iQ 1 (iC 53 [Sv (tx s1), Sv (⟨#[46]⟩)] (some 39) (c_CutE hY (by omega)) ?_)))))
      rintro _ rfl
      refine iQ 7 (iE 64 [(0, .d (Sv (tx s1))), (2, Ba false), (3, .d (Sv s28)), (5, .d (Sv (tx w))), (6, .d (Sv (tx p))), (7, Ba pt), (14, Ba true), (26, Ba true), (36, Ba false)] [] ?_)
      refine vc_seqr rfl (iQ 2 ?_)
      cases pt
      ·skip
       refine iQ 13 (iU .not (.bool false) (some 58) ?_)
       intro c58 hc58
       refine iQ 1 ?_
       obtain rfl : c58 = true := hc58.2 (by simp)
       refine iQ 1 (iC 86 [Sv (tx w)] (some 61) (c_digs) ?_)
       rintro _ ⟨b3, rfl, hb3⟩
       refine iQ 3 (iE 64 [(0, .d (Sv (tx s1))), (2, Ba b3), (3, .d (Sv s28)), (14, Ba true), (26, Ba true), (36, Ba false)] [] ?_)
       refine vc_ret (iR (Bv b3) ?_)
       exact ⟨_, rfl, by rw [hS, hb3]; simp⟩
      ·skip
       refine iQ 1 (iC 86 [Sv (tx p)] (some 46) (c_digs) ?_)
       rintro _ ⟨b1, rfl, hb1⟩
       refine iQ 2 ?_
       cases b1
       ·replace hb1 := bf hb1
        refine iQ 9 (iU .not (.bool true) (some 58) ?_)
        intro c58 hc58
        refine iQ 1 ?_
        obtain rfl : c58 = false := bff hc58 (by simp)
        refine iQ 5 (iE 64 [(0, .d (Sv (tx s1))), (2, Ba false), (3, .d (Sv s28)), (14, Ba true), (26, Ba true), (36, Ba false)] [] ?_)
        refine vc_ret (iR (Bv false) ?_)
        exact ⟨_, rfl, by rw [hS]; simp [hb1]⟩
       ·replace hb1 := bt hb1
        refine iQ 1 (iB .eql 9 (.string (tx w)) (.string (⟨#[]⟩)) (some 50) ?_)
        intro c50 hc50
        refine iQ 1 ?_
        cases c50
        ·replace hc50 := bf hc50
         refine iQ 1 ?_
         have hw0 : w.isEmpty = false := by cases w with | nil => exact absurd rfl hc50 | cons x r => rfl
         refine iC 86 [Sv (tx w)] (some 53) (c_digs) ?_
         rintro _ ⟨b2, rfl, hb2⟩
         refine iQ 3 ?_
         cases b2
         ·replace hb2 := bf hb2
          refine iQ 1 (iU .not (.bool true) (some 58) ?_)
          intro c58 hc58
          refine iQ 1 ?_
          obtain rfl : c58 = false := bff hc58 (by simp)
          refine iQ 5 (iE 64 [(0, .d (Sv (tx s1))), (2, Ba false), (3, .d (Sv s28)), (14, Ba true), (26, Ba true), (36, Ba false)] [] ?_)
          refine vc_ret (iR (Bv false) ?_)
          exact ⟨_, rfl, by rw [hS]; simp [hb1, hb2, hw0]⟩
         ·replace hb2 := bt hb2
          refine iQ 8 (iE 64 [(0, .d (Sv (tx s1))), (2, Ba true), (3, .d (Sv s28)), (14, Ba true), (26, Ba true), (36, Ba false)] [] ?_)
          refine vc_ret (iR (Bv true) ?_)
          exact ⟨_, rfl, by rw [hS]; simp [hb1, hb2]⟩
        ·replace hc50 := bt hc50
         refine iQ 13 (iE 64 [(0, .d (Sv (tx s1))), (2, Ba true), (3, .d (Sv s28)), (14, Ba true), (26, Ba true), (36, Ba false)] [] ?_)
         refine vc_ret (iR (Bv true) ?_)
         exact ⟨_, rfl, by rw [hS]; simp [hb1, (bempty _).1 hc50]⟩
     ·replace hc35 := bt hc35
      refine iT (vc_seqr rfl (iQ 1 (iE 64 [(0, .d (Sv (tx s1))), (2, Ba false), (3, .d (Sv s28)), (14, Ba true), (26, Ba true), (36, Ba true)] [] ?_)))
      refine vc_ret (seq_r (iR (Bv false) ?_))
      exact ⟨_, rfl, by rw [shape_eq hX hY, hsg]; rw [decide_eq_false (show ¬ (e1.tail).length ≤ 6 by omega)]; simp⟩
    ·replace hc31 := bt hc31
     refine iQ 4 (iE 64 [(0, .d (Sv (tx s1))), (2, Ba false), (3, .d (Sv s28)), (14, Ba true), (26, Ba true), (36, Ba true)] [] ?_)
     refine iT (vc_seqr rfl (iQ 1 (iE 64 [(0, .d (Sv (tx s1))), (2, Ba false), (3, .d (Sv s28)), (14, Ba true), (26, Ba true), (36, Ba true)] [] ?_)))
     refine vc_ret (seq_r (iR (Bv false) ?_))
     exact ⟨_, rfl, by rw [shape_eq hX hY, hsg]; have h9 : ¬ digsB (e1.tail) = true := (fun h => by have := hb4.2 h; rw [hc31] at this; cases this); simp [h9]⟩

open Go.RowKit
set_option linter.unusedVariables false
set_option linter.unusedSimpArgs false
set_option maxRecDepth 100000

theorem nd38 {N : Nat} (h : N < 10 ^ 38) : N < B128 ∧ nd N ≤ 78 := ⟨Nat.lt_trans h (by decide), Nat.le_trans (nd_le 38 N h) (by decide)⟩
theorem c_FitR {N : Nat} {E : Int} {more : Bool} {g : Bool} {k : Nat} {x : Int} {ok : Bool} (h : fitU 1 false N E more = (g, k, x, ok)) (hN : N < 10 ^ 38) (he0 : -1000000000000000000 ≤ E) (he1 : E ≤ 1000000000000000000) :
    HasC Tryz.prog 59 [.agg [.v (.bool false), .v (.int .u64 0), .v (.int .u64 0), .v (.int .u64 (hiW N)), .v (.int .u64 (loW N)), .v (.int .i64 E), .v (.bool more)], .v (.int .i64 1)] (fun y => y = .tup [dDec g k x, .v (.bool ok)]) :=
  (c_FitT1 (m := 1) (neg := false) (more := more) (nd38 hN).1 he0 he1).mono fun y ⟨g', k', x', ok', h1, h2⟩ => by
    rw [fitT_U _ _ _ _ (nd38 hN).2, h] at h2
    simp only [Prod.mk.injEq] at h2
    obtain ⟨a1, a2, a3, a4⟩ := h2
    rw [h1, a1, a2, a3, a4]
theorem c_FitZ {E : Int} {g : Bool} {k : Nat} {x : Int} {ok : Bool} (h : fitU 1 false 0 E false = (g, k, x, ok)) (he0 : -1000000000000000000 ≤ E) (he1 : E ≤ 1000000000000000000) :
    HasC Tryz.prog 59 [.agg [.v (.bool false), .v (.int .u64 0), .v (.int .u64 0), .v (.int .u64 0), .v (.int .u64 0), .v (.int .i64 E), .v (.bool false)], .v (.int .i64 1)] (fun y => y = .tup [dDec g k x, .v (.bool ok)]) := by
  have c := c_FitR h (by decide) he0 he1
  exact c
/-- What a text that has the shape is made of. -/
theorem shape_facts {l s1 e1 w p : L8} {is1 pt : Bool} (hX : cutL 69 l = (s1, e1, is1)) (hY : cutL 46 s1 = (w, p, pt)) (h : shapeB l = true) :
    (trimP 43 e1 = [] ∧ expS e1 = 0 ∨ Lib.atoiAll (trimP 43 e1) = .ok (expS e1) ∧ (trimP 43 e1).length ≤ 100) ∧ -999999 ≤ expS e1 ∧ expS e1 ≤ 999999 ∧ (w ++ p).all isDg = true ∧ readT l = fitU 1 false (nvL (w ++ p)) (expS e1 - p.length) false := by
  have hr : readT l = fitU 1 false (nvL (w ++ p)) (expS e1 - p.length) false := by
    rw [readT, if_pos h]
    simp only [rawN, rawE, allS, hX, hY]
  rw [shape_eq hX hY, Bool.and_eq_true] at h
  obtain ⟨hE, hP⟩ := h
  have hpn := (cutL_rest hY).1
  have hall : (w ++ p).all isDg = true := by
    rw [List.all_append, Bool.and_eq_true]
    rw [Bool.or_eq_true] at hP
    rcases hP with hP | hP
    · simp only [Bool.and_eq_true, Bool.or_eq_true] at hP
      refine ⟨?_, (digsB_iff.1 hP.1.2).2⟩
      rcases hP.2 with h | h
      · rw [List.isEmpty_iff] at h
        rw [h]
        rfl
      · exact (digsB_iff.1 h).2
    · simp only [Bool.and_eq_true, Bool.not_eq_true'] at hP
      rw [hpn hP.1]
      exact ⟨(digsB_iff.1 hP.2).2, rfl⟩
  rw [Bool.or_eq_true] at hE
  rcases hE with hE | hE
  · have he : e1 = [] := (cutL_rest hX).1 (by simpa using hE)
    subst he
    exact ⟨.inl ⟨rfl, rfl⟩, by decide, by decide, hall, hr⟩
  · simp only [Bool.and_eq_true, decide_eq_true_eq] at hE
    have h1 := atoi_exp hE.1 hE.2
    have h2 := (pmag (digsB_iff.1 hE.1).2 (digsB_iff.1 hE.1).1 hE.2).2
    have h3 : (trimP 43 e1).length ≤ 100 := by
      have h4 : e1.length ≤ (signP e1).length + 1 := by
        unfold signP
        split
        · rw [List.length_tail]; omega
        · omega
      unfold trimP
      split
      · rw [List.length_tail]; omega
      · omega
    have h5 : -999999 ≤ expS e1 ∧ expS e1 ≤ 999999 := by
      unfold expS
      split <;> omega
    exact ⟨.inr ⟨h1, h3⟩, h5.1, h5.2, hall, hr⟩
theorem c_TrimL0E {l L : L8} {s : ByteArray} (hs : s = tx l) (hL : L = lz l) : HasC Tryz.prog 56 [.v (.string s), .v (.string ⟨#[48]⟩)] (fun y => y = .v (.string (tx L))) := by subst hL; exact c_TrimL0 hs

set_option maxHeartbeats 1600000 in
theorem c_nRead {l : L8} {g : Bool} {k : Nat} {x : Int} {ok : Bool} (hT : readT l = (g, k, x, ok)) (hL : l.length ≤ 1000000000000000) : HasC Tryz.prog 31 [.v (.string (tx l))] (fun y => y = .tup [dDec g k x, .v (.bool ok)]) := by
 refine HasC.of [] (fn := Tryz.f31) tyOk mixed (fun args w => Tryz.call31 args w) Tryz.func31 rfl (by kernel_rfl) (Nat.le_of_ble_eq_true rfl) (⟨_, rfl⟩) ?_
 obtain ⟨s1, e1, is1, hX⟩ : ∃ a b g, cutL 69 l = (a, b, g) := ⟨_, _, _, rfl⟩
 obtain ⟨w, p, pt, hY⟩ : ∃ a b g, cutL 46 s1 = (a, b, g) := ⟨_, _, _, rfl⟩
 have hx := cutL_rest hX
 have hy := cutL_rest hY
 refine vc_seqr rfl (iQ 2 (iE 74 [(0, .d (Sv (tx l))), (2, .p 2 0), (3, Ba false)] [(2, [Bv false, Uv 0, Uv 0, Iv 0])] ?_))
 refine vc_seq (vc_seqr rfl (iQ 1 (iC 52 [Sv (tx l)] (some 15) (c_Shape hL) ?_)))
 rintro _ ⟨b, rfl, hb⟩
 refine iU .not (.bool b) (some 16) ?_
 intro c16 hc16
 refine iE 74 [(0, .d (Sv (tx l))), (2, .p 2 0), (3, Ba false), (16, Ba c16)] [(2, [Bv false, Uv 0, Uv 0, Iv 0])] ?_
 cases c16
 ·replace hc16 := bf hc16
  obtain ⟨f1, f2, f3, f4, f5⟩ := shape_facts hX hY (hb.1 (by simpa using hc16))
  refine iF (vc_skip (seq_n (vc_seqr rfl (iQ 1 (iC 53 [Sv (tx l), Sv (⟨#[69]⟩)] (some 20) (c_CutE hX (by omega)) ?_)))))
  rintro _ rfl
  refine iQ 7 (iE 74 [(0, .d (Sv (tx s1))), (2, .p 2 0), (3, Ba false), (4, .d (Sv (tx e1))), (16, Ba false)] [(2, [Bv false, Uv 0, Uv 0, Iv 0])] ?_)
  refine vc_seqr rfl (iQ 1 (iC 55 [Sv (tx e1), Sv (⟨#[43]⟩)] (some 26) (c_trim (l := e1) (c := 43)) ?_))
  rintro _ rfl
  refine iC 54 [Sv (tx (trimP 43 e1))] (some 27) (c_Atoi (v := expS e1) f1) ?_
  rintro _ ⟨er, rfl⟩
  refine iQ 5 (iE 74 [(0, .d (Sv (tx s1))), (2, .p 2 0), (3, Ba false), (6, Ia (expS e1)), (16, Ba false)] [(2, [Bv false, Uv 0, Uv 0, Iv 0])] ?_)
  refine vc_seqr rfl (iQ 1 (iC 53 [Sv (tx s1), Sv (⟨#[46]⟩)] (some 32) (c_CutE hY (by omega)) ?_))
  rintro _ rfl
  refine iQ 7 (iE 74 [(0, .d (Sv (tx s1))), (2, .p 2 0), (3, Ba false), (6, Ia (expS e1)), (8, .d (Sv (tx w))), (9, .d (Sv (tx p))), (16, Ba false)] [(2, [Bv false, Uv 0, Uv 0, Iv 0])] ?_)
  refine vc_seqr rfl (iQ 2 (iB .add 9 (.string (tx w)) (.string (tx p)) (some 38) ?_))
  refine And.intro (sz_le (m := (w).length) (n := (p).length) rfl rfl (by omega)) ?_
  intro s38 hs38
  have hl38 : (s38 : ByteArray).size = (w).length + (p).length := sz_add hs38 rfl rfl
  have e38 : s38 = tx (w ++ p) := by rw [hs38, tx_append]
  obtain ⟨L, hLz⟩ : ∃ L, L = lz (w ++ p) := ⟨_, rfl⟩
  have hLd : L.all isDg = true := by rw [hLz]; exact lz_all f4
  have hLn : nvL L = nvL (w ++ p) := by rw [hLz, nvL_lz]
  have hL0 : ∀ c r, L = c :: r → c ≠ 48 := fun c r h => lz_head (hLz.symm.trans h)
  have hLl : L.length ≤ w.length + p.length := by rw [hLz]; have := (List.dropWhile_sublist (p := (· == (48 : UInt8))) (l := w ++ p)).length_le; rw [List.length_append] at this; exact this
  rw [← hLn] at f5
  refine iC 56 [Sv s38, Sv (⟨#[48]⟩)] (some 39) (c_TrimL0E e38 hLz) ?_
  rintro _ rfl
  refine iQ 1 (iE 74 [(0, .d (Sv (tx s1))), (2, .p 2 0), (3, Ba false), (6, Ia (expS e1)), (9, .d (Sv (tx p))), (11, .d (Sv (tx L))), (16, Ba false)] [(2, [Bv false, Uv 0, Uv 0, Iv 0])] ?_)
  refine vc_seqr rfl (iQ 2 (iL .len [9] [.string (tx p)] (some 42) ?_))
  intro n42 hn42
  have e42 : n42 = p.length := by rw [hn42]; exact tx_size _
  refine iB .sub 3 (.int .i64 (expS e1)) (.int .i64 ((n42 : Nat))) (some 43) ?_
  intro z43 hz43
  try replace hz43 := hz43.i64 (by omega)
  refine iQ 3 (iE 74 [(0, .d (Sv (tx s1))), (2, .p 2 0), (3, Ba false), (9, .d (Sv (tx p))), (11, .d (Sv (tx L))), (12, .p 12 0), (16, Ba false)] [(2, [Bv false, Uv 0, Uv 0, Iv 0]), (12, [Bv false, Uv 0, Uv 0, Uv 0, Uv 0, Iv z43, Bv false])] ?_)
  refine vc_seq (vc_seqr rfl (iQ 1 (iL .len [9] [.string (tx L)] (some 46) ?_)))
  intro n46 hn46
  have e46 : n46 = L.length := by rw [hn46]; exact tx_size _
  refine iB .sub 3 (.int .i64 ((n46 : Nat))) (.int .i64 38) (some 47) ?_
  intro z47 hz47
  try replace hz47 := hz47.i64 (by omega)
  refine iQ 1 (iE 74 [(0, .d (Sv (tx s1))), (2, .p 2 0), (3, Ba false), (9, .d (Sv (tx p))), (11, .d (Sv (tx L))), (12, .p 12 0), (13, Ia z47), (16, Ba false)] [(2, [Bv false, Uv 0, Uv 0, Iv 0]), (12, [Bv false, Uv 0, Uv 0, Uv 0, Uv 0, Iv z43, Bv false])] ?_)
  refine vc_seqr rfl (iQ 1 (iB .gtr 3 (.int .i64 z47) (.int .i64 0) (some 49) ?_))
  intro c49 hc49
  refine iE 74 [(0, .d (Sv (tx s1))), (2, .p 2 0), (3, Ba false), (9, .d (Sv (tx p))), (11, .d (Sv (tx L))), (12, .p 12 0), (13, Ia z47), (16, Ba false), (49, Ba c49)] [(2, [Bv false, Uv 0, Uv 0, Iv 0]), (12, [Bv false, Uv 0, Uv 0, Uv 0, Uv 0, Iv z43, Bv false])] ?_
  cases c49
  ·replace hc49 := bf hc49
   refine iF (vc_skip (seq_n (vc_seq (vc_seqr rfl (iQ 1 (iB .neq 9 (.string (tx L)) (.string (⟨#[]⟩)) (some 63) ?_))))))
   intro c63 hc63
   refine iE 74 [(0, .d (Sv (tx s1))), (2, .p 2 0), (3, Ba false), (9, .d (Sv (tx p))), (11, .d (Sv (tx L))), (12, .p 12 0), (13, Ia z47), (16, Ba false), (49, Ba false), (63, Ba c63)] [(2, [Bv false, Uv 0, Uv 0, Iv 0]), (12, [Bv false, Uv 0, Uv 0, Uv 0, Uv 0, Iv z43, Bv false])] ?_
   cases c63
   ·replace hc63 := bf hc63
    have hLn0 : L = [] := (bempty _).1 (Classical.not_not.1 hc63)
    refine iF (vc_skip (seq_n (vc_seqr rfl (iQ 1 (iC 59 [.agg [Bv false, Uv 0, Uv 0, Uv 0, Uv 0, Iv z43, Bv false], Iv 1] (some 71) (c_FitZ (E := z43) (by rw [← hT, f5, hLn0]; exact congrArg (fun z ↦ fitU 1 false 0 z false) (by omega)) (by omega) (by omega)) ?_)))))
    rintro _ rfl
    refine iQ 4 (iE 74 [(0, .d (Sv (tx s1))), (2, .p 2 0), (3, Ba ok), (9, .d (Sv (tx p))), (11, .d (Sv (tx L))), (12, .p 12 0), (13, Ia z47), (16, Ba false), (49, Ba false), (63, Ba false)] [(2, [Bv g, Hw k, Lw k, Iv x]), (12, [Bv false, Uv 0, Uv 0, Uv 0, Uv 0, Iv z43, Bv false])] ?_)
    refine vc_ret (iS (.agg [Bv g, Hw k, Lw k, Iv x]) (Bv ok) [] ?_)
    rfl
   ·replace hc63 := bt hc63
    have hLn0 : L ≠ [] := fun h => hc63 ((bempty _).2 h)
    refine iT (vc_reg rfl (iQ 1 (iC 58 [Sv (tx L)] (some 66) (c_wRead (l := L) rfl hLd hLn0 (by omega)) ?_)))
    rintro _ rfl
    refine iQ 5 (iE 74 [(0, .d (Sv (tx s1))), (2, .p 2 0), (3, Ba false), (9, .d (Sv (tx p))), (11, .d (Sv (tx L))), (12, .p 12 0), (13, Ia z47), (16, Ba false), (49, Ba false), (63, Ba true)] [(2, [Bv false, Uv 0, Uv 0, Iv 0]), (12, [Bv false, Uv 0, Uv 0, Hw (nvL L), Lw (nvL L), Iv z43, Bv false])] ?_)
    refine seq_n (vc_seqr rfl (iQ 1 (iC 59 [.agg [Bv false, Uv 0, Uv 0, Hw (nvL L), Lw (nvL L), Iv z43, Bv false], Iv 1] (some 71) (c_FitR (N := nvL L) (E := z43) (more := false) (by rw [← hT, f5]; congr 1; omega) (nvL_lt hLd (by omega)) (by omega) (by omega)) ?_)))
    rintro _ rfl
    refine iQ 4 (iE 74 [(0, .d (Sv (tx s1))), (2, .p 2 0), (3, Ba ok), (9, .d (Sv (tx p))), (11, .d (Sv (tx L))), (12, .p 12 0), (13, Ia z47), (16, Ba false), (49, Ba false), (63, Ba true)] [(2, [Bv g, Hw k, Lw k, Iv x]), (12, [Bv false, Uv 0, Uv 0, Hw (nvL L), Lw (nvL L), Iv z43, Bv false])] ?_)
    refine vc_ret (iS (.agg [Bv g, Hw k, Lw k, Iv x]) (Bv ok) [] ?_)
    rfl
  ·replace hc49 := bt hc49
   refine iT (vc_seqr rfl (iQ 1 (iY 9 (tx L) (38) (((tx L : ByteArray).size : Int)) (some 51) ?_)))
   refine And.intro (by rw [tx_size]; omega) ?_
   intro s51 hs51
   have hl51 := sz_ext hs51 (by rw [tx_size]; omega)
   have e51 : s51 = tx (L.drop 38) := drop_tx (by rw [hs51, Int.toNat_natCast]; rfl)
   refine iC 57 [Sv s51, Sv (⟨#[48]⟩)] (some 52) (c_Trim0 e51 (by rw [List.length_drop]; omega)) ?_
   rintro _ ⟨t, rfl, ht⟩
   refine iB .neq 9 (.string (tx t)) (.string (⟨#[]⟩)) (some 53) ?_
   intro c53 hc53
   refine iQ 2 (iE 74 [(0, .d (Sv (tx s1))), (2, .p 2 0), (3, Ba false), (9, .d (Sv (tx p))), (11, .d (Sv (tx L))), (12, .p 12 0), (13, Ia z47), (16, Ba false), (49, Ba true)] [(2, [Bv false, Uv 0, Uv 0, Iv 0]), (12, [Bv false, Uv 0, Uv 0, Uv 0, Uv 0, Iv z43, Bv c53])] ?_)
   refine vc_seqr rfl (iQ 3 (iB .add 3 (.int .i64 z43) (.int .i64 z47) (some 58) ?_))
   intro z58 hz58
   try replace hz58 := hz58.i64 (by omega)
   refine iQ 2 (iE 74 [(0, .d (Sv (tx s1))), (2, .p 2 0), (3, Ba false), (9, .d (Sv (tx p))), (11, .d (Sv (tx L))), (12, .p 12 0), (13, Ia z47), (16, Ba false), (49, Ba true)] [(2, [Bv false, Uv 0, Uv 0, Iv 0]), (12, [Bv false, Uv 0, Uv 0, Uv 0, Uv 0, Iv z58, Bv c53])] ?_)
   refine vc_reg rfl (iQ 1 (iY 9 (tx L) (0) (38) (some 61) ?_))
   refine And.intro (by rw [tx_size]; omega) ?_
   intro s61 hs61
   have hl61 := sz_ext hs61 (by rw [tx_size]; omega)
   have e61 : s61 = tx (L.take 38) := take_tx (by rw [hs61]; rfl)
   have hL38 : L.take 38 ≠ [] := fun h => by have := congrArg List.length h; rw [List.length_take, List.length_nil] at this; omega
   refine iQ 1 (iE 74 [(0, .d (Sv (tx s1))), (2, .p 2 0), (3, Ba false), (9, .d (Sv (tx p))), (11, .d (Sv s61)), (12, .p 12 0), (13, Ia z47), (16, Ba false), (49, Ba true)] [(2, [Bv false, Uv 0, Uv 0, Iv 0]), (12, [Bv false, Uv 0, Uv 0, Uv 0, Uv 0, Iv z58, Bv c53])] ?_)
   refine seq_n (vc_seq (vc_seqr rfl (iQ 1 (iB .neq 9 (.string s61) (.string (⟨#[]⟩)) (some 63) ?_))))
   intro c63 hc63
   refine iE 74 [(0, .d (Sv (tx s1))), (2, .p 2 0), (3, Ba false), (9, .d (Sv (tx p))), (11, .d (Sv s61)), (12, .p 12 0), (13, Ia z47), (16, Ba false), (49, Ba true), (63, Ba c63)] [(2, [Bv false, Uv 0, Uv 0, Iv 0]), (12, [Bv false, Uv 0, Uv 0, Uv 0, Uv 0, Iv z58, Bv c53])] ?_
   obtain rfl : c63 = true := hc63.2 ((by rw [e61, Ne, bempty]; exact hL38))
   have hLd38 : (L.take 38).all isDg = true := by rw [List.all_eq_true] at hLd ⊢; exact fun y hy => hLd y (List.mem_of_mem_take hy)
   refine iT (vc_reg rfl (iQ 1 (iC 58 [Sv s61] (some 66) (c_wRead e61 hLd38 hL38 (by rw [List.length_take]; omega)) ?_)))
   rintro _ rfl
   have hfc := fit_cut (m := 1) (e := expS e1 - p.length) (more := c53) hLd hL0 (by omega) (by rw [hc53, Ne, bempty, ht])
   refine iQ 5 (iE 74 [(0, .d (Sv (tx s1))), (2, .p 2 0), (3, Ba false), (9, .d (Sv (tx p))), (11, .d (Sv s61)), (12, .p 12 0), (13, Ia z47), (16, Ba false), (49, Ba true), (63, Ba true)] [(2, [Bv false, Uv 0, Uv 0, Iv 0]), (12, [Bv false, Uv 0, Uv 0, Hw (nvL (L.take 38)), Lw (nvL (L.take 38)), Iv z58, Bv c53])] ?_)
   refine seq_n (vc_seqr rfl (iQ 1 (iC 59 [.agg [Bv false, Uv 0, Uv 0, Hw (nvL (L.take 38)), Lw (nvL (L.take 38)), Iv z58, Bv c53], Iv 1] (some 71) (c_FitR (N := nvL (L.take 38)) (E := z58) (more := c53) (by rw [← hT, f5, hfc, show z58 = expS e1 - (p.length : Int) + ((L.length - 38 : Nat) : Int) by omega]) (nvL_lt hLd38 (by rw [List.length_take]; omega)) (by omega) (by omega)) ?_)))
   rintro _ rfl
   refine iQ 4 (iE 74 [(0, .d (Sv (tx s1))), (2, .p 2 0), (3, Ba ok), (9, .d (Sv (tx p))), (11, .d (Sv s61)), (12, .p 12 0), (13, Ia z47), (16, Ba false), (49, Ba true), (63, Ba true)] [(2, [Bv g, Hw k, Lw k, Iv x]), (12, [Bv false, Uv 0, Uv 0, Hw (nvL (L.take 38)), Lw (nvL (L.take 38)), Iv z58, Bv c53])] ?_)
   refine vc_ret (iS (.agg [Bv g, Hw k, Lw k, Iv x]) (Bv ok) [] ?_)
   rfl
 ·replace hc16 := bt hc16
  refine iT (vc_seqr rfl (iQ 3 (iE 74 [(0, .d (Sv (tx l))), (2, .p 2 0), (3, Ba false), (16, Ba true)] [(2, [Bv false, Uv 0, Uv 0, Iv 0])] ?_)))
  refine vc_ret (seq_r (iS (.agg [Bv false, Uv 0, Uv 0, Iv 0]) (Bv false) [] ?_))
  have hs : readT l = (false, 0, 0, false) := by rw [readT, if_neg (fun h => by have := hb.2 h; rw [hc16] at this; cases this)]
  rw [hs] at hT
  simp only [Prod.mk.injEq] at hT
  obtain ⟨a1, a2, a3, a4⟩ := hT
  rw [← a1, ← a2, ← a3, ← a4]
  rfl

theorem c_nReadE {l : L8} {s : ByteArray} {g : Bool} {k : Nat} {x : Int} {ok : Bool} (hs : s = tx l) (hT : readT l = (g, k, x, ok)) (hL : l.length ≤ 1000000000000000) :
    HasC Tryz.prog 31 [.v (.string s)] (fun y => y = .tup [dDec g k x, .v (.bool ok)]) := by subst hs; exact c_nRead hT hL
theorem fitU_range1 {m : Int} {s : Bool} {N : Nat} {e : Int} {more : Bool} {g : Bool} {k : Nat} {x : Int} {ok : Bool} (ht : fitU m s N e more = (g, k, x, ok)) : k < E34 ∧ -6176 ≤ x ∧ x ≤ 6111 ∧ (k = 0 → g = false) := by
  unfold fitU at ht
  exact fitE_range (fit2_lt (cutQ_E34 (by unfold fitKU; omega))) ht
theorem readT_rng {l : L8} {g : Bool} {k : Nat} {x : Int} {ok : Bool} (h : readT l = (g, k, x, ok)) : k < E34 ∧ -6176 ≤ x ∧ x ≤ 6111 ∧ (k = 0 → g = false) := by
  unfold readT at h
  split at h
  · exact fitU_range1 h
  · simp only [Prod.mk.injEq] at h
    obtain ⟨rfl, rfl, rfl, rfl⟩ := h
    exact ⟨by decide, by decide, by decide, fun _ => rfl⟩
/-- What Signed tells. -/
noncomputable def signT (l : L8) : T4 := if l.head? = some 45 then (!(readT l.tail).1 && decide ((readT l.tail).2.1 ≠ 0), (readT l.tail).2.1, (readT l.tail).2.2.1, (readT l.tail).2.2.2) else readT l
theorem trimP_len (c : UInt8) (l : L8) : (trimP c l).length ≤ l.length ∧ ((trimP c l).length ≠ l.length ↔ l.head? = some c) := by
  unfold trimP
  split
  · rename_i h
    cases l with
    | nil => cases h
    | cons x r => simp at h; simp [h]
  · rename_i h
    simp [h]

theorem c_Signed {l : L8} {g : Bool} {k : Nat} {x : Int} {ok : Bool} (hT : signT l = (g, k, x, ok)) (hL : l.length ≤ 1000000000000000) : HasC Tryz.prog 107 [.v (.string (tx l))] (fun y => y = .tup [dDec g k x, .v (.bool ok)]) := by
 refine HasC.of [] (fn := Tryz.f107) tyOk mixed (fun args w => Tryz.call107 args w) Tryz.func107 rfl (by kernel_rfl) (Nat.le_of_ble_eq_true rfl) (⟨_, rfl⟩) ?_
 obtain ⟨g1, k1, x1, ok1, hR⟩ : ∃ a b c d, readT (trimP 45 l) = (a, b, c, d) := ⟨_, _, _, _, rfl⟩
 have htl := trimP_len 45 l
 have hrg := readT_rng hR
 refine vc_seqr rfl (iQ 2 (iE 24 [(0, .d (Sv (tx l))), (2, .p 2 0), (3, Ba false)] [(2, [Bv false, Uv 0, Uv 0, Iv 0])] ?_))
 refine vc_seqr rfl (iQ 1 (iC 55 [Sv (tx l), Sv (⟨#[45]⟩)] (some 8) (c_trim (l := l) (c := 45)) ?_))
 rintro _ rfl
 refine iQ 1 (iE 24 [(0, .d (Sv (tx l))), (2, .p 2 0), (3, Ba false), (4, .d (Sv (tx (trimP 45 l))))] [(2, [Bv false, Uv 0, Uv 0, Iv 0])] ?_)
 refine vc_seqr rfl (iQ 1 (iC 31 [Sv (tx (trimP 45 l))] (some 11) (c_nReadE (l := trimP 45 l) rfl hR (by omega)) ?_))
 rintro _ rfl
 refine iQ 6 (iE 24 [(0, .d (Sv (tx l))), (2, .p 2 0), (3, Ba false), (4, .d (Sv (tx (trimP 45 l)))), (5, .p 5 0), (6, Ba ok1)] [(2, [Bv false, Uv 0, Uv 0, Iv 0]), (5, [Bv g1, Hw k1, Lw k1, Iv x1])] ?_)
 refine vc_seq (vc_seqr rfl (iQ 1 (iL .len [9] [.string (tx (trimP 45 l))] (some 15) ?_)))
 intro n15 hn15
 have e15 : n15 = (trimP 45 l).length := by rw [hn15]; exact tx_size _
 refine iQ 1 (iL .len [9] [.string (tx l)] (some 17) ?_)
 intro n17 hn17
 have e17 : n17 = l.length := by rw [hn17]; exact tx_size _
 refine iB .neq 3 (.int .i64 ((n15 : Nat))) (.int .i64 ((n17 : Nat))) (some 18) ?_
 intro c18 hc18
 refine iE 24 [(0, .d (Sv (tx l))), (2, .p 2 0), (3, Ba false), (4, .d (Sv (tx (trimP 45 l)))), (5, .p 5 0), (6, Ba ok1), (18, Ba c18)] [(2, [Bv false, Uv 0, Uv 0, Iv 0]), (5, [Bv g1, Hw k1, Lw k1, Iv x1])] ?_
 cases c18
 ·replace hc18 := bf hc18
  have hh : ¬ l.head? = some 45 := fun h => htl.2.2 h (by omega)
  refine iF (vc_skip (seq_n (vc_seqr rfl (iQ 4 (iE 24 [(0, .d (Sv (tx l))), (2, .p 2 0), (3, Ba ok1), (4, .d (Sv (tx (trimP 45 l)))), (5, .p 5 0), (6, Ba ok1), (18, Ba false)] [(2, [Bv g1, Hw k1, Lw k1, Iv x1]), (5, [Bv g1, Hw k1, Lw k1, Iv x1])] ?_)))))
  refine vc_ret (iS (.agg [Bv g1, Hw k1, Lw k1, Iv x1]) (Bv ok1) [] ?_)
  rw [signT, if_neg hh] at hT
  rw [trimP, if_neg hh, hT] at hR
  simp only [Prod.mk.injEq] at hR
  obtain ⟨a1, a2, a3, a4⟩ := hR
  rw [← a1, ← a2, ← a3, ← a4]
  rfl
 ·replace hc18 := bt hc18
  have hh : l.head? = some 45 := htl.2.1 (by omega)
  refine iT (vc_seqr rfl (iQ 1 (iC 150 [.agg [Bv g1, Hw k1, Lw k1, Iv x1]] (some 20) (c_Neg (g := g1) (A := k1) (e := x1) (Nat.lt_trans hrg.1 e34_lt)) ?_)))
  rintro _ rfl
  refine iQ 3 (iE 24 [(0, .d (Sv (tx l))), (2, .p 2 0), (3, Ba ok1), (4, .d (Sv (tx (trimP 45 l)))), (5, .p 5 0), (6, Ba ok1), (18, Ba true)] [(2, [Bv (!g1 && decide (k1 ≠ 0)), Hw k1, Lw k1, Iv x1]), (5, [Bv g1, Hw k1, Lw k1, Iv x1])] ?_)
  refine vc_ret (seq_r (iS (.agg [Bv (!g1 && decide (k1 ≠ 0)), Hw k1, Lw k1, Iv x1]) (Bv ok1) [] ?_))
  rw [signT, if_pos hh] at hT
  rw [trimP, if_pos hh] at hR
  rw [hR] at hT
  simp only [Prod.mk.injEq] at hT
  obtain ⟨a1, a2, a3, a4⟩ := hT
  rw [← a1, ← a2, ← a3, ← a4]
  rfl
theorem c_SignedE {l : L8} {s : ByteArray} {g : Bool} {k : Nat} {x : Int} {ok : Bool} (hs : s = tx l) (hT : signT l = (g, k, x, ok)) (hL : l.length ≤ 1000000000000000) :
    HasC Tryz.prog 107 [.v (.string s)] (fun y => y = .tup [dDec g k x, .v (.bool ok)]) := by subst hs; exact c_Signed hT hL
theorem signT_rng {l : L8} {g : Bool} {k : Nat} {x : Int} {ok : Bool} (h : signT l = (g, k, x, ok)) : k < E34 ∧ -6176 ≤ x ∧ x ≤ 6111 ∧ (k = 0 → g = false) := by
  unfold signT at h
  split at h
  · obtain ⟨g1, k1, x1, ok1, hR⟩ : ∃ a b c d, readT l.tail = (a, b, c, d) := ⟨_, _, _, _, rfl⟩
    have hr := readT_rng hR
    rw [hR] at h
    simp only [Prod.mk.injEq] at h
    obtain ⟨rfl, rfl, rfl, rfl⟩ := h
    exact ⟨hr.1, hr.2.1, hr.2.2.1, fun h => by simp [h]⟩
  · exact readT_rng h
end Go.Proofs.YtpambeengdhhmaaGreatDoor
