/-
  numeral: Text, Shape, Read, Signed, Plain.
-/
import Derived.Test.YtjpaedjhihiakaaDoorNrS
import Derived.Test.YtjpaedjhihiakaaDoorDecY
namespace Go.Proofs.YtjpaedjhihiakaaDoor
open Go.RowKit
set_option linter.unusedVariables false
set_option linter.unusedSimpArgs false
set_option maxRecDepth 100000

theorem c_digs {l : L8} : HasC Tryd.prog 82 [.v (.string (tx l))] (fun r => ∃ b, r = .v (.bool b) ∧ (b = true ↔ digsB l = true)) := by
  refine HasC.of [] (fn := Tryd.f82) tyOk mixed (fun args w => Tryd.call82 args w) Tryd.func82 rfl (by kernel_rfl) (Nat.le_of_ble_eq_true rfl) (⟨_, digsB l, rfl, Iff.rfl⟩) ?_
  refine vc_seqr rfl (iQ 1 (iE 18 [(0, .d (Sv (tx l))), (2, Ba false)] [] ?_))
  refine vc_seq (vc_seqr rfl (iQ 1 (iG (tx l) 6 ?_)))
  refine iE 18 [(0, .d (Sv (tx l))), (2, Ba false), (6, .p 6 0)] [(6, [.tup [Sv (tx l), Iv 0]])] ?_
  refine vc_block (vc_loop 18 (fun (vcx : Int) => match vcx with | p => [(0, .d (Sv (tx l))), (2, Ba false), (6, .p 6 0)]) (fun (vcx : Int) => match vcx with | p => [(6, [.tup [Sv (tx l), Iv p]])]) (fun (vcx : Int) => match vcx with | p => 0 ≤ p ∧ p ≤ l.length ∧ (l.take p.toNat).all isDg = true) (fun (vcx : Int) => match vcx with | p => l.length - p.toNat) 0 (⟨by omega, by omega, rfl⟩) (by kernel_rfl) (by kernel_rfl) ?_)
  rintro p hinv
  simp only at hinv
  obtain ⟨h1, h2, h3⟩ := hinv
  refine vc_seqr rfl ?_
  refine iN 6 (tx l) (p) 7 (by omega) ?_ ?_
  · intro hp7 c7 q7 w7 hn7 hq7
    refine iQ 1 (iE 18 [(0, .d (Sv (tx l))), (2, Ba false), (6, .p 6 0), (7, .d (.tup [Bv true, Iv p, .v (.int .i32 c7)])), (8, Ba true)] [(6, [.tup [Sv (tx l), Iv q7]])] ?_)
    have hpl : p.toNat < l.length := by have := tx_size l; omega
    have hg := List.getElem?_eq_getElem hpl
    have hcd : 48 ≤ c7 ∧ c7 ≤ 57 ↔ isD (tx l) p.toNat := rd_digit hn7 h1 hp7
    rw [isD_tx hg] at hcd
    have key : ¬ isDg (l[p.toNat]'hpl) = true → ¬ digsB l = true := fun hn h => hn (List.all_eq_true.1 (digsB_iff.1 h).2 _ (List.mem_of_getElem? hg))
    refine vc_seq (iT (vc_skip (seq_n (vc_block (vc_seqr rfl (iQ 2 (iE 18 [(0, .d (Sv (tx l))), (2, Ba false), (4, .d (.v (.int .i32 c7))), (6, .p 6 0), (7, .d (.tup [Bv true, Iv p, .v (.int .i32 c7)])), (8, Ba true)] [(6, [.tup [Sv (tx l), Iv q7]])] ?_)))))))
    refine vc_seqr rfl (iQ 1 (iB .lss 21 (.int .i32 c7) (.int .i32 48) (some 11) ?_))
    intro c11 hc11
    refine iQ 1 ?_
    cases c11
    · replace hc11 := bf hc11
      refine iQ 1 (iB .gtr 21 (.int .i32 c7) (.int .i32 57) (some 14) ?_)
      intro c14 hc14
      refine iQ 1 (iE 18 [(0, .d (Sv (tx l))), (2, Ba false), (4, .d (.v (.int .i32 c7))), (6, .p 6 0), (7, .d (.tup [Bv true, Iv p, .v (.int .i32 c7)])), (8, Ba true), (15, Ba c14)] [(6, [.tup [Sv (tx l), Iv q7]])] ?_)
      cases c14
      · replace hc14 := bf hc14
        have hd := hcd.1 ⟨by omega, by omega⟩
        have hd2 := isDg_iff.1 hd
        have hba := bAt_tx l p.toNat
        rw [hg] at hba
        simp only [Option.getD_some] at hba
        obtain ⟨hc, hw⟩ := hn7.low h1 hp7 (by omega)
        refine iF (vc_skip (block_n ?_))
        refine loop_n (q7) (⟨by omega, by omega, by rw [hq7, hw, show (p + ((1 : Nat) : Int)).toNat = p.toNat + 1 by omega]; exact take_snoc_all hg h3 hd⟩) (by show l.length - q7.toNat < l.length - p.toNat; omega) (by kernel_rfl) (by kernel_rfl)
      · replace hc14 := bt hc14
        refine iT (vc_seqr rfl (iQ 1 (iE 18 [(0, .d (Sv (tx l))), (2, Ba false), (4, .d (.v (.int .i32 c7))), (6, .p 6 0), (7, .d (.tup [Bv true, Iv p, .v (.int .i32 c7)])), (8, Ba true), (15, Ba true)] [(6, [.tup [Sv (tx l), Iv q7]])] ?_)))
        refine vc_ret (block_r (loop_r (block_r (seq_r (iR (Bv false) ?_)))))
        exact ⟨_, rfl, by simp only [Bool.false_eq_true, false_iff]; exact key (fun e => by have := hcd.2 e; omega)⟩
    · replace hc11 := bt hc11
      refine iQ 3 (iE 18 [(0, .d (Sv (tx l))), (2, Ba false), (4, .d (.v (.int .i32 c7))), (6, .p 6 0), (7, .d (.tup [Bv true, Iv p, .v (.int .i32 c7)])), (8, Ba true), (15, Ba true)] [(6, [.tup [Sv (tx l), Iv q7]])] ?_)
      refine iT (vc_seqr rfl (iQ 1 (iE 18 [(0, .d (Sv (tx l))), (2, Ba false), (4, .d (.v (.int .i32 c7))), (6, .p 6 0), (7, .d (.tup [Bv true, Iv p, .v (.int .i32 c7)])), (8, Ba true), (15, Ba true)] [(6, [.tup [Sv (tx l), Iv q7]])] ?_)))
      refine vc_ret (block_r (loop_r (block_r (seq_r (iR (Bv false) ?_)))))
      exact ⟨_, rfl, by simp only [Bool.false_eq_true, false_iff]; exact key (fun e => by have := hcd.2 e; omega)⟩
  · intro hp7 
    refine iQ 1 (iE 18 [(0, .d (Sv (tx l))), (2, Ba false), (6, .p 6 0), (7, .d (.tup [Bv false])), (8, Ba false)] [(6, [.tup [Sv (tx l), Iv p]])] ?_)
    have hp : p.toNat = l.length := by have := tx_size l; omega
    rw [hp, List.take_of_length_le (Nat.le_refl _)] at h3
    refine vc_seq (iF (vc_exit (seq_x (loop_x (block_x rfl (seq_n (vc_seqr rfl (iQ 1 (iB .neq 9 (.string (tx l)) (.string (⟨#[]⟩)) (some 17) ?_)))))))))
    intro c17 hc17
    refine iQ 1 (iE 18 [(0, .d (Sv (tx l))), (2, Ba c17), (6, .p 6 0), (7, .d (.tup [Bv false])), (8, Ba false)] [(6, [.tup [Sv (tx l), Iv p]])] ?_)
    refine vc_ret (iR (Bv c17) ?_)
    exact ⟨_, rfl, by rw [hc17, digsB_iff, Ne, bempty]; exact ⟨fun h => ⟨h, h3⟩, fun h => h.1⟩⟩
theorem c_digsE {l : L8} {s : ByteArray} (hs : s = tx l) : HasC Tryd.prog 82 [.v (.string s)] (fun r => ∃ b, r = .v (.bool b) ∧ (b = true ↔ digsB l = true)) := by subst hs; exact c_digs
theorem shape_eq {l s1 e1 w p : L8} {is1 pt : Bool} (hX : cutL 69 l = (s1, e1, is1)) (hY : cutL 46 s1 = (w, p, pt)) :
    shapeB l = ((!is1 || (digsB (signP e1) && decide ((signP e1).length ≤ 6))) && ((pt && digsB p && (w.isEmpty || digsB w)) || (!pt && digsB w))) := by simp only [shapeB, expB, pntB, hX, hY]
theorem cutL_rest {c : UInt8} {l a b : L8} {g : Bool} (h : cutL c l = (a, b, g)) : (g = false → b = []) ∧ a.length ≤ l.length ∧ b.length ≤ l.length := by
  have h1 := cutL_len c l
  rw [h] at h1
  refine ⟨fun hg => ?_, h1.1, h1.2⟩
  subst hg
  unfold cutL at h
  split at h
  · simp at h
  · simp at h; exact h.2
theorem signP_tail {e : L8} (h : e.head? = some 45 ∨ e.head? = some 43) : signP e = e.tail := by rw [signP, if_pos h]
theorem signP_own {e : L8} (h : ¬ (e.head? = some 45 ∨ e.head? = some 43)) : signP e = e := by rw [signP, if_neg h]

set_option maxHeartbeats 1600000 in
theorem c_Shape {l : L8} (hL : l.length ≤ 1000000000000000) : HasC Tryd.prog 40 [.v (.string (tx l))] (fun r => ∃ b, r = .v (.bool b) ∧ (b = true ↔ shapeB l = true)) := by
  refine HasC.of [] (fn := Tryd.f40) tyOk mixed (fun args w => Tryd.call40 args w) Tryd.func40 rfl (by kernel_rfl) (Nat.le_of_ble_eq_true rfl) (⟨_, shapeB l, rfl, Iff.rfl⟩) ?_
  obtain ⟨s1, e1, is1, hX⟩ : ∃ a b g, cutL 69 l = (a, b, g) := ⟨_, _, _, rfl⟩
  obtain ⟨w, p, pt, hY⟩ : ∃ a b g, cutL 46 s1 = (a, b, g) := ⟨_, _, _, rfl⟩
  have hx := cutL_rest hX
  refine vc_seqr rfl (iQ 1 (iE 64 [(0, .d (Sv (tx l))), (2, Ba false)] [] ?_))
  refine vc_seqr rfl (iQ 1 (iC 70 [Sv (tx l), Sv (⟨#[69]⟩)] (some 10) (c_CutE hX (by omega)) ?_))
  rintro _ rfl
  refine iQ 7 (iE 64 [(0, .d (Sv (tx s1))), (2, Ba false), (3, .d (Sv (tx e1))), (4, Ba is1)] [] ?_)
  refine vc_seq (vc_seqr rfl (iQ 1 (iE 64 [(0, .d (Sv (tx s1))), (2, Ba false), (3, .d (Sv (tx e1))), (14, Ba is1)] [] ?_)))
  cases is1
  · skip
    have hS : shapeB l = ((pt && digsB p && (w.isEmpty || digsB w)) || (!pt && digsB w)) := by rw [shape_eq hX hY]; simp
    refine iF (vc_skip (seq_n (vc_seqr rfl (iQ 1 (iC 70 [Sv (tx s1), Sv (⟨#[46]⟩)] (some 39) (c_CutE hY (by omega)) ?_)))))
    rintro _ rfl
    refine iQ 7 (iE 64 [(0, .d (Sv (tx s1))), (2, Ba false), (3, .d (Sv (tx e1))), (5, .d (Sv (tx w))), (6, .d (Sv (tx p))), (7, Ba pt), (14, Ba false)] [] ?_)
    refine vc_seqr rfl (iQ 2 ?_)
    cases pt
    · skip
      refine iQ 13 (iU .not (.bool false) (some 58) ?_)
      intro c58 hc58
      refine iQ 1 ?_
      obtain rfl : c58 = true := hc58.2 (by simp)
      refine iQ 1 (iC 82 [Sv (tx w)] (some 61) (c_digs) ?_)
      rintro _ ⟨b3, rfl, hb3⟩
      refine iQ 3 (iE 64 [(0, .d (Sv (tx s1))), (2, Ba b3), (3, .d (Sv (tx e1))), (14, Ba false)] [] ?_)
      refine vc_ret (iR (Bv b3) ?_)
      exact ⟨_, rfl, by rw [hS, hb3]; simp⟩
    · skip
      refine iQ 1 (iC 82 [Sv (tx p)] (some 46) (c_digs) ?_)
      rintro _ ⟨b1, rfl, hb1⟩
      refine iQ 2 ?_
      cases b1
      · replace hb1 := bf hb1
        refine iQ 9 (iU .not (.bool true) (some 58) ?_)
        intro c58 hc58
        refine iQ 1 ?_
        obtain rfl : c58 = false := bff hc58 (by simp)
        refine iQ 5 (iE 64 [(0, .d (Sv (tx s1))), (2, Ba false), (3, .d (Sv (tx e1))), (14, Ba false)] [] ?_)
        refine vc_ret (iR (Bv false) ?_)
        exact ⟨_, rfl, by rw [hS]; simp [hb1]⟩
      · replace hb1 := bt hb1
        refine iQ 1 (iB .eql 9 (.string (tx w)) (.string (⟨#[]⟩)) (some 50) ?_)
        intro c50 hc50
        refine iQ 1 ?_
        cases c50
        · replace hc50 := bf hc50
          refine iQ 1 ?_
          have hw0 : w.isEmpty = false := by cases w with | nil => exact absurd rfl hc50 | cons x r => rfl
          refine iC 82 [Sv (tx w)] (some 53) (c_digs) ?_
          rintro _ ⟨b2, rfl, hb2⟩
          refine iQ 3 ?_
          cases b2
          · replace hb2 := bf hb2
            refine iQ 1 (iU .not (.bool true) (some 58) ?_)
            intro c58 hc58
            refine iQ 1 ?_
            obtain rfl : c58 = false := bff hc58 (by simp)
            refine iQ 5 (iE 64 [(0, .d (Sv (tx s1))), (2, Ba false), (3, .d (Sv (tx e1))), (14, Ba false)] [] ?_)
            refine vc_ret (iR (Bv false) ?_)
            exact ⟨_, rfl, by rw [hS]; simp [hb1, hb2, hw0]⟩
          · replace hb2 := bt hb2
            refine iQ 8 (iE 64 [(0, .d (Sv (tx s1))), (2, Ba true), (3, .d (Sv (tx e1))), (14, Ba false)] [] ?_)
            refine vc_ret (iR (Bv true) ?_)
            exact ⟨_, rfl, by rw [hS]; simp [hb1, hb2]⟩
        · replace hc50 := bt hc50
          refine iQ 13 (iE 64 [(0, .d (Sv (tx s1))), (2, Ba true), (3, .d (Sv (tx e1))), (14, Ba false)] [] ?_)
          refine vc_ret (iR (Bv true) ?_)
          exact ⟨_, rfl, by rw [hS]; simp [hb1, (bempty _).1 hc50]⟩
  · skip
    refine iT (vc_seq (vc_seqr rfl (iQ 1 (iB .neq 9 (.string (tx e1)) (.string (⟨#[]⟩)) (some 16) ?_))))
    intro c16 hc16
    refine iQ 1 ?_
    cases c16
    · replace hc16 := bf hc16
      refine iQ 9 (iE 64 [(0, .d (Sv (tx s1))), (2, Ba false), (3, .d (Sv (tx e1))), (14, Ba true), (26, Ba false)] [] ?_)
      have h0 : e1 = [] := (bempty _).1 (Classical.not_not.1 hc16)
      have hsg : signP e1 = e1 := signP_own (by rw [h0]; simp)
      have eE : tx e1 = tx e1 := rfl
      refine iF (vc_skip (seq_n (vc_seqr rfl (iQ 1 (iC 82 [Sv (tx e1)] (some 30) (c_digsE eE) ?_)))))
      rintro _ ⟨b4, rfl, hb4⟩
      refine iU .not (.bool b4) (some 31) ?_
      intro c31 hc31
      refine iQ 1 ?_
      cases c31
      · replace hc31 := bf hc31
        refine iQ 1 (iL .len [9] [.string (tx e1)] (some 34) ?_)
        intro n34 hn34
        have h8 : digsB (e1) = true := hb4.1 (by simpa using hc31)
        have e34 : n34 = (e1).length := by rw [hn34, eE, tx_size]
        refine iB .gtr 3 (.int .i64 ((n34 : Nat))) (.int .i64 6) (some 35) ?_
        intro c35 hc35
        refine iQ 1 (iE 64 [(0, .d (Sv (tx s1))), (2, Ba false), (3, .d (Sv (tx e1))), (14, Ba true), (26, Ba false), (36, Ba c35)] [] ?_)
        cases c35
        · replace hc35 := bf hc35
          have hS : shapeB l = ((pt && digsB p && (w.isEmpty || digsB w)) || (!pt && digsB w)) := by rw [shape_eq hX hY, hsg, h8, decide_eq_true (show (e1).length ≤ 6 by omega)]; simp
          refine iF (vc_skip (seq_n (vc_seqr rfl (iQ 1 (iC 70 [Sv (tx s1), Sv (⟨#[46]⟩)] (some 39) (c_CutE hY (by omega)) ?_)))))
          rintro _ rfl
          refine iQ 7 (iE 64 [(0, .d (Sv (tx s1))), (2, Ba false), (3, .d (Sv (tx e1))), (5, .d (Sv (tx w))), (6, .d (Sv (tx p))), (7, Ba pt), (14, Ba true), (26, Ba false), (36, Ba false)] [] ?_)
          refine vc_seqr rfl (iQ 2 ?_)
          cases pt
          · skip
            refine iQ 13 (iU .not (.bool false) (some 58) ?_)
            intro c58 hc58
            refine iQ 1 ?_
            obtain rfl : c58 = true := hc58.2 (by simp)
            refine iQ 1 (iC 82 [Sv (tx w)] (some 61) (c_digs) ?_)
            rintro _ ⟨b3, rfl, hb3⟩
            refine iQ 3 (iE 64 [(0, .d (Sv (tx s1))), (2, Ba b3), (3, .d (Sv (tx e1))), (14, Ba true), (26, Ba false), (36, Ba false)] [] ?_)
            refine vc_ret (iR (Bv b3) ?_)
            exact ⟨_, rfl, by rw [hS, hb3]; simp⟩
          · skip
            refine iQ 1 (iC 82 [Sv (tx p)] (some 46) (c_digs) ?_)
            rintro _ ⟨b1, rfl, hb1⟩
            refine iQ 2 ?_
            cases b1
            · replace hb1 := bf hb1
              refine iQ 9 (iU .not (.bool true) (some 58) ?_)
              intro c58 hc58
              refine iQ 1 ?_
              obtain rfl : c58 = false := bff hc58 (by simp)
              refine iQ 5 (iE 64 [(0, .d (Sv (tx s1))), (2, Ba false), (3, .d (Sv (tx e1))), (14, Ba true), (26, Ba false), (36, Ba false)] [] ?_)
              refine vc_ret (iR (Bv false) ?_)
              exact ⟨_, rfl, by rw [hS]; simp [hb1]⟩
            · replace hb1 := bt hb1
              refine iQ 1 (iB .eql 9 (.string (tx w)) (.string (⟨#[]⟩)) (some 50) ?_)
              intro c50 hc50
              refine iQ 1 ?_
              cases c50
              · replace hc50 := bf hc50
                refine iQ 1 ?_
                have hw0 : w.isEmpty = false := by cases w with | nil => exact absurd rfl hc50 | cons x r => rfl
                refine iC 82 [Sv (tx w)] (some 53) (c_digs) ?_
                rintro _ ⟨b2, rfl, hb2⟩
                refine iQ 3 ?_
                cases b2
                · replace hb2 := bf hb2
                  refine iQ 1 (iU .not (.bool true) (some 58) ?_)
                  intro c58 hc58
                  refine iQ 1 ?_
                  obtain rfl : c58 = false := bff hc58 (by simp)
                  refine iQ 5 (iE 64 [(0, .d (Sv (tx s1))), (2, Ba false), (3, .d (Sv (tx e1))), (14, Ba true), (26, Ba false), (36, Ba false)] [] ?_)
                  refine vc_ret (iR (Bv false) ?_)
                  exact ⟨_, rfl, by rw [hS]; simp [hb1, hb2, hw0]⟩
                · replace hb2 := bt hb2
                  refine iQ 8 (iE 64 [(0, .d (Sv (tx s1))), (2, Ba true), (3, .d (Sv (tx e1))), (14, Ba true), (26, Ba false), (36, Ba false)] [] ?_)
                  refine vc_ret (iR (Bv true) ?_)
                  exact ⟨_, rfl, by rw [hS]; simp [hb1, hb2]⟩
              · replace hc50 := bt hc50
                refine iQ 13 (iE 64 [(0, .d (Sv (tx s1))), (2, Ba true), (3, .d (Sv (tx e1))), (14, Ba true), (26, Ba false), (36, Ba false)] [] ?_)
                refine vc_ret (iR (Bv true) ?_)
                exact ⟨_, rfl, by rw [hS]; simp [hb1, (bempty _).1 hc50]⟩
        · replace hc35 := bt hc35
          refine iT (vc_seqr rfl (iQ 1 (iE 64 [(0, .d (Sv (tx s1))), (2, Ba false), (3, .d (Sv (tx e1))), (14, Ba true), (26, Ba false), (36, Ba true)] [] ?_)))
          refine vc_ret (seq_r (iR (Bv false) ?_))
          exact ⟨_, rfl, by rw [shape_eq hX hY, hsg]; rw [decide_eq_false (show ¬ (e1).length ≤ 6 by omega)]; simp⟩
      · replace hc31 := bt hc31
        refine iQ 4 (iE 64 [(0, .d (Sv (tx s1))), (2, Ba false), (3, .d (Sv (tx e1))), (14, Ba true), (26, Ba false), (36, Ba true)] [] ?_)
        refine iT (vc_seqr rfl (iQ 1 (iE 64 [(0, .d (Sv (tx s1))), (2, Ba false), (3, .d (Sv (tx e1))), (14, Ba true), (26, Ba false), (36, Ba true)] [] ?_)))
        refine vc_ret (seq_r (iR (Bv false) ?_))
        exact ⟨_, rfl, by rw [shape_eq hX hY, hsg]; have h9 : ¬ digsB (e1) = true := (fun h => by have := hb4.2 h; rw [hc31] at this; cases this); simp [h9]⟩
    · replace hc16 := bt hc16
      refine iQ 1 (iX 9 (.string (tx e1)) (.int .i64 0) (some 19) ?_)
      have h0 : e1 ≠ [] := fun e => hc16 ((bempty _).2 e)
      have h00 : 0 < e1.length := List.length_pos_iff.2 h0
      refine And.intro (by rw [tx_size]; omega) ?_
      intro z19 hz19
      have e19 := at0_tx (z := z19) (c := 45) h0 hz19
      refine iB .eql 5 (.int .u8 z19) (.int .u8 45) (some 20) ?_
      intro c20 hc20
      refine iQ 1 ?_
      cases c20
      · replace hc20 := bf hc20
        refine iQ 1 (iX 9 (.string (tx e1)) (.int .i64 0) (some 23) ?_)
        refine And.intro (by rw [tx_size]; omega) ?_
        intro z23 hz23
        have e23 := at0_tx (z := z23) (c := 43) h0 hz23
        refine iB .eql 5 (.int .u8 z23) (.int .u8 43) (some 24) ?_
        intro c24 hc24
        refine iQ 2 (iE 64 [(0, .d (Sv (tx s1))), (2, Ba false), (3, .d (Sv (tx e1))), (14, Ba true), (26, Ba c24)] [] ?_)
        cases c24
        · replace hc24 := bf hc24
          have hsg : signP e1 = e1 := signP_own (by rintro (q | q); exact hc20 (e19.2 q); exact hc24 (e23.2 q))
          have eE : tx e1 = tx e1 := rfl
          refine iF (vc_skip (seq_n (vc_seqr rfl (iQ 1 (iC 82 [Sv (tx e1)] (some 30) (c_digsE eE) ?_)))))
          rintro _ ⟨b4, rfl, hb4⟩
          refine iU .not (.bool b4) (some 31) ?_
          intro c31 hc31
          refine iQ 1 ?_
          cases c31
          · replace hc31 := bf hc31
            refine iQ 1 (iL .len [9] [.string (tx e1)] (some 34) ?_)
            intro n34 hn34
            have h8 : digsB (e1) = true := hb4.1 (by simpa using hc31)
            have e34 : n34 = (e1).length := by rw [hn34, eE, tx_size]
            refine iB .gtr 3 (.int .i64 ((n34 : Nat))) (.int .i64 6) (some 35) ?_
            intro c35 hc35
            refine iQ 1 (iE 64 [(0, .d (Sv (tx s1))), (2, Ba false), (3, .d (Sv (tx e1))), (14, Ba true), (26, Ba false), (36, Ba c35)] [] ?_)
            cases c35
            · replace hc35 := bf hc35
              have hS : shapeB l = ((pt && digsB p && (w.isEmpty || digsB w)) || (!pt && digsB w)) := by rw [shape_eq hX hY, hsg, h8, decide_eq_true (show (e1).length ≤ 6 by omega)]; simp
              refine iF (vc_skip (seq_n (vc_seqr rfl (iQ 1 (iC 70 [Sv (tx s1), Sv (⟨#[46]⟩)] (some 39) (c_CutE hY (by omega)) ?_)))))
              rintro _ rfl
              refine iQ 7 (iE 64 [(0, .d (Sv (tx s1))), (2, Ba false), (3, .d (Sv (tx e1))), (5, .d (Sv (tx w))), (6, .d (Sv (tx p))), (7, Ba pt), (14, Ba true), (26, Ba false), (36, Ba false)] [] ?_)
              refine vc_seqr rfl (iQ 2 ?_)
              cases pt
              · skip
                refine iQ 13 (iU .not (.bool false) (some 58) ?_)
                intro c58 hc58
                refine iQ 1 ?_
                obtain rfl : c58 = true := hc58.2 (by simp)
                refine iQ 1 (iC 82 [Sv (tx w)] (some 61) (c_digs) ?_)
                rintro _ ⟨b3, rfl, hb3⟩
                refine iQ 3 (iE 64 [(0, .d (Sv (tx s1))), (2, Ba b3), (3, .d (Sv (tx e1))), (14, Ba true), (26, Ba false), (36, Ba false)] [] ?_)
                refine vc_ret (iR (Bv b3) ?_)
                exact ⟨_, rfl, by rw [hS, hb3]; simp⟩
              · skip
                refine iQ 1 (iC 82 [Sv (tx p)] (some 46) (c_digs) ?_)
                rintro _ ⟨b1, rfl, hb1⟩
                refine iQ 2 ?_
                cases b1
                · replace hb1 := bf hb1
                  refine iQ 9 (iU .not (.bool true) (some 58) ?_)
                  intro c58 hc58
                  refine iQ 1 ?_
                  obtain rfl : c58 = false := bff hc58 (by simp)
                  refine iQ 5 (iE 64 [(0, .d (Sv (tx s1))), (2, Ba false), (3, .d (Sv (tx e1))), (14, Ba true), (26, Ba false), (36, Ba false)] [] ?_)
                  refine vc_ret (iR (Bv false) ?_)
                  exact ⟨_, rfl, by rw [hS]; simp [hb1]⟩
                · replace hb1 := bt hb1
                  refine iQ 1 (iB .eql 9 (.string (tx w)) (.string (⟨#[]⟩)) (some 50) ?_)
                  intro c50 hc50
                  refine iQ 1 ?_
                  cases c50
                  · replace hc50 := bf hc50
                    refine iQ 1 ?_
                    have hw0 : w.isEmpty = false := by cases w with | nil => exact absurd rfl hc50 | cons x r => rfl
                    refine iC 82 [Sv (tx w)] (some 53) (c_digs) ?_
                    rintro _ ⟨b2, rfl, hb2⟩
                    refine iQ 3 ?_
                    cases b2
                    · replace hb2 := bf hb2
                      refine iQ 1 (iU .not (.bool true) (some 58) ?_)
                      intro c58 hc58
                      refine iQ 1 ?_
                      obtain rfl : c58 = false := bff hc58 (by simp)
                      refine iQ 5 (iE 64 [(0, .d (Sv (tx s1))), (2, Ba false), (3, .d (Sv (tx e1))), (14, Ba true), (26, Ba false), (36, Ba false)] [] ?_)
                      refine vc_ret (iR (Bv false) ?_)
                      exact ⟨_, rfl, by rw [hS]; simp [hb1, hb2, hw0]⟩
                    · replace hb2 := bt hb2
                      refine iQ 8 (iE 64 [(0, .d (Sv (tx s1))), (2, Ba true), (3, .d (Sv (tx e1))), (14, Ba true), (26, Ba false), (36, Ba false)] [] ?_)
                      refine vc_ret (iR (Bv true) ?_)
                      exact ⟨_, rfl, by rw [hS]; simp [hb1, hb2]⟩
                  · replace hc50 := bt hc50
                    refine iQ 13 (iE 64 [(0, .d (Sv (tx s1))), (2, Ba true), (3, .d (Sv (tx e1))), (14, Ba true), (26, Ba false), (36, Ba false)] [] ?_)
                    refine vc_ret (iR (Bv true) ?_)
                    exact ⟨_, rfl, by rw [hS]; simp [hb1, (bempty _).1 hc50]⟩
            · replace hc35 := bt hc35
              refine iT (vc_seqr rfl (iQ 1 (iE 64 [(0, .d (Sv (tx s1))), (2, Ba false), (3, .d (Sv (tx e1))), (14, Ba true), (26, Ba false), (36, Ba true)] [] ?_)))
              refine vc_ret (seq_r (iR (Bv false) ?_))
              exact ⟨_, rfl, by rw [shape_eq hX hY, hsg]; rw [decide_eq_false (show ¬ (e1).length ≤ 6 by omega)]; simp⟩
          · replace hc31 := bt hc31
            refine iQ 4 (iE 64 [(0, .d (Sv (tx s1))), (2, Ba false), (3, .d (Sv (tx e1))), (14, Ba true), (26, Ba false), (36, Ba true)] [] ?_)
            refine iT (vc_seqr rfl (iQ 1 (iE 64 [(0, .d (Sv (tx s1))), (2, Ba false), (3, .d (Sv (tx e1))), (14, Ba true), (26, Ba false), (36, Ba true)] [] ?_)))
            refine vc_ret (seq_r (iR (Bv false) ?_))
            exact ⟨_, rfl, by rw [shape_eq hX hY, hsg]; have h9 : ¬ digsB (e1) = true := (fun h => by have := hb4.2 h; rw [hc31] at this; cases this); simp [h9]⟩
        · replace hc24 := bt hc24
          have hsg : signP e1 = e1.tail := signP_tail (.inr (e23.1 hc24))
          refine iT (vc_reg rfl (iQ 1 (iY 9 (tx e1) (1) (((tx e1 : ByteArray).size : Int)) (some 28) ?_)))
          refine And.intro (by rw [tx_size]; omega) ?_
          intro s28 hs28
          have eE : s28 = tx e1.tail := tail_tx hs28
          refine iQ 1 (iE 64 [(0, .d (Sv (tx s1))), (2, Ba false), (3, .d (Sv s28)), (14, Ba true), (26, Ba true)] [] ?_)
          refine seq_n (vc_seqr rfl (iQ 1 (iC 82 [Sv s28] (some 30) (c_digsE eE) ?_)))
          rintro _ ⟨b4, rfl, hb4⟩
          refine iU .not (.bool b4) (some 31) ?_
          intro c31 hc31
          refine iQ 1 ?_
          cases c31
          · replace hc31 := bf hc31
            refine iQ 1 (iL .len [9] [.string s28] (some 34) ?_)
            intro n34 hn34
            have h8 : digsB (e1.tail) = true := hb4.1 (by simpa using hc31)
            have e34 : n34 = (e1.tail).length := by rw [hn34, eE, tx_size]
            refine iB .gtr 3 (.int .i64 ((n34 : Nat))) (.int .i64 6) (some 35) ?_
            intro c35 hc35
            refine iQ 1 (iE 64 [(0, .d (Sv (tx s1))), (2, Ba false), (3, .d (Sv s28)), (14, Ba true), (26, Ba true), (36, Ba c35)] [] ?_)
            cases c35
            · replace hc35 := bf hc35
              have hS : shapeB l = ((pt && digsB p && (w.isEmpty || digsB w)) || (!pt && digsB w)) := by rw [shape_eq hX hY, hsg, h8, decide_eq_true (show (e1.tail).length ≤ 6 by omega)]; simp
              refine iF (vc_skip (seq_n (vc_seqr rfl (iQ 1 (iC 70 [Sv (tx s1), Sv (⟨#[46]⟩)] (some 39) (c_CutE hY (by omega)) ?_)))))
              rintro _ rfl
              refine iQ 7 (iE 64 [(0, .d (Sv (tx s1))), (2, Ba false), (3, .d (Sv s28)), (5, .d (Sv (tx w))), (6, .d (Sv (tx p))), (7, Ba pt), (14, Ba true), (26, Ba true), (36, Ba false)] [] ?_)
              refine vc_seqr rfl (iQ 2 ?_)
              cases pt
              · skip
                refine iQ 13 (iU .not (.bool false) (some 58) ?_)
                intro c58 hc58
                refine iQ 1 ?_
                obtain rfl : c58 = true := hc58.2 (by simp)
                refine iQ 1 (iC 82 [Sv (tx w)] (some 61) (c_digs) ?_)
                rintro _ ⟨b3, rfl, hb3⟩
                refine iQ 3 (iE 64 [(0, .d (Sv (tx s1))), (2, Ba b3), (3, .d (Sv s28)), (14, Ba true), (26, Ba true), (36, Ba false)] [] ?_)
                refine vc_ret (iR (Bv b3) ?_)
                exact ⟨_, rfl, by rw [hS, hb3]; simp⟩
              · skip
                refine iQ 1 (iC 82 [Sv (tx p)] (some 46) (c_digs) ?_)
                rintro _ ⟨b1, rfl, hb1⟩
                refine iQ 2 ?_
                cases b1
                · replace hb1 := bf hb1
                  refine iQ 9 (iU .not (.bool true) (some 58) ?_)
                  intro c58 hc58
                  refine iQ 1 ?_
                  obtain rfl : c58 = false := bff hc58 (by simp)
                  refine iQ 5 (iE 64 [(0, .d (Sv (tx s1))), (2, Ba false), (3, .d (Sv s28)), (14, Ba true), (26, Ba true), (36, Ba false)] [] ?_)
                  refine vc_ret (iR (Bv false) ?_)
                  exact ⟨_, rfl, by rw [hS]; simp [hb1]⟩
                · replace hb1 := bt hb1
                  refine iQ 1 (iB .eql 9 (.string (tx w)) (.string (⟨#[]⟩)) (some 50) ?_)
                  intro c50 hc50
                  refine iQ 1 ?_
                  cases c50
                  · replace hc50 := bf hc50
                    refine iQ 1 ?_
                    have hw0 : w.isEmpty = false := by cases w with | nil => exact absurd rfl hc50 | cons x r => rfl
                    refine iC 82 [Sv (tx w)] (some 53) (c_digs) ?_
                    rintro _ ⟨b2, rfl, hb2⟩
                    refine iQ 3 ?_
                    cases b2
                    · replace hb2 := bf hb2
                      refine iQ 1 (iU .not (.bool true) (some 58) ?_)
                      intro c58 hc58
                      refine iQ 1 ?_
                      obtain rfl : c58 = false := bff hc58 (by simp)
                      refine iQ 5 (iE 64 [(0, .d (Sv (tx s1))), (2, Ba false), (3, .d (Sv s28)), (14, Ba true), (26, Ba true), (36, Ba false)] [] ?_)
                      refine vc_ret (iR (Bv false) ?_)
                      exact ⟨_, rfl, by rw [hS]; simp [hb1, hb2, hw0]⟩
                    · replace hb2 := bt hb2
                      refine iQ 8 (iE 64 [(0, .d (Sv (tx s1))), (2, Ba true), (3, .d (Sv s28)), (14, Ba true), (26, Ba true), (36, Ba false)] [] ?_)
                      refine vc_ret (iR (Bv true) ?_)
                      exact ⟨_, rfl, by rw [hS]; simp [hb1, hb2]⟩
                  · replace hc50 := bt hc50
                    refine iQ 13 (iE 64 [(0, .d (Sv (tx s1))), (2, Ba true), (3, .d (Sv s28)), (14, Ba true), (26, Ba true), (36, Ba false)] [] ?_)
                    refine vc_ret (iR (Bv true) ?_)
                    exact ⟨_, rfl, by rw [hS]; simp [hb1, (bempty _).1 hc50]⟩
            · replace hc35 := bt hc35
              refine iT (vc_seqr rfl (iQ 1 (iE 64 [(0, .d (Sv (tx s1))), (2, Ba false), (3, .d (Sv s28)), (14, Ba true), (26, Ba true), (36, Ba true)] [] ?_)))
              refine vc_ret (seq_r (iR (Bv false) ?_))
              exact ⟨_, rfl, by rw [shape_eq hX hY, hsg]; rw [decide_eq_false (show ¬ (e1.tail).length ≤ 6 by omega)]; simp⟩
          · replace hc31 := bt hc31
            refine iQ 4 (iE 64 [(0, .d (Sv (tx s1))), (2, Ba false), (3, .d (Sv s28)), (14, Ba true), (26, Ba true), (36, Ba true)] [] ?_)
            refine iT (vc_seqr rfl (iQ 1 (iE 64 [(0, .d (Sv (tx s1))), (2, Ba false), (3, .d (Sv s28)), (14, Ba true), (26, Ba true), (36, Ba true)] [] ?_)))
            refine vc_ret (seq_r (iR (Bv false) ?_))
            exact ⟨_, rfl, by rw [shape_eq hX hY, hsg]; have h9 : ¬ digsB (e1.tail) = true := (fun h => by have := hb4.2 h; rw [hc31] at this; cases this); simp [h9]⟩
      · replace hc20 := bt hc20
        refine iQ 5 (iE 64 [(0, .d (Sv (tx s1))), (2, Ba false), (3, .d (Sv (tx e1))), (14, Ba true), (26, Ba true)] [] ?_)
        have hsg : signP e1 = e1.tail := signP_tail (.inl (e19.1 hc20))
        refine iT (vc_reg rfl (iQ 1 (iY 9 (tx e1) (1) (((tx e1 : ByteArray).size : Int)) (some 28) ?_)))
        refine And.intro (by rw [tx_size]; omega) ?_
        intro s28 hs28
        have eE : s28 = tx e1.tail := tail_tx hs28
        refine iQ 1 (iE 64 [(0, .d (Sv (tx s1))), (2, Ba false), (3, .d (Sv s28)), (14, Ba true), (26, Ba true)] [] ?_)
        refine seq_n (vc_seqr rfl (iQ 1 (iC 82 [Sv s28] (some 30) (c_digsE eE) ?_)))
        rintro _ ⟨b4, rfl, hb4⟩
        refine iU .not (.bool b4) (some 31) ?_
        intro c31 hc31
        refine iQ 1 ?_
        cases c31
        · replace hc31 := bf hc31
          refine iQ 1 (iL .len [9] [.string s28] (some 34) ?_)
          intro n34 hn34
          have h8 : digsB (e1.tail) = true := hb4.1 (by simpa using hc31)
          have e34 : n34 = (e1.tail).length := by rw [hn34, eE, tx_size]
          refine iB .gtr 3 (.int .i64 ((n34 : Nat))) (.int .i64 6) (some 35) ?_
          intro c35 hc35
          refine iQ 1 (iE 64 [(0, .d (Sv (tx s1))), (2, Ba false), (3, .d (Sv s28)), (14, Ba true), (26, Ba true), (36, Ba c35)] [] ?_)
          cases c35
          · replace hc35 := bf hc35
            have hS : shapeB l = ((pt && digsB p && (w.isEmpty || digsB w)) || (!pt && digsB w)) := by rw [shape_eq hX hY, hsg, h8, decide_eq_true (show (e1.tail).length ≤ 6 by omega)]; simp
            refine iF (vc_skip (seq_n (vc_seqr rfl (iQ 1 (iC 70 [Sv (tx s1), Sv (⟨#[46]⟩)] (some 39) (c_CutE hY (by omega)) ?_)))))
            rintro _ rfl
            refine iQ 7 (iE 64 [(0, .d (Sv (tx s1))), (2, Ba false), (3, .d (Sv s28)), (5, .d (Sv (tx w))), (6, .d (Sv (tx p))), (7, Ba pt), (14, Ba true), (26, Ba true), (36, Ba false)] [] ?_)
            refine vc_seqr rfl (iQ 2 ?_)
            cases pt
            · skip
              refine iQ 13 (iU .not (.bool false) (some 58) ?_)
              intro c58 hc58
              refine iQ 1 ?_
              obtain rfl : c58 = true := hc58.2 (by simp)
              refine iQ 1 (iC 82 [Sv (tx w)] (some 61) (c_digs) ?_)
              rintro _ ⟨b3, rfl, hb3⟩
              refine iQ 3 (iE 64 [(0, .d (Sv (tx s1))), (2, Ba b3), (3, .d (Sv s28)), (14, Ba true), (26, Ba true), (36, Ba false)] [] ?_)
              refine vc_ret (iR (Bv b3) ?_)
              exact ⟨_, rfl, by rw [hS, hb3]; simp⟩
            · skip
              refine iQ 1 (iC 82 [Sv (tx p)] (some 46) (c_digs) ?_)
              rintro _ ⟨b1, rfl, hb1⟩
              refine iQ 2 ?_
              cases b1
              · replace hb1 := bf hb1
                refine iQ 9 (iU .not (.bool true) (some 58) ?_)
                intro c58 hc58
                refine iQ 1 ?_
                obtain rfl : c58 = false := bff hc58 (by simp)
                refine iQ 5 (iE 64 [(0, .d (Sv (tx s1))), (2, Ba false), (3, .d (Sv s28)), (14, Ba true), (26, Ba true), (36, Ba false)] [] ?_)
                refine vc_ret (iR (Bv false) ?_)
                exact ⟨_, rfl, by rw [hS]; simp [hb1]⟩
              · replace hb1 := bt hb1
                refine iQ 1 (iB .eql 9 (.string (tx w)) (.string (⟨#[]⟩)) (some 50) ?_)
                intro c50 hc50
                refine iQ 1 ?_
                cases c50
                · replace hc50 := bf hc50
                  refine iQ 1 ?_
                  have hw0 : w.isEmpty = false := by cases w with | nil => exact absurd rfl hc50 | cons x r => rfl
                  refine iC 82 [Sv (tx w)] (some 53) (c_digs) ?_
                  rintro _ ⟨b2, rfl, hb2⟩
                  refine iQ 3 ?_
                  cases b2
                  · replace hb2 := bf hb2
                    refine iQ 1 (iU .not (.bool true) (some 58) ?_)
                    intro c58 hc58
                    refine iQ 1 ?_
                    obtain rfl : c58 = false := bff hc58 (by simp)
                    refine iQ 5 (iE 64 [(0, .d (Sv (tx s1))), (2, Ba false), (3, .d (Sv s28)), (14, Ba true), (26, Ba true), (36, Ba false)] [] ?_)
                    refine vc_ret (iR (Bv false) ?_)
                    exact ⟨_, rfl, by rw [hS]; simp [hb1, hb2, hw0]⟩
                  · replace hb2 := bt hb2
                    refine iQ 8 (iE 64 [(0, .d (Sv (tx s1))), (2, Ba true), (3, .d (Sv s28)), (14, Ba true), (26, Ba true), (36, Ba false)] [] ?_)
                    refine vc_ret (iR (Bv true) ?_)
                    exact ⟨_, rfl, by rw [hS]; simp [hb1, hb2]⟩
                · replace hc50 := bt hc50
                  refine iQ 13 (iE 64 [(0, .d (Sv (tx s1))), (2, Ba true), (3, .d (Sv s28)), (14, Ba true), (26, Ba true), (36, Ba false)] [] ?_)
                  refine vc_ret (iR (Bv true) ?_)
                  exact ⟨_, rfl, by rw [hS]; simp [hb1, (bempty _).1 hc50]⟩
          · replace hc35 := bt hc35
            refine iT (vc_seqr rfl (iQ 1 (iE 64 [(0, .d (Sv (tx s1))), (2, Ba false), (3, .d (Sv s28)), (14, Ba true), (26, Ba true), (36, Ba true)] [] ?_)))
            refine vc_ret (seq_r (iR (Bv false) ?_))
            exact ⟨_, rfl, by rw [shape_eq hX hY, hsg]; rw [decide_eq_false (show ¬ (e1.tail).length ≤ 6 by omega)]; simp⟩
        · replace hc31 := bt hc31
          refine iQ 4 (iE 64 [(0, .d (Sv (tx s1))), (2, Ba false), (3, .d (Sv s28)), (14, Ba true), (26, Ba true), (36, Ba true)] [] ?_)
          refine iT (vc_seqr rfl (iQ 1 (iE 64 [(0, .d (Sv (tx s1))), (2, Ba false), (3, .d (Sv s28)), (14, Ba true), (26, Ba true), (36, Ba true)] [] ?_)))
          refine vc_ret (seq_r (iR (Bv false) ?_))
          exact ⟨_, rfl, by rw [shape_eq hX hY, hsg]; have h9 : ¬ digsB (e1.tail) = true := (fun h => by have := hb4.2 h; rw [hc31] at this; cases this); simp [h9]⟩

theorem c_TxT {a : Nat} (ha : a < B128) : HasC Tryd.prog 43 [dU a] (fun r => r = .v (.string (tx (Lib.decDigits a)))) := by
  have c := c_Text ha
  rwa [txS_tx] at c
theorem dec_le39 {n : Nat} (h : n < B128) : (Lib.decDigits n).length ≤ 39 := dec_len (Nat.lt_trans h (by decide)) (by decide)
theorem body_pt {n : Nat} {e : Int} {S : L8} (h : e < 0 ∧ -40 ≤ e) (hS : S = List.replicate ((-e).toNat + 1 - (Lib.decDigits n).length) 48 ++ Lib.decDigits n) : bodyL n e = S.take (S.length - (-e).toNat) ++ 46 :: S.drop (S.length - (-e).toNat) := by
  rw [bodyL, if_pos h]
  subst hS
  rfl
theorem body_e {n : Nat} {e : Int} (h : ¬ (e < 0 ∧ -40 ≤ e)) (h0 : e ≠ 0) : bodyL n e = Lib.decDigits n ++ 69 :: Lib.itoa e := by rw [bodyL, if_neg h, if_neg h0]
theorem body_0 {n : Nat} {e : Int} (h0 : e = 0) : bodyL n e = Lib.decDigits n := by rw [bodyL, if_neg (by omega), if_pos h0]

set_option maxHeartbeats 800000 in
theorem c_nText {g : Bool} {n : Nat} {e : Int} (hn : n < B128) (h1 : -999999 ≤ e) (h2 : e ≤ 999999) : HasC Tryd.prog 37 [.agg [.v (.bool g), .v (.int .u64 (hiW (n))), .v (.int .u64 (loW (n))), .v (.int .i64 e)]] (fun r => r = .v (.string (tx (textL g n e)))) := by
  refine HasC.of [] (fn := Tryd.f37) tyOk mixed (fun args w => Tryd.call37 args w) Tryd.func37 rfl (by kernel_rfl) (Nat.le_of_ble_eq_true rfl) (⟨_, rfl⟩) ?_
  have hdl := dec_le39 hn
  refine vc_seqr rfl (iQ 2 (iE 53 [(1, .p 1 0), (2, .d (Sv (⟨#[]⟩)))] [(1, [Bv g, Hw n, Lw n, Iv e])] ?_))
  refine vc_seqr rfl (iQ 2 (iC 43 [.agg [Hw n, Lw n]] (some 7) (c_TxT hn) ?_))
  rintro _ rfl
  refine iQ 1 (iE 53 [(1, .p 1 0), (2, .d (Sv (⟨#[]⟩))), (3, .d (Sv (tx (Lib.decDigits n))))] [(1, [Bv g, Hw n, Lw n, Iv e])] ?_)
  refine vc_seq (vc_block (vc_seqr rfl (iQ 2 (iB .lss 3 (.int .i64 e) (.int .i64 0) (some 11) ?_))))
  intro c11 hc11
  refine iQ 1 ?_
  cases c11
  · replace hc11 := bf hc11
    refine iQ 5 (iE 53 [(1, .p 1 0), (2, .d (Sv (⟨#[]⟩))), (3, .d (Sv (tx (Lib.decDigits n)))), (8, Ba false)] [(1, [Bv g, Hw n, Lw n, Iv e])] ?_)
    have hE : ¬ (e < 0 ∧ -40 ≤ e) := by omega
    refine iF (vc_seqr rfl (iQ 2 (iB .neq 3 (.int .i64 e) (.int .i64 0) (some 41) ?_)))
    intro c41 hc41
    refine iQ 1 (iE 53 [(1, .p 1 0), (2, .d (Sv (⟨#[]⟩))), (3, .d (Sv (tx (Lib.decDigits n)))), (8, Ba false), (38, Ba c41)] [(1, [Bv g, Hw n, Lw n, Iv e])] ?_)
    cases c41
    · replace hc41 := bf hc41
      have hB : bodyL n e = Lib.decDigits n := body_0 (by omega)
      refine iF (vc_skip (block_n (seq_n (vc_seq (vc_seqr rfl (iQ 2 (iE 53 [(1, .p 1 0), (2, .d (Sv (⟨#[]⟩))), (3, .d (Sv (tx (Lib.decDigits n)))), (8, Ba false), (38, Ba false), (49, Ba g)] [(1, [Bv g, Hw n, Lw n, Iv e])] ?_)))))))
      cases g
      · skip
        refine iF (vc_skip (seq_n (vc_seqr rfl (iQ 2 (iE 53 [(1, .p 1 0), (2, .d (Sv (tx (Lib.decDigits n)))), (3, .d (Sv (tx (Lib.decDigits n)))), (8, Ba false), (38, Ba false), (49, Ba false)] [(1, [Bv false, Hw n, Lw n, Iv e])] ?_)))))
        refine vc_ret (iR (Sv (tx (Lib.decDigits n))) ?_)
        first | rw [e37, textL, if_neg (by simp), hB] | rw [e47, textL, if_neg (by simp), hB] | rw [textL, if_neg (by simp), hB]
      · skip
        refine iT (vc_seqr rfl (iQ 1 (iB .add 9 (.string (⟨#[45]⟩)) (.string (tx (Lib.decDigits n))) (some 51) ?_)))
        refine And.intro (sz_le (m := 1) (n := ((Lib.decDigits n)).length) rfl rfl (by omega)) ?_
        intro s51 hs51
        have hl51 : (s51 : ByteArray).size = 1 + ((Lib.decDigits n)).length := sz_add hs51 rfl rfl
        refine iQ 1 (iE 53 [(1, .p 1 0), (2, .d (Sv s51)), (3, .d (Sv (tx (Lib.decDigits n)))), (8, Ba false), (38, Ba false), (49, Ba true)] [(1, [Bv true, Hw n, Lw n, Iv e])] ?_)
        refine vc_ret (seq_r (iR (Sv s51) ?_))
        rw [hs51, textL, if_pos rfl, hB]; first | (rw [e37]; exact congrArg (fun s => DV.v (.string s)) (tx_append [45] _)) | (rw [e47]; exact congrArg (fun s => DV.v (.string s)) (tx_append [45] _)) | exact congrArg (fun s => DV.v (.string s)) (tx_append [45] _)
    · replace hc41 := bt hc41
      refine iT (vc_reg rfl (iQ 3 (iC 78 [Iv e] (some 45) (c_Itoa ⟨by omega, by omega⟩) ?_)))
      rintro _ rfl
      have hi := itoa_len e ⟨by omega, by omega⟩
      refine iB .add 9 (.string (⟨#[69]⟩)) (.string (tx (Lib.itoa e))) (some 46) ?_
      refine And.intro (sz_le (m := 1) (n := ((Lib.itoa e)).length) rfl rfl (by omega)) ?_
      intro s46 hs46
      have hl46 : (s46 : ByteArray).size = 1 + ((Lib.itoa e)).length := sz_add hs46 rfl rfl
      refine iB .add 9 (.string (tx (Lib.decDigits n))) (.string s46) (some 47) ?_
      refine And.intro (sz_le (m := ((Lib.decDigits n)).length) (n := (s46 : ByteArray).size) rfl rfl (by omega)) ?_
      intro s47 hs47
      have hl47 : (s47 : ByteArray).size = ((Lib.decDigits n)).length + (s46 : ByteArray).size := sz_add hs47 rfl rfl
      have e47 : s47 = tx (Lib.decDigits n ++ 69 :: Lib.itoa e) := by rw [hs47, hs46]; exact (congrArg (tx (Lib.decDigits n) ++ ·) (tx_append [69] (Lib.itoa e))).trans (tx_append _ _)
      have hB : bodyL n e = Lib.decDigits n ++ 69 :: Lib.itoa e := body_e hE (by omega)
      refine iQ 1 (iE 53 [(1, .p 1 0), (2, .d (Sv (⟨#[]⟩))), (3, .d (Sv s47)), (8, Ba false), (38, Ba true)] [(1, [Bv g, Hw n, Lw n, Iv e])] ?_)
      refine block_n (seq_n (vc_seq (vc_seqr rfl (iQ 2 (iE 53 [(1, .p 1 0), (2, .d (Sv (⟨#[]⟩))), (3, .d (Sv s47)), (8, Ba false), (38, Ba true), (49, Ba g)] [(1, [Bv g, Hw n, Lw n, Iv e])] ?_)))))
      cases g
      · skip
        refine iF (vc_skip (seq_n (vc_seqr rfl (iQ 2 (iE 53 [(1, .p 1 0), (2, .d (Sv s47)), (3, .d (Sv s47)), (8, Ba false), (38, Ba true), (49, Ba false)] [(1, [Bv false, Hw n, Lw n, Iv e])] ?_)))))
        refine vc_ret (iR (Sv s47) ?_)
        first | rw [e37, textL, if_neg (by simp), hB] | rw [e47, textL, if_neg (by simp), hB] | rw [textL, if_neg (by simp), hB]
      · skip
        refine iT (vc_seqr rfl (iQ 1 (iB .add 9 (.string (⟨#[45]⟩)) (.string s47) (some 51) ?_)))
        refine And.intro (sz_le (m := 1) (n := (s47 : ByteArray).size) rfl rfl (by omega)) ?_
        intro s51 hs51
        have hl51 : (s51 : ByteArray).size = 1 + (s47 : ByteArray).size := sz_add hs51 rfl rfl
        refine iQ 1 (iE 53 [(1, .p 1 0), (2, .d (Sv s51)), (3, .d (Sv s47)), (8, Ba false), (38, Ba true), (49, Ba true)] [(1, [Bv true, Hw n, Lw n, Iv e])] ?_)
        refine vc_ret (seq_r (iR (Sv s51) ?_))
        rw [hs51, textL, if_pos rfl, hB]; first | (rw [e37]; exact congrArg (fun s => DV.v (.string s)) (tx_append [45] _)) | (rw [e47]; exact congrArg (fun s => DV.v (.string s)) (tx_append [45] _)) | exact congrArg (fun s => DV.v (.string s)) (tx_append [45] _)
  · replace hc11 := bt hc11
    refine iQ 2 (iB .geq 3 (.int .i64 e) (.int .i64 (-40)) (some 15) ?_)
    intro c15 hc15
    refine iQ 2 (iE 53 [(1, .p 1 0), (2, .d (Sv (⟨#[]⟩))), (3, .d (Sv (tx (Lib.decDigits n)))), (8, Ba c15)] [(1, [Bv g, Hw n, Lw n, Iv e])] ?_)
    cases c15
    · replace hc15 := bf hc15
      have hE : ¬ (e < 0 ∧ -40 ≤ e) := by omega
      refine iF (vc_seqr rfl (iQ 2 (iB .neq 3 (.int .i64 e) (.int .i64 0) (some 41) ?_)))
      intro c41 hc41
      refine iQ 1 (iE 53 [(1, .p 1 0), (2, .d (Sv (⟨#[]⟩))), (3, .d (Sv (tx (Lib.decDigits n)))), (8, Ba false), (38, Ba c41)] [(1, [Bv g, Hw n, Lw n, Iv e])] ?_)
      cases c41
      · replace hc41 := bf hc41
        have hB : bodyL n e = Lib.decDigits n := body_0 (by omega)
        refine iF (vc_skip (block_n (seq_n (vc_seq (vc_seqr rfl (iQ 2 (iE 53 [(1, .p 1 0), (2, .d (Sv (⟨#[]⟩))), (3, .d (Sv (tx (Lib.decDigits n)))), (8, Ba false), (38, Ba false), (49, Ba g)] [(1, [Bv g, Hw n, Lw n, Iv e])] ?_)))))))
        cases g
        · skip
          refine iF (vc_skip (seq_n (vc_seqr rfl (iQ 2 (iE 53 [(1, .p 1 0), (2, .d (Sv (tx (Lib.decDigits n)))), (3, .d (Sv (tx (Lib.decDigits n)))), (8, Ba false), (38, Ba false), (49, Ba false)] [(1, [Bv false, Hw n, Lw n, Iv e])] ?_)))))
          refine vc_ret (iR (Sv (tx (Lib.decDigits n))) ?_)
          first | rw [e37, textL, if_neg (by simp), hB] | rw [e47, textL, if_neg (by simp), hB] | rw [textL, if_neg (by simp), hB]
        · skip
          refine iT (vc_seqr rfl (iQ 1 (iB .add 9 (.string (⟨#[45]⟩)) (.string (tx (Lib.decDigits n))) (some 51) ?_)))
          refine And.intro (sz_le (m := 1) (n := ((Lib.decDigits n)).length) rfl rfl (by omega)) ?_
          intro s51 hs51
          have hl51 : (s51 : ByteArray).size = 1 + ((Lib.decDigits n)).length := sz_add hs51 rfl rfl
          refine iQ 1 (iE 53 [(1, .p 1 0), (2, .d (Sv s51)), (3, .d (Sv (tx (Lib.decDigits n)))), (8, Ba false), (38, Ba false), (49, Ba true)] [(1, [Bv true, Hw n, Lw n, Iv e])] ?_)
          refine vc_ret (seq_r (iR (Sv s51) ?_))
          rw [hs51, textL, if_pos rfl, hB]; first | (rw [e37]; exact congrArg (fun s => DV.v (.string s)) (tx_append [45] _)) | (rw [e47]; exact congrArg (fun s => DV.v (.string s)) (tx_append [45] _)) | exact congrArg (fun s => DV.v (.string s)) (tx_append [45] _)
      · replace hc41 := bt hc41
        refine iT (vc_reg rfl (iQ 3 (iC 78 [Iv e] (some 45) (c_Itoa ⟨by omega, by omega⟩) ?_)))
        rintro _ rfl
        have hi := itoa_len e ⟨by omega, by omega⟩
        refine iB .add 9 (.string (⟨#[69]⟩)) (.string (tx (Lib.itoa e))) (some 46) ?_
        refine And.intro (sz_le (m := 1) (n := ((Lib.itoa e)).length) rfl rfl (by omega)) ?_
        intro s46 hs46
        have hl46 : (s46 : ByteArray).size = 1 + ((Lib.itoa e)).length := sz_add hs46 rfl rfl
        refine iB .add 9 (.string (tx (Lib.decDigits n))) (.string s46) (some 47) ?_
        refine And.intro (sz_le (m := ((Lib.decDigits n)).length) (n := (s46 : ByteArray).size) rfl rfl (by omega)) ?_
        intro s47 hs47
        have hl47 : (s47 : ByteArray).size = ((Lib.decDigits n)).length + (s46 : ByteArray).size := sz_add hs47 rfl rfl
        have e47 : s47 = tx (Lib.decDigits n ++ 69 :: Lib.itoa e) := by rw [hs47, hs46]; exact (congrArg (tx (Lib.decDigits n) ++ ·) (tx_append [69] (Lib.itoa e))).trans (tx_append _ _)
        have hB : bodyL n e = Lib.decDigits n ++ 69 :: Lib.itoa e := body_e hE (by omega)
        refine iQ 1 (iE 53 [(1, .p 1 0), (2, .d (Sv (⟨#[]⟩))), (3, .d (Sv s47)), (8, Ba false), (38, Ba true)] [(1, [Bv g, Hw n, Lw n, Iv e])] ?_)
        refine block_n (seq_n (vc_seq (vc_seqr rfl (iQ 2 (iE 53 [(1, .p 1 0), (2, .d (Sv (⟨#[]⟩))), (3, .d (Sv s47)), (8, Ba false), (38, Ba true), (49, Ba g)] [(1, [Bv g, Hw n, Lw n, Iv e])] ?_)))))
        cases g
        · skip
          refine iF (vc_skip (seq_n (vc_seqr rfl (iQ 2 (iE 53 [(1, .p 1 0), (2, .d (Sv s47)), (3, .d (Sv s47)), (8, Ba false), (38, Ba true), (49, Ba false)] [(1, [Bv false, Hw n, Lw n, Iv e])] ?_)))))
          refine vc_ret (iR (Sv s47) ?_)
          first | rw [e37, textL, if_neg (by simp), hB] | rw [e47, textL, if_neg (by simp), hB] | rw [textL, if_neg (by simp), hB]
        · skip
          refine iT (vc_seqr rfl (iQ 1 (iB .add 9 (.string (⟨#[45]⟩)) (.string s47) (some 51) ?_)))
          refine And.intro (sz_le (m := 1) (n := (s47 : ByteArray).size) rfl rfl (by omega)) ?_
          intro s51 hs51
          have hl51 : (s51 : ByteArray).size = 1 + (s47 : ByteArray).size := sz_add hs51 rfl rfl
          refine iQ 1 (iE 53 [(1, .p 1 0), (2, .d (Sv s51)), (3, .d (Sv s47)), (8, Ba false), (38, Ba true), (49, Ba true)] [(1, [Bv true, Hw n, Lw n, Iv e])] ?_)
          refine vc_ret (seq_r (iR (Sv s51) ?_))
          rw [hs51, textL, if_pos rfl, hB]; first | (rw [e37]; exact congrArg (fun s => DV.v (.string s)) (tx_append [45] _)) | (rw [e47]; exact congrArg (fun s => DV.v (.string s)) (tx_append [45] _)) | exact congrArg (fun s => DV.v (.string s)) (tx_append [45] _)
    · replace hc15 := bt hc15
      refine iT (vc_seq (vc_block (vc_loop 53 (fun (vcx : Nat) => match vcx with | k => [(1, .p 1 0), (2, .d (Sv (⟨#[]⟩))), (3, .d (Sv (tx (List.replicate k 48 ++ Lib.decDigits n)))), (8, Ba true)]) (fun (vcx : Nat) => match vcx with | k => [(1, [Bv g, Hw n, Lw n, Iv e])]) (fun (vcx : Nat) => match vcx with | k => k ≤ (-e).toNat + 1 - (Lib.decDigits n).length) (fun (vcx : Nat) => match vcx with | k => (-e).toNat + 1 - (Lib.decDigits n).length - k) 0 (by omega) (by kernel_rfl) (by kernel_rfl) ?_)))
      rintro k hinv
      simp only at hinv
      refine vc_seq (vc_seqr rfl (iQ 1 (iL .len [9] [.string (tx (List.replicate k 48 ++ Lib.decDigits n))] (some 18) ?_)))
      intro n18 hn18
      have h18 : n18 = k + (Lib.decDigits n).length := by rw [hn18]; simp
      refine iQ 2 (iU .neg (.int .i64 e) (some 21) ?_)
      intro z21 hz21
      try replace hz21 := hz21.i64 (by omega)
      refine iB .leq 3 (.int .i64 ((n18 : Nat))) (.int .i64 z21) (some 22) ?_
      intro c22 hc22
      refine iE 53 [(1, .p 1 0), (2, .d (Sv (⟨#[]⟩))), (3, .d (Sv (tx (List.replicate k 48 ++ Lib.decDigits n)))), (8, Ba true), (22, Ba c22)] [(1, [Bv g, Hw n, Lw n, Iv e])] ?_
      cases c22
      · replace hc22 := bf hc22
        obtain ⟨S, hS⟩ : ∃ S, S = List.replicate k 48 ++ Lib.decDigits n := ⟨_, rfl⟩
        have hSl : S.length = k + (Lib.decDigits n).length := by rw [hS]; simp
        have hB := body_pt (n := n) (e := e) (S := S) ⟨by omega, by omega⟩ (by rw [hS, show k = (-e).toNat + 1 - (Lib.decDigits n).length by omega])
        have hpos := Lib.nDigits_pos n
        rw [← Lib.decDigits_length] at hpos
        refine iF (vc_exit (seq_x (loop_x (block_x rfl (seq_n (vc_seqr rfl (iQ 1 (iL .len [9] [.string (tx (List.replicate k 48 ++ Lib.decDigits n))] (some 26) ?_))))))))
        intro n26 hn26
        have h26 : n26 = k + (Lib.decDigits n).length := by rw [hn26]; simp
        refine iQ 2 (iB .add 3 (.int .i64 ((n26 : Nat))) (.int .i64 e) (some 29) ?_)
        intro z29 hz29
        try replace hz29 := hz29.i64 (by omega)
        refine iQ 1 (iE 53 [(1, .p 1 0), (2, .d (Sv (⟨#[]⟩))), (3, .d (Sv (tx (List.replicate k 48 ++ Lib.decDigits n)))), (4, Ia z29), (8, Ba true), (22, Ba false)] [(1, [Bv g, Hw n, Lw n, Iv e])] ?_)
        refine vc_reg rfl (iQ 2 (iY 9 (tx (List.replicate k 48 ++ Lib.decDigits n)) (0) (z29) (some 32) ?_))
        refine And.intro (by rw [← hS, tx_size]; omega) ?_
        intro s32 hs32
        have hl32 := sz_ext hs32 (by rw [← hS, tx_size]; omega)
        have e32 : s32 = tx (S.take (S.length - (-e).toNat)) := take_tx (by rw [hs32, ← hS, show z29.toNat = S.length - (-e).toNat by omega]; rfl)
        refine iB .add 9 (.string s32) (.string (⟨#[46]⟩)) (some 33) ?_
        refine And.intro (sz_le (m := (s32 : ByteArray).size) (n := 1) rfl rfl (by omega)) ?_
        intro s33 hs33
        have hl33 : (s33 : ByteArray).size = (s32 : ByteArray).size + 1 := sz_add hs33 rfl rfl
        have e33 : s33 = tx (S.take (S.length - (-e).toNat) ++ [46]) := by rw [hs33, e32]; exact tx_append _ [46]
        refine iQ 2 (iY 9 (tx (List.replicate k 48 ++ Lib.decDigits n)) (z29) (((tx (List.replicate k 48 ++ Lib.decDigits n) : ByteArray).size : Int)) (some 36) ?_)
        refine And.intro (by rw [← hS, tx_size]; omega) ?_
        intro s36 hs36
        have hl36 := sz_ext hs36 (by rw [← hS, tx_size]; omega)
        have e36 : s36 = tx (S.drop (S.length - (-e).toNat)) := drop_tx (by rw [hs36, ← hS, show z29.toNat = S.length - (-e).toNat by omega, Int.toNat_natCast])
        refine iB .add 9 (.string s33) (.string s36) (some 37) ?_
        refine And.intro (sz_le (m := (s33 : ByteArray).size) (n := (s36 : ByteArray).size) rfl rfl (by omega)) ?_
        intro s37 hs37
        have hl37 : (s37 : ByteArray).size = (s33 : ByteArray).size + (s36 : ByteArray).size := sz_add hs37 rfl rfl
        have e37 : s37 = tx (S.take (S.length - (-e).toNat) ++ 46 :: S.drop (S.length - (-e).toNat)) := by rw [hs37, e33, e36, tx_append]; simp
        refine iQ 1 (iE 53 [(1, .p 1 0), (2, .d (Sv (⟨#[]⟩))), (3, .d (Sv s37)), (8, Ba true), (22, Ba false)] [(1, [Bv g, Hw n, Lw n, Iv e])] ?_)
        refine block_n (seq_n (vc_seq (vc_seqr rfl (iQ 2 (iE 53 [(1, .p 1 0), (2, .d (Sv (⟨#[]⟩))), (3, .d (Sv s37)), (8, Ba true), (22, Ba false), (49, Ba g)] [(1, [Bv g, Hw n, Lw n, Iv e])] ?_)))))
        cases g
        · skip
          refine iF (vc_skip (seq_n (vc_seqr rfl (iQ 2 (iE 53 [(1, .p 1 0), (2, .d (Sv s37)), (3, .d (Sv s37)), (8, Ba true), (22, Ba false), (49, Ba false)] [(1, [Bv false, Hw n, Lw n, Iv e])] ?_)))))
          refine vc_ret (iR (Sv s37) ?_)
          first | rw [e37, textL, if_neg (by simp), hB] | rw [e47, textL, if_neg (by simp), hB] | rw [textL, if_neg (by simp), hB]
        · skip
          refine iT (vc_seqr rfl (iQ 1 (iB .add 9 (.string (⟨#[45]⟩)) (.string s37) (some 51) ?_)))
          refine And.intro (sz_le (m := 1) (n := (s37 : ByteArray).size) rfl rfl (by omega)) ?_
          intro s51 hs51
          have hl51 : (s51 : ByteArray).size = 1 + (s37 : ByteArray).size := sz_add hs51 rfl rfl
          refine iQ 1 (iE 53 [(1, .p 1 0), (2, .d (Sv s51)), (3, .d (Sv s37)), (8, Ba true), (22, Ba false), (49, Ba true)] [(1, [Bv true, Hw n, Lw n, Iv e])] ?_)
          refine vc_ret (seq_r (iR (Sv s51) ?_))
          rw [hs51, textL, if_pos rfl, hB]; first | (rw [e37]; exact congrArg (fun s => DV.v (.string s)) (tx_append [45] _)) | (rw [e47]; exact congrArg (fun s => DV.v (.string s)) (tx_append [45] _)) | exact congrArg (fun s => DV.v (.string s)) (tx_append [45] _)
      · replace hc22 := bt hc22
        refine iT (vc_skip (seq_n (vc_block (vc_reg rfl (iQ 1 (iB .add 9 (.string (⟨#[48]⟩)) (.string (tx (List.replicate k 48 ++ Lib.decDigits n))) (some 24) ?_))))))
        refine And.intro (sz_le (m := 1) (n := ((List.replicate k 48 ++ Lib.decDigits n)).length) rfl rfl (by simp; omega)) ?_
        intro s24 hs24
        have hl24 : (s24 : ByteArray).size = 1 + ((List.replicate k 48 ++ Lib.decDigits n)).length := sz_add hs24 rfl rfl
        refine iQ 1 (iE 53 [(1, .p 1 0), (2, .d (Sv (⟨#[]⟩))), (3, .d (Sv s24)), (8, Ba true), (22, Ba true)] [(1, [Bv g, Hw n, Lw n, Iv e])] ?_)
        refine block_n ?_
        obtain rfl : s24 = tx (List.replicate (k + 1) 48 ++ Lib.decDigits n) := by rw [hs24]; exact tx_append [48] _
        refine loop_n (k + 1) (by omega) (by show (-e).toNat + 1 - (Lib.decDigits n).length - (k + 1) < (-e).toNat + 1 - (Lib.decDigits n).length - k; omega) (by kernel_rfl) (by kernel_rfl)
end Go.Proofs.YtjpaedjhihiakaaDoor
