/-
  lexical: durations read.
-/
import Derived.Test.YtjpaedjhihiakaaDoorLexP
import Derived.Test.YtjpaedjhihiakaaDoorRed
namespace Go.Proofs.YtjpaedjhihiakaaDoor
open Go.RowKit
set_option linter.unusedVariables false
set_option linter.unusedSimpArgs false
set_option maxRecDepth 100000

theorem bAt_tx (l : L8) (k : Nat) : bAt (tx l) k = ((l[k]?).getD 0).toNat := by simp [bAt, tx]
theorem isD_tx {l : L8} {k : Nat} {c : UInt8} (h : l[k]? = some c) : isD (tx l) k ↔ isDg c = true := by
  unfold isD
  rw [bAt_tx, h, isDg_iff]
  rfl
theorem strAt_tx {l : L8} {k : Nat} {c : UInt8} (h : l[k]? = some c) : strAt (tx l) k = (c.toNat : Int) := by rw [tx_at, h]; rfl
theorem one_tx {l : L8} (h : l ≠ []) : (tx l).extract 0 1 = tx [45] ↔ l.head? = some 45 := by
  rw [tx_extract, tx_iff]
  cases l with
  | nil => exact absurd rfl h
  | cons c r => simp
theorem bempty (l : L8) : tx l = ⟨#[]⟩ ↔ l = [] := by rw [← tx_nil, tx_iff]

theorem c_hasP {l : L8} : HasC Tryd.prog 122 [.v (.string (tx l)), .v (.string (⟨#[45]⟩))] (fun r => ∃ b, r = .v (.bool b) ∧ (b = true ↔ l.head? = some 45)) := by
  refine HasC.of [] (fn := Tryd.f122) tyOk mixed (fun args w => Tryd.call122 args w) Tryd.func122 rfl (by kernel_rfl) (Nat.le_of_ble_eq_true rfl) (⟨_, decide (l.head? = some 45), rfl, by simp⟩) ?_
  refine vc_seqr rfl (iQ 1 (iE 18 [(0, .d (Sv (tx l))), (1, .d (Sv (⟨#[45]⟩))), (4, Ba false)] [] ?_))
  refine vc_seqr rfl (iQ 1 (iL .len [9] [.string (tx l)] (some 6) ?_))
  intro n6 hn6
  have e6 : n6 = l.length := by rw [hn6]; exact tx_size l
  refine iQ 1 (iL .len [9] [.string (⟨#[45]⟩)] (some 8) ?_)
  intro n8 hn8
  have e8 : n8 = 1 := hn8
  refine iB .geq 3 (.int .i64 ((n6 : Nat))) (.int .i64 ((n8 : Nat))) (some 9) ?_
  intro c9 hc9
  refine iQ 1 ?_
  cases c9
  · replace hc9 := bf hc9
    refine iQ 8 (iE 18 [(4, Ba false)] [] ?_)
    have h0 : l = [] := List.eq_nil_of_length_eq_zero (by omega)
    refine vc_ret (iR (Bv false) ?_)
    subst h0; exact ⟨_, rfl, by simp⟩
  · replace hc9 := bt hc9
    refine iQ 2 (iL .len [9] [.string (⟨#[45]⟩)] (some 13) ?_)
    intro n13 hn13
    have e13 : n13 = 1 := hn13
    refine iY 9 (tx l) (0) ((n13 : Nat)) (some 14) ?_
    refine And.intro (by rw [tx_size]; omega) ?_
    intro s14 hs14
    have hl14 := sz_ext hs14 (by rw [tx_size]; omega)
    refine iQ 1 (iB .eql 9 (.string s14) (.string (⟨#[45]⟩)) (some 16) ?_)
    intro c16 hc16
    refine iQ 2 (iE 18 [(4, Ba c16)] [] ?_)
    refine vc_ret (iR (Bv c16) ?_)
    exact ⟨_, rfl, by rw [hc16, hs14, e13]; exact one_tx (fun e => by rw [e] at e6; simp at e6; omega)⟩
theorem c_trimL {l : L8} : HasC Tryd.prog 92 [.v (.string (tx l)), .v (.string (⟨#[45]⟩))] (fun r => r = .v (.string (tx (unsS l).1))) := by
  refine HasC.of [] (fn := Tryd.f92) tyOk mixed (fun args w => Tryd.call92 args w) Tryd.func92 rfl (by kernel_rfl) (Nat.le_of_ble_eq_true rfl) (⟨_, rfl⟩) ?_
  refine vc_seqr rfl (iQ 1 (iE 13 [(0, .d (Sv (tx l))), (1, .d (Sv (⟨#[45]⟩))), (4, .d (Sv (⟨#[]⟩)))] [] ?_))
  refine vc_seq (vc_seqr rfl (iQ 2 (iC 122 [Sv (tx l), Sv (⟨#[45]⟩)] (some 7) (c_hasP) ?_)))
  rintro _ ⟨b, rfl, hb⟩
  refine iE 13 [(0, .d (Sv (tx l))), (1, .d (Sv (⟨#[45]⟩))), (4, .d (Sv (⟨#[]⟩))), (7, Ba b)] [] ?_
  cases b
  · replace hb := bf hb
    refine iF (vc_skip (seq_n (vc_seqr rfl (iQ 2 (iE 13 [(0, .d (Sv (tx l))), (1, .d (Sv (⟨#[45]⟩))), (4, .d (Sv (tx l))), (7, Ba false)] [] ?_)))))
    refine vc_ret (iR (Sv (tx l)) ?_)
    rw [unsS, if_neg hb]
  · replace hb := bt hb
    refine iT (vc_seqr rfl (iQ 2 (iL .len [9] [.string (⟨#[45]⟩)] (some 10) ?_)))
    intro n10 hn10
    have e10 : n10 = 1 := hn10
    have hl : 1 ≤ l.length := by cases l with | nil => cases hb | cons c r => simp
    refine iY 9 (tx l) ((n10 : Nat)) (((tx l : ByteArray).size : Int)) (some 11) ?_
    refine And.intro (by rw [tx_size]; omega) ?_
    intro s11 hs11
    have hl11 := sz_ext hs11 (by rw [tx_size]; omega)
    refine iQ 1 (iE 13 [(0, .d (Sv (tx l))), (1, .d (Sv (⟨#[45]⟩))), (4, .d (Sv s11)), (7, Ba true)] [] ?_)
    refine vc_ret (seq_r (iR (Sv s11) ?_))
    rw [hs11, e10, tx_extract, unsS, if_pos hb]; cases l with | nil => rfl | cons c r => simp [List.take_of_length_le]
theorem c_trim {l : L8} : HasC Tryd.prog 48 [.v (.string (tx l)), .v (.string (⟨#[45]⟩))] (fun r => r = .v (.string (tx (unsS l).1))) := by
  refine HasC.of [] (fn := Tryd.f48) tyOk mixed (fun args w => Tryd.call48 args w) Tryd.func48 rfl (by kernel_rfl) (Nat.le_of_ble_eq_true rfl) (⟨_, rfl⟩) ?_
  refine vc_seqr rfl (iQ 1 (iE 8 [(0, .d (Sv (tx l))), (1, .d (Sv (⟨#[45]⟩))), (4, .d (Sv (⟨#[]⟩)))] [] ?_))
  refine vc_seqr rfl (iQ 2 (iC 92 [Sv (tx l), Sv (⟨#[45]⟩)] (some 7) (c_trimL) ?_))
  rintro _ rfl
  refine iQ 1 (iE 8 [(4, .d (Sv (tx (unsS l).1)))] [] ?_)
  refine vc_ret (iR (Sv (tx (unsS l).1)) ?_)
  rfl

def NumP (lo hi : Nat) (l : L8) (r : DV) : Prop := ∃ (n : Nat) (b : Bool), r = .tup [.v (.int .i64 (n : Int)), .v (.bool b)] ∧ (b = true ∧ numS lo hi l = some n ∨ b = false ∧ numS lo hi l = none ∧ n = 0)
theorem NumP_no {lo hi : Nat} {l : L8} (h : ¬ (lo ≤ l.length ∧ l.length ≤ hi ∧ l.all isDg = true)) : NumP lo hi l (.tup [.v (.int .i64 0), .v (.bool false)]) := ⟨0, false, rfl, .inr ⟨rfl, by rw [numS, if_neg h], rfl⟩⟩
theorem NumP_yes {lo hi n : Nat} {l : L8} (h : lo ≤ l.length ∧ l.length ≤ hi ∧ l.all isDg = true) (hn : n = nvL l) : NumP lo hi l (.tup [.v (.int .i64 (n : Int)), .v (.bool true)]) := ⟨n, true, rfl, .inl ⟨rfl, by rw [numS, if_pos h, hn]⟩⟩
theorem NumP_ex (lo hi : Nat) (l : L8) : ∃ r, NumP lo hi l r := by
  by_cases h : lo ≤ l.length ∧ l.length ≤ hi ∧ l.all isDg = true
  · exact ⟨_, NumP_yes h rfl⟩
  · exact ⟨_, NumP_no h⟩
theorem all_not {l : L8} {k : Nat} {c : UInt8} (h : l[k]? = some c) (hc : isDg c = false) : ¬ l.all isDg = true := fun ha => by
  have := List.all_eq_true.1 ha c (List.mem_of_getElem? h)
  rw [hc] at this
  cases this
theorem take_snoc_all {l : L8} {k : Nat} {c : UInt8} (h : l[k]? = some c) (ha : (l.take k).all isDg = true) (hc : isDg c = true) : (l.take (k + 1)).all isDg = true := by
  obtain ⟨hk, e⟩ := List.getElem?_eq_some_iff.1 h
  rw [List.take_succ_eq_append_getElem hk, e, List.all_append, ha]
  simp [hc]

theorem c_number {l : L8} {lo hi : Nat} (hh : hi ≤ 15) : HasC Tryd.prog 65 [.v (.string (tx l)), .v (.int .i64 ((lo : Int))), .v (.int .i64 ((hi : Int)))] (NumP lo hi l) := by
  refine HasC.of [] (fn := Tryd.f65) tyOk mixed (fun args w => Tryd.call65 args w) Tryd.func65 rfl (by kernel_rfl) (Nat.le_of_ble_eq_true rfl) (NumP_ex lo hi l) ?_
  refine vc_seqr rfl (iQ 2 (iE 39 [(0, .d (Sv (tx l))), (1, Ia ((lo : Int))), (2, Ia ((hi : Int))), (6, Ia 0), (7, Ba false)] [] ?_))
  refine vc_seq (vc_seqr rfl (iQ 1 (iL .len [9] [.string (tx l)] (some 12) ?_)))
  intro n12 hn12
  have e12 : n12 = l.length := by rw [hn12]; exact tx_size l
  refine iQ 1 (iB .lss 3 (.int .i64 ((n12 : Nat))) (.int .i64 ((lo : Int))) (some 14) ?_)
  intro c14 hc14
  refine iQ 1 ?_
  cases c14
  · replace hc14 := bf hc14
    refine iQ 1 (iL .len [9] [.string (tx l)] (some 17) ?_)
    intro n17 hn17
    have e17 : n17 = l.length := by rw [hn17]; exact tx_size l
    refine iQ 1 (iB .gtr 3 (.int .i64 ((n17 : Nat))) (.int .i64 ((hi : Int))) (some 19) ?_)
    intro c19 hc19
    refine iQ 1 (iE 39 [(0, .d (Sv (tx l))), (6, Ia 0), (7, Ba false), (20, Ba c19)] [] ?_)
    cases c19
    · replace hc19 := bf hc19
      refine iF (vc_skip (seq_n (vc_seqr rfl (iQ 1 (iE 39 [(0, .d (Sv (tx l))), (6, Ia 0), (7, Ba false), (8, Ia 0), (20, Ba false)] [] ?_)))))
      refine vc_seq (vc_seqr rfl (iQ 1 (iG (tx l) 22 ?_)))
      refine iE 39 [(0, .d (Sv (tx l))), (6, Ia 0), (7, Ba false), (8, Ia 0), (20, Ba false), (22, .p 22 0)] [(22, [.tup [Sv (tx l), Iv 0]])] ?_
      refine vc_block (vc_loop 39 (fun (vcx : Nat × Int) => match vcx with | (m, p) => [(0, .d (Sv (tx l))), (6, Ia 0), (7, Ba false), (8, Ia ((m : Int))), (20, Ba false), (22, .p 22 0)]) (fun (vcx : Nat × Int) => match vcx with | (m, p) => [(22, [.tup [Sv (tx l), Iv p]])]) (fun (vcx : Nat × Int) => match vcx with | (m, p) => 0 ≤ p ∧ p ≤ l.length ∧ m = nvL (l.take p.toNat) ∧ (l.take p.toNat).all isDg = true) (fun (vcx : Nat × Int) => match vcx with | (m, p) => l.length - p.toNat) ((0, 0)) (⟨by omega, by omega, rfl, rfl⟩) (by kernel_rfl) (by kernel_rfl) ?_)
      rintro ⟨m, p⟩ hinv
      simp only at hinv
      obtain ⟨h1, h2, h3, h4⟩ := hinv
      refine vc_seqr rfl ?_
      refine iN 22 (tx l) (p) 23 (by omega) ?_ ?_
      · intro hp23 c23 q23 w23 hn23 hq23
        refine iQ 1 (iE 39 [(0, .d (Sv (tx l))), (6, Ia 0), (7, Ba false), (8, Ia ((m : Int))), (20, Ba false), (22, .p 22 0), (23, .d (.tup [Bv true, Iv p, .v (.int .i32 c23)])), (24, Ba true)] [(22, [.tup [Sv (tx l), Iv q23]])] ?_)
        have hpl : p.toNat < l.length := by have := tx_size l; omega
        have hg := List.getElem?_eq_getElem hpl
        have hcd : 48 ≤ c23 ∧ c23 ≤ 57 ↔ isD (tx l) p.toNat := rd_digit hn23 h1 hp23
        rw [isD_tx hg] at hcd
        refine vc_seq (iT (vc_skip (seq_n (vc_block (vc_seqr rfl (iQ 2 (iE 39 [(0, .d (Sv (tx l))), (6, Ia 0), (7, Ba false), (8, Ia ((m : Int))), (10, .d (.v (.int .i32 c23))), (20, Ba false), (22, .p 22 0), (23, .d (.tup [Bv true, Iv p, .v (.int .i32 c23)])), (24, Ba true)] [(22, [.tup [Sv (tx l), Iv q23]])] ?_)))))))
        refine vc_seq (vc_seqr rfl (iQ 1 (iB .lss 21 (.int .i32 c23) (.int .i32 48) (some 27) ?_)))
        intro c27 hc27
        refine iQ 1 ?_
        cases c27
        · replace hc27 := bf hc27
          refine iQ 1 (iB .gtr 21 (.int .i32 c23) (.int .i32 57) (some 30) ?_)
          intro c30 hc30
          refine iQ 1 (iE 39 [(0, .d (Sv (tx l))), (6, Ia 0), (7, Ba false), (8, Ia ((m : Int))), (10, .d (.v (.int .i32 c23))), (20, Ba false), (22, .p 22 0), (23, .d (.tup [Bv true, Iv p, .v (.int .i32 c23)])), (24, Ba true), (31, Ba c30)] [(22, [.tup [Sv (tx l), Iv q23]])] ?_)
          cases c30
          · replace hc30 := bf hc30
            have hd := hcd.1 ⟨by omega, by omega⟩
            have hd2 := isDg_iff.1 hd
            have hba := bAt_tx l p.toNat
            rw [hg] at hba
            simp only [Option.getD_some] at hba
            obtain ⟨hc, hw⟩ := hn23.low h1 hp23 (by omega)
            have hm := nvL_lt (k := 15) h4 (by rw [List.length_take]; omega)
            have hm2 : m < 10 ^ 15 := by omega
            refine iF (vc_skip (seq_n (vc_reg rfl (iQ 1 (iB .mul 3 (.int .i64 10) (.int .i64 ((m : Int))) (some 33) ?_)))))
            intro z33 hz33
            try replace hz33 := hz33.i64 (by omega)
            refine iQ 1 (iB .sub 21 (.int .i32 c23) (.int .i32 48) (some 35) ?_)
            intro z35 hz35
            try replace hz35 := hz35.i32 (by omega)
            refine iV 21 3 (.int .i32 z35) (some 36) ?_
            intro z36 hz36
            try replace hz36 := hz36.i64 (by omega)
            refine iB .add 3 (.int .i64 z33) (.int .i64 z36) (some 37) ?_
            intro z37 hz37
            try replace hz37 := hz37.i64 (by omega)
            refine iQ 1 (iE 39 [(0, .d (Sv (tx l))), (6, Ia 0), (7, Ba false), (8, Ia z37), (10, .d (.v (.int .i32 c23))), (20, Ba false), (22, .p 22 0), (23, .d (.tup [Bv true, Iv p, .v (.int .i32 c23)])), (24, Ba true), (31, Ba false)] [(22, [.tup [Sv (tx l), Iv q23]])] ?_)
            refine block_n ?_
            obtain rfl : z37 = ((m * 10 + ((l[p.toNat]'hpl).toNat - 48) : Nat) : Int) := by omega
            refine loop_n (m * 10 + ((l[p.toNat]'hpl).toNat - 48), q23) (⟨by omega, by omega, by rw [hq23, hw, show (p + ((1 : Nat) : Int)).toNat = p.toNat + 1 by omega, nvL_take hg, h3], by rw [hq23, hw, show (p + ((1 : Nat) : Int)).toNat = p.toNat + 1 by omega]; exact take_snoc_all hg h4 hd⟩) (by show l.length - q23.toNat < l.length - p.toNat; omega) (by kernel_rfl) (by kernel_rfl)
          · replace hc30 := bt hc30
            refine iT (vc_seqr rfl (iQ 2 (iE 39 [(0, .d (Sv (tx l))), (6, Ia 0), (7, Ba false), (8, Ia ((m : Int))), (10, .d (.v (.int .i32 c23))), (20, Ba false), (22, .p 22 0), (23, .d (.tup [Bv true, Iv p, .v (.int .i32 c23)])), (24, Ba true), (31, Ba true)] [(22, [.tup [Sv (tx l), Iv q23]])] ?_)))
            refine vc_ret (seq_r (block_r (loop_r (block_r (seq_r (iS (Iv 0) (Bv false) [] ?_))))))
            exact NumP_no (fun h => all_not hg (b_false fun e => by have := hcd.2 e; omega) h.2.2)
        · replace hc27 := bt hc27
          refine iQ 3 (iE 39 [(0, .d (Sv (tx l))), (6, Ia 0), (7, Ba false), (8, Ia ((m : Int))), (10, .d (.v (.int .i32 c23))), (20, Ba false), (22, .p 22 0), (23, .d (.tup [Bv true, Iv p, .v (.int .i32 c23)])), (24, Ba true), (31, Ba true)] [(22, [.tup [Sv (tx l), Iv q23]])] ?_)
          refine iT (vc_seqr rfl (iQ 2 (iE 39 [(0, .d (Sv (tx l))), (6, Ia 0), (7, Ba false), (8, Ia ((m : Int))), (10, .d (.v (.int .i32 c23))), (20, Ba false), (22, .p 22 0), (23, .d (.tup [Bv true, Iv p, .v (.int .i32 c23)])), (24, Ba true), (31, Ba true)] [(22, [.tup [Sv (tx l), Iv q23]])] ?_)))
          refine vc_ret (seq_r (block_r (loop_r (block_r (seq_r (iS (Iv 0) (Bv false) [] ?_))))))
          exact NumP_no (fun h => all_not hg (b_false fun e => by have := hcd.2 e; omega) h.2.2)
      · intro hp23 
        refine iQ 1 (iE 39 [(0, .d (Sv (tx l))), (6, Ia 0), (7, Ba false), (8, Ia ((m : Int))), (20, Ba false), (22, .p 22 0), (23, .d (.tup [Bv false])), (24, Ba false)] [(22, [.tup [Sv (tx l), Iv p]])] ?_)
        have hp : p.toNat = l.length := by have := tx_size l; omega
        rw [hp, List.take_of_length_le (Nat.le_refl _)] at h3 h4
        refine vc_seq (iF (vc_exit (seq_x (loop_x (block_x rfl (seq_n (vc_seqr rfl (iQ 3 (iE 39 [(0, .d (Sv (tx l))), (6, Ia ((m : Int))), (7, Ba true), (8, Ia ((m : Int))), (20, Ba false), (22, .p 22 0), (23, .d (.tup [Bv false])), (24, Ba false)] [(22, [.tup [Sv (tx l), Iv p]])] ?_)))))))))
        refine vc_ret (iS (Iv ((m : Int))) (Bv true) [] ?_)
        exact NumP_yes ⟨by omega, by omega, h4⟩ h3
    · replace hc19 := bt hc19
      refine iT (vc_seqr rfl (iQ 2 (iE 39 [(0, .d (Sv (tx l))), (6, Ia 0), (7, Ba false), (20, Ba true)] [] ?_)))
      refine vc_ret (seq_r (iS (Iv 0) (Bv false) [] ?_))
      exact NumP_no (by omega)
  · replace hc14 := bt hc14
    refine iQ 5 (iE 39 [(0, .d (Sv (tx l))), (6, Ia 0), (7, Ba false), (20, Ba true)] [] ?_)
    refine iT (vc_seqr rfl (iQ 2 (iE 39 [(0, .d (Sv (tx l))), (6, Ia 0), (7, Ba false), (20, Ba true)] [] ?_)))
    refine vc_ret (seq_r (iS (Iv 0) (Bv false) [] ?_))
    exact NumP_no (by omega)
theorem c_numberE {l : L8} {s : ByteArray} {lo hi : Nat} (hs : s = tx l) (hh : hi ≤ 15) : HasC Tryd.prog 65 [.v (.string s), .v (.int .i64 (lo : Int)), .v (.int .i64 (hi : Int))] (NumP lo hi l) := by subst hs; exact c_number hh
theorem isDg_more {l : L8} {k : Nat} {c : UInt8} (h : ∀ i x, i < k → l[i]? = some x → isDg x = true) (hg : l[k]? = some c) (hc : isDg c = true) : ∀ i x, i < k + 1 → l[i]? = some x → isDg x = true := fun i x hi hx => by
  by_cases e : i = k
  · subst e
    rw [hg] at hx
    cases hx
    exact hc
  · exact h i x (by omega) hx
def TkP (most : Nat) (l : L8) (c : UInt8) (t : Nat) (r : DV) : Prop := ∃ (n : Nat) (l' : L8) (b : Bool), r = .tup [.v (.int .i64 (n : Int)), .v (.string (tx l')), .v (.bool b)] ∧ (b = true ∧ takesS most l c t = some (n, l') ∨ b = false ∧ takesS most l c t = none ∧ n = 0 ∧ l' = l)
theorem TkP_no {most : Nat} {l : L8} {c : UInt8} {t : Nat} (h : ¬ (l[ndg l]? = some c ∧ 1 ≤ ndg l ∧ ndg l ≤ most)) : TkP most l c t (.tup [.v (.int .i64 0), .v (.string (tx l)), .v (.bool false)]) := ⟨0, l, false, rfl, .inr ⟨rfl, by rw [takesS, if_neg h], rfl, rfl⟩⟩
theorem TkP_yes {most n t : Nat} {l : L8} {c : UInt8} {s : ByteArray} (h : l[ndg l]? = some c ∧ 1 ≤ ndg l ∧ ndg l ≤ most) (hn : n = nvL (l.take (ndg l)) * t) (hs : s = tx (l.drop (ndg l + 1))) : TkP most l c t (.tup [.v (.int .i64 (n : Int)), .v (.string s), .v (.bool true)]) :=
  ⟨n, l.drop (ndg l + 1), true, by rw [hs], .inl ⟨rfl, by rw [takesS, if_pos h, hn]⟩⟩
theorem TkP_ex (most : Nat) (l : L8) (c : UInt8) (t : Nat) : ∃ r, TkP most l c t r := by
  by_cases h : l[ndg l]? = some c ∧ 1 ≤ ndg l ∧ ndg l ≤ most
  · exact ⟨_, TkP_yes h rfl rfl⟩
  · exact ⟨_, TkP_no h⟩
theorem sl1 {l : L8} {k : Nat} (h : k < l.length) : (tx l).extract k (k + 1) = tx [l[k]] := by
  rw [tx_extract, show k + 1 - k = 1 by omega, List.drop_eq_getElem_cons h]
  rfl
theorem sl1_iff {l : L8} {k : Nat} {c : UInt8} {s : ByteArray} (h : k < l.length) (hs : s = (tx l).extract k (k + 1)) : s = tx [c] ↔ l[k]? = some c := by
  rw [hs, sl1 h, tx_iff, List.getElem?_eq_getElem h]
  simp
theorem numS_take {l : L8} {k lo hi n : Nat} (h : numS lo hi (l.take k) = some n) (hk : k ≤ l.length) : lo ≤ k ∧ k ≤ hi ∧ n = nvL (l.take k) := by
  unfold numS at h
  split at h
  · rename_i hc
    rw [List.length_take] at hc
    simp at h
    exact ⟨by omega, by omega, h.symm⟩
  · cases h
theorem numS_none {l : L8} {k lo hi : Nat} (h : numS lo hi (l.take k) = none) (hk : k ≤ ndg l) : ¬ (lo ≤ k ∧ k ≤ hi) := fun hc => by
  have := ndg_le l
  unfold numS at h
  rw [if_pos ⟨by rw [List.length_take]; omega, by rw [List.length_take]; omega, take_all hk⟩] at h
  cases h

set_option maxHeartbeats 800000 in
theorem c_takes {l : L8} {c : UInt8} {t most : Nat} (hm : most ≤ 15) (ht : 10 ^ most * t ≤ 100000000000000000) (hL : l.length ≤ 9223372036854775807) : HasC Tryd.prog 93 [.v (.string (tx l)), .v (.string (tx [c])), .v (.int .i64 ((t : Int))), .v (.int .i64 ((most : Int)))] (TkP most l c t) := by
  refine HasC.of [] (fn := Tryd.f93) tyOk mixed (fun args w => Tryd.call93 args w) Tryd.func93 rfl (by kernel_rfl) (Nat.le_of_ble_eq_true rfl) (TkP_ex most l c t) ?_
  refine vc_seqr rfl (iQ 3 (iE 64 [(0, .d (Sv (tx l))), (1, .d (Sv (tx [c]))), (2, Ia ((t : Int))), (3, Ia ((most : Int))), (8, Ia 0), (9, .d (Sv (⟨#[]⟩))), (10, Ba false)] [] ?_))
  refine vc_seqr rfl (iQ 1 (iE 64 [(0, .d (Sv (tx l))), (1, .d (Sv (tx [c]))), (2, Ia ((t : Int))), (3, Ia ((most : Int))), (8, Ia 0), (9, .d (Sv (⟨#[]⟩))), (10, Ba false), (11, Ia 0)] [] ?_))
  refine vc_seq (vc_block (vc_loop 64 (fun (vcx : Nat) => match vcx with | k => [(0, .d (Sv (tx l))), (1, .d (Sv (tx [c]))), (2, Ia ((t : Int))), (3, Ia ((most : Int))), (8, Ia 0), (9, .d (Sv (⟨#[]⟩))), (10, Ba false), (11, Ia ((k : Int)))]) (fun (vcx : Nat) => match vcx with | k => []) (fun (vcx : Nat) => match vcx with | k => k ≤ l.length ∧ ∀ i x, i < k → l[i]? = some x → isDg x = true) (fun (vcx : Nat) => match vcx with | k => l.length - k) 0 (⟨by omega, fun i x h => by omega⟩) (by kernel_rfl) (by kernel_rfl) ?_))
  rintro k hinv
  simp only at hinv
  obtain ⟨h1, h2⟩ := hinv
  refine vc_seq (vc_seqr rfl (iQ 2 (iL .len [9] [.string (tx l)] (some 16) ?_)))
  intro n16 hn16
  have e16 : n16 = l.length := by rw [hn16]; exact tx_size l
  refine iB .lss 3 (.int .i64 ((k : Int))) (.int .i64 ((n16 : Nat))) (some 17) ?_
  intro c17 hc17
  refine iQ 1 ?_
  cases c17
  · replace hc17 := bf hc17
    refine iQ 11 (iE 64 [(0, .d (Sv (tx l))), (1, .d (Sv (tx [c]))), (2, Ia ((t : Int))), (3, Ia ((most : Int))), (8, Ia 0), (9, .d (Sv (⟨#[]⟩))), (10, Ba false), (11, Ia ((k : Int))), (29, Ba false)] [] ?_)
    have hk : ndg l = k := ndg_unique h1 h2 (fun x hx => by have := (List.getElem?_eq_some_iff.1 hx).1; omega)
    refine iF (vc_exit (seq_x (loop_x (block_x rfl (seq_n (vc_seq (vc_seqr rfl (iQ 2 (iL .len [9] [.string (tx l)] (some 34) ?_)))))))))
    intro n34 hn34
    refine iB .eql 3 (.int .i64 ((k : Int))) (.int .i64 ((n34 : Nat))) (some 35) ?_
    intro c35 hc35
    refine iQ 1 ?_
    cases c35
    · replace hc35 := bf hc35
      refine iQ 3 (iB .add 3 (.int .i64 ((k : Int))) (.int .i64 1) (some 40) ?_)
      intro z40 hz40
      try replace hz40 := hz40.i64 (by omega)
      have hkl : k < l.length := by omega
      refine iY 9 (tx l) ((k : Int)) (z40) (some 41) ?_
      refine And.intro (by rw [tx_size]; omega) ?_
      intro s41 hs41
      have hl41 := sz_ext hs41 (by rw [tx_size]; omega)
      have e41 := sl1_iff (s := s41) (c := c) hkl (by rw [hs41, Int.toNat_natCast, show z40.toNat = k + 1 by omega])
      refine iQ 1 (iB .neq 9 (.string s41) (.string (tx [c])) (some 43) ?_)
      intro c43 hc43
      refine iQ 1 (iE 64 [(0, .d (Sv (tx l))), (2, Ia ((t : Int))), (3, Ia ((most : Int))), (8, Ia 0), (9, .d (Sv (⟨#[]⟩))), (10, Ba false), (11, Ia ((k : Int))), (29, Ba false), (44, Ba c43)] [] ?_)
      cases c43
      · replace hc43 := bf hc43
        have hc : l[ndg l]? = some c := by rw [hk]; exact e41.1 (by simpa using hc43)
        refine iF (vc_skip (seq_n (vc_seqr rfl (iQ 2 (iY 9 (tx l) (0) ((k : Int)) (some 49) ?_)))))
        refine And.intro (by rw [tx_size]; omega) ?_
        intro s49 hs49
        have hl49 := sz_ext hs49 (by rw [tx_size]; omega)
        have e49 : s49 = tx (l.take k) := by rw [hs49, tx_extract]; simp
        refine iQ 1 (iC 65 [Sv s49, Iv 1, Iv ((most : Int))] (some 51) (c_numberE (lo := 1) e49 hm) ?_)
        rintro _ ⟨n, b, rfl, hb⟩
        refine iQ 5 (iE 64 [(0, .d (Sv (tx l))), (2, Ia ((t : Int))), (8, Ia 0), (9, .d (Sv (⟨#[]⟩))), (10, Ba false), (11, Ia ((k : Int))), (12, Ia ((n : Int))), (13, Ba b), (29, Ba false), (44, Ba false)] [] ?_)
        refine vc_seq (vc_seqr rfl (iQ 1 (iU .not (.bool b) (some 55) ?_)))
        intro c55 hc55
        refine iE 64 [(0, .d (Sv (tx l))), (2, Ia ((t : Int))), (8, Ia 0), (9, .d (Sv (⟨#[]⟩))), (10, Ba false), (11, Ia ((k : Int))), (12, Ia ((n : Int))), (29, Ba false), (44, Ba false), (55, Ba c55)] [] ?_
        cases c55
        · replace hc55 := bf hc55
          have hn : numS 1 most (l.take k) = some n := or_t hb hc55
          obtain ⟨n1, n2, n3⟩ := numS_take hn (by omega)
          have n4 : n < 10 ^ most := by rw [n3]; exact nvL_lt (take_all (by omega)) (by rw [List.length_take]; omega)
          have n5 : n * t ≤ 10 ^ most * t := Nat.mul_le_mul_right _ (by omega)
          refine iF (vc_skip (seq_n (vc_seqr rfl (iQ 2 (iB .mul 3 (.int .i64 ((n : Int))) (.int .i64 ((t : Int))) (some 59) ?_)))))
          intro z59 hz59
          try replace hz59 := hz59.i64 (by omega)
          have e59 : z59 = ((n * t : Nat) : Int) := by rw [hz59]; exact (Int.natCast_mul n t).symm
          refine iQ 2 (iB .add 3 (.int .i64 ((k : Int))) (.int .i64 1) (some 62) ?_)
          intro z62 hz62
          try replace hz62 := hz62.i64 (by omega)
          refine iY 9 (tx l) (z62) (((tx l : ByteArray).size : Int)) (some 63) ?_
          refine And.intro (by rw [tx_size]; omega) ?_
          intro s63 hs63
          have hl63 := sz_ext hs63 (by rw [tx_size]; omega)
          refine iQ 3 (iE 64 [(0, .d (Sv (tx l))), (8, Ia z59), (9, .d (Sv s63)), (10, Ba true), (11, Ia ((k : Int))), (29, Ba false), (44, Ba false), (55, Ba false)] [] ?_)
          refine vc_ret (iS (Iv z59) (Sv s63) [Bv true] ?_)
          rw [e59]; exact TkP_yes (n := n * t) (s := s63) ⟨hc, by omega, by omega⟩ (by rw [hk, n3]) (by rw [hs63, tx_extract, tx_size, hk, show z62.toNat = k + 1 by omega, List.take_of_length_le (by rw [List.length_drop]; omega)])
        · replace hc55 := bt hc55
          have hn : numS 1 most (l.take k) = none := (or_f hb hc55).1
          refine iT (vc_seqr rfl (iQ 4 (iE 64 [(0, .d (Sv (tx l))), (2, Ia ((t : Int))), (8, Ia 0), (9, .d (Sv (tx l))), (10, Ba false), (11, Ia ((k : Int))), (12, Ia ((n : Int))), (29, Ba false), (44, Ba false), (55, Ba true)] [] ?_)))
          refine vc_ret (seq_r (iS (Iv 0) (Sv (tx l)) [Bv false] ?_))
          exact TkP_no (fun h => numS_none hn (by omega) ⟨by omega, by omega⟩)
      · replace hc43 := bt hc43
        refine iT (vc_seqr rfl (iQ 4 (iE 64 [(0, .d (Sv (tx l))), (2, Ia ((t : Int))), (3, Ia ((most : Int))), (8, Ia 0), (9, .d (Sv (tx l))), (10, Ba false), (11, Ia ((k : Int))), (29, Ba false), (44, Ba true)] [] ?_)))
        refine vc_ret (seq_r (iS (Iv 0) (Sv (tx l)) [Bv false] ?_))
        exact TkP_no (fun h => hc43 (e41.2 (by rw [← hk]; exact h.1)))
    · replace hc35 := bt hc35
      refine iQ 8 (iE 64 [(0, .d (Sv (tx l))), (2, Ia ((t : Int))), (3, Ia ((most : Int))), (8, Ia 0), (9, .d (Sv (⟨#[]⟩))), (10, Ba false), (11, Ia ((k : Int))), (29, Ba false), (44, Ba true)] [] ?_)
      refine iT (vc_seqr rfl (iQ 4 (iE 64 [(0, .d (Sv (tx l))), (2, Ia ((t : Int))), (3, Ia ((most : Int))), (8, Ia 0), (9, .d (Sv (tx l))), (10, Ba false), (11, Ia ((k : Int))), (29, Ba false), (44, Ba true)] [] ?_)))
      refine vc_ret (seq_r (iS (Iv 0) (Sv (tx l)) [Bv false] ?_))
      exact TkP_no (fun h => by have := (List.getElem?_eq_some_iff.1 h.1).1; omega)
  · replace hc17 := bt hc17
    refine iQ 2 (iX 9 (.string (tx l)) (.int .i64 ((k : Int))) (some 21) ?_)
    have hlt : k < l.length := by omega
    have hg := List.getElem?_eq_getElem hlt
    refine And.intro (by rw [tx_size]; omega) ?_
    intro z21 hz21
    have e21 : z21 = ((l[k]'hlt).toNat : Int) := by rw [hz21]; exact strAt_tx hg
    refine iB .geq 5 (.int .u8 z21) (.int .u8 48) (some 22) ?_
    intro c22 hc22
    refine iQ 2 ?_
    cases c22
    · replace hc22 := bf hc22
      refine iQ 5 (iE 64 [(0, .d (Sv (tx l))), (1, .d (Sv (tx [c]))), (2, Ia ((t : Int))), (3, Ia ((most : Int))), (8, Ia 0), (9, .d (Sv (⟨#[]⟩))), (10, Ba false), (11, Ia ((k : Int))), (29, Ba false)] [] ?_)
      have hk : ndg l = k := ndg_unique h1 h2 (fun x hx => by rw [hg] at hx; cases hx; exact b_false fun e => by have := isDg_iff.1 e; omega)
      refine iF (vc_exit (seq_x (loop_x (block_x rfl (seq_n (vc_seq (vc_seqr rfl (iQ 2 (iL .len [9] [.string (tx l)] (some 34) ?_)))))))))
      intro n34 hn34
      refine iB .eql 3 (.int .i64 ((k : Int))) (.int .i64 ((n34 : Nat))) (some 35) ?_
      intro c35 hc35
      refine iQ 1 ?_
      cases c35
      · replace hc35 := bf hc35
        refine iQ 3 (iB .add 3 (.int .i64 ((k : Int))) (.int .i64 1) (some 40) ?_)
        intro z40 hz40
        try replace hz40 := hz40.i64 (by omega)
        have hkl : k < l.length := by omega
        refine iY 9 (tx l) ((k : Int)) (z40) (some 41) ?_
        refine And.intro (by rw [tx_size]; omega) ?_
        intro s41 hs41
        have hl41 := sz_ext hs41 (by rw [tx_size]; omega)
        have e41 := sl1_iff (s := s41) (c := c) hkl (by rw [hs41, Int.toNat_natCast, show z40.toNat = k + 1 by omega])
        refine iQ 1 (iB .neq 9 (.string s41) (.string (tx [c])) (some 43) ?_)
        intro c43 hc43
        refine iQ 1 (iE 64 [(0, .d (Sv (tx l))), (2, Ia ((t : Int))), (3, Ia ((most : Int))), (8, Ia 0), (9, .d (Sv (⟨#[]⟩))), (10, Ba false), (11, Ia ((k : Int))), (29, Ba false), (44, Ba c43)] [] ?_)
        cases c43
        · replace hc43 := bf hc43
          have hc : l[ndg l]? = some c := by rw [hk]; exact e41.1 (by simpa using hc43)
          refine iF (vc_skip (seq_n (vc_seqr rfl (iQ 2 (iY 9 (tx l) (0) ((k : Int)) (some 49) ?_)))))
          refine And.intro (by rw [tx_size]; omega) ?_
          intro s49 hs49
          have hl49 := sz_ext hs49 (by rw [tx_size]; omega)
          have e49 : s49 = tx (l.take k) := by rw [hs49, tx_extract]; simp
          refine iQ 1 (iC 65 [Sv s49, Iv 1, Iv ((most : Int))] (some 51) (c_numberE (lo := 1) e49 hm) ?_)
          rintro _ ⟨n, b, rfl, hb⟩
          refine iQ 5 (iE 64 [(0, .d (Sv (tx l))), (2, Ia ((t : Int))), (8, Ia 0), (9, .d (Sv (⟨#[]⟩))), (10, Ba false), (11, Ia ((k : Int))), (12, Ia ((n : Int))), (13, Ba b), (29, Ba false), (44, Ba false)] [] ?_)
          refine vc_seq (vc_seqr rfl (iQ 1 (iU .not (.bool b) (some 55) ?_)))
          intro c55 hc55
          refine iE 64 [(0, .d (Sv (tx l))), (2, Ia ((t : Int))), (8, Ia 0), (9, .d (Sv (⟨#[]⟩))), (10, Ba false), (11, Ia ((k : Int))), (12, Ia ((n : Int))), (29, Ba false), (44, Ba false), (55, Ba c55)] [] ?_
          cases c55
          · replace hc55 := bf hc55
            have hn : numS 1 most (l.take k) = some n := or_t hb hc55
            obtain ⟨n1, n2, n3⟩ := numS_take hn (by omega)
            have n4 : n < 10 ^ most := by rw [n3]; exact nvL_lt (take_all (by omega)) (by rw [List.length_take]; omega)
            have n5 : n * t ≤ 10 ^ most * t := Nat.mul_le_mul_right _ (by omega)
            refine iF (vc_skip (seq_n (vc_seqr rfl (iQ 2 (iB .mul 3 (.int .i64 ((n : Int))) (.int .i64 ((t : Int))) (some 59) ?_)))))
            intro z59 hz59
            try replace hz59 := hz59.i64 (by omega)
            have e59 : z59 = ((n * t : Nat) : Int) := by rw [hz59]; exact (Int.natCast_mul n t).symm
            refine iQ 2 (iB .add 3 (.int .i64 ((k : Int))) (.int .i64 1) (some 62) ?_)
            intro z62 hz62
            try replace hz62 := hz62.i64 (by omega)
            refine iY 9 (tx l) (z62) (((tx l : ByteArray).size : Int)) (some 63) ?_
            refine And.intro (by rw [tx_size]; omega) ?_
            intro s63 hs63
            have hl63 := sz_ext hs63 (by rw [tx_size]; omega)
            refine iQ 3 (iE 64 [(0, .d (Sv (tx l))), (8, Ia z59), (9, .d (Sv s63)), (10, Ba true), (11, Ia ((k : Int))), (29, Ba false), (44, Ba false), (55, Ba false)] [] ?_)
            refine vc_ret (iS (Iv z59) (Sv s63) [Bv true] ?_)
            rw [e59]; exact TkP_yes (n := n * t) (s := s63) ⟨hc, by omega, by omega⟩ (by rw [hk, n3]) (by rw [hs63, tx_extract, tx_size, hk, show z62.toNat = k + 1 by omega, List.take_of_length_le (by rw [List.length_drop]; omega)])
          · replace hc55 := bt hc55
            have hn : numS 1 most (l.take k) = none := (or_f hb hc55).1
            refine iT (vc_seqr rfl (iQ 4 (iE 64 [(0, .d (Sv (tx l))), (2, Ia ((t : Int))), (8, Ia 0), (9, .d (Sv (tx l))), (10, Ba false), (11, Ia ((k : Int))), (12, Ia ((n : Int))), (29, Ba false), (44, Ba false), (55, Ba true)] [] ?_)))
            refine vc_ret (seq_r (iS (Iv 0) (Sv (tx l)) [Bv false] ?_))
            exact TkP_no (fun h => numS_none hn (by omega) ⟨by omega, by omega⟩)
        · replace hc43 := bt hc43
          refine iT (vc_seqr rfl (iQ 4 (iE 64 [(0, .d (Sv (tx l))), (2, Ia ((t : Int))), (3, Ia ((most : Int))), (8, Ia 0), (9, .d (Sv (tx l))), (10, Ba false), (11, Ia ((k : Int))), (29, Ba false), (44, Ba true)] [] ?_)))
          refine vc_ret (seq_r (iS (Iv 0) (Sv (tx l)) [Bv false] ?_))
          exact TkP_no (fun h => hc43 (e41.2 (by rw [← hk]; exact h.1)))
      · replace hc35 := bt hc35
        refine iQ 8 (iE 64 [(0, .d (Sv (tx l))), (2, Ia ((t : Int))), (3, Ia ((most : Int))), (8, Ia 0), (9, .d (Sv (⟨#[]⟩))), (10, Ba false), (11, Ia ((k : Int))), (29, Ba false), (44, Ba true)] [] ?_)
        refine iT (vc_seqr rfl (iQ 4 (iE 64 [(0, .d (Sv (tx l))), (2, Ia ((t : Int))), (3, Ia ((most : Int))), (8, Ia 0), (9, .d (Sv (tx l))), (10, Ba false), (11, Ia ((k : Int))), (29, Ba false), (44, Ba true)] [] ?_)))
        refine vc_ret (seq_r (iS (Iv 0) (Sv (tx l)) [Bv false] ?_))
        exact TkP_no (fun h => by have := (List.getElem?_eq_some_iff.1 h.1).1; omega)
    · replace hc22 := bt hc22
      refine iQ 2 (iX 9 (.string (tx l)) (.int .i64 ((k : Int))) (some 27) ?_)
      refine And.intro (by rw [tx_size]; omega) ?_
      intro z27 hz27
      have e27 : z27 = ((l[k]'hlt).toNat : Int) := by rw [hz27]; exact strAt_tx hg
      refine iB .leq 5 (.int .u8 z27) (.int .u8 57) (some 28) ?_
      intro c28 hc28
      refine iQ 1 (iE 64 [(0, .d (Sv (tx l))), (1, .d (Sv (tx [c]))), (2, Ia ((t : Int))), (3, Ia ((most : Int))), (8, Ia 0), (9, .d (Sv (⟨#[]⟩))), (10, Ba false), (11, Ia ((k : Int))), (29, Ba c28)] [] ?_)
      cases c28
      · replace hc28 := bf hc28
        have hk : ndg l = k := ndg_unique h1 h2 (fun x hx => by rw [hg] at hx; cases hx; exact b_false fun e => by have := isDg_iff.1 e; omega)
        refine iF (vc_exit (seq_x (loop_x (block_x rfl (seq_n (vc_seq (vc_seqr rfl (iQ 2 (iL .len [9] [.string (tx l)] (some 34) ?_)))))))))
        intro n34 hn34
        refine iB .eql 3 (.int .i64 ((k : Int))) (.int .i64 ((n34 : Nat))) (some 35) ?_
        intro c35 hc35
        refine iQ 1 ?_
        cases c35
        · replace hc35 := bf hc35
          refine iQ 3 (iB .add 3 (.int .i64 ((k : Int))) (.int .i64 1) (some 40) ?_)
          intro z40 hz40
          try replace hz40 := hz40.i64 (by omega)
          have hkl : k < l.length := by omega
          refine iY 9 (tx l) ((k : Int)) (z40) (some 41) ?_
          refine And.intro (by rw [tx_size]; omega) ?_
          intro s41 hs41
          have hl41 := sz_ext hs41 (by rw [tx_size]; omega)
          have e41 := sl1_iff (s := s41) (c := c) hkl (by rw [hs41, Int.toNat_natCast, show z40.toNat = k + 1 by omega])
          refine iQ 1 (iB .neq 9 (.string s41) (.string (tx [c])) (some 43) ?_)
          intro c43 hc43
          refine iQ 1 (iE 64 [(0, .d (Sv (tx l))), (2, Ia ((t : Int))), (3, Ia ((most : Int))), (8, Ia 0), (9, .d (Sv (⟨#[]⟩))), (10, Ba false), (11, Ia ((k : Int))), (29, Ba false), (44, Ba c43)] [] ?_)
          cases c43
          · replace hc43 := bf hc43
            have hc : l[ndg l]? = some c := by rw [hk]; exact e41.1 (by simpa using hc43)
            refine iF (vc_skip (seq_n (vc_seqr rfl (iQ 2 (iY 9 (tx l) (0) ((k : Int)) (some 49) ?_)))))
            refine And.intro (by rw [tx_size]; omega) ?_
            intro s49 hs49
            have hl49 := sz_ext hs49 (by rw [tx_size]; omega)
            have e49 : s49 = tx (l.take k) := by rw [hs49, tx_extract]; simp
            refine iQ 1 (iC 65 [Sv s49, Iv 1, Iv ((most : Int))] (some 51) (c_numberE (lo := 1) e49 hm) ?_)
            rintro _ ⟨n, b, rfl, hb⟩
            refine iQ 5 (iE 64 [(0, .d (Sv (tx l))), (2, Ia ((t : Int))), (8, Ia 0), (9, .d (Sv (⟨#[]⟩))), (10, Ba false), (11, Ia ((k : Int))), (12, Ia ((n : Int))), (13, Ba b), (29, Ba false), (44, Ba false)] [] ?_)
            refine vc_seq (vc_seqr rfl (iQ 1 (iU .not (.bool b) (some 55) ?_)))
            intro c55 hc55
            refine iE 64 [(0, .d (Sv (tx l))), (2, Ia ((t : Int))), (8, Ia 0), (9, .d (Sv (⟨#[]⟩))), (10, Ba false), (11, Ia ((k : Int))), (12, Ia ((n : Int))), (29, Ba false), (44, Ba false), (55, Ba c55)] [] ?_
            cases c55
            · replace hc55 := bf hc55
              have hn : numS 1 most (l.take k) = some n := or_t hb hc55
              obtain ⟨n1, n2, n3⟩ := numS_take hn (by omega)
              have n4 : n < 10 ^ most := by rw [n3]; exact nvL_lt (take_all (by omega)) (by rw [List.length_take]; omega)
              have n5 : n * t ≤ 10 ^ most * t := Nat.mul_le_mul_right _ (by omega)
              refine iF (vc_skip (seq_n (vc_seqr rfl (iQ 2 (iB .mul 3 (.int .i64 ((n : Int))) (.int .i64 ((t : Int))) (some 59) ?_)))))
              intro z59 hz59
              try replace hz59 := hz59.i64 (by omega)
              have e59 : z59 = ((n * t : Nat) : Int) := by rw [hz59]; exact (Int.natCast_mul n t).symm
              refine iQ 2 (iB .add 3 (.int .i64 ((k : Int))) (.int .i64 1) (some 62) ?_)
              intro z62 hz62
              try replace hz62 := hz62.i64 (by omega)
              refine iY 9 (tx l) (z62) (((tx l : ByteArray).size : Int)) (some 63) ?_
              refine And.intro (by rw [tx_size]; omega) ?_
              intro s63 hs63
              have hl63 := sz_ext hs63 (by rw [tx_size]; omega)
              refine iQ 3 (iE 64 [(0, .d (Sv (tx l))), (8, Ia z59), (9, .d (Sv s63)), (10, Ba true), (11, Ia ((k : Int))), (29, Ba false), (44, Ba false), (55, Ba false)] [] ?_)
              refine vc_ret (iS (Iv z59) (Sv s63) [Bv true] ?_)
              rw [e59]; exact TkP_yes (n := n * t) (s := s63) ⟨hc, by omega, by omega⟩ (by rw [hk, n3]) (by rw [hs63, tx_extract, tx_size, hk, show z62.toNat = k + 1 by omega, List.take_of_length_le (by rw [List.length_drop]; omega)])
            · replace hc55 := bt hc55
              have hn : numS 1 most (l.take k) = none := (or_f hb hc55).1
              refine iT (vc_seqr rfl (iQ 4 (iE 64 [(0, .d (Sv (tx l))), (2, Ia ((t : Int))), (8, Ia 0), (9, .d (Sv (tx l))), (10, Ba false), (11, Ia ((k : Int))), (12, Ia ((n : Int))), (29, Ba false), (44, Ba false), (55, Ba true)] [] ?_)))
              refine vc_ret (seq_r (iS (Iv 0) (Sv (tx l)) [Bv false] ?_))
              exact TkP_no (fun h => numS_none hn (by omega) ⟨by omega, by omega⟩)
          · replace hc43 := bt hc43
            refine iT (vc_seqr rfl (iQ 4 (iE 64 [(0, .d (Sv (tx l))), (2, Ia ((t : Int))), (3, Ia ((most : Int))), (8, Ia 0), (9, .d (Sv (tx l))), (10, Ba false), (11, Ia ((k : Int))), (29, Ba false), (44, Ba true)] [] ?_)))
            refine vc_ret (seq_r (iS (Iv 0) (Sv (tx l)) [Bv false] ?_))
            exact TkP_no (fun h => hc43 (e41.2 (by rw [← hk]; exact h.1)))
        · replace hc35 := bt hc35
          refine iQ 8 (iE 64 [(0, .d (Sv (tx l))), (2, Ia ((t : Int))), (3, Ia ((most : Int))), (8, Ia 0), (9, .d (Sv (⟨#[]⟩))), (10, Ba false), (11, Ia ((k : Int))), (29, Ba false), (44, Ba true)] [] ?_)
          refine iT (vc_seqr rfl (iQ 4 (iE 64 [(0, .d (Sv (tx l))), (2, Ia ((t : Int))), (3, Ia ((most : Int))), (8, Ia 0), (9, .d (Sv (tx l))), (10, Ba false), (11, Ia ((k : Int))), (29, Ba false), (44, Ba true)] [] ?_)))
          refine vc_ret (seq_r (iS (Iv 0) (Sv (tx l)) [Bv false] ?_))
          exact TkP_no (fun h => by have := (List.getElem?_eq_some_iff.1 h.1).1; omega)
      · replace hc28 := bt hc28
        refine iT (vc_skip (seq_n (vc_block (vc_reg rfl (iQ 1 (iB .add 3 (.int .i64 ((k : Int))) (.int .i64 1) (some 31) ?_))))))
        intro z31 hz31
        try replace hz31 := hz31.i64 (by omega)
        refine iQ 1 (iE 64 [(0, .d (Sv (tx l))), (1, .d (Sv (tx [c]))), (2, Ia ((t : Int))), (3, Ia ((most : Int))), (8, Ia 0), (9, .d (Sv (⟨#[]⟩))), (10, Ba false), (11, Ia z31), (29, Ba true)] [] ?_)
        refine block_n ?_
        obtain rfl : z31 = ((k + 1 : Nat) : Int) := by omega
        refine loop_n (k + 1) (⟨by omega, isDg_more h2 hg (isDg_iff.2 ⟨by omega, by omega⟩)⟩) (by show l.length - (k + 1) < l.length - k; omega) (by kernel_rfl) (by kernel_rfl)
theorem c_takesE {l : L8} {s : ByteArray} {c : UInt8} {t most : Nat} (hs : s = tx l) (hm : most ≤ 15) (ht : 10 ^ most * t ≤ 100000000000000000) (hL : l.length ≤ 9223372036854775807) : HasC Tryd.prog 93 [.v (.string s), .v (.string (tx [c])), .v (.int .i64 (t : Int)), .v (.int .i64 (most : Int))] (TkP most l c t) := by subst hs; exact c_takes hm ht hL
def lets (ps : List (UInt8 × Nat)) : List DV := ps.map fun p => .v (.string (tx [p.1]))
def tms (ps : List (UInt8 × Nat)) : List DV := ps.map fun p => .v (.int .i64 (p.2 : Int))
theorem runA_step {most : Nat} {l : L8} {ps : List (UInt8 × Nat)} {j n k : Nat} {c : UInt8} {t : Nat} (h : ps[j]? = some (c, t)) : runA most l (ps.drop j) n k = match takesS most l c t with | some (m, l') => runA most l' (ps.drop (j + 1)) (n + m) (k + 1) | none => runA most l (ps.drop (j + 1)) n k := by
  obtain ⟨hj, e⟩ := List.getElem?_eq_some_iff.1 h
  rw [List.drop_eq_getElem_cons hj, e]
  rfl
theorem lets_get {ps : List (UInt8 × Nat)} {j : Nat} {c : UInt8} {t : Nat} (h : ps[j]? = some (c, t)) : (lets ps)[((j : Nat) : Int).toNat]? = some (.v (.string (tx [c]))) := by simp [lets, h]
theorem tms_get {ps : List (UInt8 × Nat)} {j : Nat} {c : UInt8} {t : Nat} (h : ps[j]? = some (c, t)) : (tms ps)[((j : Nat) : Int).toNat]? = some (.v (.int .i64 (t : Int))) := by simp [tms, h]
def RunP (most : Nat) (l : L8) (ps : List (UInt8 × Nat)) (r : DV) : Prop := ∃ (n : Nat) (l' : L8) (k : Nat), r = .tup [.v (.int .i64 (n : Int)), .v (.string (tx l')), .v (.int .i64 (k : Int))] ∧ runA most l ps 0 0 = (n, l', k) ∧ l'.length ≤ l.length ∧ n ≤ 300000000000000000 ∧ k ≤ 3
theorem runA_len : ∀ (ps : List (UInt8 × Nat)) (most : Nat) (l : L8) (n k : Nat), (runA most l ps n k).2.1.length ≤ l.length
  | [], most, l, n, k => Nat.le_refl _
  | (c, t) :: r, most, l, n, k => by
    unfold runA
    split
    · rename_i m l' e
      have h1 := (takesS_lt e).2
      have := runA_len r most l' (n + m) (k + 1)
      omega
    · exact runA_len r most l n k

theorem runA_sum : ∀ (ps : List (UInt8 × Nat)) (most : Nat) (l : L8) (n k : Nat), (∀ p ∈ ps, 10 ^ most * p.2 ≤ 100000000000000000) → (runA most l ps n k).1 ≤ n + ps.length * 100000000000000000 ∧ (runA most l ps n k).2.2 ≤ k + ps.length
  | [], most, l, n, k, h => by simp [runA]
  | (c, t) :: r, most, l, n, k, h => by
    unfold runA
    have ht := h (c, t) (by simp)
    have hr : ∀ p ∈ r, 10 ^ most * p.2 ≤ 100000000000000000 := fun p hp => h p (by simp [hp])
    rw [List.length_cons, Nat.add_mul, Nat.one_mul]
    split
    · rename_i m l' e
      have h1 : m ≤ 100000000000000000 := Nat.le_trans (takesS_lt e).1 ht
      have := runA_sum r most l' (n + m) (k + 1) hr
      omega
    · have := runA_sum r most l n k hr
      exact ⟨Nat.le_trans this.1 (Nat.add_le_add_left (Nat.le_add_right _ _) _), Nat.le_trans this.2 (by omega)⟩
theorem RunP_ex (most : Nat) (l : L8) (ps : List (UInt8 × Nat)) (hp : ∀ p ∈ ps, 10 ^ most * p.2 ≤ 100000000000000000) (hn : ps.length ≤ 3) : ∃ r, RunP most l ps r := by
  have h := runA_sum ps most l 0 0 hp
  exact ⟨_, _, _, _, rfl, rfl, runA_len _ _ _ _ _, by omega, by have := h.2; rw [Nat.zero_add] at this; exact Nat.le_trans this hn⟩

set_option maxHeartbeats 800000 in
theorem c_run {l : L8} {most : Nat} {ps : List (UInt8 × Nat)} (hm : most ≤ 15) (hp : ∀ p ∈ ps, 10 ^ most * p.2 ≤ 100000000000000000) (hn : ps.length ≤ 3) (hL : l.length ≤ 9223372036854775807) : HasC Tryd.prog 49 [.v (.string (tx l)), .v (.int .i64 ((most : Int))), .sl ps.length (lets ps), .sl ps.length (tms ps)] (RunP most l ps) := by
  refine HasC.of [] (fn := Tryd.f49) tyOk mixed (fun args w => Tryd.call49 args w) Tryd.func49 rfl (by kernel_rfl) (Nat.le_of_ble_eq_true rfl) (RunP_ex most l ps hp hn) ?_
  refine vc_seqr rfl (iQ 3 (iE 48 [(0, .d (Sv (tx l))), (1, Ia ((most : Int))), (2, .d (.sl ps.length (lets ps))), (3, .d (.sl ps.length (tms ps))), (8, Ia 0), (9, .d (Sv (⟨#[]⟩))), (10, Ia 0)] [] ?_))
  refine vc_seqr rfl (iQ 2 (iE 48 [(0, .d (Sv (tx l))), (1, Ia ((most : Int))), (2, .d (.sl ps.length (lets ps))), (3, .d (.sl ps.length (tms ps))), (8, Ia 0), (9, .d (Sv (⟨#[]⟩))), (10, Ia 0), (11, Ia 0), (12, Ia 0)] [] ?_))
  refine vc_seq (vc_seqr rfl (iQ 3 (iE 48 [(0, .d (Sv (tx l))), (1, Ia ((most : Int))), (3, .d (.sl ps.length (tms ps))), (8, Ia 0), (9, .d (Sv (⟨#[]⟩))), (10, Ia 0), (11, Ia 0), (12, Ia 0), (18, .d (.sl ps.length (lets ps))), (19, Ia (((ps.length : Nat) : Int))), (20, Ia 0)] [] ?_)))
  refine vc_block (vc_loop 48 (fun (vcx : Nat × L8 × Nat × Nat) => match vcx with | (j, l', n, k) => [(0, .d (Sv (tx l'))), (1, Ia ((most : Int))), (3, .d (.sl ps.length (tms ps))), (8, Ia 0), (9, .d (Sv (⟨#[]⟩))), (10, Ia 0), (11, Ia ((n : Int))), (12, Ia ((k : Int))), (18, .d (.sl ps.length (lets ps))), (19, Ia (((ps.length : Nat) : Int))), (20, Ia ((j : Int)))]) (fun (vcx : Nat × L8 × Nat × Nat) => match vcx with | (j, l', n, k) => []) (fun (vcx : Nat × L8 × Nat × Nat) => match vcx with | (j, l', n, k) => j ≤ ps.length ∧ runA most l ps 0 0 = runA most l' (ps.drop j) n k ∧ n ≤ j * 100000000000000000 ∧ k ≤ j ∧ l'.length ≤ l.length) (fun (vcx : Nat × L8 × Nat × Nat) => match vcx with | (j, l', n, k) => ps.length - j) ((0, l, 0, 0)) (⟨by omega, rfl, by omega, by omega, by omega⟩) (by kernel_rfl) (by kernel_rfl) ?_)
  rintro ⟨j, l', n, k⟩ hinv
  simp only at hinv
  obtain ⟨h1, h2, h3, h4, h5⟩ := hinv
  refine vc_seqr rfl (iB .lss 3 (.int .i64 ((j : Int))) (.int .i64 (((ps.length : Nat) : Int))) (some 21) ?_)
  intro c21 hc21
  refine iE 48 [(0, .d (Sv (tx l'))), (1, Ia ((most : Int))), (3, .d (.sl ps.length (tms ps))), (8, Ia 0), (9, .d (Sv (⟨#[]⟩))), (10, Ia 0), (11, Ia ((n : Int))), (12, Ia ((k : Int))), (18, .d (.sl ps.length (lets ps))), (19, Ia (((ps.length : Nat) : Int))), (20, Ia ((j : Int))), (21, Ba c21)] [] ?_
  refine vc_seq ?_
  cases c21
  · replace hc21 := bf hc21
    have hj : j = ps.length := by omega
    refine iF (vc_exit (seq_x (loop_x (block_x rfl (seq_n (vc_seqr rfl (iQ 6 (iE 48 [(0, .d (Sv (tx l'))), (1, Ia ((most : Int))), (3, .d (.sl ps.length (tms ps))), (8, Ia ((n : Int))), (9, .d (Sv (tx l'))), (10, Ia ((k : Int))), (11, Ia ((n : Int))), (12, Ia ((k : Int))), (18, .d (.sl ps.length (lets ps))), (19, Ia (((ps.length : Nat) : Int))), (20, Ia ((j : Int))), (21, Ba false)] [] ?_))))))))
    refine vc_ret (iS (Iv ((n : Int))) (Sv (tx l')) [Iv ((k : Int))] ?_)
    exact ⟨_, _, _, rfl, by rw [h2, hj, List.drop_length]; rfl, h5, by omega, by omega⟩
  · replace hc21 := bt hc21
    have hjl : j < ps.length := by omega
    obtain ⟨⟨c, t⟩, hps⟩ : ∃ p, ps[j]? = some p := ⟨_, List.getElem?_eq_getElem hjl⟩
    have ht := hp _ (List.mem_of_getElem? hps)
    have hstep := runA_step (most := most) (l := l') (n := n) (k := k) hps
    refine iT (vc_skip (seq_n (vc_seq (vc_block (vc_seqr rfl (iQ 1 (vcI_idx1 (q := ((j : Int))) (n := ps.length) (cs := (lets ps)) (d := .v (.string (tx [c]))) (dst := (some 23)) (by kernel_rfl) (by omega) (lets_get hps) ?_)))))))
    refine iQ 3 (iE 48 [(0, .d (Sv (tx l'))), (1, Ia ((most : Int))), (3, .d (.sl ps.length (tms ps))), (8, Ia 0), (9, .d (Sv (⟨#[]⟩))), (10, Ia 0), (11, Ia ((n : Int))), (12, Ia ((k : Int))), (13, Ia ((j : Int))), (14, .d (Sv (tx [c]))), (18, .d (.sl ps.length (lets ps))), (19, Ia (((ps.length : Nat) : Int))), (20, Ia ((j : Int))), (21, Ba true)] [] ?_)
    refine vc_seqr rfl (iQ 4 (vcI_idx1 (q := ((j : Int))) (n := ps.length) (cs := (tms ps)) (d := .v (.int .i64 ((t : Int)))) (dst := (some 30)) (by kernel_rfl) (by omega) (tms_get hps) ?_))
    refine iQ 2 (iC 93 [Sv (tx l'), Sv (tx [c]), Iv ((t : Int)), Iv ((most : Int))] (some 33) (c_takesE (l := l') rfl hm ht (by omega)) ?_)
    rintro _ ⟨m, l2, g, rfl, ho⟩
    refine iQ 7 (iE 48 [(0, .d (Sv (tx l'))), (1, Ia ((most : Int))), (3, .d (.sl ps.length (tms ps))), (8, Ia 0), (9, .d (Sv (⟨#[]⟩))), (10, Ia 0), (11, Ia ((n : Int))), (12, Ia ((k : Int))), (13, Ia ((j : Int))), (14, .d (Sv (tx [c]))), (15, Ia ((m : Int))), (16, .d (Sv (tx l2))), (17, Ba g), (18, .d (.sl ps.length (lets ps))), (19, Ia (((ps.length : Nat) : Int))), (20, Ia ((j : Int))), (21, Ba true)] [] ?_)
    refine vc_seqr rfl (iQ 1 (iE 48 [(0, .d (Sv (tx l'))), (1, Ia ((most : Int))), (3, .d (.sl ps.length (tms ps))), (8, Ia 0), (9, .d (Sv (⟨#[]⟩))), (10, Ia 0), (11, Ia ((n : Int))), (12, Ia ((k : Int))), (13, Ia ((j : Int))), (14, .d (Sv (tx [c]))), (15, Ia ((m : Int))), (16, .d (Sv (tx l2))), (17, Ba g), (18, .d (.sl ps.length (lets ps))), (19, Ia (((ps.length : Nat) : Int))), (20, Ia ((j : Int))), (21, Ba true), (37, Ba g)] [] ?_))
    cases g
    · skip
      have hb2 : takesS most l' c t = none := (or_f ho rfl).1
      refine iF (vc_skip (block_n (seq_n (vc_reg rfl (iB .add 3 (.int .i64 ((j : Int))) (.int .i64 1) (some 44) ?_)))))
      intro z44 hz44
      try replace hz44 := hz44.i64 (by omega)
      refine iQ 1 (iE 48 [(0, .d (Sv (tx l'))), (1, Ia ((most : Int))), (3, .d (.sl ps.length (tms ps))), (8, Ia 0), (9, .d (Sv (⟨#[]⟩))), (10, Ia 0), (11, Ia ((n : Int))), (12, Ia ((k : Int))), (13, Ia ((j : Int))), (14, .d (Sv (tx [c]))), (15, Ia ((m : Int))), (16, .d (Sv (tx l2))), (17, Ba false), (18, .d (.sl ps.length (lets ps))), (19, Ia (((ps.length : Nat) : Int))), (20, Ia z44), (21, Ba true), (37, Ba false)] [] ?_)
      obtain rfl : z44 = ((j + 1 : Nat) : Int) := by omega
      refine loop_n (j + 1, l', n, k) (⟨by omega, by rw [h2, hstep, hb2], Nat.le_trans h3 (Nat.mul_le_mul_right _ (Nat.le_succ j)), by omega, by omega⟩) (by show ps.length - (j + 1) < ps.length - j; omega) (by kernel_rfl) (by kernel_rfl)
    · skip
      have hb2 : takesS most l' c t = some (m, l2) := or_t ho (by simp)
      have hl2 := (takesS_lt hb2).2
      have hl3 : m ≤ 100000000000000000 := Nat.le_trans (takesS_lt hb2).1 ht
      refine iT (vc_reg rfl (iQ 2 (iB .add 3 (.int .i64 ((n : Int))) (.int .i64 ((m : Int))) (some 40) ?_)))
      intro z40 hz40
      try replace hz40 := hz40.i64 (by omega)
      refine iQ 2 (iB .add 3 (.int .i64 ((k : Int))) (.int .i64 1) (some 43) ?_)
      intro z43 hz43
      try replace hz43 := hz43.i64 (by omega)
      refine iQ 3 (iE 48 [(0, .d (Sv (tx l2))), (1, Ia ((most : Int))), (3, .d (.sl ps.length (tms ps))), (8, Ia 0), (9, .d (Sv (⟨#[]⟩))), (10, Ia 0), (11, Ia z40), (12, Ia z43), (13, Ia ((j : Int))), (14, .d (Sv (tx [c]))), (15, Ia ((m : Int))), (16, .d (Sv (tx l2))), (17, Ba true), (18, .d (.sl ps.length (lets ps))), (19, Ia (((ps.length : Nat) : Int))), (20, Ia ((j : Int))), (21, Ba true), (37, Ba true)] [] ?_)
      refine block_n (seq_n (vc_reg rfl (iB .add 3 (.int .i64 ((j : Int))) (.int .i64 1) (some 44) ?_)))
      intro z44 hz44
      try replace hz44 := hz44.i64 (by omega)
      refine iQ 1 (iE 48 [(0, .d (Sv (tx l2))), (1, Ia ((most : Int))), (3, .d (.sl ps.length (tms ps))), (8, Ia 0), (9, .d (Sv (⟨#[]⟩))), (10, Ia 0), (11, Ia z40), (12, Ia z43), (13, Ia ((j : Int))), (14, .d (Sv (tx [c]))), (15, Ia ((m : Int))), (16, .d (Sv (tx l2))), (17, Ba true), (18, .d (.sl ps.length (lets ps))), (19, Ia (((ps.length : Nat) : Int))), (20, Ia z44), (21, Ba true), (37, Ba true)] [] ?_)
      obtain rfl : z44 = ((j + 1 : Nat) : Int) := by omega
      obtain rfl : z40 = ((n + m : Nat) : Int) := by omega
      obtain rfl : z43 = ((k + 1 : Nat) : Int) := by omega
      refine loop_n (j + 1, l2, n + m, k + 1) (⟨by omega, by rw [h2, hstep, hb2], by rw [Nat.add_mul]; omega, by omega, by omega⟩) (by show ps.length - (j + 1) < ps.length - j; omega) (by kernel_rfl) (by kernel_rfl)
theorem c_runE {l : L8} {s : ByteArray} {most : Nat} {ps : List (UInt8 × Nat)} (hs : s = tx l) (hm : most ≤ 15) (hp : ∀ p ∈ ps, 10 ^ most * p.2 ≤ 100000000000000000) (hn : ps.length ≤ 3) (hL : l.length ≤ 9223372036854775807) : HasC Tryd.prog 49 [.v (.string s), .v (.int .i64 (most : Int)), .sl ps.length (lets ps), .sl ps.length (tms ps)] (RunP most l ps) := by subst hs; exact c_run hm hp hn hL
theorem optS_no {n : Nat} {neg : Bool} (h : 9007199254740992 < n) : optT (signedS n neg) = .tup [.v (.int .i64 0), .v (.bool false)] := by rw [signedS, if_pos h]; rfl
theorem optS_yes {n : Nat} {neg : Bool} {z : Int} (h : n ≤ 9007199254740992) (hz : z = if neg then -(n : Int) else n) : optT (signedS n neg) = .tup [.v (.int .i64 z), .v (.bool true)] := by rw [signedS, if_neg (by omega), hz]; rfl
theorem c_signed {n : Nat} {neg : Bool} (hn : n ≤ 9223372036854775807) : HasC Tryd.prog 50 [.v (.int .i64 ((n : Int))), .v (.bool neg)] (fun r => r = optT (signedS n neg)) := by
  refine HasC.of [] (fn := Tryd.f50) tyOk mixed (fun args w => Tryd.call50 args w) Tryd.func50 rfl (by kernel_rfl) (Nat.le_of_ble_eq_true rfl) (⟨_, rfl⟩) ?_
  refine vc_seqr rfl (iQ 2 (iE 12 [(0, Ia ((n : Int))), (1, Ba neg), (4, Ia 0), (5, Ba false)] [] ?_))
  refine vc_seq (vc_seqr rfl (iQ 1 (iB .gtr 3 (.int .i64 ((n : Int))) (.int .i64 9007199254740992) (some 7) ?_)))
  intro c7 hc7
  refine iE 12 [(0, Ia ((n : Int))), (1, Ba neg), (4, Ia 0), (5, Ba false), (7, Ba c7)] [] ?_
  cases c7
  · replace hc7 := bf hc7
    refine iF (vc_skip (seq_n (vc_seq (vc_seqr rfl (iQ 1 (iE 12 [(0, Ia ((n : Int))), (4, Ia 0), (5, Ba false), (7, Ba false), (8, Ba neg)] [] ?_))))))
    cases neg
    · skip
      refine iF (vc_skip (seq_n (vc_seqr rfl (iQ 3 (iE 12 [(0, Ia ((n : Int))), (4, Ia ((n : Int))), (5, Ba true), (7, Ba false), (8, Ba false)] [] ?_)))))
      refine vc_ret (iS (Iv ((n : Int))) (Bv true) [] ?_)
      exact (optS_yes (by omega) (by simp)).symm
    · skip
      refine iT (vc_seqr rfl (iQ 1 (iU .neg (.int .i64 ((n : Int))) (some 10) ?_)))
      intro z10 hz10
      try replace hz10 := hz10.i64 (by omega)
      refine iQ 2 (iE 12 [(0, Ia ((n : Int))), (4, Ia z10), (5, Ba true), (7, Ba false), (8, Ba true)] [] ?_)
      refine vc_ret (seq_r (iS (Iv z10) (Bv true) [] ?_))
      exact (optS_yes (by omega) (by simp; omega)).symm
  · replace hc7 := bt hc7
    refine iT (vc_seqr rfl (iQ 2 (iE 12 [(0, Ia ((n : Int))), (1, Ba neg), (4, Ia 0), (5, Ba false), (7, Ba true)] [] ?_)))
    refine vc_ret (seq_r (iS (Iv 0) (Bv false) [] ?_))
    rw [optS_no (by omega)]
end Go.Proofs.YtjpaedjhihiakaaDoor
