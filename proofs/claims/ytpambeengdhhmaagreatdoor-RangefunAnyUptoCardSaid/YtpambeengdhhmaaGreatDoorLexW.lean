/-
  The order of texts of days and times: with no program in sight. lexical: durations read. The document's reading of durations: places in a text, against what is left of it; no program in sight. lexical: ReadDays, ReadMonths; the document's days, months; LexicalSpans.
-/
import Derived.Test.YtpambeengdhhmaaGreatDoorCivZ
import Derived.Test.YtpambeengdhhmaaGreatDoorNrV
import Derived.Test.YtpambeengdhhmaaGreatDoorRed
namespace Go.Proofs.YtpambeengdhhmaaGreatDoor

open Go.RowKit
set_option linter.unusedVariables false
set_option linter.unusedSimpArgs false
set_option maxRecDepth 100000

/-- The last so many digits. -/
def dwL (n : Nat) : Nat → L8
  | 0 => []
  | w + 1 => dwL (n / 10) w ++ [UInt8.ofNat (48 + n % 10)]
theorem dwL_zero : ∀ w, dwL 0 w = List.replicate w 48
  | 0 => rfl
  | w + 1 => by rw [dwL, Nat.zero_div, dwL_zero w, List.replicate_succ']; rfl
theorem pad_dw : ∀ (w n : Nat), n < 10 ^ w → List.replicate (w - (Lib.decDigits n).length) 48 ++ Lib.decDigits n = if w = 0 then Lib.decDigits n else dwL n w
  | 0, n, h => by simp
  | w + 1, n, h => by
    rw [if_neg (by omega), Lib.decDigits]
    split
    · rename_i hn
      rw [dwL, Nat.div_eq_of_lt hn, Nat.mod_eq_of_lt hn, dwL_zero]
      simp
    · rename_i hn
      have hw : w ≠ 0 := fun e => by subst e; omega
      have ih := pad_dw w (n / 10) (by rw [Nat.pow_succ] at h; omega)
      rw [if_neg hw] at ih
      rw [dwL, ← ih, List.length_append, List.append_assoc]
      simp
theorem padL_dw {n : Int} {w : Nat} (h0 : 0 ≤ n) (h : n.toNat < 10 ^ w) (hw : w ≠ 0) : padL n w = dwL n.toNat w := by
  rw [padL, itoa_nn h0, pad_dw w _ h, if_neg hw]
open Go.RowKit
set_option linter.unusedVariables false
set_option linter.unusedSimpArgs false
set_option maxRecDepth 100000

theorem one_txM {l : L8} (h : l ≠ []) : (tx l).extract 0 1 = tx [45] ↔ l.head? = some 45 := by
  rw [tx_extract, tx_iff]
  cases l with
  | nil => exact absurd rfl h
  | cons c r => simp
theorem c_hasM {l : L8} : HasC Tryz.prog 138 [.v (.string (tx l)), .v (.string (⟨#[45]⟩))] (fun r => ∃ b, r = .v (.bool b) ∧ (b = true ↔ l.head? = some 45)) := by
 refine HasC.of [] (fn := Tryz.f138) tyOk mixed (fun args w => Tryz.call138 args w) Tryz.func138 rfl (by kernel_rfl) (Nat.le_of_ble_eq_true rfl) (⟨_, decide (l.head? = some 45), rfl, by simp⟩) ?_
 refine vc_seqr rfl (iQ 1 (iE 18 [(0, .d (Sv (tx l))), (1, .d (Sv (⟨#[45]⟩))), (4, Ba false)] [] ?_))
 refine vc_seqr rfl (iQ 1 (iL .len [9] [.string (tx l)] (some 6) ?_))
 intro n6 hn6
 have e6 : n6 = l.length := by rw [hn6]; exact tx_size l
 refine iQ 1 (iL .len [9] [.string (⟨#[45]⟩)] (some 8) ?_)
 intro n8 hn8
 have e8 : n8 = 1 := hn8
 refine iB .geq 3 (.int .i64 ((n6 : Nat))) (.int .i64 ((n8 : Nat))) (some 9) ?_
 intro c9 hc9
 refine iQ 1 ?_
 cases c9
 ·replace hc9 := bf hc9
  refine iQ 8 (iE 18 [(4, Ba false)] [] ?_)
  have h0 : l = [] := List.eq_nil_of_length_eq_zero (by omega)
  refine vc_ret (iR (Bv false) ?_)
  subst h0; exact ⟨_, rfl, by simp⟩
 ·replace hc9 := bt hc9
  refine iQ 2 (iL .len [9] [.string (⟨#[45]⟩)] (some 13) ?_)
  intro n13 hn13
  have e13 : n13 = 1 := hn13
  refine iY 9 (tx l) (0) ((n13 : Nat)) (some 14) ?_
  refine And.intro (by rw [tx_size]; omega) ?_
  intro s14 hs14
  have hl14 := sz_ext hs14 (by rw [tx_size]; omega)
  refine iQ 1 (iB .eql 9 (.string s14) (.string (⟨#[45]⟩)) (some 16) ?_)
  intro c16 hc16
  refine iQ 2 (iE 18 [(4, Ba c16)] [] ?_)
  refine vc_ret (iR (Bv c16) ?_)
  exact ⟨_, rfl, by rw [hc16, hs14, e13]; exact one_txM (fun e => by rw [e] at e6; simp at e6; omega)⟩
theorem c_trimML {l : L8} : HasC Tryz.prog 90 [.v (.string (tx l)), .v (.string (⟨#[45]⟩))] (fun r => r = .v (.string (tx (unsS l).1))) := by
 refine HasC.of [] (fn := Tryz.f90) tyOk mixed (fun args w => Tryz.call90 args w) Tryz.func90 rfl (by kernel_rfl) (Nat.le_of_ble_eq_true rfl) (⟨_, rfl⟩) ?_
 refine vc_seqr rfl (iQ 1 (iE 13 [(0, .d (Sv (tx l))), (1, .d (Sv (⟨#[45]⟩))), (4, .d (Sv (⟨#[]⟩)))] [] ?_))
 refine vc_seq (vc_seqr rfl (iQ 2 (iC 138 [Sv (tx l), Sv (⟨#[45]⟩)] (some 7) (c_hasM) ?_)))
 rintro _ ⟨b, rfl, hb⟩
 refine iE 13 [(0, .d (Sv (tx l))), (1, .d (Sv (⟨#[45]⟩))), (4, .d (Sv (⟨#[]⟩))), (7, Ba b)] [] ?_
 cases b
 ·replace hb := bf hb
  refine iF (vc_skip (seq_n (vc_seqr rfl (iQ 2 (iE 13 [(0, .d (Sv (tx l))), (1, .d (Sv (⟨#[45]⟩))), (4, .d (Sv (tx l))), (7, Ba false)] [] ?_)))))
  refine vc_ret (iR (Sv (tx l)) ?_)
  rw [unsS, if_neg hb]
 ·replace hb := bt hb
  refine iT (vc_seqr rfl (iQ 2 (iL .len [9] [.string (⟨#[45]⟩)] (some 10) ?_)))
  intro n10 hn10
  have e10 : n10 = 1 := hn10
  have hl : 1 ≤ l.length := by cases l with | nil => cases hb | cons c r => simp
  refine iY 9 (tx l) ((n10 : Nat)) (((tx l : ByteArray).size : Int)) (some 11) ?_
  refine And.intro (by rw [tx_size]; omega) ?_
  intro s11 hs11
  have hl11 := sz_ext hs11 (by rw [tx_size]; omega)
  refine iQ 1 (iE 13 [(0, .d (Sv (tx l))), (1, .d (Sv (⟨#[45]⟩))), (4, .d (Sv s11)), (7, Ba true)] [] ?_)
  refine vc_ret (seq_r (iR (Sv s11) ?_))
  rw [hs11, e10, tx_extract, unsS, if_pos hb]; cases l with | nil => rfl | cons c r => simp [List.take_of_length_le]
theorem c_trimM {l : L8} : HasC Tryz.prog 55 [.v (.string (tx l)), .v (.string (⟨#[45]⟩))] (fun r => r = .v (.string (tx (unsS l).1))) := by
 refine HasC.of [] (fn := Tryz.f55) tyOk mixed (fun args w => Tryz.call55 args w) Tryz.func55 rfl (by kernel_rfl) (Nat.le_of_ble_eq_true rfl) (⟨_, rfl⟩) ?_
 refine vc_seqr rfl (iQ 1 (iE 8 [(0, .d (Sv (tx l))), (1, .d (Sv (⟨#[45]⟩))), (4, .d (Sv (⟨#[]⟩)))] [] ?_))
 refine vc_seqr rfl (iQ 2 (iC 90 [Sv (tx l), Sv (⟨#[45]⟩)] (some 7) (c_trimML) ?_))
 rintro _ rfl
 refine iQ 1 (iE 8 [(4, .d (Sv (tx (unsS l).1)))] [] ?_)
 refine vc_ret (iR (Sv (tx (unsS l).1)) ?_)
 rfl

def NumP (lo hi : Nat) (l : L8) (r : DV) : Prop := ∃ (n : Nat) (b : Bool), r = .tup [.v (.int .i64 (n : Int)), .v (.bool b)] ∧ (b = true ∧ numS lo hi l = some n ∨ b = false ∧ numS lo hi l = none ∧ n = 0)
theorem NumP_no {lo hi : Nat} {l : L8} (h : ¬ (lo ≤ l.length ∧ l.length ≤ hi ∧ l.all isDg = true)) : NumP lo hi l (.tup [.v (.int .i64 0), .v (.bool false)]) := ⟨0, false, rfl, .inr ⟨rfl, by rw [numS, if_neg h], rfl⟩⟩
theorem NumP_yes {lo hi n : Nat} {l : L8} (h : lo ≤ l.length ∧ l.length ≤ hi ∧ l.all isDg = true) (hn : n = nvL l) : NumP lo hi l (.tup [.v (.int .i64 (n : Int)), .v (.bool true)]) := ⟨n, true, rfl, .inl ⟨rfl, by rw [numS, if_pos h, hn]⟩⟩
theorem NumP_ex (lo hi : Nat) (l : L8) : ∃ r, NumP lo hi l r := by
  by_cases h : lo ≤ l.length ∧ l.length ≤ hi ∧ l.all isDg = true
  · exact ⟨_, NumP_yes h rfl⟩
  · exact ⟨_, NumP_no h⟩
theorem c_number {l : L8} {lo hi : Nat} (hh : hi ≤ 15) : HasC Tryz.prog 152 [.v (.string (tx l)), .v (.int .i64 ((lo : Int))), .v (.int .i64 ((hi : Int)))] (NumP lo hi l) := by
 refine HasC.of [] (fn := Tryz.f152) tyOk mixed (fun args w => Tryz.call152 args w) Tryz.func152 rfl (by kernel_rfl) (Nat.le_of_ble_eq_true rfl) (NumP_ex lo hi l) ?_
 refine vc_seqr rfl (iQ 2 (iE 39 [(0, .d (Sv (tx l))), (1, Ia ((lo : Int))), (2, Ia ((hi : Int))), (6, Ia 0), (7, Ba false)] [] ?_))
 refine vc_seq (vc_seqr rfl (iQ 1 (iL .len [9] [.string (tx l)] (some 12) ?_)))
 intro n12 hn12
 have e12 : n12 = l.length := by rw [hn12]; exact tx_size l
 refine iQ 1 (iB .lss 3 (.int .i64 ((n12 : Nat))) (.int .i64 ((lo : Int))) (some 14) ?_)
 intro c14 hc14
 refine iQ 1 ?_
 cases c14
 ·replace hc14 := bf hc14
  refine iQ 1 (iL .len [9] [.string (tx l)] (some 17) ?_)
  intro n17 hn17
  have e17 : n17 = l.length := by rw [hn17]; exact tx_size l
  refine iQ 1 (iB .gtr 3 (.int .i64 ((n17 : Nat))) (.int .i64 ((hi : Int))) (some 19) ?_)
  intro c19 hc19
  refine iQ 1 (iE 39 [(0, .d (Sv (tx l))), (6, Ia 0), (7, Ba false), (20, Ba c19)] [] ?_)
  cases c19
  ·replace hc19 := bf hc19
   refine iF (vc_skip (seq_n (vc_seqr rfl (iQ 1 (iE 39 [(0, .d (Sv (tx l))), (6, Ia 0), (7, Ba false), (8, Ia 0), (20, Ba false)] [] ?_)))))
   refine vc_seq (vc_seqr rfl (iQ 1 (iG (tx l) 22 ?_)))
   refine iE 39 [(0, .d (Sv (tx l))), (6, Ia 0), (7, Ba false), (8, Ia 0), (20, Ba false), (22, .p 22 0)] [(22, [.tup [Sv (tx l), Iv 0]])] ?_
   refine vc_block (vc_loop 39 (fun (vcx : Nat × Int) => match vcx with | (m, p) => [(0, .d (Sv (tx l))), (6, Ia 0), (7, Ba false), (8, Ia ((m : Int))), (20, Ba false), (22, .p 22 0)]) (fun (vcx : Nat × Int) => match vcx with | (m, p) => [(22, [.tup [Sv (tx l), Iv p]])]) (fun (vcx : Nat × Int) => match vcx with | (m, p) => 0 ≤ p ∧ p ≤ l.length ∧ m = nvL (l.take p.toNat) ∧ (l.take p.toNat).all isDg = true) (fun (vcx : Nat × Int) => match vcx with | (m, p) => l.length - p.toNat) ((0, 0)) (⟨by omega, by omega, rfl, rfl⟩) (by kernel_rfl) (by kernel_rfl) ?_)
   rintro ⟨m, p⟩ hinv
   simp only at hinv
   obtain ⟨h1, h2, h3, h4⟩ := hinv
   refine vc_seqr rfl ?_
   refine iN 22 (tx l) (p) 23 (by omega) ?_ ?_
   ·intro hp23 c23 q23 w23 hn23 hq23
    refine iQ 1 (iE 39 [(0, .d (Sv (tx l))), (6, Ia 0), (7, Ba false), (8, Ia ((m : Int))), (20, Ba false), (22, .p 22 0), (23, .d (.tup [Bv true, Iv p, .v (.int .i32 c23)])), (24, Ba true)] [(22, [.tup [Sv (tx l), Iv q23]])] ?_)
    have hpl : p.toNat < l.length := by have := tx_size l; omega
    have hg := List.getElem?_eq_getElem hpl
    have hcd : 48 ≤ c23 ∧ c23 ≤ 57 ↔ isD (tx l) p.toNat := rd_digit hn23 h1 hp23
    rw [isD_tx hg] at hcd
    refine vc_seq (iT (vc_skip (seq_n (vc_block (vc_seqr rfl (iQ 2 (iE 39 [(0, .d (Sv (tx l))), (6, Ia 0), (7, Ba false), (8, Ia ((m : Int))), (10, .d (.v (.int .i32 c23))), (20, Ba false), (22, .p 22 0), (23, .d (.tup [Bv true, Iv p, .v (.int .i32 c23)])), (24, Ba true)] [(22, [.tup [Sv (tx l), Iv q23]])] ?_)))))))
    refine vc_seq (vc_seqr rfl (iQ 1 (iB .lss 21 (.int .i32 c23) (.int .i32 48) (some 27) ?_)))
    intro c27 hc27
    refine iQ 1 ?_
    cases c27
    ·replace hc27 := bf hc27
     refine iQ 1 (iB .gtr 21 (.int .i32 c23) (.int .i32 57) (some 30) ?_)
     intro c30 hc30
     refine iQ 1 (iE 39 [(0, .d (Sv (tx l))), (6, Ia 0), (7, Ba false), (8, Ia ((m : Int))), (10, .d (.v (.int .i32 c23))), (20, Ba false), (22, .p 22 0), (23, .d (.tup [Bv true, Iv p, .v (.int .i32 c23)])), (24, Ba true), (31, Ba c30)] [(22, [.tup [Sv (tx l), Iv q23]])] ?_)
     cases c30
     ·replace hc30 := bf hc30
      have hd := hcd.1 ⟨by omega, by omega⟩
      have hd2 := isDg_iff.1 hd
      have hba := bAt_tx l p.toNat
      rw [hg] at hba
      simp only [Option.getD_some] at hba
      obtain ⟨hc, hw⟩ := hn23.low h1 hp23 (by omega)
      have hm := nvL_lt (k := 15) h4 (by rw [List.length_take]; omega)
      have hm2 : m < 10 ^ 15 := by omega
      refine iF (vc_skip (seq_n (vc_reg rfl (iQ 1 (iB .mul 3 (.int .i64 10) (.int .i64 ((m : Int))) (some 33) ?_)))))
      intro z33 hz33
      try replace hz33 := hz33.i64 (by omega)
      refine iQ 1 (iB .sub 21 (.int .i32 c23) (.int .i32 48) (some 35) ?_)
      intro z35 hz35
      try replace hz35 := hz35.i32 (by omega)
      refine iV 21 3 (.int .i32 z35) (some 36) ?_
      intro z36 hz36
      try replace hz36 := hz36.i64 (by omega)
      refine iB .add 3 (.int .i64 z33) (.int .i64 z36) (some 37) ?_
      intro z37 hz37
      try replace hz37 := hz37.i64 (by omega)
      refine iQ 1 (iE 39 [(0, .d (Sv (tx l))), (6, Ia 0), (7, Ba false), (8, Ia z37), (10, .d (.v (.int .i32 c23))), (20, Ba false), (22, .p 22 0), (23, .d (.tup [Bv true, Iv p, .v (.int .i32 c23)])), (24, Ba true), (31, Ba false)] [(22, [.tup [Sv (tx l), Iv q23]])] ?_)
      refine block_n ?_
      obtain rfl : z37 = ((m * 10 + ((l[p.toNat]'hpl).toNat - 48) : Nat) : Int) := by omega
      refine loop_n (m * 10 + ((l[p.toNat]'hpl).toNat - 48), q23) (⟨by omega, by omega, by rw [hq23, hw, show (p + ((1 : Nat) : Int)).toNat = p.toNat + 1 by omega, nvL_take hg, h3], by rw [hq23, hw, show (p + ((1 : Nat) : Int)).toNat = p.toNat + 1 by omega]; exact take_snoc_all hg h4 hd⟩) (by show l.length - q23.toNat < l.length - p.toNat; omega) (by kernel_rfl) (by kernel_rfl)
     ·replace hc30 := bt hc30
      refine iT (vc_seqr rfl (iQ 2 (iE 39 [(0, .d (Sv (tx l))), (6, Ia 0), (7, Ba false), (8, Ia ((m : Int))), (10, .d (.v (.int .i32 c23))), (20, Ba false), (22, .p 22 0), (23, .d (.tup [Bv true, Iv p, .v (.int .i32 c23)])), (24, Ba true), (31, Ba true)] [(22, [.tup [Sv (tx l), Iv q23]])] ?_)))
      refine vc_ret (seq_r (block_r (loop_r (block_r (seq_r (iS (Iv 0) (Bv false) [] ?_))))))
      exact NumP_no (fun h => all_not hg (b_false fun e => by have := hcd.2 e; omega) h.2.2)
    ·replace hc27 := bt hc27
     refine iQ 3 (iE 39 [(0, .d (Sv (tx l))), (6, Ia 0), (7, Ba false), (8, Ia ((m : Int))), (10, .d (.v (.int .i32 c23))), (20, Ba false), (22, .p 22 0), (23, .d (.tup [Bv true, Iv p, .v (.int .i32 c23)])), (24, Ba true), (31, Ba true)] [(22, [.tup [Sv (tx l), Iv q23]])] ?_)
     refine iT (vc_seqr rfl (iQ 2 (iE 39 [(0, .d (Sv (tx l))), (6, Ia 0), (7, Ba false), (8, Ia ((m : Int))), (10, .d (.v (.int .i32 c23))), (20, Ba false), (22, .p 22 0), (23, .d (.tup [Bv true, Iv p, .v (.int .i32 c23)])), (24, Ba true), (31, Ba true)] [(22, [.tup [Sv (tx l), Iv q23]])] ?_)))
     refine vc_ret (seq_r (block_r (loop_r (block_r (seq_r (iS (Iv 0) (Bv false) [] ?_))))))
     exact NumP_no (fun h => all_not hg (b_false fun e => by have := hcd.2 e; omega) h.2.2)
   ·intro hp23 
    refine iQ 1 (iE 39 [(0, .d (Sv (tx l))), (6, Ia 0), (7, Ba false), (8, Ia ((m : Int))), (20, Ba false), (22, .p 22 0), (23, .d (.tup [Bv false])), (24, Ba false)] [(22, [.tup [Sv (tx l), Iv p]])] ?_)
    have hp : p.toNat = l.length := by have := tx_size l; omega
    rw [hp, List.take_of_length_le (Nat.le_refl _)] at h3 h4
    refine vc_seq (iF (vc_exit (seq_x (loop_x (block_x rfl (seq_n (vc_seqr rfl (iQ 3 (iE 39 [(0, .d (Sv (tx l))), (6, Ia ((m : Int))), (7, Ba true), (8, Ia ((m : Int))), (20, Ba false), (22, .p 22 0), (23, .d (.tup [Bv false])), (24, Ba false)] [(22, [.tup [Sv (tx l), Iv p]])] ?_)))))))))
    refine vc_ret (iS (Iv ((m : Int))) (Bv true) [] ?_)
    exact NumP_yes ⟨by omega, by omega, h4⟩ h3
  ·replace hc19 := bt hc19
   refine iT (vc_seqr rfl (iQ 2 (iE 39 [(0, .d (Sv (tx l))), (6, Ia 0), (7, Ba false), (20, Ba true)] [] ?_)))
   refine vc_ret (seq_r (iS (Iv 0) (Bv false) [] ?_))
   exact NumP_no (by omega)
 ·replace hc14 := bt hc14
  refine iQ 5 (iE 39 [(0, .d (Sv (tx l))), (6, Ia 0), (7, Ba false), (20, Ba true)] [] ?_)
  refine iT (vc_seqr rfl (iQ 2 (iE 39 [(0, .d (Sv (tx l))), (6, Ia 0), (7, Ba false), (20, Ba true)] [] ?_)))
  refine vc_ret (seq_r (iS (Iv 0) (Bv false) [] ?_))
  exact NumP_no (by omega)
theorem c_numberE {l : L8} {s : ByteArray} {lo hi : Nat} (hs : s = tx l) (hh : hi ≤ 15) : HasC Tryz.prog 152 [.v (.string s), .v (.int .i64 (lo : Int)), .v (.int .i64 (hi : Int))] (NumP lo hi l) := by subst hs; exact c_number hh
theorem isDg_more {l : L8} {k : Nat} {c : UInt8} (h : ∀ i x, i < k → l[i]? = some x → isDg x = true) (hg : l[k]? = some c) (hc : isDg c = true) : ∀ i x, i < k + 1 → l[i]? = some x → isDg x = true := fun i x hi hx => by
  by_cases e : i = k
  · subst e
    rw [hg] at hx
    cases hx
    exact hc
  · exact h i x (by omega) hx
def TkP (most : Nat) (l : L8) (c : UInt8) (t : Nat) (r : DV) : Prop := ∃ (n : Nat) (l' : L8) (b : Bool), r = .tup [.v (.int .i64 (n : Int)), .v (.string (tx l')), .v (.bool b)] ∧ (b = true ∧ takesS most l c t = some (n, l') ∨ b = false ∧ takesS most l c t = none ∧ n = 0 ∧ l' = l)
theorem TkP_no {most : Nat} {l : L8} {c : UInt8} {t : Nat} (h : ¬ (l[ndg l]? = some c ∧ 1 ≤ ndg l ∧ ndg l ≤ most)) : TkP most l c t (.tup [.v (.int .i64 0), .v (.string (tx l)), .v (.bool false)]) := ⟨0, l, false, rfl, .inr ⟨rfl, by rw [takesS, if_neg h], rfl, rfl⟩⟩
theorem TkP_yes {most n t : Nat} {l : L8} {c : UInt8} {s : ByteArray} (h : l[ndg l]? = some c ∧ 1 ≤ ndg l ∧ ndg l ≤ most) (hn : n = nvL (l.take (ndg l)) * t) (hs : s = tx (l.drop (ndg l + 1))) : TkP most l c t (.tup [.v (.int .i64 (n : Int)), .v (.string s), .v (.bool true)]) :=
  ⟨n, l.drop (ndg l + 1), true, by rw [hs], .inl ⟨rfl, by rw [takesS, if_pos h, hn]⟩⟩
theorem TkP_ex (most : Nat) (l : L8) (c : UInt8) (t : Nat) : ∃ r, TkP most l c t r := by
  by_cases h : l[ndg l]? = some c ∧ 1 ≤ ndg l ∧ ndg l ≤ most
  · exact ⟨_, TkP_yes h rfl rfl⟩
  · exact ⟨_, TkP_no h⟩
theorem sl1 {l : L8} {k : Nat} (h : k < l.length) : (tx l).extract k (k + 1) = tx [l[k]] := by
  rw [tx_extract, show k + 1 - k = 1 by omega, List.drop_eq_getElem_cons h]
  rfl
theorem sl1_iff {l : L8} {k : Nat} {c : UInt8} {s : ByteArray} (h : k < l.length) (hs : s = (tx l).extract k (k + 1)) : s = tx [c] ↔ l[k]? = some c := by
  rw [hs, sl1 h, tx_iff, List.getElem?_eq_getElem h]
  simp
theorem numS_take {l : L8} {k lo hi n : Nat} (h : numS lo hi (l.take k) = some n) (hk : k ≤ l.length) : lo ≤ k ∧ k ≤ hi ∧ n = nvL (l.take k) := by
  unfold numS at h
  split at h
  · rename_i hc
    rw [List.length_take] at hc
    simp at h
    exact ⟨by omega, by omega, h.symm⟩
  · cases h
theorem numS_none {l : L8} {k lo hi : Nat} (h : numS lo hi (l.take k) = none) (hk : k ≤ ndg l) : ¬ (lo ≤ k ∧ k ≤ hi) := fun hc => by
  have := ndg_le l
  unfold numS at h
  rw [if_pos ⟨by rw [List.length_take]; omega, by rw [List.length_take]; omega, take_all hk⟩] at h
  cases h

set_option maxHeartbeats 800000 in
theorem c_takes {l : L8} {c : UInt8} {t most : Nat} (hm : most ≤ 15) (ht : 10 ^ most * t ≤ 100000000000000000) (hL : l.length ≤ 9223372036854775807) : HasC Tryz.prog 190 [.v (.string (tx l)), .v (.string (tx [c])), .v (.int .i64 ((t : Int))), .v (.int .i64 ((most : Int)))] (TkP most l c t) := by
 refine HasC.of [] (fn := Tryz.f190) tyOk mixed (fun args w => Tryz.call190 args w) Tryz.func190 rfl (by kernel_rfl) (Nat.le_of_ble_eq_true rfl) (TkP_ex most l c t) ?_
 refine vc_seqr rfl (iQ 3 (iE 64 [(0, .d (Sv (tx l))), (1, .d (Sv (tx [c]))), (2, Ia ((t : Int))), (3, Ia ((most : Int))), (8, Ia 0), (9, .d (Sv (⟨#[]⟩))), (10, Ba false)] [] ?_))
 refine vc_seqr rfl (iQ 1 (iE 64 [(0, .d (Sv (tx l))), (1, .d (Sv (tx [c]))), (2, Ia ((t : Int))), (3, Ia ((most : Int))), (8, Ia 0), (9, .d (Sv (⟨#[]⟩))), (10, Ba false), (11, Ia 0)] [] ?_))
 refine vc_seq (vc_block (vc_loop 64 (fun (vcx : Nat) => match vcx with | k => [(0, .d (Sv (tx l))), (1, .d (Sv (tx [c]))), (2, Ia ((t : Int))), (3, Ia ((most : Int))), (8, Ia 0), (9, .d (Sv (⟨#[]⟩))), (10, Ba false), (11, Ia ((k : Int)))]) (fun (vcx : Nat) => match vcx with | k => []) (fun (vcx : Nat) => match vcx with | k => k ≤ l.length ∧ ∀ i x, i < k → l[i]? = some x → isDg x = true) (fun (vcx : Nat) => match vcx with | k => l.length - k) 0 (⟨by omega, fun i x h => by omega⟩) (by kernel_rfl) (by kernel_rfl) ?_))
 rintro k hinv
 simp only at hinv
 obtain ⟨h1, h2⟩ := hinv
 refine vc_seq (vc_seqr rfl (iQ 2 (iL .len [9] [.string (tx l)] (some 16) ?_)))
 intro n16 hn16
 have e16 : n16 = l.length := by rw [hn16]; exact tx_size l
 refine iB .lss 3 (.int .i64 ((k : Int))) (.int .i64 ((n16 : Nat))) (some 17) ?_
 intro c17 hc17
 refine iQ 1 ?_
 cases c17
 ·replace hc17 := bf hc17
  refine iQ 11 (iE 64 [(0, .d (Sv (tx l))), (1, .d (Sv (tx [c]))), (2, Ia ((t : Int))), (3, Ia ((most : Int))), (8, Ia 0), (9, .d (Sv (⟨#[]⟩))), (10, Ba false), (11, Ia ((k : Int))), (29, Ba false)] [] ?_)
  have hk : ndg l = k := ndg_unique h1 h2 (fun x hx => by have := (List.getElem?_eq_some_iff.1 hx).1; omega)
  refine iF (vc_exit (seq_x (loop_x (block_x rfl (seq_n (vc_seq (vc_seqr rfl (iQ 2 (iL .len [9] [.string (tx l)] (some 34) ?_)))))))))
  intro n34 hn34
  refine iB .eql 3 (.int .i64 ((k : Int))) (.int .i64 ((n34 : Nat))) (some 35) ?_
  intro c35 hc35
  refine iQ 1 ?_
  cases c35
  ·replace hc35 := bf hc35
   refine iQ 3 (iB .add 3 (.int .i64 ((k : Int))) (.int .i64 1) (some 40) ?_)
   intro z40 hz40
   try replace hz40 := hz40.i64 (by omega)
   have hkl : k < l.length := by omega
   refine iY 9 (tx l) ((k : Int)) (z40) (some 41) ?_
   refine And.intro (by rw [tx_size]; omega) ?_
   intro s41 hs41
   have hl41 := sz_ext hs41 (by rw [tx_size]; omega)
   have e41 := sl1_iff (s := s41) (c := c) hkl (by rw [hs41, Int.toNat_natCast, show z40.toNat = k + 1 by omega])
   refine iQ 1 (iB .neq 9 (.string s41) (.string (tx [c])) (some 43) ?_)
   intro c43 hc43
   refine iQ 1 (iE 64 [(0, .d (Sv (tx l))), (2, Ia ((t : Int))), (3, Ia ((most : Int))), (8, Ia 0), (9, .d (Sv (⟨#[]⟩))), (10, Ba false), (11, Ia ((k : Int))), (29, Ba false), (44, Ba c43)] [] ?_)
   cases c43
   ·replace hc43 := bf hc43
    have hc : l[ndg l]? = some c := by rw [hk]; exact e41.1 (by simpa using hc43)
    refine iF (vc_skip (seq_n (vc_seqr rfl (iQ 2 (iY 9 (tx l) (0) ((k : Int)) (some 49) ?_)))))
    refine And.intro (by rw [tx_size]; omega) ?_
    intro s49 hs49
    have hl49 := sz_ext hs49 (by rw [tx_size]; omega)
    have e49 : s49 = tx (l.take k) := by rw [hs49, tx_extract]; simp
    refine iQ 1 (iC 152 [Sv s49, Iv 1, Iv ((most : Int))] (some 51) (c_numberE (lo := 1) e49 hm) ?_)
    rintro _ ⟨n, b, rfl, hb⟩
    refine iQ 5 (iE 64 [(0, .d (Sv (tx l))), (2, Ia ((t : Int))), (8, Ia 0), (9, .d (Sv (⟨#[]⟩))), (10, Ba false), (11, Ia ((k : Int))), (12, Ia ((n : Int))), (13, Ba b), (29, Ba false), (44, Ba false)] [] ?_)
    refine vc_seq (vc_seqr rfl (iQ 1 (iU .not (.bool b) (some 55) ?_)))
    intro c55 hc55
    refine iE 64 [(0, .d (Sv (tx l))), (2, Ia ((t : Int))), (8, Ia 0), (9, .d (Sv (⟨#[]⟩))), (10, Ba false), (11, Ia ((k : Int))), (12, Ia ((n : Int))), (29, Ba false), (44, Ba false), (55, Ba c55)] [] ?_
    cases c55
    ·replace hc55 := bf hc55
     have hn : numS 1 most (l.take k) = some n := or_t hb hc55
     obtain ⟨n1, n2, n3⟩ := numS_take hn (by omega)
     have n4 : n < 10 ^ most := by rw [n3]; exact nvL_lt (take_all (by omega)) (by rw [List.length_take]; omega)
     have n5 : n * t ≤ 10 ^ most * t := Nat.mul_le_mul_right _ (by omega)
     refine iF (vc_skip (seq_n (vc_seqr rfl (iQ 2 (iB .mul 3 (.int .i64 ((n : Int))) (.int .i64 ((t : Int))) (some 59) ?_)))))
     intro z59 hz59
     try replace hz59 := hz59.i64 (by omega)
     have e59 : z59 = ((n * t : Nat) : Int) := by rw [hz59]; exact (Int.natCast_mul n t).symm
     refine iQ 2 (iB .add 3 (.int .i64 ((k : Int))) (.int .i64 1) (some 62) ?_)
     intro z62 hz62
     try replace hz62 := hz62.i64 (by omega)
     refine iY 9 (tx l) (z62) (((tx l : ByteArray).size : Int)) (some 63) ?_
     refine And.intro (by rw [tx_size]; omega) ?_
     intro s63 hs63
     have hl63 := sz_ext hs63 (by rw [tx_size]; omega)
     refine iQ 3 (iE 64 [(0, .d (Sv (tx l))), (8, Ia z59), (9, .d (Sv s63)), (10, Ba true), (11, Ia ((k : Int))), (29, Ba false), (44, Ba false), (55, Ba false)] [] ?_)
     refine vc_ret (iS (Iv z59) (Sv s63) [Bv true] ?_)
     rw [e59]; exact TkP_yes (n := n * t) (s := s63) ⟨hc, by omega, by omega⟩ (by rw [hk, n3]) (by rw [hs63, tx_extract, tx_size, hk, show z62.toNat = k + 1 by omega, List.take_of_length_le (by rw [List.length_drop]; omega)])
    ·replace hc55 := bt hc55
     have hn : numS 1 most (l.take k) = none := (or_f hb hc55).1
     refine iT (vc_seqr rfl (iQ 4 (iE 64 [(0, .d (Sv (tx l))), (2, Ia ((t : Int))), (8, Ia 0), (9, .d (Sv (tx l))), (10, Ba false), (11, Ia ((k : Int))), (12, Ia ((n : Int))), (29, Ba false), (44, Ba false), (55, Ba true)] [] ?_)))
     refine vc_ret (seq_r (iS (Iv 0) (Sv (tx l)) [Bv false] ?_))
     exact TkP_no (fun h => numS_none hn (by omega) ⟨by omega, by omega⟩)
   ·replace hc43 := bt hc43
    refine iT (vc_seqr rfl (iQ 4 (iE 64 [(0, .d (Sv (tx l))), (2, Ia ((t : Int))), (3, Ia ((most : Int))), (8, Ia 0), (9, .d (Sv (tx l))), (10, Ba false), (11, Ia ((k : Int))), (29, Ba false), (44, Ba true)] [] ?_)))
    refine vc_ret (seq_r (iS (Iv 0) (Sv (tx l)) [Bv false] ?_))
    exact TkP_no (fun h => hc43 (e41.2 (by rw [← hk]; exact h.1)))
  ·replace hc35 := bt hc35
   refine iQ 8 (iE 64 [(0, .d (Sv (tx l))), (2, Ia ((t : Int))), (3, Ia ((most : Int))), (8, Ia 0), (9, .d (Sv (⟨#[]⟩))), (10, Ba false), (11, Ia ((k : Int))), (29, Ba false), (44, Ba true)] [] ?_)
   refine iT (vc_seqr rfl (iQ 4 (iE 64 [(0, .d (Sv (tx l))), (2, Ia ((t : Int))), (3, Ia ((most : Int))), (8, Ia 0), (9, .d (Sv (tx l))), (10, Ba false), (11, Ia ((k : Int))), (29, Ba false), (44, Ba true)] [] ?_)))
   refine vc_ret (seq_r (iS (Iv 0) (Sv (tx l)) [Bv false] ?_))
   exact TkP_no (fun h => by have := (List.getElem?_eq_some_iff.1 h.1).1; omega)
 ·replace hc17 := bt hc17
  refine iQ 2 (iX 9 (.string (tx l)) (.int .i64 ((k : Int))) (some 21) ?_)
  have hlt : k < l.length := by omega
  have hg := List.getElem?_eq_getElem hlt
  refine And.intro (by rw [tx_size]; omega) ?_
  intro z21 hz21
  have e21 : z21 = ((l[k]'hlt).toNat : Int) := by rw [hz21]; exact strAt_tx hg
  refine iB .geq 5 (.int .u8 z21) (.int .u8 48) (some 22) ?_
  intro c22 hc22
  refine iQ 2 ?_
  cases c22
  ·replace hc22 := bf hc22
   refine iQ 5 (iE 64 [(0, .d (Sv (tx l))), (1, .d (Sv (tx [c]))), (2, Ia ((t : Int))), (3, Ia ((most : Int))), (8, Ia 0), (9, .d (Sv (⟨#[]⟩))), (10, Ba false), (11, Ia ((k : Int))), (29, Ba false)] [] ?_)
   have hk : ndg l = k := ndg_unique h1 h2 (fun x hx => by rw [hg] at hx; cases hx; exact b_false fun e => by have := isDg_iff.1 e; omega)
   refine iF (vc_exit (seq_x (loop_x (block_x rfl (seq_n (vc_seq (vc_seqr rfl (iQ 2 (iL .len [9] [.string (tx l)] (some 34) ?_)))))))))
   intro n34 hn34
   refine iB .eql 3 (.int .i64 ((k : Int))) (.int .i64 ((n34 : Nat))) (some 35) ?_
   intro c35 hc35
   refine iQ 1 ?_
   cases c35
   ·replace hc35 := bf hc35
    refine iQ 3 (iB .add 3 (.int .i64 ((k : Int))) (.int .i64 1) (some 40) ?_)
    intro z40 hz40
    try replace hz40 := hz40.i64 (by omega)
    have hkl : k < l.length := by omega
    refine iY 9 (tx l) ((k : Int)) (z40) (some 41) ?_
    refine And.intro (by rw [tx_size]; omega) ?_
    intro s41 hs41
    have hl41 := sz_ext hs41 (by rw [tx_size]; omega)
    have e41 := sl1_iff (s := s41) (c := c) hkl (by rw [hs41, Int.toNat_natCast, show z40.toNat = k + 1 by omega])
    refine iQ 1 (iB .neq 9 (.string s41) (.string (tx [c])) (some 43) ?_)
    intro c43 hc43
    refine iQ 1 (iE 64 [(0, .d (Sv (tx l))), (2, Ia ((t : Int))), (3, Ia ((most : Int))), (8, Ia 0), (9, .d (Sv (⟨#[]⟩))), (10, Ba false), (11, Ia ((k : Int))), (29, Ba false), (44, Ba c43)] [] ?_)
    cases c43
    ·replace hc43 := bf hc43
     have hc : l[ndg l]? = some c := by rw [hk]; exact e41.1 (by simpa using hc43)
     refine iF (vc_skip (seq_n (vc_seqr rfl (iQ 2 (iY 9 (tx l) (0) ((k : Int)) (some 49) ?_)))))
     refine And.intro (by rw [tx_size]; omega) ?_
     intro s49 hs49
     have hl49 := sz_ext hs49 (by rw [tx_size]; omega)
     have e49 : s49 = tx (l.take k) := by rw [hs49, tx_extract]; simp
     refine iQ 1 (iC 152 [Sv s49, Iv 1, Iv ((most : Int))] (some 51) (c_numberE (lo := 1) e49 hm) ?_)
     rintro _ ⟨n, b, rfl, hb⟩
     refine iQ 5 (iE 64 [(0, .d (Sv (tx l))), (2, Ia ((t : Int))), (8, Ia 0), (9, .d (Sv (⟨#[]⟩))), (10, Ba false), (11, Ia ((k : Int))), (12, Ia ((n : Int))), (13, Ba b), (29, Ba false), (44, Ba false)] [] ?_)
     refine vc_seq (vc_seqr rfl (iQ 1 (iU .not (.bool b) (some 55) ?_)))
     intro c55 hc55
     refine iE 64 [(0, .d (Sv (tx l))), (2, Ia ((t : Int))), (8, Ia 0), (9, .d (Sv (⟨#[]⟩))), (10, Ba false), (11, Ia ((k : Int))), (12, Ia ((n : Int))), (29, Ba false), (44, Ba false), (55, Ba c55)] [] ?_
     cases c55
     ·replace hc55 := bf hc55
      have hn : numS 1 most (l.take k) = some n := or_t hb hc55
      obtain ⟨n1, n2, n3⟩ := numS_take hn (by omega)
      have n4 : n < 10 ^ most := by rw [n3]; exact nvL_lt (take_all (by omega)) (by rw [List.length_take]; omega)
      have n5 : n * t ≤ 10 ^ most * t := Nat.mul_le_mul_right _ (by omega)
      refine iF (vc_skip (seq_n (vc_seqr rfl (iQ 2 (iB .mul 3 (.int .i64 ((n : Int))) (.int .i64 ((t : Int))) (some 59) ?_)))))
      intro z59 hz59
      try replace hz59 := hz59.i64 (by omega)
      have e59 : z59 = ((n * t : Nat) : Int) := by rw [hz59]; exact (Int.natCast_mul n t).symm
      refine iQ 2 (iB .add 3 (.int .i64 ((k : Int))) (.int .i64 1) (some 62) ?_)
      intro z62 hz62
      try replace hz62 := hz62.i64 (by omega)
      refine iY 9 (tx l) (z62) (((tx l : ByteArray).size : Int)) (some 63) ?_
      refine And.intro (by rw [tx_size]; omega) ?_
      intro s63 hs63
      have hl63 := sz_ext hs63 (by rw [tx_size]; omega)
      refine iQ 3 (iE 64 [(0, .d (Sv (tx l))), (8, Ia z59), (9, .d (Sv s63)), (10, Ba true), (11, Ia ((k : Int))), (29, Ba false), (44, Ba false), (55, Ba false)] [] ?_)
      refine vc_ret (iS (Iv z59) (Sv s63) [Bv true] ?_)
      rw [e59]; exact TkP_yes (n := n * t) (s := s63) ⟨hc, by omega, by omega⟩ (by rw [hk, n3]) (by rw [hs63, tx_extract, tx_size, hk, show z62.toNat = k + 1 by omega, List.take_of_length_le (by rw [List.length_drop]; omega)])
     ·replace hc55 := bt hc55
      have hn : numS 1 most (l.take k) = none := (or_f hb hc55).1
      refine iT (vc_seqr rfl (iQ 4 (iE 64 [(0, .d (Sv (tx l))), (2, Ia ((t : Int))), (8, Ia 0), (9, .d (Sv (tx l))), (10, Ba false), (11, Ia ((k : Int))), (12, Ia ((n : Int))), (29, Ba false), (44, Ba false), (55, Ba true)] [] ?_)))
      refine vc_ret (seq_r (iS (Iv 0) (Sv (tx l)) [Bv false] ?_))
      exact TkP_no (fun h => numS_none hn (by omega) ⟨by omega, by omega⟩)
    ·replace hc43 := bt hc43
     refine iT (vc_seqr rfl (iQ 4 (iE 64 [(0, .d (Sv (tx l))), (2, Ia ((t : Int))), (3, Ia ((most : Int))), (8, Ia 0), (9, .d (Sv (tx l))), (10, Ba false), (11, Ia ((k : Int))), (29, Ba false), (44, Ba true)] [] ?_)))
     refine vc_ret (seq_r (iS (Iv 0) (Sv (tx l)) [Bv false] ?_))
     exact TkP_no (fun h => hc43 (e41.2 (by rw [← hk]; exact h.1)))
   ·replace hc35 := bt hc35
    refine iQ 8 (iE 64 [(0, .d (Sv (tx l))), (2, Ia ((t : Int))), (3, Ia ((most : Int))), (8, Ia 0), (9, .d (Sv (⟨#[]⟩))), (10, Ba false), (11, Ia ((k : Int))), (29, Ba false), (44, Ba true)] [] ?_)
    refine iT (vc_seqr rfl (iQ 4 (iE 64 [(0, .d (Sv (tx l))), (2, Ia ((t : Int))), (3, Ia ((most : Int))), (8, Ia 0), (9, .d (Sv (tx l))), (10, Ba false), (11, Ia ((k : Int))), (29, Ba false), (44, Ba true)] [] ?_)))
    refine vc_ret (seq_r (iS (Iv 0) (Sv (tx l)) [Bv false] ?_))
    exact TkP_no (fun h => by have := (List.getElem?_eq_some_iff.1 h.1).1; omega)
  ·replace hc22 := bt hc22
   refine iQ 2 (iX 9 (.string (tx l)) (.int .i64 ((k : Int))) (some 27) ?_)
   refine And.intro (by rw [tx_size]; omega) ?_
   intro z27 hz27
   have e27 : z27 = ((l[k]'hlt).toNat : Int) := by rw [hz27]; exact strAt_tx hg
   refine iB .leq 5 (.int .u8 z27) (.int .u8 57) (some 28) ?_
   intro c28 hc28
   refine iQ 1 (iE 64 [(0, .d (Sv (tx l))), (1, .d (Sv (tx [c]))), (2, Ia ((t : Int))), (3, Ia ((most : Int))), (8, Ia 0), (9, .d (Sv (⟨#[]⟩))), (10, Ba false), (11, Ia ((k : Int))), (29, Ba c28)] [] ?_)
   cases c28
   ·replace hc28 := bf hc28
    have hk : ndg l = k := ndg_unique h1 h2 (fun x hx => by rw [hg] at hx; cases hx; exact b_false fun e => by have := isDg_iff.1 e; omega)
    refine iF (vc_exit (seq_x (loop_x (block_x rfl (seq_n (vc_seq (vc_seqr rfl (iQ 2 (iL .len [9] [.string (tx l)] (some 34) ?_)))))))))
    intro n34 hn34
    refine iB .eql 3 (.int .i64 ((k : Int))) (.int .i64 ((n34 : Nat))) (some 35) ?_
    intro c35 hc35
    refine iQ 1 ?_
    cases c35
    ·replace hc35 := bf hc35
     refine iQ 3 (iB .add 3 (.int .i64 ((k : Int))) (.int .i64 1) (some 40) ?_)
     intro z40 hz40
     try replace hz40 := hz40.i64 (by omega)
     have hkl : k < l.length := by omega
     refine iY 9 (tx l) ((k : Int)) (z40) (some 41) ?_
     refine And.intro (by rw [tx_size]; omega) ?_
     intro s41 hs41
     have hl41 := sz_ext hs41 (by rw [tx_size]; omega)
     have e41 := sl1_iff (s := s41) (c := c) hkl (by rw [hs41, Int.toNat_natCast, show z40.toNat = k + 1 by omega])
     refine iQ 1 (iB .neq 9 (.string s41) (.string (tx [c])) (some 43) ?_)
     intro c43 hc43
     refine iQ 1 (iE 64 [(0, .d (Sv (tx l))), (2, Ia ((t : Int))), (3, Ia ((most : Int))), (8, Ia 0), (9, .d (Sv (⟨#[]⟩))), (10, Ba false), (11, Ia ((k : Int))), (29, Ba false), (44, Ba c43)] [] ?_)
     cases c43
     ·replace hc43 := bf hc43
      have hc : l[ndg l]? = some c := by rw [hk]; exact e41.1 (by simpa using hc43)
      refine iF (vc_skip (seq_n (vc_seqr rfl (iQ 2 (iY 9 (tx l) (0) ((k : Int)) (some 49) ?_)))))
      refine And.intro (by rw [tx_size]; omega) ?_
      intro s49 hs49
      have hl49 := sz_ext hs49 (by rw [tx_size]; omega)
      have e49 : s49 = tx (l.take k) := by rw [hs49, tx_extract]; simp
      refine iQ 1 (iC 152 [Sv s49, Iv 1, Iv ((most : Int))] (some 51) (c_numberE (lo := 1) e49 hm) ?_)
      rintro _ ⟨n, b, rfl, hb⟩
      refine iQ 5 (iE 64 [(0, .d (Sv (tx l))), (2, Ia ((t : Int))), (8, Ia 0), (9, .d (Sv (⟨#[]⟩))), (10, Ba false), (11, Ia ((k : Int))), (12, Ia ((n : Int))), (13, Ba b), (29, Ba false), (44, Ba false)] [] ?_)
      refine vc_seq (vc_seqr rfl (iQ 1 (iU .not (.bool b) (some 55) ?_)))
      intro c55 hc55
      refine iE 64 [(0, .d (Sv (tx l))), (2, Ia ((t : Int))), (8, Ia 0), (9, .d (Sv (⟨#[]⟩))), (10, Ba false), (11, Ia ((k : Int))), (12, Ia ((n : Int))), (29, Ba false), (44, Ba false), (55, Ba c55)] [] ?_
      cases c55
      ·replace hc55 := bf hc55
       have hn : numS 1 most (l.take k) = some n := or_t hb hc55
       obtain ⟨n1, n2, n3⟩ := numS_take hn (by omega)
       have n4 : n < 10 ^ most := by rw [n3]; exact nvL_lt (take_all (by omega)) (by rw [List.length_take]; omega)
       have n5 : n * t ≤ 10 ^ most * t := Nat.mul_le_mul_right _ (by omega)
       refine iF (vc_skip (seq_n (vc_seqr rfl (iQ 2 (iB .mul 3 (.int .i64 ((n : Int))) (.int .i64 ((t : Int))) (some 59) ?_)))))
       intro z59 hz59
       try replace hz59 := hz59.i64 (by omega)
       have e59 : z59 = ((n * t : Nat) : Int) := by rw [hz59]; exact (Int.natCast_mul n t).symm
       refine iQ 2 (iB .add 3 (.int .i64 ((k : Int))) (.int .i64 1) (some 62) ?_)
       intro z62 hz62
       try replace hz62 := hz62.i64 (by omega)
       refine iY 9 (tx l) (z62) (((tx l : ByteArray).size : Int)) (some 63) ?_
       refine And.intro (by rw [tx_size]; omega) ?_
       intro s63 hs63
       have hl63 := sz_ext hs63 (by rw [tx_size]; omega)
       refine iQ 3 (iE 64 [(0, .d (Sv (tx l))), (8, Ia z59), (9, .d (Sv s63)), (10, Ba true), (11, Ia ((k : Int))), (29, Ba false), (44, Ba false), (55, Ba false)] [] ?_)
       refine vc_ret (iS (Iv z59) (Sv s63) [Bv true] ?_)
       rw [e59]; exact TkP_yes (n := n * t) (s := s63) ⟨hc, by omega, by omega⟩ (by rw [hk, n3]) (by rw [hs63, tx_extract, tx_size, hk, show z62.toNat = k + 1 by omega, List.take_of_length_le (by rw [List.length_drop]; omega)])
      ·replace hc55 := bt hc55
       have hn : numS 1 most (l.take k) = none := (or_f hb hc55).1
       refine iT (vc_seqr rfl (iQ 4 (iE 64 [(0, .d (Sv (tx l))), (2, Ia ((t : Int))), (8, Ia 0), (9, .d (Sv (tx l))), (10, Ba false), (11, Ia ((k : Int))), (12, Ia ((n : Int))), (29, Ba false), (44, Ba false), (55, Ba true)] [] ?_)))
       refine vc_ret (seq_r (iS (Iv 0) (Sv (tx l)) [Bv false] ?_))
       exact TkP_no (fun h => numS_none hn (by omega) ⟨by omega, by omega⟩)
     ·replace hc43 := bt hc43
      refine iT (vc_seqr rfl (iQ 4 (iE 64 [(0, .d (Sv (tx l))), (2, Ia ((t : Int))), (3, Ia ((most : Int))), (8, Ia 0), (9, .d (Sv (tx l))), (10, Ba false), (11, Ia ((k : Int))), (29, Ba false), (44, Ba true)] [] ?_)))
      refine vc_ret (seq_r (iS (Iv 0) (Sv (tx l)) [Bv false] ?_))
      exact TkP_no (fun h => hc43 (e41.2 (by rw [← hk]; exact h.1)))
    ·replace hc35 := bt hc35
     refine iQ 8 (iE 64 [(0, .d (Sv (tx l))), (2, Ia ((t : Int))), (3, Ia ((most : Int))), (8, Ia 0), (9, .d (Sv (⟨#[]⟩))), (10, Ba false), (11, Ia ((k : Int))), (29, Ba false), (44, Ba true)] [] ?_)
     refine iT (vc_seqr rfl (iQ 4 (iE 64 [(0, .d (Sv (tx l))), (2, Ia ((t : Int))), (3, Ia ((most : Int))), (8, Ia 0), (9, .d (Sv (tx l))), (10, Ba false), (11, Ia ((k : Int))), (29, Ba false), (44, Ba true)] [] ?_)))
     refine vc_ret (seq_r (iS (Iv 0) (Sv (tx l)) [Bv false] ?_))
     exact TkP_no (fun h => by have := (List.getElem?_eq_some_iff.1 h.1).1; omega)
   ·replace hc28 := bt hc28
    refine iT (vc_skip (seq_n (vc_block (vc_reg rfl (iQ 1 (iB .add 3 (.int .i64 ((k : Int))) (.int .i64 1) (some 31) ?_))))))
    intro z31 hz31
    try replace hz31 := hz31.i64 (by omega)
    refine iQ 1 (iE 64 [(0, .d (Sv (tx l))), (1, .d (Sv (tx [c]))), (2, Ia ((t : Int))), (3, Ia ((most : Int))), (8, Ia 0), (9, .d (Sv (⟨#[]⟩))), (10, Ba false), (11, Ia z31), (29, Ba true)] [] ?_)
    refine block_n ?_
    obtain rfl : z31 = ((k + 1 : Nat) : Int) := by omega
    refine loop_n (k + 1) (⟨by omega, isDg_more h2 hg (isDg_iff.2 ⟨by omega, by omega⟩)⟩) (by show l.length - (k + 1) < l.length - k; omega) (by kernel_rfl) (by kernel_rfl)
theorem c_takesE {l : L8} {s : ByteArray} {c : UInt8} {t most : Nat} (hs : s = tx l) (hm : most ≤ 15) (ht : 10 ^ most * t ≤ 100000000000000000) (hL : l.length ≤ 9223372036854775807) : HasC Tryz.prog 190 [.v (.string s), .v (.string (tx [c])), .v (.int .i64 (t : Int)), .v (.int .i64 (most : Int))] (TkP most l c t) := by subst hs; exact c_takes hm ht hL
def lets (ps : List (UInt8 × Nat)) : List DV := ps.map fun p => .v (.string (tx [p.1]))
def tms (ps : List (UInt8 × Nat)) : List DV := ps.map fun p => .v (.int .i64 (p.2 : Int))
theorem runA_step {most : Nat} {l : L8} {ps : List (UInt8 × Nat)} {j n k : Nat} {c : UInt8} {t : Nat} (h : ps[j]? = some (c, t)) : runA most l (ps.drop j) n k = match takesS most l c t with | some (m, l') => runA most l' (ps.drop (j + 1)) (n + m) (k + 1) | none => runA most l (ps.drop (j + 1)) n k := by
  obtain ⟨hj, e⟩ := List.getElem?_eq_some_iff.1 h
  rw [List.drop_eq_getElem_cons hj, e]
  rfl
theorem lets_get {ps : List (UInt8 × Nat)} {j : Nat} {c : UInt8} {t : Nat} (h : ps[j]? = some (c, t)) : (lets ps)[((j : Nat) : Int).toNat]? = some (.v (.string (tx [c]))) := by simp [lets, h]
theorem tms_get {ps : List (UInt8 × Nat)} {j : Nat} {c : UInt8} {t : Nat} (h : ps[j]? = some (c, t)) : (tms ps)[((j : Nat) : Int).toNat]? = some (.v (.int .i64 (t : Int))) := by simp [tms, h]
def RunP (most : Nat) (l : L8) (ps : List (UInt8 × Nat)) (r : DV) : Prop := ∃ (n : Nat) (l' : L8) (k : Nat), r = .tup [.v (.int .i64 (n : Int)), .v (.string (tx l')), .v (.int .i64 (k : Int))] ∧ runA most l ps 0 0 = (n, l', k) ∧ l'.length ≤ l.length ∧ n ≤ 300000000000000000 ∧ k ≤ 3
theorem runA_len : ∀ (ps : List (UInt8 × Nat)) (most : Nat) (l : L8) (n k : Nat), (runA most l ps n k).2.1.length ≤ l.length
  | [], most, l, n, k => Nat.le_refl _
  | (c, t) :: r, most, l, n, k => by
    unfold runA
    split
    · rename_i m l' e
      have h1 := (takesS_lt e).2
      have := runA_len r most l' (n + m) (k + 1)
      omega
    · exact runA_len r most l n k

theorem runA_sum : ∀ (ps : List (UInt8 × Nat)) (most : Nat) (l : L8) (n k : Nat), (∀ p ∈ ps, 10 ^ most * p.2 ≤ 100000000000000000) → (runA most l ps n k).1 ≤ n + ps.length * 100000000000000000 ∧ (runA most l ps n k).2.2 ≤ k + ps.length
  | [], most, l, n, k, h => by simp [runA]
  | (c, t) :: r, most, l, n, k, h => by
    unfold runA
    have ht := h (c, t) (by simp)
    have hr : ∀ p ∈ r, 10 ^ most * p.2 ≤ 100000000000000000 := fun p hp => h p (by simp [hp])
    rw [List.length_cons, Nat.add_mul, Nat.one_mul]
    split
    · rename_i m l' e
      have h1 : m ≤ 100000000000000000 := Nat.le_trans (takesS_lt e).1 ht
      have := runA_sum r most l' (n + m) (k + 1) hr
      omega
    · have := runA_sum r most l n k hr
      exact ⟨Nat.le_trans this.1 (Nat.add_le_add_left (Nat.le_add_right _ _) _), Nat.le_trans this.2 (by omega)⟩
theorem RunP_ex (most : Nat) (l : L8) (ps : List (UInt8 × Nat)) (hp : ∀ p ∈ ps, 10 ^ most * p.2 ≤ 100000000000000000) (hn : ps.length ≤ 3) : ∃ r, RunP most l ps r := by
  have h := runA_sum ps most l 0 0 hp
  exact ⟨_, _, _, _, rfl, rfl, runA_len _ _ _ _ _, by omega, by have := h.2; rw [Nat.zero_add] at this; exact Nat.le_trans this hn⟩

set_option maxHeartbeats 800000 in
theorem c_run {l : L8} {most : Nat} {ps : List (UInt8 × Nat)} (hm : most ≤ 15) (hp : ∀ p ∈ ps, 10 ^ most * p.2 ≤ 100000000000000000) (hn : ps.length ≤ 3) (hL : l.length ≤ 9223372036854775807) : HasC Tryz.prog 162 [.v (.string (tx l)), .v (.int .i64 ((most : Int))), .sl ps.length (lets ps), .sl ps.length (tms ps)] (RunP most l ps) := by
 refine HasC.of [] (fn := Tryz.f162) tyOk mixed (fun args w => Tryz.call162 args w) Tryz.func162 rfl (by kernel_rfl) (Nat.le_of_ble_eq_true rfl) (RunP_ex most l ps hp hn) ?_
 refine vc_seqr rfl (iQ 3 (iE 48 [(0, .d (Sv (tx l))), (1, Ia ((most : Int))), (2, .d (.sl ps.length (lets ps))), (3, .d (.sl ps.length (tms ps))), (8, Ia 0), (9, .d (Sv (⟨#[]⟩))), (10, Ia 0)] [] ?_))
 refine vc_seqr rfl (iQ 2 (iE 48 [(0, .d (Sv (tx l))), (1, Ia ((most : Int))), (2, .d (.sl ps.length (lets ps))), (3, .d (.sl ps.length (tms ps))), (8, Ia 0), (9, .d (Sv (⟨#[]⟩))), (10, Ia 0), (11, Ia 0), (12, Ia 0)] [] ?_))
 refine vc_seq (vc_seqr rfl (iQ 3 (iE 48 [(0, .d (Sv (tx l))), (1, Ia ((most : Int))), (3, .d (.sl ps.length (tms ps))), (8, Ia 0), (9, .d (Sv (⟨#[]⟩))), (10, Ia 0), (11, Ia 0), (12, Ia 0), (18, .d (.sl ps.length (lets ps))), (19, Ia (((ps.length : Nat) : Int))), (20, Ia 0)] [] ?_)))
 refine vc_block (vc_loop 48 (fun (vcx : Nat × L8 × Nat × Nat) => match vcx with | (j, l', n, k) => [(0, .d (Sv (tx l'))), (1, Ia ((most : Int))), (3, .d (.sl ps.length (tms ps))), (8, Ia 0), (9, .d (Sv (⟨#[]⟩))), (10, Ia 0), (11, Ia ((n : Int))), (12, Ia ((k : Int))), (18, .d (.sl ps.length (lets ps))), (19, Ia (((ps.length : Nat) : Int))), (20, Ia ((j : Int)))]) (fun (vcx : Nat × L8 × Nat × Nat) => match vcx with | (j, l', n, k) => []) (fun (vcx : Nat × L8 × Nat × Nat) => match vcx with | (j, l', n, k) => j ≤ ps.length ∧ runA most l ps 0 0 = runA most l' (ps.drop j) n k ∧ n ≤ j * 100000000000000000 ∧ k ≤ j ∧ l'.length ≤ l.length) (fun (vcx : Nat × L8 × Nat × Nat) => match vcx with | (j, l', n, k) => ps.length - j) ((0, l, 0, 0)) (⟨by omega, rfl, by omega, by omega, by omega⟩) (by kernel_rfl) (by kernel_rfl) ?_)
 rintro ⟨j, l', n, k⟩ hinv
 simp only at hinv
 obtain ⟨h1, h2, h3, h4, h5⟩ := hinv
 refine vc_seqr rfl (iB .lss 3 (.int .i64 ((j : Int))) (.int .i64 (((ps.length : Nat) : Int))) (some 21) ?_)
 intro c21 hc21
 refine iE 48 [(0, .d (Sv (tx l'))), (1, Ia ((most : Int))), (3, .d (.sl ps.length (tms ps))), (8, Ia 0), (9, .d (Sv (⟨#[]⟩))), (10, Ia 0), (11, Ia ((n : Int))), (12, Ia ((k : Int))), (18, .d (.sl ps.length (lets ps))), (19, Ia (((ps.length : Nat) : Int))), (20, Ia ((j : Int))), (21, Ba c21)] [] ?_
 refine vc_seq ?_
 cases c21
 ·replace hc21 := bf hc21
  have hj : j = ps.length := by omega
  refine iF (vc_exit (seq_x (loop_x (block_x rfl (seq_n (vc_seqr rfl (iQ 6 (iE 48 [(0, .d (Sv (tx l'))), (1, Ia ((most : Int))), (3, .d (.sl ps.length (tms ps))), (8, Ia ((n : Int))), (9, .d (Sv (tx l'))), (10, Ia ((k : Int))), (11, Ia ((n : Int))), (12, Ia ((k : Int))), (18, .d (.sl ps.length (lets ps))), (19, Ia (((ps.length : Nat) : Int))), (20, Ia ((j : Int))), (21, Ba false)] [] ?_))))))))
  refine vc_ret (iS (Iv ((n : Int))) (Sv (tx l')) [Iv ((k : Int))] ?_)
  exact ⟨_, _, _, rfl, by rw [h2, hj, List.drop_length]; rfl, h5, by omega, by omega⟩
 ·replace hc21 := bt hc21
  have hjl : j < ps.length := by omega
  obtain ⟨⟨c, t⟩, hps⟩ : ∃ p, ps[j]? = some p := ⟨_, List.getElem?_eq_getElem hjl⟩
  have ht := hp _ (List.mem_of_getElem? hps)
  have hstep := runA_step (most := most) (l := l') (n := n) (k := k) hps
  refine iT (vc_skip (seq_n (vc_seq (vc_block (vc_seqr rfl (iQ 1 (vcI_idx1 (q := ((j : Int))) (n := ps.length) (cs := (lets ps)) (d := .v (.string (tx [c]))) (dst := (some 23)) (by kernel_rfl) (by omega) (lets_get hps) ?_)))))))
  refine iQ 3 (iE 48 [(0, .d (Sv (tx l'))), (1, Ia ((most : Int))), (3, .d (.sl ps.length (tms ps))), (8, Ia 0), (9, .d (Sv (⟨#[]⟩))), (10, Ia 0), (11, Ia ((n : Int))), (12, Ia ((k : Int))), (13, Ia ((j : Int))), (14, .d (Sv (tx [c]))), (18, .d (.sl ps.length (lets ps))), (19, Ia (((ps.length : Nat) : Int))), (20, Ia ((j : Int))), (21, Ba true)] [] ?_)
  refine vc_seqr rfl (iQ 4 (vcI_idx1 (q := ((j : Int))) (n := ps.length) (cs := (tms ps)) (d := .v (.int .i64 ((t : Int)))) (dst := (some 30)) (by kernel_rfl) (by omega) (tms_get hps) ?_))
  refine iQ 2 (iC 190 [Sv (tx l'), Sv (tx [c]), Iv ((t : Int)), Iv ((most : Int))] (some 33) (c_takesE (l := l') rfl hm ht (by omega)) ?_)
  rintro _ ⟨m, l2, g, rfl, ho⟩
  refine iQ 7 (iE 48 [(0, .d (Sv (tx l'))), (1, Ia ((most : Int))), (3, .d (.sl ps.length (tms ps))), (8, Ia 0), (9, .d (Sv (⟨#[]⟩))), (10, Ia 0), (11, Ia ((n : Int))), (12, Ia ((k : Int))), (13, Ia ((j : Int))), (14, .d (Sv (tx [c]))), (15, Ia ((m : Int))), (16, .d (Sv (tx l2))), (17, Ba g), (18, .d (.sl ps.length (lets ps))), (19, Ia (((ps.length : Nat) : Int))), (20, Ia ((j : Int))), (21, Ba true)] [] ?_)
  refine vc_seqr rfl (iQ 1 (iE 48 [(0, .d (Sv (tx l'))), (1, Ia ((most : Int))), (3, .d (.sl ps.length (tms ps))), (8, Ia 0), (9, .d (Sv (⟨#[]⟩))), (10, Ia 0), (11, Ia ((n : Int))), (12, Ia ((k : Int))), (13, Ia ((j : Int))), (14, .d (Sv (tx [c]))), (15, Ia ((m : Int))), (16, .d (Sv (tx l2))), (17, Ba g), (18, .d (.sl ps.length (lets ps))), (19, Ia (((ps.length : Nat) : Int))), (20, Ia ((j : Int))), (21, Ba true), (37, Ba g)] [] ?_))
  cases g
  ·skip
   have hb2 : takesS most l' c t = none := (or_f ho rfl).1
   refine iF (vc_skip (block_n (seq_n (vc_reg rfl (iB .add 3 (.int .i64 ((j : Int))) (.int .i64 1) (some 44) ?_)))))
   intro z44 hz44
   try replace hz44 := hz44.i64 (by omega)
   refine iQ 1 (iE 48 [(0, .d (Sv (tx l'))), (1, Ia ((most : Int))), (3, .d (.sl ps.length (tms ps))), (8, Ia 0), (9, .d (Sv (⟨#[]⟩))), (10, Ia 0), (11, Ia ((n : Int))), (12, Ia ((k : Int))), (13, Ia ((j : Int))), (14, .d (Sv (tx [c]))), (15, Ia ((m : Int))), (16, .d (Sv (tx l2))), (17, Ba false), (18, .d (.sl ps.length (lets ps))), (19, Ia (((ps.length : Nat) : Int))), (20, Ia z44), (21, Ba true), (37, Ba false)] [] ?_)
   obtain rfl : z44 = ((j + 1 : Nat) : Int) := by omega
   refine loop_n (j + 1, l', n, k) (⟨by omega, by rw [h2, hstep, hb2], Nat.le_trans h3 (Nat.mul_le_mul_right _ (Nat.le_succ j)), by omega, by omega⟩) (by show ps.length - (j + 1) < ps.length - j; omega) (by kernel_rfl) (by kernel_rfl)
  ·skip
   have hb2 : takesS most l' c t = some (m, l2) := or_t ho (by simp)
   have hl2 := (takesS_lt hb2).2
   have hl3 : m ≤ 100000000000000000 := Nat.le_trans (takesS_lt hb2).1 ht
   refine iT (vc_reg rfl (iQ 2 (iB .add 3 (.int .i64 ((n : Int))) (.int .i64 ((m : Int))) (some 40) ?_)))
   intro z40 hz40
   try replace hz40 := hz40.i64 (by omega)
   refine iQ 2 (iB .add 3 (.int .i64 ((k : Int))) (.int .i64 1) (some 43) ?_)
   intro z43 hz43
   try replace hz43 := hz43.i64 (by omega)
   refine iQ 3 (iE 48 [(0, .d (Sv (tx l2))), (1, Ia ((most : Int))), (3, .d (.sl ps.length (tms ps))), (8, Ia 0), (9, .d (Sv (⟨#[]⟩))), (10, Ia 0), (11, Ia z40), (12, Ia z43), (13, Ia ((j : Int))), (14, .d (Sv (tx [c]))), (15, Ia ((m : Int))), (16, .d (Sv (tx l2))), (17, Ba true), (18, .d (.sl ps.length (lets ps))), (19, Ia (((ps.length : Nat) : Int))), (20, Ia ((j : Int))), (21, Ba true), (37, Ba true)] [] ?_)
   refine block_n (seq_n (vc_reg rfl (iB .add 3 (.int .i64 ((j : Int))) (.int .i64 1) (some 44) ?_)))
   intro z44 hz44
   try replace hz44 := hz44.i64 (by omega)
   refine iQ 1 (iE 48 [(0, .d (Sv (tx l2))), (1, Ia ((most : Int))), (3, .d (.sl ps.length (tms ps))), (8, Ia 0), (9, .d (Sv (⟨#[]⟩))), (10, Ia 0), (11, Ia z40), (12, Ia z43), (13, Ia ((j : Int))), (14, .d (Sv (tx [c]))), (15, Ia ((m : Int))), (16, .d (Sv (tx l2))), (17, Ba true), (18, .d (.sl ps.length (lets ps))), (19, Ia (((ps.length : Nat) : Int))), (20, Ia z44), (21, Ba true), (37, Ba true)] [] ?_)
   obtain rfl : z44 = ((j + 1 : Nat) : Int) := by omega
   obtain rfl : z40 = ((n + m : Nat) : Int) := by omega
   obtain rfl : z43 = ((k + 1 : Nat) : Int) := by omega
   refine loop_n (j + 1, l2, n + m, k + 1) (⟨by omega, by rw [h2, hstep, hb2], by rw [Nat.add_mul]; omega, by omega, by omega⟩) (by show ps.length - (j + 1) < ps.length - j; omega) (by kernel_rfl) (by kernel_rfl)
theorem c_runE {l : L8} {s : ByteArray} {most : Nat} {ps : List (UInt8 × Nat)} (hs : s = tx l) (hm : most ≤ 15) (hp : ∀ p ∈ ps, 10 ^ most * p.2 ≤ 100000000000000000) (hn : ps.length ≤ 3) (hL : l.length ≤ 9223372036854775807) : HasC Tryz.prog 162 [.v (.string s), .v (.int .i64 (most : Int)), .sl ps.length (lets ps), .sl ps.length (tms ps)] (RunP most l ps) := by subst hs; exact c_run hm hp hn hL
theorem optS_no {n : Nat} {neg : Bool} (h : 9007199254740992 < n) : optT (signedS n neg) = .tup [.v (.int .i64 0), .v (.bool false)] := by rw [signedS, if_pos h]; rfl
theorem optS_yes {n : Nat} {neg : Bool} {z : Int} (h : n ≤ 9007199254740992) (hz : z = if neg then -(n : Int) else n) : optT (signedS n neg) = .tup [.v (.int .i64 z), .v (.bool true)] := by rw [signedS, if_neg (by omega), hz]; rfl
theorem c_signed {n : Nat} {neg : Bool} (hn : n ≤ 9223372036854775807) : HasC Tryz.prog 163 [.v (.int .i64 ((n : Int))), .v (.bool neg)] (fun r => r = optT (signedS n neg)) := by
 refine HasC.of [] (fn := Tryz.f163) tyOk mixed (fun args w => Tryz.call163 args w) Tryz.func163 rfl (by kernel_rfl) (Nat.le_of_ble_eq_true rfl) (⟨_, rfl⟩) ?_
 refine vc_seqr rfl (iQ 2 (iE 12 [(0, Ia ((n : Int))), (1, Ba neg), (4, Ia 0), (5, Ba false)] [] ?_))
 refine vc_seq (vc_seqr rfl (iQ 1 (iB .gtr 3 (.int .i64 ((n : Int))) (.int .i64 9007199254740992) (some 7) ?_)))
 intro c7 hc7
 refine iE 12 [(0, Ia ((n : Int))), (1, Ba neg), (4, Ia 0), (5, Ba false), (7, Ba c7)] [] ?_
 cases c7
 ·replace hc7 := bf hc7
  refine iF (vc_skip (seq_n (vc_seq (vc_seqr rfl (iQ 1 (iE 12 [(0, Ia ((n : Int))), (4, Ia 0), (5, Ba false), (7, Ba false), (8, Ba neg)] [] ?_))))))
  cases neg
  ·skip
   refine iF (vc_skip (seq_n (vc_seqr rfl (iQ 3 (iE 12 [(0, Ia ((n : Int))), (4, Ia ((n : Int))), (5, Ba true), (7, Ba false), (8, Ba false)] [] ?_)))))
   refine vc_ret (iS (Iv ((n : Int))) (Bv true) [] ?_)
   exact (optS_yes (by omega) (by simp)).symm
  ·skip
   refine iT (vc_seqr rfl (iQ 1 (iU .neg (.int .i64 ((n : Int))) (some 10) ?_)))
   intro z10 hz10
   try replace hz10 := hz10.i64 (by omega)
   refine iQ 2 (iE 12 [(0, Ia ((n : Int))), (4, Ia z10), (5, Ba true), (7, Ba false), (8, Ba true)] [] ?_)
   refine vc_ret (seq_r (iS (Iv z10) (Bv true) [] ?_))
   exact (optS_yes (by omega) (by simp; omega)).symm
 ·replace hc7 := bt hc7
  refine iT (vc_seqr rfl (iQ 2 (iE 12 [(0, Ia ((n : Int))), (1, Ba neg), (4, Ia 0), (5, Ba false), (7, Ba true)] [] ?_)))
  refine vc_ret (seq_r (iS (Iv 0) (Bv false) [] ?_))
  rw [optS_no (by omega)]


open Go.RowKit
set_option linter.unusedVariables false
set_option linter.unusedSimpArgs false
set_option maxRecDepth 100000

/-- A piece read at a place: how much, where it ends, whether there is one. -/
def PcOk (l : L8) (at' : Nat) (c : UInt8) (t most n k : Nat) (b : Bool) : Prop :=
  b = true ∧ takesS most (l.drop at') c t = some (n, l.drop k) ∧ at' < k ∧ k ≤ l.length ∨ b = false ∧ takesS most (l.drop at') c t = none ∧ n = 0 ∧ k = at'
theorem PcOk.run {l : L8} {a : Nat} {c : UInt8} {t most n k : Nat} {b : Bool} (h : PcOk l a c t most n k b) (ps : List (UInt8 × Nat)) (n0 k0 : Nat) :
    runA most (l.drop a) ((c, t) :: ps) n0 k0 = runA most (l.drop k) ps (n0 + n) (k0 + if b then 1 else 0) := by
  rcases h with ⟨rfl, h, _⟩ | ⟨rfl, h, rfl, rfl⟩
  · rw [runA, h]; rfl
  · rw [runA, h]; rfl
theorem PcOk.le {l : L8} {a : Nat} {c : UInt8} {t most n k : Nat} {b : Bool} (h : PcOk l a c t most n k b) : a ≤ k ∧ (a ≤ l.length → k ≤ l.length) ∧ n ≤ 10 ^ most * t ∧ (b = false → k = a) := by
  rcases h with ⟨rfl, h, h1, h2⟩ | ⟨rfl, h, rfl, rfl⟩
  · exact ⟨by omega, fun _ => h2, (takesS_lt h).1, fun e => by cases e⟩
  · exact ⟨by omega, id, by omega, fun _ => rfl⟩
/-- Digits from one place on. -/
def DgR (l : L8) (a k : Nat) : Prop := a ≤ k ∧ k ≤ l.length ∧ ((l.drop a).take (k - a)).all isDg = true
theorem DgR.zero {l : L8} {a : Nat} (h : a ≤ l.length) : DgR l a a := ⟨Nat.le_refl _, h, by simp⟩
theorem get_drop {l : L8} {a k : Nat} (h : a ≤ k) : (l.drop a)[k - a]? = l[k]? := by rw [List.getElem?_drop]; congr 1; omega
theorem DgR.succ {l : L8} {a k : Nat} {c : UInt8} (h : DgR l a k) (hg : l[k]? = some c) (hc : isDg c = true) : DgR l a (k + 1) ∧ nvL ((l.drop a).take (k + 1 - a)) = nvL ((l.drop a).take (k - a)) * 10 + (c.toNat - 48) := by
  have hk := (List.getElem?_eq_some_iff.1 hg).1
  obtain ⟨h1, h2, h3⟩ := h
  have hg2 : (l.drop a)[k - a]? = some c := by rw [get_drop h1, hg]
  obtain ⟨q1, q2⟩ := List.getElem?_eq_some_iff.1 hg2
  rw [show k + 1 - a = (k - a) + 1 by omega]
  refine ⟨⟨by omega, by omega, ?_⟩, nvL_take hg2⟩
  rw [show k + 1 - a = (k - a) + 1 by omega, List.take_succ_eq_append_getElem q1, q2, List.all_append, h3]
  simp [hc]
theorem DgR.le {l : L8} {a k : Nat} (h : DgR l a k) : k - a ≤ ndg (l.drop a) := by
  obtain ⟨h1, h2, h3⟩ := h
  apply Classical.byContradiction
  intro hn
  have h4 : ndg (l.drop a) < (l.drop a).length := by rw [List.length_drop]; omega
  have h5 := ndg_end _ _ (List.getElem?_eq_getElem h4)
  rw [List.all_eq_true] at h3
  have h6 := h3 ((l.drop a)[ndg (l.drop a)]) (List.mem_of_getElem? (i := ndg (l.drop a)) (by rw [List.getElem?_take]; rw [if_pos (by omega)]; exact List.getElem?_eq_getElem h4))
  rw [h5] at h6
  cases h6
theorem DgR.eq {l : L8} {a k : Nat} (h : DgR l a k) (he : ∀ x, l[k]? = some x → isDg x = false) : ndg (l.drop a) = k - a := by
  have h0 := h.le
  have h7 := ndg_le (l.drop a)
  apply Classical.byContradiction
  intro hn
  have h4 : k - a < (l.drop a).length := by omega
  have h5 := ndg_dig _ _ _ (by omega : k - a < ndg (l.drop a)) (List.getElem?_eq_getElem h4)
  have h6 := he ((l.drop a)[k - a]) (by rw [← get_drop h.1]; exact List.getElem?_eq_getElem h4)
  rw [h6] at h5
  cases h5
theorem DgR.lt {l : L8} {a k m : Nat} (h : DgR l a k) (hm : k - a ≤ m) : nvL ((l.drop a).take (k - a)) < 10 ^ m := nvL_lt h.2.2 (by rw [List.length_take]; omega)
theorem PcOk.no {l : L8} {a k : Nat} {c : UInt8} {t most : Nat} (hd : DgR l a k) (hE : k - a > most ∨ ndg (l.drop a) = k - a) (hf : k = a ∨ k - a > most ∨ l[k]? ≠ some c) : PcOk l a c t most 0 a false := by
  refine .inr ⟨rfl, ?_, rfl, rfl⟩
  have h0 := hd.le
  unfold takesS
  rw [if_neg]
  rintro ⟨h1, h2, h3⟩
  rcases hE with hE | hE
  · omega
  · rw [hE, get_drop hd.1] at h1
    rcases hf with hf | hf | hf
    · omega
    · omega
    · exact hf h1
theorem PcOk.yes {l : L8} {a k : Nat} {c : UInt8} {t most : Nat} (hd : DgR l a k) (hE : ndg (l.drop a) = k - a) (h1 : k ≠ a) (h2 : ¬ k - a > most) (hc : l[k]? = some c) : PcOk l a c t most (nvL ((l.drop a).take (k - a)) * t) (k + 1) true := by
  have hk := (List.getElem?_eq_some_iff.1 hc).1
  have hak := hd.1
  refine .inl ⟨rfl, ?_, by omega, by omega⟩
  unfold takesS
  rw [if_pos ⟨by rw [hE, get_drop hak, hc], by omega, by omega⟩, hE, List.drop_drop, show a + (k - a + 1) = k + 1 by omega]
open Go.RowKit
set_option linter.unusedVariables false
set_option linter.unusedSimpArgs false
set_option maxRecDepth 100000

def OptP (o : Option Int) (r : DV) : Prop := ∃ (z : Int) (g : Bool), r = .tup [.v (.int .i64 z), .v (.bool g)] ∧ .tup [.v (.int .i64 z), .v (.bool g)] = optT o
theorem OptP_ex (o : Option Int) : ∃ r, OptP o r := by
  cases o with
  | none => exact ⟨_, _, _, rfl, rfl⟩
  | some n => exact ⟨_, _, _, rfl, rfl⟩
theorem OptP_of {o : Option Int} {r : DV} (h : r = optT o) : OptP o r := by
  subst h
  cases o with
  | none => exact ⟨_, _, rfl, rfl⟩
  | some n => exact ⟨_, _, rfl, rfl⟩
theorem OptP_no {o : Option Int} (h : o = none) : OptP o (.tup [.v (.int .i64 0), .v (.bool false)]) := OptP_of (by rw [h]; rfl)
theorem c_signedQ {n : Nat} {z : Int} {neg : Bool} (hz : z = (n : Int)) (hn : n ≤ 9223372036854775807) : HasC Tryz.prog 163 [.v (.int .i64 z), .v (.bool neg)] (OptP (signedS n neg)) := by subst hz; exact (c_signed hn).mono fun r h => OptP_of h
theorem c_run1 {l : L8} {s : ByteArray} (hs : s = tx l) (hL : l.length ≤ 9223372036854775807) : HasC Tryz.prog 162 [.v (.string s), .v (.int .i64 12), .sl 1 [.v (.string ⟨#[68]⟩)], .sl 1 [.v (.int .i64 86400)]] (RunP 12 l [(68, 86400)]) :=
  c_runE (ps := [(68, 86400)]) hs (by decide) (by intro p hp; simp at hp; subst hp; decide) (by decide) hL
theorem c_run3 {l : L8} {s : ByteArray} (hs : s = tx l) (hL : l.length ≤ 9223372036854775807) : HasC Tryz.prog 162 [.v (.string s), .v (.int .i64 12), .sl 3 [.v (.string ⟨#[72]⟩), .v (.string ⟨#[77]⟩), .v (.string ⟨#[83]⟩)], .sl 3 [.v (.int .i64 3600), .v (.int .i64 60), .v (.int .i64 1)]] (RunP 12 l [(72, 3600), (77, 60), (83, 1)]) :=
  c_runE (ps := [(72, 3600), (77, 60), (83, 1)]) hs (by decide) (by intro p hp; simp at hp; rcases hp with rfl | rfl | rfl <;> decide) (by decide) hL
theorem c_run2 {l : L8} {s : ByteArray} (hs : s = tx l) (hL : l.length ≤ 9223372036854775807) : HasC Tryz.prog 162 [.v (.string s), .v (.int .i64 15), .sl 2 [.v (.string ⟨#[89]⟩), .v (.string ⟨#[77]⟩)], .sl 2 [.v (.int .i64 12), .v (.int .i64 1)]] (RunP 15 l [(89, 12), (77, 1)]) :=
  c_runE (ps := [(89, 12), (77, 1)]) hs (by decide) (by intro p hp; simp at hp; rcases hp with rfl | rfl <;> decide) (by decide) hL
theorem uns_len (l : L8) : (unsS l).1.length ≤ l.length ∧ ((unsS l).2 = true ↔ (unsS l).1.length ≠ l.length) := by
  unfold unsS
  split
  · rename_i h
    cases l with
    | nil => cases h
    | cons c r => simp
  · simp
theorem uns_negE {l : L8} {a b : Nat} {c : Bool} (ha : a = (unsS l).1.length) (hb : b = l.length) (h : c = true ↔ ¬ (a : Int) = b) : (unsS l).2 = c := by
  rw [Bool.eq_iff_iff, (uns_len l).2, h, ha, hb]
  omega
theorem daysS_no {l : L8} (h : (unsS l).1.head? ≠ some 80) : daysS l = none ∧ monthsS l = none := ⟨by rw [daysS, if_pos h], by rw [monthsS, if_pos h]⟩
theorem daysS_a {l l1 : L8} {n k : Nat} (h : (unsS l).1.head? = some 80) (hR : runA 12 (unsS l).1.tail [(68, 86400)] 0 0 = (n, l1, k)) (h1 : l1 = []) : daysS l = if k = 0 then none else signedS n (unsS l).2 := by
  rw [daysS, if_neg (by simp [h]), hR, if_pos h1]
theorem daysS_b {l l1 : L8} {n k : Nat} (h : (unsS l).1.head? = some 80) (hR : runA 12 (unsS l).1.tail [(68, 86400)] 0 0 = (n, l1, k)) (h1 : l1 ≠ []) (h2 : l1.head? ≠ some 84) : daysS l = none := by
  rw [daysS, if_neg (by simp [h]), hR, if_neg h1, if_pos h2]
theorem daysS_c {l l1 l2 : L8} {n k m j : Nat} (h : (unsS l).1.head? = some 80) (hR : runA 12 (unsS l).1.tail [(68, 86400)] 0 0 = (n, l1, k)) (h2 : l1.head? = some 84) (hR2 : runA 12 l1.tail [(72, 3600), (77, 60), (83, 1)] 0 0 = (m, l2, j)) : daysS l = if l2 ≠ [] ∨ j = 0 then none else signedS (n + m) (unsS l).2 := by
  have h1 : l1 ≠ [] := fun e => by rw [e] at h2; cases h2
  rw [daysS, if_neg (by simp [h]), hR, if_neg h1, if_neg (by simp [h2]), hR2]
theorem monthsS_a {l l1 : L8} {n k : Nat} (h : (unsS l).1.head? = some 80) (hR : runA 15 (unsS l).1.tail [(89, 12), (77, 1)] 0 0 = (n, l1, k)) : monthsS l = if l1 ≠ [] ∨ k = 0 then none else signedS n (unsS l).2 := by
  rw [monthsS, if_neg (by simp [h]), hR]
theorem le_tail {l : L8} {k : Nat} (h : l.length ≤ k) : l.tail.length ≤ k := by rw [List.length_tail]; omega

set_option maxHeartbeats 800000 in
theorem c_ReadDays {l : L8} (hL : l.length ≤ 9223372036854775807) : HasC Tryz.prog 114 [.v (.string (tx l))] (OptP (daysS l)) := by
 refine HasC.of [] (fn := Tryz.f114) tyOk mixed (fun args w => Tryz.call114 args w) Tryz.func114 rfl (by kernel_rfl) (Nat.le_of_ble_eq_true rfl) (OptP_ex _) ?_
 refine vc_seqr rfl (iQ 2 (iE 66 [(0, .d (Sv (tx l))), (2, Ia 0), (3, Ba false)] [] ?_))
 refine vc_seqr rfl (iQ 1 (iC 55 [Sv (tx l), Sv (⟨#[45]⟩)] (some 12) (c_trimM) ?_))
 rintro _ rfl
 have hul := (uns_len l).1
 refine iQ 1 (iE 66 [(0, .d (Sv (tx l))), (2, Ia 0), (3, Ba false), (4, .d (Sv (tx (unsS l).1)))] [] ?_)
 refine vc_seq (vc_seqr rfl (iQ 1 (iB .eql 9 (.string (tx (unsS l).1)) (.string (⟨#[]⟩)) (some 14) ?_)))
 intro c14 hc14
 refine iQ 1 ?_
 cases c14
 ·replace hc14 := bf hc14
  refine iQ 1 (iX 9 (.string (tx (unsS l).1)) (.int .i64 0) (some 17) ?_)
  have h0 : (unsS l).1 ≠ [] := fun e => hc14 ((bempty _).2 e)
  have h00 : 0 < (unsS l).1.length := List.length_pos_iff.2 h0
  refine And.intro (by rw [tx_size]; omega) ?_
  intro z17 hz17
  have e17 := at0_tx (c := 80) h0 hz17
  refine iB .neq 5 (.int .u8 z17) (.int .u8 80) (some 18) ?_
  intro c18 hc18
  refine iQ 1 (iE 66 [(0, .d (Sv (tx l))), (2, Ia 0), (3, Ba false), (4, .d (Sv (tx (unsS l).1))), (19, Ba c18)] [] ?_)
  cases c18
  ·replace hc18 := bf hc18
   have h80 : (unsS l).1.head? = some 80 := e17.1 (Classical.not_not.1 hc18)
   refine iF (vc_skip (seq_n (vc_seqr rfl (iQ 1 (iY 9 (tx (unsS l).1) (1) (((tx (unsS l).1 : ByteArray).size : Int)) (some 22) ?_)))))
   refine And.intro (by rw [tx_size]; omega) ?_
   intro s22 hs22
   have hl22 := sz_ext hs22 (by rw [tx_size]; omega)
   have e22 : s22 = tx (unsS l).1.tail := tail_tx hs22
   refine iQ 2 (iC 162 [Sv s22, Iv 12, .sl 1 [.v (.string (⟨#[68]⟩))], .sl 1 [.v (.int .i64 86400)]] (some 25) (c_run1 e22 (le_tail (by omega))) ?_)
   rintro _ ⟨n, l1, k, rfl, r1, r2, r3, r4⟩
   have r2' := le_tail r2
   refine iQ 7 (iE 66 [(0, .d (Sv (tx l))), (2, Ia 0), (3, Ba false), (4, .d (Sv (tx (unsS l).1))), (5, Ia ((n : Int))), (6, .d (Sv (tx l1))), (7, Ia ((k : Int))), (19, Ba false)] [] ?_)
   refine vc_seq (vc_seqr rfl (iQ 1 (iB .neq 9 (.string (tx l1)) (.string (⟨#[]⟩)) (some 30) ?_)))
   intro c30 hc30
   refine iE 66 [(0, .d (Sv (tx l))), (2, Ia 0), (3, Ba false), (4, .d (Sv (tx (unsS l).1))), (5, Ia ((n : Int))), (6, .d (Sv (tx l1))), (7, Ia ((k : Int))), (19, Ba false), (30, Ba c30)] [] ?_
   cases c30
   ·replace hc30 := bf hc30
    have h1 : l1 = [] := (bempty _).1 (Classical.not_not.1 hc30)
    refine iF (vc_skip (seq_n (vc_seq (vc_seqr rfl (iQ 1 (iB .eql 3 (.int .i64 ((k : Int))) (.int .i64 0) (some 56) ?_))))))
    intro c56 hc56
    refine iE 66 [(0, .d (Sv (tx l))), (2, Ia 0), (3, Ba false), (4, .d (Sv (tx (unsS l).1))), (5, Ia ((n : Int))), (6, .d (Sv (tx l1))), (7, Ia ((k : Int))), (19, Ba false), (30, Ba false), (56, Ba c56)] [] ?_
    cases c56
    ·replace hc56 := bf hc56
     have heq : daysS l = signedS n (unsS l).2 := by rw [daysS_a h80 r1 h1, if_neg (by omega)]
     refine iF (vc_skip (seq_n (vc_seqr rfl (iQ 2 (iL .len [9] [.string (tx (unsS l).1)] (some 59) ?_)))))
     intro n59 hn59
     have e59 : n59 = (unsS l).1.length := by rw [hn59]; exact tx_size _
     refine iQ 1 (iL .len [9] [.string (tx l)] (some 61) ?_)
     intro n61 hn61
     have e61 : n61 = l.length := by rw [hn61]; exact tx_size _
     refine iB .neq 3 (.int .i64 ((n59 : Nat))) (.int .i64 ((n61 : Nat))) (some 62) ?_
     intro c62 hc62
     refine iC 163 [Iv ((n : Int)), Bv c62] (some 63) (c_signedQ (n := n) (neg := c62) (by first | rfl | exact e51) (by omega)) ?_
     rintro _ ⟨z, g, rfl, hz⟩
     refine iQ 4 (iE 66 [(0, .d (Sv (tx l))), (2, Ia z), (3, Ba g), (4, .d (Sv (tx (unsS l).1))), (5, Ia ((n : Int))), (6, .d (Sv (tx l1))), (7, Ia ((k : Int))), (19, Ba false), (30, Ba false), (56, Ba false)] [] ?_)
     refine vc_ret (iS (Iv z) (Bv g) [] ?_)
     exact ⟨_, _, rfl, by rw [hz, heq, uns_negE e59 e61 hc62]⟩
    ·replace hc56 := bt hc56
     refine iT (vc_seqr rfl (iQ 2 (iE 66 [(0, .d (Sv (tx l))), (2, Ia 0), (3, Ba false), (4, .d (Sv (tx (unsS l).1))), (5, Ia ((n : Int))), (6, .d (Sv (tx l1))), (7, Ia ((k : Int))), (19, Ba false), (30, Ba false), (56, Ba true)] [] ?_)))
     refine vc_ret (seq_r (iS (Iv 0) (Bv false) [] ?_))
     exact OptP_no (by rw [daysS_a h80 r1 h1, if_pos (by omega)])
   ·replace hc30 := bt hc30
    have h1 : l1 ≠ [] := fun e => hc30 ((bempty _).2 e)
    have h11 : 0 < l1.length := List.length_pos_iff.2 h1
    refine iT (vc_seq (vc_seqr rfl (iQ 1 (iX 9 (.string (tx l1)) (.int .i64 0) (some 32) ?_))))
    refine And.intro (by rw [tx_size]; omega) ?_
    intro z32 hz32
    have e32 := at0_tx (c := 84) h1 hz32
    refine iB .neq 5 (.int .u8 z32) (.int .u8 84) (some 33) ?_
    intro c33 hc33
    refine iE 66 [(0, .d (Sv (tx l))), (2, Ia 0), (3, Ba false), (4, .d (Sv (tx (unsS l).1))), (5, Ia ((n : Int))), (6, .d (Sv (tx l1))), (7, Ia ((k : Int))), (19, Ba false), (30, Ba true), (33, Ba c33)] [] ?_
    cases c33
    ·replace hc33 := bf hc33
     have h84 : l1.head? = some 84 := e32.1 (Classical.not_not.1 hc33)
     refine iF (vc_skip (seq_n (vc_seqr rfl (iQ 1 (iY 9 (tx l1) (1) (((tx l1 : ByteArray).size : Int)) (some 36) ?_)))))
     refine And.intro (by rw [tx_size]; omega) ?_
     intro s36 hs36
     have hl36 := sz_ext hs36 (by rw [tx_size]; omega)
     have e36 : s36 = tx l1.tail := tail_tx hs36
     refine iQ 2 (iC 162 [Sv s36, Iv 12, .sl 3 [.v (.string (⟨#[72]⟩)), .v (.string (⟨#[77]⟩)), .v (.string (⟨#[83]⟩))], .sl 3 [.v (.int .i64 3600), .v (.int .i64 60), .v (.int .i64 1)]] (some 39) (c_run3 e36 (le_tail (Nat.le_trans r2 (le_tail (by omega))))) ?_)
     rintro _ ⟨m, l2, j, rfl, q1, q2, q3, q4⟩
     have hcc := daysS_c h80 r1 h84 q1
     refine iQ 7 (iE 66 [(0, .d (Sv (tx l))), (2, Ia 0), (3, Ba false), (4, .d (Sv (tx (unsS l).1))), (5, Ia ((n : Int))), (6, .d (Sv (tx l1))), (7, Ia ((k : Int))), (8, Ia ((m : Int))), (9, .d (Sv (tx l2))), (10, Ia ((j : Int))), (19, Ba false), (30, Ba true), (33, Ba false)] [] ?_)
     refine vc_seq (vc_seqr rfl (iQ 1 (iB .neq 9 (.string (tx l2)) (.string (⟨#[]⟩)) (some 44) ?_)))
     intro c44 hc44
     refine iQ 1 ?_
     cases c44
     ·replace hc44 := bf hc44
      refine iQ 1 (iB .eql 3 (.int .i64 ((j : Int))) (.int .i64 0) (some 47) ?_)
      have h2 : l2 = [] := (bempty _).1 (Classical.not_not.1 hc44)
      intro c47 hc47
      refine iQ 1 (iE 66 [(0, .d (Sv (tx l))), (2, Ia 0), (3, Ba false), (4, .d (Sv (tx (unsS l).1))), (5, Ia ((n : Int))), (6, .d (Sv (tx l1))), (7, Ia ((k : Int))), (8, Ia ((m : Int))), (10, Ia ((j : Int))), (19, Ba false), (30, Ba true), (33, Ba false), (48, Ba c47)] [] ?_)
      cases c47
      ·replace hc47 := bf hc47
       refine iF (vc_skip (seq_n (vc_reg rfl (iQ 2 (iB .add 3 (.int .i64 ((n : Int))) (.int .i64 ((m : Int))) (some 51) ?_)))))
       intro z51 hz51
       try replace hz51 := hz51.i64 (by omega)
       have e51 : z51 = ((n + m : Nat) : Int) := by omega
       refine iQ 2 (iB .add 3 (.int .i64 ((k : Int))) (.int .i64 ((j : Int))) (some 54) ?_)
       intro z54 hz54
       try replace hz54 := hz54.i64 (by omega)
       refine iQ 2 (iE 66 [(0, .d (Sv (tx l))), (2, Ia 0), (3, Ba false), (4, .d (Sv (tx (unsS l).1))), (5, Ia z51), (6, .d (Sv (tx l1))), (7, Ia z54), (10, Ia ((j : Int))), (19, Ba false), (30, Ba true), (33, Ba false), (48, Ba false)] [] ?_)
       refine seq_n (vc_seq (vc_seqr rfl (iQ 1 (iB .eql 3 (.int .i64 z54) (.int .i64 0) (some 56) ?_))))
       intro c56 hc56
       refine iE 66 [(0, .d (Sv (tx l))), (2, Ia 0), (3, Ba false), (4, .d (Sv (tx (unsS l).1))), (5, Ia z51), (6, .d (Sv (tx l1))), (7, Ia z54), (10, Ia ((j : Int))), (19, Ba false), (30, Ba true), (33, Ba false), (48, Ba false), (56, Ba c56)] [] ?_
       cases c56
       ·replace hc56 := bf hc56
        have heq : daysS l = signedS (n + m) (unsS l).2 := by rw [hcc, if_neg]; rintro (q | q); exact q h2; omega
        refine iF (vc_skip (seq_n (vc_seqr rfl (iQ 2 (iL .len [9] [.string (tx (unsS l).1)] (some 59) ?_)))))
        intro n59 hn59
        have e59 : n59 = (unsS l).1.length := by rw [hn59]; exact tx_size _
        refine iQ 1 (iL .len [9] [.string (tx l)] (some 61) ?_)
        intro n61 hn61
        have e61 : n61 = l.length := by rw [hn61]; exact tx_size _
        refine iB .neq 3 (.int .i64 ((n59 : Nat))) (.int .i64 ((n61 : Nat))) (some 62) ?_
        intro c62 hc62
        refine iC 163 [Iv z51, Bv c62] (some 63) (c_signedQ (n := (n+m)) (neg := c62) (by first | rfl | exact e51) (by omega)) ?_
        rintro _ ⟨z, g, rfl, hz⟩
        refine iQ 4 (iE 66 [(0, .d (Sv (tx l))), (2, Ia z), (3, Ba g), (4, .d (Sv (tx (unsS l).1))), (5, Ia z51), (6, .d (Sv (tx l1))), (7, Ia z54), (10, Ia ((j : Int))), (19, Ba false), (30, Ba true), (33, Ba false), (48, Ba false), (56, Ba false)] [] ?_)
        refine vc_ret (iS (Iv z) (Bv g) [] ?_)
        exact ⟨_, _, rfl, by rw [hz, heq, uns_negE e59 e61 hc62]⟩
       ·replace hc56 := bt hc56
        refine iT (vc_seqr rfl (iQ 2 (iE 66 [(0, .d (Sv (tx l))), (2, Ia 0), (3, Ba false), (4, .d (Sv (tx (unsS l).1))), (5, Ia z51), (6, .d (Sv (tx l1))), (7, Ia z54), (10, Ia ((j : Int))), (19, Ba false), (30, Ba true), (33, Ba false), (48, Ba false), (56, Ba true)] [] ?_)))
        refine vc_ret (seq_r (iS (Iv 0) (Bv false) [] ?_))
        exfalso; omega
      ·replace hc47 := bt hc47
       refine iT (vc_seqr rfl (iQ 2 (iE 66 [(0, .d (Sv (tx l))), (2, Ia 0), (3, Ba false), (4, .d (Sv (tx (unsS l).1))), (5, Ia ((n : Int))), (6, .d (Sv (tx l1))), (7, Ia ((k : Int))), (8, Ia ((m : Int))), (10, Ia ((j : Int))), (19, Ba false), (30, Ba true), (33, Ba false), (48, Ba true)] [] ?_)))
       refine vc_ret (seq_r (seq_r (iS (Iv 0) (Bv false) [] ?_)))
       exact OptP_no (by rw [hcc, if_pos (.inr (by omega))])
     ·replace hc44 := bt hc44
      refine iQ 3 (iE 66 [(0, .d (Sv (tx l))), (2, Ia 0), (3, Ba false), (4, .d (Sv (tx (unsS l).1))), (5, Ia ((n : Int))), (6, .d (Sv (tx l1))), (7, Ia ((k : Int))), (8, Ia ((m : Int))), (10, Ia ((j : Int))), (19, Ba false), (30, Ba true), (33, Ba false), (48, Ba true)] [] ?_)
      refine iT (vc_seqr rfl (iQ 2 (iE 66 [(0, .d (Sv (tx l))), (2, Ia 0), (3, Ba false), (4, .d (Sv (tx (unsS l).1))), (5, Ia ((n : Int))), (6, .d (Sv (tx l1))), (7, Ia ((k : Int))), (8, Ia ((m : Int))), (10, Ia ((j : Int))), (19, Ba false), (30, Ba true), (33, Ba false), (48, Ba true)] [] ?_)))
      refine vc_ret (seq_r (seq_r (iS (Iv 0) (Bv false) [] ?_)))
      exact OptP_no (by rw [hcc, if_pos (.inl fun e => hc44 ((bempty _).2 e))])
    ·replace hc33 := bt hc33
     refine iT (vc_seqr rfl (iQ 2 (iE 66 [(0, .d (Sv (tx l))), (2, Ia 0), (3, Ba false), (4, .d (Sv (tx (unsS l).1))), (5, Ia ((n : Int))), (6, .d (Sv (tx l1))), (7, Ia ((k : Int))), (19, Ba false), (30, Ba true), (33, Ba true)] [] ?_)))
     refine vc_ret (seq_r (seq_r (iS (Iv 0) (Bv false) [] ?_)))
     exact OptP_no (daysS_b h80 r1 h1 (fun e => hc33 (e32.2 e)))
  ·replace hc18 := bt hc18
   refine iT (vc_seqr rfl (iQ 2 (iE 66 [(0, .d (Sv (tx l))), (2, Ia 0), (3, Ba false), (4, .d (Sv (tx (unsS l).1))), (19, Ba true)] [] ?_)))
   refine vc_ret (seq_r (iS (Iv 0) (Bv false) [] ?_))
   exact OptP_no (daysS_no (fun e => hc18 (e17.2 e))).1
 ·replace hc14 := bt hc14
  refine iQ 4 (iE 66 [(0, .d (Sv (tx l))), (2, Ia 0), (3, Ba false), (4, .d (Sv (tx (unsS l).1))), (19, Ba true)] [] ?_)
  have h0 : (unsS l).1 = [] := (bempty _).1 hc14
  refine iT (vc_seqr rfl (iQ 2 (iE 66 [(0, .d (Sv (tx l))), (2, Ia 0), (3, Ba false), (4, .d (Sv (tx (unsS l).1))), (19, Ba true)] [] ?_)))
  refine vc_ret (seq_r (iS (Iv 0) (Bv false) [] ?_))
  exact OptP_no (daysS_no (by rw [h0]; simp)).1

theorem c_ReadMonths {l : L8} (hL : l.length ≤ 9223372036854775807) : HasC Tryz.prog 116 [.v (.string (tx l))] (OptP (monthsS l)) := by
 refine HasC.of [] (fn := Tryz.f116) tyOk mixed (fun args w => Tryz.call116 args w) Tryz.func116 rfl (by kernel_rfl) (Nat.le_of_ble_eq_true rfl) (OptP_ex _) ?_
 refine vc_seqr rfl (iQ 2 (iE 41 [(0, .d (Sv (tx l))), (2, Ia 0), (3, Ba false)] [] ?_))
 refine vc_seqr rfl (iQ 1 (iC 55 [Sv (tx l), Sv (⟨#[45]⟩)] (some 9) (c_trimM) ?_))
 rintro _ rfl
 have hul := (uns_len l).1
 refine iQ 1 (iE 41 [(0, .d (Sv (tx l))), (2, Ia 0), (3, Ba false), (4, .d (Sv (tx (unsS l).1)))] [] ?_)
 refine vc_seq (vc_seqr rfl (iQ 1 (iB .eql 9 (.string (tx (unsS l).1)) (.string (⟨#[]⟩)) (some 11) ?_)))
 intro c11 hc11
 refine iQ 1 ?_
 cases c11
 ·replace hc11 := bf hc11
  refine iQ 1 (iX 9 (.string (tx (unsS l).1)) (.int .i64 0) (some 14) ?_)
  have h0 : (unsS l).1 ≠ [] := fun e => hc11 ((bempty _).2 e)
  have h00 : 0 < (unsS l).1.length := List.length_pos_iff.2 h0
  refine And.intro (by rw [tx_size]; omega) ?_
  intro z14 hz14
  have e14 := at0_tx (c := 80) h0 hz14
  refine iB .neq 5 (.int .u8 z14) (.int .u8 80) (some 15) ?_
  intro c15 hc15
  refine iQ 1 (iE 41 [(0, .d (Sv (tx l))), (2, Ia 0), (3, Ba false), (4, .d (Sv (tx (unsS l).1))), (16, Ba c15)] [] ?_)
  cases c15
  ·replace hc15 := bf hc15
   have h80 : (unsS l).1.head? = some 80 := e14.1 (Classical.not_not.1 hc15)
   refine iF (vc_skip (seq_n (vc_seqr rfl (iQ 1 (iY 9 (tx (unsS l).1) (1) (((tx (unsS l).1 : ByteArray).size : Int)) (some 19) ?_)))))
   refine And.intro (by rw [tx_size]; omega) ?_
   intro s19 hs19
   have hl19 := sz_ext hs19 (by rw [tx_size]; omega)
   have e19 : s19 = tx (unsS l).1.tail := tail_tx hs19
   refine iQ 2 (iC 162 [Sv s19, Iv 15, .sl 2 [.v (.string (⟨#[89]⟩)), .v (.string (⟨#[77]⟩))], .sl 2 [.v (.int .i64 12), .v (.int .i64 1)]] (some 22) (c_run2 e19 (le_tail (by omega))) ?_)
   rintro _ ⟨n, l1, k, rfl, r1, r2, r3, r4⟩
   have hcc := monthsS_a h80 r1
   refine iQ 7 (iE 41 [(0, .d (Sv (tx l))), (2, Ia 0), (3, Ba false), (4, .d (Sv (tx (unsS l).1))), (5, Ia ((n : Int))), (6, .d (Sv (tx l1))), (7, Ia ((k : Int))), (16, Ba false)] [] ?_)
   refine vc_seq (vc_seqr rfl (iQ 1 (iB .neq 9 (.string (tx l1)) (.string (⟨#[]⟩)) (some 27) ?_)))
   intro c27 hc27
   refine iQ 1 ?_
   cases c27
   ·replace hc27 := bf hc27
    refine iQ 1 (iB .eql 3 (.int .i64 ((k : Int))) (.int .i64 0) (some 30) ?_)
    have h1 : l1 = [] := (bempty _).1 (Classical.not_not.1 hc27)
    intro c30 hc30
    refine iQ 1 (iE 41 [(0, .d (Sv (tx l))), (2, Ia 0), (3, Ba false), (4, .d (Sv (tx (unsS l).1))), (5, Ia ((n : Int))), (16, Ba false), (31, Ba c30)] [] ?_)
    cases c30
    ·replace hc30 := bf hc30
     have heq : monthsS l = signedS n (unsS l).2 := by rw [hcc, if_neg]; rintro (q | q); exact q h1; omega
     refine iF (vc_skip (seq_n (vc_seqr rfl (iQ 2 (iL .len [9] [.string (tx (unsS l).1)] (some 34) ?_)))))
     intro n34 hn34
     have e34 : n34 = (unsS l).1.length := by rw [hn34]; exact tx_size _
     refine iQ 1 (iL .len [9] [.string (tx l)] (some 36) ?_)
     intro n36 hn36
     have e36 : n36 = l.length := by rw [hn36]; exact tx_size _
     refine iB .neq 3 (.int .i64 ((n34 : Nat))) (.int .i64 ((n36 : Nat))) (some 37) ?_
     intro c37 hc37
     refine iC 163 [Iv ((n : Int)), Bv c37] (some 38) (c_signedQ (n := n) (neg := c37) rfl (by omega)) ?_
     rintro _ ⟨z, g, rfl, hz⟩
     refine iQ 4 (iE 41 [(0, .d (Sv (tx l))), (2, Ia z), (3, Ba g), (4, .d (Sv (tx (unsS l).1))), (16, Ba false), (31, Ba false)] [] ?_)
     refine vc_ret (iS (Iv z) (Bv g) [] ?_)
     exact ⟨_, _, rfl, by rw [hz, heq, uns_negE e34 e36 hc37]⟩
    ·replace hc30 := bt hc30
     refine iT (vc_seqr rfl (iQ 2 (iE 41 [(0, .d (Sv (tx l))), (2, Ia 0), (3, Ba false), (4, .d (Sv (tx (unsS l).1))), (5, Ia ((n : Int))), (16, Ba false), (31, Ba true)] [] ?_)))
     refine vc_ret (seq_r (iS (Iv 0) (Bv false) [] ?_))
     exact OptP_no (by rw [hcc, if_pos (.inr (by omega))])
   ·replace hc27 := bt hc27
    refine iQ 3 (iE 41 [(0, .d (Sv (tx l))), (2, Ia 0), (3, Ba false), (4, .d (Sv (tx (unsS l).1))), (5, Ia ((n : Int))), (16, Ba false), (31, Ba true)] [] ?_)
    refine iT (vc_seqr rfl (iQ 2 (iE 41 [(0, .d (Sv (tx l))), (2, Ia 0), (3, Ba false), (4, .d (Sv (tx (unsS l).1))), (5, Ia ((n : Int))), (16, Ba false), (31, Ba true)] [] ?_)))
    refine vc_ret (seq_r (iS (Iv 0) (Bv false) [] ?_))
    exact OptP_no (by rw [hcc, if_pos (.inl fun e => hc27 ((bempty _).2 e))])
  ·replace hc15 := bt hc15
   refine iT (vc_seqr rfl (iQ 2 (iE 41 [(0, .d (Sv (tx l))), (2, Ia 0), (3, Ba false), (4, .d (Sv (tx (unsS l).1))), (16, Ba true)] [] ?_)))
   refine vc_ret (seq_r (iS (Iv 0) (Bv false) [] ?_))
   exact OptP_no (daysS_no (fun e => hc15 (e14.2 e))).2
 ·replace hc11 := bt hc11
  refine iQ 4 (iE 41 [(0, .d (Sv (tx l))), (2, Ia 0), (3, Ba false), (4, .d (Sv (tx (unsS l).1))), (16, Ba true)] [] ?_)
  have h0 : (unsS l).1 = [] := (bempty _).1 hc11
  refine iT (vc_seqr rfl (iQ 2 (iE 41 [(0, .d (Sv (tx l))), (2, Ia 0), (3, Ba false), (4, .d (Sv (tx (unsS l).1))), (16, Ba true)] [] ?_)))
  refine vc_ret (seq_r (iS (Iv 0) (Bv false) [] ?_))
  exact OptP_no (daysS_no (by rw [h0]; simp)).2

end Go.Proofs.YtpambeengdhhmaaGreatDoor
