/-
  casuistref01: a number's text, the number of a text; WideTexts.
-/
import Derived.Test.YtiafmdfegmimdaaBckL
namespace Go.Proofs.Ytiafmdfegmimdaa
open Go.RowKit
set_option linter.unusedVariables false
set_option linter.unusedSimpArgs false
set_option maxRecDepth 100000

/-- The highest digits' signs, as they are put into a text. -/
def hd (n : Nat) : Nat → List Int
  | 0 => []
  | j + 1 => hd n j ++ [((48 + dig n (nd n - 1 - j) : Nat) : Int)]
theorem hd_len (n : Nat) : ∀ j, (hd n j).length = j
  | 0 => rfl
  | j + 1 => by simp [hd, hd_len n j]
theorem hd_get (n : Nat) : ∀ j i, i < j → (hd n j)[i]? = some ((48 + dig n (nd n - 1 - i) : Nat) : Int)
  | 0, i, h => by omega
  | j + 1, i, h => by
    rw [hd]
    by_cases e : i < j
    · rw [List.getElem?_append_left (by rw [hd_len]; exact e)]
      exact hd_get n j i e
    · have : i = j := by omega
      subst this
      rw [List.getElem?_append_right (by rw [hd_len]; exact Nat.le_refl _), hd_len]
      simp
theorem hd_tl (n : Nat) : hd n (nd n) = tl n (nd n) := by
  apply List.ext_getElem?
  intro i
  by_cases h : i < nd n
  · rw [hd_get n _ i h, tl_get n _ i h]
  · rw [List.getElem?_eq_none (by rw [hd_len]; omega), List.getElem?_eq_none (by rw [tl_len]; omega)]
def by8 (l : List Int) : List DV := l.map fun z => .v (.int .u8 z)
@[simp] theorem by8_len (l : List Int) : (by8 l).length = l.length := by simp [by8]
theorem by8_one : ∀ l, allOne (by8 l) = true
  | [] => rfl
  | z :: l => by simp only [by8, List.map_cons, allOne, DV.one, Bool.true_and]; exact by8_one l
theorem by8_snoc {n j : Nat} {z : Int} (h : z = ((48 + dig n (nd n - 1 - j) : Nat) : Int)) : by8 (hd n j) ++ [.v (.int .u8 z)] = by8 (hd n (j + 1)) := by simp [by8, hd, h]

theorem c_RTxt {n : Nat} (hn : nd n ≤ 1000) : HasC Try.prog 15 [.sl (nd (n)) (dg (digs (n)))] (fun r => r = .v (.string (txS n))) := by
  refine HasC.of [] (fn := Try.f15) tyOk mixed (fun args w => Try.call15 args w) Try.func15 rfl (by kernel_rfl) (Nat.le_of_ble_eq_true rfl) (⟨_, rfl⟩) ?_
  refine vc_seqr rfl (iQ 1 (iE 26 [(0, .d (.sl (nd (n)) (dg (digs (n))))), (2, .d (Sv (⟨#[]⟩)))] [] ?_))
  refine vc_seq (vc_seqr rfl (iQ 2 (iB .eql 3 (.int .i64 (((nd (n) : Nat) : Int))) (.int .i64 0) (some 7) ?_)))
  intro c7 hc7
  refine iE 26 [(0, .d (.sl (nd (n)) (dg (digs (n))))), (2, .d (Sv (⟨#[]⟩))), (7, Ba c7)] [] ?_
  cases c7
  · replace hc7 := bf hc7
    refine iF (vc_skip (seq_n (vc_seqr rfl (iQ 1 (iE 26 [(0, .d (.sl (nd (n)) (dg (digs (n))))), (2, .d (Sv (⟨#[]⟩))), (3, .w (.sl 0 []) none), (7, Ba false)] [] ?_)))))
    refine vc_seq (vc_seqr rfl (iQ 2 (iB .sub 3 (.int .i64 (((nd (n) : Nat) : Int))) (.int .i64 1) (some 10) ?_)))
    intro z10 hz10
    try replace hz10 := hz10.i64 (by omega)
    refine iQ 1 (iE 26 [(0, .d (.sl (nd (n)) (dg (digs (n))))), (2, .d (Sv (⟨#[]⟩))), (3, .w (.sl 0 []) none), (4, Ia z10), (7, Ba false)] [] ?_)
    refine vc_block (vc_loop 26 (fun (vcx : Nat × Int) => match vcx with | (j, c) => [(0, .d (.sl (nd (n)) (dg (digs (n))))), (2, .d (Sv (⟨#[]⟩))), (3, .w (.sl ((hd n j).length) (by8 (hd n j))) (some ⟨3, 0, 5, 1⟩)), (4, Ia c), (7, Ba false)]) (fun (vcx : Nat × Int) => match vcx with | (j, c) => []) (fun (vcx : Nat × Int) => match vcx with | (j, c) => c = nd n - 1 - (j : Int) ∧ j ≤ nd n) (fun (vcx : Nat × Int) => match vcx with | (j, c) => nd n - j) ((0, z10)) (⟨by omega, by omega⟩) (by kernel_rfl) (by kernel_rfl) ?_)
    rintro ⟨j, c⟩ hinv
    simp only at hinv
    obtain ⟨h1, h2⟩ := hinv
    refine vc_seq (vc_seqr rfl (iQ 1 (iB .geq 3 (.int .i64 c) (.int .i64 0) (some 12) ?_)))
    intro c12 hc12
    refine iE 26 [(0, .d (.sl (nd (n)) (dg (digs (n))))), (2, .d (Sv (⟨#[]⟩))), (3, .w (.sl ((hd n j).length) (by8 (hd n j))) (some ⟨3, 0, 5, 1⟩)), (4, Ia c), (7, Ba false), (12, Ba c12)] [] ?_
    cases c12
    · replace hc12 := bf hc12
      have hj : j = nd n := by omega
      refine iF (vc_exit (seq_x (loop_x (block_x rfl (seq_n (vc_seqr rfl (iQ 1 (vcI_cv (n := ((hd n j).length)) (cs := (by8 (hd n j))) (d := 25) (b := (txS n)) (hd n j) (by kernel_rfl) (rfl) (rfl) (by rw [txS, if_neg (by intro e; subst e; exact hc7 (by rw [nd_zero]; rfl)), hj, hd_tl]) ?_))))))))
      refine iQ 1 (iE 26 [(0, .d (.sl (nd (n)) (dg (digs (n))))), (2, .d (Sv (txS n))), (3, .w (.sl ((hd n j).length) (by8 (hd n j))) (some ⟨3, 0, 5, 1⟩)), (4, Ia c), (7, Ba false), (12, Ba false)] [] ?_)
      refine vc_ret (iR (Sv (txS n)) ?_)
      rfl
    · replace hc12 := bt hc12
      refine iT (vc_skip (seq_n (vc_seq (vc_block (vc_reg rfl (iQ 3 (vcI_idx1 (q := c) (n := (nd (n))) (cs := (dg (digs (n)))) (d := .v (.int .i64 ((dig n (nd n - 1 - j) : Int)))) (dst := (some 18)) (by kernel_rfl) (by omega) (dg_get (by rw [show c.toNat = nd n - 1 - j by omega]; exact digs_get? (by omega))) ?_)))))))
      have hdl := dig_lt n (nd n - 1 - j)
      refine iQ 1 (iB .add 3 (.int .i64 48) (.int .i64 ((dig n (nd n - 1 - j) : Int))) (some 20) ?_)
      intro z20 hz20
      try replace hz20 := hz20.i64 (by omega)
      refine iV 3 5 (.int .i64 z20) (some 21) ?_
      intro z21 hz21
      try replace hz21 := hz21.u8 (by omega)
      refine iQ 1 (vcI_app (n := ((hd n j).length)) (cs := (by8 (hd n j))) (m := 1) (ds := [.v (.int .u8 z21)]) (N := ((hd n (j + 1)).length)) (es := (by8 (hd n (j + 1)))) (j := 3) (e := 5) (z := 1) (dst := (some 23)) (by kernel_rfl) (by first | rfl | omega | (rw [Nat.mul_one]; exact dg_len _) | (simp [dg]; done) | (simp [dg]; omega)) (by first | rfl | omega | (rw [Nat.mul_one]; exact dg_len _) | (simp [dg]; done) | (simp [dg]; omega)) (rfl) (by rw [hd_len]; omega) (by simp [hd_len]) (by8_snoc (by omega)) ?_)
      refine iQ 1 (iE 26 [(0, .d (.sl (nd (n)) (dg (digs (n))))), (2, .d (Sv (⟨#[]⟩))), (3, .w (.sl ((hd n (j + 1)).length) (by8 (hd n (j + 1)))) (some ⟨3, 0, 5, 1⟩)), (4, Ia c), (7, Ba false), (12, Ba true)] [] ?_)
      refine block_n (seq_n (vc_reg rfl (iQ 1 (iB .sub 3 (.int .i64 c) (.int .i64 1) (some 14) ?_))))
      intro z14 hz14
      try replace hz14 := hz14.i64 (by omega)
      refine iQ 1 (iE 26 [(0, .d (.sl (nd (n)) (dg (digs (n))))), (2, .d (Sv (⟨#[]⟩))), (3, .w (.sl ((hd n (j + 1)).length) (by8 (hd n (j + 1)))) (some ⟨3, 0, 5, 1⟩)), (4, Ia z14), (7, Ba false), (12, Ba true)] [] ?_)
      refine loop_n (j + 1, z14) (⟨by omega, by omega⟩) (by show nd n - (j + 1) < nd n - j; omega) (by kernel_rfl) (by kernel_rfl)
  · replace hc7 := bt hc7
    refine iT (vc_seqr rfl (iQ 1 (iE 26 [(0, .d (.sl (nd (n)) (dg (digs (n))))), (2, .d (Sv (⟨#[48]⟩))), (7, Ba true)] [] ?_)))
    refine vc_ret (seq_r (iR (Sv (⟨#[48]⟩)) ?_))
    rw [txS, if_pos (by apply Classical.byContradiction; intro h; have := nd_pos' h; omega)]
/-- The digits of a text's last signs, the lowest ahead. -/
def lo (s : ByteArray) : Nat → List Nat
  | 0 => []
  | j + 1 => lo s j ++ [bAt s (s.size - 1 - j) - 48]
theorem lo_len (s : ByteArray) : ∀ j, (lo s j).length = j
  | 0 => rfl
  | j + 1 => by simp [lo, lo_len s j]
theorem lo_val (s : ByteArray) : ∀ j, j ≤ s.size → pv s s.size = pv s (s.size - j) * 10 ^ j + dval (lo s j)
  | 0, h => by simp [lo, dval]
  | j + 1, h => by
    have ih := lo_val s j (by omega)
    have e : s.size - j = (s.size - (j + 1)) + 1 := by omega
    rw [e, pv] at ih
    rw [ih, lo, dval_snoc, lo_len, show s.size - (j + 1) = s.size - 1 - j by omega, Nat.pow_succ, Nat.add_mul, Nat.mul_assoc, Nat.mul_comm 10 (10 ^ j), Nat.mul_comm (10 ^ j) (bAt s (s.size - 1 - j) - 48)]
    omega
theorem lo_all (s : ByteArray) : dval (lo s s.size) = pv s s.size := by
  have := lo_val s s.size (Nat.le_refl _)
  rw [Nat.sub_self, pv] at this
  omega
theorem lo_lt {s : ByteArray} : ∀ {j : Nat}, (∀ i, i < j → isD s (s.size - 1 - i)) → ∀ d ∈ lo s j, d < 10
  | 0, h, d, hd => by cases hd
  | j + 1, h, d, hd => by
    rw [lo, List.mem_append] at hd
    rcases hd with hd | hd
    · exact lo_lt (fun i hi => h i (by omega)) d hd
    · have := h j (by omega)
      unfold isD at this
      simp at hd
      omega
theorem pv_nd (s : ByteArray) : ∀ k, (∀ i, i < k → isD s i) → pv s k < 10 ^ k
  | 0, h => by simp [pv]
  | k + 1, h => by
    have ih := pv_nd s k (fun i hi => h i (by omega))
    have := h k (by omega)
    unfold isD at this
    rw [pv, Nat.pow_succ]
    omega
open Classical in
noncomputable def rrV (s : ByteArray) : Nat := if Dig s then pv s s.size else 0
/-- What the document's Read says. -/
def RrP (s : ByteArray) (r : DV) : Prop := ∃ b, r = .tup [.sl (nd (rrV s)) (dg (digs (rrV s))), .v (.bool b)] ∧ (b = true ↔ Dig s)
theorem RrP_no {s : ByteArray} (h : ¬ Dig s) : RrP s (.tup [.sl 0 [], .v (.bool false)]) := ⟨false, by rw [rrV, if_neg h, dn_zero], by simp [h]⟩
theorem RrP_yes {s : ByteArray} {m : Nat} (h : Dig s) (hm : m = pv s s.size) : RrP s (.tup [.sl (nd m) (dg (digs m)), .v (.bool true)]) := ⟨true, by rw [rrV, if_pos h, hm], by simp [h]⟩
theorem RrP_end {s : ByteArray} {b : Bool} (h : ∀ i, i < s.size → isD s i) (hb : b = true ↔ 0 < s.size) : RrP s (.tup [.sl (nd (dval (lo s s.size))) (dg (digs (dval (lo s s.size)))), .v (.bool b)]) := by
  have hv : rrV s = dval (lo s s.size) := by
    rw [lo_all]
    unfold rrV
    split
    · rfl
    · rename_i hn
      have : s.size = 0 := by
        apply Classical.byContradiction
        intro h0
        exact hn ⟨by omega, h⟩
      rw [this, pv]
  exact ⟨b, by rw [hv], hb.trans ⟨fun h0 => ⟨h0, h⟩, fun hd => hd.1⟩⟩
theorem isD_more {s : ByteArray} {j : Nat} (h : ∀ i, i < j → isD s (s.size - 1 - i)) (hd : isD s (s.size - 1 - j)) : ∀ i, i < j + 1 → isD s (s.size - 1 - i) := fun i hi => by
  by_cases e : i = j
  · rw [e]; exact hd
  · exact h i (by omega)
theorem strAt_b (s : ByteArray) (k : Nat) : strAt s k = (bAt s k : Int) := rfl

set_option maxHeartbeats 800000 in
theorem c_RRead {s : ByteArray} (hs : s.size ≤ 60) : HasC Try.prog 10 [.v (.string s)] (RrP s) := by
  refine HasC.of [] (fn := Try.f10) tyOk mixed (fun args w => Try.call10 args w) Try.func10 rfl (by kernel_rfl) (Nat.le_of_ble_eq_true rfl) (by by_cases h : Dig s; exact ⟨_, RrP_yes h rfl⟩; exact ⟨_, RrP_no h⟩) ?_
  refine vc_seqr rfl (iQ 2 (iE 36 [(0, .d (Sv s)), (2, .w (.sl 0 []) none), (3, Ba false)] [] ?_))
  refine vc_seqr rfl (iQ 1 (iE 36 [(0, .d (Sv s)), (2, .w (.sl 0 []) none), (3, Ba false), (4, .w (.sl 0 []) none)] [] ?_))
  refine vc_seq (vc_seqr rfl (iQ 1 (iL .len [9] [.string s] (some 7) ?_)))
  intro n7 hn7
  refine iB .sub 3 (.int .i64 ((n7 : Nat))) (.int .i64 1) (some 8) ?_
  intro z8 hz8
  try replace hz8 := hz8.i64 (by omega)
  refine iQ 1 (iE 36 [(0, .d (Sv s)), (2, .w (.sl 0 []) none), (3, Ba false), (4, .w (.sl 0 []) none), (5, Ia z8)] [] ?_)
  refine vc_block (vc_loop 36 (fun (vcx : Nat × Int) => match vcx with | (j, c) => [(0, .d (Sv s)), (2, .w (.sl 0 []) none), (3, Ba false), (4, .w (.sl ((lo s j).length) (dg (lo s j))) (some ⟨4, 0, 3, 1⟩)), (5, Ia c)]) (fun (vcx : Nat × Int) => match vcx with | (j, c) => []) (fun (vcx : Nat × Int) => match vcx with | (j, c) => c = s.size - 1 - (j : Int) ∧ j ≤ s.size ∧ ∀ i, i < j → isD s (s.size - 1 - i)) (fun (vcx : Nat × Int) => match vcx with | (j, c) => s.size - j) ((0, z8)) (⟨by omega, by omega, fun i h => by omega⟩) (by kernel_rfl) (by kernel_rfl) ?_)
  rintro ⟨j, c⟩ hinv
  simp only at hinv
  obtain ⟨h1, h2, h3⟩ := hinv
  refine vc_seq (vc_seqr rfl (iQ 1 (iB .geq 3 (.int .i64 c) (.int .i64 0) (some 10) ?_)))
  intro c10 hc10
  refine iE 36 [(0, .d (Sv s)), (2, .w (.sl 0 []) none), (3, Ba false), (4, .w (.sl ((lo s j).length) (dg (lo s j))) (some ⟨4, 0, 3, 1⟩)), (5, Ia c), (10, Ba c10)] [] ?_
  cases c10
  · replace hc10 := bf hc10
    have hj : j = s.size := by omega
    refine iF (vc_exit (seq_x (loop_x (block_x rfl (seq_n (vc_seqr rfl (iQ 1 (iC 24 [.sl ((lo s j).length) (dg (lo s j))] (some 32) (c_TrimD (lo_lt h3) (by rw [lo_len]; omega)) ?_))))))))
    rintro _ rfl
    refine iQ 1 (iL .len [9] [.string s] (some 34) ?_)
    intro n34 hn34
    refine iB .gtr 3 (.int .i64 ((n34 : Nat))) (.int .i64 0) (some 35) ?_
    intro c35 hc35
    refine iQ 2 (iE 36 [(0, .d (Sv s)), (2, .d (.sl (nd (dval (lo s j))) (dg (digs (dval (lo s j)))))), (3, Ba c35), (4, .w (.sl ((lo s j).length) (dg (lo s j))) (some ⟨4, 0, 3, 1⟩)), (5, Ia c), (10, Ba false)] [] ?_)
    refine vc_ret (iS (.sl (nd (dval (lo s j))) (dg (digs (dval (lo s j))))) (Bv c35) [] ?_)
    subst hj; exact RrP_end (fun k hk => by have := h3 (s.size - 1 - k) (by omega); rwa [show s.size - 1 - (s.size - 1 - k) = k by omega] at this) (by rw [hc35]; omega)
  · replace hc10 := bt hc10
    have hc : c.toNat = s.size - 1 - j := by omega
    have key : ¬ isD s (s.size - 1 - j) → ¬ Dig s := fun hn h => hn (h.2 _ (by omega))
    refine iT (vc_skip (seq_n (vc_seq (vc_block (vc_seq (vc_seqr rfl (iQ 2 (iX 9 (.string s) (.int .i64 c) (some 15) ?_))))))))
    refine And.intro (by omega) ?_
    intro z15 hz15
    have e15 : z15 = (bAt s (s.size - 1 - j) : Int) := by rw [hz15, hc]; rfl
    refine iB .lss 5 (.int .u8 z15) (.int .u8 48) (some 16) ?_
    intro c16 hc16
    refine iQ 1 ?_
    cases c16
    · replace hc16 := bf hc16
      refine iQ 2 (iX 9 (.string s) (.int .i64 c) (some 20) ?_)
      refine And.intro (by omega) ?_
      intro z20 hz20
      have e20 : z20 = (bAt s (s.size - 1 - j) : Int) := by rw [hz20, hc]; rfl
      refine iB .gtr 5 (.int .u8 z20) (.int .u8 57) (some 21) ?_
      intro c21 hc21
      refine iQ 1 (iE 36 [(0, .d (Sv s)), (2, .w (.sl 0 []) none), (3, Ba false), (4, .w (.sl ((lo s j).length) (dg (lo s j))) (some ⟨4, 0, 3, 1⟩)), (5, Ia c), (10, Ba true), (22, Ba c21)] [] ?_)
      cases c21
      · replace hc21 := bf hc21
        refine iF (vc_skip (seq_n (vc_reg rfl (iQ 3 (iX 9 (.string s) (.int .i64 c) (some 26) ?_)))))
        refine And.intro (by omega) ?_
        intro z26 hz26
        have e26 : z26 = (bAt s (s.size - 1 - j) : Int) := by rw [hz26, hc]; rfl
        have hd : isD s (s.size - 1 - j) := ⟨by omega, by omega⟩
        have hb := bAt_lt s (s.size - 1 - j)
        refine iB .sub 5 (.int .u8 z26) (.int .u8 48) (some 27) ?_
        intro z27 hz27
        try replace hz27 := hz27.u8 (by omega)
        refine iV 5 3 (.int .u8 z27) (some 28) ?_
        intro z28 hz28
        try replace hz28 := hz28.i64 (by omega)
        have e28 : z28 = ((bAt s (s.size - 1 - j) - 48 : Nat) : Int) := by omega
        refine iQ 1 (vcI_app (n := ((lo s j).length)) (cs := (dg (lo s j))) (m := 1) (ds := [.v (.int .i64 z28)]) (N := ((lo s (j + 1)).length)) (es := (dg (lo s (j + 1)))) (j := 4) (e := 3) (z := 1) (dst := (some 30)) (by kernel_rfl) (by first | rfl | omega | (rw [Nat.mul_one]; exact dg_len _) | (simp [dg]; done) | (simp [dg]; omega)) (by first | rfl | omega | (rw [Nat.mul_one]; exact dg_len _) | (simp [dg]; done) | (simp [dg]; omega)) (rfl) (by rw [lo_len]; omega) (by simp [lo_len]) (by simp [lo, dg, e28]) ?_)
        refine iQ 1 (iE 36 [(0, .d (Sv s)), (2, .w (.sl 0 []) none), (3, Ba false), (4, .w (.sl ((lo s (j + 1)).length) (dg (lo s (j + 1)))) (some ⟨4, 0, 3, 1⟩)), (5, Ia c), (10, Ba true), (22, Ba false)] [] ?_)
        refine block_n (seq_n (vc_reg rfl (iQ 1 (iB .sub 3 (.int .i64 c) (.int .i64 1) (some 12) ?_))))
        intro z12 hz12
        try replace hz12 := hz12.i64 (by omega)
        refine iQ 1 (iE 36 [(0, .d (Sv s)), (2, .w (.sl 0 []) none), (3, Ba false), (4, .w (.sl ((lo s (j + 1)).length) (dg (lo s (j + 1)))) (some ⟨4, 0, 3, 1⟩)), (5, Ia z12), (10, Ba true), (22, Ba false)] [] ?_)
        refine loop_n (j + 1, z12) (⟨by omega, by omega, isD_more h3 hd⟩) (by show s.size - (j + 1) < s.size - j; omega) (by kernel_rfl) (by kernel_rfl)
      · replace hc21 := bt hc21
        refine iT (vc_seqr rfl (iQ 2 (iE 36 [(0, .d (Sv s)), (2, .w (.sl 0 []) none), (3, Ba false), (4, .w (.sl ((lo s j).length) (dg (lo s j))) (some ⟨4, 0, 3, 1⟩)), (5, Ia c), (10, Ba true), (22, Ba true)] [] ?_)))
        refine vc_ret (seq_r (block_r (seq_r (loop_r (block_r (seq_r (iS (.sl 0 []) (Bv false) [] ?_)))))))
        exact RrP_no (key fun hd => by have := hd.2; omega)
    · replace hc16 := bt hc16
      refine iQ 5 (iE 36 [(0, .d (Sv s)), (2, .w (.sl 0 []) none), (3, Ba false), (4, .w (.sl ((lo s j).length) (dg (lo s j))) (some ⟨4, 0, 3, 1⟩)), (5, Ia c), (10, Ba true), (22, Ba true)] [] ?_)
      refine iT (vc_seqr rfl (iQ 2 (iE 36 [(0, .d (Sv s)), (2, .w (.sl 0 []) none), (3, Ba false), (4, .w (.sl ((lo s j).length) (dg (lo s j))) (some ⟨4, 0, 3, 1⟩)), (5, Ia c), (10, Ba true), (22, Ba true)] [] ?_)))
      refine vc_ret (seq_r (block_r (seq_r (loop_r (block_r (seq_r (iS (.sl 0 []) (Bv false) [] ?_)))))))
      exact RrP_no (key fun hd => by have := hd.1; omega)
theorem cw_TenB {k : Int} (h : 0 ≤ k ∧ k ≤ 38) : HasC Try.prog 5 [.v (.int .i64 k)] (fun y => y = .tup [dU (10 ^ k.toNat), .v (.bool true)]) := cw_Ten h.1 h.2
theorem ten_lt {k : Int} (h1 : k ≤ 38) : 10 ^ k.toNat < B128 := by
  have h2 : 10 ^ k.toNat ≤ 10 ^ 38 := Nat.pow_le_pow_right (by decide) (by omega)
  have h3 : 10 ^ 38 < B128 := by decide
  omega
theorem cw_TenQ {k : Int} : HasC Try.prog 5 [.v (.int .i64 k)] (fun y => ∃ t ok, y = .tup [dU t, .v (.bool ok)] ∧ (ok = true ↔ 0 ≤ k ∧ k ≤ 38) ∧ (ok = true → t = 10 ^ k.toNat) ∧ (ok = false → t = 0) ∧ t < B128) := by
  by_cases h : 0 ≤ k ∧ k ≤ 38
  · exact (cw_Ten h.1 h.2).mono fun y hy => ⟨_, _, hy, ⟨fun _ => h, fun _ => rfl⟩, fun _ => rfl, (fun e => by cases e), ten_lt h.2⟩
  · exact (cw_Ten_no (by omega)).mono fun y hy => ⟨_, _, hy, ⟨(fun e => by cases e), fun e => absurd e h⟩, (fun e => by cases e), fun _ => rfl, by decide⟩
theorem c_Shift1 {k : Int} (h0 : 0 ≤ k) (h1 : k ≤ 38) : HasC Try.prog 8 [.sl 1 [.v (.int .i64 1)], .v (.int .i64 k)] (fun y => y = .sl (nd (10 ^ k.toNat)) (dg (digs (10 ^ k.toNat)))) := by
  have e : (.sl 1 [.v (.int .i64 1)] : DV) = .sl (nd 1) (dg (digs 1)) := by rw [nd_def, digs_one]; rfl
  have h := c_Shift (a := 1) (n := k.toNat) (by have := nd_small (show 1 < 10 by decide); omega) (by omega)
  rw [Nat.one_mul, Int.toNat_of_nonneg h0] at h
  rw [e]
  exact h
theorem pv_nd60 {s : ByteArray} (hs : s.size ≤ 60) (h : Dig s) : nd (pv s s.size) ≤ 60 := Nat.le_trans (nd_le _ _ (pv_nd s _ h.2)) hs
theorem c_ReadB {s : ByteArray} : HasC Try.prog 13 [.v (.string s)] (fun y => ∃ m g, y = .tup [dU m, .v (.bool g)] ∧ (g = true ↔ RdOk s) ∧ (g = true → m = pv s s.size) ∧ (g = false → m = 0) ∧ m < B128) :=
  c_Read.mono fun y ⟨b, h1, h2⟩ => by
    refine ⟨rdV s, b, h1, h2, fun e => ?_, fun e => ?_, ?_⟩
    · rw [rdV, if_pos (h2.1 e)]
    · rw [rdV, if_neg (fun h => by have := h2.2 h; rw [e] at this; cases this)]
    · unfold rdV
      split
      · rename_i h; exact h.2
      · decide
theorem c_RReadB {s : ByteArray} (hs : s.size ≤ 60) : HasC Try.prog 10 [.v (.string s)] (fun y => ∃ n b, y = .tup [.sl (nd n) (dg (digs n)), .v (.bool b)] ∧ (b = true ↔ Dig s) ∧ (b = true → n = pv s s.size) ∧ nd n ≤ 60) :=
  (c_RRead hs).mono fun y ⟨b, h1, h2⟩ => by
    refine ⟨rrV s, b, h1, h2, fun e => ?_, ?_⟩
    · rw [rrV, if_pos (h2.1 e)]
    · unfold rrV
      split
      · rename_i h; exact pv_nd60 hs h
      · rw [nd_zero]; decide
theorem b128 : B128 = 2 ^ 128 := by decide
theorem nd_b128 : nd (2 ^ 128) ≤ 60 := nd_le _ _ (by decide)
theorem c_ZeroT : HasC Try.prog 9 [dU 0] (fun y => y = .v (.bool true)) :=
  (cw_Zero (by decide)).mono fun y ⟨b, h1, h2⟩ => by rw [h1, h2.2 rfl]

theorem bfalse {b : Bool} (h : ¬ b = true) : b = false := by simpa using h
theorem c_ZeroE {m : Nat} (h : m = 0) : HasC Try.prog 9 [dU m] (fun y => y = .v (.bool true)) := by rw [h]; exact c_ZeroT
theorem cmpN_lt_iff {a b : Nat} : cmpN a b < 0 ↔ a < b := by
  unfold cmpN
  split
  · simp; omega
  · split <;> simp <;> omega

set_option maxHeartbeats 3200000 in
theorem c_WideTexts {a b : Nat} {k : Int} {s : ByteArray} (ha : a < B128) (hb : b < B128) : HasC Try.prog 3 [.agg [.v (.int .u64 (hiW (a))), .v (.int .u64 (loW (a)))], .agg [.v (.int .u64 (hiW (b))), .v (.int .u64 (loW (b)))], .v (.int .i64 k), .v (.string s)] (fun y => y = .v (.bool true)) := by
  refine HasC.of [] (fn := Try.f3) tyOk mixed (fun args w => Try.call3 args w) Try.func3 rfl (by kernel_rfl) (Nat.le_of_ble_eq_true rfl) (⟨_, rfl⟩) ?_
  refine vc_seqr rfl (iQ 3 (iE 109 [(2, Ia k), (3, .d (Sv s)), (4, .p 4 0), (5, .p 5 0), (8, Ba false)] [(4, [Hw a, Lw a]), (5, [Hw b, Lw b])] ?_))
  refine vc_seq (vc_seqr rfl (iC 4 [] (some 15) (c_awake) ?_))
  rintro _ rfl
  refine iU .not (.bool true) (some 16) ?_
  refine all_false ((by simp)) ?_
  refine iE 109 [(2, Ia k), (3, .d (Sv s)), (4, .p 4 0), (5, .p 5 0), (8, Ba false), (16, Ba false)] [(4, [Hw a, Lw a]), (5, [Hw b, Lw b])] ?_
  refine iF (vc_skip (seq_n (vc_seq (vc_seqr rfl (iQ 1 (iL .len [9] [.string s] (some 18) ?_))))))
  intro n18 hn18
  refine iB .gtr 3 (.int .i64 ((n18 : Nat))) (.int .i64 60) (some 19) ?_
  intro c19 hc19
  refine iE 109 [(2, Ia k), (3, .d (Sv s)), (4, .p 4 0), (5, .p 5 0), (8, Ba false), (16, Ba false), (19, Ba c19)] [(4, [Hw a, Lw a]), (5, [Hw b, Lw b])] ?_
  cases c19
  · replace hc19 := bf hc19
    have hs : s.size ≤ 60 := by omega
    refine iF (vc_skip (seq_n (vc_seqr rfl (iQ 1 (iC 5 [Iv k] (some 22) (cw_TenQ) ?_)))))
    rintro _ ⟨t, ok, rfl, hok, ht, htz, htB⟩
    refine iQ 6 (iE 109 [(2, Ia k), (3, .d (Sv s)), (4, .p 4 0), (5, .p 5 0), (8, Ba false), (9, .p 9 0), (10, Ba ok), (16, Ba false), (19, Ba false)] [(4, [Hw a, Lw a]), (5, [Hw b, Lw b]), (9, [Hw t, Lw t])] ?_)
    refine vc_seq (vc_seqr rfl (iQ 2 (iB .geq 3 (.int .i64 k) (.int .i64 0) (some 27) ?_)))
    intro c27 hc27
    refine iQ 1 ?_
    cases c27
    · replace hc27 := bf hc27
      refine iQ 3 (iB .neq 4 (.bool ok) (.bool false) (some 32) ?_)
      refine all_false ((fun h => h (bfalse fun e => by have := hok.1 e; omega))) ?_
      refine iQ 3 ?_
      cases ok
      · replace hok := bf hok
        refine iQ 11 (iU .not (.bool false) (some 47) ?_)
        refine all_true (rfl) ?_
        refine iQ 2 (iC 9 [.agg [Hw t, Lw t]] (some 50) (c_ZeroE (htz rfl)) ?_)
        rintro _ rfl
        refine iU .not (.bool true) (some 51) ?_
        refine all_false ((by simp)) ?_
        refine iQ 2 (iE 109 [(2, Ia k), (3, .d (Sv s)), (4, .p 4 0), (5, .p 5 0), (8, Ba false), (9, .p 9 0), (16, Ba false), (19, Ba false), (53, Ba false)] [(4, [Hw a, Lw a]), (5, [Hw b, Lw b]), (9, [Hw t, Lw t])] ?_)
        refine iF (vc_skip (seq_n (vc_seqr rfl (iQ 1 (iC 10 [Sv s] (some 56) (c_RReadB (by omega)) ?_)))))
        rintro _ ⟨n, d, rfl, hd, hn, hl⟩
        refine iQ 5 (iE 109 [(2, Ia k), (3, .d (Sv s)), (4, .p 4 0), (5, .p 5 0), (8, Ba false), (9, .p 9 0), (11, .d (.sl (nd (n)) (dg (digs (n))))), (12, Ba d), (16, Ba false), (19, Ba false), (53, Ba false)] [(4, [Hw a, Lw a]), (5, [Hw b, Lw b]), (9, [Hw t, Lw t])] ?_)
        refine vc_seqr rfl (iQ 2 ?_)
        cases d
        · replace hd := bf hd
          refine iQ 6 (iE 109 [(2, Ia k), (3, .d (Sv s)), (4, .p 4 0), (5, .p 5 0), (8, Ba false), (9, .p 9 0), (11, .d (.sl (nd (n)) (dg (digs (n))))), (12, Ba false), (16, Ba false), (19, Ba false), (53, Ba false)] [(4, [Hw a, Lw a]), (5, [Hw b, Lw b]), (9, [Hw t, Lw t])] ?_)
          refine vc_seqr rfl (iQ 1 (iC 13 [Sv s] (some 68) (c_ReadB) ?_))
          rintro _ ⟨m, g, rfl, hg, hm, hz, hmB⟩
          have hgf : g = false := bfalse fun e => hd (hg.1 e).1
          refine iQ 6 (iE 109 [(2, Ia k), (3, .d (Sv s)), (4, .p 4 0), (5, .p 5 0), (8, Ba false), (9, .p 9 0), (11, .d (.sl (nd (n)) (dg (digs (n))))), (12, Ba false), (13, .p 13 0), (14, Ba g), (16, Ba false), (19, Ba false), (53, Ba false)] [(4, [Hw a, Lw a]), (5, [Hw b, Lw b]), (9, [Hw t, Lw t]), (13, [Hw m, Lw m])] ?_)
          refine vc_seqr rfl (iQ 1 (iC 14 [.agg [Hw a, Lw a]] (some 72) (c_Text ha) ?_))
          rintro _ rfl
          refine iQ 1 (iC 7 [.agg [Hw a, Lw a]] (some 74) (c_N ha) ?_)
          rintro _ rfl
          refine iC 15 [.sl (nd (a)) (dg (digs (a)))] (some 75) (c_RTxt (by have := nd_U ha; omega)) ?_
          rintro _ rfl
          refine iB .eql 9 (.string (txS a)) (.string (txS a)) (some 76) ?_
          refine all_true (rfl) ?_
          refine iQ 3 (iC 16 [.agg [Hw a, Lw a], .agg [Hw b, Lw b]] (some 80) (cw_Digits ha hb) ?_)
          rintro _ rfl
          refine iQ 2 (iC 17 [.agg [Hw a, Lw a], .agg [Hw b, Lw b]] (some 83) (c_Two ha hb) ?_)
          rintro _ rfl
          refine iQ 1 (iB .eql 3 (.int .i64 ((nd (a * B128 + b) : Int))) (.int .i64 (((nd (a * B128 + b) : Nat) : Int))) (some 85) ?_)
          refine all_true (rfl) ?_
          refine iQ 4 (iB .eql 4 (.bool g) (.bool false) (some 90) ?_)
          refine all_true (hgf) ?_
          refine iQ 11 (iU .not (.bool false) (some 102) ?_)
          refine all_true (rfl) ?_
          refine iQ 2 (iC 9 [.agg [Hw m, Lw m]] (some 105) (c_ZeroE (hz hgf)) ?_)
          rintro _ rfl
          refine iQ 4 (iE 109 [(2, Ia k), (3, .d (Sv s)), (8, Ba true), (9, .p 9 0), (11, .d (.sl (nd (n)) (dg (digs (n))))), (12, Ba false), (13, .p 13 0), (16, Ba false), (19, Ba false), (53, Ba false)] [(9, [Hw t, Lw t]), (13, [Hw m, Lw m])] ?_)
          refine vc_ret (iR (Bv true) ?_)
          rfl
        · replace hd := bt hd
          refine iQ 1 (iC 12 [Iv 128] (some 62) (c_Power (n := 128) (by decide)) ?_)
          rintro _ rfl
          refine iC 11 [.sl (nd (n)) (dg (digs (n))), .sl (nd (2 ^ 128)) (dg (digs (2 ^ 128)))] (some 63) (c_Cmp (a := n) (b := 2 ^ 128) (by omega) (by have := nd_b128; omega)) ?_
          rintro _ rfl
          refine iB .lss 3 (.int .i64 (cmpN n (2 ^ 128))) (.int .i64 0) (some 64) ?_
          intro c64 hc64
          refine iQ 2 (iE 109 [(2, Ia k), (3, .d (Sv s)), (4, .p 4 0), (5, .p 5 0), (8, Ba false), (9, .p 9 0), (11, .d (.sl (nd (n)) (dg (digs (n))))), (12, Ba c64), (16, Ba false), (19, Ba false), (53, Ba false)] [(4, [Hw a, Lw a]), (5, [Hw b, Lw b]), (9, [Hw t, Lw t])] ?_)
          refine vc_seqr rfl (iQ 1 (iC 13 [Sv s] (some 68) (c_ReadB) ?_))
          rintro _ ⟨m, g, rfl, hg, hm, hz, hmB⟩
          have hcg : g = c64 := Bool.eq_iff_iff.2 (by rw [hg, hc64, cmpN_lt_iff, hn rfl, ← b128]; exact ⟨fun h => h.2, fun h => ⟨hd, h⟩⟩)
          refine iQ 6 (iE 109 [(2, Ia k), (3, .d (Sv s)), (4, .p 4 0), (5, .p 5 0), (8, Ba false), (9, .p 9 0), (11, .d (.sl (nd (n)) (dg (digs (n))))), (12, Ba c64), (13, .p 13 0), (14, Ba g), (16, Ba false), (19, Ba false), (53, Ba false)] [(4, [Hw a, Lw a]), (5, [Hw b, Lw b]), (9, [Hw t, Lw t]), (13, [Hw m, Lw m])] ?_)
          refine vc_seqr rfl (iQ 1 (iC 14 [.agg [Hw a, Lw a]] (some 72) (c_Text ha) ?_))
          rintro _ rfl
          refine iQ 1 (iC 7 [.agg [Hw a, Lw a]] (some 74) (c_N ha) ?_)
          rintro _ rfl
          refine iC 15 [.sl (nd (a)) (dg (digs (a)))] (some 75) (c_RTxt (by have := nd_U ha; omega)) ?_
          rintro _ rfl
          refine iB .eql 9 (.string (txS a)) (.string (txS a)) (some 76) ?_
          refine all_true (rfl) ?_
          refine iQ 3 (iC 16 [.agg [Hw a, Lw a], .agg [Hw b, Lw b]] (some 80) (cw_Digits ha hb) ?_)
          rintro _ rfl
          refine iQ 2 (iC 17 [.agg [Hw a, Lw a], .agg [Hw b, Lw b]] (some 83) (c_Two ha hb) ?_)
          rintro _ rfl
          refine iQ 1 (iB .eql 3 (.int .i64 ((nd (a * B128 + b) : Int))) (.int .i64 (((nd (a * B128 + b) : Nat) : Int))) (some 85) ?_)
          refine all_true (rfl) ?_
          refine iQ 4 (iB .eql 4 (.bool g) (.bool c64) (some 90) ?_)
          refine all_true (hcg) ?_
          refine iQ 4 ?_
          cases c64
          · replace hc64 := bf hc64
            refine iQ 7 (iU .not (.bool false) (some 102) ?_)
            refine all_true (rfl) ?_
            refine iQ 2 (iC 9 [.agg [Hw m, Lw m]] (some 105) (c_ZeroE (hz hcg)) ?_)
            rintro _ rfl
            refine iQ 4 (iE 109 [(2, Ia k), (3, .d (Sv s)), (8, Ba true), (9, .p 9 0), (11, .d (.sl (nd (n)) (dg (digs (n))))), (12, Ba false), (13, .p 13 0), (16, Ba false), (19, Ba false), (53, Ba false)] [(9, [Hw t, Lw t]), (13, [Hw m, Lw m])] ?_)
            refine vc_ret (iR (Bv true) ?_)
            rfl
          · replace hc64 := bt hc64
            refine iQ 1 (iC 7 [.agg [Hw m, Lw m]] (some 96) (c_N hmB) ?_)
            rintro _ rfl
            refine iQ 1 (iC 6 [.sl (nd (m)) (dg (digs (m))), .sl (nd (n)) (dg (digs (n)))] (some 98) (c_sameT (by rw [hm hcg, hn rfl]) (by have := nd_U hmB; omega)) ?_)
            rintro _ rfl
            refine iQ 11 (iE 109 [(2, Ia k), (3, .d (Sv s)), (8, Ba true), (9, .p 9 0), (11, .d (.sl (nd (n)) (dg (digs (n))))), (12, Ba true), (13, .p 13 0), (16, Ba false), (19, Ba false), (53, Ba false)] [(9, [Hw t, Lw t]), (13, [Hw m, Lw m])] ?_)
            refine vc_ret (iR (Bv true) ?_)
            rfl
      · replace hok := bt hok
        refine iQ 1 ?_
        omega
    · replace hc27 := bt hc27
      refine iQ 1 (iB .leq 3 (.int .i64 k) (.int .i64 38) (some 30) ?_)
      intro c30 hc30
      have hokc : ok = c30 := Bool.eq_iff_iff.2 (by rw [hok, hc30]; omega)
      refine iQ 1 (iB .neq 4 (.bool ok) (.bool c30) (some 32) ?_)
      refine all_false ((fun h => h hokc)) ?_
      refine iQ 3 ?_
      cases ok
      · replace hok := bf hok
        refine iQ 11 (iU .not (.bool false) (some 47) ?_)
        refine all_true (rfl) ?_
        refine iQ 2 (iC 9 [.agg [Hw t, Lw t]] (some 50) (c_ZeroE (htz rfl)) ?_)
        rintro _ rfl
        refine iU .not (.bool true) (some 51) ?_
        refine all_false ((by simp)) ?_
        refine iQ 2 (iE 109 [(2, Ia k), (3, .d (Sv s)), (4, .p 4 0), (5, .p 5 0), (8, Ba false), (9, .p 9 0), (16, Ba false), (19, Ba false), (53, Ba false)] [(4, [Hw a, Lw a]), (5, [Hw b, Lw b]), (9, [Hw t, Lw t])] ?_)
        refine iF (vc_skip (seq_n (vc_seqr rfl (iQ 1 (iC 10 [Sv s] (some 56) (c_RReadB (by omega)) ?_)))))
        rintro _ ⟨n, d, rfl, hd, hn, hl⟩
        refine iQ 5 (iE 109 [(2, Ia k), (3, .d (Sv s)), (4, .p 4 0), (5, .p 5 0), (8, Ba false), (9, .p 9 0), (11, .d (.sl (nd (n)) (dg (digs (n))))), (12, Ba d), (16, Ba false), (19, Ba false), (53, Ba false)] [(4, [Hw a, Lw a]), (5, [Hw b, Lw b]), (9, [Hw t, Lw t])] ?_)
        refine vc_seqr rfl (iQ 2 ?_)
        cases d
        · replace hd := bf hd
          refine iQ 6 (iE 109 [(2, Ia k), (3, .d (Sv s)), (4, .p 4 0), (5, .p 5 0), (8, Ba false), (9, .p 9 0), (11, .d (.sl (nd (n)) (dg (digs (n))))), (12, Ba false), (16, Ba false), (19, Ba false), (53, Ba false)] [(4, [Hw a, Lw a]), (5, [Hw b, Lw b]), (9, [Hw t, Lw t])] ?_)
          refine vc_seqr rfl (iQ 1 (iC 13 [Sv s] (some 68) (c_ReadB) ?_))
          rintro _ ⟨m, g, rfl, hg, hm, hz, hmB⟩
          have hgf : g = false := bfalse fun e => hd (hg.1 e).1
          refine iQ 6 (iE 109 [(2, Ia k), (3, .d (Sv s)), (4, .p 4 0), (5, .p 5 0), (8, Ba false), (9, .p 9 0), (11, .d (.sl (nd (n)) (dg (digs (n))))), (12, Ba false), (13, .p 13 0), (14, Ba g), (16, Ba false), (19, Ba false), (53, Ba false)] [(4, [Hw a, Lw a]), (5, [Hw b, Lw b]), (9, [Hw t, Lw t]), (13, [Hw m, Lw m])] ?_)
          refine vc_seqr rfl (iQ 1 (iC 14 [.agg [Hw a, Lw a]] (some 72) (c_Text ha) ?_))
          rintro _ rfl
          refine iQ 1 (iC 7 [.agg [Hw a, Lw a]] (some 74) (c_N ha) ?_)
          rintro _ rfl
          refine iC 15 [.sl (nd (a)) (dg (digs (a)))] (some 75) (c_RTxt (by have := nd_U ha; omega)) ?_
          rintro _ rfl
          refine iB .eql 9 (.string (txS a)) (.string (txS a)) (some 76) ?_
          refine all_true (rfl) ?_
          refine iQ 3 (iC 16 [.agg [Hw a, Lw a], .agg [Hw b, Lw b]] (some 80) (cw_Digits ha hb) ?_)
          rintro _ rfl
          refine iQ 2 (iC 17 [.agg [Hw a, Lw a], .agg [Hw b, Lw b]] (some 83) (c_Two ha hb) ?_)
          rintro _ rfl
          refine iQ 1 (iB .eql 3 (.int .i64 ((nd (a * B128 + b) : Int))) (.int .i64 (((nd (a * B128 + b) : Nat) : Int))) (some 85) ?_)
          refine all_true (rfl) ?_
          refine iQ 4 (iB .eql 4 (.bool g) (.bool false) (some 90) ?_)
          refine all_true (hgf) ?_
          refine iQ 11 (iU .not (.bool false) (some 102) ?_)
          refine all_true (rfl) ?_
          refine iQ 2 (iC 9 [.agg [Hw m, Lw m]] (some 105) (c_ZeroE (hz hgf)) ?_)
          rintro _ rfl
          refine iQ 4 (iE 109 [(2, Ia k), (3, .d (Sv s)), (8, Ba true), (9, .p 9 0), (11, .d (.sl (nd (n)) (dg (digs (n))))), (12, Ba false), (13, .p 13 0), (16, Ba false), (19, Ba false), (53, Ba false)] [(9, [Hw t, Lw t]), (13, [Hw m, Lw m])] ?_)
          refine vc_ret (iR (Bv true) ?_)
          rfl
        · replace hd := bt hd
          refine iQ 1 (iC 12 [Iv 128] (some 62) (c_Power (n := 128) (by decide)) ?_)
          rintro _ rfl
          refine iC 11 [.sl (nd (n)) (dg (digs (n))), .sl (nd (2 ^ 128)) (dg (digs (2 ^ 128)))] (some 63) (c_Cmp (a := n) (b := 2 ^ 128) (by omega) (by have := nd_b128; omega)) ?_
          rintro _ rfl
          refine iB .lss 3 (.int .i64 (cmpN n (2 ^ 128))) (.int .i64 0) (some 64) ?_
          intro c64 hc64
          refine iQ 2 (iE 109 [(2, Ia k), (3, .d (Sv s)), (4, .p 4 0), (5, .p 5 0), (8, Ba false), (9, .p 9 0), (11, .d (.sl (nd (n)) (dg (digs (n))))), (12, Ba c64), (16, Ba false), (19, Ba false), (53, Ba false)] [(4, [Hw a, Lw a]), (5, [Hw b, Lw b]), (9, [Hw t, Lw t])] ?_)
          refine vc_seqr rfl (iQ 1 (iC 13 [Sv s] (some 68) (c_ReadB) ?_))
          rintro _ ⟨m, g, rfl, hg, hm, hz, hmB⟩
          have hcg : g = c64 := Bool.eq_iff_iff.2 (by rw [hg, hc64, cmpN_lt_iff, hn rfl, ← b128]; exact ⟨fun h => h.2, fun h => ⟨hd, h⟩⟩)
          refine iQ 6 (iE 109 [(2, Ia k), (3, .d (Sv s)), (4, .p 4 0), (5, .p 5 0), (8, Ba false), (9, .p 9 0), (11, .d (.sl (nd (n)) (dg (digs (n))))), (12, Ba c64), (13, .p 13 0), (14, Ba g), (16, Ba false), (19, Ba false), (53, Ba false)] [(4, [Hw a, Lw a]), (5, [Hw b, Lw b]), (9, [Hw t, Lw t]), (13, [Hw m, Lw m])] ?_)
          refine vc_seqr rfl (iQ 1 (iC 14 [.agg [Hw a, Lw a]] (some 72) (c_Text ha) ?_))
          rintro _ rfl
          refine iQ 1 (iC 7 [.agg [Hw a, Lw a]] (some 74) (c_N ha) ?_)
          rintro _ rfl
          refine iC 15 [.sl (nd (a)) (dg (digs (a)))] (some 75) (c_RTxt (by have := nd_U ha; omega)) ?_
          rintro _ rfl
          refine iB .eql 9 (.string (txS a)) (.string (txS a)) (some 76) ?_
          refine all_true (rfl) ?_
          refine iQ 3 (iC 16 [.agg [Hw a, Lw a], .agg [Hw b, Lw b]] (some 80) (cw_Digits ha hb) ?_)
          rintro _ rfl
          refine iQ 2 (iC 17 [.agg [Hw a, Lw a], .agg [Hw b, Lw b]] (some 83) (c_Two ha hb) ?_)
          rintro _ rfl
          refine iQ 1 (iB .eql 3 (.int .i64 ((nd (a * B128 + b) : Int))) (.int .i64 (((nd (a * B128 + b) : Nat) : Int))) (some 85) ?_)
          refine all_true (rfl) ?_
          refine iQ 4 (iB .eql 4 (.bool g) (.bool c64) (some 90) ?_)
          refine all_true (hcg) ?_
          refine iQ 4 ?_
          cases c64
          · replace hc64 := bf hc64
            refine iQ 7 (iU .not (.bool false) (some 102) ?_)
            refine all_true (rfl) ?_
            refine iQ 2 (iC 9 [.agg [Hw m, Lw m]] (some 105) (c_ZeroE (hz hcg)) ?_)
            rintro _ rfl
            refine iQ 4 (iE 109 [(2, Ia k), (3, .d (Sv s)), (8, Ba true), (9, .p 9 0), (11, .d (.sl (nd (n)) (dg (digs (n))))), (12, Ba false), (13, .p 13 0), (16, Ba false), (19, Ba false), (53, Ba false)] [(9, [Hw t, Lw t]), (13, [Hw m, Lw m])] ?_)
            refine vc_ret (iR (Bv true) ?_)
            rfl
          · replace hc64 := bt hc64
            refine iQ 1 (iC 7 [.agg [Hw m, Lw m]] (some 96) (c_N hmB) ?_)
            rintro _ rfl
            refine iQ 1 (iC 6 [.sl (nd (m)) (dg (digs (m))), .sl (nd (n)) (dg (digs (n)))] (some 98) (c_sameT (by rw [hm hcg, hn rfl]) (by have := nd_U hmB; omega)) ?_)
            rintro _ rfl
            refine iQ 11 (iE 109 [(2, Ia k), (3, .d (Sv s)), (8, Ba true), (9, .p 9 0), (11, .d (.sl (nd (n)) (dg (digs (n))))), (12, Ba true), (13, .p 13 0), (16, Ba false), (19, Ba false), (53, Ba false)] [(9, [Hw t, Lw t]), (13, [Hw m, Lw m])] ?_)
            refine vc_ret (iR (Bv true) ?_)
            rfl
      · replace hok := bt hok
        refine iQ 1 (iC 7 [.agg [Hw t, Lw t]] (some 37) (c_N htB) ?_)
        rintro _ rfl
        refine iQ 2 (iC 8 [.sl 1 [.v (.int .i64 1)], Iv k] (some 40) (c_Shift1 (by omega) (by omega)) ?_)
        rintro _ rfl
        refine iC 6 [.sl (nd (t)) (dg (digs (t))), .sl (nd (10 ^ k.toNat)) (dg (digs (10 ^ k.toNat)))] (some 41) (c_sameT (ht rfl) (by have := nd_U htB; omega)) ?_
        rintro _ rfl
        refine iU .not (.bool true) (some 42) ?_
        refine all_false ((by simp)) ?_
        refine iQ 4 (iU .not (.bool true) (some 47) ?_)
        refine all_false ((by simp)) ?_
        refine iQ 6 (iE 109 [(2, Ia k), (3, .d (Sv s)), (4, .p 4 0), (5, .p 5 0), (8, Ba false), (9, .p 9 0), (16, Ba false), (19, Ba false), (53, Ba false)] [(4, [Hw a, Lw a]), (5, [Hw b, Lw b]), (9, [Hw t, Lw t])] ?_)
        refine iF (vc_skip (seq_n (vc_seqr rfl (iQ 1 (iC 10 [Sv s] (some 56) (c_RReadB (by omega)) ?_)))))
        rintro _ ⟨n, d, rfl, hd, hn, hl⟩
        refine iQ 5 (iE 109 [(2, Ia k), (3, .d (Sv s)), (4, .p 4 0), (5, .p 5 0), (8, Ba false), (9, .p 9 0), (11, .d (.sl (nd (n)) (dg (digs (n))))), (12, Ba d), (16, Ba false), (19, Ba false), (53, Ba false)] [(4, [Hw a, Lw a]), (5, [Hw b, Lw b]), (9, [Hw t, Lw t])] ?_)
        refine vc_seqr rfl (iQ 2 ?_)
        cases d
        · replace hd := bf hd
          refine iQ 6 (iE 109 [(2, Ia k), (3, .d (Sv s)), (4, .p 4 0), (5, .p 5 0), (8, Ba false), (9, .p 9 0), (11, .d (.sl (nd (n)) (dg (digs (n))))), (12, Ba false), (16, Ba false), (19, Ba false), (53, Ba false)] [(4, [Hw a, Lw a]), (5, [Hw b, Lw b]), (9, [Hw t, Lw t])] ?_)
          refine vc_seqr rfl (iQ 1 (iC 13 [Sv s] (some 68) (c_ReadB) ?_))
          rintro _ ⟨m, g, rfl, hg, hm, hz, hmB⟩
          have hgf : g = false := bfalse fun e => hd (hg.1 e).1
          refine iQ 6 (iE 109 [(2, Ia k), (3, .d (Sv s)), (4, .p 4 0), (5, .p 5 0), (8, Ba false), (9, .p 9 0), (11, .d (.sl (nd (n)) (dg (digs (n))))), (12, Ba false), (13, .p 13 0), (14, Ba g), (16, Ba false), (19, Ba false), (53, Ba false)] [(4, [Hw a, Lw a]), (5, [Hw b, Lw b]), (9, [Hw t, Lw t]), (13, [Hw m, Lw m])] ?_)
          refine vc_seqr rfl (iQ 1 (iC 14 [.agg [Hw a, Lw a]] (some 72) (c_Text ha) ?_))
          rintro _ rfl
          refine iQ 1 (iC 7 [.agg [Hw a, Lw a]] (some 74) (c_N ha) ?_)
          rintro _ rfl
          refine iC 15 [.sl (nd (a)) (dg (digs (a)))] (some 75) (c_RTxt (by have := nd_U ha; omega)) ?_
          rintro _ rfl
          refine iB .eql 9 (.string (txS a)) (.string (txS a)) (some 76) ?_
          refine all_true (rfl) ?_
          refine iQ 3 (iC 16 [.agg [Hw a, Lw a], .agg [Hw b, Lw b]] (some 80) (cw_Digits ha hb) ?_)
          rintro _ rfl
          refine iQ 2 (iC 17 [.agg [Hw a, Lw a], .agg [Hw b, Lw b]] (some 83) (c_Two ha hb) ?_)
          rintro _ rfl
          refine iQ 1 (iB .eql 3 (.int .i64 ((nd (a * B128 + b) : Int))) (.int .i64 (((nd (a * B128 + b) : Nat) : Int))) (some 85) ?_)
          refine all_true (rfl) ?_
          refine iQ 4 (iB .eql 4 (.bool g) (.bool false) (some 90) ?_)
          refine all_true (hgf) ?_
          refine iQ 11 (iU .not (.bool false) (some 102) ?_)
          refine all_true (rfl) ?_
          refine iQ 2 (iC 9 [.agg [Hw m, Lw m]] (some 105) (c_ZeroE (hz hgf)) ?_)
          rintro _ rfl
          refine iQ 4 (iE 109 [(2, Ia k), (3, .d (Sv s)), (8, Ba true), (9, .p 9 0), (11, .d (.sl (nd (n)) (dg (digs (n))))), (12, Ba false), (13, .p 13 0), (16, Ba false), (19, Ba false), (53, Ba false)] [(9, [Hw t, Lw t]), (13, [Hw m, Lw m])] ?_)
          refine vc_ret (iR (Bv true) ?_)
          rfl
        · replace hd := bt hd
          refine iQ 1 (iC 12 [Iv 128] (some 62) (c_Power (n := 128) (by decide)) ?_)
          rintro _ rfl
          refine iC 11 [.sl (nd (n)) (dg (digs (n))), .sl (nd (2 ^ 128)) (dg (digs (2 ^ 128)))] (some 63) (c_Cmp (a := n) (b := 2 ^ 128) (by omega) (by have := nd_b128; omega)) ?_
          rintro _ rfl
          refine iB .lss 3 (.int .i64 (cmpN n (2 ^ 128))) (.int .i64 0) (some 64) ?_
          intro c64 hc64
          refine iQ 2 (iE 109 [(2, Ia k), (3, .d (Sv s)), (4, .p 4 0), (5, .p 5 0), (8, Ba false), (9, .p 9 0), (11, .d (.sl (nd (n)) (dg (digs (n))))), (12, Ba c64), (16, Ba false), (19, Ba false), (53, Ba false)] [(4, [Hw a, Lw a]), (5, [Hw b, Lw b]), (9, [Hw t, Lw t])] ?_)
          refine vc_seqr rfl (iQ 1 (iC 13 [Sv s] (some 68) (c_ReadB) ?_))
          rintro _ ⟨m, g, rfl, hg, hm, hz, hmB⟩
          have hcg : g = c64 := Bool.eq_iff_iff.2 (by rw [hg, hc64, cmpN_lt_iff, hn rfl, ← b128]; exact ⟨fun h => h.2, fun h => ⟨hd, h⟩⟩)
          refine iQ 6 (iE 109 [(2, Ia k), (3, .d (Sv s)), (4, .p 4 0), (5, .p 5 0), (8, Ba false), (9, .p 9 0), (11, .d (.sl (nd (n)) (dg (digs (n))))), (12, Ba c64), (13, .p 13 0), (14, Ba g), (16, Ba false), (19, Ba false), (53, Ba false)] [(4, [Hw a, Lw a]), (5, [Hw b, Lw b]), (9, [Hw t, Lw t]), (13, [Hw m, Lw m])] ?_)
          refine vc_seqr rfl (iQ 1 (iC 14 [.agg [Hw a, Lw a]] (some 72) (c_Text ha) ?_))
          rintro _ rfl
          refine iQ 1 (iC 7 [.agg [Hw a, Lw a]] (some 74) (c_N ha) ?_)
          rintro _ rfl
          refine iC 15 [.sl (nd (a)) (dg (digs (a)))] (some 75) (c_RTxt (by have := nd_U ha; omega)) ?_
          rintro _ rfl
          refine iB .eql 9 (.string (txS a)) (.string (txS a)) (some 76) ?_
          refine all_true (rfl) ?_
          refine iQ 3 (iC 16 [.agg [Hw a, Lw a], .agg [Hw b, Lw b]] (some 80) (cw_Digits ha hb) ?_)
          rintro _ rfl
          refine iQ 2 (iC 17 [.agg [Hw a, Lw a], .agg [Hw b, Lw b]] (some 83) (c_Two ha hb) ?_)
          rintro _ rfl
          refine iQ 1 (iB .eql 3 (.int .i64 ((nd (a * B128 + b) : Int))) (.int .i64 (((nd (a * B128 + b) : Nat) : Int))) (some 85) ?_)
          refine all_true (rfl) ?_
          refine iQ 4 (iB .eql 4 (.bool g) (.bool c64) (some 90) ?_)
          refine all_true (hcg) ?_
          refine iQ 4 ?_
          cases c64
          · replace hc64 := bf hc64
            refine iQ 7 (iU .not (.bool false) (some 102) ?_)
            refine all_true (rfl) ?_
            refine iQ 2 (iC 9 [.agg [Hw m, Lw m]] (some 105) (c_ZeroE (hz hcg)) ?_)
            rintro _ rfl
            refine iQ 4 (iE 109 [(2, Ia k), (3, .d (Sv s)), (8, Ba true), (9, .p 9 0), (11, .d (.sl (nd (n)) (dg (digs (n))))), (12, Ba false), (13, .p 13 0), (16, Ba false), (19, Ba false), (53, Ba false)] [(9, [Hw t, Lw t]), (13, [Hw m, Lw m])] ?_)
            refine vc_ret (iR (Bv true) ?_)
            rfl
          · replace hc64 := bt hc64
            refine iQ 1 (iC 7 [.agg [Hw m, Lw m]] (some 96) (c_N hmB) ?_)
            rintro _ rfl
            refine iQ 1 (iC 6 [.sl (nd (m)) (dg (digs (m))), .sl (nd (n)) (dg (digs (n)))] (some 98) (c_sameT (by rw [hm hcg, hn rfl]) (by have := nd_U hmB; omega)) ?_)
            rintro _ rfl
            refine iQ 11 (iE 109 [(2, Ia k), (3, .d (Sv s)), (8, Ba true), (9, .p 9 0), (11, .d (.sl (nd (n)) (dg (digs (n))))), (12, Ba true), (13, .p 13 0), (16, Ba false), (19, Ba false), (53, Ba false)] [(9, [Hw t, Lw t]), (13, [Hw m, Lw m])] ?_)
            refine vc_ret (iR (Bv true) ?_)
            rfl
  · replace hc19 := bt hc19
    refine iT (vc_seqr rfl (iQ 1 (iE 109 [(2, Ia k), (3, .d (Sv s)), (4, .p 4 0), (5, .p 5 0), (8, Ba true), (16, Ba false), (19, Ba true)] [(4, [Hw a, Lw a]), (5, [Hw b, Lw b])] ?_)))
    refine vc_ret (seq_r (iR (Bv true) ?_))
    rfl
end Go.Proofs.Ytiafmdfegmimdaa
