/-
  casuistref01.Text, casuistref05.Itoa: numbers' texts by the document.
-/
import Derived.Test.YtjpaedjhihiakaaDoorStr
import Derived.Test.YtjpaedjhihiakaaDoorLexP
namespace Go.Proofs.YtjpaedjhihiakaaDoor
open Go.RowKit
set_option linter.unusedVariables false
set_option linter.unusedSimpArgs false
set_option maxRecDepth 100000

theorem tl_get (a : Nat) : ∀ (k j : Nat), j < k → (tl a k)[j]? = some ((48 + dig a (k - 1 - j) : Nat) : Int)
  | 0, j, h => by omega
  | k + 1, 0, h => by simp [tl]
  | k + 1, j + 1, h => by
    rw [tl, List.getElem?_cons_succ, tl_get a k j (by omega)]
    congr 4
    omega
theorem nd_pos' {a : Nat} (h : a ≠ 0) : 0 < nd a := by
  apply Nat.pos_of_ne_zero
  intro e
  have := lt_nd a
  rw [e] at this
  omega
/-- The highest digits' signs, as they are put into a text. -/
def hd (n : Nat) : Nat → List Int
  | 0 => []
  | j + 1 => hd n j ++ [((48 + dig n (nd n - 1 - j) : Nat) : Int)]
theorem hd_len (n : Nat) : ∀ j, (hd n j).length = j
  | 0 => rfl
  | j + 1 => by simp [hd, hd_len n j]
theorem hd_get (n : Nat) : ∀ j i, i < j → (hd n j)[i]? = some ((48 + dig n (nd n - 1 - i) : Nat) : Int)
  | 0, i, h => by omega
  | j + 1, i, h => by
    rw [hd]
    by_cases e : i < j
    · rw [List.getElem?_append_left (by rw [hd_len]; exact e)]
      exact hd_get n j i e
    · have : i = j := by omega
      subst this
      rw [List.getElem?_append_right (by rw [hd_len]; exact Nat.le_refl _), hd_len]
      simp
theorem hd_tl (n : Nat) : hd n (nd n) = tl n (nd n) := by
  apply List.ext_getElem?
  intro i
  by_cases h : i < nd n
  · rw [hd_get n _ i h, tl_get n _ i h]
  · rw [List.getElem?_eq_none (by rw [hd_len]; omega), List.getElem?_eq_none (by rw [tl_len]; omega)]
def by8 (l : List Int) : List DV := l.map fun z => .v (.int .u8 z)
@[simp] theorem by8_len (l : List Int) : (by8 l).length = l.length := by simp [by8]
theorem by8_one : ∀ l, allOne (by8 l) = true
  | [] => rfl
  | z :: l => by simp only [by8, List.map_cons, allOne, DV.one, Bool.true_and]; exact by8_one l
theorem by8_snoc {n j : Nat} {z : Int} (h : z = ((48 + dig n (nd n - 1 - j) : Nat) : Int)) : by8 (hd n j) ++ [.v (.int .u8 z)] = by8 (hd n (j + 1)) := by simp [by8, hd, h]

theorem c_RTxt {n : Nat} (hn : nd n ≤ 1000) : HasC Tryd.prog 94 [.sl (nd (n)) (dg (digs (n)))] (fun r => r = .v (.string (txS n))) := by
  refine HasC.of [] (fn := Tryd.f94) tyOk mixed (fun args w => Tryd.call94 args w) Tryd.func94 rfl (by kernel_rfl) (Nat.le_of_ble_eq_true rfl) (⟨_, rfl⟩) ?_
  refine vc_seqr rfl (iQ 1 (iE 26 [(0, .d (.sl (nd (n)) (dg (digs (n))))), (2, .d (Sv (⟨#[]⟩)))] [] ?_))
  refine vc_seq (vc_seqr rfl (iQ 2 (iB .eql 3 (.int .i64 (((nd (n) : Nat) : Int))) (.int .i64 0) (some 7) ?_)))
  intro c7 hc7
  refine iE 26 [(0, .d (.sl (nd (n)) (dg (digs (n))))), (2, .d (Sv (⟨#[]⟩))), (7, Ba c7)] [] ?_
  cases c7
  · replace hc7 := bf hc7
    refine iF (vc_skip (seq_n (vc_seqr rfl (iQ 1 (iE 26 [(0, .d (.sl (nd (n)) (dg (digs (n))))), (2, .d (Sv (⟨#[]⟩))), (3, .w (.sl 0 []) none), (7, Ba false)] [] ?_)))))
    refine vc_seq (vc_seqr rfl (iQ 2 (iB .sub 3 (.int .i64 (((nd (n) : Nat) : Int))) (.int .i64 1) (some 10) ?_)))
    intro z10 hz10
    try replace hz10 := hz10.i64 (by omega)
    refine iQ 1 (iE 26 [(0, .d (.sl (nd (n)) (dg (digs (n))))), (2, .d (Sv (⟨#[]⟩))), (3, .w (.sl 0 []) none), (4, Ia z10), (7, Ba false)] [] ?_)
    refine vc_block (vc_loop 26 (fun (vcx : Nat × Int) => match vcx with | (j, c) => [(0, .d (.sl (nd (n)) (dg (digs (n))))), (2, .d (Sv (⟨#[]⟩))), (3, .w (.sl ((hd n j).length) (by8 (hd n j))) (some ⟨3, 0, 5, 1⟩)), (4, Ia c), (7, Ba false)]) (fun (vcx : Nat × Int) => match vcx with | (j, c) => []) (fun (vcx : Nat × Int) => match vcx with | (j, c) => c = nd n - 1 - (j : Int) ∧ j ≤ nd n) (fun (vcx : Nat × Int) => match vcx with | (j, c) => nd n - j) ((0, z10)) (⟨by omega, by omega⟩) (by kernel_rfl) (by kernel_rfl) ?_)
    rintro ⟨j, c⟩ hinv
    simp only at hinv
    obtain ⟨h1, h2⟩ := hinv
    refine vc_seq (vc_seqr rfl (iQ 1 (iB .geq 3 (.int .i64 c) (.int .i64 0) (some 12) ?_)))
    intro c12 hc12
    refine iE 26 [(0, .d (.sl (nd (n)) (dg (digs (n))))), (2, .d (Sv (⟨#[]⟩))), (3, .w (.sl ((hd n j).length) (by8 (hd n j))) (some ⟨3, 0, 5, 1⟩)), (4, Ia c), (7, Ba false), (12, Ba c12)] [] ?_
    cases c12
    · replace hc12 := bf hc12
      have hj : j = nd n := by omega
      refine iF (vc_exit (seq_x (loop_x (block_x rfl (seq_n (vc_seqr rfl (iQ 1 (vcI_cv (n := ((hd n j).length)) (cs := (by8 (hd n j))) (d := 25) (b := (txS n)) (hd n j) (by kernel_rfl) (rfl) (rfl) (by rw [txS, if_neg (by intro e; subst e; exact hc7 (by rw [nd_zero]; rfl)), hj, hd_tl]) ?_))))))))
      refine iQ 1 (iE 26 [(0, .d (.sl (nd (n)) (dg (digs (n))))), (2, .d (Sv (txS n))), (3, .w (.sl ((hd n j).length) (by8 (hd n j))) (some ⟨3, 0, 5, 1⟩)), (4, Ia c), (7, Ba false), (12, Ba false)] [] ?_)
      refine vc_ret (iR (Sv (txS n)) ?_)
      rfl
    · replace hc12 := bt hc12
      refine iT (vc_skip (seq_n (vc_seq (vc_block (vc_reg rfl (iQ 3 (vcI_idx1 (q := c) (n := (nd (n))) (cs := (dg (digs (n)))) (d := .v (.int .i64 ((dig n (nd n - 1 - j) : Int)))) (dst := (some 18)) (by kernel_rfl) (by omega) (dg_get (by rw [show c.toNat = nd n - 1 - j by omega]; exact digs_get? (by omega))) ?_)))))))
      have hdl := dig_lt n (nd n - 1 - j)
      refine iQ 1 (iB .add 3 (.int .i64 48) (.int .i64 ((dig n (nd n - 1 - j) : Int))) (some 20) ?_)
      intro z20 hz20
      try replace hz20 := hz20.i64 (by omega)
      refine iV 3 5 (.int .i64 z20) (some 21) ?_
      intro z21 hz21
      try replace hz21 := hz21.u8 (by omega)
      refine iQ 1 (vcI_app (n := ((hd n j).length)) (cs := (by8 (hd n j))) (m := 1) (ds := [.v (.int .u8 z21)]) (N := ((hd n (j + 1)).length)) (es := (by8 (hd n (j + 1)))) (j := 3) (e := 5) (z := 1) (dst := (some 23)) (by kernel_rfl) (by first | rfl | omega | (rw [Nat.mul_one]; exact dg_len _) | (simp [dg]; done) | (simp [dg]; omega)) (by first | rfl | omega | (rw [Nat.mul_one]; exact dg_len _) | (simp [dg]; done) | (simp [dg]; omega)) (rfl) (by rw [hd_len]; omega) (by simp [hd_len]) (by8_snoc (by omega)) ?_)
      refine iQ 1 (iE 26 [(0, .d (.sl (nd (n)) (dg (digs (n))))), (2, .d (Sv (⟨#[]⟩))), (3, .w (.sl ((hd n (j + 1)).length) (by8 (hd n (j + 1)))) (some ⟨3, 0, 5, 1⟩)), (4, Ia c), (7, Ba false), (12, Ba true)] [] ?_)
      refine block_n (seq_n (vc_reg rfl (iQ 1 (iB .sub 3 (.int .i64 c) (.int .i64 1) (some 14) ?_))))
      intro z14 hz14
      try replace hz14 := hz14.i64 (by omega)
      refine iQ 1 (iE 26 [(0, .d (.sl (nd (n)) (dg (digs (n))))), (2, .d (Sv (⟨#[]⟩))), (3, .w (.sl ((hd n (j + 1)).length) (by8 (hd n (j + 1)))) (some ⟨3, 0, 5, 1⟩)), (4, Ia z14), (7, Ba false), (12, Ba true)] [] ?_)
      refine loop_n (j + 1, z14) (⟨by omega, by omega⟩) (by show nd n - (j + 1) < nd n - j; omega) (by kernel_rfl) (by kernel_rfl)
  · replace hc7 := bt hc7
    refine iT (vc_seqr rfl (iQ 1 (iE 26 [(0, .d (.sl (nd (n)) (dg (digs (n))))), (2, .d (Sv (⟨#[48]⟩))), (7, Ba true)] [] ?_)))
    refine vc_ret (seq_r (iR (Sv (⟨#[48]⟩)) ?_))
    rw [txS, if_pos (by apply Classical.byContradiction; intro h; have := nd_pos' h; omega)]

theorem c_RTx {n : Nat} (hn : nd n ≤ 1000) : HasC Tryd.prog 94 [.sl (nd n) (dg (digs n))] (fun r => r = .v (.string (tx (Lib.decDigits n)))) := by
  rw [← txS_tx]
  exact c_RTxt hn
theorem c_Words1 {z : Int} {n : Nat} (hz : z = (n : Int)) (hn : n < 18446744073709551616) : HasC Tryd.prog 95 [.sl 1 [.v (.int .u64 z)]] (fun y => y = .sl (nd n) (dg (digs n))) := by
  have h := c_Words (ws := [z]) (by intro x hx; simp at hx; omega) (by intro x hx; simp at hx; omega) (by simp)
  have e : wval [z] = n := by rw [show ([z] : List Int) = [] ++ [z] from rfl, wval_snoc, wval_nil]; omega
  rw [e] at h
  exact h
def i62 (n : Int) : Prop := -4611686018427387904 ≤ n ∧ n ≤ 4611686018427387904
theorem nd_u64 {n : Nat} (h : n < 18446744073709551616) : nd n ≤ 20 := nd_le _ _ (by omega)
theorem dec_le {n : Nat} (h : n < 18446744073709551616) : (Lib.decDigits n).length ≤ 20 := by
  rw [Lib.decDigits_length]
  exact Lib.nDigits_le20 n h
theorem c_rItoa {n : Int} (hn : i62 n) : HasC Tryd.prog 61 [.v (.int .i64 n)] (fun r => r = .v (.string (tx (Lib.itoa n)))) := by
  refine HasC.of [] (fn := Tryd.f61) tyOk mixed (fun args w => Tryd.call61 args w) Tryd.func61 rfl (by kernel_rfl) (Nat.le_of_ble_eq_true rfl) (⟨_, rfl⟩) ?_
  unfold i62 at hn
  refine vc_seqr rfl (iQ 1 (iE 17 [(0, Ia n), (2, .d (Sv (⟨#[]⟩)))] [] ?_))
  refine vc_seq (vc_seqr rfl (iQ 1 (iB .lss 3 (.int .i64 n) (.int .i64 0) (some 4) ?_)))
  intro c4 hc4
  refine iE 17 [(0, Ia n), (2, .d (Sv (⟨#[]⟩))), (4, Ba c4)] [] ?_
  cases c4
  · replace hc4 := bf hc4
    refine iF (vc_skip (seq_n (vc_seqr rfl (iQ 1 (iV 3 54 (.int .i64 n) (some 13) ?_)))))
    intro z13 hz13
    try replace hz13 := hz13.u64 (by omega)
    have e13 : z13 = (n.toNat : Int) := by omega
    refine iQ 1 (iC 95 [.sl 1 [.v (.int .u64 z13)]] (some 15) (c_Words1 e13 (by omega)) ?_)
    rintro _ rfl
    refine iC 94 [.sl (nd (n.toNat)) (dg (digs (n.toNat)))] (some 16) (c_RTx (Nat.le_trans (nd_u64 (by omega)) (by decide))) ?_
    rintro _ rfl
    refine iQ 1 (iE 17 [(0, Ia n), (2, .d (Sv (tx (Lib.decDigits n.toNat)))), (4, Ba false)] [] ?_)
    refine vc_ret (iR (Sv (tx (Lib.decDigits n.toNat))) ?_)
    rw [Lib.itoa, if_neg hc4]
  · replace hc4 := bt hc4
    refine iT (vc_seqr rfl (iQ 1 (iU .neg (.int .i64 n) (some 6) ?_)))
    intro z6 hz6
    try replace hz6 := hz6.i64 (by omega)
    refine iV 3 54 (.int .i64 z6) (some 7) ?_
    intro z7 hz7
    try replace hz7 := hz7.u64 (by omega)
    have e7 : z7 = (n.natAbs : Int) := by omega
    refine iQ 1 (iC 95 [.sl 1 [.v (.int .u64 z7)]] (some 9) (c_Words1 e7 (by omega)) ?_)
    rintro _ rfl
    refine iC 94 [.sl (nd (n.natAbs)) (dg (digs (n.natAbs)))] (some 10) (c_RTx (Nat.le_trans (nd_u64 (by omega)) (by decide))) ?_
    rintro _ rfl
    have hdl := dec_le (n := n.natAbs) (by omega)
    refine iB .add 9 (.string (⟨#[45]⟩)) (.string (tx (Lib.decDigits n.natAbs))) (some 11) ?_
    refine And.intro (sz_le (m := 1) (n := ((Lib.decDigits n.natAbs)).length) rfl rfl (by omega)) ?_
    intro s11 hs11
    have hl11 : (s11 : ByteArray).size = 1 + ((Lib.decDigits n.natAbs)).length := sz_add hs11 rfl rfl
    refine iQ 1 (iE 17 [(0, Ia n), (2, .d (Sv s11)), (4, Ba true)] [] ?_)
    refine vc_ret (seq_r (iR (Sv s11) ?_))
    rw [hs11, Lib.itoa, if_pos hc4]; exact congrArg (fun s => DV.v (.string s)) (tx_append [45] (Lib.decDigits n.natAbs))
end Go.Proofs.YtjpaedjhihiakaaDoor
