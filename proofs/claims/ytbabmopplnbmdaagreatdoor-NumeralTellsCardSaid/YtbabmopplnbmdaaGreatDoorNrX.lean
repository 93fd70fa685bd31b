/-
  casuistref01.Text, casuistref05.Itoa: numbers' texts by the document. The document's reading of numbers, by runs of digits, against the cuts: with no program in sight. casuistref05.Read, casuistref05.Text: the document's reading and telling of numbers. casuistref05.Text: a number's text by the document. NumeralReads, NumeralTells: the laws.
-/
import Derived.Test.YtbabmopplnbmdaaGreatDoorStr
import Derived.Test.YtbabmopplnbmdaaGreatDoorNrP
import Derived.Test.YtbabmopplnbmdaaGreatDoorRefZ
import Derived.Test.YtbabmopplnbmdaaGreatDoorNrS
import Derived.Test.YtbabmopplnbmdaaGreatDoorNrD
import Derived.Test.YtbabmopplnbmdaaGreatDoorLawA
import Derived.Test.YtbabmopplnbmdaaGreatDoorMkD
import Derived.Test.YtbabmopplnbmdaaGreatDoorDecX
namespace Go.Proofs.YtbabmopplnbmdaaGreatDoor

open Go.RowKit
set_option linter.unusedVariables false
set_option linter.unusedSimpArgs false
set_option maxRecDepth 100000

theorem tl_get (a : Nat) : ∀ (k j : Nat), j < k → (tl a k)[j]? = some ((48 + dig a (k - 1 - j) : Nat) : Int)
  | 0, j, h => by omega
  | k + 1, 0, h => by simp [tl]
  | k + 1, j + 1, h => by
    rw [tl, List.getElem?_cons_succ, tl_get a k j (by omega)]
    congr 4
    omega
theorem nd_pos' {a : Nat} (h : a ≠ 0) : 0 < nd a := by
  apply Nat.pos_of_ne_zero
  intro e
  have := lt_nd a
  rw [e] at this
  omega
/-- The highest digits' signs, as they are put into a text. -/
def hd (n : Nat) : Nat → List Int
  | 0 => []
  | j + 1 => hd n j ++ [((48 + dig n (nd n - 1 - j) : Nat) : Int)]
theorem hd_len (n : Nat) : ∀ j, (hd n j).length = j
  | 0 => rfl
  | j + 1 => by simp [hd, hd_len n j]
theorem hd_get (n : Nat) : ∀ j i, i < j → (hd n j)[i]? = some ((48 + dig n (nd n - 1 - i) : Nat) : Int)
  | 0, i, h => by omega
  | j + 1, i, h => by
    rw [hd]
    by_cases e : i < j
    · rw [List.getElem?_append_left (by rw [hd_len]; exact e)]
      exact hd_get n j i e
    · have : i = j := by omega
      subst this
      rw [List.getElem?_append_right (by rw [hd_len]; exact Nat.le_refl _), hd_len]
      simp
theorem hd_tl (n : Nat) : hd n (nd n) = tl n (nd n) := by
  apply List.ext_getElem?
  intro i
  by_cases h : i < nd n
  · rw [hd_get n _ i h, tl_get n _ i h]
  · rw [List.getElem?_eq_none (by rw [hd_len]; omega), List.getElem?_eq_none (by rw [tl_len]; omega)]
def by8 (l : List Int) : List DV := l.map fun z => .v (.int .u8 z)
@[simp] theorem by8_len (l : List Int) : (by8 l).length = l.length := by simp [by8]
theorem by8_one : ∀ l, allOne (by8 l) = true
  | [] => rfl
  | z :: l => by simp only [by8, List.map_cons, allOne, DV.one, Bool.true_and]; exact by8_one l
theorem by8_snoc {n j : Nat} {z : Int} (h : z = ((48 + dig n (nd n - 1 - j) : Nat) : Int)) : by8 (hd n j) ++ [.v (.int .u8 z)] = by8 (hd n (j + 1)) := by simp [by8, hd, h]

theorem c_RTxt {n : Nat} (hn : nd n ≤ 1000) : HasC Tryz.prog 32 [.sl (nd (n)) (dg (digs (n)))] (fun r => r = .v (.string (txS n))) := by
  refine HasC.of [] (fn := Tryz.f32) tyOk mixed (fun args w => Tryz.call32 args w) Tryz.func32 rfl (by kernel_rfl) (Nat.le_of_ble_eq_true rfl) (⟨_, rfl⟩) ?_
  refine vc_seqr rfl (iQ 1 (iE 26 [(0, .d (.sl (nd (n)) (dg (digs (n))))), (2, .d (Sv (⟨#[]⟩)))] [] ?_))
  refine vc_seq (vc_seqr rfl (iQ 2 (iB .eql 3 (.int .i64 (((nd (n) : Nat) : Int))) (.int .i64 0) (some 7) ?_)))
  intro c7 hc7
  refine iE 26 [(0, .d (.sl (nd (n)) (dg (digs (n))))), (2, .d (Sv (⟨#[]⟩))), (7, Ba c7)] [] ?_
  cases c7
  · replace hc7 := bf hc7
    refine iF (vc_skip (seq_n (vc_seqr rfl (iQ 1 (iE 26 [(0, .d (.sl (nd (n)) (dg (digs (n))))), (2, .d (Sv (⟨#[]⟩))), (3, .w (.sl 0 []) none), (7, Ba false)] [] ?_)))))
    refine vc_seq (vc_seqr rfl (iQ 2 (iB .sub 3 (.int .i64 (((nd (n) : Nat) : Int))) (.int .i64 1) (some 10) ?_)))
    intro z10 hz10
    try replace hz10 := hz10.i64 (by omega)
    refine iQ 1 (iE 26 [(0, .d (.sl (nd (n)) (dg (digs (n))))), (2, .d (Sv (⟨#[]⟩))), (3, .w (.sl 0 []) none), (4, Ia z10), (7, Ba false)] [] ?_)
    refine vc_block (vc_loop 26 (fun (vcx : Nat × Int) => match vcx with | (j, c) => [(0, .d (.sl (nd (n)) (dg (digs (n))))), (2, .d (Sv (⟨#[]⟩))), (3, .w (.sl ((hd n j).length) (by8 (hd n j))) (some ⟨3, 0, 5, 1⟩)), (4, Ia c), (7, Ba false)]) (fun (vcx : Nat × Int) => match vcx with | (j, c) => []) (fun (vcx : Nat × Int) => match vcx with | (j, c) => c = nd n - 1 - (j : Int) ∧ j ≤ nd n) (fun (vcx : Nat × Int) => match vcx with | (j, c) => nd n - j) ((0, z10)) (⟨by omega, by omega⟩) (by kernel_rfl) (by kernel_rfl) ?_)
    rintro ⟨j, c⟩ hinv
    simp only at hinv
    obtain ⟨h1, h2⟩ := hinv
    refine vc_seq (vc_seqr rfl (iQ 1 (iB .geq 3 (.int .i64 c) (.int .i64 0) (some 12) ?_)))
    intro c12 hc12
    refine iE 26 [(0, .d (.sl (nd (n)) (dg (digs (n))))), (2, .d (Sv (⟨#[]⟩))), (3, .w (.sl ((hd n j).length) (by8 (hd n j))) (some ⟨3, 0, 5, 1⟩)), (4, Ia c), (7, Ba false), (12, Ba c12)] [] ?_
    cases c12
    · replace hc12 := bf hc12
      have hj : j = nd n := by omega
      refine iF (vc_exit (seq_x (loop_x (block_x rfl (seq_n (vc_seqr rfl (iQ 1 (vcI_cv (n := ((hd n j).length)) (cs := (by8 (hd n j))) (d := 25) (b := (txS n)) (hd n j) (by kernel_rfl) (rfl) (rfl) (by rw [txS, if_neg (by intro e; subst e; exact hc7 (by rw [nd_zero]; rfl)), hj, hd_tl]) ?_))))))))
      refine iQ 1 (iE 26 [(0, .d (.sl (nd (n)) (dg (digs (n))))), (2, .d (Sv (txS n))), (3, .w (.sl ((hd n j).length) (by8 (hd n j))) (some ⟨3, 0, 5, 1⟩)), (4, Ia c), (7, Ba false), (12, Ba false)] [] ?_)
      refine vc_ret (iR (Sv (txS n)) ?_)
      rfl
    · replace hc12 := bt hc12
      refine iT (vc_skip (seq_n (vc_seq (vc_block (vc_reg rfl (iQ 3 (vcI_idx1 (q := c) (n := (nd (n))) (cs := (dg (digs (n)))) (d := .v (.int .i64 ((dig n (nd n - 1 - j) : Int)))) (dst := (some 18)) (by kernel_rfl) (by omega) (dg_get (by rw [show c.toNat = nd n - 1 - j by omega]; exact digs_get? (by omega))) ?_)))))))
      have hdl := dig_lt n (nd n - 1 - j)
      refine iQ 1 (iB .add 3 (.int .i64 48) (.int .i64 ((dig n (nd n - 1 - j) : Int))) (some 20) ?_)
      intro z20 hz20
      try replace hz20 := hz20.i64 (by omega)
      refine iV 3 5 (.int .i64 z20) (some 21) ?_
      intro z21 hz21
      try replace hz21 := hz21.u8 (by omega)
      refine iQ 1 (vcI_app (n := ((hd n j).length)) (cs := (by8 (hd n j))) (m := 1) (ds := [.v (.int .u8 z21)]) (N := ((hd n (j + 1)).length)) (es := (by8 (hd n (j + 1)))) (j := 3) (e := 5) (z := 1) (dst := (some 23)) (by kernel_rfl) (by first | rfl | omega | (rw [Nat.mul_one]; exact dg_len _) | (simp [dg]; done) | (simp [dg]; omega)) (by first | rfl | omega | (rw [Nat.mul_one]; exact dg_len _) | (simp [dg]; done) | (simp [dg]; omega)) (rfl) (by rw [hd_len]; omega) (by simp [hd_len]) (by8_snoc (by omega)) ?_)
      refine iQ 1 (iE 26 [(0, .d (.sl (nd (n)) (dg (digs (n))))), (2, .d (Sv (⟨#[]⟩))), (3, .w (.sl ((hd n (j + 1)).length) (by8 (hd n (j + 1)))) (some ⟨3, 0, 5, 1⟩)), (4, Ia c), (7, Ba false), (12, Ba true)] [] ?_)
      refine block_n (seq_n (vc_reg rfl (iQ 1 (iB .sub 3 (.int .i64 c) (.int .i64 1) (some 14) ?_))))
      intro z14 hz14
      try replace hz14 := hz14.i64 (by omega)
      refine iQ 1 (iE 26 [(0, .d (.sl (nd (n)) (dg (digs (n))))), (2, .d (Sv (⟨#[]⟩))), (3, .w (.sl ((hd n (j + 1)).length) (by8 (hd n (j + 1)))) (some ⟨3, 0, 5, 1⟩)), (4, Ia z14), (7, Ba false), (12, Ba true)] [] ?_)
      refine loop_n (j + 1, z14) (⟨by omega, by omega⟩) (by show nd n - (j + 1) < nd n - j; omega) (by kernel_rfl) (by kernel_rfl)
  · replace hc7 := bt hc7
    refine iT (vc_seqr rfl (iQ 1 (iE 26 [(0, .d (.sl (nd (n)) (dg (digs (n))))), (2, .d (Sv (⟨#[48]⟩))), (7, Ba true)] [] ?_)))
    refine vc_ret (seq_r (iR (Sv (⟨#[48]⟩)) ?_))
    rw [txS, if_pos (by apply Classical.byContradiction; intro h; have := nd_pos' h; omega)]

theorem c_RTx {n : Nat} (hn : nd n ≤ 1000) : HasC Tryz.prog 32 [.sl (nd n) (dg (digs n))] (fun r => r = .v (.string (tx (Lib.decDigits n)))) := by
  rw [← txS_tx]
  exact c_RTxt hn
theorem c_Words1 {z : Int} {n : Nat} (hz : z = (n : Int)) (hn : n < 18446744073709551616) : HasC Tryz.prog 61 [.sl 1 [.v (.int .u64 z)]] (fun y => y = .sl (nd n) (dg (digs n))) := by
  have h := c_Words (ws := [z]) (by intro x hx; simp at hx; omega) (by intro x hx; simp at hx; omega) (by simp)
  have e : wval [z] = n := by rw [show ([z] : List Int) = [] ++ [z] from rfl, wval_snoc, wval_nil]; omega
  rw [e] at h
  exact h
def i62 (n : Int) : Prop := -4611686018427387904 ≤ n ∧ n ≤ 4611686018427387904
theorem nd_u64 {n : Nat} (h : n < 18446744073709551616) : nd n ≤ 20 := nd_le _ _ (by omega)
theorem dec_le {n : Nat} (h : n < 18446744073709551616) : (Lib.decDigits n).length ≤ 20 := by
  rw [Lib.decDigits_length]
  exact Lib.nDigits_le20 n h
theorem c_rItoa {n : Int} (hn : i62 n) : HasC Tryz.prog 33 [.v (.int .i64 n)] (fun r => r = .v (.string (tx (Lib.itoa n)))) := by
  refine HasC.of [] (fn := Tryz.f33) tyOk mixed (fun args w => Tryz.call33 args w) Tryz.func33 rfl (by kernel_rfl) (Nat.le_of_ble_eq_true rfl) (⟨_, rfl⟩) ?_
  unfold i62 at hn
  refine vc_seqr rfl (iQ 1 (iE 17 [(0, Ia n), (2, .d (Sv (⟨#[]⟩)))] [] ?_))
  refine vc_seq (vc_seqr rfl (iQ 1 (iB .lss 3 (.int .i64 n) (.int .i64 0) (some 4) ?_)))
  intro c4 hc4
  refine iE 17 [(0, Ia n), (2, .d (Sv (⟨#[]⟩))), (4, Ba c4)] [] ?_
  cases c4
  · replace hc4 := bf hc4
    refine iF (vc_skip (seq_n (vc_seqr rfl (iQ 1 (iV 3 23 (.int .i64 n) (some 13) ?_)))))
    intro z13 hz13
    try replace hz13 := hz13.u64 (by omega)
    have e13 : z13 = (n.toNat : Int) := by omega
    refine iQ 1 (iC 61 [.sl 1 [.v (.int .u64 z13)]] (some 15) (c_Words1 e13 (by omega)) ?_)
    rintro _ rfl
    refine iC 32 [.sl (nd (n.toNat)) (dg (digs (n.toNat)))] (some 16) (c_RTx (Nat.le_trans (nd_u64 (by omega)) (by decide))) ?_
    rintro _ rfl
    refine iQ 1 (iE 17 [(0, Ia n), (2, .d (Sv (tx (Lib.decDigits n.toNat)))), (4, Ba false)] [] ?_)
    refine vc_ret (iR (Sv (tx (Lib.decDigits n.toNat))) ?_)
    rw [Lib.itoa, if_neg hc4]
  · replace hc4 := bt hc4
    refine iT (vc_seqr rfl (iQ 1 (iU .neg (.int .i64 n) (some 6) ?_)))
    intro z6 hz6
    try replace hz6 := hz6.i64 (by omega)
    refine iV 3 23 (.int .i64 z6) (some 7) ?_
    intro z7 hz7
    try replace hz7 := hz7.u64 (by omega)
    have e7 : z7 = (n.natAbs : Int) := by omega
    refine iQ 1 (iC 61 [.sl 1 [.v (.int .u64 z7)]] (some 9) (c_Words1 e7 (by omega)) ?_)
    rintro _ rfl
    refine iC 32 [.sl (nd (n.natAbs)) (dg (digs (n.natAbs)))] (some 10) (c_RTx (Nat.le_trans (nd_u64 (by omega)) (by decide))) ?_
    rintro _ rfl
    have hdl := dec_le (n := n.natAbs) (by omega)
    refine iB .add 9 (.string (⟨#[45]⟩)) (.string (tx (Lib.decDigits n.natAbs))) (some 11) ?_
    refine And.intro (sz_le (m := 1) (n := ((Lib.decDigits n.natAbs)).length) rfl rfl (by omega)) ?_
    intro s11 hs11
    have hl11 : (s11 : ByteArray).size = 1 + ((Lib.decDigits n.natAbs)).length := sz_add hs11 rfl rfl
    refine iQ 1 (iE 17 [(0, Ia n), (2, .d (Sv s11)), (4, Ba true)] [] ?_)
    refine vc_ret (seq_r (iR (Sv s11) ?_))
    rw [hs11, Lib.itoa, if_pos hc4]; exact congrArg (fun s => DV.v (.string s)) (tx_append [45] (Lib.decDigits n.natAbs))


open Go.RowKit
set_option linter.unusedVariables false
set_option linter.unusedSimpArgs false
set_option maxRecDepth 100000

def expOK (q : L8) : Bool := digsB (signP q) && decide ((signP q).length ≤ 6)
theorem idxC_skip {c : UInt8} : ∀ {A : L8} (r : L8), c ∉ A → idxC c (A ++ r) = A.length + idxC c r
  | [], r, h => by simp
  | x :: A, r, h => by
    simp only [List.mem_cons, not_or] at h
    rw [List.cons_append, idxC, if_neg (fun e => h.1 e.symm), idxC_skip r h.2, List.length_cons]
    omega
theorem cutL_skip {c : UInt8} {A : L8} (r : L8) (h : c ∉ A) : cutL c (A ++ r) = (A ++ (cutL c r).1, (cutL c r).2.1, (cutL c r).2.2) := by
  unfold cutL
  rw [idxC_skip r h, List.length_append]
  by_cases hr : idxC c r < r.length
  · rw [if_pos (by omega), if_pos hr]
    have h1 : (A ++ r).take (A.length + idxC c r) = A ++ r.take (idxC c r) := by rw [List.take_append, List.take_of_length_le (Nat.le_add_right _ _), Nat.add_sub_cancel_left]
    have h2 : (A ++ r).drop (A.length + idxC c r + 1) = r.drop (idxC c r + 1) := by
      rw [List.drop_append, List.drop_eq_nil_of_le (by omega), List.nil_append]
      congr 1
      omega
    rw [h1, h2]
  · rw [if_neg (by omega), if_neg hr]
theorem dg_not {c : UInt8} {A C : L8} (hc : isDg c = false) : digsB (A ++ c :: C) = false := by
  cases h : digsB (A ++ c :: C) with
  | false => rfl
  | true =>
    have h1 := (digsB_iff.1 h).2
    rw [List.all_append, List.all_cons, hc] at h1
    simp at h1
theorem nd46 : isDg 46 = false := by decide
theorem nd69 : isDg 69 = false := by decide
theorem sh_end {A : L8} (hA : A.all isDg = true) : shapeB A = digsB A ∧ rawN A = nvL A ∧ rawE A = 0 := by
  have c1 : cutL 69 A = (A, [], false) := cutL_no (not_mem_dg hA nd69)
  have c2 : cutL 46 A = (A, [], false) := cutL_no (not_mem_dg hA nd46)
  refine ⟨by simp [shapeB, expB, pntB, c1, c2], by simp [rawN, allS, c1, c2], ?_⟩
  simp only [rawE, c1, c2]
  rfl
theorem sh_E {A q : L8} (hA : A.all isDg = true) : shapeB (A ++ 69 :: q) = (expOK q && digsB A) ∧ rawN (A ++ 69 :: q) = nvL A ∧ rawE (A ++ 69 :: q) = expS q := by
  have c1 : cutL 69 (A ++ 69 :: q) = (A, q, true) := cutL_app q (not_mem_dg hA nd69)
  have c2 : cutL 46 A = (A, [], false) := cutL_no (not_mem_dg hA nd46)
  refine ⟨by simp [shapeB, expB, pntB, c1, c2, expOK], by simp [rawN, allS, c1, c2], ?_⟩
  simp only [rawE, c1, c2]
  simp
theorem sh_bad {A r : L8} {c : UInt8} (hA : A.all isDg = true) (hc : isDg c = false) (h1 : c ≠ 46) (h2 : c ≠ 69) : shapeB (A ++ c :: r) = false := by
  have c1 := cutL_skip (c := 69) (A := A ++ [c]) r (by simp only [List.mem_append, List.mem_singleton, not_or]; exact ⟨not_mem_dg hA nd69, fun e => h2 e.symm⟩)
  have c2 := cutL_skip (c := 46) (A := A ++ [c]) (cutL 69 r).1 (by simp only [List.mem_append, List.mem_singleton, not_or]; exact ⟨not_mem_dg hA nd46, fun e => h1 e.symm⟩)
  simp only [List.append_assoc, List.singleton_append] at c1 c2
  have hd : digsB (A ++ c :: (cutL 46 (cutL 69 r).1).1) = false := dg_not hc
  have he : (A ++ c :: (cutL 46 (cutL 69 r).1).1).isEmpty = false := by cases A <;> rfl
  simp [shapeB, pntB, c1, c2, hd, he]
theorem sh_pt {A r : L8} (hA : A.all isDg = true) : shapeB (A ++ 46 :: r) = ((!(cutL 69 r).2.2 || expOK (cutL 69 r).2.1) && digsB (cutL 69 r).1) ∧ rawN (A ++ 46 :: r) = nvL (A ++ (cutL 69 r).1) ∧ rawE (A ++ 46 :: r) = expS (cutL 69 r).2.1 - (cutL 69 r).1.length := by
  have c1 := cutL_skip (c := 69) (A := A ++ [46]) r (by simp only [List.mem_append, List.mem_singleton, not_or]; exact ⟨not_mem_dg hA nd69, by decide⟩)
  have c2 : cutL 46 (A ++ 46 :: (cutL 69 r).1) = (A, (cutL 69 r).1, true) := cutL_app _ (not_mem_dg hA nd46)
  simp only [List.append_assoc, List.singleton_append] at c1
  have he : (A.isEmpty || digsB A) = true := by
    cases A with
    | nil => rfl
    | cons a s =>
      have : digsB (a :: s) = true := digsB_iff.2 ⟨by simp, hA⟩
      rw [this]
      simp
  refine ⟨?_, by simp only [rawN, allS, c1, c2], by simp only [rawE, c1, c2]⟩
  simp only [shapeB, expB, pntB, c1, c2, expOK, he]
  simp
theorem cut_dg {B : L8} (hB : B.all isDg = true) : cutL 69 B = (B, [], false) := cutL_no (not_mem_dg hB nd69)
theorem cut_dgE {B q : L8} (hB : B.all isDg = true) : cutL 69 (B ++ 69 :: q) = (B, q, true) := cutL_app q (not_mem_dg hB nd69)
theorem cut_dgX {B r : L8} {c : UInt8} (hB : B.all isDg = true) (hc : isDg c = false) (h : c ≠ 69) : digsB (cutL 69 (B ++ c :: r)).1 = false := by
  have c1 := cutL_skip (c := 69) (A := B ++ [c]) r (by simp only [List.mem_append, List.mem_singleton, not_or]; exact ⟨not_mem_dg hB nd69, fun e => h e.symm⟩)
  simp only [List.append_assoc, List.singleton_append] at c1
  rw [c1]
  exact dg_not hc

/-- What is known where an exponent may begin: the digits so far, the exponent so far, the place. -/
structure Cont (l A : L8) (x : Int) (k : Nat) : Prop where
  le : k ≤ l.length
  dg : A.all isDg = true
  len : A.length ≤ l.length
  fin : k = l.length → shapeB l = digsB A ∧ rawN l = nvL A ∧ rawE l = x
  exp : l[k]? = some 69 → shapeB l = (expOK (l.drop (k + 1)) && digsB A) ∧ rawN l = nvL A ∧ rawE l = expS (l.drop (k + 1)) + x
  bad : ∀ c, l[k]? = some c → c ≠ 69 → shapeB l = false
  nil : A = [] → shapeB l = false
theorem at_cut {l : L8} {c : UInt8} {k : Nat} (h : l[k]? = some c) : l = l.take k ++ c :: l.drop (k + 1) := by
  obtain ⟨h1, h2⟩ := List.getElem?_eq_some_iff.1 h
  rw [← h2, ← List.drop_eq_getElem_cons h1, List.take_append_drop]
theorem cont_plain {l : L8} (h : l[ndg l]? ≠ some 46) : Cont l (l.take (ndg l)) 0 (ndg l) := by
  have hd : (l.take (ndg l)).all isDg = true := take_all (Nat.le_refl _)
  have hle := ndg_le l
  have fin : ndg l = l.length → shapeB l = digsB (l.take (ndg l)) ∧ rawN l = nvL (l.take (ndg l)) ∧ rawE l = 0 := fun e => by
    rw [e, List.take_length]
    rw [e, List.take_length] at hd
    exact sh_end hd
  have exp : l[ndg l]? = some 69 → shapeB l = (expOK (l.drop (ndg l + 1)) && digsB (l.take (ndg l))) ∧ rawN l = nvL (l.take (ndg l)) ∧ rawE l = expS (l.drop (ndg l + 1)) + 0 := fun e => by
    have h1 := sh_E (q := l.drop (ndg l + 1)) hd
    rw [← at_cut e] at h1
    exact ⟨h1.1, h1.2.1, by rw [h1.2.2]; omega⟩
  have bad : ∀ c, l[ndg l]? = some c → c ≠ 69 → shapeB l = false := fun c e hc => by
    have h1 := sh_bad (r := l.drop (ndg l + 1)) hd (ndg_end l c e) (fun q => h (by rw [e, q])) hc
    rwa [← at_cut e] at h1
  refine ⟨hle, hd, by rw [List.length_take]; omega, fin, exp, bad, fun e => ?_⟩
  by_cases hk : ndg l = l.length
  · rw [(fin hk).1, e]; rfl
  · obtain ⟨c, hc⟩ : ∃ c, l[ndg l]? = some c := ⟨_, List.getElem?_eq_getElem (by omega)⟩
    by_cases h69 : c = 69
    · subst h69
      rw [(exp hc).1, e]
      simp [digsB]
    · exact bad c hc h69
theorem pt_drop {l : L8} {m : Nat} : (l.drop m).drop (ndg (l.drop m)) = l.drop (m + ndg (l.drop m)) := List.drop_drop
theorem pt_at {l : L8} {m i : Nat} : (l.drop m)[i]? = l[m + i]? := List.getElem?_drop
theorem cont_no {l : L8} (h : l[ndg l]? = some 46) (h0 : ndg (l.drop (ndg l + 1)) = 0) : shapeB l = false := by
  have hd : (l.take (ndg l)).all isDg = true := take_all (Nat.le_refl _)
  have h1 := (sh_pt (r := l.drop (ndg l + 1)) hd).1
  rw [← at_cut h] at h1
  rw [h1]
  cases hr : l.drop (ndg l + 1) with
  | nil => rfl
  | cons c r =>
    rw [hr] at h0
    have hc : isDg c = false := by
      unfold ndg at h0
      split at h0
      · omega
      · rename_i hn; simpa using hn
    by_cases h69 : c = 69
    · subst h69
      have := cut_dgE (B := []) (q := r) rfl
      simp only [List.nil_append] at this
      rw [this]
      simp [digsB]
    · have := cut_dgX (B := []) (r := r) rfl hc h69
      simp only [List.nil_append] at this
      rw [this]
      simp
theorem cont_pt {l : L8} (h : l[ndg l]? = some 46) (h0 : ndg (l.drop (ndg l + 1)) ≠ 0) : Cont l (l.take (ndg l) ++ (l.drop (ndg l + 1)).take (ndg (l.drop (ndg l + 1)))) (-(ndg (l.drop (ndg l + 1)) : Int)) (ndg l + 1 + ndg (l.drop (ndg l + 1))) := by
  have hd : (l.take (ndg l)).all isDg = true := take_all (Nat.le_refl _)
  have hlt := (List.getElem?_eq_some_iff.1 h).1
  obtain ⟨r, hr⟩ : ∃ r, r = l.drop (ndg l + 1) := ⟨_, rfl⟩
  have hrl : r.length = l.length - (ndg l + 1) := by rw [hr, List.length_drop]
  rw [← hr] at h0 ⊢
  have hle := ndg_le r
  have hB : (r.take (ndg r)).all isDg = true := take_all (Nat.le_refl _)
  have hBl : (r.take (ndg r)).length = ndg r := by rw [List.length_take]; omega
  have hB0 : digsB (r.take (ndg r)) = true := digsB_iff.2 ⟨fun e => by rw [e] at hBl; simp at hBl; omega, hB⟩
  have hA : (l.take (ndg l) ++ r.take (ndg r)).all isDg = true := by rw [List.all_append, hd, hB]; rfl
  have hA0 : l.take (ndg l) ++ r.take (ndg r) ≠ [] := fun e => by
    have := (List.append_eq_nil_iff.1 e).2
    rw [this] at hBl
    simp at hBl
    omega
  have hAd : digsB (l.take (ndg l) ++ r.take (ndg r)) = true := digsB_iff.2 ⟨hA0, hA⟩
  have h1 := sh_pt (r := r) hd
  rw [hr, ← at_cut h, ← hr] at h1
  refine ⟨by omega, hA, by rw [List.length_append, List.length_take, hBl]; omega, fun e => ?_, fun e => ?_, fun c e hc => ?_, fun e => absurd e hA0⟩
  · have hrB : r.take (ndg r) = r := List.take_of_length_le (by omega)
    rw [hrB] at hB hB0 hAd ⊢
    rw [cut_dg hB] at h1
    refine ⟨by rw [h1.1, hAd]; simp [hB0], h1.2.1, ?_⟩
    rw [h1.2.2]
    simp only
    have : expS [] = 0 := rfl
    omega
  · have e2 : r[ndg r]? = some 69 := by rw [hr, pt_at, ← hr]; exact e
    have e3 : r.drop (ndg r + 1) = l.drop (ndg l + 1 + ndg r + 1) := by rw [hr, List.drop_drop, ← hr]; congr 1
    have e4 := cut_dgE (q := r.drop (ndg r + 1)) hB
    rw [← at_cut e2] at e4
    rw [e4] at h1
    simp only at h1
    rw [e3] at h1
    refine ⟨by rw [h1.1, hAd, hB0]; simp, h1.2.1, by rw [h1.2.2, hBl]; omega⟩
  · have e2 : r[ndg r]? = some c := by rw [hr, pt_at, ← hr]; exact e
    have e4 := cut_dgX (r := r.drop (ndg r + 1)) hB (ndg_end r c e2) hc
    rw [← at_cut e2] at e4
    rw [h1.1, e4]
    simp
/-- An exponent's digits, behind its sign. -/
theorem exp_facts {q Q : L8} (h : signP q = Q) : (expOK q = true ↔ ndg Q = Q.length ∧ Q ≠ [] ∧ Q.length ≤ 6) ∧ expS q = if q.head? = some 45 then -(nvL Q : Int) else nvL Q := by
  subst h
  refine ⟨?_, rfl⟩
  unfold expOK
  rw [Bool.and_eq_true, digsB_iff, decide_eq_true_eq]
  have key : (signP q).all isDg = true ↔ ndg (signP q) = (signP q).length := by
    constructor
    · intro h
      refine ndg_unique (Nat.le_refl _) (fun i c hi hc => List.all_eq_true.1 h c (List.mem_of_getElem? hc)) (fun c hc => ?_)
      rw [List.getElem?_eq_none (Nat.le_refl _)] at hc
      cases hc
    · intro h
      have := take_all (l := signP q) (k := (signP q).length) (by omega)
      rwa [List.take_length] at this
  rw [key]
  constructor
  · rintro ⟨⟨a, b⟩, c⟩
    exact ⟨b, a, c⟩
  · rintro ⟨a, b, c⟩
    exact ⟨⟨b, a⟩, c⟩
/-- A number that is far too small is 0. -/
theorem fit_tiny {N : Nat} {e : Int} (h : e + (nd N : Int) < -8000) : fitU 1 false N e false = (false, 0, -6176, true) := by
  have hk : fitKU N e = (-6176 - e).toNat := by unfold fitKU; omega
  obtain ⟨j, hj⟩ : ∃ j, (-6176 - e).toNat = j + 1 := ⟨(-6176 - e).toNat - 1, by omega⟩
  have hN : N < 10 ^ j := Nat.lt_of_lt_of_le (lt_nd N) (Nat.pow_le_pow_right (by decide) (by omega))
  have hq : cutQ 1 false N false (j + 1) = 0 := by
    have h1 : N / 10 ^ (j + 1) = 0 := Nat.div_eq_of_lt (Nat.lt_of_lt_of_le hN (Nat.pow_le_pow_right (by decide) (by omega)))
    have h2 : upB 1 false N false (j + 1) = false := by
      apply b_false
      rw [upB_iff, lastD, Nat.div_eq_of_lt hN]
      unfold UpP
      simp
    rw [cutQ, h1, h2]
    rfl
  unfold fitU
  rw [hk, hj, hq, (fit2_low (m := 1) (neg := false) (n := 0) (by omega) 0).1, (fit2_low (m := 1) (neg := false) (n := 0) (by omega) (e + ((j + 1 : Nat) : Int))).2]
  unfold fitE
  rw [if_pos rfl, show max (-6176 : Int) (min (e + ((j + 1 : Nat) : Int)) 6111) = -6176 by omega]
theorem cutQ_zero (j : Nat) : cutQ 1 false 0 false (j + 1) = 0 := by
  have h2 : upB 1 false 0 false (j + 1) = false := by
    apply b_false
    rw [upB_iff, lastD, Nat.zero_div]
    unfold UpP
    simp
  rw [cutQ, Nat.zero_div, h2]
  rfl
theorem fit_zero {e e' : Int} (h : e = e' ∨ e < -8000 ∧ e' = -8000) : fitU 1 false 0 e false = fitU 1 false 0 e' false := by
  rcases h with rfl | ⟨h1, rfl⟩
  · rfl
  · have hn : nd 0 = 0 := nd_zero
    have h2 : fitU 1 false 0 e false = (false, 0, -6176, true) := fit_tiny (by omega)
    rw [h2]
    have hk : fitKU 0 (-8000) = 1824 := by unfold fitKU; rw [hn]; decide
    have hq : cutQ 1 false 0 false 1824 = 0 := cutQ_zero 1823
    unfold fitU
    rw [hk, hq, (fit2_low (m := 1) (neg := false) (n := 0) (by omega) 0).1, (fit2_low (m := 1) (neg := false) (n := 0) (by omega) (-8000 + ((1824 : Nat) : Int))).2]
    rfl


open Go.RowKit
set_option linter.unusedVariables false
set_option linter.unusedSimpArgs false
set_option maxRecDepth 100000

-- digits as the lowest first
/-- The digits of a text's last signs, the lowest ahead. -/
def lo8 (l : L8) : Nat → List Nat
  | 0 => []
  | j + 1 => lo8 l j ++ [((l[l.length - 1 - j]?).getD 0).toNat - 48]
theorem lo8_len' (l : L8) : ∀ j, (lo8 l j).length = j
  | 0 => rfl
  | j + 1 => by rw [lo8, List.length_append, lo8_len' l j]; rfl
theorem lo8_len {l : L8} {j : Nat} (h : j ≤ l.length) : (lo8 l j).length = j := lo8_len' l j
theorem lo8_succ {l : L8} {j : Nat} {c : UInt8} (h : l[l.length - 1 - j]? = some c) (hj : j < l.length) : lo8 l (j + 1) = lo8 l j ++ [c.toNat - 48] := by
  rw [lo8, h]
  rfl
theorem lo8_eq (l : L8) : ∀ j, j ≤ l.length → lo8 l j = ((l.drop (l.length - j)).map fun c => c.toNat - 48).reverse
  | 0, h => by simp [lo8]
  | j + 1, h => by
    have h1 : l.length - 1 - j < l.length := by omega
    rw [lo8, lo8_eq l j (by omega), show l.length - (j + 1) = l.length - 1 - j by omega, List.drop_eq_getElem_cons h1, List.getElem?_eq_getElem h1, show l.length - 1 - j + 1 = l.length - j by omega]
    simp
theorem dval_rev : ∀ (l : L8), dval ((l.map fun c => c.toNat - 48).reverse) = nvL l
  | [] => rfl
  | c :: l => by
    rw [List.map_cons, List.reverse_cons, dval_snoc, dval_rev l, nvL_cons, List.length_reverse, List.length_map, Nat.mul_comm]
    omega
theorem lo8_val (l : L8) : dval (lo8 l l.length) = nvL l := by
  rw [lo8_eq l _ (Nat.le_refl _), Nat.sub_self, List.drop_zero, dval_rev]
theorem lo8_lt {l : L8} {j : Nat} (h : l.all isDg = true) (hj : j ≤ l.length) : ∀ d ∈ lo8 l j, d < 10 := fun d hd => by
  rw [lo8_eq l j hj] at hd
  rw [List.mem_reverse, List.mem_map] at hd
  obtain ⟨c, hc, rfl⟩ := hd
  have := isDg_iff.1 (List.all_eq_true.1 h c (List.mem_of_mem_drop hc))
  omega
theorem at_dg {l : L8} {k : Nat} (h : l.all isDg = true) (hk : k < l.length) : ∃ c, l[k]? = some c ∧ strAt (tx l) k = (c.toNat : Int) ∧ 48 ≤ c.toNat ∧ c.toNat ≤ 57 := by
  refine ⟨l[k], List.getElem?_eq_getElem hk, ?_, isDg_iff.1 (List.all_eq_true.1 h _ (List.getElem_mem hk))⟩
  rw [tx_at, List.getElem?_eq_getElem hk]
  rfl

set_option maxHeartbeats 800000 in
theorem c_RRead8 {l : L8} (hl : l.length ≤ 1000) (hd : l.all isDg = true) (h0 : l ≠ []) : HasC Tryz.prog 26 [.v (.string (tx l))] (fun y => y = .tup [.sl (nd (nvL l)) (dg (digs (nvL l))), .v (.bool true)]) := by
  refine HasC.of [] (fn := Tryz.f26) tyOk mixed (fun args w => Tryz.call26 args w) Tryz.func26 rfl (by kernel_rfl) (Nat.le_of_ble_eq_true rfl) (⟨_, rfl⟩) ?_
  have hs : (tx l).size = l.length := tx_size l
  have hp : 0 < l.length := List.length_pos_iff.2 h0
  refine vc_seqr rfl (iQ 2 (iE 36 [(0, .d (Sv (tx l))), (2, .w (.sl 0 []) none), (3, Ba false)] [] ?_))
  refine vc_seqr rfl (iQ 1 (iE 36 [(0, .d (Sv (tx l))), (2, .w (.sl 0 []) none), (3, Ba false), (4, .w (.sl 0 []) none)] [] ?_))
  refine vc_seq (vc_seqr rfl (iQ 1 (iL .len [9] [.string (tx l)] (some 7) ?_)))
  intro n7 hn7
  refine iB .sub 3 (.int .i64 ((n7 : Nat))) (.int .i64 1) (some 8) ?_
  intro z8 hz8
  try replace hz8 := hz8.i64 (by omega)
  refine iQ 1 (iE 36 [(0, .d (Sv (tx l))), (2, .w (.sl 0 []) none), (3, Ba false), (4, .w (.sl 0 []) none), (5, Ia z8)] [] ?_)
  refine vc_block (vc_loop 36 (fun (vcx : Nat × Int) => match vcx with | (j, c) => [(0, .d (Sv (tx l))), (2, .w (.sl 0 []) none), (3, Ba false), (4, .w (.sl ((lo8 l j).length) (dg (lo8 l j))) (some ⟨4, 0, 3, 1⟩)), (5, Ia c)]) (fun (vcx : Nat × Int) => match vcx with | (j, c) => []) (fun (vcx : Nat × Int) => match vcx with | (j, c) => c = l.length - 1 - (j : Int) ∧ j ≤ l.length) (fun (vcx : Nat × Int) => match vcx with | (j, c) => l.length - j) ((0, z8)) (⟨by omega, by omega⟩) (by kernel_rfl) (by kernel_rfl) ?_)
  rintro ⟨j, c⟩ hinv
  simp only at hinv
  obtain ⟨h1, h2⟩ := hinv
  refine vc_seq (vc_seqr rfl (iQ 1 (iB .geq 3 (.int .i64 c) (.int .i64 0) (some 10) ?_)))
  intro c10 hc10
  refine iE 36 [(0, .d (Sv (tx l))), (2, .w (.sl 0 []) none), (3, Ba false), (4, .w (.sl ((lo8 l j).length) (dg (lo8 l j))) (some ⟨4, 0, 3, 1⟩)), (5, Ia c), (10, Ba c10)] [] ?_
  cases c10
  · replace hc10 := bf hc10
    have hj : j = l.length := by omega
    refine iF (vc_exit (seq_x (loop_x (block_x rfl (seq_n (vc_seqr rfl (iQ 1 (iC 58 [.sl ((lo8 l j).length) (dg (lo8 l j))] (some 32) (c_TrimD (lo8_lt hd h2) (by rw [lo8_len h2]; omega)) ?_))))))))
    rintro _ rfl
    refine iQ 1 (iL .len [9] [.string (tx l)] (some 34) ?_)
    intro n34 hn34
    refine iB .gtr 3 (.int .i64 ((n34 : Nat))) (.int .i64 0) (some 35) ?_
    intro c35 hc35
    refine iQ 2 (iE 36 [(0, .d (Sv (tx l))), (2, .d (.sl (nd (dval (lo8 l j))) (dg (digs (dval (lo8 l j)))))), (3, Ba c35), (4, .w (.sl ((lo8 l j).length) (dg (lo8 l j))) (some ⟨4, 0, 3, 1⟩)), (5, Ia c), (10, Ba false)] [] ?_)
    refine vc_ret (iS (.sl (nd (dval (lo8 l j))) (dg (digs (dval (lo8 l j))))) (Bv c35) [] ?_)
    rw [hc35.2 (by omega), hj, lo8_val]
  · replace hc10 := bt hc10
    have hc : c.toNat = l.length - 1 - j := by omega
    obtain ⟨q, hq1, hq2, hq3, hq4⟩ := at_dg hd (show l.length - 1 - j < l.length by omega)
    refine iT (vc_skip (seq_n (vc_seq (vc_block (vc_seq (vc_seqr rfl (iQ 2 (iX 9 (.string (tx l)) (.int .i64 c) (some 15) ?_))))))))
    refine And.intro (by omega) ?_
    intro z15 hz15
    have e15 : z15 = (q.toNat : Int) := by rw [hz15, hc]; exact hq2
    refine iB .lss 5 (.int .u8 z15) (.int .u8 48) (some 16) ?_
    refine all_false ((by omega)) ?_
    refine iQ 3 (iX 9 (.string (tx l)) (.int .i64 c) (some 20) ?_)
    refine And.intro (by omega) ?_
    intro z20 hz20
    have e20 : z20 = (q.toNat : Int) := by rw [hz20, hc]; exact hq2
    refine iB .gtr 5 (.int .u8 z20) (.int .u8 57) (some 21) ?_
    refine all_false ((by omega)) ?_
    refine iQ 1 (iE 36 [(0, .d (Sv (tx l))), (2, .w (.sl 0 []) none), (3, Ba false), (4, .w (.sl ((lo8 l j).length) (dg (lo8 l j))) (some ⟨4, 0, 3, 1⟩)), (5, Ia c), (10, Ba true), (22, Ba false)] [] ?_)
    refine iF (vc_skip (seq_n (vc_reg rfl (iQ 3 (iX 9 (.string (tx l)) (.int .i64 c) (some 26) ?_)))))
    refine And.intro (by omega) ?_
    intro z26 hz26
    have e26 : z26 = (q.toNat : Int) := by rw [hz26, hc]; exact hq2
    refine iB .sub 5 (.int .u8 z26) (.int .u8 48) (some 27) ?_
    intro z27 hz27
    try replace hz27 := hz27.u8 (by omega)
    refine iV 5 3 (.int .u8 z27) (some 28) ?_
    intro z28 hz28
    try replace hz28 := hz28.i64 (by omega)
    have e28 : z28 = ((q.toNat - 48 : Nat) : Int) := by omega
    refine iQ 1 (vcI_app (n := ((lo8 l j).length)) (cs := (dg (lo8 l j))) (m := 1) (ds := [.v (.int .i64 z28)]) (N := ((lo8 l (j + 1)).length)) (es := (dg (lo8 l (j + 1)))) (j := 4) (e := 3) (z := 1) (dst := (some 30)) (by kernel_rfl) (by first | rfl | omega | (rw [Nat.mul_one]; exact dg_len _) | (simp [dg]; done) | (simp [dg]; omega)) (by first | rfl | omega | (rw [Nat.mul_one]; exact dg_len _) | (simp [dg]; done) | (simp [dg]; omega)) (rfl) (by rw [lo8_len h2]; omega) (by simp [lo8_len h2, lo8_len (show j + 1 ≤ l.length by omega)]) (by rw [lo8_succ hq1 (by omega), e28]; simp [dg]) ?_)
    refine iQ 1 (iE 36 [(0, .d (Sv (tx l))), (2, .w (.sl 0 []) none), (3, Ba false), (4, .w (.sl ((lo8 l (j + 1)).length) (dg (lo8 l (j + 1)))) (some ⟨4, 0, 3, 1⟩)), (5, Ia c), (10, Ba true), (22, Ba false)] [] ?_)
    refine block_n (seq_n (vc_reg rfl (iQ 1 (iB .sub 3 (.int .i64 c) (.int .i64 1) (some 12) ?_))))
    intro z12 hz12
    try replace hz12 := hz12.i64 (by omega)
    refine iQ 1 (iE 36 [(0, .d (Sv (tx l))), (2, .w (.sl 0 []) none), (3, Ba false), (4, .w (.sl ((lo8 l (j + 1)).length) (dg (lo8 l (j + 1)))) (some ⟨4, 0, 3, 1⟩)), (5, Ia z12), (10, Ba true), (22, Ba false)] [] ?_)
    refine loop_n (j + 1, z12) (⟨by omega, by omega⟩) (by show l.length - (j + 1) < l.length - j; omega) (by kernel_rfl) (by kernel_rfl)

theorem c_rdigit {z : Int} {c : UInt8} (h : z = (c.toNat : Int)) : HasC Tryz.prog 57 [.v (.int .u8 z)] (fun y => y = .v (.bool (isDg c))) := by
  refine HasC.of [] (fn := Tryz.f57) tyOk mixed (fun args w => Tryz.call57 args w) Tryz.func57 rfl (by kernel_rfl) (Nat.le_of_ble_eq_true rfl) (⟨_, rfl⟩) ?_
  refine vc_seqr rfl (iQ 1 (iE 9 [(0, .d (.v (.int .u8 z))), (2, Ba false)] [] ?_))
  refine vc_seqr rfl (iQ 1 (iB .geq 5 (.int .u8 z) (.int .u8 48) (some 4) ?_))
  intro c4 hc4
  refine iQ 1 ?_
  cases c4
  · replace hc4 := bf hc4
    refine iQ 4 (iE 9 [(2, Ba false)] [] ?_)
    refine vc_ret (iR (Bv false) ?_)
    rw [show isDg c = false from b_false fun e => by have := isDg_iff.1 e; omega]
  · replace hc4 := bt hc4
    refine iQ 1 (iB .leq 5 (.int .u8 z) (.int .u8 57) (some 7) ?_)
    intro c7 hc7
    refine iQ 2 (iE 9 [(2, Ba c7)] [] ?_)
    refine vc_ret (iR (Bv c7) ?_)
    rw [show isDg c = c7 from Bool.eq_iff_iff.2 (by rw [isDg_iff, hc7]; omega)]
theorem strAt_get {l : L8} {k : Nat} (h : k < l.length) : ∃ c, l[k]? = some c ∧ strAt (tx l) k = (c.toNat : Int) :=
  ⟨l[k], List.getElem?_eq_getElem h, by rw [tx_at, List.getElem?_eq_getElem h]; rfl⟩
theorem ndg_at {l : L8} {a k : Nat} (h1 : ∀ i c, a ≤ i → i < k → l[i]? = some c → isDg c = true) (hak : a ≤ k) (hk : k ≤ l.length) (h2 : ∀ c, l[k]? = some c → isDg c = false) : ndg (l.drop a) = k - a := by
  refine ndg_unique (by rw [List.length_drop]; omega) (fun i c hi hc => ?_) (fun c hc => ?_)
  · rw [List.getElem?_drop] at hc
    exact h1 (a + i) c (by omega) (by omega) hc
  · rw [List.getElem?_drop, show a + (k - a) = k by omega] at hc
    exact h2 c hc
theorem c_rdigitB {z : Int} {c : UInt8} (h : z = (c.toNat : Int)) : HasC Tryz.prog 57 [.v (.int .u8 z)] (fun y => ∃ b, y = .v (.bool b) ∧ (b = true ↔ isDg c = true)) := (c_rdigit h).mono fun y hy => ⟨_, hy, Iff.rfl⟩
theorem ndg_stop {l : L8} {a j : Nat} (h1 : ∀ i c, i < j → l[a + i]? = some c → isDg c = true) (hj : a + j ≤ l.length) (h2 : a + j = l.length ∨ ∃ c, l[a + j]? = some c ∧ isDg c = false) : ndg (l.drop a) = j := by
  refine ndg_unique (by rw [List.length_drop]; omega) (fun i c hi hc => ?_) (fun c hc => ?_)
  · rw [List.getElem?_drop] at hc
    exact h1 i c hi hc
  · rw [List.getElem?_drop] at hc
    rcases h2 with h2 | ⟨d, h2, h3⟩
    · rw [List.getElem?_eq_none (by omega)] at hc
      cases hc
    · rw [h2] at hc
      cases hc
      exact h3
theorem step_dg {l : L8} {a j : Nat} {c : UInt8} (h1 : ∀ i c, i < j → l[a + i]? = some c → isDg c = true) (hc : l[a + j]? = some c) (hd : isDg c = true) : ∀ i c, i < j + 1 → l[a + i]? = some c → isDg c = true := fun i d hi he => by
  by_cases e : i = j
  · subst e
    rw [hc] at he
    cases he
    exact hd
  · exact h1 i d (by omega) he
theorem c_rrun {l : L8} {a : Nat} {z : Int} (hz : z = (a : Int)) (hl : l.length ≤ 1000) (ha : a ≤ l.length) : HasC Tryz.prog 25 [.v (.string (tx l)), .v (.int .i64 z)] (fun y => y = .v (.int .i64 ((a + ndg (l.drop a) : Nat) : Int))) := by
  refine HasC.of [] (fn := Tryz.f25) tyOk mixed (fun args w => Tryz.call25 args w) Tryz.func25 rfl (by kernel_rfl) (Nat.le_of_ble_eq_true rfl) (⟨_, rfl⟩) ?_
  have hs : (tx l).size = l.length := tx_size l
  refine vc_seqr rfl (iQ 1 (iE 18 [(0, .d (Sv (tx l))), (1, Ia z), (4, Ia 0)] [] ?_))
  refine vc_seq (vc_block (vc_loop 18 (fun (vcx : Nat × Int) => match vcx with | (j, c) => [(0, .d (Sv (tx l))), (1, Ia c), (4, Ia 0)]) (fun (vcx : Nat × Int) => match vcx with | (j, c) => []) (fun (vcx : Nat × Int) => match vcx with | (j, c) => c = (a + j : Nat) ∧ a + j ≤ l.length ∧ ∀ i c, i < j → l[a + i]? = some c → isDg c = true) (fun (vcx : Nat × Int) => match vcx with | (j, c) => l.length - a - j) ((0, z)) (⟨by omega, by omega, fun i c h => by omega⟩) (by kernel_rfl) (by kernel_rfl) ?_))
  rintro ⟨j, c⟩ hinv
  simp only at hinv
  obtain ⟨h1, h2, h3⟩ := hinv
  refine vc_seq (vc_seqr rfl (iQ 2 (iL .len [9] [.string (tx l)] (some 7) ?_)))
  intro n7 hn7
  refine iB .lss 3 (.int .i64 c) (.int .i64 ((n7 : Nat))) (some 8) ?_
  intro c8 hc8
  refine iQ 1 ?_
  cases c8
  · replace hc8 := bf hc8
    refine iQ 5 (iE 18 [(0, .d (Sv (tx l))), (1, Ia c), (4, Ia 0), (14, Ba false)] [] ?_)
    refine iF (vc_exit (seq_x (loop_x (block_x rfl (seq_n (vc_seqr rfl (iQ 2 (iE 18 [(0, .d (Sv (tx l))), (1, Ia c), (4, Ia c), (14, Ba false)] [] ?_))))))))
    refine vc_ret (iR (Iv c) ?_)
    rw [ndg_stop h3 h2 (.inl (by omega)), h1]
  · replace hc8 := bt hc8
    refine iQ 2 (iX 9 (.string (tx l)) (.int .i64 c) (some 12) ?_)
    have hk : a + j < l.length := by omega
    obtain ⟨q, hq1, hq2⟩ := strAt_get hk
    refine And.intro (by omega) ?_
    intro z12 hz12
    have e12 : z12 = (q.toNat : Int) := by rw [hz12, h1]; exact hq2
    refine iC 57 [.v (.int .u8 z12)] (some 13) (c_rdigitB e12) ?_
    rintro _ ⟨dq, rfl, hdq⟩
    refine iQ 1 (iE 18 [(0, .d (Sv (tx l))), (1, Ia c), (4, Ia 0), (14, Ba dq)] [] ?_)
    cases dq
    · replace hdq := bf hdq
      refine iF (vc_exit (seq_x (loop_x (block_x rfl (seq_n (vc_seqr rfl (iQ 2 (iE 18 [(0, .d (Sv (tx l))), (1, Ia c), (4, Ia c), (14, Ba false)] [] ?_))))))))
      refine vc_ret (iR (Iv c) ?_)
      rw [ndg_stop h3 h2 (.inr ⟨q, hq1, b_false hdq⟩), h1]
    · replace hdq := bt hdq
      refine iT (vc_skip (seq_n (vc_block (vc_reg rfl (iQ 1 (iB .add 3 (.int .i64 c) (.int .i64 1) (some 16) ?_))))))
      intro z16 hz16
      try replace hz16 := hz16.i64 (by omega)
      refine iQ 1 (iE 18 [(0, .d (Sv (tx l))), (1, Ia z16), (4, Ia 0), (14, Ba true)] [] ?_)
      refine block_n ?_
      refine loop_n (j + 1, z16) (⟨by omega, by omega, step_dg h3 hq1 hdq⟩) (by show l.length - a - (j + 1) < l.length - a - j; omega) (by kernel_rfl) (by kernel_rfl)

-- the whole
noncomputable def rdO (l : L8) : DV := .tup [dRD (readT l).1 (readT l).2.1 (readT l).2.2.1, .v (.bool (shapeB l)), .v (.bool (readT l).2.2.2)]
theorem rdO_no {l : L8} (h : shapeB l = false) : rdO l = .tup [.agg [.v (.bool false), .sl 0 [], .v (.int .i64 0)], .v (.bool false), .v (.bool false)] := by
  have hr : readT l = (false, 0, 0, false) := by rw [readT, if_neg (by rw [h]; simp)]
  rw [rdO, hr, h, ← dRD_0]
theorem rdO_tiny {l : L8} (h : shapeB l = true) (ht : rawE l + (nd (rawN l) : Int) < -8000) : rdO l = .tup [.agg [.v (.bool false), .sl 0 [], .v (.int .i64 (-6176))], .v (.bool true), .v (.bool true)] := by
  have hr : readT l = (false, 0, -6176, true) := by rw [readT, if_pos h, fit_tiny ht]
  rw [rdO, hr, h, ← dRD_0]
theorem rdO_fit {l : L8} {g : Bool} {k : Nat} {x y : Int} {ok : Bool} (h : shapeB l = true) (hf : fitU 1 false (rawN l) (rawE l) false = fitU 1 false (rawN l) y false) (hT : fitU 1 false (rawN l) y false = (g, k, x, ok)) : rdO l = .tup [dRD g k x, .v (.bool true), .v (.bool ok)] := by
  have hr : readT l = (g, k, x, ok) := by rw [readT, if_pos h, hf, hT]
  rw [rdO, hr, h]
theorem signP_all {Q : L8} {n : Nat} (h : ndg Q = n) (h2 : Q.length = n) : Q.all isDg = true := by
  have := take_all (l := Q) (k := Q.length) (by omega)
  rwa [List.take_length] at this
theorem expOK_no {q Q : L8} (h : signP q = Q) (hn : ¬ (ndg Q = Q.length ∧ Q ≠ [] ∧ Q.length ≤ 6)) : expOK q = false := b_false fun e => hn ((exp_facts h).1.1 e)
theorem head_at {l : L8} {k : Nat} : (l.drop k).head? = l[k]? := by rw [List.head?_drop]
theorem at_nat {c : UInt8} {n : Nat} (h : (c.toNat : Int) = (n : Int)) (hn : n < 256) : c = UInt8.ofNat n := by
  apply UInt8.toNat_inj.1
  rw [UInt8.toNat_ofNat']
  omega
theorem cont_noE {l A : L8} {x : Int} {k : Nat} (hC : Cont l A x k) (h : l[k]? = some 69) (hn : expOK (l.drop (k + 1)) = false) : shapeB l = false := by rw [(hC.exp h).1, hn]; rfl
theorem sgn_nil {l : L8} {k : Nat} (h : k + 1 = l.length) : signP (l.drop (k + 1)) = l.drop (k + 1) := by
  rw [List.drop_of_length_le (by omega)]
  rfl
theorem sgn_is {l : L8} {k : Nat} {c : UInt8} (h : l[k + 1]? = some c) (hc : c = 45 ∨ c = 43) : signP (l.drop (k + 1)) = l.drop (k + 1 + 1) := by
  unfold signP
  rw [if_pos, List.tail_drop]
  rw [head_at, h]
  rcases hc with rfl | rfl
  · exact .inl rfl
  · exact .inr rfl
theorem sgn_not {l : L8} {k : Nat} {c : UInt8} (h : l[k + 1]? = some c) (h1 : c ≠ 45) (h2 : c ≠ 43) : signP (l.drop (k + 1)) = l.drop (k + 1) := by
  unfold signP
  rw [if_neg]
  rw [head_at, h]
  rintro (e | e)
  · exact h1 (Option.some.inj e)
  · exact h2 (Option.some.inj e)
theorem drop_nil {l : L8} {k : Nat} : l.drop k = [] ↔ l.length ≤ k := by rw [List.drop_eq_nil_iff]

theorem c_rrunE {l : L8} {a : Nat} {z : Int} (hz : z = (a : Int)) (hl : l.length ≤ 1000) (ha : a ≤ l.length) : HasC Tryz.prog 25 [.v (.string (tx l)), .v (.int .i64 z)] (fun y => ∃ k : Nat, y = .v (.int .i64 (k : Int)) ∧ k = a + ndg (l.drop a)) := (c_rrun hz hl ha).mono fun y hy => ⟨_, hy, rfl⟩
theorem part_tx {l : L8} {s : ByteArray} {a b : Int} {i j : Nat} (hs : s = (tx l).extract a.toNat b.toNat) (ha : a = (i : Int)) (hb : b = (j : Int)) : s = tx ((l.drop i).take (j - i)) := by
  rw [hs, tx_extract, ha, hb]
  rfl
theorem ap_tx {s t : ByteArray} {a b c : L8} (hs : s = tx a) (ht : t = tx b) (h : c = a ++ b) : s ++ t = tx c := by rw [hs, ht, tx_append, h]
theorem ndg_dl {l : L8} {a : Nat} : ndg (l.drop a) ≤ l.length - a := by
  have := ndg_le (l.drop a)
  rwa [List.length_drop] at this
theorem c_RRead8E {l : L8} {s : ByteArray} {n : Nat} (hs : s = tx l) (hn : nvL l = n) (hl : l.length ≤ 1000) (hd : l.all isDg = true) (h0 : l ≠ []) : HasC Tryz.prog 26 [.v (.string s)] (fun y => y = .tup [.sl (nd n) (dg (digs n)), .v (.bool true)]) := by subst hs; subst hn; exact c_RRead8 hl hd h0

theorem cont_pt' {l : L8} {k0 e : Nat} {x : Int} (hk0 : k0 = ndg l) (h : l[k0]? = some 46) (he : e = k0 + 1 + ndg (l.drop (k0 + 1))) (hne : e ≠ k0 + 1) (hx : x = k0 + 1 - e) : Cont l (l.take k0 ++ (l.drop (k0 + 1)).take (e - (k0 + 1))) x e := by
  subst hk0
  have h1 := cont_pt h (by omega)
  rw [show e - (ndg l + 1) = ndg (l.drop (ndg l + 1)) by omega, show x = -(ndg (l.drop (ndg l + 1)) : Int) by omega]
  rw [he]
  exact h1
theorem cont_plain' {l : L8} {k0 : Nat} (hk0 : k0 = ndg l) (h : l[k0]? ≠ some 46) : Cont l (l.take k0) 0 k0 := by
  subst hk0
  exact cont_plain h
theorem cont_no' {l : L8} {k0 e : Nat} (hk0 : k0 = ndg l) (h : l[k0]? = some 46) (he : e = k0 + 1 + ndg (l.drop (k0 + 1))) (hne : e = k0 + 1) : shapeB l = false := by
  subst hk0
  exact cont_no h (by omega)
theorem not_46 {l : L8} {k : Nat} {c : UInt8} (h : l[k]? = some c) (hc : (c.toNat : Int) ≠ 46) : l[k]? ≠ some 46 := fun e => by
  rw [h] at e
  cases e
  exact hc rfl
theorem none_46 {l : L8} {k : Nat} {c : UInt8} (h : l.length ≤ k) : l[k]? ≠ some c := by
  rw [List.getElem?_eq_none h]
  simp
theorem end_E {l A Q : L8} {x : Int} {k : Nat} {N : Nat} {ng : Bool} {y : Int} (hC : Cont l A x k) (hq : l[k]? = some 69) (hA : digsB A = true) (hN : nvL A = N) (h1 : signP (l.drop (k + 1)) = Q) (h2 : ndg Q = Q.length ∧ Q ≠ [] ∧ Q.length ≤ 6)
    (h3 : ng = true ↔ l[k + 1]? = some 45) (hy : y = x + (if ng = true then -(nvL Q : Int) else (nvL Q : Int))) : shapeB l = true ∧ rawN l = N ∧ rawE l = y := by
  obtain ⟨a, b, c⟩ := hC.exp hq
  obtain ⟨f1, f2⟩ := exp_facts h1
  refine ⟨by rw [a, f1.2 h2, hA]; rfl, by rw [b, hN], ?_⟩
  rw [c, f2, head_at, hy]
  by_cases h : l[k + 1]? = some 45
  · rw [if_pos h, if_pos (h3.2 h)]; omega
  · rw [if_neg h, if_neg (fun e => h (h3.1 e))]; omega

set_option maxHeartbeats 6400000 in
theorem c_rRead05 {l : L8} (hl : l.length ≤ 120) : HasC Tryz.prog 7 [.v (.string (tx l))] (fun y => y = rdO l) := by
  refine HasC.of [] (fn := Tryz.f7) tyOk mixed (fun args w => Tryz.call7 args w) Tryz.func7 rfl (by kernel_rfl) (Nat.le_of_ble_eq_true rfl) (⟨_, rfl⟩) ?_
  have hs : (tx l).size = l.length := tx_size l
  have hle := ndg_le l
  refine vc_seqr rfl (iQ 3 (iE 160 [(0, .d (Sv (tx l))), (2, .p 2 0), (3, Ba false), (4, Ba false)] [(2, [Bv false, .sl 0 [], Iv 0])] ?_))
  refine vc_seqr rfl (iQ 1 (iC 25 [Sv (tx l), Iv 0] (some 18) (c_rrunE (l := l) (a := 0) (z := 0) rfl (by omega) (by omega)) ?_))
  rintro _ ⟨k0, rfl, hk0'⟩
  have hk0 : k0 = ndg l := by rw [hk0', List.drop_zero, Nat.zero_add]
  refine iQ 1 (iE 160 [(0, .d (Sv (tx l))), (2, .p 2 0), (3, Ba false), (4, Ba false), (5, Ia ((k0 : Int)))] [(2, [Bv false, .sl 0 [], Iv 0])] ?_)
  refine vc_seqr rfl (iQ 2 (iY 9 (tx l) (0) ((k0 : Int)) (some 21) ?_))
  refine And.intro (by omega) ?_
  intro s21 hs21
  have hl21 := sz_ext hs21 (by omega)
  have e21 : s21 = tx (l.take k0) := by rw [hs21]; exact take_tx rfl
  refine iQ 1 (iE 160 [(0, .d (Sv (tx l))), (2, .p 2 0), (3, Ba false), (4, Ba false), (5, Ia ((k0 : Int))), (6, .d (Sv s21))] [(2, [Bv false, .sl 0 [], Iv 0])] ?_)
  refine vc_seqr rfl (iQ 1 (iE 160 [(0, .d (Sv (tx l))), (2, .p 2 0), (3, Ba false), (4, Ba false), (5, Ia ((k0 : Int))), (6, .d (Sv s21)), (7, Ia 0)] [(2, [Bv false, .sl 0 [], Iv 0])] ?_))
  refine vc_mid 160 (fun (vcx : L8 × ByteArray × Int × Nat × Bool) => match vcx with | (A, s6, x, k, vb31) => [(0, .d (Sv (tx l))), (2, .p 2 0), (3, Ba false), (4, Ba false), (5, Ia ((k : Int))), (6, .d (Sv s6)), (7, Ia x), (31, Ba vb31)]) (fun (vcx : L8 × ByteArray × Int × Nat × Bool) => match vcx with | (A, s6, x, k, vb31) => [(2, [Bv false, .sl 0 [], Iv 0])]) (fun (vcx : L8 × ByteArray × Int × Nat × Bool) => match vcx with | (A, s6, x, k, vb31) => s6 = tx A ∧ Cont l A x k ∧ -120 ≤ x ∧ x ≤ 0) ?_ ?_
  · rintro ⟨A, s6, x, k, vb31⟩ hinv
    simp only at hinv
    obtain ⟨es, hC, hx0, hx1⟩ := hinv
    have hkl := hC.le
    have hAl := hC.len
    refine vc_seq (vc_seqr rfl (iQ 1 (iB .eql 9 (.string s6) (.string (⟨#[]⟩)) (some 54) ?_)))
    intro c54 hc54
    refine iE 160 [(0, .d (Sv (tx l))), (2, .p 2 0), (3, Ba false), (4, Ba false), (5, Ia ((k : Int))), (6, .d (Sv s6)), (7, Ia x), (31, Ba vb31), (54, Ba c54)] [(2, [Bv false, .sl 0 [], Iv 0])] ?_
    cases c54
    · replace hc54 := bf hc54
      have hA0 : A ≠ [] := fun h => hc54 (by rw [es, h]; rfl)
      have hAd : digsB A = true := digsB_iff.2 ⟨hA0, hC.dg⟩
      obtain ⟨N, hN⟩ : ∃ N, nvL A = N := ⟨_, rfl⟩
      have hNd : nd N ≤ 120 := by rw [← hN]; exact nd_le _ _ (nvL_lt hC.dg (by omega))
      refine iF (vc_skip (seq_n ?_))
      refine vc_mid 160 (fun (vcx : Int × Int × Bool) => match vcx with | (x2, k5, vb59) => [(0, .d (Sv (tx l))), (2, .p 2 0), (3, Ba false), (4, Ba false), (5, Ia k5), (6, .d (Sv s6)), (7, Ia x2), (31, Ba vb31), (54, Ba false), (59, Ba vb59)]) (fun (vcx : Int × Int × Bool) => match vcx with | (x2, k5, vb59) => [(2, [Bv false, .sl 0 [], Iv 0])]) (fun (vcx : Int × Int × Bool) => match vcx with | (x2, k5, vb59) => (shapeB l = true ∧ rawN l = N ∧ rawE l = x2) ∧ -2000000 ≤ x2 ∧ x2 ≤ 2000000) ?_ ?_
      · rintro ⟨x2, k5, vb59⟩ hinv
        simp only at hinv
        obtain ⟨⟨i1, i2, i3⟩, i4, i5⟩ := hinv
        refine vc_seqr rfl (iQ 1 (iC 26 [Sv s6] (some 130) (c_RRead8E es hN (by omega) hC.dg hA0) ?_))
        rintro _ rfl
        refine iQ 5 (iE 160 [(0, .d (Sv (tx l))), (2, .p 2 0), (3, Ba false), (4, Ba false), (5, Ia k5), (6, .d (Sv s6)), (7, Ia x2), (13, .d (.sl (nd (N)) (dg (digs (N))))), (31, Ba vb31), (54, Ba false), (59, Ba vb59)] [(2, [Bv false, .sl 0 [], Iv 0])] ?_)
        refine vc_seq (vc_seqr rfl (iQ 2 (iB .gtr 3 (.int .i64 (((nd (N) : Nat) : Int))) (.int .i64 0) (some 135) ?_)))
        intro c135 hc135
        refine iQ 1 ?_
        cases c135
        · replace hc135 := bf hc135
          refine iQ 6 (iE 160 [(0, .d (Sv (tx l))), (2, .p 2 0), (3, Ba false), (4, Ba false), (5, Ia k5), (6, .d (Sv s6)), (7, Ia x2), (13, .d (.sl (nd (N)) (dg (digs (N))))), (31, Ba vb31), (54, Ba false), (59, Ba vb59), (142, Ba false)] [(2, [Bv false, .sl 0 [], Iv 0])] ?_)
          refine iF (vc_skip (seq_n ?_))
          refine vc_mid 160 (fun (vcx : Int × Bool) => match vcx with | (x3, vb150) => [(0, .d (Sv (tx l))), (2, .p 2 0), (3, Ba false), (4, Ba false), (5, Ia k5), (6, .d (Sv s6)), (7, Ia x3), (13, .d (.sl (nd (N)) (dg (digs (N))))), (31, Ba vb31), (54, Ba false), (59, Ba vb59), (142, Ba false), (150, Ba vb150)]) (fun (vcx : Int × Bool) => match vcx with | (x3, vb150) => [(2, [Bv false, .sl 0 [], Iv 0])]) (fun (vcx : Int × Bool) => match vcx with | (x3, vb150) => fitU 1 false N x2 false = fitU 1 false N x3 false ∧ -70000 ≤ x3 ∧ x3 ≤ 1000000000000) ?_ ?_
          · rintro ⟨x3, vb150⟩ hinv
            simp only at hinv
            obtain ⟨j1, j2, j3⟩ := hinv
            refine vc_seqr rfl (iQ 3 (iC 27 [.agg [Bv false, .sl (nd (N)) (dg (digs (N))), Iv x3], Bv false, Iv 1] (some 155) (rfit_ex (c_rFit (m := 1) (neg := false) (more := false) (N := N) (e := x3) (by omega) j2 j3)) ?_))
            rintro _ ⟨g, k2, x4, ok, rfl, hT⟩
            refine iQ 6 (iE 160 [(0, .d (Sv (tx l))), (2, .p 2 0), (3, Ba false), (4, Ba false), (5, Ia k5), (6, .d (Sv s6)), (7, Ia x3), (13, .d (.sl (nd (N)) (dg (digs (N))))), (15, .p 15 0), (16, Ba ok), (31, Ba vb31), (54, Ba false), (59, Ba vb59), (142, Ba false), (150, Ba vb150)] [(2, [Bv false, .sl 0 [], Iv 0]), (15, [Bv g, .sl (nd (k2)) (dg (digs (k2))), Iv x4])] ?_)
            refine vc_seqr rfl (iQ 5 (iE 160 [(0, .d (Sv (tx l))), (2, .p 2 0), (3, Ba true), (4, Ba ok), (5, Ia k5), (6, .d (Sv s6)), (7, Ia x3), (13, .d (.sl (nd (N)) (dg (digs (N))))), (15, .p 15 0), (31, Ba vb31), (54, Ba false), (59, Ba vb59), (142, Ba false), (150, Ba vb150)] [(2, [Bv g, .sl (nd (k2)) (dg (digs (k2))), Iv x4]), (15, [Bv g, .sl (nd (k2)) (dg (digs (k2))), Iv x4])] ?_))
            refine vc_ret (iS (.agg [Bv g, .sl (nd (k2)) (dg (digs (k2))), Iv x4]) (Bv true) [Bv ok] ?_)
            exact (rdO_fit (g := g) (k := k2) (x := x4) (ok := ok) (y := x3) i1 (by rw [i2, i3]; exact j1) (by rw [i2]; exact hT)).symm
          intro hmid
          refine vc_seqr rfl (iQ 2 (iB .eql 3 (.int .i64 (((nd (N) : Nat) : Int))) (.int .i64 0) (some 146) ?_))
          intro c146 hc146
          refine iQ 1 ?_
          cases c146
          · replace hc146 := bf hc146
            refine iQ 3 (iE 160 [(0, .d (Sv (tx l))), (2, .p 2 0), (3, Ba false), (4, Ba false), (5, Ia k5), (6, .d (Sv s6)), (7, Ia x2), (13, .d (.sl (nd (N)) (dg (digs (N))))), (31, Ba vb31), (54, Ba false), (59, Ba vb59), (142, Ba false), (150, Ba false)] [(2, [Bv false, .sl 0 [], Iv 0])] ?_)
            refine iF (vc_skip ?_)
            refine mid_n hmid (x2, false) (⟨rfl, by omega, by omega⟩) (by kernel_rfl)
          · replace hc146 := bt hc146
            refine iQ 1 (iB .lss 3 (.int .i64 x2) (.int .i64 (-8000)) (some 149) ?_)
            have hN0 : N = 0 := nd_eq0.1 (by omega)
            intro c149 hc149
            refine iQ 1 (iE 160 [(0, .d (Sv (tx l))), (2, .p 2 0), (3, Ba false), (4, Ba false), (5, Ia k5), (6, .d (Sv s6)), (7, Ia x2), (13, .d (.sl (nd (N)) (dg (digs (N))))), (31, Ba vb31), (54, Ba false), (59, Ba vb59), (142, Ba false), (150, Ba c149)] [(2, [Bv false, .sl 0 [], Iv 0])] ?_)
            cases c149
            · replace hc149 := bf hc149
              refine iF (vc_skip ?_)
              refine mid_n hmid (x2, false) (⟨rfl, by omega, by omega⟩) (by kernel_rfl)
            · replace hc149 := bt hc149
              refine iT (vc_reg rfl (iQ 1 (iE 160 [(0, .d (Sv (tx l))), (2, .p 2 0), (3, Ba false), (4, Ba false), (5, Ia k5), (6, .d (Sv s6)), (7, Ia (-8000)), (13, .d (.sl (nd (N)) (dg (digs (N))))), (31, Ba vb31), (54, Ba false), (59, Ba vb59), (142, Ba false), (150, Ba true)] [(2, [Bv false, .sl 0 [], Iv 0])] ?_)))
              refine mid_n hmid (-8000, true) (⟨by rw [hN0]; exact fit_zero (.inr ⟨hc149, rfl⟩), by omega, by omega⟩) (by kernel_rfl)
        · replace hc135 := bt hc135
          refine iQ 3 (iB .add 3 (.int .i64 x2) (.int .i64 (((nd (N) : Nat) : Int))) (some 140) ?_)
          intro z140 hz140
          try replace hz140 := hz140.i64 (by omega)
          refine iB .lss 3 (.int .i64 z140) (.int .i64 (-8000)) (some 141) ?_
          intro c141 hc141
          refine iQ 1 (iE 160 [(0, .d (Sv (tx l))), (2, .p 2 0), (3, Ba false), (4, Ba false), (5, Ia k5), (6, .d (Sv s6)), (7, Ia x2), (13, .d (.sl (nd (N)) (dg (digs (N))))), (31, Ba vb31), (54, Ba false), (59, Ba vb59), (142, Ba c141)] [(2, [Bv false, .sl 0 [], Iv 0])] ?_)
          cases c141
          · replace hc141 := bf hc141
            refine iF (vc_skip (seq_n ?_))
            refine vc_mid 160 (fun (vcx : Int × Bool) => match vcx with | (x3, vb150) => [(0, .d (Sv (tx l))), (2, .p 2 0), (3, Ba false), (4, Ba false), (5, Ia k5), (6, .d (Sv s6)), (7, Ia x3), (13, .d (.sl (nd (N)) (dg (digs (N))))), (31, Ba vb31), (54, Ba false), (59, Ba vb59), (142, Ba false), (150, Ba vb150)]) (fun (vcx : Int × Bool) => match vcx with | (x3, vb150) => [(2, [Bv false, .sl 0 [], Iv 0])]) (fun (vcx : Int × Bool) => match vcx with | (x3, vb150) => fitU 1 false N x2 false = fitU 1 false N x3 false ∧ -70000 ≤ x3 ∧ x3 ≤ 1000000000000) ?_ ?_
            · rintro ⟨x3, vb150⟩ hinv
              simp only at hinv
              obtain ⟨j1, j2, j3⟩ := hinv
              refine vc_seqr rfl (iQ 3 (iC 27 [.agg [Bv false, .sl (nd (N)) (dg (digs (N))), Iv x3], Bv false, Iv 1] (some 155) (rfit_ex (c_rFit (m := 1) (neg := false) (more := false) (N := N) (e := x3) (by omega) j2 j3)) ?_))
              rintro _ ⟨g, k2, x4, ok, rfl, hT⟩
              refine iQ 6 (iE 160 [(0, .d (Sv (tx l))), (2, .p 2 0), (3, Ba false), (4, Ba false), (5, Ia k5), (6, .d (Sv s6)), (7, Ia x3), (13, .d (.sl (nd (N)) (dg (digs (N))))), (15, .p 15 0), (16, Ba ok), (31, Ba vb31), (54, Ba false), (59, Ba vb59), (142, Ba false), (150, Ba vb150)] [(2, [Bv false, .sl 0 [], Iv 0]), (15, [Bv g, .sl (nd (k2)) (dg (digs (k2))), Iv x4])] ?_)
              refine vc_seqr rfl (iQ 5 (iE 160 [(0, .d (Sv (tx l))), (2, .p 2 0), (3, Ba true), (4, Ba ok), (5, Ia k5), (6, .d (Sv s6)), (7, Ia x3), (13, .d (.sl (nd (N)) (dg (digs (N))))), (15, .p 15 0), (31, Ba vb31), (54, Ba false), (59, Ba vb59), (142, Ba false), (150, Ba vb150)] [(2, [Bv g, .sl (nd (k2)) (dg (digs (k2))), Iv x4]), (15, [Bv g, .sl (nd (k2)) (dg (digs (k2))), Iv x4])] ?_))
              refine vc_ret (iS (.agg [Bv g, .sl (nd (k2)) (dg (digs (k2))), Iv x4]) (Bv true) [Bv ok] ?_)
              exact (rdO_fit (g := g) (k := k2) (x := x4) (ok := ok) (y := x3) i1 (by rw [i2, i3]; exact j1) (by rw [i2]; exact hT)).symm
            intro hmid
            refine vc_seqr rfl (iQ 2 (iB .eql 3 (.int .i64 (((nd (N) : Nat) : Int))) (.int .i64 0) (some 146) ?_))
            intro c146 hc146
            refine iQ 1 ?_
            cases c146
            · replace hc146 := bf hc146
              refine iQ 3 (iE 160 [(0, .d (Sv (tx l))), (2, .p 2 0), (3, Ba false), (4, Ba false), (5, Ia k5), (6, .d (Sv s6)), (7, Ia x2), (13, .d (.sl (nd (N)) (dg (digs (N))))), (31, Ba vb31), (54, Ba false), (59, Ba vb59), (142, Ba false), (150, Ba false)] [(2, [Bv false, .sl 0 [], Iv 0])] ?_)
              refine iF (vc_skip ?_)
              refine mid_n hmid (x2, false) (⟨rfl, by omega, by omega⟩) (by kernel_rfl)
            · replace hc146 := bt hc146
              refine iQ 1 (iB .lss 3 (.int .i64 x2) (.int .i64 (-8000)) (some 149) ?_)
              have hN0 : N = 0 := nd_eq0.1 (by omega)
              intro c149 hc149
              refine iQ 1 (iE 160 [(0, .d (Sv (tx l))), (2, .p 2 0), (3, Ba false), (4, Ba false), (5, Ia k5), (6, .d (Sv s6)), (7, Ia x2), (13, .d (.sl (nd (N)) (dg (digs (N))))), (31, Ba vb31), (54, Ba false), (59, Ba vb59), (142, Ba false), (150, Ba c149)] [(2, [Bv false, .sl 0 [], Iv 0])] ?_)
              cases c149
              · replace hc149 := bf hc149
                refine iF (vc_skip ?_)
                refine mid_n hmid (x2, false) (⟨rfl, by omega, by omega⟩) (by kernel_rfl)
              · replace hc149 := bt hc149
                refine iT (vc_reg rfl (iQ 1 (iE 160 [(0, .d (Sv (tx l))), (2, .p 2 0), (3, Ba false), (4, Ba false), (5, Ia k5), (6, .d (Sv s6)), (7, Ia (-8000)), (13, .d (.sl (nd (N)) (dg (digs (N))))), (31, Ba vb31), (54, Ba false), (59, Ba vb59), (142, Ba false), (150, Ba true)] [(2, [Bv false, .sl 0 [], Iv 0])] ?_)))
                refine mid_n hmid (-8000, true) (⟨by rw [hN0]; exact fit_zero (.inr ⟨hc149, rfl⟩), by omega, by omega⟩) (by kernel_rfl)
          · replace hc141 := bt hc141
            refine iT (vc_seqr rfl (iQ 4 (iE 160 [(0, .d (Sv (tx l))), (2, .p 2 0), (3, Ba true), (4, Ba true), (5, Ia k5), (6, .d (Sv s6)), (7, Ia x2), (13, .d (.sl (nd (N)) (dg (digs (N))))), (31, Ba vb31), (54, Ba false), (59, Ba vb59), (142, Ba true)] [(2, [Bv false, .sl 0 [], Iv (-6176)])] ?_)))
            refine vc_ret (seq_r (iS (.agg [Bv false, .sl 0 [], Iv (-6176)]) (Bv true) [Bv true] ?_))
            rw [rdO_tiny i1 (by rw [i2, i3]; omega)]
      intro hmid
      refine vc_seqr rfl (iQ 2 (iL .len [9] [.string (tx l)] (some 58) ?_))
      intro n58 hn58
      refine iB .lss 3 (.int .i64 ((k : Int))) (.int .i64 ((n58 : Nat))) (some 59) ?_
      intro c59 hc59
      refine iE 160 [(0, .d (Sv (tx l))), (2, .p 2 0), (3, Ba false), (4, Ba false), (5, Ia ((k : Int))), (6, .d (Sv s6)), (7, Ia x), (31, Ba vb31), (54, Ba false), (59, Ba c59)] [(2, [Bv false, .sl 0 [], Iv 0])] ?_
      cases c59
      · replace hc59 := bf hc59
        have hf := hC.fin (by omega)
        refine iF (vc_skip ?_)
        refine mid_n hmid (x, (k : Int), false) (⟨⟨hf.1.trans hAd, hf.2.1.trans hN, hf.2.2⟩, by omega, by omega⟩) (by kernel_rfl)
      · replace hc59 := bt hc59
        obtain ⟨q, hq1, hq2⟩ := strAt_get (show k < l.length by omega)
        refine iT (vc_seq (vc_seqr rfl (iQ 2 (iX 9 (.string (tx l)) (.int .i64 ((k : Int))) (some 62) ?_))))
        refine And.intro (by omega) ?_
        intro z62 hz62
        have e62 : z62 = (q.toNat : Int) := by rw [hz62]; exact hq2
        refine iB .neq 5 (.int .u8 z62) (.int .u8 69) (some 63) ?_
        intro c63 hc63
        refine iE 160 [(0, .d (Sv (tx l))), (2, .p 2 0), (3, Ba false), (4, Ba false), (5, Ia ((k : Int))), (6, .d (Sv s6)), (7, Ia x), (31, Ba vb31), (54, Ba false), (59, Ba true), (63, Ba c63)] [(2, [Bv false, .sl 0 [], Iv 0])] ?_
        cases c63
        · replace hc63 := bf hc63
          have hq69 : q = 69 := at_nat (n := 69) (by omega) (by decide)
          rw [hq69] at hq1
          refine iF (vc_skip (seq_n (vc_seqr rfl (iQ 1 (iB .add 3 (.int .i64 ((k : Int))) (.int .i64 1) (some 66) ?_)))))
          intro z66 hz66
          try replace hz66 := hz66.i64 (by omega)
          refine iQ 1 (iE 160 [(0, .d (Sv (tx l))), (2, .p 2 0), (3, Ba false), (4, Ba false), (5, Ia z66), (6, .d (Sv s6)), (7, Ia x), (31, Ba vb31), (54, Ba false), (59, Ba true), (63, Ba false)] [(2, [Bv false, .sl 0 [], Iv 0])] ?_)
          refine vc_seqr rfl (iQ 1 (iE 160 [(0, .d (Sv (tx l))), (2, .p 2 0), (3, Ba false), (4, Ba false), (5, Ia z66), (6, .d (Sv s6)), (7, Ia x), (9, Ba false), (31, Ba vb31), (54, Ba false), (59, Ba true), (63, Ba false)] [(2, [Bv false, .sl 0 [], Iv 0])] ?_))
          refine vc_mid 160 (fun (vcx : Bool × Int × Bool) => match vcx with | (neg, mz, vb82) => [(0, .d (Sv (tx l))), (2, .p 2 0), (3, Ba false), (4, Ba false), (5, Ia mz), (6, .d (Sv s6)), (7, Ia x), (9, Ba neg), (31, Ba vb31), (54, Ba false), (59, Ba true), (63, Ba false), (82, Ba vb82)]) (fun (vcx : Bool × Int × Bool) => match vcx with | (neg, mz, vb82) => [(2, [Bv false, .sl 0 [], Iv 0])]) (fun (vcx : Bool × Int × Bool) => match vcx with | (neg, mz, vb82) => ∃ m : Nat, mz = (m : Int) ∧ signP (l.drop (k + 1)) = l.drop m ∧ m ≤ l.length ∧ (neg = true ↔ l[k + 1]? = some 45)) ?_ ?_
          · rintro ⟨neg, mz, vb82⟩ hinv
            simp only at hinv
            obtain ⟨m, hm, h1, h2, h3⟩ := hinv
            refine vc_seqr rfl (iQ 2 (iC 25 [Sv (tx l), Iv mz] (some 91) (c_rrunE (l := l) (a := m) (z := mz) hm (by omega) h2) ?_))
            rintro _ ⟨e, rfl, he⟩
            obtain ⟨Q, hQ⟩ : ∃ Q, l.drop m = Q := ⟨_, rfl⟩
            have hQl : Q.length = l.length - m := by rw [← hQ, List.length_drop]
            rw [hQ] at h1 he
            have hQd := ndg_le Q
            refine iQ 1 (iE 160 [(0, .d (Sv (tx l))), (2, .p 2 0), (3, Ba false), (4, Ba false), (5, Ia mz), (6, .d (Sv s6)), (7, Ia x), (9, Ba neg), (10, Ia ((e : Int))), (31, Ba vb31), (54, Ba false), (59, Ba true), (63, Ba false), (82, Ba vb82)] [(2, [Bv false, .sl 0 [], Iv 0])] ?_)
            refine vc_seq (vc_seqr rfl (iQ 2 (iL .len [9] [.string (tx l)] (some 94) ?_)))
            intro n94 hn94
            refine iB .neq 3 (.int .i64 ((e : Int))) (.int .i64 ((n94 : Nat))) (some 95) ?_
            intro c95 hc95
            refine iQ 1 ?_
            cases c95
            · replace hc95 := bf hc95
              refine iQ 2 (iB .eql 3 (.int .i64 ((e : Int))) (.int .i64 mz) (some 99) ?_)
              intro c99 hc99
              refine iQ 2 ?_
              cases c99
              · replace hc99 := bf hc99
                refine iQ 2 (iB .sub 3 (.int .i64 ((e : Int))) (.int .i64 mz) (some 104) ?_)
                intro z104 hz104
                try replace hz104 := hz104.i64 (by omega)
                refine iB .gtr 3 (.int .i64 z104) (.int .i64 6) (some 105) ?_
                intro c105 hc105
                refine iQ 1 (iE 160 [(0, .d (Sv (tx l))), (2, .p 2 0), (3, Ba false), (4, Ba false), (5, Ia mz), (6, .d (Sv s6)), (7, Ia x), (9, Ba neg), (10, Ia ((e : Int))), (31, Ba vb31), (54, Ba false), (59, Ba true), (63, Ba false), (82, Ba vb82), (106, Ba c105)] [(2, [Bv false, .sl 0 [], Iv 0])] ?_)
                cases c105
                · replace hc105 := bf hc105
                  have hQ2 : ndg Q = Q.length ∧ Q ≠ [] ∧ Q.length ≤ 6 := ⟨by omega, fun h => by rw [h] at hQl; simp at hQl; omega, by omega⟩
                  have hQa : Q.all isDg = true := signP_all hQ2.1 rfl
                  refine iF (vc_skip (seq_n (vc_seqr rfl (iQ 1 (iE 160 [(0, .d (Sv (tx l))), (2, .p 2 0), (3, Ba false), (4, Ba false), (5, Ia mz), (6, .d (Sv s6)), (7, Ia x), (9, Ba neg), (10, Ia ((e : Int))), (11, Ia 0), (31, Ba vb31), (54, Ba false), (59, Ba true), (63, Ba false), (82, Ba vb82), (106, Ba false)] [(2, [Bv false, .sl 0 [], Iv 0])] ?_)))))
                  refine vc_seq (vc_seqr rfl (iQ 2 (iE 160 [(0, .d (Sv (tx l))), (2, .p 2 0), (3, Ba false), (4, Ba false), (5, Ia mz), (6, .d (Sv s6)), (7, Ia x), (9, Ba neg), (10, Ia ((e : Int))), (11, Ia 0), (12, Ia mz), (31, Ba vb31), (54, Ba false), (59, Ba true), (63, Ba false), (82, Ba vb82), (106, Ba false)] [(2, [Bv false, .sl 0 [], Iv 0])] ?_)))
                  refine vc_block (vc_loop 160 (fun (vcx : Nat × Int × Int) => match vcx with | (j, v, i) => [(0, .d (Sv (tx l))), (2, .p 2 0), (3, Ba false), (4, Ba false), (5, Ia mz), (6, .d (Sv s6)), (7, Ia x), (9, Ba neg), (10, Ia ((e : Int))), (11, Ia v), (12, Ia i), (31, Ba vb31), (54, Ba false), (59, Ba true), (63, Ba false), (82, Ba vb82), (106, Ba false)]) (fun (vcx : Nat × Int × Int) => match vcx with | (j, v, i) => [(2, [Bv false, .sl 0 [], Iv 0])]) (fun (vcx : Nat × Int × Int) => match vcx with | (j, v, i) => i = (m + j : Nat) ∧ j ≤ Q.length ∧ v = nvL (Q.take j)) (fun (vcx : Nat × Int × Int) => match vcx with | (j, v, i) => Q.length - j) ((0, 0, mz)) (⟨by omega, by omega, rfl⟩) (by kernel_rfl) (by kernel_rfl) ?_)
                  rintro ⟨j, v, i⟩ hinv
                  simp only at hinv
                  obtain ⟨g1, g2, g3⟩ := hinv
                  have hta : (Q.take j).all isDg = true := take_all (by omega)
                  have hvb : nvL (Q.take j) < 10 ^ 6 := nvL_lt hta (by rw [List.length_take]; omega)
                  have hvb' : nvL (Q.take j) < 1000000 := hvb
                  refine vc_seq (vc_seqr rfl (iQ 2 (iB .lss 3 (.int .i64 i) (.int .i64 ((e : Int))) (some 111) ?_)))
                  intro c111 hc111
                  refine iE 160 [(0, .d (Sv (tx l))), (2, .p 2 0), (3, Ba false), (4, Ba false), (5, Ia mz), (6, .d (Sv s6)), (7, Ia x), (9, Ba neg), (10, Ia ((e : Int))), (11, Ia v), (12, Ia i), (31, Ba vb31), (54, Ba false), (59, Ba true), (63, Ba false), (82, Ba vb82), (106, Ba false), (111, Ba c111)] [(2, [Bv false, .sl 0 [], Iv 0])] ?_
                  cases c111
                  · replace hc111 := bf hc111
                    have hj : j = Q.length := by omega
                    have hv : v = nvL Q := by rw [g3, hj, List.take_length]
                    refine iF (vc_exit (seq_x (loop_x (block_x rfl (seq_n (vc_seq (vc_seqr rfl (iQ 1 (iE 160 [(0, .d (Sv (tx l))), (2, .p 2 0), (3, Ba false), (4, Ba false), (5, Ia mz), (6, .d (Sv s6)), (7, Ia x), (10, Ia ((e : Int))), (11, Ia v), (12, Ia i), (31, Ba vb31), (54, Ba false), (59, Ba true), (63, Ba false), (82, Ba vb82), (106, Ba false), (111, Ba false), (122, Ba neg)] [(2, [Bv false, .sl 0 [], Iv 0])] ?_)))))))))
                    cases neg
                    · skip
                      refine iF (vc_skip (seq_n (vc_reg rfl (iQ 2 (iB .add 3 (.int .i64 x) (.int .i64 v) (some 127) ?_)))))
                      intro z127 hz127
                      try replace hz127 := hz127.i64 (by omega)
                      refine iQ 1 (iE 160 [(0, .d (Sv (tx l))), (2, .p 2 0), (3, Ba false), (4, Ba false), (5, Ia mz), (6, .d (Sv s6)), (7, Ia z127), (31, Ba vb31), (54, Ba false), (59, Ba true)] [(2, [Bv false, .sl 0 [], Iv 0])] ?_)
                      refine mid_n hmid (z127, mz, true) (⟨end_E (ng := false) hC hq1 hAd hN h1 hQ2 h3 (by simp only [Bool.false_eq_true, if_false]; omega), by omega, by omega⟩) (by kernel_rfl)
                    · skip
                      refine iT (vc_reg rfl (iQ 1 (iU .neg (.int .i64 v) (some 124) ?_)))
                      intro z124 hz124
                      try replace hz124 := hz124.i64 (by omega)
                      refine iQ 1 (iE 160 [(0, .d (Sv (tx l))), (2, .p 2 0), (3, Ba false), (4, Ba false), (5, Ia mz), (6, .d (Sv s6)), (7, Ia x), (10, Ia ((e : Int))), (11, Ia z124), (12, Ia i), (31, Ba vb31), (54, Ba false), (59, Ba true), (63, Ba false), (82, Ba vb82), (106, Ba false), (111, Ba false), (122, Ba true)] [(2, [Bv false, .sl 0 [], Iv 0])] ?_)
                      refine seq_n (vc_reg rfl (iQ 2 (iB .add 3 (.int .i64 x) (.int .i64 z124) (some 127) ?_)))
                      intro z127 hz127
                      try replace hz127 := hz127.i64 (by omega)
                      refine iQ 1 (iE 160 [(0, .d (Sv (tx l))), (2, .p 2 0), (3, Ba false), (4, Ba false), (5, Ia mz), (6, .d (Sv s6)), (7, Ia z127), (31, Ba vb31), (54, Ba false), (59, Ba true)] [(2, [Bv false, .sl 0 [], Iv 0])] ?_)
                      refine mid_n hmid (z127, mz, true) (⟨end_E (ng := true) hC hq1 hAd hN h1 hQ2 h3 (by simp only [if_true]; omega), by omega, by omega⟩) (by kernel_rfl)
                  · replace hc111 := bt hc111
                    have hjl : j < Q.length := by omega
                    obtain ⟨r, hr1, hr2, hr3, hr4⟩ := at_dg hQa hjl
                    have hr5 : strAt (tx l) (m + j) = (r.toNat : Int) := by rw [← hr2, tx_at, tx_at, ← hQ, List.getElem?_drop]
                    refine iT (vc_skip (seq_n (vc_seq (vc_block (vc_reg rfl (iQ 1 (iB .mul 3 (.int .i64 10) (.int .i64 v) (some 115) ?_)))))))
                    intro z115 hz115
                    try replace hz115 := hz115.i64 (by omega)
                    refine iQ 2 (iX 9 (.string (tx l)) (.int .i64 i) (some 118) ?_)
                    refine And.intro (by omega) ?_
                    intro z118 hz118
                    have e118 : z118 = (r.toNat : Int) := by rw [hz118, show i.toNat = m + j by omega]; exact hr5
                    refine iB .sub 5 (.int .u8 z118) (.int .u8 48) (some 119) ?_
                    intro z119 hz119
                    try replace hz119 := hz119.u8 (by omega)
                    refine iV 5 3 (.int .u8 z119) (some 120) ?_
                    intro z120 hz120
                    try replace hz120 := hz120.i64 (by omega)
                    refine iB .add 3 (.int .i64 z115) (.int .i64 z120) (some 121) ?_
                    intro z121 hz121
                    try replace hz121 := hz121.i64 (by omega)
                    refine iQ 1 (iE 160 [(0, .d (Sv (tx l))), (2, .p 2 0), (3, Ba false), (4, Ba false), (5, Ia mz), (6, .d (Sv s6)), (7, Ia x), (9, Ba neg), (10, Ia ((e : Int))), (11, Ia z121), (12, Ia i), (31, Ba vb31), (54, Ba false), (59, Ba true), (63, Ba false), (82, Ba vb82), (106, Ba false), (111, Ba true)] [(2, [Bv false, .sl 0 [], Iv 0])] ?_)
                    refine block_n (seq_n (vc_reg rfl (iQ 1 (iB .add 3 (.int .i64 i) (.int .i64 1) (some 113) ?_))))
                    intro z113 hz113
                    try replace hz113 := hz113.i64 (by omega)
                    refine iQ 1 (iE 160 [(0, .d (Sv (tx l))), (2, .p 2 0), (3, Ba false), (4, Ba false), (5, Ia mz), (6, .d (Sv s6)), (7, Ia x), (9, Ba neg), (10, Ia ((e : Int))), (11, Ia z121), (12, Ia z113), (31, Ba vb31), (54, Ba false), (59, Ba true), (63, Ba false), (82, Ba vb82), (106, Ba false), (111, Ba true)] [(2, [Bv false, .sl 0 [], Iv 0])] ?_)
                    refine loop_n (j + 1, z121, z113) (⟨by omega, by omega, by rw [nvL_take hr1]; omega⟩) (by show Q.length - (j + 1) < Q.length - j; omega) (by kernel_rfl) (by kernel_rfl)
                · replace hc105 := bt hc105
                  refine iT (vc_seqr rfl (iQ 4 (iE 160 [(0, .d (Sv (tx l))), (2, .p 2 0), (3, Ba false), (4, Ba false), (5, Ia mz), (6, .d (Sv s6)), (7, Ia x), (9, Ba neg), (10, Ia ((e : Int))), (31, Ba vb31), (54, Ba false), (59, Ba true), (63, Ba false), (82, Ba vb82), (106, Ba true)] [(2, [Bv false, .sl 0 [], Iv 0])] ?_)))
                  refine vc_ret (seq_r (seq_r (iS (.agg [Bv false, .sl 0 [], Iv 0]) (Bv false) [Bv false] ?_)))
                  rw [rdO_no (cont_noE hC hq1 (expOK_no h1 (fun h => by have := h.2.2; omega)))]
              · replace hc99 := bt hc99
                refine iQ 5 (iE 160 [(0, .d (Sv (tx l))), (2, .p 2 0), (3, Ba false), (4, Ba false), (5, Ia mz), (6, .d (Sv s6)), (7, Ia x), (9, Ba neg), (10, Ia ((e : Int))), (31, Ba vb31), (54, Ba false), (59, Ba true), (63, Ba false), (82, Ba vb82), (106, Ba true)] [(2, [Bv false, .sl 0 [], Iv 0])] ?_)
                refine iT (vc_seqr rfl (iQ 4 (iE 160 [(0, .d (Sv (tx l))), (2, .p 2 0), (3, Ba false), (4, Ba false), (5, Ia mz), (6, .d (Sv s6)), (7, Ia x), (9, Ba neg), (10, Ia ((e : Int))), (31, Ba vb31), (54, Ba false), (59, Ba true), (63, Ba false), (82, Ba vb82), (106, Ba true)] [(2, [Bv false, .sl 0 [], Iv 0])] ?_)))
                refine vc_ret (seq_r (seq_r (iS (.agg [Bv false, .sl 0 [], Iv 0]) (Bv false) [Bv false] ?_)))
                rw [rdO_no (cont_noE hC hq1 (expOK_no h1 (fun h => by have := List.length_pos_iff.2 h.2.1; omega)))]
            · replace hc95 := bt hc95
              refine iQ 10 (iE 160 [(0, .d (Sv (tx l))), (2, .p 2 0), (3, Ba false), (4, Ba false), (5, Ia mz), (6, .d (Sv s6)), (7, Ia x), (9, Ba neg), (10, Ia ((e : Int))), (31, Ba vb31), (54, Ba false), (59, Ba true), (63, Ba false), (82, Ba vb82), (106, Ba true)] [(2, [Bv false, .sl 0 [], Iv 0])] ?_)
              refine iT (vc_seqr rfl (iQ 4 (iE 160 [(0, .d (Sv (tx l))), (2, .p 2 0), (3, Ba false), (4, Ba false), (5, Ia mz), (6, .d (Sv s6)), (7, Ia x), (9, Ba neg), (10, Ia ((e : Int))), (31, Ba vb31), (54, Ba false), (59, Ba true), (63, Ba false), (82, Ba vb82), (106, Ba true)] [(2, [Bv false, .sl 0 [], Iv 0])] ?_)))
              refine vc_ret (seq_r (seq_r (iS (.agg [Bv false, .sl 0 [], Iv 0]) (Bv false) [Bv false] ?_)))
              rw [rdO_no (cont_noE hC hq1 (expOK_no h1 (fun h => hc95 (by have := h.1; omega))))]
          intro hmid_2
          refine vc_seqr rfl (iQ 2 (iL .len [9] [.string (tx l)] (some 69) ?_))
          intro n69 hn69
          refine iB .lss 3 (.int .i64 z66) (.int .i64 ((n69 : Nat))) (some 70) ?_
          intro c70 hc70
          refine iQ 1 ?_
          cases c70
          · replace hc70 := bf hc70
            refine iQ 11 (iE 160 [(0, .d (Sv (tx l))), (2, .p 2 0), (3, Ba false), (4, Ba false), (5, Ia z66), (6, .d (Sv s6)), (7, Ia x), (9, Ba false), (31, Ba vb31), (54, Ba false), (59, Ba true), (63, Ba false), (82, Ba false)] [(2, [Bv false, .sl 0 [], Iv 0])] ?_)
            refine iF (vc_skip ?_)
            refine mid_n hmid_2 (false, z66, false) (⟨k + 1, by omega, sgn_nil (by omega), by omega, by simp [List.getElem?_eq_none (show l.length ≤ k + 1 by omega)]⟩) (by kernel_rfl)
          · replace hc70 := bt hc70
            refine iQ 2 (iX 9 (.string (tx l)) (.int .i64 z66) (some 74) ?_)
            obtain ⟨r, hr1, hr2⟩ := strAt_get (show k + 1 < l.length by omega)
            refine And.intro (by omega) ?_
            intro z74 hz74
            have e74 : z74 = (r.toNat : Int) := by rw [hz74, show z66.toNat = k + 1 by omega]; exact hr2
            refine iB .eql 5 (.int .u8 z74) (.int .u8 43) (some 75) ?_
            intro c75 hc75
            refine iQ 1 ?_
            cases c75
            · replace hc75 := bf hc75
              refine iQ 2 (iX 9 (.string (tx l)) (.int .i64 z66) (some 79) ?_)
              refine And.intro (by omega) ?_
              intro z79 hz79
              have e79 : z79 = (r.toNat : Int) := by rw [hz79, show z66.toNat = k + 1 by omega]; exact hr2
              refine iB .eql 5 (.int .u8 z79) (.int .u8 45) (some 80) ?_
              intro c80 hc80
              refine iQ 2 (iE 160 [(0, .d (Sv (tx l))), (2, .p 2 0), (3, Ba false), (4, Ba false), (5, Ia z66), (6, .d (Sv s6)), (7, Ia x), (9, Ba false), (31, Ba vb31), (54, Ba false), (59, Ba true), (63, Ba false), (82, Ba c80)] [(2, [Bv false, .sl 0 [], Iv 0])] ?_)
              cases c80
              · replace hc80 := bf hc80
                have hn45 : r ≠ 45 := fun e => by rw [e] at e79; exact hc80 (by rw [e79]; rfl)
                have hn43 : r ≠ 43 := fun e => by rw [e] at e74; exact hc75 (by rw [e74]; rfl)
                refine iF (vc_skip ?_)
                refine mid_n hmid_2 (false, z66, false) (⟨k + 1, by omega, sgn_not hr1 hn45 hn43, by omega, by rw [hr1]; simp [hn45]⟩) (by kernel_rfl)
              · replace hc80 := bt hc80
                have hr45 : r = 45 := at_nat (n := 45) (by omega) (by decide)
                refine iT (vc_seqr rfl (iQ 2 (iX 9 (.string (tx l)) (.int .i64 z66) (some 85) ?_)))
                refine And.intro (by omega) ?_
                intro z85 hz85
                have e85 : z85 = (r.toNat : Int) := by rw [hz85, show z66.toNat = k + 1 by omega]; exact hr2
                refine iB .eql 5 (.int .u8 z85) (.int .u8 45) (some 86) ?_
                refine all_true ((by omega)) ?_
                refine iQ 1 (iE 160 [(0, .d (Sv (tx l))), (2, .p 2 0), (3, Ba false), (4, Ba false), (5, Ia z66), (6, .d (Sv s6)), (7, Ia x), (9, Ba true), (31, Ba vb31), (54, Ba false), (59, Ba true), (63, Ba false), (82, Ba true)] [(2, [Bv false, .sl 0 [], Iv 0])] ?_)
                refine vc_reg rfl (iQ 1 (iB .add 3 (.int .i64 z66) (.int .i64 1) (some 88) ?_))
                intro z88 hz88
                try replace hz88 := hz88.i64 (by omega)
                refine iQ 1 (iE 160 [(0, .d (Sv (tx l))), (2, .p 2 0), (3, Ba false), (4, Ba false), (5, Ia z88), (6, .d (Sv s6)), (7, Ia x), (9, Ba true), (31, Ba vb31), (54, Ba false), (59, Ba true), (63, Ba false), (82, Ba true)] [(2, [Bv false, .sl 0 [], Iv 0])] ?_)
                refine mid_n hmid_2 (true, z88, true) (⟨k + 1 + 1, by omega, sgn_is hr1 (.inl hr45), by omega, by rw [hr1, hr45]; simp⟩) (by kernel_rfl)
            · replace hc75 := bt hc75
              refine iQ 6 (iE 160 [(0, .d (Sv (tx l))), (2, .p 2 0), (3, Ba false), (4, Ba false), (5, Ia z66), (6, .d (Sv s6)), (7, Ia x), (9, Ba false), (31, Ba vb31), (54, Ba false), (59, Ba true), (63, Ba false), (82, Ba true)] [(2, [Bv false, .sl 0 [], Iv 0])] ?_)
              have hr43 : r = 43 := at_nat (n := 43) (by omega) (by decide)
              refine iT (vc_seqr rfl (iQ 2 (iX 9 (.string (tx l)) (.int .i64 z66) (some 85) ?_)))
              refine And.intro (by omega) ?_
              intro z85 hz85
              have e85 : z85 = (r.toNat : Int) := by rw [hz85, show z66.toNat = k + 1 by omega]; exact hr2
              refine iB .eql 5 (.int .u8 z85) (.int .u8 45) (some 86) ?_
              refine all_false ((by omega)) ?_
              refine iQ 1 (iE 160 [(0, .d (Sv (tx l))), (2, .p 2 0), (3, Ba false), (4, Ba false), (5, Ia z66), (6, .d (Sv s6)), (7, Ia x), (9, Ba false), (31, Ba vb31), (54, Ba false), (59, Ba true), (63, Ba false), (82, Ba true)] [(2, [Bv false, .sl 0 [], Iv 0])] ?_)
              refine vc_reg rfl (iQ 1 (iB .add 3 (.int .i64 z66) (.int .i64 1) (some 88) ?_))
              intro z88 hz88
              try replace hz88 := hz88.i64 (by omega)
              refine iQ 1 (iE 160 [(0, .d (Sv (tx l))), (2, .p 2 0), (3, Ba false), (4, Ba false), (5, Ia z88), (6, .d (Sv s6)), (7, Ia x), (9, Ba false), (31, Ba vb31), (54, Ba false), (59, Ba true), (63, Ba false), (82, Ba true)] [(2, [Bv false, .sl 0 [], Iv 0])] ?_)
              refine mid_n hmid_2 (false, z88, true) (⟨k + 1 + 1, by omega, sgn_is hr1 (.inr hr43), by omega, by rw [hr1, hr43]; simp⟩) (by kernel_rfl)
        · replace hc63 := bt hc63
          refine iT (vc_seqr rfl (iQ 4 (iE 160 [(0, .d (Sv (tx l))), (2, .p 2 0), (3, Ba false), (4, Ba false), (5, Ia ((k : Int))), (6, .d (Sv s6)), (7, Ia x), (31, Ba vb31), (54, Ba false), (59, Ba true), (63, Ba true)] [(2, [Bv false, .sl 0 [], Iv 0])] ?_)))
          refine vc_ret (seq_r (seq_r (iS (.agg [Bv false, .sl 0 [], Iv 0]) (Bv false) [Bv false] ?_)))
          rw [rdO_no (hC.bad q hq1 (fun e => by subst e; exact hc63 (by rw [e62]; rfl)))]
    · replace hc54 := bt hc54
      refine iT (vc_seqr rfl (iQ 4 (iE 160 [(0, .d (Sv (tx l))), (2, .p 2 0), (3, Ba false), (4, Ba false), (5, Ia ((k : Int))), (6, .d (Sv s6)), (7, Ia x), (31, Ba vb31), (54, Ba true)] [(2, [Bv false, .sl 0 [], Iv 0])] ?_)))
      refine vc_ret (seq_r (iS (.agg [Bv false, .sl 0 [], Iv 0]) (Bv false) [Bv false] ?_))
      rw [rdO_no (hC.nil ((bempty A).1 (es.symm.trans hc54)))]
  intro hmid
  refine vc_seqr rfl (iQ 2 (iL .len [9] [.string (tx l)] (some 24) ?_))
  intro n24 hn24
  refine iB .lss 3 (.int .i64 ((k0 : Int))) (.int .i64 ((n24 : Nat))) (some 25) ?_
  intro c25 hc25
  refine iQ 1 ?_
  cases c25
  · replace hc25 := bf hc25
    refine iQ 5 (iE 160 [(0, .d (Sv (tx l))), (2, .p 2 0), (3, Ba false), (4, Ba false), (5, Ia ((k0 : Int))), (6, .d (Sv s21)), (7, Ia 0), (31, Ba false)] [(2, [Bv false, .sl 0 [], Iv 0])] ?_)
    refine iF (vc_skip ?_)
    refine mid_n hmid (l.take k0, s21, 0, k0, false) (⟨e21, cont_plain' hk0 (none_46 (by omega)), by omega, by omega⟩) (by kernel_rfl)
  · replace hc25 := bt hc25
    refine iQ 2 (iX 9 (.string (tx l)) (.int .i64 ((k0 : Int))) (some 29) ?_)
    obtain ⟨q, hq1, hq2⟩ := strAt_get (show k0 < l.length by omega)
    refine And.intro (by omega) ?_
    intro z29 hz29
    have e29 : z29 = (q.toNat : Int) := by rw [hz29]; exact hq2
    refine iB .eql 5 (.int .u8 z29) (.int .u8 46) (some 30) ?_
    intro c30 hc30
    refine iQ 1 (iE 160 [(0, .d (Sv (tx l))), (2, .p 2 0), (3, Ba false), (4, Ba false), (5, Ia ((k0 : Int))), (6, .d (Sv s21)), (7, Ia 0), (31, Ba c30)] [(2, [Bv false, .sl 0 [], Iv 0])] ?_)
    cases c30
    · replace hc30 := bf hc30
      refine iF (vc_skip ?_)
      refine mid_n hmid (l.take k0, s21, 0, k0, false) (⟨e21, cont_plain' hk0 (not_46 hq1 (by omega)), by omega, by omega⟩) (by kernel_rfl)
    · replace hc30 := bt hc30
      have hq46 : q = 46 := at_nat (n := 46) (by omega) (by decide)
      rw [hq46] at hq1
      refine iT (vc_seqr rfl (iQ 2 (iB .add 3 (.int .i64 ((k0 : Int))) (.int .i64 1) (some 34) ?_)))
      intro z34 hz34
      try replace hz34 := hz34.i64 (by omega)
      refine iC 25 [Sv (tx l), Iv z34] (some 35) (c_rrunE (l := l) (a := k0 + 1) (z := z34) (by omega) (by omega) (by omega)) ?_
      rintro _ ⟨e, rfl, he⟩
      have hdl := ndg_dl (l := l) (a := k0 + 1)
      refine iQ 1 (iE 160 [(0, .d (Sv (tx l))), (2, .p 2 0), (3, Ba false), (4, Ba false), (5, Ia ((k0 : Int))), (6, .d (Sv s21)), (7, Ia 0), (8, Ia ((e : Int))), (31, Ba true)] [(2, [Bv false, .sl 0 [], Iv 0])] ?_)
      refine vc_seq (vc_seqr rfl (iQ 2 (iB .add 3 (.int .i64 ((k0 : Int))) (.int .i64 1) (some 38) ?_)))
      intro z38 hz38
      try replace hz38 := hz38.i64 (by omega)
      refine iB .eql 3 (.int .i64 ((e : Int))) (.int .i64 z38) (some 39) ?_
      intro c39 hc39
      refine iE 160 [(0, .d (Sv (tx l))), (2, .p 2 0), (3, Ba false), (4, Ba false), (5, Ia ((k0 : Int))), (6, .d (Sv s21)), (7, Ia 0), (8, Ia ((e : Int))), (31, Ba true), (39, Ba c39)] [(2, [Bv false, .sl 0 [], Iv 0])] ?_
      cases c39
      · replace hc39 := bf hc39
        refine iF (vc_skip (seq_n (vc_seqr rfl (iQ 3 (iB .add 3 (.int .i64 ((k0 : Int))) (.int .i64 1) (some 44) ?_)))))
        intro z44 hz44
        try replace hz44 := hz44.i64 (by omega)
        refine iQ 1 (iY 9 (tx l) (z44) ((e : Int)) (some 46) ?_)
        refine And.intro (by omega) ?_
        intro s46 hs46
        have hl46 := sz_ext hs46 (by omega)
        have e46 : s46 = tx ((l.drop (k0 + 1)).take (e - (k0 + 1))) := part_tx hs46 (by omega) rfl
        refine iB .add 9 (.string s21) (.string s46) (some 47) ?_
        refine And.intro (sz_le (m := (s21 : ByteArray).size) (n := (s46 : ByteArray).size) rfl rfl (by omega)) ?_
        intro s47 hs47
        have hl47 : (s47 : ByteArray).size = (s21 : ByteArray).size + (s46 : ByteArray).size := sz_add hs47 rfl rfl
        refine iQ 1 (iE 160 [(0, .d (Sv (tx l))), (2, .p 2 0), (3, Ba false), (4, Ba false), (5, Ia ((k0 : Int))), (6, .d (Sv s47)), (7, Ia 0), (8, Ia ((e : Int))), (31, Ba true), (39, Ba false)] [(2, [Bv false, .sl 0 [], Iv 0])] ?_)
        refine vc_seqr rfl (iQ 1 (iB .add 3 (.int .i64 ((k0 : Int))) (.int .i64 1) (some 49) ?_))
        intro z49 hz49
        try replace hz49 := hz49.i64 (by omega)
        refine iQ 1 (iB .sub 3 (.int .i64 z49) (.int .i64 ((e : Int))) (some 51) ?_)
        intro z51 hz51
        try replace hz51 := hz51.i64 (by omega)
        refine iQ 1 (iE 160 [(0, .d (Sv (tx l))), (2, .p 2 0), (3, Ba false), (4, Ba false), (5, Ia ((k0 : Int))), (6, .d (Sv s47)), (7, Ia z51), (8, Ia ((e : Int))), (31, Ba true), (39, Ba false)] [(2, [Bv false, .sl 0 [], Iv 0])] ?_)
        refine vc_reg rfl (iQ 2 (iE 160 [(0, .d (Sv (tx l))), (2, .p 2 0), (3, Ba false), (4, Ba false), (5, Ia ((e : Int))), (6, .d (Sv s47)), (7, Ia z51), (31, Ba true)] [(2, [Bv false, .sl 0 [], Iv 0])] ?_))
        refine mid_n hmid (l.take k0 ++ (l.drop (k0 + 1)).take (e - (k0 + 1)), s47, z51, e, true) (⟨by rw [hs47, e21, e46, tx_append], cont_pt' hk0 hq1 he (by omega) (by omega), by omega, by omega⟩) (by kernel_rfl)
      · replace hc39 := bt hc39
        refine iT (vc_seqr rfl (iQ 4 (iE 160 [(0, .d (Sv (tx l))), (2, .p 2 0), (3, Ba false), (4, Ba false), (5, Ia ((k0 : Int))), (6, .d (Sv s21)), (7, Ia 0), (8, Ia ((e : Int))), (31, Ba true), (39, Ba true)] [(2, [Bv false, .sl 0 [], Iv 0])] ?_)))
        refine vc_ret (seq_r (seq_r (iS (.agg [Bv false, .sl 0 [], Iv 0]) (Bv false) [Bv false] ?_)))
        rw [rdO_no (cont_no' hk0 hq1 he (by omega))]


open Go.RowKit
set_option linter.unusedVariables false
set_option linter.unusedSimpArgs false
set_option maxRecDepth 100000

theorem bodyL_pt {n : Nat} {e : Int} {D S : L8} (hD : Lib.decDigits n = D) (h : e < 0 ∧ -40 ≤ e) (hS : List.replicate ((-e).toNat + 1 - D.length) 48 ++ D = S) :
    bodyL n e = S.take (S.length - (-e).toNat) ++ 46 :: S.drop (S.length - (-e).toNat) := by
  subst hD
  subst hS
  rw [bodyL, if_pos h]
theorem bodyL_0 {n : Nat} {D : L8} (hD : Lib.decDigits n = D) : bodyL n 0 = D := by rw [bodyL, if_neg (by decide), if_pos rfl, hD]
theorem bodyL_E {n : Nat} {e : Int} {D : L8} (hD : Lib.decDigits n = D) (h : ¬ (e < 0 ∧ -40 ≤ e)) (h0 : e ≠ 0) : bodyL n e = D ++ 69 :: Lib.itoa e := by rw [bodyL, if_neg h, if_neg h0, hD]
theorem c_RTxE {n : Nat} {D : L8} (hD : Lib.decDigits n = D) (hn : nd n ≤ 1000) : HasC Tryz.prog 32 [.sl (nd n) (dg (digs n))] (fun r => r = .v (.string (tx D))) := by subst hD; exact c_RTx hn
theorem nd_B128 {n : Nat} (h : n < B128) : nd n ≤ 1000 := Nat.le_trans (nd_le 39 n (Nat.lt_trans h (by decide))) (by decide)

set_option maxHeartbeats 1600000 in
theorem c_rText05 {g : Bool} {n : Nat} {e : Int} (hn : n < B128) (h1 : -999999 ≤ e) (h2 : e ≤ 999999) : HasC Tryz.prog 13 [.agg [.v (.bool g), .sl (nd (n)) (dg (digs (n))), .v (.int .i64 e)]] (fun r => r = .v (.string (tx (textL g n e)))) := by
  refine HasC.of [] (fn := Tryz.f13) tyOk mixed (fun args w => Tryz.call13 args w) Tryz.func13 rfl (by kernel_rfl) (Nat.le_of_ble_eq_true rfl) (⟨_, rfl⟩) ?_
  obtain ⟨D, hD⟩ : ∃ D, Lib.decDigits n = D := ⟨_, rfl⟩
  have hDl : D.length ≤ 39 := by rw [← hD]; exact dec_le39 hn
  have hil := itoa_len e ⟨by omega, by omega⟩
  refine vc_seqr rfl (iQ 2 (iE 53 [(1, .p 1 0), (2, .d (Sv (⟨#[]⟩)))] [(1, [Bv g, .sl (nd (n)) (dg (digs (n))), Iv e])] ?_))
  refine vc_seqr rfl (iQ 2 (iC 32 [.sl (nd (n)) (dg (digs (n)))] (some 6) (c_RTxE hD (nd_B128 hn)) ?_))
  rintro _ rfl
  refine iQ 1 (iE 53 [(1, .p 1 0), (2, .d (Sv (⟨#[]⟩))), (3, .d (Sv (tx D)))] [(1, [Bv g, .sl (nd (n)) (dg (digs (n))), Iv e])] ?_)
  refine vc_mid 53 (fun (vcx : L8 × ByteArray × Bool) => match vcx with | (B, s3, vb14) => [(1, .p 1 0), (2, .d (Sv (⟨#[]⟩))), (3, .d (Sv s3)), (14, Ba vb14)]) (fun (vcx : L8 × ByteArray × Bool) => match vcx with | (B, s3, vb14) => [(1, [Bv g, .sl (nd (n)) (dg (digs (n))), Iv e])]) (fun (vcx : L8 × ByteArray × Bool) => match vcx with | (B, s3, vb14) => s3 = tx B ∧ B = bodyL n e ∧ B.length ≤ 1000) ?_ ?_
  · rintro ⟨B, s3, vb14⟩ hinv
    simp only at hinv
    obtain ⟨k1, k2, k3⟩ := hinv
    have hs3 : s3.size = B.length := by rw [k1]; exact tx_size _
    refine vc_seq (vc_seqr rfl (iQ 2 (iE 53 [(1, .p 1 0), (2, .d (Sv (⟨#[]⟩))), (3, .d (Sv s3)), (14, Ba vb14), (49, Ba g)] [(1, [Bv g, .sl (nd (n)) (dg (digs (n))), Iv e])] ?_)))
    cases g
    · skip
      refine iF (vc_skip (seq_n (vc_seqr rfl (iQ 2 (iE 53 [(1, .p 1 0), (2, .d (Sv s3)), (3, .d (Sv s3)), (14, Ba vb14), (49, Ba false)] [(1, [Bv false, .sl (nd (n)) (dg (digs (n))), Iv e])] ?_)))))
      refine vc_ret (iR (Sv s3) ?_)
      rw [textL, if_neg (by simp), k1, k2]
    · skip
      refine iT (vc_seqr rfl (iQ 1 (iB .add 9 (.string (⟨#[45]⟩)) (.string s3) (some 51) ?_)))
      refine And.intro (sz_le (m := 1) (n := (s3 : ByteArray).size) rfl rfl (by omega)) ?_
      intro s51 hs51
      have hl51 : (s51 : ByteArray).size = 1 + (s3 : ByteArray).size := sz_add hs51 rfl rfl
      refine iQ 1 (iE 53 [(1, .p 1 0), (2, .d (Sv s51)), (3, .d (Sv s3)), (14, Ba vb14), (49, Ba true)] [(1, [Bv true, .sl (nd (n)) (dg (digs (n))), Iv e])] ?_)
      refine vc_ret (seq_r (iR (Sv s51) ?_))
      rw [hs51, k1, textL, if_pos rfl, ← k2]; exact congrArg (fun s => DV.v (.string s)) (tx_append [45] B)
  intro hmid
  refine vc_seqr rfl (iQ 2 (iB .lss 3 (.int .i64 e) (.int .i64 0) (some 9) ?_))
  intro c9 hc9
  refine iQ 1 ?_
  cases c9
  · replace hc9 := bf hc9
    refine iQ 4 (iE 53 [(1, .p 1 0), (2, .d (Sv (⟨#[]⟩))), (3, .d (Sv (tx D))), (14, Ba false)] [(1, [Bv g, .sl (nd (n)) (dg (digs (n))), Iv e])] ?_)
    refine iF (vc_seqr rfl (iQ 2 (iB .neq 3 (.int .i64 e) (.int .i64 0) (some 41) ?_)))
    intro c41 hc41
    refine iE 53 [(1, .p 1 0), (2, .d (Sv (⟨#[]⟩))), (3, .d (Sv (tx D))), (14, Ba false), (41, Ba c41)] [(1, [Bv g, .sl (nd (n)) (dg (digs (n))), Iv e])] ?_
    cases c41
    · replace hc41 := bf hc41
      have he0 : e = 0 := by omega
      refine iF (vc_skip (seq_n ?_))
      have k2 : D = bodyL n e := by rw [he0, bodyL_0 hD]
      have hs3 : (tx D).size = D.length := tx_size _
      refine vc_seq (vc_seqr rfl (iQ 2 (iE 53 [(1, .p 1 0), (2, .d (Sv (⟨#[]⟩))), (3, .d (Sv (tx D))), (14, Ba false), (41, Ba false), (49, Ba g)] [(1, [Bv g, .sl (nd (n)) (dg (digs (n))), Iv e])] ?_)))
      cases g
      · skip
        refine iF (vc_skip (seq_n (vc_seqr rfl (iQ 2 (iE 53 [(1, .p 1 0), (2, .d (Sv (tx D))), (3, .d (Sv (tx D))), (14, Ba false), (41, Ba false), (49, Ba false)] [(1, [Bv false, .sl (nd (n)) (dg (digs (n))), Iv e])] ?_)))))
        refine vc_ret (iR (Sv (tx D)) ?_)
        rw [textL, if_neg (by simp), k2]
      · skip
        refine iT (vc_seqr rfl (iQ 1 (iB .add 9 (.string (⟨#[45]⟩)) (.string (tx D)) (some 51) ?_)))
        refine And.intro (sz_le (m := 1) (n := (D).length) rfl rfl (by omega)) ?_
        intro s51 hs51
        have hl51 : (s51 : ByteArray).size = 1 + (D).length := sz_add hs51 rfl rfl
        refine iQ 1 (iE 53 [(1, .p 1 0), (2, .d (Sv s51)), (3, .d (Sv (tx D))), (14, Ba false), (41, Ba false), (49, Ba true)] [(1, [Bv true, .sl (nd (n)) (dg (digs (n))), Iv e])] ?_)
        refine vc_ret (seq_r (iR (Sv s51) ?_))
        rw [hs51, textL, if_pos rfl, ← k2]; exact congrArg (fun s => DV.v (.string s)) (tx_append [45] D)
    · replace hc41 := bt hc41
      refine iT (vc_reg rfl (iQ 1 (iB .add 9 (.string (tx D)) (.string (⟨#[69]⟩)) (some 43) ?_)))
      refine And.intro (sz_le (m := (D).length) (n := 1) rfl rfl (by omega)) ?_
      intro s43 hs43
      have hl43 : (s43 : ByteArray).size = (D).length + 1 := sz_add hs43 rfl rfl
      refine iQ 2 (iC 33 [Iv e] (some 46) (c_rItoa (n := e) ⟨by omega, by omega⟩) ?_)
      rintro _ rfl
      have e43 : s43 = tx (D ++ [69]) := by rw [hs43]; exact tx_append D [69]
      refine iB .add 9 (.string s43) (.string (tx (Lib.itoa e))) (some 47) ?_
      refine And.intro (sz_le (m := (s43 : ByteArray).size) (n := ((Lib.itoa e)).length) rfl rfl (by omega)) ?_
      intro s47 hs47
      have hl47 : (s47 : ByteArray).size = (s43 : ByteArray).size + ((Lib.itoa e)).length := sz_add hs47 rfl rfl
      refine iQ 1 (iE 53 [(1, .p 1 0), (2, .d (Sv (⟨#[]⟩))), (3, .d (Sv s47)), (14, Ba false)] [(1, [Bv g, .sl (nd (n)) (dg (digs (n))), Iv e])] ?_)
      refine mid_n hmid (D ++ 69 :: Lib.itoa e, s47, false) (⟨by rw [hs47, e43, tx_append, List.append_assoc]; rfl, (bodyL_E hD (by omega) (by omega)).symm, by simp; omega⟩) (by kernel_rfl)
  · replace hc9 := bt hc9
    refine iQ 2 (iB .geq 3 (.int .i64 e) (.int .i64 (-40)) (some 13) ?_)
    intro c13 hc13
    refine iQ 1 (iE 53 [(1, .p 1 0), (2, .d (Sv (⟨#[]⟩))), (3, .d (Sv (tx D))), (14, Ba c13)] [(1, [Bv g, .sl (nd (n)) (dg (digs (n))), Iv e])] ?_)
    cases c13
    · replace hc13 := bf hc13
      refine iF (vc_seqr rfl (iQ 2 (iB .neq 3 (.int .i64 e) (.int .i64 0) (some 41) ?_)))
      refine all_true ((by omega)) ?_
      refine iE 53 [(1, .p 1 0), (2, .d (Sv (⟨#[]⟩))), (3, .d (Sv (tx D))), (14, Ba false), (41, Ba true)] [(1, [Bv g, .sl (nd (n)) (dg (digs (n))), Iv e])] ?_
      refine iT (vc_reg rfl (iQ 1 (iB .add 9 (.string (tx D)) (.string (⟨#[69]⟩)) (some 43) ?_)))
      refine And.intro (sz_le (m := (D).length) (n := 1) rfl rfl (by omega)) ?_
      intro s43 hs43
      have hl43 : (s43 : ByteArray).size = (D).length + 1 := sz_add hs43 rfl rfl
      refine iQ 2 (iC 33 [Iv e] (some 46) (c_rItoa (n := e) ⟨by omega, by omega⟩) ?_)
      rintro _ rfl
      have e43 : s43 = tx (D ++ [69]) := by rw [hs43]; exact tx_append D [69]
      refine iB .add 9 (.string s43) (.string (tx (Lib.itoa e))) (some 47) ?_
      refine And.intro (sz_le (m := (s43 : ByteArray).size) (n := ((Lib.itoa e)).length) rfl rfl (by omega)) ?_
      intro s47 hs47
      have hl47 : (s47 : ByteArray).size = (s43 : ByteArray).size + ((Lib.itoa e)).length := sz_add hs47 rfl rfl
      refine iQ 1 (iE 53 [(1, .p 1 0), (2, .d (Sv (⟨#[]⟩))), (3, .d (Sv s47)), (14, Ba false)] [(1, [Bv g, .sl (nd (n)) (dg (digs (n))), Iv e])] ?_)
      refine mid_n hmid (D ++ 69 :: Lib.itoa e, s47, false) (⟨by rw [hs47, e43, tx_append, List.append_assoc]; rfl, (bodyL_E hD (by omega) (by omega)).symm, by simp; omega⟩) (by kernel_rfl)
    · replace hc13 := bt hc13
      refine iT (vc_seq (vc_block (vc_loop 53 (fun (vcx : Nat × ByteArray) => match vcx with | (j, s) => [(1, .p 1 0), (2, .d (Sv (⟨#[]⟩))), (3, .d (Sv s)), (14, Ba true)]) (fun (vcx : Nat × ByteArray) => match vcx with | (j, s) => [(1, [Bv g, .sl (nd (n)) (dg (digs (n))), Iv e])]) (fun (vcx : Nat × ByteArray) => match vcx with | (j, s) => s = tx (List.replicate j 48 ++ D) ∧ j ≤ (-e).toNat + 1 - D.length) (fun (vcx : Nat × ByteArray) => match vcx with | (j, s) => (-e).toNat + 1 - D.length - j) ((0, tx D)) (⟨by simp, by omega⟩) (by kernel_rfl) (by kernel_rfl) ?_)))
      rintro ⟨j, s⟩ hinv
      simp only at hinv
      obtain ⟨g1, g2⟩ := hinv
      have gl : s.size = j + D.length := by rw [g1, tx_size]; simp
      refine vc_seq (vc_seqr rfl (iQ 1 (iL .len [9] [.string s] (some 16) ?_)))
      intro n16 hn16
      refine iQ 2 (iU .neg (.int .i64 e) (some 19) ?_)
      intro z19 hz19
      try replace hz19 := hz19.i64 (by omega)
      refine iB .leq 3 (.int .i64 ((n16 : Nat))) (.int .i64 z19) (some 20) ?_
      intro c20 hc20
      refine iE 53 [(1, .p 1 0), (2, .d (Sv (⟨#[]⟩))), (3, .d (Sv s)), (14, Ba true), (20, Ba c20)] [(1, [Bv g, .sl (nd (n)) (dg (digs (n))), Iv e])] ?_
      cases c20
      · replace hc20 := bf hc20
        obtain ⟨S, hS⟩ : ∃ S, List.replicate ((-e).toNat + 1 - D.length) 48 ++ D = S := ⟨_, rfl⟩
        have hj : j = (-e).toNat + 1 - D.length := by omega
        have gS : s = tx S := by rw [g1, hj, hS]
        have gl2 : S.length = s.size := by rw [gS]; exact (tx_size S).symm
        refine iF (vc_exit (seq_x (loop_x (block_x rfl (seq_n (vc_reg rfl (iQ 2 (iL .len [9] [.string s] (some 25) ?_))))))))
        intro n25 hn25
        refine iQ 2 (iB .add 3 (.int .i64 ((n25 : Nat))) (.int .i64 e) (some 28) ?_)
        intro z28 hz28
        try replace hz28 := hz28.i64 (by omega)
        refine iY 9 (s) (0) (z28) (some 29) ?_
        refine And.intro (by omega) ?_
        intro s29 hs29
        have hl29 := sz_ext hs29 (by omega)
        have e29 : s29 = tx (S.take (S.length - (-e).toNat)) := by rw [hs29, gS, show z28.toNat = S.length - (-e).toNat by omega]; exact take_tx rfl
        refine iB .add 9 (.string s29) (.string (⟨#[46]⟩)) (some 30) ?_
        refine And.intro (sz_le (m := (s29 : ByteArray).size) (n := 1) rfl rfl (by omega)) ?_
        intro s30 hs30
        have hl30 : (s30 : ByteArray).size = (s29 : ByteArray).size + 1 := sz_add hs30 rfl rfl
        have e30 : s30 = tx (S.take (S.length - (-e).toNat) ++ [46]) := by rw [hs30, e29]; exact tx_append _ [46]
        refine iQ 2 (iL .len [9] [.string s] (some 33) ?_)
        intro n33 hn33
        refine iQ 2 (iB .add 3 (.int .i64 ((n33 : Nat))) (.int .i64 e) (some 36) ?_)
        intro z36 hz36
        try replace hz36 := hz36.i64 (by omega)
        refine iY 9 (s) (z36) (((s : ByteArray).size : Int)) (some 37) ?_
        refine And.intro (by omega) ?_
        intro s37 hs37
        have hl37 := sz_ext hs37 (by omega)
        have e37 : s37 = tx (S.drop (S.length - (-e).toNat)) := by rw [hs37, gS, show z36.toNat = S.length - (-e).toNat by omega, tx_size]; exact drop_tx (by rw [tx_size]; rfl)
        refine iB .add 9 (.string s30) (.string s37) (some 38) ?_
        refine And.intro (sz_le (m := (s30 : ByteArray).size) (n := (s37 : ByteArray).size) rfl rfl (by omega)) ?_
        intro s38 hs38
        have hl38 : (s38 : ByteArray).size = (s30 : ByteArray).size + (s37 : ByteArray).size := sz_add hs38 rfl rfl
        refine iQ 1 (iE 53 [(1, .p 1 0), (2, .d (Sv (⟨#[]⟩))), (3, .d (Sv s38)), (14, Ba true)] [(1, [Bv g, .sl (nd (n)) (dg (digs (n))), Iv e])] ?_)
        refine mid_n hmid (S.take (S.length - (-e).toNat) ++ 46 :: S.drop (S.length - (-e).toNat), s38, true) (⟨by rw [hs38, e30, e37, tx_append, List.append_assoc]; rfl, (bodyL_pt hD ⟨by omega, by omega⟩ hS).symm, by simp; omega⟩) (by kernel_rfl)
      · replace hc20 := bt hc20
        refine iT (vc_skip (seq_n (vc_block (vc_reg rfl (iQ 1 (iB .add 9 (.string (⟨#[48]⟩)) (.string s) (some 22) ?_))))))
        refine And.intro (sz_le (m := 1) (n := (s : ByteArray).size) rfl rfl (by omega)) ?_
        intro s22 hs22
        have hl22 : (s22 : ByteArray).size = 1 + (s : ByteArray).size := sz_add hs22 rfl rfl
        refine iQ 1 (iE 53 [(1, .p 1 0), (2, .d (Sv (⟨#[]⟩))), (3, .d (Sv s22)), (14, Ba true), (20, Ba true)] [(1, [Bv g, .sl (nd (n)) (dg (digs (n))), Iv e])] ?_)
        refine block_n ?_
        refine loop_n (j + 1, s22) (⟨by rw [hs22, g1, List.replicate_succ]; exact tx_append [48] _, by omega⟩) (by show (-e).toNat + 1 - D.length - (j + 1) < (-e).toNat + 1 - D.length - j; omega) (by kernel_rfl) (by kernel_rfl)


open Go.RowKit
set_option linter.unusedVariables false
set_option linter.unusedSimpArgs false
set_option maxRecDepth 100000

theorem c_Ref {g : Bool} {n : Nat} {e : Int} (hn : n < B128) : HasC Tryz.prog 16 [.agg [.v (.bool g), .v (.int .u64 (hiW (n))), .v (.int .u64 (loW (n))), .v (.int .i64 e)]] (fun y => y = dRD g n e) := by
  refine HasC.of [] (fn := Tryz.f16) tyOk mixed (fun args w => Tryz.call16 args w) Tryz.func16 rfl (by kernel_rfl) (Nat.le_of_ble_eq_true rfl) (⟨_, rfl⟩) ?_
  refine vc_seqr rfl (iQ 2 (iE 11 [(1, .p 1 0), (2, .p 2 0)] [(1, [Bv g, Hw n, Lw n, Iv e]), (2, [Bv false, .sl 0 [], Iv 0])] ?_))
  refine vc_seqr rfl (iQ 4 (iC 30 [.agg [Hw n, Lw n]] (some 7) (c_N hn) ?_))
  rintro _ rfl
  refine iQ 4 (iE 11 [(2, .p 2 0)] [(2, [Bv g, .sl (nd (n)) (dg (digs (n))), Iv e])] ?_)
  refine vc_ret (iR (.agg [Bv g, .sl (nd (n)) (dg (digs (n))), Iv e]) ?_)
  rfl

theorem c_LikeT {g : Bool} {n : Nat} {e : Int} (hn : n < B128) : HasC Tryz.prog 9 [.agg [.v (.bool g), .v (.int .u64 (hiW (n))), .v (.int .u64 (loW (n))), .v (.int .i64 e)], .agg [.v (.bool g), .sl (nd (n)) (dg (digs (n))), .v (.int .i64 e)]] (fun y => y = .v (.bool true)) := by
  refine HasC.of [] (fn := Tryz.f9) tyOk mixed (fun args w => Tryz.call9 args w) Tryz.func9 rfl (by kernel_rfl) (Nat.le_of_ble_eq_true rfl) (⟨_, rfl⟩) ?_
  refine vc_seqr rfl (iQ 3 (iE 26 [(2, .p 2 0), (3, .p 3 0), (4, Ba false)] [(2, [Bv g, Hw n, Lw n, Iv e]), (3, [Bv g, .sl (nd (n)) (dg (digs (n))), Iv e])] ?_))
  refine vc_seqr rfl (iQ 4 (iB .eql 4 (.bool g) (.bool g) (some 9) ?_))
  intro c9 hc9
  refine iQ 1 ?_
  obtain rfl : c9 = true := hc9.2 (rfl)
  refine iQ 4 (iB .eql 3 (.int .i64 e) (.int .i64 e) (some 15) ?_)
  intro c15 hc15
  refine iQ 2 ?_
  obtain rfl : c15 = true := hc15.2 (rfl)
  refine iQ 2 (iC 30 [.agg [Hw n, Lw n]] (some 20) (c_N hn) ?_)
  rintro _ rfl
  have hnn := nd_U hn
  refine iQ 2 (iC 29 [.sl (nd (n)) (dg (digs (n))), .sl (nd (n)) (dg (digs (n)))] (some 23) (c_Cmp (a := n) (b := n) (by omega) (by omega)) ?_)
  rintro _ rfl
  refine iB .eql 3 (.int .i64 (cmpN n n)) (.int .i64 0) (some 24) ?_
  intro c24 hc24
  refine iQ 2 (iE 26 [(4, Ba c24)] [] ?_)
  refine vc_ret (iR (Bv c24) ?_)
  rw [hc24.2 (cmpN_eq n)]
theorem rdO_as {l : L8} {g : Bool} {k : Nat} {x : Int} {ok sh : Bool} (hR : readT l = (g, k, x, ok)) (hs : shapeB l = sh) : rdO l = .tup [dRD g k x, .v (.bool sh), .v (.bool ok)] := by rw [rdO, hR, hs]
theorem c_rRead05E {l : L8} {s : ByteArray} {g : Bool} {k : Nat} {x : Int} {ok sh : Bool} (he : s = tx l) (hl : l.length ≤ 120) (hR : readT l = (g, k, x, ok)) (hs : shapeB l = sh) :
    HasC Tryz.prog 7 [.v (.string s)] (fun y => y = .tup [dRD g k x, .v (.bool sh), .v (.bool ok)]) := by
  subst he
  rw [← rdO_as hR hs]
  exact c_rRead05 hl

theorem c_NumeralTells {g1 : Bool} {n1 : Nat} {e1 : Int} (h1 : n1 < B128) : HasC Tryz.prog 4 [.agg [.v (.bool g1), .v (.int .u64 (hiW (n1))), .v (.int .u64 (loW (n1))), .v (.int .i64 e1)]] (fun r => r = .v (.bool true)) := by
  refine HasC.of [] (fn := Tryz.f4) tyOk mixed (fun args w => Tryz.call4 args w) Tryz.func4 rfl (by kernel_rfl) (Nat.le_of_ble_eq_true rfl) (⟨_, rfl⟩) ?_
  refine vc_seqr rfl (iQ 2 (iE 35 [(1, .p 1 0), (2, Ba false)] [(1, [Bv g1, Hw n1, Lw n1, Iv e1])] ?_))
  refine vc_seq (vc_seqr rfl (iC 5 [] (some 7) (c_awake05) ?_))
  rintro _ rfl
  refine iU .not (.bool true) (some 8) ?_
  intro c8 hc8
  refine iE 35 [(1, .p 1 0), (2, Ba false), (8, Ba c8)] [(1, [Bv g1, Hw n1, Lw n1, Iv e1])] ?_
  obtain rfl : c8 = false := bff hc8 (by simp)
  refine iF (vc_skip (seq_n (vc_seqr rfl (iQ 1 (iC 14 [.agg [Bv g1, Hw n1, Lw n1, Iv e1]] (some 10) (c_Make (g := g1) (e := e1) h1) ?_)))))
  rintro _ ⟨s1, c1, x1, rfl, p1, p2, p3, p4⟩
  have hB := Nat.lt_trans p1 e34_lt
  refine iQ 2 (iE 35 [(2, Ba false), (3, .p 3 0), (8, Ba false)] [(3, [Bv s1, Hw c1, Lw c1, Iv x1])] ?_)
  refine vc_seqr rfl (iQ 1 (iC 15 [.agg [Bv s1, Hw c1, Lw c1, Iv x1]] (some 12) (c_nText (g := s1) hB (by omega) (by omega)) ?_))
  rintro _ rfl
  have hS : signT (textL s1 c1 x1) = (s1, c1, x1, true) := signT_text p4 p1 p2 p3
  have hL : (textL s1 c1 x1).length ≤ 1000000000000000 := Nat.le_trans (text_le hB (by omega) (by omega)) (by decide)
  refine iQ 1 (iE 35 [(2, Ba false), (3, .p 3 0), (4, .d (Sv (tx (textL s1 c1 x1)))), (8, Ba false)] [(3, [Bv s1, Hw c1, Lw c1, Iv x1])] ?_)
  refine vc_seqr rfl (iQ 1 (iC 10 [Sv (tx (textL s1 c1 x1))] (some 15) (c_SignedE rfl hS hL) ?_))
  rintro _ rfl
  refine iQ 6 (iE 35 [(2, Ba false), (3, .p 3 0), (4, .d (Sv (tx (textL s1 c1 x1)))), (5, .p 5 0), (6, Ba true), (8, Ba false)] [(3, [Bv s1, Hw c1, Lw c1, Iv x1]), (5, [Bv s1, Hw c1, Lw c1, Iv x1])] ?_)
  refine vc_seqr rfl (iQ 2 (iC 16 [.agg [Bv s1, Hw c1, Lw c1, Iv x1]] (some 20) (c_Ref hB) ?_))
  rintro _ rfl
  refine iC 13 [.agg [Bv s1, .sl (nd (c1)) (dg (digs (c1))), Iv x1]] (some 21) (c_rText05 (g := s1) hB (by omega) (by omega)) ?_
  rintro _ rfl
  refine iB .eql 9 (.string (tx (textL s1 c1 x1))) (.string (tx (textL s1 c1 x1))) (some 22) ?_
  refine all_true (rfl) ?_
  refine iQ 6 (iB .eql 27 (.agg #[.bool s1, .int .u64 (hiW (c1)), .int .u64 (loW (c1)), .int .i64 x1]) (.agg #[.bool s1, .int .u64 (hiW (c1)), .int .u64 (loW (c1)), .int .i64 x1]) (some 29) ?_)
  refine all_true ((by simp)) ?_
  refine iQ 3 (iC 12 [Sv (tx (textL s1 c1 x1))] (some 33) (c_PlainA (l := textL s1 c1 x1) (b := true) rfl hL hS (by simp)) ?_)
  rintro _ rfl
  refine iQ 2 (iE 35 [(2, Ba true), (3, .p 3 0), (4, .d (Sv (tx (textL s1 c1 x1)))), (5, .p 5 0), (8, Ba false)] [(3, [Bv s1, Hw c1, Lw c1, Iv x1]), (5, [Bv s1, Hw c1, Lw c1, Iv x1])] ?_)
  refine vc_ret (iR (Bv true) ?_)
  rfl

/-- What Signed tells of a text, out of what is read behind its sign. -/
theorem sign_as (l : L8) : ∃ (r : L8) (g k : _) (x : Int) (ok gs : Bool), readT r = (g, k, x, ok) ∧ signT l = (gs, k, x, ok) ∧ (l.head? = some 45 ∧ r = l.drop 1 ∧ gs = (!g && decide (k ≠ 0)) ∨ l.head? ≠ some 45 ∧ r = l ∧ gs = g) := by
  by_cases h : l.head? = some 45
  · obtain ⟨g, k, x, ok, hR⟩ : ∃ a b c d, readT (l.drop 1) = (a, b, c, d) := ⟨_, _, _, _, rfl⟩
    refine ⟨l.drop 1, g, k, x, ok, _, hR, ?_, .inl ⟨h, rfl, rfl⟩⟩
    rw [signT, if_pos h, ← List.drop_one, hR]
  · obtain ⟨g, k, x, ok, hR⟩ : ∃ a b c d, readT l = (a, b, c, d) := ⟨_, _, _, _, rfl⟩
    refine ⟨l, g, k, x, ok, _, hR, ?_, .inr ⟨h, rfl, rfl⟩⟩
    rw [signT, if_neg h, hR]
theorem c_LikeE {g h : Bool} {n : Nat} {e : Int} (hn : n < B128) (hg : g = h) : HasC Tryz.prog 9 [dDec g n e, dRD h n e] (fun y => y = .v (.bool true)) := by subst hg; exact c_LikeT hn
theorem c_rText05E {g h : Bool} {n : Nat} {e : Int} (hn : n < B128) (h1 : -999999 ≤ e) (h2 : e ≤ 999999) (hg : g = h) : HasC Tryz.prog 13 [dRD h n e] (fun y => y = .v (.string (tx (textL g n e)))) := by subst hg; exact c_rText05 hn h1 h2
theorem head_ne {l : L8} (h : l.head? = some 45) : l ≠ [] ∧ l.drop 1 ≠ l := by
  cases l with
  | nil => cases h
  | cons c r =>
    refine ⟨by simp, fun e => ?_⟩
    have := congrArg List.length e
    simp at this

set_option maxHeartbeats 1600000 in
theorem c_NumeralReads {l : L8} (hL : l.length ≤ 1000000000000000) : HasC Tryz.prog 3 [.v (.string (tx l))] (fun r => r = .v (.bool true)) := by
  refine HasC.of [] (fn := Tryz.f3) tyOk mixed (fun args w => Tryz.call3 args w) Tryz.func3 rfl (by kernel_rfl) (Nat.le_of_ble_eq_true rfl) (⟨_, rfl⟩) ?_
  have hsz : (tx l).size = l.length := tx_size l
  refine vc_seqr rfl (iQ 1 (iE 91 [(0, .d (Sv (tx l))), (2, Ba false)] [] ?_))
  refine vc_seq (vc_seqr rfl (iC 5 [] (some 14) (c_awake05) ?_))
  rintro _ rfl
  refine iU .not (.bool true) (some 15) ?_
  refine all_false ((by simp)) ?_
  refine iE 91 [(0, .d (Sv (tx l))), (2, Ba false), (15, Ba false)] [] ?_
  refine iF (vc_skip (seq_n (vc_seq (vc_seqr rfl (iQ 1 (iL .len [9] [.string (tx l)] (some 17) ?_))))))
  intro n17 hn17
  refine iB .gtr 3 (.int .i64 ((n17 : Nat))) (.int .i64 120) (some 18) ?_
  intro c18 hc18
  refine iE 91 [(0, .d (Sv (tx l))), (2, Ba false), (15, Ba false), (18, Ba c18)] [] ?_
  cases c18
  · replace hc18 := bf hc18
    have hl : l.length ≤ 120 := by omega
    obtain ⟨g, k, x, ok, hR⟩ : ∃ a b c d, readT l = (a, b, c, d) := ⟨_, _, _, _, rfl⟩
    obtain ⟨sh, hsh⟩ : ∃ a, shapeB l = a := ⟨_, rfl⟩
    have hB := Nat.lt_trans (readT_rng hR).1 e34_lt
    refine iF (vc_skip (seq_n (vc_seqr rfl (iQ 1 (iC 6 [Sv (tx l)] (some 21) (c_nReadE (l := l) rfl hR hL) ?_)))))
    rintro _ rfl
    refine iQ 6 (iE 91 [(0, .d (Sv (tx l))), (2, Ba false), (3, .p 3 0), (4, Ba ok), (15, Ba false), (18, Ba false)] [(3, [Bv g, Hw k, Lw k, Iv x])] ?_)
    refine vc_seqr rfl (iQ 1 (iC 7 [Sv (tx l)] (some 26) (c_rRead05E (l := l) rfl hl hR hsh) ?_))
    rintro _ rfl
    refine iQ 8 (iE 91 [(0, .d (Sv (tx l))), (2, Ba false), (3, .p 3 0), (4, Ba ok), (5, .p 5 0), (6, Ba sh), (7, Ba ok), (15, Ba false), (18, Ba false)] [(3, [Bv g, Hw k, Lw k, Iv x]), (5, [Bv g, .sl (nd (k)) (dg (digs (k))), Iv x])] ?_)
    refine vc_seq (vc_seqr rfl (iQ 1 (iC 8 [Sv (tx l)] (some 31) (c_ShapeA (l := l) rfl hL hsh) ?_)))
    rintro _ rfl
    refine iQ 1 (iB .neq 4 (.bool sh) (.bool sh) (some 33) ?_)
    refine all_false ((by simp)) ?_
    refine iQ 3 (iB .neq 4 (.bool ok) (.bool ok) (some 37) ?_)
    refine all_false ((by simp)) ?_
    refine iQ 4 (iC 9 [.agg [Bv g, Hw k, Lw k, Iv x], .agg [Bv g, .sl (nd (k)) (dg (digs (k))), Iv x]] (some 42) (c_LikeT hB) ?_)
    rintro _ rfl
    refine iU .not (.bool true) (some 43) ?_
    refine all_false ((by simp)) ?_
    obtain ⟨r, g2, k2, x2, ok2, gs, hR2, hS2, hr⟩ := sign_as l
    obtain ⟨sh2, hsh2⟩ : ∃ a, shapeB r = a := ⟨_, rfl⟩
    have hB2 := Nat.lt_trans (readT_rng hR2).1 e34_lt
    have hrg2 := readT_rng hR2
    have hrl : r.length ≤ 120 := by rcases hr with ⟨_, h, _⟩ | ⟨_, h, _⟩; rw [h, List.length_drop]; omega; rw [h]; omega
    refine iQ 1 (iE 91 [(0, .d (Sv (tx l))), (2, Ba false), (3, .p 3 0), (5, .p 5 0), (15, Ba false), (18, Ba false), (44, Ba false)] [(3, [Bv g, Hw k, Lw k, Iv x]), (5, [Bv g, .sl (nd (k)) (dg (digs (k))), Iv x])] ?_)
    refine iF (vc_skip (seq_n (vc_seqr rfl (iQ 1 (iC 10 [Sv (tx l)] (some 47) (c_SignedE (l := l) rfl hS2 hL) ?_)))))
    rintro _ rfl
    refine iQ 6 (iE 91 [(0, .d (Sv (tx l))), (2, Ba false), (3, .p 3 0), (5, .p 5 0), (8, .p 8 0), (9, Ba ok2), (15, Ba false), (18, Ba false), (44, Ba false)] [(3, [Bv g, Hw k, Lw k, Iv x]), (5, [Bv g, .sl (nd (k)) (dg (digs (k))), Iv x]), (8, [Bv gs, Hw k2, Lw k2, Iv x2])] ?_)
    refine vc_seqr rfl (iQ 2 (iE 91 [(0, .d (Sv (tx l))), (2, Ba false), (3, .p 3 0), (5, .p 5 0), (8, .p 8 0), (9, Ba ok2), (10, .d (Sv (tx l))), (15, Ba false), (18, Ba false), (44, Ba false)] [(3, [Bv g, Hw k, Lw k, Iv x]), (5, [Bv g, .sl (nd (k)) (dg (digs (k))), Iv x]), (8, [Bv gs, Hw k2, Lw k2, Iv x2])] ?_))
    refine vc_mid 91 (fun (vcx : ByteArray × Bool) => match vcx with | (s10, vb57) => [(0, .d (Sv (tx l))), (2, Ba false), (3, .p 3 0), (5, .p 5 0), (8, .p 8 0), (9, Ba ok2), (10, .d (Sv s10)), (15, Ba false), (18, Ba false), (44, Ba false), (57, Ba vb57)]) (fun (vcx : ByteArray × Bool) => match vcx with | (s10, vb57) => [(3, [Bv g, Hw k, Lw k, Iv x]), (5, [Bv g, .sl (nd (k)) (dg (digs (k))), Iv x]), (8, [Bv gs, Hw k2, Lw k2, Iv x2])]) (fun (vcx : ByteArray × Bool) => match vcx with | (s10, vb57) => s10 = tx r) ?_ ?_
    · rintro ⟨s10, vb57⟩ hinv
      simp only at hinv
      refine vc_seqr rfl (iQ 1 (iC 7 [Sv s10] (some 62) (c_rRead05E (l := r) hinv hrl hR2 hsh2) ?_))
      rintro _ rfl
      refine iQ 8 (iE 91 [(0, .d (Sv (tx l))), (2, Ba false), (3, .p 3 0), (5, .p 5 0), (8, .p 8 0), (9, Ba ok2), (10, .d (Sv s10)), (11, .p 11 0), (13, Ba ok2), (15, Ba false), (18, Ba false), (44, Ba false), (57, Ba vb57)] [(3, [Bv g, Hw k, Lw k, Iv x]), (5, [Bv g, .sl (nd (k)) (dg (digs (k))), Iv x]), (8, [Bv gs, Hw k2, Lw k2, Iv x2]), (11, [Bv g2, .sl (nd (k2)) (dg (digs (k2))), Iv x2])] ?_)
      refine vc_seq (vc_seqr rfl (iQ 2 (iB .neq 9 (.string s10) (.string (tx l)) (some 68) ?_)))
      intro c68 hc68
      refine iE 91 [(0, .d (Sv (tx l))), (2, Ba false), (3, .p 3 0), (5, .p 5 0), (8, .p 8 0), (9, Ba ok2), (10, .d (Sv s10)), (11, .p 11 0), (13, Ba ok2), (15, Ba false), (18, Ba false), (44, Ba false), (57, Ba vb57), (68, Ba c68)] [(3, [Bv g, Hw k, Lw k, Iv x]), (5, [Bv g, .sl (nd (k)) (dg (digs (k))), Iv x]), (8, [Bv gs, Hw k2, Lw k2, Iv x2]), (11, [Bv g2, .sl (nd (k2)) (dg (digs (k2))), Iv x2])] ?_
      cases c68
      · replace hc68 := bf hc68
        have hrr : r = l := tx_inj (hinv.symm.trans (Classical.not_not.1 hc68))
        have hgg : gs = g2 := by rcases hr with ⟨h1, h2, _⟩ | ⟨_, _, h⟩; exact absurd (h2.symm.trans hrr) (head_ne h1).2; exact h
        refine iF (vc_skip (seq_n (vc_seqr rfl (iQ 2 (iB .eql 4 (.bool ok2) (.bool ok2) (some 73) ?_)))))
        refine all_true (rfl) ?_
        refine iQ 3 (iC 9 [.agg [Bv gs, Hw k2, Lw k2, Iv x2], .agg [Bv g2, .sl (nd (k2)) (dg (digs (k2))), Iv x2]] (some 77) (c_LikeE hB2 hgg) ?_)
        rintro _ rfl
        refine iQ 3 (iC 12 [Sv (tx l)] (some 81) (c_Plain hS2 hL) ?_)
        rintro _ ⟨b, rfl, hb⟩
        refine iQ 2 ?_
        cases ok2
        · skip
          refine iQ 5 (iB .eql 4 (.bool b) (.bool false) (some 89) ?_)
          intro c89 hc89
          refine iQ 2 (iE 91 [(0, .d (Sv (tx l))), (2, Ba c89), (3, .p 3 0), (5, .p 5 0), (8, .p 8 0), (10, .d (Sv s10)), (11, .p 11 0), (15, Ba false), (18, Ba false), (44, Ba false), (57, Ba vb57), (68, Ba false)] [(3, [Bv g, Hw k, Lw k, Iv x]), (5, [Bv g, .sl (nd (k)) (dg (digs (k))), Iv x]), (8, [Bv gs, Hw k2, Lw k2, Iv x2]), (11, [Bv g2, .sl (nd (k2)) (dg (digs (k2))), Iv x2])] ?_)
          refine vc_ret (iR (Bv c89) ?_)
          rw [hc89.2 (by simpa using hb)]
        · skip
          refine iQ 1 (iC 13 [.agg [Bv g2, .sl (nd (k2)) (dg (digs (k2))), Iv x2]] (some 85) (c_rText05E hB2 (by omega) (by omega) hgg) ?_)
          rintro _ rfl
          refine iQ 1 (iB .eql 9 (.string (tx (textL gs k2 x2))) (.string (tx l)) (some 87) ?_)
          intro c87 hc87
          refine iQ 1 (iB .eql 4 (.bool b) (.bool c87) (some 89) ?_)
          intro c89 hc89
          refine iQ 2 (iE 91 [(0, .d (Sv (tx l))), (2, Ba c89), (3, .p 3 0), (5, .p 5 0), (8, .p 8 0), (10, .d (Sv s10)), (11, .p 11 0), (15, Ba false), (18, Ba false), (44, Ba false), (57, Ba vb57), (68, Ba false)] [(3, [Bv g, Hw k, Lw k, Iv x]), (5, [Bv g, .sl (nd (k)) (dg (digs (k))), Iv x]), (8, [Bv gs, Hw k2, Lw k2, Iv x2]), (11, [Bv g2, .sl (nd (k2)) (dg (digs (k2))), Iv x2])] ?_)
          refine vc_ret (iR (Bv c89) ?_)
          rw [hc89.2 (by rw [Bool.eq_iff_iff, hb, hc87, tx_iff]; simp)]
      · replace hc68 := bt hc68
        have hgg : gs = (!g2 && decide (k2 ≠ 0)) := by rcases hr with ⟨_, _, h⟩ | ⟨_, h, _⟩; exact h; exact absurd (by rw [hinv, h]) hc68
        refine iT (vc_reg rfl (iQ 1 (iC 11 [.agg [Bv g2, .sl (nd (k2)) (dg (digs (k2))), Iv x2]] (some 70) (c_rNeg (g := g2) (A := k2) (e := x2)) ?_)))
        rintro _ rfl
        refine iQ 1 (iE 91 [(0, .d (Sv (tx l))), (2, Ba false), (3, .p 3 0), (5, .p 5 0), (8, .p 8 0), (9, Ba ok2), (10, .d (Sv s10)), (11, .p 11 0), (13, Ba ok2), (15, Ba false), (18, Ba false), (44, Ba false), (57, Ba vb57), (68, Ba true)] [(3, [Bv g, Hw k, Lw k, Iv x]), (5, [Bv g, .sl (nd (k)) (dg (digs (k))), Iv x]), (8, [Bv gs, Hw k2, Lw k2, Iv x2]), (11, [Bv (!g2 && decide (k2 ≠ 0)), .sl (nd (k2)) (dg (digs (k2))), Iv x2])] ?_)
        refine seq_n (vc_seqr rfl (iQ 2 (iB .eql 4 (.bool ok2) (.bool ok2) (some 73) ?_)))
        refine all_true (rfl) ?_
        refine iQ 3 (iC 9 [.agg [Bv gs, Hw k2, Lw k2, Iv x2], .agg [Bv (!g2 && decide (k2 ≠ 0)), .sl (nd (k2)) (dg (digs (k2))), Iv x2]] (some 77) (c_LikeE hB2 hgg) ?_)
        rintro _ rfl
        refine iQ 3 (iC 12 [Sv (tx l)] (some 81) (c_Plain hS2 hL) ?_)
        rintro _ ⟨b, rfl, hb⟩
        refine iQ 2 ?_
        cases ok2
        · skip
          refine iQ 5 (iB .eql 4 (.bool b) (.bool false) (some 89) ?_)
          intro c89 hc89
          refine iQ 2 (iE 91 [(0, .d (Sv (tx l))), (2, Ba c89), (3, .p 3 0), (5, .p 5 0), (8, .p 8 0), (10, .d (Sv s10)), (11, .p 11 0), (15, Ba false), (18, Ba false), (44, Ba false), (57, Ba vb57), (68, Ba true)] [(3, [Bv g, Hw k, Lw k, Iv x]), (5, [Bv g, .sl (nd (k)) (dg (digs (k))), Iv x]), (8, [Bv gs, Hw k2, Lw k2, Iv x2]), (11, [Bv (!g2 && decide (k2 ≠ 0)), .sl (nd (k2)) (dg (digs (k2))), Iv x2])] ?_)
          refine vc_ret (iR (Bv c89) ?_)
          rw [hc89.2 (by simpa using hb)]
        · skip
          refine iQ 1 (iC 13 [.agg [Bv (!g2 && decide (k2 ≠ 0)), .sl (nd (k2)) (dg (digs (k2))), Iv x2]] (some 85) (c_rText05E hB2 (by omega) (by omega) hgg) ?_)
          rintro _ rfl
          refine iQ 1 (iB .eql 9 (.string (tx (textL gs k2 x2))) (.string (tx l)) (some 87) ?_)
          intro c87 hc87
          refine iQ 1 (iB .eql 4 (.bool b) (.bool c87) (some 89) ?_)
          intro c89 hc89
          refine iQ 2 (iE 91 [(0, .d (Sv (tx l))), (2, Ba c89), (3, .p 3 0), (5, .p 5 0), (8, .p 8 0), (10, .d (Sv s10)), (11, .p 11 0), (15, Ba false), (18, Ba false), (44, Ba false), (57, Ba vb57), (68, Ba true)] [(3, [Bv g, Hw k, Lw k, Iv x]), (5, [Bv g, .sl (nd (k)) (dg (digs (k))), Iv x]), (8, [Bv gs, Hw k2, Lw k2, Iv x2]), (11, [Bv (!g2 && decide (k2 ≠ 0)), .sl (nd (k2)) (dg (digs (k2))), Iv x2])] ?_)
          refine vc_ret (iR (Bv c89) ?_)
          rw [hc89.2 (by rw [Bool.eq_iff_iff, hb, hc87, tx_iff]; simp)]
    intro hmid
    refine vc_seqr rfl (iQ 1 (iB .neq 9 (.string (tx l)) (.string (⟨#[]⟩)) (some 52) ?_))
    intro c52 hc52
    refine iQ 1 ?_
    cases c52
    · replace hc52 := bf hc52
      refine iQ 4 (iE 91 [(0, .d (Sv (tx l))), (2, Ba false), (3, .p 3 0), (5, .p 5 0), (8, .p 8 0), (9, Ba ok2), (10, .d (Sv (tx l))), (15, Ba false), (18, Ba false), (44, Ba false), (57, Ba false)] [(3, [Bv g, Hw k, Lw k, Iv x]), (5, [Bv g, .sl (nd (k)) (dg (digs (k))), Iv x]), (8, [Bv gs, Hw k2, Lw k2, Iv x2])] ?_)
      have hl0 : l = [] := (bempty l).1 (Classical.not_not.1 hc52)
      refine iF (vc_skip ?_)
      refine mid_n hmid (tx l, false) (by rcases hr with ⟨h1, _, _⟩ | ⟨_, h, _⟩; rw [hl0] at h1; cases h1; rw [h]) (by kernel_rfl)
    · replace hc52 := bt hc52
      refine iQ 1 (iX 9 (.string (tx l)) (.int .i64 0) (some 55) ?_)
      have hl0 : l ≠ [] := fun h => hc52 ((bempty l).2 h)
      have hlp := List.length_pos_iff.2 hl0
      refine And.intro (by omega) ?_
      intro z55 hz55
      have h55 := at0_tx hl0 hz55 (c := 45)
      refine iB .eql 5 (.int .u8 z55) (.int .u8 45) (some 56) ?_
      intro c56 hc56
      refine iQ 1 (iE 91 [(0, .d (Sv (tx l))), (2, Ba false), (3, .p 3 0), (5, .p 5 0), (8, .p 8 0), (9, Ba ok2), (10, .d (Sv (tx l))), (15, Ba false), (18, Ba false), (44, Ba false), (57, Ba c56)] [(3, [Bv g, Hw k, Lw k, Iv x]), (5, [Bv g, .sl (nd (k)) (dg (digs (k))), Iv x]), (8, [Bv gs, Hw k2, Lw k2, Iv x2])] ?_)
      cases c56
      · replace hc56 := bf hc56
        refine iF (vc_skip ?_)
        refine mid_n hmid (tx l, false) (by rcases hr with ⟨h1, _, _⟩ | ⟨_, h, _⟩; exact absurd (h55.2 h1) hc56; rw [h]) (by kernel_rfl)
      · replace hc56 := bt hc56
        refine iT (vc_reg rfl (iQ 1 (iY 9 (tx l) (1) (((tx l : ByteArray).size : Int)) (some 59) ?_)))
        refine And.intro (by omega) ?_
        intro s59 hs59
        have e59 : s59 = tx (l.drop 1) := by rw [hs59]; exact drop_tx rfl
        refine iQ 1 (iE 91 [(0, .d (Sv (tx l))), (2, Ba false), (3, .p 3 0), (5, .p 5 0), (8, .p 8 0), (9, Ba ok2), (10, .d (Sv s59)), (15, Ba false), (18, Ba false), (44, Ba false), (57, Ba true)] [(3, [Bv g, Hw k, Lw k, Iv x]), (5, [Bv g, .sl (nd (k)) (dg (digs (k))), Iv x]), (8, [Bv gs, Hw k2, Lw k2, Iv x2])] ?_)
        refine mid_n hmid (s59, true) (by rcases hr with ⟨_, h, _⟩ | ⟨h, _, _⟩; rw [e59, h]; exact absurd (h55.1 hc56) h) (by kernel_rfl)
  · replace hc18 := bt hc18
    refine iT (vc_seqr rfl (iQ 1 (iE 91 [(0, .d (Sv (tx l))), (2, Ba true), (15, Ba false), (18, Ba true)] [] ?_)))
    refine vc_ret (seq_r (iR (Bv true) ?_))
    rfl
end Go.Proofs.YtbabmopplnbmdaaGreatDoor
