/-
  lexical: ReadDays, ReadMonths; the document's days, months; LexicalSpans.
-/
import Derived.Test.YtjpaedjhihiakaaDoorLexA
import Derived.Test.YtjpaedjhihiakaaDoorLexB
import Derived.Test.YtjpaedjhihiakaaDoorLexR
namespace Go.Proofs.YtjpaedjhihiakaaDoor
open Go.RowKit
set_option linter.unusedVariables false
set_option linter.unusedSimpArgs false
set_option maxRecDepth 100000

def OptP (o : Option Int) (r : DV) : Prop := ∃ (z : Int) (g : Bool), r = .tup [.v (.int .i64 z), .v (.bool g)] ∧ .tup [.v (.int .i64 z), .v (.bool g)] = optT o
theorem OptP_ex (o : Option Int) : ∃ r, OptP o r := by
  cases o with
  | none => exact ⟨_, _, _, rfl, rfl⟩
  | some n => exact ⟨_, _, _, rfl, rfl⟩
theorem OptP_of {o : Option Int} {r : DV} (h : r = optT o) : OptP o r := by
  subst h
  cases o with
  | none => exact ⟨_, _, rfl, rfl⟩
  | some n => exact ⟨_, _, rfl, rfl⟩
theorem OptP_no {o : Option Int} (h : o = none) : OptP o (.tup [.v (.int .i64 0), .v (.bool false)]) := OptP_of (by rw [h]; rfl)
theorem OptP_eq {o : Option Int} {z z' : Int} {g g' : Bool} (h : .tup [.v (.int .i64 z), .v (.bool g)] = optT o) (hr : .tup [.v (.int .i64 z'), .v (.bool g')] = optT o) : z' = z ∧ g' = g := by
  rw [← h] at hr
  simp only [DV.tup.injEq, List.cons.injEq, DV.v.injEq, Value.int.injEq, Value.bool.injEq, true_and, and_true] at hr
  exact hr
/-- A second answer, where the first one is known. -/
theorem OptP_as {P : Program} {f : FuncId} {ds : List DV} {o : Option Int} {z : Int} {g : Bool} (c : HasC P f ds (OptP o)) (h : .tup [.v (.int .i64 z), .v (.bool g)] = optT o) : HasC P f ds (fun r => r = .tup [.v (.int .i64 z), .v (.bool g)]) :=
  c.mono fun r ⟨z', g', hr, h2⟩ => by
    obtain ⟨rfl, rfl⟩ := OptP_eq h h2
    exact hr
theorem OptP_at {P : Program} {f : FuncId} {ds : List DV} {o : Option Int} {n : Int} (c : HasC P f ds (OptP o)) (h : o = some n) : HasC P f ds (fun r => r = .tup [.v (.int .i64 n), .v (.bool true)]) := OptP_as c (by rw [h]; rfl)
theorem OptP_atno {P : Program} {f : FuncId} {ds : List DV} {o : Option Int} (c : HasC P f ds (OptP o)) (h : o = none) : HasC P f ds (fun r => r = .tup [.v (.int .i64 0), .v (.bool false)]) := OptP_as c (by rw [h]; rfl)
theorem c_signedQ {n : Nat} {z : Int} {neg : Bool} (hz : z = (n : Int)) (hn : n ≤ 9223372036854775807) : HasC Tryd.prog 50 [.v (.int .i64 z), .v (.bool neg)] (OptP (signedS n neg)) := by subst hz; exact (c_signed hn).mono fun r h => OptP_of h
theorem c_run1 {l : L8} {s : ByteArray} (hs : s = tx l) (hL : l.length ≤ 9223372036854775807) : HasC Tryd.prog 49 [.v (.string s), .v (.int .i64 12), .sl 1 [.v (.string ⟨#[68]⟩)], .sl 1 [.v (.int .i64 86400)]] (RunP 12 l [(68, 86400)]) :=
  c_runE (ps := [(68, 86400)]) hs (by decide) (by intro p hp; simp at hp; subst hp; decide) (by decide) hL
theorem c_run3 {l : L8} {s : ByteArray} (hs : s = tx l) (hL : l.length ≤ 9223372036854775807) : HasC Tryd.prog 49 [.v (.string s), .v (.int .i64 12), .sl 3 [.v (.string ⟨#[72]⟩), .v (.string ⟨#[77]⟩), .v (.string ⟨#[83]⟩)], .sl 3 [.v (.int .i64 3600), .v (.int .i64 60), .v (.int .i64 1)]] (RunP 12 l [(72, 3600), (77, 60), (83, 1)]) :=
  c_runE (ps := [(72, 3600), (77, 60), (83, 1)]) hs (by decide) (by intro p hp; simp at hp; rcases hp with rfl | rfl | rfl <;> decide) (by decide) hL
theorem c_run2 {l : L8} {s : ByteArray} (hs : s = tx l) (hL : l.length ≤ 9223372036854775807) : HasC Tryd.prog 49 [.v (.string s), .v (.int .i64 15), .sl 2 [.v (.string ⟨#[89]⟩), .v (.string ⟨#[77]⟩)], .sl 2 [.v (.int .i64 12), .v (.int .i64 1)]] (RunP 15 l [(89, 12), (77, 1)]) :=
  c_runE (ps := [(89, 12), (77, 1)]) hs (by decide) (by intro p hp; simp at hp; rcases hp with rfl | rfl <;> decide) (by decide) hL
theorem uns_len (l : L8) : (unsS l).1.length ≤ l.length ∧ ((unsS l).2 = true ↔ (unsS l).1.length ≠ l.length) := by
  unfold unsS
  split
  · rename_i h
    cases l with
    | nil => cases h
    | cons c r => simp
  · simp
theorem uns_negE {l : L8} {a b : Nat} {c : Bool} (ha : a = (unsS l).1.length) (hb : b = l.length) (h : c = true ↔ ¬ (a : Int) = b) : (unsS l).2 = c := by
  rw [Bool.eq_iff_iff, (uns_len l).2, h, ha, hb]
  omega
theorem daysS_no {l : L8} (h : (unsS l).1.head? ≠ some 80) : daysS l = none ∧ monthsS l = none := ⟨by rw [daysS, if_pos h], by rw [monthsS, if_pos h]⟩
theorem daysS_a {l l1 : L8} {n k : Nat} (h : (unsS l).1.head? = some 80) (hR : runA 12 (unsS l).1.tail [(68, 86400)] 0 0 = (n, l1, k)) (h1 : l1 = []) : daysS l = if k = 0 then none else signedS n (unsS l).2 := by
  rw [daysS, if_neg (by simp [h]), hR, if_pos h1]
theorem daysS_b {l l1 : L8} {n k : Nat} (h : (unsS l).1.head? = some 80) (hR : runA 12 (unsS l).1.tail [(68, 86400)] 0 0 = (n, l1, k)) (h1 : l1 ≠ []) (h2 : l1.head? ≠ some 84) : daysS l = none := by
  rw [daysS, if_neg (by simp [h]), hR, if_neg h1, if_pos h2]
theorem daysS_c {l l1 l2 : L8} {n k m j : Nat} (h : (unsS l).1.head? = some 80) (hR : runA 12 (unsS l).1.tail [(68, 86400)] 0 0 = (n, l1, k)) (h2 : l1.head? = some 84) (hR2 : runA 12 l1.tail [(72, 3600), (77, 60), (83, 1)] 0 0 = (m, l2, j)) : daysS l = if l2 ≠ [] ∨ j = 0 then none else signedS (n + m) (unsS l).2 := by
  have h1 : l1 ≠ [] := fun e => by rw [e] at h2; cases h2
  rw [daysS, if_neg (by simp [h]), hR, if_neg h1, if_neg (by simp [h2]), hR2]
theorem monthsS_a {l l1 : L8} {n k : Nat} (h : (unsS l).1.head? = some 80) (hR : runA 15 (unsS l).1.tail [(89, 12), (77, 1)] 0 0 = (n, l1, k)) : monthsS l = if l1 ≠ [] ∨ k = 0 then none else signedS n (unsS l).2 := by
  rw [monthsS, if_neg (by simp [h]), hR]
theorem at0_tx {l : L8} {z : Int} {c : UInt8} (h : l ≠ []) (hz : z = strAt (tx l) 0) : z = (c.toNat : Int) ↔ l.head? = some c := by
  cases l with
  | nil => exact absurd rfl h
  | cons x r =>
    rw [hz, strAt_tx (l := x :: r) (k := 0) (c := x) rfl]
    simp only [List.head?_cons, Option.some.injEq]
    constructor
    · intro e; exact UInt8.toNat_inj.1 (by omega)
    · rintro rfl; rfl
theorem tail_tx {l : L8} {s : ByteArray} (hs : s = (tx l).extract 1 (tx l).size) : s = tx l.tail := by
  rw [hs, tx_extract, tx_size, ← List.drop_one, List.take_of_length_le (by rw [List.length_drop]; omega)]
theorem le_tail {l : L8} {k : Nat} (h : l.length ≤ k) : l.tail.length ≤ k := by rw [List.length_tail]; omega

set_option maxHeartbeats 800000 in
theorem c_ReadDays {l : L8} (hL : l.length ≤ 9223372036854775807) : HasC Tryd.prog 12 [.v (.string (tx l))] (OptP (daysS l)) := by
  refine HasC.of [] (fn := Tryd.f12) tyOk mixed (fun args w => Tryd.call12 args w) Tryd.func12 rfl (by kernel_rfl) (Nat.le_of_ble_eq_true rfl) (OptP_ex _) ?_
  refine vc_seqr rfl (iQ 2 (iE 66 [(0, .d (Sv (tx l))), (2, Ia 0), (3, Ba false)] [] ?_))
  refine vc_seqr rfl (iQ 1 (iC 48 [Sv (tx l), Sv (⟨#[45]⟩)] (some 12) (c_trim) ?_))
  rintro _ rfl
  have hul := (uns_len l).1
  refine iQ 1 (iE 66 [(0, .d (Sv (tx l))), (2, Ia 0), (3, Ba false), (4, .d (Sv (tx (unsS l).1)))] [] ?_)
  refine vc_seq (vc_seqr rfl (iQ 1 (iB .eql 9 (.string (tx (unsS l).1)) (.string (⟨#[]⟩)) (some 14) ?_)))
  intro c14 hc14
  refine iQ 1 ?_
  cases c14
  · replace hc14 := bf hc14
    refine iQ 1 (iX 9 (.string (tx (unsS l).1)) (.int .i64 0) (some 17) ?_)
    have h0 : (unsS l).1 ≠ [] := fun e => hc14 ((bempty _).2 e)
    have h00 : 0 < (unsS l).1.length := List.length_pos_iff.2 h0
    refine And.intro (by rw [tx_size]; omega) ?_
    intro z17 hz17
    have e17 := at0_tx (c := 80) h0 hz17
    refine iB .neq 5 (.int .u8 z17) (.int .u8 80) (some 18) ?_
    intro c18 hc18
    refine iQ 1 (iE 66 [(0, .d (Sv (tx l))), (2, Ia 0), (3, Ba false), (4, .d (Sv (tx (unsS l).1))), (19, Ba c18)] [] ?_)
    cases c18
    · replace hc18 := bf hc18
      have h80 : (unsS l).1.head? = some 80 := e17.1 (Classical.not_not.1 hc18)
      refine iF (vc_skip (seq_n (vc_seqr rfl (iQ 1 (iY 9 (tx (unsS l).1) (1) (((tx (unsS l).1 : ByteArray).size : Int)) (some 22) ?_)))))
      refine And.intro (by rw [tx_size]; omega) ?_
      intro s22 hs22
      have hl22 := sz_ext hs22 (by rw [tx_size]; omega)
      have e22 : s22 = tx (unsS l).1.tail := tail_tx hs22
      refine iQ 2 (iC 49 [Sv s22, Iv 12, .sl 1 [.v (.string (⟨#[68]⟩))], .sl 1 [.v (.int .i64 86400)]] (some 25) (c_run1 e22 (le_tail (by omega))) ?_)
      rintro _ ⟨n, l1, k, rfl, r1, r2, r3, r4⟩
      have r2' := le_tail r2
      refine iQ 7 (iE 66 [(0, .d (Sv (tx l))), (2, Ia 0), (3, Ba false), (4, .d (Sv (tx (unsS l).1))), (5, Ia ((n : Int))), (6, .d (Sv (tx l1))), (7, Ia ((k : Int))), (19, Ba false)] [] ?_)
      refine vc_seq (vc_seqr rfl (iQ 1 (iB .neq 9 (.string (tx l1)) (.string (⟨#[]⟩)) (some 30) ?_)))
      intro c30 hc30
      refine iE 66 [(0, .d (Sv (tx l))), (2, Ia 0), (3, Ba false), (4, .d (Sv (tx (unsS l).1))), (5, Ia ((n : Int))), (6, .d (Sv (tx l1))), (7, Ia ((k : Int))), (19, Ba false), (30, Ba c30)] [] ?_
      cases c30
      · replace hc30 := bf hc30
        have h1 : l1 = [] := (bempty _).1 (Classical.not_not.1 hc30)
        refine iF (vc_skip (seq_n (vc_seq (vc_seqr rfl (iQ 1 (iB .eql 3 (.int .i64 ((k : Int))) (.int .i64 0) (some 56) ?_))))))
        intro c56 hc56
        refine iE 66 [(0, .d (Sv (tx l))), (2, Ia 0), (3, Ba false), (4, .d (Sv (tx (unsS l).1))), (5, Ia ((n : Int))), (6, .d (Sv (tx l1))), (7, Ia ((k : Int))), (19, Ba false), (30, Ba false), (56, Ba c56)] [] ?_
        cases c56
        · replace hc56 := bf hc56
          have heq : daysS l = signedS n (unsS l).2 := by rw [daysS_a h80 r1 h1, if_neg (by omega)]
          refine iF (vc_skip (seq_n (vc_seqr rfl (iQ 2 (iL .len [9] [.string (tx (unsS l).1)] (some 59) ?_)))))
          intro n59 hn59
          have e59 : n59 = (unsS l).1.length := by rw [hn59]; exact tx_size _
          refine iQ 1 (iL .len [9] [.string (tx l)] (some 61) ?_)
          intro n61 hn61
          have e61 : n61 = l.length := by rw [hn61]; exact tx_size _
          refine iB .neq 3 (.int .i64 ((n59 : Nat))) (.int .i64 ((n61 : Nat))) (some 62) ?_
          intro c62 hc62
          refine iC 50 [Iv ((n : Int)), Bv c62] (some 63) (c_signedQ (n := n) (neg := c62) (by first | rfl | exact e51) (by omega)) ?_
          rintro _ ⟨z, g, rfl, hz⟩
          refine iQ 4 (iE 66 [(0, .d (Sv (tx l))), (2, Ia z), (3, Ba g), (4, .d (Sv (tx (unsS l).1))), (5, Ia ((n : Int))), (6, .d (Sv (tx l1))), (7, Ia ((k : Int))), (19, Ba false), (30, Ba false), (56, Ba false)] [] ?_)
          refine vc_ret (iS (Iv z) (Bv g) [] ?_)
          exact ⟨_, _, rfl, by rw [hz, heq, uns_negE e59 e61 hc62]⟩
        · replace hc56 := bt hc56
          refine iT (vc_seqr rfl (iQ 2 (iE 66 [(0, .d (Sv (tx l))), (2, Ia 0), (3, Ba false), (4, .d (Sv (tx (unsS l).1))), (5, Ia ((n : Int))), (6, .d (Sv (tx l1))), (7, Ia ((k : Int))), (19, Ba false), (30, Ba false), (56, Ba true)] [] ?_)))
          refine vc_ret (seq_r (iS (Iv 0) (Bv false) [] ?_))
          exact OptP_no (by rw [daysS_a h80 r1 h1, if_pos (by omega)])
      · replace hc30 := bt hc30
        have h1 : l1 ≠ [] := fun e => hc30 ((bempty _).2 e)
        have h11 : 0 < l1.length := List.length_pos_iff.2 h1
        refine iT (vc_seq (vc_seqr rfl (iQ 1 (iX 9 (.string (tx l1)) (.int .i64 0) (some 32) ?_))))
        refine And.intro (by rw [tx_size]; omega) ?_
        intro z32 hz32
        have e32 := at0_tx (c := 84) h1 hz32
        refine iB .neq 5 (.int .u8 z32) (.int .u8 84) (some 33) ?_
        intro c33 hc33
        refine iE 66 [(0, .d (Sv (tx l))), (2, Ia 0), (3, Ba false), (4, .d (Sv (tx (unsS l).1))), (5, Ia ((n : Int))), (6, .d (Sv (tx l1))), (7, Ia ((k : Int))), (19, Ba false), (30, Ba true), (33, Ba c33)] [] ?_
        cases c33
        · replace hc33 := bf hc33
          have h84 : l1.head? = some 84 := e32.1 (Classical.not_not.1 hc33)
          refine iF (vc_skip (seq_n (vc_seqr rfl (iQ 1 (iY 9 (tx l1) (1) (((tx l1 : ByteArray).size : Int)) (some 36) ?_)))))
          refine And.intro (by rw [tx_size]; omega) ?_
          intro s36 hs36
          have hl36 := sz_ext hs36 (by rw [tx_size]; omega)
          have e36 : s36 = tx l1.tail := tail_tx hs36
          refine iQ 2 (iC 49 [Sv s36, Iv 12, .sl 3 [.v (.string (⟨#[72]⟩)), .v (.string (⟨#[77]⟩)), .v (.string (⟨#[83]⟩))], .sl 3 [.v (.int .i64 3600), .v (.int .i64 60), .v (.int .i64 1)]] (some 39) (c_run3 e36 (le_tail (Nat.le_trans r2 (le_tail (by omega))))) ?_)
          rintro _ ⟨m, l2, j, rfl, q1, q2, q3, q4⟩
          have hcc := daysS_c h80 r1 h84 q1
          refine iQ 7 (iE 66 [(0, .d (Sv (tx l))), (2, Ia 0), (3, Ba false), (4, .d (Sv (tx (unsS l).1))), (5, Ia ((n : Int))), (6, .d (Sv (tx l1))), (7, Ia ((k : Int))), (8, Ia ((m : Int))), (9, .d (Sv (tx l2))), (10, Ia ((j : Int))), (19, Ba false), (30, Ba true), (33, Ba false)] [] ?_)
          refine vc_seq (vc_seqr rfl (iQ 1 (iB .neq 9 (.string (tx l2)) (.string (⟨#[]⟩)) (some 44) ?_)))
          intro c44 hc44
          refine iQ 1 ?_
          cases c44
          · replace hc44 := bf hc44
            refine iQ 1 (iB .eql 3 (.int .i64 ((j : Int))) (.int .i64 0) (some 47) ?_)
            have h2 : l2 = [] := (bempty _).1 (Classical.not_not.1 hc44)
            intro c47 hc47
            refine iQ 1 (iE 66 [(0, .d (Sv (tx l))), (2, Ia 0), (3, Ba false), (4, .d (Sv (tx (unsS l).1))), (5, Ia ((n : Int))), (6, .d (Sv (tx l1))), (7, Ia ((k : Int))), (8, Ia ((m : Int))), (10, Ia ((j : Int))), (19, Ba false), (30, Ba true), (33, Ba false), (48, Ba c47)] [] ?_)
            cases c47
            · replace hc47 := bf hc47
              refine iF (vc_skip (seq_n (vc_reg rfl (iQ 2 (iB .add 3 (.int .i64 ((n : Int))) (.int .i64 ((m : Int))) (some 51) ?_)))))
              intro z51 hz51
              try replace hz51 := hz51.i64 (by omega)
              have e51 : z51 = ((n + m : Nat) : Int) := by omega
              refine iQ 2 (iB .add 3 (.int .i64 ((k : Int))) (.int .i64 ((j : Int))) (some 54) ?_)
              intro z54 hz54
              try replace hz54 := hz54.i64 (by omega)
              refine iQ 2 (iE 66 [(0, .d (Sv (tx l))), (2, Ia 0), (3, Ba false), (4, .d (Sv (tx (unsS l).1))), (5, Ia z51), (6, .d (Sv (tx l1))), (7, Ia z54), (10, Ia ((j : Int))), (19, Ba false), (30, Ba true), (33, Ba false), (48, Ba false)] [] ?_)
              refine seq_n (vc_seq (vc_seqr rfl (iQ 1 (iB .eql 3 (.int .i64 z54) (.int .i64 0) (some 56) ?_))))
              intro c56 hc56
              refine iE 66 [(0, .d (Sv (tx l))), (2, Ia 0), (3, Ba false), (4, .d (Sv (tx (unsS l).1))), (5, Ia z51), (6, .d (Sv (tx l1))), (7, Ia z54), (10, Ia ((j : Int))), (19, Ba false), (30, Ba true), (33, Ba false), (48, Ba false), (56, Ba c56)] [] ?_
              cases c56
              · replace hc56 := bf hc56
                have heq : daysS l = signedS (n + m) (unsS l).2 := by rw [hcc, if_neg]; rintro (q | q); exact q h2; omega
                refine iF (vc_skip (seq_n (vc_seqr rfl (iQ 2 (iL .len [9] [.string (tx (unsS l).1)] (some 59) ?_)))))
                intro n59 hn59
                have e59 : n59 = (unsS l).1.length := by rw [hn59]; exact tx_size _
                refine iQ 1 (iL .len [9] [.string (tx l)] (some 61) ?_)
                intro n61 hn61
                have e61 : n61 = l.length := by rw [hn61]; exact tx_size _
                refine iB .neq 3 (.int .i64 ((n59 : Nat))) (.int .i64 ((n61 : Nat))) (some 62) ?_
                intro c62 hc62
                refine iC 50 [Iv z51, Bv c62] (some 63) (c_signedQ (n := (n+m)) (neg := c62) (by first | rfl | exact e51) (by omega)) ?_
                rintro _ ⟨z, g, rfl, hz⟩
                refine iQ 4 (iE 66 [(0, .d (Sv (tx l))), (2, Ia z), (3, Ba g), (4, .d (Sv (tx (unsS l).1))), (5, Ia z51), (6, .d (Sv (tx l1))), (7, Ia z54), (10, Ia ((j : Int))), (19, Ba false), (30, Ba true), (33, Ba false), (48, Ba false), (56, Ba false)] [] ?_)
                refine vc_ret (iS (Iv z) (Bv g) [] ?_)
                exact ⟨_, _, rfl, by rw [hz, heq, uns_negE e59 e61 hc62]⟩
              · replace hc56 := bt hc56
                refine iT (vc_seqr rfl (iQ 2 (iE 66 [(0, .d (Sv (tx l))), (2, Ia 0), (3, Ba false), (4, .d (Sv (tx (unsS l).1))), (5, Ia z51), (6, .d (Sv (tx l1))), (7, Ia z54), (10, Ia ((j : Int))), (19, Ba false), (30, Ba true), (33, Ba false), (48, Ba false), (56, Ba true)] [] ?_)))
                refine vc_ret (seq_r (iS (Iv 0) (Bv false) [] ?_))
                exfalso; omega
            · replace hc47 := bt hc47
              refine iT (vc_seqr rfl (iQ 2 (iE 66 [(0, .d (Sv (tx l))), (2, Ia 0), (3, Ba false), (4, .d (Sv (tx (unsS l).1))), (5, Ia ((n : Int))), (6, .d (Sv (tx l1))), (7, Ia ((k : Int))), (8, Ia ((m : Int))), (10, Ia ((j : Int))), (19, Ba false), (30, Ba true), (33, Ba false), (48, Ba true)] [] ?_)))
              refine vc_ret (seq_r (seq_r (iS (Iv 0) (Bv false) [] ?_)))
              exact OptP_no (by rw [hcc, if_pos (.inr (by omega))])
          · replace hc44 := bt hc44
            refine iQ 3 (iE 66 [(0, .d (Sv (tx l))), (2, Ia 0), (3, Ba false), (4, .d (Sv (tx (unsS l).1))), (5, Ia ((n : Int))), (6, .d (Sv (tx l1))), (7, Ia ((k : Int))), (8, Ia ((m : Int))), (10, Ia ((j : Int))), (19, Ba false), (30, Ba true), (33, Ba false), (48, Ba true)] [] ?_)
            refine iT (vc_seqr rfl (iQ 2 (iE 66 [(0, .d (Sv (tx l))), (2, Ia 0), (3, Ba false), (4, .d (Sv (tx (unsS l).1))), (5, Ia ((n : Int))), (6, .d (Sv (tx l1))), (7, Ia ((k : Int))), (8, Ia ((m : Int))), (10, Ia ((j : Int))), (19, Ba false), (30, Ba true), (33, Ba false), (48, Ba true)] [] ?_)))
            refine vc_ret (seq_r (seq_r (iS (Iv 0) (Bv false) [] ?_)))
            exact OptP_no (by rw [hcc, if_pos (.inl fun e => hc44 ((bempty _).2 e))])
        · replace hc33 := bt hc33
          refine iT (vc_seqr rfl (iQ 2 (iE 66 [(0, .d (Sv (tx l))), (2, Ia 0), (3, Ba false), (4, .d (Sv (tx (unsS l).1))), (5, Ia ((n : Int))), (6, .d (Sv (tx l1))), (7, Ia ((k : Int))), (19, Ba false), (30, Ba true), (33, Ba true)] [] ?_)))
          refine vc_ret (seq_r (seq_r (iS (Iv 0) (Bv false) [] ?_)))
          exact OptP_no (daysS_b h80 r1 h1 (fun e => hc33 (e32.2 e)))
    · replace hc18 := bt hc18
      refine iT (vc_seqr rfl (iQ 2 (iE 66 [(0, .d (Sv (tx l))), (2, Ia 0), (3, Ba false), (4, .d (Sv (tx (unsS l).1))), (19, Ba true)] [] ?_)))
      refine vc_ret (seq_r (iS (Iv 0) (Bv false) [] ?_))
      exact OptP_no (daysS_no (fun e => hc18 (e17.2 e))).1
  · replace hc14 := bt hc14
    refine iQ 4 (iE 66 [(0, .d (Sv (tx l))), (2, Ia 0), (3, Ba false), (4, .d (Sv (tx (unsS l).1))), (19, Ba true)] [] ?_)
    have h0 : (unsS l).1 = [] := (bempty _).1 hc14
    refine iT (vc_seqr rfl (iQ 2 (iE 66 [(0, .d (Sv (tx l))), (2, Ia 0), (3, Ba false), (4, .d (Sv (tx (unsS l).1))), (19, Ba true)] [] ?_)))
    refine vc_ret (seq_r (iS (Iv 0) (Bv false) [] ?_))
    exact OptP_no (daysS_no (by rw [h0]; simp)).1

theorem c_ReadMonths {l : L8} (hL : l.length ≤ 9223372036854775807) : HasC Tryd.prog 13 [.v (.string (tx l))] (OptP (monthsS l)) := by
  refine HasC.of [] (fn := Tryd.f13) tyOk mixed (fun args w => Tryd.call13 args w) Tryd.func13 rfl (by kernel_rfl) (Nat.le_of_ble_eq_true rfl) (OptP_ex _) ?_
  refine vc_seqr rfl (iQ 2 (iE 41 [(0, .d (Sv (tx l))), (2, Ia 0), (3, Ba false)] [] ?_))
  refine vc_seqr rfl (iQ 1 (iC 48 [Sv (tx l), Sv (⟨#[45]⟩)] (some 9) (c_trim) ?_))
  rintro _ rfl
  have hul := (uns_len l).1
  refine iQ 1 (iE 41 [(0, .d (Sv (tx l))), (2, Ia 0), (3, Ba false), (4, .d (Sv (tx (unsS l).1)))] [] ?_)
  refine vc_seq (vc_seqr rfl (iQ 1 (iB .eql 9 (.string (tx (unsS l).1)) (.string (⟨#[]⟩)) (some 11) ?_)))
  intro c11 hc11
  refine iQ 1 ?_
  cases c11
  · replace hc11 := bf hc11
    refine iQ 1 (iX 9 (.string (tx (unsS l).1)) (.int .i64 0) (some 14) ?_)
    have h0 : (unsS l).1 ≠ [] := fun e => hc11 ((bempty _).2 e)
    have h00 : 0 < (unsS l).1.length := List.length_pos_iff.2 h0
    refine And.intro (by rw [tx_size]; omega) ?_
    intro z14 hz14
    have e14 := at0_tx (c := 80) h0 hz14
    refine iB .neq 5 (.int .u8 z14) (.int .u8 80) (some 15) ?_
    intro c15 hc15
    refine iQ 1 (iE 41 [(0, .d (Sv (tx l))), (2, Ia 0), (3, Ba false), (4, .d (Sv (tx (unsS l).1))), (16, Ba c15)] [] ?_)
    cases c15
    · replace hc15 := bf hc15
      have h80 : (unsS l).1.head? = some 80 := e14.1 (Classical.not_not.1 hc15)
      refine iF (vc_skip (seq_n (vc_seqr rfl (iQ 1 (iY 9 (tx (unsS l).1) (1) (((tx (unsS l).1 : ByteArray).size : Int)) (some 19) ?_)))))
      refine And.intro (by rw [tx_size]; omega) ?_
      intro s19 hs19
      have hl19 := sz_ext hs19 (by rw [tx_size]; omega)
      have e19 : s19 = tx (unsS l).1.tail := tail_tx hs19
      refine iQ 2 (iC 49 [Sv s19, Iv 15, .sl 2 [.v (.string (⟨#[89]⟩)), .v (.string (⟨#[77]⟩))], .sl 2 [.v (.int .i64 12), .v (.int .i64 1)]] (some 22) (c_run2 e19 (le_tail (by omega))) ?_)
      rintro _ ⟨n, l1, k, rfl, r1, r2, r3, r4⟩
      have hcc := monthsS_a h80 r1
      refine iQ 7 (iE 41 [(0, .d (Sv (tx l))), (2, Ia 0), (3, Ba false), (4, .d (Sv (tx (unsS l).1))), (5, Ia ((n : Int))), (6, .d (Sv (tx l1))), (7, Ia ((k : Int))), (16, Ba false)] [] ?_)
      refine vc_seq (vc_seqr rfl (iQ 1 (iB .neq 9 (.string (tx l1)) (.string (⟨#[]⟩)) (some 27) ?_)))
      intro c27 hc27
      refine iQ 1 ?_
      cases c27
      · replace hc27 := bf hc27
        refine iQ 1 (iB .eql 3 (.int .i64 ((k : Int))) (.int .i64 0) (some 30) ?_)
        have h1 : l1 = [] := (bempty _).1 (Classical.not_not.1 hc27)
        intro c30 hc30
        refine iQ 1 (iE 41 [(0, .d (Sv (tx l))), (2, Ia 0), (3, Ba false), (4, .d (Sv (tx (unsS l).1))), (5, Ia ((n : Int))), (16, Ba false), (31, Ba c30)] [] ?_)
        cases c30
        · replace hc30 := bf hc30
          have heq : monthsS l = signedS n (unsS l).2 := by rw [hcc, if_neg]; rintro (q | q); exact q h1; omega
          refine iF (vc_skip (seq_n (vc_seqr rfl (iQ 2 (iL .len [9] [.string (tx (unsS l).1)] (some 34) ?_)))))
          intro n34 hn34
          have e34 : n34 = (unsS l).1.length := by rw [hn34]; exact tx_size _
          refine iQ 1 (iL .len [9] [.string (tx l)] (some 36) ?_)
          intro n36 hn36
          have e36 : n36 = l.length := by rw [hn36]; exact tx_size _
          refine iB .neq 3 (.int .i64 ((n34 : Nat))) (.int .i64 ((n36 : Nat))) (some 37) ?_
          intro c37 hc37
          refine iC 50 [Iv ((n : Int)), Bv c37] (some 38) (c_signedQ (n := n) (neg := c37) rfl (by omega)) ?_
          rintro _ ⟨z, g, rfl, hz⟩
          refine iQ 4 (iE 41 [(0, .d (Sv (tx l))), (2, Ia z), (3, Ba g), (4, .d (Sv (tx (unsS l).1))), (16, Ba false), (31, Ba false)] [] ?_)
          refine vc_ret (iS (Iv z) (Bv g) [] ?_)
          exact ⟨_, _, rfl, by rw [hz, heq, uns_negE e34 e36 hc37]⟩
        · replace hc30 := bt hc30
          refine iT (vc_seqr rfl (iQ 2 (iE 41 [(0, .d (Sv (tx l))), (2, Ia 0), (3, Ba false), (4, .d (Sv (tx (unsS l).1))), (5, Ia ((n : Int))), (16, Ba false), (31, Ba true)] [] ?_)))
          refine vc_ret (seq_r (iS (Iv 0) (Bv false) [] ?_))
          exact OptP_no (by rw [hcc, if_pos (.inr (by omega))])
      · replace hc27 := bt hc27
        refine iQ 3 (iE 41 [(0, .d (Sv (tx l))), (2, Ia 0), (3, Ba false), (4, .d (Sv (tx (unsS l).1))), (5, Ia ((n : Int))), (16, Ba false), (31, Ba true)] [] ?_)
        refine iT (vc_seqr rfl (iQ 2 (iE 41 [(0, .d (Sv (tx l))), (2, Ia 0), (3, Ba false), (4, .d (Sv (tx (unsS l).1))), (5, Ia ((n : Int))), (16, Ba false), (31, Ba true)] [] ?_)))
        refine vc_ret (seq_r (iS (Iv 0) (Bv false) [] ?_))
        exact OptP_no (by rw [hcc, if_pos (.inl fun e => hc27 ((bempty _).2 e))])
    · replace hc15 := bt hc15
      refine iT (vc_seqr rfl (iQ 2 (iE 41 [(0, .d (Sv (tx l))), (2, Ia 0), (3, Ba false), (4, .d (Sv (tx (unsS l).1))), (16, Ba true)] [] ?_)))
      refine vc_ret (seq_r (iS (Iv 0) (Bv false) [] ?_))
      exact OptP_no (daysS_no (fun e => hc15 (e14.2 e))).2
  · replace hc11 := bt hc11
    refine iQ 4 (iE 41 [(0, .d (Sv (tx l))), (2, Ia 0), (3, Ba false), (4, .d (Sv (tx (unsS l).1))), (16, Ba true)] [] ?_)
    have h0 : (unsS l).1 = [] := (bempty _).1 hc11
    refine iT (vc_seqr rfl (iQ 2 (iE 41 [(0, .d (Sv (tx l))), (2, Ia 0), (3, Ba false), (4, .d (Sv (tx (unsS l).1))), (16, Ba true)] [] ?_)))
    refine vc_ret (seq_r (iS (Iv 0) (Bv false) [] ?_))
    exact OptP_no (daysS_no (by rw [h0]; simp)).2

theorem sgn1_1 {l : L8} (h : l.head? = some 45) : sgn1 l = 1 := by rw [sgn1, if_pos h]
theorem sgn1_0 {l : L8} (h : l.head? ≠ some 45) : sgn1 l = 0 := by rw [sgn1, if_neg h]
theorem sgn1_lt {l : L8} {c : UInt8} (h : l[sgn1 l]? = some c) : sgn1 l < l.length := (List.getElem?_eq_some_iff.1 h).1
def BgP (l : L8) (r : DV) : Prop := ∃ b, r = .tup [.v (.int .i64 ((sgn1 l + 1 : Nat) : Int)), .v (.bool b)] ∧ (b = true ↔ l[sgn1 l]? = some 80)
theorem at_tx {l : L8} {z : Int} {k : Nat} {c : UInt8} (h : k < l.length) (hz : z = strAt (tx l) k) : z = (c.toNat : Int) ↔ l[k]? = some c := by
  rw [hz, strAt_tx (List.getElem?_eq_getElem h), List.getElem?_eq_getElem h]
  simp only [Option.some.injEq]
  constructor
  · intro e; exact UInt8.toNat_inj.1 (by omega)
  · rintro rfl; rfl

theorem c_begun {l : L8} (hL : l.length ≤ 9223372036854775807) : HasC Tryd.prog 51 [.v (.string (tx l))] (BgP l) := by
  refine HasC.of [] (fn := Tryd.f51) tyOk mixed (fun args w => Tryd.call51 args w) Tryd.func51 rfl (by kernel_rfl) (Nat.le_of_ble_eq_true rfl) (⟨_, decide (l[sgn1 l]? = some 80), rfl, by simp⟩) ?_
  refine vc_seqr rfl (iQ 2 (iE 25 [(0, .d (Sv (tx l))), (2, Ia 0), (3, Ba false)] [] ?_))
  refine vc_seqr rfl (iQ 1 (iE 25 [(0, .d (Sv (tx l))), (2, Ia 0), (3, Ba false), (4, Ia 0)] [] ?_))
  refine vc_seq (vc_seqr rfl (iQ 1 (iL .len [9] [.string (tx l)] (some 6) ?_)))
  intro n6 hn6
  have e6 : n6 = l.length := by rw [hn6]; exact tx_size l
  refine iB .gtr 3 (.int .i64 ((n6 : Nat))) (.int .i64 0) (some 7) ?_
  intro c7 hc7
  refine iQ 1 ?_
  cases c7
  · replace hc7 := bf hc7
    refine iQ 4 (iE 25 [(0, .d (Sv (tx l))), (2, Ia 0), (3, Ba false), (4, Ia 0), (12, Ba false)] [] ?_)
    have h0 : l = [] := List.eq_nil_of_length_eq_zero (by omega)
    have hsg := sgn1_0 (l := l) (by rw [h0]; simp)
    refine iF (vc_skip (seq_n (vc_seqr rfl (iQ 1 (iB .add 3 (.int .i64 0) (.int .i64 1) (some 14) ?_)))))
    intro z14 hz14
    try replace hz14 := hz14.i64 (by omega)
    refine iQ 2 (iL .len [9] [.string (tx l)] (some 17) ?_)
    intro n17 hn17
    have e17 : n17 = l.length := by rw [hn17]; exact tx_size l
    refine iB .lss 3 (.int .i64 0) (.int .i64 ((n17 : Nat))) (some 18) ?_
    intro c18 hc18
    refine iQ 1 ?_
    cases c18
    · replace hc18 := bf hc18
      refine iQ 7 (iE 25 [(0, .d (Sv (tx l))), (2, Ia z14), (3, Ba false), (12, Ba false)] [] ?_)
      refine vc_ret (iS (Iv z14) (Bv false) [] ?_)
      exact ⟨_, by rw [hsg, hz14]; rfl, by rw [hsg, List.getElem?_eq_none (by omega)]; simp⟩
    · replace hc18 := bt hc18
      refine iQ 2 (iX 9 (.string (tx l)) (.int .i64 0) (some 22) ?_)
      have hlt : 0 < l.length := by omega
      refine And.intro (by rw [tx_size]; omega) ?_
      intro z22 hz22
      have e22 := at_tx (c := 80) hlt hz22
      refine iB .eql 5 (.int .u8 z22) (.int .u8 80) (some 23) ?_
      intro c23 hc23
      refine iQ 3 (iE 25 [(0, .d (Sv (tx l))), (2, Ia z14), (3, Ba c23), (12, Ba false)] [] ?_)
      refine vc_ret (iS (Iv z14) (Bv c23) [] ?_)
      exact ⟨_, by rw [hsg, hz14]; rfl, by rw [hc23, hsg]; exact e22⟩
  · replace hc7 := bt hc7
    refine iQ 1 (iX 9 (.string (tx l)) (.int .i64 0) (some 10) ?_)
    have h0 : l ≠ [] := fun e => by rw [e] at e6; simp at e6; omega
    refine And.intro (by rw [tx_size]; omega) ?_
    intro z10 hz10
    have e10 := at0_tx (c := 45) h0 hz10
    refine iB .eql 5 (.int .u8 z10) (.int .u8 45) (some 11) ?_
    intro c11 hc11
    refine iQ 1 (iE 25 [(0, .d (Sv (tx l))), (2, Ia 0), (3, Ba false), (4, Ia 0), (12, Ba c11)] [] ?_)
    cases c11
    · replace hc11 := bf hc11
      have hsg := sgn1_0 (fun e => hc11 (e10.2 e))
      refine iF (vc_skip (seq_n (vc_seqr rfl (iQ 1 (iB .add 3 (.int .i64 0) (.int .i64 1) (some 14) ?_)))))
      intro z14 hz14
      try replace hz14 := hz14.i64 (by omega)
      refine iQ 2 (iL .len [9] [.string (tx l)] (some 17) ?_)
      intro n17 hn17
      have e17 : n17 = l.length := by rw [hn17]; exact tx_size l
      refine iB .lss 3 (.int .i64 0) (.int .i64 ((n17 : Nat))) (some 18) ?_
      intro c18 hc18
      refine iQ 1 ?_
      cases c18
      · replace hc18 := bf hc18
        refine iQ 7 (iE 25 [(0, .d (Sv (tx l))), (2, Ia z14), (3, Ba false), (12, Ba false)] [] ?_)
        refine vc_ret (iS (Iv z14) (Bv false) [] ?_)
        exact ⟨_, by rw [hsg, hz14]; rfl, by rw [hsg, List.getElem?_eq_none (by omega)]; simp⟩
      · replace hc18 := bt hc18
        refine iQ 2 (iX 9 (.string (tx l)) (.int .i64 0) (some 22) ?_)
        have hlt : 0 < l.length := by omega
        refine And.intro (by rw [tx_size]; omega) ?_
        intro z22 hz22
        have e22 := at_tx (c := 80) hlt hz22
        refine iB .eql 5 (.int .u8 z22) (.int .u8 80) (some 23) ?_
        intro c23 hc23
        refine iQ 3 (iE 25 [(0, .d (Sv (tx l))), (2, Ia z14), (3, Ba c23), (12, Ba false)] [] ?_)
        refine vc_ret (iS (Iv z14) (Bv c23) [] ?_)
        exact ⟨_, by rw [hsg, hz14]; rfl, by rw [hc23, hsg]; exact e22⟩
    · replace hc11 := bt hc11
      have hsg := sgn1_1 (e10.1 hc11)
      refine iT (vc_reg rfl (iQ 1 (iE 25 [(0, .d (Sv (tx l))), (2, Ia 0), (3, Ba false), (4, Ia 1), (12, Ba true)] [] ?_)))
      refine seq_n (vc_seqr rfl (iQ 1 (iB .add 3 (.int .i64 1) (.int .i64 1) (some 14) ?_)))
      intro z14 hz14
      try replace hz14 := hz14.i64 (by omega)
      refine iQ 2 (iL .len [9] [.string (tx l)] (some 17) ?_)
      intro n17 hn17
      have e17 : n17 = l.length := by rw [hn17]; exact tx_size l
      refine iB .lss 3 (.int .i64 1) (.int .i64 ((n17 : Nat))) (some 18) ?_
      intro c18 hc18
      refine iQ 1 ?_
      cases c18
      · replace hc18 := bf hc18
        refine iQ 7 (iE 25 [(0, .d (Sv (tx l))), (2, Ia z14), (3, Ba false), (12, Ba true)] [] ?_)
        refine vc_ret (iS (Iv z14) (Bv false) [] ?_)
        exact ⟨_, by rw [hsg, hz14]; rfl, by rw [hsg, List.getElem?_eq_none (by omega)]; simp⟩
      · replace hc18 := bt hc18
        refine iQ 2 (iX 9 (.string (tx l)) (.int .i64 1) (some 22) ?_)
        have hlt : 1 < l.length := by omega
        refine And.intro (by rw [tx_size]; omega) ?_
        intro z22 hz22
        have e22 := at_tx (c := 80) hlt hz22
        refine iB .eql 5 (.int .u8 z22) (.int .u8 80) (some 23) ?_
        intro c23 hc23
        refine iQ 3 (iE 25 [(0, .d (Sv (tx l))), (2, Ia z14), (3, Ba c23), (12, Ba true)] [] ?_)
        refine vc_ret (iS (Iv z14) (Bv c23) [] ?_)
        exact ⟨_, by rw [hsg, hz14]; rfl, by rw [hc23, hsg]; exact e22⟩
def PcP (l : L8) (a : Nat) (c : UInt8) (t most : Nat) (r : DV) : Prop := ∃ (n k : Nat) (b : Bool), r = .tup [.v (.int .i64 (n : Int)), .v (.int .i64 (k : Int)), .v (.bool b)] ∧ PcOk l a c t most n k b
theorem PcP_ex (l : L8) (a : Nat) (c : UInt8) (t most : Nat) (ha : a ≤ l.length) : ∃ r, PcP l a c t most r := by
  have hl := ndg_le (l.drop a)
  rw [List.length_drop] at hl
  have hd : DgR l a (a + ndg (l.drop a)) := ⟨by omega, by omega, take_all (by omega)⟩
  by_cases h : a + ndg (l.drop a) = a ∨ a + ndg (l.drop a) - a > most ∨ l[a + ndg (l.drop a)]? ≠ some c
  · exact ⟨_, _, _, _, rfl, PcOk.no hd (.inr (by omega)) h⟩
  · simp only [not_or] at h
    exact ⟨_, _, _, _, rfl, PcOk.yes hd (by omega) h.1 h.2.1 (Classical.not_not.1 h.2.2)⟩
theorem none_ne {l : L8} {k : Nat} {c : UInt8} (h : l.length ≤ k) : l[k]? ≠ some c := by rw [List.getElem?_eq_none h]; simp
theorem dig_tx {l : L8} {z : Int} {k : Nat} (h : k < l.length) (hz : z = strAt (tx l) k) : z = ((l[k]'h).toNat : Int) := by rw [hz, strAt_tx (List.getElem?_eq_getElem h)]

set_option maxHeartbeats 1600000 in
theorem c_pc {l : L8} {a t most : Nat} {c : UInt8} (ha : a ≤ l.length) (hm : most ≤ 15) (ht : 10 ^ most * t ≤ 100000000000000000) (hL : l.length ≤ 9223372036854775807) : HasC Tryd.prog 52 [.v (.string (tx l)), .v (.int .i64 ((a : Int))), .v (.int .u8 ((c.toNat : Int))), .v (.int .i64 ((t : Int))), .v (.int .i64 ((most : Int)))] (PcP l a c t most) := by
  refine HasC.of [] (fn := Tryd.f52) tyOk mixed (fun args w => Tryd.call52 args w) Tryd.func52 rfl (by kernel_rfl) (Nat.le_of_ble_eq_true rfl) (PcP_ex l a c t most ha) ?_
  refine vc_seqr rfl (iQ 3 (iE 78 [(0, .d (Sv (tx l))), (1, Ia ((a : Int))), (2, .d (.v (.int .u8 ((c.toNat : Int))))), (3, Ia ((t : Int))), (4, Ia ((most : Int))), (10, Ia 0), (11, Ia 0), (12, Ba false)] [] ?_))
  refine vc_seqr rfl (iQ 3 (iE 78 [(0, .d (Sv (tx l))), (1, Ia ((a : Int))), (2, .d (.v (.int .u8 ((c.toNat : Int))))), (3, Ia ((t : Int))), (4, Ia ((most : Int))), (10, Ia 0), (11, Ia 0), (12, Ba false), (13, Ia ((a : Int))), (14, Ia 0)] [] ?_))
  refine vc_seq (vc_block (vc_loop 78 (fun (vcx : Nat × Nat) => match vcx with | (k, n) => [(0, .d (Sv (tx l))), (1, Ia ((a : Int))), (2, .d (.v (.int .u8 ((c.toNat : Int))))), (3, Ia ((t : Int))), (4, Ia ((most : Int))), (10, Ia 0), (11, Ia 0), (12, Ba false), (13, Ia ((k : Int))), (14, Ia ((n : Int)))]) (fun (vcx : Nat × Nat) => match vcx with | (k, n) => []) (fun (vcx : Nat × Nat) => match vcx with | (k, n) => DgR l a k ∧ n = nvL ((l.drop a).take (k - a)) ∧ k - a ≤ most + 1) (fun (vcx : Nat × Nat) => match vcx with | (k, n) => l.length - k) ((a, 0)) (⟨DgR.zero ha, by simp [nvL, nvA], by omega⟩) (by kernel_rfl) (by kernel_rfl) ?_))
  rintro ⟨k, n⟩ hinv
  simp only at hinv
  obtain ⟨h1, h2, h3⟩ := hinv
  have hak := h1.1
  have hkl := h1.2.1
  refine vc_seq (vc_seqr rfl (iQ 2 (iL .len [9] [.string (tx l)] (some 18) ?_)))
  intro n18 hn18
  have e18 : n18 = l.length := by rw [hn18]; exact tx_size l
  refine iB .lss 3 (.int .i64 ((k : Int))) (.int .i64 ((n18 : Nat))) (some 19) ?_
  intro c19 hc19
  refine iQ 1 ?_
  cases c19
  · replace hc19 := bf hc19
    refine iQ 18 (iE 78 [(0, .d (Sv (tx l))), (1, Ia ((a : Int))), (2, .d (.v (.int .u8 ((c.toNat : Int))))), (3, Ia ((t : Int))), (4, Ia ((most : Int))), (10, Ia 0), (11, Ia 0), (12, Ba false), (13, Ia ((k : Int))), (14, Ia ((n : Int))), (38, Ba false)] [] ?_)
    have hE : k - a > most ∨ ndg (l.drop a) = k - a := .inr (h1.eq (fun x hx => by rw [List.getElem?_eq_none (by omega)] at hx; cases hx))
    refine iF (vc_exit (seq_x (loop_x (block_x rfl (seq_n (vc_seq (vc_seqr rfl (iQ 2 (iB .eql 3 (.int .i64 ((k : Int))) (.int .i64 ((a : Int))) (some 51) ?_)))))))))
    intro c51 hc51
    refine iQ 1 ?_
    cases c51
    · replace hc51 := bf hc51
      refine iQ 2 (iB .sub 3 (.int .i64 ((k : Int))) (.int .i64 ((a : Int))) (some 55) ?_)
      intro z55 hz55
      try replace hz55 := hz55.i64 (by omega)
      refine iQ 1 (iB .gtr 3 (.int .i64 z55) (.int .i64 ((most : Int))) (some 57) ?_)
      intro c57 hc57
      refine iQ 2 ?_
      cases c57
      · replace hc57 := bf hc57
        refine iQ 2 (iL .len [9] [.string (tx l)] (some 62) ?_)
        intro n62 hn62
        have e62 : n62 = l.length := by rw [hn62]; exact tx_size l
        refine iB .geq 3 (.int .i64 ((k : Int))) (.int .i64 ((n62 : Nat))) (some 63) ?_
        intro c63 hc63
        refine iQ 2 ?_
        cases c63
        · replace hc63 := bf hc63
          refine iQ 2 (iX 9 (.string (tx l)) (.int .i64 ((k : Int))) (some 68) ?_)
          have hlt2 : k < l.length := by omega
          refine And.intro (by rw [tx_size]; omega) ?_
          intro z68 hz68
          have e68 := at_tx (z := z68) (c := c) hlt2 (by rw [hz68, Int.toNat_natCast])
          refine iQ 1 (iB .neq 5 (.int .u8 z68) (.int .u8 ((c.toNat : Int))) (some 70) ?_)
          intro c70 hc70
          refine iQ 1 (iE 78 [(0, .d (Sv (tx l))), (1, Ia ((a : Int))), (3, Ia ((t : Int))), (4, Ia ((most : Int))), (10, Ia 0), (11, Ia 0), (12, Ba false), (13, Ia ((k : Int))), (14, Ia ((n : Int))), (38, Ba false), (71, Ba c70)] [] ?_)
          cases c70
          · replace hc70 := bf hc70
            have hEq : ndg (l.drop a) = k - a := by rcases hE with q | q; omega; exact q
            have hlt10 := h1.lt (m := most) (by omega)
            have hmul : n * t ≤ 10 ^ most * t := Nat.mul_le_mul_right _ (by omega)
            refine iF (vc_skip (seq_n (vc_seqr rfl (iQ 2 (iB .mul 3 (.int .i64 ((n : Int))) (.int .i64 ((t : Int))) (some 75) ?_)))))
            intro z75 hz75
            try replace hz75 := hz75.i64 (by omega)
            have e75 : z75 = ((n * t : Nat) : Int) := by rw [hz75]; exact (Int.natCast_mul n t).symm
            refine iQ 1 (iB .add 3 (.int .i64 ((k : Int))) (.int .i64 1) (some 77) ?_)
            intro z77 hz77
            try replace hz77 := hz77.i64 (by omega)
            have e77 : z77 = ((k + 1 : Nat) : Int) := by omega
            refine iQ 3 (iE 78 [(0, .d (Sv (tx l))), (1, Ia ((a : Int))), (4, Ia ((most : Int))), (10, Ia z75), (11, Ia z77), (12, Ba true), (13, Ia ((k : Int))), (14, Ia ((n : Int))), (38, Ba false), (71, Ba false)] [] ?_)
            refine vc_ret (iS (Iv z75) (Iv z77) [Bv true] ?_)
            rw [e75, e77]; exact ⟨n * t, k + 1, true, rfl, by rw [h2]; exact PcOk.yes h1 hEq (by omega) (by omega) (e68.1 (Classical.not_not.1 hc70))⟩
          · replace hc70 := bt hc70
            refine iT (vc_seqr rfl (iQ 4 (iE 78 [(0, .d (Sv (tx l))), (1, Ia ((a : Int))), (3, Ia ((t : Int))), (4, Ia ((most : Int))), (10, Ia 0), (11, Ia ((a : Int))), (12, Ba false), (13, Ia ((k : Int))), (14, Ia ((n : Int))), (38, Ba false), (71, Ba true)] [] ?_)))
            refine vc_ret (seq_r (iS (Iv 0) (Iv ((a : Int))) [Bv false] ?_))
            exact ⟨0, a, false, rfl, PcOk.no h1 hE (.inr (.inr (mt e68.2 hc70)))⟩
        · replace hc63 := bt hc63
          refine iQ 6 (iE 78 [(0, .d (Sv (tx l))), (1, Ia ((a : Int))), (3, Ia ((t : Int))), (4, Ia ((most : Int))), (10, Ia 0), (11, Ia 0), (12, Ba false), (13, Ia ((k : Int))), (14, Ia ((n : Int))), (38, Ba false), (71, Ba true)] [] ?_)
          refine iT (vc_seqr rfl (iQ 4 (iE 78 [(0, .d (Sv (tx l))), (1, Ia ((a : Int))), (3, Ia ((t : Int))), (4, Ia ((most : Int))), (10, Ia 0), (11, Ia ((a : Int))), (12, Ba false), (13, Ia ((k : Int))), (14, Ia ((n : Int))), (38, Ba false), (71, Ba true)] [] ?_)))
          refine vc_ret (seq_r (iS (Iv 0) (Iv ((a : Int))) [Bv false] ?_))
          exact ⟨0, a, false, rfl, PcOk.no h1 hE (.inr (.inr (none_ne (by omega))))⟩
      · replace hc57 := bt hc57
        refine iQ 12 (iE 78 [(0, .d (Sv (tx l))), (1, Ia ((a : Int))), (3, Ia ((t : Int))), (4, Ia ((most : Int))), (10, Ia 0), (11, Ia 0), (12, Ba false), (13, Ia ((k : Int))), (14, Ia ((n : Int))), (38, Ba false), (71, Ba true)] [] ?_)
        refine iT (vc_seqr rfl (iQ 4 (iE 78 [(0, .d (Sv (tx l))), (1, Ia ((a : Int))), (3, Ia ((t : Int))), (4, Ia ((most : Int))), (10, Ia 0), (11, Ia ((a : Int))), (12, Ba false), (13, Ia ((k : Int))), (14, Ia ((n : Int))), (38, Ba false), (71, Ba true)] [] ?_)))
        refine vc_ret (seq_r (iS (Iv 0) (Iv ((a : Int))) [Bv false] ?_))
        exact ⟨0, a, false, rfl, PcOk.no h1 hE (.inr (.inl (by omega)))⟩
    · replace hc51 := bt hc51
      refine iQ 19 (iE 78 [(0, .d (Sv (tx l))), (1, Ia ((a : Int))), (3, Ia ((t : Int))), (4, Ia ((most : Int))), (10, Ia 0), (11, Ia 0), (12, Ba false), (13, Ia ((k : Int))), (14, Ia ((n : Int))), (38, Ba false), (71, Ba true)] [] ?_)
      refine iT (vc_seqr rfl (iQ 4 (iE 78 [(0, .d (Sv (tx l))), (1, Ia ((a : Int))), (3, Ia ((t : Int))), (4, Ia ((most : Int))), (10, Ia 0), (11, Ia ((a : Int))), (12, Ba false), (13, Ia ((k : Int))), (14, Ia ((n : Int))), (38, Ba false), (71, Ba true)] [] ?_)))
      refine vc_ret (seq_r (iS (Iv 0) (Iv ((a : Int))) [Bv false] ?_))
      exact ⟨0, a, false, rfl, PcOk.no h1 hE (.inl (by omega))⟩
  · replace hc19 := bt hc19
    refine iQ 2 (iX 9 (.string (tx l)) (.int .i64 ((k : Int))) (some 23) ?_)
    have hlt : k < l.length := by omega
    have hg := List.getElem?_eq_getElem hlt
    refine And.intro (by rw [tx_size]; omega) ?_
    intro z23 hz23
    have e23 := dig_tx (z := z23) hlt (by rw [hz23, Int.toNat_natCast])
    refine iB .geq 5 (.int .u8 z23) (.int .u8 48) (some 24) ?_
    intro c24 hc24
    refine iQ 2 ?_
    cases c24
    · replace hc24 := bf hc24
      refine iQ 12 (iE 78 [(0, .d (Sv (tx l))), (1, Ia ((a : Int))), (2, .d (.v (.int .u8 ((c.toNat : Int))))), (3, Ia ((t : Int))), (4, Ia ((most : Int))), (10, Ia 0), (11, Ia 0), (12, Ba false), (13, Ia ((k : Int))), (14, Ia ((n : Int))), (38, Ba false)] [] ?_)
      have hE : k - a > most ∨ ndg (l.drop a) = k - a := .inr (h1.eq (fun x hx => by rw [hg] at hx; cases hx; exact b_false fun e => by have := isDg_iff.1 e; omega))
      refine iF (vc_exit (seq_x (loop_x (block_x rfl (seq_n (vc_seq (vc_seqr rfl (iQ 2 (iB .eql 3 (.int .i64 ((k : Int))) (.int .i64 ((a : Int))) (some 51) ?_)))))))))
      intro c51 hc51
      refine iQ 1 ?_
      cases c51
      · replace hc51 := bf hc51
        refine iQ 2 (iB .sub 3 (.int .i64 ((k : Int))) (.int .i64 ((a : Int))) (some 55) ?_)
        intro z55 hz55
        try replace hz55 := hz55.i64 (by omega)
        refine iQ 1 (iB .gtr 3 (.int .i64 z55) (.int .i64 ((most : Int))) (some 57) ?_)
        intro c57 hc57
        refine iQ 2 ?_
        cases c57
        · replace hc57 := bf hc57
          refine iQ 2 (iL .len [9] [.string (tx l)] (some 62) ?_)
          intro n62 hn62
          have e62 : n62 = l.length := by rw [hn62]; exact tx_size l
          refine iB .geq 3 (.int .i64 ((k : Int))) (.int .i64 ((n62 : Nat))) (some 63) ?_
          intro c63 hc63
          refine iQ 2 ?_
          cases c63
          · replace hc63 := bf hc63
            refine iQ 2 (iX 9 (.string (tx l)) (.int .i64 ((k : Int))) (some 68) ?_)
            have hlt2 : k < l.length := by omega
            refine And.intro (by rw [tx_size]; omega) ?_
            intro z68 hz68
            have e68 := at_tx (z := z68) (c := c) hlt2 (by rw [hz68, Int.toNat_natCast])
            refine iQ 1 (iB .neq 5 (.int .u8 z68) (.int .u8 ((c.toNat : Int))) (some 70) ?_)
            intro c70 hc70
            refine iQ 1 (iE 78 [(0, .d (Sv (tx l))), (1, Ia ((a : Int))), (3, Ia ((t : Int))), (4, Ia ((most : Int))), (10, Ia 0), (11, Ia 0), (12, Ba false), (13, Ia ((k : Int))), (14, Ia ((n : Int))), (38, Ba false), (71, Ba c70)] [] ?_)
            cases c70
            · replace hc70 := bf hc70
              have hEq : ndg (l.drop a) = k - a := by rcases hE with q | q; omega; exact q
              have hlt10 := h1.lt (m := most) (by omega)
              have hmul : n * t ≤ 10 ^ most * t := Nat.mul_le_mul_right _ (by omega)
              refine iF (vc_skip (seq_n (vc_seqr rfl (iQ 2 (iB .mul 3 (.int .i64 ((n : Int))) (.int .i64 ((t : Int))) (some 75) ?_)))))
              intro z75 hz75
              try replace hz75 := hz75.i64 (by omega)
              have e75 : z75 = ((n * t : Nat) : Int) := by rw [hz75]; exact (Int.natCast_mul n t).symm
              refine iQ 1 (iB .add 3 (.int .i64 ((k : Int))) (.int .i64 1) (some 77) ?_)
              intro z77 hz77
              try replace hz77 := hz77.i64 (by omega)
              have e77 : z77 = ((k + 1 : Nat) : Int) := by omega
              refine iQ 3 (iE 78 [(0, .d (Sv (tx l))), (1, Ia ((a : Int))), (4, Ia ((most : Int))), (10, Ia z75), (11, Ia z77), (12, Ba true), (13, Ia ((k : Int))), (14, Ia ((n : Int))), (38, Ba false), (71, Ba false)] [] ?_)
              refine vc_ret (iS (Iv z75) (Iv z77) [Bv true] ?_)
              rw [e75, e77]; exact ⟨n * t, k + 1, true, rfl, by rw [h2]; exact PcOk.yes h1 hEq (by omega) (by omega) (e68.1 (Classical.not_not.1 hc70))⟩
            · replace hc70 := bt hc70
              refine iT (vc_seqr rfl (iQ 4 (iE 78 [(0, .d (Sv (tx l))), (1, Ia ((a : Int))), (3, Ia ((t : Int))), (4, Ia ((most : Int))), (10, Ia 0), (11, Ia ((a : Int))), (12, Ba false), (13, Ia ((k : Int))), (14, Ia ((n : Int))), (38, Ba false), (71, Ba true)] [] ?_)))
              refine vc_ret (seq_r (iS (Iv 0) (Iv ((a : Int))) [Bv false] ?_))
              exact ⟨0, a, false, rfl, PcOk.no h1 hE (.inr (.inr (mt e68.2 hc70)))⟩
          · replace hc63 := bt hc63
            refine iQ 6 (iE 78 [(0, .d (Sv (tx l))), (1, Ia ((a : Int))), (3, Ia ((t : Int))), (4, Ia ((most : Int))), (10, Ia 0), (11, Ia 0), (12, Ba false), (13, Ia ((k : Int))), (14, Ia ((n : Int))), (38, Ba false), (71, Ba true)] [] ?_)
            refine iT (vc_seqr rfl (iQ 4 (iE 78 [(0, .d (Sv (tx l))), (1, Ia ((a : Int))), (3, Ia ((t : Int))), (4, Ia ((most : Int))), (10, Ia 0), (11, Ia ((a : Int))), (12, Ba false), (13, Ia ((k : Int))), (14, Ia ((n : Int))), (38, Ba false), (71, Ba true)] [] ?_)))
            refine vc_ret (seq_r (iS (Iv 0) (Iv ((a : Int))) [Bv false] ?_))
            exact ⟨0, a, false, rfl, PcOk.no h1 hE (.inr (.inr (none_ne (by omega))))⟩
        · replace hc57 := bt hc57
          refine iQ 12 (iE 78 [(0, .d (Sv (tx l))), (1, Ia ((a : Int))), (3, Ia ((t : Int))), (4, Ia ((most : Int))), (10, Ia 0), (11, Ia 0), (12, Ba false), (13, Ia ((k : Int))), (14, Ia ((n : Int))), (38, Ba false), (71, Ba true)] [] ?_)
          refine iT (vc_seqr rfl (iQ 4 (iE 78 [(0, .d (Sv (tx l))), (1, Ia ((a : Int))), (3, Ia ((t : Int))), (4, Ia ((most : Int))), (10, Ia 0), (11, Ia ((a : Int))), (12, Ba false), (13, Ia ((k : Int))), (14, Ia ((n : Int))), (38, Ba false), (71, Ba true)] [] ?_)))
          refine vc_ret (seq_r (iS (Iv 0) (Iv ((a : Int))) [Bv false] ?_))
          exact ⟨0, a, false, rfl, PcOk.no h1 hE (.inr (.inl (by omega)))⟩
      · replace hc51 := bt hc51
        refine iQ 19 (iE 78 [(0, .d (Sv (tx l))), (1, Ia ((a : Int))), (3, Ia ((t : Int))), (4, Ia ((most : Int))), (10, Ia 0), (11, Ia 0), (12, Ba false), (13, Ia ((k : Int))), (14, Ia ((n : Int))), (38, Ba false), (71, Ba true)] [] ?_)
        refine iT (vc_seqr rfl (iQ 4 (iE 78 [(0, .d (Sv (tx l))), (1, Ia ((a : Int))), (3, Ia ((t : Int))), (4, Ia ((most : Int))), (10, Ia 0), (11, Ia ((a : Int))), (12, Ba false), (13, Ia ((k : Int))), (14, Ia ((n : Int))), (38, Ba false), (71, Ba true)] [] ?_)))
        refine vc_ret (seq_r (iS (Iv 0) (Iv ((a : Int))) [Bv false] ?_))
        exact ⟨0, a, false, rfl, PcOk.no h1 hE (.inl (by omega))⟩
    · replace hc24 := bt hc24
      refine iQ 2 (iX 9 (.string (tx l)) (.int .i64 ((k : Int))) (some 29) ?_)
      refine And.intro (by rw [tx_size]; omega) ?_
      intro z29 hz29
      have e29 := dig_tx (z := z29) hlt (by rw [hz29, Int.toNat_natCast])
      refine iB .leq 5 (.int .u8 z29) (.int .u8 57) (some 30) ?_
      intro c30 hc30
      refine iQ 2 ?_
      cases c30
      · replace hc30 := bf hc30
        refine iQ 6 (iE 78 [(0, .d (Sv (tx l))), (1, Ia ((a : Int))), (2, .d (.v (.int .u8 ((c.toNat : Int))))), (3, Ia ((t : Int))), (4, Ia ((most : Int))), (10, Ia 0), (11, Ia 0), (12, Ba false), (13, Ia ((k : Int))), (14, Ia ((n : Int))), (38, Ba false)] [] ?_)
        have hE : k - a > most ∨ ndg (l.drop a) = k - a := .inr (h1.eq (fun x hx => by rw [hg] at hx; cases hx; exact b_false fun e => by have := isDg_iff.1 e; omega))
        refine iF (vc_exit (seq_x (loop_x (block_x rfl (seq_n (vc_seq (vc_seqr rfl (iQ 2 (iB .eql 3 (.int .i64 ((k : Int))) (.int .i64 ((a : Int))) (some 51) ?_)))))))))
        intro c51 hc51
        refine iQ 1 ?_
        cases c51
        · replace hc51 := bf hc51
          refine iQ 2 (iB .sub 3 (.int .i64 ((k : Int))) (.int .i64 ((a : Int))) (some 55) ?_)
          intro z55 hz55
          try replace hz55 := hz55.i64 (by omega)
          refine iQ 1 (iB .gtr 3 (.int .i64 z55) (.int .i64 ((most : Int))) (some 57) ?_)
          intro c57 hc57
          refine iQ 2 ?_
          cases c57
          · replace hc57 := bf hc57
            refine iQ 2 (iL .len [9] [.string (tx l)] (some 62) ?_)
            intro n62 hn62
            have e62 : n62 = l.length := by rw [hn62]; exact tx_size l
            refine iB .geq 3 (.int .i64 ((k : Int))) (.int .i64 ((n62 : Nat))) (some 63) ?_
            intro c63 hc63
            refine iQ 2 ?_
            cases c63
            · replace hc63 := bf hc63
              refine iQ 2 (iX 9 (.string (tx l)) (.int .i64 ((k : Int))) (some 68) ?_)
              have hlt2 : k < l.length := by omega
              refine And.intro (by rw [tx_size]; omega) ?_
              intro z68 hz68
              have e68 := at_tx (z := z68) (c := c) hlt2 (by rw [hz68, Int.toNat_natCast])
              refine iQ 1 (iB .neq 5 (.int .u8 z68) (.int .u8 ((c.toNat : Int))) (some 70) ?_)
              intro c70 hc70
              refine iQ 1 (iE 78 [(0, .d (Sv (tx l))), (1, Ia ((a : Int))), (3, Ia ((t : Int))), (4, Ia ((most : Int))), (10, Ia 0), (11, Ia 0), (12, Ba false), (13, Ia ((k : Int))), (14, Ia ((n : Int))), (38, Ba false), (71, Ba c70)] [] ?_)
              cases c70
              · replace hc70 := bf hc70
                have hEq : ndg (l.drop a) = k - a := by rcases hE with q | q; omega; exact q
                have hlt10 := h1.lt (m := most) (by omega)
                have hmul : n * t ≤ 10 ^ most * t := Nat.mul_le_mul_right _ (by omega)
                refine iF (vc_skip (seq_n (vc_seqr rfl (iQ 2 (iB .mul 3 (.int .i64 ((n : Int))) (.int .i64 ((t : Int))) (some 75) ?_)))))
                intro z75 hz75
                try replace hz75 := hz75.i64 (by omega)
                have e75 : z75 = ((n * t : Nat) : Int) := by rw [hz75]; exact (Int.natCast_mul n t).symm
                refine iQ 1 (iB .add 3 (.int .i64 ((k : Int))) (.int .i64 1) (some 77) ?_)
                intro z77 hz77
                try replace hz77 := hz77.i64 (by omega)
                have e77 : z77 = ((k + 1 : Nat) : Int) := by omega
                refine iQ 3 (iE 78 [(0, .d (Sv (tx l))), (1, Ia ((a : Int))), (4, Ia ((most : Int))), (10, Ia z75), (11, Ia z77), (12, Ba true), (13, Ia ((k : Int))), (14, Ia ((n : Int))), (38, Ba false), (71, Ba false)] [] ?_)
                refine vc_ret (iS (Iv z75) (Iv z77) [Bv true] ?_)
                rw [e75, e77]; exact ⟨n * t, k + 1, true, rfl, by rw [h2]; exact PcOk.yes h1 hEq (by omega) (by omega) (e68.1 (Classical.not_not.1 hc70))⟩
              · replace hc70 := bt hc70
                refine iT (vc_seqr rfl (iQ 4 (iE 78 [(0, .d (Sv (tx l))), (1, Ia ((a : Int))), (3, Ia ((t : Int))), (4, Ia ((most : Int))), (10, Ia 0), (11, Ia ((a : Int))), (12, Ba false), (13, Ia ((k : Int))), (14, Ia ((n : Int))), (38, Ba false), (71, Ba true)] [] ?_)))
                refine vc_ret (seq_r (iS (Iv 0) (Iv ((a : Int))) [Bv false] ?_))
                exact ⟨0, a, false, rfl, PcOk.no h1 hE (.inr (.inr (mt e68.2 hc70)))⟩
            · replace hc63 := bt hc63
              refine iQ 6 (iE 78 [(0, .d (Sv (tx l))), (1, Ia ((a : Int))), (3, Ia ((t : Int))), (4, Ia ((most : Int))), (10, Ia 0), (11, Ia 0), (12, Ba false), (13, Ia ((k : Int))), (14, Ia ((n : Int))), (38, Ba false), (71, Ba true)] [] ?_)
              refine iT (vc_seqr rfl (iQ 4 (iE 78 [(0, .d (Sv (tx l))), (1, Ia ((a : Int))), (3, Ia ((t : Int))), (4, Ia ((most : Int))), (10, Ia 0), (11, Ia ((a : Int))), (12, Ba false), (13, Ia ((k : Int))), (14, Ia ((n : Int))), (38, Ba false), (71, Ba true)] [] ?_)))
              refine vc_ret (seq_r (iS (Iv 0) (Iv ((a : Int))) [Bv false] ?_))
              exact ⟨0, a, false, rfl, PcOk.no h1 hE (.inr (.inr (none_ne (by omega))))⟩
          · replace hc57 := bt hc57
            refine iQ 12 (iE 78 [(0, .d (Sv (tx l))), (1, Ia ((a : Int))), (3, Ia ((t : Int))), (4, Ia ((most : Int))), (10, Ia 0), (11, Ia 0), (12, Ba false), (13, Ia ((k : Int))), (14, Ia ((n : Int))), (38, Ba false), (71, Ba true)] [] ?_)
            refine iT (vc_seqr rfl (iQ 4 (iE 78 [(0, .d (Sv (tx l))), (1, Ia ((a : Int))), (3, Ia ((t : Int))), (4, Ia ((most : Int))), (10, Ia 0), (11, Ia ((a : Int))), (12, Ba false), (13, Ia ((k : Int))), (14, Ia ((n : Int))), (38, Ba false), (71, Ba true)] [] ?_)))
            refine vc_ret (seq_r (iS (Iv 0) (Iv ((a : Int))) [Bv false] ?_))
            exact ⟨0, a, false, rfl, PcOk.no h1 hE (.inr (.inl (by omega)))⟩
        · replace hc51 := bt hc51
          refine iQ 19 (iE 78 [(0, .d (Sv (tx l))), (1, Ia ((a : Int))), (3, Ia ((t : Int))), (4, Ia ((most : Int))), (10, Ia 0), (11, Ia 0), (12, Ba false), (13, Ia ((k : Int))), (14, Ia ((n : Int))), (38, Ba false), (71, Ba true)] [] ?_)
          refine iT (vc_seqr rfl (iQ 4 (iE 78 [(0, .d (Sv (tx l))), (1, Ia ((a : Int))), (3, Ia ((t : Int))), (4, Ia ((most : Int))), (10, Ia 0), (11, Ia ((a : Int))), (12, Ba false), (13, Ia ((k : Int))), (14, Ia ((n : Int))), (38, Ba false), (71, Ba true)] [] ?_)))
          refine vc_ret (seq_r (iS (Iv 0) (Iv ((a : Int))) [Bv false] ?_))
          exact ⟨0, a, false, rfl, PcOk.no h1 hE (.inl (by omega))⟩
      · replace hc30 := bt hc30
        refine iQ 2 (iB .sub 3 (.int .i64 ((k : Int))) (.int .i64 ((a : Int))) (some 35) ?_)
        intro z35 hz35
        try replace hz35 := hz35.i64 (by omega)
        refine iQ 1 (iB .leq 3 (.int .i64 z35) (.int .i64 ((most : Int))) (some 37) ?_)
        intro c37 hc37
        refine iQ 1 (iE 78 [(0, .d (Sv (tx l))), (1, Ia ((a : Int))), (2, .d (.v (.int .u8 ((c.toNat : Int))))), (3, Ia ((t : Int))), (4, Ia ((most : Int))), (10, Ia 0), (11, Ia 0), (12, Ba false), (13, Ia ((k : Int))), (14, Ia ((n : Int))), (38, Ba c37)] [] ?_)
        cases c37
        · replace hc37 := bf hc37
          have hE : k - a > most ∨ ndg (l.drop a) = k - a := .inl (by omega)
          refine iF (vc_exit (seq_x (loop_x (block_x rfl (seq_n (vc_seq (vc_seqr rfl (iQ 2 (iB .eql 3 (.int .i64 ((k : Int))) (.int .i64 ((a : Int))) (some 51) ?_)))))))))
          intro c51 hc51
          refine iQ 1 ?_
          cases c51
          · replace hc51 := bf hc51
            refine iQ 2 (iB .sub 3 (.int .i64 ((k : Int))) (.int .i64 ((a : Int))) (some 55) ?_)
            intro z55 hz55
            try replace hz55 := hz55.i64 (by omega)
            refine iQ 1 (iB .gtr 3 (.int .i64 z55) (.int .i64 ((most : Int))) (some 57) ?_)
            intro c57 hc57
            refine iQ 2 ?_
            cases c57
            · replace hc57 := bf hc57
              refine iQ 2 (iL .len [9] [.string (tx l)] (some 62) ?_)
              intro n62 hn62
              have e62 : n62 = l.length := by rw [hn62]; exact tx_size l
              refine iB .geq 3 (.int .i64 ((k : Int))) (.int .i64 ((n62 : Nat))) (some 63) ?_
              intro c63 hc63
              refine iQ 2 ?_
              cases c63
              · replace hc63 := bf hc63
                refine iQ 2 (iX 9 (.string (tx l)) (.int .i64 ((k : Int))) (some 68) ?_)
                have hlt2 : k < l.length := by omega
                refine And.intro (by rw [tx_size]; omega) ?_
                intro z68 hz68
                have e68 := at_tx (z := z68) (c := c) hlt2 (by rw [hz68, Int.toNat_natCast])
                refine iQ 1 (iB .neq 5 (.int .u8 z68) (.int .u8 ((c.toNat : Int))) (some 70) ?_)
                intro c70 hc70
                refine iQ 1 (iE 78 [(0, .d (Sv (tx l))), (1, Ia ((a : Int))), (3, Ia ((t : Int))), (4, Ia ((most : Int))), (10, Ia 0), (11, Ia 0), (12, Ba false), (13, Ia ((k : Int))), (14, Ia ((n : Int))), (38, Ba false), (71, Ba c70)] [] ?_)
                cases c70
                · replace hc70 := bf hc70
                  have hEq : ndg (l.drop a) = k - a := by rcases hE with q | q; omega; exact q
                  have hlt10 := h1.lt (m := most) (by omega)
                  have hmul : n * t ≤ 10 ^ most * t := Nat.mul_le_mul_right _ (by omega)
                  refine iF (vc_skip (seq_n (vc_seqr rfl (iQ 2 (iB .mul 3 (.int .i64 ((n : Int))) (.int .i64 ((t : Int))) (some 75) ?_)))))
                  intro z75 hz75
                  try replace hz75 := hz75.i64 (by omega)
                  have e75 : z75 = ((n * t : Nat) : Int) := by rw [hz75]; exact (Int.natCast_mul n t).symm
                  refine iQ 1 (iB .add 3 (.int .i64 ((k : Int))) (.int .i64 1) (some 77) ?_)
                  intro z77 hz77
                  try replace hz77 := hz77.i64 (by omega)
                  have e77 : z77 = ((k + 1 : Nat) : Int) := by omega
                  refine iQ 3 (iE 78 [(0, .d (Sv (tx l))), (1, Ia ((a : Int))), (4, Ia ((most : Int))), (10, Ia z75), (11, Ia z77), (12, Ba true), (13, Ia ((k : Int))), (14, Ia ((n : Int))), (38, Ba false), (71, Ba false)] [] ?_)
                  refine vc_ret (iS (Iv z75) (Iv z77) [Bv true] ?_)
                  rw [e75, e77]; exact ⟨n * t, k + 1, true, rfl, by rw [h2]; exact PcOk.yes h1 hEq (by omega) (by omega) (e68.1 (Classical.not_not.1 hc70))⟩
                · replace hc70 := bt hc70
                  refine iT (vc_seqr rfl (iQ 4 (iE 78 [(0, .d (Sv (tx l))), (1, Ia ((a : Int))), (3, Ia ((t : Int))), (4, Ia ((most : Int))), (10, Ia 0), (11, Ia ((a : Int))), (12, Ba false), (13, Ia ((k : Int))), (14, Ia ((n : Int))), (38, Ba false), (71, Ba true)] [] ?_)))
                  refine vc_ret (seq_r (iS (Iv 0) (Iv ((a : Int))) [Bv false] ?_))
                  exact ⟨0, a, false, rfl, PcOk.no h1 hE (.inr (.inr (mt e68.2 hc70)))⟩
              · replace hc63 := bt hc63
                refine iQ 6 (iE 78 [(0, .d (Sv (tx l))), (1, Ia ((a : Int))), (3, Ia ((t : Int))), (4, Ia ((most : Int))), (10, Ia 0), (11, Ia 0), (12, Ba false), (13, Ia ((k : Int))), (14, Ia ((n : Int))), (38, Ba false), (71, Ba true)] [] ?_)
                refine iT (vc_seqr rfl (iQ 4 (iE 78 [(0, .d (Sv (tx l))), (1, Ia ((a : Int))), (3, Ia ((t : Int))), (4, Ia ((most : Int))), (10, Ia 0), (11, Ia ((a : Int))), (12, Ba false), (13, Ia ((k : Int))), (14, Ia ((n : Int))), (38, Ba false), (71, Ba true)] [] ?_)))
                refine vc_ret (seq_r (iS (Iv 0) (Iv ((a : Int))) [Bv false] ?_))
                exact ⟨0, a, false, rfl, PcOk.no h1 hE (.inr (.inr (none_ne (by omega))))⟩
            · replace hc57 := bt hc57
              refine iQ 12 (iE 78 [(0, .d (Sv (tx l))), (1, Ia ((a : Int))), (3, Ia ((t : Int))), (4, Ia ((most : Int))), (10, Ia 0), (11, Ia 0), (12, Ba false), (13, Ia ((k : Int))), (14, Ia ((n : Int))), (38, Ba false), (71, Ba true)] [] ?_)
              refine iT (vc_seqr rfl (iQ 4 (iE 78 [(0, .d (Sv (tx l))), (1, Ia ((a : Int))), (3, Ia ((t : Int))), (4, Ia ((most : Int))), (10, Ia 0), (11, Ia ((a : Int))), (12, Ba false), (13, Ia ((k : Int))), (14, Ia ((n : Int))), (38, Ba false), (71, Ba true)] [] ?_)))
              refine vc_ret (seq_r (iS (Iv 0) (Iv ((a : Int))) [Bv false] ?_))
              exact ⟨0, a, false, rfl, PcOk.no h1 hE (.inr (.inl (by omega)))⟩
          · replace hc51 := bt hc51
            refine iQ 19 (iE 78 [(0, .d (Sv (tx l))), (1, Ia ((a : Int))), (3, Ia ((t : Int))), (4, Ia ((most : Int))), (10, Ia 0), (11, Ia 0), (12, Ba false), (13, Ia ((k : Int))), (14, Ia ((n : Int))), (38, Ba false), (71, Ba true)] [] ?_)
            refine iT (vc_seqr rfl (iQ 4 (iE 78 [(0, .d (Sv (tx l))), (1, Ia ((a : Int))), (3, Ia ((t : Int))), (4, Ia ((most : Int))), (10, Ia 0), (11, Ia ((a : Int))), (12, Ba false), (13, Ia ((k : Int))), (14, Ia ((n : Int))), (38, Ba false), (71, Ba true)] [] ?_)))
            refine vc_ret (seq_r (iS (Iv 0) (Iv ((a : Int))) [Bv false] ?_))
            exact ⟨0, a, false, rfl, PcOk.no h1 hE (.inl (by omega))⟩
        · replace hc37 := bt hc37
          have hdg : isDg l[k] = true := isDg_iff.2 ⟨by omega, by omega⟩
          obtain ⟨d1, d2⟩ := h1.succ hg hdg
          have hn16 : n < 10 ^ 15 := by rw [h2]; exact h1.lt (by omega)
          refine iT (vc_skip (seq_n (vc_block (vc_seqr rfl (iQ 1 (iB .mul 3 (.int .i64 10) (.int .i64 ((n : Int))) (some 40) ?_))))))
          intro z40 hz40
          try replace hz40 := hz40.i64 (by omega)
          refine iQ 2 (iX 9 (.string (tx l)) (.int .i64 ((k : Int))) (some 43) ?_)
          refine And.intro (by rw [tx_size]; omega) ?_
          intro z43 hz43
          have e43 := dig_tx (z := z43) hlt (by rw [hz43, Int.toNat_natCast])
          refine iB .sub 5 (.int .u8 z43) (.int .u8 48) (some 44) ?_
          intro z44 hz44
          try replace hz44 := hz44.u8 (by omega)
          refine iV 5 3 (.int .u8 z44) (some 45) ?_
          intro z45 hz45
          try replace hz45 := hz45.i64 (by omega)
          refine iB .add 3 (.int .i64 z40) (.int .i64 z45) (some 46) ?_
          intro z46 hz46
          try replace hz46 := hz46.i64 (by omega)
          refine iQ 1 (iE 78 [(0, .d (Sv (tx l))), (1, Ia ((a : Int))), (2, .d (.v (.int .u8 ((c.toNat : Int))))), (3, Ia ((t : Int))), (4, Ia ((most : Int))), (10, Ia 0), (11, Ia 0), (12, Ba false), (13, Ia ((k : Int))), (14, Ia z46), (38, Ba true)] [] ?_)
          refine vc_reg rfl (iQ 1 (iB .add 3 (.int .i64 ((k : Int))) (.int .i64 1) (some 48) ?_))
          intro z48 hz48
          try replace hz48 := hz48.i64 (by omega)
          refine iQ 1 (iE 78 [(0, .d (Sv (tx l))), (1, Ia ((a : Int))), (2, .d (.v (.int .u8 ((c.toNat : Int))))), (3, Ia ((t : Int))), (4, Ia ((most : Int))), (10, Ia 0), (11, Ia 0), (12, Ba false), (13, Ia z48), (14, Ia z46), (38, Ba true)] [] ?_)
          refine block_n ?_
          obtain rfl : z46 = ((n * 10 + ((l[k]'hlt).toNat - 48) : Nat) : Int) := by omega
          obtain rfl : z48 = ((k + 1 : Nat) : Int) := by omega
          refine loop_n (k + 1, n * 10 + ((l[k]'hlt).toNat - 48)) (⟨d1, by rw [d2, h2], by omega⟩) (by show l.length - (k + 1) < l.length - k; omega) (by kernel_rfl) (by kernel_rfl)

theorem c_ended {l : L8} {n : Nat} {y : Int} (h0 : l ≠ []) (hy : y = (n : Int)) (hn : n ≤ 9223372036854775807) : HasC Tryd.prog 53 [.v (.string (tx l)), .v (.int .i64 y)] (OptP (signedS n (decide (l.head? = some 45)))) := by
  refine HasC.of [] (fn := Tryd.f53) tyOk mixed (fun args w => Tryd.call53 args w) Tryd.func53 rfl (by kernel_rfl) (Nat.le_of_ble_eq_true rfl) (OptP_ex _) ?_
  have h00 : 0 < l.length := List.length_pos_iff.2 h0
  refine vc_seqr rfl (iQ 2 (iE 14 [(0, .d (Sv (tx l))), (1, Ia y), (4, Ia 0), (5, Ba false)] [] ?_))
  refine vc_seq (vc_seqr rfl (iQ 1 (iB .gtr 3 (.int .i64 y) (.int .i64 9007199254740992) (some 7) ?_)))
  intro c7 hc7
  refine iE 14 [(0, .d (Sv (tx l))), (1, Ia y), (4, Ia 0), (5, Ba false), (7, Ba c7)] [] ?_
  cases c7
  · replace hc7 := bf hc7
    refine iF (vc_skip (seq_n (vc_seq (vc_seqr rfl (iQ 1 (iX 9 (.string (tx l)) (.int .i64 0) (some 9) ?_))))))
    refine And.intro (by rw [tx_size]; omega) ?_
    intro z9 hz9
    have e9 := at0_tx (c := 45) h0 hz9
    refine iB .eql 5 (.int .u8 z9) (.int .u8 45) (some 10) ?_
    intro c10 hc10
    refine iE 14 [(1, Ia y), (4, Ia 0), (5, Ba false), (7, Ba false), (10, Ba c10)] [] ?_
    cases c10
    · replace hc10 := bf hc10
      refine iF (vc_skip (seq_n (vc_seqr rfl (iQ 3 (iE 14 [(1, Ia y), (4, Ia y), (5, Ba true), (7, Ba false), (10, Ba false)] [] ?_)))))
      refine vc_ret (iS (Iv y) (Bv true) [] ?_)
      exact OptP_of (by rw [optS_yes (n := n) (neg := decide (l.head? = some 45)) (z := y) (by omega) (by rw [decide_eq_false (fun e => hc10 (e9.2 e))]; simpa using hy)])
    · replace hc10 := bt hc10
      refine iT (vc_seqr rfl (iQ 1 (iU .neg (.int .i64 y) (some 12) ?_)))
      intro z12 hz12
      try replace hz12 := hz12.i64 (by omega)
      refine iQ 2 (iE 14 [(1, Ia y), (4, Ia z12), (5, Ba true), (7, Ba false), (10, Ba true)] [] ?_)
      refine vc_ret (seq_r (iS (Iv z12) (Bv true) [] ?_))
      exact OptP_of (by rw [optS_yes (n := n) (neg := decide (l.head? = some 45)) (z := z12) (by omega) (by rw [decide_eq_true (e9.1 hc10), if_pos rfl]; omega)])
  · replace hc7 := bt hc7
    refine iT (vc_seqr rfl (iQ 2 (iE 14 [(0, .d (Sv (tx l))), (1, Ia y), (4, Ia 0), (5, Ba false), (7, Ba true)] [] ?_)))
    refine vc_ret (seq_r (iS (Iv 0) (Bv false) [] ?_))
    exact OptP_no (by rw [signedS, if_pos (by omega)])
theorem c_endedE {l : L8} {n : Nat} {y : Int} {g : Bool} (hg : g = decide (l.head? = some 45)) (h0 : l ≠ []) (hy : y = (n : Int)) (hn : n ≤ 9223372036854775807) : HasC Tryd.prog 53 [.v (.string (tx l)), .v (.int .i64 y)] (OptP (signedS n g)) := by subst hg; exact c_ended h0 hy hn
end Go.Proofs.YtjpaedjhihiakaaDoor
