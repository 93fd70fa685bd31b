/-
  lexical: ReadDays, ReadMonths; the document's days, months; LexicalSpans. The document's days and months; awake; LexicalSpans. The document's texts of days, times, durations; LexicalTells. LexicalMays, LexicalOrder.
-/
import Derived.Test.YtjpaedjhihiakaaDoorLexA
import Derived.Test.YtjpaedjhihiakaaDoorLexB
import Derived.Test.YtjpaedjhihiakaaDoorLexR
import Derived.Test.YtjpaedjhihiakaaDoorRtT
import Derived.Test.YtjpaedjhihiakaaDoorMk
import Derived.Test.YtjpaedjhihiakaaDoorLexO
namespace Go.Proofs.YtjpaedjhihiakaaDoor

open Go.RowKit
set_option linter.unusedVariables false
set_option linter.unusedSimpArgs false
set_option maxRecDepth 100000

def OptP (o : Option Int) (r : DV) : Prop := ∃ (z : Int) (g : Bool), r = .tup [.v (.int .i64 z), .v (.bool g)] ∧ .tup [.v (.int .i64 z), .v (.bool g)] = optT o
theorem OptP_ex (o : Option Int) : ∃ r, OptP o r := by
  cases o with
  | none => exact ⟨_, _, _, rfl, rfl⟩
  | some n => exact ⟨_, _, _, rfl, rfl⟩
theorem OptP_of {o : Option Int} {r : DV} (h : r = optT o) : OptP o r := by
  subst h
  cases o with
  | none => exact ⟨_, _, rfl, rfl⟩
  | some n => exact ⟨_, _, rfl, rfl⟩
theorem OptP_no {o : Option Int} (h : o = none) : OptP o (.tup [.v (.int .i64 0), .v (.bool false)]) := OptP_of (by rw [h]; rfl)
theorem OptP_eq {o : Option Int} {z z' : Int} {g g' : Bool} (h : .tup [.v (.int .i64 z), .v (.bool g)] = optT o) (hr : .tup [.v (.int .i64 z'), .v (.bool g')] = optT o) : z' = z ∧ g' = g := by
  rw [← h] at hr
  simp only [DV.tup.injEq, List.cons.injEq, DV.v.injEq, Value.int.injEq, Value.bool.injEq, true_and, and_true] at hr
  exact hr
/-- A second answer, where the first one is known. -/
theorem OptP_as {P : Program} {f : FuncId} {ds : List DV} {o : Option Int} {z : Int} {g : Bool} (c : HasC P f ds (OptP o)) (h : .tup [.v (.int .i64 z), .v (.bool g)] = optT o) : HasC P f ds (fun r => r = .tup [.v (.int .i64 z), .v (.bool g)]) :=
  c.mono fun r ⟨z', g', hr, h2⟩ => by
    obtain ⟨rfl, rfl⟩ := OptP_eq h h2
    exact hr
theorem OptP_at {P : Program} {f : FuncId} {ds : List DV} {o : Option Int} {n : Int} (c : HasC P f ds (OptP o)) (h : o = some n) : HasC P f ds (fun r => r = .tup [.v (.int .i64 n), .v (.bool true)]) := OptP_as c (by rw [h]; rfl)
theorem OptP_atno {P : Program} {f : FuncId} {ds : List DV} {o : Option Int} (c : HasC P f ds (OptP o)) (h : o = none) : HasC P f ds (fun r => r = .tup [.v (.int .i64 0), .v (.bool false)]) := OptP_as c (by rw [h]; rfl)
theorem c_signedQ {n : Nat} {z : Int} {neg : Bool} (hz : z = (n : Int)) (hn : n ≤ 9223372036854775807) : HasC Tryd.prog 50 [.v (.int .i64 z), .v (.bool neg)] (OptP (signedS n neg)) := by subst hz; exact (c_signed hn).mono fun r h => OptP_of h
theorem c_run1 {l : L8} {s : ByteArray} (hs : s = tx l) (hL : l.length ≤ 9223372036854775807) : HasC Tryd.prog 49 [.v (.string s), .v (.int .i64 12), .sl 1 [.v (.string ⟨#[68]⟩)], .sl 1 [.v (.int .i64 86400)]] (RunP 12 l [(68, 86400)]) :=
  c_runE (ps := [(68, 86400)]) hs (by decide) (by intro p hp; simp at hp; subst hp; decide) (by decide) hL
theorem c_run3 {l : L8} {s : ByteArray} (hs : s = tx l) (hL : l.length ≤ 9223372036854775807) : HasC Tryd.prog 49 [.v (.string s), .v (.int .i64 12), .sl 3 [.v (.string ⟨#[72]⟩), .v (.string ⟨#[77]⟩), .v (.string ⟨#[83]⟩)], .sl 3 [.v (.int .i64 3600), .v (.int .i64 60), .v (.int .i64 1)]] (RunP 12 l [(72, 3600), (77, 60), (83, 1)]) :=
  c_runE (ps := [(72, 3600), (77, 60), (83, 1)]) hs (by decide) (by intro p hp; simp at hp; rcases hp with rfl | rfl | rfl <;> decide) (by decide) hL
theorem c_run2 {l : L8} {s : ByteArray} (hs : s = tx l) (hL : l.length ≤ 9223372036854775807) : HasC Tryd.prog 49 [.v (.string s), .v (.int .i64 15), .sl 2 [.v (.string ⟨#[89]⟩), .v (.string ⟨#[77]⟩)], .sl 2 [.v (.int .i64 12), .v (.int .i64 1)]] (RunP 15 l [(89, 12), (77, 1)]) :=
  c_runE (ps := [(89, 12), (77, 1)]) hs (by decide) (by intro p hp; simp at hp; rcases hp with rfl | rfl <;> decide) (by decide) hL
theorem uns_len (l : L8) : (unsS l).1.length ≤ l.length ∧ ((unsS l).2 = true ↔ (unsS l).1.length ≠ l.length) := by
  unfold unsS
  split
  · rename_i h
    cases l with
    | nil => cases h
    | cons c r => simp
  · simp
theorem uns_negE {l : L8} {a b : Nat} {c : Bool} (ha : a = (unsS l).1.length) (hb : b = l.length) (h : c = true ↔ ¬ (a : Int) = b) : (unsS l).2 = c := by
  rw [Bool.eq_iff_iff, (uns_len l).2, h, ha, hb]
  omega
theorem daysS_no {l : L8} (h : (unsS l).1.head? ≠ some 80) : daysS l = none ∧ monthsS l = none := ⟨by rw [daysS, if_pos h], by rw [monthsS, if_pos h]⟩
theorem daysS_a {l l1 : L8} {n k : Nat} (h : (unsS l).1.head? = some 80) (hR : runA 12 (unsS l).1.tail [(68, 86400)] 0 0 = (n, l1, k)) (h1 : l1 = []) : daysS l = if k = 0 then none else signedS n (unsS l).2 := by
  rw [daysS, if_neg (by simp [h]), hR, if_pos h1]
theorem daysS_b {l l1 : L8} {n k : Nat} (h : (unsS l).1.head? = some 80) (hR : runA 12 (unsS l).1.tail [(68, 86400)] 0 0 = (n, l1, k)) (h1 : l1 ≠ []) (h2 : l1.head? ≠ some 84) : daysS l = none := by
  rw [daysS, if_neg (by simp [h]), hR, if_neg h1, if_pos h2]
theorem daysS_c {l l1 l2 : L8} {n k m j : Nat} (h : (unsS l).1.head? = some 80) (hR : runA 12 (unsS l).1.tail [(68, 86400)] 0 0 = (n, l1, k)) (h2 : l1.head? = some 84) (hR2 : runA 12 l1.tail [(72, 3600), (77, 60), (83, 1)] 0 0 = (m, l2, j)) : daysS l = if l2 ≠ [] ∨ j = 0 then none else signedS (n + m) (unsS l).2 := by
  have h1 : l1 ≠ [] := fun e => by rw [e] at h2; cases h2
  rw [daysS, if_neg (by simp [h]), hR, if_neg h1, if_neg (by simp [h2]), hR2]
theorem monthsS_a {l l1 : L8} {n k : Nat} (h : (unsS l).1.head? = some 80) (hR : runA 15 (unsS l).1.tail [(89, 12), (77, 1)] 0 0 = (n, l1, k)) : monthsS l = if l1 ≠ [] ∨ k = 0 then none else signedS n (unsS l).2 := by
  rw [monthsS, if_neg (by simp [h]), hR]
theorem at0_tx {l : L8} {z : Int} {c : UInt8} (h : l ≠ []) (hz : z = strAt (tx l) 0) : z = (c.toNat : Int) ↔ l.head? = some c := by
  cases l with
  | nil => exact absurd rfl h
  | cons x r =>
    rw [hz, strAt_tx (l := x :: r) (k := 0) (c := x) rfl]
    simp only [List.head?_cons, Option.some.injEq]
    constructor
    · intro e; exact UInt8.toNat_inj.1 (by omega)
    · rintro rfl; rfl
theorem tail_tx {l : L8} {s : ByteArray} (hs : s = (tx l).extract 1 (tx l).size) : s = tx l.tail := by
  rw [hs, tx_extract, tx_size, ← List.drop_one, List.take_of_length_le (by rw [List.length_drop]; omega)]
theorem le_tail {l : L8} {k : Nat} (h : l.length ≤ k) : l.tail.length ≤ k := by rw [List.length_tail]; omega

set_option maxHeartbeats 800000 in
theorem c_ReadDays {l : L8} (hL : l.length ≤ 9223372036854775807) : HasC Tryd.prog 12 [.v (.string (tx l))] (OptP (daysS l)) := by
  refine HasC.of [] (fn := Tryd.f12) tyOk mixed (fun args w => Tryd.call12 args w) Tryd.func12 rfl (by kernel_rfl) (Nat.le_of_ble_eq_true rfl) (OptP_ex _) ?_
  refine vc_seqr rfl (iQ 2 (iE 66 [(0, .d (Sv (tx l))), (2, Ia 0), (3, Ba false)] [] ?_))
  refine vc_seqr rfl (iQ 1 (iC 48 [Sv (tx l), Sv (⟨#[45]⟩)] (some 12) (c_trim) ?_))
  rintro _ rfl
  have hul := (uns_len l).1
  refine iQ 1 (iE 66 [(0, .d (Sv (tx l))), (2, Ia 0), (3, Ba false), (4, .d (Sv (tx (unsS l).1)))] [] ?_)
  refine vc_seq (vc_seqr rfl (iQ 1 (iB .eql 9 (.string (tx (unsS l).1)) (.string (⟨#[]⟩)) (some 14) ?_)))
  intro c14 hc14
  refine iQ 1 ?_
  cases c14
  · replace hc14 := bf hc14
    refine iQ 1 (iX 9 (.string (tx (unsS l).1)) (.int .i64 0) (some 17) ?_)
    have h0 : (unsS l).1 ≠ [] := fun e => hc14 ((bempty _).2 e)
    have h00 : 0 < (unsS l).1.length := List.length_pos_iff.2 h0
    refine And.intro (by rw [tx_size]; omega) ?_
    intro z17 hz17
    have e17 := at0_tx (c := 80) h0 hz17
    refine iB .neq 5 (.int .u8 z17) (.int .u8 80) (some 18) ?_
    intro c18 hc18
    refine iQ 1 (iE 66 [(0, .d (Sv (tx l))), (2, Ia 0), (3, Ba false), (4, .d (Sv (tx (unsS l).1))), (19, Ba c18)] [] ?_)
    cases c18
    · replace hc18 := bf hc18
      have h80 : (unsS l).1.head? = some 80 := e17.1 (Classical.not_not.1 hc18)
      refine iF (vc_skip (seq_n (vc_seqr rfl (iQ 1 (iY 9 (tx (unsS l).1) (1) (((tx (unsS l).1 : ByteArray).size : Int)) (some 22) ?_)))))
      refine And.intro (by rw [tx_size]; omega) ?_
      intro s22 hs22
      have hl22 := sz_ext hs22 (by rw [tx_size]; omega)
      have e22 : s22 = tx (unsS l).1.tail := tail_tx hs22
      refine iQ 2 (iC 49 [Sv s22, Iv 12, .sl 1 [.v (.string (⟨#[68]⟩))], .sl 1 [.v (.int .i64 86400)]] (some 25) (c_run1 e22 (le_tail (by omega))) ?_)
      rintro _ ⟨n, l1, k, rfl, r1, r2, r3, r4⟩
      have r2' := le_tail r2
      refine iQ 7 (iE 66 [(0, .d (Sv (tx l))), (2, Ia 0), (3, Ba false), (4, .d (Sv (tx (unsS l).1))), (5, Ia ((n : Int))), (6, .d (Sv (tx l1))), (7, Ia ((k : Int))), (19, Ba false)] [] ?_)
      refine vc_seq (vc_seqr rfl (iQ 1 (iB .neq 9 (.string (tx l1)) (.string (⟨#[]⟩)) (some 30) ?_)))
      intro c30 hc30
      refine iE 66 [(0, .d (Sv (tx l))), (2, Ia 0), (3, Ba false), (4, .d (Sv (tx (unsS l).1))), (5, Ia ((n : Int))), (6, .d (Sv (tx l1))), (7, Ia ((k : Int))), (19, Ba false), (30, Ba c30)] [] ?_
      cases c30
      · replace hc30 := bf hc30
        have h1 : l1 = [] := (bempty _).1 (Classical.not_not.1 hc30)
        refine iF (vc_skip (seq_n (vc_seq (vc_seqr rfl (iQ 1 (iB .eql 3 (.int .i64 ((k : Int))) (.int .i64 0) (some 56) ?_))))))
        intro c56 hc56
        refine iE 66 [(0, .d (Sv (tx l))), (2, Ia 0), (3, Ba false), (4, .d (Sv (tx (unsS l).1))), (5, Ia ((n : Int))), (6, .d (Sv (tx l1))), (7, Ia ((k : Int))), (19, Ba false), (30, Ba false), (56, Ba c56)] [] ?_
        cases c56
        · replace hc56 := bf hc56
          have heq : daysS l = signedS n (unsS l).2 := by rw [daysS_a h80 r1 h1, if_neg (by omega)]
          refine iF (vc_skip (seq_n (vc_seqr rfl (iQ 2 (iL .len [9] [.string (tx (unsS l).1)] (some 59) ?_)))))
          intro n59 hn59
          have e59 : n59 = (unsS l).1.length := by rw [hn59]; exact tx_size _
          refine iQ 1 (iL .len [9] [.string (tx l)] (some 61) ?_)
          intro n61 hn61
          have e61 : n61 = l.length := by rw [hn61]; exact tx_size _
          refine iB .neq 3 (.int .i64 ((n59 : Nat))) (.int .i64 ((n61 : Nat))) (some 62) ?_
          intro c62 hc62
          refine iC 50 [Iv ((n : Int)), Bv c62] (some 63) (c_signedQ (n := n) (neg := c62) (by first | rfl | exact e51) (by omega)) ?_
          rintro _ ⟨z, g, rfl, hz⟩
          refine iQ 4 (iE 66 [(0, .d (Sv (tx l))), (2, Ia z), (3, Ba g), (4, .d (Sv (tx (unsS l).1))), (5, Ia ((n : Int))), (6, .d (Sv (tx l1))), (7, Ia ((k : Int))), (19, Ba false), (30, Ba false), (56, Ba false)] [] ?_)
          refine vc_ret (iS (Iv z) (Bv g) [] ?_)
          exact ⟨_, _, rfl, by rw [hz, heq, uns_negE e59 e61 hc62]⟩
        · replace hc56 := bt hc56
          refine iT (vc_seqr rfl (iQ 2 (iE 66 [(0, .d (Sv (tx l))), (2, Ia 0), (3, Ba false), (4, .d (Sv (tx (unsS l).1))), (5, Ia ((n : Int))), (6, .d (Sv (tx l1))), (7, Ia ((k : Int))), (19, Ba false), (30, Ba false), (56, Ba true)] [] ?_)))
          refine vc_ret (seq_r (iS (Iv 0) (Bv false) [] ?_))
          exact OptP_no (by rw [daysS_a h80 r1 h1, if_pos (by omega)])
      · replace hc30 := bt hc30
        have h1 : l1 ≠ [] := fun e => hc30 ((bempty _).2 e)
        have h11 : 0 < l1.length := List.length_pos_iff.2 h1
        refine iT (vc_seq (vc_seqr rfl (iQ 1 (iX 9 (.string (tx l1)) (.int .i64 0) (some 32) ?_))))
        refine And.intro (by rw [tx_size]; omega) ?_
        intro z32 hz32
        have e32 := at0_tx (c := 84) h1 hz32
        refine iB .neq 5 (.int .u8 z32) (.int .u8 84) (some 33) ?_
        intro c33 hc33
        refine iE 66 [(0, .d (Sv (tx l))), (2, Ia 0), (3, Ba false), (4, .d (Sv (tx (unsS l).1))), (5, Ia ((n : Int))), (6, .d (Sv (tx l1))), (7, Ia ((k : Int))), (19, Ba false), (30, Ba true), (33, Ba c33)] [] ?_
        cases c33
        · replace hc33 := bf hc33
          have h84 : l1.head? = some 84 := e32.1 (Classical.not_not.1 hc33)
          refine iF (vc_skip (seq_n (vc_seqr rfl (iQ 1 (iY 9 (tx l1) (1) (((tx l1 : ByteArray).size : Int)) (some 36) ?_)))))
          refine And.intro (by rw [tx_size]; omega) ?_
          intro s36 hs36
          have hl36 := sz_ext hs36 (by rw [tx_size]; omega)
          have e36 : s36 = tx l1.tail := tail_tx hs36
          refine iQ 2 (iC 49 [Sv s36, Iv 12, .sl 3 [.v (.string (⟨#[72]⟩)), .v (.string (⟨#[77]⟩)), .v (.string (⟨#[83]⟩))], .sl 3 [.v (.int .i64 3600), .v (.int .i64 60), .v (.int .i64 1)]] (some 39) (c_run3 e36 (le_tail (Nat.le_trans r2 (le_tail (by omega))))) ?_)
          rintro _ ⟨m, l2, j, rfl, q1, q2, q3, q4⟩
          have hcc := daysS_c h80 r1 h84 q1
          refine iQ 7 (iE 66 [(0, .d (Sv (tx l))), (2, Ia 0), (3, Ba false), (4, .d (Sv (tx (unsS l).1))), (5, Ia ((n : Int))), (6, .d (Sv (tx l1))), (7, Ia ((k : Int))), (8, Ia ((m : Int))), (9, .d (Sv (tx l2))), (10, Ia ((j : Int))), (19, Ba false), (30, Ba true), (33, Ba false)] [] ?_)
          refine vc_seq (vc_seqr rfl (iQ 1 (iB .neq 9 (.string (tx l2)) (.string (⟨#[]⟩)) (some 44) ?_)))
          intro c44 hc44
          refine iQ 1 ?_
          cases c44
          · replace hc44 := bf hc44
            refine iQ 1 (iB .eql 3 (.int .i64 ((j : Int))) (.int .i64 0) (some 47) ?_)
            have h2 : l2 = [] := (bempty _).1 (Classical.not_not.1 hc44)
            intro c47 hc47
            refine iQ 1 (iE 66 [(0, .d (Sv (tx l))), (2, Ia 0), (3, Ba false), (4, .d (Sv (tx (unsS l).1))), (5, Ia ((n : Int))), (6, .d (Sv (tx l1))), (7, Ia ((k : Int))), (8, Ia ((m : Int))), (10, Ia ((j : Int))), (19, Ba false), (30, Ba true), (33, Ba false), (48, Ba c47)] [] ?_)
            cases c47
            · replace hc47 := bf hc47
              refine iF (vc_skip (seq_n (vc_reg rfl (iQ 2 (iB .add 3 (.int .i64 ((n : Int))) (.int .i64 ((m : Int))) (some 51) ?_)))))
              intro z51 hz51
              try replace hz51 := hz51.i64 (by omega)
              have e51 : z51 = ((n + m : Nat) : Int) := by omega
              refine iQ 2 (iB .add 3 (.int .i64 ((k : Int))) (.int .i64 ((j : Int))) (some 54) ?_)
              intro z54 hz54
              try replace hz54 := hz54.i64 (by omega)
              refine iQ 2 (iE 66 [(0, .d (Sv (tx l))), (2, Ia 0), (3, Ba false), (4, .d (Sv (tx (unsS l).1))), (5, Ia z51), (6, .d (Sv (tx l1))), (7, Ia z54), (10, Ia ((j : Int))), (19, Ba false), (30, Ba true), (33, Ba false), (48, Ba false)] [] ?_)
              refine seq_n (vc_seq (vc_seqr rfl (iQ 1 (iB .eql 3 (.int .i64 z54) (.int .i64 0) (some 56) ?_))))
              intro c56 hc56
              refine iE 66 [(0, .d (Sv (tx l))), (2, Ia 0), (3, Ba false), (4, .d (Sv (tx (unsS l).1))), (5, Ia z51), (6, .d (Sv (tx l1))), (7, Ia z54), (10, Ia ((j : Int))), (19, Ba false), (30, Ba true), (33, Ba false), (48, Ba false), (56, Ba c56)] [] ?_
              cases c56
              · replace hc56 := bf hc56
                have heq : daysS l = signedS (n + m) (unsS l).2 := by rw [hcc, if_neg]; rintro (q | q); exact q h2; omega
                refine iF (vc_skip (seq_n (vc_seqr rfl (iQ 2 (iL .len [9] [.string (tx (unsS l).1)] (some 59) ?_)))))
                intro n59 hn59
                have e59 : n59 = (unsS l).1.length := by rw [hn59]; exact tx_size _
                refine iQ 1 (iL .len [9] [.string (tx l)] (some 61) ?_)
                intro n61 hn61
                have e61 : n61 = l.length := by rw [hn61]; exact tx_size _
                refine iB .neq 3 (.int .i64 ((n59 : Nat))) (.int .i64 ((n61 : Nat))) (some 62) ?_
                intro c62 hc62
                refine iC 50 [Iv z51, Bv c62] (some 63) (c_signedQ (n := (n+m)) (neg := c62) (by first | rfl | exact e51) (by omega)) ?_
                rintro _ ⟨z, g, rfl, hz⟩
                refine iQ 4 (iE 66 [(0, .d (Sv (tx l))), (2, Ia z), (3, Ba g), (4, .d (Sv (tx (unsS l).1))), (5, Ia z51), (6, .d (Sv (tx l1))), (7, Ia z54), (10, Ia ((j : Int))), (19, Ba false), (30, Ba true), (33, Ba false), (48, Ba false), (56, Ba false)] [] ?_)
                refine vc_ret (iS (Iv z) (Bv g) [] ?_)
                exact ⟨_, _, rfl, by rw [hz, heq, uns_negE e59 e61 hc62]⟩
              · replace hc56 := bt hc56
                refine iT (vc_seqr rfl (iQ 2 (iE 66 [(0, .d (Sv (tx l))), (2, Ia 0), (3, Ba false), (4, .d (Sv (tx (unsS l).1))), (5, Ia z51), (6, .d (Sv (tx l1))), (7, Ia z54), (10, Ia ((j : Int))), (19, Ba false), (30, Ba true), (33, Ba false), (48, Ba false), (56, Ba true)] [] ?_)))
                refine vc_ret (seq_r (iS (Iv 0) (Bv false) [] ?_))
                exfalso; omega
            · replace hc47 := bt hc47
              refine iT (vc_seqr rfl (iQ 2 (iE 66 [(0, .d (Sv (tx l))), (2, Ia 0), (3, Ba false), (4, .d (Sv (tx (unsS l).1))), (5, Ia ((n : Int))), (6, .d (Sv (tx l1))), (7, Ia ((k : Int))), (8, Ia ((m : Int))), (10, Ia ((j : Int))), (19, Ba false), (30, Ba true), (33, Ba false), (48, Ba true)] [] ?_)))
              refine vc_ret (seq_r (seq_r (iS (Iv 0) (Bv false) [] ?_)))
              exact OptP_no (by rw [hcc, if_pos (.inr (by omega))])
          · replace hc44 := bt hc44
            refine iQ 3 (iE 66 [(0, .d (Sv (tx l))), (2, Ia 0), (3, Ba false), (4, .d (Sv (tx (unsS l).1))), (5, Ia ((n : Int))), (6, .d (Sv (tx l1))), (7, Ia ((k : Int))), (8, Ia ((m : Int))), (10, Ia ((j : Int))), (19, Ba false), (30, Ba true), (33, Ba false), (48, Ba true)] [] ?_)
            refine iT (vc_seqr rfl (iQ 2 (iE 66 [(0, .d (Sv (tx l))), (2, Ia 0), (3, Ba false), (4, .d (Sv (tx (unsS l).1))), (5, Ia ((n : Int))), (6, .d (Sv (tx l1))), (7, Ia ((k : Int))), (8, Ia ((m : Int))), (10, Ia ((j : Int))), (19, Ba false), (30, Ba true), (33, Ba false), (48, Ba true)] [] ?_)))
            refine vc_ret (seq_r (seq_r (iS (Iv 0) (Bv false) [] ?_)))
            exact OptP_no (by rw [hcc, if_pos (.inl fun e => hc44 ((bempty _).2 e))])
        · replace hc33 := bt hc33
          refine iT (vc_seqr rfl (iQ 2 (iE 66 [(0, .d (Sv (tx l))), (2, Ia 0), (3, Ba false), (4, .d (Sv (tx (unsS l).1))), (5, Ia ((n : Int))), (6, .d (Sv (tx l1))), (7, Ia ((k : Int))), (19, Ba false), (30, Ba true), (33, Ba true)] [] ?_)))
          refine vc_ret (seq_r (seq_r (iS (Iv 0) (Bv false) [] ?_)))
          exact OptP_no (daysS_b h80 r1 h1 (fun e => hc33 (e32.2 e)))
    · replace hc18 := bt hc18
      refine iT (vc_seqr rfl (iQ 2 (iE 66 [(0, .d (Sv (tx l))), (2, Ia 0), (3, Ba false), (4, .d (Sv (tx (unsS l).1))), (19, Ba true)] [] ?_)))
      refine vc_ret (seq_r (iS (Iv 0) (Bv false) [] ?_))
      exact OptP_no (daysS_no (fun e => hc18 (e17.2 e))).1
  · replace hc14 := bt hc14
    refine iQ 4 (iE 66 [(0, .d (Sv (tx l))), (2, Ia 0), (3, Ba false), (4, .d (Sv (tx (unsS l).1))), (19, Ba true)] [] ?_)
    have h0 : (unsS l).1 = [] := (bempty _).1 hc14
    refine iT (vc_seqr rfl (iQ 2 (iE 66 [(0, .d (Sv (tx l))), (2, Ia 0), (3, Ba false), (4, .d (Sv (tx (unsS l).1))), (19, Ba true)] [] ?_)))
    refine vc_ret (seq_r (iS (Iv 0) (Bv false) [] ?_))
    exact OptP_no (daysS_no (by rw [h0]; simp)).1

theorem c_ReadMonths {l : L8} (hL : l.length ≤ 9223372036854775807) : HasC Tryd.prog 13 [.v (.string (tx l))] (OptP (monthsS l)) := by
  refine HasC.of [] (fn := Tryd.f13) tyOk mixed (fun args w => Tryd.call13 args w) Tryd.func13 rfl (by kernel_rfl) (Nat.le_of_ble_eq_true rfl) (OptP_ex _) ?_
  refine vc_seqr rfl (iQ 2 (iE 41 [(0, .d (Sv (tx l))), (2, Ia 0), (3, Ba false)] [] ?_))
  refine vc_seqr rfl (iQ 1 (iC 48 [Sv (tx l), Sv (⟨#[45]⟩)] (some 9) (c_trim) ?_))
  rintro _ rfl
  have hul := (uns_len l).1
  refine iQ 1 (iE 41 [(0, .d (Sv (tx l))), (2, Ia 0), (3, Ba false), (4, .d (Sv (tx (unsS l).1)))] [] ?_)
  refine vc_seq (vc_seqr rfl (iQ 1 (iB .eql 9 (.string (tx (unsS l).1)) (.string (⟨#[]⟩)) (some 11) ?_)))
  intro c11 hc11
  refine iQ 1 ?_
  cases c11
  · replace hc11 := bf hc11
    refine iQ 1 (iX 9 (.string (tx (unsS l).1)) (.int .i64 0) (some 14) ?_)
    have h0 : (unsS l).1 ≠ [] := fun e => hc11 ((bempty _).2 e)
    have h00 : 0 < (unsS l).1.length := List.length_pos_iff.2 h0
    refine And.intro (by rw [tx_size]; omega) ?_
    intro z14 hz14
    have e14 := at0_tx (c := 80) h0 hz14
    refine iB .neq 5 (.int .u8 z14) (.int .u8 80) (some 15) ?_
    intro c15 hc15
    refine iQ 1 (iE 41 [(0, .d (Sv (tx l))), (2, Ia 0), (3, Ba false), (4, .d (Sv (tx (unsS l).1))), (16, Ba c15)] [] ?_)
    cases c15
    · replace hc15 := bf hc15
      have h80 : (unsS l).1.head? = some 80 := e14.1 (Classical.not_not.1 hc15)
      refine iF (vc_skip (seq_n (vc_seqr rfl (iQ 1 (iY 9 (tx (unsS l).1) (1) (((tx (unsS l).1 : ByteArray).size : Int)) (some 19) ?_)))))
      refine And.intro (by rw [tx_size]; omega) ?_
      intro s19 hs19
      have hl19 := sz_ext hs19 (by rw [tx_size]; omega)
      have e19 : s19 = tx (unsS l).1.tail := tail_tx hs19
      refine iQ 2 (iC 49 [Sv s19, Iv 15, .sl 2 [.v (.string (⟨#[89]⟩)), .v (.string (⟨#[77]⟩))], .sl 2 [.v (.int .i64 12), .v (.int .i64 1)]] (some 22) (c_run2 e19 (le_tail (by omega))) ?_)
      rintro _ ⟨n, l1, k, rfl, r1, r2, r3, r4⟩
      have hcc := monthsS_a h80 r1
      refine iQ 7 (iE 41 [(0, .d (Sv (tx l))), (2, Ia 0), (3, Ba false), (4, .d (Sv (tx (unsS l).1))), (5, Ia ((n : Int))), (6, .d (Sv (tx l1))), (7, Ia ((k : Int))), (16, Ba false)] [] ?_)
      refine vc_seq (vc_seqr rfl (iQ 1 (iB .neq 9 (.string (tx l1)) (.string (⟨#[]⟩)) (some 27) ?_)))
      intro c27 hc27
      refine iQ 1 ?_
      cases c27
      · replace hc27 := bf hc27
        refine iQ 1 (iB .eql 3 (.int .i64 ((k : Int))) (.int .i64 0) (some 30) ?_)
        have h1 : l1 = [] := (bempty _).1 (Classical.not_not.1 hc27)
        intro c30 hc30
        refine iQ 1 (iE 41 [(0, .d (Sv (tx l))), (2, Ia 0), (3, Ba false), (4, .d (Sv (tx (unsS l).1))), (5, Ia ((n : Int))), (16, Ba false), (31, Ba c30)] [] ?_)
        cases c30
        · replace hc30 := bf hc30
          have heq : monthsS l = signedS n (unsS l).2 := by rw [hcc, if_neg]; rintro (q | q); exact q h1; omega
          refine iF (vc_skip (seq_n (vc_seqr rfl (iQ 2 (iL .len [9] [.string (tx (unsS l).1)] (some 34) ?_)))))
          intro n34 hn34
          have e34 : n34 = (unsS l).1.length := by rw [hn34]; exact tx_size _
          refine iQ 1 (iL .len [9] [.string (tx l)] (some 36) ?_)
          intro n36 hn36
          have e36 : n36 = l.length := by rw [hn36]; exact tx_size _
          refine iB .neq 3 (.int .i64 ((n34 : Nat))) (.int .i64 ((n36 : Nat))) (some 37) ?_
          intro c37 hc37
          refine iC 50 [Iv ((n : Int)), Bv c37] (some 38) (c_signedQ (n := n) (neg := c37) rfl (by omega)) ?_
          rintro _ ⟨z, g, rfl, hz⟩
          refine iQ 4 (iE 41 [(0, .d (Sv (tx l))), (2, Ia z), (3, Ba g), (4, .d (Sv (tx (unsS l).1))), (16, Ba false), (31, Ba false)] [] ?_)
          refine vc_ret (iS (Iv z) (Bv g) [] ?_)
          exact ⟨_, _, rfl, by rw [hz, heq, uns_negE e34 e36 hc37]⟩
        · replace hc30 := bt hc30
          refine iT (vc_seqr rfl (iQ 2 (iE 41 [(0, .d (Sv (tx l))), (2, Ia 0), (3, Ba false), (4, .d (Sv (tx (unsS l).1))), (5, Ia ((n : Int))), (16, Ba false), (31, Ba true)] [] ?_)))
          refine vc_ret (seq_r (iS (Iv 0) (Bv false) [] ?_))
          exact OptP_no (by rw [hcc, if_pos (.inr (by omega))])
      · replace hc27 := bt hc27
        refine iQ 3 (iE 41 [(0, .d (Sv (tx l))), (2, Ia 0), (3, Ba false), (4, .d (Sv (tx (unsS l).1))), (5, Ia ((n : Int))), (16, Ba false), (31, Ba true)] [] ?_)
        refine iT (vc_seqr rfl (iQ 2 (iE 41 [(0, .d (Sv (tx l))), (2, Ia 0), (3, Ba false), (4, .d (Sv (tx (unsS l).1))), (5, Ia ((n : Int))), (16, Ba false), (31, Ba true)] [] ?_)))
        refine vc_ret (seq_r (iS (Iv 0) (Bv false) [] ?_))
        exact OptP_no (by rw [hcc, if_pos (.inl fun e => hc27 ((bempty _).2 e))])
    · replace hc15 := bt hc15
      refine iT (vc_seqr rfl (iQ 2 (iE 41 [(0, .d (Sv (tx l))), (2, Ia 0), (3, Ba false), (4, .d (Sv (tx (unsS l).1))), (16, Ba true)] [] ?_)))
      refine vc_ret (seq_r (iS (Iv 0) (Bv false) [] ?_))
      exact OptP_no (daysS_no (fun e => hc15 (e14.2 e))).2
  · replace hc11 := bt hc11
    refine iQ 4 (iE 41 [(0, .d (Sv (tx l))), (2, Ia 0), (3, Ba false), (4, .d (Sv (tx (unsS l).1))), (16, Ba true)] [] ?_)
    have h0 : (unsS l).1 = [] := (bempty _).1 hc11
    refine iT (vc_seqr rfl (iQ 2 (iE 41 [(0, .d (Sv (tx l))), (2, Ia 0), (3, Ba false), (4, .d (Sv (tx (unsS l).1))), (16, Ba true)] [] ?_)))
    refine vc_ret (seq_r (iS (Iv 0) (Bv false) [] ?_))
    exact OptP_no (daysS_no (by rw [h0]; simp)).2

theorem sgn1_1 {l : L8} (h : l.head? = some 45) : sgn1 l = 1 := by rw [sgn1, if_pos h]
theorem sgn1_0 {l : L8} (h : l.head? ≠ some 45) : sgn1 l = 0 := by rw [sgn1, if_neg h]
theorem sgn1_lt {l : L8} {c : UInt8} (h : l[sgn1 l]? = some c) : sgn1 l < l.length := (List.getElem?_eq_some_iff.1 h).1
def BgP (l : L8) (r : DV) : Prop := ∃ b, r = .tup [.v (.int .i64 ((sgn1 l + 1 : Nat) : Int)), .v (.bool b)] ∧ (b = true ↔ l[sgn1 l]? = some 80)
theorem at_tx {l : L8} {z : Int} {k : Nat} {c : UInt8} (h : k < l.length) (hz : z = strAt (tx l) k) : z = (c.toNat : Int) ↔ l[k]? = some c := by
  rw [hz, strAt_tx (List.getElem?_eq_getElem h), List.getElem?_eq_getElem h]
  simp only [Option.some.injEq]
  constructor
  · intro e; exact UInt8.toNat_inj.1 (by omega)
  · rintro rfl; rfl

theorem c_begun {l : L8} (hL : l.length ≤ 9223372036854775807) : HasC Tryd.prog 51 [.v (.string (tx l))] (BgP l) := by
  refine HasC.of [] (fn := Tryd.f51) tyOk mixed (fun args w => Tryd.call51 args w) Tryd.func51 rfl (by kernel_rfl) (Nat.le_of_ble_eq_true rfl) (⟨_, decide (l[sgn1 l]? = some 80), rfl, by simp⟩) ?_
  refine vc_seqr rfl (iQ 2 (iE 25 [(0, .d (Sv (tx l))), (2, Ia 0), (3, Ba false)] [] ?_))
  refine vc_seqr rfl (iQ 1 (iE 25 [(0, .d (Sv (tx l))), (2, Ia 0), (3, Ba false), (4, Ia 0)] [] ?_))
  refine vc_seq (vc_seqr rfl (iQ 1 (iL .len [9] [.string (tx l)] (some 6) ?_)))
  intro n6 hn6
  have e6 : n6 = l.length := by rw [hn6]; exact tx_size l
  refine iB .gtr 3 (.int .i64 ((n6 : Nat))) (.int .i64 0) (some 7) ?_
  intro c7 hc7
  refine iQ 1 ?_
  cases c7
  · replace hc7 := bf hc7
    refine iQ 4 (iE 25 [(0, .d (Sv (tx l))), (2, Ia 0), (3, Ba false), (4, Ia 0), (12, Ba false)] [] ?_)
    have h0 : l = [] := List.eq_nil_of_length_eq_zero (by omega)
    have hsg := sgn1_0 (l := l) (by rw [h0]; simp)
    refine iF (vc_skip (seq_n (vc_seqr rfl (iQ 1 (iB .add 3 (.int .i64 0) (.int .i64 1) (some 14) ?_)))))
    intro z14 hz14
    try replace hz14 := hz14.i64 (by omega)
    refine iQ 2 (iL .len [9] [.string (tx l)] (some 17) ?_)
    intro n17 hn17
    have e17 : n17 = l.length := by rw [hn17]; exact tx_size l
    refine iB .lss 3 (.int .i64 0) (.int .i64 ((n17 : Nat))) (some 18) ?_
    intro c18 hc18
    refine iQ 1 ?_
    cases c18
    · replace hc18 := bf hc18
      refine iQ 7 (iE 25 [(0, .d (Sv (tx l))), (2, Ia z14), (3, Ba false), (12, Ba false)] [] ?_)
      refine vc_ret (iS (Iv z14) (Bv false) [] ?_)
      exact ⟨_, by rw [hsg, hz14]; rfl, by rw [hsg, List.getElem?_eq_none (by omega)]; simp⟩
    · replace hc18 := bt hc18
      refine iQ 2 (iX 9 (.string (tx l)) (.int .i64 0) (some 22) ?_)
      have hlt : 0 < l.length := by omega
      refine And.intro (by rw [tx_size]; omega) ?_
      intro z22 hz22
      have e22 := at_tx (c := 80) hlt hz22
      refine iB .eql 5 (.int .u8 z22) (.int .u8 80) (some 23) ?_
      intro c23 hc23
      refine iQ 3 (iE 25 [(0, .d (Sv (tx l))), (2, Ia z14), (3, Ba c23), (12, Ba false)] [] ?_)
      refine vc_ret (iS (Iv z14) (Bv c23) [] ?_)
      exact ⟨_, by rw [hsg, hz14]; rfl, by rw [hc23, hsg]; exact e22⟩
  · replace hc7 := bt hc7
    refine iQ 1 (iX 9 (.string (tx l)) (.int .i64 0) (some 10) ?_)
    have h0 : l ≠ [] := fun e => by rw [e] at e6; simp at e6; omega
    refine And.intro (by rw [tx_size]; omega) ?_
    intro z10 hz10
    have e10 := at0_tx (c := 45) h0 hz10
    refine iB .eql 5 (.int .u8 z10) (.int .u8 45) (some 11) ?_
    intro c11 hc11
    refine iQ 1 (iE 25 [(0, .d (Sv (tx l))), (2, Ia 0), (3, Ba false), (4, Ia 0), (12, Ba c11)] [] ?_)
    cases c11
    · replace hc11 := bf hc11
      have hsg := sgn1_0 (fun e => hc11 (e10.2 e))
      refine iF (vc_skip (seq_n (vc_seqr rfl (iQ 1 (iB .add 3 (.int .i64 0) (.int .i64 1) (some 14) ?_)))))
      intro z14 hz14
      try replace hz14 := hz14.i64 (by omega)
      refine iQ 2 (iL .len [9] [.string (tx l)] (some 17) ?_)
      intro n17 hn17
      have e17 : n17 = l.length := by rw [hn17]; exact tx_size l
      refine iB .lss 3 (.int .i64 0) (.int .i64 ((n17 : Nat))) (some 18) ?_
      intro c18 hc18
      refine iQ 1 ?_
      cases c18
      · replace hc18 := bf hc18
        refine iQ 7 (iE 25 [(0, .d (Sv (tx l))), (2, Ia z14), (3, Ba false), (12, Ba false)] [] ?_)
        refine vc_ret (iS (Iv z14) (Bv false) [] ?_)
        exact ⟨_, by rw [hsg, hz14]; rfl, by rw [hsg, List.getElem?_eq_none (by omega)]; simp⟩
      · replace hc18 := bt hc18
        refine iQ 2 (iX 9 (.string (tx l)) (.int .i64 0) (some 22) ?_)
        have hlt : 0 < l.length := by omega
        refine And.intro (by rw [tx_size]; omega) ?_
        intro z22 hz22
        have e22 := at_tx (c := 80) hlt hz22
        refine iB .eql 5 (.int .u8 z22) (.int .u8 80) (some 23) ?_
        intro c23 hc23
        refine iQ 3 (iE 25 [(0, .d (Sv (tx l))), (2, Ia z14), (3, Ba c23), (12, Ba false)] [] ?_)
        refine vc_ret (iS (Iv z14) (Bv c23) [] ?_)
        exact ⟨_, by rw [hsg, hz14]; rfl, by rw [hc23, hsg]; exact e22⟩
    · replace hc11 := bt hc11
      have hsg := sgn1_1 (e10.1 hc11)
      refine iT (vc_reg rfl (iQ 1 (iE 25 [(0, .d (Sv (tx l))), (2, Ia 0), (3, Ba false), (4, Ia 1), (12, Ba true)] [] ?_)))
      refine seq_n (vc_seqr rfl (iQ 1 (iB .add 3 (.int .i64 1) (.int .i64 1) (some 14) ?_)))
      intro z14 hz14
      try replace hz14 := hz14.i64 (by omega)
      refine iQ 2 (iL .len [9] [.string (tx l)] (some 17) ?_)
      intro n17 hn17
      have e17 : n17 = l.length := by rw [hn17]; exact tx_size l
      refine iB .lss 3 (.int .i64 1) (.int .i64 ((n17 : Nat))) (some 18) ?_
      intro c18 hc18
      refine iQ 1 ?_
      cases c18
      · replace hc18 := bf hc18
        refine iQ 7 (iE 25 [(0, .d (Sv (tx l))), (2, Ia z14), (3, Ba false), (12, Ba true)] [] ?_)
        refine vc_ret (iS (Iv z14) (Bv false) [] ?_)
        exact ⟨_, by rw [hsg, hz14]; rfl, by rw [hsg, List.getElem?_eq_none (by omega)]; simp⟩
      · replace hc18 := bt hc18
        refine iQ 2 (iX 9 (.string (tx l)) (.int .i64 1) (some 22) ?_)
        have hlt : 1 < l.length := by omega
        refine And.intro (by rw [tx_size]; omega) ?_
        intro z22 hz22
        have e22 := at_tx (c := 80) hlt hz22
        refine iB .eql 5 (.int .u8 z22) (.int .u8 80) (some 23) ?_
        intro c23 hc23
        refine iQ 3 (iE 25 [(0, .d (Sv (tx l))), (2, Ia z14), (3, Ba c23), (12, Ba true)] [] ?_)
        refine vc_ret (iS (Iv z14) (Bv c23) [] ?_)
        exact ⟨_, by rw [hsg, hz14]; rfl, by rw [hc23, hsg]; exact e22⟩
def PcP (l : L8) (a : Nat) (c : UInt8) (t most : Nat) (r : DV) : Prop := ∃ (n k : Nat) (b : Bool), r = .tup [.v (.int .i64 (n : Int)), .v (.int .i64 (k : Int)), .v (.bool b)] ∧ PcOk l a c t most n k b
theorem PcP_ex (l : L8) (a : Nat) (c : UInt8) (t most : Nat) (ha : a ≤ l.length) : ∃ r, PcP l a c t most r := by
  have hl := ndg_le (l.drop a)
  rw [List.length_drop] at hl
  have hd : DgR l a (a + ndg (l.drop a)) := ⟨by omega, by omega, take_all (by omega)⟩
  by_cases h : a + ndg (l.drop a) = a ∨ a + ndg (l.drop a) - a > most ∨ l[a + ndg (l.drop a)]? ≠ some c
  · exact ⟨_, _, _, _, rfl, PcOk.no hd (.inr (by omega)) h⟩
  · simp only [not_or] at h
    exact ⟨_, _, _, _, rfl, PcOk.yes hd (by omega) h.1 h.2.1 (Classical.not_not.1 h.2.2)⟩
theorem none_ne {l : L8} {k : Nat} {c : UInt8} (h : l.length ≤ k) : l[k]? ≠ some c := by rw [List.getElem?_eq_none h]; simp
theorem dig_tx {l : L8} {z : Int} {k : Nat} (h : k < l.length) (hz : z = strAt (tx l) k) : z = ((l[k]'h).toNat : Int) := by rw [hz, strAt_tx (List.getElem?_eq_getElem h)]

set_option maxHeartbeats 1600000 in
theorem c_pc {l : L8} {a t most : Nat} {c : UInt8} (ha : a ≤ l.length) (hm : most ≤ 15) (ht : 10 ^ most * t ≤ 100000000000000000) (hL : l.length ≤ 9223372036854775807) : HasC Tryd.prog 52 [.v (.string (tx l)), .v (.int .i64 ((a : Int))), .v (.int .u8 ((c.toNat : Int))), .v (.int .i64 ((t : Int))), .v (.int .i64 ((most : Int)))] (PcP l a c t most) := by
  refine HasC.of [] (fn := Tryd.f52) tyOk mixed (fun args w => Tryd.call52 args w) Tryd.func52 rfl (by kernel_rfl) (Nat.le_of_ble_eq_true rfl) (PcP_ex l a c t most ha) ?_
  refine vc_seqr rfl (iQ 3 (iE 78 [(0, .d (Sv (tx l))), (1, Ia ((a : Int))), (2, .d (.v (.int .u8 ((c.toNat : Int))))), (3, Ia ((t : Int))), (4, Ia ((most : Int))), (10, Ia 0), (11, Ia 0), (12, Ba false)] [] ?_))
  refine vc_seqr rfl (iQ 3 (iE 78 [(0, .d (Sv (tx l))), (1, Ia ((a : Int))), (2, .d (.v (.int .u8 ((c.toNat : Int))))), (3, Ia ((t : Int))), (4, Ia ((most : Int))), (10, Ia 0), (11, Ia 0), (12, Ba false), (13, Ia ((a : Int))), (14, Ia 0)] [] ?_))
  refine vc_seq (vc_block (vc_loop 78 (fun (vcx : Nat × Nat) => match vcx with | (k, n) => [(0, .d (Sv (tx l))), (1, Ia ((a : Int))), (2, .d (.v (.int .u8 ((c.toNat : Int))))), (3, Ia ((t : Int))), (4, Ia ((most : Int))), (10, Ia 0), (11, Ia 0), (12, Ba false), (13, Ia ((k : Int))), (14, Ia ((n : Int)))]) (fun (vcx : Nat × Nat) => match vcx with | (k, n) => []) (fun (vcx : Nat × Nat) => match vcx with | (k, n) => DgR l a k ∧ n = nvL ((l.drop a).take (k - a)) ∧ k - a ≤ most + 1) (fun (vcx : Nat × Nat) => match vcx with | (k, n) => l.length - k) ((a, 0)) (⟨DgR.zero ha, by simp [nvL, nvA], by omega⟩) (by kernel_rfl) (by kernel_rfl) ?_))
  rintro ⟨k, n⟩ hinv
  simp only at hinv
  obtain ⟨h1, h2, h3⟩ := hinv
  have hak := h1.1
  have hkl := h1.2.1
  refine vc_seq (vc_seqr rfl (iQ 2 (iL .len [9] [.string (tx l)] (some 18) ?_)))
  intro n18 hn18
  have e18 : n18 = l.length := by rw [hn18]; exact tx_size l
  refine iB .lss 3 (.int .i64 ((k : Int))) (.int .i64 ((n18 : Nat))) (some 19) ?_
  intro c19 hc19
  refine iQ 1 ?_
  cases c19
  · replace hc19 := bf hc19
    refine iQ 18 (iE 78 [(0, .d (Sv (tx l))), (1, Ia ((a : Int))), (2, .d (.v (.int .u8 ((c.toNat : Int))))), (3, Ia ((t : Int))), (4, Ia ((most : Int))), (10, Ia 0), (11, Ia 0), (12, Ba false), (13, Ia ((k : Int))), (14, Ia ((n : Int))), (38, Ba false)] [] ?_)
    have hE : k - a > most ∨ ndg (l.drop a) = k - a := .inr (h1.eq (fun x hx => by rw [List.getElem?_eq_none (by omega)] at hx; cases hx))
    refine iF (vc_exit (seq_x (loop_x (block_x rfl (seq_n (vc_seq (vc_seqr rfl (iQ 2 (iB .eql 3 (.int .i64 ((k : Int))) (.int .i64 ((a : Int))) (some 51) ?_)))))))))
    intro c51 hc51
    refine iQ 1 ?_
    cases c51
    · replace hc51 := bf hc51
      refine iQ 2 (iB .sub 3 (.int .i64 ((k : Int))) (.int .i64 ((a : Int))) (some 55) ?_)
      intro z55 hz55
      try replace hz55 := hz55.i64 (by omega)
      refine iQ 1 (iB .gtr 3 (.int .i64 z55) (.int .i64 ((most : Int))) (some 57) ?_)
      intro c57 hc57
      refine iQ 2 ?_
      cases c57
      · replace hc57 := bf hc57
        refine iQ 2 (iL .len [9] [.string (tx l)] (some 62) ?_)
        intro n62 hn62
        have e62 : n62 = l.length := by rw [hn62]; exact tx_size l
        refine iB .geq 3 (.int .i64 ((k : Int))) (.int .i64 ((n62 : Nat))) (some 63) ?_
        intro c63 hc63
        refine iQ 2 ?_
        cases c63
        · replace hc63 := bf hc63
          refine iQ 2 (iX 9 (.string (tx l)) (.int .i64 ((k : Int))) (some 68) ?_)
          have hlt2 : k < l.length := by omega
          refine And.intro (by rw [tx_size]; omega) ?_
          intro z68 hz68
          have e68 := at_tx (z := z68) (c := c) hlt2 (by rw [hz68, Int.toNat_natCast])
          refine iQ 1 (iB .neq 5 (.int .u8 z68) (.int .u8 ((c.toNat : Int))) (some 70) ?_)
          intro c70 hc70
          refine iQ 1 (iE 78 [(0, .d (Sv (tx l))), (1, Ia ((a : Int))), (3, Ia ((t : Int))), (4, Ia ((most : Int))), (10, Ia 0), (11, Ia 0), (12, Ba false), (13, Ia ((k : Int))), (14, Ia ((n : Int))), (38, Ba false), (71, Ba c70)] [] ?_)
          cases c70
          · replace hc70 := bf hc70
            have hEq : ndg (l.drop a) = k - a := by rcases hE with q | q; omega; exact q
            have hlt10 := h1.lt (m := most) (by omega)
            have hmul : n * t ≤ 10 ^ most * t := Nat.mul_le_mul_right _ (by omega)
            refine iF (vc_skip (seq_n (vc_seqr rfl (iQ 2 (iB .mul 3 (.int .i64 ((n : Int))) (.int .i64 ((t : Int))) (some 75) ?_)))))
            intro z75 hz75
            try replace hz75 := hz75.i64 (by omega)
            have e75 : z75 = ((n * t : Nat) : Int) := by rw [hz75]; exact (Int.natCast_mul n t).symm
            refine iQ 1 (iB .add 3 (.int .i64 ((k : Int))) (.int .i64 1) (some 77) ?_)
            intro z77 hz77
            try replace hz77 := hz77.i64 (by omega)
            have e77 : z77 = ((k + 1 : Nat) : Int) := by omega
            refine iQ 3 (iE 78 [(0, .d (Sv (tx l))), (1, Ia ((a : Int))), (4, Ia ((most : Int))), (10, Ia z75), (11, Ia z77), (12, Ba true), (13, Ia ((k : Int))), (14, Ia ((n : Int))), (38, Ba false), (71, Ba false)] [] ?_)
            refine vc_ret (iS (Iv z75) (Iv z77) [Bv true] ?_)
            rw [e75, e77]; exact ⟨n * t, k + 1, true, rfl, by rw [h2]; exact PcOk.yes h1 hEq (by omega) (by omega) (e68.1 (Classical.not_not.1 hc70))⟩
          · replace hc70 := bt hc70
            refine iT (vc_seqr rfl (iQ 4 (iE 78 [(0, .d (Sv (tx l))), (1, Ia ((a : Int))), (3, Ia ((t : Int))), (4, Ia ((most : Int))), (10, Ia 0), (11, Ia ((a : Int))), (12, Ba false), (13, Ia ((k : Int))), (14, Ia ((n : Int))), (38, Ba false), (71, Ba true)] [] ?_)))
            refine vc_ret (seq_r (iS (Iv 0) (Iv ((a : Int))) [Bv false] ?_))
            exact ⟨0, a, false, rfl, PcOk.no h1 hE (.inr (.inr (mt e68.2 hc70)))⟩
        · replace hc63 := bt hc63
          refine iQ 6 (iE 78 [(0, .d (Sv (tx l))), (1, Ia ((a : Int))), (3, Ia ((t : Int))), (4, Ia ((most : Int))), (10, Ia 0), (11, Ia 0), (12, Ba false), (13, Ia ((k : Int))), (14, Ia ((n : Int))), (38, Ba false), (71, Ba true)] [] ?_)
          refine iT (vc_seqr rfl (iQ 4 (iE 78 [(0, .d (Sv (tx l))), (1, Ia ((a : Int))), (3, Ia ((t : Int))), (4, Ia ((most : Int))), (10, Ia 0), (11, Ia ((a : Int))), (12, Ba false), (13, Ia ((k : Int))), (14, Ia ((n : Int))), (38, Ba false), (71, Ba true)] [] ?_)))
          refine vc_ret (seq_r (iS (Iv 0) (Iv ((a : Int))) [Bv false] ?_))
          exact ⟨0, a, false, rfl, PcOk.no h1 hE (.inr (.inr (none_ne (by omega))))⟩
      · replace hc57 := bt hc57
        refine iQ 12 (iE 78 [(0, .d (Sv (tx l))), (1, Ia ((a : Int))), (3, Ia ((t : Int))), (4, Ia ((most : Int))), (10, Ia 0), (11, Ia 0), (12, Ba false), (13, Ia ((k : Int))), (14, Ia ((n : Int))), (38, Ba false), (71, Ba true)] [] ?_)
        refine iT (vc_seqr rfl (iQ 4 (iE 78 [(0, .d (Sv (tx l))), (1, Ia ((a : Int))), (3, Ia ((t : Int))), (4, Ia ((most : Int))), (10, Ia 0), (11, Ia ((a : Int))), (12, Ba false), (13, Ia ((k : Int))), (14, Ia ((n : Int))), (38, Ba false), (71, Ba true)] [] ?_)))
        refine vc_ret (seq_r (iS (Iv 0) (Iv ((a : Int))) [Bv false] ?_))
        exact ⟨0, a, false, rfl, PcOk.no h1 hE (.inr (.inl (by omega)))⟩
    · replace hc51 := bt hc51
      refine iQ 19 (iE 78 [(0, .d (Sv (tx l))), (1, Ia ((a : Int))), (3, Ia ((t : Int))), (4, Ia ((most : Int))), (10, Ia 0), (11, Ia 0), (12, Ba false), (13, Ia ((k : Int))), (14, Ia ((n : Int))), (38, Ba false), (71, Ba true)] [] ?_)
      refine iT (vc_seqr rfl (iQ 4 (iE 78 [(0, .d (Sv (tx l))), (1, Ia ((a : Int))), (3, Ia ((t : Int))), (4, Ia ((most : Int))), (10, Ia 0), (11, Ia ((a : Int))), (12, Ba false), (13, Ia ((k : Int))), (14, Ia ((n : Int))), (38, Ba false), (71, Ba true)] [] ?_)))
      refine vc_ret (seq_r (iS (Iv 0) (Iv ((a : Int))) [Bv false] ?_))
      exact ⟨0, a, false, rfl, PcOk.no h1 hE (.inl (by omega))⟩
  · replace hc19 := bt hc19
    refine iQ 2 (iX 9 (.string (tx l)) (.int .i64 ((k : Int))) (some 23) ?_)
    have hlt : k < l.length := by omega
    have hg := List.getElem?_eq_getElem hlt
    refine And.intro (by rw [tx_size]; omega) ?_
    intro z23 hz23
    have e23 := dig_tx (z := z23) hlt (by rw [hz23, Int.toNat_natCast])
    refine iB .geq 5 (.int .u8 z23) (.int .u8 48) (some 24) ?_
    intro c24 hc24
    refine iQ 2 ?_
    cases c24
    · replace hc24 := bf hc24
      refine iQ 12 (iE 78 [(0, .d (Sv (tx l))), (1, Ia ((a : Int))), (2, .d (.v (.int .u8 ((c.toNat : Int))))), (3, Ia ((t : Int))), (4, Ia ((most : Int))), (10, Ia 0), (11, Ia 0), (12, Ba false), (13, Ia ((k : Int))), (14, Ia ((n : Int))), (38, Ba false)] [] ?_)
      have hE : k - a > most ∨ ndg (l.drop a) = k - a := .inr (h1.eq (fun x hx => by rw [hg] at hx; cases hx; exact b_false fun e => by have := isDg_iff.1 e; omega))
      refine iF (vc_exit (seq_x (loop_x (block_x rfl (seq_n (vc_seq (vc_seqr rfl (iQ 2 (iB .eql 3 (.int .i64 ((k : Int))) (.int .i64 ((a : Int))) (some 51) ?_)))))))))
      intro c51 hc51
      refine iQ 1 ?_
      cases c51
      · replace hc51 := bf hc51
        refine iQ 2 (iB .sub 3 (.int .i64 ((k : Int))) (.int .i64 ((a : Int))) (some 55) ?_)
        intro z55 hz55
        try replace hz55 := hz55.i64 (by omega)
        refine iQ 1 (iB .gtr 3 (.int .i64 z55) (.int .i64 ((most : Int))) (some 57) ?_)
        intro c57 hc57
        refine iQ 2 ?_
        cases c57
        · replace hc57 := bf hc57
          refine iQ 2 (iL .len [9] [.string (tx l)] (some 62) ?_)
          intro n62 hn62
          have e62 : n62 = l.length := by rw [hn62]; exact tx_size l
          refine iB .geq 3 (.int .i64 ((k : Int))) (.int .i64 ((n62 : Nat))) (some 63) ?_
          intro c63 hc63
          refine iQ 2 ?_
          cases c63
          · replace hc63 := bf hc63
            refine iQ 2 (iX 9 (.string (tx l)) (.int .i64 ((k : Int))) (some 68) ?_)
            have hlt2 : k < l.length := by omega
            refine And.intro (by rw [tx_size]; omega) ?_
            intro z68 hz68
            have e68 := at_tx (z := z68) (c := c) hlt2 (by rw [hz68, Int.toNat_natCast])
            refine iQ 1 (iB .neq 5 (.int .u8 z68) (.int .u8 ((c.toNat : Int))) (some 70) ?_)
            intro c70 hc70
            refine iQ 1 (iE 78 [(0, .d (Sv (tx l))), (1, Ia ((a : Int))), (3, Ia ((t : Int))), (4, Ia ((most : Int))), (10, Ia 0), (11, Ia 0), (12, Ba false), (13, Ia ((k : Int))), (14, Ia ((n : Int))), (38, Ba false), (71, Ba c70)] [] ?_)
            cases c70
            · replace hc70 := bf hc70
              have hEq : ndg (l.drop a) = k - a := by rcases hE with q | q; omega; exact q
              have hlt10 := h1.lt (m := most) (by omega)
              have hmul : n * t ≤ 10 ^ most * t := Nat.mul_le_mul_right _ (by omega)
              refine iF (vc_skip (seq_n (vc_seqr rfl (iQ 2 (iB .mul 3 (.int .i64 ((n : Int))) (.int .i64 ((t : Int))) (some 75) ?_)))))
              intro z75 hz75
              try replace hz75 := hz75.i64 (by omega)
              have e75 : z75 = ((n * t : Nat) : Int) := by rw [hz75]; exact (Int.natCast_mul n t).symm
              refine iQ 1 (iB .add 3 (.int .i64 ((k : Int))) (.int .i64 1) (some 77) ?_)
              intro z77 hz77
              try replace hz77 := hz77.i64 (by omega)
              have e77 : z77 = ((k + 1 : Nat) : Int) := by omega
              refine iQ 3 (iE 78 [(0, .d (Sv (tx l))), (1, Ia ((a : Int))), (4, Ia ((most : Int))), (10, Ia z75), (11, Ia z77), (12, Ba true), (13, Ia ((k : Int))), (14, Ia ((n : Int))), (38, Ba false), (71, Ba false)] [] ?_)
              refine vc_ret (iS (Iv z75) (Iv z77) [Bv true] ?_)
              rw [e75, e77]; exact ⟨n * t, k + 1, true, rfl, by rw [h2]; exact PcOk.yes h1 hEq (by omega) (by omega) (e68.1 (Classical.not_not.1 hc70))⟩
            · replace hc70 := bt hc70
              refine iT (vc_seqr rfl (iQ 4 (iE 78 [(0, .d (Sv (tx l))), (1, Ia ((a : Int))), (3, Ia ((t : Int))), (4, Ia ((most : Int))), (10, Ia 0), (11, Ia ((a : Int))), (12, Ba false), (13, Ia ((k : Int))), (14, Ia ((n : Int))), (38, Ba false), (71, Ba true)] [] ?_)))
              refine vc_ret (seq_r (iS (Iv 0) (Iv ((a : Int))) [Bv false] ?_))
              exact ⟨0, a, false, rfl, PcOk.no h1 hE (.inr (.inr (mt e68.2 hc70)))⟩
          · replace hc63 := bt hc63
            refine iQ 6 (iE 78 [(0, .d (Sv (tx l))), (1, Ia ((a : Int))), (3, Ia ((t : Int))), (4, Ia ((most : Int))), (10, Ia 0), (11, Ia 0), (12, Ba false), (13, Ia ((k : Int))), (14, Ia ((n : Int))), (38, Ba false), (71, Ba true)] [] ?_)
            refine iT (vc_seqr rfl (iQ 4 (iE 78 [(0, .d (Sv (tx l))), (1, Ia ((a : Int))), (3, Ia ((t : Int))), (4, Ia ((most : Int))), (10, Ia 0), (11, Ia ((a : Int))), (12, Ba false), (13, Ia ((k : Int))), (14, Ia ((n : Int))), (38, Ba false), (71, Ba true)] [] ?_)))
            refine vc_ret (seq_r (iS (Iv 0) (Iv ((a : Int))) [Bv false] ?_))
            exact ⟨0, a, false, rfl, PcOk.no h1 hE (.inr (.inr (none_ne (by omega))))⟩
        · replace hc57 := bt hc57
          refine iQ 12 (iE 78 [(0, .d (Sv (tx l))), (1, Ia ((a : Int))), (3, Ia ((t : Int))), (4, Ia ((most : Int))), (10, Ia 0), (11, Ia 0), (12, Ba false), (13, Ia ((k : Int))), (14, Ia ((n : Int))), (38, Ba false), (71, Ba true)] [] ?_)
          refine iT (vc_seqr rfl (iQ 4 (iE 78 [(0, .d (Sv (tx l))), (1, Ia ((a : Int))), (3, Ia ((t : Int))), (4, Ia ((most : Int))), (10, Ia 0), (11, Ia ((a : Int))), (12, Ba false), (13, Ia ((k : Int))), (14, Ia ((n : Int))), (38, Ba false), (71, Ba true)] [] ?_)))
          refine vc_ret (seq_r (iS (Iv 0) (Iv ((a : Int))) [Bv false] ?_))
          exact ⟨0, a, false, rfl, PcOk.no h1 hE (.inr (.inl (by omega)))⟩
      · replace hc51 := bt hc51
        refine iQ 19 (iE 78 [(0, .d (Sv (tx l))), (1, Ia ((a : Int))), (3, Ia ((t : Int))), (4, Ia ((most : Int))), (10, Ia 0), (11, Ia 0), (12, Ba false), (13, Ia ((k : Int))), (14, Ia ((n : Int))), (38, Ba false), (71, Ba true)] [] ?_)
        refine iT (vc_seqr rfl (iQ 4 (iE 78 [(0, .d (Sv (tx l))), (1, Ia ((a : Int))), (3, Ia ((t : Int))), (4, Ia ((most : Int))), (10, Ia 0), (11, Ia ((a : Int))), (12, Ba false), (13, Ia ((k : Int))), (14, Ia ((n : Int))), (38, Ba false), (71, Ba true)] [] ?_)))
        refine vc_ret (seq_r (iS (Iv 0) (Iv ((a : Int))) [Bv false] ?_))
        exact ⟨0, a, false, rfl, PcOk.no h1 hE (.inl (by omega))⟩
    · replace hc24 := bt hc24
      refine iQ 2 (iX 9 (.string (tx l)) (.int .i64 ((k : Int))) (some 29) ?_)
      refine And.intro (by rw [tx_size]; omega) ?_
      intro z29 hz29
      have e29 := dig_tx (z := z29) hlt (by rw [hz29, Int.toNat_natCast])
      refine iB .leq 5 (.int .u8 z29) (.int .u8 57) (some 30) ?_
      intro c30 hc30
      refine iQ 2 ?_
      cases c30
      · replace hc30 := bf hc30
        refine iQ 6 (iE 78 [(0, .d (Sv (tx l))), (1, Ia ((a : Int))), (2, .d (.v (.int .u8 ((c.toNat : Int))))), (3, Ia ((t : Int))), (4, Ia ((most : Int))), (10, Ia 0), (11, Ia 0), (12, Ba false), (13, Ia ((k : Int))), (14, Ia ((n : Int))), (38, Ba false)] [] ?_)
        have hE : k - a > most ∨ ndg (l.drop a) = k - a := .inr (h1.eq (fun x hx => by rw [hg] at hx; cases hx; exact b_false fun e => by have := isDg_iff.1 e; omega))
        refine iF (vc_exit (seq_x (loop_x (block_x rfl (seq_n (vc_seq (vc_seqr rfl (iQ 2 (iB .eql 3 (.int .i64 ((k : Int))) (.int .i64 ((a : Int))) (some 51) ?_)))))))))
        intro c51 hc51
        refine iQ 1 ?_
        cases c51
        · replace hc51 := bf hc51
          refine iQ 2 (iB .sub 3 (.int .i64 ((k : Int))) (.int .i64 ((a : Int))) (some 55) ?_)
          intro z55 hz55
          try replace hz55 := hz55.i64 (by omega)
          refine iQ 1 (iB .gtr 3 (.int .i64 z55) (.int .i64 ((most : Int))) (some 57) ?_)
          intro c57 hc57
          refine iQ 2 ?_
          cases c57
          · replace hc57 := bf hc57
            refine iQ 2 (iL .len [9] [.string (tx l)] (some 62) ?_)
            intro n62 hn62
            have e62 : n62 = l.length := by rw [hn62]; exact tx_size l
            refine iB .geq 3 (.int .i64 ((k : Int))) (.int .i64 ((n62 : Nat))) (some 63) ?_
            intro c63 hc63
            refine iQ 2 ?_
            cases c63
            · replace hc63 := bf hc63
              refine iQ 2 (iX 9 (.string (tx l)) (.int .i64 ((k : Int))) (some 68) ?_)
              have hlt2 : k < l.length := by omega
              refine And.intro (by rw [tx_size]; omega) ?_
              intro z68 hz68
              have e68 := at_tx (z := z68) (c := c) hlt2 (by rw [hz68, Int.toNat_natCast])
              refine iQ 1 (iB .neq 5 (.int .u8 z68) (.int .u8 ((c.toNat : Int))) (some 70) ?_)
              intro c70 hc70
              refine iQ 1 (iE 78 [(0, .d (Sv (tx l))), (1, Ia ((a : Int))), (3, Ia ((t : Int))), (4, Ia ((most : Int))), (10, Ia 0), (11, Ia 0), (12, Ba false), (13, Ia ((k : Int))), (14, Ia ((n : Int))), (38, Ba false), (71, Ba c70)] [] ?_)
              cases c70
              · replace hc70 := bf hc70
                have hEq : ndg (l.drop a) = k - a := by rcases hE with q | q; omega; exact q
                have hlt10 := h1.lt (m := most) (by omega)
                have hmul : n * t ≤ 10 ^ most * t := Nat.mul_le_mul_right _ (by omega)
                refine iF (vc_skip (seq_n (vc_seqr rfl (iQ 2 (iB .mul 3 (.int .i64 ((n : Int))) (.int .i64 ((t : Int))) (some 75) ?_)))))
                intro z75 hz75
                try replace hz75 := hz75.i64 (by omega)
                have e75 : z75 = ((n * t : Nat) : Int) := by rw [hz75]; exact (Int.natCast_mul n t).symm
                refine iQ 1 (iB .add 3 (.int .i64 ((k : Int))) (.int .i64 1) (some 77) ?_)
                intro z77 hz77
                try replace hz77 := hz77.i64 (by omega)
                have e77 : z77 = ((k + 1 : Nat) : Int) := by omega
                refine iQ 3 (iE 78 [(0, .d (Sv (tx l))), (1, Ia ((a : Int))), (4, Ia ((most : Int))), (10, Ia z75), (11, Ia z77), (12, Ba true), (13, Ia ((k : Int))), (14, Ia ((n : Int))), (38, Ba false), (71, Ba false)] [] ?_)
                refine vc_ret (iS (Iv z75) (Iv z77) [Bv true] ?_)
                rw [e75, e77]; exact ⟨n * t, k + 1, true, rfl, by rw [h2]; exact PcOk.yes h1 hEq (by omega) (by omega) (e68.1 (Classical.not_not.1 hc70))⟩
              · replace hc70 := bt hc70
                refine iT (vc_seqr rfl (iQ 4 (iE 78 [(0, .d (Sv (tx l))), (1, Ia ((a : Int))), (3, Ia ((t : Int))), (4, Ia ((most : Int))), (10, Ia 0), (11, Ia ((a : Int))), (12, Ba false), (13, Ia ((k : Int))), (14, Ia ((n : Int))), (38, Ba false), (71, Ba true)] [] ?_)))
                refine vc_ret (seq_r (iS (Iv 0) (Iv ((a : Int))) [Bv false] ?_))
                exact ⟨0, a, false, rfl, PcOk.no h1 hE (.inr (.inr (mt e68.2 hc70)))⟩
            · replace hc63 := bt hc63
              refine iQ 6 (iE 78 [(0, .d (Sv (tx l))), (1, Ia ((a : Int))), (3, Ia ((t : Int))), (4, Ia ((most : Int))), (10, Ia 0), (11, Ia 0), (12, Ba false), (13, Ia ((k : Int))), (14, Ia ((n : Int))), (38, Ba false), (71, Ba true)] [] ?_)
              refine iT (vc_seqr rfl (iQ 4 (iE 78 [(0, .d (Sv (tx l))), (1, Ia ((a : Int))), (3, Ia ((t : Int))), (4, Ia ((most : Int))), (10, Ia 0), (11, Ia ((a : Int))), (12, Ba false), (13, Ia ((k : Int))), (14, Ia ((n : Int))), (38, Ba false), (71, Ba true)] [] ?_)))
              refine vc_ret (seq_r (iS (Iv 0) (Iv ((a : Int))) [Bv false] ?_))
              exact ⟨0, a, false, rfl, PcOk.no h1 hE (.inr (.inr (none_ne (by omega))))⟩
          · replace hc57 := bt hc57
            refine iQ 12 (iE 78 [(0, .d (Sv (tx l))), (1, Ia ((a : Int))), (3, Ia ((t : Int))), (4, Ia ((most : Int))), (10, Ia 0), (11, Ia 0), (12, Ba false), (13, Ia ((k : Int))), (14, Ia ((n : Int))), (38, Ba false), (71, Ba true)] [] ?_)
            refine iT (vc_seqr rfl (iQ 4 (iE 78 [(0, .d (Sv (tx l))), (1, Ia ((a : Int))), (3, Ia ((t : Int))), (4, Ia ((most : Int))), (10, Ia 0), (11, Ia ((a : Int))), (12, Ba false), (13, Ia ((k : Int))), (14, Ia ((n : Int))), (38, Ba false), (71, Ba true)] [] ?_)))
            refine vc_ret (seq_r (iS (Iv 0) (Iv ((a : Int))) [Bv false] ?_))
            exact ⟨0, a, false, rfl, PcOk.no h1 hE (.inr (.inl (by omega)))⟩
        · replace hc51 := bt hc51
          refine iQ 19 (iE 78 [(0, .d (Sv (tx l))), (1, Ia ((a : Int))), (3, Ia ((t : Int))), (4, Ia ((most : Int))), (10, Ia 0), (11, Ia 0), (12, Ba false), (13, Ia ((k : Int))), (14, Ia ((n : Int))), (38, Ba false), (71, Ba true)] [] ?_)
          refine iT (vc_seqr rfl (iQ 4 (iE 78 [(0, .d (Sv (tx l))), (1, Ia ((a : Int))), (3, Ia ((t : Int))), (4, Ia ((most : Int))), (10, Ia 0), (11, Ia ((a : Int))), (12, Ba false), (13, Ia ((k : Int))), (14, Ia ((n : Int))), (38, Ba false), (71, Ba true)] [] ?_)))
          refine vc_ret (seq_r (iS (Iv 0) (Iv ((a : Int))) [Bv false] ?_))
          exact ⟨0, a, false, rfl, PcOk.no h1 hE (.inl (by omega))⟩
      · replace hc30 := bt hc30
        refine iQ 2 (iB .sub 3 (.int .i64 ((k : Int))) (.int .i64 ((a : Int))) (some 35) ?_)
        intro z35 hz35
        try replace hz35 := hz35.i64 (by omega)
        refine iQ 1 (iB .leq 3 (.int .i64 z35) (.int .i64 ((most : Int))) (some 37) ?_)
        intro c37 hc37
        refine iQ 1 (iE 78 [(0, .d (Sv (tx l))), (1, Ia ((a : Int))), (2, .d (.v (.int .u8 ((c.toNat : Int))))), (3, Ia ((t : Int))), (4, Ia ((most : Int))), (10, Ia 0), (11, Ia 0), (12, Ba false), (13, Ia ((k : Int))), (14, Ia ((n : Int))), (38, Ba c37)] [] ?_)
        cases c37
        · replace hc37 := bf hc37
          have hE : k - a > most ∨ ndg (l.drop a) = k - a := .inl (by omega)
          refine iF (vc_exit (seq_x (loop_x (block_x rfl (seq_n (vc_seq (vc_seqr rfl (iQ 2 (iB .eql 3 (.int .i64 ((k : Int))) (.int .i64 ((a : Int))) (some 51) ?_)))))))))
          intro c51 hc51
          refine iQ 1 ?_
          cases c51
          · replace hc51 := bf hc51
            refine iQ 2 (iB .sub 3 (.int .i64 ((k : Int))) (.int .i64 ((a : Int))) (some 55) ?_)
            intro z55 hz55
            try replace hz55 := hz55.i64 (by omega)
            refine iQ 1 (iB .gtr 3 (.int .i64 z55) (.int .i64 ((most : Int))) (some 57) ?_)
            intro c57 hc57
            refine iQ 2 ?_
            cases c57
            · replace hc57 := bf hc57
              refine iQ 2 (iL .len [9] [.string (tx l)] (some 62) ?_)
              intro n62 hn62
              have e62 : n62 = l.length := by rw [hn62]; exact tx_size l
              refine iB .geq 3 (.int .i64 ((k : Int))) (.int .i64 ((n62 : Nat))) (some 63) ?_
              intro c63 hc63
              refine iQ 2 ?_
              cases c63
              · replace hc63 := bf hc63
                refine iQ 2 (iX 9 (.string (tx l)) (.int .i64 ((k : Int))) (some 68) ?_)
                have hlt2 : k < l.length := by omega
                refine And.intro (by rw [tx_size]; omega) ?_
                intro z68 hz68
                have e68 := at_tx (z := z68) (c := c) hlt2 (by rw [hz68, Int.toNat_natCast])
                refine iQ 1 (iB .neq 5 (.int .u8 z68) (.int .u8 ((c.toNat : Int))) (some 70) ?_)
                intro c70 hc70
                refine iQ 1 (iE 78 [(0, .d (Sv (tx l))), (1, Ia ((a : Int))), (3, Ia ((t : Int))), (4, Ia ((most : Int))), (10, Ia 0), (11, Ia 0), (12, Ba false), (13, Ia ((k : Int))), (14, Ia ((n : Int))), (38, Ba false), (71, Ba c70)] [] ?_)
                cases c70
                · replace hc70 := bf hc70
                  have hEq : ndg (l.drop a) = k - a := by rcases hE with q | q; omega; exact q
                  have hlt10 := h1.lt (m := most) (by omega)
                  have hmul : n * t ≤ 10 ^ most * t := Nat.mul_le_mul_right _ (by omega)
                  refine iF (vc_skip (seq_n (vc_seqr rfl (iQ 2 (iB .mul 3 (.int .i64 ((n : Int))) (.int .i64 ((t : Int))) (some 75) ?_)))))
                  intro z75 hz75
                  try replace hz75 := hz75.i64 (by omega)
                  have e75 : z75 = ((n * t : Nat) : Int) := by rw [hz75]; exact (Int.natCast_mul n t).symm
                  refine iQ 1 (iB .add 3 (.int .i64 ((k : Int))) (.int .i64 1) (some 77) ?_)
                  intro z77 hz77
                  try replace hz77 := hz77.i64 (by omega)
                  have e77 : z77 = ((k + 1 : Nat) : Int) := by omega
                  refine iQ 3 (iE 78 [(0, .d (Sv (tx l))), (1, Ia ((a : Int))), (4, Ia ((most : Int))), (10, Ia z75), (11, Ia z77), (12, Ba true), (13, Ia ((k : Int))), (14, Ia ((n : Int))), (38, Ba false), (71, Ba false)] [] ?_)
                  refine vc_ret (iS (Iv z75) (Iv z77) [Bv true] ?_)
                  rw [e75, e77]; exact ⟨n * t, k + 1, true, rfl, by rw [h2]; exact PcOk.yes h1 hEq (by omega) (by omega) (e68.1 (Classical.not_not.1 hc70))⟩
                · replace hc70 := bt hc70
                  refine iT (vc_seqr rfl (iQ 4 (iE 78 [(0, .d (Sv (tx l))), (1, Ia ((a : Int))), (3, Ia ((t : Int))), (4, Ia ((most : Int))), (10, Ia 0), (11, Ia ((a : Int))), (12, Ba false), (13, Ia ((k : Int))), (14, Ia ((n : Int))), (38, Ba false), (71, Ba true)] [] ?_)))
                  refine vc_ret (seq_r (iS (Iv 0) (Iv ((a : Int))) [Bv false] ?_))
                  exact ⟨0, a, false, rfl, PcOk.no h1 hE (.inr (.inr (mt e68.2 hc70)))⟩
              · replace hc63 := bt hc63
                refine iQ 6 (iE 78 [(0, .d (Sv (tx l))), (1, Ia ((a : Int))), (3, Ia ((t : Int))), (4, Ia ((most : Int))), (10, Ia 0), (11, Ia 0), (12, Ba false), (13, Ia ((k : Int))), (14, Ia ((n : Int))), (38, Ba false), (71, Ba true)] [] ?_)
                refine iT (vc_seqr rfl (iQ 4 (iE 78 [(0, .d (Sv (tx l))), (1, Ia ((a : Int))), (3, Ia ((t : Int))), (4, Ia ((most : Int))), (10, Ia 0), (11, Ia ((a : Int))), (12, Ba false), (13, Ia ((k : Int))), (14, Ia ((n : Int))), (38, Ba false), (71, Ba true)] [] ?_)))
                refine vc_ret (seq_r (iS (Iv 0) (Iv ((a : Int))) [Bv false] ?_))
                exact ⟨0, a, false, rfl, PcOk.no h1 hE (.inr (.inr (none_ne (by omega))))⟩
            · replace hc57 := bt hc57
              refine iQ 12 (iE 78 [(0, .d (Sv (tx l))), (1, Ia ((a : Int))), (3, Ia ((t : Int))), (4, Ia ((most : Int))), (10, Ia 0), (11, Ia 0), (12, Ba false), (13, Ia ((k : Int))), (14, Ia ((n : Int))), (38, Ba false), (71, Ba true)] [] ?_)
              refine iT (vc_seqr rfl (iQ 4 (iE 78 [(0, .d (Sv (tx l))), (1, Ia ((a : Int))), (3, Ia ((t : Int))), (4, Ia ((most : Int))), (10, Ia 0), (11, Ia ((a : Int))), (12, Ba false), (13, Ia ((k : Int))), (14, Ia ((n : Int))), (38, Ba false), (71, Ba true)] [] ?_)))
              refine vc_ret (seq_r (iS (Iv 0) (Iv ((a : Int))) [Bv false] ?_))
              exact ⟨0, a, false, rfl, PcOk.no h1 hE (.inr (.inl (by omega)))⟩
          · replace hc51 := bt hc51
            refine iQ 19 (iE 78 [(0, .d (Sv (tx l))), (1, Ia ((a : Int))), (3, Ia ((t : Int))), (4, Ia ((most : Int))), (10, Ia 0), (11, Ia 0), (12, Ba false), (13, Ia ((k : Int))), (14, Ia ((n : Int))), (38, Ba false), (71, Ba true)] [] ?_)
            refine iT (vc_seqr rfl (iQ 4 (iE 78 [(0, .d (Sv (tx l))), (1, Ia ((a : Int))), (3, Ia ((t : Int))), (4, Ia ((most : Int))), (10, Ia 0), (11, Ia ((a : Int))), (12, Ba false), (13, Ia ((k : Int))), (14, Ia ((n : Int))), (38, Ba false), (71, Ba true)] [] ?_)))
            refine vc_ret (seq_r (iS (Iv 0) (Iv ((a : Int))) [Bv false] ?_))
            exact ⟨0, a, false, rfl, PcOk.no h1 hE (.inl (by omega))⟩
        · replace hc37 := bt hc37
          have hdg : isDg l[k] = true := isDg_iff.2 ⟨by omega, by omega⟩
          obtain ⟨d1, d2⟩ := h1.succ hg hdg
          have hn16 : n < 10 ^ 15 := by rw [h2]; exact h1.lt (by omega)
          refine iT (vc_skip (seq_n (vc_block (vc_seqr rfl (iQ 1 (iB .mul 3 (.int .i64 10) (.int .i64 ((n : Int))) (some 40) ?_))))))
          intro z40 hz40
          try replace hz40 := hz40.i64 (by omega)
          refine iQ 2 (iX 9 (.string (tx l)) (.int .i64 ((k : Int))) (some 43) ?_)
          refine And.intro (by rw [tx_size]; omega) ?_
          intro z43 hz43
          have e43 := dig_tx (z := z43) hlt (by rw [hz43, Int.toNat_natCast])
          refine iB .sub 5 (.int .u8 z43) (.int .u8 48) (some 44) ?_
          intro z44 hz44
          try replace hz44 := hz44.u8 (by omega)
          refine iV 5 3 (.int .u8 z44) (some 45) ?_
          intro z45 hz45
          try replace hz45 := hz45.i64 (by omega)
          refine iB .add 3 (.int .i64 z40) (.int .i64 z45) (some 46) ?_
          intro z46 hz46
          try replace hz46 := hz46.i64 (by omega)
          refine iQ 1 (iE 78 [(0, .d (Sv (tx l))), (1, Ia ((a : Int))), (2, .d (.v (.int .u8 ((c.toNat : Int))))), (3, Ia ((t : Int))), (4, Ia ((most : Int))), (10, Ia 0), (11, Ia 0), (12, Ba false), (13, Ia ((k : Int))), (14, Ia z46), (38, Ba true)] [] ?_)
          refine vc_reg rfl (iQ 1 (iB .add 3 (.int .i64 ((k : Int))) (.int .i64 1) (some 48) ?_))
          intro z48 hz48
          try replace hz48 := hz48.i64 (by omega)
          refine iQ 1 (iE 78 [(0, .d (Sv (tx l))), (1, Ia ((a : Int))), (2, .d (.v (.int .u8 ((c.toNat : Int))))), (3, Ia ((t : Int))), (4, Ia ((most : Int))), (10, Ia 0), (11, Ia 0), (12, Ba false), (13, Ia z48), (14, Ia z46), (38, Ba true)] [] ?_)
          refine block_n ?_
          obtain rfl : z46 = ((n * 10 + ((l[k]'hlt).toNat - 48) : Nat) : Int) := by omega
          obtain rfl : z48 = ((k + 1 : Nat) : Int) := by omega
          refine loop_n (k + 1, n * 10 + ((l[k]'hlt).toNat - 48)) (⟨d1, by rw [d2, h2], by omega⟩) (by show l.length - (k + 1) < l.length - k; omega) (by kernel_rfl) (by kernel_rfl)

theorem c_ended {l : L8} {n : Nat} {y : Int} (h0 : l ≠ []) (hy : y = (n : Int)) (hn : n ≤ 9223372036854775807) : HasC Tryd.prog 53 [.v (.string (tx l)), .v (.int .i64 y)] (OptP (signedS n (decide (l.head? = some 45)))) := by
  refine HasC.of [] (fn := Tryd.f53) tyOk mixed (fun args w => Tryd.call53 args w) Tryd.func53 rfl (by kernel_rfl) (Nat.le_of_ble_eq_true rfl) (OptP_ex _) ?_
  have h00 : 0 < l.length := List.length_pos_iff.2 h0
  refine vc_seqr rfl (iQ 2 (iE 14 [(0, .d (Sv (tx l))), (1, Ia y), (4, Ia 0), (5, Ba false)] [] ?_))
  refine vc_seq (vc_seqr rfl (iQ 1 (iB .gtr 3 (.int .i64 y) (.int .i64 9007199254740992) (some 7) ?_)))
  intro c7 hc7
  refine iE 14 [(0, .d (Sv (tx l))), (1, Ia y), (4, Ia 0), (5, Ba false), (7, Ba c7)] [] ?_
  cases c7
  · replace hc7 := bf hc7
    refine iF (vc_skip (seq_n (vc_seq (vc_seqr rfl (iQ 1 (iX 9 (.string (tx l)) (.int .i64 0) (some 9) ?_))))))
    refine And.intro (by rw [tx_size]; omega) ?_
    intro z9 hz9
    have e9 := at0_tx (c := 45) h0 hz9
    refine iB .eql 5 (.int .u8 z9) (.int .u8 45) (some 10) ?_
    intro c10 hc10
    refine iE 14 [(1, Ia y), (4, Ia 0), (5, Ba false), (7, Ba false), (10, Ba c10)] [] ?_
    cases c10
    · replace hc10 := bf hc10
      refine iF (vc_skip (seq_n (vc_seqr rfl (iQ 3 (iE 14 [(1, Ia y), (4, Ia y), (5, Ba true), (7, Ba false), (10, Ba false)] [] ?_)))))
      refine vc_ret (iS (Iv y) (Bv true) [] ?_)
      exact OptP_of (by rw [optS_yes (n := n) (neg := decide (l.head? = some 45)) (z := y) (by omega) (by rw [decide_eq_false (fun e => hc10 (e9.2 e))]; simpa using hy)])
    · replace hc10 := bt hc10
      refine iT (vc_seqr rfl (iQ 1 (iU .neg (.int .i64 y) (some 12) ?_)))
      intro z12 hz12
      try replace hz12 := hz12.i64 (by omega)
      refine iQ 2 (iE 14 [(1, Ia y), (4, Ia z12), (5, Ba true), (7, Ba false), (10, Ba true)] [] ?_)
      refine vc_ret (seq_r (iS (Iv z12) (Bv true) [] ?_))
      exact OptP_of (by rw [optS_yes (n := n) (neg := decide (l.head? = some 45)) (z := z12) (by omega) (by rw [decide_eq_true (e9.1 hc10), if_pos rfl]; omega)])
  · replace hc7 := bt hc7
    refine iT (vc_seqr rfl (iQ 2 (iE 14 [(0, .d (Sv (tx l))), (1, Ia y), (4, Ia 0), (5, Ba false), (7, Ba true)] [] ?_)))
    refine vc_ret (seq_r (iS (Iv 0) (Bv false) [] ?_))
    exact OptP_no (by rw [signedS, if_pos (by omega)])
theorem c_endedE {l : L8} {n : Nat} {y : Int} {g : Bool} (hg : g = decide (l.head? = some 45)) (h0 : l ≠ []) (hy : y = (n : Int)) (hn : n ≤ 9223372036854775807) : HasC Tryd.prog 53 [.v (.string (tx l)), .v (.int .i64 y)] (OptP (signedS n g)) := by subst hg; exact c_ended h0 hy hn


open Go.RowKit
set_option linter.unusedVariables false
set_option linter.unusedSimpArgs false
set_option maxRecDepth 100000

theorem PcOk_ex (l : L8) (a : Nat) (c : UInt8) (t most : Nat) (ha : a ≤ l.length) : ∃ n k b, PcOk l a c t most n k b := by
  obtain ⟨r, n, k, b, _, h⟩ := PcP_ex l a c t most ha
  exact ⟨n, k, b, h⟩
theorem days_T0 {l : L8} {n k : Nat} {b : Bool} (h : l[sgn1 l]? = some 80) (hp : PcOk l (sgn1 l + 1) 68 86400 12 n k b) (hT : l[k]? = some 84) (hk : k + 1 = l.length) : daysS l = none := by
  obtain ⟨n1, k1, b1, h1⟩ := PcOk_ex l (k + 1) 72 3600 12 (by omega)
  obtain ⟨n2, k2, b2, h2⟩ := PcOk_ex l k1 77 60 12 (h1.le.2.1 (by omega))
  obtain ⟨n3, k3, b3, h3⟩ := PcOk_ex l k2 83 1 12 (h2.le.2.1 (h1.le.2.1 (by omega)))
  rw [days_T h hp (by omega) hT h1 h2 h3, if_pos (.inl hk)]
theorem c_pcD {l : L8} {a : Nat} (ha : a ≤ l.length) (hL : l.length ≤ 9223372036854775807) : HasC Tryd.prog 52 [.v (.string (tx l)), .v (.int .i64 (a : Int)), .v (.int .u8 68), .v (.int .i64 86400), .v (.int .i64 12)] (PcP l a 68 86400 12) := c_pc ha (by decide) (by decide) hL
theorem c_pcH {l : L8} {a : Nat} {z : Int} (hz : z = (a : Int)) (ha : a ≤ l.length) (hL : l.length ≤ 9223372036854775807) : HasC Tryd.prog 52 [.v (.string (tx l)), .v (.int .i64 z), .v (.int .u8 72), .v (.int .i64 3600), .v (.int .i64 12)] (PcP l a 72 3600 12) := by subst hz; exact c_pc ha (by decide) (by decide) hL
theorem c_pcM {l : L8} {a : Nat} (ha : a ≤ l.length) (hL : l.length ≤ 9223372036854775807) : HasC Tryd.prog 52 [.v (.string (tx l)), .v (.int .i64 (a : Int)), .v (.int .u8 77), .v (.int .i64 60), .v (.int .i64 12)] (PcP l a 77 60 12) := c_pc ha (by decide) (by decide) hL
theorem c_pcS {l : L8} {a : Nat} (ha : a ≤ l.length) (hL : l.length ≤ 9223372036854775807) : HasC Tryd.prog 52 [.v (.string (tx l)), .v (.int .i64 (a : Int)), .v (.int .u8 83), .v (.int .i64 1), .v (.int .i64 12)] (PcP l a 83 1 12) := c_pc ha (by decide) (by decide) hL
theorem c_pcY {l : L8} {a : Nat} (ha : a ≤ l.length) (hL : l.length ≤ 9223372036854775807) : HasC Tryd.prog 52 [.v (.string (tx l)), .v (.int .i64 (a : Int)), .v (.int .u8 89), .v (.int .i64 12), .v (.int .i64 15)] (PcP l a 89 12 15) := c_pc ha (by decide) (by decide) hL
theorem c_pcN {l : L8} {a : Nat} (ha : a ≤ l.length) (hL : l.length ≤ 9223372036854775807) : HasC Tryd.prog 52 [.v (.string (tx l)), .v (.int .i64 (a : Int)), .v (.int .u8 77), .v (.int .i64 1), .v (.int .i64 15)] (PcP l a 77 1 15) := c_pc ha (by decide) (by decide) hL

theorem c_days {l : L8} (hL : l.length ≤ 9223372036854775807) : HasC Tryd.prog 14 [.v (.string (tx l))] (OptP (daysS l)) := by
  refine HasC.of [] (fn := Tryd.f14) tyOk mixed (fun args w => Tryd.call14 args w) Tryd.func14 rfl (by kernel_rfl) (Nat.le_of_ble_eq_true rfl) (OptP_ex _) ?_
  refine vc_seqr rfl (iQ 2 (iE 88 [(0, .d (Sv (tx l))), (2, Ia 0), (3, Ba false)] [] ?_))
  refine vc_seqr rfl (iQ 1 (iC 51 [Sv (tx l)] (some 17) (c_begun hL) ?_))
  rintro _ ⟨b, rfl, hb⟩
  refine iQ 5 (iE 88 [(0, .d (Sv (tx l))), (2, Ia 0), (3, Ba false), (4, Ia (((sgn1 l + 1 : Nat) : Int))), (5, Ba b)] [] ?_)
  refine vc_seq (vc_seqr rfl (iQ 1 (iU .not (.bool b) (some 21) ?_)))
  intro c21 hc21
  refine iE 88 [(0, .d (Sv (tx l))), (2, Ia 0), (3, Ba false), (4, Ia (((sgn1 l + 1 : Nat) : Int))), (21, Ba c21)] [] ?_
  cases c21
  · replace hc21 := bf hc21
    have h80 : l[sgn1 l]? = some 80 := hb.1 (by simpa using hc21)
    have hsl := sgn1_lt h80
    have h0 : l ≠ [] := fun e => by rw [e] at hsl; simp at hsl
    refine iF (vc_skip (seq_n (vc_seqr rfl (iQ 2 (iC 52 [Sv (tx l), Iv (((sgn1 l + 1 : Nat) : Int)), .v (.int .u8 68), Iv 86400, Iv 12] (some 25) (c_pcD (a := sgn1 l + 1) (by omega) hL) ?_)))))
    rintro _ ⟨n, k, b2, rfl, hp⟩
    have hpl := hp.le
    have hkl := hpl.2.1 (by omega)
    have hnb : n ≤ 86400000000000000 := hpl.2.2.1
    refine iQ 7 (iE 88 [(0, .d (Sv (tx l))), (2, Ia 0), (3, Ba false), (6, Ia ((n : Int))), (7, Ia ((k : Int))), (8, Ba b2), (21, Ba false)] [] ?_)
    refine vc_seq (vc_seqr rfl (iQ 2 (iL .len [9] [.string (tx l)] (some 31) ?_)))
    intro n31 hn31
    have e31 : n31 = l.length := by rw [hn31]; exact tx_size _
    refine iB .eql 3 (.int .i64 ((k : Int))) (.int .i64 ((n31 : Nat))) (some 32) ?_
    intro c32 hc32
    refine iE 88 [(0, .d (Sv (tx l))), (2, Ia 0), (3, Ba false), (6, Ia ((n : Int))), (7, Ia ((k : Int))), (8, Ba b2), (21, Ba false), (32, Ba c32)] [] ?_
    cases c32
    · replace hc32 := bf hc32
      have hlt : k < l.length := by omega
      refine iF (vc_skip (seq_n (vc_seq (vc_seqr rfl (iQ 2 (iX 9 (.string (tx l)) (.int .i64 ((k : Int))) (some 42) ?_))))))
      refine And.intro (by rw [tx_size]; omega) ?_
      intro z42 hz42
      have e42 := at_tx (z := z42) (c := 84) hlt (by rw [hz42, Int.toNat_natCast])
      refine iB .neq 5 (.int .u8 z42) (.int .u8 84) (some 43) ?_
      intro c43 hc43
      refine iQ 1 ?_
      cases c43
      · replace hc43 := bf hc43
        refine iQ 1 (iB .add 3 (.int .i64 ((k : Int))) (.int .i64 1) (some 46) ?_)
        intro z46 hz46
        try replace hz46 := hz46.i64 (by omega)
        have h84 : l[k]? = some 84 := e42.1 (Classical.not_not.1 hc43)
        refine iQ 1 (iL .len [9] [.string (tx l)] (some 48) ?_)
        intro n48 hn48
        have e48 : n48 = l.length := by rw [hn48]; exact tx_size _
        refine iB .eql 3 (.int .i64 z46) (.int .i64 ((n48 : Nat))) (some 49) ?_
        intro c49 hc49
        refine iQ 1 (iE 88 [(0, .d (Sv (tx l))), (2, Ia 0), (3, Ba false), (6, Ia ((n : Int))), (7, Ia ((k : Int))), (8, Ba b2), (21, Ba false), (32, Ba false), (50, Ba c49)] [] ?_)
        cases c49
        · replace hc49 := bf hc49
          have hk1 : k + 1 ≠ l.length := by omega
          refine iF (vc_skip (seq_n (vc_seqr rfl (iQ 2 (iB .add 3 (.int .i64 ((k : Int))) (.int .i64 1) (some 54) ?_)))))
          intro z54 hz54
          try replace hz54 := hz54.i64 (by omega)
          refine iC 52 [Sv (tx l), Iv z54, .v (.int .u8 72), Iv 3600, Iv 12] (some 55) (c_pcH (a := k + 1) (by omega) (by omega) hL) ?_
          rintro _ ⟨n1, k1, b3, rfl, h1⟩
          have hl1 := h1.le
          have hk1l := hl1.2.1 (by omega)
          have hn1 : n1 ≤ 3600000000000000 := hl1.2.2.1
          refine iQ 7 (iE 88 [(0, .d (Sv (tx l))), (2, Ia 0), (3, Ba false), (6, Ia ((n : Int))), (7, Ia ((k1 : Int))), (8, Ba b2), (9, Ia ((n1 : Int))), (21, Ba false), (32, Ba false), (50, Ba false)] [] ?_)
          refine vc_seqr rfl (iQ 2 (iC 52 [Sv (tx l), Iv ((k1 : Int)), .v (.int .u8 77), Iv 60, Iv 12] (some 62) (c_pcM (a := k1) hk1l hL) ?_))
          rintro _ ⟨n2, k2, b4, rfl, h2⟩
          have hl2 := h2.le
          have hk2l := hl2.2.1 hk1l
          have hn2 : n2 ≤ 60000000000000 := hl2.2.2.1
          refine iQ 7 (iE 88 [(0, .d (Sv (tx l))), (2, Ia 0), (3, Ba false), (6, Ia ((n : Int))), (7, Ia ((k2 : Int))), (8, Ba b2), (9, Ia ((n1 : Int))), (11, Ia ((n2 : Int))), (21, Ba false), (32, Ba false), (50, Ba false)] [] ?_)
          refine vc_seqr rfl (iQ 2 (iC 52 [Sv (tx l), Iv ((k2 : Int)), .v (.int .u8 83), Iv 1, Iv 12] (some 69) (c_pcS (a := k2) hk2l hL) ?_))
          rintro _ ⟨n3, k3, b5, rfl, h3⟩
          have hl3 := h3.le
          have hk3l := hl3.2.1 hk2l
          have hn3 : n3 ≤ 1000000000000 := hl3.2.2.1
          have hT := days_T h80 hp hlt h84 h1 h2 h3
          refine iQ 7 (iE 88 [(0, .d (Sv (tx l))), (2, Ia 0), (3, Ba false), (6, Ia ((n : Int))), (7, Ia ((k3 : Int))), (8, Ba b2), (9, Ia ((n1 : Int))), (11, Ia ((n2 : Int))), (13, Ia ((n3 : Int))), (21, Ba false), (32, Ba false), (50, Ba false)] [] ?_)
          refine vc_seq (vc_seqr rfl (iQ 2 (iL .len [9] [.string (tx l)] (some 75) ?_)))
          intro n75 hn75
          have e75 : n75 = l.length := by rw [hn75]; exact tx_size _
          refine iB .neq 3 (.int .i64 ((k3 : Int))) (.int .i64 ((n75 : Nat))) (some 76) ?_
          intro c76 hc76
          refine iE 88 [(0, .d (Sv (tx l))), (2, Ia 0), (3, Ba false), (6, Ia ((n : Int))), (7, Ia ((k3 : Int))), (8, Ba b2), (9, Ia ((n1 : Int))), (11, Ia ((n2 : Int))), (13, Ia ((n3 : Int))), (21, Ba false), (32, Ba false), (50, Ba false), (76, Ba c76)] [] ?_
          cases c76
          · replace hc76 := bf hc76
            refine iF (vc_skip (seq_n (vc_seqr rfl (iQ 3 (iB .add 3 (.int .i64 ((n : Int))) (.int .i64 ((n1 : Int))) (some 80) ?_)))))
            intro z80 hz80
            try replace hz80 := hz80.i64 (by omega)
            refine iQ 1 (iB .add 3 (.int .i64 z80) (.int .i64 ((n2 : Int))) (some 82) ?_)
            intro z82 hz82
            try replace hz82 := hz82.i64 (by omega)
            refine iQ 1 (iB .add 3 (.int .i64 z82) (.int .i64 ((n3 : Int))) (some 84) ?_)
            intro z84 hz84
            try replace hz84 := hz84.i64 (by omega)
            refine iC 53 [Sv (tx l), Iv z84] (some 85) (c_endedE (l := l) (n := n + n1 + n2 + n3) rfl h0 (by omega) (by omega)) ?_
            rintro _ ⟨z, g2, rfl, hz⟩
            refine iQ 4 (iE 88 [(0, .d (Sv (tx l))), (2, Ia z), (3, Ba g2), (6, Ia ((n : Int))), (7, Ia ((k3 : Int))), (8, Ba b2), (21, Ba false), (32, Ba false), (50, Ba false), (76, Ba false)] [] ?_)
            refine vc_ret (iS (Iv z) (Bv g2) [] ?_)
            exact ⟨_, _, rfl, by rw [hz, hT, if_neg (by omega)]⟩
          · replace hc76 := bt hc76
            refine iT (vc_seqr rfl (iQ 2 (iE 88 [(0, .d (Sv (tx l))), (2, Ia 0), (3, Ba false), (6, Ia ((n : Int))), (7, Ia ((k3 : Int))), (8, Ba b2), (9, Ia ((n1 : Int))), (11, Ia ((n2 : Int))), (13, Ia ((n3 : Int))), (21, Ba false), (32, Ba false), (50, Ba false), (76, Ba true)] [] ?_)))
            refine vc_ret (seq_r (iS (Iv 0) (Bv false) [] ?_))
            exact OptP_no (by rw [hT, if_pos (.inr (by omega))])
        · replace hc49 := bt hc49
          refine iT (vc_seqr rfl (iQ 2 (iE 88 [(0, .d (Sv (tx l))), (2, Ia 0), (3, Ba false), (6, Ia ((n : Int))), (7, Ia ((k : Int))), (8, Ba b2), (21, Ba false), (32, Ba false), (50, Ba true)] [] ?_)))
          refine vc_ret (seq_r (iS (Iv 0) (Bv false) [] ?_))
          exact OptP_no (days_T0 h80 hp h84 (by omega))
      · replace hc43 := bt hc43
        refine iQ 6 (iE 88 [(0, .d (Sv (tx l))), (2, Ia 0), (3, Ba false), (6, Ia ((n : Int))), (7, Ia ((k : Int))), (8, Ba b2), (21, Ba false), (32, Ba false), (50, Ba true)] [] ?_)
        refine iT (vc_seqr rfl (iQ 2 (iE 88 [(0, .d (Sv (tx l))), (2, Ia 0), (3, Ba false), (6, Ia ((n : Int))), (7, Ia ((k : Int))), (8, Ba b2), (21, Ba false), (32, Ba false), (50, Ba true)] [] ?_)))
        refine vc_ret (seq_r (iS (Iv 0) (Bv false) [] ?_))
        exact OptP_no (days_noT h80 hp hlt (mt e42.2 hc43))
    · replace hc32 := bt hc32
      refine iT (vc_seq (vc_seqr rfl (iQ 1 (iU .not (.bool b2) (some 34) ?_))))
      intro c34 hc34
      refine iE 88 [(0, .d (Sv (tx l))), (2, Ia 0), (3, Ba false), (6, Ia ((n : Int))), (7, Ia ((k : Int))), (21, Ba false), (32, Ba true), (34, Ba c34)] [] ?_
      cases c34
      · replace hc34 := bf hc34
        refine iF (vc_skip (seq_n (vc_seqr rfl (iQ 2 (iC 53 [Sv (tx l), Iv ((n : Int))] (some 37) (c_endedE (l := l) (n := n) rfl h0 rfl (by omega)) ?_)))))
        rintro _ ⟨z, g2, rfl, hz⟩
        refine iQ 4 (iE 88 [(0, .d (Sv (tx l))), (2, Ia z), (3, Ba g2), (6, Ia ((n : Int))), (7, Ia ((k : Int))), (21, Ba false), (32, Ba true), (34, Ba false)] [] ?_)
        refine vc_ret (seq_r (iS (Iv z) (Bv g2) [] ?_))
        exact ⟨_, _, rfl, by rw [hz, days_day h80 hp (by omega), if_pos (by simpa using hc34)]⟩
      · replace hc34 := bt hc34
        refine iT (vc_seqr rfl (iQ 2 (iE 88 [(0, .d (Sv (tx l))), (2, Ia 0), (3, Ba false), (6, Ia ((n : Int))), (7, Ia ((k : Int))), (21, Ba false), (32, Ba true), (34, Ba true)] [] ?_)))
        refine vc_ret (seq_r (seq_r (iS (Iv 0) (Bv false) [] ?_)))
        exact OptP_no (by rw [days_day h80 hp (by omega), hc34]; rfl)
  · replace hc21 := bt hc21
    refine iT (vc_seqr rfl (iQ 2 (iE 88 [(0, .d (Sv (tx l))), (2, Ia 0), (3, Ba false), (4, Ia (((sgn1 l + 1 : Nat) : Int))), (21, Ba true)] [] ?_)))
    refine vc_ret (seq_r (iS (Iv 0) (Bv false) [] ?_))
    exact OptP_no (days_noP (fun e => by have := hb.2 e; rw [hc21] at this; cases this)).1
theorem c_months {l : L8} (hL : l.length ≤ 9223372036854775807) : HasC Tryd.prog 15 [.v (.string (tx l))] (OptP (monthsS l)) := by
  refine HasC.of [] (fn := Tryd.f15) tyOk mixed (fun args w => Tryd.call15 args w) Tryd.func15 rfl (by kernel_rfl) (Nat.le_of_ble_eq_true rfl) (OptP_ex _) ?_
  refine vc_seqr rfl (iQ 2 (iE 49 [(0, .d (Sv (tx l))), (2, Ia 0), (3, Ba false)] [] ?_))
  refine vc_seqr rfl (iQ 1 (iC 51 [Sv (tx l)] (some 13) (c_begun hL) ?_))
  rintro _ ⟨b, rfl, hb⟩
  refine iQ 5 (iE 49 [(0, .d (Sv (tx l))), (2, Ia 0), (3, Ba false), (4, Ia (((sgn1 l + 1 : Nat) : Int))), (5, Ba b)] [] ?_)
  refine vc_seq (vc_seqr rfl (iQ 1 (iU .not (.bool b) (some 17) ?_)))
  intro c17 hc17
  refine iQ 1 ?_
  cases c17
  · replace hc17 := bf hc17
    refine iQ 2 (iL .len [9] [.string (tx l)] (some 21) ?_)
    intro n21 hn21
    have h80 : l[sgn1 l]? = some 80 := hb.1 (by simpa using hc17)
    have hsl := sgn1_lt h80
    have h0 : l ≠ [] := fun e => by rw [e] at hsl; simp at hsl
    have e21 : n21 = l.length := by rw [hn21]; exact tx_size _
    refine iB .eql 3 (.int .i64 (((sgn1 l + 1 : Nat) : Int))) (.int .i64 ((n21 : Nat))) (some 22) ?_
    intro c22 hc22
    refine iQ 1 (iE 49 [(0, .d (Sv (tx l))), (2, Ia 0), (3, Ba false), (4, Ia (((sgn1 l + 1 : Nat) : Int))), (23, Ba c22)] [] ?_)
    cases c22
    · replace hc22 := bf hc22
      refine iF (vc_skip (seq_n (vc_seqr rfl (iQ 2 (iC 52 [Sv (tx l), Iv (((sgn1 l + 1 : Nat) : Int)), .v (.int .u8 89), Iv 12, Iv 15] (some 27) (c_pcY (a := sgn1 l + 1) (by omega) hL) ?_)))))
      rintro _ ⟨n1, k1, b3, rfl, h1⟩
      have hl1 := h1.le
      have hk1l := hl1.2.1 (by omega)
      have hn1 : n1 ≤ 12000000000000000 := hl1.2.2.1
      refine iQ 7 (iE 49 [(0, .d (Sv (tx l))), (2, Ia 0), (3, Ba false), (4, Ia (((sgn1 l + 1 : Nat) : Int))), (6, Ia ((n1 : Int))), (7, Ia ((k1 : Int))), (23, Ba false)] [] ?_)
      refine vc_seqr rfl (iQ 2 (iC 52 [Sv (tx l), Iv ((k1 : Int)), .v (.int .u8 77), Iv 1, Iv 15] (some 34) (c_pcN (a := k1) hk1l hL) ?_))
      rintro _ ⟨n2, k2, b4, rfl, h2⟩
      have hl2 := h2.le
      have hk2l := hl2.2.1 hk1l
      have hn2 : n2 ≤ 1000000000000000 := hl2.2.2.1
      have hT := months_P h80 h1 h2
      refine iQ 7 (iE 49 [(0, .d (Sv (tx l))), (2, Ia 0), (3, Ba false), (4, Ia (((sgn1 l + 1 : Nat) : Int))), (6, Ia ((n1 : Int))), (7, Ia ((k2 : Int))), (9, Ia ((n2 : Int))), (23, Ba false)] [] ?_)
      refine vc_seq (vc_seqr rfl (iQ 2 (iL .len [9] [.string (tx l)] (some 40) ?_)))
      intro n40 hn40
      have e40 : n40 = l.length := by rw [hn40]; exact tx_size _
      refine iB .neq 3 (.int .i64 ((k2 : Int))) (.int .i64 ((n40 : Nat))) (some 41) ?_
      intro c41 hc41
      refine iE 49 [(0, .d (Sv (tx l))), (2, Ia 0), (3, Ba false), (4, Ia (((sgn1 l + 1 : Nat) : Int))), (6, Ia ((n1 : Int))), (7, Ia ((k2 : Int))), (9, Ia ((n2 : Int))), (23, Ba false), (41, Ba c41)] [] ?_
      cases c41
      · replace hc41 := bf hc41
        refine iF (vc_skip (seq_n (vc_seqr rfl (iQ 3 (iB .add 3 (.int .i64 ((n1 : Int))) (.int .i64 ((n2 : Int))) (some 45) ?_)))))
        intro z45 hz45
        try replace hz45 := hz45.i64 (by omega)
        refine iC 53 [Sv (tx l), Iv z45] (some 46) (c_endedE (l := l) (n := n1 + n2) rfl h0 (by omega) (by omega)) ?_
        rintro _ ⟨z, g2, rfl, hz⟩
        refine iQ 4 (iE 49 [(0, .d (Sv (tx l))), (2, Ia z), (3, Ba g2), (4, Ia (((sgn1 l + 1 : Nat) : Int))), (7, Ia ((k2 : Int))), (23, Ba false), (41, Ba false)] [] ?_)
        refine vc_ret (iS (Iv z) (Bv g2) [] ?_)
        exact ⟨_, _, rfl, by rw [hz, hT, if_neg (by omega)]⟩
      · replace hc41 := bt hc41
        refine iT (vc_seqr rfl (iQ 2 (iE 49 [(0, .d (Sv (tx l))), (2, Ia 0), (3, Ba false), (4, Ia (((sgn1 l + 1 : Nat) : Int))), (6, Ia ((n1 : Int))), (7, Ia ((k2 : Int))), (9, Ia ((n2 : Int))), (23, Ba false), (41, Ba true)] [] ?_)))
        refine vc_ret (seq_r (iS (Iv 0) (Bv false) [] ?_))
        exact OptP_no (by rw [hT, if_pos (.inr (by omega))])
    · replace hc22 := bt hc22
      obtain ⟨q1, q2, q3, h1⟩ := PcOk_ex l (sgn1 l + 1) 89 12 15 (by omega)
      obtain ⟨p1, p2, p3, h2⟩ := PcOk_ex l q2 77 1 15 (h1.le.2.1 (by omega))
      refine iT (vc_seqr rfl (iQ 2 (iE 49 [(0, .d (Sv (tx l))), (2, Ia 0), (3, Ba false), (4, Ia (((sgn1 l + 1 : Nat) : Int))), (23, Ba true)] [] ?_)))
      refine vc_ret (seq_r (iS (Iv 0) (Bv false) [] ?_))
      exact OptP_no (by rw [months_P h80 h1 h2, if_pos (.inl (by omega))])
  · replace hc17 := bt hc17
    refine iQ 5 (iE 49 [(0, .d (Sv (tx l))), (2, Ia 0), (3, Ba false), (4, Ia (((sgn1 l + 1 : Nat) : Int))), (23, Ba true)] [] ?_)
    refine iT (vc_seqr rfl (iQ 2 (iE 49 [(0, .d (Sv (tx l))), (2, Ia 0), (3, Ba false), (4, Ia (((sgn1 l + 1 : Nat) : Int))), (23, Ba true)] [] ?_)))
    refine vc_ret (seq_r (iS (Iv 0) (Bv false) [] ?_))
    exact OptP_no (days_noP (fun e => by have := hb.2 e; rw [hc17] at this; cases this)).2

-- the document's examples
theorem c_aw1 : HasC Tryd.prog 12 [.v (.string ⟨#[80, 84, 51, 54, 72]⟩)] (fun r => r = .tup [.v (.int .i64 129600), .v (.bool true)]) := OptP_at (c_ReadDays (l := [80, 84, 51, 54, 72]) (by decide)) (by decide)
theorem c_aw2 : HasC Tryd.prog 13 [.v (.string ⟨#[80, 49, 52, 77]⟩)] (fun r => r = .tup [.v (.int .i64 14), .v (.bool true)]) := OptP_at (c_ReadMonths (l := [80, 49, 52, 77]) (by decide)) (by decide)
theorem c_aw3 : HasC Tryd.prog 12 [.v (.string ⟨#[80, 49, 68, 84]⟩)] (fun r => r = .tup [.v (.int .i64 0), .v (.bool false)]) := OptP_atno (c_ReadDays (l := [80, 49, 68, 84]) (by decide)) (by decide)
theorem str_as {P : Program} {f : FuncId} {ds : List DV} {l : L8} {s : ByteArray} (c : HasC P f ds (fun r => r = .v (.string (tx l)))) (h : s = tx l) : HasC P f ds (fun r => r = .v (.string s)) := by subst h; exact c
theorem itoa_1 {n : Nat} (h : n < 10) : Lib.itoa (n : Int) = [UInt8.ofNat (48 + n)] := by
  rw [itoa_nn (by omega), Int.toNat_natCast, Lib.decDigits, dif_pos h]
theorem itoa_2 {n : Nat} (h : 10 ≤ n) (h2 : n < 100) : Lib.itoa (n : Int) = [UInt8.ofNat (48 + n / 10), UInt8.ofNat (48 + n % 10)] := by
  rw [itoa_nn (by omega), Int.toNat_natCast, Lib.decDigits, dif_neg (by omega), Lib.decDigits, dif_pos (by omega)]
  rfl
theorem pad_1 {n : Nat} (w : Nat) (h : n < 10) : padL (n : Int) w = List.replicate (w - 1) 48 ++ [UInt8.ofNat (48 + n)] := by rw [padL, itoa_1 h]; rfl
theorem pad_2 {n : Nat} (w : Nat) (h : 10 ≤ n) (h2 : n < 100) : padL (n : Int) w = List.replicate (w - 2) 48 ++ [UInt8.ofNat (48 + n / 10), UInt8.ofNat (48 + n % 10)] := by rw [padL, itoa_2 h h2]; rfl
theorem aw_date : dateT 5 1 2 = [48, 48, 48, 53, 45, 48, 49, 45, 48, 50] := by
  rw [dateT, if_pos (by decide), dateL, if_neg (by decide), if_neg (by decide), show padL 5 4 = padL ((5 : Nat) : Int) 4 from rfl, show padL 1 2 = padL ((1 : Nat) : Int) 2 from rfl, show padL 2 2 = padL ((2 : Nat) : Int) 2 from rfl, pad_1 (n := 5) 4 (by decide), pad_1 (n := 1) 2 (by decide), pad_1 (n := 2) 2 (by decide)]
  rfl
theorem aw_time : timeT 3661 true (-19800) = [48, 49, 58, 48, 49, 58, 48, 49, 45, 48, 53, 58, 51, 48] := by
  rw [timeT, if_pos (by decide), timeL, zoneL, if_neg (by decide), if_neg (by decide), if_pos (by decide), offL, if_pos (by decide),
    show (3661 : Int) / 3600 = ((1 : Nat) : Int) from rfl, show (3661 : Int) % 3600 / 60 = ((1 : Nat) : Int) from rfl, show (3661 : Int) % 60 = ((1 : Nat) : Int) from rfl,
    show (- -19800 : Int) / 3600 = ((5 : Nat) : Int) from rfl, show (- -19800 : Int) % 3600 / 60 = ((30 : Nat) : Int) from rfl,
    pad_1 (n := 1) 2 (by decide), pad_1 (n := 5) 2 (by decide), pad_2 (n := 30) 2 (by decide) (by decide)]
  rfl
theorem aw_days : daysT 90061 = [80, 49, 68, 84, 49, 72, 49, 77, 49, 83] := by
  have h1 : restL 90061 = [49, 72, 49, 77, 49, 83] := by
    rw [restL, pieceL, pieceL, pieceL, if_neg (by decide), if_neg (by decide), if_neg (by decide),
      show (90061 : Int) % 86400 / 3600 = ((1 : Nat) : Int) from rfl, show (90061 : Int) % 3600 / 60 = ((1 : Nat) : Int) from rfl, show (90061 : Int) % 60 = ((1 : Nat) : Int) from rfl, itoa_1 (n := 1) (by decide)]
    rfl
  rw [daysT, if_neg (by decide), if_neg (by decide), show absI 90061 = 90061 from rfl, h1, pieceL, if_neg (by decide), show (90061 : Int) / 86400 = ((1 : Nat) : Int) from rfl, itoa_1 (n := 1) (by decide)]
  rfl
theorem aw_months : monthsT 14 = [80, 49, 89, 50, 77] := by
  rw [monthsT, if_neg (by decide), if_neg (by decide), show absI 14 = 14 from rfl, pieceL, if_neg (by decide), pieceL, if_neg (by decide), show (14 : Int) / 12 = ((1 : Nat) : Int) from rfl, show (14 : Int) % 12 = ((2 : Nat) : Int) from rfl, itoa_1 (n := 1) (by decide), itoa_1 (n := 2) (by decide)]
  rfl
theorem c_aw4 : HasC Tryd.prog 17 [.agg [.v (.int .i64 5), .v (.int .i64 1), .v (.int .i64 2)]] (fun r => r = .v (.string ⟨#[48, 48, 48, 53, 45, 48, 49, 45, 48, 50]⟩)) := str_as (c_lexDate (y := 5) (m := 1) (d := 2)) (by rw [aw_date]; rfl)
theorem c_aw5 : HasC Tryd.prog 19 [.agg [.v (.int .i64 3661), .v (.bool true), .v (.int .i64 (-19800))]] (fun r => r = .v (.string ⟨#[48, 49, 58, 48, 49, 58, 48, 49, 45, 48, 53, 58, 51, 48]⟩)) := str_as (c_lexTime (s := 3661) (z := true) (o := -19800)) (by rw [aw_time]; rfl)
theorem c_aw6 : HasC Tryd.prog 22 [.v (.int .i64 90061)] (fun r => r = .v (.string ⟨#[80, 49, 68, 84, 49, 72, 49, 77, 49, 83]⟩)) := str_as (c_lexDays (n := 90061)) (by rw [aw_days]; rfl)
theorem c_aw7 : HasC Tryd.prog 23 [.v (.int .i64 14)] (fun r => r = .v (.string ⟨#[80, 49, 89, 50, 77]⟩)) := str_as (c_lexMonths (n := 14)) (by rw [aw_months]; rfl)
theorem c_awake09  : HasC Tryd.prog 11 [] (fun r => r = .v (.bool true)) := by
  refine HasC.of [] (fn := Tryd.f11) tyOk mixed (fun args w => Tryd.call11 args w) Tryd.func11 rfl (by kernel_rfl) (Nat.le_of_ble_eq_true rfl) (⟨_, rfl⟩) ?_
  refine vc_seqr rfl (iQ 1 (iE 53 [(0, Ba false)] [] ?_))
  refine vc_seqr rfl (iC 12 [Sv (⟨#[80, 84, 51, 54, 72]⟩)] (some 8) (c_aw1) ?_)
  rintro _ rfl
  refine iQ 5 (iE 53 [(0, Ba false), (1, Ia 129600), (2, Ba true)] [] ?_)
  refine vc_seqr rfl (iC 13 [Sv (⟨#[80, 49, 52, 77]⟩)] (some 12) (c_aw2) ?_)
  rintro _ rfl
  refine iQ 5 (iE 53 [(0, Ba false), (1, Ia 129600), (2, Ba true), (3, Ia 14), (4, Ba true)] [] ?_)
  refine vc_seqr rfl (iC 12 [Sv (⟨#[80, 49, 68, 84]⟩)] (some 16) (c_aw3) ?_)
  rintro _ rfl
  refine iQ 5 (iE 53 [(0, Ba false), (1, Ia 129600), (2, Ba true), (3, Ia 14), (4, Ba true), (6, Ba false)] [] ?_)
  refine vc_seqr rfl (iQ 1 (iC 17 [.agg [Iv 5, Iv 1, Iv 2]] (some 20) (c_aw4) ?_))
  rintro _ rfl
  refine iB .eql 9 (.string (⟨#[48, 48, 48, 53, 45, 48, 49, 45, 48, 50]⟩)) (.string (⟨#[48, 48, 48, 53, 45, 48, 49, 45, 48, 50]⟩)) (some 21) ?_
  intro c21 hc21
  refine iQ 1 ?_
  obtain rfl : c21 = true := hc21.2 (rfl)
  refine iQ 1 (iC 19 [.agg [Iv 3661, Bv true, Iv (-19800)]] (some 24) (c_aw5) ?_)
  rintro _ rfl
  refine iB .eql 9 (.string (⟨#[48, 49, 58, 48, 49, 58, 48, 49, 45, 48, 53, 58, 51, 48]⟩)) (.string (⟨#[48, 49, 58, 48, 49, 58, 48, 49, 45, 48, 53, 58, 51, 48]⟩)) (some 25) ?_
  intro c25 hc25
  refine iQ 2 ?_
  obtain rfl : c25 = true := hc25.2 (rfl)
  refine iC 22 [Iv 90061] (some 28) (c_aw6) ?_
  rintro _ rfl
  refine iB .eql 9 (.string (⟨#[80, 49, 68, 84, 49, 72, 49, 77, 49, 83]⟩)) (.string (⟨#[80, 49, 68, 84, 49, 72, 49, 77, 49, 83]⟩)) (some 29) ?_
  intro c29 hc29
  refine iQ 2 ?_
  obtain rfl : c29 = true := hc29.2 (rfl)
  refine iQ 1 (iU .not (.bool false) (some 33) ?_)
  intro c33 hc33
  refine iQ 2 ?_
  obtain rfl : c33 = true := hc33.2 (rfl)
  refine iQ 4 (iB .eql 3 (.int .i64 129600) (.int .i64 129600) (some 40) ?_)
  intro c40 hc40
  refine iQ 2 ?_
  obtain rfl : c40 = true := hc40.2 (rfl)
  refine iQ 4 (iB .eql 3 (.int .i64 14) (.int .i64 14) (some 47) ?_)
  intro c47 hc47
  refine iQ 2 ?_
  obtain rfl : c47 = true := hc47.2 (rfl)
  refine iC 23 [Iv 14] (some 50) (c_aw7) ?_
  rintro _ rfl
  refine iB .eql 9 (.string (⟨#[80, 49, 89, 50, 77]⟩)) (.string (⟨#[80, 49, 89, 50, 77]⟩)) (some 51) ?_
  intro c51 hc51
  refine iQ 2 (iE 53 [(0, Ba c51)] [] ?_)
  refine vc_ret (iR (Bv c51) ?_)
  rw [hc51.2 rfl]
theorem c_LexicalSpans {l : L8} (hL : l.length ≤ 9223372036854775807) : HasC Tryd.prog 3 [.v (.string (tx l))] (fun r => r = .v (.bool true)) := by
  refine HasC.of [] (fn := Tryd.f3) tyOk mixed (fun args w => Tryd.call3 args w) Tryd.func3 rfl (by kernel_rfl) (Nat.le_of_ble_eq_true rfl) (⟨_, rfl⟩) ?_
  refine vc_seqr rfl (iQ 1 (iE 51 [(0, .d (Sv (tx l))), (2, Ba false)] [] ?_))
  refine vc_seq (vc_seqr rfl (iC 11 [] (some 11) (c_awake09) ?_))
  rintro _ rfl
  refine iU .not (.bool true) (some 12) ?_
  intro c12 hc12
  refine iE 51 [(0, .d (Sv (tx l))), (2, Ba false), (12, Ba c12)] [] ?_
  obtain rfl : c12 = false := bff hc12 (by simp)
  refine iF (vc_skip (seq_n (vc_seqr rfl (iQ 1 (iC 12 [Sv (tx l)] (some 15) (c_ReadDays hL) ?_)))))
  rintro _ ⟨z, g, rfl, hz⟩
  refine iQ 5 (iE 51 [(0, .d (Sv (tx l))), (2, Ba false), (3, Ia z), (4, Ba g), (12, Ba false)] [] ?_)
  refine vc_seqr rfl (iQ 1 (iC 13 [Sv (tx l)] (some 20) (c_ReadMonths hL) ?_))
  rintro _ ⟨y, h, rfl, hy⟩
  refine iQ 5 (iE 51 [(0, .d (Sv (tx l))), (2, Ba false), (3, Ia z), (4, Ba g), (5, Ia y), (6, Ba h), (12, Ba false)] [] ?_)
  refine vc_seqr rfl (iQ 1 (iC 14 [Sv (tx l)] (some 25) (OptP_as (c_days hL) hz) ?_))
  rintro _ rfl
  refine iQ 5 (iE 51 [(0, .d (Sv (tx l))), (2, Ba false), (3, Ia z), (4, Ba g), (5, Ia y), (6, Ba h), (7, Ia z), (8, Ba g), (12, Ba false)] [] ?_)
  refine vc_seqr rfl (iQ 1 (iC 15 [Sv (tx l)] (some 30) (OptP_as (c_months hL) hy) ?_))
  rintro _ rfl
  refine iQ 5 (iE 51 [(0, .d (Sv (tx l))), (2, Ba false), (3, Ia z), (4, Ba g), (5, Ia y), (6, Ba h), (7, Ia z), (8, Ba g), (9, Ia y), (10, Ba h), (12, Ba false)] [] ?_)
  refine vc_seqr rfl (iQ 2 (iB .eql 4 (.bool g) (.bool g) (some 35) ?_))
  intro c35 hc35
  refine iQ 1 ?_
  obtain rfl : c35 = true := hc35.2 (rfl)
  refine iQ 2 (iB .eql 3 (.int .i64 z) (.int .i64 z) (some 39) ?_)
  intro c39 hc39
  refine iQ 2 ?_
  obtain rfl : c39 = true := hc39.2 (rfl)
  refine iQ 2 (iB .eql 4 (.bool h) (.bool h) (some 44) ?_)
  intro c44 hc44
  refine iQ 2 ?_
  obtain rfl : c44 = true := hc44.2 (rfl)
  refine iQ 2 (iB .eql 3 (.int .i64 y) (.int .i64 y) (some 49) ?_)
  intro c49 hc49
  refine iQ 2 (iE 51 [(0, .d (Sv (tx l))), (2, Ba c49), (12, Ba false)] [] ?_)
  refine vc_ret (iR (Bv c49) ?_)
  rw [hc49.2 rfl]


open Go.RowKit
set_option linter.unusedVariables false
set_option linter.unusedSimpArgs false
set_option maxRecDepth 100000

theorem i62.r {n : Int} (h : i62 n) : i64R n := by unfold i62 at h; exact ⟨by omega, by omega⟩
theorem c_wide09 {n : Int} {w : Nat} (hn : i62 n) (hw : w ≤ 10) : HasC Tryd.prog 55 [.v (.int .i64 n), .v (.int .i64 ((w : Int)))] (fun y => y = .v (.string (tx (padL n w)))) := by
  refine HasC.of [] (fn := Tryd.f55) tyOk mixed (fun args w => Tryd.call55 args w) Tryd.func55 rfl (by kernel_rfl) (Nat.le_of_ble_eq_true rfl) (⟨_, rfl⟩) ?_
  refine vc_seqr rfl (iQ 1 (iE 15 [(0, Ia n), (1, Ia ((w : Int))), (4, .d (Sv (⟨#[]⟩)))] [] ?_))
  refine vc_seqr rfl (iQ 1 (iC 61 [Iv n] (some 7) (c_rItoa hn) ?_))
  rintro _ rfl
  have hi := itoa_len n hn.r
  refine iQ 1 (iE 15 [(1, Ia ((w : Int))), (4, .d (Sv (⟨#[]⟩))), (5, .d (Sv (tx (Lib.itoa n))))] [] ?_)
  refine vc_seq (vc_block (vc_loop 15 (fun (vcx : Nat) => match vcx with | k => [(1, Ia ((w : Int))), (4, .d (Sv (⟨#[]⟩))), (5, .d (Sv (tx (List.replicate k 48 ++ Lib.itoa n))))]) (fun (vcx : Nat) => match vcx with | k => []) (fun (vcx : Nat) => match vcx with | k => k ≤ w - (Lib.itoa n).length) (fun (vcx : Nat) => match vcx with | k => w - k) 0 (by omega) (by kernel_rfl) (by kernel_rfl) ?_))
  rintro k hinv
  simp only at hinv
  refine vc_seq (vc_seqr rfl (iQ 1 (iL .len [9] [.string (tx (List.replicate k 48 ++ Lib.itoa n))] (some 9) ?_)))
  intro n9 hn9
  have h9 : n9 = k + (Lib.itoa n).length := by rw [hn9]; simp
  refine iQ 1 (iB .lss 3 (.int .i64 ((n9 : Nat))) (.int .i64 ((w : Int))) (some 11) ?_)
  intro c11 hc11
  refine iE 15 [(1, Ia ((w : Int))), (4, .d (Sv (⟨#[]⟩))), (5, .d (Sv (tx (List.replicate k 48 ++ Lib.itoa n)))), (11, Ba c11)] [] ?_
  cases c11
  · replace hc11 := bf hc11
    refine iF (vc_exit (seq_x (loop_x (block_x rfl (seq_n (vc_seqr rfl (iQ 2 (iE 15 [(1, Ia ((w : Int))), (4, .d (Sv (tx (List.replicate k 48 ++ Lib.itoa n)))), (5, .d (Sv (tx (List.replicate k 48 ++ Lib.itoa n)))), (11, Ba false)] [] ?_))))))))
    refine vc_ret (iR (Sv (tx (List.replicate k 48 ++ Lib.itoa n))) ?_)
    rw [padL, show w - (Lib.itoa n).length = k by omega]
  · replace hc11 := bt hc11
    refine iT (vc_skip (seq_n (vc_block (vc_reg rfl (iQ 1 (iB .add 9 (.string (⟨#[48]⟩)) (.string (tx (List.replicate k 48 ++ Lib.itoa n))) (some 13) ?_))))))
    refine And.intro (sz_le (m := 1) (n := ((List.replicate k 48 ++ Lib.itoa n)).length) rfl rfl (by simp; omega)) ?_
    intro s13 hs13
    have hl13 : (s13 : ByteArray).size = 1 + ((List.replicate k 48 ++ Lib.itoa n)).length := sz_add hs13 rfl rfl
    refine iQ 1 (iE 15 [(1, Ia ((w : Int))), (4, .d (Sv (⟨#[]⟩))), (5, .d (Sv s13)), (11, Ba true)] [] ?_)
    refine block_n ?_
    obtain rfl : s13 = tx (List.replicate (k + 1) 48 ++ Lib.itoa n) := by rw [hs13]; exact tx_append [48] _
    refine loop_n (k + 1) (by omega) (by show w - (k + 1) < w - k; omega) (by kernel_rfl) (by kernel_rfl)

theorem c_date09 {y m d : Int} (hb : mayD y m d) : HasC Tryd.prog 18 [.agg [.v (.int .i64 y), .v (.int .i64 m), .v (.int .i64 d)]] (fun r => r = .v (.string (tx (dateL y m d)))) := by
  refine HasC.of [] (fn := Tryd.f18) tyOk mixed (fun args w => Tryd.call18 args w) Tryd.func18 rfl (by kernel_rfl) (Nat.le_of_ble_eq_true rfl) (⟨_, rfl⟩) ?_
  have hr := mayD_rng hb
  refine vc_seqr rfl (iQ 2 (iE 25 [(1, .p 1 0), (2, .d (Sv (⟨#[]⟩)))] [(1, [Iv y, Iv m, Iv d])] ?_))
  refine vc_seqr rfl (iQ 1 (iE 25 [(1, .p 1 0), (2, .d (Sv (⟨#[]⟩))), (3, .d (Sv (⟨#[]⟩)))] [(1, [Iv y, Iv m, Iv d])] ?_))
  refine vc_seqr rfl (iQ 3 (iE 25 [(1, .p 1 0), (2, .d (Sv (⟨#[]⟩))), (3, .d (Sv (⟨#[]⟩))), (4, Ia y)] [(1, [Iv y, Iv m, Iv d])] ?_))
  refine vc_seq (vc_seqr rfl (iQ 1 (iB .lss 3 (.int .i64 y) (.int .i64 0) (some 8) ?_)))
  intro c8 hc8
  refine iE 25 [(1, .p 1 0), (2, .d (Sv (⟨#[]⟩))), (3, .d (Sv (⟨#[]⟩))), (4, Ia y), (8, Ba c8)] [(1, [Iv y, Iv m, Iv d])] ?_
  cases c8
  · replace hc8 := bf hc8
    refine iF (vc_skip (seq_n (vc_seqr rfl (iQ 2 (iC 55 [Iv y, Iv 4] (some 13) (c_wide09 (n := y) (w := 4) ⟨by omega, by omega⟩ (by decide)) ?_)))))
    rintro _ rfl
    have p1 := padL_le (n := y) (w := 4) ⟨by omega, by omega⟩ (by decide)
    have p2 := padL_le (n := m) (w := 2) ⟨by omega, by omega⟩ (by decide)
    have p3 := padL_le (n := d) (w := 2) ⟨by omega, by omega⟩ (by decide)
    refine iB .add 9 (.string (⟨#[]⟩)) (.string (tx (padL y 4))) (some 14) ?_
    refine And.intro (sz_le (m := 0) (n := ((padL y 4)).length) rfl rfl (by omega)) ?_
    intro s14 hs14
    have hl14 : (s14 : ByteArray).size = 0 + ((padL y 4)).length := sz_add hs14 rfl rfl
    refine iB .add 9 (.string s14) (.string (⟨#[45]⟩)) (some 15) ?_
    refine And.intro (sz_le (m := (s14 : ByteArray).size) (n := 1) rfl rfl (by omega)) ?_
    intro s15 hs15
    have hl15 : (s15 : ByteArray).size = (s14 : ByteArray).size + 1 := sz_add hs15 rfl rfl
    refine iQ 2 (iC 55 [Iv m, Iv 2] (some 18) (c_wide09 (n := m) (w := 2) ⟨by omega, by omega⟩ (by decide)) ?_)
    rintro _ rfl
    refine iB .add 9 (.string s15) (.string (tx (padL m 2))) (some 19) ?_
    refine And.intro (sz_le (m := (s15 : ByteArray).size) (n := ((padL m 2)).length) rfl rfl (by omega)) ?_
    intro s19 hs19
    have hl19 : (s19 : ByteArray).size = (s15 : ByteArray).size + ((padL m 2)).length := sz_add hs19 rfl rfl
    refine iB .add 9 (.string s19) (.string (⟨#[45]⟩)) (some 20) ?_
    refine And.intro (sz_le (m := (s19 : ByteArray).size) (n := 1) rfl rfl (by omega)) ?_
    intro s20 hs20
    have hl20 : (s20 : ByteArray).size = (s19 : ByteArray).size + 1 := sz_add hs20 rfl rfl
    refine iQ 2 (iC 55 [Iv d, Iv 2] (some 23) (c_wide09 (n := d) (w := 2) ⟨by omega, by omega⟩ (by decide)) ?_)
    rintro _ rfl
    refine iB .add 9 (.string s20) (.string (tx (padL d 2))) (some 24) ?_
    refine And.intro (sz_le (m := (s20 : ByteArray).size) (n := ((padL d 2)).length) rfl rfl (by omega)) ?_
    intro s24 hs24
    have hl24 : (s24 : ByteArray).size = (s20 : ByteArray).size + ((padL d 2)).length := sz_add hs24 rfl rfl
    refine iQ 1 (iE 25 [(1, .p 1 0), (2, .d (Sv s24)), (4, Ia y), (8, Ba false)] [(1, [Iv y, Iv m, Iv d])] ?_)
    refine vc_ret (iR (Sv s24) ?_)
    rw [hs24, hs20, hs19, hs15, hs14, dateL, if_neg hc8, if_neg hc8]; simp only [tx_lit, tx_append, tx_nil.symm, List.append_assoc]
  · replace hc8 := bt hc8
    refine iT (vc_seqr rfl (iQ 1 (iE 25 [(1, .p 1 0), (2, .d (Sv (⟨#[]⟩))), (3, .d (Sv (⟨#[45]⟩))), (4, Ia y), (8, Ba true)] [(1, [Iv y, Iv m, Iv d])] ?_)))
    refine vc_reg rfl (iQ 1 (iU .neg (.int .i64 y) (some 10) ?_))
    intro z10 hz10
    try replace hz10 := hz10.i64 (by omega)
    refine iQ 1 (iE 25 [(1, .p 1 0), (2, .d (Sv (⟨#[]⟩))), (3, .d (Sv (⟨#[45]⟩))), (4, Ia z10), (8, Ba true)] [(1, [Iv y, Iv m, Iv d])] ?_)
    refine seq_n (vc_seqr rfl (iQ 2 (iC 55 [Iv z10, Iv 4] (some 13) (c_wide09 (n := z10) (w := 4) ⟨by omega, by omega⟩ (by decide)) ?_)))
    rintro _ rfl
    have p1 := padL_le (n := z10) (w := 4) ⟨by omega, by omega⟩ (by decide)
    have p2 := padL_le (n := m) (w := 2) ⟨by omega, by omega⟩ (by decide)
    have p3 := padL_le (n := d) (w := 2) ⟨by omega, by omega⟩ (by decide)
    refine iB .add 9 (.string (⟨#[45]⟩)) (.string (tx (padL z10 4))) (some 14) ?_
    refine And.intro (sz_le (m := 1) (n := ((padL z10 4)).length) rfl rfl (by omega)) ?_
    intro s14 hs14
    have hl14 : (s14 : ByteArray).size = 1 + ((padL z10 4)).length := sz_add hs14 rfl rfl
    refine iB .add 9 (.string s14) (.string (⟨#[45]⟩)) (some 15) ?_
    refine And.intro (sz_le (m := (s14 : ByteArray).size) (n := 1) rfl rfl (by omega)) ?_
    intro s15 hs15
    have hl15 : (s15 : ByteArray).size = (s14 : ByteArray).size + 1 := sz_add hs15 rfl rfl
    refine iQ 2 (iC 55 [Iv m, Iv 2] (some 18) (c_wide09 (n := m) (w := 2) ⟨by omega, by omega⟩ (by decide)) ?_)
    rintro _ rfl
    refine iB .add 9 (.string s15) (.string (tx (padL m 2))) (some 19) ?_
    refine And.intro (sz_le (m := (s15 : ByteArray).size) (n := ((padL m 2)).length) rfl rfl (by omega)) ?_
    intro s19 hs19
    have hl19 : (s19 : ByteArray).size = (s15 : ByteArray).size + ((padL m 2)).length := sz_add hs19 rfl rfl
    refine iB .add 9 (.string s19) (.string (⟨#[45]⟩)) (some 20) ?_
    refine And.intro (sz_le (m := (s19 : ByteArray).size) (n := 1) rfl rfl (by omega)) ?_
    intro s20 hs20
    have hl20 : (s20 : ByteArray).size = (s19 : ByteArray).size + 1 := sz_add hs20 rfl rfl
    refine iQ 2 (iC 55 [Iv d, Iv 2] (some 23) (c_wide09 (n := d) (w := 2) ⟨by omega, by omega⟩ (by decide)) ?_)
    rintro _ rfl
    refine iB .add 9 (.string s20) (.string (tx (padL d 2))) (some 24) ?_
    refine And.intro (sz_le (m := (s20 : ByteArray).size) (n := ((padL d 2)).length) rfl rfl (by omega)) ?_
    intro s24 hs24
    have hl24 : (s24 : ByteArray).size = (s20 : ByteArray).size + ((padL d 2)).length := sz_add hs24 rfl rfl
    refine iQ 1 (iE 25 [(1, .p 1 0), (2, .d (Sv s24)), (4, Ia z10), (8, Ba true)] [(1, [Iv y, Iv m, Iv d])] ?_)
    refine vc_ret (iR (Sv s24) ?_)
    rw [hs24, hs20, hs19, hs15, hs14, dateL, if_pos hc8, if_pos hc8, hz10]; simp only [tx_lit, tx_append, List.append_assoc, Int.zero_sub]

theorem c_zone09 {s o : Int} {z : Bool} (h1 : -64800 ≤ o) (h2 : o ≤ 64800) : HasC Tryd.prog 59 [.agg [.v (.int .i64 s), .v (.bool z), .v (.int .i64 o)]] (fun r => r = .v (.string (tx (zoneL z o)))) := by
  refine HasC.of [] (fn := Tryd.f59) tyOk mixed (fun args w => Tryd.call59 args w) Tryd.func59 rfl (by kernel_rfl) (Nat.le_of_ble_eq_true rfl) (⟨_, rfl⟩) ?_
  refine vc_seqr rfl (iQ 2 (iE 38 [(1, .p 1 0), (2, .d (Sv (⟨#[]⟩)))] [(1, [Iv s, Bv z, Iv o])] ?_))
  refine vc_seq (vc_seqr rfl (iQ 2 (iU .not (.bool z) (some 7) ?_)))
  intro c7 hc7
  refine iE 38 [(1, .p 1 0), (2, .d (Sv (⟨#[]⟩))), (7, Ba c7)] [(1, [Iv s, Bv z, Iv o])] ?_
  cases c7
  · replace hc7 := bf hc7
    refine iF (vc_skip (seq_n (vc_seq (vc_seqr rfl (iQ 2 (iB .eql 3 (.int .i64 o) (.int .i64 0) (some 10) ?_))))))
    intro c10 hc10
    refine iE 38 [(1, .p 1 0), (2, .d (Sv (⟨#[]⟩))), (7, Ba false), (10, Ba c10)] [(1, [Iv s, Bv z, Iv o])] ?_
    cases c10
    · replace hc10 := bf hc10
      refine iF (vc_skip (seq_n (vc_seqr rfl (iQ 4 (iE 38 [(1, .p 1 0), (2, .d (Sv (⟨#[]⟩))), (3, .d (Sv (⟨#[43]⟩))), (4, Ia o), (7, Ba false), (10, Ba false)] [(1, [Iv s, Bv z, Iv o])] ?_)))))
      refine vc_seq (vc_seqr rfl (iQ 1 (iB .lss 3 (.int .i64 o) (.int .i64 0) (some 14) ?_)))
      intro c14 hc14
      refine iE 38 [(1, .p 1 0), (2, .d (Sv (⟨#[]⟩))), (3, .d (Sv (⟨#[43]⟩))), (4, Ia o), (7, Ba false), (10, Ba false), (14, Ba c14)] [(1, [Iv s, Bv z, Iv o])] ?_
      cases c14
      · replace hc14 := bf hc14
        have hzl : zoneL z o = 43 :: offL o := by rw [zoneL, if_neg hc7, if_neg hc10, if_neg hc14]
        refine iF (vc_skip (seq_n (vc_seqr rfl (iQ 2 (iB .quo 3 (.int .i64 o) (.int .i64 3600) (some 19) ?_)))))
        refine And.intro (by omega) ?_
        intro z19 hz19
        have e19 : z19 = o / 3600 := quo_pos hz19 (by decide) (by omega) (by omega)
        refine iC 55 [Iv z19, Iv 2] (some 20) (c_wide09 (n := z19) (w := 2) ⟨by omega, by omega⟩ (by decide)) ?_
        rintro _ rfl
        have p40 := padL_le (n := z19) (w := 2) ⟨by omega, by omega⟩ (by decide)
        refine iB .add 9 (.string (⟨#[43]⟩)) (.string (tx (padL z19 2))) (some 21) ?_
        refine And.intro (sz_le (m := 1) (n := ((padL z19 2)).length) rfl rfl (by omega)) ?_
        intro s21 hs21
        have hl21 : (s21 : ByteArray).size = 1 + ((padL z19 2)).length := sz_add hs21 rfl rfl
        refine iB .add 9 (.string s21) (.string (⟨#[58]⟩)) (some 22) ?_
        refine And.intro (sz_le (m := (s21 : ByteArray).size) (n := 1) rfl rfl (by omega)) ?_
        intro s22 hs22
        have hl22 : (s22 : ByteArray).size = (s21 : ByteArray).size + 1 := sz_add hs22 rfl rfl
        refine iQ 1 (iB .rem 3 (.int .i64 o) (.int .i64 3600) (some 24) ?_)
        refine And.intro (by omega) ?_
        intro z24 hz24
        have e24 : z24 = o % 3600 := tm_pos hz24 (by omega)
        refine iB .quo 3 (.int .i64 z24) (.int .i64 60) (some 25) ?_
        refine And.intro (by omega) ?_
        intro z25 hz25
        have e25 : z25 = o % 3600 / 60 := by rw [quo_pos hz25 (by decide) (by omega) (by omega), e24]
        refine iC 55 [Iv z25, Iv 2] (some 26) (c_wide09 (n := z25) (w := 2) ⟨by omega, by omega⟩ (by decide)) ?_
        rintro _ rfl
        have p46 := padL_le (n := z25) (w := 2) ⟨by omega, by omega⟩ (by decide)
        refine iB .add 9 (.string s22) (.string (tx (padL z25 2))) (some 27) ?_
        refine And.intro (sz_le (m := (s22 : ByteArray).size) (n := ((padL z25 2)).length) rfl rfl (by omega)) ?_
        intro s27 hs27
        have hl27 : (s27 : ByteArray).size = (s22 : ByteArray).size + ((padL z25 2)).length := sz_add hs27 rfl rfl
        refine iQ 1 (iE 38 [(1, .p 1 0), (2, .d (Sv (⟨#[]⟩))), (3, .d (Sv s27)), (4, Ia o), (7, Ba false), (10, Ba false), (14, Ba false)] [(1, [Iv s, Bv z, Iv o])] ?_)
        refine vc_seq (vc_seqr rfl (iQ 1 (iB .rem 3 (.int .i64 o) (.int .i64 60) (some 29) ?_)))
        refine And.intro (by omega) ?_
        intro z29 hz29
        have e29 : z29 = o % 60 := tm_pos hz29 (by omega)
        refine iB .gtr 3 (.int .i64 z29) (.int .i64 0) (some 30) ?_
        intro c30 hc30
        refine iE 38 [(1, .p 1 0), (2, .d (Sv (⟨#[]⟩))), (3, .d (Sv s27)), (4, Ia o), (7, Ba false), (10, Ba false), (14, Ba false), (30, Ba c30)] [(1, [Iv s, Bv z, Iv o])] ?_
        cases c30
        · replace hc30 := bf hc30
          refine iF (vc_skip (seq_n (vc_seqr rfl (iQ 2 (iE 38 [(1, .p 1 0), (2, .d (Sv s27)), (3, .d (Sv s27)), (4, Ia o), (7, Ba false), (10, Ba false), (14, Ba false), (30, Ba false)] [(1, [Iv s, Bv z, Iv o])] ?_)))))
          refine vc_ret (iR (Sv s27) ?_)
          simp only [hs27, hs22, hs21, tx_lit, tx_append, e19, e25]; rw [hzl, offL, if_pos (by omega)]; all_goals simp only [List.append_assoc, List.cons_append, List.nil_append, List.append_nil]
        · replace hc30 := bt hc30
          refine iT (vc_reg rfl (iQ 1 (iB .add 9 (.string s27) (.string (⟨#[58]⟩)) (some 32) ?_)))
          refine And.intro (sz_le (m := (s27 : ByteArray).size) (n := 1) rfl rfl (by omega)) ?_
          intro s32 hs32
          have hl32 : (s32 : ByteArray).size = (s27 : ByteArray).size + 1 := sz_add hs32 rfl rfl
          refine iQ 1 (iB .rem 3 (.int .i64 o) (.int .i64 60) (some 34) ?_)
          refine And.intro (by omega) ?_
          intro z34 hz34
          have e34 : z34 = o % 60 := tm_pos hz34 (by omega)
          refine iC 55 [Iv z34, Iv 2] (some 35) (c_wide09 (n := z34) (w := 2) ⟨by omega, by omega⟩ (by decide)) ?_
          rintro _ rfl
          have p55 := padL_le (n := z34) (w := 2) ⟨by omega, by omega⟩ (by decide)
          refine iB .add 9 (.string s32) (.string (tx (padL z34 2))) (some 36) ?_
          refine And.intro (sz_le (m := (s32 : ByteArray).size) (n := ((padL z34 2)).length) rfl rfl (by omega)) ?_
          intro s36 hs36
          have hl36 : (s36 : ByteArray).size = (s32 : ByteArray).size + ((padL z34 2)).length := sz_add hs36 rfl rfl
          refine iQ 1 (iE 38 [(1, .p 1 0), (2, .d (Sv (⟨#[]⟩))), (3, .d (Sv s36)), (4, Ia o), (7, Ba false), (10, Ba false), (14, Ba false), (30, Ba true)] [(1, [Iv s, Bv z, Iv o])] ?_)
          refine seq_n (vc_seqr rfl (iQ 2 (iE 38 [(1, .p 1 0), (2, .d (Sv s36)), (3, .d (Sv s36)), (4, Ia o), (7, Ba false), (10, Ba false), (14, Ba false), (30, Ba true)] [(1, [Iv s, Bv z, Iv o])] ?_)))
          refine vc_ret (iR (Sv s36) ?_)
          simp only [hs36, hs32, hs27, hs22, hs21, tx_lit, tx_append, e19, e25, e34]; rw [hzl, offL, if_neg (by omega)]; all_goals simp only [List.append_assoc, List.cons_append, List.nil_append, List.append_nil]
      · replace hc14 := bt hc14
        refine iT (vc_reg rfl (iQ 1 (iU .neg (.int .i64 o) (some 16) ?_)))
        intro z16 hz16
        try replace hz16 := hz16.i64 (by omega)
        have e16 : z16 = -o := by omega
        have hzl : zoneL z o = 45 :: offL z16 := by rw [zoneL, if_neg hc7, if_neg hc10, if_pos hc14, e16]
        refine iQ 2 (iE 38 [(1, .p 1 0), (2, .d (Sv (⟨#[]⟩))), (3, .d (Sv (⟨#[45]⟩))), (4, Ia z16), (7, Ba false), (10, Ba false), (14, Ba true)] [(1, [Iv s, Bv z, Iv o])] ?_)
        refine seq_n (vc_seqr rfl (iQ 2 (iB .quo 3 (.int .i64 z16) (.int .i64 3600) (some 19) ?_)))
        refine And.intro (by omega) ?_
        intro z19 hz19
        have e19 : z19 = z16 / 3600 := quo_pos hz19 (by decide) (by omega) (by omega)
        refine iC 55 [Iv z19, Iv 2] (some 20) (c_wide09 (n := z19) (w := 2) ⟨by omega, by omega⟩ (by decide)) ?_
        rintro _ rfl
        have p40 := padL_le (n := z19) (w := 2) ⟨by omega, by omega⟩ (by decide)
        refine iB .add 9 (.string (⟨#[45]⟩)) (.string (tx (padL z19 2))) (some 21) ?_
        refine And.intro (sz_le (m := 1) (n := ((padL z19 2)).length) rfl rfl (by omega)) ?_
        intro s21 hs21
        have hl21 : (s21 : ByteArray).size = 1 + ((padL z19 2)).length := sz_add hs21 rfl rfl
        refine iB .add 9 (.string s21) (.string (⟨#[58]⟩)) (some 22) ?_
        refine And.intro (sz_le (m := (s21 : ByteArray).size) (n := 1) rfl rfl (by omega)) ?_
        intro s22 hs22
        have hl22 : (s22 : ByteArray).size = (s21 : ByteArray).size + 1 := sz_add hs22 rfl rfl
        refine iQ 1 (iB .rem 3 (.int .i64 z16) (.int .i64 3600) (some 24) ?_)
        refine And.intro (by omega) ?_
        intro z24 hz24
        have e24 : z24 = z16 % 3600 := tm_pos hz24 (by omega)
        refine iB .quo 3 (.int .i64 z24) (.int .i64 60) (some 25) ?_
        refine And.intro (by omega) ?_
        intro z25 hz25
        have e25 : z25 = z16 % 3600 / 60 := by rw [quo_pos hz25 (by decide) (by omega) (by omega), e24]
        refine iC 55 [Iv z25, Iv 2] (some 26) (c_wide09 (n := z25) (w := 2) ⟨by omega, by omega⟩ (by decide)) ?_
        rintro _ rfl
        have p46 := padL_le (n := z25) (w := 2) ⟨by omega, by omega⟩ (by decide)
        refine iB .add 9 (.string s22) (.string (tx (padL z25 2))) (some 27) ?_
        refine And.intro (sz_le (m := (s22 : ByteArray).size) (n := ((padL z25 2)).length) rfl rfl (by omega)) ?_
        intro s27 hs27
        have hl27 : (s27 : ByteArray).size = (s22 : ByteArray).size + ((padL z25 2)).length := sz_add hs27 rfl rfl
        refine iQ 1 (iE 38 [(1, .p 1 0), (2, .d (Sv (⟨#[]⟩))), (3, .d (Sv s27)), (4, Ia z16), (7, Ba false), (10, Ba false), (14, Ba true)] [(1, [Iv s, Bv z, Iv o])] ?_)
        refine vc_seq (vc_seqr rfl (iQ 1 (iB .rem 3 (.int .i64 z16) (.int .i64 60) (some 29) ?_)))
        refine And.intro (by omega) ?_
        intro z29 hz29
        have e29 : z29 = z16 % 60 := tm_pos hz29 (by omega)
        refine iB .gtr 3 (.int .i64 z29) (.int .i64 0) (some 30) ?_
        intro c30 hc30
        refine iE 38 [(1, .p 1 0), (2, .d (Sv (⟨#[]⟩))), (3, .d (Sv s27)), (4, Ia z16), (7, Ba false), (10, Ba false), (14, Ba true), (30, Ba c30)] [(1, [Iv s, Bv z, Iv o])] ?_
        cases c30
        · replace hc30 := bf hc30
          refine iF (vc_skip (seq_n (vc_seqr rfl (iQ 2 (iE 38 [(1, .p 1 0), (2, .d (Sv s27)), (3, .d (Sv s27)), (4, Ia z16), (7, Ba false), (10, Ba false), (14, Ba true), (30, Ba false)] [(1, [Iv s, Bv z, Iv o])] ?_)))))
          refine vc_ret (iR (Sv s27) ?_)
          simp only [hs27, hs22, hs21, tx_lit, tx_append, e19, e25]; rw [hzl, offL, if_pos (by omega)]; all_goals simp only [List.append_assoc, List.cons_append, List.nil_append, List.append_nil]
        · replace hc30 := bt hc30
          refine iT (vc_reg rfl (iQ 1 (iB .add 9 (.string s27) (.string (⟨#[58]⟩)) (some 32) ?_)))
          refine And.intro (sz_le (m := (s27 : ByteArray).size) (n := 1) rfl rfl (by omega)) ?_
          intro s32 hs32
          have hl32 : (s32 : ByteArray).size = (s27 : ByteArray).size + 1 := sz_add hs32 rfl rfl
          refine iQ 1 (iB .rem 3 (.int .i64 z16) (.int .i64 60) (some 34) ?_)
          refine And.intro (by omega) ?_
          intro z34 hz34
          have e34 : z34 = z16 % 60 := tm_pos hz34 (by omega)
          refine iC 55 [Iv z34, Iv 2] (some 35) (c_wide09 (n := z34) (w := 2) ⟨by omega, by omega⟩ (by decide)) ?_
          rintro _ rfl
          have p55 := padL_le (n := z34) (w := 2) ⟨by omega, by omega⟩ (by decide)
          refine iB .add 9 (.string s32) (.string (tx (padL z34 2))) (some 36) ?_
          refine And.intro (sz_le (m := (s32 : ByteArray).size) (n := ((padL z34 2)).length) rfl rfl (by omega)) ?_
          intro s36 hs36
          have hl36 : (s36 : ByteArray).size = (s32 : ByteArray).size + ((padL z34 2)).length := sz_add hs36 rfl rfl
          refine iQ 1 (iE 38 [(1, .p 1 0), (2, .d (Sv (⟨#[]⟩))), (3, .d (Sv s36)), (4, Ia z16), (7, Ba false), (10, Ba false), (14, Ba true), (30, Ba true)] [(1, [Iv s, Bv z, Iv o])] ?_)
          refine seq_n (vc_seqr rfl (iQ 2 (iE 38 [(1, .p 1 0), (2, .d (Sv s36)), (3, .d (Sv s36)), (4, Ia z16), (7, Ba false), (10, Ba false), (14, Ba true), (30, Ba true)] [(1, [Iv s, Bv z, Iv o])] ?_)))
          refine vc_ret (iR (Sv s36) ?_)
          simp only [hs36, hs32, hs27, hs22, hs21, tx_lit, tx_append, e19, e25, e34]; rw [hzl, offL, if_neg (by omega)]; all_goals simp only [List.append_assoc, List.cons_append, List.nil_append, List.append_nil]
    · replace hc10 := bt hc10
      refine iT (vc_seqr rfl (iQ 1 (iE 38 [(1, .p 1 0), (2, .d (Sv (⟨#[90]⟩))), (7, Ba false), (10, Ba true)] [(1, [Iv s, Bv z, Iv o])] ?_)))
      refine vc_ret (seq_r (iR (Sv (⟨#[90]⟩)) ?_))
      rw [zoneL, if_neg hc7, if_pos hc10]; rfl
  · replace hc7 := bt hc7
    refine iT (vc_seqr rfl (iQ 1 (iE 38 [(1, .p 1 0), (2, .d (Sv (⟨#[]⟩))), (7, Ba true)] [(1, [Iv s, Bv z, Iv o])] ?_)))
    refine vc_ret (seq_r (iR (Sv (⟨#[]⟩)) ?_))
    rw [zoneL, if_pos hc7]; rfl

theorem c_time09 {s o : Int} {z : Bool} (hb : mayT s z o) : HasC Tryd.prog 20 [.agg [.v (.int .i64 s), .v (.bool z), .v (.int .i64 o)]] (fun r => r = .v (.string (tx (timeL s z o)))) := by
  refine HasC.of [] (fn := Tryd.f20) tyOk mixed (fun args w => Tryd.call20 args w) Tryd.func20 rfl (by kernel_rfl) (Nat.le_of_ble_eq_true rfl) (⟨_, rfl⟩) ?_
  have hb' := hb
  unfold mayT at hb'
  refine vc_seqr rfl (iQ 2 (iE 23 [(1, .p 1 0), (2, .d (Sv (⟨#[]⟩)))] [(1, [Iv s, Bv z, Iv o])] ?_))
  refine vc_seqr rfl (iQ 2 (iB .quo 3 (.int .i64 s) (.int .i64 3600) (some 5) ?_))
  refine And.intro (by omega) ?_
  intro z5 hz5
  have e5 : z5 = s / 3600 := quo_pos hz5 (by decide) (by omega) (by omega)
  refine iC 55 [Iv z5, Iv 2] (some 6) (c_wide09 (n := z5) (w := 2) ⟨by omega, by omega⟩ (by decide)) ?_
  rintro _ rfl
  have p1 := padL_le (n := z5) (w := 2) ⟨by omega, by omega⟩ (by decide)
  refine iB .add 9 (.string (tx (padL z5 2))) (.string (⟨#[58]⟩)) (some 7) ?_
  refine And.intro (sz_le (m := ((padL z5 2)).length) (n := 1) rfl rfl (by omega)) ?_
  intro s7 hs7
  have hl7 : (s7 : ByteArray).size = ((padL z5 2)).length + 1 := sz_add hs7 rfl rfl
  refine iQ 2 (iB .rem 3 (.int .i64 s) (.int .i64 3600) (some 10) ?_)
  refine And.intro (by omega) ?_
  intro z10 hz10
  have e10 : z10 = s % 3600 := tm_pos hz10 (by omega)
  refine iB .quo 3 (.int .i64 z10) (.int .i64 60) (some 11) ?_
  refine And.intro (by omega) ?_
  intro z11 hz11
  have e11 : z11 = s % 3600 / 60 := by rw [quo_pos hz11 (by decide) (by omega) (by omega), e10]
  refine iC 55 [Iv z11, Iv 2] (some 12) (c_wide09 (n := z11) (w := 2) ⟨by omega, by omega⟩ (by decide)) ?_
  rintro _ rfl
  have p2 := padL_le (n := z11) (w := 2) ⟨by omega, by omega⟩ (by decide)
  refine iB .add 9 (.string s7) (.string (tx (padL z11 2))) (some 13) ?_
  refine And.intro (sz_le (m := (s7 : ByteArray).size) (n := ((padL z11 2)).length) rfl rfl (by omega)) ?_
  intro s13 hs13
  have hl13 : (s13 : ByteArray).size = (s7 : ByteArray).size + ((padL z11 2)).length := sz_add hs13 rfl rfl
  refine iB .add 9 (.string s13) (.string (⟨#[58]⟩)) (some 14) ?_
  refine And.intro (sz_le (m := (s13 : ByteArray).size) (n := 1) rfl rfl (by omega)) ?_
  intro s14 hs14
  have hl14 : (s14 : ByteArray).size = (s13 : ByteArray).size + 1 := sz_add hs14 rfl rfl
  refine iQ 2 (iB .rem 3 (.int .i64 s) (.int .i64 60) (some 17) ?_)
  refine And.intro (by omega) ?_
  intro z17 hz17
  have e17 : z17 = s % 60 := tm_pos hz17 (by omega)
  refine iC 55 [Iv z17, Iv 2] (some 18) (c_wide09 (n := z17) (w := 2) ⟨by omega, by omega⟩ (by decide)) ?_
  rintro _ rfl
  have p3 := padL_le (n := z17) (w := 2) ⟨by omega, by omega⟩ (by decide)
  refine iB .add 9 (.string s14) (.string (tx (padL z17 2))) (some 19) ?_
  refine And.intro (sz_le (m := (s14 : ByteArray).size) (n := ((padL z17 2)).length) rfl rfl (by omega)) ?_
  intro s19 hs19
  have hl19 : (s19 : ByteArray).size = (s14 : ByteArray).size + ((padL z17 2)).length := sz_add hs19 rfl rfl
  refine iQ 1 (iC 59 [.agg [Iv s, Bv z, Iv o]] (some 21) (c_zone09 (by omega) (by omega)) ?_)
  rintro _ rfl
  have p4 := zoneL_le (o := o) z ⟨by omega, by omega⟩
  refine iB .add 9 (.string s19) (.string (tx (zoneL z o))) (some 22) ?_
  refine And.intro (sz_le (m := (s19 : ByteArray).size) (n := ((zoneL z o)).length) rfl rfl (by omega)) ?_
  intro s22 hs22
  have hl22 : (s22 : ByteArray).size = (s19 : ByteArray).size + ((zoneL z o)).length := sz_add hs22 rfl rfl
  refine iQ 1 (iE 23 [(2, .d (Sv s22))] [] ?_)
  refine vc_ret (iR (Sv s22) ?_)
  simp only [hs22, hs19, hs14, hs13, hs7, tx_lit, tx_append, e5, e11, e17]; rw [timeL]
theorem c_some {n : Int} {l : L8} (hn : i62 n) (hl : l.length ≤ 100) : HasC Tryd.prog 24 [.v (.int .i64 n), .v (.string (tx l))] (fun r => r = .v (.string (tx (pieceL n l)))) := by
  refine HasC.of [] (fn := Tryd.f24) tyOk mixed (fun args w => Tryd.call24 args w) Tryd.func24 rfl (by kernel_rfl) (Nat.le_of_ble_eq_true rfl) (⟨_, rfl⟩) ?_
  refine vc_seqr rfl (iQ 1 (iE 11 [(0, Ia n), (1, .d (Sv (tx l))), (4, .d (Sv (⟨#[]⟩)))] [] ?_))
  refine vc_seq (vc_seqr rfl (iQ 1 (iB .eql 3 (.int .i64 n) (.int .i64 0) (some 6) ?_)))
  intro c6 hc6
  refine iE 11 [(0, Ia n), (1, .d (Sv (tx l))), (4, .d (Sv (⟨#[]⟩))), (6, Ba c6)] [] ?_
  cases c6
  · replace hc6 := bf hc6
    refine iF (vc_skip (seq_n (vc_seqr rfl (iQ 1 (iC 61 [Iv n] (some 8) (c_rItoa hn) ?_)))))
    rintro _ rfl
    have p := itoa_len n hn.r
    refine iQ 1 (iB .add 9 (.string (tx (Lib.itoa n))) (.string (tx l)) (some 10) ?_)
    refine And.intro (sz_le (m := ((Lib.itoa n)).length) (n := (l).length) rfl rfl (by omega)) ?_
    intro s10 hs10
    have hl10 : (s10 : ByteArray).size = ((Lib.itoa n)).length + (l).length := sz_add hs10 rfl rfl
    refine iQ 1 (iE 11 [(0, Ia n), (4, .d (Sv s10)), (6, Ba false)] [] ?_)
    refine vc_ret (iR (Sv s10) ?_)
    simp only [hs10, tx_append]; rw [pieceL, if_neg hc6]
  · replace hc6 := bt hc6
    refine iT (vc_seqr rfl (iQ 1 (iE 11 [(0, Ia n), (1, .d (Sv (tx l))), (4, .d (Sv (⟨#[]⟩))), (6, Ba true)] [] ?_)))
    refine vc_ret (seq_r (iR (Sv (⟨#[]⟩)) ?_))
    rw [pieceL, if_pos hc6]; rfl
theorem c_lexDateM {y m d : Int} (h : mayD y m d) : HasC Tryd.prog 17 [.agg [.v (.int .i64 y), .v (.int .i64 m), .v (.int .i64 d)]] (fun r => r = .v (.string (tx (dateL y m d)))) := by
  have c := c_lexDate (y := y) (m := m) (d := d)
  rwa [dateT, if_pos h] at c
theorem c_lexTimeM {s o : Int} {z : Bool} (h : mayT s z o) : HasC Tryd.prog 19 [.agg [.v (.int .i64 s), .v (.bool z), .v (.int .i64 o)]] (fun r => r = .v (.string (tx (timeL s z o)))) := by
  have c := c_lexTime (s := s) (z := z) (o := o)
  rwa [timeT, if_pos h] at c
theorem c_lexMomentM {y m d s o : Int} {z : Bool} (h : mayD y m d) (k : mayT s z o) : HasC Tryd.prog 21 [.agg [.v (.int .i64 y), .v (.int .i64 m), .v (.int .i64 d), .v (.int .i64 s), .v (.bool z), .v (.int .i64 o)]] (fun r => r = .v (.string (tx (dateL y m d ++ [84] ++ timeL s z o)))) := by
  have c := c_lexMoment (y := y) (m := m) (d := d) (s := s) (z := z) (o := o)
  rw [momT, if_pos ⟨h, k⟩] at c
  simpa using c

set_option maxHeartbeats 1600000 in
theorem c_LexicalTells {y m d s o n : Int} {z : Bool} (hn : i64R n) : HasC Tryd.prog 4 [.agg [.v (.int .i64 y), .v (.int .i64 m), .v (.int .i64 d), .v (.int .i64 s), .v (.int .i64 o), .v (.bool z)], .v (.int .i64 n)] (fun r => r = .v (.bool true)) := by
  refine HasC.of [] (fn := Tryd.f4) tyOk mixed (fun args w => Tryd.call4 args w) Tryd.func4 rfl (by kernel_rfl) (Nat.le_of_ble_eq_true rfl) (⟨_, rfl⟩) ?_
  refine vc_seqr rfl (iQ 2 (iE 108 [(1, Ia n), (2, .p 2 0), (4, Ba false)] [(2, [Iv y, Iv m, Iv d, Iv s, Iv o, Bv z])] ?_))
  refine vc_seq (vc_seqr rfl (iC 11 [] (some 11) (c_awake09) ?_))
  rintro _ rfl
  refine iU .not (.bool true) (some 12) ?_
  intro c12 hc12
  refine iE 108 [(1, Ia n), (2, .p 2 0), (4, Ba false), (12, Ba c12)] [(2, [Iv y, Iv m, Iv d, Iv s, Iv o, Bv z])] ?_
  obtain rfl : c12 = false := bff hc12 (by simp)
  refine iF (vc_skip (seq_n (vc_seqr rfl (iQ 1 (iC 16 [.agg [Iv y, Iv m, Iv d, Iv s, Iv o, Bv z]] (some 14) (c_mkMom) ?_)))))
  rintro _ ⟨y', m', d', s', o', rfl, hd, ht⟩
  have pd := dateL_le hd
  have pt := timeL_le ht
  refine iQ 2 (iE 108 [(1, Ia n), (4, Ba false), (5, .p 5 0), (12, Ba false)] [(5, [Iv y', Iv m', Iv d', Iv s', Bv z, Iv o'])] ?_)
  refine vc_seq (vc_seqr rfl (iQ 2 (iC 17 [.agg [Iv y', Iv m', Iv d']] (some 17) (c_lexDateM hd) ?_)))
  rintro _ rfl
  refine iQ 2 (iC 18 [.agg [Iv y', Iv m', Iv d']] (some 20) (c_date09 hd) ?_)
  rintro _ rfl
  refine iB .neq 9 (.string (tx (dateL y' m' d'))) (.string (tx (dateL y' m' d'))) (some 21) ?_
  intro c21 hc21
  refine iQ 1 ?_
  obtain rfl : c21 = false := bff hc21 (by simp)
  refine iQ 2 (iC 19 [.agg [Iv s', Bv z, Iv o']] (some 25) (c_lexTimeM ht) ?_)
  rintro _ rfl
  refine iQ 2 (iC 20 [.agg [Iv s', Bv z, Iv o']] (some 28) (c_time09 ht) ?_)
  rintro _ rfl
  refine iB .neq 9 (.string (tx (timeL s' z o'))) (.string (tx (timeL s' z o'))) (some 29) ?_
  intro c29 hc29
  refine iQ 2 ?_
  obtain rfl : c29 = false := bff hc29 (by simp)
  refine iQ 1 (iC 21 [.agg [Iv y', Iv m', Iv d', Iv s', Bv z, Iv o']] (some 33) (c_lexMomentM hd ht) ?_)
  rintro _ rfl
  refine iQ 2 (iC 18 [.agg [Iv y', Iv m', Iv d']] (some 36) (c_date09 hd) ?_)
  rintro _ rfl
  refine iB .add 9 (.string (tx (dateL y' m' d'))) (.string (⟨#[84]⟩)) (some 37) ?_
  refine And.intro (sz_le (m := ((dateL y' m' d')).length) (n := 1) rfl rfl (by omega)) ?_
  intro s37 hs37
  have hl37 : (s37 : ByteArray).size = ((dateL y' m' d')).length + 1 := sz_add hs37 rfl rfl
  refine iQ 2 (iC 20 [.agg [Iv s', Bv z, Iv o']] (some 40) (c_time09 ht) ?_)
  rintro _ rfl
  refine iB .add 9 (.string s37) (.string (tx (timeL s' z o'))) (some 41) ?_
  refine And.intro (sz_le (m := (s37 : ByteArray).size) (n := ((timeL s' z o')).length) rfl rfl (by omega)) ?_
  intro s41 hs41
  have hl41 : (s41 : ByteArray).size = (s37 : ByteArray).size + ((timeL s' z o')).length := sz_add hs41 rfl rfl
  refine iB .neq 9 (.string (tx (dateL y' m' d' ++ [84] ++ timeL s' z o'))) (.string s41) (some 42) ?_
  intro c42 hc42
  refine iQ 1 (iE 108 [(1, Ia n), (4, Ba false), (5, .p 5 0), (12, Ba false), (43, Ba c42)] [(5, [Iv y', Iv m', Iv d', Iv s', Bv z, Iv o'])] ?_)
  obtain rfl : c42 = false := bff hc42 (by simp only [hs41, hs37, tx_lit, tx_append]; simp)
  refine iF (vc_skip (seq_n (vc_seq (vc_seqr rfl (iQ 1 (iB .lss 3 (.int .i64 n) (.int .i64 (-9007199254740992)) (some 45) ?_))))))
  intro c45 hc45
  refine iQ 1 ?_
  cases c45
  · replace hc45 := bf hc45
    refine iQ 1 (iB .gtr 3 (.int .i64 n) (.int .i64 9007199254740992) (some 48) ?_)
    intro c48 hc48
    refine iQ 1 (iE 108 [(1, Ia n), (4, Ba false), (5, .p 5 0), (12, Ba false), (43, Ba false), (49, Ba c48)] [(5, [Iv y', Iv m', Iv d', Iv s', Bv z, Iv o'])] ?_)
    cases c48
    · replace hc48 := bf hc48
      refine iF (vc_skip (seq_n (vc_seqr rfl (iQ 3 (iE 108 [(1, Ia n), (4, Ba false), (5, .p 5 0), (6, .d (Sv (⟨#[80]⟩))), (7, Ia n), (12, Ba false), (43, Ba false), (49, Ba false)] [(5, [Iv y', Iv m', Iv d', Iv s', Bv z, Iv o'])] ?_)))))
      refine vc_seq (vc_seqr rfl (iQ 1 (iB .lss 3 (.int .i64 n) (.int .i64 0) (some 60) ?_)))
      intro c60 hc60
      refine iE 108 [(1, Ia n), (4, Ba false), (5, .p 5 0), (6, .d (Sv (⟨#[80]⟩))), (7, Ia n), (12, Ba false), (43, Ba false), (49, Ba false), (60, Ba c60)] [(5, [Iv y', Iv m', Iv d', Iv s', Bv z, Iv o'])] ?_
      cases c60
      · replace hc60 := bf hc60
        have hab : absI n = n := by unfold absI; rw [if_neg hc60]
        have hsg : signL n = [] := by unfold signL; rw [if_neg hc60]
        refine iF (vc_skip (seq_n (vc_seqr rfl (iQ 1 (iB .rem 3 (.int .i64 n) (.int .i64 86400) (some 64) ?_)))))
        refine And.intro (by omega) ?_
        intro z64 hz64
        have e64 : z64 = n % 86400 := tm_pos hz64 (by omega)
        refine iB .quo 3 (.int .i64 z64) (.int .i64 3600) (some 65) ?_
        refine And.intro (by omega) ?_
        intro z65 hz65
        have e65 : z65 = n % 86400 / 3600 := by rw [quo_pos hz65 (by decide) (by omega) (by omega), e64]
        refine iC 24 [Iv z65, Sv (⟨#[72]⟩)] (some 66) (c_some (l := [72]) ⟨by omega, by omega⟩ (by decide)) ?_
        rintro _ rfl
        have p65 := pieceL_le [72] (n := z65) ⟨by omega, by omega⟩
        simp only [List.length_cons, List.length_nil] at p65
        refine iQ 1 (iB .rem 3 (.int .i64 n) (.int .i64 3600) (some 68) ?_)
        refine And.intro (by omega) ?_
        intro z68 hz68
        have e68 : z68 = n % 3600 := tm_pos hz68 (by omega)
        refine iB .quo 3 (.int .i64 z68) (.int .i64 60) (some 69) ?_
        refine And.intro (by omega) ?_
        intro z69 hz69
        have e69 : z69 = n % 3600 / 60 := by rw [quo_pos hz69 (by decide) (by omega) (by omega), e68]
        refine iC 24 [Iv z69, Sv (⟨#[77]⟩)] (some 70) (c_some (l := [77]) ⟨by omega, by omega⟩ (by decide)) ?_
        rintro _ rfl
        have p69 := pieceL_le [77] (n := z69) ⟨by omega, by omega⟩
        simp only [List.length_cons, List.length_nil] at p69
        refine iB .add 9 (.string (tx (pieceL z65 [72]))) (.string (tx (pieceL z69 [77]))) (some 71) ?_
        refine And.intro (sz_le (m := ((pieceL z65 [72])).length) (n := ((pieceL z69 [77])).length) rfl rfl (by omega)) ?_
        intro s71 hs71
        have hl71 : (s71 : ByteArray).size = ((pieceL z65 [72])).length + ((pieceL z69 [77])).length := sz_add hs71 rfl rfl
        refine iQ 1 (iB .rem 3 (.int .i64 n) (.int .i64 60) (some 73) ?_)
        refine And.intro (by omega) ?_
        intro z73 hz73
        have e73 : z73 = n % 60 := tm_pos hz73 (by omega)
        refine iC 24 [Iv z73, Sv (⟨#[83]⟩)] (some 74) (c_some (l := [83]) ⟨by omega, by omega⟩ (by decide)) ?_
        rintro _ rfl
        have p73 := pieceL_le [83] (n := z73) ⟨by omega, by omega⟩
        simp only [List.length_cons, List.length_nil] at p73
        refine iB .add 9 (.string s71) (.string (tx (pieceL z73 [83]))) (some 75) ?_
        refine And.intro (sz_le (m := (s71 : ByteArray).size) (n := ((pieceL z73 [83])).length) rfl rfl (by omega)) ?_
        intro s75 hs75
        have hl75 : (s75 : ByteArray).size = (s71 : ByteArray).size + ((pieceL z73 [83])).length := sz_add hs75 rfl rfl
        have e75 : s75 = tx (restL n) := by rw [hs75, hs71, tx_append, tx_append, e65, e69, e73]; rfl
        refine iQ 1 (iE 108 [(1, Ia n), (4, Ba false), (5, .p 5 0), (6, .d (Sv (⟨#[80]⟩))), (7, Ia n), (8, .d (Sv s75)), (12, Ba false), (43, Ba false), (49, Ba false), (60, Ba false)] [(5, [Iv y', Iv m', Iv d', Iv s', Bv z, Iv o'])] ?_)
        refine vc_seq (vc_seqr rfl (iQ 1 (iB .neq 9 (.string s75) (.string (⟨#[]⟩)) (some 77) ?_)))
        intro c77 hc77
        refine iE 108 [(1, Ia n), (4, Ba false), (5, .p 5 0), (6, .d (Sv (⟨#[80]⟩))), (7, Ia n), (8, .d (Sv s75)), (12, Ba false), (43, Ba false), (49, Ba false), (60, Ba false), (77, Ba c77)] [(5, [Iv y', Iv m', Iv d', Iv s', Bv z, Iv o'])] ?_
        cases c77
        · replace hc77 := bf hc77
          have k1 : restL n = [] := (txn_iff e75).1 (Classical.not_not.1 hc77)
          refine iF (vc_skip (seq_n (vc_seqr rfl (iQ 2 (iB .quo 3 (.int .i64 n) (.int .i64 86400) (some 82) ?_)))))
          refine And.intro (by omega) ?_
          intro z82 hz82
          have e82 : z82 = n / 86400 := quo_pos hz82 (by decide) (by omega) (by omega)
          refine iC 24 [Iv z82, Sv (⟨#[68]⟩)] (some 83) (c_some (l := [68]) ⟨by omega, by omega⟩ (by decide)) ?_
          rintro _ rfl
          have p82 := pieceL_le [68] (n := z82) ⟨by omega, by omega⟩
          simp only [List.length_cons, List.length_nil] at p82
          refine iB .add 9 (.string (⟨#[80]⟩)) (.string (tx (pieceL z82 [68]))) (some 84) ?_
          refine And.intro (sz_le (m := 1) (n := ((pieceL z82 [68])).length) rfl rfl (by omega)) ?_
          intro s84 hs84
          have hl84 : (s84 : ByteArray).size = 1 + ((pieceL z82 [68])).length := sz_add hs84 rfl rfl
          refine iQ 1 (iB .add 9 (.string s84) (.string s75) (some 86) ?_)
          refine And.intro (sz_le (m := (s84 : ByteArray).size) (n := (s75 : ByteArray).size) rfl rfl (by omega)) ?_
          intro s86 hs86
          have hl86 : (s86 : ByteArray).size = (s84 : ByteArray).size + (s75 : ByteArray).size := sz_add hs86 rfl rfl
          refine iQ 2 (iB .quo 3 (.int .i64 n) (.int .i64 12) (some 89) ?_)
          refine And.intro (by omega) ?_
          intro z89 hz89
          have e89 : z89 = n / 12 := quo_pos hz89 (by decide) (by omega) (by omega)
          refine iC 24 [Iv z89, Sv (⟨#[89]⟩)] (some 90) (c_some (l := [89]) ⟨by omega, by omega⟩ (by decide)) ?_
          rintro _ rfl
          have p89 := pieceL_le [89] (n := z89) ⟨by omega, by omega⟩
          simp only [List.length_cons, List.length_nil] at p89
          refine iB .add 9 (.string (⟨#[80]⟩)) (.string (tx (pieceL z89 [89]))) (some 91) ?_
          refine And.intro (sz_le (m := 1) (n := ((pieceL z89 [89])).length) rfl rfl (by omega)) ?_
          intro s91 hs91
          have hl91 : (s91 : ByteArray).size = 1 + ((pieceL z89 [89])).length := sz_add hs91 rfl rfl
          refine iQ 1 (iB .rem 3 (.int .i64 n) (.int .i64 12) (some 93) ?_)
          refine And.intro (by omega) ?_
          intro z93 hz93
          have e93 : z93 = n % 12 := tm_pos hz93 (by omega)
          refine iC 24 [Iv z93, Sv (⟨#[77]⟩)] (some 94) (c_some (l := [77]) ⟨by omega, by omega⟩ (by decide)) ?_
          rintro _ rfl
          have p93 := pieceL_le [77] (n := z93) ⟨by omega, by omega⟩
          simp only [List.length_cons, List.length_nil] at p93
          refine iB .add 9 (.string s91) (.string (tx (pieceL z93 [77]))) (some 95) ?_
          refine And.intro (sz_le (m := (s91 : ByteArray).size) (n := ((pieceL z93 [77])).length) rfl rfl (by omega)) ?_
          intro s95 hs95
          have hl95 : (s95 : ByteArray).size = (s91 : ByteArray).size + ((pieceL z93 [77])).length := sz_add hs95 rfl rfl
          refine iQ 2 (iE 108 [(1, Ia n), (4, Ba false), (5, .p 5 0), (7, Ia n), (8, .d (Sv s75)), (9, .d (Sv s86)), (10, .d (Sv s95)), (12, Ba false), (43, Ba false), (49, Ba false), (60, Ba false), (77, Ba false)] [(5, [Iv y', Iv m', Iv d', Iv s', Bv z, Iv o'])] ?_)
          refine vc_seq (vc_seqr rfl (iQ 1 (iB .eql 3 (.int .i64 n) (.int .i64 0) (some 97) ?_)))
          intro c97 hc97
          refine iE 108 [(1, Ia n), (4, Ba false), (5, .p 5 0), (7, Ia n), (8, .d (Sv s75)), (9, .d (Sv s86)), (10, .d (Sv s95)), (12, Ba false), (43, Ba false), (49, Ba false), (60, Ba false), (77, Ba false), (97, Ba c97)] [(5, [Iv y', Iv m', Iv d', Iv s', Bv z, Iv o'])] ?_
          cases c97
          · replace hc97 := bf hc97
            refine iF (vc_skip (seq_n (vc_seqr rfl (iQ 1 (iC 22 [Iv n] (some 99) (c_lexDays) ?_)))))
            rintro _ rfl
            refine iQ 1 (iB .eql 9 (.string (tx (daysT n))) (.string s86) (some 101) ?_)
            intro c101 hc101
            refine iQ 1 ?_
            obtain rfl : c101 = true := hc101.2 ((by rw [daysT, if_neg (by omega), if_neg hc97, hab, hsg, hs86, hs84]; first | (rw [if_neg k1, hs79, e75]; simp only [tx_lit, tx_append, e82, List.append_assoc, List.cons_append, List.nil_append]) | (rw [if_pos k1, e75, k1]; simp only [tx_lit, tx_append, e82, List.append_assoc, List.cons_append, List.nil_append])))
            refine iQ 1 (iC 23 [Iv n] (some 104) (c_lexMonths) ?_)
            rintro _ rfl
            refine iQ 1 (iB .eql 9 (.string (tx (monthsT n))) (.string s95) (some 106) ?_)
            intro c106 hc106
            refine iQ 2 (iE 108 [(1, Ia n), (4, Ba c106), (5, .p 5 0), (7, Ia n), (8, .d (Sv s75)), (12, Ba false), (43, Ba false), (49, Ba false), (60, Ba false), (77, Ba false), (97, Ba false)] [(5, [Iv y', Iv m', Iv d', Iv s', Bv z, Iv o'])] ?_)
            refine vc_ret (iR (Bv c106) ?_)
            rw [hc106.2 (by rw [monthsT, if_neg (by omega), if_neg hc97, hab, hsg, hs95, hs91]; simp only [tx_lit, tx_append, e89, e93, List.append_assoc, List.cons_append, List.nil_append])]
          · replace hc97 := bt hc97
            refine iT (vc_reg rfl (iQ 2 (iE 108 [(1, Ia n), (4, Ba false), (5, .p 5 0), (7, Ia n), (8, .d (Sv s75)), (9, .d (Sv (⟨#[80, 84, 48, 83]⟩))), (10, .d (Sv (⟨#[80, 48, 77]⟩))), (12, Ba false), (43, Ba false), (49, Ba false), (60, Ba false), (77, Ba false), (97, Ba true)] [(5, [Iv y', Iv m', Iv d', Iv s', Bv z, Iv o'])] ?_)))
            refine seq_n (vc_seqr rfl (iQ 1 (iC 22 [Iv n] (some 99) (c_lexDays) ?_)))
            rintro _ rfl
            refine iQ 1 (iB .eql 9 (.string (tx (daysT n))) (.string (⟨#[80, 84, 48, 83]⟩)) (some 101) ?_)
            intro c101 hc101
            refine iQ 1 ?_
            obtain rfl : c101 = true := hc101.2 ((by rw [daysT, if_neg (by omega), if_pos hc97]; rfl))
            refine iQ 1 (iC 23 [Iv n] (some 104) (c_lexMonths) ?_)
            rintro _ rfl
            refine iQ 1 (iB .eql 9 (.string (tx (monthsT n))) (.string (⟨#[80, 48, 77]⟩)) (some 106) ?_)
            intro c106 hc106
            refine iQ 2 (iE 108 [(1, Ia n), (4, Ba c106), (5, .p 5 0), (7, Ia n), (8, .d (Sv s75)), (12, Ba false), (43, Ba false), (49, Ba false), (60, Ba false), (77, Ba false), (97, Ba true)] [(5, [Iv y', Iv m', Iv d', Iv s', Bv z, Iv o'])] ?_)
            refine vc_ret (iR (Bv c106) ?_)
            rw [hc106.2 (by rw [monthsT, if_neg (by omega), if_pos hc97]; rfl)]
        · replace hc77 := bt hc77
          have k1 : restL n ≠ [] := fun h => hc77 ((txn_iff e75).2 h)
          refine iT (vc_reg rfl (iQ 1 (iB .add 9 (.string (⟨#[84]⟩)) (.string s75) (some 79) ?_)))
          refine And.intro (sz_le (m := 1) (n := (s75 : ByteArray).size) rfl rfl (by omega)) ?_
          intro s79 hs79
          have hl79 : (s79 : ByteArray).size = 1 + (s75 : ByteArray).size := sz_add hs79 rfl rfl
          refine iQ 1 (iE 108 [(1, Ia n), (4, Ba false), (5, .p 5 0), (6, .d (Sv (⟨#[80]⟩))), (7, Ia n), (8, .d (Sv s79)), (12, Ba false), (43, Ba false), (49, Ba false), (60, Ba false), (77, Ba true)] [(5, [Iv y', Iv m', Iv d', Iv s', Bv z, Iv o'])] ?_)
          refine seq_n (vc_seqr rfl (iQ 2 (iB .quo 3 (.int .i64 n) (.int .i64 86400) (some 82) ?_)))
          refine And.intro (by omega) ?_
          intro z82 hz82
          have e82 : z82 = n / 86400 := quo_pos hz82 (by decide) (by omega) (by omega)
          refine iC 24 [Iv z82, Sv (⟨#[68]⟩)] (some 83) (c_some (l := [68]) ⟨by omega, by omega⟩ (by decide)) ?_
          rintro _ rfl
          have p82 := pieceL_le [68] (n := z82) ⟨by omega, by omega⟩
          simp only [List.length_cons, List.length_nil] at p82
          refine iB .add 9 (.string (⟨#[80]⟩)) (.string (tx (pieceL z82 [68]))) (some 84) ?_
          refine And.intro (sz_le (m := 1) (n := ((pieceL z82 [68])).length) rfl rfl (by omega)) ?_
          intro s84 hs84
          have hl84 : (s84 : ByteArray).size = 1 + ((pieceL z82 [68])).length := sz_add hs84 rfl rfl
          refine iQ 1 (iB .add 9 (.string s84) (.string s79) (some 86) ?_)
          refine And.intro (sz_le (m := (s84 : ByteArray).size) (n := (s79 : ByteArray).size) rfl rfl (by omega)) ?_
          intro s86 hs86
          have hl86 : (s86 : ByteArray).size = (s84 : ByteArray).size + (s79 : ByteArray).size := sz_add hs86 rfl rfl
          refine iQ 2 (iB .quo 3 (.int .i64 n) (.int .i64 12) (some 89) ?_)
          refine And.intro (by omega) ?_
          intro z89 hz89
          have e89 : z89 = n / 12 := quo_pos hz89 (by decide) (by omega) (by omega)
          refine iC 24 [Iv z89, Sv (⟨#[89]⟩)] (some 90) (c_some (l := [89]) ⟨by omega, by omega⟩ (by decide)) ?_
          rintro _ rfl
          have p89 := pieceL_le [89] (n := z89) ⟨by omega, by omega⟩
          simp only [List.length_cons, List.length_nil] at p89
          refine iB .add 9 (.string (⟨#[80]⟩)) (.string (tx (pieceL z89 [89]))) (some 91) ?_
          refine And.intro (sz_le (m := 1) (n := ((pieceL z89 [89])).length) rfl rfl (by omega)) ?_
          intro s91 hs91
          have hl91 : (s91 : ByteArray).size = 1 + ((pieceL z89 [89])).length := sz_add hs91 rfl rfl
          refine iQ 1 (iB .rem 3 (.int .i64 n) (.int .i64 12) (some 93) ?_)
          refine And.intro (by omega) ?_
          intro z93 hz93
          have e93 : z93 = n % 12 := tm_pos hz93 (by omega)
          refine iC 24 [Iv z93, Sv (⟨#[77]⟩)] (some 94) (c_some (l := [77]) ⟨by omega, by omega⟩ (by decide)) ?_
          rintro _ rfl
          have p93 := pieceL_le [77] (n := z93) ⟨by omega, by omega⟩
          simp only [List.length_cons, List.length_nil] at p93
          refine iB .add 9 (.string s91) (.string (tx (pieceL z93 [77]))) (some 95) ?_
          refine And.intro (sz_le (m := (s91 : ByteArray).size) (n := ((pieceL z93 [77])).length) rfl rfl (by omega)) ?_
          intro s95 hs95
          have hl95 : (s95 : ByteArray).size = (s91 : ByteArray).size + ((pieceL z93 [77])).length := sz_add hs95 rfl rfl
          refine iQ 2 (iE 108 [(1, Ia n), (4, Ba false), (5, .p 5 0), (7, Ia n), (8, .d (Sv s79)), (9, .d (Sv s86)), (10, .d (Sv s95)), (12, Ba false), (43, Ba false), (49, Ba false), (60, Ba false), (77, Ba true)] [(5, [Iv y', Iv m', Iv d', Iv s', Bv z, Iv o'])] ?_)
          refine vc_seq (vc_seqr rfl (iQ 1 (iB .eql 3 (.int .i64 n) (.int .i64 0) (some 97) ?_)))
          intro c97 hc97
          refine iE 108 [(1, Ia n), (4, Ba false), (5, .p 5 0), (7, Ia n), (8, .d (Sv s79)), (9, .d (Sv s86)), (10, .d (Sv s95)), (12, Ba false), (43, Ba false), (49, Ba false), (60, Ba false), (77, Ba true), (97, Ba c97)] [(5, [Iv y', Iv m', Iv d', Iv s', Bv z, Iv o'])] ?_
          cases c97
          · replace hc97 := bf hc97
            refine iF (vc_skip (seq_n (vc_seqr rfl (iQ 1 (iC 22 [Iv n] (some 99) (c_lexDays) ?_)))))
            rintro _ rfl
            refine iQ 1 (iB .eql 9 (.string (tx (daysT n))) (.string s86) (some 101) ?_)
            intro c101 hc101
            refine iQ 1 ?_
            obtain rfl : c101 = true := hc101.2 ((by rw [daysT, if_neg (by omega), if_neg hc97, hab, hsg, hs86, hs84]; first | (rw [if_neg k1, hs79, e75]; simp only [tx_lit, tx_append, e82, List.append_assoc, List.cons_append, List.nil_append]) | (rw [if_pos k1, e75, k1]; simp only [tx_lit, tx_append, e82, List.append_assoc, List.cons_append, List.nil_append])))
            refine iQ 1 (iC 23 [Iv n] (some 104) (c_lexMonths) ?_)
            rintro _ rfl
            refine iQ 1 (iB .eql 9 (.string (tx (monthsT n))) (.string s95) (some 106) ?_)
            intro c106 hc106
            refine iQ 2 (iE 108 [(1, Ia n), (4, Ba c106), (5, .p 5 0), (7, Ia n), (8, .d (Sv s79)), (12, Ba false), (43, Ba false), (49, Ba false), (60, Ba false), (77, Ba true), (97, Ba false)] [(5, [Iv y', Iv m', Iv d', Iv s', Bv z, Iv o'])] ?_)
            refine vc_ret (iR (Bv c106) ?_)
            rw [hc106.2 (by rw [monthsT, if_neg (by omega), if_neg hc97, hab, hsg, hs95, hs91]; simp only [tx_lit, tx_append, e89, e93, List.append_assoc, List.cons_append, List.nil_append])]
          · replace hc97 := bt hc97
            refine iT (vc_reg rfl (iQ 2 (iE 108 [(1, Ia n), (4, Ba false), (5, .p 5 0), (7, Ia n), (8, .d (Sv s79)), (9, .d (Sv (⟨#[80, 84, 48, 83]⟩))), (10, .d (Sv (⟨#[80, 48, 77]⟩))), (12, Ba false), (43, Ba false), (49, Ba false), (60, Ba false), (77, Ba true), (97, Ba true)] [(5, [Iv y', Iv m', Iv d', Iv s', Bv z, Iv o'])] ?_)))
            refine seq_n (vc_seqr rfl (iQ 1 (iC 22 [Iv n] (some 99) (c_lexDays) ?_)))
            rintro _ rfl
            refine iQ 1 (iB .eql 9 (.string (tx (daysT n))) (.string (⟨#[80, 84, 48, 83]⟩)) (some 101) ?_)
            intro c101 hc101
            refine iQ 1 ?_
            obtain rfl : c101 = true := hc101.2 ((by rw [daysT, if_neg (by omega), if_pos hc97]; rfl))
            refine iQ 1 (iC 23 [Iv n] (some 104) (c_lexMonths) ?_)
            rintro _ rfl
            refine iQ 1 (iB .eql 9 (.string (tx (monthsT n))) (.string (⟨#[80, 48, 77]⟩)) (some 106) ?_)
            intro c106 hc106
            refine iQ 2 (iE 108 [(1, Ia n), (4, Ba c106), (5, .p 5 0), (7, Ia n), (8, .d (Sv s79)), (12, Ba false), (43, Ba false), (49, Ba false), (60, Ba false), (77, Ba true), (97, Ba true)] [(5, [Iv y', Iv m', Iv d', Iv s', Bv z, Iv o'])] ?_)
            refine vc_ret (iR (Bv c106) ?_)
            rw [hc106.2 (by rw [monthsT, if_neg (by omega), if_pos hc97]; rfl)]
      · replace hc60 := bt hc60
        refine iT (vc_reg rfl (iQ 1 (iU .neg (.int .i64 n) (some 62) ?_)))
        intro z62 hz62
        try replace hz62 := hz62.i64 (by omega)
        have e62 : z62 = -n := by omega
        have hab : absI n = z62 := by unfold absI; rw [if_pos hc60, e62]
        have hsg : signL n = [45] := by unfold signL; rw [if_pos hc60]
        refine iQ 2 (iE 108 [(1, Ia n), (4, Ba false), (5, .p 5 0), (6, .d (Sv (⟨#[45, 80]⟩))), (7, Ia z62), (12, Ba false), (43, Ba false), (49, Ba false), (60, Ba true)] [(5, [Iv y', Iv m', Iv d', Iv s', Bv z, Iv o'])] ?_)
        refine seq_n (vc_seqr rfl (iQ 1 (iB .rem 3 (.int .i64 z62) (.int .i64 86400) (some 64) ?_)))
        refine And.intro (by omega) ?_
        intro z64 hz64
        have e64 : z64 = z62 % 86400 := tm_pos hz64 (by omega)
        refine iB .quo 3 (.int .i64 z64) (.int .i64 3600) (some 65) ?_
        refine And.intro (by omega) ?_
        intro z65 hz65
        have e65 : z65 = z62 % 86400 / 3600 := by rw [quo_pos hz65 (by decide) (by omega) (by omega), e64]
        refine iC 24 [Iv z65, Sv (⟨#[72]⟩)] (some 66) (c_some (l := [72]) ⟨by omega, by omega⟩ (by decide)) ?_
        rintro _ rfl
        have p65 := pieceL_le [72] (n := z65) ⟨by omega, by omega⟩
        simp only [List.length_cons, List.length_nil] at p65
        refine iQ 1 (iB .rem 3 (.int .i64 z62) (.int .i64 3600) (some 68) ?_)
        refine And.intro (by omega) ?_
        intro z68 hz68
        have e68 : z68 = z62 % 3600 := tm_pos hz68 (by omega)
        refine iB .quo 3 (.int .i64 z68) (.int .i64 60) (some 69) ?_
        refine And.intro (by omega) ?_
        intro z69 hz69
        have e69 : z69 = z62 % 3600 / 60 := by rw [quo_pos hz69 (by decide) (by omega) (by omega), e68]
        refine iC 24 [Iv z69, Sv (⟨#[77]⟩)] (some 70) (c_some (l := [77]) ⟨by omega, by omega⟩ (by decide)) ?_
        rintro _ rfl
        have p69 := pieceL_le [77] (n := z69) ⟨by omega, by omega⟩
        simp only [List.length_cons, List.length_nil] at p69
        refine iB .add 9 (.string (tx (pieceL z65 [72]))) (.string (tx (pieceL z69 [77]))) (some 71) ?_
        refine And.intro (sz_le (m := ((pieceL z65 [72])).length) (n := ((pieceL z69 [77])).length) rfl rfl (by omega)) ?_
        intro s71 hs71
        have hl71 : (s71 : ByteArray).size = ((pieceL z65 [72])).length + ((pieceL z69 [77])).length := sz_add hs71 rfl rfl
        refine iQ 1 (iB .rem 3 (.int .i64 z62) (.int .i64 60) (some 73) ?_)
        refine And.intro (by omega) ?_
        intro z73 hz73
        have e73 : z73 = z62 % 60 := tm_pos hz73 (by omega)
        refine iC 24 [Iv z73, Sv (⟨#[83]⟩)] (some 74) (c_some (l := [83]) ⟨by omega, by omega⟩ (by decide)) ?_
        rintro _ rfl
        have p73 := pieceL_le [83] (n := z73) ⟨by omega, by omega⟩
        simp only [List.length_cons, List.length_nil] at p73
        refine iB .add 9 (.string s71) (.string (tx (pieceL z73 [83]))) (some 75) ?_
        refine And.intro (sz_le (m := (s71 : ByteArray).size) (n := ((pieceL z73 [83])).length) rfl rfl (by omega)) ?_
        intro s75 hs75
        have hl75 : (s75 : ByteArray).size = (s71 : ByteArray).size + ((pieceL z73 [83])).length := sz_add hs75 rfl rfl
        have e75 : s75 = tx (restL z62) := by rw [hs75, hs71, tx_append, tx_append, e65, e69, e73]; rfl
        refine iQ 1 (iE 108 [(1, Ia n), (4, Ba false), (5, .p 5 0), (6, .d (Sv (⟨#[45, 80]⟩))), (7, Ia z62), (8, .d (Sv s75)), (12, Ba false), (43, Ba false), (49, Ba false), (60, Ba true)] [(5, [Iv y', Iv m', Iv d', Iv s', Bv z, Iv o'])] ?_)
        refine vc_seq (vc_seqr rfl (iQ 1 (iB .neq 9 (.string s75) (.string (⟨#[]⟩)) (some 77) ?_)))
        intro c77 hc77
        refine iE 108 [(1, Ia n), (4, Ba false), (5, .p 5 0), (6, .d (Sv (⟨#[45, 80]⟩))), (7, Ia z62), (8, .d (Sv s75)), (12, Ba false), (43, Ba false), (49, Ba false), (60, Ba true), (77, Ba c77)] [(5, [Iv y', Iv m', Iv d', Iv s', Bv z, Iv o'])] ?_
        cases c77
        · replace hc77 := bf hc77
          have k1 : restL z62 = [] := (txn_iff e75).1 (Classical.not_not.1 hc77)
          refine iF (vc_skip (seq_n (vc_seqr rfl (iQ 2 (iB .quo 3 (.int .i64 z62) (.int .i64 86400) (some 82) ?_)))))
          refine And.intro (by omega) ?_
          intro z82 hz82
          have e82 : z82 = z62 / 86400 := quo_pos hz82 (by decide) (by omega) (by omega)
          refine iC 24 [Iv z82, Sv (⟨#[68]⟩)] (some 83) (c_some (l := [68]) ⟨by omega, by omega⟩ (by decide)) ?_
          rintro _ rfl
          have p82 := pieceL_le [68] (n := z82) ⟨by omega, by omega⟩
          simp only [List.length_cons, List.length_nil] at p82
          refine iB .add 9 (.string (⟨#[45, 80]⟩)) (.string (tx (pieceL z82 [68]))) (some 84) ?_
          refine And.intro (sz_le (m := 2) (n := ((pieceL z82 [68])).length) rfl rfl (by omega)) ?_
          intro s84 hs84
          have hl84 : (s84 : ByteArray).size = 2 + ((pieceL z82 [68])).length := sz_add hs84 rfl rfl
          refine iQ 1 (iB .add 9 (.string s84) (.string s75) (some 86) ?_)
          refine And.intro (sz_le (m := (s84 : ByteArray).size) (n := (s75 : ByteArray).size) rfl rfl (by omega)) ?_
          intro s86 hs86
          have hl86 : (s86 : ByteArray).size = (s84 : ByteArray).size + (s75 : ByteArray).size := sz_add hs86 rfl rfl
          refine iQ 2 (iB .quo 3 (.int .i64 z62) (.int .i64 12) (some 89) ?_)
          refine And.intro (by omega) ?_
          intro z89 hz89
          have e89 : z89 = z62 / 12 := quo_pos hz89 (by decide) (by omega) (by omega)
          refine iC 24 [Iv z89, Sv (⟨#[89]⟩)] (some 90) (c_some (l := [89]) ⟨by omega, by omega⟩ (by decide)) ?_
          rintro _ rfl
          have p89 := pieceL_le [89] (n := z89) ⟨by omega, by omega⟩
          simp only [List.length_cons, List.length_nil] at p89
          refine iB .add 9 (.string (⟨#[45, 80]⟩)) (.string (tx (pieceL z89 [89]))) (some 91) ?_
          refine And.intro (sz_le (m := 2) (n := ((pieceL z89 [89])).length) rfl rfl (by omega)) ?_
          intro s91 hs91
          have hl91 : (s91 : ByteArray).size = 2 + ((pieceL z89 [89])).length := sz_add hs91 rfl rfl
          refine iQ 1 (iB .rem 3 (.int .i64 z62) (.int .i64 12) (some 93) ?_)
          refine And.intro (by omega) ?_
          intro z93 hz93
          have e93 : z93 = z62 % 12 := tm_pos hz93 (by omega)
          refine iC 24 [Iv z93, Sv (⟨#[77]⟩)] (some 94) (c_some (l := [77]) ⟨by omega, by omega⟩ (by decide)) ?_
          rintro _ rfl
          have p93 := pieceL_le [77] (n := z93) ⟨by omega, by omega⟩
          simp only [List.length_cons, List.length_nil] at p93
          refine iB .add 9 (.string s91) (.string (tx (pieceL z93 [77]))) (some 95) ?_
          refine And.intro (sz_le (m := (s91 : ByteArray).size) (n := ((pieceL z93 [77])).length) rfl rfl (by omega)) ?_
          intro s95 hs95
          have hl95 : (s95 : ByteArray).size = (s91 : ByteArray).size + ((pieceL z93 [77])).length := sz_add hs95 rfl rfl
          refine iQ 2 (iE 108 [(1, Ia n), (4, Ba false), (5, .p 5 0), (7, Ia z62), (8, .d (Sv s75)), (9, .d (Sv s86)), (10, .d (Sv s95)), (12, Ba false), (43, Ba false), (49, Ba false), (60, Ba true), (77, Ba false)] [(5, [Iv y', Iv m', Iv d', Iv s', Bv z, Iv o'])] ?_)
          refine vc_seq (vc_seqr rfl (iQ 1 (iB .eql 3 (.int .i64 n) (.int .i64 0) (some 97) ?_)))
          intro c97 hc97
          refine iE 108 [(1, Ia n), (4, Ba false), (5, .p 5 0), (7, Ia z62), (8, .d (Sv s75)), (9, .d (Sv s86)), (10, .d (Sv s95)), (12, Ba false), (43, Ba false), (49, Ba false), (60, Ba true), (77, Ba false), (97, Ba c97)] [(5, [Iv y', Iv m', Iv d', Iv s', Bv z, Iv o'])] ?_
          cases c97
          · replace hc97 := bf hc97
            refine iF (vc_skip (seq_n (vc_seqr rfl (iQ 1 (iC 22 [Iv n] (some 99) (c_lexDays) ?_)))))
            rintro _ rfl
            refine iQ 1 (iB .eql 9 (.string (tx (daysT n))) (.string s86) (some 101) ?_)
            intro c101 hc101
            refine iQ 1 ?_
            obtain rfl : c101 = true := hc101.2 ((by rw [daysT, if_neg (by omega), if_neg hc97, hab, hsg, hs86, hs84]; first | (rw [if_neg k1, hs79, e75]; simp only [tx_lit, tx_append, e82, List.append_assoc, List.cons_append, List.nil_append]) | (rw [if_pos k1, e75, k1]; simp only [tx_lit, tx_append, e82, List.append_assoc, List.cons_append, List.nil_append])))
            refine iQ 1 (iC 23 [Iv n] (some 104) (c_lexMonths) ?_)
            rintro _ rfl
            refine iQ 1 (iB .eql 9 (.string (tx (monthsT n))) (.string s95) (some 106) ?_)
            intro c106 hc106
            refine iQ 2 (iE 108 [(1, Ia n), (4, Ba c106), (5, .p 5 0), (7, Ia z62), (8, .d (Sv s75)), (12, Ba false), (43, Ba false), (49, Ba false), (60, Ba true), (77, Ba false), (97, Ba false)] [(5, [Iv y', Iv m', Iv d', Iv s', Bv z, Iv o'])] ?_)
            refine vc_ret (iR (Bv c106) ?_)
            rw [hc106.2 (by rw [monthsT, if_neg (by omega), if_neg hc97, hab, hsg, hs95, hs91]; simp only [tx_lit, tx_append, e89, e93, List.append_assoc, List.cons_append, List.nil_append])]
          · replace hc97 := bt hc97
            refine iT (vc_reg rfl (iQ 2 (iE 108 [(1, Ia n), (4, Ba false), (5, .p 5 0), (7, Ia z62), (8, .d (Sv s75)), (9, .d (Sv (⟨#[80, 84, 48, 83]⟩))), (10, .d (Sv (⟨#[80, 48, 77]⟩))), (12, Ba false), (43, Ba false), (49, Ba false), (60, Ba true), (77, Ba false), (97, Ba true)] [(5, [Iv y', Iv m', Iv d', Iv s', Bv z, Iv o'])] ?_)))
            refine seq_n (vc_seqr rfl (iQ 1 (iC 22 [Iv n] (some 99) (c_lexDays) ?_)))
            rintro _ rfl
            refine iQ 1 (iB .eql 9 (.string (tx (daysT n))) (.string (⟨#[80, 84, 48, 83]⟩)) (some 101) ?_)
            intro c101 hc101
            refine iQ 1 ?_
            obtain rfl : c101 = true := hc101.2 ((by rw [daysT, if_neg (by omega), if_pos hc97]; rfl))
            refine iQ 1 (iC 23 [Iv n] (some 104) (c_lexMonths) ?_)
            rintro _ rfl
            refine iQ 1 (iB .eql 9 (.string (tx (monthsT n))) (.string (⟨#[80, 48, 77]⟩)) (some 106) ?_)
            intro c106 hc106
            refine iQ 2 (iE 108 [(1, Ia n), (4, Ba c106), (5, .p 5 0), (7, Ia z62), (8, .d (Sv s75)), (12, Ba false), (43, Ba false), (49, Ba false), (60, Ba true), (77, Ba false), (97, Ba true)] [(5, [Iv y', Iv m', Iv d', Iv s', Bv z, Iv o'])] ?_)
            refine vc_ret (iR (Bv c106) ?_)
            rw [hc106.2 (by rw [monthsT, if_neg (by omega), if_pos hc97]; rfl)]
        · replace hc77 := bt hc77
          have k1 : restL z62 ≠ [] := fun h => hc77 ((txn_iff e75).2 h)
          refine iT (vc_reg rfl (iQ 1 (iB .add 9 (.string (⟨#[84]⟩)) (.string s75) (some 79) ?_)))
          refine And.intro (sz_le (m := 1) (n := (s75 : ByteArray).size) rfl rfl (by omega)) ?_
          intro s79 hs79
          have hl79 : (s79 : ByteArray).size = 1 + (s75 : ByteArray).size := sz_add hs79 rfl rfl
          refine iQ 1 (iE 108 [(1, Ia n), (4, Ba false), (5, .p 5 0), (6, .d (Sv (⟨#[45, 80]⟩))), (7, Ia z62), (8, .d (Sv s79)), (12, Ba false), (43, Ba false), (49, Ba false), (60, Ba true), (77, Ba true)] [(5, [Iv y', Iv m', Iv d', Iv s', Bv z, Iv o'])] ?_)
          refine seq_n (vc_seqr rfl (iQ 2 (iB .quo 3 (.int .i64 z62) (.int .i64 86400) (some 82) ?_)))
          refine And.intro (by omega) ?_
          intro z82 hz82
          have e82 : z82 = z62 / 86400 := quo_pos hz82 (by decide) (by omega) (by omega)
          refine iC 24 [Iv z82, Sv (⟨#[68]⟩)] (some 83) (c_some (l := [68]) ⟨by omega, by omega⟩ (by decide)) ?_
          rintro _ rfl
          have p82 := pieceL_le [68] (n := z82) ⟨by omega, by omega⟩
          simp only [List.length_cons, List.length_nil] at p82
          refine iB .add 9 (.string (⟨#[45, 80]⟩)) (.string (tx (pieceL z82 [68]))) (some 84) ?_
          refine And.intro (sz_le (m := 2) (n := ((pieceL z82 [68])).length) rfl rfl (by omega)) ?_
          intro s84 hs84
          have hl84 : (s84 : ByteArray).size = 2 + ((pieceL z82 [68])).length := sz_add hs84 rfl rfl
          refine iQ 1 (iB .add 9 (.string s84) (.string s79) (some 86) ?_)
          refine And.intro (sz_le (m := (s84 : ByteArray).size) (n := (s79 : ByteArray).size) rfl rfl (by omega)) ?_
          intro s86 hs86
          have hl86 : (s86 : ByteArray).size = (s84 : ByteArray).size + (s79 : ByteArray).size := sz_add hs86 rfl rfl
          refine iQ 2 (iB .quo 3 (.int .i64 z62) (.int .i64 12) (some 89) ?_)
          refine And.intro (by omega) ?_
          intro z89 hz89
          have e89 : z89 = z62 / 12 := quo_pos hz89 (by decide) (by omega) (by omega)
          refine iC 24 [Iv z89, Sv (⟨#[89]⟩)] (some 90) (c_some (l := [89]) ⟨by omega, by omega⟩ (by decide)) ?_
          rintro _ rfl
          have p89 := pieceL_le [89] (n := z89) ⟨by omega, by omega⟩
          simp only [List.length_cons, List.length_nil] at p89
          refine iB .add 9 (.string (⟨#[45, 80]⟩)) (.string (tx (pieceL z89 [89]))) (some 91) ?_
          refine And.intro (sz_le (m := 2) (n := ((pieceL z89 [89])).length) rfl rfl (by omega)) ?_
          intro s91 hs91
          have hl91 : (s91 : ByteArray).size = 2 + ((pieceL z89 [89])).length := sz_add hs91 rfl rfl
          refine iQ 1 (iB .rem 3 (.int .i64 z62) (.int .i64 12) (some 93) ?_)
          refine And.intro (by omega) ?_
          intro z93 hz93
          have e93 : z93 = z62 % 12 := tm_pos hz93 (by omega)
          refine iC 24 [Iv z93, Sv (⟨#[77]⟩)] (some 94) (c_some (l := [77]) ⟨by omega, by omega⟩ (by decide)) ?_
          rintro _ rfl
          have p93 := pieceL_le [77] (n := z93) ⟨by omega, by omega⟩
          simp only [List.length_cons, List.length_nil] at p93
          refine iB .add 9 (.string s91) (.string (tx (pieceL z93 [77]))) (some 95) ?_
          refine And.intro (sz_le (m := (s91 : ByteArray).size) (n := ((pieceL z93 [77])).length) rfl rfl (by omega)) ?_
          intro s95 hs95
          have hl95 : (s95 : ByteArray).size = (s91 : ByteArray).size + ((pieceL z93 [77])).length := sz_add hs95 rfl rfl
          refine iQ 2 (iE 108 [(1, Ia n), (4, Ba false), (5, .p 5 0), (7, Ia z62), (8, .d (Sv s79)), (9, .d (Sv s86)), (10, .d (Sv s95)), (12, Ba false), (43, Ba false), (49, Ba false), (60, Ba true), (77, Ba true)] [(5, [Iv y', Iv m', Iv d', Iv s', Bv z, Iv o'])] ?_)
          refine vc_seq (vc_seqr rfl (iQ 1 (iB .eql 3 (.int .i64 n) (.int .i64 0) (some 97) ?_)))
          intro c97 hc97
          refine iE 108 [(1, Ia n), (4, Ba false), (5, .p 5 0), (7, Ia z62), (8, .d (Sv s79)), (9, .d (Sv s86)), (10, .d (Sv s95)), (12, Ba false), (43, Ba false), (49, Ba false), (60, Ba true), (77, Ba true), (97, Ba c97)] [(5, [Iv y', Iv m', Iv d', Iv s', Bv z, Iv o'])] ?_
          cases c97
          · replace hc97 := bf hc97
            refine iF (vc_skip (seq_n (vc_seqr rfl (iQ 1 (iC 22 [Iv n] (some 99) (c_lexDays) ?_)))))
            rintro _ rfl
            refine iQ 1 (iB .eql 9 (.string (tx (daysT n))) (.string s86) (some 101) ?_)
            intro c101 hc101
            refine iQ 1 ?_
            obtain rfl : c101 = true := hc101.2 ((by rw [daysT, if_neg (by omega), if_neg hc97, hab, hsg, hs86, hs84]; first | (rw [if_neg k1, hs79, e75]; simp only [tx_lit, tx_append, e82, List.append_assoc, List.cons_append, List.nil_append]) | (rw [if_pos k1, e75, k1]; simp only [tx_lit, tx_append, e82, List.append_assoc, List.cons_append, List.nil_append])))
            refine iQ 1 (iC 23 [Iv n] (some 104) (c_lexMonths) ?_)
            rintro _ rfl
            refine iQ 1 (iB .eql 9 (.string (tx (monthsT n))) (.string s95) (some 106) ?_)
            intro c106 hc106
            refine iQ 2 (iE 108 [(1, Ia n), (4, Ba c106), (5, .p 5 0), (7, Ia z62), (8, .d (Sv s79)), (12, Ba false), (43, Ba false), (49, Ba false), (60, Ba true), (77, Ba true), (97, Ba false)] [(5, [Iv y', Iv m', Iv d', Iv s', Bv z, Iv o'])] ?_)
            refine vc_ret (iR (Bv c106) ?_)
            rw [hc106.2 (by rw [monthsT, if_neg (by omega), if_neg hc97, hab, hsg, hs95, hs91]; simp only [tx_lit, tx_append, e89, e93, List.append_assoc, List.cons_append, List.nil_append])]
          · replace hc97 := bt hc97
            refine iT (vc_reg rfl (iQ 2 (iE 108 [(1, Ia n), (4, Ba false), (5, .p 5 0), (7, Ia z62), (8, .d (Sv s79)), (9, .d (Sv (⟨#[80, 84, 48, 83]⟩))), (10, .d (Sv (⟨#[80, 48, 77]⟩))), (12, Ba false), (43, Ba false), (49, Ba false), (60, Ba true), (77, Ba true), (97, Ba true)] [(5, [Iv y', Iv m', Iv d', Iv s', Bv z, Iv o'])] ?_)))
            refine seq_n (vc_seqr rfl (iQ 1 (iC 22 [Iv n] (some 99) (c_lexDays) ?_)))
            rintro _ rfl
            refine iQ 1 (iB .eql 9 (.string (tx (daysT n))) (.string (⟨#[80, 84, 48, 83]⟩)) (some 101) ?_)
            intro c101 hc101
            refine iQ 1 ?_
            obtain rfl : c101 = true := hc101.2 ((by rw [daysT, if_neg (by omega), if_pos hc97]; rfl))
            refine iQ 1 (iC 23 [Iv n] (some 104) (c_lexMonths) ?_)
            rintro _ rfl
            refine iQ 1 (iB .eql 9 (.string (tx (monthsT n))) (.string (⟨#[80, 48, 77]⟩)) (some 106) ?_)
            intro c106 hc106
            refine iQ 2 (iE 108 [(1, Ia n), (4, Ba c106), (5, .p 5 0), (7, Ia z62), (8, .d (Sv s79)), (12, Ba false), (43, Ba false), (49, Ba false), (60, Ba true), (77, Ba true), (97, Ba true)] [(5, [Iv y', Iv m', Iv d', Iv s', Bv z, Iv o'])] ?_)
            refine vc_ret (iR (Bv c106) ?_)
            rw [hc106.2 (by rw [monthsT, if_neg (by omega), if_pos hc97]; rfl)]
    · replace hc48 := bt hc48
      refine iT (vc_seqr rfl (iQ 1 (iC 22 [Iv n] (some 51) (c_lexDays) ?_)))
      rintro _ rfl
      refine iB .eql 9 (.string (tx (daysT n))) (.string (⟨#[]⟩)) (some 52) ?_
      intro c52 hc52
      refine iQ 1 ?_
      obtain rfl : c52 = true := hc52.2 ((by rw [daysT, if_pos (by omega)]; rfl))
      refine iQ 1 (iC 23 [Iv n] (some 55) (c_lexMonths) ?_)
      rintro _ rfl
      refine iB .eql 9 (.string (tx (monthsT n))) (.string (⟨#[]⟩)) (some 56) ?_
      intro c56 hc56
      refine iQ 2 (iE 108 [(1, Ia n), (4, Ba c56), (5, .p 5 0), (12, Ba false), (43, Ba false), (49, Ba true)] [(5, [Iv y', Iv m', Iv d', Iv s', Bv z, Iv o'])] ?_)
      refine vc_ret (seq_r (iR (Bv c56) ?_))
      rw [hc56.2 (by rw [monthsT, if_pos (by omega)]; rfl)]
  · replace hc45 := bt hc45
    refine iQ 3 (iE 108 [(1, Ia n), (4, Ba false), (5, .p 5 0), (12, Ba false), (43, Ba false), (49, Ba true)] [(5, [Iv y', Iv m', Iv d', Iv s', Bv z, Iv o'])] ?_)
    refine iT (vc_seqr rfl (iQ 1 (iC 22 [Iv n] (some 51) (c_lexDays) ?_)))
    rintro _ rfl
    refine iB .eql 9 (.string (tx (daysT n))) (.string (⟨#[]⟩)) (some 52) ?_
    intro c52 hc52
    refine iQ 1 ?_
    obtain rfl : c52 = true := hc52.2 ((by rw [daysT, if_pos (by omega)]; rfl))
    refine iQ 1 (iC 23 [Iv n] (some 55) (c_lexMonths) ?_)
    rintro _ rfl
    refine iB .eql 9 (.string (tx (monthsT n))) (.string (⟨#[]⟩)) (some 56) ?_
    intro c56 hc56
    refine iQ 2 (iE 108 [(1, Ia n), (4, Ba c56), (5, .p 5 0), (12, Ba false), (43, Ba false), (49, Ba true)] [(5, [Iv y', Iv m', Iv d', Iv s', Bv z, Iv o'])] ?_)
    refine vc_ret (seq_r (iR (Bv c56) ?_))
    rw [hc56.2 (by rw [monthsT, if_pos (by omega)]; rfl)]


open Go.RowKit
set_option linter.unusedVariables false
set_option linter.unusedSimpArgs false
set_option maxRecDepth 100000

theorem ne_empty {l : L8} : tx l ≠ ⟨#[]⟩ ↔ l ≠ [] := not_congr (bempty l)
theorem dateT_ne (y m d : Int) : tx (dateT y m d) ≠ ⟨#[]⟩ ↔ mayD y m d := by
  rw [ne_empty, dateT]
  split
  · rename_i h
    simp [dateL, h]
  · rename_i h
    simp [h]
theorem timeT_ne (s o : Int) (z : Bool) : tx (timeT s z o) ≠ ⟨#[]⟩ ↔ mayT s z o := by
  rw [ne_empty, timeT]
  split
  · rename_i h
    simp [timeL, h]
  · rename_i h
    simp [h]
theorem momT_ne (y m d s o : Int) (z : Bool) : tx (momT y m d s z o) ≠ ⟨#[]⟩ ↔ mayD y m d ∧ mayT s z o := by
  rw [ne_empty, momT]
  split
  · rename_i h
    simp [h]
  · rename_i h
    simp [h]
theorem mom_ne (y m d s o : Int) (z : Bool) : tx (dateL y m d ++ [84] ++ timeL s z o) ≠ ⟨#[]⟩ := by
  rw [ne_empty]
  simp
theorem c_LexicalMays {y m d s o y0 sec : Int} {z : Bool} : HasC Tryd.prog 5 [.agg [.v (.int .i64 y), .v (.int .i64 m), .v (.int .i64 d)], .agg [.v (.int .i64 s), .v (.bool z), .v (.int .i64 o)], .v (.int .i64 y0), .v (.int .i64 sec)] (fun r => r = .v (.bool true)) := by
  refine HasC.of [] (fn := Tryd.f5) tyOk mixed (fun args w => Tryd.call5 args w) Tryd.func5 rfl (by kernel_rfl) (Nat.le_of_ble_eq_true rfl) (⟨_, rfl⟩) ?_
  refine vc_seqr rfl (iQ 3 (iE 51 [(2, Ia y0), (3, Ia sec), (4, .p 4 0), (5, .p 5 0), (8, Ba false)] [(4, [Iv y, Iv m, Iv d]), (5, [Iv s, Bv z, Iv o])] ?_))
  refine vc_seq (vc_seqr rfl (iC 11 [] (some 11) (c_awake09) ?_))
  rintro _ rfl
  refine iU .not (.bool true) (some 12) ?_
  intro c12 hc12
  refine iE 51 [(2, Ia y0), (3, Ia sec), (4, .p 4 0), (5, .p 5 0), (8, Ba false), (12, Ba c12)] [(4, [Iv y, Iv m, Iv d]), (5, [Iv s, Bv z, Iv o])] ?_
  obtain rfl : c12 = false := bff hc12 (by simp)
  refine iF (vc_skip (seq_n (vc_seqr rfl (iQ 5 (iE 51 [(2, Ia y0), (3, Ia sec), (4, .p 4 0), (5, .p 5 0), (8, Ba false), (9, .p 9 0), (12, Ba false)] [(4, [Iv y, Iv m, Iv d]), (5, [Iv s, Bv z, Iv o]), (9, [Iv y, Iv m, Iv d, Iv s, Bv z, Iv o])] ?_)))))
  refine vc_seqr rfl (iQ 3 (iC 25 [Iv y0, Iv sec, Iv y0] (some 19) (c_mkDate) ?_))
  rintro _ ⟨y', m', d', rfl, hd, _⟩
  refine iQ 2 (iC 26 [Iv sec, Bv true, Iv y0] (some 22) (c_mkTime) ?_)
  rintro _ ⟨s', o', rfl, ht⟩
  refine iQ 3 (iE 51 [(4, .p 4 0), (5, .p 5 0), (8, Ba false), (9, .p 9 0), (10, .p 10 0), (12, Ba false)] [(4, [Iv y, Iv m, Iv d]), (5, [Iv s, Bv z, Iv o]), (9, [Iv y, Iv m, Iv d, Iv s, Bv z, Iv o]), (10, [Iv y', Iv m', Iv d', Iv s', Bv true, Iv o'])] ?_)
  refine vc_seqr rfl (iQ 1 (iC 17 [.agg [Iv y, Iv m, Iv d]] (some 25) (c_lexDate) ?_))
  rintro _ rfl
  refine iB .neq 9 (.string (tx (dateT y m d))) (.string (⟨#[]⟩)) (some 26) ?_
  intro c26 hc26
  refine iQ 1 (iC 27 [.agg [Iv y, Iv m, Iv d]] (some 28) (c_DateMay) ?_)
  rintro _ ⟨b1, rfl, hb1⟩
  refine iB .eql 4 (.bool c26) (.bool b1) (some 29) ?_
  intro c29 hc29
  refine iQ 1 ?_
  obtain rfl : c29 = true := hc29.2 (by rw [Bool.eq_iff_iff, hc26, hb1]; exact dateT_ne _ _ _)
  refine iQ 1 (iC 19 [.agg [Iv s, Bv z, Iv o]] (some 32) (c_lexTime) ?_)
  rintro _ rfl
  refine iB .neq 9 (.string (tx (timeT s z o))) (.string (⟨#[]⟩)) (some 33) ?_
  intro c33 hc33
  refine iQ 1 (iC 28 [.agg [Iv s, Bv z, Iv o]] (some 35) (c_TMay) ?_)
  rintro _ ⟨b2, rfl, hb2⟩
  refine iB .eql 4 (.bool c33) (.bool b2) (some 36) ?_
  intro c36 hc36
  refine iQ 2 ?_
  obtain rfl : c36 = true := hc36.2 (by rw [Bool.eq_iff_iff, hc33, hb2]; exact timeT_ne _ _ _)
  refine iQ 1 (iC 21 [.agg [Iv y, Iv m, Iv d, Iv s, Bv z, Iv o]] (some 40) (c_lexMoment) ?_)
  rintro _ rfl
  refine iB .neq 9 (.string (tx (momT y m d s z o))) (.string (⟨#[]⟩)) (some 41) ?_
  intro c41 hc41
  refine iQ 1 (iC 29 [.agg [Iv y, Iv m, Iv d, Iv s, Bv z, Iv o]] (some 43) (c_mMay) ?_)
  rintro _ ⟨b3, rfl, hb3⟩
  refine iB .eql 4 (.bool c41) (.bool b3) (some 44) ?_
  intro c44 hc44
  refine iQ 2 ?_
  obtain rfl : c44 = true := hc44.2 (by rw [Bool.eq_iff_iff, hc41, hb3]; exact momT_ne _ _ _ _ _ _)
  refine iQ 1 (iC 21 [.agg [Iv y', Iv m', Iv d', Iv s', Bv true, Iv o']] (some 48) (c_lexMomentM hd ht) ?_)
  rintro _ rfl
  refine iB .neq 9 (.string (tx (dateL y' m' d' ++ [84] ++ timeL s' true o'))) (.string (⟨#[]⟩)) (some 49) ?_
  intro c49 hc49
  refine iQ 2 (iE 51 [(4, .p 4 0), (5, .p 5 0), (8, Ba c49), (9, .p 9 0), (10, .p 10 0), (12, Ba false)] [(4, [Iv y, Iv m, Iv d]), (5, [Iv s, Bv z, Iv o]), (9, [Iv y, Iv m, Iv d, Iv s, Bv z, Iv o]), (10, [Iv y', Iv m', Iv d', Iv s', Bv true, Iv o'])] ?_)
  refine vc_ret (iR (Bv c49) ?_)
  rw [hc49.2 (mom_ne _ _ _ _ _ _)]
theorem c_mkTime0 {s : Int} : HasC Tryd.prog 26 [.v (.int .i64 s), .v (.bool false), .v (.int .i64 0)] (fun r => ∃ s', r = .agg [.v (.int .i64 s'), .v (.bool false), .v (.int .i64 0)] ∧ mayT s' false 0 ∧ 0 ≤ s' ∧ s' < 86400) :=
  c_mkTime.mono fun r ⟨s', o', h1, h2⟩ => by
    have h3 := h2
    unfold mayT at h3
    obtain rfl : o' = 0 := by rcases h3.2.2.2.2 with h | h; cases h; exact h
    exact ⟨s', h1, h2, h3.1, h3.2.1⟩
theorem c_LexicalOrder {y v : Nat} {m d u w : Int} (hy : y < 65536) (hv : v < 65536) : HasC Tryd.prog 6 [.v (.int .u16 ((y : Int))), .v (.int .i64 m), .v (.int .i64 d), .v (.int .u16 ((v : Int))), .v (.int .i64 u), .v (.int .i64 w)] (fun r => r = .v (.bool true)) := by
  refine HasC.of [] (fn := Tryd.f6) tyOk mixed (fun args w => Tryd.call6 args w) Tryd.func6 rfl (by kernel_rfl) (Nat.le_of_ble_eq_true rfl) (⟨_, rfl⟩) ?_
  refine vc_seqr rfl (iQ 1 (iE 63 [(0, .d (.v (.int .u16 ((y : Int))))), (1, Ia m), (2, Ia d), (3, .d (.v (.int .u16 ((v : Int))))), (4, Ia u), (5, Ia w), (12, Ba false)] [] ?_))
  refine vc_seq (vc_seqr rfl (iC 11 [] (some 19) (c_awake09) ?_))
  rintro _ rfl
  refine iU .not (.bool true) (some 20) ?_
  intro c20 hc20
  refine iE 63 [(0, .d (.v (.int .u16 ((y : Int))))), (1, Ia m), (2, Ia d), (3, .d (.v (.int .u16 ((v : Int))))), (4, Ia u), (5, Ia w), (12, Ba false), (20, Ba c20)] [] ?_
  obtain rfl : c20 = false := bff hc20 (by simp)
  refine iF (vc_skip (seq_n (vc_seqr rfl (iQ 1 (iB .rem 44 (.int .u16 ((y : Int))) (.int .u16 10000) (some 22) ?_)))))
  refine And.intro (by omega) ?_
  intro z22 hz22
  have h22 := tm_pos hz22 (by omega)
  refine iV 44 3 (.int .u16 z22) (some 23) ?_
  intro z23 hz23
  try replace hz23 := hz23.i64 (by omega)
  have h23 : 0 ≤ z23 ∧ z23 ≤ 9999 := by omega
  refine iQ 2 (iC 25 [Iv z23, Iv m, Iv d] (some 26) (c_mkDate) ?_)
  rintro _ ⟨p1, p2, p3, rfl, hp, hpy⟩
  have hpr := mayD_rng hp
  have hpy := hpy h23.1 h23.2
  refine iQ 1 (iB .rem 44 (.int .u16 ((v : Int))) (.int .u16 10000) (some 28) ?_)
  refine And.intro (by omega) ?_
  intro z28 hz28
  have h28 := tm_pos hz28 (by omega)
  refine iV 44 3 (.int .u16 z28) (some 29) ?_
  intro z29 hz29
  try replace hz29 := hz29.i64 (by omega)
  have h29 : 0 ≤ z29 ∧ z29 ≤ 9999 := by omega
  refine iQ 2 (iC 25 [Iv z29, Iv u, Iv w] (some 32) (c_mkDate) ?_)
  rintro _ ⟨q1, q2, q3, rfl, hq, hqy⟩
  have hqr := mayD_rng hq
  have hqy := hqy h29.1 h29.2
  refine iQ 4 (iE 63 [(1, Ia m), (4, Ia u), (12, Ba false), (13, .p 13 0), (14, .p 14 0), (20, Ba false)] [(13, [Iv p1, Iv p2, Iv p3]), (14, [Iv q1, Iv q2, Iv q3])] ?_)
  refine vc_seqr rfl (iQ 1 (iC 26 [Iv m, Bv false, Iv 0] (some 34) (c_mkTime0) ?_))
  rintro _ ⟨s1, rfl, ht1, a1, b1⟩
  refine iQ 1 (iC 26 [Iv u, Bv false, Iv 0] (some 36) (c_mkTime0) ?_)
  rintro _ ⟨s2, rfl, ht2, a2, b2⟩
  refine iQ 4 (iE 63 [(1, Ia m), (4, Ia u), (12, Ba false), (13, .p 13 0), (14, .p 14 0), (15, .p 15 0), (16, .p 16 0), (20, Ba false)] [(13, [Iv p1, Iv p2, Iv p3]), (14, [Iv q1, Iv q2, Iv q3]), (15, [Iv s1, Bv false, Iv 0]), (16, [Iv s2, Bv false, Iv 0])] ?_)
  refine vc_seqr rfl (iQ 2 (iC 30 [.agg [Iv s1, Bv false, Iv 0], .agg [Iv s2, Bv false, Iv 0]] (some 40) (c_tCmp a1 (by omega) a2 (by omega)) ?_))
  rintro _ ⟨c, rfl, hc⟩
  refine iQ 5 (iE 63 [(1, Ia m), (4, Ia u), (12, Ba false), (13, .p 13 0), (14, .p 14 0), (15, .p 15 0), (16, .p 16 0), (17, Ia c), (20, Ba false)] [(13, [Iv p1, Iv p2, Iv p3]), (14, [Iv q1, Iv q2, Iv q3]), (15, [Iv s1, Bv false, Iv 0]), (16, [Iv s2, Bv false, Iv 0])] ?_)
  refine vc_seqr rfl (iQ 2 (iC 31 [.agg [Iv p1, Iv p2, Iv p3], .agg [Iv q1, Iv q2, Iv q3]] (some 45) (c_dayCmp) ?_))
  rintro _ ⟨e, rfl, he1, he2⟩
  refine iB .lss 3 (.int .i64 e) (.int .i64 0) (some 46) ?_
  intro c46 hc46
  refine iQ 1 (iC 17 [.agg [Iv p1, Iv p2, Iv p3]] (some 48) (c_lexDateM hp) ?_)
  rintro _ rfl
  refine iQ 1 (iC 17 [.agg [Iv q1, Iv q2, Iv q3]] (some 50) (c_lexDateM hq) ?_)
  rintro _ rfl
  refine iB .lss 9 (.string (tx (dateL p1 p2 p3))) (.string (tx (dateL q1 q2 q3))) (some 51) ?_
  intro c51 hc51
  refine iB .eql 4 (.bool c46) (.bool c51) (some 52) ?_
  intro c52 hc52
  refine iQ 1 ?_
  obtain rfl : c52 = true := hc52.2 (by rw [Bool.eq_iff_iff, hc46, hc51, he1]; exact (date_lt (by omega) (by omega) (by omega) (by omega) (by omega) (by omega)).symm)
  refine iQ 1 (iB .lss 3 (.int .i64 c) (.int .i64 0) (some 55) ?_)
  intro c55 hc55
  refine iQ 1 (iC 19 [.agg [Iv s1, Bv false, Iv 0]] (some 57) (c_lexTimeM ht1) ?_)
  rintro _ rfl
  refine iQ 1 (iC 19 [.agg [Iv s2, Bv false, Iv 0]] (some 59) (c_lexTimeM ht2) ?_)
  rintro _ rfl
  refine iB .lss 9 (.string (tx (timeL s1 false 0))) (.string (tx (timeL s2 false 0))) (some 60) ?_
  intro c60 hc60
  refine iB .eql 4 (.bool c55) (.bool c60) (some 61) ?_
  intro c61 hc61
  refine iQ 2 (iE 63 [(1, Ia m), (4, Ia u), (12, Ba c61), (13, .p 13 0), (14, .p 14 0), (15, .p 15 0), (16, .p 16 0), (20, Ba false)] [(13, [Iv p1, Iv p2, Iv p3]), (14, [Iv q1, Iv q2, Iv q3]), (15, [Iv s1, Bv false, Iv 0]), (16, [Iv s2, Bv false, Iv 0])] ?_)
  refine vc_ret (iR (Bv c61) ?_)
  rw [hc61.2 (by rw [Bool.eq_iff_iff, hc55, hc60, hc]; exact (time_lt ⟨a1, b1⟩ ⟨a2, b2⟩).symm)]
end Go.Proofs.YtjpaedjhihiakaaDoor
