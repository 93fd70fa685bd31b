/-
  dec: the small functions. dec.Cut: a number without its last digits, rounded. dec.Fit: a number fitted to 34 digits and its exponents. dec.Fit's answer as plain data; dec.Mul, Abs, Sign; quot.digits. dec.Sign, dec.Int; quot.raised. quot.Div. What Fit answers, as plain data: without the bound on the digits that are cut; more digits of the same number change nothing. quot.Power. quot.Root.
-/
import Derived.Test.YtmldjlgeeljfdaaGreatVcX
import Derived.Test.YtmldjlgeeljfdaaGreatVcG
import Derived.Test.YtmldjlgeeljfdaaGreatPure
import Derived.Test.YtmldjlgeeljfdaaGreatVcY
import Derived.Test.YtmldjlgeeljfdaaGreatVcM2
namespace Go.Proofs.YtmldjlgeeljfdaaGreat

open Go.RowKit
set_option linter.unusedVariables false
set_option linter.unusedSimpArgs false
set_option maxRecDepth 100000

/-- Decimal numbers as they read. -/
def dDec (neg : Bool) (n : Nat) (e : Int) : DV := .agg [.v (.bool neg), .v (.int .u64 (hiW n)), .v (.int .u64 (loW n)), .v (.int .i64 e)]
def dWide (neg : Bool) (hi lo : Nat) (e : Int) (more : Bool) : DV := .agg [.v (.bool neg), .v (.int .u64 (hiW hi)), .v (.int .u64 (loW hi)), .v (.int .u64 (hiW lo)), .v (.int .u64 (loW lo)), .v (.int .i64 e), .v (.bool more)]

def E34 : Nat := 10000000000000000000000000000000000
theorem e34_lt : E34 < B128 := by decide

theorem c_most  : HasC Tryz.prog 75 [] (fun y => y = dU E34) := by
 refine HasC.of [] (fn := Tryz.f75) tyOk mixed (fun args w => Tryz.call75 args w) Tryz.func75 rfl (by kernel_rfl) (Nat.le_of_ble_eq_true rfl) (⟨_, rfl⟩) ?_
 refine vc_seqr rfl (iQ 1 (iE 8 [(0, .p 0 0)] [(0, [Uv 0, Uv 0])] ?_))
 refine vc_seqr rfl (iC 77 [Iv 34] (some 4) (cw_Ten (by decide) (by decide)) ?_)
 rintro _ rfl
 refine iQ 6 (iE 8 [(0, .p 0 0), (1, .p 1 0)] [(0, [Uv 0, Uv 0]), (1, [Hw (10 ^ (34 : Int).toNat), Lw (10 ^ (34 : Int).toNat)])] ?_)
 refine vc_seqr rfl (iQ 2 (iE 8 [(0, .p 0 0), (1, .p 1 0)] [(0, [Hw (10 ^ (34 : Int).toNat), Lw (10 ^ (34 : Int).toNat)]), (1, [Hw (10 ^ (34 : Int).toNat), Lw (10 ^ (34 : Int).toNat)])] ?_))
 refine vc_ret (iR (.agg [Hw (10 ^ (34 : Int).toNat), Lw (10 ^ (34 : Int).toNat)]) ?_)
 rfl

def May (neg : Bool) (n : Nat) (e : Int) : Prop := n < E34 ∧ -6176 ≤ e ∧ e ≤ 6111 ∧ (neg = true → n ≠ 0)

theorem c_May {neg : Bool} {n : Nat} {e : Int} (hn : n < B128) : HasC Tryz.prog 51 [.agg [.v (.bool neg), .v (.int .u64 (hiW (n))), .v (.int .u64 (loW (n))), .v (.int .i64 e)]] (fun y => ∃ b, y = .v (.bool b) ∧ (b = true ↔ May neg n e)) := by
 refine HasC.of [] (fn := Tryz.f51) tyOk mixed (fun args w => Tryz.call51 args w) Tryz.func51 rfl (by kernel_rfl) (Nat.le_of_ble_eq_true rfl) (⟨_, @decide (May neg n e) (Classical.propDecidable _), rfl, by simp⟩) ?_
 refine vc_seqr rfl (iQ 2 (iE 28 [(1, .p 1 0), (2, Ba false)] [(1, [Bv neg, Hw n, Lw n, Iv e])] ?_))
 refine vc_seqr rfl (iQ 2 (iC 75 [] (some 5) (c_most) ?_))
 rintro _ rfl
 refine iC 74 [.agg [Hw n, Lw n], .agg [Hw E34, Lw E34]] (some 6) (cw_Cmp hn e34_lt) ?_
 rintro _ rfl
 refine iB .lss 3 (.int .i64 (cmpN n E34)) (.int .i64 0) (some 7) ?_
 intro c7 hc7
 refine iQ 1 ?_
 cases c7
 ·replace hc7 := bf hc7
  refine iQ 20 (iE 28 [(2, Ba false)] [] ?_)
  refine vc_ret (iR (Bv false) ?_)
  exact ⟨_, rfl, by rw [cN_lt] at hc7; unfold May; simp; omega⟩
 ·replace hc7 := bt hc7
  refine iQ 2 (iB .geq 3 (.int .i64 e) (.int .i64 (-6176)) (some 11) ?_)
  rw [cN_lt] at hc7
  intro c11 hc11
  refine iQ 2 ?_
  cases c11
  ·replace hc11 := bf hc11
   refine iQ 15 (iE 28 [(2, Ba false)] [] ?_)
   refine vc_ret (iR (Bv false) ?_)
   exact ⟨_, rfl, by unfold May; simp; omega⟩
  ·replace hc11 := bt hc11
   refine iQ 2 (iB .leq 3 (.int .i64 e) (.int .i64 6111) (some 16) ?_)
   intro c16 hc16
   refine iQ 2 ?_
   cases c16
   ·replace hc16 := bf hc16
    refine iQ 10 (iE 28 [(2, Ba false)] [] ?_)
    refine vc_ret (iR (Bv false) ?_)
    exact ⟨_, rfl, by unfold May; simp; omega⟩
   ·replace hc16 := bt hc16
    refine iQ 3 ?_
    cases neg
    ·skip
     refine iQ 4 (iU .not (.bool false) (some 26) ?_)
     intro c26 hc26
     refine iQ 2 (iE 28 [(2, Ba c26)] [] ?_)
     refine vc_ret (iR (Bv c26) ?_)
     exact ⟨_, rfl, by unfold May; rw [hc26]; simp; omega⟩
    ·skip
     refine iQ 2 (iC 40 [.agg [Hw n, Lw n]] (some 24) (cw_Zero hn) ?_)
     rintro _ ⟨z, rfl, hz⟩
     refine iQ 1 (iU .not (.bool z) (some 26) ?_)
     intro c26 hc26
     refine iQ 2 (iE 28 [(2, Ba c26)] [] ?_)
     refine vc_ret (iR (Bv c26) ?_)
     exact ⟨_, rfl, by unfold May; rw [hc26]; cases z <;> simp_all <;> omega⟩

theorem c_Zero {neg : Bool} {n : Nat} {e : Int} (hn : n < B128) : HasC Tryz.prog 33 [.agg [.v (.bool neg), .v (.int .u64 (hiW (n))), .v (.int .u64 (loW (n))), .v (.int .i64 e)]] (fun y => ∃ b, y = .v (.bool b) ∧ (b = true ↔ n = 0)) := by
 refine HasC.of [] (fn := Tryz.f33) tyOk mixed (fun args w => Tryz.call33 args w) Tryz.func33 rfl (by kernel_rfl) (Nat.le_of_ble_eq_true rfl) (⟨_, decide (n = 0), rfl, by simp⟩) ?_
 refine vc_seqr rfl (iQ 2 (iE 6 [(1, .p 1 0), (2, Ba false)] [(1, [Bv neg, Hw n, Lw n, Iv e])] ?_))
 refine vc_seqr rfl (iQ 2 (iC 40 [.agg [Hw n, Lw n]] (some 5) (cw_Zero hn) ?_))
 rintro _ ⟨z, rfl, hz⟩
 refine iQ 1 (iE 6 [(2, Ba z)] [] ?_)
 refine vc_ret (iR (Bv z) ?_)
 exact ⟨_, rfl, hz⟩

/-- Whether what is cut off makes the rest one more. -/
def UpP (m : Int) (neg odd : Bool) (last : Int) (more : Bool) : Prop :=
  (m = 1 ∧ (5 < last ∨ (last = 5 ∧ (more = true ∨ odd = true)))) ∨ (m = 2 ∧ 5 ≤ last) ∨ (m = 3 ∧ (5 < last ∨ (last = 5 ∧ more = true))) ∨ (m = 4 ∧ (0 < last ∨ more = true)) ∨
  (m = 6 ∧ neg = true ∧ (0 < last ∨ more = true)) ∨ (m = 7 ∧ neg = false ∧ (0 < last ∨ more = true))

set_option maxHeartbeats 1600000 in
theorem c_up {m last : Int} {neg odd more : Bool} : HasC Tryz.prog 89 [.v (.int .i64 m), .v (.bool neg), .v (.bool odd), .v (.int .u64 last), .v (.bool more)] (fun y => ∃ b, y = .v (.bool b) ∧ (b = true ↔ UpP m neg odd last more)) := by
 refine HasC.of [] (fn := Tryz.f89) tyOk mixed (fun args w => Tryz.call89 args w) Tryz.func89 rfl (by kernel_rfl) (Nat.le_of_ble_eq_true rfl) (⟨_, @decide (UpP m neg odd last more) (Classical.propDecidable _), rfl, by simp⟩) ?_
 refine vc_seqr rfl (iQ 1 (iE 79 [(0, Ia m), (1, Ba neg), (2, Ba odd), (3, .d (Uv last)), (4, Ba more), (10, Ba false)] [] ?_))
 refine vc_seqr rfl (iQ 1 (iB .eql 41 (.int .u64 last) (.int .u64 5) (some 13) ?_))
 intro c13 hc13
 refine iQ 1 ?_
 cases c13
 ·replace hc13 := bf hc13
  refine iQ 4 (iE 79 [(0, Ia m), (1, Ba neg), (2, Ba odd), (3, .d (Uv last)), (4, Ba more), (10, Ba false), (11, Ba false)] [] ?_)
  refine vc_seq (vc_seqr rfl (iQ 1 (iE 79 [(1, Ba neg), (2, Ba odd), (3, .d (Uv last)), (4, Ba more), (10, Ba false), (11, Ba false), (18, Ia m)] [] ?_)))
  refine vc_block (vc_seqr rfl (iB .eql 72 (.int .i64 m) (.int .i64 1) (some 20) ?_))
  intro c20 hc20
  refine iQ 1 (iE 79 [(1, Ba neg), (2, Ba odd), (3, .d (Uv last)), (4, Ba more), (10, Ba false), (11, Ba false), (18, Ia m), (19, Ba c20)] [] ?_)
  cases c20
  ·replace hc20 := bf hc20
   refine iF (vc_seqr rfl (iB .eql 72 (.int .i64 m) (.int .i64 2) (some 37) ?_))
   intro c37 hc37
   refine iQ 1 (iE 79 [(1, Ba neg), (2, Ba odd), (3, .d (Uv last)), (4, Ba more), (10, Ba false), (11, Ba false), (18, Ia m), (19, Ba false), (36, Ba c37)] [] ?_)
   cases c37
   ·replace hc37 := bf hc37
    refine iF (vc_seqr rfl (iB .eql 72 (.int .i64 m) (.int .i64 3) (some 41) ?_))
    intro c41 hc41
    refine iQ 1 (iE 79 [(1, Ba neg), (2, Ba odd), (3, .d (Uv last)), (4, Ba more), (10, Ba false), (11, Ba false), (18, Ia m), (19, Ba false), (36, Ba false), (40, Ba c41)] [] ?_)
    cases c41
    ·replace hc41 := bf hc41
     refine iF (vc_seqr rfl (iB .eql 72 (.int .i64 m) (.int .i64 4) (some 52) ?_))
     intro c52 hc52
     refine iQ 1 (iE 79 [(1, Ba neg), (2, Ba odd), (3, .d (Uv last)), (4, Ba more), (10, Ba false), (11, Ba false), (18, Ia m), (19, Ba false), (36, Ba false), (40, Ba false), (51, Ba c52)] [] ?_)
     cases c52
     ·replace hc52 := bf hc52
      refine iF (vc_seqr rfl (iB .eql 72 (.int .i64 m) (.int .i64 6) (some 59) ?_))
      intro c59 hc59
      refine iQ 1 (iE 79 [(1, Ba neg), (2, Ba odd), (3, .d (Uv last)), (4, Ba more), (10, Ba false), (11, Ba false), (18, Ia m), (19, Ba false), (36, Ba false), (40, Ba false), (51, Ba false), (58, Ba c59)] [] ?_)
      cases c59
      ·replace hc59 := bf hc59
       refine iF (vc_seqr rfl (iB .eql 72 (.int .i64 m) (.int .i64 7) (some 69) ?_))
       intro c69 hc69
       refine iQ 1 (iE 79 [(1, Ba neg), (2, Ba odd), (3, .d (Uv last)), (4, Ba more), (10, Ba false), (11, Ba false), (18, Ia m), (19, Ba false), (36, Ba false), (40, Ba false), (51, Ba false), (58, Ba false), (68, Ba c69)] [] ?_)
       cases c69
       ·replace hc69 := bf hc69
        refine iF (vc_skip (block_n (seq_n (vc_seqr rfl (iQ 1 (iE 79 [(1, Ba neg), (2, Ba odd), (3, .d (Uv last)), (4, Ba more), (10, Ba false), (11, Ba false), (18, Ia m), (19, Ba false), (36, Ba false), (40, Ba false), (51, Ba false), (58, Ba false), (68, Ba false)] [] ?_))))))
        refine vc_ret (iR (Bv false) ?_)
        exact ⟨_, rfl, by unfold UpP; simp_all <;> omega⟩
       ·replace hc69 := bt hc69
        refine iT (vc_seqr rfl (iQ 1 (iU .not (.bool neg) (some 71) ?_)))
        intro c71 hc71
        refine iQ 1 ?_
        cases c71
        ·replace hc71 := bf hc71
         refine iQ 7 (iE 79 [(1, Ba neg), (2, Ba odd), (3, .d (Uv last)), (4, Ba more), (10, Ba false), (11, Ba false), (18, Ia m), (19, Ba false), (36, Ba false), (40, Ba false), (51, Ba false), (58, Ba false), (68, Ba true)] [] ?_)
         refine vc_ret (block_r (seq_r (iR (Bv false) ?_)))
         exact ⟨_, rfl, by unfold UpP; simp_all <;> omega⟩
        ·replace hc71 := bt hc71
         refine iQ 1 (iB .gtr 41 (.int .u64 last) (.int .u64 0) (some 74) ?_)
         intro c74 hc74
         refine iQ 1 ?_
         cases c74
         ·replace hc74 := bf hc74
          refine iQ 4 (iE 79 [(1, Ba neg), (2, Ba odd), (3, .d (Uv last)), (4, Ba more), (10, Ba more), (11, Ba false), (18, Ia m), (19, Ba false), (36, Ba false), (40, Ba false), (51, Ba false), (58, Ba false), (68, Ba true)] [] ?_)
          refine vc_ret (block_r (seq_r (iR (Bv more) ?_)))
          exact ⟨_, rfl, by unfold UpP; simp_all <;> omega⟩
         ·replace hc74 := bt hc74
          refine iQ 4 (iE 79 [(1, Ba neg), (2, Ba odd), (3, .d (Uv last)), (4, Ba more), (10, Ba true), (11, Ba false), (18, Ia m), (19, Ba false), (36, Ba false), (40, Ba false), (51, Ba false), (58, Ba false), (68, Ba true)] [] ?_)
          refine vc_ret (block_r (seq_r (iR (Bv true) ?_)))
          exact ⟨_, rfl, by unfold UpP; simp_all <;> omega⟩
      ·replace hc59 := bt hc59
       refine iT (vc_seqr rfl (iQ 2 ?_))
       cases neg
       ·skip
        refine iQ 7 (iE 79 [(1, Ba false), (2, Ba odd), (3, .d (Uv last)), (4, Ba more), (10, Ba false), (11, Ba false), (18, Ia m), (19, Ba false), (36, Ba false), (40, Ba false), (51, Ba false), (58, Ba true)] [] ?_)
        refine vc_ret (block_r (seq_r (iR (Bv false) ?_)))
        exact ⟨_, rfl, by unfold UpP; simp_all <;> omega⟩
       ·skip
        refine iQ 1 (iB .gtr 41 (.int .u64 last) (.int .u64 0) (some 63) ?_)
        intro c63 hc63
        refine iQ 1 ?_
        cases c63
        ·replace hc63 := bf hc63
         refine iQ 4 (iE 79 [(1, Ba true), (2, Ba odd), (3, .d (Uv last)), (4, Ba more), (10, Ba more), (11, Ba false), (18, Ia m), (19, Ba false), (36, Ba false), (40, Ba false), (51, Ba false), (58, Ba true)] [] ?_)
         refine vc_ret (block_r (seq_r (iR (Bv more) ?_)))
         exact ⟨_, rfl, by unfold UpP; simp_all <;> omega⟩
        ·replace hc63 := bt hc63
         refine iQ 4 (iE 79 [(1, Ba true), (2, Ba odd), (3, .d (Uv last)), (4, Ba more), (10, Ba true), (11, Ba false), (18, Ia m), (19, Ba false), (36, Ba false), (40, Ba false), (51, Ba false), (58, Ba true)] [] ?_)
         refine vc_ret (block_r (seq_r (iR (Bv true) ?_)))
         exact ⟨_, rfl, by unfold UpP; simp_all <;> omega⟩
     ·replace hc52 := bt hc52
      refine iT (vc_seqr rfl (iQ 1 (iB .gtr 41 (.int .u64 last) (.int .u64 0) (some 54) ?_)))
      intro c54 hc54
      refine iQ 1 ?_
      cases c54
      ·replace hc54 := bf hc54
       refine iQ 3 (iE 79 [(1, Ba neg), (2, Ba odd), (3, .d (Uv last)), (4, Ba more), (10, Ba more), (11, Ba false), (18, Ia m), (19, Ba false), (36, Ba false), (40, Ba false), (51, Ba true)] [] ?_)
       refine vc_ret (block_r (seq_r (iR (Bv more) ?_)))
       exact ⟨_, rfl, by unfold UpP; simp_all <;> omega⟩
      ·replace hc54 := bt hc54
       refine iQ 3 (iE 79 [(1, Ba neg), (2, Ba odd), (3, .d (Uv last)), (4, Ba more), (10, Ba true), (11, Ba false), (18, Ia m), (19, Ba false), (36, Ba false), (40, Ba false), (51, Ba true)] [] ?_)
       refine vc_ret (block_r (seq_r (iR (Bv true) ?_)))
       exact ⟨_, rfl, by unfold UpP; simp_all <;> omega⟩
    ·replace hc41 := bt hc41
     refine iT (vc_seqr rfl (iQ 1 (iB .gtr 41 (.int .u64 last) (.int .u64 5) (some 43) ?_)))
     intro c43 hc43
     refine iQ 1 ?_
     cases c43
     ·replace hc43 := bf hc43
      refine iQ 1 (iB .eql 41 (.int .u64 last) (.int .u64 5) (some 46) ?_)
      intro c46 hc46
      refine iQ 1 ?_
      cases c46
      ·replace hc46 := bf hc46
       refine iQ 4 (iE 79 [(1, Ba neg), (2, Ba odd), (3, .d (Uv last)), (4, Ba more), (10, Ba false), (11, Ba false), (18, Ia m), (19, Ba false), (36, Ba false), (40, Ba true)] [] ?_)
       refine vc_ret (block_r (seq_r (iR (Bv false) ?_)))
       exact ⟨_, rfl, by unfold UpP; simp_all <;> omega⟩
      ·replace hc46 := bt hc46
       refine iQ 4 (iE 79 [(1, Ba neg), (2, Ba odd), (3, .d (Uv last)), (4, Ba more), (10, Ba more), (11, Ba false), (18, Ia m), (19, Ba false), (36, Ba false), (40, Ba true)] [] ?_)
       refine vc_ret (block_r (seq_r (iR (Bv more) ?_)))
       exact ⟨_, rfl, by unfold UpP; simp_all <;> omega⟩
     ·replace hc43 := bt hc43
      refine iQ 7 (iE 79 [(1, Ba neg), (2, Ba odd), (3, .d (Uv last)), (4, Ba more), (10, Ba true), (11, Ba false), (18, Ia m), (19, Ba false), (36, Ba false), (40, Ba true)] [] ?_)
      refine vc_ret (block_r (seq_r (iR (Bv true) ?_)))
      exact ⟨_, rfl, by unfold UpP; simp_all <;> omega⟩
   ·replace hc37 := bt hc37
    refine iT (vc_seqr rfl (iQ 1 (iB .geq 41 (.int .u64 last) (.int .u64 5) (some 39) ?_)))
    intro c39 hc39
    refine iQ 1 (iE 79 [(1, Ba neg), (2, Ba odd), (3, .d (Uv last)), (4, Ba more), (10, Ba c39), (11, Ba false), (18, Ia m), (19, Ba false), (36, Ba true)] [] ?_)
    refine vc_ret (block_r (seq_r (iR (Bv c39) ?_)))
    exact ⟨_, rfl, by unfold UpP; simp_all <;> omega⟩
  ·replace hc20 := bt hc20
   refine iT (vc_seqr rfl (iQ 1 (iB .gtr 41 (.int .u64 last) (.int .u64 5) (some 22) ?_)))
   intro c22 hc22
   refine iQ 1 ?_
   cases c22
   ·replace hc22 := bf hc22
    refine iQ 1 (iB .eql 41 (.int .u64 last) (.int .u64 5) (some 25) ?_)
    intro c25 hc25
    refine iQ 1 ?_
    cases c25
    ·replace hc25 := bf hc25
     refine iQ 10 (iE 79 [(1, Ba neg), (3, .d (Uv last)), (4, Ba more), (10, Ba false), (18, Ia m), (19, Ba true)] [] ?_)
     refine vc_ret (block_r (seq_r (iR (Bv false) ?_)))
     exact ⟨_, rfl, by unfold UpP; simp_all <;> omega⟩
    ·replace hc25 := bt hc25
     refine iQ 4 ?_
     cases more
     ·skip
      refine iQ 6 (iE 79 [(1, Ba neg), (3, .d (Uv last)), (4, Ba false), (10, Ba false), (18, Ia m), (19, Ba true)] [] ?_)
      refine vc_ret (block_r (seq_r (iR (Bv false) ?_)))
      exact ⟨_, rfl, by unfold UpP; simp_all <;> omega⟩
     ·skip
      refine iQ 6 (iE 79 [(1, Ba neg), (3, .d (Uv last)), (4, Ba true), (10, Ba true), (18, Ia m), (19, Ba true)] [] ?_)
      refine vc_ret (block_r (seq_r (iR (Bv true) ?_)))
      exact ⟨_, rfl, by unfold UpP; simp_all <;> omega⟩
   ·replace hc22 := bt hc22
    refine iQ 13 (iE 79 [(1, Ba neg), (3, .d (Uv last)), (4, Ba more), (10, Ba true), (18, Ia m), (19, Ba true)] [] ?_)
    refine vc_ret (block_r (seq_r (iR (Bv true) ?_)))
    exact ⟨_, rfl, by unfold UpP; simp_all <;> omega⟩
 ·replace hc13 := bt hc13
  refine iQ 1 (iU .not (.bool more) (some 16) ?_)
  intro c16 hc16
  refine iQ 2 (iE 79 [(0, Ia m), (1, Ba neg), (2, Ba odd), (3, .d (Uv last)), (4, Ba more), (10, Ba false), (11, Ba c16)] [] ?_)
  refine vc_seq (vc_seqr rfl (iQ 1 (iE 79 [(1, Ba neg), (2, Ba odd), (3, .d (Uv last)), (4, Ba more), (10, Ba false), (11, Ba c16), (18, Ia m)] [] ?_)))
  refine vc_block (vc_seqr rfl (iB .eql 72 (.int .i64 m) (.int .i64 1) (some 20) ?_))
  intro c20 hc20
  refine iQ 1 (iE 79 [(1, Ba neg), (2, Ba odd), (3, .d (Uv last)), (4, Ba more), (10, Ba false), (11, Ba c16), (18, Ia m), (19, Ba c20)] [] ?_)
  cases c20
  ·replace hc20 := bf hc20
   refine iF (vc_seqr rfl (iB .eql 72 (.int .i64 m) (.int .i64 2) (some 37) ?_))
   intro c37 hc37
   refine iQ 1 (iE 79 [(1, Ba neg), (2, Ba odd), (3, .d (Uv last)), (4, Ba more), (10, Ba false), (11, Ba c16), (18, Ia m), (19, Ba false), (36, Ba c37)] [] ?_)
   cases c37
   ·replace hc37 := bf hc37
    refine iF (vc_seqr rfl (iB .eql 72 (.int .i64 m) (.int .i64 3) (some 41) ?_))
    intro c41 hc41
    refine iQ 1 (iE 79 [(1, Ba neg), (2, Ba odd), (3, .d (Uv last)), (4, Ba more), (10, Ba false), (11, Ba c16), (18, Ia m), (19, Ba false), (36, Ba false), (40, Ba c41)] [] ?_)
    cases c41
    ·replace hc41 := bf hc41
     refine iF (vc_seqr rfl (iB .eql 72 (.int .i64 m) (.int .i64 4) (some 52) ?_))
     intro c52 hc52
     refine iQ 1 (iE 79 [(1, Ba neg), (2, Ba odd), (3, .d (Uv last)), (4, Ba more), (10, Ba false), (11, Ba c16), (18, Ia m), (19, Ba false), (36, Ba false), (40, Ba false), (51, Ba c52)] [] ?_)
     cases c52
     ·replace hc52 := bf hc52
      refine iF (vc_seqr rfl (iB .eql 72 (.int .i64 m) (.int .i64 6) (some 59) ?_))
      intro c59 hc59
      refine iQ 1 (iE 79 [(1, Ba neg), (2, Ba odd), (3, .d (Uv last)), (4, Ba more), (10, Ba false), (11, Ba c16), (18, Ia m), (19, Ba false), (36, Ba false), (40, Ba false), (51, Ba false), (58, Ba c59)] [] ?_)
      cases c59
      ·replace hc59 := bf hc59
       refine iF (vc_seqr rfl (iB .eql 72 (.int .i64 m) (.int .i64 7) (some 69) ?_))
       intro c69 hc69
       refine iQ 1 (iE 79 [(1, Ba neg), (2, Ba odd), (3, .d (Uv last)), (4, Ba more), (10, Ba false), (11, Ba c16), (18, Ia m), (19, Ba false), (36, Ba false), (40, Ba false), (51, Ba false), (58, Ba false), (68, Ba c69)] [] ?_)
       cases c69
       ·replace hc69 := bf hc69
        refine iF (vc_skip (block_n (seq_n (vc_seqr rfl (iQ 1 (iE 79 [(1, Ba neg), (2, Ba odd), (3, .d (Uv last)), (4, Ba more), (10, Ba false), (11, Ba c16), (18, Ia m), (19, Ba false), (36, Ba false), (40, Ba false), (51, Ba false), (58, Ba false), (68, Ba false)] [] ?_))))))
        refine vc_ret (iR (Bv false) ?_)
        exact ⟨_, rfl, by unfold UpP; simp_all <;> omega⟩
       ·replace hc69 := bt hc69
        refine iT (vc_seqr rfl (iQ 1 (iU .not (.bool neg) (some 71) ?_)))
        intro c71 hc71
        refine iQ 1 ?_
        cases c71
        ·replace hc71 := bf hc71
         refine iQ 7 (iE 79 [(1, Ba neg), (2, Ba odd), (3, .d (Uv last)), (4, Ba more), (10, Ba false), (11, Ba c16), (18, Ia m), (19, Ba false), (36, Ba false), (40, Ba false), (51, Ba false), (58, Ba false), (68, Ba true)] [] ?_)
         refine vc_ret (block_r (seq_r (iR (Bv false) ?_)))
         exact ⟨_, rfl, by unfold UpP; simp_all <;> omega⟩
        ·replace hc71 := bt hc71
         refine iQ 1 (iB .gtr 41 (.int .u64 last) (.int .u64 0) (some 74) ?_)
         intro c74 hc74
         refine iQ 1 ?_
         cases c74
         ·replace hc74 := bf hc74
          refine iQ 4 (iE 79 [(1, Ba neg), (2, Ba odd), (3, .d (Uv last)), (4, Ba more), (10, Ba more), (11, Ba c16), (18, Ia m), (19, Ba false), (36, Ba false), (40, Ba false), (51, Ba false), (58, Ba false), (68, Ba true)] [] ?_)
          refine vc_ret (block_r (seq_r (iR (Bv more) ?_)))
          exact ⟨_, rfl, by unfold UpP; simp_all <;> omega⟩
         ·replace hc74 := bt hc74
          refine iQ 4 (iE 79 [(1, Ba neg), (2, Ba odd), (3, .d (Uv last)), (4, Ba more), (10, Ba true), (11, Ba c16), (18, Ia m), (19, Ba false), (36, Ba false), (40, Ba false), (51, Ba false), (58, Ba false), (68, Ba true)] [] ?_)
          refine vc_ret (block_r (seq_r (iR (Bv true) ?_)))
          exact ⟨_, rfl, by unfold UpP; simp_all <;> omega⟩
      ·replace hc59 := bt hc59
       refine iT (vc_seqr rfl (iQ 2 ?_))
       cases neg
       ·skip
        refine iQ 7 (iE 79 [(1, Ba false), (2, Ba odd), (3, .d (Uv last)), (4, Ba more), (10, Ba false), (11, Ba c16), (18, Ia m), (19, Ba false), (36, Ba false), (40, Ba false), (51, Ba false), (58, Ba true)] [] ?_)
        refine vc_ret (block_r (seq_r (iR (Bv false) ?_)))
        exact ⟨_, rfl, by unfold UpP; simp_all <;> omega⟩
       ·skip
        refine iQ 1 (iB .gtr 41 (.int .u64 last) (.int .u64 0) (some 63) ?_)
        intro c63 hc63
        refine iQ 1 ?_
        cases c63
        ·replace hc63 := bf hc63
         refine iQ 4 (iE 79 [(1, Ba true), (2, Ba odd), (3, .d (Uv last)), (4, Ba more), (10, Ba more), (11, Ba c16), (18, Ia m), (19, Ba false), (36, Ba false), (40, Ba false), (51, Ba false), (58, Ba true)] [] ?_)
         refine vc_ret (block_r (seq_r (iR (Bv more) ?_)))
         exact ⟨_, rfl, by unfold UpP; simp_all <;> omega⟩
        ·replace hc63 := bt hc63
         refine iQ 4 (iE 79 [(1, Ba true), (2, Ba odd), (3, .d (Uv last)), (4, Ba more), (10, Ba true), (11, Ba c16), (18, Ia m), (19, Ba false), (36, Ba false), (40, Ba false), (51, Ba false), (58, Ba true)] [] ?_)
         refine vc_ret (block_r (seq_r (iR (Bv true) ?_)))
         exact ⟨_, rfl, by unfold UpP; simp_all <;> omega⟩
     ·replace hc52 := bt hc52
      refine iT (vc_seqr rfl (iQ 1 (iB .gtr 41 (.int .u64 last) (.int .u64 0) (some 54) ?_)))
      intro c54 hc54
      refine iQ 1 ?_
      cases c54
      ·replace hc54 := bf hc54
       refine iQ 3 (iE 79 [(1, Ba neg), (2, Ba odd), (3, .d (Uv last)), (4, Ba more), (10, Ba more), (11, Ba c16), (18, Ia m), (19, Ba false), (36, Ba false), (40, Ba false), (51, Ba true)] [] ?_)
       refine vc_ret (block_r (seq_r (iR (Bv more) ?_)))
       exact ⟨_, rfl, by unfold UpP; simp_all <;> omega⟩
      ·replace hc54 := bt hc54
       refine iQ 3 (iE 79 [(1, Ba neg), (2, Ba odd), (3, .d (Uv last)), (4, Ba more), (10, Ba true), (11, Ba c16), (18, Ia m), (19, Ba false), (36, Ba false), (40, Ba false), (51, Ba true)] [] ?_)
       refine vc_ret (block_r (seq_r (iR (Bv true) ?_)))
       exact ⟨_, rfl, by unfold UpP; simp_all <;> omega⟩
    ·replace hc41 := bt hc41
     refine iT (vc_seqr rfl (iQ 1 (iB .gtr 41 (.int .u64 last) (.int .u64 5) (some 43) ?_)))
     intro c43 hc43
     refine iQ 1 ?_
     cases c43
     ·replace hc43 := bf hc43
      refine iQ 1 (iB .eql 41 (.int .u64 last) (.int .u64 5) (some 46) ?_)
      intro c46 hc46
      refine iQ 1 ?_
      cases c46
      ·replace hc46 := bf hc46
       refine iQ 4 (iE 79 [(1, Ba neg), (2, Ba odd), (3, .d (Uv last)), (4, Ba more), (10, Ba false), (11, Ba c16), (18, Ia m), (19, Ba false), (36, Ba false), (40, Ba true)] [] ?_)
       refine vc_ret (block_r (seq_r (iR (Bv false) ?_)))
       exact ⟨_, rfl, by unfold UpP; simp_all <;> omega⟩
      ·replace hc46 := bt hc46
       refine iQ 4 (iE 79 [(1, Ba neg), (2, Ba odd), (3, .d (Uv last)), (4, Ba more), (10, Ba more), (11, Ba c16), (18, Ia m), (19, Ba false), (36, Ba false), (40, Ba true)] [] ?_)
       refine vc_ret (block_r (seq_r (iR (Bv more) ?_)))
       exact ⟨_, rfl, by unfold UpP; simp_all <;> omega⟩
     ·replace hc43 := bt hc43
      refine iQ 7 (iE 79 [(1, Ba neg), (2, Ba odd), (3, .d (Uv last)), (4, Ba more), (10, Ba true), (11, Ba c16), (18, Ia m), (19, Ba false), (36, Ba false), (40, Ba true)] [] ?_)
      refine vc_ret (block_r (seq_r (iR (Bv true) ?_)))
      exact ⟨_, rfl, by unfold UpP; simp_all <;> omega⟩
   ·replace hc37 := bt hc37
    refine iT (vc_seqr rfl (iQ 1 (iB .geq 41 (.int .u64 last) (.int .u64 5) (some 39) ?_)))
    intro c39 hc39
    refine iQ 1 (iE 79 [(1, Ba neg), (2, Ba odd), (3, .d (Uv last)), (4, Ba more), (10, Ba c39), (11, Ba c16), (18, Ia m), (19, Ba false), (36, Ba true)] [] ?_)
    refine vc_ret (block_r (seq_r (iR (Bv c39) ?_)))
    exact ⟨_, rfl, by unfold UpP; simp_all <;> omega⟩
  ·replace hc20 := bt hc20
   refine iT (vc_seqr rfl (iQ 1 (iB .gtr 41 (.int .u64 last) (.int .u64 5) (some 22) ?_)))
   intro c22 hc22
   refine iQ 1 ?_
   cases c22
   ·replace hc22 := bf hc22
    refine iQ 1 (iB .eql 41 (.int .u64 last) (.int .u64 5) (some 25) ?_)
    intro c25 hc25
    refine iQ 1 ?_
    cases c25
    ·replace hc25 := bf hc25
     refine iQ 6 ?_
     cases c16
     ·replace hc16 := bf hc16
      refine iQ 4 (iE 79 [(1, Ba neg), (3, .d (Uv last)), (4, Ba more), (10, Ba false), (18, Ia m), (19, Ba true)] [] ?_)
      refine vc_ret (block_r (seq_r (iR (Bv false) ?_)))
      exact ⟨_, rfl, by unfold UpP; simp_all <;> omega⟩
     ·replace hc16 := bt hc16
      refine iQ 4 (iE 79 [(1, Ba neg), (3, .d (Uv last)), (4, Ba more), (10, Ba odd), (18, Ia m), (19, Ba true)] [] ?_)
      refine vc_ret (block_r (seq_r (iR (Bv odd) ?_)))
      exact ⟨_, rfl, by unfold UpP; simp_all <;> omega⟩
    ·replace hc25 := bt hc25
     refine iQ 4 ?_
     cases more
     ·skip
      refine iQ 2 ?_
      cases c16
      ·replace hc16 := bf hc16
       refine iQ 4 (iE 79 [(1, Ba neg), (3, .d (Uv last)), (4, Ba false), (10, Ba false), (18, Ia m), (19, Ba true)] [] ?_)
       refine vc_ret (block_r (seq_r (iR (Bv false) ?_)))
       exact ⟨_, rfl, by unfold UpP; simp_all <;> omega⟩
      ·replace hc16 := bt hc16
       refine iQ 4 (iE 79 [(1, Ba neg), (3, .d (Uv last)), (4, Ba false), (10, Ba odd), (18, Ia m), (19, Ba true)] [] ?_)
       refine vc_ret (block_r (seq_r (iR (Bv odd) ?_)))
       exact ⟨_, rfl, by unfold UpP; simp_all <;> omega⟩
     ·skip
      refine iQ 6 (iE 79 [(1, Ba neg), (3, .d (Uv last)), (4, Ba true), (10, Ba true), (18, Ia m), (19, Ba true)] [] ?_)
      refine vc_ret (block_r (seq_r (iR (Bv true) ?_)))
      exact ⟨_, rfl, by unfold UpP; simp_all <;> omega⟩
   ·replace hc22 := bt hc22
    refine iQ 13 (iE 79 [(1, Ba neg), (3, .d (Uv last)), (4, Ba more), (10, Ba true), (18, Ia m), (19, Ba true)] [] ?_)
    refine vc_ret (block_r (seq_r (iR (Bv true) ?_)))
    exact ⟨_, rfl, by unfold UpP; simp_all <;> omega⟩

theorem and_one {x z : Int} (h : BitIs .and .u64 x 1 z) (h0 : 0 ≤ x) (h1 : x < 18446744073709551616) : z = x % 2 := by
  obtain ⟨n, rfl⟩ : ∃ n : Nat, x = n := ⟨x.toNat, by omega⟩
  have e : (BitVec.ofInt 64 (n : Int) &&& BitVec.ofInt 64 1).toNat = n % 2 := by
    rw [BitVec.toNat_and]
    have e1 : (BitVec.ofInt 64 (n : Int)).toNat = n := by simp; omega
    have e2 : (BitVec.ofInt 64 (1 : Int)).toNat = 1 := by decide
    rw [e1, e2, Nat.and_one_is_mod]
  have h' : z = IntKind.u64.wrap (((BitVec.ofInt 64 (n : Int) &&& BitVec.ofInt 64 1).toNat : Nat) : Int) := h
  rw [e] at h'
  rw [h']
  exact IntWalk.u64_in _ (by omega)



open Go.RowKit
set_option linter.unusedVariables false
set_option linter.unusedSimpArgs false
set_option maxRecDepth 100000

def lastD (N : Nat) : Nat → Nat
  | 0 => 0
  | k + 1 => N / 10 ^ k % 10
def restP (more : Bool) (N : Nat) : Nat → Prop
  | 0 => more = true
  | k + 1 => more = true ∨ N % 10 ^ k ≠ 0
theorem mod_pow_succ (N k : Nat) : N % 10 ^ (k + 1) ≠ 0 ↔ N % 10 ^ k ≠ 0 ∨ N / 10 ^ k % 10 ≠ 0 := by
  have e : N % 10 ^ (k + 1) = N % 10 ^ k + 10 ^ k * (N / 10 ^ k % 10) := by
    rw [Nat.pow_succ, Nat.mod_mul]
  rw [e]
  have hp : 0 < 10 ^ k := Nat.pow_pos (by decide)
  constructor
  · intro h
    by_cases h1 : N % 10 ^ k = 0
    · right
      intro h2
      rw [h1, h2] at h
      simp at h
    · exact .inl h1
  · rintro (h | h) h2
    · omega
    · have : 10 ^ k * (N / 10 ^ k % 10) = 0 := by omega
      rcases Nat.mul_eq_zero.1 this with h3 | h3
      · omega
      · exact h h3
theorem restP_succ {more : Bool} {N k : Nat} : restP more N (k + 1) ↔ restP more N k ∨ lastD N k ≠ 0 := by
  cases k with
  | zero => simp [restP, lastD, Nat.mod_one]
  | succ k =>
    show more = true ∨ _ ↔ (more = true ∨ _) ∨ _
    rw [mod_pow_succ]
    simp only [lastD]
    rw [or_assoc]
theorem lastD_lt {N k : Nat} : lastD N k < 10 := by
  cases k with
  | zero => simp [lastD]
  | succ k => exact Nat.mod_lt _ (by decide)
theorem cut_stop {more : Bool} {N k : Nat} (h1 : N / 10 ^ k = 0) (h2 : lastD N k = 0) : ∀ j, N / 10 ^ (k + j) = 0 ∧ lastD N (k + j) = 0 ∧ (restP more N (k + j) ↔ restP more N k) := by
  intro j
  induction j with
  | zero => exact ⟨h1, h2, Iff.rfl⟩
  | succ j ih =>
    obtain ⟨i1, i2, i3⟩ := ih
    refine ⟨?_, ?_, ?_⟩
    · rw [← Nat.add_assoc, Nat.pow_succ, ← Nat.div_div_eq_div_mul, i1]
    · show N / 10 ^ (k + j) % 10 = 0
      rw [i1]
    · rw [← Nat.add_assoc, restP_succ, i2, ← i3]
      simp

open Classical in
/-- Whether it is rounded to one more. -/
noncomputable def upB (m : Int) (neg : Bool) (N : Nat) (more : Bool) (k : Nat) : Bool := decide (UpP m neg (decide (N / 10 ^ k % 2 = 1)) (lastD N k : Nat) (decide (restP more N k)))
noncomputable def cutQ (m : Int) (neg : Bool) (N : Nat) (more : Bool) (k : Nat) : Nat := N / 10 ^ k + (upB m neg N more k).toNat

theorem lo_odd (h l : Nat) : (loW l % 2 = 1) ↔ (h * B128 + l) % 2 = 1 := by
  unfold loW B128
  omega
theorem lo_range (l : Nat) : 0 ≤ loW l ∧ loW l < 18446744073709551616 := by
  unfold loW
  omega
theorem b128_div {h l : Nat} (hl : l < B128) : (h * B128 + l) / B128 = h ∧ (h * B128 + l) % B128 = l := by
  have hp : 0 < B128 := by decide
  rw [Nat.mul_comm]
  exact ⟨by rw [Nat.mul_add_div hp, Nat.div_eq_of_lt hl]; omega, by rw [Nat.mul_add_mod, Nat.mod_eq_of_lt hl]⟩

theorem dU_0' : dU 0 = .agg [.v (.int .u64 0), .v (.int .u64 0)] := by kernel_rfl
theorem dU_1' : dU 1 = .agg [.v (.int .u64 0), .v (.int .u64 1)] := by kernel_rfl
theorem cw_Add2_1 {h l : Nat} (hh : h < B128) (hl : l < B128) : HasC Tryz.prog 65 [dU h, dU l, .agg [.v (.int .u64 0), .v (.int .u64 0)], .agg [.v (.int .u64 0), .v (.int .u64 1)]] (fun y => y = .tup [dU ((h * B128 + l + (0 * B128 + 1)) / B128 % B128), dU ((h * B128 + l + (0 * B128 + 1)) % B128), .v (.int .u64 (((h * B128 + l + (0 * B128 + 1)) / (B128 * B128) : Nat) : Int))]) := by
  rw [← dU_0', ← dU_1']
  exact cw_Add2 hh hl (by decide) (by decide)

/-- What the loop of Cut keeps. -/
structure CutInv (N : Nat) (more : Bool) (n e : Int) (k h l d : Nat) (c x : Int) (mo : Bool) : Prop where
  hh : h < B128
  hl : l < B128
  q : h * B128 + l = N / 10 ^ k
  d : d = lastD N k
  mo : mo = true ↔ restP more N k
  c : c = n - k
  x : x = e + k
  k : k = 0 ∨ (k : Int) ≤ n

theorem cut_fin {N : Nat} {more : Bool} {n e : Int} {k h l d : Nat} {c x : Int} {mo : Bool} (i : CutInv N more n e k h l d c x mo) (hs : c ≤ 0 ∨ (l = 0 ∧ h = 0 ∧ d = 0)) :
    h * B128 + l = N / 10 ^ n.toNat ∧ d = lastD N n.toNat ∧ (mo = true ↔ restP more N n.toNat) ∧ x + max 0 c = e + (n.toNat : Int) := by
  obtain ⟨i1, i2, i3, i4, i5, i6, i7, i8⟩ := i
  by_cases hc : c ≤ 0
  · have : n.toNat = k := by omega
    rw [this]
    exact ⟨i3, i4, i5, by omega⟩
  · obtain ⟨rfl, rfl, rfl⟩ := hs.resolve_left hc
    obtain ⟨j, hj⟩ : ∃ j, n.toNat = k + j := ⟨n.toNat - k, by omega⟩
    obtain ⟨s1, s2, s3⟩ := cut_stop (more := more) (by rw [← i3]; simp) i4.symm j
    rw [hj]
    exact ⟨by rw [s1]; simp, s2.symm, i5.trans s3.symm, by omega⟩

theorem upB_eq {m : Int} {neg more : Bool} {N nn h l d : Nat} {mo odd u : Bool} (f1 : h * B128 + l = N / 10 ^ nn) (f2 : d = lastD N nn) (f3 : mo = true ↔ restP more N nn) (ho : odd = true ↔ (h * B128 + l) % 2 = 1) (hu : u = true ↔ UpP m neg odd (d : Int) mo) : upB m neg N more nn = u := by
  unfold upB
  have e1 : odd = decide (N / 10 ^ nn % 2 = 1) := by rw [Bool.eq_iff_iff, ho, f1]; simp
  have e2 : mo = @decide (restP more N nn) (Classical.propDecidable _) := by rw [Bool.eq_iff_iff, f3]; simp
  rw [Bool.eq_iff_iff, hu, ← e1, ← e2, ← f2]
  simp
theorem CutInv.next {N : Nat} {more : Bool} {n e : Int} {k h l d : Nat} {c x c' x' : Int} {mo mo' : Bool} (i : CutInv N more n e k h l d c x mo) (hc : 0 < c) (hm : mo' = true ↔ (mo = true ∨ d ≠ 0)) (h1 : c' = c - 1) (h2 : x' = x + 1) :
    CutInv N more n e (k + 1) ((h * B128 + l) / 10 / B128) ((h * B128 + l) / 10 % B128) ((h * B128 + l) % 10) c' x' mo' := by
  obtain ⟨i1, i2, i3, i4, i5, i6, i7, i8⟩ := i
  have hB : h * B128 + l < B128 * B128 := by
    have : (h + 1) * B128 ≤ B128 * B128 := Nat.mul_le_mul_right _ i1
    rw [Nat.add_mul] at this
    omega
  refine ⟨?_, mod_lt128 _, ?_, ?_, ?_, by omega, by omega, .inr (by omega)⟩
  · exact Nat.div_lt_of_lt_mul (Nat.lt_of_le_of_lt (Nat.div_le_self _ _) hB)
  · rw [Nat.div_add_mod', i3, Nat.div_div_eq_div_mul, ← Nat.pow_succ]
  · rw [i3]; rfl
  · rw [hm, i5, i4]
    exact restP_succ.symm

set_option maxHeartbeats 1600000 in
theorem c_Cut {m n e : Int} {neg more : Bool} {hi lo : Nat} (hhi : hi < B128) (hlo : lo < B128) (hn : n ≤ 2305843009213693952) (he0 : -2305843009213693952 ≤ e) (he1 : e ≤ 2305843009213693952) : HasC Tryz.prog 73 [.agg [.v (.bool neg), .v (.int .u64 (hiW (hi))), .v (.int .u64 (loW (hi))), .v (.int .u64 (hiW (lo))), .v (.int .u64 (loW (lo))), .v (.int .i64 e), .v (.bool more)], .v (.int .i64 n), .v (.int .i64 m)] (fun y => y = dWide neg (cutQ m neg (hi * B128 + lo) more n.toNat / B128 % B128) (cutQ m neg (hi * B128 + lo) more n.toNat % B128) (e + n.toNat) false) := by
 refine HasC.of [] (fn := Tryz.f73) tyOk mixed (fun args w => Tryz.call73 args w) Tryz.func73 rfl (by kernel_rfl) (Nat.le_of_ble_eq_true rfl) (⟨_, rfl⟩) ?_
 obtain ⟨N, hN⟩ : ∃ N, N = hi * B128 + lo := ⟨_, rfl⟩
 rw [← hN]
 refine vc_seqr rfl (iQ 2 (iE 84 [(1, Ia n), (2, Ia m), (3, .p 3 0), (6, .p 6 0)] [(3, [Bv neg, Hw hi, Lw hi, Hw lo, Lw lo, Iv e, Bv more]), (6, [Bv false, Uv 0, Uv 0, Uv 0, Uv 0, Iv 0, Bv false])] ?_))
 refine vc_seqr rfl (iQ 1 (iE 84 [(1, Ia n), (2, Ia m), (3, .p 3 0), (6, .p 6 0), (7, .d (Uv 0))] [(3, [Bv neg, Hw hi, Lw hi, Hw lo, Lw lo, Iv e, Bv more]), (6, [Bv false, Uv 0, Uv 0, Uv 0, Uv 0, Iv 0, Bv false])] ?_))
 refine vc_seq (vc_block (vc_loop 84 (fun (vcx : Nat × Nat × Nat × Nat × Int × Int × Bool) => match vcx with | (k, h, l, d, c, x, mo) => [(1, Ia c), (2, Ia m), (3, .p 3 0), (6, .p 6 0), (7, .d (Uv ((d : Int))))]) (fun (vcx : Nat × Nat × Nat × Nat × Int × Int × Bool) => match vcx with | (k, h, l, d, c, x, mo) => [(3, [Bv neg, Hw h, Lw h, Hw l, Lw l, Iv x, Bv mo]), (6, [Bv false, Uv 0, Uv 0, Uv 0, Uv 0, Iv 0, Bv false])]) (fun (vcx : Nat × Nat × Nat × Nat × Int × Int × Bool) => match vcx with | (k, h, l, d, c, x, mo) => CutInv N more n e k h l d c x mo) (fun (vcx : Nat × Nat × Nat × Nat × Int × Int × Bool) => match vcx with | (k, h, l, d, c, x, mo) => n.toNat - k) ((0, hi, lo, 0, n, e, more)) (⟨hhi, hlo, by rw [hN]; simp, rfl, Iff.rfl, by omega, by omega, .inl rfl⟩) (by kernel_rfl) (by kernel_rfl) ?_))
 rintro ⟨k, h, l, d, c, x, mo⟩ hinv
 simp only at hinv
 have hd := lastD_lt (N := N) (k := k)
 rw [← hinv.d] at hd
 have ic := hinv.c; have ix := hinv.x; have ik := hinv.k; have hh := hinv.hh; have hl := hinv.hl
 refine vc_seq (vc_seqr rfl (iQ 1 (iB .gtr 3 (.int .i64 c) (.int .i64 0) (some 9) ?_)))
 intro c9 hc9
 refine iQ 1 ?_
 cases c9
 ·replace hc9 := bf hc9
  refine iQ 15 (iE 84 [(1, Ia c), (2, Ia m), (3, .p 3 0), (6, .p 6 0), (7, .d (Uv ((d : Int)))), (25, Ba false)] [(3, [Bv neg, Hw h, Lw h, Hw l, Lw l, Iv x, Bv mo]), (6, [Bv false, Uv 0, Uv 0, Uv 0, Uv 0, Iv 0, Bv false])] ?_)
  obtain ⟨f1, f2, f3, f4⟩ := cut_fin hinv (.inl (by omega))
  clear hinv
  refine iF (vc_exit (seq_x (loop_x (block_x rfl (seq_n (vc_seqr rfl (iQ 3 (iL .max [3, 3] [.int .i64 0, .int .i64 c] (some 54) ?_))))))))
  intro z54 hz54
  simp only at hz54
  refine iB .add 3 (.int .i64 x) (.int .i64 z54) (some 55) ?_
  intro z55 hz55
  try replace hz55 := hz55.i64 (by omega)
  refine iQ 2 (iE 84 [(1, Ia c), (2, Ia m), (3, .p 3 0), (6, .p 6 0), (7, .d (Uv ((d : Int)))), (25, Ba false)] [(3, [Bv neg, Hw h, Lw h, Hw l, Lw l, Iv z55, Bv mo]), (6, [Bv false, Uv 0, Uv 0, Uv 0, Uv 0, Iv 0, Bv false])] ?_)
  refine vc_seq (vc_seqr rfl (iQ 6 (iB .and 41 (.int .u64 (loW (l))) (.int .u64 1) (some 63) ?_)))
  intro z63 hz63
  refine iB .eql 41 (.int .u64 z63) (.int .u64 1) (some 64) ?_
  intro c64 hc64
  refine iQ 3 (iC 89 [Iv m, Bv neg, Bv c64, Uv ((d : Int)), Bv mo] (some 68) (c_up) ?_)
  rintro _ ⟨u, rfl, hu⟩
  have ho : c64 = true ↔ (h * B128 + l) % 2 = 1 := by rw [hc64, ← lo_odd h l, and_one hz63 (lo_range l).1 (lo_range l).2]
  have hup := upB_eq f1 f2 f3 ho hu
  have ez : z55 = e + (n.toNat : Int) := by omega
  refine iE 84 [(1, Ia c), (3, .p 3 0), (6, .p 6 0), (7, .d (Uv ((d : Int)))), (25, Ba false), (68, Ba u)] [(3, [Bv neg, Hw h, Lw h, Hw l, Lw l, Iv z55, Bv mo]), (6, [Bv false, Uv 0, Uv 0, Uv 0, Uv 0, Iv 0, Bv false])] ?_
  cases u
  ·replace hu := bf hu
   refine iF (vc_skip (seq_n (vc_seqr rfl (iQ 2 (iE 84 [(1, Ia c), (3, .p 3 0), (6, .p 6 0), (7, .d (Uv ((d : Int)))), (25, Ba false), (68, Ba false)] [(3, [Bv neg, Hw h, Lw h, Hw l, Lw l, Iv z55, Bv false]), (6, [Bv false, Uv 0, Uv 0, Uv 0, Uv 0, Iv 0, Bv false])] ?_)))))
   refine vc_seqr rfl (iQ 2 (iE 84 [(1, Ia c), (3, .p 3 0), (6, .p 6 0), (7, .d (Uv ((d : Int)))), (25, Ba false), (68, Ba false)] [(3, [Bv neg, Hw h, Lw h, Hw l, Lw l, Iv z55, Bv false]), (6, [Bv neg, Hw h, Lw h, Hw l, Lw l, Iv z55, Bv false])] ?_))
   refine vc_ret (iR (.agg [Bv neg, Hw h, Lw h, Hw l, Lw l, Iv z55, Bv false]) ?_)
   have hQ : cutQ m neg N more n.toNat = h * B128 + l := by unfold cutQ; rw [hup, ← f1]; exact Nat.add_zero _
   rw [hQ, (b128_div hl).1, (b128_div hl).2, Nat.mod_eq_of_lt hh, ez]
   rfl
  ·replace hu := bt hu
   refine iT (vc_reg rfl (iQ 5 (iC 42 [Uv 1] (some 75) (cw_Of 1) ?_)))
   rintro _ rfl
   refine iC 65 [.agg [Hw h, Lw h], .agg [Hw l, Lw l], .agg [Uv 0, Uv 0], .agg [Uv 0, Uv 1]] (some 76) (cw_Add2_1 hh hl) ?_
   rintro _ rfl
   refine iQ 8 (iE 84 [(1, Ia c), (3, .p 3 0), (6, .p 6 0), (7, .d (Uv ((d : Int)))), (25, Ba false), (68, Ba true)] [(3, [Bv neg, Hw ((h * B128 + l + (0 * B128 + 1)) / B128 % B128), Lw ((h * B128 + l + (0 * B128 + 1)) / B128 % B128), Hw ((h * B128 + l + (0 * B128 + 1)) % B128), Lw ((h * B128 + l + (0 * B128 + 1)) % B128), Iv z55, Bv mo]), (6, [Bv false, Uv 0, Uv 0, Uv 0, Uv 0, Iv 0, Bv false])] ?_)
   refine seq_n (vc_seqr rfl (iQ 2 (iE 84 [(1, Ia c), (3, .p 3 0), (6, .p 6 0), (7, .d (Uv ((d : Int)))), (25, Ba false), (68, Ba true)] [(3, [Bv neg, Hw ((h * B128 + l + (0 * B128 + 1)) / B128 % B128), Lw ((h * B128 + l + (0 * B128 + 1)) / B128 % B128), Hw ((h * B128 + l + (0 * B128 + 1)) % B128), Lw ((h * B128 + l + (0 * B128 + 1)) % B128), Iv z55, Bv false]), (6, [Bv false, Uv 0, Uv 0, Uv 0, Uv 0, Iv 0, Bv false])] ?_)))
   refine vc_seqr rfl (iQ 2 (iE 84 [(1, Ia c), (3, .p 3 0), (6, .p 6 0), (7, .d (Uv ((d : Int)))), (25, Ba false), (68, Ba true)] [(3, [Bv neg, Hw ((h * B128 + l + (0 * B128 + 1)) / B128 % B128), Lw ((h * B128 + l + (0 * B128 + 1)) / B128 % B128), Hw ((h * B128 + l + (0 * B128 + 1)) % B128), Lw ((h * B128 + l + (0 * B128 + 1)) % B128), Iv z55, Bv false]), (6, [Bv neg, Hw ((h * B128 + l + (0 * B128 + 1)) / B128 % B128), Lw ((h * B128 + l + (0 * B128 + 1)) / B128 % B128), Hw ((h * B128 + l + (0 * B128 + 1)) % B128), Lw ((h * B128 + l + (0 * B128 + 1)) % B128), Iv z55, Bv false])] ?_))
   refine vc_ret (iR (.agg [Bv neg, Hw ((h * B128 + l + (0 * B128 + 1)) / B128 % B128), Lw ((h * B128 + l + (0 * B128 + 1)) / B128 % B128), Hw ((h * B128 + l + (0 * B128 + 1)) % B128), Lw ((h * B128 + l + (0 * B128 + 1)) % B128), Iv z55, Bv false]) ?_)
   have hQ : cutQ m neg N more n.toNat = h * B128 + l + (0 * B128 + 1) := by unfold cutQ; rw [hup, ← f1]; simp
   rw [hQ, ez]
   rfl
 ·replace hc9 := bt hc9
  refine iQ 2 (iC 40 [.agg [Hw h, Lw h]] (some 13) (cw_Zero hinv.hh) ?_)
  rintro _ ⟨zh, rfl, hzh⟩
  refine iU .not (.bool zh) (some 14) ?_
  intro c14 hc14
  refine iQ 1 ?_
  cases c14
  ·replace hc14 := bf hc14
   refine iQ 2 ?_
   have hh0 : h = 0 := hzh.1 (by cases zh; exact absurd rfl (fun e => hc14 e); rfl)
   refine iC 40 [.agg [Hw l, Lw l]] (some 18) (cw_Zero hinv.hl) ?_
   rintro _ ⟨zl, rfl, hzl⟩
   refine iU .not (.bool zl) (some 19) ?_
   intro c19 hc19
   refine iQ 2 ?_
   cases c19
   ·replace hc19 := bf hc19
    refine iQ 1 (iB .neq 41 (.int .u64 ((d : Int))) (.int .u64 0) (some 23) ?_)
    have hl0 : l = 0 := hzl.1 (by cases zl; exact absurd rfl (fun e => hc19 e); rfl)
    intro c23 hc23
    refine iQ 2 (iE 84 [(1, Ia c), (2, Ia m), (3, .p 3 0), (6, .p 6 0), (7, .d (Uv ((d : Int)))), (25, Ba c23)] [(3, [Bv neg, Hw h, Lw h, Hw l, Lw l, Iv x, Bv mo]), (6, [Bv false, Uv 0, Uv 0, Uv 0, Uv 0, Iv 0, Bv false])] ?_)
    cases c23
    ·replace hc23 := bf hc23
     obtain ⟨f1, f2, f3, f4⟩ := cut_fin hinv (.inr ⟨hl0, hh0, by omega⟩)
     clear hinv
     refine iF (vc_exit (seq_x (loop_x (block_x rfl (seq_n (vc_seqr rfl (iQ 3 (iL .max [3, 3] [.int .i64 0, .int .i64 c] (some 54) ?_))))))))
     intro z54 hz54
     simp only at hz54
     refine iB .add 3 (.int .i64 x) (.int .i64 z54) (some 55) ?_
     intro z55 hz55
     try replace hz55 := hz55.i64 (by omega)
     refine iQ 2 (iE 84 [(1, Ia c), (2, Ia m), (3, .p 3 0), (6, .p 6 0), (7, .d (Uv ((d : Int)))), (25, Ba false)] [(3, [Bv neg, Hw h, Lw h, Hw l, Lw l, Iv z55, Bv mo]), (6, [Bv false, Uv 0, Uv 0, Uv 0, Uv 0, Iv 0, Bv false])] ?_)
     refine vc_seq (vc_seqr rfl (iQ 6 (iB .and 41 (.int .u64 (loW (l))) (.int .u64 1) (some 63) ?_)))
     intro z63 hz63
     refine iB .eql 41 (.int .u64 z63) (.int .u64 1) (some 64) ?_
     intro c64 hc64
     refine iQ 3 (iC 89 [Iv m, Bv neg, Bv c64, Uv ((d : Int)), Bv mo] (some 68) (c_up) ?_)
     rintro _ ⟨u, rfl, hu⟩
     have ho : c64 = true ↔ (h * B128 + l) % 2 = 1 := by rw [hc64, ← lo_odd h l, and_one hz63 (lo_range l).1 (lo_range l).2]
     have hup := upB_eq f1 f2 f3 ho hu
     have ez : z55 = e + (n.toNat : Int) := by omega
     refine iE 84 [(1, Ia c), (3, .p 3 0), (6, .p 6 0), (7, .d (Uv ((d : Int)))), (25, Ba false), (68, Ba u)] [(3, [Bv neg, Hw h, Lw h, Hw l, Lw l, Iv z55, Bv mo]), (6, [Bv false, Uv 0, Uv 0, Uv 0, Uv 0, Iv 0, Bv false])] ?_
     cases u
     ·replace hu := bf hu
      refine iF (vc_skip (seq_n (vc_seqr rfl (iQ 2 (iE 84 [(1, Ia c), (3, .p 3 0), (6, .p 6 0), (7, .d (Uv ((d : Int)))), (25, Ba false), (68, Ba false)] [(3, [Bv neg, Hw h, Lw h, Hw l, Lw l, Iv z55, Bv false]), (6, [Bv false, Uv 0, Uv 0, Uv 0, Uv 0, Iv 0, Bv false])] ?_)))))
      refine vc_seqr rfl (iQ 2 (iE 84 [(1, Ia c), (3, .p 3 0), (6, .p 6 0), (7, .d (Uv ((d : Int)))), (25, Ba false), (68, Ba false)] [(3, [Bv neg, Hw h, Lw h, Hw l, Lw l, Iv z55, Bv false]), (6, [Bv neg, Hw h, Lw h, Hw l, Lw l, Iv z55, Bv false])] ?_))
      refine vc_ret (iR (.agg [Bv neg, Hw h, Lw h, Hw l, Lw l, Iv z55, Bv false]) ?_)
      have hQ : cutQ m neg N more n.toNat = h * B128 + l := by unfold cutQ; rw [hup, ← f1]; exact Nat.add_zero _
      rw [hQ, (b128_div hl).1, (b128_div hl).2, Nat.mod_eq_of_lt hh, ez]
      rfl
     ·replace hu := bt hu
      refine iT (vc_reg rfl (iQ 5 (iC 42 [Uv 1] (some 75) (cw_Of 1) ?_)))
      rintro _ rfl
      refine iC 65 [.agg [Hw h, Lw h], .agg [Hw l, Lw l], .agg [Uv 0, Uv 0], .agg [Uv 0, Uv 1]] (some 76) (cw_Add2_1 hh hl) ?_
      rintro _ rfl
      refine iQ 8 (iE 84 [(1, Ia c), (3, .p 3 0), (6, .p 6 0), (7, .d (Uv ((d : Int)))), (25, Ba false), (68, Ba true)] [(3, [Bv neg, Hw ((h * B128 + l + (0 * B128 + 1)) / B128 % B128), Lw ((h * B128 + l + (0 * B128 + 1)) / B128 % B128), Hw ((h * B128 + l + (0 * B128 + 1)) % B128), Lw ((h * B128 + l + (0 * B128 + 1)) % B128), Iv z55, Bv mo]), (6, [Bv false, Uv 0, Uv 0, Uv 0, Uv 0, Iv 0, Bv false])] ?_)
      refine seq_n (vc_seqr rfl (iQ 2 (iE 84 [(1, Ia c), (3, .p 3 0), (6, .p 6 0), (7, .d (Uv ((d : Int)))), (25, Ba false), (68, Ba true)] [(3, [Bv neg, Hw ((h * B128 + l + (0 * B128 + 1)) / B128 % B128), Lw ((h * B128 + l + (0 * B128 + 1)) / B128 % B128), Hw ((h * B128 + l + (0 * B128 + 1)) % B128), Lw ((h * B128 + l + (0 * B128 + 1)) % B128), Iv z55, Bv false]), (6, [Bv false, Uv 0, Uv 0, Uv 0, Uv 0, Iv 0, Bv false])] ?_)))
      refine vc_seqr rfl (iQ 2 (iE 84 [(1, Ia c), (3, .p 3 0), (6, .p 6 0), (7, .d (Uv ((d : Int)))), (25, Ba false), (68, Ba true)] [(3, [Bv neg, Hw ((h * B128 + l + (0 * B128 + 1)) / B128 % B128), Lw ((h * B128 + l + (0 * B128 + 1)) / B128 % B128), Hw ((h * B128 + l + (0 * B128 + 1)) % B128), Lw ((h * B128 + l + (0 * B128 + 1)) % B128), Iv z55, Bv false]), (6, [Bv neg, Hw ((h * B128 + l + (0 * B128 + 1)) / B128 % B128), Lw ((h * B128 + l + (0 * B128 + 1)) / B128 % B128), Hw ((h * B128 + l + (0 * B128 + 1)) % B128), Lw ((h * B128 + l + (0 * B128 + 1)) % B128), Iv z55, Bv false])] ?_))
      refine vc_ret (iR (.agg [Bv neg, Hw ((h * B128 + l + (0 * B128 + 1)) / B128 % B128), Lw ((h * B128 + l + (0 * B128 + 1)) / B128 % B128), Hw ((h * B128 + l + (0 * B128 + 1)) % B128), Lw ((h * B128 + l + (0 * B128 + 1)) % B128), Iv z55, Bv false]) ?_)
      have hQ : cutQ m neg N more n.toNat = h * B128 + l + (0 * B128 + 1) := by unfold cutQ; rw [hup, ← f1]; simp
      rw [hQ, ez]
      rfl
    ·replace hc23 := bt hc23
     refine iT (vc_skip (seq_n (vc_seq (vc_block (vc_seqr rfl (iQ 3 ?_))))))
     cases mo
     ·skip
      refine iQ 1 (iB .neq 41 (.int .u64 ((d : Int))) (.int .u64 0) (some 32) ?_)
      intro c32 hc32
      refine iQ 3 (iE 84 [(1, Ia c), (2, Ia m), (3, .p 3 0), (6, .p 6 0), (7, .d (Uv ((d : Int)))), (25, Ba true)] [(3, [Bv neg, Hw h, Lw h, Hw l, Lw l, Iv x, Bv c32]), (6, [Bv false, Uv 0, Uv 0, Uv 0, Uv 0, Iv 0, Bv false])] ?_)
      refine vc_seqr rfl (iQ 4 (iC 41 [.agg [Hw h, Lw h], .agg [Hw l, Lw l], Uv 10] (some 40) (cw_DivWord (n := 10) hh hl (by decide) (by decide)) ?_))
      rintro _ rfl
      refine iQ 10 (iE 84 [(1, Ia c), (2, Ia m), (3, .p 3 0), (6, .p 6 0), (7, .d (Uv ((((h * B128 + l) % 10 : Nat) : Int)))), (25, Ba true)] [(3, [Bv neg, Hw ((h * B128 + l) / 10 / B128), Lw ((h * B128 + l) / 10 / B128), Hw ((h * B128 + l) / 10 % B128), Lw ((h * B128 + l) / 10 % B128), Iv x, Bv c32]), (6, [Bv false, Uv 0, Uv 0, Uv 0, Uv 0, Iv 0, Bv false])] ?_)
      refine vc_reg rfl (iQ 2 (iB .add 3 (.int .i64 x) (.int .i64 1) (some 49) ?_))
      intro z49 hz49
      try replace hz49 := hz49.i64 (by omega)
      refine iQ 2 (iE 84 [(1, Ia c), (2, Ia m), (3, .p 3 0), (6, .p 6 0), (7, .d (Uv ((((h * B128 + l) % 10 : Nat) : Int)))), (25, Ba true)] [(3, [Bv neg, Hw ((h * B128 + l) / 10 / B128), Lw ((h * B128 + l) / 10 / B128), Hw ((h * B128 + l) / 10 % B128), Lw ((h * B128 + l) / 10 % B128), Iv z49, Bv c32]), (6, [Bv false, Uv 0, Uv 0, Uv 0, Uv 0, Iv 0, Bv false])] ?_)
      refine block_n (seq_n (vc_reg rfl (iQ 1 (iB .sub 3 (.int .i64 c) (.int .i64 1) (some 27) ?_))))
      intro z27 hz27
      try replace hz27 := hz27.i64 (by omega)
      refine iQ 1 (iE 84 [(1, Ia z27), (2, Ia m), (3, .p 3 0), (6, .p 6 0), (7, .d (Uv ((((h * B128 + l) % 10 : Nat) : Int)))), (25, Ba true)] [(3, [Bv neg, Hw ((h * B128 + l) / 10 / B128), Lw ((h * B128 + l) / 10 / B128), Hw ((h * B128 + l) / 10 % B128), Lw ((h * B128 + l) / 10 % B128), Iv z49, Bv c32]), (6, [Bv false, Uv 0, Uv 0, Uv 0, Uv 0, Iv 0, Bv false])] ?_)
      refine loop_n (k + 1, (h * B128 + l) / 10 / B128, (h * B128 + l) / 10 % B128, (h * B128 + l) % 10, z27, z49, c32) (hinv.next (by omega) (by rw [hc32]; simp) hz27 hz49) (by show n.toNat - (k + 1) < n.toNat - k; omega) (by kernel_rfl) (by kernel_rfl)
     ·skip
      refine iQ 5 (iE 84 [(1, Ia c), (2, Ia m), (3, .p 3 0), (6, .p 6 0), (7, .d (Uv ((d : Int)))), (25, Ba true)] [(3, [Bv neg, Hw h, Lw h, Hw l, Lw l, Iv x, Bv true]), (6, [Bv false, Uv 0, Uv 0, Uv 0, Uv 0, Iv 0, Bv false])] ?_)
      refine vc_seqr rfl (iQ 4 (iC 41 [.agg [Hw h, Lw h], .agg [Hw l, Lw l], Uv 10] (some 40) (cw_DivWord (n := 10) hh hl (by decide) (by decide)) ?_))
      rintro _ rfl
      refine iQ 10 (iE 84 [(1, Ia c), (2, Ia m), (3, .p 3 0), (6, .p 6 0), (7, .d (Uv ((((h * B128 + l) % 10 : Nat) : Int)))), (25, Ba true)] [(3, [Bv neg, Hw ((h * B128 + l) / 10 / B128), Lw ((h * B128 + l) / 10 / B128), Hw ((h * B128 + l) / 10 % B128), Lw ((h * B128 + l) / 10 % B128), Iv x, Bv true]), (6, [Bv false, Uv 0, Uv 0, Uv 0, Uv 0, Iv 0, Bv false])] ?_)
      refine vc_reg rfl (iQ 2 (iB .add 3 (.int .i64 x) (.int .i64 1) (some 49) ?_))
      intro z49 hz49
      try replace hz49 := hz49.i64 (by omega)
      refine iQ 2 (iE 84 [(1, Ia c), (2, Ia m), (3, .p 3 0), (6, .p 6 0), (7, .d (Uv ((((h * B128 + l) % 10 : Nat) : Int)))), (25, Ba true)] [(3, [Bv neg, Hw ((h * B128 + l) / 10 / B128), Lw ((h * B128 + l) / 10 / B128), Hw ((h * B128 + l) / 10 % B128), Lw ((h * B128 + l) / 10 % B128), Iv z49, Bv true]), (6, [Bv false, Uv 0, Uv 0, Uv 0, Uv 0, Iv 0, Bv false])] ?_)
      refine block_n (seq_n (vc_reg rfl (iQ 1 (iB .sub 3 (.int .i64 c) (.int .i64 1) (some 27) ?_))))
      intro z27 hz27
      try replace hz27 := hz27.i64 (by omega)
      refine iQ 1 (iE 84 [(1, Ia z27), (2, Ia m), (3, .p 3 0), (6, .p 6 0), (7, .d (Uv ((((h * B128 + l) % 10 : Nat) : Int)))), (25, Ba true)] [(3, [Bv neg, Hw ((h * B128 + l) / 10 / B128), Lw ((h * B128 + l) / 10 / B128), Hw ((h * B128 + l) / 10 % B128), Lw ((h * B128 + l) / 10 % B128), Iv z49, Bv true]), (6, [Bv false, Uv 0, Uv 0, Uv 0, Uv 0, Iv 0, Bv false])] ?_)
      refine loop_n (k + 1, (h * B128 + l) / 10 / B128, (h * B128 + l) / 10 % B128, (h * B128 + l) % 10, z27, z49, true) (hinv.next (by omega) (by simp) hz27 hz49) (by show n.toNat - (k + 1) < n.toNat - k; omega) (by kernel_rfl) (by kernel_rfl)
   ·replace hc19 := bt hc19
    refine iQ 4 (iE 84 [(1, Ia c), (2, Ia m), (3, .p 3 0), (6, .p 6 0), (7, .d (Uv ((d : Int)))), (25, Ba true)] [(3, [Bv neg, Hw h, Lw h, Hw l, Lw l, Iv x, Bv mo]), (6, [Bv false, Uv 0, Uv 0, Uv 0, Uv 0, Iv 0, Bv false])] ?_)
    refine iT (vc_skip (seq_n (vc_seq (vc_block (vc_seqr rfl (iQ 3 ?_))))))
    cases mo
    ·skip
     refine iQ 1 (iB .neq 41 (.int .u64 ((d : Int))) (.int .u64 0) (some 32) ?_)
     intro c32 hc32
     refine iQ 3 (iE 84 [(1, Ia c), (2, Ia m), (3, .p 3 0), (6, .p 6 0), (7, .d (Uv ((d : Int)))), (25, Ba true)] [(3, [Bv neg, Hw h, Lw h, Hw l, Lw l, Iv x, Bv c32]), (6, [Bv false, Uv 0, Uv 0, Uv 0, Uv 0, Iv 0, Bv false])] ?_)
     refine vc_seqr rfl (iQ 4 (iC 41 [.agg [Hw h, Lw h], .agg [Hw l, Lw l], Uv 10] (some 40) (cw_DivWord (n := 10) hh hl (by decide) (by decide)) ?_))
     rintro _ rfl
     refine iQ 10 (iE 84 [(1, Ia c), (2, Ia m), (3, .p 3 0), (6, .p 6 0), (7, .d (Uv ((((h * B128 + l) % 10 : Nat) : Int)))), (25, Ba true)] [(3, [Bv neg, Hw ((h * B128 + l) / 10 / B128), Lw ((h * B128 + l) / 10 / B128), Hw ((h * B128 + l) / 10 % B128), Lw ((h * B128 + l) / 10 % B128), Iv x, Bv c32]), (6, [Bv false, Uv 0, Uv 0, Uv 0, Uv 0, Iv 0, Bv false])] ?_)
     refine vc_reg rfl (iQ 2 (iB .add 3 (.int .i64 x) (.int .i64 1) (some 49) ?_))
     intro z49 hz49
     try replace hz49 := hz49.i64 (by omega)
     refine iQ 2 (iE 84 [(1, Ia c), (2, Ia m), (3, .p 3 0), (6, .p 6 0), (7, .d (Uv ((((h * B128 + l) % 10 : Nat) : Int)))), (25, Ba true)] [(3, [Bv neg, Hw ((h * B128 + l) / 10 / B128), Lw ((h * B128 + l) / 10 / B128), Hw ((h * B128 + l) / 10 % B128), Lw ((h * B128 + l) / 10 % B128), Iv z49, Bv c32]), (6, [Bv false, Uv 0, Uv 0, Uv 0, Uv 0, Iv 0, Bv false])] ?_)
     refine block_n (seq_n (vc_reg rfl (iQ 1 (iB .sub 3 (.int .i64 c) (.int .i64 1) (some 27) ?_))))
     intro z27 hz27
     try replace hz27 := hz27.i64 (by omega)
     refine iQ 1 (iE 84 [(1, Ia z27), (2, Ia m), (3, .p 3 0), (6, .p 6 0), (7, .d (Uv ((((h * B128 + l) % 10 : Nat) : Int)))), (25, Ba true)] [(3, [Bv neg, Hw ((h * B128 + l) / 10 / B128), Lw ((h * B128 + l) / 10 / B128), Hw ((h * B128 + l) / 10 % B128), Lw ((h * B128 + l) / 10 % B128), Iv z49, Bv c32]), (6, [Bv false, Uv 0, Uv 0, Uv 0, Uv 0, Iv 0, Bv false])] ?_)
     refine loop_n (k + 1, (h * B128 + l) / 10 / B128, (h * B128 + l) / 10 % B128, (h * B128 + l) % 10, z27, z49, c32) (hinv.next (by omega) (by rw [hc32]; simp) hz27 hz49) (by show n.toNat - (k + 1) < n.toNat - k; omega) (by kernel_rfl) (by kernel_rfl)
    ·skip
     refine iQ 5 (iE 84 [(1, Ia c), (2, Ia m), (3, .p 3 0), (6, .p 6 0), (7, .d (Uv ((d : Int)))), (25, Ba true)] [(3, [Bv neg, Hw h, Lw h, Hw l, Lw l, Iv x, Bv true]), (6, [Bv false, Uv 0, Uv 0, Uv 0, Uv 0, Iv 0, Bv false])] ?_)
     refine vc_seqr rfl (iQ 4 (iC 41 [.agg [Hw h, Lw h], .agg [Hw l, Lw l], Uv 10] (some 40) (cw_DivWord (n := 10) hh hl (by decide) (by decide)) ?_))
     rintro _ rfl
     refine iQ 10 (iE 84 [(1, Ia c), (2, Ia m), (3, .p 3 0), (6, .p 6 0), (7, .d (Uv ((((h * B128 + l) % 10 : Nat) : Int)))), (25, Ba true)] [(3, [Bv neg, Hw ((h * B128 + l) / 10 / B128), Lw ((h * B128 + l) / 10 / B128), Hw ((h * B128 + l) / 10 % B128), Lw ((h * B128 + l) / 10 % B128), Iv x, Bv true]), (6, [Bv false, Uv 0, Uv 0, Uv 0, Uv 0, Iv 0, Bv false])] ?_)
     refine vc_reg rfl (iQ 2 (iB .add 3 (.int .i64 x) (.int .i64 1) (some 49) ?_))
     intro z49 hz49
     try replace hz49 := hz49.i64 (by omega)
     refine iQ 2 (iE 84 [(1, Ia c), (2, Ia m), (3, .p 3 0), (6, .p 6 0), (7, .d (Uv ((((h * B128 + l) % 10 : Nat) : Int)))), (25, Ba true)] [(3, [Bv neg, Hw ((h * B128 + l) / 10 / B128), Lw ((h * B128 + l) / 10 / B128), Hw ((h * B128 + l) / 10 % B128), Lw ((h * B128 + l) / 10 % B128), Iv z49, Bv true]), (6, [Bv false, Uv 0, Uv 0, Uv 0, Uv 0, Iv 0, Bv false])] ?_)
     refine block_n (seq_n (vc_reg rfl (iQ 1 (iB .sub 3 (.int .i64 c) (.int .i64 1) (some 27) ?_))))
     intro z27 hz27
     try replace hz27 := hz27.i64 (by omega)
     refine iQ 1 (iE 84 [(1, Ia z27), (2, Ia m), (3, .p 3 0), (6, .p 6 0), (7, .d (Uv ((((h * B128 + l) % 10 : Nat) : Int)))), (25, Ba true)] [(3, [Bv neg, Hw ((h * B128 + l) / 10 / B128), Lw ((h * B128 + l) / 10 / B128), Hw ((h * B128 + l) / 10 % B128), Lw ((h * B128 + l) / 10 % B128), Iv z49, Bv true]), (6, [Bv false, Uv 0, Uv 0, Uv 0, Uv 0, Iv 0, Bv false])] ?_)
     refine loop_n (k + 1, (h * B128 + l) / 10 / B128, (h * B128 + l) / 10 % B128, (h * B128 + l) % 10, z27, z49, true) (hinv.next (by omega) (by simp) hz27 hz49) (by show n.toNat - (k + 1) < n.toNat - k; omega) (by kernel_rfl) (by kernel_rfl)
  ·replace hc14 := bt hc14
   refine iQ 10 (iE 84 [(1, Ia c), (2, Ia m), (3, .p 3 0), (6, .p 6 0), (7, .d (Uv ((d : Int)))), (25, Ba true)] [(3, [Bv neg, Hw h, Lw h, Hw l, Lw l, Iv x, Bv mo]), (6, [Bv false, Uv 0, Uv 0, Uv 0, Uv 0, Iv 0, Bv false])] ?_)
   refine iT (vc_skip (seq_n (vc_seq (vc_block (vc_seqr rfl (iQ 3 ?_))))))
   cases mo
   ·skip
    refine iQ 1 (iB .neq 41 (.int .u64 ((d : Int))) (.int .u64 0) (some 32) ?_)
    intro c32 hc32
    refine iQ 3 (iE 84 [(1, Ia c), (2, Ia m), (3, .p 3 0), (6, .p 6 0), (7, .d (Uv ((d : Int)))), (25, Ba true)] [(3, [Bv neg, Hw h, Lw h, Hw l, Lw l, Iv x, Bv c32]), (6, [Bv false, Uv 0, Uv 0, Uv 0, Uv 0, Iv 0, Bv false])] ?_)
    refine vc_seqr rfl (iQ 4 (iC 41 [.agg [Hw h, Lw h], .agg [Hw l, Lw l], Uv 10] (some 40) (cw_DivWord (n := 10) hh hl (by decide) (by decide)) ?_))
    rintro _ rfl
    refine iQ 10 (iE 84 [(1, Ia c), (2, Ia m), (3, .p 3 0), (6, .p 6 0), (7, .d (Uv ((((h * B128 + l) % 10 : Nat) : Int)))), (25, Ba true)] [(3, [Bv neg, Hw ((h * B128 + l) / 10 / B128), Lw ((h * B128 + l) / 10 / B128), Hw ((h * B128 + l) / 10 % B128), Lw ((h * B128 + l) / 10 % B128), Iv x, Bv c32]), (6, [Bv false, Uv 0, Uv 0, Uv 0, Uv 0, Iv 0, Bv false])] ?_)
    refine vc_reg rfl (iQ 2 (iB .add 3 (.int .i64 x) (.int .i64 1) (some 49) ?_))
    intro z49 hz49
    try replace hz49 := hz49.i64 (by omega)
    refine iQ 2 (iE 84 [(1, Ia c), (2, Ia m), (3, .p 3 0), (6, .p 6 0), (7, .d (Uv ((((h * B128 + l) % 10 : Nat) : Int)))), (25, Ba true)] [(3, [Bv neg, Hw ((h * B128 + l) / 10 / B128), Lw ((h * B128 + l) / 10 / B128), Hw ((h * B128 + l) / 10 % B128), Lw ((h * B128 + l) / 10 % B128), Iv z49, Bv c32]), (6, [Bv false, Uv 0, Uv 0, Uv 0, Uv 0, Iv 0, Bv false])] ?_)
    refine block_n (seq_n (vc_reg rfl (iQ 1 (iB .sub 3 (.int .i64 c) (.int .i64 1) (some 27) ?_))))
    intro z27 hz27
    try replace hz27 := hz27.i64 (by omega)
    refine iQ 1 (iE 84 [(1, Ia z27), (2, Ia m), (3, .p 3 0), (6, .p 6 0), (7, .d (Uv ((((h * B128 + l) % 10 : Nat) : Int)))), (25, Ba true)] [(3, [Bv neg, Hw ((h * B128 + l) / 10 / B128), Lw ((h * B128 + l) / 10 / B128), Hw ((h * B128 + l) / 10 % B128), Lw ((h * B128 + l) / 10 % B128), Iv z49, Bv c32]), (6, [Bv false, Uv 0, Uv 0, Uv 0, Uv 0, Iv 0, Bv false])] ?_)
    refine loop_n (k + 1, (h * B128 + l) / 10 / B128, (h * B128 + l) / 10 % B128, (h * B128 + l) % 10, z27, z49, c32) (hinv.next (by omega) (by rw [hc32]; simp) hz27 hz49) (by show n.toNat - (k + 1) < n.toNat - k; omega) (by kernel_rfl) (by kernel_rfl)
   ·skip
    refine iQ 5 (iE 84 [(1, Ia c), (2, Ia m), (3, .p 3 0), (6, .p 6 0), (7, .d (Uv ((d : Int)))), (25, Ba true)] [(3, [Bv neg, Hw h, Lw h, Hw l, Lw l, Iv x, Bv true]), (6, [Bv false, Uv 0, Uv 0, Uv 0, Uv 0, Iv 0, Bv false])] ?_)
    refine vc_seqr rfl (iQ 4 (iC 41 [.agg [Hw h, Lw h], .agg [Hw l, Lw l], Uv 10] (some 40) (cw_DivWord (n := 10) hh hl (by decide) (by decide)) ?_))
    rintro _ rfl
    refine iQ 10 (iE 84 [(1, Ia c), (2, Ia m), (3, .p 3 0), (6, .p 6 0), (7, .d (Uv ((((h * B128 + l) % 10 : Nat) : Int)))), (25, Ba true)] [(3, [Bv neg, Hw ((h * B128 + l) / 10 / B128), Lw ((h * B128 + l) / 10 / B128), Hw ((h * B128 + l) / 10 % B128), Lw ((h * B128 + l) / 10 % B128), Iv x, Bv true]), (6, [Bv false, Uv 0, Uv 0, Uv 0, Uv 0, Iv 0, Bv false])] ?_)
    refine vc_reg rfl (iQ 2 (iB .add 3 (.int .i64 x) (.int .i64 1) (some 49) ?_))
    intro z49 hz49
    try replace hz49 := hz49.i64 (by omega)
    refine iQ 2 (iE 84 [(1, Ia c), (2, Ia m), (3, .p 3 0), (6, .p 6 0), (7, .d (Uv ((((h * B128 + l) % 10 : Nat) : Int)))), (25, Ba true)] [(3, [Bv neg, Hw ((h * B128 + l) / 10 / B128), Lw ((h * B128 + l) / 10 / B128), Hw ((h * B128 + l) / 10 % B128), Lw ((h * B128 + l) / 10 % B128), Iv z49, Bv true]), (6, [Bv false, Uv 0, Uv 0, Uv 0, Uv 0, Iv 0, Bv false])] ?_)
    refine block_n (seq_n (vc_reg rfl (iQ 1 (iB .sub 3 (.int .i64 c) (.int .i64 1) (some 27) ?_))))
    intro z27 hz27
    try replace hz27 := hz27.i64 (by omega)
    refine iQ 1 (iE 84 [(1, Ia z27), (2, Ia m), (3, .p 3 0), (6, .p 6 0), (7, .d (Uv ((((h * B128 + l) % 10 : Nat) : Int)))), (25, Ba true)] [(3, [Bv neg, Hw ((h * B128 + l) / 10 / B128), Lw ((h * B128 + l) / 10 / B128), Hw ((h * B128 + l) / 10 % B128), Lw ((h * B128 + l) / 10 % B128), Iv z49, Bv true]), (6, [Bv false, Uv 0, Uv 0, Uv 0, Uv 0, Iv 0, Bv false])] ?_)
    refine loop_n (k + 1, (h * B128 + l) / 10 / B128, (h * B128 + l) / 10 % B128, (h * B128 + l) % 10, z27, z49, true) (hinv.next (by omega) (by simp) hz27 hz49) (by show n.toNat - (k + 1) < n.toNat - k; omega) (by kernel_rfl) (by kernel_rfl)



open Go.RowKit
set_option linter.unusedVariables false
set_option linter.unusedSimpArgs false
set_option maxRecDepth 100000

def fitK (N : Nat) (e : Int) : Int := max (max 0 ((nd N : Int) - 34)) (min (-6176 - e) 100)
open Classical in
noncomputable def fit1N (m : Int) (neg : Bool) (N : Nat) (e : Int) (more : Bool) : Nat := if 0 < fitK N e ∨ more = true then cutQ m neg N more (fitK N e).toNat else N
open Classical in
noncomputable def fit1E (N : Nat) (e : Int) (more : Bool) : Int := if 0 < fitK N e ∨ more = true then e + (fitK N e).toNat else e
noncomputable def fit2N (m : Int) (neg : Bool) (n : Nat) : Nat := if E34 ≤ n then cutQ m neg n false 1 else n
def fit2E (n : Nat) (e : Int) : Int := if E34 ≤ n then e + 1 else e
def fitD (n : Nat) (e : Int) : Nat := min (e - 6111).toNat (34 - nd n)
def fitEnd (neg : Bool) (n : Nat) (e : Int) : DV :=
  if n = 0 then .tup [dDec false 0 (max (-6176) (min e 6111)), .v (.bool true)]
  else if 6111 < e - fitD n e then .tup [dDec false 0 0, .v (.bool false)]
  else .tup [dDec neg (n * 10 ^ fitD n e) (max (e - fitD n e) (-6176)), .v (.bool true)]

theorem cutQ_le {m : Int} {neg more : Bool} {N k : Nat} (h : N < 10 ^ (k + 34)) : cutQ m neg N more k ≤ E34 := by
  have h1 : N / 10 ^ k < E34 := Nat.div_lt_of_lt_mul (by rw [Nat.pow_add] at h; exact h)
  unfold cutQ
  cases upB m neg N more k <;> simp <;> omega
theorem fitK_lt (N : Nat) (e : Int) : N < 10 ^ ((fitK N e).toNat + 34) := by
  refine Nat.lt_of_lt_of_le (lt_nd N) (Nat.pow_le_pow_right (by decide) ?_)
  unfold fitK
  omega
theorem nd_up10 {n : Nat} (h : 0 < n) (j : Nat) : nd (n * 10 ^ j) = nd n + j := by
  induction j with
  | zero => simp
  | succ j ih =>
    have hp : 0 < n * 10 ^ j := Nat.mul_pos h (Nat.pow_pos (by decide))
    rw [Nat.pow_succ, ← Nat.mul_assoc, nd_pos (by omega), Nat.mul_div_cancel _ (by decide), ih]
    omega

theorem cutQ_le1 {m : Int} {neg more : Bool} {N k : Nat} : cutQ m neg N more k ≤ N / 10 ^ k + 1 := by
  unfold cutQ
  cases upB m neg N more k <;> simp
theorem div10_lt {n : Nat} (h : n ≤ E34) : n / 10 ^ (1 : Int).toNat + 1 < E34 := by
  have e : (10 : Nat) ^ (1 : Int).toNat = 10 := by decide
  rw [e]
  unfold E34 at *
  omega
theorem mul10_lt {n : Nat} (h : n < E34) : n * 10 < B128 := by
  unfold E34 at h
  unfold B128
  omega
theorem cw_Digits0 {n : Nat} (h : n < B128) : HasC Tryz.prog 72 [.agg [.v (.int .u64 0), .v (.int .u64 0)], dU n] (fun y => y = .v (.int .i64 (nd n))) := by
  rw [← dU_0']
  refine (cw_Digits (h := 0) (l := n) (by decide) h).mono fun y hy => ?_
  rw [hy, Nat.zero_mul, Nat.zero_add]
theorem fitK_small {N : Nat} {e : Int} (h : fitK N e ≤ 0) : N < E34 := by
  have h1 : nd N ≤ 34 := by
    unfold fitK at h
    omega
  exact Nat.lt_of_lt_of_le (lt_nd N) (Nat.pow_le_pow_right (by decide) h1)
theorem hi_none {N hi lo : Nat} (h : N = hi * B128 + lo) (hN : N < E34) : hi = 0 := by
  have := e34_lt
  rcases Nat.eq_zero_or_pos hi with h0 | h0
  · exact h0
  · have : 1 * B128 ≤ hi * B128 := Nat.mul_le_mul_right _ h0
    omega
theorem fit1_no (m : Int) (neg : Bool) {N : Nat} {e : Int} (h : fitK N e ≤ 0) : fit1N m neg N e false = N ∧ fit1E N e false = e := by
  have h' : ¬ (0 < fitK N e ∨ false = true) := by simp; omega
  unfold fit1N fit1E
  exact ⟨if_neg h', if_neg h'⟩
theorem fit1_yes (m : Int) (neg : Bool) {N : Nat} {e : Int} {more : Bool} (h : 0 < fitK N e ∨ more = true) : fit1N m neg N e more = cutQ m neg N more (fitK N e).toNat ∧ fit1E N e more = e + (fitK N e).toNat := by
  unfold fit1N fit1E
  exact ⟨if_pos h, if_pos h⟩

theorem c_CutS {m n e : Int} {neg more : Bool} {hi lo : Nat} {Q : Nat} (hhi : hi < B128) (hlo : lo < B128) (hn : n ≤ 2305843009213693952) (he0 : -2305843009213693952 ≤ e) (he1 : e ≤ 2305843009213693952) (hQ : Q = cutQ m neg (hi * B128 + lo) more n.toNat) (hb : Q ≤ E34) :
    HasC Tryz.prog 73 [dWide neg hi lo e more, .v (.int .i64 n), .v (.int .i64 m)] (fun y => y = dWide neg 0 Q (e + n.toNat) false) :=
  (c_Cut hhi hlo hn he0 he1).mono fun y hy => by
    have h1 : Q < B128 := Nat.lt_of_le_of_lt hb e34_lt
    rw [hy, ← hQ, Nat.div_eq_of_lt h1, Nat.mod_eq_of_lt h1]
    rfl

set_option maxHeartbeats 1600000 in
theorem c_Fit {m e : Int} {neg more : Bool} {hi lo : Nat} (hhi : hi < B128) (hlo : lo < B128) (he0 : -1000000000000000000 ≤ e) (he1 : e ≤ 1000000000000000000) : HasC Tryz.prog 36 [.agg [.v (.bool neg), .v (.int .u64 (hiW (hi))), .v (.int .u64 (loW (hi))), .v (.int .u64 (hiW (lo))), .v (.int .u64 (loW (lo))), .v (.int .i64 e), .v (.bool more)], .v (.int .i64 m)] (fun y => y = fitEnd neg (fit2N m neg (fit1N m neg (hi * B128 + lo) e more)) (fit2E (fit1N m neg (hi * B128 + lo) e more) (fit1E (hi * B128 + lo) e more))) := by
 refine HasC.of [] (fn := Tryz.f36) tyOk mixed (fun args w => Tryz.call36 args w) Tryz.func36 rfl (by kernel_rfl) (Nat.le_of_ble_eq_true rfl) (⟨_, rfl⟩) ?_
 obtain ⟨N, hN⟩ : ∃ N, N = hi * B128 + lo := ⟨_, rfl⟩
 have hnd : nd N ≤ 78 := by rw [hN]; exact nd_le _ _ (by unfold B128 at *; omega)
 rw [← hN]
 refine vc_seqr rfl (iQ 3 (iE 79 [(1, Ia m), (2, .p 2 0), (4, .p 4 0), (5, Ba false)] [(2, [Bv neg, Hw hi, Lw hi, Hw lo, Lw lo, Iv e, Bv more]), (4, [Bv false, Uv 0, Uv 0, Iv 0])] ?_))
 refine vc_seqr rfl (iQ 4 (iC 72 [.agg [Hw hi, Lw hi], .agg [Hw lo, Lw lo]] (some 11) (cw_Digits hhi hlo) ?_))
 rintro _ rfl
 refine iB .sub 3 (.int .i64 ((nd (hi * B128 + lo) : Int))) (.int .i64 34) (some 12) ?_
 intro z12 hz12
 try replace hz12 := hz12.i64 (by omega)
 replace hz12 : z12 = (nd N : Int) - 34 := by rw [← hN] at hz12; exact hz12.i64 (by omega)
 refine iL .max [3, 3] [.int .i64 0, .int .i64 z12] (some 13) ?_
 intro z13 hz13
 simp only at hz13
 refine iQ 1 (iE 79 [(1, Ia m), (2, .p 2 0), (4, .p 4 0), (5, Ba false), (6, Ia z13)] [(2, [Bv neg, Hw hi, Lw hi, Hw lo, Lw lo, Iv e, Bv more]), (4, [Bv false, Uv 0, Uv 0, Iv 0])] ?_)
 refine vc_seqr rfl (iQ 3 (iB .sub 3 (.int .i64 (-6176)) (.int .i64 e) (some 17) ?_))
 intro z17 hz17
 try replace hz17 := hz17.i64 (by omega)
 refine iL .min [3, 3] [.int .i64 z17, .int .i64 100] (some 18) ?_
 intro z18 hz18
 simp only at hz18
 refine iL .max [3, 3] [.int .i64 z13, .int .i64 z18] (some 19) ?_
 intro z19 hz19
 simp only at hz19
 have hK : z19 = fitK N e := by unfold fitK; omega
 refine iQ 1 (iE 79 [(1, Ia m), (2, .p 2 0), (4, .p 4 0), (5, Ba false), (6, Ia z19)] [(2, [Bv neg, Hw hi, Lw hi, Hw lo, Lw lo, Iv e, Bv more]), (4, [Bv false, Uv 0, Uv 0, Iv 0])] ?_)
 refine vc_mid 79 (fun (vcx : Nat × Int × Bool) => match vcx with | (N1, e1, vb25) => [(1, Ia m), (2, .p 2 0), (4, .p 4 0), (5, Ba false), (6, Ia z19), (25, Ba vb25)]) (fun (vcx : Nat × Int × Bool) => match vcx with | (N1, e1, vb25) => [(2, [Bv neg, Hw 0, Lw 0, Hw N1, Lw N1, Iv e1, Bv false]), (4, [Bv false, Uv 0, Uv 0, Iv 0])]) (fun (vcx : Nat × Int × Bool) => match vcx with | (N1, e1, vb25) => N1 = fit1N m neg N e more ∧ e1 = fit1E N e more ∧ N1 ≤ E34 ∧ -1000000000000000000 ≤ e1 ∧ e1 ≤ 1000000000000000100) ?_ ?_
 ·rintro ⟨N1, e1, vb25⟩ hinv
  simp only at hinv
  obtain ⟨i1, i2, i3, i4, i5⟩ := hinv
  rw [← i1, ← i2]
  have hN1 : N1 < B128 := Nat.lt_of_le_of_lt i3 e34_lt
  refine vc_mid 79 (fun (vcx : Nat × Int × Bool) => match vcx with | (N2, e2, vb34) => [(1, Ia m), (2, .p 2 0), (4, .p 4 0), (5, Ba false), (6, Ia z19), (25, Ba vb25), (34, Ba vb34)]) (fun (vcx : Nat × Int × Bool) => match vcx with | (N2, e2, vb34) => [(2, [Bv neg, Hw 0, Lw 0, Hw N2, Lw N2, Iv e2, Bv false]), (4, [Bv false, Uv 0, Uv 0, Iv 0])]) (fun (vcx : Nat × Int × Bool) => match vcx with | (N2, e2, vb34) => N2 = fit2N m neg N1 ∧ e2 = fit2E N1 e1 ∧ N2 < E34 ∧ -1000000000000000000 ≤ e2 ∧ e2 ≤ 1000000000000000101) ?_ ?_
  ·rintro ⟨N2, e2, vb34⟩ hinv
   simp only at hinv
   obtain ⟨j1, j2, j3, j4, j5⟩ := hinv
   rw [← j1, ← j2]
   have hN2 : N2 < B128 := Nat.lt_trans j3 e34_lt
   refine vc_seq (vc_seqr rfl (iQ 2 (iC 40 [.agg [Hw N2, Lw N2]] (some 40) (cw_Zero hN2) ?_)))
   rintro _ ⟨z, rfl, hz⟩
   refine iE 79 [(1, Ia m), (2, .p 2 0), (4, .p 4 0), (5, Ba false), (6, Ia z19), (25, Ba vb25), (34, Ba vb34), (40, Ba z)] [(2, [Bv neg, Hw 0, Lw 0, Hw N2, Lw N2, Iv e2, Bv false]), (4, [Bv false, Uv 0, Uv 0, Iv 0])] ?_
   cases z
   ·replace hz := bf hz
    refine iF (vc_skip (seq_n (vc_seq (vc_block (vc_loop 79 (fun (vcx : Nat × Nat × Int) => match vcx with | (j, n, x) => [(1, Ia m), (2, .p 2 0), (4, .p 4 0), (5, Ba false), (6, Ia z19), (25, Ba vb25), (34, Ba vb34), (40, Ba false)]) (fun (vcx : Nat × Nat × Int) => match vcx with | (j, n, x) => [(2, [Bv neg, Hw 0, Lw 0, Hw n, Lw n, Iv x, Bv false]), (4, [Bv false, Uv 0, Uv 0, Iv 0])]) (fun (vcx : Nat × Nat × Int) => match vcx with | (j, n, x) => j ≤ fitD N2 e2 ∧ n = N2 * 10 ^ j ∧ x = e2 - (j : Int)) (fun (vcx : Nat × Nat × Int) => match vcx with | (j, n, x) => fitD N2 e2 - j) ((0, N2, e2)) (⟨by omega, by simp, by simp⟩) (by kernel_rfl) (by kernel_rfl) ?_)))))
    rintro ⟨j, n, x⟩ hinv
    simp only at hinv
    obtain ⟨hj1, hj2, hj3⟩ := hinv
    have hnn : nd n = nd N2 + j := by rw [hj2]; exact nd_up10 (by omega) j
    have hnd34 : nd n ≤ 34 := by have h7 := nd_le _ _ (show N2 < 10 ^ 34 from j3); unfold fitD at hj1; omega
    have hnE : n < E34 := Nat.lt_of_lt_of_le (lt_nd n) (Nat.pow_le_pow_right (by decide) hnd34)
    have hnB : n < B128 := Nat.lt_trans hnE e34_lt
    refine vc_seq (vc_seqr rfl (iQ 2 (iB .gtr 3 (.int .i64 x) (.int .i64 6111) (some 48) ?_)))
    intro c48 hc48
    refine iQ 1 ?_
    cases c48
    ·replace hc48 := bf hc48
     refine iQ 6 (iE 79 [(1, Ia m), (2, .p 2 0), (4, .p 4 0), (5, Ba false), (6, Ia z19), (25, Ba vb25), (34, Ba vb34), (40, Ba false), (55, Ba false)] [(2, [Bv neg, Hw 0, Lw 0, Hw n, Lw n, Iv x, Bv false]), (4, [Bv false, Uv 0, Uv 0, Iv 0])] ?_)
     have hjd : j = fitD N2 e2 := by unfold fitD at hj1 ⊢; omega
     refine iF (vc_exit (seq_x (loop_x (block_x rfl (seq_n (vc_seq (vc_seqr rfl (iQ 2 (iB .gtr 3 (.int .i64 x) (.int .i64 6111) (some 69) ?_)))))))))
     intro c69 hc69
     refine iE 79 [(1, Ia m), (2, .p 2 0), (4, .p 4 0), (5, Ba false), (6, Ia z19), (25, Ba vb25), (34, Ba vb34), (40, Ba false), (55, Ba false), (69, Ba c69)] [(2, [Bv neg, Hw 0, Lw 0, Hw n, Lw n, Iv x, Bv false]), (4, [Bv false, Uv 0, Uv 0, Iv 0])] ?_
     cases c69
     ·replace hc69 := bf hc69
      refine iF (vc_skip (seq_n (vc_seqr rfl (iQ 6 (iL .max [3, 3] [.int .i64 x, .int .i64 (-6176)] (some 77) ?_)))))
      intro z77 hz77
      simp only at hz77
      refine iQ 3 (iE 79 [(1, Ia m), (2, .p 2 0), (4, .p 4 0), (5, Ba true), (6, Ia z19), (25, Ba vb25), (34, Ba vb34), (40, Ba false), (55, Ba false), (69, Ba false)] [(2, [Bv neg, Hw 0, Lw 0, Hw n, Lw n, Iv x, Bv false]), (4, [Bv neg, Hw n, Lw n, Iv z77])] ?_)
      refine vc_ret (iS (.agg [Bv neg, Hw n, Lw n, Iv z77]) (Bv true) [] ?_)
      unfold fitEnd
      rw [if_neg hz, ← hjd, if_neg (by omega), ← hj2, ← hj3, hz77]
      rfl
     ·replace hc69 := bt hc69
      refine iT (vc_seqr rfl (iQ 3 (iE 79 [(1, Ia m), (2, .p 2 0), (4, .p 4 0), (5, Ba false), (6, Ia z19), (25, Ba vb25), (34, Ba vb34), (40, Ba false), (55, Ba false), (69, Ba true)] [(2, [Bv neg, Hw 0, Lw 0, Hw n, Lw n, Iv x, Bv false]), (4, [Bv false, Uv 0, Uv 0, Iv 0])] ?_)))
      refine vc_ret (seq_r (iS (.agg [Bv false, Uv 0, Uv 0, Iv 0]) (Bv false) [] ?_))
      unfold fitEnd
      rw [if_neg hz, ← hjd, if_pos (by omega)]
      rfl
    ·replace hc48 := bt hc48
     refine iQ 3 (iC 72 [.agg [Uv 0, Uv 0], .agg [Hw n, Lw n]] (some 53) (cw_Digits0 hnB) ?_)
     rintro _ rfl
     refine iB .lss 3 (.int .i64 ((nd n : Int))) (.int .i64 34) (some 54) ?_
     intro c54 hc54
     refine iQ 1 (iE 79 [(1, Ia m), (2, .p 2 0), (4, .p 4 0), (5, Ba false), (6, Ia z19), (25, Ba vb25), (34, Ba vb34), (40, Ba false), (55, Ba c54)] [(2, [Bv neg, Hw 0, Lw 0, Hw n, Lw n, Iv x, Bv false]), (4, [Bv false, Uv 0, Uv 0, Iv 0])] ?_)
     cases c54
     ·replace hc54 := bf hc54
      have hjd : j = fitD N2 e2 := by unfold fitD at hj1 ⊢; omega
      refine iF (vc_exit (seq_x (loop_x (block_x rfl (seq_n (vc_seq (vc_seqr rfl (iQ 2 (iB .gtr 3 (.int .i64 x) (.int .i64 6111) (some 69) ?_)))))))))
      intro c69 hc69
      refine iE 79 [(1, Ia m), (2, .p 2 0), (4, .p 4 0), (5, Ba false), (6, Ia z19), (25, Ba vb25), (34, Ba vb34), (40, Ba false), (55, Ba false), (69, Ba c69)] [(2, [Bv neg, Hw 0, Lw 0, Hw n, Lw n, Iv x, Bv false]), (4, [Bv false, Uv 0, Uv 0, Iv 0])] ?_
      cases c69
      ·replace hc69 := bf hc69
       refine iF (vc_skip (seq_n (vc_seqr rfl (iQ 6 (iL .max [3, 3] [.int .i64 x, .int .i64 (-6176)] (some 77) ?_)))))
       intro z77 hz77
       simp only at hz77
       refine iQ 3 (iE 79 [(1, Ia m), (2, .p 2 0), (4, .p 4 0), (5, Ba true), (6, Ia z19), (25, Ba vb25), (34, Ba vb34), (40, Ba false), (55, Ba false), (69, Ba false)] [(2, [Bv neg, Hw 0, Lw 0, Hw n, Lw n, Iv x, Bv false]), (4, [Bv neg, Hw n, Lw n, Iv z77])] ?_)
       refine vc_ret (iS (.agg [Bv neg, Hw n, Lw n, Iv z77]) (Bv true) [] ?_)
       unfold fitEnd
       rw [if_neg hz, ← hjd, if_neg (by omega), ← hj2, ← hj3, hz77]
       rfl
      ·replace hc69 := bt hc69
       refine iT (vc_seqr rfl (iQ 3 (iE 79 [(1, Ia m), (2, .p 2 0), (4, .p 4 0), (5, Ba false), (6, Ia z19), (25, Ba vb25), (34, Ba vb34), (40, Ba false), (55, Ba false), (69, Ba true)] [(2, [Bv neg, Hw 0, Lw 0, Hw n, Lw n, Iv x, Bv false]), (4, [Bv false, Uv 0, Uv 0, Iv 0])] ?_)))
       refine vc_ret (seq_r (iS (.agg [Bv false, Uv 0, Uv 0, Iv 0]) (Bv false) [] ?_))
       unfold fitEnd
       rw [if_neg hz, ← hjd, if_pos (by omega)]
       rfl
     ·replace hc54 := bt hc54
      refine iT (vc_skip (seq_n (vc_block (vc_seqr rfl (iQ 2 (iC 76 [.agg [Hw n, Lw n], Uv 10] (some 59) (cw_MulWord (n := 10) hnB (by decide)) ?_))))))
      rintro _ rfl
      refine iQ 5 (iE 79 [(1, Ia m), (2, .p 2 0), (4, .p 4 0), (5, Ba false), (6, Ia z19), (25, Ba vb25), (34, Ba vb34), (40, Ba false), (55, Ba true)] [(2, [Bv neg, Hw 0, Lw 0, Hw (n * 10 % B128), Lw (n * 10 % B128), Iv x, Bv false]), (4, [Bv false, Uv 0, Uv 0, Iv 0])] ?_)
      refine vc_reg rfl (iQ 2 (iB .sub 3 (.int .i64 x) (.int .i64 1) (some 65) ?_))
      intro z65 hz65
      try replace hz65 := hz65.i64 (by omega)
      refine iQ 2 (iE 79 [(1, Ia m), (2, .p 2 0), (4, .p 4 0), (5, Ba false), (6, Ia z19), (25, Ba vb25), (34, Ba vb34), (40, Ba false), (55, Ba true)] [(2, [Bv neg, Hw 0, Lw 0, Hw (n * 10 % B128), Lw (n * 10 % B128), Iv z65, Bv false]), (4, [Bv false, Uv 0, Uv 0, Iv 0])] ?_)
      refine block_n ?_
      refine loop_n (j + 1, n * 10 % B128, z65) (⟨by unfold fitD at hj1 ⊢; omega, by rw [Nat.mod_eq_of_lt (mul10_lt hnE), hj2, Nat.pow_succ, Nat.mul_assoc], by omega⟩) (by show fitD N2 e2 - (j + 1) < fitD N2 e2 - j; unfold fitD; omega) (by kernel_rfl) (by kernel_rfl)
   ·replace hz := bt hz
    refine iT (vc_seqr rfl (iQ 2 (iL .min [3, 3] [.int .i64 e2, .int .i64 6111] (some 43) ?_)))
    intro z43 hz43
    simp only at hz43
    refine iL .max [3, 3] [.int .i64 (-6176), .int .i64 z43] (some 44) ?_
    intro z44 hz44
    simp only at hz44
    refine iQ 3 (iE 79 [(1, Ia m), (2, .p 2 0), (4, .p 4 0), (5, Ba true), (6, Ia z19), (25, Ba vb25), (34, Ba vb34), (40, Ba true)] [(2, [Bv neg, Hw 0, Lw 0, Hw N2, Lw N2, Iv e2, Bv false]), (4, [Bv false, Uv 0, Uv 0, Iv z44])] ?_)
    refine vc_ret (seq_r (iS (.agg [Bv false, Uv 0, Uv 0, Iv z44]) (Bv true) [] ?_))
    unfold fitEnd
    rw [if_pos hz, hz44, hz43]
    rfl
  intro hmid
  refine vc_seqr rfl (iQ 2 (iC 75 [] (some 32) (c_most) ?_))
  rintro _ rfl
  refine iC 74 [.agg [Hw N1, Lw N1], .agg [Hw E34, Lw E34]] (some 33) (cw_Cmp hN1 e34_lt) ?_
  rintro _ rfl
  refine iB .geq 3 (.int .i64 (cmpN N1 E34)) (.int .i64 0) (some 34) ?_
  intro c34 hc34
  refine iE 79 [(1, Ia m), (2, .p 2 0), (4, .p 4 0), (5, Ba false), (6, Ia z19), (25, Ba vb25), (34, Ba c34)] [(2, [Bv neg, Hw 0, Lw 0, Hw N1, Lw N1, Iv e1, Bv false]), (4, [Bv false, Uv 0, Uv 0, Iv 0])] ?_
  cases c34
  ·replace hc34 := bf hc34
   rw [cN_ge] at hc34
   refine iF (vc_skip ?_)
   refine mid_n hmid (N1, e1, false) (⟨by unfold fit2N; rw [if_neg (by omega)], by unfold fit2E; rw [if_neg (by omega)], by omega, by omega, by omega⟩) (by kernel_rfl)
  ·replace hc34 := bt hc34
   rw [cN_ge] at hc34
   have hq1 : cutQ m neg (0 * B128 + N1) false (1 : Int).toNat < E34 := Nat.lt_of_le_of_lt cutQ_le1 (by rw [Nat.zero_mul, Nat.zero_add]; exact div10_lt i3)
   refine iT (vc_reg rfl (iQ 2 (iC 73 [.agg [Bv neg, Hw 0, Lw 0, Hw N1, Lw N1, Iv e1, Bv false], Iv 1, Iv m] (some 37) (c_CutS (n := 1) (hi := 0) (by decide) hN1 (by omega) (by omega) (by omega) rfl (Nat.le_of_lt hq1)) ?_)))
   rintro _ rfl
   refine iQ 1 (iE 79 [(1, Ia m), (2, .p 2 0), (4, .p 4 0), (5, Ba false), (6, Ia z19), (25, Ba vb25), (34, Ba true)] [(2, [Bv neg, Hw 0, Lw 0, Hw (cutQ m neg (0 * B128 + N1) false (1 : Int).toNat), Lw (cutQ m neg (0 * B128 + N1) false (1 : Int).toNat), Iv (e1 + (1 : Int).toNat), Bv false]), (4, [Bv false, Uv 0, Uv 0, Iv 0])] ?_)
   refine mid_n hmid (cutQ m neg (0 * B128 + N1) false (1 : Int).toNat, e1 + (1 : Int).toNat, true) (⟨by unfold fit2N; rw [if_pos (by omega), Nat.zero_mul, Nat.zero_add]; rfl, by unfold fit2E; rw [if_pos (by omega)]; rfl, hq1, by simp; omega, by simp; omega⟩) (by kernel_rfl)
 intro hmid
 refine vc_seqr rfl (iQ 1 (iB .gtr 3 (.int .i64 z19) (.int .i64 0) (some 21) ?_))
 intro c21 hc21
 refine iQ 1 ?_
 cases c21
 ·replace hc21 := bf hc21
  refine iQ 3 (iE 79 [(1, Ia m), (2, .p 2 0), (4, .p 4 0), (5, Ba false), (6, Ia z19), (25, Ba more)] [(2, [Bv neg, Hw hi, Lw hi, Hw lo, Lw lo, Iv e, Bv more]), (4, [Bv false, Uv 0, Uv 0, Iv 0])] ?_)
  cases more
  ·skip
   have hN34 := fitK_small (N := N) (e := e) (by omega)
   have hhi0 := hi_none hN hN34
   refine iF (vc_skip ?_)
   subst hhi0
   refine mid_n hmid (lo, e, false) (⟨by rw [(fit1_no m neg (by omega)).1, hN]; simp, (fit1_no m neg (by omega)).2.symm, by omega, by omega, by omega⟩) (by kernel_rfl)
  ·skip
   refine iT (vc_reg rfl (iQ 3 (iC 73 [.agg [Bv neg, Hw hi, Lw hi, Hw lo, Lw lo, Iv e, Bv true], Iv z19, Iv m] (some 29) (c_CutS hhi hlo (by omega) (by omega) (by omega) rfl (by rw [← hN, hK]; exact cutQ_le (fitK_lt N e))) ?_)))
   rintro _ rfl
   refine iQ 1 (iE 79 [(1, Ia m), (2, .p 2 0), (4, .p 4 0), (5, Ba false), (6, Ia z19), (25, Ba true)] [(2, [Bv neg, Hw 0, Lw 0, Hw (cutQ m neg (hi * B128 + lo) true z19.toNat), Lw (cutQ m neg (hi * B128 + lo) true z19.toNat), Iv (e + z19.toNat), Bv false]), (4, [Bv false, Uv 0, Uv 0, Iv 0])] ?_)
   refine mid_n hmid (cutQ m neg (hi * B128 + lo) true z19.toNat, e + z19.toNat, true) (⟨by rw [(fit1_yes m neg (.inr rfl)).1, ← hN, hK], by rw [(fit1_yes m neg (.inr rfl)).2, hK], by rw [← hN, hK]; exact cutQ_le (fitK_lt N e), by omega, by omega⟩) (by kernel_rfl)
 ·replace hc21 := bt hc21
  refine iQ 3 (iE 79 [(1, Ia m), (2, .p 2 0), (4, .p 4 0), (5, Ba false), (6, Ia z19), (25, Ba true)] [(2, [Bv neg, Hw hi, Lw hi, Hw lo, Lw lo, Iv e, Bv more]), (4, [Bv false, Uv 0, Uv 0, Iv 0])] ?_)
  refine iT (vc_reg rfl (iQ 3 (iC 73 [.agg [Bv neg, Hw hi, Lw hi, Hw lo, Lw lo, Iv e, Bv more], Iv z19, Iv m] (some 29) (c_CutS hhi hlo (by omega) (by omega) (by omega) rfl (by rw [← hN, hK]; exact cutQ_le (fitK_lt N e))) ?_)))
  rintro _ rfl
  refine iQ 1 (iE 79 [(1, Ia m), (2, .p 2 0), (4, .p 4 0), (5, Ba false), (6, Ia z19), (25, Ba true)] [(2, [Bv neg, Hw 0, Lw 0, Hw (cutQ m neg (hi * B128 + lo) more z19.toNat), Lw (cutQ m neg (hi * B128 + lo) more z19.toNat), Iv (e + z19.toNat), Bv false]), (4, [Bv false, Uv 0, Uv 0, Iv 0])] ?_)
  refine mid_n hmid (cutQ m neg (hi * B128 + lo) more z19.toNat, e + z19.toNat, true) (⟨by rw [(fit1_yes m neg (.inl (by omega))).1, ← hN, hK], by rw [(fit1_yes m neg (.inl (by omega))).2, hK], by rw [← hN, hK]; exact cutQ_le (fitK_lt N e), by omega, by omega⟩) (by kernel_rfl)



open Go.RowKit
set_option linter.unusedVariables false
set_option linter.unusedSimpArgs false
set_option maxRecDepth 100000

def fitE (neg : Bool) (n : Nat) (e : Int) : Bool × Nat × Int × Bool :=
  if n = 0 then (false, 0, max (-6176) (min e 6111), true)
  else if 6111 < e - fitD n e then (false, 0, 0, false)
  else (neg, n * 10 ^ fitD n e, max (e - fitD n e) (-6176), true)
/-- Sign, coefficient, exponent of the number that is fitted, and whether there is one. -/
noncomputable def fitT (m : Int) (neg : Bool) (N : Nat) (e : Int) (more : Bool) : Bool × Nat × Int × Bool := fitE neg (fit2N m neg (fit1N m neg N e more)) (fit2E (fit1N m neg N e more) (fit1E N e more))
theorem fitEnd_eq (neg : Bool) (n : Nat) (e : Int) : ∃ g k x ok, fitEnd neg n e = .tup [dDec g k x, .v (.bool ok)] ∧ fitE neg n e = (g, k, x, ok) := by
  unfold fitEnd fitE
  split
  · exact ⟨_, _, _, _, rfl, rfl⟩
  · split
    · exact ⟨_, _, _, _, rfl, rfl⟩
    · exact ⟨_, _, _, _, rfl, rfl⟩
theorem c_FitT {m e : Int} {neg more : Bool} {hi lo N : Nat} (hN : N = hi * B128 + lo) (hhi : hi < B128) (hlo : lo < B128) (he0 : -1000000000000000000 ≤ e) (he1 : e ≤ 1000000000000000000) :
    HasC Tryz.prog 36 [dWide neg hi lo e more, .v (.int .i64 m)] (fun y => ∃ g k x ok, y = .tup [dDec g k x, .v (.bool ok)] ∧ fitT m neg N e more = (g, k, x, ok)) := by
  subst hN
  refine (c_Fit hhi hlo he0 he1).mono fun y hy => ?_
  obtain ⟨g, k, x, ok, h1, h2⟩ := fitEnd_eq neg (fit2N m neg (fit1N m neg (hi * B128 + lo) e more)) (fit2E (fit1N m neg (hi * B128 + lo) e more) (fit1E (hi * B128 + lo) e more))
  exact ⟨g, k, x, ok, hy.trans h1, h2⟩

theorem c_decMul {g1 g2 : Bool} {a b : Nat} {x1 x2 : Int} (ha : a < B128) (hb : b < B128) (h1 : -100000000000000000 ≤ x1) (h2 : x1 ≤ 100000000000000000) (h3 : -100000000000000000 ≤ x2) (h4 : x2 ≤ 100000000000000000) : HasC Tryz.prog 32 [.agg [.v (.bool g1), .v (.int .u64 (hiW (a))), .v (.int .u64 (loW (a))), .v (.int .i64 x1)], .agg [.v (.bool g2), .v (.int .u64 (hiW (b))), .v (.int .u64 (loW (b))), .v (.int .i64 x2)]] (fun y => ∃ g k x ok s, y = .tup [dDec g k x, .v (.bool ok)] ∧ (s = true ↔ g1 ≠ g2) ∧ fitT 1 s (a * b) (x1 + x2) false = (g, k, x, ok)) := by
 refine HasC.of [] (fn := Tryz.f32) tyOk mixed (fun args w => Tryz.call32 args w) Tryz.func32 rfl (by kernel_rfl) (Nat.le_of_ble_eq_true rfl) (⟨_, _, _, _, _, g1 != g2, rfl, by simp, rfl⟩) ?_
 refine vc_seqr rfl (iQ 4 (iE 32 [(2, .p 2 0), (3, .p 3 0), (4, .p 4 0), (5, Ba false)] [(2, [Bv g1, Hw a, Lw a, Iv x1]), (3, [Bv g2, Hw b, Lw b, Iv x2]), (4, [Bv false, Uv 0, Uv 0, Iv 0])] ?_))
 refine vc_seqr rfl (iQ 4 (iC 68 [.agg [Hw a, Lw a], .agg [Hw b, Lw b]] (some 13) (cw_Mul ha hb) ?_))
 rintro _ rfl
 refine iQ 7 (iE 32 [(2, .p 2 0), (3, .p 3 0), (4, .p 4 0), (5, Ba false), (6, .p 6 0), (7, .p 7 0)] [(2, [Bv g1, Hw a, Lw a, Iv x1]), (3, [Bv g2, Hw b, Lw b, Iv x2]), (4, [Bv false, Uv 0, Uv 0, Iv 0]), (6, [Hw (a * b / B128), Lw (a * b / B128)]), (7, [Hw (a * b % B128), Lw (a * b % B128)])] ?_)
 refine vc_seqr rfl (iQ 4 (iB .neq 4 (.bool g1) (.bool g2) (some 20) ?_))
 intro c20 hc20
 refine iQ 6 (iB .add 3 (.int .i64 x1) (.int .i64 x2) (some 27) ?_)
 intro z27 hz27
 try replace hz27 := hz27.i64 (by omega)
 refine iQ 1 (iC 36 [.agg [Bv c20, Hw (a * b / B128), Lw (a * b / B128), Hw (a * b % B128), Lw (a * b % B128), Iv z27, Bv false], Iv 1] (some 29) (c_FitT (m := 1) (N := a * b) (Nat.div_add_mod' (a * b) B128).symm (Nat.div_lt_of_lt_mul (Nat.mul_lt_mul'' ha hb)) (mod_lt128 _) (by omega) (by omega)) ?_)
 rintro _ ⟨g, k, x, ok, rfl, hT⟩
 refine iQ 4 (iE 32 [(2, .p 2 0), (3, .p 3 0), (4, .p 4 0), (5, Ba ok), (6, .p 6 0), (7, .p 7 0)] [(2, [Bv g1, Hw a, Lw a, Iv x1]), (3, [Bv g2, Hw b, Lw b, Iv x2]), (4, [Bv g, Hw k, Lw k, Iv x]), (6, [Hw (a * b / B128), Lw (a * b / B128)]), (7, [Hw (a * b % B128), Lw (a * b % B128)])] ?_)
 refine vc_ret (iS (.agg [Bv g, Hw k, Lw k, Iv x]) (Bv ok) [] ?_)
 exact ⟨_, _, _, _, _, rfl, hc20, hz27 ▸ hT⟩

theorem c_qdigits {g : Bool} {a : Nat} {x : Int} (ha : a < B128) : HasC Tryz.prog 37 [.agg [.v (.bool g), .v (.int .u64 (hiW (a))), .v (.int .u64 (loW (a))), .v (.int .i64 x)]] (fun y => y = .v (.int .i64 (nd a))) := by
 refine HasC.of [] (fn := Tryz.f37) tyOk mixed (fun args w => Tryz.call37 args w) Tryz.func37 rfl (by kernel_rfl) (Nat.le_of_ble_eq_true rfl) (⟨_, rfl⟩) ?_
 refine vc_seqr rfl (iQ 2 (iE 7 [(1, .p 1 0), (2, Ia 0)] [(1, [Bv g, Hw a, Lw a, Iv x])] ?_))
 refine vc_seqr rfl (iQ 3 (iC 72 [.agg [Uv 0, Uv 0], .agg [Hw a, Lw a]] (some 6) (cw_Digits0 ha) ?_))
 rintro _ rfl
 refine iQ 1 (iE 7 [(2, Ia ((nd a : Int)))] [] ?_)
 refine vc_ret (iR (Iv ((nd a : Int))) ?_)
 rfl



open Go.RowKit
set_option linter.unusedVariables false
set_option linter.unusedSimpArgs false
set_option maxRecDepth 100000

theorem c_Sign {g : Bool} {a : Nat} {x : Int} (ha : a < B128) : HasC Tryz.prog 46 [.agg [.v (.bool g), .v (.int .u64 (hiW (a))), .v (.int .u64 (loW (a))), .v (.int .i64 x)]] (fun y => y = .v (.int .i64 (if a = 0 then 0 else if g = true then -1 else 1))) := by
 refine HasC.of [] (fn := Tryz.f46) tyOk mixed (fun args w => Tryz.call46 args w) Tryz.func46 rfl (by kernel_rfl) (Nat.le_of_ble_eq_true rfl) (⟨_, rfl⟩) ?_
 refine vc_seqr rfl (iQ 2 (iE 10 [(1, .p 1 0), (2, Ia 0)] [(1, [Bv g, Hw a, Lw a, Iv x])] ?_))
 refine vc_seq (vc_block (vc_seqr rfl (iQ 2 (iC 40 [.agg [Hw a, Lw a]] (some 6) (cw_Zero ha) ?_))))
 rintro _ ⟨z, rfl, hz⟩
 refine iQ 1 (iE 10 [(1, .p 1 0), (2, Ia 0), (3, Ba z)] [(1, [Bv g, Hw a, Lw a, Iv x])] ?_)
 cases z
 ·replace hz := bf hz
  refine iF (vc_seqr rfl (iQ 3 (iE 10 [(1, .p 1 0), (2, Ia 0), (3, Ba false), (7, Ba g)] [(1, [Bv g, Hw a, Lw a, Iv x])] ?_)))
  cases g
  ·skip
   refine iF (vc_skip (block_n (seq_n (vc_seqr rfl (iQ 1 (iE 10 [(1, .p 1 0), (2, Ia 1), (3, Ba false), (7, Ba false)] [(1, [Bv false, Hw a, Lw a, Iv x])] ?_))))))
   refine vc_ret (iR (Iv 1) ?_)
   rw [if_neg hz, if_neg (by simp)]
  ·skip
   refine iT (vc_seqr rfl (iQ 1 (iE 10 [(1, .p 1 0), (2, Ia (-1)), (3, Ba false), (7, Ba true)] [(1, [Bv true, Hw a, Lw a, Iv x])] ?_)))
   refine vc_ret (block_r (seq_r (iR (Iv (-1)) ?_)))
   rw [if_neg hz, if_pos rfl]
 ·replace hz := bt hz
  refine iT (vc_seqr rfl (iQ 1 (iE 10 [(1, .p 1 0), (2, Ia 0), (3, Ba true)] [(1, [Bv g, Hw a, Lw a, Iv x])] ?_)))
  refine vc_ret (block_r (seq_r (iR (Iv 0) ?_)))
  rw [if_pos hz]

theorem raise_step {h l T : Nat} (hT : T = h * B128 + l) (hh : h < B128) (hl : l < B128) (hb : T * 10 < B128 * B128) :
    (h * 10 % B128 + l * 10 / B128) % B128 * B128 + l * 10 % B128 = T * 10 ∧ l * 10 / B128 < 18446744073709551616 := by
  have hp : 0 < B128 := by decide
  have h1 : l * 10 / B128 < 10 := Nat.div_lt_of_lt_mul (by omega)
  have e1 := Nat.div_add_mod' (l * 10) B128
  have e2 : (h * 10 + l * 10 / B128) * B128 ≤ T * 10 := by rw [Nat.add_mul, hT, Nat.mul_right_comm h 10 B128]; omega
  have h2 : h * 10 + l * 10 / B128 < B128 := Nat.lt_of_mul_lt_mul_right (a := B128) (Nat.lt_of_le_of_lt e2 hb)
  refine ⟨?_, by omega⟩
  rw [Nat.mod_eq_of_lt (Nat.lt_of_le_of_lt (Nat.le_add_right _ _) h2), Nat.mod_eq_of_lt h2, Nat.add_mul, hT, Nat.mul_right_comm h 10 B128]
  omega

set_option maxHeartbeats 1600000 in
theorem c_raised {a n : Nat} (ha : a < B128) (hn : n ≤ 1000) (hb : a * 10 ^ n < B128 * B128) : HasC Tryz.prog 38 [.agg [.v (.int .u64 (hiW (a))), .v (.int .u64 (loW (a)))], .v (.int .i64 ((n : Int)))] (fun y => y = .tup [dU (a * 10 ^ n / B128), dU (a * 10 ^ n % B128)]) := by
 refine HasC.of [10] (fn := Tryz.f38) tyOk mixed (fun args w => Tryz.call38 args w) Tryz.func38 rfl (by kernel_rfl) (Nat.le_of_ble_eq_true rfl) (⟨_, rfl⟩) ?_
 refine vc_seqr rfl (iQ 3 (iE 50 [(1, Ia ((n : Int))), (2, .p 2 0), (4, .p 4 0), (5, .p 5 0)] [(2, [Hw a, Lw a]), (4, [Uv 0, Uv 0]), (5, [Uv 0, Uv 0])] ?_))
 refine vc_seqr rfl (iQ 1 (iL .min [3, 3] [.int .i64 ((n : Int)), .int .i64 38] (some 14) ?_))
 intro z14 hz14
 simp only at hz14
 refine iC 77 [Iv z14] (some 15) (cw_Ten (k := z14) (by omega) (by omega)) ?_
 rintro _ rfl
 have ht : 10 ^ z14.toNat < B128 := Nat.lt_of_le_of_lt (Nat.pow_le_pow_right (by decide) (show z14.toNat ≤ 38 by omega)) (by decide)
 refine iQ 6 (iE 50 [(1, Ia ((n : Int))), (2, .p 2 0), (4, .p 4 0), (5, .p 5 0), (6, .p 6 0)] [(2, [Hw a, Lw a]), (4, [Uv 0, Uv 0]), (5, [Uv 0, Uv 0]), (6, [Hw (10 ^ z14.toNat), Lw (10 ^ z14.toNat)])] ?_)
 refine vc_seqr rfl (iQ 2 (iC 68 [.agg [Hw a, Lw a], .agg [Hw (10 ^ z14.toNat), Lw (10 ^ z14.toNat)]] (some 21) (cw_Mul ha ht) ?_))
 rintro _ rfl
 refine iQ 7 (iE 50 [(1, Ia ((n : Int))), (4, .p 4 0), (5, .p 5 0), (6, .p 6 0), (8, .p 8 0), (9, .p 9 0)] [(4, [Uv 0, Uv 0]), (5, [Uv 0, Uv 0]), (6, [Hw (10 ^ z14.toNat), Lw (10 ^ z14.toNat)]), (8, [Hw (a * 10 ^ z14.toNat / B128), Lw (a * 10 ^ z14.toNat / B128)]), (9, [Hw (a * 10 ^ z14.toNat % B128), Lw (a * 10 ^ z14.toNat % B128)])] ?_)
 refine vc_seq (vc_seqr rfl (iQ 1 (iB .sub 3 (.int .i64 ((n : Int))) (.int .i64 38) (some 25) ?_)))
 intro z25 hz25
 try replace hz25 := hz25.i64 (by omega)
 refine iQ 1 (iE 50 [(1, Ia z25), (4, .p 4 0), (5, .p 5 0), (6, .p 6 0), (8, .p 8 0), (9, .p 9 0)] [(4, [Uv 0, Uv 0]), (5, [Uv 0, Uv 0]), (6, [Hw (10 ^ z14.toNat), Lw (10 ^ z14.toNat)]), (8, [Hw (a * 10 ^ z14.toNat / B128), Lw (a * 10 ^ z14.toNat / B128)]), (9, [Hw (a * 10 ^ z14.toNat % B128), Lw (a * 10 ^ z14.toNat % B128)])] ?_)
 refine vc_block (vc_loop 50 (fun (vcx : Nat × Nat × Nat × Int) => match vcx with | (j, h, l, c) => [(1, Ia c), (4, .p 4 0), (5, .p 5 0), (6, .p 6 0), (8, .p 8 0), (9, .p 9 0)]) (fun (vcx : Nat × Nat × Nat × Int) => match vcx with | (j, h, l, c) => [(4, [Uv 0, Uv 0]), (5, [Uv 0, Uv 0]), (6, [Hw (10 ^ z14.toNat), Lw (10 ^ z14.toNat)]), (8, [Hw h, Lw h]), (9, [Hw l, Lw l])]) (fun (vcx : Nat × Nat × Nat × Int) => match vcx with | (j, h, l, c) => a * 10 ^ j = h * B128 + l ∧ h < B128 ∧ l < B128 ∧ (j : Int) + max 0 c = n) (fun (vcx : Nat × Nat × Nat × Int) => match vcx with | (j, h, l, c) => c.toNat) ((z14.toNat, a * 10 ^ z14.toNat / B128, a * 10 ^ z14.toNat % B128, z25)) (⟨(Nat.div_add_mod' _ _).symm, Nat.div_lt_of_lt_mul (Nat.mul_lt_mul'' ha ht), mod_lt128 _, by omega⟩) (by kernel_rfl) (by kernel_rfl) ?_)
 rintro ⟨j, h, l, c⟩ hinv
 simp only at hinv
 obtain ⟨i1, i2, i3, i4⟩ := hinv
 refine vc_seq (vc_seqr rfl (iQ 1 (iB .gtr 3 (.int .i64 c) (.int .i64 0) (some 27) ?_)))
 intro c27 hc27
 refine iE 50 [(1, Ia c), (4, .p 4 0), (5, .p 5 0), (6, .p 6 0), (8, .p 8 0), (9, .p 9 0), (27, Ba c27)] [(4, [Uv 0, Uv 0]), (5, [Uv 0, Uv 0]), (6, [Hw (10 ^ z14.toNat), Lw (10 ^ z14.toNat)]), (8, [Hw h, Lw h]), (9, [Hw l, Lw l])] ?_
 cases c27
 ·replace hc27 := bf hc27
  have hj : j = n := by omega
  have e1 : a * 10 ^ n / B128 = h ∧ a * 10 ^ n % B128 = l := by rw [← hj, i1]; exact b128_div i3
  refine iF (vc_exit (seq_x (loop_x (block_x rfl (seq_n (vc_seqrx rfl (by kernel_rfl) ?_))))))
  refine iQ 4 (iE 50 [(1, Ia c), (4, .p 4 0), (5, .p 5 0), (6, .p 6 0), (8, .p 8 0), (9, .p 9 0), (27, Ba false)] [(4, [Hw h, Lw h]), (5, [Hw l, Lw l]), (6, [Hw (10 ^ z14.toNat), Lw (10 ^ z14.toNat)]), (8, [Hw h, Lw h]), (9, [Hw l, Lw l])] ?_)
  refine vc_ret (iS (.agg [Hw h, Lw h]) (.agg [Hw l, Lw l]) [] ?_)
  rw [e1.1, e1.2]
  rfl
 ·replace hc27 := bt hc27
  have hjn : a * 10 ^ j * 10 < B128 * B128 := by rw [Nat.mul_assoc, ← Nat.pow_succ]; exact Nat.lt_of_le_of_lt (Nat.mul_le_mul_left _ (Nat.pow_le_pow_right (by decide) (by omega))) hb
  obtain ⟨r1, r2⟩ := raise_step i1 i2 i3 hjn
  refine iT (vc_skip (seq_n (vc_seq (vc_block (vc_seqr rfl (iQ 1 (iC 76 [.agg [Hw l, Lw l], Uv 10] (some 32) (cw_MulWord (n := 10) i3 (by decide)) ?_)))))))
  rintro _ rfl
  refine iQ 6 (iE 50 [(1, Ia c), (4, .p 4 0), (5, .p 5 0), (6, .p 6 0), (8, .p 8 0), (9, .p 9 0), (10, .d (Uv (((l * 10 / B128 : Nat) : Int)))), (11, .p 11 0), (27, Ba true)] [(4, [Uv 0, Uv 0]), (5, [Uv 0, Uv 0]), (6, [Hw (10 ^ z14.toNat), Lw (10 ^ z14.toNat)]), (8, [Hw h, Lw h]), (9, [Hw l, Lw l]), (11, [Hw (l * 10 % B128), Lw (l * 10 % B128)])] ?_)
  refine vc_seqr rfl (iQ 1 (iC 76 [.agg [Hw h, Lw h], Uv 10] (some 37) (cw_MulWord (n := 10) i2 (by decide)) ?_))
  rintro _ rfl
  refine iQ 4 (iE 50 [(1, Ia c), (4, .p 4 0), (5, .p 5 0), (6, .p 6 0), (8, .p 8 0), (9, .p 9 0), (10, .d (Uv (((l * 10 / B128 : Nat) : Int)))), (11, .p 11 0), (27, Ba true)] [(4, [Uv 0, Uv 0]), (5, [Uv 0, Uv 0]), (6, [Hw (10 ^ z14.toNat), Lw (10 ^ z14.toNat)]), (8, [Hw (h * 10 % B128), Lw (h * 10 % B128)]), (9, [Hw l, Lw l]), (11, [Hw (l * 10 % B128), Lw (l * 10 % B128)])] ?_)
  refine vc_seqr rfl (iQ 2 (iC 42 [Uv (((l * 10 / B128 : Nat) : Int))] (some 43) (cw_OfN r2) ?_))
  rintro _ rfl
  refine iC 78 [.agg [Hw (h * 10 % B128), Lw (h * 10 % B128)], .agg [Hw (l * 10 / B128), Lw (l * 10 / B128)]] (some 44) (cw_Add (mod_lt128 (h * 10)) (Nat.lt_trans r2 (by decide))) ?_
  rintro _ rfl
  refine iQ 4 (iE 50 [(1, Ia c), (4, .p 4 0), (5, .p 5 0), (6, .p 6 0), (8, .p 8 0), (9, .p 9 0), (10, .d (Uv (((l * 10 / B128 : Nat) : Int)))), (11, .p 11 0), (27, Ba true)] [(4, [Uv 0, Uv 0]), (5, [Uv 0, Uv 0]), (6, [Hw (10 ^ z14.toNat), Lw (10 ^ z14.toNat)]), (8, [Hw ((h * 10 % B128 + l * 10 / B128) % B128), Lw ((h * 10 % B128 + l * 10 / B128) % B128)]), (9, [Hw l, Lw l]), (11, [Hw (l * 10 % B128), Lw (l * 10 % B128)])] ?_)
  refine vc_reg rfl (iQ 2 (iE 50 [(1, Ia c), (4, .p 4 0), (5, .p 5 0), (6, .p 6 0), (8, .p 8 0), (9, .p 9 0), (10, .d (Uv (((l * 10 / B128 : Nat) : Int)))), (11, .p 11 0), (27, Ba true)] [(4, [Uv 0, Uv 0]), (5, [Uv 0, Uv 0]), (6, [Hw (10 ^ z14.toNat), Lw (10 ^ z14.toNat)]), (8, [Hw ((h * 10 % B128 + l * 10 / B128) % B128), Lw ((h * 10 % B128 + l * 10 / B128) % B128)]), (9, [Hw (l * 10 % B128), Lw (l * 10 % B128)]), (11, [Hw (l * 10 % B128), Lw (l * 10 % B128)])] ?_))
  refine block_n (seq_n (vc_reg rfl (iQ 1 (iB .sub 3 (.int .i64 c) (.int .i64 1) (some 29) ?_))))
  intro z29 hz29
  try replace hz29 := hz29.i64 (by omega)
  refine iQ 1 (iE 50 [(1, Ia z29), (4, .p 4 0), (5, .p 5 0), (6, .p 6 0), (8, .p 8 0), (9, .p 9 0), (10, .d (Uv (((l * 10 / B128 : Nat) : Int)))), (11, .p 11 0), (27, Ba true)] [(4, [Uv 0, Uv 0]), (5, [Uv 0, Uv 0]), (6, [Hw (10 ^ z14.toNat), Lw (10 ^ z14.toNat)]), (8, [Hw ((h * 10 % B128 + l * 10 / B128) % B128), Lw ((h * 10 % B128 + l * 10 / B128) % B128)]), (9, [Hw (l * 10 % B128), Lw (l * 10 % B128)]), (11, [Hw (l * 10 % B128), Lw (l * 10 % B128)])] ?_)
  refine loop_n (j + 1, (h * 10 % B128 + l * 10 / B128) % B128, l * 10 % B128, z29) (⟨by rw [r1, Nat.pow_succ, Nat.mul_assoc], mod_lt128 _, mod_lt128 _, by omega⟩) (by show z29.toNat < c.toNat; omega) (by kernel_rfl) (by kernel_rfl)

theorem wrap_u64 (e : Int) : IntKind.u64.wrap e = e % 18446744073709551616 := by
  unfold IntKind.wrap
  simp [IntKind.signed, IntKind.bits]

theorem cw_OfI {n : Nat} {z : Int} (hz : z = (n : Int)) (hn : n < 18446744073709551616) : HasC Tryz.prog 42 [.v (.int .u64 z)] (fun y => y = dU n) := by
  subst hz
  exact cw_OfN hn

theorem c_Int {x : Int} (h0 : -9223372036854775808 ≤ x) (h1 : x ≤ 9223372036854775807) : HasC Tryz.prog 16 [.v (.int .i64 x)] (fun y => y = dDec (decide (x < 0)) x.natAbs 0) := by
 refine HasC.of [] (fn := Tryz.f16) tyOk mixed (fun args w => Tryz.call16 args w) Tryz.func16 rfl (by kernel_rfl) (Nat.le_of_ble_eq_true rfl) (⟨_, rfl⟩) ?_
 refine vc_seqr rfl (iQ 1 (iE 15 [(0, Ia x), (2, .p 2 0)] [(2, [Bv false, Uv 0, Uv 0, Iv 0])] ?_))
 refine vc_seqr rfl (iQ 1 (iV 3 41 (.int .i64 x) (some 5) ?_))
 intro z5 hz5
 try replace hz5 := hz5.u64 (by omega)
 replace hz5 : z5 = x % 18446744073709551616 := by have h : z5 = IntKind.u64.wrap x := hz5; rw [h, wrap_u64]
 refine iQ 1 (iE 15 [(0, Ia x), (2, .p 2 0), (3, .d (Uv z5))] [(2, [Bv false, Uv 0, Uv 0, Iv 0])] ?_)
 refine vc_seq (vc_seqr rfl (iQ 1 (iB .lss 3 (.int .i64 x) (.int .i64 0) (some 7) ?_)))
 intro c7 hc7
 refine iE 15 [(0, Ia x), (2, .p 2 0), (3, .d (Uv z5)), (7, Ba c7)] [(2, [Bv false, Uv 0, Uv 0, Iv 0])] ?_
 cases c7
 ·replace hc7 := bf hc7
  have ez : z5 = (x.natAbs : Int) := by omega
  refine iF (vc_skip (seq_n (vc_seqr rfl (iQ 1 (iB .lss 3 (.int .i64 x) (.int .i64 0) (some 11) ?_)))))
  intro c11 hc11
  refine iQ 1 (iC 42 [Uv z5] (some 13) (cw_OfI ez (by omega)) ?_)
  rintro _ rfl
  refine iQ 2 (iE 15 [(0, Ia x), (2, .p 2 0), (3, .d (Uv z5)), (7, Ba false)] [(2, [Bv c11, Hw x.natAbs, Lw x.natAbs, Iv 0])] ?_)
  refine vc_ret (iR (.agg [Bv c11, Hw x.natAbs, Lw x.natAbs, Iv 0]) ?_)
  have e1 : c11 = decide (x < 0) := by rw [Bool.eq_iff_iff, hc11]; simp
  rw [← e1]; rfl
 ·replace hc7 := bt hc7
  refine iT (vc_reg rfl (iQ 1 (iU .neg (.int .u64 z5) (some 9) ?_)))
  intro z9 hz9
  try replace hz9 := hz9.u64 (by omega)
  have ez : z9 = (x.natAbs : Int) := by have h : z9 = IntKind.u64.wrap (0 - z5) := hz9; rw [wrap_u64] at h; omega
  refine iQ 1 (iE 15 [(0, Ia x), (2, .p 2 0), (3, .d (Uv z9)), (7, Ba true)] [(2, [Bv false, Uv 0, Uv 0, Iv 0])] ?_)
  refine seq_n (vc_seqr rfl (iQ 1 (iB .lss 3 (.int .i64 x) (.int .i64 0) (some 11) ?_)))
  intro c11 hc11
  refine iQ 1 (iC 42 [Uv z9] (some 13) (cw_OfI ez (by omega)) ?_)
  rintro _ rfl
  refine iQ 2 (iE 15 [(0, Ia x), (2, .p 2 0), (3, .d (Uv z9)), (7, Ba true)] [(2, [Bv c11, Hw x.natAbs, Lw x.natAbs, Iv 0])] ?_)
  refine vc_ret (iR (.agg [Bv c11, Hw x.natAbs, Lw x.natAbs, Iv 0]) ?_)
  have e1 : c11 = decide (x < 0) := by rw [Bool.eq_iff_iff, hc11]; simp
  rw [← e1]; rfl



open Go.RowKit
set_option linter.unusedVariables false
set_option linter.unusedSimpArgs false
set_option maxRecDepth 100000

/-- How many noughts more the number is given before it is divided. -/
def divN (a b : Nat) : Nat := 35 + nd b - nd a
/-- Without noughts at the end, at most k of them taken off: the number, how many were taken. -/
def strip : Nat → Nat → Nat × Nat
  | 0, q => (q, 0)
  | k + 1, q => if q % 10 = 0 then ((strip k (q / 10)).1, (strip k (q / 10)).2 + 1) else (q, 0)
theorem strip_step {k q : Nat} (h : q % 10 = 0) : strip (k + 1) q = ((strip k (q / 10)).1, (strip k (q / 10)).2 + 1) := by rw [strip, if_pos h]
theorem strip_stop {k q : Nat} (h : q % 10 ≠ 0) : strip (k + 1) q = (q, 0) := by rw [strip, if_neg h]
theorem strip_0 (q : Nat) : strip 0 q = (q, 0) := rfl
/-- The quotient that Div fits. -/
def divQ (a b : Nat) : Nat × Nat := if a * 10 ^ divN a b % b = 0 then strip (divN a b) (a * 10 ^ divN a b / b) else (a * 10 ^ divN a b / b, 0)
def divMore (a b : Nat) : Bool := decide (a * 10 ^ divN a b % b ≠ 0)

theorem div_room {a b : Nat} (ha : a < E34) (hb : b < E34) (h0 : 0 < b) : a * 10 ^ divN a b < 10 ^ 36 * b ∧ a * 10 ^ divN a b < B128 * B128 ∧ divN a b ≤ 1000 := by
  have h1 : nd a ≤ 34 := nd_le _ _ ha
  have h2 : nd b ≤ 34 := nd_le _ _ hb
  have h3 : a * 10 ^ divN a b < 10 ^ (35 + nd b) := by
    by_cases hz : a = 0
    · subst hz; simp; exact Nat.pow_pos (by decide)
    · have h4 := Nat.mul_lt_mul_of_pos_right (lt_nd a) (show 0 < 10 ^ divN a b from Nat.pow_pos (by decide))
      rw [← Nat.pow_add] at h4
      have h5 : nd a + divN a b = 35 + nd b := by unfold divN; omega
      rwa [h5] at h4
  have h6 : 10 ^ nd b ≤ 10 * b := by
    rw [nd_pos (show b ≠ 0 by omega), Nat.pow_succ, Nat.mul_comm]
    refine Nat.mul_le_mul_left _ ?_
    rcases Nat.lt_or_ge b (10 ^ nd (b / 10)) with h | h
    · exfalso
      have h7 := nd_le _ _ h
      rw [nd_pos (show b ≠ 0 by omega)] at h7
      omega
    · exact h
  refine ⟨?_, ?_, by unfold divN; omega⟩
  · refine Nat.lt_of_lt_of_le h3 ?_
    rw [Nat.pow_add]
    have := Nat.mul_le_mul_left (10 ^ 35) h6
    have e : (10 : Nat) ^ 36 = 10 ^ 35 * 10 := by decide
    rw [e, Nat.mul_assoc]
    exact this
  · exact Nat.lt_of_lt_of_le h3 (Nat.le_trans (Nat.pow_le_pow_right (by decide) (show 35 + nd b ≤ 69 by omega)) (by decide))

theorem dWide_0 (e : Int) : dWide false 0 0 e false = .agg [.v (.bool false), .v (.int .u64 0), .v (.int .u64 0), .v (.int .u64 0), .v (.int .u64 0), .v (.int .i64 e), .v (.bool false)] := by kernel_rfl
theorem dWide_1 (s : Bool) (n : Nat) (e : Int) (more : Bool) : dWide s 0 n e more = .agg [.v (.bool s), .v (.int .u64 0), .v (.int .u64 0), .v (.int .u64 (hiW n)), .v (.int .u64 (loW n)), .v (.int .i64 e), .v (.bool more)] := by kernel_rfl
theorem c_FitT0 {m e : Int} (he0 : -1000000000000000000 ≤ e) (he1 : e ≤ 1000000000000000000) :
    HasC Tryz.prog 36 [.agg [.v (.bool false), .v (.int .u64 0), .v (.int .u64 0), .v (.int .u64 0), .v (.int .u64 0), .v (.int .i64 e), .v (.bool false)], .v (.int .i64 m)] (fun y => ∃ g k x ok, y = .tup [dDec g k x, .v (.bool ok)] ∧ fitT m false 0 e false = (g, k, x, ok)) := by
  rw [← dWide_0]
  exact c_FitT (by decide) (by decide) (by decide) he0 he1
theorem c_FitT1 {m e : Int} {neg more : Bool} {N : Nat} (hN : N < B128) (he0 : -1000000000000000000 ≤ e) (he1 : e ≤ 1000000000000000000) :
    HasC Tryz.prog 36 [.agg [.v (.bool neg), .v (.int .u64 0), .v (.int .u64 0), .v (.int .u64 (hiW N)), .v (.int .u64 (loW N)), .v (.int .i64 e), .v (.bool more)], .v (.int .i64 m)] (fun y => ∃ g k x ok, y = .tup [dDec g k x, .v (.bool ok)] ∧ fitT m neg N e more = (g, k, x, ok)) := by
  rw [← dWide_1]
  exact c_FitT (by omega) (by decide) hN he0 he1
theorem c_raisedI {a n : Nat} {X : Int} (hX : X = (n : Int)) (ha : a < B128) (hn : n ≤ 1000) (hb : a * 10 ^ n < B128 * B128) : HasC Tryz.prog 38 [dU a, .v (.int .i64 X)] (fun y => y = .tup [dU (a * 10 ^ n / B128), dU (a * 10 ^ n % B128)]) := by
  subst hX
  exact c_raised ha hn hb
theorem cw_DivN {A d : Nat} (hd : d < B128) (hA : A < B128 * d) : HasC Tryz.prog 39 [dU (A / B128), dU (A % B128), dU d] (fun y => y = .tup [dU (A / d), dU (A % d), .v (.bool true)]) := by
  have h := Nat.div_lt_of_lt_mul hA
  have e := cw_Div_yes (h := A / B128) (l := A % B128) (Nat.lt_trans h hd) (mod_lt128 _) hd h
  rw [Nat.div_add_mod'] at e
  exact e
theorem cw_DivWord10 {l : Nat} (hl : l < B128) : HasC Tryz.prog 41 [.agg [.v (.int .u64 0), .v (.int .u64 0)], dU l, .v (.int .u64 10)] (fun y => y = .tup [dU 0, dU (l / 10), .v (.int .u64 ((l % 10 : Nat) : Int)), .v (.bool true)]) := by
  rw [← dU_0']
  have e := cw_DivWord (h := 0) (l := l) (n := 10) (by decide) hl (by decide) (by decide)
  rw [Nat.zero_mul, Nat.zero_add] at e
  have h1 : l / 10 < B128 := by omega
  rw [Nat.div_eq_of_lt h1, Nat.mod_eq_of_lt h1] at e
  exact e

/-- What Div answers, of a divisor that is not 0. -/
noncomputable def divT (s : Bool) (a b : Nat) (like : Int) : Bool × Nat × Int × Bool :=
  if a = 0 then fitT 1 false 0 like false else fitT 1 s (divQ a b).1 (like - (divN a b : Nat) + ((divQ a b).2 : Nat)) (divMore a b)
noncomputable def qDivT (s : Bool) (a b : Nat) (like : Int) : Bool × Nat × Int × Bool := if b = 0 then (false, 0, 0, false) else divT s a b like
def dFit (t : Bool × Nat × Int × Bool) : DV := .tup [dDec t.1 t.2.1 t.2.2.1, .v (.bool t.2.2.2)]
theorem bne_of {c g1 g2 : Bool} (h : c = true ↔ g1 ≠ g2) : (g1 != g2) = c := by
  cases c <;> cases g1 <;> cases g2 <;> simp_all

set_option maxHeartbeats 1600000 in
theorem c_qDiv {g1 g2 : Bool} {a b : Nat} {x1 x2 : Int} (ha : a < E34) (hb : b < E34) (h1 : -100000000000000000 ≤ x1) (h2 : x1 ≤ 100000000000000000) (h3 : -100000000000000000 ≤ x2) (h4 : x2 ≤ 100000000000000000) : HasC Tryz.prog 15 [.agg [.v (.bool g1), .v (.int .u64 (hiW (a))), .v (.int .u64 (loW (a))), .v (.int .i64 x1)], .agg [.v (.bool g2), .v (.int .u64 (hiW (b))), .v (.int .u64 (loW (b))), .v (.int .i64 x2)]] (fun y => y = dFit (qDivT (g1 != g2) a b (x1 - x2))) := by
 refine HasC.of [] (fn := Tryz.f15) tyOk mixed (fun args w => Tryz.call15 args w) Tryz.func15 rfl (by kernel_rfl) (Nat.le_of_ble_eq_true rfl) (⟨_, rfl⟩) ?_
 have haB := Nat.lt_trans ha e34_lt; have hbB := Nat.lt_trans hb e34_lt
 refine vc_seqr rfl (iQ 4 (iE 99 [(2, .p 2 0), (3, .p 3 0), (4, .p 4 0), (5, Ba false)] [(2, [Bv g1, Hw a, Lw a, Iv x1]), (3, [Bv g2, Hw b, Lw b, Iv x2]), (4, [Bv false, Uv 0, Uv 0, Iv 0])] ?_))
 refine vc_seq (vc_seqr rfl (iQ 1 (iC 33 [.agg [Bv g2, Hw b, Lw b, Iv x2]] (some 19) (c_Zero hbB) ?_)))
 rintro _ ⟨z, rfl, hz⟩
 refine iE 99 [(2, .p 2 0), (3, .p 3 0), (4, .p 4 0), (5, Ba false), (19, Ba z)] [(2, [Bv g1, Hw a, Lw a, Iv x1]), (3, [Bv g2, Hw b, Lw b, Iv x2]), (4, [Bv false, Uv 0, Uv 0, Iv 0])] ?_
 cases z
 ·replace hz := bf hz
  refine iF (vc_skip (seq_n (vc_seqr rfl (iQ 4 (iB .sub 3 (.int .i64 x1) (.int .i64 x2) (some 25) ?_)))))
  intro z25 hz25
  try replace hz25 := hz25.i64 (by omega)
  refine iQ 1 (iE 99 [(2, .p 2 0), (3, .p 3 0), (4, .p 4 0), (5, Ba false), (6, Ia z25), (19, Ba false)] [(2, [Bv g1, Hw a, Lw a, Iv x1]), (3, [Bv g2, Hw b, Lw b, Iv x2]), (4, [Bv false, Uv 0, Uv 0, Iv 0])] ?_)
  refine vc_seq (vc_seqr rfl (iQ 1 (iC 33 [.agg [Bv g1, Hw a, Lw a, Iv x1]] (some 27) (c_Zero haB) ?_)))
  rintro _ ⟨z', rfl, hz'⟩
  refine iE 99 [(2, .p 2 0), (3, .p 3 0), (4, .p 4 0), (5, Ba false), (6, Ia z25), (19, Ba false), (27, Ba z')] [(2, [Bv g1, Hw a, Lw a, Iv x1]), (3, [Bv g2, Hw b, Lw b, Iv x2]), (4, [Bv false, Uv 0, Uv 0, Iv 0])] ?_
  cases z'
  ·replace hz' := bf hz'
   obtain ⟨r1, r2, r3⟩ := div_room ha hb (Nat.pos_of_ne_zero hz)
   obtain ⟨n, hn⟩ : ∃ n, n = divN a b := ⟨_, rfl⟩
   rw [← hn] at r1 r2 r3
   have hnd := hn; unfold divN at hnd
   have hnda := nd_le 34 a ha; have hndb := nd_le 34 b hb
   refine iF (vc_skip (seq_n (vc_seqr rfl (iQ 1 (iC 37 [.agg [Bv g2, Hw b, Lw b, Iv x2]] (some 34) (c_qdigits hbB) ?_)))))
   rintro _ rfl
   refine iB .add 3 (.int .i64 35) (.int .i64 ((nd b : Int))) (some 35) ?_
   intro z35 hz35
   try replace hz35 := hz35.i64 (by omega)
   refine iQ 1 (iC 37 [.agg [Bv g1, Hw a, Lw a, Iv x1]] (some 37) (c_qdigits haB) ?_)
   rintro _ rfl
   refine iB .sub 3 (.int .i64 z35) (.int .i64 ((nd a : Int))) (some 38) ?_
   intro z38 hz38
   try replace hz38 := hz38.i64 (by omega)
   refine iL .max [3, 3] [.int .i64 0, .int .i64 z38] (some 39) ?_
   intro z39 hz39
   simp only at hz39
   refine iQ 1 (iE 99 [(2, .p 2 0), (3, .p 3 0), (4, .p 4 0), (5, Ba false), (6, Ia z25), (7, Ia z39), (19, Ba false), (27, Ba false)] [(2, [Bv g1, Hw a, Lw a, Iv x1]), (3, [Bv g2, Hw b, Lw b, Iv x2]), (4, [Bv false, Uv 0, Uv 0, Iv 0])] ?_)
   refine vc_seqr rfl (iQ 3 (iC 38 [.agg [Hw a, Lw a], Iv z39] (some 44) (c_raisedI (n := n) (by omega) haB r3 r2) ?_))
   rintro _ rfl
   have hAb : a * 10 ^ n < B128 * b := Nat.lt_of_lt_of_le r1 (Nat.mul_le_mul_right _ (by decide))
   refine iQ 7 (iE 99 [(2, .p 2 0), (3, .p 3 0), (4, .p 4 0), (5, Ba false), (6, Ia z25), (7, Ia z39), (8, .p 8 0), (9, .p 9 0), (19, Ba false), (27, Ba false)] [(2, [Bv g1, Hw a, Lw a, Iv x1]), (3, [Bv g2, Hw b, Lw b, Iv x2]), (4, [Bv false, Uv 0, Uv 0, Iv 0]), (8, [Hw (a * 10 ^ n / B128), Lw (a * 10 ^ n / B128)]), (9, [Hw (a * 10 ^ n % B128), Lw (a * 10 ^ n % B128)])] ?_)
   refine vc_seqr rfl (iQ 4 (iC 39 [.agg [Hw (a * 10 ^ n / B128), Lw (a * 10 ^ n / B128)], .agg [Hw (a * 10 ^ n % B128), Lw (a * 10 ^ n % B128)], .agg [Hw b, Lw b]] (some 52) (cw_DivN hbB hAb) ?_))
   rintro _ rfl
   have hqB : a * 10 ^ n / b < B128 := Nat.div_lt_of_lt_mul (by rw [Nat.mul_comm b]; exact hAb)
   have hrB : a * 10 ^ n % b < B128 := Nat.lt_trans (Nat.mod_lt _ (Nat.pos_of_ne_zero hz)) hbB
   refine iQ 9 (iE 99 [(2, .p 2 0), (3, .p 3 0), (4, .p 4 0), (5, Ba false), (6, Ia z25), (7, Ia z39), (8, .p 8 0), (9, .p 9 0), (10, .p 10 0), (11, .p 11 0), (19, Ba false), (27, Ba false)] [(2, [Bv g1, Hw a, Lw a, Iv x1]), (3, [Bv g2, Hw b, Lw b, Iv x2]), (4, [Bv false, Uv 0, Uv 0, Iv 0]), (8, [Hw (a * 10 ^ n / B128), Lw (a * 10 ^ n / B128)]), (9, [Hw (a * 10 ^ n % B128), Lw (a * 10 ^ n % B128)]), (10, [Hw (a * 10 ^ n / b), Lw (a * 10 ^ n / b)]), (11, [Hw (a * 10 ^ n % b), Lw (a * 10 ^ n % b)])] ?_)
   refine vc_seqr rfl (iQ 4 (iB .neq 4 (.bool g1) (.bool g2) (some 60) ?_))
   intro c60 hc60
   refine iQ 3 (iB .sub 3 (.int .i64 z25) (.int .i64 z39) (some 64) ?_)
   intro z64 hz64
   try replace hz64 := hz64.i64 (by omega)
   refine iQ 1 (iC 40 [.agg [Hw (a * 10 ^ n % b), Lw (a * 10 ^ n % b)]] (some 66) (cw_Zero hrB) ?_)
   rintro _ ⟨zr, rfl, hzr⟩
   refine iU .not (.bool zr) (some 67) ?_
   intro c67 hc67
   refine iQ 3 (iE 99 [(2, .p 2 0), (3, .p 3 0), (4, .p 4 0), (5, Ba false), (6, Ia z25), (7, Ia z39), (8, .p 8 0), (9, .p 9 0), (10, .p 10 0), (11, .p 11 0), (13, .p 13 0), (19, Ba false), (27, Ba false)] [(2, [Bv g1, Hw a, Lw a, Iv x1]), (3, [Bv g2, Hw b, Lw b, Iv x2]), (4, [Bv false, Uv 0, Uv 0, Iv 0]), (8, [Hw (a * 10 ^ n / B128), Lw (a * 10 ^ n / B128)]), (9, [Hw (a * 10 ^ n % B128), Lw (a * 10 ^ n % B128)]), (10, [Hw (a * 10 ^ n / b), Lw (a * 10 ^ n / b)]), (11, [Hw (a * 10 ^ n % b), Lw (a * 10 ^ n % b)]), (13, [Bv c60, Uv 0, Uv 0, Hw (a * 10 ^ n / b), Lw (a * 10 ^ n / b), Iv z64, Bv c67])] ?_)
   refine vc_seq (vc_block (vc_loop 99 (fun (vcx : Nat × Nat × Int) => match vcx with | (j, p, x) => [(2, .p 2 0), (3, .p 3 0), (4, .p 4 0), (5, Ba false), (6, Ia z25), (7, Ia z39), (8, .p 8 0), (9, .p 9 0), (10, .p 10 0), (11, .p 11 0), (13, .p 13 0), (19, Ba false), (27, Ba false)]) (fun (vcx : Nat × Nat × Int) => match vcx with | (j, p, x) => [(2, [Bv g1, Hw a, Lw a, Iv x1]), (3, [Bv g2, Hw b, Lw b, Iv x2]), (4, [Bv false, Uv 0, Uv 0, Iv 0]), (8, [Hw (a * 10 ^ n / B128), Lw (a * 10 ^ n / B128)]), (9, [Hw (a * 10 ^ n % B128), Lw (a * 10 ^ n % B128)]), (10, [Hw (a * 10 ^ n / b), Lw (a * 10 ^ n / b)]), (11, [Hw (a * 10 ^ n % b), Lw (a * 10 ^ n % b)]), (13, [Bv c60, Uv 0, Uv 0, Hw p, Lw p, Iv x, Bv c67])]) (fun (vcx : Nat × Nat × Int) => match vcx with | (j, p, x) => j ≤ n ∧ x = x1 - x2 - (n : Int) + (j : Int) ∧ p < B128 ∧ strip n (a * 10 ^ n / b) = ((strip (n - j) p).1, (strip (n - j) p).2 + j) ∧ (c67 = true → j = 0 ∧ p = a * 10 ^ n / b)) (fun (vcx : Nat × Nat × Int) => match vcx with | (j, p, x) => n - j) ((0, a * 10 ^ n / b, z64)) (⟨by omega, by omega, hqB, by simp, fun _ => ⟨rfl, rfl⟩⟩) (by kernel_rfl) (by kernel_rfl) ?_))
   rintro ⟨j, p, x⟩ hinv
   simp only at hinv
   obtain ⟨hj, hjx, hp, hs, hm0⟩ := hinv
   refine vc_seq (vc_seqr rfl (iQ 2 (iU .not (.bool c67) (some 71) ?_)))
   intro c71 hc71
   refine iQ 1 ?_
   cases c71
   ·replace hc71 := bf hc71
    refine iQ 5 (iE 99 [(2, .p 2 0), (3, .p 3 0), (4, .p 4 0), (5, Ba false), (6, Ia z25), (7, Ia z39), (8, .p 8 0), (9, .p 9 0), (10, .p 10 0), (11, .p 11 0), (13, .p 13 0), (19, Ba false), (27, Ba false), (77, Ba false)] [(2, [Bv g1, Hw a, Lw a, Iv x1]), (3, [Bv g2, Hw b, Lw b, Iv x2]), (4, [Bv false, Uv 0, Uv 0, Iv 0]), (8, [Hw (a * 10 ^ n / B128), Lw (a * 10 ^ n / B128)]), (9, [Hw (a * 10 ^ n % B128), Lw (a * 10 ^ n % B128)]), (10, [Hw (a * 10 ^ n / b), Lw (a * 10 ^ n / b)]), (11, [Hw (a * 10 ^ n % b), Lw (a * 10 ^ n % b)]), (13, [Bv c60, Uv 0, Uv 0, Hw p, Lw p, Iv x, Bv c67])] ?_)
    have hc : c67 = true := by simpa using hc71
    obtain ⟨hj0, hpq⟩ := hm0 hc
    have hr0 : a * 10 ^ n % b ≠ 0 := fun h => by rw [hzr.2 h] at hc67; simp [hc] at hc67
    have hq : divQ a b = (p, j) := by rw [divQ, ← hn, if_neg hr0, hj0, hpq]
    have hm : divMore a b = c67 := by rw [divMore, ← hn, hc]; simpa using hr0
    refine iF (vc_exit (seq_x (loop_x (block_x rfl (seq_n (vc_seqr rfl (iQ 1 (iC 36 [.agg [Bv c60, Uv 0, Uv 0, Hw p, Lw p, Iv x, Bv c67], Iv 1] (some 96) (c_FitT1 (m := 1) (N := p) hp (by omega) (by omega)) ?_))))))))
    rintro _ ⟨g, k, x', ok, rfl, hT⟩
    refine iQ 4 (iE 99 [(2, .p 2 0), (3, .p 3 0), (4, .p 4 0), (5, Ba ok), (6, Ia z25), (7, Ia z39), (8, .p 8 0), (9, .p 9 0), (10, .p 10 0), (11, .p 11 0), (13, .p 13 0), (19, Ba false), (27, Ba false), (77, Ba false)] [(2, [Bv g1, Hw a, Lw a, Iv x1]), (3, [Bv g2, Hw b, Lw b, Iv x2]), (4, [Bv g, Hw k, Lw k, Iv x']), (8, [Hw (a * 10 ^ n / B128), Lw (a * 10 ^ n / B128)]), (9, [Hw (a * 10 ^ n % B128), Lw (a * 10 ^ n % B128)]), (10, [Hw (a * 10 ^ n / b), Lw (a * 10 ^ n / b)]), (11, [Hw (a * 10 ^ n % b), Lw (a * 10 ^ n % b)]), (13, [Bv c60, Uv 0, Uv 0, Hw p, Lw p, Iv x, Bv c67])] ?_)
    refine vc_ret (iS (.agg [Bv g, Hw k, Lw k, Iv x']) (Bv ok) [] ?_)
    rw [qDivT, if_neg hz, divT, if_neg hz', ← hn, hq, hm, bne_of hc60, ← hjx, hT]
    rfl
   ·replace hc71 := bt hc71
    refine iQ 3 (iB .lss 3 (.int .i64 x) (.int .i64 z25) (some 76) ?_)
    have hc : c67 = false := by simpa using hc71
    have hr0 : a * 10 ^ n % b = 0 := hzr.1 (by rw [hc] at hc67; simpa using hc67)
    have hm : divMore a b = c67 := by rw [divMore, ← hn, hc]; simpa using hr0
    intro c76 hc76
    refine iQ 1 (iE 99 [(2, .p 2 0), (3, .p 3 0), (4, .p 4 0), (5, Ba false), (6, Ia z25), (7, Ia z39), (8, .p 8 0), (9, .p 9 0), (10, .p 10 0), (11, .p 11 0), (13, .p 13 0), (19, Ba false), (27, Ba false), (77, Ba c76)] [(2, [Bv g1, Hw a, Lw a, Iv x1]), (3, [Bv g2, Hw b, Lw b, Iv x2]), (4, [Bv false, Uv 0, Uv 0, Iv 0]), (8, [Hw (a * 10 ^ n / B128), Lw (a * 10 ^ n / B128)]), (9, [Hw (a * 10 ^ n % B128), Lw (a * 10 ^ n % B128)]), (10, [Hw (a * 10 ^ n / b), Lw (a * 10 ^ n / b)]), (11, [Hw (a * 10 ^ n % b), Lw (a * 10 ^ n % b)]), (13, [Bv c60, Uv 0, Uv 0, Hw p, Lw p, Iv x, Bv c67])] ?_)
    cases c76
    ·replace hc76 := bf hc76
     have hq : divQ a b = (p, j) := by rw [divQ, ← hn, if_pos hr0, hs, show n - j = 0 by omega]; simp [strip_0]
     refine iF (vc_exit (seq_x (loop_x (block_x rfl (seq_n (vc_seqr rfl (iQ 1 (iC 36 [.agg [Bv c60, Uv 0, Uv 0, Hw p, Lw p, Iv x, Bv c67], Iv 1] (some 96) (c_FitT1 (m := 1) (N := p) hp (by omega) (by omega)) ?_))))))))
     rintro _ ⟨g, k, x', ok, rfl, hT⟩
     refine iQ 4 (iE 99 [(2, .p 2 0), (3, .p 3 0), (4, .p 4 0), (5, Ba ok), (6, Ia z25), (7, Ia z39), (8, .p 8 0), (9, .p 9 0), (10, .p 10 0), (11, .p 11 0), (13, .p 13 0), (19, Ba false), (27, Ba false), (77, Ba false)] [(2, [Bv g1, Hw a, Lw a, Iv x1]), (3, [Bv g2, Hw b, Lw b, Iv x2]), (4, [Bv g, Hw k, Lw k, Iv x']), (8, [Hw (a * 10 ^ n / B128), Lw (a * 10 ^ n / B128)]), (9, [Hw (a * 10 ^ n % B128), Lw (a * 10 ^ n % B128)]), (10, [Hw (a * 10 ^ n / b), Lw (a * 10 ^ n / b)]), (11, [Hw (a * 10 ^ n % b), Lw (a * 10 ^ n % b)]), (13, [Bv c60, Uv 0, Uv 0, Hw p, Lw p, Iv x, Bv c67])] ?_)
     refine vc_ret (iS (.agg [Bv g, Hw k, Lw k, Iv x']) (Bv ok) [] ?_)
     rw [qDivT, if_neg hz, divT, if_neg hz', ← hn, hq, hm, bne_of hc60, ← hjx, hT]
     rfl
    ·replace hc76 := bt hc76
     refine iT (vc_skip (seq_n (vc_block (vc_seqr rfl (iQ 3 (iC 41 [.agg [Uv 0, Uv 0], .agg [Hw p, Lw p], Uv 10] (some 82) (cw_DivWord10 hp) ?_))))))
     rintro _ rfl
     refine iQ 11 (iE 99 [(2, .p 2 0), (3, .p 3 0), (4, .p 4 0), (5, Ba false), (6, Ia z25), (7, Ia z39), (8, .p 8 0), (9, .p 9 0), (10, .p 10 0), (11, .p 11 0), (13, .p 13 0), (15, .p 15 0), (16, .d (Uv (((p % 10 : Nat) : Int)))), (19, Ba false), (27, Ba false), (77, Ba true)] [(2, [Bv g1, Hw a, Lw a, Iv x1]), (3, [Bv g2, Hw b, Lw b, Iv x2]), (4, [Bv false, Uv 0, Uv 0, Iv 0]), (8, [Hw (a * 10 ^ n / B128), Lw (a * 10 ^ n / B128)]), (9, [Hw (a * 10 ^ n % B128), Lw (a * 10 ^ n % B128)]), (10, [Hw (a * 10 ^ n / b), Lw (a * 10 ^ n / b)]), (11, [Hw (a * 10 ^ n % b), Lw (a * 10 ^ n % b)]), (13, [Bv c60, Uv 0, Uv 0, Hw p, Lw p, Iv x, Bv c67]), (15, [Hw (p / 10), Lw (p / 10)])] ?_)
     refine vc_seq (vc_seqr rfl (iQ 1 (iB .neq 41 (.int .u64 (((p % 10 : Nat) : Int))) (.int .u64 0) (some 88) ?_)))
     intro c88 hc88
     refine iE 99 [(2, .p 2 0), (3, .p 3 0), (4, .p 4 0), (5, Ba false), (6, Ia z25), (7, Ia z39), (8, .p 8 0), (9, .p 9 0), (10, .p 10 0), (11, .p 11 0), (13, .p 13 0), (15, .p 15 0), (16, .d (Uv (((p % 10 : Nat) : Int)))), (19, Ba false), (27, Ba false), (77, Ba true), (88, Ba c88)] [(2, [Bv g1, Hw a, Lw a, Iv x1]), (3, [Bv g2, Hw b, Lw b, Iv x2]), (4, [Bv false, Uv 0, Uv 0, Iv 0]), (8, [Hw (a * 10 ^ n / B128), Lw (a * 10 ^ n / B128)]), (9, [Hw (a * 10 ^ n % B128), Lw (a * 10 ^ n % B128)]), (10, [Hw (a * 10 ^ n / b), Lw (a * 10 ^ n / b)]), (11, [Hw (a * 10 ^ n % b), Lw (a * 10 ^ n % b)]), (13, [Bv c60, Uv 0, Uv 0, Hw p, Lw p, Iv x, Bv c67]), (15, [Hw (p / 10), Lw (p / 10)])] ?_
     cases c88
     ·replace hc88 := bf hc88
      have hp10 : p % 10 = 0 := by omega
      refine iF (vc_skip (seq_n (vc_reg rfl (iQ 3 (iB .add 3 (.int .i64 x) (.int .i64 1) (some 92) ?_)))))
      intro z92 hz92
      try replace hz92 := hz92.i64 (by omega)
      refine iQ 4 (iE 99 [(2, .p 2 0), (3, .p 3 0), (4, .p 4 0), (5, Ba false), (6, Ia z25), (7, Ia z39), (8, .p 8 0), (9, .p 9 0), (10, .p 10 0), (11, .p 11 0), (13, .p 13 0), (15, .p 15 0), (16, .d (Uv (((p % 10 : Nat) : Int)))), (19, Ba false), (27, Ba false), (77, Ba true), (88, Ba false)] [(2, [Bv g1, Hw a, Lw a, Iv x1]), (3, [Bv g2, Hw b, Lw b, Iv x2]), (4, [Bv false, Uv 0, Uv 0, Iv 0]), (8, [Hw (a * 10 ^ n / B128), Lw (a * 10 ^ n / B128)]), (9, [Hw (a * 10 ^ n % B128), Lw (a * 10 ^ n % B128)]), (10, [Hw (a * 10 ^ n / b), Lw (a * 10 ^ n / b)]), (11, [Hw (a * 10 ^ n % b), Lw (a * 10 ^ n % b)]), (13, [Bv c60, Uv 0, Uv 0, Hw (p / 10), Lw (p / 10), Iv z92, Bv c67]), (15, [Hw (p / 10), Lw (p / 10)])] ?_)
      refine block_n ?_
      refine loop_n (j + 1, p / 10, z92) (⟨by omega, by omega, by omega, by rw [hs, show n - j = (n - (j + 1)) + 1 by omega, strip_step hp10]; exact Prod.ext rfl (by simp; omega), fun h => by rw [hc] at h; cases h⟩) (by show n - (j + 1) < n - j; omega) (by kernel_rfl) (by kernel_rfl)
     ·replace hc88 := bt hc88
      have hp10 : p % 10 ≠ 0 := by omega
      have hq : divQ a b = (p, j) := by rw [divQ, ← hn, if_pos hr0, hs, show n - j = (n - (j + 1)) + 1 by omega, strip_stop hp10]; simp
      refine iT (vc_exit (seq_x (block_e rfl (loop_x (block_x rfl (seq_n (vc_seqr rfl (iQ 1 (iC 36 [.agg [Bv c60, Uv 0, Uv 0, Hw p, Lw p, Iv x, Bv c67], Iv 1] (some 96) (c_FitT1 (m := 1) (N := p) hp (by omega) (by omega)) ?_)))))))))
      rintro _ ⟨g, k, x', ok, rfl, hT⟩
      refine iQ 4 (iE 99 [(2, .p 2 0), (3, .p 3 0), (4, .p 4 0), (5, Ba ok), (6, Ia z25), (7, Ia z39), (8, .p 8 0), (9, .p 9 0), (10, .p 10 0), (11, .p 11 0), (13, .p 13 0), (15, .p 15 0), (16, .d (Uv (((p % 10 : Nat) : Int)))), (19, Ba false), (27, Ba false), (77, Ba true), (88, Ba true)] [(2, [Bv g1, Hw a, Lw a, Iv x1]), (3, [Bv g2, Hw b, Lw b, Iv x2]), (4, [Bv g, Hw k, Lw k, Iv x']), (8, [Hw (a * 10 ^ n / B128), Lw (a * 10 ^ n / B128)]), (9, [Hw (a * 10 ^ n % B128), Lw (a * 10 ^ n % B128)]), (10, [Hw (a * 10 ^ n / b), Lw (a * 10 ^ n / b)]), (11, [Hw (a * 10 ^ n % b), Lw (a * 10 ^ n % b)]), (13, [Bv c60, Uv 0, Uv 0, Hw p, Lw p, Iv x, Bv c67]), (15, [Hw (p / 10), Lw (p / 10)])] ?_)
      refine vc_ret (iS (.agg [Bv g, Hw k, Lw k, Iv x']) (Bv ok) [] ?_)
      rw [qDivT, if_neg hz, divT, if_neg hz', ← hn, hq, hm, bne_of hc60, ← hjx, hT]
      rfl
  ·replace hz' := bt hz'
   refine iT (vc_seqr rfl (iQ 2 (iC 36 [.agg [Bv false, Uv 0, Uv 0, Uv 0, Uv 0, Iv z25, Bv false], Iv 1] (some 30) (c_FitT0 (m := 1) (by omega) (by omega)) ?_)))
   rintro _ ⟨g, k, x, ok, rfl, hT⟩
   refine iQ 4 (iE 99 [(2, .p 2 0), (3, .p 3 0), (4, .p 4 0), (5, Ba ok), (6, Ia z25), (19, Ba false), (27, Ba true)] [(2, [Bv g1, Hw a, Lw a, Iv x1]), (3, [Bv g2, Hw b, Lw b, Iv x2]), (4, [Bv g, Hw k, Lw k, Iv x])] ?_)
   refine vc_ret (seq_r (iS (.agg [Bv g, Hw k, Lw k, Iv x]) (Bv ok) [] ?_))
   rw [qDivT, if_neg hz, divT, if_pos hz', ← hz25, hT]
   rfl
 ·replace hz := bt hz
  refine iT (vc_seqr rfl (iQ 3 (iE 99 [(2, .p 2 0), (3, .p 3 0), (4, .p 4 0), (5, Ba false), (19, Ba true)] [(2, [Bv g1, Hw a, Lw a, Iv x1]), (3, [Bv g2, Hw b, Lw b, Iv x2]), (4, [Bv false, Uv 0, Uv 0, Iv 0])] ?_)))
  refine vc_ret (seq_r (iS (.agg [Bv false, Uv 0, Uv 0, Iv 0]) (Bv false) [] ?_))
  rw [qDivT, if_pos hz]
  rfl



open Go.RowKit
set_option linter.unusedVariables false
set_option linter.unusedSimpArgs false
set_option maxRecDepth 100000

theorem ge_nd {n : Nat} (h : n ≠ 0) : 10 ^ (nd n - 1) ≤ n := by
  rcases Nat.lt_or_ge n (10 ^ (nd n - 1)) with h1 | h1
  · exfalso
    have h7 := nd_le _ _ h1
    have := nd_pos h
    omega
  · exact h1
theorem nd_gt {n k : Nat} (h : 10 ^ k ≤ n) : k < nd n :=
  (Nat.pow_lt_pow_iff_right (by decide : 1 < 10)).1 (Nat.lt_of_le_of_lt h (lt_nd n))
theorem nd_more {N j r : Nat} (hN : N ≠ 0) (hr : r < 10 ^ j) : nd (N * 10 ^ j + r) = nd N + j := by
  have h1 := ge_nd hN
  have h2 := lt_nd N
  have h0 := nd_pos hN
  have h3 : nd (N * 10 ^ j + r) ≤ nd N + j := by
    refine nd_le _ _ ?_
    rw [Nat.pow_add]
    have := Nat.mul_le_mul_right (10 ^ j) (Nat.succ_le_of_lt h2)
    rw [Nat.succ_mul] at this
    omega
  have h4 : nd N - 1 + j < nd (N * 10 ^ j + r) := by
    refine nd_gt ?_
    rw [Nat.pow_add]
    have := Nat.mul_le_mul_right (10 ^ j) h1
    omega
  omega

theorem UpP_none {m : Int} {neg odd : Bool} : ¬ UpP m neg odd 0 false := by
  unfold UpP
  simp
theorem upB_iff {m : Int} {neg : Bool} {N k : Nat} {more : Bool} : upB m neg N more k = true ↔ UpP m neg (decide (N / 10 ^ k % 2 = 1)) (lastD N k : Nat) (@decide (restP more N k) (Classical.propDecidable _)) := by
  unfold upB
  simp only [decide_eq_true_eq]
theorem upB_congr {m : Int} {neg : Bool} {N N' k k' : Nat} {more more' : Bool} (h1 : N / 10 ^ k = N' / 10 ^ k') (h2 : lastD N k = lastD N' k') (h3 : restP more N k ↔ restP more' N' k') : upB m neg N more k = upB m neg N' more' k' := by
  have e3 : @decide (restP more N k) (Classical.propDecidable _) = @decide (restP more' N' k') (Classical.propDecidable _) := by rw [Bool.eq_iff_iff]; simp [h3]
  rw [Bool.eq_iff_iff, upB_iff, upB_iff, h1, h2, e3]
theorem cutQ_congr {m : Int} {neg : Bool} {N N' k k' : Nat} {more more' : Bool} (h1 : N / 10 ^ k = N' / 10 ^ k') (h2 : lastD N k = lastD N' k') (h3 : restP more N k ↔ restP more' N' k') : cutQ m neg N more k = cutQ m neg N' more' k' := by
  unfold cutQ
  rw [upB_congr h1 h2 h3, h1]
theorem cutQ_0 (m : Int) (neg : Bool) (N : Nat) : cutQ m neg N false 0 = N := by
  have h : upB m neg N false 0 = false := upB_eq (h := 0) (l := N) (d := 0) (mo := false) (odd := decide (N % 2 = 1)) (by simp) rfl Iff.rfl (by simp) (by simp [UpP_none])
  unfold cutQ
  rw [h]
  simp
theorem fit1N_cut (m : Int) (neg : Bool) (N : Nat) (e : Int) (more : Bool) : fit1N m neg N e more = cutQ m neg N more (fitK N e).toNat := by
  by_cases h : 0 < fitK N e ∨ more = true
  · exact (fit1_yes m neg h).1
  · obtain ⟨h1, h2⟩ : fitK N e ≤ 0 ∧ more = false := by
      constructor
      · exact Int.not_lt.1 fun k => h (.inl k)
      · cases more
        · rfl
        · exact absurd (.inr rfl) h
    subst h2
    rw [(fit1_no m neg h1).1, show (fitK N e).toNat = 0 by omega, cutQ_0]
theorem fit1E_cut (N : Nat) (e : Int) (more : Bool) : fit1E N e more = e + (fitK N e).toNat := by
  by_cases h : 0 < fitK N e ∨ more = true
  · exact (fit1_yes 0 false h).2
  · obtain ⟨h1, h2⟩ : fitK N e ≤ 0 ∧ more = false := by
      constructor
      · exact Int.not_lt.1 fun k => h (.inl k)
      · cases more
        · rfl
        · exact absurd (.inr rfl) h
    subst h2
    rw [(fit1_no 0 false h1).2]
    omega

/-- How many digits are cut, all that stand below the least exponent among them. -/
def fitKU (N : Nat) (e : Int) : Nat := max (nd N - 34) (-6176 - e).toNat
noncomputable def fitU (m : Int) (neg : Bool) (N : Nat) (e : Int) (more : Bool) : Bool × Nat × Int × Bool :=
  fitE neg (fit2N m neg (cutQ m neg N more (fitKU N e))) (fit2E (cutQ m neg N more (fitKU N e)) (e + fitKU N e))
theorem fit2_low {m : Int} {neg : Bool} {n : Nat} (h : n ≤ 1) (e : Int) : fit2N m neg n = n ∧ fit2E n e = e := by
  have h' : ¬ E34 ≤ n := by unfold E34; omega
  unfold fit2N fit2E
  exact ⟨if_neg h', if_neg h'⟩
theorem fitE_low {neg : Bool} {n : Nat} {e e' : Int} (h1 : e ≤ -6176) (h2 : e' ≤ -6176) : fitE neg n e = fitE neg n e' := by
  have d1 : fitD n e = 0 := by unfold fitD; omega
  have d2 : fitD n e' = 0 := by unfold fitD; omega
  unfold fitE
  rw [d1, d2]
  split
  · rw [show max (-6176) (min e 6111) = max (-6176 : Int) (min e' 6111) by omega]
  · rw [if_neg (by omega), if_neg (by omega), show max (e - ((0 : Nat) : Int)) (-6176) = max (e' - ((0 : Nat) : Int)) (-6176 : Int) by omega]
theorem fitT_U (m : Int) (neg : Bool) {N : Nat} (e : Int) (more : Bool) (h : nd N ≤ 78) : fitT m neg N e more = fitU m neg N e more := by
  unfold fitT fitU
  rw [fit1N_cut, fit1E_cut]
  by_cases hc : -6176 - e ≤ 100
  · have hk : (fitK N e).toNat = fitKU N e := by unfold fitK fitKU; omega
    rw [hk]
  · have k1 : (fitK N e).toNat = 100 := by unfold fitK; omega
    obtain ⟨j, hj⟩ : ∃ j, fitKU N e = 100 + j ∧ e + ((100 + j : Nat) : Int) ≤ -6176 := ⟨fitKU N e - 100, by unfold fitKU; omega, by unfold fitKU; omega⟩
    have z : N < 10 ^ 99 := Nat.lt_of_lt_of_le (lt_nd N) (Nat.pow_le_pow_right (by decide) (by omega))
    have h1 : N / 10 ^ 100 = 0 := Nat.div_eq_of_lt (Nat.lt_of_lt_of_le z (Nat.pow_le_pow_right (by decide) (by decide)))
    have h2 : lastD N 100 = 0 := by
      show N / 10 ^ 99 % 10 = 0
      rw [Nat.div_eq_of_lt z]
    obtain ⟨s1, s2, s3⟩ := cut_stop (more := more) h1 h2 j
    have hQ : cutQ m neg N more (100 + j) = cutQ m neg N more 100 := cutQ_congr (by rw [s1, h1]) (by rw [s2, h2]) s3
    have hle : cutQ m neg N more 100 ≤ 1 := by
      have := cutQ_le1 (m := m) (neg := neg) (more := more) (N := N) (k := 100)
      omega
    rw [k1, hj.1, hQ, (fit2_low (m := m) (neg := neg) hle 0).1, (fit2_low (m := m) (neg := neg) hle (e + ((100 : Nat) : Int))).2, (fit2_low (m := m) (neg := neg) hle (e + ((100 + j : Nat) : Int))).2]
    exact fitE_low (by omega) hj.2

theorem lastD_more {N j r k : Nat} (hk : 1 ≤ k) (hr : r < 10 ^ j) : lastD (N * 10 ^ j + r) (k + j) = lastD N k := by
  obtain ⟨i, rfl⟩ : ∃ i, k = i + 1 := ⟨k - 1, by omega⟩
  rw [show i + 1 + j = (j + i) + 1 by omega]
  show (N * 10 ^ j + r) / 10 ^ (j + i) % 10 = N / 10 ^ i % 10
  have hp : 0 < 10 ^ j := Nat.pow_pos (by decide)
  rw [Nat.pow_add, ← Nat.div_div_eq_div_mul, Nat.mul_comm, Nat.mul_add_div hp, Nat.div_eq_of_lt hr, Nat.add_zero]
theorem div_more {N j r k : Nat} (hr : r < 10 ^ j) : (N * 10 ^ j + r) / 10 ^ (k + j) = N / 10 ^ k := by
  have hp : 0 < 10 ^ j := Nat.pow_pos (by decide)
  rw [show k + j = j + k by omega, Nat.pow_add, ← Nat.div_div_eq_div_mul, Nat.mul_comm, Nat.mul_add_div hp, Nat.div_eq_of_lt hr, Nat.add_zero]
theorem mod_more {N j r i : Nat} (hr : r < 10 ^ j) : (N * 10 ^ j + r) % 10 ^ (j + i) ≠ 0 ↔ N % 10 ^ i ≠ 0 ∨ r ≠ 0 := by
  have hp : 0 < 10 ^ j := Nat.pow_pos (by decide)
  rw [Nat.pow_add, Nat.mod_mul, Nat.mul_comm N, Nat.mul_add_mod, Nat.mul_add_div hp, Nat.div_eq_of_lt hr, Nat.add_zero, Nat.mod_eq_of_lt hr]
  constructor
  · intro h
    by_cases h1 : N % 10 ^ i = 0
    · right
      intro h2
      rw [h1, h2] at h
      simp at h
    · exact .inl h1
  · rintro (h | h) h2
    · rcases Nat.mul_eq_zero.1 (show 10 ^ j * (N % 10 ^ i) = 0 by omega) with h3 | h3
      · omega
      · exact h h3
    · omega
theorem restP_more {N j r k : Nat} {more more' : Bool} (hk : 1 ≤ k) (hr : r < 10 ^ j) (hm : more = true ↔ more' = true ∨ r ≠ 0) : restP more' (N * 10 ^ j + r) (k + j) ↔ restP more N k := by
  obtain ⟨i, rfl⟩ : ∃ i, k = i + 1 := ⟨k - 1, by omega⟩
  rw [show i + 1 + j = (j + i) + 1 by omega]
  show more' = true ∨ (N * 10 ^ j + r) % 10 ^ (j + i) ≠ 0 ↔ more = true ∨ N % 10 ^ i ≠ 0
  rw [mod_more hr, hm]
  constructor
  · rintro (h | h | h)
    · exact .inl (.inl h)
    · exact .inr h
    · exact .inl (.inr h)
  · rintro ((h | h) | h)
    · exact .inl h
    · exact .inr (.inr h)
    · exact .inr (.inl h)
theorem cutQ_more {m : Int} {neg : Bool} {N j r k : Nat} {more more' : Bool} (hk : 1 ≤ k) (hr : r < 10 ^ j) (hm : more = true ↔ more' = true ∨ r ≠ 0) : cutQ m neg (N * 10 ^ j + r) more' (k + j) = cutQ m neg N more k :=
  cutQ_congr (div_more hr) (lastD_more hk hr) (restP_more hk hr hm)
/-- More digits of the same number are fitted alike, where it has more than 34. -/
theorem fitU_more {m : Int} {neg : Bool} {N j r : Nat} {e : Int} {more more' : Bool} (hN : 35 ≤ nd N) (hr : r < 10 ^ j) (hm : more = true ↔ more' = true ∨ r ≠ 0) : fitU m neg (N * 10 ^ j + r) (e - j) more' = fitU m neg N e more := by
  have hN0 : N ≠ 0 := by
    intro h
    rw [h, nd_zero] at hN
    omega
  have hk : fitKU (N * 10 ^ j + r) (e - j) = fitKU N e + j := by
    unfold fitKU
    rw [nd_more hN0 hr]
    omega
  unfold fitU
  rw [hk, cutQ_more (by unfold fitKU; omega) hr hm, show e - (j : Int) + ((fitKU N e + j : Nat) : Int) = e + (fitKU N e : Int) by omega]

theorem strip_mul (k q : Nat) : ∀ j, strip (j + k) (q * 10 ^ j) = ((strip k q).1, (strip k q).2 + j)
  | 0 => by simp
  | j + 1 => by
    rw [show j + 1 + k = (j + k) + 1 by omega, Nat.pow_succ, ← Nat.mul_assoc, strip_step (Nat.mul_mod_left _ _), Nat.mul_div_cancel _ (by decide), strip_mul k q j]
    rfl
theorem strip_spec : ∀ k q, (strip k q).1 * 10 ^ (strip k q).2 = q ∧ (strip k q).2 ≤ k
  | 0, q => by simp [strip_0]
  | k + 1, q => by
    by_cases h : q % 10 = 0
    · obtain ⟨h1, h2⟩ := strip_spec k (q / 10)
      rw [strip_step h]
      refine ⟨?_, Nat.succ_le_succ h2⟩
      show (strip k (q / 10)).1 * 10 ^ ((strip k (q / 10)).2 + 1) = q
      rw [Nat.pow_succ, ← Nat.mul_assoc, h1]
      omega
    · rw [strip_stop h]
      simp
theorem strip_end : ∀ k q, (strip k q).2 = k ∨ (strip k q).1 % 10 ≠ 0
  | 0, q => .inl rfl
  | k + 1, q => by
    by_cases h : q % 10 = 0
    · rw [strip_step h]
      rcases strip_end k (q / 10) with h1 | h1
      · exact .inl (by show (strip k (q / 10)).2 + 1 = k + 1; rw [h1])
      · exact .inr h1
    · rw [strip_stop h]
      exact .inr h
/-- What is not whole: the noughts of more digits may be taken off. -/
theorem fitU_strip {m : Int} {neg : Bool} {N j r L : Nat} {e : Int} (hN : 35 ≤ nd N) (hr : r < 10 ^ j) (h0 : r ≠ 0) : fitU m neg (strip L (N * 10 ^ j + r)).1 (e - j + (strip L (N * 10 ^ j + r)).2) false = fitU m neg N e true := by
  obtain ⟨h1, h2⟩ := strip_spec L (N * 10 ^ j + r)
  generalize (strip L (N * 10 ^ j + r)).1 = Q at *
  generalize (strip L (N * 10 ^ j + r)).2 = t at *
  have ht : t < j := by
    rcases Nat.lt_or_ge t j with h | h
    · exact h
    · exfalso
      obtain ⟨i, rfl⟩ : ∃ i, t = i + j := ⟨t - j, by omega⟩
      have h3 : (Q * 10 ^ (i + j)) % 10 ^ j = 0 := by rw [Nat.pow_add, ← Nat.mul_assoc, Nat.mul_mod_left]
      rw [h1, Nat.mul_comm, Nat.mul_add_mod, Nat.mod_eq_of_lt hr] at h3
      exact h0 h3
  obtain ⟨i, rfl⟩ : ∃ i, j = i + t := ⟨j - t, by omega⟩
  have hp : 0 < 10 ^ t := Nat.pow_pos (by decide)
  have hQ : Q = N * 10 ^ i + r / 10 ^ t := by
    have h4 : Q * 10 ^ t / 10 ^ t = (N * 10 ^ (i + t) + r) / 10 ^ t := by rw [h1]
    rw [Nat.mul_div_cancel _ hp, Nat.pow_add, ← Nat.mul_assoc, Nat.mul_comm _ (10 ^ t), Nat.mul_add_div hp] at h4
    exact h4
  have hr1 : r / 10 ^ t < 10 ^ i := Nat.div_lt_of_lt_mul (by rw [← Nat.pow_add, Nat.add_comm]; exact hr)
  have hr0 : r / 10 ^ t ≠ 0 := by
    intro h
    have h5 : r % 10 ^ t = 0 := by
      have h6 : (Q * 10 ^ t) % 10 ^ t = 0 := Nat.mul_mod_left _ _
      rw [h1, Nat.pow_add, ← Nat.mul_assoc, Nat.mul_comm _ (10 ^ t), Nat.mul_add_mod] at h6
      exact h6
    have := Nat.div_add_mod r (10 ^ t)
    rw [h, h5] at this
    simp at this
    exact h0 this.symm
  rw [hQ, show e - ((i + t : Nat) : Int) + (t : Int) = e - (i : Int) by omega]
  exact fitU_more hN hr1 (by simp [hr0])

/-- A number that may be one is fitted to itself. -/
theorem fitU_own {m : Int} {neg : Bool} {N : Nat} {e : Int} (hN : N < E34) (h1 : -6176 ≤ e) (h2 : e ≤ 6111) : fitU m neg N e false = (if N = 0 then false else neg, N, e, true) := by
  have hk : fitKU N e = 0 := by
    have := nd_le 34 N hN
    unfold fitKU
    omega
  have hd : fitD N (e + ((0 : Nat) : Int)) = 0 := by unfold fitD; omega
  unfold fitU
  have h' : ¬ E34 ≤ N := by omega
  rw [hk, cutQ_0]
  unfold fit2N fit2E
  rw [if_neg h', if_neg h']
  unfold fitE
  rw [hd]
  split
  · rename_i h0
    rw [h0, show max (-6176) (min (e + ((0 : Nat) : Int)) 6111) = e by omega]
  · rw [if_neg (by omega), show max (e + ((0 : Nat) : Int) - ((0 : Nat) : Int)) (-6176) = e by omega, Nat.pow_zero, Nat.mul_one]

theorem cutQ_E34 {m : Int} {neg : Bool} {N k : Nat} {more : Bool} (h : nd N ≤ k + 34) : cutQ m neg N more k ≤ E34 := cutQ_le (Nat.lt_of_lt_of_le (lt_nd N) (Nat.pow_le_pow_right (by decide) h))
theorem fit2_lt {m : Int} {neg : Bool} {n : Nat} (h : n ≤ E34) : fit2N m neg n < E34 := by
  unfold fit2N
  split
  · have := div10_lt h
    have e : n / 10 ^ (1 : Int).toNat = n / 10 ^ 1 := rfl
    have := cutQ_le1 (m := m) (neg := neg) (more := false) (N := n) (k := 1)
    omega
  · omega
theorem fitE_range {neg : Bool} {n : Nat} {e : Int} {g : Bool} {k : Nat} {x : Int} {ok : Bool} (h : n < E34) (ht : fitE neg n e = (g, k, x, ok)) : k < E34 ∧ -6176 ≤ x ∧ x ≤ 6111 ∧ (k = 0 → g = false) := by
  have hE : 0 < E34 := by decide
  unfold fitE at ht
  split at ht
  · obtain ⟨rfl, rfl, rfl, rfl⟩ : false = g ∧ 0 = k ∧ max (-6176) (min e 6111) = x ∧ true = ok := by simpa using ht
    exact ⟨hE, by omega, by omega, fun _ => rfl⟩
  · rename_i h0
    split at ht
    · obtain ⟨rfl, rfl, rfl, rfl⟩ : false = g ∧ 0 = k ∧ 0 = x ∧ false = ok := by simpa using ht
      exact ⟨hE, by omega, by omega, fun _ => rfl⟩
    · rename_i h1
      obtain ⟨rfl, rfl, rfl, rfl⟩ : neg = g ∧ n * 10 ^ fitD n e = k ∧ max (e - fitD n e) (-6176) = x ∧ true = ok := by simpa using ht
      have hn := nd_le 34 n h
      refine ⟨?_, by omega, by omega, fun h2 => ?_⟩
      · refine Nat.lt_of_lt_of_le (lt_nd _) (Nat.pow_le_pow_right (j := 34) (show 0 < 10 by decide) ?_)
        rw [nd_up10 (by omega)]
        unfold fitD
        omega
      · exfalso
        have hp : 0 < n * 10 ^ fitD n e := Nat.mul_pos (Nat.pos_of_ne_zero h0) (Nat.pow_pos (n := fitD n e) (show 0 < 10 by decide))
        omega
theorem fitT_range {m : Int} {neg : Bool} {N : Nat} {e : Int} {more : Bool} {g : Bool} {k : Nat} {x : Int} {ok : Bool} (ht : fitT m neg N e more = (g, k, x, ok)) : k < E34 ∧ -6176 ≤ x ∧ x ≤ 6111 ∧ (k = 0 → g = false) := by
  unfold fitT at ht
  refine fitE_range (fit2_lt ?_) ht
  rw [fit1N_cut]
  exact cutQ_le (fitK_lt N e)



open Go.RowKit
set_option linter.unusedVariables false
set_option linter.unusedSimpArgs false
set_option maxRecDepth 100000

abbrev T4 := Bool × Nat × Int × Bool
noncomputable def mulT (t u : T4) : T4 := fitT 1 (t.1 != u.1) (t.2.1 * u.2.1) (t.2.2.1 + u.2.2.1) false
theorem c_decMulT {g1 g2 o1 o2 : Bool} {a b : Nat} {x1 x2 : Int} (ha : a < B128) (hb : b < B128) (h1 : -100000000000000000 ≤ x1) (h2 : x1 ≤ 100000000000000000) (h3 : -100000000000000000 ≤ x2) (h4 : x2 ≤ 100000000000000000) :
    HasC Tryz.prog 32 [dDec g1 a x1, dDec g2 b x2] (fun y => ∃ g k x ok, y = .tup [dDec g k x, .v (.bool ok)] ∧ mulT (g1, a, x1, o1) (g2, b, x2, o2) = (g, k, x, ok)) :=
  (c_decMul ha hb h1 h2 h3 h4).mono fun y ⟨g, k, x, ok, s, h1, h2, h3⟩ => ⟨g, k, x, ok, h1, by
    show fitT 1 (g1 != g2) (a * b) (x1 + x2) false = _
    rw [bne_of h2]; exact h3⟩
theorem c_qDivT {g1 g2 : Bool} {a b : Nat} {x1 x2 : Int} (ha : a < E34) (hb : b < E34) (h1 : -100000000000000000 ≤ x1) (h2 : x1 ≤ 100000000000000000) (h3 : -100000000000000000 ≤ x2) (h4 : x2 ≤ 100000000000000000) :
    HasC Tryz.prog 15 [dDec g1 a x1, dDec g2 b x2] (fun y => ∃ g k x ok, y = .tup [dDec g k x, .v (.bool ok)] ∧ qDivT (g1 != g2) a b (x1 - x2) = (g, k, x, ok)) :=
  (c_qDiv ha hb h1 h2 h3 h4).mono fun y hy => ⟨_, _, _, _, hy, rfl⟩
theorem c_Int1 : HasC Tryz.prog 16 [.v (.int .i64 1)] (fun y => y = dDec false 1 0) := by
  refine (c_Int (x := 1) (by decide) (by decide)).mono fun y hy => ?_
  rw [hy]
  kernel_rfl

noncomputable def powStep (a : T4) (b : Bool) (t : T4) : T4 := if (mulT t t).2.2.2 = true ∧ b = true then mulT (mulT t t) a else mulT t t
noncomputable def powGo (a : T4) (m : Nat) : Nat → T4 → T4
  | 0, t => t
  | k + 1, t => if (powStep a (decide (m / 2 ^ k % 2 = 1)) t).2.2.2 = true then powGo a m k (powStep a (decide (m / 2 ^ k % 2 = 1)) t) else powStep a (decide (m / 2 ^ k % 2 = 1)) t
noncomputable def powT (a : T4) (n : Int) : T4 :=
  if n < -999999999 ∨ 999999999 < n then (false, 0, 0, false)
  else if (powGo a n.natAbs 31 (false, 1, 0, true)).2.2.2 = false then (false, 0, 0, false)
  else if n < 0 then qDivT (false != (powGo a n.natAbs 31 (false, 1, 0, true)).1) 1 (powGo a n.natAbs 31 (false, 1, 0, true)).2.1 (0 - (powGo a n.natAbs 31 (false, 1, 0, true)).2.2.1)
  else powGo a n.natAbs 31 (false, 1, 0, true)
theorem powGo_step {a : T4} {m k : Nat} {t u : T4} {b : Bool} (hb : b = true ↔ m / 2 ^ k % 2 = 1) (h : powStep a b t = u) : powGo a m (k + 1) t = if u.2.2.2 = true then powGo a m k u else u := by
  have e : b = decide (m / 2 ^ k % 2 = 1) := by rw [Bool.eq_iff_iff, hb]; simp
  subst e
  rw [powGo, h]
theorem powT_no {a : T4} {n : Int} {g : Bool} {c : Nat} {x : Int} (h1 : -999999999 ≤ n) (h2 : n ≤ 999999999) (h : powGo a n.natAbs 31 (false, 1, 0, true) = (g, c, x, false)) : powT a n = (false, 0, 0, false) := by
  rw [powT, if_neg (by omega), h]
  rfl
theorem powT_yes {a : T4} {n : Int} {g : Bool} {c : Nat} {x : Int} (h1 : 0 ≤ n) (h2 : n ≤ 999999999) (h : powGo a n.natAbs 31 (false, 1, 0, true) = (g, c, x, true)) : powT a n = (g, c, x, true) := by
  rw [powT, if_neg (by omega), h, if_neg (by simp), if_neg (by omega)]
theorem powT_neg {a : T4} {n : Int} {g : Bool} {c : Nat} {x : Int} (h1 : -999999999 ≤ n) (h2 : n < 0) (h : powGo a n.natAbs 31 (false, 1, 0, true) = (g, c, x, true)) : powT a n = qDivT (false != g) 1 c (0 - x) := by
  rw [powT, if_neg (by omega), h, if_neg (by simp), if_pos (by omega)]
theorem mulT_range {t u : T4} {g : Bool} {k : Nat} {x : Int} {ok : Bool} (h : mulT t u = (g, k, x, ok)) : k < E34 ∧ -6176 ≤ x ∧ x ≤ 6111 ∧ (k = 0 → g = false) := fitT_range h

theorem and_one_i {x z : Int} (h : BitIs .and .i64 x 1 z) : z = x % 2 := by
  have e : (BitVec.ofInt 64 x &&& BitVec.ofInt 64 1).toNat = (x % 2).toNat := by
    rw [BitVec.toNat_and]
    have e2 : (BitVec.ofInt 64 (1 : Int)).toNat = 1 := by decide
    rw [e2, Nat.and_one_is_mod, BitVec.toNat_ofInt]
    omega
  have h' : z = IntKind.i64.wrap (((BitVec.ofInt 64 x &&& BitVec.ofInt 64 1).toNat : Nat) : Int) := h
  rw [e] at h'
  rw [h', show (((x % 2).toNat : Nat) : Int) = x % 2 by omega]
  exact IntWalk.i64_in _ (by omega)
theorem shr_bit {m k : Nat} {X K z w : Int} (hX : X = (m : Int)) (hK : K = (k : Int)) (hk : k < 64) (h : ShrIs .i64 X K z) (hw : BitIs .and .i64 z 1 w) : w = 1 ↔ m / 2 ^ k % 2 = 1 := by
  have h' : z = X.fdiv (2 ^ (min K.toNat IntKind.i64.bits)) := h
  have e1 : min K.toNat IntKind.i64.bits = k := by
    have : IntKind.i64.bits = 64 := rfl
    omega
  have e2 : (2 : Int) ^ k = ((2 ^ k : Nat) : Int) := by simp
  have e3 : z = ((m / 2 ^ k : Nat) : Int) := by
    rw [h', e1, e2, hX, Int.fdiv_eq_ediv_of_nonneg _ (Int.natCast_nonneg _)]
    simp
  have e4 := and_one_i hw
  generalize m / 2 ^ k = q at *
  omega

set_option maxHeartbeats 1600000 in
theorem c_qPower {g : Bool} {a : Nat} {x n : Int} (ha : a < E34) (hx0 : -6176 ≤ x) (hx1 : x ≤ 6111) (h0 : -9223372036854775808 ≤ n) (h1 : n ≤ 9223372036854775807) : HasC Tryz.prog 70 [.agg [.v (.bool g), .v (.int .u64 (hiW (a))), .v (.int .u64 (loW (a))), .v (.int .i64 x)], .v (.int .i64 n)] (fun y => y = dFit (powT (g, a, x, true) n)) := by
 refine HasC.of [] (fn := Tryz.f70) tyOk mixed (fun args w => Tryz.call70 args w) Tryz.func70 rfl (by kernel_rfl) (Nat.le_of_ble_eq_true rfl) (⟨_, rfl⟩) ?_
 have haB := Nat.lt_trans ha e34_lt
 refine vc_seqr rfl (iQ 3 (iE 60 [(1, Ia n), (2, .p 2 0), (4, .p 4 0), (5, Ba false)] [(2, [Bv g, Hw a, Lw a, Iv x]), (4, [Bv false, Uv 0, Uv 0, Iv 0])] ?_))
 refine vc_seq (vc_seqr rfl (iQ 1 (iB .lss 3 (.int .i64 n) (.int .i64 (-999999999)) (some 11) ?_)))
 intro c11 hc11
 refine iQ 1 ?_
 cases c11
 ·replace hc11 := bf hc11
  refine iQ 1 (iB .gtr 3 (.int .i64 n) (.int .i64 999999999) (some 14) ?_)
  intro c14 hc14
  refine iQ 1 (iE 60 [(1, Ia n), (2, .p 2 0), (4, .p 4 0), (5, Ba false), (15, Ba c14)] [(2, [Bv g, Hw a, Lw a, Iv x]), (4, [Bv false, Uv 0, Uv 0, Iv 0])] ?_)
  cases c14
  ·replace hc14 := bf hc14
   refine iF (vc_skip (seq_n (vc_seqr rfl (iQ 2 (iU .neg (.int .i64 n) (some 19) ?_)))))
   intro z19 hz19
   try replace hz19 := hz19.i64 (by omega)
   refine iL .max [3, 3] [.int .i64 n, .int .i64 z19] (some 20) ?_
   intro z20 hz20
   simp only at hz20
   have hm : z20 = ((n.natAbs : Nat) : Int) ∧ n.natAbs ≤ 999999999 := by omega
   refine iQ 1 (iE 60 [(1, Ia n), (2, .p 2 0), (4, .p 4 0), (5, Ba false), (6, Ia z20), (15, Ba false)] [(2, [Bv g, Hw a, Lw a, Iv x]), (4, [Bv false, Uv 0, Uv 0, Iv 0])] ?_)
   refine vc_seqr rfl (iC 16 [Iv 1] (some 21) (c_Int1) ?_)
   rintro _ rfl
   refine iQ 3 (iE 60 [(1, Ia n), (2, .p 2 0), (4, .p 4 0), (5, Ba false), (6, Ia z20), (7, .p 7 0), (8, Ba true), (15, Ba false)] [(2, [Bv g, Hw a, Lw a, Iv x]), (4, [Bv false, Uv 0, Uv 0, Iv 0]), (7, [Bv false, Hw 1, Lw 1, Iv 0])] ?_)
   refine vc_seq (vc_seqr rfl (iQ 1 (iE 60 [(1, Ia n), (2, .p 2 0), (4, .p 4 0), (5, Ba false), (6, Ia z20), (7, .p 7 0), (8, Ba true), (9, Ia 30), (15, Ba false)] [(2, [Bv g, Hw a, Lw a, Iv x]), (4, [Bv false, Uv 0, Uv 0, Iv 0]), (7, [Bv false, Hw 1, Lw 1, Iv 0])] ?_)))
   refine vc_block (vc_loop 60 (fun (vcx : Nat × Bool × Nat × Int × Bool × Int) => match vcx with | (j, og, oc, ox, ok, kk) => [(1, Ia n), (2, .p 2 0), (4, .p 4 0), (5, Ba false), (6, Ia z20), (7, .p 7 0), (8, Ba ok), (9, Ia kk), (15, Ba false)]) (fun (vcx : Nat × Bool × Nat × Int × Bool × Int) => match vcx with | (j, og, oc, ox, ok, kk) => [(2, [Bv g, Hw a, Lw a, Iv x]), (4, [Bv false, Uv 0, Uv 0, Iv 0]), (7, [Bv og, Hw oc, Lw oc, Iv ox])]) (fun (vcx : Nat × Bool × Nat × Int × Bool × Int) => match vcx with | (j, og, oc, ox, ok, kk) => kk = (j : Int) - 1 ∧ j ≤ 31 ∧ oc < E34 ∧ -6176 ≤ ox ∧ ox ≤ 6111 ∧ powGo (g, a, x, true) n.natAbs 31 (false, 1, 0, true) = (if ok = true then powGo (g, a, x, true) n.natAbs j (og, oc, ox, ok) else (og, oc, ox, ok))) (fun (vcx : Nat × Bool × Nat × Int × Bool × Int) => match vcx with | (j, og, oc, ox, ok, kk) => j) ((31, false, 1, 0, true, 30)) (⟨by omega, by omega, by decide, by omega, by omega, by simp⟩) (by kernel_rfl) (by kernel_rfl) ?_)
   rintro ⟨j, og, oc, ox, ok, kk⟩ hinv
   simp only at hinv
   obtain ⟨hkk, hj, hoc, hox0, hox1, hG⟩ := hinv
   have hocB := Nat.lt_trans hoc e34_lt
   refine vc_seq (vc_seqr rfl (iQ 1 (iB .geq 3 (.int .i64 kk) (.int .i64 0) (some 23) ?_)))
   intro c23 hc23
   refine iQ 1 ?_
   cases c23
   ·replace hc23 := bf hc23
    refine iQ 2 (iE 60 [(1, Ia n), (2, .p 2 0), (4, .p 4 0), (5, Ba false), (6, Ia z20), (7, .p 7 0), (8, Ba ok), (9, Ia kk), (15, Ba false), (26, Ba false)] [(2, [Bv g, Hw a, Lw a, Iv x]), (4, [Bv false, Uv 0, Uv 0, Iv 0]), (7, [Bv og, Hw oc, Lw oc, Iv ox])] ?_)
    have hP : powGo (g, a, x, true) n.natAbs 31 (false, 1, 0, true) = (og, oc, ox, ok) := by rw [hG, show j = 0 by omega]; simp [powGo]
    refine iF (vc_exit (seq_x (loop_x (block_x rfl (seq_n (vc_seq (vc_seqr rfl (iQ 1 (iU .not (.bool ok) (some 50) ?_)))))))))
    intro c50 hc50
    refine iE 60 [(1, Ia n), (2, .p 2 0), (4, .p 4 0), (5, Ba false), (6, Ia z20), (7, .p 7 0), (8, Ba ok), (9, Ia kk), (15, Ba false), (26, Ba false), (50, Ba c50)] [(2, [Bv g, Hw a, Lw a, Iv x]), (4, [Bv false, Uv 0, Uv 0, Iv 0]), (7, [Bv og, Hw oc, Lw oc, Iv ox])] ?_
    cases c50
    ·replace hc50 := bf hc50
     have hok : ok = true := by simpa using hc50
     rw [hok] at hP
     refine iF (vc_skip (seq_n (vc_seq (vc_seqr rfl (iQ 1 (iB .lss 3 (.int .i64 n) (.int .i64 0) (some 53) ?_))))))
     intro c53 hc53
     refine iE 60 [(1, Ia n), (2, .p 2 0), (4, .p 4 0), (5, Ba false), (6, Ia z20), (7, .p 7 0), (8, Ba ok), (9, Ia kk), (15, Ba false), (26, Ba false), (50, Ba false), (53, Ba c53)] [(2, [Bv g, Hw a, Lw a, Iv x]), (4, [Bv false, Uv 0, Uv 0, Iv 0]), (7, [Bv og, Hw oc, Lw oc, Iv ox])] ?_
     cases c53
     ·replace hc53 := bf hc53
      refine iF (vc_skip (seq_n (vc_seqr rfl (iQ 3 (iE 60 [(1, Ia n), (2, .p 2 0), (4, .p 4 0), (5, Ba true), (6, Ia z20), (7, .p 7 0), (8, Ba ok), (9, Ia kk), (15, Ba false), (26, Ba false), (50, Ba false), (53, Ba false)] [(2, [Bv g, Hw a, Lw a, Iv x]), (4, [Bv og, Hw oc, Lw oc, Iv ox]), (7, [Bv og, Hw oc, Lw oc, Iv ox])] ?_)))))
      refine vc_ret (iS (.agg [Bv og, Hw oc, Lw oc, Iv ox]) (Bv true) [] ?_)
      rw [powT_yes (by omega) (by omega) hP]
      rfl
     ·replace hc53 := bt hc53
      refine iT (vc_seqr rfl (iC 16 [Iv 1] (some 54) (c_Int1) ?_))
      rintro _ rfl
      refine iQ 1 (iC 15 [.agg [Bv false, Hw 1, Lw 1, Iv 0], .agg [Bv og, Hw oc, Lw oc, Iv ox]] (some 56) (c_qDivT (by decide) hoc (by omega) (by omega) (by omega) (by omega)) ?_)
      rintro _ ⟨dg, dk, dx, dok, rfl, hD⟩
      refine iQ 4 (iE 60 [(1, Ia n), (2, .p 2 0), (4, .p 4 0), (5, Ba dok), (6, Ia z20), (7, .p 7 0), (8, Ba ok), (9, Ia kk), (15, Ba false), (26, Ba false), (50, Ba false), (53, Ba true)] [(2, [Bv g, Hw a, Lw a, Iv x]), (4, [Bv dg, Hw dk, Lw dk, Iv dx]), (7, [Bv og, Hw oc, Lw oc, Iv ox])] ?_)
      refine vc_ret (seq_r (iS (.agg [Bv dg, Hw dk, Lw dk, Iv dx]) (Bv dok) [] ?_))
      rw [powT_neg (by omega) (by omega) hP, hD]
      rfl
    ·replace hc50 := bt hc50
     have hok : ok = false := by simpa using hc50
     rw [hok] at hP
     refine iT (vc_seqr rfl (iQ 3 (iE 60 [(1, Ia n), (2, .p 2 0), (4, .p 4 0), (5, Ba false), (6, Ia z20), (7, .p 7 0), (8, Ba ok), (9, Ia kk), (15, Ba false), (26, Ba false), (50, Ba true)] [(2, [Bv g, Hw a, Lw a, Iv x]), (4, [Bv false, Uv 0, Uv 0, Iv 0]), (7, [Bv og, Hw oc, Lw oc, Iv ox])] ?_)))
     refine vc_ret (seq_r (iS (.agg [Bv false, Uv 0, Uv 0, Iv 0]) (Bv false) [] ?_))
     rw [powT_no (by omega) (by omega) hP]
     rfl
   ·replace hc23 := bt hc23
    refine iQ 2 (iE 60 [(1, Ia n), (2, .p 2 0), (4, .p 4 0), (5, Ba false), (6, Ia z20), (7, .p 7 0), (8, Ba ok), (9, Ia kk), (15, Ba false), (26, Ba ok)] [(2, [Bv g, Hw a, Lw a, Iv x]), (4, [Bv false, Uv 0, Uv 0, Iv 0]), (7, [Bv og, Hw oc, Lw oc, Iv ox])] ?_)
    obtain ⟨i, hi⟩ : ∃ i, j = i + 1 := ⟨j - 1, by omega⟩
    cases ok
    ·skip
     have hP : powGo (g, a, x, true) n.natAbs 31 (false, 1, 0, true) = (og, oc, ox, false) := by rw [hG]; simp
     refine iF (vc_exit (seq_x (loop_x (block_x rfl (seq_n (vc_seq (vc_seqr rfl (iQ 1 (iU .not (.bool false) (some 50) ?_)))))))))
     intro c50 hc50
     refine iE 60 [(1, Ia n), (2, .p 2 0), (4, .p 4 0), (5, Ba false), (6, Ia z20), (7, .p 7 0), (8, Ba false), (9, Ia kk), (15, Ba false), (26, Ba false), (50, Ba c50)] [(2, [Bv g, Hw a, Lw a, Iv x]), (4, [Bv false, Uv 0, Uv 0, Iv 0]), (7, [Bv og, Hw oc, Lw oc, Iv ox])] ?_
     obtain rfl : c50 = true := hc50.2 (rfl)
     refine iT (vc_seqr rfl (iQ 3 (iE 60 [(1, Ia n), (2, .p 2 0), (4, .p 4 0), (5, Ba false), (6, Ia z20), (7, .p 7 0), (8, Ba false), (9, Ia kk), (15, Ba false), (26, Ba false), (50, Ba true)] [(2, [Bv g, Hw a, Lw a, Iv x]), (4, [Bv false, Uv 0, Uv 0, Iv 0]), (7, [Bv og, Hw oc, Lw oc, Iv ox])] ?_)))
     refine vc_ret (seq_r (iS (.agg [Bv false, Uv 0, Uv 0, Iv 0]) (Bv false) [] ?_))
     rw [powT_no (by omega) (by omega) hP]
     rfl
    ·skip
     rw [if_pos rfl, hi] at hG
     refine iT (vc_skip (seq_n (vc_seq (vc_block (vc_seqr rfl (iQ 2 (iC 32 [.agg [Bv og, Hw oc, Lw oc, Iv ox], .agg [Bv og, Hw oc, Lw oc, Iv ox]] (some 32) (c_decMulT (o1 := true) (o2 := true) hocB hocB (by omega) (by omega) (by omega) (by omega)) ?_)))))))
     rintro _ ⟨g1, k1, y1, ok1, rfl, hT⟩
     obtain ⟨q1, q2, q3, q4⟩ := mulT_range hT
     refine iQ 5 (iE 60 [(1, Ia n), (2, .p 2 0), (4, .p 4 0), (5, Ba false), (6, Ia z20), (7, .p 7 0), (8, Ba ok1), (9, Ia kk), (15, Ba false), (26, Ba true)] [(2, [Bv g, Hw a, Lw a, Iv x]), (4, [Bv false, Uv 0, Uv 0, Iv 0]), (7, [Bv g1, Hw k1, Lw k1, Iv y1])] ?_)
     refine vc_seqr rfl (iQ 2 ?_)
     cases ok1
     ·skip
      refine iQ 6 (iE 60 [(1, Ia n), (2, .p 2 0), (4, .p 4 0), (5, Ba false), (6, Ia z20), (7, .p 7 0), (8, Ba false), (9, Ia kk), (15, Ba false), (26, Ba true), (42, Ba false)] [(2, [Bv g, Hw a, Lw a, Iv x]), (4, [Bv false, Uv 0, Uv 0, Iv 0]), (7, [Bv g1, Hw k1, Lw k1, Iv y1])] ?_)
      have hst : powStep (g, a, x, true) (decide (n.natAbs / 2 ^ i % 2 = 1)) (og, oc, ox, true) = (g1, k1, y1, false) := by rw [powStep, hT]; simp
      refine iF (vc_skip (block_n (seq_n (vc_reg rfl (iQ 1 (iB .sub 3 (.int .i64 kk) (.int .i64 1) (some 28) ?_))))))
      intro z28 hz28
      try replace hz28 := hz28.i64 (by omega)
      refine iQ 1 (iE 60 [(1, Ia n), (2, .p 2 0), (4, .p 4 0), (5, Ba false), (6, Ia z20), (7, .p 7 0), (8, Ba false), (9, Ia z28), (15, Ba false), (26, Ba true), (42, Ba false)] [(2, [Bv g, Hw a, Lw a, Iv x]), (4, [Bv false, Uv 0, Uv 0, Iv 0]), (7, [Bv g1, Hw k1, Lw k1, Iv y1])] ?_)
      refine loop_n (i, g1, k1, y1, false, z28) (⟨by omega, by omega, q1, q2, q3, by rw [hG, powGo_step (by simp) hst]⟩) (by show i < j; omega) (by kernel_rfl) (by kernel_rfl)
     ·skip
      refine iQ 2 (iB .shr 3 (.int .i64 z20) (.int .i64 kk) (some 39) ?_)
      refine And.intro (by omega) ?_
      intro z39 hz39
      refine iB .and 3 (.int .i64 z39) (.int .i64 1) (some 40) ?_
      intro z40 hz40
      have hbit := shr_bit (m := n.natAbs) (k := i) (by omega) (by omega) (by omega) hz39 hz40
      refine iB .eql 3 (.int .i64 z40) (.int .i64 1) (some 41) ?_
      intro c41 hc41
      refine iQ 1 (iE 60 [(1, Ia n), (2, .p 2 0), (4, .p 4 0), (5, Ba false), (6, Ia z20), (7, .p 7 0), (8, Ba true), (9, Ia kk), (15, Ba false), (26, Ba true), (42, Ba c41)] [(2, [Bv g, Hw a, Lw a, Iv x]), (4, [Bv false, Uv 0, Uv 0, Iv 0]), (7, [Bv g1, Hw k1, Lw k1, Iv y1])] ?_)
      cases c41
      ·replace hc41 := bf hc41
       have hst : powStep (g, a, x, true) false (og, oc, ox, true) = (g1, k1, y1, true) := by rw [powStep, hT]; simp
       refine iF (vc_skip (block_n (seq_n (vc_reg rfl (iQ 1 (iB .sub 3 (.int .i64 kk) (.int .i64 1) (some 28) ?_))))))
       intro z28 hz28
       try replace hz28 := hz28.i64 (by omega)
       refine iQ 1 (iE 60 [(1, Ia n), (2, .p 2 0), (4, .p 4 0), (5, Ba false), (6, Ia z20), (7, .p 7 0), (8, Ba true), (9, Ia z28), (15, Ba false), (26, Ba true), (42, Ba false)] [(2, [Bv g, Hw a, Lw a, Iv x]), (4, [Bv false, Uv 0, Uv 0, Iv 0]), (7, [Bv g1, Hw k1, Lw k1, Iv y1])] ?_)
       refine loop_n (i, g1, k1, y1, true, z28) (⟨by omega, by omega, q1, q2, q3, by rw [hG, powGo_step (by rw [← hbit]; simpa using hc41) hst]⟩) (by show i < j; omega) (by kernel_rfl) (by kernel_rfl)
      ·replace hc41 := bt hc41
       refine iT (vc_reg rfl (iQ 2 (iC 32 [.agg [Bv g1, Hw k1, Lw k1, Iv y1], .agg [Bv g, Hw a, Lw a, Iv x]] (some 46) (c_decMulT (o1 := true) (o2 := true) (Nat.lt_trans q1 e34_lt) haB (by omega) (by omega) (by omega) (by omega)) ?_)))
       rintro _ ⟨g2, k2, y2, ok2, rfl, hT2⟩
       obtain ⟨p1, p2, p3, p4⟩ := mulT_range hT2
       have hst : powStep (g, a, x, true) true (og, oc, ox, true) = (g2, k2, y2, ok2) := by rw [powStep, hT]; simpa using hT2
       refine iQ 5 (iE 60 [(1, Ia n), (2, .p 2 0), (4, .p 4 0), (5, Ba false), (6, Ia z20), (7, .p 7 0), (8, Ba ok2), (9, Ia kk), (15, Ba false), (26, Ba true), (42, Ba true)] [(2, [Bv g, Hw a, Lw a, Iv x]), (4, [Bv false, Uv 0, Uv 0, Iv 0]), (7, [Bv g2, Hw k2, Lw k2, Iv y2])] ?_)
       refine block_n (seq_n (vc_reg rfl (iQ 1 (iB .sub 3 (.int .i64 kk) (.int .i64 1) (some 28) ?_))))
       intro z28 hz28
       try replace hz28 := hz28.i64 (by omega)
       refine iQ 1 (iE 60 [(1, Ia n), (2, .p 2 0), (4, .p 4 0), (5, Ba false), (6, Ia z20), (7, .p 7 0), (8, Ba ok2), (9, Ia z28), (15, Ba false), (26, Ba true), (42, Ba true)] [(2, [Bv g, Hw a, Lw a, Iv x]), (4, [Bv false, Uv 0, Uv 0, Iv 0]), (7, [Bv g2, Hw k2, Lw k2, Iv y2])] ?_)
       refine loop_n (i, g2, k2, y2, ok2, z28) (⟨by omega, by omega, p1, p2, p3, by rw [hG, powGo_step (by rw [← hbit]; simpa using hc41) hst]⟩) (by show i < j; omega) (by kernel_rfl) (by kernel_rfl)
  ·replace hc14 := bt hc14
   refine iT (vc_seqr rfl (iQ 3 (iE 60 [(1, Ia n), (2, .p 2 0), (4, .p 4 0), (5, Ba false), (15, Ba true)] [(2, [Bv g, Hw a, Lw a, Iv x]), (4, [Bv false, Uv 0, Uv 0, Iv 0])] ?_)))
   refine vc_ret (seq_r (iS (.agg [Bv false, Uv 0, Uv 0, Iv 0]) (Bv false) [] ?_))
   rw [powT, if_pos (by omega)]
   rfl
 ·replace hc11 := bt hc11
  refine iQ 3 (iE 60 [(1, Ia n), (2, .p 2 0), (4, .p 4 0), (5, Ba false), (15, Ba true)] [(2, [Bv g, Hw a, Lw a, Iv x]), (4, [Bv false, Uv 0, Uv 0, Iv 0])] ?_)
  refine iT (vc_seqr rfl (iQ 3 (iE 60 [(1, Ia n), (2, .p 2 0), (4, .p 4 0), (5, Ba false), (15, Ba true)] [(2, [Bv g, Hw a, Lw a, Iv x]), (4, [Bv false, Uv 0, Uv 0, Iv 0])] ?_)))
  refine vc_ret (seq_r (iS (.agg [Bv false, Uv 0, Uv 0, Iv 0]) (Bv false) [] ?_))
  rw [powT, if_pos (by omega)]
  rfl



open Go.RowKit
set_option linter.unusedVariables false
set_option linter.unusedSimpArgs false
set_option maxRecDepth 100000

/-- The root, downwards. -/
noncomputable def isq (a : Nat) : Nat := (root_ex a).choose
theorem isq_lo (a : Nat) : isq a * isq a ≤ a := (root_ex a).choose_spec.1
theorem isq_hi (a : Nat) : a < (isq a + 1) * (isq a + 1) := (root_ex a).choose_spec.2
theorem sq_lt {a b : Nat} (h : a * a < b * b) : a < b := by
  rcases Nat.lt_or_ge a b with k | k
  · exact k
  · exact absurd h (Nat.not_lt.2 (Nat.mul_le_mul k k))
theorem isq_eq {a s : Nat} (h1 : s * s ≤ a) (h2 : a < (s + 1) * (s + 1)) : isq a = s := by
  have h3 := sq_lt (Nat.lt_of_le_of_lt (isq_lo a) h2)
  have h4 := sq_lt (Nat.lt_of_le_of_lt h1 (isq_hi a))
  omega
theorem isq_sq (s : Nat) : isq (s * s) = s := isq_eq (Nat.le_refl _) (by rw [Nat.add_mul, Nat.mul_add]; omega)

/-- How many noughts more the number is given before its root is taken. -/
def rootN (a : Nat) (x : Int) : Nat := 70 - nd a + (70 - nd a + (x % 2).toNat) % 2
def rootL (a : Nat) (x : Int) : Nat := (x / 2 - (x - rootN a x) / 2).toNat
open Classical in
noncomputable def rootQ (a : Nat) (x : Int) : Nat × Nat := if isq (a * 10 ^ rootN a x) * isq (a * 10 ^ rootN a x) = a * 10 ^ rootN a x then strip (rootL a x) (isq (a * 10 ^ rootN a x)) else (isq (a * 10 ^ rootN a x), 0)
noncomputable def rootMore (a : Nat) (x : Int) : Bool := decide (isq (a * 10 ^ rootN a x) * isq (a * 10 ^ rootN a x) ≠ a * 10 ^ rootN a x)
noncomputable def rootT (a : Nat) (x : Int) : T4 := if a = 0 then fitT 1 false 0 (x / 2) false else fitT 1 false (rootQ a x).1 ((x - rootN a x) / 2 + (rootQ a x).2) (rootMore a x)
noncomputable def qRootT (g : Bool) (a : Nat) (x : Int) : T4 := if a ≠ 0 ∧ g = true then (false, 0, 0, false) else rootT a x

theorem quo2 {y z : Int} (h : IntIs .i64 (y.tdiv 2) z) (h0 : y % 2 = 0) (h1 : -1000000000000000000 ≤ y) (h2 : y ≤ 1000000000000000000) : z = y / 2 := by
  obtain ⟨k, rfl⟩ : ∃ k, y = 2 * k := ⟨y / 2, by omega⟩
  rw [Int.mul_tdiv_cancel_left _ (by decide)] at h
  have := h.i64 (by omega)
  omega
theorem sg_neg {a : Nat} {g : Bool} (h : (if a = 0 then 0 else if g = true then -1 else 1 : Int) < 0) : a ≠ 0 ∧ g = true := by
  by_cases k : a = 0
  · rw [if_pos k] at h
    exact absurd h (by decide)
  · rw [if_neg k] at h
    cases g with
    | false => exact absurd h (by decide)
    | true => exact ⟨k, rfl⟩

end Go.Proofs.YtmldjlgeeljfdaaGreat
