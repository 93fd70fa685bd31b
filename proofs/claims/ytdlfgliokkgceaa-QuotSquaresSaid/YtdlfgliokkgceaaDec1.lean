/-
  dec: the small functions.
-/
import Derived.Test.YtdlfgliokkgceaaVcX
namespace Go.Proofs.Ytdlfgliokkgceaa
open Go.RowKit
set_option linter.unusedVariables false
set_option linter.unusedSimpArgs false
set_option maxRecDepth 100000

/-- Decimal numbers as they read. -/
def dDec (neg : Bool) (n : Nat) (e : Int) : DV := .agg [.v (.bool neg), .v (.int .u64 (hiW n)), .v (.int .u64 (loW n)), .v (.int .i64 e)]
def dWide (neg : Bool) (hi lo : Nat) (e : Int) (more : Bool) : DV := .agg [.v (.bool neg), .v (.int .u64 (hiW hi)), .v (.int .u64 (loW hi)), .v (.int .u64 (hiW lo)), .v (.int .u64 (loW lo)), .v (.int .i64 e), .v (.bool more)]

def E34 : Nat := 10000000000000000000000000000000000
theorem e34_lt : E34 < B128 := by decide

theorem c_most  : HasC Try.prog 46 [] (fun y => y = dU E34) := by
  refine HasC.of [] (fn := Try.f46) tyOk mixed (fun args w => Try.call46 args w) Try.func46 rfl (by kernel_rfl) (Nat.le_of_ble_eq_true rfl) (⟨_, rfl⟩) ?_
  refine vc_seqr rfl ?_
  refine vcI_q 1 (by kernel_rfl) ?_
  refine vcI_end 8 [(0, .p 0 0)] [(0, [.v (.int .u64 0), .v (.int .u64 0)])] (by kernel_rfl) (by kernel_rfl) (by kernel_rfl) ?_
  refine vc_seqr rfl ?_
  refine vcI_call (f := 27) (ds := [.v (.int .i64 34)]) (dst := (some 4)) (by kernel_rfl) (cw_Ten (by decide) (by decide)) ?_
  rintro _ rfl
  refine vcI_q 6 (by kernel_rfl) ?_
  refine vcI_end 8 [(0, .p 0 0), (1, .p 1 0)] [(0, [.v (.int .u64 0), .v (.int .u64 0)]), (1, [.v (.int .u64 (hiW (10 ^ (34 : Int).toNat))), .v (.int .u64 (loW (10 ^ (34 : Int).toNat)))])] (by kernel_rfl) (by kernel_rfl) (by kernel_rfl) ?_
  refine vc_seqr rfl ?_
  refine vcI_q 2 (by kernel_rfl) ?_
  refine vcI_end 8 [(0, .p 0 0), (1, .p 1 0)] [(0, [.v (.int .u64 (hiW (10 ^ (34 : Int).toNat))), .v (.int .u64 (loW (10 ^ (34 : Int).toNat)))]), (1, [.v (.int .u64 (hiW (10 ^ (34 : Int).toNat))), .v (.int .u64 (loW (10 ^ (34 : Int).toNat)))])] (by kernel_rfl) (by kernel_rfl) (by kernel_rfl) ?_
  refine vc_ret ?_
  refine ret_1 (d := .agg [.v (.int .u64 (hiW (10 ^ (34 : Int).toNat))), .v (.int .u64 (loW (10 ^ (34 : Int).toNat)))]) (by kernel_rfl) ?_
  rfl

def May (neg : Bool) (n : Nat) (e : Int) : Prop := n < E34 ∧ -6176 ≤ e ∧ e ≤ 6111 ∧ (neg = true → n ≠ 0)

theorem c_May {neg : Bool} {n : Nat} {e : Int} (hn : n < B128) : HasC Try.prog 26 [.agg [.v (.bool neg), .v (.int .u64 (hiW (n))), .v (.int .u64 (loW (n))), .v (.int .i64 e)]] (fun y => ∃ b, y = .v (.bool b) ∧ (b = true ↔ May neg n e)) := by
  refine HasC.of [] (fn := Try.f26) tyOk mixed (fun args w => Try.call26 args w) Try.func26 rfl (by kernel_rfl) (Nat.le_of_ble_eq_true rfl) (⟨_, @decide (May neg n e) (Classical.propDecidable _), rfl, by simp⟩) ?_
  refine vc_seqr rfl ?_
  refine vcI_q 2 (by kernel_rfl) ?_
  refine vcI_end 28 [(1, .p 1 0), (2, .d (.v (.bool false)))] [(1, [.v (.bool neg), .v (.int .u64 (hiW (n))), .v (.int .u64 (loW (n))), .v (.int .i64 e)])] (by kernel_rfl) (by kernel_rfl) (by kernel_rfl) ?_
  refine vc_seqr rfl ?_
  refine vcI_q 2 (by kernel_rfl) ?_
  refine vcI_call (f := 46) (ds := []) (dst := (some 5)) (by kernel_rfl) (c_most) ?_
  rintro _ rfl
  refine vcI_call (f := 45) (ds := [.agg [.v (.int .u64 (hiW (n))), .v (.int .u64 (loW (n)))], .agg [.v (.int .u64 (hiW (E34))), .v (.int .u64 (loW (E34)))]]) (dst := (some 6)) (by kernel_rfl) (cw_Cmp hn e34_lt) ?_
  rintro _ rfl
  refine vcI_bin (op := .lss) (t := 3) (a := .int .i64 (cmpN n E34)) (b := .int .i64 0) (dst := (some 7)) (by kernel_rfl) ?_
  intro c7 hc7
  refine vcI_q 1 (by kernel_rfl) ?_
  cases c7
  · replace hc7 := bf hc7
    refine vcI_q 20 (by kernel_rfl) ?_
    refine vcI_end 28 [(2, .d (.v (.bool false)))] [] (by kernel_rfl) (by kernel_rfl) (by kernel_rfl) ?_
    refine vc_ret ?_
    refine ret_1 (d := .v (.bool false)) (by kernel_rfl) ?_
    exact ⟨_, rfl, by rw [cN_lt] at hc7; unfold May; simp; omega⟩
  · replace hc7 := bt hc7
    refine vcI_q 2 (by kernel_rfl) ?_
    refine vcI_bin (op := .geq) (t := 3) (a := .int .i64 e) (b := .int .i64 (-6176)) (dst := (some 11)) (by kernel_rfl) ?_
    intro c11 hc11
    rw [cN_lt] at hc7
    refine vcI_q 2 (by kernel_rfl) ?_
    cases c11
    · replace hc11 := bf hc11
      refine vcI_q 15 (by kernel_rfl) ?_
      refine vcI_end 28 [(2, .d (.v (.bool false)))] [] (by kernel_rfl) (by kernel_rfl) (by kernel_rfl) ?_
      refine vc_ret ?_
      refine ret_1 (d := .v (.bool false)) (by kernel_rfl) ?_
      exact ⟨_, rfl, by unfold May; simp; omega⟩
    · replace hc11 := bt hc11
      refine vcI_q 2 (by kernel_rfl) ?_
      refine vcI_bin (op := .leq) (t := 3) (a := .int .i64 e) (b := .int .i64 6111) (dst := (some 16)) (by kernel_rfl) ?_
      intro c16 hc16
      refine vcI_q 2 (by kernel_rfl) ?_
      cases c16
      · replace hc16 := bf hc16
        refine vcI_q 10 (by kernel_rfl) ?_
        refine vcI_end 28 [(2, .d (.v (.bool false)))] [] (by kernel_rfl) (by kernel_rfl) (by kernel_rfl) ?_
        refine vc_ret ?_
        refine ret_1 (d := .v (.bool false)) (by kernel_rfl) ?_
        exact ⟨_, rfl, by unfold May; simp; omega⟩
      · replace hc16 := bt hc16
        refine vcI_q 3 (by kernel_rfl) ?_
        cases neg
        · skip
          refine vcI_q 4 (by kernel_rfl) ?_
          refine vcI_un (op := .not) (a := .bool false) (dst := (some 26)) (by kernel_rfl) ?_
          intro c26 hc26
          refine vcI_q 2 (by kernel_rfl) ?_
          refine vcI_end 28 [(2, .d (.v (.bool c26)))] [] (by kernel_rfl) (by kernel_rfl) (by kernel_rfl) ?_
          refine vc_ret ?_
          refine ret_1 (d := .v (.bool c26)) (by kernel_rfl) ?_
          exact ⟨_, rfl, by unfold May; rw [hc26]; simp; omega⟩
        · skip
          refine vcI_q 2 (by kernel_rfl) ?_
          refine vcI_call (f := 29) (ds := [.agg [.v (.int .u64 (hiW (n))), .v (.int .u64 (loW (n)))]]) (dst := (some 24)) (by kernel_rfl) (cw_Zero hn) ?_
          rintro _ ⟨z, rfl, hz⟩
          refine vcI_q 1 (by kernel_rfl) ?_
          refine vcI_un (op := .not) (a := .bool z) (dst := (some 26)) (by kernel_rfl) ?_
          intro c26 hc26
          refine vcI_q 2 (by kernel_rfl) ?_
          refine vcI_end 28 [(2, .d (.v (.bool c26)))] [] (by kernel_rfl) (by kernel_rfl) (by kernel_rfl) ?_
          refine vc_ret ?_
          refine ret_1 (d := .v (.bool c26)) (by kernel_rfl) ?_
          exact ⟨_, rfl, by unfold May; rw [hc26]; cases z <;> simp_all <;> omega⟩

theorem c_Zero {neg : Bool} {n : Nat} {e : Int} (hn : n < B128) : HasC Try.prog 12 [.agg [.v (.bool neg), .v (.int .u64 (hiW (n))), .v (.int .u64 (loW (n))), .v (.int .i64 e)]] (fun y => ∃ b, y = .v (.bool b) ∧ (b = true ↔ n = 0)) := by
  refine HasC.of [] (fn := Try.f12) tyOk mixed (fun args w => Try.call12 args w) Try.func12 rfl (by kernel_rfl) (Nat.le_of_ble_eq_true rfl) (⟨_, decide (n = 0), rfl, by simp⟩) ?_
  refine vc_seqr rfl ?_
  refine vcI_q 2 (by kernel_rfl) ?_
  refine vcI_end 6 [(1, .p 1 0), (2, .d (.v (.bool false)))] [(1, [.v (.bool neg), .v (.int .u64 (hiW (n))), .v (.int .u64 (loW (n))), .v (.int .i64 e)])] (by kernel_rfl) (by kernel_rfl) (by kernel_rfl) ?_
  refine vc_seqr rfl ?_
  refine vcI_q 2 (by kernel_rfl) ?_
  refine vcI_call (f := 29) (ds := [.agg [.v (.int .u64 (hiW (n))), .v (.int .u64 (loW (n)))]]) (dst := (some 5)) (by kernel_rfl) (cw_Zero hn) ?_
  rintro _ ⟨z, rfl, hz⟩
  refine vcI_q 1 (by kernel_rfl) ?_
  refine vcI_end 6 [(2, .d (.v (.bool z)))] [] (by kernel_rfl) (by kernel_rfl) (by kernel_rfl) ?_
  refine vc_ret ?_
  refine ret_1 (d := .v (.bool z)) (by kernel_rfl) ?_
  exact ⟨_, rfl, hz⟩

/-- Whether what is cut off makes the rest one more. -/
def UpP (m : Int) (neg odd : Bool) (last : Int) (more : Bool) : Prop :=
  (m = 1 ∧ (5 < last ∨ (last = 5 ∧ (more = true ∨ odd = true)))) ∨ (m = 2 ∧ 5 ≤ last) ∨ (m = 3 ∧ (5 < last ∨ (last = 5 ∧ more = true))) ∨ (m = 4 ∧ (0 < last ∨ more = true)) ∨
  (m = 6 ∧ neg = true ∧ (0 < last ∨ more = true)) ∨ (m = 7 ∧ neg = false ∧ (0 < last ∨ more = true))

set_option maxHeartbeats 1600000 in
theorem c_up {m last : Int} {neg odd more : Bool} : HasC Try.prog 64 [.v (.int .i64 m), .v (.bool neg), .v (.bool odd), .v (.int .u64 last), .v (.bool more)] (fun y => ∃ b, y = .v (.bool b) ∧ (b = true ↔ UpP m neg odd last more)) := by
  refine HasC.of [] (fn := Try.f64) tyOk mixed (fun args w => Try.call64 args w) Try.func64 rfl (by kernel_rfl) (Nat.le_of_ble_eq_true rfl) (⟨_, @decide (UpP m neg odd last more) (Classical.propDecidable _), rfl, by simp⟩) ?_
  refine vc_seqr rfl ?_
  refine vcI_q 1 (by kernel_rfl) ?_
  refine vcI_end 79 [(0, .d (.v (.int .i64 m))), (1, .d (.v (.bool neg))), (2, .d (.v (.bool odd))), (3, .d (.v (.int .u64 last))), (4, .d (.v (.bool more))), (10, .d (.v (.bool false)))] [] (by kernel_rfl) (by kernel_rfl) (by kernel_rfl) ?_
  refine vc_seqr rfl ?_
  refine vcI_q 1 (by kernel_rfl) ?_
  refine vcI_bin (op := .eql) (t := 22) (a := .int .u64 last) (b := .int .u64 5) (dst := (some 13)) (by kernel_rfl) ?_
  intro c13 hc13
  refine vcI_q 1 (by kernel_rfl) ?_
  cases c13
  · replace hc13 := bf hc13
    refine vcI_q 4 (by kernel_rfl) ?_
    refine vcI_end 79 [(0, .d (.v (.int .i64 m))), (1, .d (.v (.bool neg))), (2, .d (.v (.bool odd))), (3, .d (.v (.int .u64 last))), (4, .d (.v (.bool more))), (10, .d (.v (.bool false))), (11, .d (.v (.bool false)))] [] (by kernel_rfl) (by kernel_rfl) (by kernel_rfl) ?_
    refine vc_seq ?_
    refine vc_seqr rfl ?_
    refine vcI_q 1 (by kernel_rfl) ?_
    refine vcI_end 79 [(1, .d (.v (.bool neg))), (2, .d (.v (.bool odd))), (3, .d (.v (.int .u64 last))), (4, .d (.v (.bool more))), (10, .d (.v (.bool false))), (11, .d (.v (.bool false))), (18, .d (.v (.int .i64 m)))] [] (by kernel_rfl) (by kernel_rfl) (by kernel_rfl) ?_
    refine vc_block ?_
    refine vc_seqr rfl ?_
    refine vcI_bin (op := .eql) (t := 63) (a := .int .i64 m) (b := .int .i64 1) (dst := (some 20)) (by kernel_rfl) ?_
    intro c20 hc20
    refine vcI_q 1 (by kernel_rfl) ?_
    refine vcI_end 79 [(1, .d (.v (.bool neg))), (2, .d (.v (.bool odd))), (3, .d (.v (.int .u64 last))), (4, .d (.v (.bool more))), (10, .d (.v (.bool false))), (11, .d (.v (.bool false))), (18, .d (.v (.int .i64 m))), (19, .d (.v (.bool c20)))] [] (by kernel_rfl) (by kernel_rfl) (by kernel_rfl) ?_
    cases c20
    · replace hc20 := bf hc20
      refine vc_condf (by kernel_rfl) ?_
      refine vc_seqr rfl ?_
      refine vcI_bin (op := .eql) (t := 63) (a := .int .i64 m) (b := .int .i64 2) (dst := (some 37)) (by kernel_rfl) ?_
      intro c37 hc37
      refine vcI_q 1 (by kernel_rfl) ?_
      refine vcI_end 79 [(1, .d (.v (.bool neg))), (2, .d (.v (.bool odd))), (3, .d (.v (.int .u64 last))), (4, .d (.v (.bool more))), (10, .d (.v (.bool false))), (11, .d (.v (.bool false))), (18, .d (.v (.int .i64 m))), (19, .d (.v (.bool false))), (36, .d (.v (.bool c37)))] [] (by kernel_rfl) (by kernel_rfl) (by kernel_rfl) ?_
      cases c37
      · replace hc37 := bf hc37
        refine vc_condf (by kernel_rfl) ?_
        refine vc_seqr rfl ?_
        refine vcI_bin (op := .eql) (t := 63) (a := .int .i64 m) (b := .int .i64 3) (dst := (some 41)) (by kernel_rfl) ?_
        intro c41 hc41
        refine vcI_q 1 (by kernel_rfl) ?_
        refine vcI_end 79 [(1, .d (.v (.bool neg))), (2, .d (.v (.bool odd))), (3, .d (.v (.int .u64 last))), (4, .d (.v (.bool more))), (10, .d (.v (.bool false))), (11, .d (.v (.bool false))), (18, .d (.v (.int .i64 m))), (19, .d (.v (.bool false))), (36, .d (.v (.bool false))), (40, .d (.v (.bool c41)))] [] (by kernel_rfl) (by kernel_rfl) (by kernel_rfl) ?_
        cases c41
        · replace hc41 := bf hc41
          refine vc_condf (by kernel_rfl) ?_
          refine vc_seqr rfl ?_
          refine vcI_bin (op := .eql) (t := 63) (a := .int .i64 m) (b := .int .i64 4) (dst := (some 52)) (by kernel_rfl) ?_
          intro c52 hc52
          refine vcI_q 1 (by kernel_rfl) ?_
          refine vcI_end 79 [(1, .d (.v (.bool neg))), (2, .d (.v (.bool odd))), (3, .d (.v (.int .u64 last))), (4, .d (.v (.bool more))), (10, .d (.v (.bool false))), (11, .d (.v (.bool false))), (18, .d (.v (.int .i64 m))), (19, .d (.v (.bool false))), (36, .d (.v (.bool false))), (40, .d (.v (.bool false))), (51, .d (.v (.bool c52)))] [] (by kernel_rfl) (by kernel_rfl) (by kernel_rfl) ?_
          cases c52
          · replace hc52 := bf hc52
            refine vc_condf (by kernel_rfl) ?_
            refine vc_seqr rfl ?_
            refine vcI_bin (op := .eql) (t := 63) (a := .int .i64 m) (b := .int .i64 6) (dst := (some 59)) (by kernel_rfl) ?_
            intro c59 hc59
            refine vcI_q 1 (by kernel_rfl) ?_
            refine vcI_end 79 [(1, .d (.v (.bool neg))), (2, .d (.v (.bool odd))), (3, .d (.v (.int .u64 last))), (4, .d (.v (.bool more))), (10, .d (.v (.bool false))), (11, .d (.v (.bool false))), (18, .d (.v (.int .i64 m))), (19, .d (.v (.bool false))), (36, .d (.v (.bool false))), (40, .d (.v (.bool false))), (51, .d (.v (.bool false))), (58, .d (.v (.bool c59)))] [] (by kernel_rfl) (by kernel_rfl) (by kernel_rfl) ?_
            cases c59
            · replace hc59 := bf hc59
              refine vc_condf (by kernel_rfl) ?_
              refine vc_seqr rfl ?_
              refine vcI_bin (op := .eql) (t := 63) (a := .int .i64 m) (b := .int .i64 7) (dst := (some 69)) (by kernel_rfl) ?_
              intro c69 hc69
              refine vcI_q 1 (by kernel_rfl) ?_
              refine vcI_end 79 [(1, .d (.v (.bool neg))), (2, .d (.v (.bool odd))), (3, .d (.v (.int .u64 last))), (4, .d (.v (.bool more))), (10, .d (.v (.bool false))), (11, .d (.v (.bool false))), (18, .d (.v (.int .i64 m))), (19, .d (.v (.bool false))), (36, .d (.v (.bool false))), (40, .d (.v (.bool false))), (51, .d (.v (.bool false))), (58, .d (.v (.bool false))), (68, .d (.v (.bool c69)))] [] (by kernel_rfl) (by kernel_rfl) (by kernel_rfl) ?_
              cases c69
              · replace hc69 := bf hc69
                refine vc_condf (by kernel_rfl) ?_
                refine vc_skip ?_
                refine block_n ?_
                refine seq_n ?_
                refine vc_seqr rfl ?_
                refine vcI_q 1 (by kernel_rfl) ?_
                refine vcI_end 79 [(1, .d (.v (.bool neg))), (2, .d (.v (.bool odd))), (3, .d (.v (.int .u64 last))), (4, .d (.v (.bool more))), (10, .d (.v (.bool false))), (11, .d (.v (.bool false))), (18, .d (.v (.int .i64 m))), (19, .d (.v (.bool false))), (36, .d (.v (.bool false))), (40, .d (.v (.bool false))), (51, .d (.v (.bool false))), (58, .d (.v (.bool false))), (68, .d (.v (.bool false)))] [] (by kernel_rfl) (by kernel_rfl) (by kernel_rfl) ?_
                refine vc_ret ?_
                refine ret_1 (d := .v (.bool false)) (by kernel_rfl) ?_
                exact ⟨_, rfl, by unfold UpP; simp_all <;> omega⟩
              · replace hc69 := bt hc69
                refine vc_condt (by kernel_rfl) ?_
                refine vc_seqr rfl ?_
                refine vcI_q 1 (by kernel_rfl) ?_
                refine vcI_un (op := .not) (a := .bool neg) (dst := (some 71)) (by kernel_rfl) ?_
                intro c71 hc71
                refine vcI_q 1 (by kernel_rfl) ?_
                cases c71
                · replace hc71 := bf hc71
                  refine vcI_q 7 (by kernel_rfl) ?_
                  refine vcI_end 79 [(1, .d (.v (.bool neg))), (2, .d (.v (.bool odd))), (3, .d (.v (.int .u64 last))), (4, .d (.v (.bool more))), (10, .d (.v (.bool false))), (11, .d (.v (.bool false))), (18, .d (.v (.int .i64 m))), (19, .d (.v (.bool false))), (36, .d (.v (.bool false))), (40, .d (.v (.bool false))), (51, .d (.v (.bool false))), (58, .d (.v (.bool false))), (68, .d (.v (.bool true)))] [] (by kernel_rfl) (by kernel_rfl) (by kernel_rfl) ?_
                  refine vc_ret ?_
                  refine block_r ?_
                  refine seq_r ?_
                  refine ret_1 (d := .v (.bool false)) (by kernel_rfl) ?_
                  exact ⟨_, rfl, by unfold UpP; simp_all <;> omega⟩
                · replace hc71 := bt hc71
                  refine vcI_q 1 (by kernel_rfl) ?_
                  refine vcI_bin (op := .gtr) (t := 22) (a := .int .u64 last) (b := .int .u64 0) (dst := (some 74)) (by kernel_rfl) ?_
                  intro c74 hc74
                  refine vcI_q 1 (by kernel_rfl) ?_
                  cases c74
                  · replace hc74 := bf hc74
                    refine vcI_q 4 (by kernel_rfl) ?_
                    refine vcI_end 79 [(1, .d (.v (.bool neg))), (2, .d (.v (.bool odd))), (3, .d (.v (.int .u64 last))), (4, .d (.v (.bool more))), (10, .d (.v (.bool more))), (11, .d (.v (.bool false))), (18, .d (.v (.int .i64 m))), (19, .d (.v (.bool false))), (36, .d (.v (.bool false))), (40, .d (.v (.bool false))), (51, .d (.v (.bool false))), (58, .d (.v (.bool false))), (68, .d (.v (.bool true)))] [] (by kernel_rfl) (by kernel_rfl) (by kernel_rfl) ?_
                    refine vc_ret ?_
                    refine block_r ?_
                    refine seq_r ?_
                    refine ret_1 (d := .v (.bool more)) (by kernel_rfl) ?_
                    exact ⟨_, rfl, by unfold UpP; simp_all <;> omega⟩
                  · replace hc74 := bt hc74
                    refine vcI_q 4 (by kernel_rfl) ?_
                    refine vcI_end 79 [(1, .d (.v (.bool neg))), (2, .d (.v (.bool odd))), (3, .d (.v (.int .u64 last))), (4, .d (.v (.bool more))), (10, .d (.v (.bool true))), (11, .d (.v (.bool false))), (18, .d (.v (.int .i64 m))), (19, .d (.v (.bool false))), (36, .d (.v (.bool false))), (40, .d (.v (.bool false))), (51, .d (.v (.bool false))), (58, .d (.v (.bool false))), (68, .d (.v (.bool true)))] [] (by kernel_rfl) (by kernel_rfl) (by kernel_rfl) ?_
                    refine vc_ret ?_
                    refine block_r ?_
                    refine seq_r ?_
                    refine ret_1 (d := .v (.bool true)) (by kernel_rfl) ?_
                    exact ⟨_, rfl, by unfold UpP; simp_all <;> omega⟩
            · replace hc59 := bt hc59
              refine vc_condt (by kernel_rfl) ?_
              refine vc_seqr rfl ?_
              refine vcI_q 2 (by kernel_rfl) ?_
              cases neg
              · skip
                refine vcI_q 7 (by kernel_rfl) ?_
                refine vcI_end 79 [(1, .d (.v (.bool false))), (2, .d (.v (.bool odd))), (3, .d (.v (.int .u64 last))), (4, .d (.v (.bool more))), (10, .d (.v (.bool false))), (11, .d (.v (.bool false))), (18, .d (.v (.int .i64 m))), (19, .d (.v (.bool false))), (36, .d (.v (.bool false))), (40, .d (.v (.bool false))), (51, .d (.v (.bool false))), (58, .d (.v (.bool true)))] [] (by kernel_rfl) (by kernel_rfl) (by kernel_rfl) ?_
                refine vc_ret ?_
                refine block_r ?_
                refine seq_r ?_
                refine ret_1 (d := .v (.bool false)) (by kernel_rfl) ?_
                exact ⟨_, rfl, by unfold UpP; simp_all <;> omega⟩
              · skip
                refine vcI_q 1 (by kernel_rfl) ?_
                refine vcI_bin (op := .gtr) (t := 22) (a := .int .u64 last) (b := .int .u64 0) (dst := (some 63)) (by kernel_rfl) ?_
                intro c63 hc63
                refine vcI_q 1 (by kernel_rfl) ?_
                cases c63
                · replace hc63 := bf hc63
                  refine vcI_q 4 (by kernel_rfl) ?_
                  refine vcI_end 79 [(1, .d (.v (.bool true))), (2, .d (.v (.bool odd))), (3, .d (.v (.int .u64 last))), (4, .d (.v (.bool more))), (10, .d (.v (.bool more))), (11, .d (.v (.bool false))), (18, .d (.v (.int .i64 m))), (19, .d (.v (.bool false))), (36, .d (.v (.bool false))), (40, .d (.v (.bool false))), (51, .d (.v (.bool false))), (58, .d (.v (.bool true)))] [] (by kernel_rfl) (by kernel_rfl) (by kernel_rfl) ?_
                  refine vc_ret ?_
                  refine block_r ?_
                  refine seq_r ?_
                  refine ret_1 (d := .v (.bool more)) (by kernel_rfl) ?_
                  exact ⟨_, rfl, by unfold UpP; simp_all <;> omega⟩
                · replace hc63 := bt hc63
                  refine vcI_q 4 (by kernel_rfl) ?_
                  refine vcI_end 79 [(1, .d (.v (.bool true))), (2, .d (.v (.bool odd))), (3, .d (.v (.int .u64 last))), (4, .d (.v (.bool more))), (10, .d (.v (.bool true))), (11, .d (.v (.bool false))), (18, .d (.v (.int .i64 m))), (19, .d (.v (.bool false))), (36, .d (.v (.bool false))), (40, .d (.v (.bool false))), (51, .d (.v (.bool false))), (58, .d (.v (.bool true)))] [] (by kernel_rfl) (by kernel_rfl) (by kernel_rfl) ?_
                  refine vc_ret ?_
                  refine block_r ?_
                  refine seq_r ?_
                  refine ret_1 (d := .v (.bool true)) (by kernel_rfl) ?_
                  exact ⟨_, rfl, by unfold UpP; simp_all <;> omega⟩
          · replace hc52 := bt hc52
            refine vc_condt (by kernel_rfl) ?_
            refine vc_seqr rfl ?_
            refine vcI_q 1 (by kernel_rfl) ?_
            refine vcI_bin (op := .gtr) (t := 22) (a := .int .u64 last) (b := .int .u64 0) (dst := (some 54)) (by kernel_rfl) ?_
            intro c54 hc54
            refine vcI_q 1 (by kernel_rfl) ?_
            cases c54
            · replace hc54 := bf hc54
              refine vcI_q 3 (by kernel_rfl) ?_
              refine vcI_end 79 [(1, .d (.v (.bool neg))), (2, .d (.v (.bool odd))), (3, .d (.v (.int .u64 last))), (4, .d (.v (.bool more))), (10, .d (.v (.bool more))), (11, .d (.v (.bool false))), (18, .d (.v (.int .i64 m))), (19, .d (.v (.bool false))), (36, .d (.v (.bool false))), (40, .d (.v (.bool false))), (51, .d (.v (.bool true)))] [] (by kernel_rfl) (by kernel_rfl) (by kernel_rfl) ?_
              refine vc_ret ?_
              refine block_r ?_
              refine seq_r ?_
              refine ret_1 (d := .v (.bool more)) (by kernel_rfl) ?_
              exact ⟨_, rfl, by unfold UpP; simp_all <;> omega⟩
            · replace hc54 := bt hc54
              refine vcI_q 3 (by kernel_rfl) ?_
              refine vcI_end 79 [(1, .d (.v (.bool neg))), (2, .d (.v (.bool odd))), (3, .d (.v (.int .u64 last))), (4, .d (.v (.bool more))), (10, .d (.v (.bool true))), (11, .d (.v (.bool false))), (18, .d (.v (.int .i64 m))), (19, .d (.v (.bool false))), (36, .d (.v (.bool false))), (40, .d (.v (.bool false))), (51, .d (.v (.bool true)))] [] (by kernel_rfl) (by kernel_rfl) (by kernel_rfl) ?_
              refine vc_ret ?_
              refine block_r ?_
              refine seq_r ?_
              refine ret_1 (d := .v (.bool true)) (by kernel_rfl) ?_
              exact ⟨_, rfl, by unfold UpP; simp_all <;> omega⟩
        · replace hc41 := bt hc41
          refine vc_condt (by kernel_rfl) ?_
          refine vc_seqr rfl ?_
          refine vcI_q 1 (by kernel_rfl) ?_
          refine vcI_bin (op := .gtr) (t := 22) (a := .int .u64 last) (b := .int .u64 5) (dst := (some 43)) (by kernel_rfl) ?_
          intro c43 hc43
          refine vcI_q 1 (by kernel_rfl) ?_
          cases c43
          · replace hc43 := bf hc43
            refine vcI_q 1 (by kernel_rfl) ?_
            refine vcI_bin (op := .eql) (t := 22) (a := .int .u64 last) (b := .int .u64 5) (dst := (some 46)) (by kernel_rfl) ?_
            intro c46 hc46
            refine vcI_q 1 (by kernel_rfl) ?_
            cases c46
            · replace hc46 := bf hc46
              refine vcI_q 4 (by kernel_rfl) ?_
              refine vcI_end 79 [(1, .d (.v (.bool neg))), (2, .d (.v (.bool odd))), (3, .d (.v (.int .u64 last))), (4, .d (.v (.bool more))), (10, .d (.v (.bool false))), (11, .d (.v (.bool false))), (18, .d (.v (.int .i64 m))), (19, .d (.v (.bool false))), (36, .d (.v (.bool false))), (40, .d (.v (.bool true)))] [] (by kernel_rfl) (by kernel_rfl) (by kernel_rfl) ?_
              refine vc_ret ?_
              refine block_r ?_
              refine seq_r ?_
              refine ret_1 (d := .v (.bool false)) (by kernel_rfl) ?_
              exact ⟨_, rfl, by unfold UpP; simp_all <;> omega⟩
            · replace hc46 := bt hc46
              refine vcI_q 4 (by kernel_rfl) ?_
              refine vcI_end 79 [(1, .d (.v (.bool neg))), (2, .d (.v (.bool odd))), (3, .d (.v (.int .u64 last))), (4, .d (.v (.bool more))), (10, .d (.v (.bool more))), (11, .d (.v (.bool false))), (18, .d (.v (.int .i64 m))), (19, .d (.v (.bool false))), (36, .d (.v (.bool false))), (40, .d (.v (.bool true)))] [] (by kernel_rfl) (by kernel_rfl) (by kernel_rfl) ?_
              refine vc_ret ?_
              refine block_r ?_
              refine seq_r ?_
              refine ret_1 (d := .v (.bool more)) (by kernel_rfl) ?_
              exact ⟨_, rfl, by unfold UpP; simp_all <;> omega⟩
          · replace hc43 := bt hc43
            refine vcI_q 7 (by kernel_rfl) ?_
            refine vcI_end 79 [(1, .d (.v (.bool neg))), (2, .d (.v (.bool odd))), (3, .d (.v (.int .u64 last))), (4, .d (.v (.bool more))), (10, .d (.v (.bool true))), (11, .d (.v (.bool false))), (18, .d (.v (.int .i64 m))), (19, .d (.v (.bool false))), (36, .d (.v (.bool false))), (40, .d (.v (.bool true)))] [] (by kernel_rfl) (by kernel_rfl) (by kernel_rfl) ?_
            refine vc_ret ?_
            refine block_r ?_
            refine seq_r ?_
            refine ret_1 (d := .v (.bool true)) (by kernel_rfl) ?_
            exact ⟨_, rfl, by unfold UpP; simp_all <;> omega⟩
      · replace hc37 := bt hc37
        refine vc_condt (by kernel_rfl) ?_
        refine vc_seqr rfl ?_
        refine vcI_q 1 (by kernel_rfl) ?_
        refine vcI_bin (op := .geq) (t := 22) (a := .int .u64 last) (b := .int .u64 5) (dst := (some 39)) (by kernel_rfl) ?_
        intro c39 hc39
        refine vcI_q 1 (by kernel_rfl) ?_
        refine vcI_end 79 [(1, .d (.v (.bool neg))), (2, .d (.v (.bool odd))), (3, .d (.v (.int .u64 last))), (4, .d (.v (.bool more))), (10, .d (.v (.bool c39))), (11, .d (.v (.bool false))), (18, .d (.v (.int .i64 m))), (19, .d (.v (.bool false))), (36, .d (.v (.bool true)))] [] (by kernel_rfl) (by kernel_rfl) (by kernel_rfl) ?_
        refine vc_ret ?_
        refine block_r ?_
        refine seq_r ?_
        refine ret_1 (d := .v (.bool c39)) (by kernel_rfl) ?_
        exact ⟨_, rfl, by unfold UpP; simp_all <;> omega⟩
    · replace hc20 := bt hc20
      refine vc_condt (by kernel_rfl) ?_
      refine vc_seqr rfl ?_
      refine vcI_q 1 (by kernel_rfl) ?_
      refine vcI_bin (op := .gtr) (t := 22) (a := .int .u64 last) (b := .int .u64 5) (dst := (some 22)) (by kernel_rfl) ?_
      intro c22 hc22
      refine vcI_q 1 (by kernel_rfl) ?_
      cases c22
      · replace hc22 := bf hc22
        refine vcI_q 1 (by kernel_rfl) ?_
        refine vcI_bin (op := .eql) (t := 22) (a := .int .u64 last) (b := .int .u64 5) (dst := (some 25)) (by kernel_rfl) ?_
        intro c25 hc25
        refine vcI_q 1 (by kernel_rfl) ?_
        cases c25
        · replace hc25 := bf hc25
          refine vcI_q 10 (by kernel_rfl) ?_
          refine vcI_end 79 [(1, .d (.v (.bool neg))), (3, .d (.v (.int .u64 last))), (4, .d (.v (.bool more))), (10, .d (.v (.bool false))), (18, .d (.v (.int .i64 m))), (19, .d (.v (.bool true)))] [] (by kernel_rfl) (by kernel_rfl) (by kernel_rfl) ?_
          refine vc_ret ?_
          refine block_r ?_
          refine seq_r ?_
          refine ret_1 (d := .v (.bool false)) (by kernel_rfl) ?_
          exact ⟨_, rfl, by unfold UpP; simp_all <;> omega⟩
        · replace hc25 := bt hc25
          refine vcI_q 4 (by kernel_rfl) ?_
          cases more
          · skip
            refine vcI_q 6 (by kernel_rfl) ?_
            refine vcI_end 79 [(1, .d (.v (.bool neg))), (3, .d (.v (.int .u64 last))), (4, .d (.v (.bool false))), (10, .d (.v (.bool false))), (18, .d (.v (.int .i64 m))), (19, .d (.v (.bool true)))] [] (by kernel_rfl) (by kernel_rfl) (by kernel_rfl) ?_
            refine vc_ret ?_
            refine block_r ?_
            refine seq_r ?_
            refine ret_1 (d := .v (.bool false)) (by kernel_rfl) ?_
            exact ⟨_, rfl, by unfold UpP; simp_all <;> omega⟩
          · skip
            refine vcI_q 6 (by kernel_rfl) ?_
            refine vcI_end 79 [(1, .d (.v (.bool neg))), (3, .d (.v (.int .u64 last))), (4, .d (.v (.bool true))), (10, .d (.v (.bool true))), (18, .d (.v (.int .i64 m))), (19, .d (.v (.bool true)))] [] (by kernel_rfl) (by kernel_rfl) (by kernel_rfl) ?_
            refine vc_ret ?_
            refine block_r ?_
            refine seq_r ?_
            refine ret_1 (d := .v (.bool true)) (by kernel_rfl) ?_
            exact ⟨_, rfl, by unfold UpP; simp_all <;> omega⟩
      · replace hc22 := bt hc22
        refine vcI_q 13 (by kernel_rfl) ?_
        refine vcI_end 79 [(1, .d (.v (.bool neg))), (3, .d (.v (.int .u64 last))), (4, .d (.v (.bool more))), (10, .d (.v (.bool true))), (18, .d (.v (.int .i64 m))), (19, .d (.v (.bool true)))] [] (by kernel_rfl) (by kernel_rfl) (by kernel_rfl) ?_
        refine vc_ret ?_
        refine block_r ?_
        refine seq_r ?_
        refine ret_1 (d := .v (.bool true)) (by kernel_rfl) ?_
        exact ⟨_, rfl, by unfold UpP; simp_all <;> omega⟩
  · replace hc13 := bt hc13
    refine vcI_q 1 (by kernel_rfl) ?_
    refine vcI_un (op := .not) (a := .bool more) (dst := (some 16)) (by kernel_rfl) ?_
    intro c16 hc16
    refine vcI_q 2 (by kernel_rfl) ?_
    refine vcI_end 79 [(0, .d (.v (.int .i64 m))), (1, .d (.v (.bool neg))), (2, .d (.v (.bool odd))), (3, .d (.v (.int .u64 last))), (4, .d (.v (.bool more))), (10, .d (.v (.bool false))), (11, .d (.v (.bool c16)))] [] (by kernel_rfl) (by kernel_rfl) (by kernel_rfl) ?_
    refine vc_seq ?_
    refine vc_seqr rfl ?_
    refine vcI_q 1 (by kernel_rfl) ?_
    refine vcI_end 79 [(1, .d (.v (.bool neg))), (2, .d (.v (.bool odd))), (3, .d (.v (.int .u64 last))), (4, .d (.v (.bool more))), (10, .d (.v (.bool false))), (11, .d (.v (.bool c16))), (18, .d (.v (.int .i64 m)))] [] (by kernel_rfl) (by kernel_rfl) (by kernel_rfl) ?_
    refine vc_block ?_
    refine vc_seqr rfl ?_
    refine vcI_bin (op := .eql) (t := 63) (a := .int .i64 m) (b := .int .i64 1) (dst := (some 20)) (by kernel_rfl) ?_
    intro c20 hc20
    refine vcI_q 1 (by kernel_rfl) ?_
    refine vcI_end 79 [(1, .d (.v (.bool neg))), (2, .d (.v (.bool odd))), (3, .d (.v (.int .u64 last))), (4, .d (.v (.bool more))), (10, .d (.v (.bool false))), (11, .d (.v (.bool c16))), (18, .d (.v (.int .i64 m))), (19, .d (.v (.bool c20)))] [] (by kernel_rfl) (by kernel_rfl) (by kernel_rfl) ?_
    cases c20
    · replace hc20 := bf hc20
      refine vc_condf (by kernel_rfl) ?_
      refine vc_seqr rfl ?_
      refine vcI_bin (op := .eql) (t := 63) (a := .int .i64 m) (b := .int .i64 2) (dst := (some 37)) (by kernel_rfl) ?_
      intro c37 hc37
      refine vcI_q 1 (by kernel_rfl) ?_
      refine vcI_end 79 [(1, .d (.v (.bool neg))), (2, .d (.v (.bool odd))), (3, .d (.v (.int .u64 last))), (4, .d (.v (.bool more))), (10, .d (.v (.bool false))), (11, .d (.v (.bool c16))), (18, .d (.v (.int .i64 m))), (19, .d (.v (.bool false))), (36, .d (.v (.bool c37)))] [] (by kernel_rfl) (by kernel_rfl) (by kernel_rfl) ?_
      cases c37
      · replace hc37 := bf hc37
        refine vc_condf (by kernel_rfl) ?_
        refine vc_seqr rfl ?_
        refine vcI_bin (op := .eql) (t := 63) (a := .int .i64 m) (b := .int .i64 3) (dst := (some 41)) (by kernel_rfl) ?_
        intro c41 hc41
        refine vcI_q 1 (by kernel_rfl) ?_
        refine vcI_end 79 [(1, .d (.v (.bool neg))), (2, .d (.v (.bool odd))), (3, .d (.v (.int .u64 last))), (4, .d (.v (.bool more))), (10, .d (.v (.bool false))), (11, .d (.v (.bool c16))), (18, .d (.v (.int .i64 m))), (19, .d (.v (.bool false))), (36, .d (.v (.bool false))), (40, .d (.v (.bool c41)))] [] (by kernel_rfl) (by kernel_rfl) (by kernel_rfl) ?_
        cases c41
        · replace hc41 := bf hc41
          refine vc_condf (by kernel_rfl) ?_
          refine vc_seqr rfl ?_
          refine vcI_bin (op := .eql) (t := 63) (a := .int .i64 m) (b := .int .i64 4) (dst := (some 52)) (by kernel_rfl) ?_
          intro c52 hc52
          refine vcI_q 1 (by kernel_rfl) ?_
          refine vcI_end 79 [(1, .d (.v (.bool neg))), (2, .d (.v (.bool odd))), (3, .d (.v (.int .u64 last))), (4, .d (.v (.bool more))), (10, .d (.v (.bool false))), (11, .d (.v (.bool c16))), (18, .d (.v (.int .i64 m))), (19, .d (.v (.bool false))), (36, .d (.v (.bool false))), (40, .d (.v (.bool false))), (51, .d (.v (.bool c52)))] [] (by kernel_rfl) (by kernel_rfl) (by kernel_rfl) ?_
          cases c52
          · replace hc52 := bf hc52
            refine vc_condf (by kernel_rfl) ?_
            refine vc_seqr rfl ?_
            refine vcI_bin (op := .eql) (t := 63) (a := .int .i64 m) (b := .int .i64 6) (dst := (some 59)) (by kernel_rfl) ?_
            intro c59 hc59
            refine vcI_q 1 (by kernel_rfl) ?_
            refine vcI_end 79 [(1, .d (.v (.bool neg))), (2, .d (.v (.bool odd))), (3, .d (.v (.int .u64 last))), (4, .d (.v (.bool more))), (10, .d (.v (.bool false))), (11, .d (.v (.bool c16))), (18, .d (.v (.int .i64 m))), (19, .d (.v (.bool false))), (36, .d (.v (.bool false))), (40, .d (.v (.bool false))), (51, .d (.v (.bool false))), (58, .d (.v (.bool c59)))] [] (by kernel_rfl) (by kernel_rfl) (by kernel_rfl) ?_
            cases c59
            · replace hc59 := bf hc59
              refine vc_condf (by kernel_rfl) ?_
              refine vc_seqr rfl ?_
              refine vcI_bin (op := .eql) (t := 63) (a := .int .i64 m) (b := .int .i64 7) (dst := (some 69)) (by kernel_rfl) ?_
              intro c69 hc69
              refine vcI_q 1 (by kernel_rfl) ?_
              refine vcI_end 79 [(1, .d (.v (.bool neg))), (2, .d (.v (.bool odd))), (3, .d (.v (.int .u64 last))), (4, .d (.v (.bool more))), (10, .d (.v (.bool false))), (11, .d (.v (.bool c16))), (18, .d (.v (.int .i64 m))), (19, .d (.v (.bool false))), (36, .d (.v (.bool false))), (40, .d (.v (.bool false))), (51, .d (.v (.bool false))), (58, .d (.v (.bool false))), (68, .d (.v (.bool c69)))] [] (by kernel_rfl) (by kernel_rfl) (by kernel_rfl) ?_
              cases c69
              · replace hc69 := bf hc69
                refine vc_condf (by kernel_rfl) ?_
                refine vc_skip ?_
                refine block_n ?_
                refine seq_n ?_
                refine vc_seqr rfl ?_
                refine vcI_q 1 (by kernel_rfl) ?_
                refine vcI_end 79 [(1, .d (.v (.bool neg))), (2, .d (.v (.bool odd))), (3, .d (.v (.int .u64 last))), (4, .d (.v (.bool more))), (10, .d (.v (.bool false))), (11, .d (.v (.bool c16))), (18, .d (.v (.int .i64 m))), (19, .d (.v (.bool false))), (36, .d (.v (.bool false))), (40, .d (.v (.bool false))), (51, .d (.v (.bool false))), (58, .d (.v (.bool false))), (68, .d (.v (.bool false)))] [] (by kernel_rfl) (by kernel_rfl) (by kernel_rfl) ?_
                refine vc_ret ?_
                refine ret_1 (d := .v (.bool false)) (by kernel_rfl) ?_
                exact ⟨_, rfl, by unfold UpP; simp_all <;> omega⟩
              · replace hc69 := bt hc69
                refine vc_condt (by kernel_rfl) ?_
                refine vc_seqr rfl ?_
                refine vcI_q 1 (by kernel_rfl) ?_
                refine vcI_un (op := .not) (a := .bool neg) (dst := (some 71)) (by kernel_rfl) ?_
                intro c71 hc71
                refine vcI_q 1 (by kernel_rfl) ?_
                cases c71
                · replace hc71 := bf hc71
                  refine vcI_q 7 (by kernel_rfl) ?_
                  refine vcI_end 79 [(1, .d (.v (.bool neg))), (2, .d (.v (.bool odd))), (3, .d (.v (.int .u64 last))), (4, .d (.v (.bool more))), (10, .d (.v (.bool false))), (11, .d (.v (.bool c16))), (18, .d (.v (.int .i64 m))), (19, .d (.v (.bool false))), (36, .d (.v (.bool false))), (40, .d (.v (.bool false))), (51, .d (.v (.bool false))), (58, .d (.v (.bool false))), (68, .d (.v (.bool true)))] [] (by kernel_rfl) (by kernel_rfl) (by kernel_rfl) ?_
                  refine vc_ret ?_
                  refine block_r ?_
                  refine seq_r ?_
                  refine ret_1 (d := .v (.bool false)) (by kernel_rfl) ?_
                  exact ⟨_, rfl, by unfold UpP; simp_all <;> omega⟩
                · replace hc71 := bt hc71
                  refine vcI_q 1 (by kernel_rfl) ?_
                  refine vcI_bin (op := .gtr) (t := 22) (a := .int .u64 last) (b := .int .u64 0) (dst := (some 74)) (by kernel_rfl) ?_
                  intro c74 hc74
                  refine vcI_q 1 (by kernel_rfl) ?_
                  cases c74
                  · replace hc74 := bf hc74
                    refine vcI_q 4 (by kernel_rfl) ?_
                    refine vcI_end 79 [(1, .d (.v (.bool neg))), (2, .d (.v (.bool odd))), (3, .d (.v (.int .u64 last))), (4, .d (.v (.bool more))), (10, .d (.v (.bool more))), (11, .d (.v (.bool c16))), (18, .d (.v (.int .i64 m))), (19, .d (.v (.bool false))), (36, .d (.v (.bool false))), (40, .d (.v (.bool false))), (51, .d (.v (.bool false))), (58, .d (.v (.bool false))), (68, .d (.v (.bool true)))] [] (by kernel_rfl) (by kernel_rfl) (by kernel_rfl) ?_
                    refine vc_ret ?_
                    refine block_r ?_
                    refine seq_r ?_
                    refine ret_1 (d := .v (.bool more)) (by kernel_rfl) ?_
                    exact ⟨_, rfl, by unfold UpP; simp_all <;> omega⟩
                  · replace hc74 := bt hc74
                    refine vcI_q 4 (by kernel_rfl) ?_
                    refine vcI_end 79 [(1, .d (.v (.bool neg))), (2, .d (.v (.bool odd))), (3, .d (.v (.int .u64 last))), (4, .d (.v (.bool more))), (10, .d (.v (.bool true))), (11, .d (.v (.bool c16))), (18, .d (.v (.int .i64 m))), (19, .d (.v (.bool false))), (36, .d (.v (.bool false))), (40, .d (.v (.bool false))), (51, .d (.v (.bool false))), (58, .d (.v (.bool false))), (68, .d (.v (.bool true)))] [] (by kernel_rfl) (by kernel_rfl) (by kernel_rfl) ?_
                    refine vc_ret ?_
                    refine block_r ?_
                    refine seq_r ?_
                    refine ret_1 (d := .v (.bool true)) (by kernel_rfl) ?_
                    exact ⟨_, rfl, by unfold UpP; simp_all <;> omega⟩
            · replace hc59 := bt hc59
              refine vc_condt (by kernel_rfl) ?_
              refine vc_seqr rfl ?_
              refine vcI_q 2 (by kernel_rfl) ?_
              cases neg
              · skip
                refine vcI_q 7 (by kernel_rfl) ?_
                refine vcI_end 79 [(1, .d (.v (.bool false))), (2, .d (.v (.bool odd))), (3, .d (.v (.int .u64 last))), (4, .d (.v (.bool more))), (10, .d (.v (.bool false))), (11, .d (.v (.bool c16))), (18, .d (.v (.int .i64 m))), (19, .d (.v (.bool false))), (36, .d (.v (.bool false))), (40, .d (.v (.bool false))), (51, .d (.v (.bool false))), (58, .d (.v (.bool true)))] [] (by kernel_rfl) (by kernel_rfl) (by kernel_rfl) ?_
                refine vc_ret ?_
                refine block_r ?_
                refine seq_r ?_
                refine ret_1 (d := .v (.bool false)) (by kernel_rfl) ?_
                exact ⟨_, rfl, by unfold UpP; simp_all <;> omega⟩
              · skip
                refine vcI_q 1 (by kernel_rfl) ?_
                refine vcI_bin (op := .gtr) (t := 22) (a := .int .u64 last) (b := .int .u64 0) (dst := (some 63)) (by kernel_rfl) ?_
                intro c63 hc63
                refine vcI_q 1 (by kernel_rfl) ?_
                cases c63
                · replace hc63 := bf hc63
                  refine vcI_q 4 (by kernel_rfl) ?_
                  refine vcI_end 79 [(1, .d (.v (.bool true))), (2, .d (.v (.bool odd))), (3, .d (.v (.int .u64 last))), (4, .d (.v (.bool more))), (10, .d (.v (.bool more))), (11, .d (.v (.bool c16))), (18, .d (.v (.int .i64 m))), (19, .d (.v (.bool false))), (36, .d (.v (.bool false))), (40, .d (.v (.bool false))), (51, .d (.v (.bool false))), (58, .d (.v (.bool true)))] [] (by kernel_rfl) (by kernel_rfl) (by kernel_rfl) ?_
                  refine vc_ret ?_
                  refine block_r ?_
                  refine seq_r ?_
                  refine ret_1 (d := .v (.bool more)) (by kernel_rfl) ?_
                  exact ⟨_, rfl, by unfold UpP; simp_all <;> omega⟩
                · replace hc63 := bt hc63
                  refine vcI_q 4 (by kernel_rfl) ?_
                  refine vcI_end 79 [(1, .d (.v (.bool true))), (2, .d (.v (.bool odd))), (3, .d (.v (.int .u64 last))), (4, .d (.v (.bool more))), (10, .d (.v (.bool true))), (11, .d (.v (.bool c16))), (18, .d (.v (.int .i64 m))), (19, .d (.v (.bool false))), (36, .d (.v (.bool false))), (40, .d (.v (.bool false))), (51, .d (.v (.bool false))), (58, .d (.v (.bool true)))] [] (by kernel_rfl) (by kernel_rfl) (by kernel_rfl) ?_
                  refine vc_ret ?_
                  refine block_r ?_
                  refine seq_r ?_
                  refine ret_1 (d := .v (.bool true)) (by kernel_rfl) ?_
                  exact ⟨_, rfl, by unfold UpP; simp_all <;> omega⟩
          · replace hc52 := bt hc52
            refine vc_condt (by kernel_rfl) ?_
            refine vc_seqr rfl ?_
            refine vcI_q 1 (by kernel_rfl) ?_
            refine vcI_bin (op := .gtr) (t := 22) (a := .int .u64 last) (b := .int .u64 0) (dst := (some 54)) (by kernel_rfl) ?_
            intro c54 hc54
            refine vcI_q 1 (by kernel_rfl) ?_
            cases c54
            · replace hc54 := bf hc54
              refine vcI_q 3 (by kernel_rfl) ?_
              refine vcI_end 79 [(1, .d (.v (.bool neg))), (2, .d (.v (.bool odd))), (3, .d (.v (.int .u64 last))), (4, .d (.v (.bool more))), (10, .d (.v (.bool more))), (11, .d (.v (.bool c16))), (18, .d (.v (.int .i64 m))), (19, .d (.v (.bool false))), (36, .d (.v (.bool false))), (40, .d (.v (.bool false))), (51, .d (.v (.bool true)))] [] (by kernel_rfl) (by kernel_rfl) (by kernel_rfl) ?_
              refine vc_ret ?_
              refine block_r ?_
              refine seq_r ?_
              refine ret_1 (d := .v (.bool more)) (by kernel_rfl) ?_
              exact ⟨_, rfl, by unfold UpP; simp_all <;> omega⟩
            · replace hc54 := bt hc54
              refine vcI_q 3 (by kernel_rfl) ?_
              refine vcI_end 79 [(1, .d (.v (.bool neg))), (2, .d (.v (.bool odd))), (3, .d (.v (.int .u64 last))), (4, .d (.v (.bool more))), (10, .d (.v (.bool true))), (11, .d (.v (.bool c16))), (18, .d (.v (.int .i64 m))), (19, .d (.v (.bool false))), (36, .d (.v (.bool false))), (40, .d (.v (.bool false))), (51, .d (.v (.bool true)))] [] (by kernel_rfl) (by kernel_rfl) (by kernel_rfl) ?_
              refine vc_ret ?_
              refine block_r ?_
              refine seq_r ?_
              refine ret_1 (d := .v (.bool true)) (by kernel_rfl) ?_
              exact ⟨_, rfl, by unfold UpP; simp_all <;> omega⟩
        · replace hc41 := bt hc41
          refine vc_condt (by kernel_rfl) ?_
          refine vc_seqr rfl ?_
          refine vcI_q 1 (by kernel_rfl) ?_
          refine vcI_bin (op := .gtr) (t := 22) (a := .int .u64 last) (b := .int .u64 5) (dst := (some 43)) (by kernel_rfl) ?_
          intro c43 hc43
          refine vcI_q 1 (by kernel_rfl) ?_
          cases c43
          · replace hc43 := bf hc43
            refine vcI_q 1 (by kernel_rfl) ?_
            refine vcI_bin (op := .eql) (t := 22) (a := .int .u64 last) (b := .int .u64 5) (dst := (some 46)) (by kernel_rfl) ?_
            intro c46 hc46
            refine vcI_q 1 (by kernel_rfl) ?_
            cases c46
            · replace hc46 := bf hc46
              refine vcI_q 4 (by kernel_rfl) ?_
              refine vcI_end 79 [(1, .d (.v (.bool neg))), (2, .d (.v (.bool odd))), (3, .d (.v (.int .u64 last))), (4, .d (.v (.bool more))), (10, .d (.v (.bool false))), (11, .d (.v (.bool c16))), (18, .d (.v (.int .i64 m))), (19, .d (.v (.bool false))), (36, .d (.v (.bool false))), (40, .d (.v (.bool true)))] [] (by kernel_rfl) (by kernel_rfl) (by kernel_rfl) ?_
              refine vc_ret ?_
              refine block_r ?_
              refine seq_r ?_
              refine ret_1 (d := .v (.bool false)) (by kernel_rfl) ?_
              exact ⟨_, rfl, by unfold UpP; simp_all <;> omega⟩
            · replace hc46 := bt hc46
              refine vcI_q 4 (by kernel_rfl) ?_
              refine vcI_end 79 [(1, .d (.v (.bool neg))), (2, .d (.v (.bool odd))), (3, .d (.v (.int .u64 last))), (4, .d (.v (.bool more))), (10, .d (.v (.bool more))), (11, .d (.v (.bool c16))), (18, .d (.v (.int .i64 m))), (19, .d (.v (.bool false))), (36, .d (.v (.bool false))), (40, .d (.v (.bool true)))] [] (by kernel_rfl) (by kernel_rfl) (by kernel_rfl) ?_
              refine vc_ret ?_
              refine block_r ?_
              refine seq_r ?_
              refine ret_1 (d := .v (.bool more)) (by kernel_rfl) ?_
              exact ⟨_, rfl, by unfold UpP; simp_all <;> omega⟩
          · replace hc43 := bt hc43
            refine vcI_q 7 (by kernel_rfl) ?_
            refine vcI_end 79 [(1, .d (.v (.bool neg))), (2, .d (.v (.bool odd))), (3, .d (.v (.int .u64 last))), (4, .d (.v (.bool more))), (10, .d (.v (.bool true))), (11, .d (.v (.bool c16))), (18, .d (.v (.int .i64 m))), (19, .d (.v (.bool false))), (36, .d (.v (.bool false))), (40, .d (.v (.bool true)))] [] (by kernel_rfl) (by kernel_rfl) (by kernel_rfl) ?_
            refine vc_ret ?_
            refine block_r ?_
            refine seq_r ?_
            refine ret_1 (d := .v (.bool true)) (by kernel_rfl) ?_
            exact ⟨_, rfl, by unfold UpP; simp_all <;> omega⟩
      · replace hc37 := bt hc37
        refine vc_condt (by kernel_rfl) ?_
        refine vc_seqr rfl ?_
        refine vcI_q 1 (by kernel_rfl) ?_
        refine vcI_bin (op := .geq) (t := 22) (a := .int .u64 last) (b := .int .u64 5) (dst := (some 39)) (by kernel_rfl) ?_
        intro c39 hc39
        refine vcI_q 1 (by kernel_rfl) ?_
        refine vcI_end 79 [(1, .d (.v (.bool neg))), (2, .d (.v (.bool odd))), (3, .d (.v (.int .u64 last))), (4, .d (.v (.bool more))), (10, .d (.v (.bool c39))), (11, .d (.v (.bool c16))), (18, .d (.v (.int .i64 m))), (19, .d (.v (.bool false))), (36, .d (.v (.bool true)))] [] (by kernel_rfl) (by kernel_rfl) (by kernel_rfl) ?_
        refine vc_ret ?_
        refine block_r ?_
        refine seq_r ?_
        refine ret_1 (d := .v (.bool c39)) (by kernel_rfl) ?_
        exact ⟨_, rfl, by unfold UpP; simp_all <;> omega⟩
    · replace hc20 := bt hc20
      refine vc_condt (by kernel_rfl) ?_
      refine vc_seqr rfl ?_
      refine vcI_q 1 (by kernel_rfl) ?_
      refine vcI_bin (op := .gtr) (t := 22) (a := .int .u64 last) (b := .int .u64 5) (dst := (some 22)) (by kernel_rfl) ?_
      intro c22 hc22
      refine vcI_q 1 (by kernel_rfl) ?_
      cases c22
      · replace hc22 := bf hc22
        refine vcI_q 1 (by kernel_rfl) ?_
        refine vcI_bin (op := .eql) (t := 22) (a := .int .u64 last) (b := .int .u64 5) (dst := (some 25)) (by kernel_rfl) ?_
        intro c25 hc25
        refine vcI_q 1 (by kernel_rfl) ?_
        cases c25
        · replace hc25 := bf hc25
          refine vcI_q 6 (by kernel_rfl) ?_
          cases c16
          · replace hc16 := bf hc16
            refine vcI_q 4 (by kernel_rfl) ?_
            refine vcI_end 79 [(1, .d (.v (.bool neg))), (3, .d (.v (.int .u64 last))), (4, .d (.v (.bool more))), (10, .d (.v (.bool false))), (18, .d (.v (.int .i64 m))), (19, .d (.v (.bool true)))] [] (by kernel_rfl) (by kernel_rfl) (by kernel_rfl) ?_
            refine vc_ret ?_
            refine block_r ?_
            refine seq_r ?_
            refine ret_1 (d := .v (.bool false)) (by kernel_rfl) ?_
            exact ⟨_, rfl, by unfold UpP; simp_all <;> omega⟩
          · replace hc16 := bt hc16
            refine vcI_q 4 (by kernel_rfl) ?_
            refine vcI_end 79 [(1, .d (.v (.bool neg))), (3, .d (.v (.int .u64 last))), (4, .d (.v (.bool more))), (10, .d (.v (.bool odd))), (18, .d (.v (.int .i64 m))), (19, .d (.v (.bool true)))] [] (by kernel_rfl) (by kernel_rfl) (by kernel_rfl) ?_
            refine vc_ret ?_
            refine block_r ?_
            refine seq_r ?_
            refine ret_1 (d := .v (.bool odd)) (by kernel_rfl) ?_
            exact ⟨_, rfl, by unfold UpP; simp_all <;> omega⟩
        · replace hc25 := bt hc25
          refine vcI_q 4 (by kernel_rfl) ?_
          cases more
          · skip
            refine vcI_q 2 (by kernel_rfl) ?_
            cases c16
            · replace hc16 := bf hc16
              refine vcI_q 4 (by kernel_rfl) ?_
              refine vcI_end 79 [(1, .d (.v (.bool neg))), (3, .d (.v (.int .u64 last))), (4, .d (.v (.bool false))), (10, .d (.v (.bool false))), (18, .d (.v (.int .i64 m))), (19, .d (.v (.bool true)))] [] (by kernel_rfl) (by kernel_rfl) (by kernel_rfl) ?_
              refine vc_ret ?_
              refine block_r ?_
              refine seq_r ?_
              refine ret_1 (d := .v (.bool false)) (by kernel_rfl) ?_
              exact ⟨_, rfl, by unfold UpP; simp_all <;> omega⟩
            · replace hc16 := bt hc16
              refine vcI_q 4 (by kernel_rfl) ?_
              refine vcI_end 79 [(1, .d (.v (.bool neg))), (3, .d (.v (.int .u64 last))), (4, .d (.v (.bool false))), (10, .d (.v (.bool odd))), (18, .d (.v (.int .i64 m))), (19, .d (.v (.bool true)))] [] (by kernel_rfl) (by kernel_rfl) (by kernel_rfl) ?_
              refine vc_ret ?_
              refine block_r ?_
              refine seq_r ?_
              refine ret_1 (d := .v (.bool odd)) (by kernel_rfl) ?_
              exact ⟨_, rfl, by unfold UpP; simp_all <;> omega⟩
          · skip
            refine vcI_q 6 (by kernel_rfl) ?_
            refine vcI_end 79 [(1, .d (.v (.bool neg))), (3, .d (.v (.int .u64 last))), (4, .d (.v (.bool true))), (10, .d (.v (.bool true))), (18, .d (.v (.int .i64 m))), (19, .d (.v (.bool true)))] [] (by kernel_rfl) (by kernel_rfl) (by kernel_rfl) ?_
            refine vc_ret ?_
            refine block_r ?_
            refine seq_r ?_
            refine ret_1 (d := .v (.bool true)) (by kernel_rfl) ?_
            exact ⟨_, rfl, by unfold UpP; simp_all <;> omega⟩
      · replace hc22 := bt hc22
        refine vcI_q 13 (by kernel_rfl) ?_
        refine vcI_end 79 [(1, .d (.v (.bool neg))), (3, .d (.v (.int .u64 last))), (4, .d (.v (.bool more))), (10, .d (.v (.bool true))), (18, .d (.v (.int .i64 m))), (19, .d (.v (.bool true)))] [] (by kernel_rfl) (by kernel_rfl) (by kernel_rfl) ?_
        refine vc_ret ?_
        refine block_r ?_
        refine seq_r ?_
        refine ret_1 (d := .v (.bool true)) (by kernel_rfl) ?_
        exact ⟨_, rfl, by unfold UpP; simp_all <;> omega⟩

theorem and_one {x z : Int} (h : BitIs .and .u64 x 1 z) (h0 : 0 ≤ x) (h1 : x < 18446744073709551616) : z = x % 2 := by
  obtain ⟨n, rfl⟩ : ∃ n : Nat, x = n := ⟨x.toNat, by omega⟩
  have e : (BitVec.ofInt 64 (n : Int) &&& BitVec.ofInt 64 1).toNat = n % 2 := by
    rw [BitVec.toNat_and]
    have e1 : (BitVec.ofInt 64 (n : Int)).toNat = n := by simp; omega
    have e2 : (BitVec.ofInt 64 (1 : Int)).toNat = 1 := by decide
    rw [e1, e2, Nat.and_one_is_mod]
  have h' : z = IntKind.u64.wrap (((BitVec.ofInt 64 (n : Int) &&& BitVec.ofInt 64 1).toNat : Nat) : Int) := h
  rw [e] at h'
  rw [h']
  exact IntWalk.u64_in _ (by omega)

end Go.Proofs.Ytdlfgliokkgceaa
