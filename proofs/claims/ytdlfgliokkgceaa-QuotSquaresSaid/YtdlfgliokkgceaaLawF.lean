/-
  The laws of quot that ask no reference: each says yes.
-/
import Derived.Test.YtdlfgliokkgceaaLawE
namespace Go.Proofs.Ytdlfgliokkgceaa
open Go.RowKit
set_option linter.unusedVariables false
set_option linter.unusedSimpArgs false
set_option maxRecDepth 100000

theorem sq_small {p q : Nat} (hp : p < 4294967296) (hq : q < 4294967296) : p * q < E34 :=
  Nat.lt_of_lt_of_le (Nat.mul_lt_mul'' hp hq) (by decide)
theorem back1 {s o o' : Bool} {p q : Nat} {e f : Int} {g : Bool} {k : Nat} {x : Int} {ok : Bool} (h : mulT (s, p, e, o) (false, q, f, o') = (g, k, x, ok)) (hp : p < 4294967296) (hq : q < 4294967296) (h1 : -128 ≤ e) (h2 : e ≤ 127) (h3 : -128 ≤ f) (h4 : f ≤ 127) :
    ok = true ∧ k = p * q ∧ x = e + f ∧ g = (if p * q = 0 then false else s) := by
  have hT : mulT (s, p, e, o) (false, q, f, o') = (if p * q = 0 then false else (s != false), p * q, e + f, true) := fitT_own (sq_small hp hq) (by show -6176 ≤ e + f; omega) (by show e + f ≤ 6111; omega)
  rw [hT] at h
  obtain ⟨a1, a2, a3, a4⟩ := T4.inj h
  refine ⟨a4.symm, a2.symm, a3.symm, ?_⟩
  rw [← a1]
  cases s <;> rfl
theorem back2 {s : Bool} {p q : Nat} {e f x : Int} {g : Bool} {k : Nat} {g2 : Bool} {k2 : Nat} {x2 : Int} {ok2 : Bool} (hs : p = 0 → s = false) (hk : k = p * q) (hx : x = e + f) (hg : g = (if p * q = 0 then false else s)) (hD : qDivT (g != false) k q (x - f) = (g2, k2, x2, ok2))
    (hp : p < 4294967296) (hq : q < 4294967296) (hq0 : q ≠ 0) (h1 : -128 ≤ e) (h2 : e ≤ 127) : ok2 = true ∧ g2 = s ∧ k2 = p ∧ x2 = e := by
  subst hk hx
  rw [show e + f - f = e by omega] at hD
  by_cases hp0 : p = 0
  · subst hp0
    rw [Nat.zero_mul, qdiv_zero hq0 (by omega) (by omega)] at hD
    obtain ⟨a1, a2, a3, a4⟩ := T4.inj hD
    exact ⟨a4.symm, by rw [hs rfl]; exact a1.symm, a2.symm, a3.symm⟩
  · have hpq : p * q ≠ 0 := fun h => by rcases Nat.mul_eq_zero.1 h with k | k <;> contradiction
    rw [qdiv_exact (j := 0) (c := p) hpq hq0 (by simp) (Nat.zero_le _) (.inl rfl) (Nat.lt_of_lt_of_le hp (by decide)) (by omega) (by omega)] at hD
    obtain ⟨a1, a2, a3, a4⟩ := T4.inj hD
    refine ⟨a4.symm, ?_, a2.symm, by omega⟩
    rw [← a1, hg, if_neg hpq]
    cases s <;> rfl

set_option maxHeartbeats 1600000 in
theorem c_QuotBack {p q : Nat} {e f : Int} {neg : Bool} (hp : p < 4294967296) (hq : q < 4294967296) (he0 : -128 ≤ e) (he1 : e ≤ 127) (hf0 : -128 ≤ f) (hf1 : f ≤ 127) : HasC Try.prog 6 [.v (.int .u32 ((p : Int))), .v (.int .u32 ((q : Int))), .v (.int .i8 e), .v (.int .i8 f), .v (.bool neg)] (fun y => y = .v (.bool true)) := by
  refine HasC.of [] (fn := Try.f6) tyOk mixed (fun args w => Try.call6 args w) Try.func6 rfl (by kernel_rfl) (Nat.le_of_ble_eq_true rfl) (⟨_, rfl⟩) ?_
  refine vc_seqr rfl ?_
  refine vcI_q 1 (by kernel_rfl) ?_
  refine vcI_end 60 [(0, .d (.v (.int .u32 ((p : Int))))), (1, .d (.v (.int .u32 ((q : Int))))), (2, .d (.v (.int .i8 e))), (3, .d (.v (.int .i8 f))), (4, .d (.v (.bool neg))), (10, .d (.v (.bool false)))] [] (by kernel_rfl) (by kernel_rfl) (by kernel_rfl) ?_
  refine vc_seq ?_
  refine vc_seqr rfl ?_
  refine vcI_call (f := 9) (ds := []) (dst := (some 17)) (by kernel_rfl) (c_awake03) ?_
  rintro _ rfl
  refine vcI_un (op := .not) (a := .bool true) (dst := (some 18)) (by kernel_rfl) ?_
  intro c18 hc18
  refine vcI_end 60 [(0, .d (.v (.int .u32 ((p : Int))))), (1, .d (.v (.int .u32 ((q : Int))))), (2, .d (.v (.int .i8 e))), (3, .d (.v (.int .i8 f))), (4, .d (.v (.bool neg))), (10, .d (.v (.bool false))), (18, .d (.v (.bool c18)))] [] (by kernel_rfl) (by kernel_rfl) (by kernel_rfl) ?_
  obtain rfl : c18 = false := bff hc18 ((by simp))
  refine vc_condf (by kernel_rfl) ?_
  refine vc_skip ?_
  refine seq_n ?_
  refine vc_seqr rfl ?_
  refine vcI_q 2 (by kernel_rfl) ?_
  cases neg
  · skip
    refine vcI_q 4 (by kernel_rfl) ?_
    refine vcI_conv (t := 48) (t' := 22) (a := .int .u32 ((p : Int))) (dst := (some 25)) (by kernel_rfl) ?_
    intro z25 hz25
    first | (replace hz25 := hz25.u64 (by omega)) | skip
    have hsp : p = 0 → false = false := fun _ => rfl
    refine vcI_call (f := 21) (ds := [.v (.int .u64 z25)]) (dst := (some 26)) (by kernel_rfl) (cw_OfI hz25 (by omega)) ?_
    rintro _ rfl
    refine vcI_q 1 (by kernel_rfl) ?_
    refine vcI_conv (t := 49) (t' := 3) (a := .int .i8 e) (dst := (some 28)) (by kernel_rfl) ?_
    intro z28 hz28
    first | (replace hz28 := hz28.i64 (by omega)) | skip
    refine vcI_q 2 (by kernel_rfl) ?_
    refine vcI_conv (t := 48) (t' := 22) (a := .int .u32 ((q : Int))) (dst := (some 31)) (by kernel_rfl) ?_
    intro z31 hz31
    first | (replace hz31 := hz31.u64 (by omega)) | skip
    refine vcI_q 1 (by kernel_rfl) ?_
    refine vcI_conv (t := 49) (t' := 3) (a := .int .i8 f) (dst := (some 33)) (by kernel_rfl) ?_
    intro z33 hz33
    first | (replace hz33 := hz33.i64 (by omega)) | skip
    refine vcI_call (f := 22) (ds := [.v (.int .u64 z31), .v (.int .i64 z33)]) (dst := (some 34)) (by kernel_rfl) (c_Of03 hz31 (by omega)) ?_
    rintro _ rfl
    have hpB : p < B128 := Nat.lt_trans hp (by decide)
    have hqB : q < B128 := Nat.lt_trans hq (by decide)
    refine vcI_q 4 (by kernel_rfl) ?_
    refine vcI_end 60 [(1, .d (.v (.int .u32 ((q : Int))))), (10, .d (.v (.bool false))), (11, .p 11 0), (12, .p 12 0), (18, .d (.v (.bool false)))] [(11, [.v (.bool false), .v (.int .u64 (hiW (p))), .v (.int .u64 (loW (p))), .v (.int .i64 z28)]), (12, [.v (.bool false), .v (.int .u64 (hiW (q))), .v (.int .u64 (loW (q))), .v (.int .i64 z33)])] (by kernel_rfl) (by kernel_rfl) (by kernel_rfl) ?_
    refine vc_seqr rfl ?_
    refine vcI_q 2 (by kernel_rfl) ?_
    refine vcI_call (f := 23) (ds := [.agg [.v (.bool false), .v (.int .u64 (hiW (p))), .v (.int .u64 (loW (p))), .v (.int .i64 z28)], .agg [.v (.bool false), .v (.int .u64 (hiW (q))), .v (.int .u64 (loW (q))), .v (.int .i64 z33)]]) (dst := (some 38)) (by kernel_rfl) (c_decMulT (o1 := true) (o2 := true) hpB hqB (by omega) (by omega) (by omega) (by omega)) ?_
    rintro _ ⟨g, k, x, ok, rfl, hT⟩
    obtain ⟨b1, b2, b3, b4⟩ := back1 hT hp hq (by omega) (by omega) (by omega) (by omega)
    refine vcI_q 6 (by kernel_rfl) ?_
    refine vcI_end 60 [(1, .d (.v (.int .u32 ((q : Int))))), (10, .d (.v (.bool false))), (11, .p 11 0), (12, .p 12 0), (13, .p 13 0), (14, .d (.v (.bool ok))), (18, .d (.v (.bool false)))] [(11, [.v (.bool false), .v (.int .u64 (hiW (p))), .v (.int .u64 (loW (p))), .v (.int .i64 z28)]), (12, [.v (.bool false), .v (.int .u64 (hiW (q))), .v (.int .u64 (loW (q))), .v (.int .i64 z33)]), (13, [.v (.bool g), .v (.int .u64 (hiW (k))), .v (.int .u64 (loW (k))), .v (.int .i64 x)])] (by kernel_rfl) (by kernel_rfl) (by kernel_rfl) ?_
    refine vc_seq ?_
    refine vc_seqr rfl ?_
    refine vcI_q 1 (by kernel_rfl) ?_
    refine vcI_un (op := .not) (a := .bool ok) (dst := (some 42)) (by kernel_rfl) ?_
    intro c42 hc42
    refine vcI_q 1 (by kernel_rfl) ?_
    obtain rfl : c42 = false := bff hc42 ((by rw [b1]; simp))
    refine vcI_q 1 (by kernel_rfl) ?_
    refine vcI_bin (op := .eql) (t := 48) (a := .int .u32 ((q : Int))) (b := .int .u32 0) (dst := (some 45)) (by kernel_rfl) ?_
    intro c45 hc45
    refine vcI_q 1 (by kernel_rfl) ?_
    refine vcI_end 60 [(1, .d (.v (.int .u32 ((q : Int))))), (10, .d (.v (.bool false))), (11, .p 11 0), (12, .p 12 0), (13, .p 13 0), (14, .d (.v (.bool ok))), (18, .d (.v (.bool false))), (46, .d (.v (.bool c45)))] [(11, [.v (.bool false), .v (.int .u64 (hiW (p))), .v (.int .u64 (loW (p))), .v (.int .i64 z28)]), (12, [.v (.bool false), .v (.int .u64 (hiW (q))), .v (.int .u64 (loW (q))), .v (.int .i64 z33)]), (13, [.v (.bool g), .v (.int .u64 (hiW (k))), .v (.int .u64 (loW (k))), .v (.int .i64 x)])] (by kernel_rfl) (by kernel_rfl) (by kernel_rfl) ?_
    cases c45
    · replace hc45 := bf hc45
      refine vc_condf (by kernel_rfl) ?_
      refine vc_skip ?_
      refine seq_n ?_
      refine vc_seqr rfl ?_
      refine vcI_q 2 (by kernel_rfl) ?_
      refine vcI_call (f := 11) (ds := [.agg [.v (.bool g), .v (.int .u64 (hiW (k))), .v (.int .u64 (loW (k))), .v (.int .i64 x)], .agg [.v (.bool false), .v (.int .u64 (hiW (q))), .v (.int .u64 (loW (q))), .v (.int .i64 z33)]]) (dst := (some 51)) (by kernel_rfl) (c_qDivT (by rw [b2]; exact sq_small hp hq) (Nat.lt_of_lt_of_le hq (by decide)) (by omega) (by omega) (by omega) (by omega)) ?_
      rintro _ ⟨g2, k2, x2, ok2, rfl, hD⟩
      obtain ⟨r1, r2, r3, r4⟩ := back2 hsp b2 b3 b4 hD hp hq (by omega) (by omega) (by omega)
      have hok2 := tru r1
      refine vcI_q 6 (by kernel_rfl) ?_
      refine vcI_end 60 [(1, .d (.v (.int .u32 ((q : Int))))), (10, .d (.v (.bool false))), (11, .p 11 0), (12, .p 12 0), (13, .p 13 0), (14, .d (.v (.bool ok))), (15, .p 15 0), (16, .d (.v (.bool ok2))), (18, .d (.v (.bool false))), (46, .d (.v (.bool false)))] [(11, [.v (.bool false), .v (.int .u64 (hiW (p))), .v (.int .u64 (loW (p))), .v (.int .i64 z28)]), (12, [.v (.bool false), .v (.int .u64 (hiW (q))), .v (.int .u64 (loW (q))), .v (.int .i64 z33)]), (13, [.v (.bool g), .v (.int .u64 (hiW (k))), .v (.int .u64 (loW (k))), .v (.int .i64 x)]), (15, [.v (.bool g2), .v (.int .u64 (hiW (k2))), .v (.int .u64 (loW (k2))), .v (.int .i64 x2)])] (by kernel_rfl) (by kernel_rfl) (by kernel_rfl) ?_
      refine vc_seqr rfl ?_
      refine vcI_q 2 (by kernel_rfl) ?_
      obtain rfl : ok2 = true := hok2.2 (trivial)
      refine vcI_q 2 (by kernel_rfl) ?_
      refine vcI_bin (op := .eql) (t := 28) (a := .agg #[.bool g2, .int .u64 (hiW (k2)), .int .u64 (loW (k2)), .int .i64 x2]) (b := .agg #[.bool false, .int .u64 (hiW (p)), .int .u64 (loW (p)), .int .i64 z28]) (dst := (some 58)) (by kernel_rfl) ?_
      intro c58 hc58
      try simp only [Array.mk.injEq, List.cons.injEq, Value.int.injEq, Value.bool.injEq, Value.string.injEq, true_and, and_true] at hc58
      refine vcI_q 2 (by kernel_rfl) ?_
      refine vcI_end 60 [(1, .d (.v (.int .u32 ((q : Int))))), (10, .d (.v (.bool c58))), (11, .p 11 0), (12, .p 12 0), (13, .p 13 0), (14, .d (.v (.bool ok))), (15, .p 15 0), (18, .d (.v (.bool false))), (46, .d (.v (.bool false)))] [(11, [.v (.bool false), .v (.int .u64 (hiW (p))), .v (.int .u64 (loW (p))), .v (.int .i64 z28)]), (12, [.v (.bool false), .v (.int .u64 (hiW (q))), .v (.int .u64 (loW (q))), .v (.int .i64 z33)]), (13, [.v (.bool g), .v (.int .u64 (hiW (k))), .v (.int .u64 (loW (k))), .v (.int .i64 x)]), (15, [.v (.bool g2), .v (.int .u64 (hiW (k2))), .v (.int .u64 (loW (k2))), .v (.int .i64 x2)])] (by kernel_rfl) (by kernel_rfl) (by kernel_rfl) ?_
      refine vc_ret ?_
      refine ret_1 (d := .v (.bool c58)) (by kernel_rfl) ?_
      rw [hc58.2 (by rw [r2, r3, r4]; simp)]
    · replace hc45 := bt hc45
      refine vc_condt (by kernel_rfl) ?_
      refine vc_seqr rfl ?_
      refine vcI_q 2 (by kernel_rfl) ?_
      refine vcI_end 60 [(1, .d (.v (.int .u32 ((q : Int))))), (10, .d (.v (.bool ok))), (11, .p 11 0), (12, .p 12 0), (13, .p 13 0), (14, .d (.v (.bool ok))), (18, .d (.v (.bool false))), (46, .d (.v (.bool true)))] [(11, [.v (.bool false), .v (.int .u64 (hiW (p))), .v (.int .u64 (loW (p))), .v (.int .i64 z28)]), (12, [.v (.bool false), .v (.int .u64 (hiW (q))), .v (.int .u64 (loW (q))), .v (.int .i64 z33)]), (13, [.v (.bool g), .v (.int .u64 (hiW (k))), .v (.int .u64 (loW (k))), .v (.int .i64 x)])] (by kernel_rfl) (by kernel_rfl) (by kernel_rfl) ?_
      refine vc_ret ?_
      refine seq_r ?_
      refine ret_1 (d := .v (.bool ok)) (by kernel_rfl) ?_
      rw [b1]
  · skip
    refine vcI_q 1 (by kernel_rfl) ?_
    refine vcI_bin (op := .gtr) (t := 48) (a := .int .u32 ((p : Int))) (b := .int .u32 0) (dst := (some 22)) (by kernel_rfl) ?_
    intro c22 hc22
    have hsp : p = 0 → c22 = false := fun h => bff hc22 (by omega)
    refine vcI_q 2 (by kernel_rfl) ?_
    refine vcI_conv (t := 48) (t' := 22) (a := .int .u32 ((p : Int))) (dst := (some 25)) (by kernel_rfl) ?_
    intro z25 hz25
    first | (replace hz25 := hz25.u64 (by omega)) | skip
    refine vcI_call (f := 21) (ds := [.v (.int .u64 z25)]) (dst := (some 26)) (by kernel_rfl) (cw_OfI hz25 (by omega)) ?_
    rintro _ rfl
    refine vcI_q 1 (by kernel_rfl) ?_
    refine vcI_conv (t := 49) (t' := 3) (a := .int .i8 e) (dst := (some 28)) (by kernel_rfl) ?_
    intro z28 hz28
    first | (replace hz28 := hz28.i64 (by omega)) | skip
    refine vcI_q 2 (by kernel_rfl) ?_
    refine vcI_conv (t := 48) (t' := 22) (a := .int .u32 ((q : Int))) (dst := (some 31)) (by kernel_rfl) ?_
    intro z31 hz31
    first | (replace hz31 := hz31.u64 (by omega)) | skip
    refine vcI_q 1 (by kernel_rfl) ?_
    refine vcI_conv (t := 49) (t' := 3) (a := .int .i8 f) (dst := (some 33)) (by kernel_rfl) ?_
    intro z33 hz33
    first | (replace hz33 := hz33.i64 (by omega)) | skip
    refine vcI_call (f := 22) (ds := [.v (.int .u64 z31), .v (.int .i64 z33)]) (dst := (some 34)) (by kernel_rfl) (c_Of03 hz31 (by omega)) ?_
    rintro _ rfl
    have hpB : p < B128 := Nat.lt_trans hp (by decide)
    have hqB : q < B128 := Nat.lt_trans hq (by decide)
    refine vcI_q 4 (by kernel_rfl) ?_
    refine vcI_end 60 [(1, .d (.v (.int .u32 ((q : Int))))), (10, .d (.v (.bool false))), (11, .p 11 0), (12, .p 12 0), (18, .d (.v (.bool false)))] [(11, [.v (.bool c22), .v (.int .u64 (hiW (p))), .v (.int .u64 (loW (p))), .v (.int .i64 z28)]), (12, [.v (.bool false), .v (.int .u64 (hiW (q))), .v (.int .u64 (loW (q))), .v (.int .i64 z33)])] (by kernel_rfl) (by kernel_rfl) (by kernel_rfl) ?_
    refine vc_seqr rfl ?_
    refine vcI_q 2 (by kernel_rfl) ?_
    refine vcI_call (f := 23) (ds := [.agg [.v (.bool c22), .v (.int .u64 (hiW (p))), .v (.int .u64 (loW (p))), .v (.int .i64 z28)], .agg [.v (.bool false), .v (.int .u64 (hiW (q))), .v (.int .u64 (loW (q))), .v (.int .i64 z33)]]) (dst := (some 38)) (by kernel_rfl) (c_decMulT (o1 := true) (o2 := true) hpB hqB (by omega) (by omega) (by omega) (by omega)) ?_
    rintro _ ⟨g, k, x, ok, rfl, hT⟩
    obtain ⟨b1, b2, b3, b4⟩ := back1 hT hp hq (by omega) (by omega) (by omega) (by omega)
    refine vcI_q 6 (by kernel_rfl) ?_
    refine vcI_end 60 [(1, .d (.v (.int .u32 ((q : Int))))), (10, .d (.v (.bool false))), (11, .p 11 0), (12, .p 12 0), (13, .p 13 0), (14, .d (.v (.bool ok))), (18, .d (.v (.bool false)))] [(11, [.v (.bool c22), .v (.int .u64 (hiW (p))), .v (.int .u64 (loW (p))), .v (.int .i64 z28)]), (12, [.v (.bool false), .v (.int .u64 (hiW (q))), .v (.int .u64 (loW (q))), .v (.int .i64 z33)]), (13, [.v (.bool g), .v (.int .u64 (hiW (k))), .v (.int .u64 (loW (k))), .v (.int .i64 x)])] (by kernel_rfl) (by kernel_rfl) (by kernel_rfl) ?_
    refine vc_seq ?_
    refine vc_seqr rfl ?_
    refine vcI_q 1 (by kernel_rfl) ?_
    refine vcI_un (op := .not) (a := .bool ok) (dst := (some 42)) (by kernel_rfl) ?_
    intro c42 hc42
    refine vcI_q 1 (by kernel_rfl) ?_
    obtain rfl : c42 = false := bff hc42 ((by rw [b1]; simp))
    refine vcI_q 1 (by kernel_rfl) ?_
    refine vcI_bin (op := .eql) (t := 48) (a := .int .u32 ((q : Int))) (b := .int .u32 0) (dst := (some 45)) (by kernel_rfl) ?_
    intro c45 hc45
    refine vcI_q 1 (by kernel_rfl) ?_
    refine vcI_end 60 [(1, .d (.v (.int .u32 ((q : Int))))), (10, .d (.v (.bool false))), (11, .p 11 0), (12, .p 12 0), (13, .p 13 0), (14, .d (.v (.bool ok))), (18, .d (.v (.bool false))), (46, .d (.v (.bool c45)))] [(11, [.v (.bool c22), .v (.int .u64 (hiW (p))), .v (.int .u64 (loW (p))), .v (.int .i64 z28)]), (12, [.v (.bool false), .v (.int .u64 (hiW (q))), .v (.int .u64 (loW (q))), .v (.int .i64 z33)]), (13, [.v (.bool g), .v (.int .u64 (hiW (k))), .v (.int .u64 (loW (k))), .v (.int .i64 x)])] (by kernel_rfl) (by kernel_rfl) (by kernel_rfl) ?_
    cases c45
    · replace hc45 := bf hc45
      refine vc_condf (by kernel_rfl) ?_
      refine vc_skip ?_
      refine seq_n ?_
      refine vc_seqr rfl ?_
      refine vcI_q 2 (by kernel_rfl) ?_
      refine vcI_call (f := 11) (ds := [.agg [.v (.bool g), .v (.int .u64 (hiW (k))), .v (.int .u64 (loW (k))), .v (.int .i64 x)], .agg [.v (.bool false), .v (.int .u64 (hiW (q))), .v (.int .u64 (loW (q))), .v (.int .i64 z33)]]) (dst := (some 51)) (by kernel_rfl) (c_qDivT (by rw [b2]; exact sq_small hp hq) (Nat.lt_of_lt_of_le hq (by decide)) (by omega) (by omega) (by omega) (by omega)) ?_
      rintro _ ⟨g2, k2, x2, ok2, rfl, hD⟩
      obtain ⟨r1, r2, r3, r4⟩ := back2 hsp b2 b3 b4 hD hp hq (by omega) (by omega) (by omega)
      have hok2 := tru r1
      refine vcI_q 6 (by kernel_rfl) ?_
      refine vcI_end 60 [(1, .d (.v (.int .u32 ((q : Int))))), (10, .d (.v (.bool false))), (11, .p 11 0), (12, .p 12 0), (13, .p 13 0), (14, .d (.v (.bool ok))), (15, .p 15 0), (16, .d (.v (.bool ok2))), (18, .d (.v (.bool false))), (46, .d (.v (.bool false)))] [(11, [.v (.bool c22), .v (.int .u64 (hiW (p))), .v (.int .u64 (loW (p))), .v (.int .i64 z28)]), (12, [.v (.bool false), .v (.int .u64 (hiW (q))), .v (.int .u64 (loW (q))), .v (.int .i64 z33)]), (13, [.v (.bool g), .v (.int .u64 (hiW (k))), .v (.int .u64 (loW (k))), .v (.int .i64 x)]), (15, [.v (.bool g2), .v (.int .u64 (hiW (k2))), .v (.int .u64 (loW (k2))), .v (.int .i64 x2)])] (by kernel_rfl) (by kernel_rfl) (by kernel_rfl) ?_
      refine vc_seqr rfl ?_
      refine vcI_q 2 (by kernel_rfl) ?_
      obtain rfl : ok2 = true := hok2.2 (trivial)
      refine vcI_q 2 (by kernel_rfl) ?_
      refine vcI_bin (op := .eql) (t := 28) (a := .agg #[.bool g2, .int .u64 (hiW (k2)), .int .u64 (loW (k2)), .int .i64 x2]) (b := .agg #[.bool c22, .int .u64 (hiW (p)), .int .u64 (loW (p)), .int .i64 z28]) (dst := (some 58)) (by kernel_rfl) ?_
      intro c58 hc58
      try simp only [Array.mk.injEq, List.cons.injEq, Value.int.injEq, Value.bool.injEq, Value.string.injEq, true_and, and_true] at hc58
      refine vcI_q 2 (by kernel_rfl) ?_
      refine vcI_end 60 [(1, .d (.v (.int .u32 ((q : Int))))), (10, .d (.v (.bool c58))), (11, .p 11 0), (12, .p 12 0), (13, .p 13 0), (14, .d (.v (.bool ok))), (15, .p 15 0), (18, .d (.v (.bool false))), (46, .d (.v (.bool false)))] [(11, [.v (.bool c22), .v (.int .u64 (hiW (p))), .v (.int .u64 (loW (p))), .v (.int .i64 z28)]), (12, [.v (.bool false), .v (.int .u64 (hiW (q))), .v (.int .u64 (loW (q))), .v (.int .i64 z33)]), (13, [.v (.bool g), .v (.int .u64 (hiW (k))), .v (.int .u64 (loW (k))), .v (.int .i64 x)]), (15, [.v (.bool g2), .v (.int .u64 (hiW (k2))), .v (.int .u64 (loW (k2))), .v (.int .i64 x2)])] (by kernel_rfl) (by kernel_rfl) (by kernel_rfl) ?_
      refine vc_ret ?_
      refine ret_1 (d := .v (.bool c58)) (by kernel_rfl) ?_
      rw [hc58.2 (by rw [r2, r3, r4]; simp)]
    · replace hc45 := bt hc45
      refine vc_condt (by kernel_rfl) ?_
      refine vc_seqr rfl ?_
      refine vcI_q 2 (by kernel_rfl) ?_
      refine vcI_end 60 [(1, .d (.v (.int .u32 ((q : Int))))), (10, .d (.v (.bool ok))), (11, .p 11 0), (12, .p 12 0), (13, .p 13 0), (14, .d (.v (.bool ok))), (18, .d (.v (.bool false))), (46, .d (.v (.bool true)))] [(11, [.v (.bool c22), .v (.int .u64 (hiW (p))), .v (.int .u64 (loW (p))), .v (.int .i64 z28)]), (12, [.v (.bool false), .v (.int .u64 (hiW (q))), .v (.int .u64 (loW (q))), .v (.int .i64 z33)]), (13, [.v (.bool g), .v (.int .u64 (hiW (k))), .v (.int .u64 (loW (k))), .v (.int .i64 x)])] (by kernel_rfl) (by kernel_rfl) (by kernel_rfl) ?_
      refine vc_ret ?_
      refine seq_r ?_
      refine ret_1 (d := .v (.bool ok)) (by kernel_rfl) ?_
      rw [b1]

theorem one_div {s : Bool} {c : Nat} {x : Int} (hc : c < E34) (h0 : c = 0 → s = false) (h1 : -6176 ≤ x) (h2 : x ≤ 6111) : qDivT (s != false) c 1 (x - 0) = (s, c, x, true) := by
  rw [Int.sub_zero]
  by_cases hc0 : c = 0
  · rw [h0 hc0]
    subst hc0
    exact qdiv_zero (by decide) h1 h2
  · rw [qdiv_exact (j := 0) (c := c) hc0 (by decide) (by simp) (Nat.zero_le _) (.inl rfl) hc (by omega) (by omega)]
    cases s <;> simp
theorem self_div {s : Bool} {c : Nat} {x : Int} {g2 : Bool} {k2 : Nat} {x2 : Int} {ok2 : Bool} (hD : qDivT (s != s) c c (x - x) = (g2, k2, x2, ok2)) : (c = 0 ∧ ok2 = false) ∨ (c ≠ 0 ∧ ok2 = true ∧ g2 = false ∧ k2 = 1 ∧ x2 = 0) := by
  by_cases hc0 : c = 0
  · rw [qDivT, if_pos hc0] at hD
    exact .inl ⟨hc0, (none4 hD).2.2.2⟩
  · rw [Int.sub_self, qdiv_exact (j := 0) (c := 1) hc0 hc0 (by simp) (Nat.zero_le _) (.inl rfl) (by decide) (by decide) (by decide)] at hD
    obtain ⟨a1, a2, a3, a4⟩ := T4.inj hD
    refine .inr ⟨hc0, a4.symm, ?_, a2.symm, by omega⟩
    rw [← a1]
    cases s <;> rfl

set_option maxHeartbeats 1600000 in
theorem c_QuotOnes {g1 : Bool} {n1 : Nat} {e1 : Int} (h1 : n1 < B128) : HasC Try.prog 7 [.agg [.v (.bool g1), .v (.int .u64 (hiW (n1))), .v (.int .u64 (loW (n1))), .v (.int .i64 e1)]] (fun y => y = .v (.bool true)) := by
  refine HasC.of [] (fn := Try.f7) tyOk mixed (fun args w => Try.call7 args w) Try.func7 rfl (by kernel_rfl) (Nat.le_of_ble_eq_true rfl) (⟨_, rfl⟩) ?_
  refine vc_seqr rfl ?_
  refine vcI_q 2 (by kernel_rfl) ?_
  refine vcI_end 79 [(1, .p 1 0), (2, .d (.v (.bool false)))] [(1, [.v (.bool g1), .v (.int .u64 (hiW (n1))), .v (.int .u64 (loW (n1))), .v (.int .i64 e1)])] (by kernel_rfl) (by kernel_rfl) (by kernel_rfl) ?_
  refine vc_seq ?_
  refine vc_seqr rfl ?_
  refine vcI_call (f := 9) (ds := []) (dst := (some 13)) (by kernel_rfl) (c_awake03) ?_
  rintro _ rfl
  refine vcI_un (op := .not) (a := .bool true) (dst := (some 14)) (by kernel_rfl) ?_
  intro c14 hc14
  refine vcI_end 79 [(1, .p 1 0), (2, .d (.v (.bool false))), (14, .d (.v (.bool c14)))] [(1, [.v (.bool g1), .v (.int .u64 (hiW (n1))), .v (.int .u64 (loW (n1))), .v (.int .i64 e1)])] (by kernel_rfl) (by kernel_rfl) (by kernel_rfl) ?_
  obtain rfl : c14 = false := bff hc14 ((by simp))
  refine vc_condf (by kernel_rfl) ?_
  refine vc_skip ?_
  refine seq_n ?_
  refine vc_seqr rfl ?_
  refine vcI_q 1 (by kernel_rfl) ?_
  refine vcI_call (f := 10) (ds := [.agg [.v (.bool g1), .v (.int .u64 (hiW (n1))), .v (.int .u64 (loW (n1))), .v (.int .i64 e1)]]) (dst := (some 16)) (by kernel_rfl) (c_Make h1) ?_
  rintro _ ⟨s, c, x, rfl, hc, hx, hy, hs⟩
  have hcB := Nat.lt_trans hc e34_lt
  refine vcI_q 2 (by kernel_rfl) ?_
  refine vcI_end 79 [(2, .d (.v (.bool false))), (3, .p 3 0), (14, .d (.v (.bool false)))] [(3, [.v (.bool s), .v (.int .u64 (hiW (c))), .v (.int .u64 (loW (c))), .v (.int .i64 x)])] (by kernel_rfl) (by kernel_rfl) (by kernel_rfl) ?_
  refine vc_seqr rfl ?_
  refine vcI_call (f := 24) (ds := [.v (.int .i64 1)]) (dst := (some 17)) (by kernel_rfl) (c_Int1) ?_
  rintro _ rfl
  refine vcI_q 2 (by kernel_rfl) ?_
  refine vcI_end 79 [(2, .d (.v (.bool false))), (3, .p 3 0), (4, .p 4 0), (14, .d (.v (.bool false)))] [(3, [.v (.bool s), .v (.int .u64 (hiW (c))), .v (.int .u64 (loW (c))), .v (.int .i64 x)]), (4, [.v (.bool false), .v (.int .u64 (hiW (1))), .v (.int .u64 (loW (1))), .v (.int .i64 0)])] (by kernel_rfl) (by kernel_rfl) (by kernel_rfl) ?_
  refine vc_seqr rfl ?_
  refine vcI_q 2 (by kernel_rfl) ?_
  refine vcI_call (f := 11) (ds := [.agg [.v (.bool s), .v (.int .u64 (hiW (c))), .v (.int .u64 (loW (c))), .v (.int .i64 x)], .agg [.v (.bool false), .v (.int .u64 (hiW (1))), .v (.int .u64 (loW (1))), .v (.int .i64 0)]]) (dst := (some 21)) (by kernel_rfl) (fit_as (c_qDiv hc (by decide) (by omega) (by omega) (by omega) (by omega)) (one_div hc hs hx hy)) ?_
  rintro _ rfl
  refine vcI_q 6 (by kernel_rfl) ?_
  refine vcI_end 79 [(2, .d (.v (.bool false))), (3, .p 3 0), (4, .p 4 0), (5, .p 5 0), (6, .d (.v (.bool true))), (14, .d (.v (.bool false)))] [(3, [.v (.bool s), .v (.int .u64 (hiW (c))), .v (.int .u64 (loW (c))), .v (.int .i64 x)]), (4, [.v (.bool false), .v (.int .u64 (hiW (1))), .v (.int .u64 (loW (1))), .v (.int .i64 0)]), (5, [.v (.bool s), .v (.int .u64 (hiW (c))), .v (.int .u64 (loW (c))), .v (.int .i64 x)])] (by kernel_rfl) (by kernel_rfl) (by kernel_rfl) ?_
  refine vc_seqr rfl ?_
  refine vcI_q 1 (by kernel_rfl) ?_
  refine vcI_call (f := 16) (ds := [.agg [.v (.bool s), .v (.int .u64 (hiW (c))), .v (.int .u64 (loW (c))), .v (.int .i64 x)], .v (.int .i64 1)]) (dst := (some 26)) (by kernel_rfl) (fit_as (c_qPower hc hx hy (by decide) (by decide)) (pow_1 hc hs hx hy)) ?_
  rintro _ rfl
  refine vcI_q 6 (by kernel_rfl) ?_
  refine vcI_end 79 [(2, .d (.v (.bool false))), (3, .p 3 0), (4, .p 4 0), (5, .p 5 0), (6, .d (.v (.bool true))), (7, .p 7 0), (8, .d (.v (.bool true))), (14, .d (.v (.bool false)))] [(3, [.v (.bool s), .v (.int .u64 (hiW (c))), .v (.int .u64 (loW (c))), .v (.int .i64 x)]), (4, [.v (.bool false), .v (.int .u64 (hiW (1))), .v (.int .u64 (loW (1))), .v (.int .i64 0)]), (5, [.v (.bool s), .v (.int .u64 (hiW (c))), .v (.int .u64 (loW (c))), .v (.int .i64 x)]), (7, [.v (.bool s), .v (.int .u64 (hiW (c))), .v (.int .u64 (loW (c))), .v (.int .i64 x)])] (by kernel_rfl) (by kernel_rfl) (by kernel_rfl) ?_
  refine vc_seqr rfl ?_
  refine vcI_q 1 (by kernel_rfl) ?_
  refine vcI_call (f := 16) (ds := [.agg [.v (.bool s), .v (.int .u64 (hiW (c))), .v (.int .u64 (loW (c))), .v (.int .i64 x)], .v (.int .i64 0)]) (dst := (some 31)) (by kernel_rfl) (fit_as (c_qPower hc hx hy (by decide) (by decide)) (pow_0 _)) ?_
  rintro _ rfl
  refine vcI_q 6 (by kernel_rfl) ?_
  refine vcI_end 79 [(2, .d (.v (.bool false))), (3, .p 3 0), (4, .p 4 0), (5, .p 5 0), (6, .d (.v (.bool true))), (7, .p 7 0), (8, .d (.v (.bool true))), (9, .p 9 0), (10, .d (.v (.bool true))), (14, .d (.v (.bool false)))] [(3, [.v (.bool s), .v (.int .u64 (hiW (c))), .v (.int .u64 (loW (c))), .v (.int .i64 x)]), (4, [.v (.bool false), .v (.int .u64 (hiW (1))), .v (.int .u64 (loW (1))), .v (.int .i64 0)]), (5, [.v (.bool s), .v (.int .u64 (hiW (c))), .v (.int .u64 (loW (c))), .v (.int .i64 x)]), (7, [.v (.bool s), .v (.int .u64 (hiW (c))), .v (.int .u64 (loW (c))), .v (.int .i64 x)]), (9, [.v (.bool false), .v (.int .u64 (hiW (1))), .v (.int .u64 (loW (1))), .v (.int .i64 0)])] (by kernel_rfl) (by kernel_rfl) (by kernel_rfl) ?_
  refine vc_seq ?_
  refine vc_seqr rfl ?_
  refine vcI_q 1 (by kernel_rfl) ?_
  refine vcI_un (op := .not) (a := .bool true) (dst := (some 35)) (by kernel_rfl) ?_
  intro c35 hc35
  refine vcI_q 1 (by kernel_rfl) ?_
  obtain rfl : c35 = false := bff hc35 ((by simp))
  refine vcI_q 2 (by kernel_rfl) ?_
  refine vcI_bin (op := .neq) (t := 28) (a := .agg #[.bool s, .int .u64 (hiW (c)), .int .u64 (loW (c)), .int .i64 x]) (b := .agg #[.bool s, .int .u64 (hiW (c)), .int .u64 (loW (c)), .int .i64 x]) (dst := (some 39)) (by kernel_rfl) ?_
  intro c39 hc39
  try simp only [Array.mk.injEq, List.cons.injEq, Value.int.injEq, Value.bool.injEq, Value.string.injEq, true_and, and_true] at hc39
  refine vcI_q 2 (by kernel_rfl) ?_
  obtain rfl : c39 = false := bff hc39 ((by simp))
  refine vcI_q 1 (by kernel_rfl) ?_
  refine vcI_un (op := .not) (a := .bool true) (dst := (some 43)) (by kernel_rfl) ?_
  intro c43 hc43
  refine vcI_q 2 (by kernel_rfl) ?_
  obtain rfl : c43 = false := bff hc43 ((by simp))
  refine vcI_q 2 (by kernel_rfl) ?_
  refine vcI_bin (op := .neq) (t := 28) (a := .agg #[.bool s, .int .u64 (hiW (c)), .int .u64 (loW (c)), .int .i64 x]) (b := .agg #[.bool s, .int .u64 (hiW (c)), .int .u64 (loW (c)), .int .i64 x]) (dst := (some 48)) (by kernel_rfl) ?_
  intro c48 hc48
  try simp only [Array.mk.injEq, List.cons.injEq, Value.int.injEq, Value.bool.injEq, Value.string.injEq, true_and, and_true] at hc48
  refine vcI_q 2 (by kernel_rfl) ?_
  obtain rfl : c48 = false := bff hc48 ((by simp))
  refine vcI_q 1 (by kernel_rfl) ?_
  refine vcI_un (op := .not) (a := .bool true) (dst := (some 52)) (by kernel_rfl) ?_
  intro c52 hc52
  refine vcI_q 2 (by kernel_rfl) ?_
  obtain rfl : c52 = false := bff hc52 ((by simp))
  refine vcI_q 2 (by kernel_rfl) ?_
  refine vcI_bin (op := .neq) (t := 28) (a := .agg #[.bool false, .int .u64 (hiW (1)), .int .u64 (loW (1)), .int .i64 0]) (b := .agg #[.bool false, .int .u64 (hiW (1)), .int .u64 (loW (1)), .int .i64 0]) (dst := (some 57)) (by kernel_rfl) ?_
  intro c57 hc57
  try simp only [Array.mk.injEq, List.cons.injEq, Value.int.injEq, Value.bool.injEq, Value.string.injEq, true_and, and_true] at hc57
  refine vcI_q 1 (by kernel_rfl) ?_
  refine vcI_end 79 [(2, .d (.v (.bool false))), (3, .p 3 0), (4, .p 4 0), (5, .p 5 0), (7, .p 7 0), (9, .p 9 0), (14, .d (.v (.bool false))), (58, .d (.v (.bool c57)))] [(3, [.v (.bool s), .v (.int .u64 (hiW (c))), .v (.int .u64 (loW (c))), .v (.int .i64 x)]), (4, [.v (.bool false), .v (.int .u64 (hiW (1))), .v (.int .u64 (loW (1))), .v (.int .i64 0)]), (5, [.v (.bool s), .v (.int .u64 (hiW (c))), .v (.int .u64 (loW (c))), .v (.int .i64 x)]), (7, [.v (.bool s), .v (.int .u64 (hiW (c))), .v (.int .u64 (loW (c))), .v (.int .i64 x)]), (9, [.v (.bool false), .v (.int .u64 (hiW (1))), .v (.int .u64 (loW (1))), .v (.int .i64 0)])] (by kernel_rfl) (by kernel_rfl) (by kernel_rfl) ?_
  obtain rfl : c57 = false := bff hc57 ((by simp))
  refine vc_condf (by kernel_rfl) ?_
  refine vc_skip ?_
  refine seq_n ?_
  refine vc_seqr rfl ?_
  refine vcI_q 2 (by kernel_rfl) ?_
  refine vcI_call (f := 11) (ds := [.agg [.v (.bool s), .v (.int .u64 (hiW (c))), .v (.int .u64 (loW (c))), .v (.int .i64 x)], .agg [.v (.bool s), .v (.int .u64 (hiW (c))), .v (.int .u64 (loW (c))), .v (.int .i64 x)]]) (dst := (some 62)) (by kernel_rfl) (c_qDivT hc hc (by omega) (by omega) (by omega) (by omega)) ?_
  rintro _ ⟨g2, k2, x2, ok2, rfl, hD⟩
  have hd := self_div hD
  refine vcI_q 6 (by kernel_rfl) ?_
  refine vcI_end 79 [(2, .d (.v (.bool false))), (3, .p 3 0), (4, .p 4 0), (5, .p 5 0), (7, .p 7 0), (9, .p 9 0), (11, .p 11 0), (12, .d (.v (.bool ok2))), (14, .d (.v (.bool false))), (58, .d (.v (.bool false)))] [(3, [.v (.bool s), .v (.int .u64 (hiW (c))), .v (.int .u64 (loW (c))), .v (.int .i64 x)]), (4, [.v (.bool false), .v (.int .u64 (hiW (1))), .v (.int .u64 (loW (1))), .v (.int .i64 0)]), (5, [.v (.bool s), .v (.int .u64 (hiW (c))), .v (.int .u64 (loW (c))), .v (.int .i64 x)]), (7, [.v (.bool s), .v (.int .u64 (hiW (c))), .v (.int .u64 (loW (c))), .v (.int .i64 x)]), (9, [.v (.bool false), .v (.int .u64 (hiW (1))), .v (.int .u64 (loW (1))), .v (.int .i64 0)]), (11, [.v (.bool g2), .v (.int .u64 (hiW (k2))), .v (.int .u64 (loW (k2))), .v (.int .i64 x2)])] (by kernel_rfl) (by kernel_rfl) (by kernel_rfl) ?_
  refine vc_seqr rfl ?_
  refine vcI_q 1 (by kernel_rfl) ?_
  refine vcI_call (f := 12) (ds := [.agg [.v (.bool s), .v (.int .u64 (hiW (c))), .v (.int .u64 (loW (c))), .v (.int .i64 x)]]) (dst := (some 66)) (by kernel_rfl) (c_Zero hcB) ?_
  rintro _ ⟨z, rfl, hz⟩
  refine vcI_q 1 (by kernel_rfl) ?_
  refine vcI_un (op := .not) (a := .bool ok2) (dst := (some 68)) (by kernel_rfl) ?_
  intro c68 hc68
  refine vcI_bin (op := .eql) (t := 4) (a := .bool z) (b := .bool c68) (dst := (some 69)) (by kernel_rfl) ?_
  intro c69 hc69
  refine vcI_q 1 (by kernel_rfl) ?_
  obtain rfl : c69 = true := hc69.2 ((by rcases hd with ⟨d1, d2⟩ | ⟨d1, d2, _⟩ <;> cases z <;> cases c68 <;> simp_all))
  refine vcI_q 1 (by kernel_rfl) ?_
  refine vcI_call (f := 12) (ds := [.agg [.v (.bool s), .v (.int .u64 (hiW (c))), .v (.int .u64 (loW (c))), .v (.int .i64 x)]]) (dst := (some 72)) (by kernel_rfl) (c_Zero hcB) ?_
  rintro _ ⟨z2, rfl, hz2⟩
  refine vcI_q 1 (by kernel_rfl) ?_
  cases z2
  · replace hz2 := bf hz2
    refine vcI_q 2 (by kernel_rfl) ?_
    refine vcI_bin (op := .eql) (t := 28) (a := .agg #[.bool g2, .int .u64 (hiW (k2)), .int .u64 (loW (k2)), .int .i64 x2]) (b := .agg #[.bool false, .int .u64 (hiW (1)), .int .u64 (loW (1)), .int .i64 0]) (dst := (some 76)) (by kernel_rfl) ?_
    intro c76 hc76
    try simp only [Array.mk.injEq, List.cons.injEq, Value.int.injEq, Value.bool.injEq, Value.string.injEq, true_and, and_true] at hc76
    obtain ⟨r0, r1, r2, r3, r4⟩ := hd.resolve_left (fun h => hz2 h.1)
    refine vcI_q 3 (by kernel_rfl) ?_
    refine vcI_end 79 [(2, .d (.v (.bool c76))), (3, .p 3 0), (4, .p 4 0), (5, .p 5 0), (7, .p 7 0), (9, .p 9 0), (11, .p 11 0), (14, .d (.v (.bool false))), (58, .d (.v (.bool false)))] [(3, [.v (.bool s), .v (.int .u64 (hiW (c))), .v (.int .u64 (loW (c))), .v (.int .i64 x)]), (4, [.v (.bool false), .v (.int .u64 (hiW (1))), .v (.int .u64 (loW (1))), .v (.int .i64 0)]), (5, [.v (.bool s), .v (.int .u64 (hiW (c))), .v (.int .u64 (loW (c))), .v (.int .i64 x)]), (7, [.v (.bool s), .v (.int .u64 (hiW (c))), .v (.int .u64 (loW (c))), .v (.int .i64 x)]), (9, [.v (.bool false), .v (.int .u64 (hiW (1))), .v (.int .u64 (loW (1))), .v (.int .i64 0)]), (11, [.v (.bool g2), .v (.int .u64 (hiW (k2))), .v (.int .u64 (loW (k2))), .v (.int .i64 x2)])] (by kernel_rfl) (by kernel_rfl) (by kernel_rfl) ?_
    refine vc_ret ?_
    refine ret_1 (d := .v (.bool c76)) (by kernel_rfl) ?_
    rw [hc76.2 (by rw [r2, r3, r4]; simp)]
  · replace hz2 := bt hz2
    refine vcI_q 6 (by kernel_rfl) ?_
    refine vcI_end 79 [(2, .d (.v (.bool true))), (3, .p 3 0), (4, .p 4 0), (5, .p 5 0), (7, .p 7 0), (9, .p 9 0), (11, .p 11 0), (14, .d (.v (.bool false))), (58, .d (.v (.bool false)))] [(3, [.v (.bool s), .v (.int .u64 (hiW (c))), .v (.int .u64 (loW (c))), .v (.int .i64 x)]), (4, [.v (.bool false), .v (.int .u64 (hiW (1))), .v (.int .u64 (loW (1))), .v (.int .i64 0)]), (5, [.v (.bool s), .v (.int .u64 (hiW (c))), .v (.int .u64 (loW (c))), .v (.int .i64 x)]), (7, [.v (.bool s), .v (.int .u64 (hiW (c))), .v (.int .u64 (loW (c))), .v (.int .i64 x)]), (9, [.v (.bool false), .v (.int .u64 (hiW (1))), .v (.int .u64 (loW (1))), .v (.int .i64 0)]), (11, [.v (.bool g2), .v (.int .u64 (hiW (k2))), .v (.int .u64 (loW (k2))), .v (.int .i64 x2)])] (by kernel_rfl) (by kernel_rfl) (by kernel_rfl) ?_
    refine vc_ret ?_
    refine ret_1 (d := .v (.bool true)) (by kernel_rfl) ?_
    rfl

theorem square_root {p : Nat} {e : Int} (hp : p < 4294967296) (h1 : -128 ≤ e) (h2 : e ≤ 127) : qRootT false (p * p) (e + e) = (false, p, e, true) := by
  rw [qRoot_pos (.inr rfl)]
  by_cases hp0 : p = 0
  · subst hp0
    rw [Nat.zero_mul, root_zero (by omega) (by omega), show (e + e) / 2 = e by omega]
  · rw [show e + e = 2 * e by omega]
    exact root_exact hp0 (sq_small hp hp) (by omega) (by omega)
theorem square_mul {p : Nat} {e : Int} {o o' : Bool} (hp : p < 4294967296) (h1 : -128 ≤ e) (h2 : e ≤ 127) : mulT (false, p, e, o) (false, p, e, o') = (false, p * p, e + e, true) := by
  have h : mulT (false, p, e, o) (false, p, e, o') = (if p * p = 0 then false else (false != false), p * p, e + e, true) := fitT_own (sq_small hp hp) (by show -6176 ≤ e + e; omega) (by show e + e ≤ 6111; omega)
  rw [h]
  simp
theorem c_decMulA {g1 g2 o1 o2 : Bool} {a b : Nat} {x1 x2 : Int} {g : Bool} {k : Nat} {x : Int} {ok : Bool} (hT : mulT (g1, a, x1, o1) (g2, b, x2, o2) = (g, k, x, ok)) (ha : a < B128) (hb : b < B128) (h1 : -100000000000000000 ≤ x1) (h2 : x1 ≤ 100000000000000000) (h3 : -100000000000000000 ≤ x2) (h4 : x2 ≤ 100000000000000000) :
    HasC Try.prog 23 [dDec g1 a x1, dDec g2 b x2] (fun y => y = .tup [dDec g k x, .v (.bool ok)]) :=
  (c_decMulT (o1 := o1) (o2 := o2) ha hb h1 h2 h3 h4).mono fun y ⟨g', k', x', ok', h1, h2⟩ => by
    rw [hT] at h2
    obtain ⟨a1, a2, a3, a4⟩ := T4.inj h2
    rw [h1, a1, a2, a3, a4]

set_option maxHeartbeats 1600000 in
theorem c_QuotSquares {p : Nat} {e : Int} {g1 : Bool} {n1 : Nat} {e1 : Int} (hp : p < 4294967296) (he0 : -128 ≤ e) (he1 : e ≤ 127) (h1 : n1 < B128) : HasC Try.prog 8 [.v (.int .u32 ((p : Int))), .v (.int .i8 e), .agg [.v (.bool g1), .v (.int .u64 (hiW (n1))), .v (.int .u64 (loW (n1))), .v (.int .i64 e1)]] (fun y => y = .v (.bool true)) := by
  refine HasC.of [] (fn := Try.f8) tyOk mixed (fun args w => Try.call8 args w) Try.func8 rfl (by kernel_rfl) (Nat.le_of_ble_eq_true rfl) (⟨_, rfl⟩) ?_
  refine vc_seqr rfl ?_
  refine vcI_q 2 (by kernel_rfl) ?_
  refine vcI_end 69 [(0, .d (.v (.int .u32 ((p : Int))))), (1, .d (.v (.int .i8 e))), (5, .p 5 0), (6, .d (.v (.bool false)))] [(5, [.v (.bool g1), .v (.int .u64 (hiW (n1))), .v (.int .u64 (loW (n1))), .v (.int .i64 e1)])] (by kernel_rfl) (by kernel_rfl) (by kernel_rfl) ?_
  refine vc_seq ?_
  refine vc_seqr rfl ?_
  refine vcI_call (f := 9) (ds := []) (dst := (some 15)) (by kernel_rfl) (c_awake03) ?_
  rintro _ rfl
  refine vcI_un (op := .not) (a := .bool true) (dst := (some 16)) (by kernel_rfl) ?_
  intro c16 hc16
  refine vcI_end 69 [(0, .d (.v (.int .u32 ((p : Int))))), (1, .d (.v (.int .i8 e))), (5, .p 5 0), (6, .d (.v (.bool false))), (16, .d (.v (.bool c16)))] [(5, [.v (.bool g1), .v (.int .u64 (hiW (n1))), .v (.int .u64 (loW (n1))), .v (.int .i64 e1)])] (by kernel_rfl) (by kernel_rfl) (by kernel_rfl) ?_
  obtain rfl : c16 = false := bff hc16 ((by simp))
  refine vc_condf (by kernel_rfl) ?_
  refine vc_skip ?_
  refine seq_n ?_
  refine vc_seqr rfl ?_
  refine vcI_q 1 (by kernel_rfl) ?_
  refine vcI_conv (t := 48) (t' := 22) (a := .int .u32 ((p : Int))) (dst := (some 18)) (by kernel_rfl) ?_
  intro z18 hz18
  first | (replace hz18 := hz18.u64 (by omega)) | skip
  refine vcI_q 1 (by kernel_rfl) ?_
  refine vcI_conv (t := 49) (t' := 3) (a := .int .i8 e) (dst := (some 20)) (by kernel_rfl) ?_
  intro z20 hz20
  first | (replace hz20 := hz20.i64 (by omega)) | skip
  refine vcI_call (f := 22) (ds := [.v (.int .u64 z18), .v (.int .i64 z20)]) (dst := (some 21)) (by kernel_rfl) (c_Of03 hz18 (by omega)) ?_
  rintro _ rfl
  have hpB : p < B128 := Nat.lt_trans hp (by decide)
  refine vcI_q 2 (by kernel_rfl) ?_
  refine vcI_end 69 [(5, .p 5 0), (6, .d (.v (.bool false))), (7, .p 7 0), (16, .d (.v (.bool false)))] [(5, [.v (.bool g1), .v (.int .u64 (hiW (n1))), .v (.int .u64 (loW (n1))), .v (.int .i64 e1)]), (7, [.v (.bool false), .v (.int .u64 (hiW (p))), .v (.int .u64 (loW (p))), .v (.int .i64 z20)])] (by kernel_rfl) (by kernel_rfl) (by kernel_rfl) ?_
  refine vc_seqr rfl ?_
  refine vcI_q 2 (by kernel_rfl) ?_
  refine vcI_call (f := 23) (ds := [.agg [.v (.bool false), .v (.int .u64 (hiW (p))), .v (.int .u64 (loW (p))), .v (.int .i64 z20)], .agg [.v (.bool false), .v (.int .u64 (hiW (p))), .v (.int .u64 (loW (p))), .v (.int .i64 z20)]]) (dst := (some 25)) (by kernel_rfl) (c_decMulA (o1 := true) (o2 := true) (square_mul hp (by omega) (by omega)) hpB hpB (by omega) (by omega) (by omega) (by omega)) ?_
  rintro _ rfl
  refine vcI_q 6 (by kernel_rfl) ?_
  refine vcI_end 69 [(5, .p 5 0), (6, .d (.v (.bool false))), (7, .p 7 0), (8, .p 8 0), (9, .d (.v (.bool true))), (16, .d (.v (.bool false)))] [(5, [.v (.bool g1), .v (.int .u64 (hiW (n1))), .v (.int .u64 (loW (n1))), .v (.int .i64 e1)]), (7, [.v (.bool false), .v (.int .u64 (hiW (p))), .v (.int .u64 (loW (p))), .v (.int .i64 z20)]), (8, [.v (.bool false), .v (.int .u64 (hiW (p * p))), .v (.int .u64 (loW (p * p))), .v (.int .i64 (z20 + z20))])] (by kernel_rfl) (by kernel_rfl) (by kernel_rfl) ?_
  refine vc_seqr rfl ?_
  refine vcI_q 1 (by kernel_rfl) ?_
  refine vcI_call (f := 18) (ds := [.agg [.v (.bool false), .v (.int .u64 (hiW (p * p))), .v (.int .u64 (loW (p * p))), .v (.int .i64 (z20 + z20))]]) (dst := (some 30)) (by kernel_rfl) (fit_as (c_qRoot (sq_small hp hp) (by omega) (by omega)) (square_root hp (by omega) (by omega))) ?_
  rintro _ rfl
  refine vcI_q 6 (by kernel_rfl) ?_
  refine vcI_end 69 [(5, .p 5 0), (6, .d (.v (.bool false))), (7, .p 7 0), (8, .p 8 0), (9, .d (.v (.bool true))), (10, .p 10 0), (11, .d (.v (.bool true))), (16, .d (.v (.bool false)))] [(5, [.v (.bool g1), .v (.int .u64 (hiW (n1))), .v (.int .u64 (loW (n1))), .v (.int .i64 e1)]), (7, [.v (.bool false), .v (.int .u64 (hiW (p))), .v (.int .u64 (loW (p))), .v (.int .i64 z20)]), (8, [.v (.bool false), .v (.int .u64 (hiW (p * p))), .v (.int .u64 (loW (p * p))), .v (.int .i64 (z20 + z20))]), (10, [.v (.bool false), .v (.int .u64 (hiW (p))), .v (.int .u64 (loW (p))), .v (.int .i64 z20)])] (by kernel_rfl) (by kernel_rfl) (by kernel_rfl) ?_
  refine vc_seq ?_
  refine vc_seqr rfl ?_
  refine vcI_q 1 (by kernel_rfl) ?_
  refine vcI_un (op := .not) (a := .bool true) (dst := (some 34)) (by kernel_rfl) ?_
  intro c34 hc34
  refine vcI_q 1 (by kernel_rfl) ?_
  obtain rfl : c34 = false := bff hc34 ((by simp))
  refine vcI_q 1 (by kernel_rfl) ?_
  refine vcI_un (op := .not) (a := .bool true) (dst := (some 37)) (by kernel_rfl) ?_
  intro c37 hc37
  refine vcI_q 2 (by kernel_rfl) ?_
  obtain rfl : c37 = false := bff hc37 ((by simp))
  refine vcI_q 2 (by kernel_rfl) ?_
  refine vcI_bin (op := .neq) (t := 28) (a := .agg #[.bool false, .int .u64 (hiW (p)), .int .u64 (loW (p)), .int .i64 z20]) (b := .agg #[.bool false, .int .u64 (hiW (p)), .int .u64 (loW (p)), .int .i64 z20]) (dst := (some 42)) (by kernel_rfl) ?_
  intro c42 hc42
  try simp only [Array.mk.injEq, List.cons.injEq, Value.int.injEq, Value.bool.injEq, Value.string.injEq, true_and, and_true] at hc42
  refine vcI_q 1 (by kernel_rfl) ?_
  refine vcI_end 69 [(5, .p 5 0), (6, .d (.v (.bool false))), (7, .p 7 0), (8, .p 8 0), (10, .p 10 0), (16, .d (.v (.bool false))), (43, .d (.v (.bool c42)))] [(5, [.v (.bool g1), .v (.int .u64 (hiW (n1))), .v (.int .u64 (loW (n1))), .v (.int .i64 e1)]), (7, [.v (.bool false), .v (.int .u64 (hiW (p))), .v (.int .u64 (loW (p))), .v (.int .i64 z20)]), (8, [.v (.bool false), .v (.int .u64 (hiW (p * p))), .v (.int .u64 (loW (p * p))), .v (.int .i64 (z20 + z20))]), (10, [.v (.bool false), .v (.int .u64 (hiW (p))), .v (.int .u64 (loW (p))), .v (.int .i64 z20)])] (by kernel_rfl) (by kernel_rfl) (by kernel_rfl) ?_
  obtain rfl : c42 = false := bff hc42 ((by simp))
  refine vc_condf (by kernel_rfl) ?_
  refine vc_skip ?_
  refine seq_n ?_
  refine vc_seqr rfl ?_
  refine vcI_q 1 (by kernel_rfl) ?_
  refine vcI_call (f := 10) (ds := [.agg [.v (.bool g1), .v (.int .u64 (hiW (n1))), .v (.int .u64 (loW (n1))), .v (.int .i64 e1)]]) (dst := (some 45)) (by kernel_rfl) (c_Make h1) ?_
  rintro _ ⟨s, c, x, rfl, hc, hx, hy, hs⟩
  refine vcI_call (f := 25) (ds := [.agg [.v (.bool s), .v (.int .u64 (hiW (c))), .v (.int .u64 (loW (c))), .v (.int .i64 x)]]) (dst := (some 46)) (by kernel_rfl) (c_Abs) ?_
  rintro _ rfl
  obtain ⟨k, y, hR, hk0⟩ := root_ok hc hx hy
  obtain ⟨r1, r2, r3, r4⟩ := rootT_range hR
  have hkB := Nat.lt_trans r1 e34_lt; have hcB := Nat.lt_trans hc e34_lt
  refine vcI_q 2 (by kernel_rfl) ?_
  refine vcI_end 69 [(6, .d (.v (.bool false))), (7, .p 7 0), (8, .p 8 0), (10, .p 10 0), (12, .p 12 0), (16, .d (.v (.bool false))), (43, .d (.v (.bool false)))] [(7, [.v (.bool false), .v (.int .u64 (hiW (p))), .v (.int .u64 (loW (p))), .v (.int .i64 z20)]), (8, [.v (.bool false), .v (.int .u64 (hiW (p * p))), .v (.int .u64 (loW (p * p))), .v (.int .i64 (z20 + z20))]), (10, [.v (.bool false), .v (.int .u64 (hiW (p))), .v (.int .u64 (loW (p))), .v (.int .i64 z20)]), (12, [.v (.bool false), .v (.int .u64 (hiW (c))), .v (.int .u64 (loW (c))), .v (.int .i64 x)])] (by kernel_rfl) (by kernel_rfl) (by kernel_rfl) ?_
  refine vc_seqr rfl ?_
  refine vcI_q 1 (by kernel_rfl) ?_
  refine vcI_call (f := 18) (ds := [.agg [.v (.bool false), .v (.int .u64 (hiW (c))), .v (.int .u64 (loW (c))), .v (.int .i64 x)]]) (dst := (some 49)) (by kernel_rfl) (fit_as (c_qRoot hc (by omega) (by omega)) ((qRoot_pos (.inr rfl)).trans hR)) ?_
  rintro _ rfl
  refine vcI_q 6 (by kernel_rfl) ?_
  refine vcI_end 69 [(6, .d (.v (.bool false))), (7, .p 7 0), (8, .p 8 0), (10, .p 10 0), (12, .p 12 0), (13, .p 13 0), (14, .d (.v (.bool true))), (16, .d (.v (.bool false))), (43, .d (.v (.bool false)))] [(7, [.v (.bool false), .v (.int .u64 (hiW (p))), .v (.int .u64 (loW (p))), .v (.int .i64 z20)]), (8, [.v (.bool false), .v (.int .u64 (hiW (p * p))), .v (.int .u64 (loW (p * p))), .v (.int .i64 (z20 + z20))]), (10, [.v (.bool false), .v (.int .u64 (hiW (p))), .v (.int .u64 (loW (p))), .v (.int .i64 z20)]), (12, [.v (.bool false), .v (.int .u64 (hiW (c))), .v (.int .u64 (loW (c))), .v (.int .i64 x)]), (13, [.v (.bool false), .v (.int .u64 (hiW (k))), .v (.int .u64 (loW (k))), .v (.int .i64 y)])] (by kernel_rfl) (by kernel_rfl) (by kernel_rfl) ?_
  refine vc_seqr rfl ?_
  refine vcI_q 3 (by kernel_rfl) ?_
  refine vcI_call (f := 19) (ds := [.agg [.v (.bool false), .v (.int .u64 (hiW (k))), .v (.int .u64 (loW (k))), .v (.int .i64 y)]]) (dst := (some 55)) (by kernel_rfl) (c_Sign hkB) ?_
  rintro _ rfl
  refine vcI_bin (op := .geq) (t := 3) (a := .int .i64 ((if k = 0 then 0 else if false = true then -1 else 1 : Int))) (b := .int .i64 0) (dst := (some 56)) (by kernel_rfl) ?_
  intro c56 hc56
  refine vcI_q 2 (by kernel_rfl) ?_
  obtain rfl : c56 = true := hc56.2 ((by split <;> simp))
  refine vcI_q 1 (by kernel_rfl) ?_
  refine vcI_call (f := 12) (ds := [.agg [.v (.bool false), .v (.int .u64 (hiW (k))), .v (.int .u64 (loW (k))), .v (.int .i64 y)]]) (dst := (some 60)) (by kernel_rfl) (c_Zero hkB) ?_
  rintro _ ⟨z, rfl, hz⟩
  refine vcI_q 1 (by kernel_rfl) ?_
  refine vcI_call (f := 12) (ds := [.agg [.v (.bool false), .v (.int .u64 (hiW (c))), .v (.int .u64 (loW (c))), .v (.int .i64 x)]]) (dst := (some 62)) (by kernel_rfl) (c_Zero hcB) ?_
  rintro _ ⟨z2, rfl, hz2⟩
  refine vcI_bin (op := .eql) (t := 4) (a := .bool z) (b := .bool z2) (dst := (some 63)) (by kernel_rfl) ?_
  intro c63 hc63
  refine vcI_q 2 (by kernel_rfl) ?_
  obtain rfl : c63 = true := hc63.2 ((by rw [Bool.eq_iff_iff, hz, hz2, hk0]))
  refine vcI_q 1 (by kernel_rfl) ?_
  refine vcI_call (f := 26) (ds := [.agg [.v (.bool false), .v (.int .u64 (hiW (k))), .v (.int .u64 (loW (k))), .v (.int .i64 y)]]) (dst := (some 67)) (by kernel_rfl) (c_May hkB) ?_
  rintro _ ⟨w, rfl, hw⟩
  refine vcI_q 2 (by kernel_rfl) ?_
  refine vcI_end 69 [(6, .d (.v (.bool w))), (7, .p 7 0), (8, .p 8 0), (10, .p 10 0), (12, .p 12 0), (13, .p 13 0), (16, .d (.v (.bool false))), (43, .d (.v (.bool false)))] [(7, [.v (.bool false), .v (.int .u64 (hiW (p))), .v (.int .u64 (loW (p))), .v (.int .i64 z20)]), (8, [.v (.bool false), .v (.int .u64 (hiW (p * p))), .v (.int .u64 (loW (p * p))), .v (.int .i64 (z20 + z20))]), (10, [.v (.bool false), .v (.int .u64 (hiW (p))), .v (.int .u64 (loW (p))), .v (.int .i64 z20)]), (12, [.v (.bool false), .v (.int .u64 (hiW (c))), .v (.int .u64 (loW (c))), .v (.int .i64 x)]), (13, [.v (.bool false), .v (.int .u64 (hiW (k))), .v (.int .u64 (loW (k))), .v (.int .i64 y)])] (by kernel_rfl) (by kernel_rfl) (by kernel_rfl) ?_
  refine vc_ret ?_
  refine ret_1 (d := .v (.bool w)) (by kernel_rfl) ?_
  rw [hw.2 ⟨r1, r2, r3, by simp⟩]

end Go.Proofs.Ytdlfgliokkgceaa
