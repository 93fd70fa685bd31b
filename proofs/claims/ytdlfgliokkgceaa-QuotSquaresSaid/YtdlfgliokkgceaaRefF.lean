/-
  casuistref03: exact, Div, Power, Root.
-/
import Derived.Test.YtdlfgliokkgceaaFitB
namespace Go.Proofs.Ytdlfgliokkgceaa
open Go.RowKit
set_option linter.unusedVariables false
set_option linter.unusedSimpArgs false
set_option maxRecDepth 100000

theorem dig0 (n : Nat) : dig n 0 = n % 10 := by simp [dig]

theorem c_exact {N : Nat} {e like : Int} (hN0 : N ≠ 0) (hN : nd N ≤ 100000) (he0 : -1000000000000 ≤ e) (he1 : e ≤ 1000000000000) (hl0 : -1000000000000 ≤ like) (hl1 : like ≤ 1000000000000) : HasC Try.prog 37 [.sl (nd (N)) (dg (digs (N))), .v (.int .i64 e), .v (.int .i64 like)] (fun y => y = dRD false (strip (like - e).toNat N).1 (e + ((strip (like - e).toNat N).2 : Nat))) := by
  refine HasC.of [] (fn := Try.f37) tyOk mixed (fun args w => Try.call37 args w) Try.func37 rfl (by kernel_rfl) (Nat.le_of_ble_eq_true rfl) (⟨_, rfl⟩) ?_
  obtain ⟨L, hL⟩ : ∃ L, L = (like - e).toNat := ⟨_, rfl⟩
  rw [← hL]
  refine vc_seqr rfl ?_
  refine vcI_q 1 (by kernel_rfl) ?_
  refine vcI_end 29 [(0, .d (.sl (nd (N)) (dg (digs (N))))), (1, .d (.v (.int .i64 e))), (2, .d (.v (.int .i64 like))), (6, .p 6 0)] [(6, [.v (.bool false), .sl 0 [], .v (.int .i64 0)])] (by kernel_rfl) (by kernel_rfl) (by kernel_rfl) ?_
  refine vc_seq ?_
  refine vc_block ?_
  refine vc_loop 29 (fun (vcx : Nat × Nat × Int) => match vcx with | (j, p, x) => [(0, .d (.sl (nd (p)) (dg (digs (p))))), (1, .d (.v (.int .i64 x))), (2, .d (.v (.int .i64 like))), (6, .p 6 0)]) (fun (vcx : Nat × Nat × Int) => match vcx with | (j, p, x) => [(6, [.v (.bool false), .sl 0 [], .v (.int .i64 0)])]) (fun (vcx : Nat × Nat × Int) => match vcx with | (j, p, x) => j ≤ L ∧ x = e + (j : Int) ∧ p ≠ 0 ∧ nd p ≤ 100000 ∧ strip L N = ((strip (L - j) p).1, (strip (L - j) p).2 + j)) (fun (vcx : Nat × Nat × Int) => match vcx with | (j, p, x) => L - j) ((0, N, e)) (⟨by omega, by simp, hN0, hN, by simp⟩) (by kernel_rfl) (by kernel_rfl) ?_
  rintro ⟨j, p, x⟩ hinv
  simp only at hinv
  obtain ⟨hj, hx, hp0, hpn, hs⟩ := hinv
  have hp1 := nd_pos1 hp0
  refine vc_seq ?_
  refine vc_seqr rfl ?_
  refine vcI_q 2 (by kernel_rfl) ?_
  refine vcI_bin (op := .lss) (t := 3) (a := .int .i64 x) (b := .int .i64 like) (dst := (some 9)) (by kernel_rfl) ?_
  intro c9 hc9
  refine vcI_q 1 (by kernel_rfl) ?_
  cases c9
  · replace hc9 := bf hc9
    refine vcI_q 10 (by kernel_rfl) ?_
    refine vcI_end 29 [(0, .d (.sl (nd (p)) (dg (digs (p))))), (1, .d (.v (.int .i64 x))), (2, .d (.v (.int .i64 like))), (6, .p 6 0), (20, .d (.v (.bool false)))] [(6, [.v (.bool false), .sl 0 [], .v (.int .i64 0)])] (by kernel_rfl) (by kernel_rfl) (by kernel_rfl) ?_
    have hq : strip L N = (p, j) := by rw [hs, show L - j = 0 by omega]; simp [strip_0]
    refine vc_condf (by kernel_rfl) ?_
    refine vc_exit ?_
    refine seq_x ?_
    refine loop_x ?_
    refine block_x rfl ?_
    refine seq_n ?_
    refine vc_seqr rfl ?_
    refine vcI_q 4 (by kernel_rfl) ?_
    refine vcI_end 29 [(0, .d (.sl (nd (p)) (dg (digs (p))))), (1, .d (.v (.int .i64 x))), (2, .d (.v (.int .i64 like))), (6, .p 6 0), (20, .d (.v (.bool false)))] [(6, [.v (.bool false), .sl (nd (p)) (dg (digs (p))), .v (.int .i64 x)])] (by kernel_rfl) (by kernel_rfl) (by kernel_rfl) ?_
    refine vc_ret ?_
    refine ret_1 (d := .agg [.v (.bool false), .sl (nd (p)) (dg (digs (p))), .v (.int .i64 x)]) (by kernel_rfl) ?_
    rw [hq, hx]; rfl
  · replace hc9 := bt hc9
    refine vcI_q 2 (by kernel_rfl) ?_
    refine vcI_bin (op := .gtr) (t := 3) (a := .int .i64 (((nd (p) : Nat) : Int))) (b := .int .i64 0) (dst := (some 13)) (by kernel_rfl) ?_
    intro c13 hc13
    refine vcI_q 2 (by kernel_rfl) ?_
    obtain rfl : c13 = true := hc13.2 ((by omega))
    refine vcI_q 1 (by kernel_rfl) ?_
    refine vcI_idx1 (q := 0) (n := (nd (p))) (cs := (dg (digs (p)))) (d := .v (.int .i64 (((dig p 0 : Nat) : Int)))) (dst := (some 17)) (by kernel_rfl) (by omega) (by exact dg_get (digs_get? (by omega))) ?_
    have hd0 := dig0 p
    refine vcI_q 1 (by kernel_rfl) ?_
    refine vcI_bin (op := .eql) (t := 3) (a := .int .i64 (((dig p 0 : Nat) : Int))) (b := .int .i64 0) (dst := (some 19)) (by kernel_rfl) ?_
    intro c19 hc19
    refine vcI_q 1 (by kernel_rfl) ?_
    refine vcI_end 29 [(0, .d (.sl (nd (p)) (dg (digs (p))))), (1, .d (.v (.int .i64 x))), (2, .d (.v (.int .i64 like))), (6, .p 6 0), (20, .d (.v (.bool c19)))] [(6, [.v (.bool false), .sl 0 [], .v (.int .i64 0)])] (by kernel_rfl) (by kernel_rfl) (by kernel_rfl) ?_
    cases c19
    · replace hc19 := bf hc19
      have hq : strip L N = (p, j) := by rw [hs, show L - j = (L - (j + 1)) + 1 by omega, strip_stop (by omega)]; simp
      refine vc_condf (by kernel_rfl) ?_
      refine vc_exit ?_
      refine seq_x ?_
      refine loop_x ?_
      refine block_x rfl ?_
      refine seq_n ?_
      refine vc_seqr rfl ?_
      refine vcI_q 4 (by kernel_rfl) ?_
      refine vcI_end 29 [(0, .d (.sl (nd (p)) (dg (digs (p))))), (1, .d (.v (.int .i64 x))), (2, .d (.v (.int .i64 like))), (6, .p 6 0), (20, .d (.v (.bool false)))] [(6, [.v (.bool false), .sl (nd (p)) (dg (digs (p))), .v (.int .i64 x)])] (by kernel_rfl) (by kernel_rfl) (by kernel_rfl) ?_
      refine vc_ret ?_
      refine ret_1 (d := .agg [.v (.bool false), .sl (nd (p)) (dg (digs (p))), .v (.int .i64 x)]) (by kernel_rfl) ?_
      rw [hq, hx]; rfl
    · replace hc19 := bt hc19
      have hlen : (digs p).length = nd p := rfl
      refine vc_condt (by kernel_rfl) ?_
      refine vc_skip ?_
      refine seq_n ?_
      refine vc_block ?_
      refine vc_seqr rfl ?_
      refine vcI_q 1 (by kernel_rfl) ?_
      refine vcI_sl (l := 1) (u := (((nd (p) : Nat) : Int))) (n := (nd (p))) (cs := (dg (digs (p)))) (z := 1) (m := (((digs p).drop 1).length)) (ds := (dg ((digs p).drop 1))) (dst := (some 22)) (by kernel_rfl) (by omega) (by rw [List.length_drop]; omega) (part_drop rfl (by omega)) ?_
      refine vcI_call (f := 56) (ds := [.sl (((digs p).drop 1).length) (dg ((digs p).drop 1))]) (dst := (some 23)) (by kernel_rfl) (c_TrimDrop (N := p) (n := 1) (by omega) (by omega)) ?_
      rintro _ rfl
      refine vcI_q 1 (by kernel_rfl) ?_
      refine vcI_end 29 [(0, .d (.sl (nd (p / 10 ^ 1)) (dg (digs (p / 10 ^ 1))))), (1, .d (.v (.int .i64 x))), (2, .d (.v (.int .i64 like))), (6, .p 6 0), (20, .d (.v (.bool true)))] [(6, [.v (.bool false), .sl 0 [], .v (.int .i64 0)])] (by kernel_rfl) (by kernel_rfl) (by kernel_rfl) ?_
      refine vc_reg rfl ?_
      refine vcI_q 1 (by kernel_rfl) ?_
      refine vcI_bin (op := .add) (t := 3) (a := .int .i64 x) (b := .int .i64 1) (dst := (some 25)) (by kernel_rfl) ?_
      intro z25 hz25
      first | (replace hz25 := hz25.i64 (by omega)) | skip
      refine vcI_q 1 (by kernel_rfl) ?_
      refine vcI_end 29 [(0, .d (.sl (nd (p / 10 ^ 1)) (dg (digs (p / 10 ^ 1))))), (1, .d (.v (.int .i64 z25))), (2, .d (.v (.int .i64 like))), (6, .p 6 0), (20, .d (.v (.bool true)))] [(6, [.v (.bool false), .sl 0 [], .v (.int .i64 0)])] (by kernel_rfl) (by kernel_rfl) (by kernel_rfl) ?_
      refine block_n ?_
      refine loop_n (j + 1, p / 10 ^ 1, z25) (⟨by omega, by omega, by rw [Nat.pow_one]; omega, Nat.le_trans (nd_mono (Nat.div_le_self _ _)) hpn, by rw [hs, show L - j = (L - (j + 1)) + 1 by omega, strip_step (by omega), Nat.pow_one]; exact Prod.ext rfl (by simp; omega)⟩) (by show L - (j + 1) < L - j; omega) (by kernel_rfl) (by kernel_rfl)

theorem c_exactI {N : Nat} {e like : Int} {t : Nat × Nat} (ht : strip (like - e).toNat N = t) (hN0 : N ≠ 0) (hN : nd N ≤ 100000) (he0 : -1000000000000 ≤ e) (he1 : e ≤ 1000000000000) (hl0 : -1000000000000 ≤ like) (hl1 : like ≤ 1000000000000) :
    HasC Try.prog 37 [.sl (nd N) (dg (digs N)), .v (.int .i64 e), .v (.int .i64 like)] (fun y => y = dRD false t.1 (e + (t.2 : Nat))) := by
  subst ht
  exact c_exact hN0 hN he0 he1 hl0 hl1
theorem c_ShiftA {a n A : Nat} {X : Int} (hA : A = a * 10 ^ n) (hX : X = (n : Int)) (ha : nd a ≤ 900000) (hn : n ≤ 90000) : HasC Try.prog 36 [.sl (nd a) (dg (digs a)), .v (.int .i64 X)] (fun y => y = .sl (nd A) (dg (digs A))) := by
  subst hA hX
  exact c_Shift ha hn

set_option maxHeartbeats 1600000 in
theorem c_rDiv {g1 g2 : Bool} {a b : Nat} {x1 x2 : Int} (ha : a < E34) (hb : b < E34) (hb0 : b ≠ 0) (h1 : -30000 ≤ x1) (h2 : x1 ≤ 30000) (h3 : -30000 ≤ x2) (h4 : x2 ≤ 30000) : HasC Try.prog 13 [.agg [.v (.bool g1), .sl (nd (a)) (dg (digs (a))), .v (.int .i64 x1)], .agg [.v (.bool g2), .sl (nd (b)) (dg (digs (b))), .v (.int .i64 x2)]] (fun y => y = dRFit (divT (g1 != g2) a b (x1 - x2))) := by
  refine HasC.of [] (fn := Try.f13) tyOk mixed (fun args w => Try.call13 args w) Try.func13 rfl (by kernel_rfl) (Nat.le_of_ble_eq_true rfl) (⟨_, rfl⟩) ?_
  have hna := nd_le 34 a ha; have hnb := nd_le 34 b hb
  refine vc_seqr rfl ?_
  refine vcI_q 4 (by kernel_rfl) ?_
  refine vcI_end 62 [(2, .p 2 0), (3, .p 3 0), (4, .p 4 0), (5, .d (.v (.bool false)))] [(2, [.v (.bool g1), .sl (nd (a)) (dg (digs (a))), .v (.int .i64 x1)]), (3, [.v (.bool g2), .sl (nd (b)) (dg (digs (b))), .v (.int .i64 x2)]), (4, [.v (.bool false), .sl 0 [], .v (.int .i64 0)])] (by kernel_rfl) (by kernel_rfl) (by kernel_rfl) ?_
  refine vc_seqr rfl ?_
  refine vcI_q 4 (by kernel_rfl) ?_
  refine vcI_bin (op := .sub) (t := 3) (a := .int .i64 x1) (b := .int .i64 x2) (dst := (some 15)) (by kernel_rfl) ?_
  intro z15 hz15
  first | (replace hz15 := hz15.i64 (by omega)) | skip
  refine vcI_q 1 (by kernel_rfl) ?_
  refine vcI_end 62 [(2, .p 2 0), (3, .p 3 0), (4, .p 4 0), (5, .d (.v (.bool false))), (6, .d (.v (.int .i64 z15)))] [(2, [.v (.bool g1), .sl (nd (a)) (dg (digs (a))), .v (.int .i64 x1)]), (3, [.v (.bool g2), .sl (nd (b)) (dg (digs (b))), .v (.int .i64 x2)]), (4, [.v (.bool false), .sl 0 [], .v (.int .i64 0)])] (by kernel_rfl) (by kernel_rfl) (by kernel_rfl) ?_
  refine vc_seq ?_
  refine vc_seqr rfl ?_
  refine vcI_q 3 (by kernel_rfl) ?_
  refine vcI_bin (op := .eql) (t := 3) (a := .int .i64 (((nd (a) : Nat) : Int))) (b := .int .i64 0) (dst := (some 19)) (by kernel_rfl) ?_
  intro c19 hc19
  refine vcI_end 62 [(2, .p 2 0), (3, .p 3 0), (4, .p 4 0), (5, .d (.v (.bool false))), (6, .d (.v (.int .i64 z15))), (19, .d (.v (.bool c19)))] [(2, [.v (.bool g1), .sl (nd (a)) (dg (digs (a))), .v (.int .i64 x1)]), (3, [.v (.bool g2), .sl (nd (b)) (dg (digs (b))), .v (.int .i64 x2)]), (4, [.v (.bool false), .sl 0 [], .v (.int .i64 0)])] (by kernel_rfl) (by kernel_rfl) (by kernel_rfl) ?_
  cases c19
  · replace hc19 := bf hc19
    have ha0 : a ≠ 0 := fun h => hc19 (by rw [h, nd_zero]; rfl)
    obtain ⟨A, hA⟩ : ∃ A, A = a * 10 ^ 80 := ⟨_, rfl⟩
    have hnA : nd A ≤ 120 := by rw [hA]; have := nd_up10 (Nat.pos_of_ne_zero ha0) 80; omega
    have hnq : nd (A / b) ≤ 120 := Nat.le_trans (nd_mono (Nat.div_le_self _ _)) hnA
    have hnr : nd (A % b) ≤ 120 := Nat.le_trans (nd_mono (Nat.mod_le _ _)) hnA
    refine vc_condf (by kernel_rfl) ?_
    refine vc_skip ?_
    refine seq_n ?_
    refine vc_seqr rfl ?_
    refine vcI_q 1 (by kernel_rfl) ?_
    refine vcI_end 62 [(2, .p 2 0), (3, .p 3 0), (4, .p 4 0), (5, .d (.v (.bool false))), (6, .d (.v (.int .i64 z15))), (7, .d (.v (.int .i64 80))), (19, .d (.v (.bool false)))] [(2, [.v (.bool g1), .sl (nd (a)) (dg (digs (a))), .v (.int .i64 x1)]), (3, [.v (.bool g2), .sl (nd (b)) (dg (digs (b))), .v (.int .i64 x2)]), (4, [.v (.bool false), .sl 0 [], .v (.int .i64 0)])] (by kernel_rfl) (by kernel_rfl) (by kernel_rfl) ?_
    refine vc_seqr rfl ?_
    refine vcI_q 3 (by kernel_rfl) ?_
    refine vcI_call (f := 36) (ds := [.sl (nd (a)) (dg (digs (a))), .v (.int .i64 80)]) (dst := (some 29)) (by kernel_rfl) (c_ShiftA (n := 80) hA rfl (by omega) (by omega)) ?_
    rintro _ rfl
    refine vcI_q 2 (by kernel_rfl) ?_
    refine vcI_call (f := 35) (ds := [.sl (nd (A)) (dg (digs (A))), .sl (nd (b)) (dg (digs (b)))]) (dst := (some 32)) (by kernel_rfl) (c_Div (a := A) (b := b) (by omega) (Nat.pos_of_ne_zero hb0) (by omega)) ?_
    rintro _ rfl
    refine vcI_q 5 (by kernel_rfl) ?_
    refine vcI_end 62 [(2, .p 2 0), (3, .p 3 0), (4, .p 4 0), (5, .d (.v (.bool false))), (6, .d (.v (.int .i64 z15))), (7, .d (.v (.int .i64 80))), (8, .d (.sl (nd (A / b)) (dg (digs (A / b))))), (9, .d (.sl (nd (A % b)) (dg (digs (A % b))))), (19, .d (.v (.bool false)))] [(2, [.v (.bool g1), .sl (nd (a)) (dg (digs (a))), .v (.int .i64 x1)]), (3, [.v (.bool g2), .sl (nd (b)) (dg (digs (b))), .v (.int .i64 x2)]), (4, [.v (.bool false), .sl 0 [], .v (.int .i64 0)])] (by kernel_rfl) (by kernel_rfl) (by kernel_rfl) ?_
    refine vc_seqr rfl ?_
    refine vcI_q 3 (by kernel_rfl) ?_
    refine vcI_bin (op := .sub) (t := 3) (a := .int .i64 z15) (b := .int .i64 80) (dst := (some 38)) (by kernel_rfl) ?_
    intro z38 hz38
    first | (replace hz38 := hz38.i64 (by omega)) | skip
    refine vcI_q 3 (by kernel_rfl) ?_
    refine vcI_end 62 [(2, .p 2 0), (3, .p 3 0), (4, .p 4 0), (5, .d (.v (.bool false))), (6, .d (.v (.int .i64 z15))), (7, .d (.v (.int .i64 80))), (8, .d (.sl (nd (A / b)) (dg (digs (A / b))))), (9, .d (.sl (nd (A % b)) (dg (digs (A % b))))), (10, .p 10 0), (19, .d (.v (.bool false)))] [(2, [.v (.bool g1), .sl (nd (a)) (dg (digs (a))), .v (.int .i64 x1)]), (3, [.v (.bool g2), .sl (nd (b)) (dg (digs (b))), .v (.int .i64 x2)]), (4, [.v (.bool false), .sl 0 [], .v (.int .i64 0)]), (10, [.v (.bool false), .sl (nd (A / b)) (dg (digs (A / b))), .v (.int .i64 z38)])] (by kernel_rfl) (by kernel_rfl) (by kernel_rfl) ?_
    refine vc_seq ?_
    refine vc_seqr rfl ?_
    refine vcI_q 2 (by kernel_rfl) ?_
    refine vcI_bin (op := .eql) (t := 3) (a := .int .i64 (((nd (A % b) : Nat) : Int))) (b := .int .i64 0) (dst := (some 42)) (by kernel_rfl) ?_
    intro c42 hc42
    refine vcI_end 62 [(2, .p 2 0), (3, .p 3 0), (4, .p 4 0), (5, .d (.v (.bool false))), (6, .d (.v (.int .i64 z15))), (7, .d (.v (.int .i64 80))), (8, .d (.sl (nd (A / b)) (dg (digs (A / b))))), (9, .d (.sl (nd (A % b)) (dg (digs (A % b))))), (10, .p 10 0), (19, .d (.v (.bool false))), (42, .d (.v (.bool c42)))] [(2, [.v (.bool g1), .sl (nd (a)) (dg (digs (a))), .v (.int .i64 x1)]), (3, [.v (.bool g2), .sl (nd (b)) (dg (digs (b))), .v (.int .i64 x2)]), (4, [.v (.bool false), .sl 0 [], .v (.int .i64 0)]), (10, [.v (.bool false), .sl (nd (A / b)) (dg (digs (A / b))), .v (.int .i64 z38)])] (by kernel_rfl) (by kernel_rfl) (by kernel_rfl) ?_
    cases c42
    · replace hc42 := bf hc42
      have hr0 : A % b ≠ 0 := fun h => hc42 (by rw [h, nd_zero]; rfl)
      have hr1 := nd_pos1 hr0
      refine vc_condf (by kernel_rfl) ?_
      refine vc_skip ?_
      refine seq_n ?_
      refine vc_seqr rfl ?_
      refine vcI_q 4 (by kernel_rfl) ?_
      refine vcI_bin (op := .neq) (t := 4) (a := .bool g1) (b := .bool g2) (dst := (some 53)) (by kernel_rfl) ?_
      intro c53 hc53
      have hlaw := (div_law ha hb ha0 hb0 c53 (x1 - x2)).2 (by rw [← hA]; exact hr0)
      rw [← hA, ← hz15, ← hz38] at hlaw
      refine vcI_q 2 (by kernel_rfl) ?_
      refine vcI_end 62 [(2, .p 2 0), (3, .p 3 0), (4, .p 4 0), (5, .d (.v (.bool false))), (6, .d (.v (.int .i64 z15))), (7, .d (.v (.int .i64 80))), (8, .d (.sl (nd (A / b)) (dg (digs (A / b))))), (9, .d (.sl (nd (A % b)) (dg (digs (A % b))))), (10, .p 10 0), (19, .d (.v (.bool false))), (42, .d (.v (.bool false)))] [(2, [.v (.bool g1), .sl (nd (a)) (dg (digs (a))), .v (.int .i64 x1)]), (3, [.v (.bool g2), .sl (nd (b)) (dg (digs (b))), .v (.int .i64 x2)]), (4, [.v (.bool false), .sl 0 [], .v (.int .i64 0)]), (10, [.v (.bool c53), .sl (nd (A / b)) (dg (digs (A / b))), .v (.int .i64 z38)])] (by kernel_rfl) (by kernel_rfl) (by kernel_rfl) ?_
      refine vc_seqr rfl ?_
      refine vcI_q 3 (by kernel_rfl) ?_
      refine vcI_bin (op := .gtr) (t := 3) (a := .int .i64 (((nd (A % b) : Nat) : Int))) (b := .int .i64 0) (dst := (some 58)) (by kernel_rfl) ?_
      intro c58 hc58
      have h58 : c58 = true := hc58.2 (by omega)
      refine vcI_call (f := 34) (ds := [.agg [.v (.bool c53), .sl (nd (A / b)) (dg (digs (A / b))), .v (.int .i64 z38)], .v (.bool c58), .v (.int .i64 1)]) (dst := (some 59)) (by kernel_rfl) (rfit_ex (c_rFit (m := 1) (neg := c53) (more := c58) (N := A / b) (e := z38) (by omega) (by omega) (by omega))) ?_
      rintro _ ⟨g, k, x, ok, rfl, hT⟩
      refine vcI_q 4 (by kernel_rfl) ?_
      refine vcI_end 62 [(2, .p 2 0), (3, .p 3 0), (4, .p 4 0), (5, .d (.v (.bool ok))), (6, .d (.v (.int .i64 z15))), (7, .d (.v (.int .i64 80))), (8, .d (.sl (nd (A / b)) (dg (digs (A / b))))), (9, .d (.sl (nd (A % b)) (dg (digs (A % b))))), (10, .p 10 0), (19, .d (.v (.bool false))), (42, .d (.v (.bool false)))] [(2, [.v (.bool g1), .sl (nd (a)) (dg (digs (a))), .v (.int .i64 x1)]), (3, [.v (.bool g2), .sl (nd (b)) (dg (digs (b))), .v (.int .i64 x2)]), (4, [.v (.bool g), .sl (nd (k)) (dg (digs (k))), .v (.int .i64 x)]), (10, [.v (.bool c53), .sl (nd (A / b)) (dg (digs (A / b))), .v (.int .i64 z38)])] (by kernel_rfl) (by kernel_rfl) (by kernel_rfl) ?_
      refine vc_ret ?_
      refine ret_2 (d := .agg [.v (.bool g), .sl (nd (k)) (dg (digs (k))), .v (.int .i64 x)]) (e := .v (.bool ok)) (ds := []) (by kernel_rfl) ?_
      rw [h58] at hT; rw [bne_of hc53, ← hz15, ← hlaw, hT]; rfl
    · replace hc42 := bt hc42
      have hr0 : A % b = 0 := nd_eq0.1 (by omega)
      have hq0 : A / b ≠ 0 := by intro h; have := Nat.div_add_mod A b; rw [h, hr0] at this; simp at this; rw [← this] at hA; have : 0 < a * 10 ^ 80 := Nat.mul_pos (Nat.pos_of_ne_zero ha0) (by decide); omega
      refine vc_condt (by kernel_rfl) ?_
      refine vc_reg rfl ?_
      refine vcI_q 3 (by kernel_rfl) ?_
      refine vcI_bin (op := .sub) (t := 3) (a := .int .i64 z15) (b := .int .i64 80) (dst := (some 46)) (by kernel_rfl) ?_
      intro z46 hz46
      first | (replace hz46 := hz46.i64 (by omega)) | skip
      obtain ⟨t, ht⟩ : ∃ t, strip (z15 - z46).toNat (A / b) = t := ⟨_, rfl⟩
      obtain ⟨p, j⟩ := t
      have hpj : p = (strip (z15 - z46).toNat (A / b)).1 ∧ j = (strip (z15 - z46).toNat (A / b)).2 := by rw [ht]; exact ⟨rfl, rfl⟩
      have hpn : nd p ≤ 120 := by rw [hpj.1]; exact Nat.le_trans (strip_nd _ _) hnq
      have hjn : j ≤ 80 := by rw [hpj.2]; exact Nat.le_trans (strip_spec _ _).2 (by omega)
      refine vcI_q 1 (by kernel_rfl) ?_
      refine vcI_call (f := 37) (ds := [.sl (nd (A / b)) (dg (digs (A / b))), .v (.int .i64 z46), .v (.int .i64 z15)]) (dst := (some 48)) (by kernel_rfl) (c_exactI ht hq0 (by omega) (by omega) (by omega) (by omega) (by omega)) ?_
      rintro _ rfl
      refine vcI_q 1 (by kernel_rfl) ?_
      refine vcI_end 62 [(2, .p 2 0), (3, .p 3 0), (4, .p 4 0), (5, .d (.v (.bool false))), (6, .d (.v (.int .i64 z15))), (7, .d (.v (.int .i64 80))), (8, .d (.sl (nd (A / b)) (dg (digs (A / b))))), (9, .d (.sl (nd (A % b)) (dg (digs (A % b))))), (10, .p 10 0), (19, .d (.v (.bool false))), (42, .d (.v (.bool true)))] [(2, [.v (.bool g1), .sl (nd (a)) (dg (digs (a))), .v (.int .i64 x1)]), (3, [.v (.bool g2), .sl (nd (b)) (dg (digs (b))), .v (.int .i64 x2)]), (4, [.v (.bool false), .sl 0 [], .v (.int .i64 0)]), (10, [.v (.bool false), .sl (nd (p)) (dg (digs (p))), .v (.int .i64 (z46 + (j : Int)))])] (by kernel_rfl) (by kernel_rfl) (by kernel_rfl) ?_
      refine seq_n ?_
      refine vc_seqr rfl ?_
      refine vcI_q 4 (by kernel_rfl) ?_
      refine vcI_bin (op := .neq) (t := 4) (a := .bool g1) (b := .bool g2) (dst := (some 53)) (by kernel_rfl) ?_
      intro c53 hc53
      have hlaw := (div_law ha hb ha0 hb0 c53 (x1 - x2)).1 (by rw [← hA]; exact hr0)
      rw [← hA, ← hz15, show 80 = (z15 - z46).toNat by omega, ht] at hlaw
      refine vcI_q 2 (by kernel_rfl) ?_
      refine vcI_end 62 [(2, .p 2 0), (3, .p 3 0), (4, .p 4 0), (5, .d (.v (.bool false))), (6, .d (.v (.int .i64 z15))), (7, .d (.v (.int .i64 80))), (8, .d (.sl (nd (A / b)) (dg (digs (A / b))))), (9, .d (.sl (nd (A % b)) (dg (digs (A % b))))), (10, .p 10 0), (19, .d (.v (.bool false))), (42, .d (.v (.bool true)))] [(2, [.v (.bool g1), .sl (nd (a)) (dg (digs (a))), .v (.int .i64 x1)]), (3, [.v (.bool g2), .sl (nd (b)) (dg (digs (b))), .v (.int .i64 x2)]), (4, [.v (.bool false), .sl 0 [], .v (.int .i64 0)]), (10, [.v (.bool c53), .sl (nd (p)) (dg (digs (p))), .v (.int .i64 (z46 + (j : Int)))])] (by kernel_rfl) (by kernel_rfl) (by kernel_rfl) ?_
      refine vc_seqr rfl ?_
      refine vcI_q 3 (by kernel_rfl) ?_
      refine vcI_bin (op := .gtr) (t := 3) (a := .int .i64 (((nd (A % b) : Nat) : Int))) (b := .int .i64 0) (dst := (some 58)) (by kernel_rfl) ?_
      intro c58 hc58
      have h58 : c58 = false := bff hc58 (by omega)
      refine vcI_call (f := 34) (ds := [.agg [.v (.bool c53), .sl (nd (p)) (dg (digs (p))), .v (.int .i64 (z46 + (j : Int)))], .v (.bool c58), .v (.int .i64 1)]) (dst := (some 59)) (by kernel_rfl) (rfit_ex (c_rFit (m := 1) (neg := c53) (more := c58) (N := p) (e := z46 + (j : Int)) (by omega) (by omega) (by omega))) ?_
      rintro _ ⟨g, k, x, ok, rfl, hT⟩
      refine vcI_q 4 (by kernel_rfl) ?_
      refine vcI_end 62 [(2, .p 2 0), (3, .p 3 0), (4, .p 4 0), (5, .d (.v (.bool ok))), (6, .d (.v (.int .i64 z15))), (7, .d (.v (.int .i64 80))), (8, .d (.sl (nd (A / b)) (dg (digs (A / b))))), (9, .d (.sl (nd (A % b)) (dg (digs (A % b))))), (10, .p 10 0), (19, .d (.v (.bool false))), (42, .d (.v (.bool true)))] [(2, [.v (.bool g1), .sl (nd (a)) (dg (digs (a))), .v (.int .i64 x1)]), (3, [.v (.bool g2), .sl (nd (b)) (dg (digs (b))), .v (.int .i64 x2)]), (4, [.v (.bool g), .sl (nd (k)) (dg (digs (k))), .v (.int .i64 x)]), (10, [.v (.bool c53), .sl (nd (p)) (dg (digs (p))), .v (.int .i64 (z46 + (j : Int)))])] (by kernel_rfl) (by kernel_rfl) (by kernel_rfl) ?_
      refine vc_ret ?_
      refine ret_2 (d := .agg [.v (.bool g), .sl (nd (k)) (dg (digs (k))), .v (.int .i64 x)]) (e := .v (.bool ok)) (ds := []) (by kernel_rfl) ?_
      rw [h58] at hT; rw [bne_of hc53, ← hz15, ← hlaw]
      have hT' : fitU 1 c53 p (z15 - 80 + (j : Int)) false = (g, k, x, ok) := by rw [← hT, hz46]
      rw [hT']; rfl
  · replace hc19 := bt hc19
    have ha0 : a = 0 := nd_eq0.1 (by omega)
    refine vc_condt (by kernel_rfl) ?_
    refine vc_seqr rfl ?_
    refine vcI_q 2 (by kernel_rfl) ?_
    refine vcI_call (f := 34) (ds := [.agg [.v (.bool false), .sl 0 [], .v (.int .i64 z15)], .v (.bool false), .v (.int .i64 1)]) (dst := (some 22)) (by kernel_rfl) (rfit_ex (c_rFit0 (m := 1) (e := z15) (by omega) (by omega))) ?_
    rintro _ ⟨g, k, x, ok, rfl, hT⟩
    refine vcI_q 4 (by kernel_rfl) ?_
    refine vcI_end 62 [(2, .p 2 0), (3, .p 3 0), (4, .p 4 0), (5, .d (.v (.bool ok))), (6, .d (.v (.int .i64 z15))), (19, .d (.v (.bool true)))] [(2, [.v (.bool g1), .sl (nd (a)) (dg (digs (a))), .v (.int .i64 x1)]), (3, [.v (.bool g2), .sl (nd (b)) (dg (digs (b))), .v (.int .i64 x2)]), (4, [.v (.bool g), .sl (nd (k)) (dg (digs (k))), .v (.int .i64 x)])] (by kernel_rfl) (by kernel_rfl) (by kernel_rfl) ?_
    refine vc_ret ?_
    refine seq_r ?_
    refine ret_2 (d := .agg [.v (.bool g), .sl (nd (k)) (dg (digs (k))), .v (.int .i64 x)]) (e := .v (.bool ok)) (ds := []) (by kernel_rfl) ?_
    rw [divT, if_pos ha0, fitT_U _ _ _ _ (by rw [nd_zero]; omega), ← hz15, hT]; rfl

theorem c_rMulT {g1 g2 o1 o2 : Bool} {a b : Nat} {x1 x2 : Int} (ha : a < E34) (hb : b < E34) (h1 : -30000 ≤ x1) (h2 : x1 ≤ 30000) (h3 : -30000 ≤ x2) (h4 : x2 ≤ 30000) :
    HasC Try.prog 40 [.agg [.v (.bool g1), .sl (nd a) (dg (digs a)), .v (.int .i64 x1)], .agg [.v (.bool g2), .sl (nd b) (dg (digs b)), .v (.int .i64 x2)]] (fun y => ∃ g k x ok, y = .tup [dRD g k x, .v (.bool ok)] ∧ mulT (g1, a, x1, o1) (g2, b, x2, o2) = (g, k, x, ok)) := by
  rw [mulT_U ha hb]
  exact rfit_ex (c_rMul (by have := nd_le 34 _ ha; omega) (by have := nd_le 34 _ hb; omega) h1 (by omega) h3 (by omega))
theorem one_RD : ([.v (.bool false), .sl (nd 1) (dg (digs 1)), .v (.int .i64 0)] : List DV) = [.v (.bool false), .sl 1 [.v (.int .i64 1)], .v (.int .i64 0)] := by rw [dn_one]
theorem quo_bit {m B i : Nat} {X Y z w : Int} (hX : X = (m : Int)) (hY : Y = (B : Int)) (hB : B = 2 ^ i) (hm : m ≤ 1000000000) (h : IntIs .i64 (X.tdiv Y) z) (hw : w = z.tmod 2) : w = 1 ↔ m / 2 ^ i % 2 = 1 := by
  subst hY
  have h1 := quoI hX h (by omega)
  subst hB
  have h2 := remI (b := 2) h1 hw
  generalize m / 2 ^ i = q at *
  omega

theorem bit_end {j B : Nat} (hB : B = 2 ^ j / 2) (h : B = 0) : j = 0 := by
  cases j with
  | zero => rfl
  | succ i =>
    rw [Nat.pow_succ, Nat.mul_div_cancel _ (by decide)] at hB
    have : 0 < 2 ^ i := Nat.pow_pos (by decide)
    omega
set_option maxHeartbeats 1600000 in
theorem c_rPower {g : Bool} {a : Nat} {x n : Int} (ha : a < E34) (hx0 : -6176 ≤ x) (hx1 : x ≤ 6111) (h0 : -9223372036854775808 ≤ n) (h1 : n ≤ 9223372036854775807) : HasC Try.prog 17 [.agg [.v (.bool g), .sl (nd (a)) (dg (digs (a))), .v (.int .i64 x)], .v (.int .i64 n)] (fun y => y = dRFit (powT (g, a, x, true) n)) := by
  refine HasC.of [] (fn := Try.f17) tyOk mixed (fun args w => Try.call17 args w) Try.func17 rfl (by kernel_rfl) (Nat.le_of_ble_eq_true rfl) (⟨_, rfl⟩) ?_
  refine vc_seqr rfl ?_
  refine vcI_q 3 (by kernel_rfl) ?_
  refine vcI_end 71 [(1, .d (.v (.int .i64 n))), (2, .p 2 0), (4, .p 4 0), (5, .d (.v (.bool false)))] [(2, [.v (.bool g), .sl (nd (a)) (dg (digs (a))), .v (.int .i64 x)]), (4, [.v (.bool false), .sl 0 [], .v (.int .i64 0)])] (by kernel_rfl) (by kernel_rfl) (by kernel_rfl) ?_
  refine vc_seq ?_
  refine vc_seqr rfl ?_
  refine vcI_q 1 (by kernel_rfl) ?_
  refine vcI_bin (op := .lss) (t := 3) (a := .int .i64 n) (b := .int .i64 (-999999999)) (dst := (some 15)) (by kernel_rfl) ?_
  intro c15 hc15
  refine vcI_q 1 (by kernel_rfl) ?_
  cases c15
  · replace hc15 := bf hc15
    refine vcI_q 1 (by kernel_rfl) ?_
    refine vcI_bin (op := .gtr) (t := 3) (a := .int .i64 n) (b := .int .i64 999999999) (dst := (some 18)) (by kernel_rfl) ?_
    intro c18 hc18
    refine vcI_q 1 (by kernel_rfl) ?_
    refine vcI_end 71 [(1, .d (.v (.int .i64 n))), (2, .p 2 0), (4, .p 4 0), (5, .d (.v (.bool false))), (19, .d (.v (.bool c18)))] [(2, [.v (.bool g), .sl (nd (a)) (dg (digs (a))), .v (.int .i64 x)]), (4, [.v (.bool false), .sl 0 [], .v (.int .i64 0)])] (by kernel_rfl) (by kernel_rfl) (by kernel_rfl) ?_
    cases c18
    · replace hc18 := bf hc18
      refine vc_condf (by kernel_rfl) ?_
      refine vc_skip ?_
      refine seq_n ?_
      refine vc_seqr rfl ?_
      refine vcI_q 2 (by kernel_rfl) ?_
      refine vcI_end 71 [(1, .d (.v (.int .i64 n))), (2, .p 2 0), (4, .p 4 0), (5, .d (.v (.bool false))), (6, .d (.v (.int .i64 n))), (19, .d (.v (.bool false)))] [(2, [.v (.bool g), .sl (nd (a)) (dg (digs (a))), .v (.int .i64 x)]), (4, [.v (.bool false), .sl 0 [], .v (.int .i64 0)])] (by kernel_rfl) (by kernel_rfl) (by kernel_rfl) ?_
      refine vc_mid 71 (fun (vcx : Int × Bool) => match vcx with | (m, vb23) => [(1, .d (.v (.int .i64 n))), (2, .p 2 0), (4, .p 4 0), (5, .d (.v (.bool false))), (6, .d (.v (.int .i64 m))), (19, .d (.v (.bool false))), (23, .d (.v (.bool vb23)))]) (fun (vcx : Int × Bool) => match vcx with | (m, vb23) => [(2, [.v (.bool g), .sl (nd (a)) (dg (digs (a))), .v (.int .i64 x)]), (4, [.v (.bool false), .sl 0 [], .v (.int .i64 0)])]) (fun (vcx : Int × Bool) => match vcx with | (m, vb23) => m = (n.natAbs : Int)) ?_ ?_
      · rintro ⟨m, vb23⟩ hinv
        simp only at hinv
        have hm := hinv
        have hmb : n.natAbs ≤ 999999999 := by omega
        refine vc_seqr rfl ?_
        refine vcI_q 4 (by kernel_rfl) ?_
        refine vcI_end 71 [(1, .d (.v (.int .i64 n))), (2, .p 2 0), (4, .p 4 0), (5, .d (.v (.bool false))), (6, .d (.v (.int .i64 m))), (7, .p 7 0), (19, .d (.v (.bool false))), (23, .d (.v (.bool vb23)))] [(2, [.v (.bool g), .sl (nd (a)) (dg (digs (a))), .v (.int .i64 x)]), (4, [.v (.bool false), .sl 0 [], .v (.int .i64 0)]), (7, [.v (.bool false), .sl 1 [.v (.int .i64 1)], .v (.int .i64 0)])] (by kernel_rfl) (by kernel_rfl) (by kernel_rfl) ?_
        refine vc_seqr rfl ?_
        refine vcI_q 3 (by kernel_rfl) ?_
        refine vcI_end 71 [(1, .d (.v (.int .i64 n))), (2, .p 2 0), (4, .p 4 0), (5, .d (.v (.bool false))), (6, .d (.v (.int .i64 m))), (7, .p 7 0), (8, .p 8 0), (19, .d (.v (.bool false))), (23, .d (.v (.bool vb23)))] [(2, [.v (.bool g), .sl (nd (a)) (dg (digs (a))), .v (.int .i64 x)]), (4, [.v (.bool false), .sl 0 [], .v (.int .i64 0)]), (7, [.v (.bool false), .sl 1 [.v (.int .i64 1)], .v (.int .i64 0)]), (8, [.v (.bool false), .sl 1 [.v (.int .i64 1)], .v (.int .i64 0)])] (by kernel_rfl) (by kernel_rfl) (by kernel_rfl) ?_
        refine vc_seqr rfl ?_
        refine vcI_q 1 (by kernel_rfl) ?_
        refine vcI_end 71 [(1, .d (.v (.int .i64 n))), (2, .p 2 0), (4, .p 4 0), (5, .d (.v (.bool false))), (6, .d (.v (.int .i64 m))), (7, .p 7 0), (8, .p 8 0), (9, .d (.v (.int .i64 1073741824))), (19, .d (.v (.bool false))), (23, .d (.v (.bool vb23)))] [(2, [.v (.bool g), .sl (nd (a)) (dg (digs (a))), .v (.int .i64 x)]), (4, [.v (.bool false), .sl 0 [], .v (.int .i64 0)]), (7, [.v (.bool false), .sl 1 [.v (.int .i64 1)], .v (.int .i64 0)]), (8, [.v (.bool false), .sl 1 [.v (.int .i64 1)], .v (.int .i64 0)])] (by kernel_rfl) (by kernel_rfl) (by kernel_rfl) ?_
        refine vc_seq ?_
        refine vc_cast (s' := mkS 71 [(1, .d (.v (.int .i64 n))), (2, .p 2 0), (4, .p 4 0), (5, .d (.v (.bool false))), (6, .d (.v (.int .i64 m))), (7, .p 7 0), (8, .p 8 0), (9, .d (.v (.int .i64 1073741824))), (19, .d (.v (.bool false))), (23, .d (.v (.bool vb23)))] [(2, [.v (.bool g), .sl (nd (a)) (dg (digs (a))), .v (.int .i64 x)]), (4, [.v (.bool false), .sl 0 [], .v (.int .i64 0)]), (7, [.v (.bool false), .sl (nd (1)) (dg (digs (1))), .v (.int .i64 0)]), (8, [.v (.bool false), .sl 1 [.v (.int .i64 1)], .v (.int .i64 0)])]) (by rw [show ([.v (.bool false), .sl (nd (1)) (dg (digs (1))), .v (.int .i64 0)] : List DV) = [.v (.bool false), .sl 1 [.v (.int .i64 1)], .v (.int .i64 0)] from one_RD]) ?_
        refine vc_cast (s' := mkS 71 [(1, .d (.v (.int .i64 n))), (2, .p 2 0), (4, .p 4 0), (5, .d (.v (.bool false))), (6, .d (.v (.int .i64 m))), (7, .p 7 0), (8, .p 8 0), (9, .d (.v (.int .i64 1073741824))), (19, .d (.v (.bool false))), (23, .d (.v (.bool vb23)))] [(2, [.v (.bool g), .sl (nd (a)) (dg (digs (a))), .v (.int .i64 x)]), (4, [.v (.bool false), .sl 0 [], .v (.int .i64 0)]), (7, [.v (.bool false), .sl (nd (1)) (dg (digs (1))), .v (.int .i64 0)]), (8, [.v (.bool false), .sl (nd (1)) (dg (digs (1))), .v (.int .i64 0)])]) (by rw [show ([.v (.bool false), .sl (nd (1)) (dg (digs (1))), .v (.int .i64 0)] : List DV) = [.v (.bool false), .sl 1 [.v (.int .i64 1)], .v (.int .i64 0)] from one_RD]) ?_
        refine vc_block ?_
        refine vc_loop 71 (fun (vcx : Nat × Nat × Bool × Nat × Int) => match vcx with | (j, B, og, oc, ox) => [(1, .d (.v (.int .i64 n))), (2, .p 2 0), (4, .p 4 0), (5, .d (.v (.bool false))), (6, .d (.v (.int .i64 m))), (7, .p 7 0), (8, .p 8 0), (9, .d (.v (.int .i64 ((B : Int))))), (19, .d (.v (.bool false))), (23, .d (.v (.bool vb23)))]) (fun (vcx : Nat × Nat × Bool × Nat × Int) => match vcx with | (j, B, og, oc, ox) => [(2, [.v (.bool g), .sl (nd (a)) (dg (digs (a))), .v (.int .i64 x)]), (4, [.v (.bool false), .sl 0 [], .v (.int .i64 0)]), (7, [.v (.bool false), .sl (nd (1)) (dg (digs (1))), .v (.int .i64 0)]), (8, [.v (.bool og), .sl (nd (oc)) (dg (digs (oc))), .v (.int .i64 ox)])]) (fun (vcx : Nat × Nat × Bool × Nat × Int) => match vcx with | (j, B, og, oc, ox) => B = 2 ^ j / 2 ∧ j ≤ 31 ∧ oc < E34 ∧ -6176 ≤ ox ∧ ox ≤ 6111 ∧ powGo (g, a, x, true) n.natAbs 31 (false, 1, 0, true) = powGo (g, a, x, true) n.natAbs j (og, oc, ox, true)) (fun (vcx : Nat × Nat × Bool × Nat × Int) => match vcx with | (j, B, og, oc, ox) => j) ((31, 1073741824, false, 1, 0)) (⟨by decide, by omega, by decide, by omega, by omega, rfl⟩) (by kernel_rfl) (by kernel_rfl) ?_
        rintro ⟨j, B, og, oc, ox⟩ hinv
        simp only at hinv
        obtain ⟨hB, hj, hoc, hox0, hox1, hG⟩ := hinv
        refine vc_seq ?_
        refine vc_seqr rfl ?_
        refine vcI_q 1 (by kernel_rfl) ?_
        refine vcI_bin (op := .gtr) (t := 3) (a := .int .i64 ((B : Int))) (b := .int .i64 0) (dst := (some 30)) (by kernel_rfl) ?_
        intro c30 hc30
        refine vcI_end 71 [(1, .d (.v (.int .i64 n))), (2, .p 2 0), (4, .p 4 0), (5, .d (.v (.bool false))), (6, .d (.v (.int .i64 m))), (7, .p 7 0), (8, .p 8 0), (9, .d (.v (.int .i64 ((B : Int))))), (19, .d (.v (.bool false))), (23, .d (.v (.bool vb23))), (30, .d (.v (.bool c30)))] [(2, [.v (.bool g), .sl (nd (a)) (dg (digs (a))), .v (.int .i64 x)]), (4, [.v (.bool false), .sl 0 [], .v (.int .i64 0)]), (7, [.v (.bool false), .sl (nd (1)) (dg (digs (1))), .v (.int .i64 0)]), (8, [.v (.bool og), .sl (nd (oc)) (dg (digs (oc))), .v (.int .i64 ox)])] (by kernel_rfl) (by kernel_rfl) (by kernel_rfl) ?_
        cases c30
        · replace hc30 := bf hc30
          have hj0 : j = 0 := bit_end hB (by omega)
          have hP : powGo (g, a, x, true) n.natAbs 31 (false, 1, 0, true) = (og, oc, ox, true) := by rw [hG, hj0]; rfl
          refine vc_condf (by kernel_rfl) ?_
          refine vc_exit ?_
          refine seq_x ?_
          refine loop_x ?_
          refine block_x rfl ?_
          refine seq_n ?_
          refine vc_seq ?_
          refine vc_seqr rfl ?_
          refine vcI_q 1 (by kernel_rfl) ?_
          refine vcI_bin (op := .geq) (t := 3) (a := .int .i64 n) (b := .int .i64 0) (dst := (some 59)) (by kernel_rfl) ?_
          intro c59 hc59
          refine vcI_end 71 [(1, .d (.v (.int .i64 n))), (2, .p 2 0), (4, .p 4 0), (5, .d (.v (.bool false))), (6, .d (.v (.int .i64 m))), (7, .p 7 0), (8, .p 8 0), (9, .d (.v (.int .i64 ((B : Int))))), (19, .d (.v (.bool false))), (23, .d (.v (.bool vb23))), (30, .d (.v (.bool false))), (59, .d (.v (.bool c59)))] [(2, [.v (.bool g), .sl (nd (a)) (dg (digs (a))), .v (.int .i64 x)]), (4, [.v (.bool false), .sl 0 [], .v (.int .i64 0)]), (7, [.v (.bool false), .sl (nd (1)) (dg (digs (1))), .v (.int .i64 0)]), (8, [.v (.bool og), .sl (nd (oc)) (dg (digs (oc))), .v (.int .i64 ox)])] (by kernel_rfl) (by kernel_rfl) (by kernel_rfl) ?_
          cases c59
          · replace hc59 := bf hc59
            refine vc_condf (by kernel_rfl) ?_
            refine vc_skip ?_
            refine seq_n ?_
            refine vc_seq ?_
            refine vc_seqr rfl ?_
            refine vcI_q 3 (by kernel_rfl) ?_
            refine vcI_bin (op := .eql) (t := 3) (a := .int .i64 (((nd (oc) : Nat) : Int))) (b := .int .i64 0) (dst := (some 64)) (by kernel_rfl) ?_
            intro c64 hc64
            refine vcI_end 71 [(1, .d (.v (.int .i64 n))), (2, .p 2 0), (4, .p 4 0), (5, .d (.v (.bool false))), (6, .d (.v (.int .i64 m))), (7, .p 7 0), (8, .p 8 0), (9, .d (.v (.int .i64 ((B : Int))))), (19, .d (.v (.bool false))), (23, .d (.v (.bool vb23))), (30, .d (.v (.bool false))), (59, .d (.v (.bool false))), (64, .d (.v (.bool c64)))] [(2, [.v (.bool g), .sl (nd (a)) (dg (digs (a))), .v (.int .i64 x)]), (4, [.v (.bool false), .sl 0 [], .v (.int .i64 0)]), (7, [.v (.bool false), .sl (nd (1)) (dg (digs (1))), .v (.int .i64 0)]), (8, [.v (.bool og), .sl (nd (oc)) (dg (digs (oc))), .v (.int .i64 ox)])] (by kernel_rfl) (by kernel_rfl) (by kernel_rfl) ?_
            cases c64
            · replace hc64 := bf hc64
              have hoc0 : oc ≠ 0 := fun h => hc64 (by rw [h, nd_zero]; rfl)
              refine vc_condf (by kernel_rfl) ?_
              refine vc_skip ?_
              refine seq_n ?_
              refine vc_seqr rfl ?_
              refine vcI_q 2 (by kernel_rfl) ?_
              refine vcI_call (f := 13) (ds := [.agg [.v (.bool false), .sl (nd (1)) (dg (digs (1))), .v (.int .i64 0)], .agg [.v (.bool og), .sl (nd (oc)) (dg (digs (oc))), .v (.int .i64 ox)]]) (dst := (some 68)) (by kernel_rfl) (rfit_ex (c_rDiv (g1 := false) (a := 1) (x1 := 0) (by decide) hoc hoc0 (by omega) (by omega) (by omega) (by omega))) ?_
              rintro _ ⟨dg', dk, dx, dok, rfl, hD⟩
              refine vcI_q 4 (by kernel_rfl) ?_
              refine vcI_end 71 [(1, .d (.v (.int .i64 n))), (2, .p 2 0), (4, .p 4 0), (5, .d (.v (.bool dok))), (6, .d (.v (.int .i64 m))), (7, .p 7 0), (8, .p 8 0), (9, .d (.v (.int .i64 ((B : Int))))), (19, .d (.v (.bool false))), (23, .d (.v (.bool vb23))), (30, .d (.v (.bool false))), (59, .d (.v (.bool false))), (64, .d (.v (.bool false)))] [(2, [.v (.bool g), .sl (nd (a)) (dg (digs (a))), .v (.int .i64 x)]), (4, [.v (.bool dg'), .sl (nd (dk)) (dg (digs (dk))), .v (.int .i64 dx)]), (7, [.v (.bool false), .sl (nd (1)) (dg (digs (1))), .v (.int .i64 0)]), (8, [.v (.bool og), .sl (nd (oc)) (dg (digs (oc))), .v (.int .i64 ox)])] (by kernel_rfl) (by kernel_rfl) (by kernel_rfl) ?_
              refine vc_ret ?_
              refine ret_2 (d := .agg [.v (.bool dg'), .sl (nd (dk)) (dg (digs (dk))), .v (.int .i64 dx)]) (e := .v (.bool dok)) (ds := []) (by kernel_rfl) ?_
              rw [powT_neg (by omega) (by omega) hP, qDivT, if_neg hoc0, hD]; rfl
            · replace hc64 := bt hc64
              have hoc0 : oc = 0 := nd_eq0.1 (by omega)
              refine vc_condt (by kernel_rfl) ?_
              refine vc_seqr rfl ?_
              refine vcI_q 3 (by kernel_rfl) ?_
              refine vcI_end 71 [(1, .d (.v (.int .i64 n))), (2, .p 2 0), (4, .p 4 0), (5, .d (.v (.bool false))), (6, .d (.v (.int .i64 m))), (7, .p 7 0), (8, .p 8 0), (9, .d (.v (.int .i64 ((B : Int))))), (19, .d (.v (.bool false))), (23, .d (.v (.bool vb23))), (30, .d (.v (.bool false))), (59, .d (.v (.bool false))), (64, .d (.v (.bool true)))] [(2, [.v (.bool g), .sl (nd (a)) (dg (digs (a))), .v (.int .i64 x)]), (4, [.v (.bool false), .sl 0 [], .v (.int .i64 0)]), (7, [.v (.bool false), .sl (nd (1)) (dg (digs (1))), .v (.int .i64 0)]), (8, [.v (.bool og), .sl (nd (oc)) (dg (digs (oc))), .v (.int .i64 ox)])] (by kernel_rfl) (by kernel_rfl) (by kernel_rfl) ?_
              refine vc_ret ?_
              refine seq_r ?_
              refine ret_2 (d := .agg [.v (.bool false), .sl 0 [], .v (.int .i64 0)]) (e := .v (.bool false)) (ds := []) (by kernel_rfl) ?_
              rw [powT_neg (by omega) (by omega) hP, qDivT, if_pos hoc0, dRFit_0]
          · replace hc59 := bt hc59
            refine vc_condt (by kernel_rfl) ?_
            refine vc_seqr rfl ?_
            refine vcI_q 3 (by kernel_rfl) ?_
            refine vcI_end 71 [(1, .d (.v (.int .i64 n))), (2, .p 2 0), (4, .p 4 0), (5, .d (.v (.bool true))), (6, .d (.v (.int .i64 m))), (7, .p 7 0), (8, .p 8 0), (9, .d (.v (.int .i64 ((B : Int))))), (19, .d (.v (.bool false))), (23, .d (.v (.bool vb23))), (30, .d (.v (.bool false))), (59, .d (.v (.bool true)))] [(2, [.v (.bool g), .sl (nd (a)) (dg (digs (a))), .v (.int .i64 x)]), (4, [.v (.bool og), .sl (nd (oc)) (dg (digs (oc))), .v (.int .i64 ox)]), (7, [.v (.bool false), .sl (nd (1)) (dg (digs (1))), .v (.int .i64 0)]), (8, [.v (.bool og), .sl (nd (oc)) (dg (digs (oc))), .v (.int .i64 ox)])] (by kernel_rfl) (by kernel_rfl) (by kernel_rfl) ?_
            refine vc_ret ?_
            refine seq_r ?_
            refine ret_2 (d := .agg [.v (.bool og), .sl (nd (oc)) (dg (digs (oc))), .v (.int .i64 ox)]) (e := .v (.bool true)) (ds := []) (by kernel_rfl) ?_
            rw [powT_yes (by omega) (by omega) hP]; rfl
        · replace hc30 := bt hc30
          obtain ⟨i, hi⟩ : ∃ i, j = i + 1 := ⟨j - 1, by have : j ≠ 0 := (by rintro rfl; simp at hB; omega); omega⟩
          have hBi : B = 2 ^ i := by rw [hB, hi, Nat.pow_succ, Nat.mul_div_cancel _ (by decide)]
          have hB31 : B ≤ 2147483648 := by rw [hBi]; exact Nat.le_trans (Nat.pow_le_pow_right (by decide) (show i ≤ 31 by omega)) (by decide)
          rw [hi] at hG
          refine vc_condt (by kernel_rfl) ?_
          refine vc_skip ?_
          refine seq_n ?_
          refine vc_block ?_
          refine vc_seqr rfl ?_
          refine vcI_q 2 (by kernel_rfl) ?_
          refine vcI_call (f := 40) (ds := [.agg [.v (.bool og), .sl (nd (oc)) (dg (digs (oc))), .v (.int .i64 ox)], .agg [.v (.bool og), .sl (nd (oc)) (dg (digs (oc))), .v (.int .i64 ox)]]) (dst := (some 34)) (by kernel_rfl) (c_rMulT (o1 := true) (o2 := true) hoc hoc (by omega) (by omega) (by omega) (by omega)) ?_
          rintro _ ⟨g1, k1, y1, ok1, rfl, hT⟩
          obtain ⟨q1, q2, q3, q4⟩ := mulT_range hT
          refine vcI_q 6 (by kernel_rfl) ?_
          refine vcI_end 71 [(1, .d (.v (.int .i64 n))), (2, .p 2 0), (4, .p 4 0), (5, .d (.v (.bool false))), (6, .d (.v (.int .i64 m))), (7, .p 7 0), (8, .p 8 0), (9, .d (.v (.int .i64 ((B : Int))))), (10, .p 10 0), (11, .d (.v (.bool ok1))), (19, .d (.v (.bool false))), (23, .d (.v (.bool vb23))), (30, .d (.v (.bool true)))] [(2, [.v (.bool g), .sl (nd (a)) (dg (digs (a))), .v (.int .i64 x)]), (4, [.v (.bool false), .sl 0 [], .v (.int .i64 0)]), (7, [.v (.bool false), .sl (nd (1)) (dg (digs (1))), .v (.int .i64 0)]), (8, [.v (.bool og), .sl (nd (oc)) (dg (digs (oc))), .v (.int .i64 ox)]), (10, [.v (.bool g1), .sl (nd (k1)) (dg (digs (k1))), .v (.int .i64 y1)])] (by kernel_rfl) (by kernel_rfl) (by kernel_rfl) ?_
          refine vc_seq ?_
          refine vc_seqr rfl ?_
          refine vcI_q 1 (by kernel_rfl) ?_
          refine vcI_un (op := .not) (a := .bool ok1) (dst := (some 38)) (by kernel_rfl) ?_
          intro c38 hc38
          refine vcI_end 71 [(1, .d (.v (.int .i64 n))), (2, .p 2 0), (4, .p 4 0), (5, .d (.v (.bool false))), (6, .d (.v (.int .i64 m))), (7, .p 7 0), (8, .p 8 0), (9, .d (.v (.int .i64 ((B : Int))))), (10, .p 10 0), (11, .d (.v (.bool ok1))), (19, .d (.v (.bool false))), (23, .d (.v (.bool vb23))), (30, .d (.v (.bool true))), (38, .d (.v (.bool c38)))] [(2, [.v (.bool g), .sl (nd (a)) (dg (digs (a))), .v (.int .i64 x)]), (4, [.v (.bool false), .sl 0 [], .v (.int .i64 0)]), (7, [.v (.bool false), .sl (nd (1)) (dg (digs (1))), .v (.int .i64 0)]), (8, [.v (.bool og), .sl (nd (oc)) (dg (digs (oc))), .v (.int .i64 ox)]), (10, [.v (.bool g1), .sl (nd (k1)) (dg (digs (k1))), .v (.int .i64 y1)])] (by kernel_rfl) (by kernel_rfl) (by kernel_rfl) ?_
          cases c38
          · replace hc38 := bf hc38
            have hk1 : ok1 = true := by simpa using hc38
            rw [hk1] at hT
            refine vc_condf (by kernel_rfl) ?_
            refine vc_skip ?_
            refine seq_n ?_
            refine vc_seqr rfl ?_
            refine vcI_q 2 (by kernel_rfl) ?_
            refine vcI_end 71 [(1, .d (.v (.int .i64 n))), (2, .p 2 0), (4, .p 4 0), (5, .d (.v (.bool false))), (6, .d (.v (.int .i64 m))), (7, .p 7 0), (8, .p 8 0), (9, .d (.v (.int .i64 ((B : Int))))), (10, .p 10 0), (11, .d (.v (.bool ok1))), (19, .d (.v (.bool false))), (23, .d (.v (.bool vb23))), (30, .d (.v (.bool true))), (38, .d (.v (.bool false)))] [(2, [.v (.bool g), .sl (nd (a)) (dg (digs (a))), .v (.int .i64 x)]), (4, [.v (.bool false), .sl 0 [], .v (.int .i64 0)]), (7, [.v (.bool false), .sl (nd (1)) (dg (digs (1))), .v (.int .i64 0)]), (8, [.v (.bool g1), .sl (nd (k1)) (dg (digs (k1))), .v (.int .i64 y1)]), (10, [.v (.bool g1), .sl (nd (k1)) (dg (digs (k1))), .v (.int .i64 y1)])] (by kernel_rfl) (by kernel_rfl) (by kernel_rfl) ?_
            refine vc_seq ?_
            refine vc_seqr rfl ?_
            refine vcI_q 2 (by kernel_rfl) ?_
            refine vcI_bin (op := .quo) (t := 3) (a := .int .i64 m) (b := .int .i64 ((B : Int))) (dst := (some 43)) (by kernel_rfl) ?_
            refine And.intro (by omega) ?_
            intro z43 hz43
            refine vcI_bin (op := .rem) (t := 3) (a := .int .i64 z43) (b := .int .i64 2) (dst := (some 44)) (by kernel_rfl) ?_
            refine And.intro (by omega) ?_
            intro z44 hz44
            have hbit := quo_bit (m := n.natAbs) (i := i) (by omega) rfl hBi (by omega) hz43 hz44
            refine vcI_bin (op := .eql) (t := 3) (a := .int .i64 z44) (b := .int .i64 1) (dst := (some 45)) (by kernel_rfl) ?_
            intro c45 hc45
            refine vcI_end 71 [(1, .d (.v (.int .i64 n))), (2, .p 2 0), (4, .p 4 0), (5, .d (.v (.bool false))), (6, .d (.v (.int .i64 m))), (7, .p 7 0), (8, .p 8 0), (9, .d (.v (.int .i64 ((B : Int))))), (10, .p 10 0), (11, .d (.v (.bool ok1))), (19, .d (.v (.bool false))), (23, .d (.v (.bool vb23))), (30, .d (.v (.bool true))), (38, .d (.v (.bool false))), (45, .d (.v (.bool c45)))] [(2, [.v (.bool g), .sl (nd (a)) (dg (digs (a))), .v (.int .i64 x)]), (4, [.v (.bool false), .sl 0 [], .v (.int .i64 0)]), (7, [.v (.bool false), .sl (nd (1)) (dg (digs (1))), .v (.int .i64 0)]), (8, [.v (.bool g1), .sl (nd (k1)) (dg (digs (k1))), .v (.int .i64 y1)]), (10, [.v (.bool g1), .sl (nd (k1)) (dg (digs (k1))), .v (.int .i64 y1)])] (by kernel_rfl) (by kernel_rfl) (by kernel_rfl) ?_
            cases c45
            · replace hc45 := bf hc45
              have hst : powStep (g, a, x, true) false (og, oc, ox, true) = (g1, k1, y1, true) := by rw [powStep, hT]; simp
              refine vc_condf (by kernel_rfl) ?_
              refine vc_skip ?_
              refine seq_n ?_
              refine vc_reg rfl ?_
              refine vcI_q 1 (by kernel_rfl) ?_
              refine vcI_bin (op := .quo) (t := 3) (a := .int .i64 ((B : Int))) (b := .int .i64 2) (dst := (some 57)) (by kernel_rfl) ?_
              refine And.intro (by omega) ?_
              intro z57 hz57
              refine vcI_q 1 (by kernel_rfl) ?_
              refine vcI_end 71 [(1, .d (.v (.int .i64 n))), (2, .p 2 0), (4, .p 4 0), (5, .d (.v (.bool false))), (6, .d (.v (.int .i64 m))), (7, .p 7 0), (8, .p 8 0), (9, .d (.v (.int .i64 z57))), (10, .p 10 0), (11, .d (.v (.bool ok1))), (19, .d (.v (.bool false))), (23, .d (.v (.bool vb23))), (30, .d (.v (.bool true))), (38, .d (.v (.bool false))), (45, .d (.v (.bool false)))] [(2, [.v (.bool g), .sl (nd (a)) (dg (digs (a))), .v (.int .i64 x)]), (4, [.v (.bool false), .sl 0 [], .v (.int .i64 0)]), (7, [.v (.bool false), .sl (nd (1)) (dg (digs (1))), .v (.int .i64 0)]), (8, [.v (.bool g1), .sl (nd (k1)) (dg (digs (k1))), .v (.int .i64 y1)]), (10, [.v (.bool g1), .sl (nd (k1)) (dg (digs (k1))), .v (.int .i64 y1)])] (by kernel_rfl) (by kernel_rfl) (by kernel_rfl) ?_
              refine block_n ?_
              obtain rfl := quoI (a := B) (b := 2) rfl hz57 (by omega)
              refine loop_n (i, B / 2, g1, k1, y1) (⟨by rw [hBi], by omega, q1, q2, q3, by rw [hG, powGo_step (by rw [← hbit]; simpa using hc45) hst, if_pos rfl]⟩) (by show i < j; omega) (by kernel_rfl) (by kernel_rfl)
            · replace hc45 := bt hc45
              refine vc_condt (by kernel_rfl) ?_
              refine vc_seqr rfl ?_
              refine vcI_q 2 (by kernel_rfl) ?_
              refine vcI_call (f := 40) (ds := [.agg [.v (.bool g1), .sl (nd (k1)) (dg (digs (k1))), .v (.int .i64 y1)], .agg [.v (.bool g), .sl (nd (a)) (dg (digs (a))), .v (.int .i64 x)]]) (dst := (some 49)) (by kernel_rfl) (c_rMulT (o1 := true) (o2 := true) q1 ha (by omega) (by omega) (by omega) (by omega)) ?_
              rintro _ ⟨g2, k2, y2, ok2, rfl, hT2⟩
              obtain ⟨p1, p2, p3, p4⟩ := mulT_range hT2
              have hst : powStep (g, a, x, true) true (og, oc, ox, true) = (g2, k2, y2, ok2) := by rw [powStep, hT]; simpa using hT2
              refine vcI_q 6 (by kernel_rfl) ?_
              refine vcI_end 71 [(1, .d (.v (.int .i64 n))), (2, .p 2 0), (4, .p 4 0), (5, .d (.v (.bool false))), (6, .d (.v (.int .i64 m))), (7, .p 7 0), (8, .p 8 0), (9, .d (.v (.int .i64 ((B : Int))))), (10, .p 10 0), (11, .d (.v (.bool ok1))), (12, .p 12 0), (13, .d (.v (.bool ok2))), (19, .d (.v (.bool false))), (23, .d (.v (.bool vb23))), (30, .d (.v (.bool true))), (38, .d (.v (.bool false))), (45, .d (.v (.bool true)))] [(2, [.v (.bool g), .sl (nd (a)) (dg (digs (a))), .v (.int .i64 x)]), (4, [.v (.bool false), .sl 0 [], .v (.int .i64 0)]), (7, [.v (.bool false), .sl (nd (1)) (dg (digs (1))), .v (.int .i64 0)]), (8, [.v (.bool g1), .sl (nd (k1)) (dg (digs (k1))), .v (.int .i64 y1)]), (10, [.v (.bool g1), .sl (nd (k1)) (dg (digs (k1))), .v (.int .i64 y1)]), (12, [.v (.bool g2), .sl (nd (k2)) (dg (digs (k2))), .v (.int .i64 y2)])] (by kernel_rfl) (by kernel_rfl) (by kernel_rfl) ?_
              refine vc_seq ?_
              refine vc_seqr rfl ?_
              refine vcI_q 1 (by kernel_rfl) ?_
              refine vcI_un (op := .not) (a := .bool ok2) (dst := (some 53)) (by kernel_rfl) ?_
              intro c53 hc53
              refine vcI_end 71 [(1, .d (.v (.int .i64 n))), (2, .p 2 0), (4, .p 4 0), (5, .d (.v (.bool false))), (6, .d (.v (.int .i64 m))), (7, .p 7 0), (8, .p 8 0), (9, .d (.v (.int .i64 ((B : Int))))), (10, .p 10 0), (11, .d (.v (.bool ok1))), (12, .p 12 0), (13, .d (.v (.bool ok2))), (19, .d (.v (.bool false))), (23, .d (.v (.bool vb23))), (30, .d (.v (.bool true))), (38, .d (.v (.bool false))), (45, .d (.v (.bool true))), (53, .d (.v (.bool c53)))] [(2, [.v (.bool g), .sl (nd (a)) (dg (digs (a))), .v (.int .i64 x)]), (4, [.v (.bool false), .sl 0 [], .v (.int .i64 0)]), (7, [.v (.bool false), .sl (nd (1)) (dg (digs (1))), .v (.int .i64 0)]), (8, [.v (.bool g1), .sl (nd (k1)) (dg (digs (k1))), .v (.int .i64 y1)]), (10, [.v (.bool g1), .sl (nd (k1)) (dg (digs (k1))), .v (.int .i64 y1)]), (12, [.v (.bool g2), .sl (nd (k2)) (dg (digs (k2))), .v (.int .i64 y2)])] (by kernel_rfl) (by kernel_rfl) (by kernel_rfl) ?_
              cases c53
              · replace hc53 := bf hc53
                have hk2 : ok2 = true := by simpa using hc53
                rw [hk2] at hst
                refine vc_condf (by kernel_rfl) ?_
                refine vc_skip ?_
                refine seq_n ?_
                refine vc_reg rfl ?_
                refine vcI_q 2 (by kernel_rfl) ?_
                refine vcI_end 71 [(1, .d (.v (.int .i64 n))), (2, .p 2 0), (4, .p 4 0), (5, .d (.v (.bool false))), (6, .d (.v (.int .i64 m))), (7, .p 7 0), (8, .p 8 0), (9, .d (.v (.int .i64 ((B : Int))))), (10, .p 10 0), (11, .d (.v (.bool ok1))), (12, .p 12 0), (13, .d (.v (.bool ok2))), (19, .d (.v (.bool false))), (23, .d (.v (.bool vb23))), (30, .d (.v (.bool true))), (38, .d (.v (.bool false))), (45, .d (.v (.bool true))), (53, .d (.v (.bool false)))] [(2, [.v (.bool g), .sl (nd (a)) (dg (digs (a))), .v (.int .i64 x)]), (4, [.v (.bool false), .sl 0 [], .v (.int .i64 0)]), (7, [.v (.bool false), .sl (nd (1)) (dg (digs (1))), .v (.int .i64 0)]), (8, [.v (.bool g2), .sl (nd (k2)) (dg (digs (k2))), .v (.int .i64 y2)]), (10, [.v (.bool g1), .sl (nd (k1)) (dg (digs (k1))), .v (.int .i64 y1)]), (12, [.v (.bool g2), .sl (nd (k2)) (dg (digs (k2))), .v (.int .i64 y2)])] (by kernel_rfl) (by kernel_rfl) (by kernel_rfl) ?_
                refine seq_n ?_
                refine vc_reg rfl ?_
                refine vcI_q 1 (by kernel_rfl) ?_
                refine vcI_bin (op := .quo) (t := 3) (a := .int .i64 ((B : Int))) (b := .int .i64 2) (dst := (some 57)) (by kernel_rfl) ?_
                refine And.intro (by omega) ?_
                intro z57 hz57
                refine vcI_q 1 (by kernel_rfl) ?_
                refine vcI_end 71 [(1, .d (.v (.int .i64 n))), (2, .p 2 0), (4, .p 4 0), (5, .d (.v (.bool false))), (6, .d (.v (.int .i64 m))), (7, .p 7 0), (8, .p 8 0), (9, .d (.v (.int .i64 z57))), (10, .p 10 0), (11, .d (.v (.bool ok1))), (12, .p 12 0), (13, .d (.v (.bool ok2))), (19, .d (.v (.bool false))), (23, .d (.v (.bool vb23))), (30, .d (.v (.bool true))), (38, .d (.v (.bool false))), (45, .d (.v (.bool true))), (53, .d (.v (.bool false)))] [(2, [.v (.bool g), .sl (nd (a)) (dg (digs (a))), .v (.int .i64 x)]), (4, [.v (.bool false), .sl 0 [], .v (.int .i64 0)]), (7, [.v (.bool false), .sl (nd (1)) (dg (digs (1))), .v (.int .i64 0)]), (8, [.v (.bool g2), .sl (nd (k2)) (dg (digs (k2))), .v (.int .i64 y2)]), (10, [.v (.bool g1), .sl (nd (k1)) (dg (digs (k1))), .v (.int .i64 y1)]), (12, [.v (.bool g2), .sl (nd (k2)) (dg (digs (k2))), .v (.int .i64 y2)])] (by kernel_rfl) (by kernel_rfl) (by kernel_rfl) ?_
                refine block_n ?_
                obtain rfl := quoI (a := B) (b := 2) rfl hz57 (by omega)
                refine loop_n (i, B / 2, g2, k2, y2) (⟨by rw [hBi], by omega, p1, p2, p3, by rw [hG, powGo_step (by rw [← hbit]; simpa using hc45) hst, if_pos rfl]⟩) (by show i < j; omega) (by kernel_rfl) (by kernel_rfl)
              · replace hc53 := bt hc53
                have hk2 : ok2 = false := by simpa using hc53
                rw [hk2] at hst
                refine vc_condt (by kernel_rfl) ?_
                refine vc_seqr rfl ?_
                refine vcI_q 3 (by kernel_rfl) ?_
                refine vcI_end 71 [(1, .d (.v (.int .i64 n))), (2, .p 2 0), (4, .p 4 0), (5, .d (.v (.bool false))), (6, .d (.v (.int .i64 m))), (7, .p 7 0), (8, .p 8 0), (9, .d (.v (.int .i64 ((B : Int))))), (10, .p 10 0), (11, .d (.v (.bool ok1))), (12, .p 12 0), (13, .d (.v (.bool ok2))), (19, .d (.v (.bool false))), (23, .d (.v (.bool vb23))), (30, .d (.v (.bool true))), (38, .d (.v (.bool false))), (45, .d (.v (.bool true))), (53, .d (.v (.bool true)))] [(2, [.v (.bool g), .sl (nd (a)) (dg (digs (a))), .v (.int .i64 x)]), (4, [.v (.bool false), .sl 0 [], .v (.int .i64 0)]), (7, [.v (.bool false), .sl (nd (1)) (dg (digs (1))), .v (.int .i64 0)]), (8, [.v (.bool g1), .sl (nd (k1)) (dg (digs (k1))), .v (.int .i64 y1)]), (10, [.v (.bool g1), .sl (nd (k1)) (dg (digs (k1))), .v (.int .i64 y1)]), (12, [.v (.bool g2), .sl (nd (k2)) (dg (digs (k2))), .v (.int .i64 y2)])] (by kernel_rfl) (by kernel_rfl) (by kernel_rfl) ?_
                refine vc_ret ?_
                refine seq_r ?_
                refine seq_r ?_
                refine block_r ?_
                refine loop_r ?_
                refine block_r ?_
                refine seq_r ?_
                refine ret_2 (d := .agg [.v (.bool false), .sl 0 [], .v (.int .i64 0)]) (e := .v (.bool false)) (ds := []) (by kernel_rfl) ?_
                rw [powT_no (g := g2) (c := k2) (x := y2) (by omega) (by omega) (by rw [hG, powGo_step (by rw [← hbit]; simpa using hc45) hst, if_neg (by simp)]), dRFit_0]
          · replace hc38 := bt hc38
            have hk1 : ok1 = false := by simpa using hc38
            rw [hk1] at hT
            have hst : powStep (g, a, x, true) (decide (n.natAbs / 2 ^ i % 2 = 1)) (og, oc, ox, true) = (g1, k1, y1, false) := by rw [powStep, hT]; simp
            refine vc_condt (by kernel_rfl) ?_
            refine vc_seqr rfl ?_
            refine vcI_q 3 (by kernel_rfl) ?_
            refine vcI_end 71 [(1, .d (.v (.int .i64 n))), (2, .p 2 0), (4, .p 4 0), (5, .d (.v (.bool false))), (6, .d (.v (.int .i64 m))), (7, .p 7 0), (8, .p 8 0), (9, .d (.v (.int .i64 ((B : Int))))), (10, .p 10 0), (11, .d (.v (.bool ok1))), (19, .d (.v (.bool false))), (23, .d (.v (.bool vb23))), (30, .d (.v (.bool true))), (38, .d (.v (.bool true)))] [(2, [.v (.bool g), .sl (nd (a)) (dg (digs (a))), .v (.int .i64 x)]), (4, [.v (.bool false), .sl 0 [], .v (.int .i64 0)]), (7, [.v (.bool false), .sl (nd (1)) (dg (digs (1))), .v (.int .i64 0)]), (8, [.v (.bool og), .sl (nd (oc)) (dg (digs (oc))), .v (.int .i64 ox)]), (10, [.v (.bool g1), .sl (nd (k1)) (dg (digs (k1))), .v (.int .i64 y1)])] (by kernel_rfl) (by kernel_rfl) (by kernel_rfl) ?_
            refine vc_ret ?_
            refine seq_r ?_
            refine block_r ?_
            refine loop_r ?_
            refine block_r ?_
            refine seq_r ?_
            refine ret_2 (d := .agg [.v (.bool false), .sl 0 [], .v (.int .i64 0)]) (e := .v (.bool false)) (ds := []) (by kernel_rfl) ?_
            rw [powT_no (g := g1) (c := k1) (x := y1) (by omega) (by omega) (by rw [hG, powGo_step (by simp) hst, if_neg (by simp)]), dRFit_0]
      intro hmid
      refine vc_seqr rfl ?_
      refine vcI_q 1 (by kernel_rfl) ?_
      refine vcI_bin (op := .lss) (t := 3) (a := .int .i64 n) (b := .int .i64 0) (dst := (some 23)) (by kernel_rfl) ?_
      intro c23 hc23
      refine vcI_end 71 [(1, .d (.v (.int .i64 n))), (2, .p 2 0), (4, .p 4 0), (5, .d (.v (.bool false))), (6, .d (.v (.int .i64 n))), (19, .d (.v (.bool false))), (23, .d (.v (.bool c23)))] [(2, [.v (.bool g), .sl (nd (a)) (dg (digs (a))), .v (.int .i64 x)]), (4, [.v (.bool false), .sl 0 [], .v (.int .i64 0)])] (by kernel_rfl) (by kernel_rfl) (by kernel_rfl) ?_
      cases c23
      · replace hc23 := bf hc23
        refine vc_condf (by kernel_rfl) ?_
        refine vc_skip ?_
        refine mid_n hmid (n, false) (by omega) (by kernel_rfl)
      · replace hc23 := bt hc23
        refine vc_condt (by kernel_rfl) ?_
        refine vc_reg rfl ?_
        refine vcI_q 1 (by kernel_rfl) ?_
        refine vcI_un (op := .neg) (a := .int .i64 n) (dst := (some 25)) (by kernel_rfl) ?_
        intro z25 hz25
        first | (replace hz25 := hz25.i64 (by omega)) | skip
        refine vcI_q 1 (by kernel_rfl) ?_
        refine vcI_end 71 [(1, .d (.v (.int .i64 n))), (2, .p 2 0), (4, .p 4 0), (5, .d (.v (.bool false))), (6, .d (.v (.int .i64 z25))), (19, .d (.v (.bool false))), (23, .d (.v (.bool true)))] [(2, [.v (.bool g), .sl (nd (a)) (dg (digs (a))), .v (.int .i64 x)]), (4, [.v (.bool false), .sl 0 [], .v (.int .i64 0)])] (by kernel_rfl) (by kernel_rfl) (by kernel_rfl) ?_
        refine mid_n hmid (z25, true) (by omega) (by kernel_rfl)
    · replace hc18 := bt hc18
      refine vc_condt (by kernel_rfl) ?_
      refine vc_seqr rfl ?_
      refine vcI_q 3 (by kernel_rfl) ?_
      refine vcI_end 71 [(1, .d (.v (.int .i64 n))), (2, .p 2 0), (4, .p 4 0), (5, .d (.v (.bool false))), (19, .d (.v (.bool true)))] [(2, [.v (.bool g), .sl (nd (a)) (dg (digs (a))), .v (.int .i64 x)]), (4, [.v (.bool false), .sl 0 [], .v (.int .i64 0)])] (by kernel_rfl) (by kernel_rfl) (by kernel_rfl) ?_
      refine vc_ret ?_
      refine seq_r ?_
      refine ret_2 (d := .agg [.v (.bool false), .sl 0 [], .v (.int .i64 0)]) (e := .v (.bool false)) (ds := []) (by kernel_rfl) ?_
      rw [powT, if_pos (by omega), dRFit_0]
  · replace hc15 := bt hc15
    refine vcI_q 3 (by kernel_rfl) ?_
    refine vcI_end 71 [(1, .d (.v (.int .i64 n))), (2, .p 2 0), (4, .p 4 0), (5, .d (.v (.bool false))), (19, .d (.v (.bool true)))] [(2, [.v (.bool g), .sl (nd (a)) (dg (digs (a))), .v (.int .i64 x)]), (4, [.v (.bool false), .sl 0 [], .v (.int .i64 0)])] (by kernel_rfl) (by kernel_rfl) (by kernel_rfl) ?_
    refine vc_condt (by kernel_rfl) ?_
    refine vc_seqr rfl ?_
    refine vcI_q 3 (by kernel_rfl) ?_
    refine vcI_end 71 [(1, .d (.v (.int .i64 n))), (2, .p 2 0), (4, .p 4 0), (5, .d (.v (.bool false))), (19, .d (.v (.bool true)))] [(2, [.v (.bool g), .sl (nd (a)) (dg (digs (a))), .v (.int .i64 x)]), (4, [.v (.bool false), .sl 0 [], .v (.int .i64 0)])] (by kernel_rfl) (by kernel_rfl) (by kernel_rfl) ?_
    refine vc_ret ?_
    refine seq_r ?_
    refine ret_2 (d := .agg [.v (.bool false), .sl 0 [], .v (.int .i64 0)]) (e := .v (.bool false)) (ds := []) (by kernel_rfl) ?_
    rw [powT, if_pos (by omega), dRFit_0]

theorem tmod2 {x z : Int} (h : z = x.tmod 2) : (0 ≤ z ∧ z = x % 2) ∨ (z < 0 ∧ x % 2 = 1) := by
  rcases Int.le_total 0 x with h0 | h0
  · rw [Int.tmod_eq_emod_of_nonneg h0] at h
    omega
  · obtain ⟨y, rfl⟩ : ∃ y, x = -y := ⟨-x, by omega⟩
    rw [Int.neg_tmod, Int.tmod_eq_emod_of_nonneg (by omega)] at h
    omega
set_option maxHeartbeats 1600000 in
theorem c_rRoot {g : Bool} {a : Nat} {x : Int} (ha : a < E34) (hx0 : -30000 ≤ x) (hx1 : x ≤ 30000) : HasC Try.prog 20 [.agg [.v (.bool g), .sl (nd (a)) (dg (digs (a))), .v (.int .i64 x)]] (fun y => y = dRFit (rootT a x)) := by
  refine HasC.of [] (fn := Try.f20) tyOk mixed (fun args w => Try.call20 args w) Try.func20 rfl (by kernel_rfl) (Nat.le_of_ble_eq_true rfl) (⟨_, rfl⟩) ?_
  have hna := nd_le 34 a ha
  refine vc_seqr rfl ?_
  refine vcI_q 3 (by kernel_rfl) ?_
  refine vcI_end 61 [(1, .p 1 0), (2, .p 2 0), (3, .d (.v (.bool false)))] [(1, [.v (.bool g), .sl (nd (a)) (dg (digs (a))), .v (.int .i64 x)]), (2, [.v (.bool false), .sl 0 [], .v (.int .i64 0)])] (by kernel_rfl) (by kernel_rfl) (by kernel_rfl) ?_
  refine vc_seqr rfl ?_
  refine vcI_q 2 (by kernel_rfl) ?_
  refine vcI_bin (op := .rem) (t := 3) (a := .int .i64 x) (b := .int .i64 2) (dst := (some 12)) (by kernel_rfl) ?_
  refine And.intro (by omega) ?_
  intro z12 hz12
  have h12b := tmod2 hz12
  refine vcI_q 1 (by kernel_rfl) ?_
  refine vcI_end 61 [(1, .p 1 0), (2, .p 2 0), (3, .d (.v (.bool false))), (4, .d (.v (.int .i64 z12)))] [(1, [.v (.bool g), .sl (nd (a)) (dg (digs (a))), .v (.int .i64 x)]), (2, [.v (.bool false), .sl 0 [], .v (.int .i64 0)])] (by kernel_rfl) (by kernel_rfl) (by kernel_rfl) ?_
  refine vc_mid 61 (fun (vcx : Int × Bool) => match vcx with | (o, vb14) => [(1, .p 1 0), (2, .p 2 0), (3, .d (.v (.bool false))), (4, .d (.v (.int .i64 o))), (14, .d (.v (.bool vb14)))]) (fun (vcx : Int × Bool) => match vcx with | (o, vb14) => [(1, [.v (.bool g), .sl (nd (a)) (dg (digs (a))), .v (.int .i64 x)]), (2, [.v (.bool false), .sl 0 [], .v (.int .i64 0)])]) (fun (vcx : Int × Bool) => match vcx with | (o, vb14) => o = x % 2) ?_ ?_
  · rintro ⟨o, vb14⟩ hinv
    simp only at hinv
    have ho := hinv
    refine vc_seqr rfl ?_
    refine vcI_q 3 (by kernel_rfl) ?_
    refine vcI_bin (op := .sub) (t := 3) (a := .int .i64 x) (b := .int .i64 o) (dst := (some 18)) (by kernel_rfl) ?_
    intro z18 hz18
    first | (replace hz18 := hz18.i64 (by omega)) | skip
    refine vcI_bin (op := .quo) (t := 3) (a := .int .i64 z18) (b := .int .i64 2) (dst := (some 19)) (by kernel_rfl) ?_
    refine And.intro (by omega) ?_
    intro z19 hz19
    replace hz19 := quo2 hz19 (by omega) (by omega) (by omega)
    have hlk : z19 = x / 2 := by omega
    refine vcI_q 1 (by kernel_rfl) ?_
    refine vcI_end 61 [(1, .p 1 0), (2, .p 2 0), (3, .d (.v (.bool false))), (4, .d (.v (.int .i64 o))), (5, .d (.v (.int .i64 z19))), (14, .d (.v (.bool vb14)))] [(1, [.v (.bool g), .sl (nd (a)) (dg (digs (a))), .v (.int .i64 x)]), (2, [.v (.bool false), .sl 0 [], .v (.int .i64 0)])] (by kernel_rfl) (by kernel_rfl) (by kernel_rfl) ?_
    refine vc_seq ?_
    refine vc_seqr rfl ?_
    refine vcI_q 3 (by kernel_rfl) ?_
    refine vcI_bin (op := .eql) (t := 3) (a := .int .i64 (((nd (a) : Nat) : Int))) (b := .int .i64 0) (dst := (some 23)) (by kernel_rfl) ?_
    intro c23 hc23
    refine vcI_end 61 [(1, .p 1 0), (2, .p 2 0), (3, .d (.v (.bool false))), (4, .d (.v (.int .i64 o))), (5, .d (.v (.int .i64 z19))), (14, .d (.v (.bool vb14))), (23, .d (.v (.bool c23)))] [(1, [.v (.bool g), .sl (nd (a)) (dg (digs (a))), .v (.int .i64 x)]), (2, [.v (.bool false), .sl 0 [], .v (.int .i64 0)])] (by kernel_rfl) (by kernel_rfl) (by kernel_rfl) ?_
    cases c23
    · replace hc23 := bf hc23
      have ha0 : a ≠ 0 := fun h => hc23 (by rw [h, nd_zero]; rfl)
      refine vc_condf (by kernel_rfl) ?_
      refine vc_skip ?_
      refine seq_n ?_
      refine vc_seqr rfl ?_
      refine vcI_q 1 (by kernel_rfl) ?_
      refine vcI_bin (op := .add) (t := 3) (a := .int .i64 80) (b := .int .i64 o) (dst := (some 30)) (by kernel_rfl) ?_
      intro z30 hz30
      first | (replace hz30 := hz30.i64 (by omega)) | skip
      obtain ⟨n, hn⟩ : ∃ n : Nat, z30 = (n : Int) := ⟨z30.toNat, by omega⟩
      obtain ⟨A, hA⟩ : ∃ A, A = a * 10 ^ n := ⟨_, rfl⟩
      have hnA : nd A ≤ 130 := by rw [hA]; have := nd_up10 (Nat.pos_of_ne_zero ha0) n; omega
      refine vcI_q 1 (by kernel_rfl) ?_
      refine vcI_end 61 [(1, .p 1 0), (2, .p 2 0), (3, .d (.v (.bool false))), (4, .d (.v (.int .i64 o))), (5, .d (.v (.int .i64 z19))), (6, .d (.v (.int .i64 z30))), (14, .d (.v (.bool vb14))), (23, .d (.v (.bool false)))] [(1, [.v (.bool g), .sl (nd (a)) (dg (digs (a))), .v (.int .i64 x)]), (2, [.v (.bool false), .sl 0 [], .v (.int .i64 0)])] (by kernel_rfl) (by kernel_rfl) (by kernel_rfl) ?_
      refine vc_seqr rfl ?_
      refine vcI_q 3 (by kernel_rfl) ?_
      refine vcI_call (f := 36) (ds := [.sl (nd (a)) (dg (digs (a))), .v (.int .i64 z30)]) (dst := (some 34)) (by kernel_rfl) (c_ShiftA (n := n) hA hn (by omega) (by omega)) ?_
      rintro _ rfl
      refine vcI_q 1 (by kernel_rfl) ?_
      refine vcI_end 61 [(1, .p 1 0), (2, .p 2 0), (3, .d (.v (.bool false))), (4, .d (.v (.int .i64 o))), (5, .d (.v (.int .i64 z19))), (6, .d (.v (.int .i64 z30))), (7, .d (.sl (nd (A)) (dg (digs (A))))), (14, .d (.v (.bool vb14))), (23, .d (.v (.bool false)))] [(1, [.v (.bool g), .sl (nd (a)) (dg (digs (a))), .v (.int .i64 x)]), (2, [.v (.bool false), .sl 0 [], .v (.int .i64 0)])] (by kernel_rfl) (by kernel_rfl) (by kernel_rfl) ?_
      refine vc_seqr rfl ?_
      refine vcI_q 1 (by kernel_rfl) ?_
      refine vcI_call (f := 42) (ds := [.sl (nd (A)) (dg (digs (A)))]) (dst := (some 36)) (by kernel_rfl) (c_Root (a := A) (by omega)) ?_
      rintro _ ⟨q, hq, rfl⟩
      have hqi : isq A = q := isq_eq hq.1 hq.2
      have hqA : q ≤ A := Nat.le_trans (Nat.le_mul_self q) hq.1
      have hnq : nd q ≤ 130 := Nat.le_trans (nd_mono hqA) hnA
      refine vcI_q 1 (by kernel_rfl) ?_
      refine vcI_end 61 [(1, .p 1 0), (2, .p 2 0), (3, .d (.v (.bool false))), (4, .d (.v (.int .i64 o))), (5, .d (.v (.int .i64 z19))), (6, .d (.v (.int .i64 z30))), (7, .d (.sl (nd (A)) (dg (digs (A))))), (8, .d (.sl (nd (q)) (dg (digs (q))))), (14, .d (.v (.bool vb14))), (23, .d (.v (.bool false)))] [(1, [.v (.bool g), .sl (nd (a)) (dg (digs (a))), .v (.int .i64 x)]), (2, [.v (.bool false), .sl 0 [], .v (.int .i64 0)])] (by kernel_rfl) (by kernel_rfl) (by kernel_rfl) ?_
      refine vc_seqr rfl ?_
      refine vcI_q 3 (by kernel_rfl) ?_
      refine vcI_bin (op := .sub) (t := 3) (a := .int .i64 x) (b := .int .i64 z30) (dst := (some 40)) (by kernel_rfl) ?_
      intro z40 hz40
      first | (replace hz40 := hz40.i64 (by omega)) | skip
      refine vcI_bin (op := .quo) (t := 3) (a := .int .i64 z40) (b := .int .i64 2) (dst := (some 41)) (by kernel_rfl) ?_
      refine And.intro (by omega) ?_
      intro z41 hz41
      replace hz41 := quo2 hz41 (by omega) (by omega) (by omega)
      have hy : z41 = (x - (n : Int)) / 2 := by omega
      have hlaw := root_law (x := x) ha ha0 (n := n) (by omega) hy hlk
      rw [← hA, hqi] at hlaw
      refine vcI_q 1 (by kernel_rfl) ?_
      refine vcI_end 61 [(1, .p 1 0), (2, .p 2 0), (3, .d (.v (.bool false))), (4, .d (.v (.int .i64 o))), (5, .d (.v (.int .i64 z19))), (6, .d (.v (.int .i64 z30))), (7, .d (.sl (nd (A)) (dg (digs (A))))), (8, .d (.sl (nd (q)) (dg (digs (q))))), (9, .d (.v (.int .i64 z41))), (14, .d (.v (.bool vb14))), (23, .d (.v (.bool false)))] [(1, [.v (.bool g), .sl (nd (a)) (dg (digs (a))), .v (.int .i64 x)]), (2, [.v (.bool false), .sl 0 [], .v (.int .i64 0)])] (by kernel_rfl) (by kernel_rfl) (by kernel_rfl) ?_
      refine vc_seq ?_
      refine vc_seqr rfl ?_
      refine vcI_q 2 (by kernel_rfl) ?_
      refine vcI_call (f := 43) (ds := [.sl (nd (q)) (dg (digs (q))), .sl (nd (q)) (dg (digs (q)))]) (dst := (some 44)) (by kernel_rfl) (c_Mul (a := q) (b := q) (by omega) (by omega)) ?_
      rintro _ rfl
      refine vcI_q 1 (by kernel_rfl) ?_
      refine vcI_call (f := 39) (ds := [.sl (nd (q * q)) (dg (digs (q * q))), .sl (nd (A)) (dg (digs (A)))]) (dst := (some 46)) (by kernel_rfl) (c_Cmp (a := q * q) (b := A) (by have := nd_mul q q; omega) (by omega)) ?_
      rintro _ rfl
      refine vcI_bin (op := .eql) (t := 3) (a := .int .i64 (cmpN (q * q) A)) (b := .int .i64 0) (dst := (some 47)) (by kernel_rfl) ?_
      intro c47 hc47
      refine vcI_end 61 [(1, .p 1 0), (2, .p 2 0), (3, .d (.v (.bool false))), (4, .d (.v (.int .i64 o))), (5, .d (.v (.int .i64 z19))), (6, .d (.v (.int .i64 z30))), (7, .d (.sl (nd (A)) (dg (digs (A))))), (8, .d (.sl (nd (q)) (dg (digs (q))))), (9, .d (.v (.int .i64 z41))), (14, .d (.v (.bool vb14))), (23, .d (.v (.bool false))), (47, .d (.v (.bool c47)))] [(1, [.v (.bool g), .sl (nd (a)) (dg (digs (a))), .v (.int .i64 x)]), (2, [.v (.bool false), .sl 0 [], .v (.int .i64 0)])] (by kernel_rfl) (by kernel_rfl) (by kernel_rfl) ?_
      cases c47
      · replace hc47 := bf hc47
        have hne : q * q ≠ A := fun h => hc47 (cN_eq.2 h)
        refine vc_condf (by kernel_rfl) ?_
        refine vc_skip ?_
        refine seq_n ?_
        refine vc_seqr rfl ?_
        refine vcI_q 3 (by kernel_rfl) ?_
        refine vcI_call (f := 34) (ds := [.agg [.v (.bool false), .sl (nd (q)) (dg (digs (q))), .v (.int .i64 z41)], .v (.bool true), .v (.int .i64 1)]) (dst := (some 58)) (by kernel_rfl) (rfit_ex (c_rFit (m := 1) (neg := false) (more := true) (N := q) (e := z41) (by omega) (by omega) (by omega))) ?_
        rintro _ ⟨g', k, x', ok, rfl, hT⟩
        refine vcI_q 4 (by kernel_rfl) ?_
        refine vcI_end 61 [(1, .p 1 0), (2, .p 2 0), (3, .d (.v (.bool ok))), (4, .d (.v (.int .i64 o))), (5, .d (.v (.int .i64 z19))), (6, .d (.v (.int .i64 z30))), (7, .d (.sl (nd (A)) (dg (digs (A))))), (8, .d (.sl (nd (q)) (dg (digs (q))))), (9, .d (.v (.int .i64 z41))), (14, .d (.v (.bool vb14))), (23, .d (.v (.bool false))), (47, .d (.v (.bool false)))] [(1, [.v (.bool g), .sl (nd (a)) (dg (digs (a))), .v (.int .i64 x)]), (2, [.v (.bool g'), .sl (nd (k)) (dg (digs (k))), .v (.int .i64 x')])] (by kernel_rfl) (by kernel_rfl) (by kernel_rfl) ?_
        refine vc_ret ?_
        refine ret_2 (d := .agg [.v (.bool g'), .sl (nd (k)) (dg (digs (k))), .v (.int .i64 x')]) (e := .v (.bool ok)) (ds := []) (by kernel_rfl) ?_
        rw [← hlaw.2 hne, hT]; rfl
      · replace hc47 := bt hc47
        have heq : q * q = A := cN_eq.1 hc47
        have hq0 : q ≠ 0 := by rintro rfl; simp at heq; rw [← heq] at hA; have : 0 < a * 10 ^ n := Nat.mul_pos (Nat.pos_of_ne_zero ha0) (Nat.pow_pos (by decide)); omega
        obtain ⟨t, ht⟩ : ∃ t, strip (z19 - z41).toNat q = t := ⟨_, rfl⟩
        obtain ⟨p, j⟩ := t
        have hpj : p = (strip (z19 - z41).toNat q).1 ∧ j = (strip (z19 - z41).toNat q).2 := by rw [ht]; exact ⟨rfl, rfl⟩
        have hpn : nd p ≤ 130 := by rw [hpj.1]; exact Nat.le_trans (strip_nd _ _) hnq
        have hjn : j ≤ 200 := by rw [hpj.2]; exact Nat.le_trans (strip_spec _ _).2 (by omega)
        refine vc_condt (by kernel_rfl) ?_
        refine vc_seqr rfl ?_
        refine vcI_q 3 (by kernel_rfl) ?_
        refine vcI_call (f := 37) (ds := [.sl (nd (q)) (dg (digs (q))), .v (.int .i64 z41), .v (.int .i64 z19)]) (dst := (some 51)) (by kernel_rfl) (c_exactI ht hq0 (by omega) (by omega) (by omega) (by omega) (by omega)) ?_
        rintro _ rfl
        have hl1 := hlaw.1 heq
        rw [ht] at hl1
        refine vcI_call (f := 34) (ds := [.agg [.v (.bool false), .sl (nd (p)) (dg (digs (p))), .v (.int .i64 (z41 + (j : Int)))], .v (.bool false), .v (.int .i64 1)]) (dst := (some 52)) (by kernel_rfl) (rfit_ex (c_rFit (m := 1) (neg := false) (more := false) (N := p) (e := z41 + (j : Int)) (by omega) (by omega) (by omega))) ?_
        rintro _ ⟨g', k, x', ok, rfl, hT⟩
        refine vcI_q 4 (by kernel_rfl) ?_
        refine vcI_end 61 [(1, .p 1 0), (2, .p 2 0), (3, .d (.v (.bool ok))), (4, .d (.v (.int .i64 o))), (5, .d (.v (.int .i64 z19))), (6, .d (.v (.int .i64 z30))), (7, .d (.sl (nd (A)) (dg (digs (A))))), (8, .d (.sl (nd (q)) (dg (digs (q))))), (9, .d (.v (.int .i64 z41))), (14, .d (.v (.bool vb14))), (23, .d (.v (.bool false))), (47, .d (.v (.bool true)))] [(1, [.v (.bool g), .sl (nd (a)) (dg (digs (a))), .v (.int .i64 x)]), (2, [.v (.bool g'), .sl (nd (k)) (dg (digs (k))), .v (.int .i64 x')])] (by kernel_rfl) (by kernel_rfl) (by kernel_rfl) ?_
        refine vc_ret ?_
        refine seq_r ?_
        refine ret_2 (d := .agg [.v (.bool g'), .sl (nd (k)) (dg (digs (k))), .v (.int .i64 x')]) (e := .v (.bool ok)) (ds := []) (by kernel_rfl) ?_
        rw [← hl1]
        have hT' : fitU 1 false (p, j).1 (z41 + (((p, j).2 : Nat) : Int)) false = (g', k, x', ok) := hT
        rw [hT']; rfl
    · replace hc23 := bt hc23
      have ha0 : a = 0 := nd_eq0.1 (by omega)
      refine vc_condt (by kernel_rfl) ?_
      refine vc_seqr rfl ?_
      refine vcI_q 2 (by kernel_rfl) ?_
      refine vcI_call (f := 34) (ds := [.agg [.v (.bool false), .sl 0 [], .v (.int .i64 z19)], .v (.bool false), .v (.int .i64 1)]) (dst := (some 26)) (by kernel_rfl) (rfit_ex (c_rFit0 (m := 1) (e := z19) (by omega) (by omega))) ?_
      rintro _ ⟨g', k, x', ok, rfl, hT⟩
      refine vcI_q 4 (by kernel_rfl) ?_
      refine vcI_end 61 [(1, .p 1 0), (2, .p 2 0), (3, .d (.v (.bool ok))), (4, .d (.v (.int .i64 o))), (5, .d (.v (.int .i64 z19))), (14, .d (.v (.bool vb14))), (23, .d (.v (.bool true)))] [(1, [.v (.bool g), .sl (nd (a)) (dg (digs (a))), .v (.int .i64 x)]), (2, [.v (.bool g'), .sl (nd (k)) (dg (digs (k))), .v (.int .i64 x')])] (by kernel_rfl) (by kernel_rfl) (by kernel_rfl) ?_
      refine vc_ret ?_
      refine seq_r ?_
      refine ret_2 (d := .agg [.v (.bool g'), .sl (nd (k)) (dg (digs (k))), .v (.int .i64 x')]) (e := .v (.bool ok)) (ds := []) (by kernel_rfl) ?_
      rw [rootT, if_pos ha0, fitT_U _ _ _ _ (by rw [nd_zero]; omega), ← hlk, hT]; rfl
  intro hmid
  refine vc_seqr rfl ?_
  refine vcI_q 1 (by kernel_rfl) ?_
  refine vcI_bin (op := .lss) (t := 3) (a := .int .i64 z12) (b := .int .i64 0) (dst := (some 14)) (by kernel_rfl) ?_
  intro c14 hc14
  refine vcI_end 61 [(1, .p 1 0), (2, .p 2 0), (3, .d (.v (.bool false))), (4, .d (.v (.int .i64 z12))), (14, .d (.v (.bool c14)))] [(1, [.v (.bool g), .sl (nd (a)) (dg (digs (a))), .v (.int .i64 x)]), (2, [.v (.bool false), .sl 0 [], .v (.int .i64 0)])] (by kernel_rfl) (by kernel_rfl) (by kernel_rfl) ?_
  cases c14
  · replace hc14 := bf hc14
    refine vc_condf (by kernel_rfl) ?_
    refine vc_skip ?_
    refine mid_n hmid (z12, false) (by omega) (by kernel_rfl)
  · replace hc14 := bt hc14
    refine vc_condt (by kernel_rfl) ?_
    refine vc_reg rfl ?_
    refine vcI_q 1 (by kernel_rfl) ?_
    refine vcI_end 61 [(1, .p 1 0), (2, .p 2 0), (3, .d (.v (.bool false))), (4, .d (.v (.int .i64 1))), (14, .d (.v (.bool true)))] [(1, [.v (.bool g), .sl (nd (a)) (dg (digs (a))), .v (.int .i64 x)]), (2, [.v (.bool false), .sl 0 [], .v (.int .i64 0)])] (by kernel_rfl) (by kernel_rfl) (by kernel_rfl) ?_
    refine mid_n hmid (1, true) (by omega) (by kernel_rfl)

end Go.Proofs.Ytdlfgliokkgceaa
