/-
  quot.Power.
-/
import Derived.Test.YtdlfgliokkgceaaFitA
namespace Go.Proofs.Ytdlfgliokkgceaa
open Go.RowKit
set_option linter.unusedVariables false
set_option linter.unusedSimpArgs false
set_option maxRecDepth 100000

abbrev T4 := Bool × Nat × Int × Bool
noncomputable def mulT (t u : T4) : T4 := fitT 1 (t.1 != u.1) (t.2.1 * u.2.1) (t.2.2.1 + u.2.2.1) false
theorem c_decMulT {g1 g2 o1 o2 : Bool} {a b : Nat} {x1 x2 : Int} (ha : a < B128) (hb : b < B128) (h1 : -100000000000000000 ≤ x1) (h2 : x1 ≤ 100000000000000000) (h3 : -100000000000000000 ≤ x2) (h4 : x2 ≤ 100000000000000000) :
    HasC Try.prog 23 [dDec g1 a x1, dDec g2 b x2] (fun y => ∃ g k x ok, y = .tup [dDec g k x, .v (.bool ok)] ∧ mulT (g1, a, x1, o1) (g2, b, x2, o2) = (g, k, x, ok)) :=
  (c_decMul ha hb h1 h2 h3 h4).mono fun y ⟨g, k, x, ok, s, h1, h2, h3⟩ => ⟨g, k, x, ok, h1, by
    show fitT 1 (g1 != g2) (a * b) (x1 + x2) false = _
    rw [bne_of h2]; exact h3⟩
theorem c_qDivT {g1 g2 : Bool} {a b : Nat} {x1 x2 : Int} (ha : a < E34) (hb : b < E34) (h1 : -100000000000000000 ≤ x1) (h2 : x1 ≤ 100000000000000000) (h3 : -100000000000000000 ≤ x2) (h4 : x2 ≤ 100000000000000000) :
    HasC Try.prog 11 [dDec g1 a x1, dDec g2 b x2] (fun y => ∃ g k x ok, y = .tup [dDec g k x, .v (.bool ok)] ∧ qDivT (g1 != g2) a b (x1 - x2) = (g, k, x, ok)) :=
  (c_qDiv ha hb h1 h2 h3 h4).mono fun y hy => ⟨_, _, _, _, hy, rfl⟩
theorem c_Int1 : HasC Try.prog 24 [.v (.int .i64 1)] (fun y => y = dDec false 1 0) := by
  refine (c_Int (x := 1) (by decide) (by decide)).mono fun y hy => ?_
  rw [hy]
  kernel_rfl

noncomputable def powStep (a : T4) (b : Bool) (t : T4) : T4 := if (mulT t t).2.2.2 = true ∧ b = true then mulT (mulT t t) a else mulT t t
noncomputable def powGo (a : T4) (m : Nat) : Nat → T4 → T4
  | 0, t => t
  | k + 1, t => if (powStep a (decide (m / 2 ^ k % 2 = 1)) t).2.2.2 = true then powGo a m k (powStep a (decide (m / 2 ^ k % 2 = 1)) t) else powStep a (decide (m / 2 ^ k % 2 = 1)) t
noncomputable def powT (a : T4) (n : Int) : T4 :=
  if n < -999999999 ∨ 999999999 < n then (false, 0, 0, false)
  else if (powGo a n.natAbs 31 (false, 1, 0, true)).2.2.2 = false then (false, 0, 0, false)
  else if n < 0 then qDivT (false != (powGo a n.natAbs 31 (false, 1, 0, true)).1) 1 (powGo a n.natAbs 31 (false, 1, 0, true)).2.1 (0 - (powGo a n.natAbs 31 (false, 1, 0, true)).2.2.1)
  else powGo a n.natAbs 31 (false, 1, 0, true)
theorem powGo_step {a : T4} {m k : Nat} {t u : T4} {b : Bool} (hb : b = true ↔ m / 2 ^ k % 2 = 1) (h : powStep a b t = u) : powGo a m (k + 1) t = if u.2.2.2 = true then powGo a m k u else u := by
  have e : b = decide (m / 2 ^ k % 2 = 1) := by rw [Bool.eq_iff_iff, hb]; simp
  subst e
  rw [powGo, h]
theorem powT_no {a : T4} {n : Int} {g : Bool} {c : Nat} {x : Int} (h1 : -999999999 ≤ n) (h2 : n ≤ 999999999) (h : powGo a n.natAbs 31 (false, 1, 0, true) = (g, c, x, false)) : powT a n = (false, 0, 0, false) := by
  rw [powT, if_neg (by omega), h]
  rfl
theorem powT_yes {a : T4} {n : Int} {g : Bool} {c : Nat} {x : Int} (h1 : 0 ≤ n) (h2 : n ≤ 999999999) (h : powGo a n.natAbs 31 (false, 1, 0, true) = (g, c, x, true)) : powT a n = (g, c, x, true) := by
  rw [powT, if_neg (by omega), h, if_neg (by simp), if_neg (by omega)]
theorem powT_neg {a : T4} {n : Int} {g : Bool} {c : Nat} {x : Int} (h1 : -999999999 ≤ n) (h2 : n < 0) (h : powGo a n.natAbs 31 (false, 1, 0, true) = (g, c, x, true)) : powT a n = qDivT (false != g) 1 c (0 - x) := by
  rw [powT, if_neg (by omega), h, if_neg (by simp), if_pos (by omega)]
theorem mulT_range {t u : T4} {g : Bool} {k : Nat} {x : Int} {ok : Bool} (h : mulT t u = (g, k, x, ok)) : k < E34 ∧ -6176 ≤ x ∧ x ≤ 6111 ∧ (k = 0 → g = false) := fitT_range h

theorem and_one_i {x z : Int} (h : BitIs .and .i64 x 1 z) : z = x % 2 := by
  have e : (BitVec.ofInt 64 x &&& BitVec.ofInt 64 1).toNat = (x % 2).toNat := by
    rw [BitVec.toNat_and]
    have e2 : (BitVec.ofInt 64 (1 : Int)).toNat = 1 := by decide
    rw [e2, Nat.and_one_is_mod, BitVec.toNat_ofInt]
    omega
  have h' : z = IntKind.i64.wrap (((BitVec.ofInt 64 x &&& BitVec.ofInt 64 1).toNat : Nat) : Int) := h
  rw [e] at h'
  rw [h', show (((x % 2).toNat : Nat) : Int) = x % 2 by omega]
  exact IntWalk.i64_in _ (by omega)
theorem shr_bit {m k : Nat} {X K z w : Int} (hX : X = (m : Int)) (hK : K = (k : Int)) (hk : k < 64) (h : ShrIs .i64 X K z) (hw : BitIs .and .i64 z 1 w) : w = 1 ↔ m / 2 ^ k % 2 = 1 := by
  have h' : z = X.fdiv (2 ^ (min K.toNat IntKind.i64.bits)) := h
  have e1 : min K.toNat IntKind.i64.bits = k := by
    have : IntKind.i64.bits = 64 := rfl
    omega
  have e2 : (2 : Int) ^ k = ((2 ^ k : Nat) : Int) := by simp
  have e3 : z = ((m / 2 ^ k : Nat) : Int) := by
    rw [h', e1, e2, hX, Int.fdiv_eq_ediv_of_nonneg _ (Int.natCast_nonneg _)]
    simp
  have e4 := and_one_i hw
  generalize m / 2 ^ k = q at *
  omega

set_option maxHeartbeats 1600000 in
theorem c_qPower {g : Bool} {a : Nat} {x n : Int} (ha : a < E34) (hx0 : -6176 ≤ x) (hx1 : x ≤ 6111) (h0 : -9223372036854775808 ≤ n) (h1 : n ≤ 9223372036854775807) : HasC Try.prog 16 [.agg [.v (.bool g), .v (.int .u64 (hiW (a))), .v (.int .u64 (loW (a))), .v (.int .i64 x)], .v (.int .i64 n)] (fun y => y = dFit (powT (g, a, x, true) n)) := by
  refine HasC.of [] (fn := Try.f16) tyOk mixed (fun args w => Try.call16 args w) Try.func16 rfl (by kernel_rfl) (Nat.le_of_ble_eq_true rfl) (⟨_, rfl⟩) ?_
  have haB := Nat.lt_trans ha e34_lt
  refine vc_seqr rfl ?_
  refine vcI_q 3 (by kernel_rfl) ?_
  refine vcI_end 60 [(1, .d (.v (.int .i64 n))), (2, .p 2 0), (4, .p 4 0), (5, .d (.v (.bool false)))] [(2, [.v (.bool g), .v (.int .u64 (hiW (a))), .v (.int .u64 (loW (a))), .v (.int .i64 x)]), (4, [.v (.bool false), .v (.int .u64 0), .v (.int .u64 0), .v (.int .i64 0)])] (by kernel_rfl) (by kernel_rfl) (by kernel_rfl) ?_
  refine vc_seq ?_
  refine vc_seqr rfl ?_
  refine vcI_q 1 (by kernel_rfl) ?_
  refine vcI_bin (op := .lss) (t := 3) (a := .int .i64 n) (b := .int .i64 (-999999999)) (dst := (some 11)) (by kernel_rfl) ?_
  intro c11 hc11
  refine vcI_q 1 (by kernel_rfl) ?_
  cases c11
  · replace hc11 := bf hc11
    refine vcI_q 1 (by kernel_rfl) ?_
    refine vcI_bin (op := .gtr) (t := 3) (a := .int .i64 n) (b := .int .i64 999999999) (dst := (some 14)) (by kernel_rfl) ?_
    intro c14 hc14
    refine vcI_q 1 (by kernel_rfl) ?_
    refine vcI_end 60 [(1, .d (.v (.int .i64 n))), (2, .p 2 0), (4, .p 4 0), (5, .d (.v (.bool false))), (15, .d (.v (.bool c14)))] [(2, [.v (.bool g), .v (.int .u64 (hiW (a))), .v (.int .u64 (loW (a))), .v (.int .i64 x)]), (4, [.v (.bool false), .v (.int .u64 0), .v (.int .u64 0), .v (.int .i64 0)])] (by kernel_rfl) (by kernel_rfl) (by kernel_rfl) ?_
    cases c14
    · replace hc14 := bf hc14
      refine vc_condf (by kernel_rfl) ?_
      refine vc_skip ?_
      refine seq_n ?_
      refine vc_seqr rfl ?_
      refine vcI_q 2 (by kernel_rfl) ?_
      refine vcI_un (op := .neg) (a := .int .i64 n) (dst := (some 19)) (by kernel_rfl) ?_
      intro z19 hz19
      first | (replace hz19 := hz19.i64 (by omega)) | skip
      refine vcI_blt (b := .max) (tys := [3, 3]) (vs := [.int .i64 n, .int .i64 z19]) (dst := (some 20)) (by kernel_rfl) ?_
      intro z20 hz20
      simp only at hz20
      have hm : z20 = ((n.natAbs : Nat) : Int) ∧ n.natAbs ≤ 999999999 := by omega
      refine vcI_q 1 (by kernel_rfl) ?_
      refine vcI_end 60 [(1, .d (.v (.int .i64 n))), (2, .p 2 0), (4, .p 4 0), (5, .d (.v (.bool false))), (6, .d (.v (.int .i64 z20))), (15, .d (.v (.bool false)))] [(2, [.v (.bool g), .v (.int .u64 (hiW (a))), .v (.int .u64 (loW (a))), .v (.int .i64 x)]), (4, [.v (.bool false), .v (.int .u64 0), .v (.int .u64 0), .v (.int .i64 0)])] (by kernel_rfl) (by kernel_rfl) (by kernel_rfl) ?_
      refine vc_seqr rfl ?_
      refine vcI_call (f := 24) (ds := [.v (.int .i64 1)]) (dst := (some 21)) (by kernel_rfl) (c_Int1) ?_
      rintro _ rfl
      refine vcI_q 3 (by kernel_rfl) ?_
      refine vcI_end 60 [(1, .d (.v (.int .i64 n))), (2, .p 2 0), (4, .p 4 0), (5, .d (.v (.bool false))), (6, .d (.v (.int .i64 z20))), (7, .p 7 0), (8, .d (.v (.bool true))), (15, .d (.v (.bool false)))] [(2, [.v (.bool g), .v (.int .u64 (hiW (a))), .v (.int .u64 (loW (a))), .v (.int .i64 x)]), (4, [.v (.bool false), .v (.int .u64 0), .v (.int .u64 0), .v (.int .i64 0)]), (7, [.v (.bool false), .v (.int .u64 (hiW (1))), .v (.int .u64 (loW (1))), .v (.int .i64 0)])] (by kernel_rfl) (by kernel_rfl) (by kernel_rfl) ?_
      refine vc_seq ?_
      refine vc_seqr rfl ?_
      refine vcI_q 1 (by kernel_rfl) ?_
      refine vcI_end 60 [(1, .d (.v (.int .i64 n))), (2, .p 2 0), (4, .p 4 0), (5, .d (.v (.bool false))), (6, .d (.v (.int .i64 z20))), (7, .p 7 0), (8, .d (.v (.bool true))), (9, .d (.v (.int .i64 30))), (15, .d (.v (.bool false)))] [(2, [.v (.bool g), .v (.int .u64 (hiW (a))), .v (.int .u64 (loW (a))), .v (.int .i64 x)]), (4, [.v (.bool false), .v (.int .u64 0), .v (.int .u64 0), .v (.int .i64 0)]), (7, [.v (.bool false), .v (.int .u64 (hiW (1))), .v (.int .u64 (loW (1))), .v (.int .i64 0)])] (by kernel_rfl) (by kernel_rfl) (by kernel_rfl) ?_
      refine vc_block ?_
      refine vc_loop 60 (fun (vcx : Nat × Bool × Nat × Int × Bool × Int) => match vcx with | (j, og, oc, ox, ok, kk) => [(1, .d (.v (.int .i64 n))), (2, .p 2 0), (4, .p 4 0), (5, .d (.v (.bool false))), (6, .d (.v (.int .i64 z20))), (7, .p 7 0), (8, .d (.v (.bool ok))), (9, .d (.v (.int .i64 kk))), (15, .d (.v (.bool false)))]) (fun (vcx : Nat × Bool × Nat × Int × Bool × Int) => match vcx with | (j, og, oc, ox, ok, kk) => [(2, [.v (.bool g), .v (.int .u64 (hiW (a))), .v (.int .u64 (loW (a))), .v (.int .i64 x)]), (4, [.v (.bool false), .v (.int .u64 0), .v (.int .u64 0), .v (.int .i64 0)]), (7, [.v (.bool og), .v (.int .u64 (hiW (oc))), .v (.int .u64 (loW (oc))), .v (.int .i64 ox)])]) (fun (vcx : Nat × Bool × Nat × Int × Bool × Int) => match vcx with | (j, og, oc, ox, ok, kk) => kk = (j : Int) - 1 ∧ j ≤ 31 ∧ oc < E34 ∧ -6176 ≤ ox ∧ ox ≤ 6111 ∧ powGo (g, a, x, true) n.natAbs 31 (false, 1, 0, true) = (if ok = true then powGo (g, a, x, true) n.natAbs j (og, oc, ox, ok) else (og, oc, ox, ok))) (fun (vcx : Nat × Bool × Nat × Int × Bool × Int) => match vcx with | (j, og, oc, ox, ok, kk) => j) ((31, false, 1, 0, true, 30)) (⟨by omega, by omega, by decide, by omega, by omega, by simp⟩) (by kernel_rfl) (by kernel_rfl) ?_
      rintro ⟨j, og, oc, ox, ok, kk⟩ hinv
      simp only at hinv
      obtain ⟨hkk, hj, hoc, hox0, hox1, hG⟩ := hinv
      have hocB := Nat.lt_trans hoc e34_lt
      refine vc_seq ?_
      refine vc_seqr rfl ?_
      refine vcI_q 1 (by kernel_rfl) ?_
      refine vcI_bin (op := .geq) (t := 3) (a := .int .i64 kk) (b := .int .i64 0) (dst := (some 23)) (by kernel_rfl) ?_
      intro c23 hc23
      refine vcI_q 1 (by kernel_rfl) ?_
      cases c23
      · replace hc23 := bf hc23
        refine vcI_q 2 (by kernel_rfl) ?_
        refine vcI_end 60 [(1, .d (.v (.int .i64 n))), (2, .p 2 0), (4, .p 4 0), (5, .d (.v (.bool false))), (6, .d (.v (.int .i64 z20))), (7, .p 7 0), (8, .d (.v (.bool ok))), (9, .d (.v (.int .i64 kk))), (15, .d (.v (.bool false))), (26, .d (.v (.bool false)))] [(2, [.v (.bool g), .v (.int .u64 (hiW (a))), .v (.int .u64 (loW (a))), .v (.int .i64 x)]), (4, [.v (.bool false), .v (.int .u64 0), .v (.int .u64 0), .v (.int .i64 0)]), (7, [.v (.bool og), .v (.int .u64 (hiW (oc))), .v (.int .u64 (loW (oc))), .v (.int .i64 ox)])] (by kernel_rfl) (by kernel_rfl) (by kernel_rfl) ?_
        have hP : powGo (g, a, x, true) n.natAbs 31 (false, 1, 0, true) = (og, oc, ox, ok) := by rw [hG, show j = 0 by omega]; simp [powGo]
        refine vc_condf (by kernel_rfl) ?_
        refine vc_exit ?_
        refine seq_x ?_
        refine loop_x ?_
        refine block_x rfl ?_
        refine seq_n ?_
        refine vc_seq ?_
        refine vc_seqr rfl ?_
        refine vcI_q 1 (by kernel_rfl) ?_
        refine vcI_un (op := .not) (a := .bool ok) (dst := (some 50)) (by kernel_rfl) ?_
        intro c50 hc50
        refine vcI_end 60 [(1, .d (.v (.int .i64 n))), (2, .p 2 0), (4, .p 4 0), (5, .d (.v (.bool false))), (6, .d (.v (.int .i64 z20))), (7, .p 7 0), (8, .d (.v (.bool ok))), (9, .d (.v (.int .i64 kk))), (15, .d (.v (.bool false))), (26, .d (.v (.bool false))), (50, .d (.v (.bool c50)))] [(2, [.v (.bool g), .v (.int .u64 (hiW (a))), .v (.int .u64 (loW (a))), .v (.int .i64 x)]), (4, [.v (.bool false), .v (.int .u64 0), .v (.int .u64 0), .v (.int .i64 0)]), (7, [.v (.bool og), .v (.int .u64 (hiW (oc))), .v (.int .u64 (loW (oc))), .v (.int .i64 ox)])] (by kernel_rfl) (by kernel_rfl) (by kernel_rfl) ?_
        cases c50
        · replace hc50 := bf hc50
          have hok : ok = true := by simpa using hc50
          rw [hok] at hP
          refine vc_condf (by kernel_rfl) ?_
          refine vc_skip ?_
          refine seq_n ?_
          refine vc_seq ?_
          refine vc_seqr rfl ?_
          refine vcI_q 1 (by kernel_rfl) ?_
          refine vcI_bin (op := .lss) (t := 3) (a := .int .i64 n) (b := .int .i64 0) (dst := (some 53)) (by kernel_rfl) ?_
          intro c53 hc53
          refine vcI_end 60 [(1, .d (.v (.int .i64 n))), (2, .p 2 0), (4, .p 4 0), (5, .d (.v (.bool false))), (6, .d (.v (.int .i64 z20))), (7, .p 7 0), (8, .d (.v (.bool ok))), (9, .d (.v (.int .i64 kk))), (15, .d (.v (.bool false))), (26, .d (.v (.bool false))), (50, .d (.v (.bool false))), (53, .d (.v (.bool c53)))] [(2, [.v (.bool g), .v (.int .u64 (hiW (a))), .v (.int .u64 (loW (a))), .v (.int .i64 x)]), (4, [.v (.bool false), .v (.int .u64 0), .v (.int .u64 0), .v (.int .i64 0)]), (7, [.v (.bool og), .v (.int .u64 (hiW (oc))), .v (.int .u64 (loW (oc))), .v (.int .i64 ox)])] (by kernel_rfl) (by kernel_rfl) (by kernel_rfl) ?_
          cases c53
          · replace hc53 := bf hc53
            refine vc_condf (by kernel_rfl) ?_
            refine vc_skip ?_
            refine seq_n ?_
            refine vc_seqr rfl ?_
            refine vcI_q 3 (by kernel_rfl) ?_
            refine vcI_end 60 [(1, .d (.v (.int .i64 n))), (2, .p 2 0), (4, .p 4 0), (5, .d (.v (.bool true))), (6, .d (.v (.int .i64 z20))), (7, .p 7 0), (8, .d (.v (.bool ok))), (9, .d (.v (.int .i64 kk))), (15, .d (.v (.bool false))), (26, .d (.v (.bool false))), (50, .d (.v (.bool false))), (53, .d (.v (.bool false)))] [(2, [.v (.bool g), .v (.int .u64 (hiW (a))), .v (.int .u64 (loW (a))), .v (.int .i64 x)]), (4, [.v (.bool og), .v (.int .u64 (hiW (oc))), .v (.int .u64 (loW (oc))), .v (.int .i64 ox)]), (7, [.v (.bool og), .v (.int .u64 (hiW (oc))), .v (.int .u64 (loW (oc))), .v (.int .i64 ox)])] (by kernel_rfl) (by kernel_rfl) (by kernel_rfl) ?_
            refine vc_ret ?_
            refine ret_2 (d := .agg [.v (.bool og), .v (.int .u64 (hiW (oc))), .v (.int .u64 (loW (oc))), .v (.int .i64 ox)]) (e := .v (.bool true)) (ds := []) (by kernel_rfl) ?_
            rw [powT_yes (by omega) (by omega) hP]
            rfl
          · replace hc53 := bt hc53
            refine vc_condt (by kernel_rfl) ?_
            refine vc_seqr rfl ?_
            refine vcI_call (f := 24) (ds := [.v (.int .i64 1)]) (dst := (some 54)) (by kernel_rfl) (c_Int1) ?_
            rintro _ rfl
            refine vcI_q 1 (by kernel_rfl) ?_
            refine vcI_call (f := 11) (ds := [.agg [.v (.bool false), .v (.int .u64 (hiW (1))), .v (.int .u64 (loW (1))), .v (.int .i64 0)], .agg [.v (.bool og), .v (.int .u64 (hiW (oc))), .v (.int .u64 (loW (oc))), .v (.int .i64 ox)]]) (dst := (some 56)) (by kernel_rfl) (c_qDivT (by decide) hoc (by omega) (by omega) (by omega) (by omega)) ?_
            rintro _ ⟨dg, dk, dx, dok, rfl, hD⟩
            refine vcI_q 4 (by kernel_rfl) ?_
            refine vcI_end 60 [(1, .d (.v (.int .i64 n))), (2, .p 2 0), (4, .p 4 0), (5, .d (.v (.bool dok))), (6, .d (.v (.int .i64 z20))), (7, .p 7 0), (8, .d (.v (.bool ok))), (9, .d (.v (.int .i64 kk))), (15, .d (.v (.bool false))), (26, .d (.v (.bool false))), (50, .d (.v (.bool false))), (53, .d (.v (.bool true)))] [(2, [.v (.bool g), .v (.int .u64 (hiW (a))), .v (.int .u64 (loW (a))), .v (.int .i64 x)]), (4, [.v (.bool dg), .v (.int .u64 (hiW (dk))), .v (.int .u64 (loW (dk))), .v (.int .i64 dx)]), (7, [.v (.bool og), .v (.int .u64 (hiW (oc))), .v (.int .u64 (loW (oc))), .v (.int .i64 ox)])] (by kernel_rfl) (by kernel_rfl) (by kernel_rfl) ?_
            refine vc_ret ?_
            refine seq_r ?_
            refine ret_2 (d := .agg [.v (.bool dg), .v (.int .u64 (hiW (dk))), .v (.int .u64 (loW (dk))), .v (.int .i64 dx)]) (e := .v (.bool dok)) (ds := []) (by kernel_rfl) ?_
            rw [powT_neg (by omega) (by omega) hP, hD]
            rfl
        · replace hc50 := bt hc50
          have hok : ok = false := by simpa using hc50
          rw [hok] at hP
          refine vc_condt (by kernel_rfl) ?_
          refine vc_seqr rfl ?_
          refine vcI_q 3 (by kernel_rfl) ?_
          refine vcI_end 60 [(1, .d (.v (.int .i64 n))), (2, .p 2 0), (4, .p 4 0), (5, .d (.v (.bool false))), (6, .d (.v (.int .i64 z20))), (7, .p 7 0), (8, .d (.v (.bool ok))), (9, .d (.v (.int .i64 kk))), (15, .d (.v (.bool false))), (26, .d (.v (.bool false))), (50, .d (.v (.bool true)))] [(2, [.v (.bool g), .v (.int .u64 (hiW (a))), .v (.int .u64 (loW (a))), .v (.int .i64 x)]), (4, [.v (.bool false), .v (.int .u64 0), .v (.int .u64 0), .v (.int .i64 0)]), (7, [.v (.bool og), .v (.int .u64 (hiW (oc))), .v (.int .u64 (loW (oc))), .v (.int .i64 ox)])] (by kernel_rfl) (by kernel_rfl) (by kernel_rfl) ?_
          refine vc_ret ?_
          refine seq_r ?_
          refine ret_2 (d := .agg [.v (.bool false), .v (.int .u64 0), .v (.int .u64 0), .v (.int .i64 0)]) (e := .v (.bool false)) (ds := []) (by kernel_rfl) ?_
          rw [powT_no (by omega) (by omega) hP]
          rfl
      · replace hc23 := bt hc23
        refine vcI_q 2 (by kernel_rfl) ?_
        refine vcI_end 60 [(1, .d (.v (.int .i64 n))), (2, .p 2 0), (4, .p 4 0), (5, .d (.v (.bool false))), (6, .d (.v (.int .i64 z20))), (7, .p 7 0), (8, .d (.v (.bool ok))), (9, .d (.v (.int .i64 kk))), (15, .d (.v (.bool false))), (26, .d (.v (.bool ok)))] [(2, [.v (.bool g), .v (.int .u64 (hiW (a))), .v (.int .u64 (loW (a))), .v (.int .i64 x)]), (4, [.v (.bool false), .v (.int .u64 0), .v (.int .u64 0), .v (.int .i64 0)]), (7, [.v (.bool og), .v (.int .u64 (hiW (oc))), .v (.int .u64 (loW (oc))), .v (.int .i64 ox)])] (by kernel_rfl) (by kernel_rfl) (by kernel_rfl) ?_
        obtain ⟨i, hi⟩ : ∃ i, j = i + 1 := ⟨j - 1, by omega⟩
        cases ok
        · skip
          have hP : powGo (g, a, x, true) n.natAbs 31 (false, 1, 0, true) = (og, oc, ox, false) := by rw [hG]; simp
          refine vc_condf (by kernel_rfl) ?_
          refine vc_exit ?_
          refine seq_x ?_
          refine loop_x ?_
          refine block_x rfl ?_
          refine seq_n ?_
          refine vc_seq ?_
          refine vc_seqr rfl ?_
          refine vcI_q 1 (by kernel_rfl) ?_
          refine vcI_un (op := .not) (a := .bool false) (dst := (some 50)) (by kernel_rfl) ?_
          intro c50 hc50
          refine vcI_end 60 [(1, .d (.v (.int .i64 n))), (2, .p 2 0), (4, .p 4 0), (5, .d (.v (.bool false))), (6, .d (.v (.int .i64 z20))), (7, .p 7 0), (8, .d (.v (.bool false))), (9, .d (.v (.int .i64 kk))), (15, .d (.v (.bool false))), (26, .d (.v (.bool false))), (50, .d (.v (.bool c50)))] [(2, [.v (.bool g), .v (.int .u64 (hiW (a))), .v (.int .u64 (loW (a))), .v (.int .i64 x)]), (4, [.v (.bool false), .v (.int .u64 0), .v (.int .u64 0), .v (.int .i64 0)]), (7, [.v (.bool og), .v (.int .u64 (hiW (oc))), .v (.int .u64 (loW (oc))), .v (.int .i64 ox)])] (by kernel_rfl) (by kernel_rfl) (by kernel_rfl) ?_
          obtain rfl : c50 = true := hc50.2 (rfl)
          refine vc_condt (by kernel_rfl) ?_
          refine vc_seqr rfl ?_
          refine vcI_q 3 (by kernel_rfl) ?_
          refine vcI_end 60 [(1, .d (.v (.int .i64 n))), (2, .p 2 0), (4, .p 4 0), (5, .d (.v (.bool false))), (6, .d (.v (.int .i64 z20))), (7, .p 7 0), (8, .d (.v (.bool false))), (9, .d (.v (.int .i64 kk))), (15, .d (.v (.bool false))), (26, .d (.v (.bool false))), (50, .d (.v (.bool true)))] [(2, [.v (.bool g), .v (.int .u64 (hiW (a))), .v (.int .u64 (loW (a))), .v (.int .i64 x)]), (4, [.v (.bool false), .v (.int .u64 0), .v (.int .u64 0), .v (.int .i64 0)]), (7, [.v (.bool og), .v (.int .u64 (hiW (oc))), .v (.int .u64 (loW (oc))), .v (.int .i64 ox)])] (by kernel_rfl) (by kernel_rfl) (by kernel_rfl) ?_
          refine vc_ret ?_
          refine seq_r ?_
          refine ret_2 (d := .agg [.v (.bool false), .v (.int .u64 0), .v (.int .u64 0), .v (.int .i64 0)]) (e := .v (.bool false)) (ds := []) (by kernel_rfl) ?_
          rw [powT_no (by omega) (by omega) hP]
          rfl
        · skip
          rw [if_pos rfl, hi] at hG
          refine vc_condt (by kernel_rfl) ?_
          refine vc_skip ?_
          refine seq_n ?_
          refine vc_seq ?_
          refine vc_block ?_
          refine vc_seqr rfl ?_
          refine vcI_q 2 (by kernel_rfl) ?_
          refine vcI_call (f := 23) (ds := [.agg [.v (.bool og), .v (.int .u64 (hiW (oc))), .v (.int .u64 (loW (oc))), .v (.int .i64 ox)], .agg [.v (.bool og), .v (.int .u64 (hiW (oc))), .v (.int .u64 (loW (oc))), .v (.int .i64 ox)]]) (dst := (some 32)) (by kernel_rfl) (c_decMulT (o1 := true) (o2 := true) hocB hocB (by omega) (by omega) (by omega) (by omega)) ?_
          rintro _ ⟨g1, k1, y1, ok1, rfl, hT⟩
          obtain ⟨q1, q2, q3, q4⟩ := mulT_range hT
          refine vcI_q 5 (by kernel_rfl) ?_
          refine vcI_end 60 [(1, .d (.v (.int .i64 n))), (2, .p 2 0), (4, .p 4 0), (5, .d (.v (.bool false))), (6, .d (.v (.int .i64 z20))), (7, .p 7 0), (8, .d (.v (.bool ok1))), (9, .d (.v (.int .i64 kk))), (15, .d (.v (.bool false))), (26, .d (.v (.bool true)))] [(2, [.v (.bool g), .v (.int .u64 (hiW (a))), .v (.int .u64 (loW (a))), .v (.int .i64 x)]), (4, [.v (.bool false), .v (.int .u64 0), .v (.int .u64 0), .v (.int .i64 0)]), (7, [.v (.bool g1), .v (.int .u64 (hiW (k1))), .v (.int .u64 (loW (k1))), .v (.int .i64 y1)])] (by kernel_rfl) (by kernel_rfl) (by kernel_rfl) ?_
          refine vc_seqr rfl ?_
          refine vcI_q 2 (by kernel_rfl) ?_
          cases ok1
          · skip
            refine vcI_q 6 (by kernel_rfl) ?_
            refine vcI_end 60 [(1, .d (.v (.int .i64 n))), (2, .p 2 0), (4, .p 4 0), (5, .d (.v (.bool false))), (6, .d (.v (.int .i64 z20))), (7, .p 7 0), (8, .d (.v (.bool false))), (9, .d (.v (.int .i64 kk))), (15, .d (.v (.bool false))), (26, .d (.v (.bool true))), (42, .d (.v (.bool false)))] [(2, [.v (.bool g), .v (.int .u64 (hiW (a))), .v (.int .u64 (loW (a))), .v (.int .i64 x)]), (4, [.v (.bool false), .v (.int .u64 0), .v (.int .u64 0), .v (.int .i64 0)]), (7, [.v (.bool g1), .v (.int .u64 (hiW (k1))), .v (.int .u64 (loW (k1))), .v (.int .i64 y1)])] (by kernel_rfl) (by kernel_rfl) (by kernel_rfl) ?_
            have hst : powStep (g, a, x, true) (decide (n.natAbs / 2 ^ i % 2 = 1)) (og, oc, ox, true) = (g1, k1, y1, false) := by rw [powStep, hT]; simp
            refine vc_condf (by kernel_rfl) ?_
            refine vc_skip ?_
            refine block_n ?_
            refine seq_n ?_
            refine vc_reg rfl ?_
            refine vcI_q 1 (by kernel_rfl) ?_
            refine vcI_bin (op := .sub) (t := 3) (a := .int .i64 kk) (b := .int .i64 1) (dst := (some 28)) (by kernel_rfl) ?_
            intro z28 hz28
            first | (replace hz28 := hz28.i64 (by omega)) | skip
            refine vcI_q 1 (by kernel_rfl) ?_
            refine vcI_end 60 [(1, .d (.v (.int .i64 n))), (2, .p 2 0), (4, .p 4 0), (5, .d (.v (.bool false))), (6, .d (.v (.int .i64 z20))), (7, .p 7 0), (8, .d (.v (.bool false))), (9, .d (.v (.int .i64 z28))), (15, .d (.v (.bool false))), (26, .d (.v (.bool true))), (42, .d (.v (.bool false)))] [(2, [.v (.bool g), .v (.int .u64 (hiW (a))), .v (.int .u64 (loW (a))), .v (.int .i64 x)]), (4, [.v (.bool false), .v (.int .u64 0), .v (.int .u64 0), .v (.int .i64 0)]), (7, [.v (.bool g1), .v (.int .u64 (hiW (k1))), .v (.int .u64 (loW (k1))), .v (.int .i64 y1)])] (by kernel_rfl) (by kernel_rfl) (by kernel_rfl) ?_
            refine loop_n (i, g1, k1, y1, false, z28) (⟨by omega, by omega, q1, q2, q3, by rw [hG, powGo_step (by simp) hst]⟩) (by show i < j; omega) (by kernel_rfl) (by kernel_rfl)
          · skip
            refine vcI_q 2 (by kernel_rfl) ?_
            refine vcI_bin (op := .shr) (t := 3) (a := .int .i64 z20) (b := .int .i64 kk) (dst := (some 39)) (by kernel_rfl) ?_
            refine And.intro (by omega) ?_
            intro z39 hz39
            refine vcI_bin (op := .and) (t := 3) (a := .int .i64 z39) (b := .int .i64 1) (dst := (some 40)) (by kernel_rfl) ?_
            intro z40 hz40
            have hbit := shr_bit (m := n.natAbs) (k := i) (by omega) (by omega) (by omega) hz39 hz40
            refine vcI_bin (op := .eql) (t := 3) (a := .int .i64 z40) (b := .int .i64 1) (dst := (some 41)) (by kernel_rfl) ?_
            intro c41 hc41
            refine vcI_q 1 (by kernel_rfl) ?_
            refine vcI_end 60 [(1, .d (.v (.int .i64 n))), (2, .p 2 0), (4, .p 4 0), (5, .d (.v (.bool false))), (6, .d (.v (.int .i64 z20))), (7, .p 7 0), (8, .d (.v (.bool true))), (9, .d (.v (.int .i64 kk))), (15, .d (.v (.bool false))), (26, .d (.v (.bool true))), (42, .d (.v (.bool c41)))] [(2, [.v (.bool g), .v (.int .u64 (hiW (a))), .v (.int .u64 (loW (a))), .v (.int .i64 x)]), (4, [.v (.bool false), .v (.int .u64 0), .v (.int .u64 0), .v (.int .i64 0)]), (7, [.v (.bool g1), .v (.int .u64 (hiW (k1))), .v (.int .u64 (loW (k1))), .v (.int .i64 y1)])] (by kernel_rfl) (by kernel_rfl) (by kernel_rfl) ?_
            cases c41
            · replace hc41 := bf hc41
              have hst : powStep (g, a, x, true) false (og, oc, ox, true) = (g1, k1, y1, true) := by rw [powStep, hT]; simp
              refine vc_condf (by kernel_rfl) ?_
              refine vc_skip ?_
              refine block_n ?_
              refine seq_n ?_
              refine vc_reg rfl ?_
              refine vcI_q 1 (by kernel_rfl) ?_
              refine vcI_bin (op := .sub) (t := 3) (a := .int .i64 kk) (b := .int .i64 1) (dst := (some 28)) (by kernel_rfl) ?_
              intro z28 hz28
              first | (replace hz28 := hz28.i64 (by omega)) | skip
              refine vcI_q 1 (by kernel_rfl) ?_
              refine vcI_end 60 [(1, .d (.v (.int .i64 n))), (2, .p 2 0), (4, .p 4 0), (5, .d (.v (.bool false))), (6, .d (.v (.int .i64 z20))), (7, .p 7 0), (8, .d (.v (.bool true))), (9, .d (.v (.int .i64 z28))), (15, .d (.v (.bool false))), (26, .d (.v (.bool true))), (42, .d (.v (.bool false)))] [(2, [.v (.bool g), .v (.int .u64 (hiW (a))), .v (.int .u64 (loW (a))), .v (.int .i64 x)]), (4, [.v (.bool false), .v (.int .u64 0), .v (.int .u64 0), .v (.int .i64 0)]), (7, [.v (.bool g1), .v (.int .u64 (hiW (k1))), .v (.int .u64 (loW (k1))), .v (.int .i64 y1)])] (by kernel_rfl) (by kernel_rfl) (by kernel_rfl) ?_
              refine loop_n (i, g1, k1, y1, true, z28) (⟨by omega, by omega, q1, q2, q3, by rw [hG, powGo_step (by rw [← hbit]; simpa using hc41) hst]⟩) (by show i < j; omega) (by kernel_rfl) (by kernel_rfl)
            · replace hc41 := bt hc41
              refine vc_condt (by kernel_rfl) ?_
              refine vc_reg rfl ?_
              refine vcI_q 2 (by kernel_rfl) ?_
              refine vcI_call (f := 23) (ds := [.agg [.v (.bool g1), .v (.int .u64 (hiW (k1))), .v (.int .u64 (loW (k1))), .v (.int .i64 y1)], .agg [.v (.bool g), .v (.int .u64 (hiW (a))), .v (.int .u64 (loW (a))), .v (.int .i64 x)]]) (dst := (some 46)) (by kernel_rfl) (c_decMulT (o1 := true) (o2 := true) (Nat.lt_trans q1 e34_lt) haB (by omega) (by omega) (by omega) (by omega)) ?_
              rintro _ ⟨g2, k2, y2, ok2, rfl, hT2⟩
              obtain ⟨p1, p2, p3, p4⟩ := mulT_range hT2
              have hst : powStep (g, a, x, true) true (og, oc, ox, true) = (g2, k2, y2, ok2) := by rw [powStep, hT]; simpa using hT2
              refine vcI_q 5 (by kernel_rfl) ?_
              refine vcI_end 60 [(1, .d (.v (.int .i64 n))), (2, .p 2 0), (4, .p 4 0), (5, .d (.v (.bool false))), (6, .d (.v (.int .i64 z20))), (7, .p 7 0), (8, .d (.v (.bool ok2))), (9, .d (.v (.int .i64 kk))), (15, .d (.v (.bool false))), (26, .d (.v (.bool true))), (42, .d (.v (.bool true)))] [(2, [.v (.bool g), .v (.int .u64 (hiW (a))), .v (.int .u64 (loW (a))), .v (.int .i64 x)]), (4, [.v (.bool false), .v (.int .u64 0), .v (.int .u64 0), .v (.int .i64 0)]), (7, [.v (.bool g2), .v (.int .u64 (hiW (k2))), .v (.int .u64 (loW (k2))), .v (.int .i64 y2)])] (by kernel_rfl) (by kernel_rfl) (by kernel_rfl) ?_
              refine block_n ?_
              refine seq_n ?_
              refine vc_reg rfl ?_
              refine vcI_q 1 (by kernel_rfl) ?_
              refine vcI_bin (op := .sub) (t := 3) (a := .int .i64 kk) (b := .int .i64 1) (dst := (some 28)) (by kernel_rfl) ?_
              intro z28 hz28
              first | (replace hz28 := hz28.i64 (by omega)) | skip
              refine vcI_q 1 (by kernel_rfl) ?_
              refine vcI_end 60 [(1, .d (.v (.int .i64 n))), (2, .p 2 0), (4, .p 4 0), (5, .d (.v (.bool false))), (6, .d (.v (.int .i64 z20))), (7, .p 7 0), (8, .d (.v (.bool ok2))), (9, .d (.v (.int .i64 z28))), (15, .d (.v (.bool false))), (26, .d (.v (.bool true))), (42, .d (.v (.bool true)))] [(2, [.v (.bool g), .v (.int .u64 (hiW (a))), .v (.int .u64 (loW (a))), .v (.int .i64 x)]), (4, [.v (.bool false), .v (.int .u64 0), .v (.int .u64 0), .v (.int .i64 0)]), (7, [.v (.bool g2), .v (.int .u64 (hiW (k2))), .v (.int .u64 (loW (k2))), .v (.int .i64 y2)])] (by kernel_rfl) (by kernel_rfl) (by kernel_rfl) ?_
              refine loop_n (i, g2, k2, y2, ok2, z28) (⟨by omega, by omega, p1, p2, p3, by rw [hG, powGo_step (by rw [← hbit]; simpa using hc41) hst]⟩) (by show i < j; omega) (by kernel_rfl) (by kernel_rfl)
    · replace hc14 := bt hc14
      refine vc_condt (by kernel_rfl) ?_
      refine vc_seqr rfl ?_
      refine vcI_q 3 (by kernel_rfl) ?_
      refine vcI_end 60 [(1, .d (.v (.int .i64 n))), (2, .p 2 0), (4, .p 4 0), (5, .d (.v (.bool false))), (15, .d (.v (.bool true)))] [(2, [.v (.bool g), .v (.int .u64 (hiW (a))), .v (.int .u64 (loW (a))), .v (.int .i64 x)]), (4, [.v (.bool false), .v (.int .u64 0), .v (.int .u64 0), .v (.int .i64 0)])] (by kernel_rfl) (by kernel_rfl) (by kernel_rfl) ?_
      refine vc_ret ?_
      refine seq_r ?_
      refine ret_2 (d := .agg [.v (.bool false), .v (.int .u64 0), .v (.int .u64 0), .v (.int .i64 0)]) (e := .v (.bool false)) (ds := []) (by kernel_rfl) ?_
      rw [powT, if_pos (by omega)]
      rfl
  · replace hc11 := bt hc11
    refine vcI_q 3 (by kernel_rfl) ?_
    refine vcI_end 60 [(1, .d (.v (.int .i64 n))), (2, .p 2 0), (4, .p 4 0), (5, .d (.v (.bool false))), (15, .d (.v (.bool true)))] [(2, [.v (.bool g), .v (.int .u64 (hiW (a))), .v (.int .u64 (loW (a))), .v (.int .i64 x)]), (4, [.v (.bool false), .v (.int .u64 0), .v (.int .u64 0), .v (.int .i64 0)])] (by kernel_rfl) (by kernel_rfl) (by kernel_rfl) ?_
    refine vc_condt (by kernel_rfl) ?_
    refine vc_seqr rfl ?_
    refine vcI_q 3 (by kernel_rfl) ?_
    refine vcI_end 60 [(1, .d (.v (.int .i64 n))), (2, .p 2 0), (4, .p 4 0), (5, .d (.v (.bool false))), (15, .d (.v (.bool true)))] [(2, [.v (.bool g), .v (.int .u64 (hiW (a))), .v (.int .u64 (loW (a))), .v (.int .i64 x)]), (4, [.v (.bool false), .v (.int .u64 0), .v (.int .u64 0), .v (.int .i64 0)])] (by kernel_rfl) (by kernel_rfl) (by kernel_rfl) ?_
    refine vc_ret ?_
    refine seq_r ?_
    refine ret_2 (d := .agg [.v (.bool false), .v (.int .u64 0), .v (.int .u64 0), .v (.int .i64 0)]) (e := .v (.bool false)) (ds := []) (by kernel_rfl) ?_
    rw [powT, if_pos (by omega)]
    rfl

end Go.Proofs.Ytdlfgliokkgceaa
