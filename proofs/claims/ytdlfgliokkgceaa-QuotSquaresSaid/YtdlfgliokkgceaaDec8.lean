/-
  quot.Root.
-/
import Derived.Test.YtdlfgliokkgceaaDec7
import Derived.Test.YtdlfgliokkgceaaVcM2
namespace Go.Proofs.Ytdlfgliokkgceaa
open Go.RowKit
set_option linter.unusedVariables false
set_option linter.unusedSimpArgs false
set_option maxRecDepth 100000

/-- The root, downwards. -/
noncomputable def isq (a : Nat) : Nat := (root_ex a).choose
theorem isq_lo (a : Nat) : isq a * isq a ≤ a := (root_ex a).choose_spec.1
theorem isq_hi (a : Nat) : a < (isq a + 1) * (isq a + 1) := (root_ex a).choose_spec.2
theorem sq_lt {a b : Nat} (h : a * a < b * b) : a < b := by
  rcases Nat.lt_or_ge a b with k | k
  · exact k
  · exact absurd h (Nat.not_lt.2 (Nat.mul_le_mul k k))
theorem isq_eq {a s : Nat} (h1 : s * s ≤ a) (h2 : a < (s + 1) * (s + 1)) : isq a = s := by
  have h3 := sq_lt (Nat.lt_of_le_of_lt (isq_lo a) h2)
  have h4 := sq_lt (Nat.lt_of_le_of_lt h1 (isq_hi a))
  omega
theorem isq_sq (s : Nat) : isq (s * s) = s := isq_eq (Nat.le_refl _) (by rw [Nat.add_mul, Nat.mul_add]; omega)

/-- How many noughts more the number is given before its root is taken. -/
def rootN (a : Nat) (x : Int) : Nat := 70 - nd a + (70 - nd a + (x % 2).toNat) % 2
def rootL (a : Nat) (x : Int) : Nat := (x / 2 - (x - rootN a x) / 2).toNat
open Classical in
noncomputable def rootQ (a : Nat) (x : Int) : Nat × Nat := if isq (a * 10 ^ rootN a x) * isq (a * 10 ^ rootN a x) = a * 10 ^ rootN a x then strip (rootL a x) (isq (a * 10 ^ rootN a x)) else (isq (a * 10 ^ rootN a x), 0)
noncomputable def rootMore (a : Nat) (x : Int) : Bool := decide (isq (a * 10 ^ rootN a x) * isq (a * 10 ^ rootN a x) ≠ a * 10 ^ rootN a x)
noncomputable def rootT (a : Nat) (x : Int) : T4 := if a = 0 then fitT 1 false 0 (x / 2) false else fitT 1 false (rootQ a x).1 ((x - rootN a x) / 2 + (rootQ a x).2) (rootMore a x)
noncomputable def qRootT (g : Bool) (a : Nat) (x : Int) : T4 := if a ≠ 0 ∧ g = true then (false, 0, 0, false) else rootT a x

theorem quo2 {y z : Int} (h : IntIs .i64 (y.tdiv 2) z) (h0 : y % 2 = 0) (h1 : -1000000000000000000 ≤ y) (h2 : y ≤ 1000000000000000000) : z = y / 2 := by
  obtain ⟨k, rfl⟩ : ∃ k, y = 2 * k := ⟨y / 2, by omega⟩
  rw [Int.mul_tdiv_cancel_left _ (by decide)] at h
  have := h.i64 (by omega)
  omega
theorem cw_RootN {A : Nat} (hA : A < B128 * B128) : HasC Try.prog 41 [dU (A / B128), dU (A % B128)] (fun y => ∃ (r : Nat) (b : Bool), y = .tup [dU r, .v (.bool b)] ∧ (b = true ↔ r * r = A) ∧ r < B128 ∧ isq A = r) := by
  refine (cw_Root (Nat.div_lt_of_lt_mul hA) (mod_lt128 A)).mono fun y hy => ?_
  rw [Nat.div_add_mod'] at hy
  obtain ⟨r, b, h1, h2, h3, h4, h5⟩ := hy
  exact ⟨r, b, h1, h2, h3, isq_eq h4 h5⟩

theorem sg_neg {a : Nat} {g : Bool} (h : (if a = 0 then 0 else if g = true then -1 else 1 : Int) < 0) : a ≠ 0 ∧ g = true := by
  by_cases k : a = 0
  · rw [if_pos k] at h
    exact absurd h (by decide)
  · rw [if_neg k] at h
    cases g with
    | false => exact absurd h (by decide)
    | true => exact ⟨k, rfl⟩

set_option maxHeartbeats 1600000 in
theorem c_qRoot {g : Bool} {a : Nat} {x : Int} (ha : a < E34) (hx0 : -100000000000000000 ≤ x) (hx1 : x ≤ 100000000000000000) : HasC Try.prog 18 [.agg [.v (.bool g), .v (.int .u64 (hiW (a))), .v (.int .u64 (loW (a))), .v (.int .i64 x)]] (fun y => y = dFit (qRootT g a x)) := by
  refine HasC.of [] (fn := Try.f18) tyOk mixed (fun args w => Try.call18 args w) Try.func18 rfl (by kernel_rfl) (Nat.le_of_ble_eq_true rfl) (⟨_, rfl⟩) ?_
  have haB := Nat.lt_trans ha e34_lt
  refine vc_seqr rfl ?_
  refine vcI_q 3 (by kernel_rfl) ?_
  refine vcI_end 95 [(1, .p 1 0), (2, .p 2 0), (3, .d (.v (.bool false)))] [(1, [.v (.bool g), .v (.int .u64 (hiW (a))), .v (.int .u64 (loW (a))), .v (.int .i64 x)]), (2, [.v (.bool false), .v (.int .u64 0), .v (.int .u64 0), .v (.int .i64 0)])] (by kernel_rfl) (by kernel_rfl) (by kernel_rfl) ?_
  refine vc_seq ?_
  refine vc_seqr rfl ?_
  refine vcI_q 1 (by kernel_rfl) ?_
  refine vcI_call (f := 19) (ds := [.agg [.v (.bool g), .v (.int .u64 (hiW (a))), .v (.int .u64 (loW (a))), .v (.int .i64 x)]]) (dst := (some 17)) (by kernel_rfl) (c_Sign haB) ?_
  rintro _ rfl
  refine vcI_bin (op := .lss) (t := 3) (a := .int .i64 ((if a = 0 then 0 else if g = true then -1 else 1 : Int))) (b := .int .i64 0) (dst := (some 18)) (by kernel_rfl) ?_
  intro c18 hc18
  refine vcI_end 95 [(1, .p 1 0), (2, .p 2 0), (3, .d (.v (.bool false))), (18, .d (.v (.bool c18)))] [(1, [.v (.bool g), .v (.int .u64 (hiW (a))), .v (.int .u64 (loW (a))), .v (.int .i64 x)]), (2, [.v (.bool false), .v (.int .u64 0), .v (.int .u64 0), .v (.int .i64 0)])] (by kernel_rfl) (by kernel_rfl) (by kernel_rfl) ?_
  cases c18
  · replace hc18 := bf hc18
    have hsg : ¬ (a ≠ 0 ∧ g = true) := by rintro ⟨k1, k2⟩; rw [if_neg k1, if_pos k2] at hc18; exact hc18 (by decide)
    refine vc_condf (by kernel_rfl) ?_
    refine vc_skip ?_
    refine seq_n ?_
    refine vc_seqr rfl ?_
    refine vcI_q 2 (by kernel_rfl) ?_
    refine vcI_bin (op := .and) (t := 3) (a := .int .i64 x) (b := .int .i64 1) (dst := (some 22)) (by kernel_rfl) ?_
    intro z22 hz22
    replace hz22 := and_one_i hz22
    refine vcI_q 1 (by kernel_rfl) ?_
    refine vcI_end 95 [(1, .p 1 0), (2, .p 2 0), (3, .d (.v (.bool false))), (4, .d (.v (.int .i64 z22))), (18, .d (.v (.bool false)))] [(1, [.v (.bool g), .v (.int .u64 (hiW (a))), .v (.int .u64 (loW (a))), .v (.int .i64 x)]), (2, [.v (.bool false), .v (.int .u64 0), .v (.int .u64 0), .v (.int .i64 0)])] (by kernel_rfl) (by kernel_rfl) (by kernel_rfl) ?_
    refine vc_seqr rfl ?_
    refine vcI_q 3 (by kernel_rfl) ?_
    refine vcI_bin (op := .sub) (t := 3) (a := .int .i64 x) (b := .int .i64 z22) (dst := (some 26)) (by kernel_rfl) ?_
    intro z26 hz26
    first | (replace hz26 := hz26.i64 (by omega)) | skip
    refine vcI_bin (op := .quo) (t := 3) (a := .int .i64 z26) (b := .int .i64 2) (dst := (some 27)) (by kernel_rfl) ?_
    refine And.intro (by omega) ?_
    intro z27 hz27
    replace hz27 := quo2 hz27 (by omega) (by omega) (by omega)
    have hlk : z27 = x / 2 := by omega
    refine vcI_q 1 (by kernel_rfl) ?_
    refine vcI_end 95 [(1, .p 1 0), (2, .p 2 0), (3, .d (.v (.bool false))), (4, .d (.v (.int .i64 z22))), (5, .d (.v (.int .i64 z27))), (18, .d (.v (.bool false)))] [(1, [.v (.bool g), .v (.int .u64 (hiW (a))), .v (.int .u64 (loW (a))), .v (.int .i64 x)]), (2, [.v (.bool false), .v (.int .u64 0), .v (.int .u64 0), .v (.int .i64 0)])] (by kernel_rfl) (by kernel_rfl) (by kernel_rfl) ?_
    refine vc_seq ?_
    refine vc_seqr rfl ?_
    refine vcI_q 1 (by kernel_rfl) ?_
    refine vcI_call (f := 12) (ds := [.agg [.v (.bool g), .v (.int .u64 (hiW (a))), .v (.int .u64 (loW (a))), .v (.int .i64 x)]]) (dst := (some 29)) (by kernel_rfl) (c_Zero haB) ?_
    rintro _ ⟨z, rfl, hz⟩
    refine vcI_end 95 [(1, .p 1 0), (2, .p 2 0), (3, .d (.v (.bool false))), (4, .d (.v (.int .i64 z22))), (5, .d (.v (.int .i64 z27))), (18, .d (.v (.bool false))), (29, .d (.v (.bool z)))] [(1, [.v (.bool g), .v (.int .u64 (hiW (a))), .v (.int .u64 (loW (a))), .v (.int .i64 x)]), (2, [.v (.bool false), .v (.int .u64 0), .v (.int .u64 0), .v (.int .i64 0)])] (by kernel_rfl) (by kernel_rfl) (by kernel_rfl) ?_
    cases z
    · replace hz := bf hz
      have hna := nd_le 34 a ha
      refine vc_condf (by kernel_rfl) ?_
      refine vc_skip ?_
      refine seq_n ?_
      refine vc_seqr rfl ?_
      refine vcI_q 1 (by kernel_rfl) ?_
      refine vcI_call (f := 31) (ds := [.agg [.v (.bool g), .v (.int .u64 (hiW (a))), .v (.int .u64 (loW (a))), .v (.int .i64 x)]]) (dst := (some 36)) (by kernel_rfl) (c_qdigits haB) ?_
      rintro _ rfl
      refine vcI_bin (op := .sub) (t := 3) (a := .int .i64 70) (b := .int .i64 ((nd a : Int))) (dst := (some 37)) (by kernel_rfl) ?_
      intro z37 hz37
      first | (replace hz37 := hz37.i64 (by omega)) | skip
      refine vcI_blt (b := .max) (tys := [3, 3]) (vs := [.int .i64 0, .int .i64 z37]) (dst := (some 38)) (by kernel_rfl) ?_
      intro z38 hz38
      simp only at hz38
      refine vcI_q 1 (by kernel_rfl) ?_
      refine vcI_end 95 [(1, .p 1 0), (2, .p 2 0), (3, .d (.v (.bool false))), (4, .d (.v (.int .i64 z22))), (5, .d (.v (.int .i64 z27))), (6, .d (.v (.int .i64 z38))), (18, .d (.v (.bool false))), (29, .d (.v (.bool false)))] [(1, [.v (.bool g), .v (.int .u64 (hiW (a))), .v (.int .u64 (loW (a))), .v (.int .i64 x)]), (2, [.v (.bool false), .v (.int .u64 0), .v (.int .u64 0), .v (.int .i64 0)])] (by kernel_rfl) (by kernel_rfl) (by kernel_rfl) ?_
      refine vc_seqr rfl ?_
      refine vcI_q 3 (by kernel_rfl) ?_
      refine vcI_bin (op := .add) (t := 3) (a := .int .i64 z38) (b := .int .i64 z22) (dst := (some 42)) (by kernel_rfl) ?_
      intro z42 hz42
      first | (replace hz42 := hz42.i64 (by omega)) | skip
      refine vcI_bin (op := .and) (t := 3) (a := .int .i64 z42) (b := .int .i64 1) (dst := (some 43)) (by kernel_rfl) ?_
      intro z43 hz43
      replace hz43 := and_one_i hz43
      obtain ⟨n, hn⟩ : ∃ n, n = rootN a x := ⟨_, rfl⟩
      have hnv := hn; unfold rootN at hnv
      refine vcI_bin (op := .add) (t := 3) (a := .int .i64 z38) (b := .int .i64 z43) (dst := (some 44)) (by kernel_rfl) ?_
      intro z44 hz44
      first | (replace hz44 := hz44.i64 (by omega)) | skip
      have h44 : z44 = (n : Int) ∧ n ≤ 71 ∧ ((n : Int) + x) % 2 = 0 ∧ nd a + n ≤ 71 := by omega
      have hA : a * 10 ^ n < B128 * B128 := Nat.lt_of_lt_of_le (Nat.mul_lt_mul_of_pos_right (lt_nd a) (Nat.pow_pos (by decide))) (by rw [← Nat.pow_add]; exact Nat.le_trans (Nat.pow_le_pow_right (by decide) h44.2.2.2) (by decide))
      refine vcI_q 1 (by kernel_rfl) ?_
      refine vcI_end 95 [(1, .p 1 0), (2, .p 2 0), (3, .d (.v (.bool false))), (4, .d (.v (.int .i64 z22))), (5, .d (.v (.int .i64 z27))), (6, .d (.v (.int .i64 z44))), (18, .d (.v (.bool false))), (29, .d (.v (.bool false)))] [(1, [.v (.bool g), .v (.int .u64 (hiW (a))), .v (.int .u64 (loW (a))), .v (.int .i64 x)]), (2, [.v (.bool false), .v (.int .u64 0), .v (.int .u64 0), .v (.int .i64 0)])] (by kernel_rfl) (by kernel_rfl) (by kernel_rfl) ?_
      refine vc_seqr rfl ?_
      refine vcI_q 3 (by kernel_rfl) ?_
      refine vcI_call (f := 32) (ds := [.agg [.v (.int .u64 (hiW (a))), .v (.int .u64 (loW (a)))], .v (.int .i64 z44)]) (dst := (some 49)) (by kernel_rfl) (c_raisedI (n := n) (by omega) haB (by omega) hA) ?_
      rintro _ rfl
      refine vcI_q 7 (by kernel_rfl) ?_
      refine vcI_end 95 [(1, .p 1 0), (2, .p 2 0), (3, .d (.v (.bool false))), (4, .d (.v (.int .i64 z22))), (5, .d (.v (.int .i64 z27))), (6, .d (.v (.int .i64 z44))), (7, .p 7 0), (8, .p 8 0), (18, .d (.v (.bool false))), (29, .d (.v (.bool false)))] [(1, [.v (.bool g), .v (.int .u64 (hiW (a))), .v (.int .u64 (loW (a))), .v (.int .i64 x)]), (2, [.v (.bool false), .v (.int .u64 0), .v (.int .u64 0), .v (.int .i64 0)]), (7, [.v (.int .u64 (hiW (a * 10 ^ n / B128))), .v (.int .u64 (loW (a * 10 ^ n / B128)))]), (8, [.v (.int .u64 (hiW (a * 10 ^ n % B128))), .v (.int .u64 (loW (a * 10 ^ n % B128)))])] (by kernel_rfl) (by kernel_rfl) (by kernel_rfl) ?_
      refine vc_seqr rfl ?_
      refine vcI_q 2 (by kernel_rfl) ?_
      refine vcI_call (f := 41) (ds := [.agg [.v (.int .u64 (hiW (a * 10 ^ n / B128))), .v (.int .u64 (loW (a * 10 ^ n / B128)))], .agg [.v (.int .u64 (hiW (a * 10 ^ n % B128))), .v (.int .u64 (loW (a * 10 ^ n % B128)))]]) (dst := (some 55)) (by kernel_rfl) (cw_RootN hA) ?_
      rintro _ ⟨q, al, rfl, hal, hqB, hq⟩
      refine vcI_q 6 (by kernel_rfl) ?_
      refine vcI_end 95 [(1, .p 1 0), (2, .p 2 0), (3, .d (.v (.bool false))), (4, .d (.v (.int .i64 z22))), (5, .d (.v (.int .i64 z27))), (6, .d (.v (.int .i64 z44))), (7, .p 7 0), (8, .p 8 0), (9, .p 9 0), (10, .d (.v (.bool al))), (18, .d (.v (.bool false))), (29, .d (.v (.bool false)))] [(1, [.v (.bool g), .v (.int .u64 (hiW (a))), .v (.int .u64 (loW (a))), .v (.int .i64 x)]), (2, [.v (.bool false), .v (.int .u64 0), .v (.int .u64 0), .v (.int .i64 0)]), (7, [.v (.int .u64 (hiW (a * 10 ^ n / B128))), .v (.int .u64 (loW (a * 10 ^ n / B128)))]), (8, [.v (.int .u64 (hiW (a * 10 ^ n % B128))), .v (.int .u64 (loW (a * 10 ^ n % B128)))]), (9, [.v (.int .u64 (hiW (q))), .v (.int .u64 (loW (q)))])] (by kernel_rfl) (by kernel_rfl) (by kernel_rfl) ?_
      refine vc_seqr rfl ?_
      refine vcI_q 4 (by kernel_rfl) ?_
      refine vcI_bin (op := .sub) (t := 3) (a := .int .i64 x) (b := .int .i64 z44) (dst := (some 62)) (by kernel_rfl) ?_
      intro z62 hz62
      first | (replace hz62 := hz62.i64 (by omega)) | skip
      refine vcI_bin (op := .quo) (t := 3) (a := .int .i64 z62) (b := .int .i64 2) (dst := (some 63)) (by kernel_rfl) ?_
      refine And.intro (by omega) ?_
      intro z63 hz63
      replace hz63 := quo2 hz63 (by omega) (by omega) (by omega)
      have hy : z63 = (x - n) / 2 := by omega
      obtain ⟨L, hL⟩ : ∃ L, L = rootL a x := ⟨_, rfl⟩
      have hLv := hL; unfold rootL at hLv; rw [← hn] at hLv
      refine vcI_q 1 (by kernel_rfl) ?_
      refine vcI_un (op := .not) (a := .bool al) (dst := (some 65)) (by kernel_rfl) ?_
      intro c65 hc65
      have hm : rootMore a x = c65 := by rw [rootMore, ← hn, hq, Bool.eq_iff_iff, hc65]; cases al <;> simp_all
      refine vcI_q 3 (by kernel_rfl) ?_
      refine vcI_end 95 [(1, .p 1 0), (2, .p 2 0), (3, .d (.v (.bool false))), (4, .d (.v (.int .i64 z22))), (5, .d (.v (.int .i64 z27))), (6, .d (.v (.int .i64 z44))), (7, .p 7 0), (8, .p 8 0), (9, .p 9 0), (10, .d (.v (.bool al))), (11, .p 11 0), (18, .d (.v (.bool false))), (29, .d (.v (.bool false)))] [(1, [.v (.bool g), .v (.int .u64 (hiW (a))), .v (.int .u64 (loW (a))), .v (.int .i64 x)]), (2, [.v (.bool false), .v (.int .u64 0), .v (.int .u64 0), .v (.int .i64 0)]), (7, [.v (.int .u64 (hiW (a * 10 ^ n / B128))), .v (.int .u64 (loW (a * 10 ^ n / B128)))]), (8, [.v (.int .u64 (hiW (a * 10 ^ n % B128))), .v (.int .u64 (loW (a * 10 ^ n % B128)))]), (9, [.v (.int .u64 (hiW (q))), .v (.int .u64 (loW (q)))]), (11, [.v (.bool false), .v (.int .u64 0), .v (.int .u64 0), .v (.int .u64 (hiW (q))), .v (.int .u64 (loW (q))), .v (.int .i64 z63), .v (.bool c65)])] (by kernel_rfl) (by kernel_rfl) (by kernel_rfl) ?_
      refine vc_seq ?_
      refine vc_block ?_
      refine vc_loop 95 (fun (vcx : Nat × Nat × Int) => match vcx with | (j, p, y) => [(1, .p 1 0), (2, .p 2 0), (3, .d (.v (.bool false))), (4, .d (.v (.int .i64 z22))), (5, .d (.v (.int .i64 z27))), (6, .d (.v (.int .i64 z44))), (7, .p 7 0), (8, .p 8 0), (9, .p 9 0), (10, .d (.v (.bool al))), (11, .p 11 0), (18, .d (.v (.bool false))), (29, .d (.v (.bool false)))]) (fun (vcx : Nat × Nat × Int) => match vcx with | (j, p, y) => [(1, [.v (.bool g), .v (.int .u64 (hiW (a))), .v (.int .u64 (loW (a))), .v (.int .i64 x)]), (2, [.v (.bool false), .v (.int .u64 0), .v (.int .u64 0), .v (.int .i64 0)]), (7, [.v (.int .u64 (hiW (a * 10 ^ n / B128))), .v (.int .u64 (loW (a * 10 ^ n / B128)))]), (8, [.v (.int .u64 (hiW (a * 10 ^ n % B128))), .v (.int .u64 (loW (a * 10 ^ n % B128)))]), (9, [.v (.int .u64 (hiW (q))), .v (.int .u64 (loW (q)))]), (11, [.v (.bool false), .v (.int .u64 0), .v (.int .u64 0), .v (.int .u64 (hiW (p))), .v (.int .u64 (loW (p))), .v (.int .i64 y), .v (.bool c65)])]) (fun (vcx : Nat × Nat × Int) => match vcx with | (j, p, y) => j ≤ L ∧ y = (x - (n : Int)) / 2 + (j : Int) ∧ p < B128 ∧ strip L q = ((strip (L - j) p).1, (strip (L - j) p).2 + j) ∧ (al = false → j = 0 ∧ p = q)) (fun (vcx : Nat × Nat × Int) => match vcx with | (j, p, y) => L - j) ((0, q, z63)) (⟨by omega, by omega, hqB, by simp, fun _ => ⟨rfl, rfl⟩⟩) (by kernel_rfl) (by kernel_rfl) ?_
      rintro ⟨j, p, y⟩ hinv
      simp only at hinv
      obtain ⟨hj, hjy, hp, hs, hm0⟩ := hinv
      refine vc_seq ?_
      refine vc_seqr rfl ?_
      refine vcI_q 2 (by kernel_rfl) ?_
      cases al
      · skip
        refine vcI_q 5 (by kernel_rfl) ?_
        refine vcI_end 95 [(1, .p 1 0), (2, .p 2 0), (3, .d (.v (.bool false))), (4, .d (.v (.int .i64 z22))), (5, .d (.v (.int .i64 z27))), (6, .d (.v (.int .i64 z44))), (7, .p 7 0), (8, .p 8 0), (9, .p 9 0), (10, .d (.v (.bool false))), (11, .p 11 0), (18, .d (.v (.bool false))), (29, .d (.v (.bool false))), (73, .d (.v (.bool false)))] [(1, [.v (.bool g), .v (.int .u64 (hiW (a))), .v (.int .u64 (loW (a))), .v (.int .i64 x)]), (2, [.v (.bool false), .v (.int .u64 0), .v (.int .u64 0), .v (.int .i64 0)]), (7, [.v (.int .u64 (hiW (a * 10 ^ n / B128))), .v (.int .u64 (loW (a * 10 ^ n / B128)))]), (8, [.v (.int .u64 (hiW (a * 10 ^ n % B128))), .v (.int .u64 (loW (a * 10 ^ n % B128)))]), (9, [.v (.int .u64 (hiW (q))), .v (.int .u64 (loW (q)))]), (11, [.v (.bool false), .v (.int .u64 0), .v (.int .u64 0), .v (.int .u64 (hiW (p))), .v (.int .u64 (loW (p))), .v (.int .i64 y), .v (.bool c65)])] (by kernel_rfl) (by kernel_rfl) (by kernel_rfl) ?_
        obtain ⟨hj0, hpq⟩ := hm0 rfl
        have hQ : rootQ a x = (p, j) := by rw [rootQ, ← hn, hq, if_neg (fun h => by simpa using hal.2 h), hj0, hpq]
        refine vc_condf (by kernel_rfl) ?_
        refine vc_exit ?_
        refine seq_x ?_
        refine loop_x ?_
        refine block_x rfl ?_
        refine seq_n ?_
        refine vc_seqr rfl ?_
        refine vcI_q 1 (by kernel_rfl) ?_
        refine vcI_call (f := 30) (ds := [.agg [.v (.bool false), .v (.int .u64 0), .v (.int .u64 0), .v (.int .u64 (hiW (p))), .v (.int .u64 (loW (p))), .v (.int .i64 y), .v (.bool c65)], .v (.int .i64 1)]) (dst := (some 92)) (by kernel_rfl) (c_FitT1 (m := 1) (N := p) hp (by omega) (by omega)) ?_
        rintro _ ⟨g', k, x', ok, rfl, hT⟩
        refine vcI_q 4 (by kernel_rfl) ?_
        refine vcI_end 95 [(1, .p 1 0), (2, .p 2 0), (3, .d (.v (.bool ok))), (4, .d (.v (.int .i64 z22))), (5, .d (.v (.int .i64 z27))), (6, .d (.v (.int .i64 z44))), (7, .p 7 0), (8, .p 8 0), (9, .p 9 0), (10, .d (.v (.bool false))), (11, .p 11 0), (18, .d (.v (.bool false))), (29, .d (.v (.bool false))), (73, .d (.v (.bool false)))] [(1, [.v (.bool g), .v (.int .u64 (hiW (a))), .v (.int .u64 (loW (a))), .v (.int .i64 x)]), (2, [.v (.bool g'), .v (.int .u64 (hiW (k))), .v (.int .u64 (loW (k))), .v (.int .i64 x')]), (7, [.v (.int .u64 (hiW (a * 10 ^ n / B128))), .v (.int .u64 (loW (a * 10 ^ n / B128)))]), (8, [.v (.int .u64 (hiW (a * 10 ^ n % B128))), .v (.int .u64 (loW (a * 10 ^ n % B128)))]), (9, [.v (.int .u64 (hiW (q))), .v (.int .u64 (loW (q)))]), (11, [.v (.bool false), .v (.int .u64 0), .v (.int .u64 0), .v (.int .u64 (hiW (p))), .v (.int .u64 (loW (p))), .v (.int .i64 y), .v (.bool c65)])] (by kernel_rfl) (by kernel_rfl) (by kernel_rfl) ?_
        refine vc_ret ?_
        refine ret_2 (d := .agg [.v (.bool g'), .v (.int .u64 (hiW (k))), .v (.int .u64 (loW (k))), .v (.int .i64 x')]) (e := .v (.bool ok)) (ds := []) (by kernel_rfl) ?_
        rw [qRootT, if_neg hsg, rootT, if_neg hz, hQ, hm, ← hn, ← hjy, hT]
        rfl
      · skip
        refine vcI_q 3 (by kernel_rfl) ?_
        refine vcI_bin (op := .lss) (t := 3) (a := .int .i64 y) (b := .int .i64 z27) (dst := (some 72)) (by kernel_rfl) ?_
        intro c72 hc72
        have hqq : q * q = a * 10 ^ n := hal.1 rfl
        refine vcI_q 1 (by kernel_rfl) ?_
        refine vcI_end 95 [(1, .p 1 0), (2, .p 2 0), (3, .d (.v (.bool false))), (4, .d (.v (.int .i64 z22))), (5, .d (.v (.int .i64 z27))), (6, .d (.v (.int .i64 z44))), (7, .p 7 0), (8, .p 8 0), (9, .p 9 0), (10, .d (.v (.bool true))), (11, .p 11 0), (18, .d (.v (.bool false))), (29, .d (.v (.bool false))), (73, .d (.v (.bool c72)))] [(1, [.v (.bool g), .v (.int .u64 (hiW (a))), .v (.int .u64 (loW (a))), .v (.int .i64 x)]), (2, [.v (.bool false), .v (.int .u64 0), .v (.int .u64 0), .v (.int .i64 0)]), (7, [.v (.int .u64 (hiW (a * 10 ^ n / B128))), .v (.int .u64 (loW (a * 10 ^ n / B128)))]), (8, [.v (.int .u64 (hiW (a * 10 ^ n % B128))), .v (.int .u64 (loW (a * 10 ^ n % B128)))]), (9, [.v (.int .u64 (hiW (q))), .v (.int .u64 (loW (q)))]), (11, [.v (.bool false), .v (.int .u64 0), .v (.int .u64 0), .v (.int .u64 (hiW (p))), .v (.int .u64 (loW (p))), .v (.int .i64 y), .v (.bool c65)])] (by kernel_rfl) (by kernel_rfl) (by kernel_rfl) ?_
        cases c72
        · replace hc72 := bf hc72
          have hQ : rootQ a x = (p, j) := by rw [rootQ, ← hn, hq, if_pos hqq, ← hL, hs, show L - j = 0 by omega]; simp [strip_0]
          refine vc_condf (by kernel_rfl) ?_
          refine vc_exit ?_
          refine seq_x ?_
          refine loop_x ?_
          refine block_x rfl ?_
          refine seq_n ?_
          refine vc_seqr rfl ?_
          refine vcI_q 1 (by kernel_rfl) ?_
          refine vcI_call (f := 30) (ds := [.agg [.v (.bool false), .v (.int .u64 0), .v (.int .u64 0), .v (.int .u64 (hiW (p))), .v (.int .u64 (loW (p))), .v (.int .i64 y), .v (.bool c65)], .v (.int .i64 1)]) (dst := (some 92)) (by kernel_rfl) (c_FitT1 (m := 1) (N := p) hp (by omega) (by omega)) ?_
          rintro _ ⟨g', k, x', ok, rfl, hT⟩
          refine vcI_q 4 (by kernel_rfl) ?_
          refine vcI_end 95 [(1, .p 1 0), (2, .p 2 0), (3, .d (.v (.bool ok))), (4, .d (.v (.int .i64 z22))), (5, .d (.v (.int .i64 z27))), (6, .d (.v (.int .i64 z44))), (7, .p 7 0), (8, .p 8 0), (9, .p 9 0), (10, .d (.v (.bool true))), (11, .p 11 0), (18, .d (.v (.bool false))), (29, .d (.v (.bool false))), (73, .d (.v (.bool false)))] [(1, [.v (.bool g), .v (.int .u64 (hiW (a))), .v (.int .u64 (loW (a))), .v (.int .i64 x)]), (2, [.v (.bool g'), .v (.int .u64 (hiW (k))), .v (.int .u64 (loW (k))), .v (.int .i64 x')]), (7, [.v (.int .u64 (hiW (a * 10 ^ n / B128))), .v (.int .u64 (loW (a * 10 ^ n / B128)))]), (8, [.v (.int .u64 (hiW (a * 10 ^ n % B128))), .v (.int .u64 (loW (a * 10 ^ n % B128)))]), (9, [.v (.int .u64 (hiW (q))), .v (.int .u64 (loW (q)))]), (11, [.v (.bool false), .v (.int .u64 0), .v (.int .u64 0), .v (.int .u64 (hiW (p))), .v (.int .u64 (loW (p))), .v (.int .i64 y), .v (.bool c65)])] (by kernel_rfl) (by kernel_rfl) (by kernel_rfl) ?_
          refine vc_ret ?_
          refine ret_2 (d := .agg [.v (.bool g'), .v (.int .u64 (hiW (k))), .v (.int .u64 (loW (k))), .v (.int .i64 x')]) (e := .v (.bool ok)) (ds := []) (by kernel_rfl) ?_
          rw [qRootT, if_neg hsg, rootT, if_neg hz, hQ, hm, ← hn, ← hjy, hT]
          rfl
        · replace hc72 := bt hc72
          refine vc_condt (by kernel_rfl) ?_
          refine vc_skip ?_
          refine seq_n ?_
          refine vc_block ?_
          refine vc_seqr rfl ?_
          refine vcI_q 3 (by kernel_rfl) ?_
          refine vcI_call (f := 33) (ds := [.agg [.v (.int .u64 0), .v (.int .u64 0)], .agg [.v (.int .u64 (hiW (p))), .v (.int .u64 (loW (p)))], .v (.int .u64 10)]) (dst := (some 78)) (by kernel_rfl) (cw_DivWord10 hp) ?_
          rintro _ rfl
          refine vcI_q 11 (by kernel_rfl) ?_
          refine vcI_end 95 [(1, .p 1 0), (2, .p 2 0), (3, .d (.v (.bool false))), (4, .d (.v (.int .i64 z22))), (5, .d (.v (.int .i64 z27))), (6, .d (.v (.int .i64 z44))), (7, .p 7 0), (8, .p 8 0), (9, .p 9 0), (10, .d (.v (.bool true))), (11, .p 11 0), (13, .p 13 0), (14, .d (.v (.int .u64 (((p % 10 : Nat) : Int))))), (18, .d (.v (.bool false))), (29, .d (.v (.bool false))), (73, .d (.v (.bool true)))] [(1, [.v (.bool g), .v (.int .u64 (hiW (a))), .v (.int .u64 (loW (a))), .v (.int .i64 x)]), (2, [.v (.bool false), .v (.int .u64 0), .v (.int .u64 0), .v (.int .i64 0)]), (7, [.v (.int .u64 (hiW (a * 10 ^ n / B128))), .v (.int .u64 (loW (a * 10 ^ n / B128)))]), (8, [.v (.int .u64 (hiW (a * 10 ^ n % B128))), .v (.int .u64 (loW (a * 10 ^ n % B128)))]), (9, [.v (.int .u64 (hiW (q))), .v (.int .u64 (loW (q)))]), (11, [.v (.bool false), .v (.int .u64 0), .v (.int .u64 0), .v (.int .u64 (hiW (p))), .v (.int .u64 (loW (p))), .v (.int .i64 y), .v (.bool c65)]), (13, [.v (.int .u64 (hiW (p / 10))), .v (.int .u64 (loW (p / 10)))])] (by kernel_rfl) (by kernel_rfl) (by kernel_rfl) ?_
          refine vc_seq ?_
          refine vc_seqr rfl ?_
          refine vcI_q 1 (by kernel_rfl) ?_
          refine vcI_bin (op := .neq) (t := 22) (a := .int .u64 (((p % 10 : Nat) : Int))) (b := .int .u64 0) (dst := (some 84)) (by kernel_rfl) ?_
          intro c84 hc84
          refine vcI_end 95 [(1, .p 1 0), (2, .p 2 0), (3, .d (.v (.bool false))), (4, .d (.v (.int .i64 z22))), (5, .d (.v (.int .i64 z27))), (6, .d (.v (.int .i64 z44))), (7, .p 7 0), (8, .p 8 0), (9, .p 9 0), (10, .d (.v (.bool true))), (11, .p 11 0), (13, .p 13 0), (14, .d (.v (.int .u64 (((p % 10 : Nat) : Int))))), (18, .d (.v (.bool false))), (29, .d (.v (.bool false))), (73, .d (.v (.bool true))), (84, .d (.v (.bool c84)))] [(1, [.v (.bool g), .v (.int .u64 (hiW (a))), .v (.int .u64 (loW (a))), .v (.int .i64 x)]), (2, [.v (.bool false), .v (.int .u64 0), .v (.int .u64 0), .v (.int .i64 0)]), (7, [.v (.int .u64 (hiW (a * 10 ^ n / B128))), .v (.int .u64 (loW (a * 10 ^ n / B128)))]), (8, [.v (.int .u64 (hiW (a * 10 ^ n % B128))), .v (.int .u64 (loW (a * 10 ^ n % B128)))]), (9, [.v (.int .u64 (hiW (q))), .v (.int .u64 (loW (q)))]), (11, [.v (.bool false), .v (.int .u64 0), .v (.int .u64 0), .v (.int .u64 (hiW (p))), .v (.int .u64 (loW (p))), .v (.int .i64 y), .v (.bool c65)]), (13, [.v (.int .u64 (hiW (p / 10))), .v (.int .u64 (loW (p / 10)))])] (by kernel_rfl) (by kernel_rfl) (by kernel_rfl) ?_
          cases c84
          · replace hc84 := bf hc84
            have hp10 : p % 10 = 0 := by omega
            refine vc_condf (by kernel_rfl) ?_
            refine vc_skip ?_
            refine seq_n ?_
            refine vc_reg rfl ?_
            refine vcI_q 3 (by kernel_rfl) ?_
            refine vcI_bin (op := .add) (t := 3) (a := .int .i64 y) (b := .int .i64 1) (dst := (some 88)) (by kernel_rfl) ?_
            intro z88 hz88
            first | (replace hz88 := hz88.i64 (by omega)) | skip
            refine vcI_q 4 (by kernel_rfl) ?_
            refine vcI_end 95 [(1, .p 1 0), (2, .p 2 0), (3, .d (.v (.bool false))), (4, .d (.v (.int .i64 z22))), (5, .d (.v (.int .i64 z27))), (6, .d (.v (.int .i64 z44))), (7, .p 7 0), (8, .p 8 0), (9, .p 9 0), (10, .d (.v (.bool true))), (11, .p 11 0), (13, .p 13 0), (14, .d (.v (.int .u64 (((p % 10 : Nat) : Int))))), (18, .d (.v (.bool false))), (29, .d (.v (.bool false))), (73, .d (.v (.bool true))), (84, .d (.v (.bool false)))] [(1, [.v (.bool g), .v (.int .u64 (hiW (a))), .v (.int .u64 (loW (a))), .v (.int .i64 x)]), (2, [.v (.bool false), .v (.int .u64 0), .v (.int .u64 0), .v (.int .i64 0)]), (7, [.v (.int .u64 (hiW (a * 10 ^ n / B128))), .v (.int .u64 (loW (a * 10 ^ n / B128)))]), (8, [.v (.int .u64 (hiW (a * 10 ^ n % B128))), .v (.int .u64 (loW (a * 10 ^ n % B128)))]), (9, [.v (.int .u64 (hiW (q))), .v (.int .u64 (loW (q)))]), (11, [.v (.bool false), .v (.int .u64 0), .v (.int .u64 0), .v (.int .u64 (hiW (p / 10))), .v (.int .u64 (loW (p / 10))), .v (.int .i64 z88), .v (.bool c65)]), (13, [.v (.int .u64 (hiW (p / 10))), .v (.int .u64 (loW (p / 10)))])] (by kernel_rfl) (by kernel_rfl) (by kernel_rfl) ?_
            refine block_n ?_
            refine loop_n (j + 1, p / 10, z88) (⟨by omega, by omega, by omega, by rw [hs, show L - j = (L - (j + 1)) + 1 by omega, strip_step hp10]; exact Prod.ext rfl (by simp; omega), fun h => by cases h⟩) (by show L - (j + 1) < L - j; omega) (by kernel_rfl) (by kernel_rfl)
          · replace hc84 := bt hc84
            have hp10 : p % 10 ≠ 0 := by omega
            have hQ : rootQ a x = (p, j) := by rw [rootQ, ← hn, hq, if_pos hqq, ← hL, hs, show L - j = (L - (j + 1)) + 1 by omega, strip_stop hp10]; simp
            refine vc_condt (by kernel_rfl) ?_
            refine vc_exit ?_
            refine seq_x ?_
            refine block_e rfl ?_
            refine loop_x ?_
            refine block_x rfl ?_
            refine seq_n ?_
            refine vc_seqr rfl ?_
            refine vcI_q 1 (by kernel_rfl) ?_
            refine vcI_call (f := 30) (ds := [.agg [.v (.bool false), .v (.int .u64 0), .v (.int .u64 0), .v (.int .u64 (hiW (p))), .v (.int .u64 (loW (p))), .v (.int .i64 y), .v (.bool c65)], .v (.int .i64 1)]) (dst := (some 92)) (by kernel_rfl) (c_FitT1 (m := 1) (N := p) hp (by omega) (by omega)) ?_
            rintro _ ⟨g', k, x', ok, rfl, hT⟩
            refine vcI_q 4 (by kernel_rfl) ?_
            refine vcI_end 95 [(1, .p 1 0), (2, .p 2 0), (3, .d (.v (.bool ok))), (4, .d (.v (.int .i64 z22))), (5, .d (.v (.int .i64 z27))), (6, .d (.v (.int .i64 z44))), (7, .p 7 0), (8, .p 8 0), (9, .p 9 0), (10, .d (.v (.bool true))), (11, .p 11 0), (13, .p 13 0), (14, .d (.v (.int .u64 (((p % 10 : Nat) : Int))))), (18, .d (.v (.bool false))), (29, .d (.v (.bool false))), (73, .d (.v (.bool true))), (84, .d (.v (.bool true)))] [(1, [.v (.bool g), .v (.int .u64 (hiW (a))), .v (.int .u64 (loW (a))), .v (.int .i64 x)]), (2, [.v (.bool g'), .v (.int .u64 (hiW (k))), .v (.int .u64 (loW (k))), .v (.int .i64 x')]), (7, [.v (.int .u64 (hiW (a * 10 ^ n / B128))), .v (.int .u64 (loW (a * 10 ^ n / B128)))]), (8, [.v (.int .u64 (hiW (a * 10 ^ n % B128))), .v (.int .u64 (loW (a * 10 ^ n % B128)))]), (9, [.v (.int .u64 (hiW (q))), .v (.int .u64 (loW (q)))]), (11, [.v (.bool false), .v (.int .u64 0), .v (.int .u64 0), .v (.int .u64 (hiW (p))), .v (.int .u64 (loW (p))), .v (.int .i64 y), .v (.bool c65)]), (13, [.v (.int .u64 (hiW (p / 10))), .v (.int .u64 (loW (p / 10)))])] (by kernel_rfl) (by kernel_rfl) (by kernel_rfl) ?_
            refine vc_ret ?_
            refine ret_2 (d := .agg [.v (.bool g'), .v (.int .u64 (hiW (k))), .v (.int .u64 (loW (k))), .v (.int .i64 x')]) (e := .v (.bool ok)) (ds := []) (by kernel_rfl) ?_
            rw [qRootT, if_neg hsg, rootT, if_neg hz, hQ, hm, ← hn, ← hjy, hT]
            rfl
    · replace hz := bt hz
      refine vc_condt (by kernel_rfl) ?_
      refine vc_seqr rfl ?_
      refine vcI_q 2 (by kernel_rfl) ?_
      refine vcI_call (f := 30) (ds := [.agg [.v (.bool false), .v (.int .u64 0), .v (.int .u64 0), .v (.int .u64 0), .v (.int .u64 0), .v (.int .i64 z27), .v (.bool false)], .v (.int .i64 1)]) (dst := (some 32)) (by kernel_rfl) (c_FitT0 (m := 1) (by omega) (by omega)) ?_
      rintro _ ⟨g', k, x', ok, rfl, hT⟩
      refine vcI_q 4 (by kernel_rfl) ?_
      refine vcI_end 95 [(1, .p 1 0), (2, .p 2 0), (3, .d (.v (.bool ok))), (4, .d (.v (.int .i64 z22))), (5, .d (.v (.int .i64 z27))), (18, .d (.v (.bool false))), (29, .d (.v (.bool true)))] [(1, [.v (.bool g), .v (.int .u64 (hiW (a))), .v (.int .u64 (loW (a))), .v (.int .i64 x)]), (2, [.v (.bool g'), .v (.int .u64 (hiW (k))), .v (.int .u64 (loW (k))), .v (.int .i64 x')])] (by kernel_rfl) (by kernel_rfl) (by kernel_rfl) ?_
      refine vc_ret ?_
      refine seq_r ?_
      refine ret_2 (d := .agg [.v (.bool g'), .v (.int .u64 (hiW (k))), .v (.int .u64 (loW (k))), .v (.int .i64 x')]) (e := .v (.bool ok)) (ds := []) (by kernel_rfl) ?_
      rw [qRootT, if_neg hsg, rootT, if_pos hz, ← hlk, hT]
      rfl
  · replace hc18 := bt hc18
    have hsg := sg_neg hc18
    refine vc_condt (by kernel_rfl) ?_
    refine vc_seqr rfl ?_
    refine vcI_q 3 (by kernel_rfl) ?_
    refine vcI_end 95 [(1, .p 1 0), (2, .p 2 0), (3, .d (.v (.bool false))), (18, .d (.v (.bool true)))] [(1, [.v (.bool g), .v (.int .u64 (hiW (a))), .v (.int .u64 (loW (a))), .v (.int .i64 x)]), (2, [.v (.bool false), .v (.int .u64 0), .v (.int .u64 0), .v (.int .i64 0)])] (by kernel_rfl) (by kernel_rfl) (by kernel_rfl) ?_
    refine vc_ret ?_
    refine seq_r ?_
    refine ret_2 (d := .agg [.v (.bool false), .v (.int .u64 0), .v (.int .u64 0), .v (.int .i64 0)]) (e := .v (.bool false)) (ds := []) (by kernel_rfl) ?_
    rw [qRootT, if_pos hsg]
    rfl

end Go.Proofs.Ytdlfgliokkgceaa
