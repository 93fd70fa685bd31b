/-
  The reference's rounding: Cut, Fit, Mul.
-/
import Derived.Test.YtdlfgliokkgceaaRefD
namespace Go.Proofs.Ytdlfgliokkgceaa
open Go.RowKit
set_option linter.unusedVariables false
set_option linter.unusedSimpArgs false
set_option maxRecDepth 100000

theorem dval_cut (N k : Nat) (hk : k ≤ nd N) : dval ((digs N).take k) = N % 10 ^ k ∧ dval ((digs N).drop k) = N / 10 ^ k := by
  have e := dval_append ((digs N).take k) ((digs N).drop k)
  rw [List.take_append_drop, dval_digs, List.length_take, Nat.min_eq_left (show k ≤ (digs N).length from hk)] at e
  have h := dval_lt (ds := (digs N).take k) fun d hd => digs_lt (List.mem_of_mem_take hd)
  rw [List.length_take, Nat.min_eq_left (show k ≤ (digs N).length from hk)] at h
  have hp : 0 < 10 ^ k := Nat.pow_pos (by decide)
  clear hk
  generalize dval ((digs N).take k) = A at *
  generalize dval ((digs N).drop k) = B at *
  constructor
  · rw [e, Nat.add_mul_mod_self_left, Nat.mod_eq_of_lt h]
  · rw [e, Nat.add_mul_div_left _ _ hp, Nat.div_eq_of_lt h, Nat.zero_add]
theorem min_cut (N n : Nat) : N % 10 ^ min n (nd N) = N % 10 ^ n ∧ N / 10 ^ min n (nd N) = N / 10 ^ n := by
  rcases Nat.le_total n (nd N) with h | h
  · rw [Nat.min_eq_left h]
    exact ⟨rfl, rfl⟩
  · have h1 := lt_nd N
    have h2 : N < 10 ^ n := Nat.lt_of_lt_of_le h1 (Nat.pow_le_pow_right (by decide) h)
    rw [Nat.min_eq_right h, Nat.mod_eq_of_lt h1, Nat.mod_eq_of_lt h2, Nat.div_eq_of_lt h1, Nat.div_eq_of_lt h2]
    exact ⟨rfl, rfl⟩
theorem c_TrimDrop {N n k : Nat} (hk : k = min n (nd N)) (hl : nd N ≤ 100000000000) : HasC Try.prog 56 [.sl ((digs N).drop k).length (dg ((digs N).drop k))] (fun y => y = .sl (nd (N / 10 ^ n)) (dg (digs (N / 10 ^ n)))) := by
  have e := c_TrimD (ds := (digs N).drop k) (fun d hd => digs_lt (List.mem_of_mem_drop hd)) (by rw [List.length_drop]; have : (digs N).length = nd N := rfl; omega)
  rw [(dval_cut N k (by omega)).2, hk, (min_cut N n).2] at e
  rw [hk]
  exact e
theorem c_TrimTake {N n k : Nat} (hk : k = min n (nd N)) (hl : nd N ≤ 100000000000) : HasC Try.prog 56 [.sl ((digs N).take k).length (dg ((digs N).take k))] (fun y => y = .sl (nd (N % 10 ^ n)) (dg (digs (N % 10 ^ n)))) := by
  have e := c_TrimD (ds := (digs N).take k) (fun d hd => digs_lt (List.mem_of_mem_take hd)) (by rw [List.length_take]; have : (digs N).length = nd N := rfl; omega)
  rw [(dval_cut N k (by omega)).1, hk, (min_cut N n).1] at e
  rw [hk]
  exact e
theorem dg_drop (ds : List Nat) (n : Nat) : (dg ds).drop n = dg (ds.drop n) := by simp [dg]
theorem part_drop {N k : Nat} {K : Int} (hK : K = (k : Int)) (hk : k ≤ nd N) : ((dg (digs N)).drop (K.toNat * 1)).take (((digs N).drop k).length * 1) = dg ((digs N).drop k) := by
  subst hK
  rw [Int.toNat_natCast, Nat.mul_one, Nat.mul_one, dg_drop, dg_take, List.take_length]
theorem part_take {N k : Nat} (hk : k ≤ nd N) : ((dg (digs N)).drop ((0 : Int).toNat * 1)).take (((digs N).take k).length * 1) = dg ((digs N).take k) := by
  have : (digs N).length = nd N := rfl
  rw [show (0 : Int).toNat * 1 = 0 from rfl, List.drop_zero, Nat.mul_one, List.length_take, Nat.min_eq_left (by omega), dg_take]

theorem c_rCut {m e : Int} {neg more : Bool} {N n : Nat} (hN : nd N ≤ 100000) (hn : n ≤ 80000) (he0 : -1000000000000000000 ≤ e) (he1 : e ≤ 1000000000000000000) : HasC Try.prog 54 [.agg [.v (.bool neg), .sl (nd (N)) (dg (digs (N))), .v (.int .i64 e)], .v (.bool more), .v (.int .i64 ((n : Int))), .v (.int .i64 m)] (fun y => y = dRD neg (cutQ m neg N more n) (e + (n : Int))) := by
  refine HasC.of [] (fn := Try.f54) tyOk mixed (fun args w => Try.call54 args w) Try.func54 rfl (by kernel_rfl) (Nat.le_of_ble_eq_true rfl) (⟨_, rfl⟩) ?_
  refine vc_seqr rfl ?_
  refine vcI_q 2 (by kernel_rfl) ?_
  refine vcI_end 52 [(1, .d (.v (.bool more))), (2, .d (.v (.int .i64 ((n : Int))))), (3, .d (.v (.int .i64 m))), (4, .p 4 0), (8, .p 8 0)] [(4, [.v (.bool neg), .sl (nd (N)) (dg (digs (N))), .v (.int .i64 e)]), (8, [.v (.bool false), .sl 0 [], .v (.int .i64 0)])] (by kernel_rfl) (by kernel_rfl) (by kernel_rfl) ?_
  refine vc_seq ?_
  refine vc_seqr rfl ?_
  refine vcI_q 1 (by kernel_rfl) ?_
  refine vcI_bin (op := .lss) (t := 3) (a := .int .i64 ((n : Int))) (b := .int .i64 0) (dst := (some 13)) (by kernel_rfl) ?_
  intro c13 hc13
  refine vcI_end 52 [(1, .d (.v (.bool more))), (2, .d (.v (.int .i64 ((n : Int))))), (3, .d (.v (.int .i64 m))), (4, .p 4 0), (8, .p 8 0), (13, .d (.v (.bool c13)))] [(4, [.v (.bool neg), .sl (nd (N)) (dg (digs (N))), .v (.int .i64 e)]), (8, [.v (.bool false), .sl 0 [], .v (.int .i64 0)])] (by kernel_rfl) (by kernel_rfl) (by kernel_rfl) ?_
  obtain rfl : c13 = false := bff hc13 ((by omega))
  refine vc_condf (by kernel_rfl) ?_
  refine vc_skip ?_
  refine seq_n ?_
  refine vc_seqr rfl ?_
  refine vcI_q 2 (by kernel_rfl) ?_
  refine vcI_end 52 [(1, .d (.v (.bool more))), (2, .d (.v (.int .i64 ((n : Int))))), (3, .d (.v (.int .i64 m))), (4, .p 4 0), (8, .p 8 0), (9, .d (.v (.int .i64 ((n : Int))))), (13, .d (.v (.bool false)))] [(4, [.v (.bool neg), .sl (nd (N)) (dg (digs (N))), .v (.int .i64 e)]), (8, [.v (.bool false), .sl 0 [], .v (.int .i64 0)])] (by kernel_rfl) (by kernel_rfl) (by kernel_rfl) ?_
  refine vc_mid 52 (fun (vcx : Nat × Bool) => match vcx with | (k, vb19) => [(1, .d (.v (.bool more))), (2, .d (.v (.int .i64 ((n : Int))))), (3, .d (.v (.int .i64 m))), (4, .p 4 0), (8, .p 8 0), (9, .d (.v (.int .i64 ((k : Int))))), (13, .d (.v (.bool false))), (19, .d (.v (.bool vb19)))]) (fun (vcx : Nat × Bool) => match vcx with | (k, vb19) => [(4, [.v (.bool neg), .sl (nd (N)) (dg (digs (N))), .v (.int .i64 e)]), (8, [.v (.bool false), .sl 0 [], .v (.int .i64 0)])]) (fun (vcx : Nat × Bool) => match vcx with | (k, vb19) => k = min n (nd N)) ?_ ?_
  · rintro ⟨k, vb19⟩ hinv
    simp only at hinv
    have hlen : (digs N).length = nd N := rfl
    refine vc_seqr rfl ?_
    refine vcI_q 3 (by kernel_rfl) ?_
    refine vcI_sl (l := ((k : Int))) (u := (((nd (N) : Nat) : Int))) (n := (nd (N))) (cs := (dg (digs (N)))) (z := 1) (m := (((digs N).drop k).length)) (ds := (dg ((digs N).drop k))) (dst := (some 26)) (by kernel_rfl) (by omega) (by rw [List.length_drop]; omega) (part_drop rfl (by omega)) ?_
    refine vcI_call (f := 56) (ds := [.sl (((digs N).drop k).length) (dg ((digs N).drop k))]) (dst := (some 27)) (by kernel_rfl) (c_TrimDrop (N := N) (n := n) hinv (by omega)) ?_
    rintro _ rfl
    refine vcI_q 1 (by kernel_rfl) ?_
    refine vcI_end 52 [(1, .d (.v (.bool more))), (2, .d (.v (.int .i64 ((n : Int))))), (3, .d (.v (.int .i64 m))), (4, .p 4 0), (8, .p 8 0), (9, .d (.v (.int .i64 ((k : Int))))), (10, .d (.sl (nd (N / 10 ^ n)) (dg (digs (N / 10 ^ n))))), (13, .d (.v (.bool false))), (19, .d (.v (.bool vb19)))] [(4, [.v (.bool neg), .sl (nd (N)) (dg (digs (N))), .v (.int .i64 e)]), (8, [.v (.bool false), .sl 0 [], .v (.int .i64 0)])] (by kernel_rfl) (by kernel_rfl) (by kernel_rfl) ?_
    refine vc_seqr rfl ?_
    refine vcI_q 3 (by kernel_rfl) ?_
    refine vcI_sl (l := 0) (u := ((k : Int))) (n := (nd (N))) (cs := (dg (digs (N)))) (z := 1) (m := (((digs N).take k).length)) (ds := (dg ((digs N).take k))) (dst := (some 31)) (by kernel_rfl) (by omega) (by rw [List.length_take]; omega) (part_take (by omega)) ?_
    refine vcI_call (f := 56) (ds := [.sl (((digs N).take k).length) (dg ((digs N).take k))]) (dst := (some 32)) (by kernel_rfl) (c_TrimTake (N := N) (n := n) hinv (by omega)) ?_
    rintro _ rfl
    have hq1 : nd (N / 10 ^ n) ≤ 100000 := Nat.le_trans (nd_mono (Nat.div_le_self _ _)) hN
    have hq2 : nd (N % 10 ^ n) ≤ 100000 := Nat.le_trans (nd_mono (Nat.mod_le _ _)) hN
    refine vcI_q 1 (by kernel_rfl) ?_
    refine vcI_end 52 [(1, .d (.v (.bool more))), (2, .d (.v (.int .i64 ((n : Int))))), (3, .d (.v (.int .i64 m))), (4, .p 4 0), (8, .p 8 0), (9, .d (.v (.int .i64 ((k : Int))))), (10, .d (.sl (nd (N / 10 ^ n)) (dg (digs (N / 10 ^ n))))), (11, .d (.sl (nd (N % 10 ^ n)) (dg (digs (N % 10 ^ n))))), (13, .d (.v (.bool false))), (19, .d (.v (.bool vb19)))] [(4, [.v (.bool neg), .sl (nd (N)) (dg (digs (N))), .v (.int .i64 e)]), (8, [.v (.bool false), .sl 0 [], .v (.int .i64 0)])] (by kernel_rfl) (by kernel_rfl) (by kernel_rfl) ?_
    refine vc_seq ?_
    refine vc_seqr rfl ?_
    refine vcI_q 7 (by kernel_rfl) ?_
    refine vcI_call (f := 67) (ds := [.v (.int .i64 m), .v (.bool neg), .sl (nd (N / 10 ^ n)) (dg (digs (N / 10 ^ n))), .sl (nd (N % 10 ^ n)) (dg (digs (N % 10 ^ n))), .v (.int .i64 ((n : Int))), .v (.bool more)]) (dst := (some 40)) (by kernel_rfl) (c_rup (m := m) (neg := neg) (more := more) (Nat.mod_lt _ (Nat.pow_pos (show 0 < 10 by decide))) hn (by omega) (by omega)) ?_
    rintro _ ⟨u, rfl, hu⟩
    rw [lastD_mod] at hu
    have hu' : upB m neg N more n = u := upB_eq (h := 0) (l := N / 10 ^ n) (by simp) rfl (by simp [restP_mod]) (by simp) hu
    refine vcI_end 52 [(2, .d (.v (.int .i64 ((n : Int))))), (4, .p 4 0), (8, .p 8 0), (9, .d (.v (.int .i64 ((k : Int))))), (10, .d (.sl (nd (N / 10 ^ n)) (dg (digs (N / 10 ^ n))))), (13, .d (.v (.bool false))), (19, .d (.v (.bool vb19))), (40, .d (.v (.bool u)))] [(4, [.v (.bool neg), .sl (nd (N)) (dg (digs (N))), .v (.int .i64 e)]), (8, [.v (.bool false), .sl 0 [], .v (.int .i64 0)])] (by kernel_rfl) (by kernel_rfl) (by kernel_rfl) ?_
    cases u
    · replace hu := bf hu
      refine vc_condf (by kernel_rfl) ?_
      refine vc_skip ?_
      refine seq_n ?_
      refine vc_seqr rfl ?_
      refine vcI_q 6 (by kernel_rfl) ?_
      refine vcI_bin (op := .add) (t := 3) (a := .int .i64 e) (b := .int .i64 ((n : Int))) (dst := (some 50)) (by kernel_rfl) ?_
      intro z50 hz50
      first | (replace hz50 := hz50.i64 (by omega)) | skip
      refine vcI_q 2 (by kernel_rfl) ?_
      refine vcI_end 52 [(2, .d (.v (.int .i64 ((n : Int))))), (4, .p 4 0), (8, .p 8 0), (9, .d (.v (.int .i64 ((k : Int))))), (10, .d (.sl (nd (N / 10 ^ n)) (dg (digs (N / 10 ^ n))))), (13, .d (.v (.bool false))), (19, .d (.v (.bool vb19))), (40, .d (.v (.bool false)))] [(4, [.v (.bool neg), .sl (nd (N)) (dg (digs (N))), .v (.int .i64 e)]), (8, [.v (.bool neg), .sl (nd (N / 10 ^ n)) (dg (digs (N / 10 ^ n))), .v (.int .i64 z50)])] (by kernel_rfl) (by kernel_rfl) (by kernel_rfl) ?_
      refine vc_ret ?_
      refine ret_1 (d := .agg [.v (.bool neg), .sl (nd (N / 10 ^ n)) (dg (digs (N / 10 ^ n))), .v (.int .i64 z50)]) (by kernel_rfl) ?_
      rw [cutQ, hu', ← hz50]; rfl
    · replace hu := bt hu
      refine vc_condt (by kernel_rfl) ?_
      refine vc_reg rfl ?_
      refine vcI_q 2 (by kernel_rfl) ?_
      refine vcI_call (f := 55) (ds := [.sl (nd (N / 10 ^ n)) (dg (digs (N / 10 ^ n))), .sl 1 [.v (.int .i64 1)]]) (dst := (some 43)) (by kernel_rfl) (c_Add1 (by omega)) ?_
      rintro _ rfl
      refine vcI_q 1 (by kernel_rfl) ?_
      refine vcI_end 52 [(2, .d (.v (.int .i64 ((n : Int))))), (4, .p 4 0), (8, .p 8 0), (9, .d (.v (.int .i64 ((k : Int))))), (10, .d (.sl (nd (N / 10 ^ n + 1)) (dg (digs (N / 10 ^ n + 1))))), (13, .d (.v (.bool false))), (19, .d (.v (.bool vb19))), (40, .d (.v (.bool true)))] [(4, [.v (.bool neg), .sl (nd (N)) (dg (digs (N))), .v (.int .i64 e)]), (8, [.v (.bool false), .sl 0 [], .v (.int .i64 0)])] (by kernel_rfl) (by kernel_rfl) (by kernel_rfl) ?_
      refine seq_n ?_
      refine vc_seqr rfl ?_
      refine vcI_q 6 (by kernel_rfl) ?_
      refine vcI_bin (op := .add) (t := 3) (a := .int .i64 e) (b := .int .i64 ((n : Int))) (dst := (some 50)) (by kernel_rfl) ?_
      intro z50 hz50
      first | (replace hz50 := hz50.i64 (by omega)) | skip
      refine vcI_q 2 (by kernel_rfl) ?_
      refine vcI_end 52 [(2, .d (.v (.int .i64 ((n : Int))))), (4, .p 4 0), (8, .p 8 0), (9, .d (.v (.int .i64 ((k : Int))))), (10, .d (.sl (nd (N / 10 ^ n + 1)) (dg (digs (N / 10 ^ n + 1))))), (13, .d (.v (.bool false))), (19, .d (.v (.bool vb19))), (40, .d (.v (.bool true)))] [(4, [.v (.bool neg), .sl (nd (N)) (dg (digs (N))), .v (.int .i64 e)]), (8, [.v (.bool neg), .sl (nd (N / 10 ^ n + 1)) (dg (digs (N / 10 ^ n + 1))), .v (.int .i64 z50)])] (by kernel_rfl) (by kernel_rfl) (by kernel_rfl) ?_
      refine vc_ret ?_
      refine ret_1 (d := .agg [.v (.bool neg), .sl (nd (N / 10 ^ n + 1)) (dg (digs (N / 10 ^ n + 1))), .v (.int .i64 z50)]) (by kernel_rfl) ?_
      rw [cutQ, hu', ← hz50]; rfl
  intro hmid
  refine vc_seqr rfl ?_
  refine vcI_q 4 (by kernel_rfl) ?_
  refine vcI_bin (op := .gtr) (t := 3) (a := .int .i64 ((n : Int))) (b := .int .i64 (((nd (N) : Nat) : Int))) (dst := (some 19)) (by kernel_rfl) ?_
  intro c19 hc19
  refine vcI_end 52 [(1, .d (.v (.bool more))), (2, .d (.v (.int .i64 ((n : Int))))), (3, .d (.v (.int .i64 m))), (4, .p 4 0), (8, .p 8 0), (9, .d (.v (.int .i64 ((n : Int))))), (13, .d (.v (.bool false))), (19, .d (.v (.bool c19)))] [(4, [.v (.bool neg), .sl (nd (N)) (dg (digs (N))), .v (.int .i64 e)]), (8, [.v (.bool false), .sl 0 [], .v (.int .i64 0)])] (by kernel_rfl) (by kernel_rfl) (by kernel_rfl) ?_
  cases c19
  · replace hc19 := bf hc19
    refine vc_condf (by kernel_rfl) ?_
    refine vc_skip ?_
    refine mid_n hmid (n, false) (by omega) (by kernel_rfl)
  · replace hc19 := bt hc19
    refine vc_condt (by kernel_rfl) ?_
    refine vc_reg rfl ?_
    refine vcI_q 4 (by kernel_rfl) ?_
    refine vcI_end 52 [(1, .d (.v (.bool more))), (2, .d (.v (.int .i64 ((n : Int))))), (3, .d (.v (.int .i64 m))), (4, .p 4 0), (8, .p 8 0), (9, .d (.v (.int .i64 (((nd (N) : Nat) : Int))))), (13, .d (.v (.bool false))), (19, .d (.v (.bool true)))] [(4, [.v (.bool neg), .sl (nd (N)) (dg (digs (N))), .v (.int .i64 e)]), (8, [.v (.bool false), .sl 0 [], .v (.int .i64 0)])] (by kernel_rfl) (by kernel_rfl) (by kernel_rfl) ?_
    refine mid_n hmid (nd N, true) (by omega) (by kernel_rfl)

def dRFit (t : T4) : DV := .tup [dRD t.1 t.2.1 t.2.2.1, .v (.bool t.2.2.2)]
theorem dRFit_0 (e : Int) (ok : Bool) : dRFit (false, 0, e, ok) = .tup [.agg [.v (.bool false), .sl 0 [], .v (.int .i64 e)], .v (.bool ok)] := by
  show DV.tup [dRD false 0 e, _] = _
  rw [dRD_0]
theorem E34_nd {n : Nat} : E34 ≤ n ↔ 34 < nd n := by
  constructor
  · intro h
    exact nd_gt h
  · intro h
    rcases Nat.lt_or_ge n E34 with k | k
    · have := nd_le 34 n k
      omega
    · exact k
set_option maxHeartbeats 1600000 in
theorem c_rFit {m e : Int} {neg more : Bool} {N : Nat} (hN : nd N ≤ 70000) (he0 : -70000 ≤ e) (he1 : e ≤ 1000000000000) : HasC Try.prog 34 [.agg [.v (.bool neg), .sl (nd (N)) (dg (digs (N))), .v (.int .i64 e)], .v (.bool more), .v (.int .i64 m)] (fun y => y = dRFit (fitU m neg N e more)) := by
  refine HasC.of [] (fn := Try.f34) tyOk mixed (fun args w => Try.call34 args w) Try.func34 rfl (by kernel_rfl) (Nat.le_of_ble_eq_true rfl) (⟨_, rfl⟩) ?_
  refine vc_seqr rfl ?_
  refine vcI_q 3 (by kernel_rfl) ?_
  refine vcI_end 77 [(1, .d (.v (.bool more))), (2, .d (.v (.int .i64 m))), (3, .p 3 0), (6, .p 6 0), (7, .d (.v (.bool false)))] [(3, [.v (.bool neg), .sl (nd (N)) (dg (digs (N))), .v (.int .i64 e)]), (6, [.v (.bool false), .sl 0 [], .v (.int .i64 0)])] (by kernel_rfl) (by kernel_rfl) (by kernel_rfl) ?_
  refine vc_seqr rfl ?_
  refine vcI_q 3 (by kernel_rfl) ?_
  refine vcI_bin (op := .sub) (t := 3) (a := .int .i64 (((nd (N) : Nat) : Int))) (b := .int .i64 34) (dst := (some 12)) (by kernel_rfl) ?_
  intro z12 hz12
  first | (replace hz12 := hz12.i64 (by omega)) | skip
  refine vcI_q 1 (by kernel_rfl) ?_
  refine vcI_end 77 [(1, .d (.v (.bool more))), (2, .d (.v (.int .i64 m))), (3, .p 3 0), (6, .p 6 0), (7, .d (.v (.bool false))), (8, .d (.v (.int .i64 z12)))] [(3, [.v (.bool neg), .sl (nd (N)) (dg (digs (N))), .v (.int .i64 e)]), (6, [.v (.bool false), .sl 0 [], .v (.int .i64 0)])] (by kernel_rfl) (by kernel_rfl) (by kernel_rfl) ?_
  refine vc_mid 77 (fun (vcx : Int × Bool) => match vcx with | (n1, vb17) => [(1, .d (.v (.bool more))), (2, .d (.v (.int .i64 m))), (3, .p 3 0), (6, .p 6 0), (7, .d (.v (.bool false))), (8, .d (.v (.int .i64 n1))), (17, .d (.v (.bool vb17)))]) (fun (vcx : Int × Bool) => match vcx with | (n1, vb17) => [(3, [.v (.bool neg), .sl (nd (N)) (dg (digs (N))), .v (.int .i64 e)]), (6, [.v (.bool false), .sl 0 [], .v (.int .i64 0)])]) (fun (vcx : Int × Bool) => match vcx with | (n1, vb17) => n1 = max ((nd N : Int) - 34) (-6176 - e)) ?_ ?_
  · rintro ⟨n1, vb17⟩ hinv
    simp only at hinv
    have hn1 := hinv
    refine vc_mid 77 (fun (vcx : Nat × Bool) => match vcx with | (k, vb22) => [(1, .d (.v (.bool more))), (2, .d (.v (.int .i64 m))), (3, .p 3 0), (6, .p 6 0), (7, .d (.v (.bool false))), (8, .d (.v (.int .i64 ((k : Int))))), (17, .d (.v (.bool vb17))), (22, .d (.v (.bool vb22)))]) (fun (vcx : Nat × Bool) => match vcx with | (k, vb22) => [(3, [.v (.bool neg), .sl (nd (N)) (dg (digs (N))), .v (.int .i64 e)]), (6, [.v (.bool false), .sl 0 [], .v (.int .i64 0)])]) (fun (vcx : Nat × Bool) => match vcx with | (k, vb22) => k = fitKU N e) ?_ ?_
    · rintro ⟨k, vb22⟩ hinv
      simp only at hinv
      have hk := hinv
      have hkb : k ≤ 70000 := by unfold fitKU at hk; omega
      refine vc_mid 77 (fun (vcx : Nat × Int × Bool) => match vcx with | (N1, e1, vb27) => [(1, .d (.v (.bool more))), (2, .d (.v (.int .i64 m))), (3, .p 3 0), (6, .p 6 0), (7, .d (.v (.bool false))), (8, .d (.v (.int .i64 ((k : Int))))), (17, .d (.v (.bool vb17))), (22, .d (.v (.bool vb22))), (27, .d (.v (.bool vb27)))]) (fun (vcx : Nat × Int × Bool) => match vcx with | (N1, e1, vb27) => [(3, [.v (.bool neg), .sl (nd (N1)) (dg (digs (N1))), .v (.int .i64 e1)]), (6, [.v (.bool false), .sl 0 [], .v (.int .i64 0)])]) (fun (vcx : Nat × Int × Bool) => match vcx with | (N1, e1, vb27) => N1 = cutQ m neg N more k ∧ e1 = e + (k : Int)) ?_ ?_
      · rintro ⟨N1, e1, vb27⟩ hinv
        simp only at hinv
        obtain ⟨i1, i2⟩ := hinv
        have hN1 : N1 ≤ E34 := by rw [i1]; exact cutQ_E34 (by unfold fitKU at hk; omega)
        have hnd1 : nd N1 ≤ 35 := nd_le _ _ (Nat.lt_of_le_of_lt hN1 (by decide))
        refine vc_mid 77 (fun (vcx : Nat × Int × Bool) => match vcx with | (N2, e2, vb36) => [(1, .d (.v (.bool more))), (2, .d (.v (.int .i64 m))), (3, .p 3 0), (6, .p 6 0), (7, .d (.v (.bool false))), (8, .d (.v (.int .i64 ((k : Int))))), (17, .d (.v (.bool vb17))), (22, .d (.v (.bool vb22))), (27, .d (.v (.bool vb27))), (36, .d (.v (.bool vb36)))]) (fun (vcx : Nat × Int × Bool) => match vcx with | (N2, e2, vb36) => [(3, [.v (.bool neg), .sl (nd (N2)) (dg (digs (N2))), .v (.int .i64 e2)]), (6, [.v (.bool false), .sl 0 [], .v (.int .i64 0)])]) (fun (vcx : Nat × Int × Bool) => match vcx with | (N2, e2, vb36) => N2 = fit2N m neg N1 ∧ e2 = fit2E N1 e1) ?_ ?_
        · rintro ⟨N2, e2, vb36⟩ hinv
          simp only at hinv
          obtain ⟨j1, j2⟩ := hinv
          have hN2 : N2 < E34 := by rw [j1]; exact fit2_lt hN1
          have hnd2 : nd N2 ≤ 34 := nd_le _ _ hN2
          have he2 : e1 ≤ e2 ∧ e2 ≤ e1 + 1 := by rw [j2]; unfold fit2E; split <;> omega
          have hge : -6176 ≤ e2 := by unfold fitKU at hk; omega
          have hF : fitU m neg N e more = fitE neg N2 e2 := by rw [fitU, ← hk, ← i1, ← i2, ← j1, ← j2]
          rw [hF]
          refine vc_seq ?_
          refine vc_seqr rfl ?_
          refine vcI_q 3 (by kernel_rfl) ?_
          refine vcI_bin (op := .eql) (t := 3) (a := .int .i64 (((nd (N2) : Nat) : Int))) (b := .int .i64 0) (dst := (some 43)) (by kernel_rfl) ?_
          intro c43 hc43
          refine vcI_end 77 [(1, .d (.v (.bool more))), (2, .d (.v (.int .i64 m))), (3, .p 3 0), (6, .p 6 0), (7, .d (.v (.bool false))), (8, .d (.v (.int .i64 ((k : Int))))), (17, .d (.v (.bool vb17))), (22, .d (.v (.bool vb22))), (27, .d (.v (.bool vb27))), (36, .d (.v (.bool vb36))), (43, .d (.v (.bool c43)))] [(3, [.v (.bool neg), .sl (nd (N2)) (dg (digs (N2))), .v (.int .i64 e2)]), (6, [.v (.bool false), .sl 0 [], .v (.int .i64 0)])] (by kernel_rfl) (by kernel_rfl) (by kernel_rfl) ?_
          cases c43
          · replace hc43 := bf hc43
            have hN20 : N2 ≠ 0 := fun h => hc43 (by rw [h, nd_zero]; rfl)
            refine vc_condf (by kernel_rfl) ?_
            refine vc_skip ?_
            refine seq_n ?_
            refine vc_seq ?_
            refine vc_block ?_
            refine vc_loop 77 (fun (vcx : Nat × Nat × Int) => match vcx with | (j, n, x) => [(1, .d (.v (.bool more))), (2, .d (.v (.int .i64 m))), (3, .p 3 0), (6, .p 6 0), (7, .d (.v (.bool false))), (8, .d (.v (.int .i64 ((k : Int))))), (17, .d (.v (.bool vb17))), (22, .d (.v (.bool vb22))), (27, .d (.v (.bool vb27))), (36, .d (.v (.bool vb36))), (43, .d (.v (.bool false)))]) (fun (vcx : Nat × Nat × Int) => match vcx with | (j, n, x) => [(3, [.v (.bool neg), .sl (nd (n)) (dg (digs (n))), .v (.int .i64 x)]), (6, [.v (.bool false), .sl 0 [], .v (.int .i64 0)])]) (fun (vcx : Nat × Nat × Int) => match vcx with | (j, n, x) => j ≤ fitD N2 e2 ∧ n = N2 * 10 ^ j ∧ x = e2 - (j : Int)) (fun (vcx : Nat × Nat × Int) => match vcx with | (j, n, x) => fitD N2 e2 - j) ((0, N2, e2)) (⟨by omega, by simp, by simp⟩) (by kernel_rfl) (by kernel_rfl) ?_
            rintro ⟨j, n, x⟩ hinv
            simp only at hinv
            obtain ⟨hj1, hj2, hj3⟩ := hinv
            have hnn : nd n = nd N2 + j := by rw [hj2]; exact nd_up10 (by omega) j
            have hnd34 : nd n ≤ 34 := by unfold fitD at hj1; omega
            refine vc_seq ?_
            refine vc_seqr rfl ?_
            refine vcI_q 2 (by kernel_rfl) ?_
            refine vcI_bin (op := .gtr) (t := 3) (a := .int .i64 x) (b := .int .i64 6111) (dst := (some 57)) (by kernel_rfl) ?_
            intro c57 hc57
            refine vcI_q 1 (by kernel_rfl) ?_
            cases c57
            · replace hc57 := bf hc57
              refine vcI_q 5 (by kernel_rfl) ?_
              refine vcI_end 77 [(1, .d (.v (.bool more))), (2, .d (.v (.int .i64 m))), (3, .p 3 0), (6, .p 6 0), (7, .d (.v (.bool false))), (8, .d (.v (.int .i64 ((k : Int))))), (17, .d (.v (.bool vb17))), (22, .d (.v (.bool vb22))), (27, .d (.v (.bool vb27))), (36, .d (.v (.bool vb36))), (43, .d (.v (.bool false))), (63, .d (.v (.bool false)))] [(3, [.v (.bool neg), .sl (nd (n)) (dg (digs (n))), .v (.int .i64 x)]), (6, [.v (.bool false), .sl 0 [], .v (.int .i64 0)])] (by kernel_rfl) (by kernel_rfl) (by kernel_rfl) ?_
              have hjd : j = fitD N2 e2 := by unfold fitD at hj1 ⊢; omega
              refine vc_condf (by kernel_rfl) ?_
              refine vc_exit ?_
              refine seq_x ?_
              refine loop_x ?_
              refine block_x rfl ?_
              refine seq_n ?_
              refine vc_seq ?_
              refine vc_seqr rfl ?_
              refine vcI_q 2 (by kernel_rfl) ?_
              refine vcI_bin (op := .gtr) (t := 3) (a := .int .i64 x) (b := .int .i64 6111) (dst := (some 74)) (by kernel_rfl) ?_
              intro c74 hc74
              refine vcI_end 77 [(1, .d (.v (.bool more))), (2, .d (.v (.int .i64 m))), (3, .p 3 0), (6, .p 6 0), (7, .d (.v (.bool false))), (8, .d (.v (.int .i64 ((k : Int))))), (17, .d (.v (.bool vb17))), (22, .d (.v (.bool vb22))), (27, .d (.v (.bool vb27))), (36, .d (.v (.bool vb36))), (43, .d (.v (.bool false))), (63, .d (.v (.bool false))), (74, .d (.v (.bool c74)))] [(3, [.v (.bool neg), .sl (nd (n)) (dg (digs (n))), .v (.int .i64 x)]), (6, [.v (.bool false), .sl 0 [], .v (.int .i64 0)])] (by kernel_rfl) (by kernel_rfl) (by kernel_rfl) ?_
              cases c74
              · replace hc74 := bf hc74
                refine vc_condf (by kernel_rfl) ?_
                refine vc_skip ?_
                refine seq_n ?_
                refine vc_seqr rfl ?_
                refine vcI_q 3 (by kernel_rfl) ?_
                refine vcI_end 77 [(1, .d (.v (.bool more))), (2, .d (.v (.int .i64 m))), (3, .p 3 0), (6, .p 6 0), (7, .d (.v (.bool true))), (8, .d (.v (.int .i64 ((k : Int))))), (17, .d (.v (.bool vb17))), (22, .d (.v (.bool vb22))), (27, .d (.v (.bool vb27))), (36, .d (.v (.bool vb36))), (43, .d (.v (.bool false))), (63, .d (.v (.bool false))), (74, .d (.v (.bool false)))] [(3, [.v (.bool neg), .sl (nd (n)) (dg (digs (n))), .v (.int .i64 x)]), (6, [.v (.bool neg), .sl (nd (n)) (dg (digs (n))), .v (.int .i64 x)])] (by kernel_rfl) (by kernel_rfl) (by kernel_rfl) ?_
                refine vc_ret ?_
                refine ret_2 (d := .agg [.v (.bool neg), .sl (nd (n)) (dg (digs (n))), .v (.int .i64 x)]) (e := .v (.bool true)) (ds := []) (by kernel_rfl) ?_
                rw [fitE, if_neg hN20, ← hjd, if_neg (by omega), show max (e2 - (j : Int)) (-6176) = x by unfold fitD at hj1; omega, ← hj2]; rfl
              · replace hc74 := bt hc74
                refine vc_condt (by kernel_rfl) ?_
                refine vc_seqr rfl ?_
                refine vcI_q 3 (by kernel_rfl) ?_
                refine vcI_end 77 [(1, .d (.v (.bool more))), (2, .d (.v (.int .i64 m))), (3, .p 3 0), (6, .p 6 0), (7, .d (.v (.bool false))), (8, .d (.v (.int .i64 ((k : Int))))), (17, .d (.v (.bool vb17))), (22, .d (.v (.bool vb22))), (27, .d (.v (.bool vb27))), (36, .d (.v (.bool vb36))), (43, .d (.v (.bool false))), (63, .d (.v (.bool false))), (74, .d (.v (.bool true)))] [(3, [.v (.bool neg), .sl (nd (n)) (dg (digs (n))), .v (.int .i64 x)]), (6, [.v (.bool false), .sl 0 [], .v (.int .i64 0)])] (by kernel_rfl) (by kernel_rfl) (by kernel_rfl) ?_
                refine vc_ret ?_
                refine seq_r ?_
                refine ret_2 (d := .agg [.v (.bool false), .sl 0 [], .v (.int .i64 0)]) (e := .v (.bool false)) (ds := []) (by kernel_rfl) ?_
                rw [fitE, if_neg hN20, ← hjd, if_pos (by omega), dRFit_0]
            · replace hc57 := bt hc57
              refine vcI_q 3 (by kernel_rfl) ?_
              refine vcI_bin (op := .lss) (t := 3) (a := .int .i64 (((nd (n) : Nat) : Int))) (b := .int .i64 34) (dst := (some 62)) (by kernel_rfl) ?_
              intro c62 hc62
              refine vcI_q 1 (by kernel_rfl) ?_
              refine vcI_end 77 [(1, .d (.v (.bool more))), (2, .d (.v (.int .i64 m))), (3, .p 3 0), (6, .p 6 0), (7, .d (.v (.bool false))), (8, .d (.v (.int .i64 ((k : Int))))), (17, .d (.v (.bool vb17))), (22, .d (.v (.bool vb22))), (27, .d (.v (.bool vb27))), (36, .d (.v (.bool vb36))), (43, .d (.v (.bool false))), (63, .d (.v (.bool c62)))] [(3, [.v (.bool neg), .sl (nd (n)) (dg (digs (n))), .v (.int .i64 x)]), (6, [.v (.bool false), .sl 0 [], .v (.int .i64 0)])] (by kernel_rfl) (by kernel_rfl) (by kernel_rfl) ?_
              cases c62
              · replace hc62 := bf hc62
                have hjd : j = fitD N2 e2 := by unfold fitD at hj1 ⊢; omega
                refine vc_condf (by kernel_rfl) ?_
                refine vc_exit ?_
                refine seq_x ?_
                refine loop_x ?_
                refine block_x rfl ?_
                refine seq_n ?_
                refine vc_seq ?_
                refine vc_seqr rfl ?_
                refine vcI_q 2 (by kernel_rfl) ?_
                refine vcI_bin (op := .gtr) (t := 3) (a := .int .i64 x) (b := .int .i64 6111) (dst := (some 74)) (by kernel_rfl) ?_
                intro c74 hc74
                refine vcI_end 77 [(1, .d (.v (.bool more))), (2, .d (.v (.int .i64 m))), (3, .p 3 0), (6, .p 6 0), (7, .d (.v (.bool false))), (8, .d (.v (.int .i64 ((k : Int))))), (17, .d (.v (.bool vb17))), (22, .d (.v (.bool vb22))), (27, .d (.v (.bool vb27))), (36, .d (.v (.bool vb36))), (43, .d (.v (.bool false))), (63, .d (.v (.bool false))), (74, .d (.v (.bool c74)))] [(3, [.v (.bool neg), .sl (nd (n)) (dg (digs (n))), .v (.int .i64 x)]), (6, [.v (.bool false), .sl 0 [], .v (.int .i64 0)])] (by kernel_rfl) (by kernel_rfl) (by kernel_rfl) ?_
                cases c74
                · replace hc74 := bf hc74
                  refine vc_condf (by kernel_rfl) ?_
                  refine vc_skip ?_
                  refine seq_n ?_
                  refine vc_seqr rfl ?_
                  refine vcI_q 3 (by kernel_rfl) ?_
                  refine vcI_end 77 [(1, .d (.v (.bool more))), (2, .d (.v (.int .i64 m))), (3, .p 3 0), (6, .p 6 0), (7, .d (.v (.bool true))), (8, .d (.v (.int .i64 ((k : Int))))), (17, .d (.v (.bool vb17))), (22, .d (.v (.bool vb22))), (27, .d (.v (.bool vb27))), (36, .d (.v (.bool vb36))), (43, .d (.v (.bool false))), (63, .d (.v (.bool false))), (74, .d (.v (.bool false)))] [(3, [.v (.bool neg), .sl (nd (n)) (dg (digs (n))), .v (.int .i64 x)]), (6, [.v (.bool neg), .sl (nd (n)) (dg (digs (n))), .v (.int .i64 x)])] (by kernel_rfl) (by kernel_rfl) (by kernel_rfl) ?_
                  refine vc_ret ?_
                  refine ret_2 (d := .agg [.v (.bool neg), .sl (nd (n)) (dg (digs (n))), .v (.int .i64 x)]) (e := .v (.bool true)) (ds := []) (by kernel_rfl) ?_
                  rw [fitE, if_neg hN20, ← hjd, if_neg (by omega), show max (e2 - (j : Int)) (-6176) = x by unfold fitD at hj1; omega, ← hj2]; rfl
                · replace hc74 := bt hc74
                  refine vc_condt (by kernel_rfl) ?_
                  refine vc_seqr rfl ?_
                  refine vcI_q 3 (by kernel_rfl) ?_
                  refine vcI_end 77 [(1, .d (.v (.bool more))), (2, .d (.v (.int .i64 m))), (3, .p 3 0), (6, .p 6 0), (7, .d (.v (.bool false))), (8, .d (.v (.int .i64 ((k : Int))))), (17, .d (.v (.bool vb17))), (22, .d (.v (.bool vb22))), (27, .d (.v (.bool vb27))), (36, .d (.v (.bool vb36))), (43, .d (.v (.bool false))), (63, .d (.v (.bool false))), (74, .d (.v (.bool true)))] [(3, [.v (.bool neg), .sl (nd (n)) (dg (digs (n))), .v (.int .i64 x)]), (6, [.v (.bool false), .sl 0 [], .v (.int .i64 0)])] (by kernel_rfl) (by kernel_rfl) (by kernel_rfl) ?_
                  refine vc_ret ?_
                  refine seq_r ?_
                  refine ret_2 (d := .agg [.v (.bool false), .sl 0 [], .v (.int .i64 0)]) (e := .v (.bool false)) (ds := []) (by kernel_rfl) ?_
                  rw [fitE, if_neg hN20, ← hjd, if_pos (by omega), dRFit_0]
              · replace hc62 := bt hc62
                refine vc_condt (by kernel_rfl) ?_
                refine vc_skip ?_
                refine seq_n ?_
                refine vc_block ?_
                refine vc_seqr rfl ?_
                refine vcI_q 2 (by kernel_rfl) ?_
                refine vcI_call (f := 36) (ds := [.sl (nd (n)) (dg (digs (n))), .v (.int .i64 1)]) (dst := (some 66)) (by kernel_rfl) (c_Shift (a := n) (n := 1) (by omega) (by omega)) ?_
                rintro _ rfl
                refine vcI_q 2 (by kernel_rfl) ?_
                refine vcI_end 77 [(1, .d (.v (.bool more))), (2, .d (.v (.int .i64 m))), (3, .p 3 0), (6, .p 6 0), (7, .d (.v (.bool false))), (8, .d (.v (.int .i64 ((k : Int))))), (17, .d (.v (.bool vb17))), (22, .d (.v (.bool vb22))), (27, .d (.v (.bool vb27))), (36, .d (.v (.bool vb36))), (43, .d (.v (.bool false))), (63, .d (.v (.bool true)))] [(3, [.v (.bool neg), .sl (nd (n * 10 ^ 1)) (dg (digs (n * 10 ^ 1))), .v (.int .i64 x)]), (6, [.v (.bool false), .sl 0 [], .v (.int .i64 0)])] (by kernel_rfl) (by kernel_rfl) (by kernel_rfl) ?_
                refine vc_reg rfl ?_
                refine vcI_q 2 (by kernel_rfl) ?_
                refine vcI_bin (op := .sub) (t := 3) (a := .int .i64 x) (b := .int .i64 1) (dst := (some 70)) (by kernel_rfl) ?_
                intro z70 hz70
                first | (replace hz70 := hz70.i64 (by omega)) | skip
                refine vcI_q 2 (by kernel_rfl) ?_
                refine vcI_end 77 [(1, .d (.v (.bool more))), (2, .d (.v (.int .i64 m))), (3, .p 3 0), (6, .p 6 0), (7, .d (.v (.bool false))), (8, .d (.v (.int .i64 ((k : Int))))), (17, .d (.v (.bool vb17))), (22, .d (.v (.bool vb22))), (27, .d (.v (.bool vb27))), (36, .d (.v (.bool vb36))), (43, .d (.v (.bool false))), (63, .d (.v (.bool true)))] [(3, [.v (.bool neg), .sl (nd (n * 10 ^ 1)) (dg (digs (n * 10 ^ 1))), .v (.int .i64 z70)]), (6, [.v (.bool false), .sl 0 [], .v (.int .i64 0)])] (by kernel_rfl) (by kernel_rfl) (by kernel_rfl) ?_
                refine block_n ?_
                refine loop_n (j + 1, n * 10 ^ 1, z70) (⟨by unfold fitD at hj1 ⊢; omega, by rw [hj2, Nat.mul_assoc, ← Nat.pow_add], by omega⟩) (by show fitD N2 e2 - (j + 1) < fitD N2 e2 - j; unfold fitD; omega) (by kernel_rfl) (by kernel_rfl)
          · replace hc43 := bt hc43
            have hN20 : N2 = 0 := nd_eq0.1 (by omega)
            refine vc_condt (by kernel_rfl) ?_
            refine vc_seq ?_
            refine vc_seqr rfl ?_
            refine vcI_q 2 (by kernel_rfl) ?_
            refine vcI_bin (op := .lss) (t := 3) (a := .int .i64 e2) (b := .int .i64 (-6176)) (dst := (some 46)) (by kernel_rfl) ?_
            intro c46 hc46
            refine vcI_end 77 [(1, .d (.v (.bool more))), (2, .d (.v (.int .i64 m))), (3, .p 3 0), (6, .p 6 0), (7, .d (.v (.bool false))), (8, .d (.v (.int .i64 ((k : Int))))), (17, .d (.v (.bool vb17))), (22, .d (.v (.bool vb22))), (27, .d (.v (.bool vb27))), (36, .d (.v (.bool vb36))), (43, .d (.v (.bool true))), (46, .d (.v (.bool c46)))] [(3, [.v (.bool neg), .sl (nd (N2)) (dg (digs (N2))), .v (.int .i64 e2)]), (6, [.v (.bool false), .sl 0 [], .v (.int .i64 0)])] (by kernel_rfl) (by kernel_rfl) (by kernel_rfl) ?_
            cases c46
            · replace hc46 := bf hc46
              refine vc_condf (by kernel_rfl) ?_
              refine vc_skip ?_
              refine seq_n ?_
              refine vc_seq ?_
              refine vc_seqr rfl ?_
              refine vcI_q 2 (by kernel_rfl) ?_
              refine vcI_bin (op := .gtr) (t := 3) (a := .int .i64 e2) (b := .int .i64 6111) (dst := (some 50)) (by kernel_rfl) ?_
              intro c50 hc50
              refine vcI_end 77 [(1, .d (.v (.bool more))), (2, .d (.v (.int .i64 m))), (3, .p 3 0), (6, .p 6 0), (7, .d (.v (.bool false))), (8, .d (.v (.int .i64 ((k : Int))))), (17, .d (.v (.bool vb17))), (22, .d (.v (.bool vb22))), (27, .d (.v (.bool vb27))), (36, .d (.v (.bool vb36))), (43, .d (.v (.bool true))), (46, .d (.v (.bool false))), (50, .d (.v (.bool c50)))] [(3, [.v (.bool neg), .sl (nd (N2)) (dg (digs (N2))), .v (.int .i64 e2)]), (6, [.v (.bool false), .sl 0 [], .v (.int .i64 0)])] (by kernel_rfl) (by kernel_rfl) (by kernel_rfl) ?_
              cases c50
              · replace hc50 := bf hc50
                refine vc_condf (by kernel_rfl) ?_
                refine vc_skip ?_
                refine seq_n ?_
                refine vc_seqr rfl ?_
                refine vcI_q 5 (by kernel_rfl) ?_
                refine vcI_end 77 [(1, .d (.v (.bool more))), (2, .d (.v (.int .i64 m))), (3, .p 3 0), (6, .p 6 0), (7, .d (.v (.bool true))), (8, .d (.v (.int .i64 ((k : Int))))), (17, .d (.v (.bool vb17))), (22, .d (.v (.bool vb22))), (27, .d (.v (.bool vb27))), (36, .d (.v (.bool vb36))), (43, .d (.v (.bool true))), (46, .d (.v (.bool false))), (50, .d (.v (.bool false)))] [(3, [.v (.bool neg), .sl (nd (N2)) (dg (digs (N2))), .v (.int .i64 e2)]), (6, [.v (.bool false), .sl 0 [], .v (.int .i64 e2)])] (by kernel_rfl) (by kernel_rfl) (by kernel_rfl) ?_
                refine vc_ret ?_
                refine seq_r ?_
                refine ret_2 (d := .agg [.v (.bool false), .sl 0 [], .v (.int .i64 e2)]) (e := .v (.bool true)) (ds := []) (by kernel_rfl) ?_
                rw [fitE, if_pos hN20, dRFit_0, show max (-6176) (min e2 6111) = e2 by omega]
              · replace hc50 := bt hc50
                refine vc_condt (by kernel_rfl) ?_
                refine vc_reg rfl ?_
                refine vcI_q 2 (by kernel_rfl) ?_
                refine vcI_end 77 [(1, .d (.v (.bool more))), (2, .d (.v (.int .i64 m))), (3, .p 3 0), (6, .p 6 0), (7, .d (.v (.bool false))), (8, .d (.v (.int .i64 ((k : Int))))), (17, .d (.v (.bool vb17))), (22, .d (.v (.bool vb22))), (27, .d (.v (.bool vb27))), (36, .d (.v (.bool vb36))), (43, .d (.v (.bool true))), (46, .d (.v (.bool false))), (50, .d (.v (.bool true)))] [(3, [.v (.bool neg), .sl (nd (N2)) (dg (digs (N2))), .v (.int .i64 6111)]), (6, [.v (.bool false), .sl 0 [], .v (.int .i64 0)])] (by kernel_rfl) (by kernel_rfl) (by kernel_rfl) ?_
                refine seq_n ?_
                refine vc_seqr rfl ?_
                refine vcI_q 5 (by kernel_rfl) ?_
                refine vcI_end 77 [(1, .d (.v (.bool more))), (2, .d (.v (.int .i64 m))), (3, .p 3 0), (6, .p 6 0), (7, .d (.v (.bool true))), (8, .d (.v (.int .i64 ((k : Int))))), (17, .d (.v (.bool vb17))), (22, .d (.v (.bool vb22))), (27, .d (.v (.bool vb27))), (36, .d (.v (.bool vb36))), (43, .d (.v (.bool true))), (46, .d (.v (.bool false))), (50, .d (.v (.bool true)))] [(3, [.v (.bool neg), .sl (nd (N2)) (dg (digs (N2))), .v (.int .i64 6111)]), (6, [.v (.bool false), .sl 0 [], .v (.int .i64 6111)])] (by kernel_rfl) (by kernel_rfl) (by kernel_rfl) ?_
                refine vc_ret ?_
                refine seq_r ?_
                refine ret_2 (d := .agg [.v (.bool false), .sl 0 [], .v (.int .i64 6111)]) (e := .v (.bool true)) (ds := []) (by kernel_rfl) ?_
                rw [fitE, if_pos hN20, dRFit_0, show max (-6176) (min e2 6111) = 6111 by omega]
            · replace hc46 := bt hc46
              exfalso; omega
              skip
        intro hmid
        refine vc_seqr rfl ?_
        refine vcI_q 3 (by kernel_rfl) ?_
        refine vcI_bin (op := .gtr) (t := 3) (a := .int .i64 (((nd (N1) : Nat) : Int))) (b := .int .i64 34) (dst := (some 36)) (by kernel_rfl) ?_
        intro c36 hc36
        refine vcI_end 77 [(1, .d (.v (.bool more))), (2, .d (.v (.int .i64 m))), (3, .p 3 0), (6, .p 6 0), (7, .d (.v (.bool false))), (8, .d (.v (.int .i64 ((k : Int))))), (17, .d (.v (.bool vb17))), (22, .d (.v (.bool vb22))), (27, .d (.v (.bool vb27))), (36, .d (.v (.bool c36)))] [(3, [.v (.bool neg), .sl (nd (N1)) (dg (digs (N1))), .v (.int .i64 e1)]), (6, [.v (.bool false), .sl 0 [], .v (.int .i64 0)])] (by kernel_rfl) (by kernel_rfl) (by kernel_rfl) ?_
        cases c36
        · replace hc36 := bf hc36
          refine vc_condf (by kernel_rfl) ?_
          refine vc_skip ?_
          refine mid_n hmid (N1, e1, false) (by have := E34_nd (n := N1); exact ⟨by rw [fit2N, if_neg (by omega)], by rw [fit2E, if_neg (by omega)]⟩) (by kernel_rfl)
        · replace hc36 := bt hc36
          refine vc_condt (by kernel_rfl) ?_
          refine vc_reg rfl ?_
          refine vcI_q 2 (by kernel_rfl) ?_
          refine vcI_call (f := 54) (ds := [.agg [.v (.bool neg), .sl (nd (N1)) (dg (digs (N1))), .v (.int .i64 e1)], .v (.bool false), .v (.int .i64 1), .v (.int .i64 m)]) (dst := (some 39)) (by kernel_rfl) (c_rCut (n := 1) (by omega) (by omega) (by omega) (by omega)) ?_
          rintro _ rfl
          refine vcI_q 1 (by kernel_rfl) ?_
          refine vcI_end 77 [(1, .d (.v (.bool more))), (2, .d (.v (.int .i64 m))), (3, .p 3 0), (6, .p 6 0), (7, .d (.v (.bool false))), (8, .d (.v (.int .i64 ((k : Int))))), (17, .d (.v (.bool vb17))), (22, .d (.v (.bool vb22))), (27, .d (.v (.bool vb27))), (36, .d (.v (.bool true)))] [(3, [.v (.bool neg), .sl (nd (cutQ m neg N1 false 1)) (dg (digs (cutQ m neg N1 false 1))), .v (.int .i64 (e1 + ((1 : Nat) : Int)))]), (6, [.v (.bool false), .sl 0 [], .v (.int .i64 0)])] (by kernel_rfl) (by kernel_rfl) (by kernel_rfl) ?_
          refine mid_n hmid (cutQ m neg N1 false 1, e1 + ((1 : Nat) : Int), true) (by have := E34_nd (n := N1); exact ⟨by rw [fit2N, if_pos (by omega)], by rw [fit2E, if_pos (by omega)]; rfl⟩) (by kernel_rfl)
      intro hmid
      refine vc_seqr rfl ?_
      refine vcI_q 1 (by kernel_rfl) ?_
      refine vcI_bin (op := .gtr) (t := 3) (a := .int .i64 ((k : Int))) (b := .int .i64 0) (dst := (some 24)) (by kernel_rfl) ?_
      intro c24 hc24
      refine vcI_q 1 (by kernel_rfl) ?_
      cases c24
      · replace hc24 := bf hc24
        refine vcI_q 2 (by kernel_rfl) ?_
        refine vcI_end 77 [(1, .d (.v (.bool more))), (2, .d (.v (.int .i64 m))), (3, .p 3 0), (6, .p 6 0), (7, .d (.v (.bool false))), (8, .d (.v (.int .i64 ((k : Int))))), (17, .d (.v (.bool vb17))), (22, .d (.v (.bool vb22))), (27, .d (.v (.bool more)))] [(3, [.v (.bool neg), .sl (nd (N)) (dg (digs (N))), .v (.int .i64 e)]), (6, [.v (.bool false), .sl 0 [], .v (.int .i64 0)])] (by kernel_rfl) (by kernel_rfl) (by kernel_rfl) ?_
        cases more
        · skip
          refine vc_condf (by kernel_rfl) ?_
          refine vc_skip ?_
          refine mid_n hmid (N, e, false) (by have : k = 0 := (by omega); exact ⟨by rw [this, cutQ_0], by omega⟩) (by kernel_rfl)
        · skip
          refine vc_condt (by kernel_rfl) ?_
          refine vc_reg rfl ?_
          refine vcI_q 4 (by kernel_rfl) ?_
          refine vcI_call (f := 54) (ds := [.agg [.v (.bool neg), .sl (nd (N)) (dg (digs (N))), .v (.int .i64 e)], .v (.bool true), .v (.int .i64 ((k : Int))), .v (.int .i64 m)]) (dst := (some 32)) (by kernel_rfl) (c_rCut (n := k) (by omega) (by omega) (by omega) (by omega)) ?_
          rintro _ rfl
          refine vcI_q 1 (by kernel_rfl) ?_
          refine vcI_end 77 [(1, .d (.v (.bool true))), (2, .d (.v (.int .i64 m))), (3, .p 3 0), (6, .p 6 0), (7, .d (.v (.bool false))), (8, .d (.v (.int .i64 ((k : Int))))), (17, .d (.v (.bool vb17))), (22, .d (.v (.bool vb22))), (27, .d (.v (.bool true)))] [(3, [.v (.bool neg), .sl (nd (cutQ m neg N true k)) (dg (digs (cutQ m neg N true k))), .v (.int .i64 (e + (k : Int)))]), (6, [.v (.bool false), .sl 0 [], .v (.int .i64 0)])] (by kernel_rfl) (by kernel_rfl) (by kernel_rfl) ?_
          refine mid_n hmid (cutQ m neg N true k, e + (k : Int), true) (⟨rfl, rfl⟩) (by kernel_rfl)
      · replace hc24 := bt hc24
        refine vcI_q 2 (by kernel_rfl) ?_
        refine vcI_end 77 [(1, .d (.v (.bool more))), (2, .d (.v (.int .i64 m))), (3, .p 3 0), (6, .p 6 0), (7, .d (.v (.bool false))), (8, .d (.v (.int .i64 ((k : Int))))), (17, .d (.v (.bool vb17))), (22, .d (.v (.bool vb22))), (27, .d (.v (.bool true)))] [(3, [.v (.bool neg), .sl (nd (N)) (dg (digs (N))), .v (.int .i64 e)]), (6, [.v (.bool false), .sl 0 [], .v (.int .i64 0)])] (by kernel_rfl) (by kernel_rfl) (by kernel_rfl) ?_
        refine vc_condt (by kernel_rfl) ?_
        refine vc_reg rfl ?_
        refine vcI_q 4 (by kernel_rfl) ?_
        refine vcI_call (f := 54) (ds := [.agg [.v (.bool neg), .sl (nd (N)) (dg (digs (N))), .v (.int .i64 e)], .v (.bool more), .v (.int .i64 ((k : Int))), .v (.int .i64 m)]) (dst := (some 32)) (by kernel_rfl) (c_rCut (n := k) (by omega) (by omega) (by omega) (by omega)) ?_
        rintro _ rfl
        refine vcI_q 1 (by kernel_rfl) ?_
        refine vcI_end 77 [(1, .d (.v (.bool more))), (2, .d (.v (.int .i64 m))), (3, .p 3 0), (6, .p 6 0), (7, .d (.v (.bool false))), (8, .d (.v (.int .i64 ((k : Int))))), (17, .d (.v (.bool vb17))), (22, .d (.v (.bool vb22))), (27, .d (.v (.bool true)))] [(3, [.v (.bool neg), .sl (nd (cutQ m neg N more k)) (dg (digs (cutQ m neg N more k))), .v (.int .i64 (e + (k : Int)))]), (6, [.v (.bool false), .sl 0 [], .v (.int .i64 0)])] (by kernel_rfl) (by kernel_rfl) (by kernel_rfl) ?_
        refine mid_n hmid (cutQ m neg N more k, e + (k : Int), true) (⟨rfl, rfl⟩) (by kernel_rfl)
    intro hmid
    refine vc_seqr rfl ?_
    refine vcI_q 1 (by kernel_rfl) ?_
    refine vcI_bin (op := .lss) (t := 3) (a := .int .i64 n1) (b := .int .i64 0) (dst := (some 22)) (by kernel_rfl) ?_
    intro c22 hc22
    refine vcI_end 77 [(1, .d (.v (.bool more))), (2, .d (.v (.int .i64 m))), (3, .p 3 0), (6, .p 6 0), (7, .d (.v (.bool false))), (8, .d (.v (.int .i64 n1))), (17, .d (.v (.bool vb17))), (22, .d (.v (.bool c22)))] [(3, [.v (.bool neg), .sl (nd (N)) (dg (digs (N))), .v (.int .i64 e)]), (6, [.v (.bool false), .sl 0 [], .v (.int .i64 0)])] (by kernel_rfl) (by kernel_rfl) (by kernel_rfl) ?_
    cases c22
    · replace hc22 := bf hc22
      obtain ⟨kk, hkk⟩ : ∃ kk : Nat, n1 = (kk : Int) := ⟨n1.toNat, by omega⟩
      refine vc_condf (by kernel_rfl) ?_
      refine vc_skip ?_
      subst hkk
      refine mid_n hmid (kk, false) (by unfold fitKU; omega) (by kernel_rfl)
    · replace hc22 := bt hc22
      refine vc_condt (by kernel_rfl) ?_
      refine vc_reg rfl ?_
      refine vcI_q 1 (by kernel_rfl) ?_
      refine vcI_end 77 [(1, .d (.v (.bool more))), (2, .d (.v (.int .i64 m))), (3, .p 3 0), (6, .p 6 0), (7, .d (.v (.bool false))), (8, .d (.v (.int .i64 0))), (17, .d (.v (.bool vb17))), (22, .d (.v (.bool true)))] [(3, [.v (.bool neg), .sl (nd (N)) (dg (digs (N))), .v (.int .i64 e)]), (6, [.v (.bool false), .sl 0 [], .v (.int .i64 0)])] (by kernel_rfl) (by kernel_rfl) (by kernel_rfl) ?_
      refine mid_n hmid (0, true) (by unfold fitKU; omega) (by kernel_rfl)
  intro hmid
  refine vc_seqr rfl ?_
  refine vcI_q 3 (by kernel_rfl) ?_
  refine vcI_bin (op := .sub) (t := 3) (a := .int .i64 (-6176)) (b := .int .i64 e) (dst := (some 16)) (by kernel_rfl) ?_
  intro z16 hz16
  first | (replace hz16 := hz16.i64 (by omega)) | skip
  refine vcI_bin (op := .lss) (t := 3) (a := .int .i64 z12) (b := .int .i64 z16) (dst := (some 17)) (by kernel_rfl) ?_
  intro c17 hc17
  refine vcI_end 77 [(1, .d (.v (.bool more))), (2, .d (.v (.int .i64 m))), (3, .p 3 0), (6, .p 6 0), (7, .d (.v (.bool false))), (8, .d (.v (.int .i64 z12))), (17, .d (.v (.bool c17)))] [(3, [.v (.bool neg), .sl (nd (N)) (dg (digs (N))), .v (.int .i64 e)]), (6, [.v (.bool false), .sl 0 [], .v (.int .i64 0)])] (by kernel_rfl) (by kernel_rfl) (by kernel_rfl) ?_
  cases c17
  · replace hc17 := bf hc17
    refine vc_condf (by kernel_rfl) ?_
    refine vc_skip ?_
    refine mid_n hmid (z12, false) (by omega) (by kernel_rfl)
  · replace hc17 := bt hc17
    refine vc_condt (by kernel_rfl) ?_
    refine vc_reg rfl ?_
    refine vcI_q 2 (by kernel_rfl) ?_
    refine vcI_bin (op := .sub) (t := 3) (a := .int .i64 (-6176)) (b := .int .i64 e) (dst := (some 20)) (by kernel_rfl) ?_
    intro z20 hz20
    first | (replace hz20 := hz20.i64 (by omega)) | skip
    refine vcI_q 1 (by kernel_rfl) ?_
    refine vcI_end 77 [(1, .d (.v (.bool more))), (2, .d (.v (.int .i64 m))), (3, .p 3 0), (6, .p 6 0), (7, .d (.v (.bool false))), (8, .d (.v (.int .i64 z20))), (17, .d (.v (.bool true)))] [(3, [.v (.bool neg), .sl (nd (N)) (dg (digs (N))), .v (.int .i64 e)]), (6, [.v (.bool false), .sl 0 [], .v (.int .i64 0)])] (by kernel_rfl) (by kernel_rfl) (by kernel_rfl) ?_
    refine mid_n hmid (z20, true) (by omega) (by kernel_rfl)

theorem rfit_ex {P : Program} {f : FuncId} {ds : List DV} {t : T4} (h : HasC P f ds (fun y => y = dRFit t)) : HasC P f ds (fun y => ∃ g k x ok, y = .tup [dRD g k x, .v (.bool ok)] ∧ t = (g, k, x, ok)) :=
  h.mono fun y hy => ⟨_, _, _, _, hy, rfl⟩
theorem dfit_ex {P : Program} {f : FuncId} {ds : List DV} {t : T4} (h : HasC P f ds (fun y => y = dFit t)) : HasC P f ds (fun y => ∃ g k x ok, y = .tup [dDec g k x, .v (.bool ok)] ∧ t = (g, k, x, ok)) :=
  h.mono fun y hy => ⟨_, _, _, _, hy, rfl⟩
theorem c_rFit0 {m e : Int} (he0 : -70000 ≤ e) (he1 : e ≤ 1000000000000) : HasC Try.prog 34 [.agg [.v (.bool false), .sl 0 [], .v (.int .i64 e)], .v (.bool false), .v (.int .i64 m)] (fun y => y = dRFit (fitU m false 0 e false)) := by
  rw [← dRD_0]
  exact c_rFit (by rw [nd_zero]; omega) he0 he1

theorem mulT_U {t u : T4} (h1 : t.2.1 < E34) (h2 : u.2.1 < E34) : mulT t u = fitU 1 (t.1 != u.1) (t.2.1 * u.2.1) (t.2.2.1 + u.2.2.1) false :=
  fitT_U _ _ _ _ (by have := nd_mul t.2.1 u.2.1; have := nd_le 34 _ h1; have := nd_le 34 _ h2; omega)

theorem c_rMul {g1 g2 : Bool} {a b : Nat} {x1 x2 : Int} (ha : nd a ≤ 30000) (hb : nd b ≤ 30000) (h1 : -30000 ≤ x1) (h2 : x1 ≤ 100000000000) (h3 : -30000 ≤ x2) (h4 : x2 ≤ 100000000000) : HasC Try.prog 40 [.agg [.v (.bool g1), .sl (nd (a)) (dg (digs (a))), .v (.int .i64 x1)], .agg [.v (.bool g2), .sl (nd (b)) (dg (digs (b))), .v (.int .i64 x2)]] (fun y => y = dRFit (fitU 1 (g1 != g2) (a * b) (x1 + x2) false)) := by
  refine HasC.of [] (fn := Try.f40) tyOk mixed (fun args w => Try.call40 args w) Try.func40 rfl (by kernel_rfl) (Nat.le_of_ble_eq_true rfl) (⟨_, rfl⟩) ?_
  refine vc_seqr rfl ?_
  refine vcI_q 4 (by kernel_rfl) ?_
  refine vcI_end 25 [(2, .p 2 0), (3, .p 3 0), (4, .p 4 0), (5, .d (.v (.bool false)))] [(2, [.v (.bool g1), .sl (nd (a)) (dg (digs (a))), .v (.int .i64 x1)]), (3, [.v (.bool g2), .sl (nd (b)) (dg (digs (b))), .v (.int .i64 x2)]), (4, [.v (.bool false), .sl 0 [], .v (.int .i64 0)])] (by kernel_rfl) (by kernel_rfl) (by kernel_rfl) ?_
  refine vc_seqr rfl ?_
  refine vcI_q 4 (by kernel_rfl) ?_
  refine vcI_bin (op := .neq) (t := 4) (a := .bool g1) (b := .bool g2) (dst := (some 10)) (by kernel_rfl) ?_
  intro c10 hc10
  refine vcI_q 4 (by kernel_rfl) ?_
  refine vcI_call (f := 43) (ds := [.sl (nd (a)) (dg (digs (a))), .sl (nd (b)) (dg (digs (b)))]) (dst := (some 15)) (by kernel_rfl) (c_Mul (a := a) (b := b) (by omega) (by omega)) ?_
  rintro _ rfl
  refine vcI_q 4 (by kernel_rfl) ?_
  refine vcI_bin (op := .add) (t := 3) (a := .int .i64 x1) (b := .int .i64 x2) (dst := (some 20)) (by kernel_rfl) ?_
  intro z20 hz20
  first | (replace hz20 := hz20.i64 (by omega)) | skip
  refine vcI_q 1 (by kernel_rfl) ?_
  refine vcI_call (f := 34) (ds := [.agg [.v (.bool c10), .sl (nd (a * b)) (dg (digs (a * b))), .v (.int .i64 z20)], .v (.bool false), .v (.int .i64 1)]) (dst := (some 22)) (by kernel_rfl) (rfit_ex (c_rFit (m := 1) (neg := c10) (more := false) (N := a * b) (e := z20) (by have := nd_mul a b; omega) (by omega) (by omega))) ?_
  rintro _ ⟨g, k, x, ok, rfl, hT⟩
  refine vcI_q 4 (by kernel_rfl) ?_
  refine vcI_end 25 [(4, .p 4 0), (5, .d (.v (.bool ok)))] [(4, [.v (.bool g), .sl (nd (k)) (dg (digs (k))), .v (.int .i64 x)])] (by kernel_rfl) (by kernel_rfl) (by kernel_rfl) ?_
  refine vc_ret ?_
  refine ret_2 (d := .agg [.v (.bool g), .sl (nd (k)) (dg (digs (k))), .v (.int .i64 x)]) (e := .v (.bool ok)) (ds := []) (by kernel_rfl) ?_
  rw [bne_of hc10, ← hz20, hT]; rfl

end Go.Proofs.Ytdlfgliokkgceaa
