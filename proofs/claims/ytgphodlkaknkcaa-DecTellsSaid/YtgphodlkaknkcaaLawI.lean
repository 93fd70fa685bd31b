/-
  The law of dec: which numbers there may be, their signs, which are an int's.
-/
import Derived.Test.YtgphodlkaknkcaaLawH
namespace Go.Proofs.Ytgphodlkaknkcaa
open Go.RowKit
set_option linter.unusedVariables false
set_option linter.unusedSimpArgs false
set_option maxRecDepth 100000

theorem cmp_int {s t : Bool} {A B : Nat} {e v : Int} (h : isW s A e v) : cmpZ s A e t B 0 = cmpI v (sgnV t B) := by
  unfold cmpZ
  unfold isW at h
  rw [h]
  unfold V
  rw [sgnV_mul]
  exact cmpI_mul (Nat.pow_pos (by decide))
theorem isW_of_mod {s : Bool} {A : Nat} {e : Int} (h : A % 10 ^ (-e).toNat = 0) : ∃ v, isW s A e v := by
  have hd := Nat.div_add_mod A (10 ^ (-e).toNat)
  rw [h, Nat.add_zero, Nat.mul_comm] at hd
  exact ⟨_, isW_val (p := A / 10 ^ (-e).toNat) (i := e.toNat) (j := (-e).toNat) hd.symm (by omega)⟩
theorem mod_of_isW {s : Bool} {A : Nat} {e v : Int} (h : isW s A e v) : A % 10 ^ (-e).toNat = 0 := by
  by_cases he : e ≤ 0
  · rw [isW_div h he]
    exact Nat.mul_mod_left _ _
  · rw [show (-e).toNat = 0 by omega]
    exact Nat.mod_one _
theorem int_lo {s : Bool} {A : Nat} {e : Int} (h : cmpZ s A e true (2 ^ 63) 0 < 0) : ¬ ∃ v, isW s A e v ∧ inI v := by
  rintro ⟨v, h1, h2⟩
  rw [cmp_int h1, cmpI_lt] at h
  have e1 : sgnV true (2 ^ 63) = -9223372036854775808 := by decide
  rw [e1] at h
  exact absurd h2.1 (by omega)
theorem int_hi {s : Bool} {A : Nat} {e : Int} (h : 0 ≤ cmpZ s A e false (2 ^ 63) 0) : ¬ ∃ v, isW s A e v ∧ inI v := by
  rintro ⟨v, h1, h2⟩
  rw [cmp_int h1, cmpI_ge] at h
  have e1 : sgnV false (2 ^ 63) = 9223372036854775808 := by decide
  rw [e1] at h
  exact absurd h2.2 (by omega)
theorem int_yes {s : Bool} {A : Nat} {e : Int} (h1 : ¬ cmpZ s A e true (2 ^ 63) 0 < 0) (h2 : ¬ 0 ≤ cmpZ s A e false (2 ^ 63) 0) (h : A % 10 ^ (-e).toNat = 0) : ∃ v, isW s A e v ∧ inI v := by
  obtain ⟨v, hv⟩ := isW_of_mod (s := s) h
  rw [cmp_int hv, cmpI_lt] at h1
  rw [cmp_int hv, cmpI_ge] at h2
  have e1 : sgnV true (2 ^ 63) = -9223372036854775808 := by decide
  have e2 : sgnV false (2 ^ 63) = 9223372036854775808 := by decide
  rw [e1] at h1
  rw [e2] at h2
  exact ⟨v, hv, by omega, by omega⟩
theorem int_dig {s : Bool} {A k : Nat} {e : Int} (hk : (k : Int) < -e) (hd : dig A k ≠ 0) : ¬ ∃ v, isW s A e v ∧ inI v := by
  rintro ⟨v, h1, _⟩
  have h2 := mod_of_isW h1
  have h3 : A % 10 ^ (k + 1) = 0 := by
    obtain ⟨c, hc⟩ := Nat.dvd_of_mod_eq_zero h2
    refine Nat.mod_eq_zero_of_dvd (Nat.dvd_trans (Nat.pow_dvd_pow 10 (show k + 1 ≤ (-e).toNat by omega)) ⟨c, hc⟩)
  rw [mod_step] at h3
  rcases Nat.mul_eq_zero.1 (show 10 ^ k * dig A k = 0 by omega) with h4 | h4
  · exact absurd h4 (Nat.pos_iff_ne_zero.1 (Nat.pow_pos (by decide)))
  · exact hd h4
theorem mod_next {A k : Nat} (h : A % 10 ^ k = 0) (hd : dig A k = 0) : A % 10 ^ (k + 1) = 0 := by
  rw [mod_step, h, hd, Nat.mul_zero]
theorem mod_all {A k : Nat} (h : A % 10 ^ k = 0) (hk : nd A ≤ k) : A = 0 := by
  rw [Nat.mod_eq_of_lt (Nat.lt_of_lt_of_le (lt_nd A) (Nat.pow_le_pow_right (by decide) hk))] at h
  exact h
theorem nd_over {A j : Nat} (h : A % 10 ^ j = 0) (hA : A ≠ 0) : j < nd A := by
  refine nd_gt ?_
  rcases Nat.lt_or_ge A (10 ^ j) with k | k
  · rw [Nat.mod_eq_of_lt k] at h
    exact absurd h hA
  · exact k
theorem nd63 : nd (2 ^ 63) ≤ 100 := by
  have := nd_two 63
  omega
theorem c_Power63 : HasC Try.prog 56 [.v (.int .i64 63)] (fun y => y = .sl (nd (2 ^ 63)) (dg (digs (2 ^ 63)))) := c_Power (n := 63) (by decide)

set_option maxHeartbeats 1600000 in
theorem c_integral {g : Bool} {A : Nat} {e : Int} (hA : nd A ≤ 100) (h1 : -14000 ≤ e) (h2 : e ≤ 14000) : HasC Try.prog 29 [.agg [.v (.bool g), .sl (nd (A)) (dg (digs (A))), .v (.int .i64 e)]] (fun y => ∃ b, y = .v (.bool b) ∧ (b = true ↔ ∃ v, isW g A e v ∧ inI v)) := by
  refine HasC.of [] (fn := Try.f29) tyOk mixed (fun args w => Try.call29 args w) Try.func29 rfl (by kernel_rfl) (Nat.le_of_ble_eq_true rfl) (⟨_, @decide (∃ v, isW g A e v ∧ inI v) (Classical.propDecidable _), rfl, by simp⟩) ?_
  refine vc_seqr rfl ?_
  refine vcI_q 2 (by kernel_rfl) ?_
  refine vcI_end 53 [(1, .p 1 0), (2, Ba false)] [(1, [Bv g, .sl (nd (A)) (dg (digs (A))), Iv e])] (by kernel_rfl) (by kernel_rfl) (by kernel_rfl) ?_
  refine vc_seqr rfl ?_
  refine vcI_call (f := 56) (ds := [.v (.int .i64 63)]) (dst := (some 6)) (by kernel_rfl) (c_Power63) ?_
  rintro _ rfl
  refine vcI_q 3 (by kernel_rfl) ?_
  refine vcI_end 53 [(1, .p 1 0), (2, Ba false), (3, .p 3 0)] [(1, [Bv g, .sl (nd (A)) (dg (digs (A))), Iv e]), (3, [Bv true, .sl (nd (2 ^ 63)) (dg (digs (2 ^ 63))), Iv 0])] (by kernel_rfl) (by kernel_rfl) (by kernel_rfl) ?_
  refine vc_seqr rfl ?_
  refine vcI_call (f := 56) (ds := [.v (.int .i64 63)]) (dst := (some 8)) (by kernel_rfl) (c_Power63) ?_
  rintro _ rfl
  refine vcI_q 3 (by kernel_rfl) ?_
  refine vcI_end 53 [(1, .p 1 0), (2, Ba false), (3, .p 3 0), (4, .p 4 0)] [(1, [Bv g, .sl (nd (A)) (dg (digs (A))), Iv e]), (3, [Bv true, .sl (nd (2 ^ 63)) (dg (digs (2 ^ 63))), Iv 0]), (4, [Bv false, .sl (nd (2 ^ 63)) (dg (digs (2 ^ 63))), Iv 0])] (by kernel_rfl) (by kernel_rfl) (by kernel_rfl) ?_
  refine vc_seq ?_
  refine vc_seqr rfl ?_
  refine vcI_q 2 (by kernel_rfl) ?_
  refine vcI_call (f := 19) (ds := [.agg [.v (.bool g), .sl (nd (A)) (dg (digs (A))), .v (.int .i64 e)], .agg [.v (.bool true), .sl (nd (2 ^ 63)) (dg (digs (2 ^ 63))), .v (.int .i64 0)]]) (dst := (some 12)) (by kernel_rfl) (c_rCmp hA nd63 h1 h2 (by decide) (by decide)) ?_
  rintro _ rfl
  refine vcI_bin (op := .lss) (t := 3) (a := .int .i64 (cmpZ g A e true (2 ^ 63) 0)) (b := .int .i64 0) (dst := (some 13)) (by kernel_rfl) ?_
  intro c13 hc13
  refine vcI_q 1 (by kernel_rfl) ?_
  cases c13
  · replace hc13 := bf hc13
    refine vcI_q 2 (by kernel_rfl) ?_
    refine vcI_call (f := 19) (ds := [.agg [.v (.bool g), .sl (nd (A)) (dg (digs (A))), .v (.int .i64 e)], .agg [.v (.bool false), .sl (nd (2 ^ 63)) (dg (digs (2 ^ 63))), .v (.int .i64 0)]]) (dst := (some 17)) (by kernel_rfl) (c_rCmp hA nd63 h1 h2 (by decide) (by decide)) ?_
    rintro _ rfl
    refine vcI_bin (op := .geq) (t := 3) (a := .int .i64 (cmpZ g A e false (2 ^ 63) 0)) (b := .int .i64 0) (dst := (some 18)) (by kernel_rfl) ?_
    intro c18 hc18
    refine vcI_q 1 (by kernel_rfl) ?_
    refine vcI_end 53 [(1, .p 1 0), (2, Ba false), (3, .p 3 0), (4, .p 4 0), (19, Ba c18)] [(1, [Bv g, .sl (nd (A)) (dg (digs (A))), Iv e]), (3, [Bv true, .sl (nd (2 ^ 63)) (dg (digs (2 ^ 63))), Iv 0]), (4, [Bv false, .sl (nd (2 ^ 63)) (dg (digs (2 ^ 63))), Iv 0])] (by kernel_rfl) (by kernel_rfl) (by kernel_rfl) ?_
    cases c18
    · replace hc18 := bf hc18
      refine vc_condf (by kernel_rfl) ?_
      refine vc_skip ?_
      refine seq_n ?_
      refine vc_seq ?_
      refine vc_seqr rfl ?_
      refine vcI_q 1 (by kernel_rfl) ?_
      refine vcI_end 53 [(1, .p 1 0), (2, Ba false), (3, .p 3 0), (4, .p 4 0), (5, Ia 0), (19, Ba false)] [(1, [Bv g, .sl (nd (A)) (dg (digs (A))), Iv e]), (3, [Bv true, .sl (nd (2 ^ 63)) (dg (digs (2 ^ 63))), Iv 0]), (4, [Bv false, .sl (nd (2 ^ 63)) (dg (digs (2 ^ 63))), Iv 0])] (by kernel_rfl) (by kernel_rfl) (by kernel_rfl) ?_
      refine vc_block ?_
      refine vc_loop 53 (fun (vcx : Nat) => match vcx with | k => [(1, .p 1 0), (2, Ba false), (3, .p 3 0), (4, .p 4 0), (5, Ia ((k : Int))), (19, Ba false)]) (fun (vcx : Nat) => match vcx with | k => [(1, [Bv g, .sl (nd (A)) (dg (digs (A))), Iv e]), (3, [Bv true, .sl (nd (2 ^ 63)) (dg (digs (2 ^ 63))), Iv 0]), (4, [Bv false, .sl (nd (2 ^ 63)) (dg (digs (2 ^ 63))), Iv 0])]) (fun (vcx : Nat) => match vcx with | k => (k : Int) ≤ max 0 (-e) ∧ A % 10 ^ k = 0) (fun (vcx : Nat) => match vcx with | k => nd A - k) 0 (⟨by omega, by simp [Nat.mod_one]⟩) (by kernel_rfl) (by kernel_rfl) ?_
      rintro k hinv
      simp only at hinv
      obtain ⟨hk, hmod⟩ := hinv
      refine vc_seq ?_
      refine vc_seqr rfl ?_
      refine vcI_q 3 (by kernel_rfl) ?_
      refine vcI_un (op := .neg) (a := .int .i64 e) (dst := (some 23)) (by kernel_rfl) ?_
      intro z23 hz23
      first | (replace hz23 := hz23.i64 (by omega)) | skip
      refine vcI_bin (op := .lss) (t := 3) (a := .int .i64 ((k : Int))) (b := .int .i64 z23) (dst := (some 24)) (by kernel_rfl) ?_
      intro c24 hc24
      refine vcI_q 1 (by kernel_rfl) ?_
      cases c24
      · replace hc24 := bf hc24
        refine vcI_q 6 (by kernel_rfl) ?_
        refine vcI_end 53 [(1, .p 1 0), (2, Ba false), (3, .p 3 0), (4, .p 4 0), (5, Ia ((k : Int))), (19, Ba false), (31, Ba false)] [(1, [Bv g, .sl (nd (A)) (dg (digs (A))), Iv e]), (3, [Bv true, .sl (nd (2 ^ 63)) (dg (digs (2 ^ 63))), Iv 0]), (4, [Bv false, .sl (nd (2 ^ 63)) (dg (digs (2 ^ 63))), Iv 0])] (by kernel_rfl) (by kernel_rfl) (by kernel_rfl) ?_
        have hm : A % 10 ^ (-e).toNat = 0 := by rw [show (-e).toNat = k by omega]; exact hmod
        refine vc_condf (by kernel_rfl) ?_
        refine vc_exit ?_
        refine seq_x ?_
        refine loop_x ?_
        refine block_x rfl ?_
        refine seq_n ?_
        refine vc_seqr rfl ?_
        refine vcI_q 2 (by kernel_rfl) ?_
        refine vcI_un (op := .neg) (a := .int .i64 e) (dst := (some 42)) (by kernel_rfl) ?_
        intro z42 hz42
        first | (replace hz42 := hz42.i64 (by omega)) | skip
        refine vcI_q 3 (by kernel_rfl) ?_
        refine vcI_bin (op := .lss) (t := 3) (a := .int .i64 z42) (b := .int .i64 (((nd (A) : Nat) : Int))) (dst := (some 46)) (by kernel_rfl) ?_
        intro c46 hc46
        refine vcI_q 1 (by kernel_rfl) ?_
        cases c46
        · replace hc46 := bf hc46
          refine vcI_q 3 (by kernel_rfl) ?_
          refine vcI_bin (op := .eql) (t := 3) (a := .int .i64 (((nd (A) : Nat) : Int))) (b := .int .i64 0) (dst := (some 51)) (by kernel_rfl) ?_
          have hA0 : A = 0 := Decidable.not_not.1 fun k => by have := nd_over hm k; omega
          intro c51 hc51
          refine vcI_q 2 (by kernel_rfl) ?_
          refine vcI_end 53 [(1, .p 1 0), (2, Ba c51), (3, .p 3 0), (4, .p 4 0), (5, Ia ((k : Int))), (19, Ba false), (31, Ba false)] [(1, [Bv g, .sl (nd (A)) (dg (digs (A))), Iv e]), (3, [Bv true, .sl (nd (2 ^ 63)) (dg (digs (2 ^ 63))), Iv 0]), (4, [Bv false, .sl (nd (2 ^ 63)) (dg (digs (2 ^ 63))), Iv 0])] (by kernel_rfl) (by kernel_rfl) (by kernel_rfl) ?_
          refine vc_ret ?_
          refine ret_1 (d := .v (.bool c51)) (by kernel_rfl) ?_
          exact ⟨_, rfl, by rw [hc51]; exact ⟨fun _ => int_yes hc13 hc18 hm, fun _ => by rw [hA0, nd_zero]; rfl⟩⟩
        · replace hc46 := bt hc46
          refine vcI_q 6 (by kernel_rfl) ?_
          refine vcI_end 53 [(1, .p 1 0), (2, Ba true), (3, .p 3 0), (4, .p 4 0), (5, Ia ((k : Int))), (19, Ba false), (31, Ba false)] [(1, [Bv g, .sl (nd (A)) (dg (digs (A))), Iv e]), (3, [Bv true, .sl (nd (2 ^ 63)) (dg (digs (2 ^ 63))), Iv 0]), (4, [Bv false, .sl (nd (2 ^ 63)) (dg (digs (2 ^ 63))), Iv 0])] (by kernel_rfl) (by kernel_rfl) (by kernel_rfl) ?_
          refine vc_ret ?_
          refine ret_1 (d := .v (.bool true)) (by kernel_rfl) ?_
          exact ⟨_, rfl, ⟨fun _ => int_yes hc13 hc18 hm, fun _ => rfl⟩⟩
      · replace hc24 := bt hc24
        refine vcI_q 4 (by kernel_rfl) ?_
        refine vcI_bin (op := .lss) (t := 3) (a := .int .i64 ((k : Int))) (b := .int .i64 (((nd (A) : Nat) : Int))) (dst := (some 30)) (by kernel_rfl) ?_
        intro c30 hc30
        refine vcI_q 1 (by kernel_rfl) ?_
        refine vcI_end 53 [(1, .p 1 0), (2, Ba false), (3, .p 3 0), (4, .p 4 0), (5, Ia ((k : Int))), (19, Ba false), (31, Ba c30)] [(1, [Bv g, .sl (nd (A)) (dg (digs (A))), Iv e]), (3, [Bv true, .sl (nd (2 ^ 63)) (dg (digs (2 ^ 63))), Iv 0]), (4, [Bv false, .sl (nd (2 ^ 63)) (dg (digs (2 ^ 63))), Iv 0])] (by kernel_rfl) (by kernel_rfl) (by kernel_rfl) ?_
        cases c30
        · replace hc30 := bf hc30
          have hm : A % 10 ^ (-e).toNat = 0 := by rw [mod_all hmod (by omega)]; exact Nat.zero_mod _
          refine vc_condf (by kernel_rfl) ?_
          refine vc_exit ?_
          refine seq_x ?_
          refine loop_x ?_
          refine block_x rfl ?_
          refine seq_n ?_
          refine vc_seqr rfl ?_
          refine vcI_q 2 (by kernel_rfl) ?_
          refine vcI_un (op := .neg) (a := .int .i64 e) (dst := (some 42)) (by kernel_rfl) ?_
          intro z42 hz42
          first | (replace hz42 := hz42.i64 (by omega)) | skip
          refine vcI_q 3 (by kernel_rfl) ?_
          refine vcI_bin (op := .lss) (t := 3) (a := .int .i64 z42) (b := .int .i64 (((nd (A) : Nat) : Int))) (dst := (some 46)) (by kernel_rfl) ?_
          intro c46 hc46
          refine vcI_q 1 (by kernel_rfl) ?_
          cases c46
          · replace hc46 := bf hc46
            refine vcI_q 3 (by kernel_rfl) ?_
            refine vcI_bin (op := .eql) (t := 3) (a := .int .i64 (((nd (A) : Nat) : Int))) (b := .int .i64 0) (dst := (some 51)) (by kernel_rfl) ?_
            have hA0 : A = 0 := Decidable.not_not.1 fun k => by have := nd_over hm k; omega
            intro c51 hc51
            refine vcI_q 2 (by kernel_rfl) ?_
            refine vcI_end 53 [(1, .p 1 0), (2, Ba c51), (3, .p 3 0), (4, .p 4 0), (5, Ia ((k : Int))), (19, Ba false), (31, Ba false)] [(1, [Bv g, .sl (nd (A)) (dg (digs (A))), Iv e]), (3, [Bv true, .sl (nd (2 ^ 63)) (dg (digs (2 ^ 63))), Iv 0]), (4, [Bv false, .sl (nd (2 ^ 63)) (dg (digs (2 ^ 63))), Iv 0])] (by kernel_rfl) (by kernel_rfl) (by kernel_rfl) ?_
            refine vc_ret ?_
            refine ret_1 (d := .v (.bool c51)) (by kernel_rfl) ?_
            exact ⟨_, rfl, by rw [hc51]; exact ⟨fun _ => int_yes hc13 hc18 hm, fun _ => by rw [hA0, nd_zero]; rfl⟩⟩
          · replace hc46 := bt hc46
            refine vcI_q 6 (by kernel_rfl) ?_
            refine vcI_end 53 [(1, .p 1 0), (2, Ba true), (3, .p 3 0), (4, .p 4 0), (5, Ia ((k : Int))), (19, Ba false), (31, Ba false)] [(1, [Bv g, .sl (nd (A)) (dg (digs (A))), Iv e]), (3, [Bv true, .sl (nd (2 ^ 63)) (dg (digs (2 ^ 63))), Iv 0]), (4, [Bv false, .sl (nd (2 ^ 63)) (dg (digs (2 ^ 63))), Iv 0])] (by kernel_rfl) (by kernel_rfl) (by kernel_rfl) ?_
            refine vc_ret ?_
            refine ret_1 (d := .v (.bool true)) (by kernel_rfl) ?_
            exact ⟨_, rfl, ⟨fun _ => int_yes hc13 hc18 hm, fun _ => rfl⟩⟩
        · replace hc30 := bt hc30
          refine vc_condt (by kernel_rfl) ?_
          refine vc_skip ?_
          refine seq_n ?_
          refine vc_seq ?_
          refine vc_block ?_
          refine vc_seqr rfl ?_
          refine vcI_q 3 (by kernel_rfl) ?_
          refine vcI_idx1 (q := ((k : Int))) (n := (nd (A))) (cs := (dg (digs (A)))) (d := .v (.int .i64 (((dig A k : Nat) : Int)))) (dst := (some 37)) (by kernel_rfl) (by omega) (by rw [Int.toNat_natCast]; exact dg_get (digs_get? (by omega))) ?_
          refine vcI_q 1 (by kernel_rfl) ?_
          refine vcI_bin (op := .neq) (t := 3) (a := .int .i64 (((dig A k : Nat) : Int))) (b := .int .i64 0) (dst := (some 39)) (by kernel_rfl) ?_
          intro c39 hc39
          refine vcI_end 53 [(1, .p 1 0), (2, Ba false), (3, .p 3 0), (4, .p 4 0), (5, Ia ((k : Int))), (19, Ba false), (31, Ba true), (39, Ba c39)] [(1, [Bv g, .sl (nd (A)) (dg (digs (A))), Iv e]), (3, [Bv true, .sl (nd (2 ^ 63)) (dg (digs (2 ^ 63))), Iv 0]), (4, [Bv false, .sl (nd (2 ^ 63)) (dg (digs (2 ^ 63))), Iv 0])] (by kernel_rfl) (by kernel_rfl) (by kernel_rfl) ?_
          cases c39
          · replace hc39 := bf hc39
            refine vc_condf (by kernel_rfl) ?_
            refine vc_skip ?_
            refine block_n ?_
            refine seq_n ?_
            refine vc_reg rfl ?_
            refine vcI_q 1 (by kernel_rfl) ?_
            refine vcI_bin (op := .add) (t := 3) (a := .int .i64 ((k : Int))) (b := .int .i64 1) (dst := (some 33)) (by kernel_rfl) ?_
            intro z33 hz33
            first | (replace hz33 := hz33.i64 (by omega)) | skip
            refine vcI_q 1 (by kernel_rfl) ?_
            refine vcI_end 53 [(1, .p 1 0), (2, Ba false), (3, .p 3 0), (4, .p 4 0), (5, Ia z33), (19, Ba false), (31, Ba true), (39, Ba false)] [(1, [Bv g, .sl (nd (A)) (dg (digs (A))), Iv e]), (3, [Bv true, .sl (nd (2 ^ 63)) (dg (digs (2 ^ 63))), Iv 0]), (4, [Bv false, .sl (nd (2 ^ 63)) (dg (digs (2 ^ 63))), Iv 0])] (by kernel_rfl) (by kernel_rfl) (by kernel_rfl) ?_
            obtain rfl : z33 = ((k + 1 : Nat) : Int) := by omega
            refine loop_n (k + 1) (⟨by omega, mod_next hmod (by omega)⟩) (by show nd A - (k + 1) < nd A - k; omega) (by kernel_rfl) (by kernel_rfl)
          · replace hc39 := bt hc39
            refine vc_condt (by kernel_rfl) ?_
            refine vc_seqr rfl ?_
            refine vcI_q 1 (by kernel_rfl) ?_
            refine vcI_end 53 [(1, .p 1 0), (2, Ba false), (3, .p 3 0), (4, .p 4 0), (5, Ia ((k : Int))), (19, Ba false), (31, Ba true), (39, Ba true)] [(1, [Bv g, .sl (nd (A)) (dg (digs (A))), Iv e]), (3, [Bv true, .sl (nd (2 ^ 63)) (dg (digs (2 ^ 63))), Iv 0]), (4, [Bv false, .sl (nd (2 ^ 63)) (dg (digs (2 ^ 63))), Iv 0])] (by kernel_rfl) (by kernel_rfl) (by kernel_rfl) ?_
            refine vc_ret ?_
            refine block_r ?_
            refine seq_r ?_
            refine loop_r ?_
            refine block_r ?_
            refine seq_r ?_
            refine ret_1 (d := .v (.bool false)) (by kernel_rfl) ?_
            exact ⟨_, rfl, ⟨fun h => (by cases h), fun h => (int_dig (k := k) (by omega) (by omega) h).elim⟩⟩
    · replace hc18 := bt hc18
      refine vc_condt (by kernel_rfl) ?_
      refine vc_seqr rfl ?_
      refine vcI_q 1 (by kernel_rfl) ?_
      refine vcI_end 53 [(1, .p 1 0), (2, Ba false), (3, .p 3 0), (4, .p 4 0), (19, Ba true)] [(1, [Bv g, .sl (nd (A)) (dg (digs (A))), Iv e]), (3, [Bv true, .sl (nd (2 ^ 63)) (dg (digs (2 ^ 63))), Iv 0]), (4, [Bv false, .sl (nd (2 ^ 63)) (dg (digs (2 ^ 63))), Iv 0])] (by kernel_rfl) (by kernel_rfl) (by kernel_rfl) ?_
      refine vc_ret ?_
      refine seq_r ?_
      refine ret_1 (d := .v (.bool false)) (by kernel_rfl) ?_
      exact ⟨_, rfl, ⟨fun h => (by cases h), fun h => (int_hi hc18 h).elim⟩⟩
  · replace hc13 := bt hc13
    refine vcI_q 5 (by kernel_rfl) ?_
    refine vcI_end 53 [(1, .p 1 0), (2, Ba false), (3, .p 3 0), (4, .p 4 0), (19, Ba true)] [(1, [Bv g, .sl (nd (A)) (dg (digs (A))), Iv e]), (3, [Bv true, .sl (nd (2 ^ 63)) (dg (digs (2 ^ 63))), Iv 0]), (4, [Bv false, .sl (nd (2 ^ 63)) (dg (digs (2 ^ 63))), Iv 0])] (by kernel_rfl) (by kernel_rfl) (by kernel_rfl) ?_
    refine vc_condt (by kernel_rfl) ?_
    refine vc_seqr rfl ?_
    refine vcI_q 1 (by kernel_rfl) ?_
    refine vcI_end 53 [(1, .p 1 0), (2, Ba false), (3, .p 3 0), (4, .p 4 0), (19, Ba true)] [(1, [Bv g, .sl (nd (A)) (dg (digs (A))), Iv e]), (3, [Bv true, .sl (nd (2 ^ 63)) (dg (digs (2 ^ 63))), Iv 0]), (4, [Bv false, .sl (nd (2 ^ 63)) (dg (digs (2 ^ 63))), Iv 0])] (by kernel_rfl) (by kernel_rfl) (by kernel_rfl) ?_
    refine vc_ret ?_
    refine seq_r ?_
    refine ret_1 (d := .v (.bool false)) (by kernel_rfl) ?_
    exact ⟨_, rfl, ⟨fun h => (by cases h), fun h => (int_lo hc13 h).elim⟩⟩

theorem may_no {w : Bool} {neg : Bool} {n : Nat} {e : Int} (hw : w = true ↔ May neg n e) (h : ¬ May neg n e) : ¬ (w ≠ false) := by
  cases w with
  | false => simp
  | true => exact absurd (hw.1 rfl) h
theorem may_eq {w c : Bool} {neg : Bool} {n : Nat} {e : Int} (hw : w = true ↔ May neg n e) (h : c = true ↔ May neg n e) : ¬ (w ≠ c) := by
  intro k
  apply k
  rw [Bool.eq_iff_iff, hw, h]
theorem int_isW (x : Int) : isW (decide (x < 0)) x.natAbs 0 x := by
  unfold isW V sgnV
  simp
  split <;> omega
theorem sgnV_abs (x : Int) : sgnV (decide (x < 0)) x.natAbs = x := by
  unfold sgnV
  split
  · rename_i h
    have : x < 0 := by simpa using h
    omega
  · rename_i h
    have : ¬ x < 0 := by simpa using h
    omega
theorem abs_ge (s : Bool) (a : Nat) (y : Int) : ¬ cmpZ false a y s a y < 0 := by
  unfold cmpZ V
  rw [cmpI_lt]
  generalize a * 10 ^ (y - min y y).toNat = X
  unfold sgnV
  cases s <;> simp <;> omega

theorem zero_eq {s z c : Bool} {a : Nat} {L : Int} (hz : z = true ↔ a = 0) (hc : c = true ↔ L = 0) (h : L = sgnT s a) : ¬ (z ≠ c) := by
  intro k
  apply k
  rw [Bool.eq_iff_iff, hz, hc, h]
  unfold sgnT
  by_cases h : a = 0
  · simp [h]
  · cases s <;> simp [h]
theorem sgn_zero {s : Bool} {a : Nat} : a = 0 ↔ sgnT s a = 0 := by
  unfold sgnT
  by_cases h : a = 0
  · simp [h]
  · cases s <;> simp [h]
theorem whole_iff {s : Bool} {A : Nat} {e z : Int} {ok : Bool} (h1 : ok = true → isW s A e z ∧ inI z) (h0 : ok = false → z = 0 ∧ ∀ v, isW s A e v → ¬ inI v) : ok = true ↔ ∃ v, isW s A e v ∧ inI v := by
  cases ok with
  | false => exact ⟨fun h => (by cases h), fun ⟨v, k1, k2⟩ => absurd k2 ((h0 rfl).2 v k1)⟩
  | true => exact ⟨fun _ => ⟨z, h1 rfl⟩, fun _ => rfl⟩
theorem may_neg {n : Nat} {e : Int} {c : Bool} (h1 : n < E34) (h2 : -6176 ≤ e) (h3 : e ≤ 6111) (hc : c = true ↔ ((nd n : Nat) : Int) = 0) : c = false ↔ May true n e := by
  have h0 := @nd_eq0 n
  constructor
  · intro h
    refine ⟨h1, h2, h3, fun _ k => ?_⟩
    rw [h] at hc
    exact absurd (hc.2 (by rw [k, nd_zero]; rfl)) (by simp)
  · intro h
    cases c with
    | false => rfl
    | true =>
      have := hc.1 rfl
      exact absurd (h0.1 (by omega)) (h.2.2.2 rfl)

set_option maxHeartbeats 3200000 in
theorem c_DecTells {n n1 : Nat} {exp x e1 : Int} {g1 : Bool} (neg : Bool) (hn : n < B128) (he0 : -9223372036854775808 ≤ exp) (he1 : exp ≤ 9223372036854775807) (hx0 : -9223372036854775808 ≤ x) (hx1 : x ≤ 9223372036854775807) (hn1 : n1 < B128) : HasC Try.prog 7 [.v (.bool neg), .agg [.v (.int .u64 (hiW (n))), .v (.int .u64 (loW (n)))], .v (.int .i64 exp), .v (.int .i64 x), .agg [.v (.bool g1), .v (.int .u64 (hiW (n1))), .v (.int .u64 (loW (n1))), .v (.int .i64 e1)]] (fun y => y = .v (.bool true)) := by
  refine HasC.of [] (fn := Try.f7) tyOk mixed (fun args w => Try.call7 args w) Try.func7 rfl (by kernel_rfl) (Nat.le_of_ble_eq_true rfl) (⟨_, rfl⟩) ?_
  refine vc_seqr rfl ?_
  refine vcI_q 3 (by kernel_rfl) ?_
  refine vcI_end 147 [(0, Ba neg), (2, Ia exp), (3, Ia x), (6, .p 6 0), (9, .p 9 0), (10, Ba false)] [(6, [Hw n, Lw n]), (9, [Bv g1, Hw n1, Lw n1, Iv e1])] (by kernel_rfl) (by kernel_rfl) (by kernel_rfl) ?_
  refine vc_seq ?_
  refine vc_seqr rfl ?_
  refine vcI_call (f := 8) (ds := []) (dst := (some 21)) (by kernel_rfl) (c_awake02) ?_
  rintro _ rfl
  refine vcI_un (op := .not) (a := .bool true) (dst := (some 22)) (by kernel_rfl) ?_
  refine all_false ((by simp)) ?_
  refine vcI_end 147 [(0, Ba neg), (2, Ia exp), (3, Ia x), (6, .p 6 0), (9, .p 9 0), (10, Ba false), (22, Ba false)] [(6, [Hw n, Lw n]), (9, [Bv g1, Hw n1, Lw n1, Iv e1])] (by kernel_rfl) (by kernel_rfl) (by kernel_rfl) ?_
  refine vc_condf (by kernel_rfl) ?_
  refine vc_skip ?_
  refine seq_n ?_
  refine vc_seqr rfl ?_
  refine vcI_q 6 (by kernel_rfl) ?_
  refine vcI_end 147 [(0, Ba neg), (2, Ia exp), (3, Ia x), (6, .p 6 0), (9, .p 9 0), (10, Ba false), (11, .p 11 0), (22, Ba false)] [(6, [Hw n, Lw n]), (9, [Bv g1, Hw n1, Lw n1, Iv e1]), (11, [Bv neg, Hw n, Lw n, Iv exp])] (by kernel_rfl) (by kernel_rfl) (by kernel_rfl) ?_
  refine vc_seqr rfl ?_
  refine vcI_q 1 (by kernel_rfl) ?_
  refine vcI_call (f := 26) (ds := [.agg [.v (.int .u64 (hiW (n))), .v (.int .u64 (loW (n)))]]) (dst := (some 28)) (by kernel_rfl) (c_N hn) ?_
  rintro _ rfl
  refine vcI_q 1 (by kernel_rfl) ?_
  refine vcI_end 147 [(0, Ba neg), (2, Ia exp), (3, Ia x), (6, .p 6 0), (9, .p 9 0), (10, Ba false), (11, .p 11 0), (12, .d (.sl (nd (n)) (dg (digs (n))))), (22, Ba false)] [(6, [Hw n, Lw n]), (9, [Bv g1, Hw n1, Lw n1, Iv e1]), (11, [Bv neg, Hw n, Lw n, Iv exp])] (by kernel_rfl) (by kernel_rfl) (by kernel_rfl) ?_
  refine vc_mid 147 (fun (vcx : Bool) => match vcx with | vb51 => [(0, Ba neg), (2, Ia exp), (3, Ia x), (6, .p 6 0), (9, .p 9 0), (10, Ba false), (11, .p 11 0), (12, .d (.sl (nd (n)) (dg (digs (n))))), (22, Ba false), (51, Ba vb51)]) (fun (vcx : Bool) => match vcx with | vb51 => [(6, [Hw n, Lw n]), (9, [Bv g1, Hw n1, Lw n1, Iv e1]), (11, [Bv neg, Hw n, Lw n, Iv exp])]) (fun (vcx : Bool) => match vcx with | vb51 => True) ?_ ?_
  · rintro vb51 hinv
    simp only at hinv
    refine vc_seqr rfl ?_
    refine vcI_q 1 (by kernel_rfl) ?_
    refine vcI_call (f := 24) (ds := [.v (.int .i64 x)]) (dst := (some 53)) (by kernel_rfl) (c_Int hx0 hx1) ?_
    rintro _ rfl
    have hxE : x.natAbs < E34 := by unfold E34; omega
    refine vcI_q 2 (by kernel_rfl) ?_
    refine vcI_end 147 [(0, Ba neg), (2, Ia exp), (3, Ia x), (6, .p 6 0), (9, .p 9 0), (10, Ba false), (11, .p 11 0), (12, .d (.sl (nd (n)) (dg (digs (n))))), (13, .p 13 0), (22, Ba false), (51, Ba vb51)] [(6, [Hw n, Lw n]), (9, [Bv g1, Hw n1, Lw n1, Iv e1]), (11, [Bv neg, Hw n, Lw n, Iv exp]), (13, [Bv (decide (x < 0)), Hw x.natAbs, Lw x.natAbs, Iv 0])] (by kernel_rfl) (by kernel_rfl) (by kernel_rfl) ?_
    refine vc_seqr rfl ?_
    refine vcI_q 1 (by kernel_rfl) ?_
    refine vcI_call (f := 27) (ds := [.agg [.v (.bool (decide (x < 0))), .v (.int .u64 (hiW (x.natAbs))), .v (.int .u64 (loW (x.natAbs))), .v (.int .i64 0)]]) (dst := (some 56)) (by kernel_rfl) (c_WholeIs (int_isW x) (by unfold inI; omega) (Nat.lt_trans hxE e34_lt) (by decide) (by decide)) ?_
    rintro _ rfl
    refine vcI_q 5 (by kernel_rfl) ?_
    refine vcI_end 147 [(0, Ba neg), (2, Ia exp), (3, Ia x), (6, .p 6 0), (9, .p 9 0), (10, Ba false), (11, .p 11 0), (12, .d (.sl (nd (n)) (dg (digs (n))))), (13, .p 13 0), (14, Ia x), (15, Ba true), (22, Ba false), (51, Ba vb51)] [(6, [Hw n, Lw n]), (9, [Bv g1, Hw n1, Lw n1, Iv e1]), (11, [Bv neg, Hw n, Lw n, Iv exp]), (13, [Bv (decide (x < 0)), Hw x.natAbs, Lw x.natAbs, Iv 0])] (by kernel_rfl) (by kernel_rfl) (by kernel_rfl) ?_
    refine vc_seqr rfl ?_
    refine vcI_q 1 (by kernel_rfl) ?_
    refine vcI_call (f := 9) (ds := [.agg [.v (.bool g1), .v (.int .u64 (hiW (n1))), .v (.int .u64 (loW (n1))), .v (.int .i64 e1)]]) (dst := (some 60)) (by kernel_rfl) (c_Make hn1) ?_
    rintro _ ⟨s, a, y, rfl, ha, hy0, hy1, hs⟩
    have haB := Nat.lt_trans ha e34_lt; have hna := nd34 ha
    refine vcI_q 2 (by kernel_rfl) ?_
    refine vcI_end 147 [(0, Ba neg), (2, Ia exp), (3, Ia x), (6, .p 6 0), (10, Ba false), (11, .p 11 0), (12, .d (.sl (nd (n)) (dg (digs (n))))), (13, .p 13 0), (14, Ia x), (15, Ba true), (16, .p 16 0), (22, Ba false), (51, Ba vb51)] [(6, [Hw n, Lw n]), (11, [Bv neg, Hw n, Lw n, Iv exp]), (13, [Bv (decide (x < 0)), Hw x.natAbs, Lw x.natAbs, Iv 0]), (16, [Bv s, Hw a, Lw a, Iv y])] (by kernel_rfl) (by kernel_rfl) (by kernel_rfl) ?_
    refine vc_seqr rfl ?_
    refine vcI_q 1 (by kernel_rfl) ?_
    refine vcI_call (f := 10) (ds := [.agg [.v (.bool s), .v (.int .u64 (hiW (a))), .v (.int .u64 (loW (a))), .v (.int .i64 y)]]) (dst := (some 62)) (by kernel_rfl) (c_Ref haB) ?_
    rintro _ rfl
    refine vcI_q 2 (by kernel_rfl) ?_
    refine vcI_end 147 [(0, Ba neg), (2, Ia exp), (3, Ia x), (6, .p 6 0), (10, Ba false), (11, .p 11 0), (12, .d (.sl (nd (n)) (dg (digs (n))))), (13, .p 13 0), (14, Ia x), (15, Ba true), (16, .p 16 0), (17, .p 17 0), (22, Ba false), (51, Ba vb51)] [(6, [Hw n, Lw n]), (11, [Bv neg, Hw n, Lw n, Iv exp]), (13, [Bv (decide (x < 0)), Hw x.natAbs, Lw x.natAbs, Iv 0]), (16, [Bv s, Hw a, Lw a, Iv y]), (17, [Bv s, .sl (nd (a)) (dg (digs (a))), Iv y])] (by kernel_rfl) (by kernel_rfl) (by kernel_rfl) ?_
    refine vc_seqr rfl ?_
    refine vcI_q 1 (by kernel_rfl) ?_
    refine vcI_end 147 [(0, Ba neg), (2, Ia exp), (3, Ia x), (6, .p 6 0), (10, Ba false), (11, .p 11 0), (12, .d (.sl (nd (n)) (dg (digs (n))))), (13, .p 13 0), (14, Ia x), (15, Ba true), (16, .p 16 0), (17, .p 17 0), (18, Ia 1), (22, Ba false), (51, Ba vb51)] [(6, [Hw n, Lw n]), (11, [Bv neg, Hw n, Lw n, Iv exp]), (13, [Bv (decide (x < 0)), Hw x.natAbs, Lw x.natAbs, Iv 0]), (16, [Bv s, Hw a, Lw a, Iv y]), (17, [Bv s, .sl (nd (a)) (dg (digs (a))), Iv y])] (by kernel_rfl) (by kernel_rfl) (by kernel_rfl) ?_
    refine vc_seq ?_
    refine vc_seqr rfl ?_
    refine vcI_q 2 (by kernel_rfl) ?_
    refine vcI_end 147 [(0, Ba neg), (2, Ia exp), (3, Ia x), (6, .p 6 0), (10, Ba false), (11, .p 11 0), (12, .d (.sl (nd (n)) (dg (digs (n))))), (13, .p 13 0), (14, Ia x), (15, Ba true), (16, .p 16 0), (17, .p 17 0), (18, Ia 1), (22, Ba false), (51, Ba vb51), (64, Ba s)] [(6, [Hw n, Lw n]), (11, [Bv neg, Hw n, Lw n, Iv exp]), (13, [Bv (decide (x < 0)), Hw x.natAbs, Lw x.natAbs, Iv 0]), (16, [Bv s, Hw a, Lw a, Iv y]), (17, [Bv s, .sl (nd (a)) (dg (digs (a))), Iv y])] (by kernel_rfl) (by kernel_rfl) (by kernel_rfl) ?_
    cases s
    · skip
      refine vc_condf (by kernel_rfl) ?_
      refine vc_seqr rfl ?_
      refine vcI_q 3 (by kernel_rfl) ?_
      refine vcI_bin (op := .eql) (t := 3) (a := .int .i64 (((nd (a) : Nat) : Int))) (b := .int .i64 0) (dst := (some 68)) (by kernel_rfl) ?_
      intro c68 hc68
      refine vcI_end 147 [(0, Ba neg), (2, Ia exp), (3, Ia x), (6, .p 6 0), (10, Ba false), (11, .p 11 0), (12, .d (.sl (nd (n)) (dg (digs (n))))), (13, .p 13 0), (14, Ia x), (15, Ba true), (16, .p 16 0), (17, .p 17 0), (18, Ia 1), (22, Ba false), (51, Ba vb51), (64, Ba false), (68, Ba c68)] [(6, [Hw n, Lw n]), (11, [Bv neg, Hw n, Lw n, Iv exp]), (13, [Bv (decide (x < 0)), Hw x.natAbs, Lw x.natAbs, Iv 0]), (16, [Bv false, Hw a, Lw a, Iv y]), (17, [Bv false, .sl (nd (a)) (dg (digs (a))), Iv y])] (by kernel_rfl) (by kernel_rfl) (by kernel_rfl) ?_
      cases c68
      · replace hc68 := bf hc68
        have ha0 : a ≠ 0 := fun h => hc68 (by rw [h, nd_zero]; rfl)
        have hsg : 1 = sgnT false a := by rw [sgnT, if_neg ha0]; rfl
        refine vc_condf (by kernel_rfl) ?_
        refine vc_skip ?_
        refine seq_n ?_
        refine vc_seq ?_
        refine vc_seqr rfl ?_
        refine vcI_q 1 (by kernel_rfl) ?_
        refine vcI_call (f := 21) (ds := [.agg [.v (.bool (decide (x < 0))), .v (.int .u64 (hiW (x.natAbs))), .v (.int .u64 (loW (x.natAbs))), .v (.int .i64 0)]]) (dst := (some 70)) (by kernel_rfl) (c_May (Nat.lt_trans hxE e34_lt)) ?_
        rintro _ ⟨w, rfl, hw⟩
        have hwt : w = true := hw.2 ⟨hxE, by decide, by decide, fun h k => by have : x < 0 := (by simpa using h); omega⟩
        refine vcI_un (op := .not) (a := .bool w) (dst := (some 71)) (by kernel_rfl) ?_
        refine all_false ((by rw [hwt]; simp)) ?_
        refine vcI_q 2 (by kernel_rfl) ?_
        refine vcI_un (op := .not) (a := .bool true) (dst := (some 74)) (by kernel_rfl) ?_
        refine all_false ((by simp)) ?_
        refine vcI_q 4 (by kernel_rfl) ?_
        refine vcI_bin (op := .neq) (t := 3) (a := .int .i64 x) (b := .int .i64 x) (dst := (some 79)) (by kernel_rfl) ?_
        refine all_false ((by simp)) ?_
        refine vcI_q 4 (by kernel_rfl) ?_
        refine vcI_bin (op := .neq) (t := 3) (a := .int .i64 0) (b := .int .i64 0) (dst := (some 84)) (by kernel_rfl) ?_
        refine all_false ((by simp)) ?_
        refine vcI_q 3 (by kernel_rfl) ?_
        refine vcI_call (f := 28) (ds := [.agg [.v (.bool false), .v (.int .u64 (hiW (a))), .v (.int .u64 (loW (a))), .v (.int .i64 y)]]) (dst := (some 88)) (by kernel_rfl) (c_SignT haB) ?_
        rintro _ rfl
        refine vcI_q 1 (by kernel_rfl) ?_
        refine vcI_bin (op := .neq) (t := 3) (a := .int .i64 (sgnT false a)) (b := .int .i64 1) (dst := (some 90)) (by kernel_rfl) ?_
        refine all_false ((by rw [← hsg]; simp)) ?_
        refine vcI_q 3 (by kernel_rfl) ?_
        refine vcI_call (f := 25) (ds := [.agg [.v (.bool false), .v (.int .u64 (hiW (a))), .v (.int .u64 (loW (a))), .v (.int .i64 y)]]) (dst := (some 94)) (by kernel_rfl) (c_Zero haB) ?_
        rintro _ ⟨z, rfl, hz⟩
        refine vcI_q 1 (by kernel_rfl) ?_
        refine vcI_bin (op := .eql) (t := 3) (a := .int .i64 1) (b := .int .i64 0) (dst := (some 96)) (by kernel_rfl) ?_
        intro c96 hc96
        refine vcI_bin (op := .neq) (t := 4) (a := .bool z) (b := .bool c96) (dst := (some 97)) (by kernel_rfl) ?_
        refine all_false ((zero_eq hz hc96 hsg)) ?_
        refine vcI_q 3 (by kernel_rfl) ?_
        refine vcI_call (f := 22) (ds := [.agg [.v (.bool false), .v (.int .u64 (hiW (a))), .v (.int .u64 (loW (a))), .v (.int .i64 y)]]) (dst := (some 101)) (by kernel_rfl) (c_Neg haB) ?_
        rintro _ rfl
        refine vcI_q 1 (by kernel_rfl) ?_
        refine vcI_call (f := 15) (ds := [.agg [.v (.bool false), .sl (nd (a)) (dg (digs (a))), .v (.int .i64 y)]]) (dst := (some 103)) (by kernel_rfl) (c_rNeg) ?_
        rintro _ rfl
        refine vcI_call (f := 17) (ds := [.agg [.v (.bool ((!false && decide (a ≠ 0)))), .v (.int .u64 (hiW (a))), .v (.int .u64 (loW (a))), .v (.int .i64 y)], .agg [.v (.bool ((!false && decide (a ≠ 0)))), .sl (nd (a)) (dg (digs (a))), .v (.int .i64 y)]]) (dst := (some 104)) (by kernel_rfl) (c_LikeT haB) ?_
        rintro _ rfl
        refine vcI_un (op := .not) (a := .bool true) (dst := (some 105)) (by kernel_rfl) ?_
        refine all_false ((by simp)) ?_
        refine vcI_q 3 (by kernel_rfl) ?_
        refine vcI_call (f := 23) (ds := [.agg [.v (.bool false), .v (.int .u64 (hiW (a))), .v (.int .u64 (loW (a))), .v (.int .i64 y)]]) (dst := (some 109)) (by kernel_rfl) (c_Abs) ?_
        rintro _ rfl
        refine vcI_call (f := 28) (ds := [.agg [.v (.bool false), .v (.int .u64 (hiW (a))), .v (.int .u64 (loW (a))), .v (.int .i64 y)]]) (dst := (some 110)) (by kernel_rfl) (c_SignT haB) ?_
        rintro _ rfl
        refine vcI_bin (op := .lss) (t := 3) (a := .int .i64 (sgnT false a)) (b := .int .i64 0) (dst := (some 111)) (by kernel_rfl) ?_
        refine all_false ((by unfold sgnT; split <;> simp)) ?_
        refine vcI_q 3 (by kernel_rfl) ?_
        refine vcI_call (f := 23) (ds := [.agg [.v (.bool false), .v (.int .u64 (hiW (a))), .v (.int .u64 (loW (a))), .v (.int .i64 y)]]) (dst := (some 115)) (by kernel_rfl) (c_Abs) ?_
        rintro _ rfl
        refine vcI_q 1 (by kernel_rfl) ?_
        refine vcI_call (f := 18) (ds := [.agg [.v (.bool false), .v (.int .u64 (hiW (a))), .v (.int .u64 (loW (a))), .v (.int .i64 y)], .agg [.v (.bool false), .v (.int .u64 (hiW (a))), .v (.int .u64 (loW (a))), .v (.int .i64 y)]]) (dst := (some 117)) (by kernel_rfl) (c_decCmp ha ha (by omega) (by omega) (by omega) (by omega)) ?_
        rintro _ rfl
        refine vcI_bin (op := .lss) (t := 3) (a := .int .i64 (cmpZ false a y false a y)) (b := .int .i64 0) (dst := (some 118)) (by kernel_rfl) ?_
        refine all_false ((abs_ge false a y)) ?_
        refine vcI_q 1 (by kernel_rfl) ?_
        refine vcI_end 147 [(0, Ba neg), (2, Ia exp), (3, Ia x), (6, .p 6 0), (10, Ba false), (11, .p 11 0), (12, .d (.sl (nd (n)) (dg (digs (n))))), (13, .p 13 0), (16, .p 16 0), (17, .p 17 0), (22, Ba false), (51, Ba vb51), (64, Ba false), (68, Ba false), (119, Ba false)] [(6, [Hw n, Lw n]), (11, [Bv neg, Hw n, Lw n, Iv exp]), (13, [Bv (decide (x < 0)), Hw x.natAbs, Lw x.natAbs, Iv 0]), (16, [Bv false, Hw a, Lw a, Iv y]), (17, [Bv false, .sl (nd (a)) (dg (digs (a))), Iv y])] (by kernel_rfl) (by kernel_rfl) (by kernel_rfl) ?_
        refine vc_condf (by kernel_rfl) ?_
        refine vc_skip ?_
        refine seq_n ?_
        refine vc_seqr rfl ?_
        refine vcI_q 1 (by kernel_rfl) ?_
        refine vcI_call (f := 27) (ds := [.agg [.v (.bool false), .v (.int .u64 (hiW (a))), .v (.int .u64 (loW (a))), .v (.int .i64 y)]]) (dst := (some 122)) (by kernel_rfl) (c_Whole haB (by omega) (by omega)) ?_
        rintro _ ⟨v, ok, rfl, hy1', hy0'⟩
        refine vcI_q 5 (by kernel_rfl) ?_
        refine vcI_end 147 [(0, Ba neg), (2, Ia exp), (3, Ia x), (6, .p 6 0), (10, Ba false), (11, .p 11 0), (12, .d (.sl (nd (n)) (dg (digs (n))))), (13, .p 13 0), (16, .p 16 0), (17, .p 17 0), (19, Ia v), (20, Ba ok), (22, Ba false), (51, Ba vb51), (64, Ba false), (68, Ba false), (119, Ba false)] [(6, [Hw n, Lw n]), (11, [Bv neg, Hw n, Lw n, Iv exp]), (13, [Bv (decide (x < 0)), Hw x.natAbs, Lw x.natAbs, Iv 0]), (16, [Bv false, Hw a, Lw a, Iv y]), (17, [Bv false, .sl (nd (a)) (dg (digs (a))), Iv y])] (by kernel_rfl) (by kernel_rfl) (by kernel_rfl) ?_
        refine vc_seqr rfl ?_
        refine vcI_q 2 (by kernel_rfl) ?_
        refine vcI_call (f := 29) (ds := [.agg [.v (.bool false), .sl (nd (a)) (dg (digs (a))), .v (.int .i64 y)]]) (dst := (some 127)) (by kernel_rfl) (c_integral hna (by omega) (by omega)) ?_
        rintro _ ⟨q, rfl, hq⟩
        have hokq : ok = q := by rw [Bool.eq_iff_iff, hq]; exact whole_iff hy1' hy0'
        refine vcI_bin (op := .eql) (t := 4) (a := .bool ok) (b := .bool q) (dst := (some 128)) (by kernel_rfl) ?_
        refine all_true (hokq) ?_
        refine vcI_q 2 (by kernel_rfl) ?_
        refine vcI_un (op := .not) (a := .bool ok) (dst := (some 131)) (by kernel_rfl) ?_
        intro c131 hc131
        refine vcI_q 1 (by kernel_rfl) ?_
        cases c131
        · replace hc131 := bf hc131
          refine vcI_q 6 (by kernel_rfl) ?_
          have hok1 : ok = true := by simpa using hc131
          have hok := tru hok1
          obtain ⟨hv1, hv2⟩ := hy1' hok1
          unfold inI at hv2
          obtain rfl : ok = true := hok.2 (trivial)
          refine vcI_q 1 (by kernel_rfl) ?_
          refine vcI_call (f := 24) (ds := [.v (.int .i64 v)]) (dst := (some 140)) (by kernel_rfl) (c_Int hv2.1 (by omega)) ?_
          rintro _ rfl
          refine vcI_q 1 (by kernel_rfl) ?_
          refine vcI_call (f := 18) (ds := [.agg [.v (.bool (decide (v < 0))), .v (.int .u64 (hiW (v.natAbs))), .v (.int .u64 (loW (v.natAbs))), .v (.int .i64 0)], .agg [.v (.bool false), .v (.int .u64 (hiW (a))), .v (.int .u64 (loW (a))), .v (.int .i64 y)]]) (dst := (some 142)) (by kernel_rfl) (c_decCmp (by unfold E34; omega) ha (by decide) (by decide) (by omega) (by omega)) ?_
          rintro _ rfl
          refine vcI_bin (op := .eql) (t := 3) (a := .int .i64 (cmpZ (decide (v < 0)) v.natAbs 0 false a y)) (b := .int .i64 0) (dst := (some 143)) (by kernel_rfl) ?_
          intro c143 hc143
          refine vcI_q 4 (by kernel_rfl) ?_
          refine vcI_end 147 [(0, Ba neg), (2, Ia exp), (3, Ia x), (6, .p 6 0), (10, Ba c143), (11, .p 11 0), (12, .d (.sl (nd (n)) (dg (digs (n))))), (13, .p 13 0), (16, .p 16 0), (17, .p 17 0), (22, Ba false), (51, Ba vb51), (64, Ba false), (68, Ba false), (119, Ba false)] [(6, [Hw n, Lw n]), (11, [Bv neg, Hw n, Lw n, Iv exp]), (13, [Bv (decide (x < 0)), Hw x.natAbs, Lw x.natAbs, Iv 0]), (16, [Bv false, Hw a, Lw a, Iv y]), (17, [Bv false, .sl (nd (a)) (dg (digs (a))), Iv y])] (by kernel_rfl) (by kernel_rfl) (by kernel_rfl) ?_
          refine vc_ret ?_
          refine ret_1 (d := .v (.bool c143)) (by kernel_rfl) ?_
          rw [hc143.2 (by rw [cmpZ_swap, cmp_int hv1, sgnV_abs, cmpI_eq.2 rfl]; rfl)]
        · replace hc131 := bt hc131
          refine vcI_q 1 (by kernel_rfl) ?_
          refine vcI_bin (op := .eql) (t := 3) (a := .int .i64 v) (b := .int .i64 0) (dst := (some 134)) (by kernel_rfl) ?_
          have hv0 : v = 0 := (hy0' (by simpa using hc131)).1
          intro c134 hc134
          refine vcI_q 2 (by kernel_rfl) ?_
          obtain rfl : c134 = true := hc134.2 (hv0)
          refine vcI_q 11 (by kernel_rfl) ?_
          refine vcI_end 147 [(0, Ba neg), (2, Ia exp), (3, Ia x), (6, .p 6 0), (10, Ba true), (11, .p 11 0), (12, .d (.sl (nd (n)) (dg (digs (n))))), (13, .p 13 0), (16, .p 16 0), (17, .p 17 0), (22, Ba false), (51, Ba vb51), (64, Ba false), (68, Ba false), (119, Ba false)] [(6, [Hw n, Lw n]), (11, [Bv neg, Hw n, Lw n, Iv exp]), (13, [Bv (decide (x < 0)), Hw x.natAbs, Lw x.natAbs, Iv 0]), (16, [Bv false, Hw a, Lw a, Iv y]), (17, [Bv false, .sl (nd (a)) (dg (digs (a))), Iv y])] (by kernel_rfl) (by kernel_rfl) (by kernel_rfl) ?_
          refine vc_ret ?_
          refine ret_1 (d := .v (.bool true)) (by kernel_rfl) ?_
          rfl
      · replace hc68 := bt hc68
        have ha0 : a = 0 := nd_eq0.1 (by omega)
        have hsg : 0 = sgnT false a := by rw [sgnT, if_pos ha0]
        refine vc_condt (by kernel_rfl) ?_
        refine vc_reg rfl ?_
        refine vcI_q 1 (by kernel_rfl) ?_
        refine vcI_end 147 [(0, Ba neg), (2, Ia exp), (3, Ia x), (6, .p 6 0), (10, Ba false), (11, .p 11 0), (12, .d (.sl (nd (n)) (dg (digs (n))))), (13, .p 13 0), (14, Ia x), (15, Ba true), (16, .p 16 0), (17, .p 17 0), (18, Ia 0), (22, Ba false), (51, Ba vb51), (64, Ba false), (68, Ba true)] [(6, [Hw n, Lw n]), (11, [Bv neg, Hw n, Lw n, Iv exp]), (13, [Bv (decide (x < 0)), Hw x.natAbs, Lw x.natAbs, Iv 0]), (16, [Bv false, Hw a, Lw a, Iv y]), (17, [Bv false, .sl (nd (a)) (dg (digs (a))), Iv y])] (by kernel_rfl) (by kernel_rfl) (by kernel_rfl) ?_
        refine seq_n ?_
        refine vc_seq ?_
        refine vc_seqr rfl ?_
        refine vcI_q 1 (by kernel_rfl) ?_
        refine vcI_call (f := 21) (ds := [.agg [.v (.bool (decide (x < 0))), .v (.int .u64 (hiW (x.natAbs))), .v (.int .u64 (loW (x.natAbs))), .v (.int .i64 0)]]) (dst := (some 70)) (by kernel_rfl) (c_May (Nat.lt_trans hxE e34_lt)) ?_
        rintro _ ⟨w, rfl, hw⟩
        have hwt : w = true := hw.2 ⟨hxE, by decide, by decide, fun h k => by have : x < 0 := (by simpa using h); omega⟩
        refine vcI_un (op := .not) (a := .bool w) (dst := (some 71)) (by kernel_rfl) ?_
        refine all_false ((by rw [hwt]; simp)) ?_
        refine vcI_q 2 (by kernel_rfl) ?_
        refine vcI_un (op := .not) (a := .bool true) (dst := (some 74)) (by kernel_rfl) ?_
        refine all_false ((by simp)) ?_
        refine vcI_q 4 (by kernel_rfl) ?_
        refine vcI_bin (op := .neq) (t := 3) (a := .int .i64 x) (b := .int .i64 x) (dst := (some 79)) (by kernel_rfl) ?_
        refine all_false ((by simp)) ?_
        refine vcI_q 4 (by kernel_rfl) ?_
        refine vcI_bin (op := .neq) (t := 3) (a := .int .i64 0) (b := .int .i64 0) (dst := (some 84)) (by kernel_rfl) ?_
        refine all_false ((by simp)) ?_
        refine vcI_q 3 (by kernel_rfl) ?_
        refine vcI_call (f := 28) (ds := [.agg [.v (.bool false), .v (.int .u64 (hiW (a))), .v (.int .u64 (loW (a))), .v (.int .i64 y)]]) (dst := (some 88)) (by kernel_rfl) (c_SignT haB) ?_
        rintro _ rfl
        refine vcI_q 1 (by kernel_rfl) ?_
        refine vcI_bin (op := .neq) (t := 3) (a := .int .i64 (sgnT false a)) (b := .int .i64 0) (dst := (some 90)) (by kernel_rfl) ?_
        refine all_false ((by rw [← hsg]; simp)) ?_
        refine vcI_q 3 (by kernel_rfl) ?_
        refine vcI_call (f := 25) (ds := [.agg [.v (.bool false), .v (.int .u64 (hiW (a))), .v (.int .u64 (loW (a))), .v (.int .i64 y)]]) (dst := (some 94)) (by kernel_rfl) (c_Zero haB) ?_
        rintro _ ⟨z, rfl, hz⟩
        refine vcI_q 1 (by kernel_rfl) ?_
        refine vcI_bin (op := .eql) (t := 3) (a := .int .i64 0) (b := .int .i64 0) (dst := (some 96)) (by kernel_rfl) ?_
        intro c96 hc96
        refine vcI_bin (op := .neq) (t := 4) (a := .bool z) (b := .bool c96) (dst := (some 97)) (by kernel_rfl) ?_
        refine all_false ((zero_eq hz hc96 hsg)) ?_
        refine vcI_q 3 (by kernel_rfl) ?_
        refine vcI_call (f := 22) (ds := [.agg [.v (.bool false), .v (.int .u64 (hiW (a))), .v (.int .u64 (loW (a))), .v (.int .i64 y)]]) (dst := (some 101)) (by kernel_rfl) (c_Neg haB) ?_
        rintro _ rfl
        refine vcI_q 1 (by kernel_rfl) ?_
        refine vcI_call (f := 15) (ds := [.agg [.v (.bool false), .sl (nd (a)) (dg (digs (a))), .v (.int .i64 y)]]) (dst := (some 103)) (by kernel_rfl) (c_rNeg) ?_
        rintro _ rfl
        refine vcI_call (f := 17) (ds := [.agg [.v (.bool ((!false && decide (a ≠ 0)))), .v (.int .u64 (hiW (a))), .v (.int .u64 (loW (a))), .v (.int .i64 y)], .agg [.v (.bool ((!false && decide (a ≠ 0)))), .sl (nd (a)) (dg (digs (a))), .v (.int .i64 y)]]) (dst := (some 104)) (by kernel_rfl) (c_LikeT haB) ?_
        rintro _ rfl
        refine vcI_un (op := .not) (a := .bool true) (dst := (some 105)) (by kernel_rfl) ?_
        refine all_false ((by simp)) ?_
        refine vcI_q 3 (by kernel_rfl) ?_
        refine vcI_call (f := 23) (ds := [.agg [.v (.bool false), .v (.int .u64 (hiW (a))), .v (.int .u64 (loW (a))), .v (.int .i64 y)]]) (dst := (some 109)) (by kernel_rfl) (c_Abs) ?_
        rintro _ rfl
        refine vcI_call (f := 28) (ds := [.agg [.v (.bool false), .v (.int .u64 (hiW (a))), .v (.int .u64 (loW (a))), .v (.int .i64 y)]]) (dst := (some 110)) (by kernel_rfl) (c_SignT haB) ?_
        rintro _ rfl
        refine vcI_bin (op := .lss) (t := 3) (a := .int .i64 (sgnT false a)) (b := .int .i64 0) (dst := (some 111)) (by kernel_rfl) ?_
        refine all_false ((by unfold sgnT; split <;> simp)) ?_
        refine vcI_q 3 (by kernel_rfl) ?_
        refine vcI_call (f := 23) (ds := [.agg [.v (.bool false), .v (.int .u64 (hiW (a))), .v (.int .u64 (loW (a))), .v (.int .i64 y)]]) (dst := (some 115)) (by kernel_rfl) (c_Abs) ?_
        rintro _ rfl
        refine vcI_q 1 (by kernel_rfl) ?_
        refine vcI_call (f := 18) (ds := [.agg [.v (.bool false), .v (.int .u64 (hiW (a))), .v (.int .u64 (loW (a))), .v (.int .i64 y)], .agg [.v (.bool false), .v (.int .u64 (hiW (a))), .v (.int .u64 (loW (a))), .v (.int .i64 y)]]) (dst := (some 117)) (by kernel_rfl) (c_decCmp ha ha (by omega) (by omega) (by omega) (by omega)) ?_
        rintro _ rfl
        refine vcI_bin (op := .lss) (t := 3) (a := .int .i64 (cmpZ false a y false a y)) (b := .int .i64 0) (dst := (some 118)) (by kernel_rfl) ?_
        refine all_false ((abs_ge false a y)) ?_
        refine vcI_q 1 (by kernel_rfl) ?_
        refine vcI_end 147 [(0, Ba neg), (2, Ia exp), (3, Ia x), (6, .p 6 0), (10, Ba false), (11, .p 11 0), (12, .d (.sl (nd (n)) (dg (digs (n))))), (13, .p 13 0), (16, .p 16 0), (17, .p 17 0), (22, Ba false), (51, Ba vb51), (64, Ba false), (68, Ba true), (119, Ba false)] [(6, [Hw n, Lw n]), (11, [Bv neg, Hw n, Lw n, Iv exp]), (13, [Bv (decide (x < 0)), Hw x.natAbs, Lw x.natAbs, Iv 0]), (16, [Bv false, Hw a, Lw a, Iv y]), (17, [Bv false, .sl (nd (a)) (dg (digs (a))), Iv y])] (by kernel_rfl) (by kernel_rfl) (by kernel_rfl) ?_
        refine vc_condf (by kernel_rfl) ?_
        refine vc_skip ?_
        refine seq_n ?_
        refine vc_seqr rfl ?_
        refine vcI_q 1 (by kernel_rfl) ?_
        refine vcI_call (f := 27) (ds := [.agg [.v (.bool false), .v (.int .u64 (hiW (a))), .v (.int .u64 (loW (a))), .v (.int .i64 y)]]) (dst := (some 122)) (by kernel_rfl) (c_Whole haB (by omega) (by omega)) ?_
        rintro _ ⟨v, ok, rfl, hy1', hy0'⟩
        refine vcI_q 5 (by kernel_rfl) ?_
        refine vcI_end 147 [(0, Ba neg), (2, Ia exp), (3, Ia x), (6, .p 6 0), (10, Ba false), (11, .p 11 0), (12, .d (.sl (nd (n)) (dg (digs (n))))), (13, .p 13 0), (16, .p 16 0), (17, .p 17 0), (19, Ia v), (20, Ba ok), (22, Ba false), (51, Ba vb51), (64, Ba false), (68, Ba true), (119, Ba false)] [(6, [Hw n, Lw n]), (11, [Bv neg, Hw n, Lw n, Iv exp]), (13, [Bv (decide (x < 0)), Hw x.natAbs, Lw x.natAbs, Iv 0]), (16, [Bv false, Hw a, Lw a, Iv y]), (17, [Bv false, .sl (nd (a)) (dg (digs (a))), Iv y])] (by kernel_rfl) (by kernel_rfl) (by kernel_rfl) ?_
        refine vc_seqr rfl ?_
        refine vcI_q 2 (by kernel_rfl) ?_
        refine vcI_call (f := 29) (ds := [.agg [.v (.bool false), .sl (nd (a)) (dg (digs (a))), .v (.int .i64 y)]]) (dst := (some 127)) (by kernel_rfl) (c_integral hna (by omega) (by omega)) ?_
        rintro _ ⟨q, rfl, hq⟩
        have hokq : ok = q := by rw [Bool.eq_iff_iff, hq]; exact whole_iff hy1' hy0'
        refine vcI_bin (op := .eql) (t := 4) (a := .bool ok) (b := .bool q) (dst := (some 128)) (by kernel_rfl) ?_
        refine all_true (hokq) ?_
        refine vcI_q 2 (by kernel_rfl) ?_
        refine vcI_un (op := .not) (a := .bool ok) (dst := (some 131)) (by kernel_rfl) ?_
        intro c131 hc131
        refine vcI_q 1 (by kernel_rfl) ?_
        cases c131
        · replace hc131 := bf hc131
          refine vcI_q 6 (by kernel_rfl) ?_
          have hok1 : ok = true := by simpa using hc131
          have hok := tru hok1
          obtain ⟨hv1, hv2⟩ := hy1' hok1
          unfold inI at hv2
          obtain rfl : ok = true := hok.2 (trivial)
          refine vcI_q 1 (by kernel_rfl) ?_
          refine vcI_call (f := 24) (ds := [.v (.int .i64 v)]) (dst := (some 140)) (by kernel_rfl) (c_Int hv2.1 (by omega)) ?_
          rintro _ rfl
          refine vcI_q 1 (by kernel_rfl) ?_
          refine vcI_call (f := 18) (ds := [.agg [.v (.bool (decide (v < 0))), .v (.int .u64 (hiW (v.natAbs))), .v (.int .u64 (loW (v.natAbs))), .v (.int .i64 0)], .agg [.v (.bool false), .v (.int .u64 (hiW (a))), .v (.int .u64 (loW (a))), .v (.int .i64 y)]]) (dst := (some 142)) (by kernel_rfl) (c_decCmp (by unfold E34; omega) ha (by decide) (by decide) (by omega) (by omega)) ?_
          rintro _ rfl
          refine vcI_bin (op := .eql) (t := 3) (a := .int .i64 (cmpZ (decide (v < 0)) v.natAbs 0 false a y)) (b := .int .i64 0) (dst := (some 143)) (by kernel_rfl) ?_
          intro c143 hc143
          refine vcI_q 4 (by kernel_rfl) ?_
          refine vcI_end 147 [(0, Ba neg), (2, Ia exp), (3, Ia x), (6, .p 6 0), (10, Ba c143), (11, .p 11 0), (12, .d (.sl (nd (n)) (dg (digs (n))))), (13, .p 13 0), (16, .p 16 0), (17, .p 17 0), (22, Ba false), (51, Ba vb51), (64, Ba false), (68, Ba true), (119, Ba false)] [(6, [Hw n, Lw n]), (11, [Bv neg, Hw n, Lw n, Iv exp]), (13, [Bv (decide (x < 0)), Hw x.natAbs, Lw x.natAbs, Iv 0]), (16, [Bv false, Hw a, Lw a, Iv y]), (17, [Bv false, .sl (nd (a)) (dg (digs (a))), Iv y])] (by kernel_rfl) (by kernel_rfl) (by kernel_rfl) ?_
          refine vc_ret ?_
          refine ret_1 (d := .v (.bool c143)) (by kernel_rfl) ?_
          rw [hc143.2 (by rw [cmpZ_swap, cmp_int hv1, sgnV_abs, cmpI_eq.2 rfl]; rfl)]
        · replace hc131 := bt hc131
          refine vcI_q 1 (by kernel_rfl) ?_
          refine vcI_bin (op := .eql) (t := 3) (a := .int .i64 v) (b := .int .i64 0) (dst := (some 134)) (by kernel_rfl) ?_
          have hv0 : v = 0 := (hy0' (by simpa using hc131)).1
          intro c134 hc134
          refine vcI_q 2 (by kernel_rfl) ?_
          obtain rfl : c134 = true := hc134.2 (hv0)
          refine vcI_q 11 (by kernel_rfl) ?_
          refine vcI_end 147 [(0, Ba neg), (2, Ia exp), (3, Ia x), (6, .p 6 0), (10, Ba true), (11, .p 11 0), (12, .d (.sl (nd (n)) (dg (digs (n))))), (13, .p 13 0), (16, .p 16 0), (17, .p 17 0), (22, Ba false), (51, Ba vb51), (64, Ba false), (68, Ba true), (119, Ba false)] [(6, [Hw n, Lw n]), (11, [Bv neg, Hw n, Lw n, Iv exp]), (13, [Bv (decide (x < 0)), Hw x.natAbs, Lw x.natAbs, Iv 0]), (16, [Bv false, Hw a, Lw a, Iv y]), (17, [Bv false, .sl (nd (a)) (dg (digs (a))), Iv y])] (by kernel_rfl) (by kernel_rfl) (by kernel_rfl) ?_
          refine vc_ret ?_
          refine ret_1 (d := .v (.bool true)) (by kernel_rfl) ?_
          rfl
    · skip
      have ha0 : a ≠ 0 := fun h => by have := hs h; cases this
      have hsg : -1 = sgnT true a := by rw [sgnT, if_neg ha0]; rfl
      refine vc_condt (by kernel_rfl) ?_
      refine vc_reg rfl ?_
      refine vcI_q 1 (by kernel_rfl) ?_
      refine vcI_end 147 [(0, Ba neg), (2, Ia exp), (3, Ia x), (6, .p 6 0), (10, Ba false), (11, .p 11 0), (12, .d (.sl (nd (n)) (dg (digs (n))))), (13, .p 13 0), (14, Ia x), (15, Ba true), (16, .p 16 0), (17, .p 17 0), (18, Ia (-1)), (22, Ba false), (51, Ba vb51), (64, Ba true)] [(6, [Hw n, Lw n]), (11, [Bv neg, Hw n, Lw n, Iv exp]), (13, [Bv (decide (x < 0)), Hw x.natAbs, Lw x.natAbs, Iv 0]), (16, [Bv true, Hw a, Lw a, Iv y]), (17, [Bv true, .sl (nd (a)) (dg (digs (a))), Iv y])] (by kernel_rfl) (by kernel_rfl) (by kernel_rfl) ?_
      refine seq_n ?_
      refine vc_seq ?_
      refine vc_seqr rfl ?_
      refine vcI_q 1 (by kernel_rfl) ?_
      refine vcI_call (f := 21) (ds := [.agg [.v (.bool (decide (x < 0))), .v (.int .u64 (hiW (x.natAbs))), .v (.int .u64 (loW (x.natAbs))), .v (.int .i64 0)]]) (dst := (some 70)) (by kernel_rfl) (c_May (Nat.lt_trans hxE e34_lt)) ?_
      rintro _ ⟨w, rfl, hw⟩
      have hwt : w = true := hw.2 ⟨hxE, by decide, by decide, fun h k => by have : x < 0 := (by simpa using h); omega⟩
      refine vcI_un (op := .not) (a := .bool w) (dst := (some 71)) (by kernel_rfl) ?_
      refine all_false ((by rw [hwt]; simp)) ?_
      refine vcI_q 2 (by kernel_rfl) ?_
      refine vcI_un (op := .not) (a := .bool true) (dst := (some 74)) (by kernel_rfl) ?_
      refine all_false ((by simp)) ?_
      refine vcI_q 4 (by kernel_rfl) ?_
      refine vcI_bin (op := .neq) (t := 3) (a := .int .i64 x) (b := .int .i64 x) (dst := (some 79)) (by kernel_rfl) ?_
      refine all_false ((by simp)) ?_
      refine vcI_q 4 (by kernel_rfl) ?_
      refine vcI_bin (op := .neq) (t := 3) (a := .int .i64 0) (b := .int .i64 0) (dst := (some 84)) (by kernel_rfl) ?_
      refine all_false ((by simp)) ?_
      refine vcI_q 3 (by kernel_rfl) ?_
      refine vcI_call (f := 28) (ds := [.agg [.v (.bool true), .v (.int .u64 (hiW (a))), .v (.int .u64 (loW (a))), .v (.int .i64 y)]]) (dst := (some 88)) (by kernel_rfl) (c_SignT haB) ?_
      rintro _ rfl
      refine vcI_q 1 (by kernel_rfl) ?_
      refine vcI_bin (op := .neq) (t := 3) (a := .int .i64 (sgnT true a)) (b := .int .i64 (-1)) (dst := (some 90)) (by kernel_rfl) ?_
      refine all_false ((by rw [← hsg]; simp)) ?_
      refine vcI_q 3 (by kernel_rfl) ?_
      refine vcI_call (f := 25) (ds := [.agg [.v (.bool true), .v (.int .u64 (hiW (a))), .v (.int .u64 (loW (a))), .v (.int .i64 y)]]) (dst := (some 94)) (by kernel_rfl) (c_Zero haB) ?_
      rintro _ ⟨z, rfl, hz⟩
      refine vcI_q 1 (by kernel_rfl) ?_
      refine vcI_bin (op := .eql) (t := 3) (a := .int .i64 (-1)) (b := .int .i64 0) (dst := (some 96)) (by kernel_rfl) ?_
      intro c96 hc96
      refine vcI_bin (op := .neq) (t := 4) (a := .bool z) (b := .bool c96) (dst := (some 97)) (by kernel_rfl) ?_
      refine all_false ((zero_eq hz hc96 hsg)) ?_
      refine vcI_q 3 (by kernel_rfl) ?_
      refine vcI_call (f := 22) (ds := [.agg [.v (.bool true), .v (.int .u64 (hiW (a))), .v (.int .u64 (loW (a))), .v (.int .i64 y)]]) (dst := (some 101)) (by kernel_rfl) (c_Neg haB) ?_
      rintro _ rfl
      refine vcI_q 1 (by kernel_rfl) ?_
      refine vcI_call (f := 15) (ds := [.agg [.v (.bool true), .sl (nd (a)) (dg (digs (a))), .v (.int .i64 y)]]) (dst := (some 103)) (by kernel_rfl) (c_rNeg) ?_
      rintro _ rfl
      refine vcI_call (f := 17) (ds := [.agg [.v (.bool ((!true && decide (a ≠ 0)))), .v (.int .u64 (hiW (a))), .v (.int .u64 (loW (a))), .v (.int .i64 y)], .agg [.v (.bool ((!true && decide (a ≠ 0)))), .sl (nd (a)) (dg (digs (a))), .v (.int .i64 y)]]) (dst := (some 104)) (by kernel_rfl) (c_LikeT haB) ?_
      rintro _ rfl
      refine vcI_un (op := .not) (a := .bool true) (dst := (some 105)) (by kernel_rfl) ?_
      refine all_false ((by simp)) ?_
      refine vcI_q 3 (by kernel_rfl) ?_
      refine vcI_call (f := 23) (ds := [.agg [.v (.bool true), .v (.int .u64 (hiW (a))), .v (.int .u64 (loW (a))), .v (.int .i64 y)]]) (dst := (some 109)) (by kernel_rfl) (c_Abs) ?_
      rintro _ rfl
      refine vcI_call (f := 28) (ds := [.agg [.v (.bool false), .v (.int .u64 (hiW (a))), .v (.int .u64 (loW (a))), .v (.int .i64 y)]]) (dst := (some 110)) (by kernel_rfl) (c_SignT haB) ?_
      rintro _ rfl
      refine vcI_bin (op := .lss) (t := 3) (a := .int .i64 (sgnT false a)) (b := .int .i64 0) (dst := (some 111)) (by kernel_rfl) ?_
      refine all_false ((by unfold sgnT; split <;> simp)) ?_
      refine vcI_q 3 (by kernel_rfl) ?_
      refine vcI_call (f := 23) (ds := [.agg [.v (.bool true), .v (.int .u64 (hiW (a))), .v (.int .u64 (loW (a))), .v (.int .i64 y)]]) (dst := (some 115)) (by kernel_rfl) (c_Abs) ?_
      rintro _ rfl
      refine vcI_q 1 (by kernel_rfl) ?_
      refine vcI_call (f := 18) (ds := [.agg [.v (.bool false), .v (.int .u64 (hiW (a))), .v (.int .u64 (loW (a))), .v (.int .i64 y)], .agg [.v (.bool true), .v (.int .u64 (hiW (a))), .v (.int .u64 (loW (a))), .v (.int .i64 y)]]) (dst := (some 117)) (by kernel_rfl) (c_decCmp ha ha (by omega) (by omega) (by omega) (by omega)) ?_
      rintro _ rfl
      refine vcI_bin (op := .lss) (t := 3) (a := .int .i64 (cmpZ false a y true a y)) (b := .int .i64 0) (dst := (some 118)) (by kernel_rfl) ?_
      refine all_false ((abs_ge true a y)) ?_
      refine vcI_q 1 (by kernel_rfl) ?_
      refine vcI_end 147 [(0, Ba neg), (2, Ia exp), (3, Ia x), (6, .p 6 0), (10, Ba false), (11, .p 11 0), (12, .d (.sl (nd (n)) (dg (digs (n))))), (13, .p 13 0), (16, .p 16 0), (17, .p 17 0), (22, Ba false), (51, Ba vb51), (64, Ba true), (119, Ba false)] [(6, [Hw n, Lw n]), (11, [Bv neg, Hw n, Lw n, Iv exp]), (13, [Bv (decide (x < 0)), Hw x.natAbs, Lw x.natAbs, Iv 0]), (16, [Bv true, Hw a, Lw a, Iv y]), (17, [Bv true, .sl (nd (a)) (dg (digs (a))), Iv y])] (by kernel_rfl) (by kernel_rfl) (by kernel_rfl) ?_
      refine vc_condf (by kernel_rfl) ?_
      refine vc_skip ?_
      refine seq_n ?_
      refine vc_seqr rfl ?_
      refine vcI_q 1 (by kernel_rfl) ?_
      refine vcI_call (f := 27) (ds := [.agg [.v (.bool true), .v (.int .u64 (hiW (a))), .v (.int .u64 (loW (a))), .v (.int .i64 y)]]) (dst := (some 122)) (by kernel_rfl) (c_Whole haB (by omega) (by omega)) ?_
      rintro _ ⟨v, ok, rfl, hy1', hy0'⟩
      refine vcI_q 5 (by kernel_rfl) ?_
      refine vcI_end 147 [(0, Ba neg), (2, Ia exp), (3, Ia x), (6, .p 6 0), (10, Ba false), (11, .p 11 0), (12, .d (.sl (nd (n)) (dg (digs (n))))), (13, .p 13 0), (16, .p 16 0), (17, .p 17 0), (19, Ia v), (20, Ba ok), (22, Ba false), (51, Ba vb51), (64, Ba true), (119, Ba false)] [(6, [Hw n, Lw n]), (11, [Bv neg, Hw n, Lw n, Iv exp]), (13, [Bv (decide (x < 0)), Hw x.natAbs, Lw x.natAbs, Iv 0]), (16, [Bv true, Hw a, Lw a, Iv y]), (17, [Bv true, .sl (nd (a)) (dg (digs (a))), Iv y])] (by kernel_rfl) (by kernel_rfl) (by kernel_rfl) ?_
      refine vc_seqr rfl ?_
      refine vcI_q 2 (by kernel_rfl) ?_
      refine vcI_call (f := 29) (ds := [.agg [.v (.bool true), .sl (nd (a)) (dg (digs (a))), .v (.int .i64 y)]]) (dst := (some 127)) (by kernel_rfl) (c_integral hna (by omega) (by omega)) ?_
      rintro _ ⟨q, rfl, hq⟩
      have hokq : ok = q := by rw [Bool.eq_iff_iff, hq]; exact whole_iff hy1' hy0'
      refine vcI_bin (op := .eql) (t := 4) (a := .bool ok) (b := .bool q) (dst := (some 128)) (by kernel_rfl) ?_
      refine all_true (hokq) ?_
      refine vcI_q 2 (by kernel_rfl) ?_
      refine vcI_un (op := .not) (a := .bool ok) (dst := (some 131)) (by kernel_rfl) ?_
      intro c131 hc131
      refine vcI_q 1 (by kernel_rfl) ?_
      cases c131
      · replace hc131 := bf hc131
        refine vcI_q 6 (by kernel_rfl) ?_
        have hok1 : ok = true := by simpa using hc131
        have hok := tru hok1
        obtain ⟨hv1, hv2⟩ := hy1' hok1
        unfold inI at hv2
        obtain rfl : ok = true := hok.2 (trivial)
        refine vcI_q 1 (by kernel_rfl) ?_
        refine vcI_call (f := 24) (ds := [.v (.int .i64 v)]) (dst := (some 140)) (by kernel_rfl) (c_Int hv2.1 (by omega)) ?_
        rintro _ rfl
        refine vcI_q 1 (by kernel_rfl) ?_
        refine vcI_call (f := 18) (ds := [.agg [.v (.bool (decide (v < 0))), .v (.int .u64 (hiW (v.natAbs))), .v (.int .u64 (loW (v.natAbs))), .v (.int .i64 0)], .agg [.v (.bool true), .v (.int .u64 (hiW (a))), .v (.int .u64 (loW (a))), .v (.int .i64 y)]]) (dst := (some 142)) (by kernel_rfl) (c_decCmp (by unfold E34; omega) ha (by decide) (by decide) (by omega) (by omega)) ?_
        rintro _ rfl
        refine vcI_bin (op := .eql) (t := 3) (a := .int .i64 (cmpZ (decide (v < 0)) v.natAbs 0 true a y)) (b := .int .i64 0) (dst := (some 143)) (by kernel_rfl) ?_
        intro c143 hc143
        refine vcI_q 4 (by kernel_rfl) ?_
        refine vcI_end 147 [(0, Ba neg), (2, Ia exp), (3, Ia x), (6, .p 6 0), (10, Ba c143), (11, .p 11 0), (12, .d (.sl (nd (n)) (dg (digs (n))))), (13, .p 13 0), (16, .p 16 0), (17, .p 17 0), (22, Ba false), (51, Ba vb51), (64, Ba true), (119, Ba false)] [(6, [Hw n, Lw n]), (11, [Bv neg, Hw n, Lw n, Iv exp]), (13, [Bv (decide (x < 0)), Hw x.natAbs, Lw x.natAbs, Iv 0]), (16, [Bv true, Hw a, Lw a, Iv y]), (17, [Bv true, .sl (nd (a)) (dg (digs (a))), Iv y])] (by kernel_rfl) (by kernel_rfl) (by kernel_rfl) ?_
        refine vc_ret ?_
        refine ret_1 (d := .v (.bool c143)) (by kernel_rfl) ?_
        rw [hc143.2 (by rw [cmpZ_swap, cmp_int hv1, sgnV_abs, cmpI_eq.2 rfl]; rfl)]
      · replace hc131 := bt hc131
        refine vcI_q 1 (by kernel_rfl) ?_
        refine vcI_bin (op := .eql) (t := 3) (a := .int .i64 v) (b := .int .i64 0) (dst := (some 134)) (by kernel_rfl) ?_
        have hv0 : v = 0 := (hy0' (by simpa using hc131)).1
        intro c134 hc134
        refine vcI_q 2 (by kernel_rfl) ?_
        obtain rfl : c134 = true := hc134.2 (hv0)
        refine vcI_q 11 (by kernel_rfl) ?_
        refine vcI_end 147 [(0, Ba neg), (2, Ia exp), (3, Ia x), (6, .p 6 0), (10, Ba true), (11, .p 11 0), (12, .d (.sl (nd (n)) (dg (digs (n))))), (13, .p 13 0), (16, .p 16 0), (17, .p 17 0), (22, Ba false), (51, Ba vb51), (64, Ba true), (119, Ba false)] [(6, [Hw n, Lw n]), (11, [Bv neg, Hw n, Lw n, Iv exp]), (13, [Bv (decide (x < 0)), Hw x.natAbs, Lw x.natAbs, Iv 0]), (16, [Bv true, Hw a, Lw a, Iv y]), (17, [Bv true, .sl (nd (a)) (dg (digs (a))), Iv y])] (by kernel_rfl) (by kernel_rfl) (by kernel_rfl) ?_
        refine vc_ret ?_
        refine ret_1 (d := .v (.bool true)) (by kernel_rfl) ?_
        rfl
  intro hmid
  refine vc_seqr rfl ?_
  refine vcI_q 1 (by kernel_rfl) ?_
  refine vcI_call (f := 21) (ds := [.agg [.v (.bool neg), .v (.int .u64 (hiW (n))), .v (.int .u64 (loW (n))), .v (.int .i64 exp)]]) (dst := (some 30)) (by kernel_rfl) (c_May hn) ?_
  rintro _ ⟨w, rfl, hw⟩
  have hE := @E34_nd n
  refine vcI_q 2 (by kernel_rfl) ?_
  refine vcI_bin (op := .leq) (t := 3) (a := .int .i64 (((nd (n) : Nat) : Int))) (b := .int .i64 34) (dst := (some 33)) (by kernel_rfl) ?_
  intro c33 hc33
  refine vcI_q 1 (by kernel_rfl) ?_
  cases c33
  · replace hc33 := bf hc33
    refine vcI_q 16 (by kernel_rfl) ?_
    refine vcI_bin (op := .neq) (t := 4) (a := .bool w) (b := .bool false) (dst := (some 51)) (by kernel_rfl) ?_
    intro c51 hc51
    refine vcI_end 147 [(0, Ba neg), (2, Ia exp), (3, Ia x), (6, .p 6 0), (9, .p 9 0), (10, Ba false), (11, .p 11 0), (12, .d (.sl (nd (n)) (dg (digs (n))))), (22, Ba false), (51, Ba c51)] [(6, [Hw n, Lw n]), (9, [Bv g1, Hw n1, Lw n1, Iv e1]), (11, [Bv neg, Hw n, Lw n, Iv exp])] (by kernel_rfl) (by kernel_rfl) (by kernel_rfl) ?_
    obtain rfl : c51 = false := bff hc51 ((may_no hw fun h => by have := h.1; omega))
    refine vc_condf (by kernel_rfl) ?_
    refine vc_skip ?_
    refine mid_n hmid false (trivial) (by kernel_rfl)
  · replace hc33 := bt hc33
    refine vcI_q 1 (by kernel_rfl) ?_
    refine vcI_bin (op := .geq) (t := 3) (a := .int .i64 exp) (b := .int .i64 (-6176)) (dst := (some 36)) (by kernel_rfl) ?_
    intro c36 hc36
    refine vcI_q 2 (by kernel_rfl) ?_
    cases c36
    · replace hc36 := bf hc36
      refine vcI_q 12 (by kernel_rfl) ?_
      refine vcI_bin (op := .neq) (t := 4) (a := .bool w) (b := .bool false) (dst := (some 51)) (by kernel_rfl) ?_
      intro c51 hc51
      refine vcI_end 147 [(0, Ba neg), (2, Ia exp), (3, Ia x), (6, .p 6 0), (9, .p 9 0), (10, Ba false), (11, .p 11 0), (12, .d (.sl (nd (n)) (dg (digs (n))))), (22, Ba false), (51, Ba c51)] [(6, [Hw n, Lw n]), (9, [Bv g1, Hw n1, Lw n1, Iv e1]), (11, [Bv neg, Hw n, Lw n, Iv exp])] (by kernel_rfl) (by kernel_rfl) (by kernel_rfl) ?_
      obtain rfl : c51 = false := bff hc51 ((may_no hw fun h => by have := h.2.1; omega))
      refine vc_condf (by kernel_rfl) ?_
      refine vc_skip ?_
      refine mid_n hmid false (trivial) (by kernel_rfl)
    · replace hc36 := bt hc36
      refine vcI_q 1 (by kernel_rfl) ?_
      refine vcI_bin (op := .leq) (t := 3) (a := .int .i64 exp) (b := .int .i64 6111) (dst := (some 40)) (by kernel_rfl) ?_
      intro c40 hc40
      refine vcI_q 2 (by kernel_rfl) ?_
      cases c40
      · replace hc40 := bf hc40
        refine vcI_q 8 (by kernel_rfl) ?_
        refine vcI_bin (op := .neq) (t := 4) (a := .bool w) (b := .bool false) (dst := (some 51)) (by kernel_rfl) ?_
        intro c51 hc51
        refine vcI_end 147 [(0, Ba neg), (2, Ia exp), (3, Ia x), (6, .p 6 0), (9, .p 9 0), (10, Ba false), (11, .p 11 0), (12, .d (.sl (nd (n)) (dg (digs (n))))), (22, Ba false), (51, Ba c51)] [(6, [Hw n, Lw n]), (9, [Bv g1, Hw n1, Lw n1, Iv e1]), (11, [Bv neg, Hw n, Lw n, Iv exp])] (by kernel_rfl) (by kernel_rfl) (by kernel_rfl) ?_
        obtain rfl : c51 = false := bff hc51 ((may_no hw fun h => by have := h.2.2.1; omega))
        refine vc_condf (by kernel_rfl) ?_
        refine vc_skip ?_
        refine mid_n hmid false (trivial) (by kernel_rfl)
      · replace hc40 := bt hc40
        refine vcI_q 2 (by kernel_rfl) ?_
        cases neg
        · skip
          refine vcI_q 4 (by kernel_rfl) ?_
          refine vcI_un (op := .not) (a := .bool false) (dst := (some 49)) (by kernel_rfl) ?_
          intro c49 hc49
          refine vcI_q 1 (by kernel_rfl) ?_
          refine vcI_bin (op := .neq) (t := 4) (a := .bool w) (b := .bool c49) (dst := (some 51)) (by kernel_rfl) ?_
          intro c51 hc51
          refine vcI_end 147 [(0, Ba false), (2, Ia exp), (3, Ia x), (6, .p 6 0), (9, .p 9 0), (10, Ba false), (11, .p 11 0), (12, .d (.sl (nd (n)) (dg (digs (n))))), (22, Ba false), (51, Ba c51)] [(6, [Hw n, Lw n]), (9, [Bv g1, Hw n1, Lw n1, Iv e1]), (11, [Bv false, Hw n, Lw n, Iv exp])] (by kernel_rfl) (by kernel_rfl) (by kernel_rfl) ?_
          obtain rfl : c51 = false := bff hc51 ((may_eq hw (by rw [hc49]; exact ⟨fun _ => ⟨by omega, hc36, hc40, fun h => by cases h⟩, fun _ => rfl⟩)))
          refine vc_condf (by kernel_rfl) ?_
          refine vc_skip ?_
          refine mid_n hmid false (trivial) (by kernel_rfl)
        · skip
          refine vcI_q 2 (by kernel_rfl) ?_
          refine vcI_bin (op := .eql) (t := 3) (a := .int .i64 (((nd (n) : Nat) : Int))) (b := .int .i64 0) (dst := (some 47)) (by kernel_rfl) ?_
          intro c47 hc47
          refine vcI_q 1 (by kernel_rfl) ?_
          refine vcI_un (op := .not) (a := .bool c47) (dst := (some 49)) (by kernel_rfl) ?_
          intro c49 hc49
          refine vcI_q 1 (by kernel_rfl) ?_
          refine vcI_bin (op := .neq) (t := 4) (a := .bool w) (b := .bool c49) (dst := (some 51)) (by kernel_rfl) ?_
          intro c51 hc51
          refine vcI_end 147 [(0, Ba true), (2, Ia exp), (3, Ia x), (6, .p 6 0), (9, .p 9 0), (10, Ba false), (11, .p 11 0), (12, .d (.sl (nd (n)) (dg (digs (n))))), (22, Ba false), (51, Ba c51)] [(6, [Hw n, Lw n]), (9, [Bv g1, Hw n1, Lw n1, Iv e1]), (11, [Bv true, Hw n, Lw n, Iv exp])] (by kernel_rfl) (by kernel_rfl) (by kernel_rfl) ?_
          obtain rfl : c51 = false := bff hc51 ((may_eq hw (by rw [hc49]; exact may_neg (by omega) hc36 hc40 hc47)))
          refine vc_condf (by kernel_rfl) ?_
          refine vc_skip ?_
          refine mid_n hmid false (trivial) (by kernel_rfl)

end Go.Proofs.Ytgphodlkaknkcaa
