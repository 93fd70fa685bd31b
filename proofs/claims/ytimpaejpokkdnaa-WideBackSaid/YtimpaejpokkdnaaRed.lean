/-
  wide.Read: the number of a text.
-/
import Derived.Test.YtimpaejpokkdnaaTxt
namespace Go.Proofs.Ytimpaejpokkdnaa
open Go.RowKit
set_option linter.unusedVariables false
set_option linter.unusedSimpArgs false
set_option maxRecDepth 100000

/-- A text's byte. -/
def bAt (s : ByteArray) (k : Nat) : Nat := ((s.data[k]?).getD 0).toNat
theorem bAt_lt (s : ByteArray) (k : Nat) : bAt s k < 256 := UInt8.toNat_lt _
theorem bAt_get {s : ByteArray} {k : Nat} (h : k < s.size) : (s[k]'h).toNat = bAt s k := by
  unfold bAt
  have hk : k < s.data.size := h
  have : (s.data[k]?).getD 0 = s.data[k]'hk := by rw [Array.getElem?_eq_getElem hk]; rfl
  rw [this]
  rfl
theorem NextIs.low {b : ByteArray} {p c : Int} {w : Nat} (h : NextIs b p c w) (h0 : 0 ≤ p) (hlt : p < (b.size : Int)) (ha : bAt b p.toNat < 128) : c = bAt b p.toNat ∧ w = 1 := by
  have hl : p.toNat < b.size := by omega
  have := decode_ascii b p.toNat hl (by rw [bAt_get hl]; exact ha)
  have h1 := h.c
  have h2 := h.w
  rw [this] at h1 h2
  rw [bAt_get hl] at h1
  exact ⟨h1.symm, h2.symm⟩
theorem NextIs.high {b : ByteArray} {p c : Int} {w : Nat} (h : NextIs b p c w) (h0 : 0 ≤ p) (hlt : p < (b.size : Int)) (ha : 128 ≤ bAt b p.toNat) : 128 ≤ c := by
  have hl : p.toNat < b.size := by omega
  have := (decode_high b p.toNat hl (by rw [bAt_get hl]; exact ha)).1
  have h1 := h.c
  omega
/-- The value of a text's first digits. -/
def pv (s : ByteArray) : Nat → Nat
  | 0 => 0
  | k + 1 => pv s k * 10 + (bAt s k - 48)
def isD (s : ByteArray) (k : Nat) : Prop := 48 ≤ bAt s k ∧ bAt s k ≤ 57
/-- A text of digits alone. -/
def Dig (s : ByteArray) : Prop := 0 < s.size ∧ ∀ k, k < s.size → isD s k
def RdOk (s : ByteArray) : Prop := Dig s ∧ pv s s.size < B128
open Classical in
noncomputable def rdV (s : ByteArray) : Nat := if RdOk s then pv s s.size else 0
theorem pv_mono (s : ByteArray) {j k : Nat} (h : j ≤ k) : pv s j ≤ pv s k := by
  induction h with
  | refl => exact Nat.le_refl _
  | step h ih => rw [pv]; omega
/-- What Read says. -/
def RdP (s : ByteArray) (r : DV) : Prop := ∃ b, r = .tup [dU (rdV s), .v (.bool b)] ∧ (b = true ↔ RdOk s)
theorem RdP_no {s : ByteArray} (h : ¬ RdOk s) : RdP s (.tup [.agg [.v (.int .u64 0), .v (.int .u64 0)], .v (.bool false)]) := ⟨false, by rw [rdV, if_neg h]; rfl, by simp [h]⟩
theorem RdP_yes {s : ByteArray} {m : Nat} (h : RdOk s) (hm : m = pv s s.size) : RdP s (.tup [dU m, .v (.bool true)]) := ⟨true, by rw [rdV, if_pos h, hm], by simp [h]⟩
theorem rd_size {s : ByteArray} (h : ¬ s = ⟨#[]⟩) : 0 < s.size := by
  apply Nat.pos_of_ne_zero
  intro e
  apply h
  obtain ⟨d⟩ := s
  have : d = #[] := Array.eq_empty_of_size_eq_zero e
  rw [this]
theorem rd_digit {s : ByteArray} {p c : Int} {w : Nat} (h : NextIs s p c w) (h0 : 0 ≤ p) (hlt : p < (s.size : Int)) : 48 ≤ c ∧ c ≤ 57 ↔ isD s p.toNat := by
  unfold isD
  by_cases ha : bAt s p.toNat < 128
  · have := (h.low h0 hlt ha).1
    omega
  · have := h.high h0 hlt (by omega)
    omega
theorem isD_next {s : ByteArray} {a b : Nat} (h : ∀ k, k < a → isD s k) (hd : isD s a) (hb : b = a + 1) : ∀ k, k < b → isD s k := fun k hk => by
  by_cases e : k = a
  · rw [e]; exact hd
  · exact h k (by omega)
theorem rd_big1 {m d : Nat} (h : ((m * 10 / B128 : Nat) : Int) ≠ 0) : B128 ≤ m * 10 + d := by
  unfold B128 at *
  omega
theorem rd_sm1 {m : Nat} (h : ((m * 10 / B128 : Nat) : Int) = 0) : m * 10 < B128 := by
  unfold B128 at *
  omega
theorem rd_big2 {m d : Nat} (e : m * 10 < B128) (h : (((m * 10 % B128 + d) / B128 : Nat) : Int) ≠ 0) : B128 ≤ m * 10 + d := by
  rw [Nat.mod_eq_of_lt e] at h
  unfold B128 at *
  omega
theorem rd_sm2 {m d : Nat} (e : m * 10 < B128) (h : (((m * 10 % B128 + d) / B128 : Nat) : Int) = 0) : (m * 10 % B128 + d) % B128 = m * 10 + d ∧ m * 10 + d < B128 := by
  rw [Nat.mod_eq_of_lt e] at h ⊢
  have : m * 10 + d < B128 := by
    unfold B128 at *
    omega
  exact ⟨Nat.mod_eq_of_lt this, this⟩
theorem cw_OfN' {n : Nat} {x : Int} (hx : x = (n : Int)) (hn : n < 18446744073709551616) : HasC Try.prog 25 [.v (.int .u64 x)] (fun y => y = dU n) := by
  subst hx
  exact cw_OfN hn

set_option maxHeartbeats 800000 in
theorem c_Read {s : ByteArray} : HasC Try.prog 14 [.v (.string s)] (RdP s) := by
  refine HasC.of [] (fn := Try.f14) tyOk mixed (fun args w => Try.call14 args w) Try.func14 rfl (by kernel_rfl) (Nat.le_of_ble_eq_true rfl) (by by_cases h : RdOk s; exact ⟨_, RdP_yes h rfl⟩; exact ⟨_, RdP_no h⟩) ?_
  refine vc_seqr rfl (iQ 2 (iE 48 [(0, .d (Sv s)), (2, .p 2 0), (3, Ba false)] [(2, [Uv 0, Uv 0])] ?_))
  refine vc_seq (vc_seqr rfl (iQ 1 (iB .eql 9 (.string s) (.string (⟨#[]⟩)) (some 11) ?_)))
  intro c11 hc11
  refine iE 48 [(0, .d (Sv s)), (2, .p 2 0), (3, Ba false), (11, Ba c11)] [(2, [Uv 0, Uv 0])] ?_
  cases c11
  · replace hc11 := bf hc11
    have hsz := rd_size hc11
    refine iF (vc_skip (seq_n (vc_seqr rfl (iQ 1 (iE 48 [(0, .d (Sv s)), (2, .p 2 0), (3, Ba false), (4, .p 4 0), (11, Ba false)] [(2, [Uv 0, Uv 0]), (4, [Uv 0, Uv 0])] ?_)))))
    refine vc_seq (vc_seqr rfl (iQ 1 (iG (s) 14 ?_)))
    refine iE 48 [(0, .d (Sv s)), (2, .p 2 0), (3, Ba false), (4, .p 4 0), (11, Ba false), (14, .p 14 0)] [(2, [Uv 0, Uv 0]), (4, [Uv 0, Uv 0]), (14, [.tup [Sv s, Iv 0]])] ?_
    refine vc_block (vc_loop 48 (fun (vcx : Nat × Int) => match vcx with | (m, p) => [(0, .d (Sv s)), (2, .p 2 0), (3, Ba false), (4, .p 4 0), (11, Ba false), (14, .p 14 0)]) (fun (vcx : Nat × Int) => match vcx with | (m, p) => [(2, [Uv 0, Uv 0]), (4, [Hw m, Lw m]), (14, [.tup [Sv s, Iv p]])]) (fun (vcx : Nat × Int) => match vcx with | (m, p) => 0 ≤ p ∧ p ≤ s.size ∧ m = pv s p.toNat ∧ m < B128 ∧ ∀ k, k < p.toNat → isD s k) (fun (vcx : Nat × Int) => match vcx with | (m, p) => s.size - p.toNat) ((0, 0)) (⟨by omega, by omega, rfl, by decide, fun k h => by omega⟩) (by kernel_rfl) (by kernel_rfl) ?_)
    rintro ⟨m, p⟩ hinv
    simp only at hinv
    obtain ⟨h1, h2, h3, h4, h5⟩ := hinv
    refine vc_seqr rfl ?_
    refine iN 14 (s) (p) 15 (by omega) ?_ ?_
    · intro hp15 c15 q15 w15 hn15 hq15
      refine iQ 1 (iE 48 [(0, .d (Sv s)), (2, .p 2 0), (3, Ba false), (4, .p 4 0), (11, Ba false), (14, .p 14 0), (15, .d (.tup [Bv true, Iv p, .v (.int .i32 c15)])), (16, Ba true)] [(2, [Uv 0, Uv 0]), (4, [Hw m, Lw m]), (14, [.tup [Sv s, Iv q15]])] ?_)
      have key : ¬ isD s p.toNat → ¬ RdOk s := fun hn h => hn (h.1.2 _ (by omega))
      have hcd : 48 ≤ c15 ∧ c15 ≤ 57 ↔ isD s p.toNat := rd_digit hn15 h1 hp15
      refine vc_seq (iT (vc_skip (seq_n (vc_block (vc_seqr rfl (iQ 2 (iE 48 [(0, .d (Sv s)), (2, .p 2 0), (3, Ba false), (4, .p 4 0), (6, .d (.v (.int .i32 c15))), (11, Ba false), (14, .p 14 0), (15, .d (.tup [Bv true, Iv p, .v (.int .i32 c15)])), (16, Ba true)] [(2, [Uv 0, Uv 0]), (4, [Hw m, Lw m]), (14, [.tup [Sv s, Iv q15]])] ?_)))))))
      refine vc_seq (vc_seqr rfl (iQ 1 (iB .lss 21 (.int .i32 c15) (.int .i32 48) (some 19) ?_)))
      intro c19 hc19
      refine iQ 1 ?_
      cases c19
      · replace hc19 := bf hc19
        refine iQ 1 (iB .gtr 21 (.int .i32 c15) (.int .i32 57) (some 22) ?_)
        intro c22 hc22
        refine iQ 1 (iE 48 [(0, .d (Sv s)), (2, .p 2 0), (3, Ba false), (4, .p 4 0), (6, .d (.v (.int .i32 c15))), (11, Ba false), (14, .p 14 0), (15, .d (.tup [Bv true, Iv p, .v (.int .i32 c15)])), (16, Ba true), (23, Ba c22)] [(2, [Uv 0, Uv 0]), (4, [Hw m, Lw m]), (14, [.tup [Sv s, Iv q15]])] ?_)
        cases c22
        · replace hc22 := bf hc22
          have hd := hcd.1 ⟨by omega, by omega⟩
          obtain ⟨hc, hw⟩ := hn15.low h1 hp15 (by have := hd.2; omega)
          have hb1 := hd.1
          have hb2 := hd.2
          refine iF (vc_skip (seq_n (vc_seqr rfl (iQ 1 (iC 27 [.agg [Hw m, Lw m], Uv 10] (some 27) (cw_MulWord (n := 10) h4 (by decide)) ?_)))))
          rintro _ rfl
          refine iQ 6 (iE 48 [(0, .d (Sv s)), (2, .p 2 0), (3, Ba false), (4, .p 4 0), (6, .d (.v (.int .i32 c15))), (7, .d (Uv (((m * 10 / B128 : Nat) : Int)))), (8, .p 8 0), (11, Ba false), (14, .p 14 0), (15, .d (.tup [Bv true, Iv p, .v (.int .i32 c15)])), (16, Ba true), (23, Ba false)] [(2, [Uv 0, Uv 0]), (4, [Hw m, Lw m]), (8, [Hw (m * 10 % B128), Lw (m * 10 % B128)]), (14, [.tup [Sv s, Iv q15]])] ?_)
          refine vc_seqr rfl (iQ 2 (iB .sub 21 (.int .i32 c15) (.int .i32 48) (some 33) ?_))
          intro z33 hz33
          try replace hz33 := hz33.i32 (by omega)
          refine iV 21 22 (.int .i32 z33) (some 34) ?_
          intro z34 hz34
          try replace hz34 := hz34.u64 (by omega)
          refine iC 25 [Uv z34] (some 35) (cw_OfN' (n := bAt s p.toNat - 48) (x := z34) (by omega) (by omega)) ?_
          rintro _ rfl
          refine iC 19 [.agg [Hw (m * 10 % B128), Lw (m * 10 % B128)], .agg [Hw (bAt s p.toNat - 48), Lw (bAt s p.toNat - 48)]] (some 36) (cw_Add (mod_lt128 _) (by unfold B128; omega)) ?_
          rintro _ rfl
          have hstep : pv s (p.toNat + 1) = m * 10 + (bAt s p.toNat - 48) := by rw [pv, ← h3]
          have big : B128 ≤ m * 10 + (bAt s p.toNat - 48) → ¬ RdOk s := fun hb h => by have h6 := pv_mono s (show p.toNat + 1 ≤ s.size by omega); have h7 := h.2; omega
          refine iQ 5 (iE 48 [(0, .d (Sv s)), (2, .p 2 0), (3, Ba false), (4, .p 4 0), (6, .d (.v (.int .i32 c15))), (7, .d (Uv (((m * 10 / B128 : Nat) : Int)))), (8, .p 8 0), (9, .d (Uv ((((m * 10 % B128 + (bAt s p.toNat - 48)) / B128 : Nat) : Int)))), (11, Ba false), (14, .p 14 0), (15, .d (.tup [Bv true, Iv p, .v (.int .i32 c15)])), (16, Ba true), (23, Ba false)] [(2, [Uv 0, Uv 0]), (4, [Hw m, Lw m]), (8, [Hw ((m * 10 % B128 + (bAt s p.toNat - 48)) % B128), Lw ((m * 10 % B128 + (bAt s p.toNat - 48)) % B128)]), (14, [.tup [Sv s, Iv q15]])] ?_)
          refine vc_seq (vc_seqr rfl (iQ 1 (iB .neq 22 (.int .u64 (((m * 10 / B128 : Nat) : Int))) (.int .u64 0) (some 40) ?_)))
          intro c40 hc40
          refine iQ 1 ?_
          cases c40
          · replace hc40 := bf hc40
            refine iQ 1 (iB .neq 22 (.int .u64 ((((m * 10 % B128 + (bAt s p.toNat - 48)) / B128 : Nat) : Int))) (.int .u64 0) (some 43) ?_)
            have e1 := rd_sm1 (m := m) (by omega)
            intro c43 hc43
            refine iQ 1 (iE 48 [(0, .d (Sv s)), (2, .p 2 0), (3, Ba false), (4, .p 4 0), (6, .d (.v (.int .i32 c15))), (7, .d (Uv (((m * 10 / B128 : Nat) : Int)))), (8, .p 8 0), (9, .d (Uv ((((m * 10 % B128 + (bAt s p.toNat - 48)) / B128 : Nat) : Int)))), (11, Ba false), (14, .p 14 0), (15, .d (.tup [Bv true, Iv p, .v (.int .i32 c15)])), (16, Ba true), (23, Ba false), (44, Ba c43)] [(2, [Uv 0, Uv 0]), (4, [Hw m, Lw m]), (8, [Hw ((m * 10 % B128 + (bAt s p.toNat - 48)) % B128), Lw ((m * 10 % B128 + (bAt s p.toNat - 48)) % B128)]), (14, [.tup [Sv s, Iv q15]])] ?_)
            cases c43
            · replace hc43 := bf hc43
              have e2 := rd_sm2 (m := m) (d := bAt s p.toNat - 48) e1 (by omega)
              refine iF (vc_skip (seq_n (vc_reg rfl (iQ 2 (iE 48 [(0, .d (Sv s)), (2, .p 2 0), (3, Ba false), (4, .p 4 0), (6, .d (.v (.int .i32 c15))), (7, .d (Uv (((m * 10 / B128 : Nat) : Int)))), (8, .p 8 0), (9, .d (Uv ((((m * 10 % B128 + (bAt s p.toNat - 48)) / B128 : Nat) : Int)))), (11, Ba false), (14, .p 14 0), (15, .d (.tup [Bv true, Iv p, .v (.int .i32 c15)])), (16, Ba true), (23, Ba false), (44, Ba false)] [(2, [Uv 0, Uv 0]), (4, [Hw ((m * 10 % B128 + (bAt s p.toNat - 48)) % B128), Lw ((m * 10 % B128 + (bAt s p.toNat - 48)) % B128)]), (8, [Hw ((m * 10 % B128 + (bAt s p.toNat - 48)) % B128), Lw ((m * 10 % B128 + (bAt s p.toNat - 48)) % B128)]), (14, [.tup [Sv s, Iv q15]])] ?_)))))
              refine block_n ?_
              refine loop_n ((m * 10 % B128 + (bAt s p.toNat - 48)) % B128, q15) (⟨by omega, by omega, by rw [show q15.toNat = p.toNat + 1 by omega, hstep]; exact e2.1, e2.1 ▸ e2.2, isD_next h5 hd (by omega)⟩) (by show s.size - q15.toNat < s.size - p.toNat; omega) (by kernel_rfl) (by kernel_rfl)
            · replace hc43 := bt hc43
              refine iT (vc_seqr rfl (iQ 3 (iE 48 [(0, .d (Sv s)), (2, .p 2 0), (3, Ba false), (4, .p 4 0), (6, .d (.v (.int .i32 c15))), (7, .d (Uv (((m * 10 / B128 : Nat) : Int)))), (8, .p 8 0), (9, .d (Uv ((((m * 10 % B128 + (bAt s p.toNat - 48)) / B128 : Nat) : Int)))), (11, Ba false), (14, .p 14 0), (15, .d (.tup [Bv true, Iv p, .v (.int .i32 c15)])), (16, Ba true), (23, Ba false), (44, Ba true)] [(2, [Uv 0, Uv 0]), (4, [Hw m, Lw m]), (8, [Hw ((m * 10 % B128 + (bAt s p.toNat - 48)) % B128), Lw ((m * 10 % B128 + (bAt s p.toNat - 48)) % B128)]), (14, [.tup [Sv s, Iv q15]])] ?_)))
              refine vc_ret (seq_r (block_r (loop_r (block_r (seq_r (iS (.agg [Uv 0, Uv 0]) (Bv false) [] ?_))))))
              exact RdP_no (big (rd_big2 e1 (by omega)))
          · replace hc40 := bt hc40
            refine iQ 3 (iE 48 [(0, .d (Sv s)), (2, .p 2 0), (3, Ba false), (4, .p 4 0), (6, .d (.v (.int .i32 c15))), (7, .d (Uv (((m * 10 / B128 : Nat) : Int)))), (8, .p 8 0), (9, .d (Uv ((((m * 10 % B128 + (bAt s p.toNat - 48)) / B128 : Nat) : Int)))), (11, Ba false), (14, .p 14 0), (15, .d (.tup [Bv true, Iv p, .v (.int .i32 c15)])), (16, Ba true), (23, Ba false), (44, Ba true)] [(2, [Uv 0, Uv 0]), (4, [Hw m, Lw m]), (8, [Hw ((m * 10 % B128 + (bAt s p.toNat - 48)) % B128), Lw ((m * 10 % B128 + (bAt s p.toNat - 48)) % B128)]), (14, [.tup [Sv s, Iv q15]])] ?_)
            refine iT (vc_seqr rfl (iQ 3 (iE 48 [(0, .d (Sv s)), (2, .p 2 0), (3, Ba false), (4, .p 4 0), (6, .d (.v (.int .i32 c15))), (7, .d (Uv (((m * 10 / B128 : Nat) : Int)))), (8, .p 8 0), (9, .d (Uv ((((m * 10 % B128 + (bAt s p.toNat - 48)) / B128 : Nat) : Int)))), (11, Ba false), (14, .p 14 0), (15, .d (.tup [Bv true, Iv p, .v (.int .i32 c15)])), (16, Ba true), (23, Ba false), (44, Ba true)] [(2, [Uv 0, Uv 0]), (4, [Hw m, Lw m]), (8, [Hw ((m * 10 % B128 + (bAt s p.toNat - 48)) % B128), Lw ((m * 10 % B128 + (bAt s p.toNat - 48)) % B128)]), (14, [.tup [Sv s, Iv q15]])] ?_)))
            refine vc_ret (seq_r (block_r (loop_r (block_r (seq_r (iS (.agg [Uv 0, Uv 0]) (Bv false) [] ?_))))))
            exact RdP_no (big (rd_big1 (by omega)))
        · replace hc22 := bt hc22
          refine iT (vc_seqr rfl (iQ 3 (iE 48 [(0, .d (Sv s)), (2, .p 2 0), (3, Ba false), (4, .p 4 0), (6, .d (.v (.int .i32 c15))), (11, Ba false), (14, .p 14 0), (15, .d (.tup [Bv true, Iv p, .v (.int .i32 c15)])), (16, Ba true), (23, Ba true)] [(2, [Uv 0, Uv 0]), (4, [Hw m, Lw m]), (14, [.tup [Sv s, Iv q15]])] ?_)))
          refine vc_ret (seq_r (block_r (loop_r (block_r (seq_r (iS (.agg [Uv 0, Uv 0]) (Bv false) [] ?_))))))
          exact RdP_no (key fun hd => by have := hcd.2 hd; omega)
      · replace hc19 := bt hc19
        refine iQ 3 (iE 48 [(0, .d (Sv s)), (2, .p 2 0), (3, Ba false), (4, .p 4 0), (6, .d (.v (.int .i32 c15))), (11, Ba false), (14, .p 14 0), (15, .d (.tup [Bv true, Iv p, .v (.int .i32 c15)])), (16, Ba true), (23, Ba true)] [(2, [Uv 0, Uv 0]), (4, [Hw m, Lw m]), (14, [.tup [Sv s, Iv q15]])] ?_)
        refine iT (vc_seqr rfl (iQ 3 (iE 48 [(0, .d (Sv s)), (2, .p 2 0), (3, Ba false), (4, .p 4 0), (6, .d (.v (.int .i32 c15))), (11, Ba false), (14, .p 14 0), (15, .d (.tup [Bv true, Iv p, .v (.int .i32 c15)])), (16, Ba true), (23, Ba true)] [(2, [Uv 0, Uv 0]), (4, [Hw m, Lw m]), (14, [.tup [Sv s, Iv q15]])] ?_)))
        refine vc_ret (seq_r (block_r (loop_r (block_r (seq_r (iS (.agg [Uv 0, Uv 0]) (Bv false) [] ?_))))))
        exact RdP_no (key fun hd => by have := hcd.2 hd; omega)
    · intro hp15 
      refine iQ 1 (iE 48 [(0, .d (Sv s)), (2, .p 2 0), (3, Ba false), (4, .p 4 0), (11, Ba false), (14, .p 14 0), (15, .d (.tup [Bv false])), (16, Ba false)] [(2, [Uv 0, Uv 0]), (4, [Hw m, Lw m]), (14, [.tup [Sv s, Iv p]])] ?_)
      have hp : p.toNat = s.size := by omega
      rw [hp] at h3 h5
      refine vc_seq (iF (vc_exit (seq_x (loop_x (block_x rfl (seq_n (vc_seqr rfl (iQ 3 (iE 48 [(0, .d (Sv s)), (2, .p 2 0), (3, Ba true), (4, .p 4 0), (11, Ba false), (14, .p 14 0), (15, .d (.tup [Bv false])), (16, Ba false)] [(2, [Hw m, Lw m]), (4, [Hw m, Lw m]), (14, [.tup [Sv s, Iv p]])] ?_)))))))))
      refine vc_ret (iS (.agg [Hw m, Lw m]) (Bv true) [] ?_)
      exact RdP_yes ⟨⟨hsz, h5⟩, by rw [← h3]; exact h4⟩ h3
  · replace hc11 := bt hc11
    refine iT (vc_seqr rfl (iQ 3 (iE 48 [(0, .d (Sv s)), (2, .p 2 0), (3, Ba false), (11, Ba true)] [(2, [Uv 0, Uv 0])] ?_)))
    refine vc_ret (seq_r (iS (.agg [Uv 0, Uv 0]) (Bv false) [] ?_))
    exact RdP_no (fun h => by have := h.1.1; rw [hc11] at this; cases this)
end Go.Proofs.Ytimpaejpokkdnaa
