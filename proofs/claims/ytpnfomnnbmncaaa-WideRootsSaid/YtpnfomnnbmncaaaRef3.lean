/-
  The contracts of casuistref01's Add, Shift, Cmp, Sub.
-/
import Derived.Test.YtpnfomnnbmncaaaRef2
import Derived.BigQuiet
import Derived.Deep.QuietTactic
namespace Go.Proofs.Ytpnfomnnbmncaaa
open Go.RowKit
set_option linter.unusedVariables false

theorem nd_mono {a b : Nat} (h : a ≤ b) : nd a ≤ nd b := nd_le _ _ (Nat.lt_of_le_of_lt h (lt_nd b))

/-- The state of Add behind k digits. -/
structure AddInv (a b k c : Nat) (ds : List Nat) : Prop where
  len : ds.length = k
  lt : ∀ d ∈ ds, d < 10
  cl : c ≤ 1
  val : dval ds + 10 ^ k * (c + (a / 10 ^ k + b / 10 ^ k)) = a + b

theorem AddInv.start (a b : Nat) : AddInv a b 0 0 [] := ⟨rfl, by simp, by omega, by simp [dval]⟩
theorem snoc_lt {ds : List Nat} {x : Nat} (h : ∀ d ∈ ds, d < 10) (hx : x < 10) : ∀ d ∈ ds ++ [x], d < 10 := by
  intro d hd
  rw [List.mem_append] at hd
  rcases hd with hd | hd
  · exact h d hd
  · have : d = x := by simpa using hd
    omega
theorem AddInv.next {a b k c : Nat} {ds : List Nat} (i : AddInv a b k c ds) : AddInv a b (k + 1) ((dig a k + dig b k + c) / 10) (ds ++ [(dig a k + dig b k + c) % 10]) := by
  have ha := dig_lt a k
  have hb := dig_lt b k
  have hc := i.cl
  refine ⟨by simp [i.len], snoc_lt i.lt (by omega), by omega, ?_⟩
  have h1 := i.val
  rw [dig_step a k, dig_step b k] at h1
  rw [dval_snoc, i.len, ← h1]
  have e : c + (dig a k + 10 * (a / 10 ^ (k + 1)) + (dig b k + 10 * (b / 10 ^ (k + 1)))) = (dig a k + dig b k + c) % 10 + 10 * ((dig a k + dig b k + c) / 10 + (a / 10 ^ (k + 1) + b / 10 ^ (k + 1))) := by omega
  rw [e]
  exact snoc_val _ _ _ _
theorem AddInv.done {a b k c : Nat} {ds : List Nat} (i : AddInv a b k c ds) (h1 : nd a ≤ k) (h2 : nd b ≤ k) (h3 : c = 0) : dval ds = a + b := by
  have := i.val
  rw [div_nd h1, div_nd h2, h3] at this
  simpa using this
theorem AddInv.bound {a b k c m : Nat} {ds : List Nat} (i : AddInv a b k c ds) (ha : nd a ≤ m) (hb : nd b ≤ m) (h : k < nd a ∨ k < nd b ∨ 0 < c) : k ≤ m := by
  rcases Nat.lt_or_ge m k with hk | hk
  · rcases h with h | h | h
    · omega
    · omega
    · have h1 := i.val
      rw [div_nd (by omega : nd a ≤ k), div_nd (by omega : nd b ≤ k)] at h1
      have h2 : 10 ^ k ≤ 10 ^ k * (c + (0 + 0)) := Nat.le_mul_of_pos_right _ (by omega)
      have h3 := lt_nd a
      have h4 := lt_nd b
      have h5 : 10 ^ nd a ≤ 10 ^ m := Nat.pow_le_pow_right (by decide) ha
      have h6 : 10 ^ nd b ≤ 10 ^ m := Nat.pow_le_pow_right (by decide) hb
      have h7 : 10 ^ (m + 1) ≤ 10 ^ k := Nat.pow_le_pow_right (by decide) hk
      rw [Nat.pow_succ] at h7
      omega
  · exact hk

set_option maxHeartbeats 1600000 in
set_option maxRecDepth 100000 in
theorem ref_Add {v u : Value} {a b : Nat} {w : World} (hr : Row w v (digs a)) (hs : Row w u (digs b)) (ha : nd a ≤ 900000) (hb : nd b ≤ 900000) :
    Calls Try.prog 16 #[v, u] w fun e w' => ∃ v', e = .returned v' ∧ Row w' v' (digs (a + b)) ∧ Below w.heap.size w w' := by
  obtain ⟨i0, hi, hz0, hz1, hz2⟩ := info_parts info_int
  obtain ⟨x, cap, rfl, hcap, hlen⟩ := hr.open
  obtain ⟨y, cap2, rfl, hcap2, hlen2⟩ := hs.open
  have ha' : (digs a).length ≤ 900000 := ha
  have hb' : (digs b).length ≤ 900000 := hb
  go_enter Try.func16, Try.ntmps16
  go_wp2_with fail
  go_loopw [5, 6, 7] (fun s5 s6 s7 wr => ∃ (k : Nat) (c : Int) (ds : List Nat), s6 = .int .i64 c ∧ s7 = .int .i64 k ∧ 0 ≤ c ∧ AddInv a b k c.toNat ds ∧ k ≤ 900001 ∧ wr.ownsRow w.heap.size 3 1 s5 k (dcells ds) ∧ Below w.heap.size w wr) (fun _ s6 s7 => fun _ => ((digs a).length + (digs b).length - (intOf s7).toNat) * 4 + (intOf s6).toNat)
  case atStart => exact ⟨0, 0, [], rfl, rfl, by omega, AddInv.start _ _, by omega, World.ownsRow_nil _ _ _ _, Below.refl _ _⟩
  case round =>
    obtain ⟨k, c, ds, rfl, rfl, hc0, inv, hk, hown, HB_wr⟩ := hrel
    have hc1 : c ≤ 1 := by have := inv.cl; omega
    have hr1 : Row wr (.slice x (digs a).length cap) (digs a) := hr.below HB_wr
    have hs1 : Row wr (.slice y (digs b).length cap2) (digs b) := hs.below HB_wr
    have HN := Lib.hid inv
    clear inv
    have da0 : ((dig a k : Nat) : Int) ≤ 9 := by have := dig_lt a k; omega
    have db0 : ((dig b k : Nat) : Int) ≤ 9 := by have := dig_lt b k; omega
    by_cases hc : (k < (digs a).length ∨ k < (digs b).length ∨ 0 < c)
    · have hkl : k ≤ 900000 := HN.out.bound ha hb (by have := nd_def a; have := nd_def b; omega)
      by_cases hkn : k < (digs a).length
      · clear hc
        go_wp2_with fail
        refine (ref_at hr1 (by omega)).mono ?_
        rintro e w1 ⟨rfl, rfl⟩
        rw [Int.toNat_natCast]
        go_wp2_with fail
        refine (ref_at hs1 (by omega)).mono ?_
        rintro e w1 ⟨rfl, rfl⟩
        rw [Int.toNat_natCast]
        go_wp2_with (at_builtin; refine wpList_append_own _ rfl _ _ 31 rfl w.heap.size 3 i0 (.int .i64 0) 1 8 Try.underlying31 hi hz0 hz1 hz2 rfl (by decide) _ _ _ rfl (hown.alloc _) ⟨wr.heap.size, 0, none⟩ 1 1 [.int .i64 ((((dig a k : Nat) : Int) + ((dig b k : Nat) : Int) + c) % 10)] rfl rfl ?ap1_1 ?ap1_2 ?ap1_3 ?ap1_4 ?ap1_5 ?_)
        case ap1_1 => first | exact digit_new (wr) _ _ | exact digit_add (wr) _ _
        case ap1_2 => intro u hu; simp at hu; subst hu; rfl
        case ap1_3 => unfold maxLen; omega
        case ap1_4 => omega
        case ap1_5 => exact Nat.le_trans (HB_wr.size) (by simp)
        intro v' w1 hown1 hgrow _
        have nx := HN.out.next
        have ec : ((((dig a k : Nat) : Int) + ((dig b k : Nat) : Int) + c) / 10).toNat = (dig a k + dig b k + c.toNat) / 10 := by omega
        have ed : (((dig a k : Nat) : Int) + ((dig b k : Nat) : Int) + c) % 10 = (((dig a k + dig b k + c.toNat) % 10 : Nat) : Int) := by omega
        rw [← ec] at nx
        have hown2 : w1.ownsRow w.heap.size 3 1 v' (k + 1) (dcells (ds ++ [(dig a k + dig b k + c.toNat) % 10])) := by
          rw [dcells_append]; rw [ed] at hown1; exact hown1
        have hb1 : Below w.heap.size w w1 := (HB_wr.alloc (HB_wr.size) _).grown hgrow (by have := HB_wr.size; simp; omega) (fun k hk => (hown.lt k hk).1)
        have NX := Lib.hid nx
        clear nx ed ec hown1 hgrow hown
        go_wp2_with fail
        go_roundw
        case rel => exact ⟨k + 1, _, _, rfl, by go_num, by omega, NX.out, by omega, hown2, hb1⟩
        case measure => simp [intOf]; omega
      · by_cases hkm : k < (digs b).length
        · clear hc
          go_wp2_with fail
          refine (ref_at hr1 (by omega)).mono ?_
          rintro e w1 ⟨rfl, rfl⟩
          rw [Int.toNat_natCast]
          go_wp2_with fail
          refine (ref_at hs1 (by omega)).mono ?_
          rintro e w1 ⟨rfl, rfl⟩
          rw [Int.toNat_natCast]
          go_wp2_with (at_builtin; refine wpList_append_own _ rfl _ _ 31 rfl w.heap.size 3 i0 (.int .i64 0) 1 8 Try.underlying31 hi hz0 hz1 hz2 rfl (by decide) _ _ _ rfl (hown.alloc _) ⟨wr.heap.size, 0, none⟩ 1 1 [.int .i64 ((((dig a k : Nat) : Int) + ((dig b k : Nat) : Int) + c) % 10)] rfl rfl ?ap2_1 ?ap2_2 ?ap2_3 ?ap2_4 ?ap2_5 ?_)
          case ap2_1 => first | exact digit_new (wr) _ _ | exact digit_add (wr) _ _
          case ap2_2 => intro u hu; simp at hu; subst hu; rfl
          case ap2_3 => unfold maxLen; omega
          case ap2_4 => omega
          case ap2_5 => exact Nat.le_trans (HB_wr.size) (by simp)
          intro v' w1 hown1 hgrow _
          have nx := HN.out.next
          have ec : ((((dig a k : Nat) : Int) + ((dig b k : Nat) : Int) + c) / 10).toNat = (dig a k + dig b k + c.toNat) / 10 := by omega
          have ed : (((dig a k : Nat) : Int) + ((dig b k : Nat) : Int) + c) % 10 = (((dig a k + dig b k + c.toNat) % 10 : Nat) : Int) := by omega
          rw [← ec] at nx
          have hown2 : w1.ownsRow w.heap.size 3 1 v' (k + 1) (dcells (ds ++ [(dig a k + dig b k + c.toNat) % 10])) := by
            rw [dcells_append]; rw [ed] at hown1; exact hown1
          have hb1 : Below w.heap.size w w1 := (HB_wr.alloc (HB_wr.size) _).grown hgrow (by have := HB_wr.size; simp; omega) (fun k hk => (hown.lt k hk).1)
          have NX := Lib.hid nx
          clear nx ed ec hown1 hgrow hown
          go_wp2_with fail
          go_roundw
          case rel => exact ⟨k + 1, _, _, rfl, by go_num, by omega, NX.out, by omega, hown2, hb1⟩
          case measure => simp [intOf]; omega
        · have hcp : 0 < c := by omega
          have dz1 := Lib.hid (dig_zero (n := a) (k := k) (by rw [nd_def]; omega))
          have dz2 := Lib.hid (dig_zero (n := b) (k := k) (by rw [nd_def]; omega))
          clear hc
          go_wp2_with fail
          refine (ref_at hr1 (by omega)).mono ?_
          rintro e w1 ⟨rfl, rfl⟩
          rw [Int.toNat_natCast]
          go_wp2_with fail
          refine (ref_at hs1 (by omega)).mono ?_
          rintro e w1 ⟨rfl, rfl⟩
          rw [Int.toNat_natCast]
          go_wp2_with (at_builtin; refine wpList_append_own _ rfl _ _ 31 rfl w.heap.size 3 i0 (.int .i64 0) 1 8 Try.underlying31 hi hz0 hz1 hz2 rfl (by decide) _ _ _ rfl (hown.alloc _) ⟨wr.heap.size, 0, none⟩ 1 1 [.int .i64 ((((dig a k : Nat) : Int) + ((dig b k : Nat) : Int) + c) % 10)] rfl rfl ?ap3_1 ?ap3_2 ?ap3_3 ?ap3_4 ?ap3_5 ?_)
          case ap3_1 => first | exact digit_new (wr) _ _ | exact digit_add (wr) _ _
          case ap3_2 => intro u hu; simp at hu; subst hu; rfl
          case ap3_3 => unfold maxLen; omega
          case ap3_4 => omega
          case ap3_5 => exact Nat.le_trans (HB_wr.size) (by simp)
          intro v' w1 hown1 hgrow _
          have nx := HN.out.next
          have ec : ((((dig a k : Nat) : Int) + ((dig b k : Nat) : Int) + c) / 10).toNat = (dig a k + dig b k + c.toNat) / 10 := by omega
          have ed : (((dig a k : Nat) : Int) + ((dig b k : Nat) : Int) + c) % 10 = (((dig a k + dig b k + c.toNat) % 10 : Nat) : Int) := by omega
          rw [← ec] at nx
          have hown2 : w1.ownsRow w.heap.size 3 1 v' (k + 1) (dcells (ds ++ [(dig a k + dig b k + c.toNat) % 10])) := by
            rw [dcells_append]; rw [ed] at hown1; exact hown1
          have hb1 : Below w.heap.size w w1 := (HB_wr.alloc (HB_wr.size) _).grown hgrow (by have := HB_wr.size; simp; omega) (fun k hk => (hown.lt k hk).1)
          have NX := Lib.hid nx
          clear nx ed ec hown1 hgrow hown
          go_wp2_with fail
          go_roundw
          case rel => exact ⟨k + 1, _, _, rfl, by go_num, by omega, NX.out, by omega, hown2, hb1⟩
          case measure => have e1 := dz1.out; have e2 := dz2.out; simp [intOf, e1, e2]; omega
    · have hk1 : ¬ k < (digs a).length := by omega
      have hk2 : ¬ k < (digs b).length := by omega
      have hk3 : ¬ 0 < c := by omega
      clear hc
      have hcz : c.toNat = 0 := by omega
      have fin := Lib.hid (HN.out.done (by rw [nd_def]; omega) (by rw [nd_def]; omega) hcz)
      have hl := Lib.hid HN.out.len
      clear hcz
      go_wp2_with fail
      refine (ref_Trim (Row.ofOwn hown) HN.out.lt (by rw [hl.out]; omega)).mono ?_
      rintro e w1 ⟨v', rfl, hrow, hb1⟩
      rw [fin.out] at hrow
      go_wp2_with fail
      go_returns
      exact ⟨_, rfl, hrow, HB_wr.trans (hb1.mono HB_wr.size)⟩

theorem dval_zeros (n : Nat) : dval (List.replicate n 0) = 0 := by
  induction n with
  | zero => rfl
  | succ n ih => rw [List.replicate_succ, dval, ih]

set_option maxHeartbeats 1600000 in
theorem ref_Shift {v : Value} {a : Nat} {n : Int} {w : World} (hr : Row w v (digs a)) (ha : nd a ≤ 900000) (hn0 : 0 ≤ n) (hn1 : n ≤ 90000) :
    Calls Try.prog 33 #[v, .int .i64 n] w fun e w' => ∃ v', e = .returned v' ∧ Row w' v' (digs (a * 10 ^ n.toNat)) ∧ Below w.heap.size w w' := by
  obtain ⟨i0, hi, hz0, hz1, hz2⟩ := info_parts info_int
  have ha' : (digs a).length ≤ 900000 := ha
  have hval := Lib.hid (show dval (List.replicate n.toNat 0 ++ digs a) = a * 10 ^ n.toNat by rw [dval_append, dval_zeros, dval_digs, List.length_replicate, Nat.zero_add, Nat.mul_comm])
  have hlt : ∀ d ∈ List.replicate n.toNat 0 ++ digs a, d < 10 := by
    intro d hd
    rw [List.mem_append] at hd
    rcases hd with hd | hd
    · rw [(List.mem_replicate.1 hd).2]; omega
    · exact digs_lt hd
  have HLT := Lib.hid hlt; clear hlt
  go_enter Try.func33, Try.ntmps33
  go_wp2_with fail
  go_loopw [5, 6] (fun s5 s6 wr => ∃ k : Nat, s6 = .int .i64 k ∧ (k : Int) ≤ n ∧ wr.ownsRow w.heap.size 3 1 s5 k (dcells (List.replicate k 0)) ∧ Below w.heap.size w wr) (fun _ s6 => fun _ => (n - intOf s6).toNat)
  case atStart => exact ⟨0, rfl, by omega, World.ownsRow_nil _ _ _ _, Below.refl _ _⟩
  case round =>
    obtain ⟨k, rfl, hk, hown, HB_wr⟩ := hrel
    by_cases hkn : (k : Int) < n
    · skip
      go_wp2_with (at_builtin; refine wpList_append_own _ rfl _ _ 31 rfl w.heap.size 3 i0 (.int .i64 0) 1 8 Try.underlying31 hi hz0 hz1 hz2 rfl (by decide) _ _ _ rfl (hown.alloc _) ⟨wr.heap.size, 0, none⟩ 1 1 [.int .i64 (0)] rfl rfl ?ap4_1 ?ap4_2 ?ap4_3 ?ap4_4 ?ap4_5 ?_)
      case ap4_1 => first | exact digit_new (wr) _ _ | exact digit_add (wr) _ _
      case ap4_2 => intro u hu; simp at hu; subst hu; rfl
      case ap4_3 => unfold maxLen; omega
      case ap4_4 => omega
      case ap4_5 => exact Nat.le_trans (HB_wr.size) (by simp)
      intro v' w1 hown1 hgrow _
      have hown2 : w1.ownsRow w.heap.size 3 1 v' (k + 1) (dcells (List.replicate (k + 1) 0)) := by
        rw [List.replicate_succ', dcells_append]; exact hown1
      have hb1 : Below w.heap.size w w1 := (HB_wr.alloc (HB_wr.size) _).grown hgrow (by have := HB_wr.size; simp; omega) (fun k hk => (hown.lt k hk).1)
      clear hown1 hgrow hown
      go_wp2_with fail
      go_roundw
      case rel => exact ⟨k + 1, by go_num, by omega, hown2, hb1⟩
      case measure => simp [intOf]; omega
    · obtain rfl : n = k := by omega
      have hr1 : Row wr v (digs a) := hr.below HB_wr
      rw [Int.toNat_natCast] at hval HLT
      rcases hr1.shape with ⟨rfl, hz⟩ | ⟨g, cap, rfl, hc1, hc2, hg, hcell⟩
      · have hz' := Lib.hid hz; clear hz
        go_wp2_with (at_builtin; refine wpList_append_own_none_x rfl _ _ 31 32 rfl w.heap.size 3 3 i0 1 Try.underlying31 Try.underlying32 hi _ _ _ rfl hown rfl ?_)
        go_wp2_with fail
        refine (ref_Trim (ds := List.replicate k 0 ++ digs a) (Row.ofOwn (n := k) (by rw [hz'.out, List.append_nil]; exact hown)) HLT.out (by rw [List.length_append, List.length_replicate]; omega)).mono ?_
        rintro e w1 ⟨v', rfl, hrow, hb1⟩
        rw [hval.out] at hrow
        go_wp2_with fail
        go_returns
        exact ⟨_, rfl, hrow, HB_wr.trans (hb1.mono HB_wr.size)⟩
      · unfold maxLen at hc2
        have HC := Lib.hid hcell; clear hcell
        go_wp2_with (at_builtin; refine wpList_append_own_x rfl _ _ 31 32 rfl w.heap.size 3 3 i0 (.int .i64 0) 1 8 Try.underlying31 Try.underlying32 hi hz0 hz1 hz2 rfl (by decide) _ _ _ rfl hown ⟨g, 0, none⟩ (digs a).length cap (dcells (digs a)) rfl ?sh1 ?sh2 ?sh3 ?sh4 ?sh5 ?sh6 ?_)
        case sh1 => rw [dcells_length]
        case sh2 =>
          have := row_news HC.out (digs a).length
          rw [List.take_length] at this
          simpa [Addr.add] using this
        case sh3 => exact dcells_one
        case sh4 => unfold maxLen; omega
        case sh5 => omega
        case sh6 => exact HB_wr.size
        intro v' w1 hown1 hgrow _
        have hown2 : w1.ownsRow w.heap.size 3 1 v' (k + (digs a).length) (dcells (List.replicate k 0 ++ digs a)) := by rw [dcells_append]; exact hown1
        have hb1 : Below w.heap.size w w1 := HB_wr.grown hgrow HB_wr.size (fun k hk => (hown.lt k hk).1)
        clear hown1 hgrow hown
        go_wp2_with fail
        refine (ref_Trim (Row.ofOwn hown2) HLT.out (by rw [List.length_append, List.length_replicate]; omega)).mono ?_
        rintro e w2 ⟨v', rfl, hrow, hb2⟩
        rw [hval.out] at hrow
        go_wp2_with fail
        go_returns
        exact ⟨_, rfl, hrow, hb1.trans (hb2.mono hb1.size)⟩

end Go.Proofs.Ytpnfomnnbmncaaa
