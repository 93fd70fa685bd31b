/-
  The contracts of casuistref01's Sub, Div.
-/
import Derived.Test.YtpnfomnnbmncaaaRef6
namespace Go.Proofs.Ytpnfomnnbmncaaa
open Go.RowKit
set_option linter.unusedVariables false

theorem ref_atq {v : Value} {n k : Nat} {w : World} (hr : Row w v (digs n)) :
    Calls Try.prog 43 #[v, .int .i64 (k : Int)] w fun e w' => e = .returned (.int .i64 ((dig n k : Nat) : Int)) ∧ w' = w :=
  (ref_at hr (by omega)).mono fun _ _ ⟨h1, h2⟩ => ⟨h1, h2.symm⟩

/-- The state of Sub behind k digits. -/
structure SubInv (a b k c : Nat) (ds : List Nat) : Prop where
  len : ds.length = k
  lt : ∀ d ∈ ds, d < 10
  cl : c ≤ 1
  val : dval ds + b % 10 ^ k = a % 10 ^ k + c * 10 ^ k

theorem SubInv.start (a b : Nat) : SubInv a b 0 0 [] := ⟨rfl, by simp, by omega, by simp [dval, Nat.mod_one]⟩
theorem mod_step (n k : Nat) : n % 10 ^ (k + 1) = n % 10 ^ k + 10 ^ k * dig n k := by
  unfold dig
  rw [Nat.pow_succ, Nat.mod_mul]
theorem SubInv.big {a b k c : Nat} {ds : List Nat} (i : SubInv a b k c ds) (h : dig b k + c ≤ dig a k) : SubInv a b (k + 1) 0 (ds ++ [dig a k - dig b k - c]) := by
  have ha := dig_lt a k
  refine ⟨by simp [i.len], snoc_lt i.lt (by omega), by omega, ?_⟩
  have h1 := i.val
  rw [dval_snoc, i.len, mod_step a k, mod_step b k]
  obtain ⟨x, hx⟩ : ∃ x, x = dig a k - dig b k - c := ⟨_, rfl⟩
  rw [← hx]
  have e : dig a k = x + dig b k + c := by omega
  rw [e, Nat.mul_add, Nat.mul_add, Nat.mul_comm (10 ^ k) c]
  omega
theorem SubInv.small {a b k c : Nat} {ds : List Nat} (i : SubInv a b k c ds) (h : dig a k < dig b k + c) : SubInv a b (k + 1) 1 (ds ++ [dig a k + 10 - dig b k - c]) := by
  have ha := dig_lt a k
  have hb := dig_lt b k
  have hc := i.cl
  refine ⟨by simp [i.len], snoc_lt i.lt (by omega), by omega, ?_⟩
  have h1 := i.val
  rw [dval_snoc, i.len, mod_step a k, mod_step b k]
  obtain ⟨x, hx⟩ : ∃ x, x = dig a k + 10 - dig b k - c := ⟨_, rfl⟩
  rw [← hx]
  have e : dig a k + 10 = x + dig b k + c := by omega
  have e2 : 10 ^ k * (dig a k + 10) = 10 ^ k * x + 10 ^ k * dig b k + c * 10 ^ k := by rw [e, Nat.mul_add, Nat.mul_add, Nat.mul_comm (10 ^ k) c]
  rw [Nat.mul_add] at e2
  rw [Nat.one_mul, Nat.pow_succ]
  omega
theorem SubInv.done {a b k c : Nat} {ds : List Nat} (i : SubInv a b k c ds) (hle : b ≤ a) (h1 : nd a ≤ k) : dval ds = a - b := by
  have hv := i.val
  have ha : a < 10 ^ k := Nat.lt_of_lt_of_le (lt_nd a) (Nat.pow_le_pow_right (by decide) h1)
  rw [Nat.mod_eq_of_lt ha, Nat.mod_eq_of_lt (Nat.lt_of_le_of_lt hle ha)] at hv
  have hd := dval_lt i.lt
  rw [i.len] at hd
  have hc := i.cl
  rcases Nat.eq_zero_or_pos c with h0 | h0
  · rw [h0] at hv; omega
  · have : c = 1 := by omega
    rw [this, Nat.one_mul] at hv
    omega

set_option maxHeartbeats 3200000 in
set_option maxRecDepth 100000 in
theorem ref_Sub {v u : Value} {a b : Nat} {w : World} (hr : Row w v (digs a)) (hs : Row w u (digs b)) (hle : b ≤ a) (ha : nd a ≤ 900000) :
    Calls Try.prog 46 #[v, u] w fun e w' => ∃ v', e = .returned v' ∧ Row w' v' (digs (a - b)) ∧ Below w.heap.size w w' := by
  obtain ⟨i0, hi, hz0, hz1, hz2⟩ := info_parts info_int
  have e1 := nd_def a
  rcases hr.shape with ⟨rfl, hz⟩ | ⟨g, cap, rfl, hc1, hc2, hg, hcell⟩
  · have za : a = 0 := by have h := dval_digs a; rw [hz] at h; simpa [dval] using h.symm
    subst za
    have zb : b = 0 := by omega
    subst zb
    clear e1 hz hle
    go_enter Try.func46, Try.ntmps46
    go_wp2_with fail
    refine wp_loop_rounds 1 ?_
    rw [rounds_succ]
    go_wp2_with fail
    refine (ref_Trim (Row.nil _) (by simp) (by simp)).mono ?_
    rintro e w1 ⟨v', rfl, hrow, hb1⟩
    go_wp2_with fail
    go_returns
    exact ⟨_, rfl, by simpa [dval] using hrow, hb1⟩
  · obtain ⟨L, hL⟩ : ∃ L, L = (digs a).length := ⟨_, rfl⟩
    have l1 : L ≤ 900000 := by omega
    have HCA : Hid (∀ i, i < L → w.cell? ⟨g, i, none⟩ = some (.int .i64 ((dig a i : Nat) : Int))) := fun i hi => by rw [hcell i (by omega), digs_get]
    rw [← hL]
    unfold maxLen at hc2
    have HL := Lib.hid (show nd a ≤ L by omega)
    have hg0 := Lib.hid hg
    have HLE := Lib.hid hle
    clear hcell hr e1 hL hle
    go_enter Try.func46, Try.ntmps46
    go_wp2_with fail
    go_loopw [5, 6, 7] (fun s5 s6 s7 wr => ∃ (k : Nat) (c : Int) (ds : List Nat), s6 = .int .i64 c ∧ s7 = .int .i64 k ∧ 0 ≤ c ∧ SubInv a b k c.toNat ds ∧ k ≤ L ∧ wr.ownsRow w.heap.size 3 1 s5 k (dcells ds) ∧ Below w.heap.size w wr) (fun _ _ s7 => fun _ => L - (intOf s7).toNat)
    case atStart => exact ⟨0, 0, [], rfl, rfl, by omega, SubInv.start _ _, by omega, World.ownsRow_nil _ _ _ _, Below.refl _ _⟩
    case round =>
      obtain ⟨k, c, ds, rfl, rfl, hc0, inv, hk, hown, HB_wr⟩ := hrel
      have hc1 : c ≤ 1 := by have := inv.cl; omega
      have hs1 : Row wr u (digs b) := hs.below HB_wr
      have HN := Lib.hid inv
      clear inv
      by_cases hkn : k < L
      · have ca := (HB_wr.cell (p := ⟨g, k, none⟩) hg).trans (HCA.out k hkn)
        obtain ⟨p, hp⟩ : ∃ p, p = dig a k := ⟨_, rfl⟩
        rw [← hp] at ca
        have p9 : (p : Int) ≤ 9 := by have := dig_lt a k; omega
        have q9 : ((dig b k : Nat) : Int) ≤ 9 := by have := dig_lt b k; omega
        have kk1 : (0 : Int) ≤ (k : Int) := by omega
        have kk2 : (k : Int) < (L : Int) := by omega
        have HP := Lib.hid hp; clear hp
        have ew1 : IntKind.i64.wrap ((p : Int) - ((dig b k : Nat) : Int)) = (p : Int) - ((dig b k : Nat) : Int) := IntWalk.i64_in _ (by omega)
        have ew2 : IntKind.i64.wrap ((p : Int) - ((dig b k : Nat) : Int) - c) = (p : Int) - ((dig b k : Nat) : Int) - c := IntWalk.i64_in _ (by omega)
        by_cases hneg : (p : Int) - ((dig b k : Nat) : Int) - c < 0
        · have nx := Lib.hid (HN.out.small (by have := HP.out; omega))
          go_wp2_with fail
          go_quiet ((go_at_call 43; exact Calls.quiet_of_same (ref_atq (Row.drewN hs1 _))))
          have HB_w2 : Below w.heap.size w (wr.drewN nq) := below_drewN HB_wr _
          have hown1 : (wr.drewN nq).ownsRow w.heap.size 3 1 u5 k (dcells ds) := hown
          go_wp2_with (at_builtin; refine wpList_append_own _ rfl _ _ 31 rfl w.heap.size 3 i0 (.int .i64 0) 1 8 Try.underlying31 hi hz0 hz1 hz2 rfl (by decide) _ _ _ rfl (hown1.alloc _) ⟨(wr.drewN nq).heap.size, 0, none⟩ 1 1 [.int .i64 ((p : Int) - ((dig b k : Nat) : Int) - c + 10)] rfl rfl ?ap1_1 ?ap1_2 ?ap1_3 ?ap1_4 ?ap1_5 ?_)
          case ap1_1 => first | exact digit_new ((wr.drewN nq)) _ _ | exact digit_add ((wr.drewN nq)) _ _
          case ap1_2 => intro u hu; simp at hu; subst hu; rfl
          case ap1_3 => unfold maxLen; omega
          case ap1_4 => omega
          case ap1_5 => exact Nat.le_trans (HB_w2.size) (by simp)
          intro v' w1 hown2 hgrow _
          have hzz : (wr.drewN nq).heap.size = wr.heap.size := rfl
          have ed : (p : Int) - ((dig b k : Nat) : Int) - c + 10 = (((dig a k + 10 - dig b k - c.toNat : Nat)) : Int) := by have := HP.out; omega
          have hown3 : w1.ownsRow w.heap.size 3 1 v' (k + 1) (dcells (ds ++ [dig a k + 10 - dig b k - c.toNat])) := by
            rw [dcells_append]; rw [ed] at hown2; exact hown2
          have hb1 : Below w.heap.size w w1 := (HB_w2.alloc (HB_w2.size) _).grown hgrow (Nat.le_trans HB_w2.size (by simp)) (fun k hk => (hown1.lt k hk).1)
          clear ed hown2 hgrow hown hown1
          go_wp2_with fail
          go_roundw
          case rel => exact ⟨k + 1, _, _, rfl, by go_num, by omega, by exact nx.out, by omega, hown3, hb1⟩
          case measure => simp [intOf]; omega
        · have nx := Lib.hid (HN.out.big (by have := HP.out; omega))
          go_wp2_with fail
          go_quiet ((go_at_call 43; exact Calls.quiet_of_same (ref_atq (Row.drewN hs1 _))))
          have HB_w2 : Below w.heap.size w (wr.drewN nq) := below_drewN HB_wr _
          have hown1 : (wr.drewN nq).ownsRow w.heap.size 3 1 u5 k (dcells ds) := hown
          go_wp2_with (at_builtin; refine wpList_append_own _ rfl _ _ 31 rfl w.heap.size 3 i0 (.int .i64 0) 1 8 Try.underlying31 hi hz0 hz1 hz2 rfl (by decide) _ _ _ rfl (hown1.alloc _) ⟨(wr.drewN nq).heap.size, 0, none⟩ 1 1 [.int .i64 ((p : Int) - ((dig b k : Nat) : Int) - c)] rfl rfl ?ap2_1 ?ap2_2 ?ap2_3 ?ap2_4 ?ap2_5 ?_)
          case ap2_1 => first | exact digit_new ((wr.drewN nq)) _ _ | exact digit_add ((wr.drewN nq)) _ _
          case ap2_2 => intro u hu; simp at hu; subst hu; rfl
          case ap2_3 => unfold maxLen; omega
          case ap2_4 => omega
          case ap2_5 => exact Nat.le_trans (HB_w2.size) (by simp)
          intro v' w1 hown2 hgrow _
          have hzz : (wr.drewN nq).heap.size = wr.heap.size := rfl
          have ed : (p : Int) - ((dig b k : Nat) : Int) - c = (((dig a k - dig b k - c.toNat : Nat)) : Int) := by have := HP.out; omega
          have hown3 : w1.ownsRow w.heap.size 3 1 v' (k + 1) (dcells (ds ++ [dig a k - dig b k - c.toNat])) := by
            rw [dcells_append]; rw [ed] at hown2; exact hown2
          have hb1 : Below w.heap.size w w1 := (HB_w2.alloc (HB_w2.size) _).grown hgrow (Nat.le_trans HB_w2.size (by simp)) (fun k hk => (hown1.lt k hk).1)
          clear ed hown2 hgrow hown hown1
          go_wp2_with fail
          go_roundw
          case rel => exact ⟨k + 1, _, _, rfl, by go_num, by omega, by exact nx.out, by omega, hown3, hb1⟩
          case measure => simp [intOf]; omega
      · obtain rfl : k = L := by omega
        have fin := Lib.hid (HN.out.done HLE.out HL.out)
        have hl := Lib.hid HN.out.len
        go_wp2_with fail
        refine (ref_Trim (Row.ofOwn hown) HN.out.lt (by rw [hl.out]; omega)).mono ?_
        rintro e w1 ⟨v', rfl, hrow, hb1⟩
        rw [fin.out] at hrow
        go_wp2_with fail
        go_returns
        exact ⟨_, rfl, hrow, HB_wr.trans (hb1.mono HB_wr.size)⟩

end Go.Proofs.Ytpnfomnnbmncaaa
