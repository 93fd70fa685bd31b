/-
  The contracts of casuistref01's Small, Add, Sub.
-/
import Derived.Test.YtpnfomnnbmncaaaRef1
namespace Go.Proofs.Ytpnfomnnbmncaaa
open Go.RowKit
set_option linter.unusedVariables false

theorem nd_def (n : Nat) : nd n = (digs n).length := rfl
theorem div_nd {n k : Nat} (h : nd n ≤ k) : n / 10 ^ k = 0 := by
  have h1 := lt_nd n
  have h2 : 10 ^ nd n ≤ 10 ^ k := Nat.pow_le_pow_right (by decide) h
  exact Nat.div_eq_of_lt (by omega)
theorem dig_step (n k : Nat) : n / 10 ^ k = dig n k + 10 * (n / 10 ^ (k + 1)) := by
  unfold dig
  rw [Nat.pow_succ, ← Nat.div_div_eq_div_mul]
  omega
theorem dval_snoc (ds : List Nat) (d : Nat) : dval (ds ++ [d]) = dval ds + 10 ^ ds.length * d := by rw [dval_append]; simp [dval]

theorem snoc_val (A k s q : Nat) : A + 10 ^ k * s + 10 ^ (k + 1) * q = A + 10 ^ k * (s + 10 * q) := by
  rw [Nat.mul_add, Nat.pow_succ, Nat.mul_assoc, Nat.add_assoc]

/-- The state of Small behind k digits. -/
structure SmallInv (n x add k c : Nat) (ds : List Nat) : Prop where
  len : ds.length = k
  lt : ∀ d ∈ ds, d < 10
  cl : c < 4294967296
  val : dval ds + 10 ^ k * (c + x * (n / 10 ^ k)) = n * x + add

theorem SmallInv.start (n x : Nat) {add : Nat} (h : add < 4294967296) : SmallInv n x add 0 add [] := ⟨rfl, by simp, h, by simp [dval, Nat.mul_comm]; omega⟩

theorem SmallInv.next {n x add k c : Nat} {ds : List Nat} (i : SmallInv n x add k c ds) (hx : x ≤ 4294967296) : SmallInv n x add (k + 1) ((dig n k * x + c) / 10) (ds ++ [(dig n k * x + c) % 10]) := by
  have hd := dig_lt n k
  have hm : dig n k * x ≤ 9 * 4294967296 := Nat.mul_le_mul (by omega) (by omega)
  have hc := i.cl
  refine ⟨by simp [i.len], ?_, by omega, ?_⟩
  · intro d h
    rw [List.mem_append] at h
    rcases h with h | h
    · exact i.lt d h
    · have : d = (dig n k * x + c) % 10 := by simpa using h
      omega
  · have h1 := i.val
    rw [dig_step n k] at h1
    rw [dval_snoc, i.len, ← h1]
    have e : c + x * (dig n k + 10 * (n / 10 ^ (k + 1))) = (dig n k * x + c) % 10 + 10 * ((dig n k * x + c) / 10 + x * (n / 10 ^ (k + 1))) := by
      have e1 : x * (dig n k + 10 * (n / 10 ^ (k + 1))) = dig n k * x + 10 * (x * (n / 10 ^ (k + 1))) := by rw [Nat.mul_add, Nat.mul_comm x (dig n k), Nat.mul_left_comm]
      rw [e1]
      have := Nat.mod_add_div (dig n k * x + c) 10
      omega
    rw [e]
    exact snoc_val _ _ _ _

theorem SmallInv.done {n x add k c : Nat} {ds : List Nat} (i : SmallInv n x add k c ds) (h1 : nd n ≤ k) (h2 : c = 0) : dval ds = n * x + add := by
  have := i.val
  rw [div_nd h1, h2] at this
  simpa using this

theorem SmallInv.bound {n x add k c : Nat} {ds : List Nat} (i : SmallInv n x add k c ds) (hx : x ≤ 4294967296) (ha : add < 4294967296) (h : k < nd n ∨ 0 < c) : k ≤ nd n + 10 := by
  rcases h with h | h
  · omega
  · rcases Nat.lt_or_ge k (nd n) with hk | hk
    · omega
    · have h1 := i.val
      rw [div_nd hk, Nat.mul_zero, Nat.add_zero] at h1
      have h2 : 10 ^ k ≤ 10 ^ k * c := Nat.le_mul_of_pos_right _ h
      have h3 := lt_nd n
      have h4 : n * x + add < 10 ^ (nd n + 10) := by
        have a1 : (n + 1) * 4294967296 ≤ 10 ^ nd n * 4294967296 := Nat.mul_le_mul_right _ h3
        have a2 : n * x ≤ n * 4294967296 := Nat.mul_le_mul_left _ (by omega)
        rw [Nat.pow_add]
        have a3 : 10 ^ nd n * 4294967296 ≤ 10 ^ nd n * 10 ^ 10 := Nat.mul_le_mul_left _ (by decide)
        rw [Nat.add_mul] at a1
        omega
      have h5 : 10 ^ k < 10 ^ (nd n + 10) := by omega
      have := (Nat.pow_lt_pow_iff_right (by decide : 1 < 10)).1 h5
      omega

set_option maxHeartbeats 1600000 in
set_option maxRecDepth 100000 in
theorem ref_Small {v : Value} {n : Nat} {x add : Int} {w : World} (hr : Row w v (digs n)) (hx0 : 0 ≤ x) (hx1 : x ≤ 4294967296) (ha0 : 0 ≤ add) (ha1 : add < 4294967296) (hn : nd n ≤ 900000) :
    Calls Try.prog 42 #[v, .int .i64 x, .int .i64 add] w fun e w' => ∃ v', e = .returned v' ∧ Row w' v' (digs (n * x.toNat + add.toNat)) ∧ Below w.heap.size w w' := by
  obtain ⟨i0, hi, hz0, hz1, hz2⟩ := info_parts info_int
  obtain ⟨a, cap, rfl, hcap, hlen⟩ := hr.open
  have hn' : (digs n).length ≤ 900000 := hn
  go_enter Try.func42, Try.ntmps42
  go_wp2_with fail
  go_loopw [7, 8, 9] (fun s7 s8 s9 wr => ∃ (k : Nat) (c : Int) (ds : List Nat), s8 = .int .i64 c ∧ s9 = .int .i64 k ∧ 0 ≤ c ∧ SmallInv n x.toNat add.toNat k c.toNat ds ∧ k ≤ 900020 ∧ wr.ownsRow w.heap.size 3 1 s7 k (dcells ds) ∧ Below w.heap.size w wr) (fun _ s8 s9 => fun _ => ((digs n).length - (intOf s9).toNat) * 8589934592 + (intOf s8).toNat)
  case atStart => exact ⟨0, add, [], rfl, rfl, ha0, SmallInv.start _ _ (by omega), by omega, World.ownsRow_nil _ _ _ _, Below.refl _ _⟩
  case round =>
    obtain ⟨k, c, ds, rfl, rfl, hc0, inv, hk, hown, HB_wr⟩ := hrel
    have hc1 : c < 4294967296 := by have := inv.cl; omega
    have hr1 : Row wr (.slice a (digs n).length cap) (digs n) := hr.below (HB_wr)
    have HN := Lib.hid inv
    clear inv
    by_cases hc : (k < (digs n).length ∨ 0 < c)
    · have hkb := HN.out.bound (by omega) (by omega) (by have := nd_def n; omega)
      obtain ⟨p, hp⟩ : ∃ p : Int, p = ((dig n k : Nat) : Int) * x := ⟨_, rfl⟩
      have hp2 : p = ((dig n k * x.toNat : Nat) : Int) := by rw [hp, Int.natCast_mul, Int.toNat_of_nonneg hx0]
      have hp1 : 0 ≤ p ∧ p ≤ 38654705664 := by
        have hd := dig_lt n k
        have hm : dig n k * x.toNat ≤ 9 * 4294967296 := Nat.mul_le_mul (by omega) (by omega)
        omega
      obtain ⟨hp3, hp4⟩ := hp1
      have ew : IntKind.i64.wrap (((dig n k : Nat) : Int) * x) = p := by rw [← hp]; exact IntWalk.i64_in _ (by omega)
      have HP2 := Lib.hid hp2
      have hkl : k ≤ 900010 := by have := nd_def n; omega
      clear hp hp2 hkb
      by_cases hkn : k < (digs n).length
      · clear hc
        go_wp2_with fail
        refine (ref_at hr1 (by omega)).mono ?_
        rintro e w1 ⟨rfl, rfl⟩
        rw [Int.toNat_natCast]
        go_wp2_with (at_builtin; refine wpList_append_own _ rfl _ _ 31 rfl w.heap.size 3 i0 (.int .i64 0) 1 8 Try.underlying31 hi hz0 hz1 hz2 rfl (by decide) _ _ _ rfl (hown.alloc _) ⟨wr.heap.size, 0, none⟩ 1 1 [.int .i64 ((p + c) % 10)] rfl rfl ?ap1_1 ?ap1_2 ?ap1_3 ?ap1_4 ?ap1_5 ?_)
        case ap1_1 => first | exact digit_new (wr) _ _ | exact digit_add (wr) _ _
        case ap1_2 => intro u hu; simp at hu; subst hu; rfl
        case ap1_3 => unfold maxLen; omega
        case ap1_4 => omega
        case ap1_5 => exact Nat.le_trans (HB_wr.size) (by simp)
        intro v' w1 hown1 hgrow _
        have hP := HP2.out
        have nx := HN.out.next (by omega : x.toNat ≤ 4294967296)
        have ec : ((p + c) / 10).toNat = (dig n k * x.toNat + c.toNat) / 10 := by omega
        have ed : (p + c) % 10 = (((dig n k * x.toNat + c.toNat) % 10 : Nat) : Int) := by omega
        rw [← ec] at nx
        have hown2 : w1.ownsRow w.heap.size 3 1 v' (k + 1) (dcells (ds ++ [(dig n k * x.toNat + c.toNat) % 10])) := by
          rw [dcells_append]; rw [ed] at hown1; exact hown1
        have hb1 : Below w.heap.size w w1 := (HB_wr.alloc (HB_wr.size) _).grown hgrow (by have := HB_wr.size; simp; omega) (fun k hk => (hown.lt k hk).1)
        have NX := Lib.hid nx
        clear hP nx ed ec hown1 hgrow hown
        go_wp2_with fail
        go_roundw
        case rel => exact ⟨k + 1, _, _, rfl, by go_num, by omega, NX.out, by omega, hown2, hb1⟩
        case measure => simp [intOf]; omega
      · have hc0' : 0 < c := by omega
        have hp0 : p ≤ 0 := by
          have := HP2.out
          rw [dig_zero (by rw [nd_def]; omega)] at this
          omega
        clear hc
        go_wp2_with fail
        refine (ref_at hr1 (by omega)).mono ?_
        rintro e w1 ⟨rfl, rfl⟩
        rw [Int.toNat_natCast]
        go_wp2_with (at_builtin; refine wpList_append_own _ rfl _ _ 31 rfl w.heap.size 3 i0 (.int .i64 0) 1 8 Try.underlying31 hi hz0 hz1 hz2 rfl (by decide) _ _ _ rfl (hown.alloc _) ⟨wr.heap.size, 0, none⟩ 1 1 [.int .i64 ((p + c) % 10)] rfl rfl ?ap2_1 ?ap2_2 ?ap2_3 ?ap2_4 ?ap2_5 ?_)
        case ap2_1 => first | exact digit_new (wr) _ _ | exact digit_add (wr) _ _
        case ap2_2 => intro u hu; simp at hu; subst hu; rfl
        case ap2_3 => unfold maxLen; omega
        case ap2_4 => omega
        case ap2_5 => exact Nat.le_trans (HB_wr.size) (by simp)
        intro v' w1 hown1 hgrow _
        have hP := HP2.out
        have nx := HN.out.next (by omega : x.toNat ≤ 4294967296)
        have ec : ((p + c) / 10).toNat = (dig n k * x.toNat + c.toNat) / 10 := by omega
        have ed : (p + c) % 10 = (((dig n k * x.toNat + c.toNat) % 10 : Nat) : Int) := by omega
        rw [← ec] at nx
        have hown2 : w1.ownsRow w.heap.size 3 1 v' (k + 1) (dcells (ds ++ [(dig n k * x.toNat + c.toNat) % 10])) := by
          rw [dcells_append]; rw [ed] at hown1; exact hown1
        have hb1 : Below w.heap.size w w1 := (HB_wr.alloc (HB_wr.size) _).grown hgrow (by have := HB_wr.size; simp; omega) (fun k hk => (hown.lt k hk).1)
        have NX := Lib.hid nx
        clear hP nx ed ec hown1 hgrow hown
        go_wp2_with fail
        go_roundw
        case rel => exact ⟨k + 1, _, _, rfl, by go_num, by omega, NX.out, by omega, hown2, hb1⟩
        case measure => simp [intOf]; omega
    · have hk1 : ¬ k < (digs n).length := by omega
      have hk2 : ¬ 0 < c := by omega
      clear hc
      have hcz : c.toNat = 0 := by omega
      have fin := Lib.hid (HN.out.done (by rw [nd_def]; omega) hcz)
      have hl := Lib.hid HN.out.len
      clear hcz
      go_wp2_with fail
      refine (ref_Trim (Row.ofOwn hown) HN.out.lt (by rw [hl.out]; omega)).mono ?_
      rintro e w1 ⟨v', rfl, hrow, hb1⟩
      rw [fin.out] at hrow
      go_wp2_with fail
      go_returns
      exact ⟨_, rfl, hrow, HB_wr.trans (hb1.mono HB_wr.size)⟩

end Go.Proofs.Ytpnfomnnbmncaaa
