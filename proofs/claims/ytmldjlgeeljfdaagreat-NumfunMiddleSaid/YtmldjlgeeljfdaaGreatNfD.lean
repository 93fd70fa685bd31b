/-
  numfun.Median of numbers.
-/
import Derived.Test.YtmldjlgeeljfdaaGreatNfC
namespace Go.Proofs.YtmldjlgeeljfdaaGreat
open Go.RowKit Go.Sort
set_option linter.unusedVariables false
set_option linter.unusedSimpArgs false

def twoD : D3 := ⟨(false, 2, 0), by decide, by decide, by decide, fun h => by cases h⟩
theorem c_vTwo : HasC Tryz.prog 13 [.v (.int .i64 2)] (fun r => r = VV (.num twoD.g twoD.n twoD.e)) := c_vInt (x := 2) (by decide) (by decide)
/-- What the median is. -/
noncomputable def medO (ds : List D3) : Option D3 :=
  if ds.length % 2 = 1 then (srtL ds)[ds.length / 2]?
  else (fitO (addX (srtL ds)[ds.length / 2 - 1]! (srtL ds)[ds.length / 2]!)).bind fun d => fitO (divX d twoD)
theorem medO_odd {ds : List D3} (h : ds.length % 2 = 1) : medO ds = (srtL ds)[ds.length / 2]? := by rw [medO, if_pos h]
theorem medO_even {ds : List D3} (h : ds.length % 2 ≠ 1) : medO ds = (fitO (addX (srtL ds)[ds.length / 2 - 1]! (srtL ds)[ds.length / 2]!)).bind fun d => fitO (divX d twoD) := by rw [medO, if_neg h]
theorem half_of {z : Int} {m n : Nat} (h : IntIs .i64 ((m : Int).tdiv 2) z) (e : m = n) (hn : n < 20) : z = ((n / 2 : Nat) : Int) := by
  subst e
  rw [Int.tdiv_eq_ediv_of_nonneg (by omega)] at h
  have := h.i64 (by omega)
  omega
theorem odd_of {z : Int} {m n : Nat} (h : z = (m : Int).tmod 2) (k : z = 1) (e : m = n) : n % 2 = 1 := by
  subst e; rw [h, Int.tmod_eq_emod_of_nonneg (by omega)] at k; omega
theorem even_of {z : Int} {m n : Nat} (h : z = (m : Int).tmod 2) (k : z ≠ 1) (e : m = n) : n % 2 ≠ 1 := by
  subst e; rw [h, Int.tmod_eq_emod_of_nonneg (by omega)] at k; omega

set_option maxHeartbeats 4000000 in
set_option maxRecDepth 1000000 in
theorem c_Median {ds : List D3} (h0 : ds ≠ []) (hl : ds.length < 20) : HasC Tryz.prog 6 [.sl (numL ds).length (encL (numL ds))] (fun r => r = dOpt (medO ds)) := by
  refine dOpt_of ?_
  refine ⟨fun args w => Tryz.call6 args w, ⟨_, _, _, _, rfl, .inl rfl, rfl, rfl⟩, fun W vs Im hKw hIm hr => ?_⟩
  rw [DV.relL] at hr
  obtain ⟨y, ys, e1, hy, h2⟩ := hr
  rw [DV.relL] at h2
  subst h2
  obtain rfl : vs = #[y] := Array.ext' e1
  have HY : Aside _ := hy
  have HI : Aside _ := hIm
  have HK : Hid _ := hKw
  clear hy hIm hKw e1
  go_enter Tryz.func6, Tryz.ntmps6
  go_wp2_with fail
  refine (numbers_calls h0 hl (HK.out.below (alloc_below W _)) (fun g o h => Nat.lt_of_lt_of_le (HI.out g o h) (alloc_below W _).size) (DV.rel_mono (fun _ _ h => h) (fun g o h => alloc_cell (HI.out g o h)) _ _ HY.out)).mono ?_
  rintro e w1 ⟨b, cap, rfl, hc1, hc2, hle, hsw⟩
  have HS : Hid _ := hsw
  have HL : Hid _ := hle
  have HC : Hid _ := And.intro hc1 hc2
  clear hsw hle hc1 hc2
  go_wp2_with fail
  refine (sort_calls (cap := cap) (d := ds.toArray) (HK.out.below (alloc_below W _)) HS.out (by simpa using hl)).mono ?_
  rintro e w2 ⟨rfl, hsw2⟩
  rename_i K1 hK1 K0 hK0
  refine hK0 _ _ (hK1 _ _ ?_)
  clear hK0 hK1 K0 K1
  have hL := HL.out
  have hcap := HC.out
  rw [alloc_size] at hL
  have hsz : (insertionSort ltD ds.toArray 0 ds.toArray.size).size = ds.length := by
    have := srtL_len ds
    simpa [srtL] using this
  have hrel := sw_rel (Im := Im) (b2 := W.heap.size) (cap := cap) hsw2 (by omega) hcap.2
  rw [hsz, show (insertionSort ltD ds.toArray 0 ds.toArray.size).toList = srtL ds by simp [srtL]] at hrel
  refine vc_rest [] (g := midG Im W.heap.size b) (s := mkS 55 [(2, .p 2 0), (4, .d (.sl ((srtL ds).length) (decL (srtL ds))))] [(2, [.v (.nilIface)])]) (by kernel_rfl) ?_ ?_
  ·exact RelG.mid (k2 := 2) (b2 := W.heap.size) (blk := b) HK.out HI.out ((alloc_below W _).trans (hsw2.below.mono (alloc_below W _).size)) rfl rfl (by omega) hsw2.lt (Nat.le_refl _) (by omega) ((hsw2.below.block _ (by rw [alloc_size]; omega)).trans (alloc_new W _)) (by rw [DV.relL]; exact ⟨_, _, rfl, v_rel _, by rw [DV.relL]⟩) rfl ⟨⟨_, rfl, rfl⟩, ⟨_, rfl, hrel⟩, trivial⟩ rfl rfl
  have hs := srtL_len ds
  have hpos : 0 < ds.length := List.length_pos_iff.2 h0
  refine vc_seqr rfl (iQ 3 (iE 55 [(2, .p 2 0), (4, .d (.sl ((srtL ds).length) (decL (srtL ds)))), (6, Ia ((((srtL ds).length : Nat) : Int)))] [(2, [.v (.nilIface)])] ?_))
  refine vc_seq (vc_seqr rfl (iQ 1 (iB .rem 3 (.int .i64 ((((srtL ds).length : Nat) : Int))) (.int .i64 2) (some 22) ?_)))
  refine And.intro (by omega) ?_
  intro z22 hz22
  refine iB .eql 3 (.int .i64 z22) (.int .i64 1) (some 23) ?_
  intro c23 hc23
  refine iE 55 [(2, .p 2 0), (4, .d (.sl ((srtL ds).length) (decL (srtL ds)))), (6, Ia ((((srtL ds).length : Nat) : Int))), (23, Ba c23)] [(2, [.v (.nilIface)])] ?_
  cases c23
  ·replace hc23 := bf hc23
   have hev := even_of hz22 hc23 hs
   refine iF (vc_skip (seq_n (vc_seqr rfl (iQ 2 (iB .quo 3 (.int .i64 ((((srtL ds).length : Nat) : Int))) (.int .i64 2) (some 33) ?_)))))
   refine And.intro (by omega) ?_
   intro z33 hz33
   have hz : z33 = ((ds.length / 2 : Nat) : Int) := half_of hz33 hs hl
   obtain ⟨x, hx⟩ : ∃ x, (srtL ds)[ds.length / 2 - 1]? = some x := ⟨_, List.getElem?_eq_getElem (by omega)⟩
   obtain ⟨y2, hy2⟩ : ∃ y, (srtL ds)[ds.length / 2]? = some y := ⟨_, List.getElem?_eq_getElem (by omega)⟩
   have e1 : (srtL ds)[ds.length / 2 - 1]! = x := by simp [hx]
   have e2 : (srtL ds)[ds.length / 2]! = y2 := by simp [hy2]
   refine iB .sub 3 (.int .i64 z33) (.int .i64 1) (some 34) ?_
   intro z34 hz34
   try replace hz34 := hz34.i64 (by omega)
   have hz' : z34.toNat = ds.length / 2 - 1 := by omega
   refine vcI_idx (q := z34) (n := ((srtL ds).length)) (cs := (decL (srtL ds))) (z := 4) (ds := [.v (.bool ((x).g)), .v (.int .u64 (hiW ((x).n))), .v (.int .u64 (loW ((x).n))), .v (.int .i64 ((x).e))]) (dst := (some 35)) (by kernel_rfl) (by omega) (by rw [hz']; exact decL_get hx) ?_
   refine iQ 1 (iC 22 [.agg [Bv ((x).g), Hw ((x).n), Lw ((x).n), Iv ((x).e)]] (some 37) (c_vNumD x) ?_)
   rintro _ rfl
   refine iQ 2 (iB .quo 3 (.int .i64 ((((srtL ds).length : Nat) : Int))) (.int .i64 2) (some 40) ?_)
   refine And.intro (by omega) ?_
   intro z40 hz40
   have hzz : z40 = ((ds.length / 2 : Nat) : Int) := half_of hz40 hs hl
   refine vcI_idx (q := z40) (n := ((srtL ds).length)) (cs := (decL (srtL ds))) (z := 4) (ds := [.v (.bool ((y2).g)), .v (.int .u64 (hiW ((y2).n))), .v (.int .u64 (loW ((y2).n))), .v (.int .i64 ((y2).e))]) (dst := (some 41)) (by kernel_rfl) (by omega) (by rw [hzz, Int.toNat_natCast]; exact decL_get hy2) ?_
   refine iQ 1 (iC 22 [.agg [Bv ((y2).g), Hw ((y2).n), Lw ((y2).n), Iv ((y2).e)]] (some 43) (c_vNumD y2) ?_)
   rintro _ rfl
   refine iC 12 [Sv (⟨#[43]⟩), .agg [.bx (Vl.num (x).g (x).n (x).e).enc], .agg [.bx (Vl.num (y2).g (y2).n (y2).e).enc]] (some 44) (c_NAddE (x := x) (y := y2) rfl rfl) ?_
   rintro _ ⟨v, o, rfl, hv, ho⟩
   refine iQ 6 (iE 55 [(2, .p 2 0), (4, .d (.sl ((srtL ds).length) (decL (srtL ds)))), (6, Ia ((((srtL ds).length : Nat) : Int))), (7, .p 7 0), (8, Ba o), (23, Ba false)] [(2, [.v (.nilIface)]), (7, [.bx (v).enc])] ?_)
   refine vc_seq (vc_seqr rfl (iQ 1 (iU .not (.bool o) (some 48) ?_)))
   intro c48 hc48
   refine iE 55 [(2, .p 2 0), (4, .d (.sl ((srtL ds).length) (decL (srtL ds)))), (6, Ia ((((srtL ds).length : Nat) : Int))), (7, .p 7 0), (23, Ba false), (48, Ba c48)] [(2, [.v (.nilIface)]), (7, [.bx (v).enc])] ?_
   cases c48
   ·replace hc48 := bf hc48
    obtain ⟨d, q1, q2⟩ := opt_yes hv ho (by simpa using hc48)
    refine iF (vc_skip (seq_n (vc_seqr rfl (iQ 1 (iC 13 [Iv 2] (some 51) (c_vTwo) ?_)))))
    rintro _ rfl
    refine iC 12 [Sv (⟨#[47]⟩), .agg [.bx (v).enc], .agg [.bx (Vl.num (twoD).g (twoD).n (twoD).e).enc]] (some 52) (c_NDivE (x := d) (y := twoD) q2 rfl (by decide)) ?_
    rintro _ ⟨v2, o2, rfl, hv2, ho2⟩
    refine iQ 4 (iE 55 [(2, .p 2 0), (3, Ba o2), (4, .d (.sl ((srtL ds).length) (decL (srtL ds)))), (6, Ia ((((srtL ds).length : Nat) : Int))), (7, .p 7 0), (23, Ba false), (48, Ba false)] [(2, [.bx (v2).enc]), (7, [.bx (v).enc])] ?_)
    refine vc_ret (iS (.agg [.bx (v2).enc]) (Bv o2) [] ?_)
    exact ⟨_, _, _, rfl, .inl rfl, by rw [medO_even hev, e1, e2, q1]; exact hv2, by rw [medO_even hev, e1, e2, q1]; exact ho2⟩
   ·replace hc48 := bt hc48
    obtain ⟨q1, q2⟩ := opt_no hv ho (by simpa using hc48)
    refine iT (vc_seqr rfl (iQ 3 (iE 55 [(2, .p 2 0), (3, Ba false), (4, .d (.sl ((srtL ds).length) (decL (srtL ds)))), (6, Ia ((((srtL ds).length : Nat) : Int))), (7, .p 7 0), (23, Ba false), (48, Ba true)] [(2, [.v (.nilIface)]), (7, [.bx (v).enc])] ?_)))
    refine vc_ret (seq_r (iS (.agg [.v (.nilIface)]) (Bv false) [] ?_))
    exact ⟨_, .null, _, rfl, IsV.null, by rw [medO_even hev, e1, e2, q1]; rfl, by rw [medO_even hev, e1, e2, q1]; rfl⟩
  ·replace hc23 := bt hc23
   refine iT (vc_seqr rfl (iQ 2 (iB .quo 3 (.int .i64 ((((srtL ds).length : Nat) : Int))) (.int .i64 2) (some 26) ?_)))
   refine And.intro (by omega) ?_
   intro z26 hz26
   have hz : z26 = ((ds.length / 2 : Nat) : Int) := half_of hz26 hs hl
   obtain ⟨x, hx⟩ : ∃ x, (srtL ds)[ds.length / 2]? = some x := ⟨_, List.getElem?_eq_getElem (by omega)⟩
   refine vcI_idx (q := z26) (n := ((srtL ds).length)) (cs := (decL (srtL ds))) (z := 4) (ds := [.v (.bool ((x).g)), .v (.int .u64 (hiW ((x).n))), .v (.int .u64 (loW ((x).n))), .v (.int .i64 ((x).e))]) (dst := (some 27)) (by kernel_rfl) (by omega) (by rw [hz, Int.toNat_natCast]; exact decL_get hx) ?_
   refine iQ 1 (iC 22 [.agg [Bv ((x).g), Hw ((x).n), Lw ((x).n), Iv ((x).e)]] (some 29) (c_vNum x.ltB) ?_)
   rintro _ rfl
   refine iQ 2 (iE 55 [(2, .p 2 0), (3, Ba true), (4, .d (.sl ((srtL ds).length) (decL (srtL ds)))), (6, Ia ((((srtL ds).length : Nat) : Int))), (23, Ba true)] [(2, [.bx (numV x.g x.n x.e).enc])] ?_)
   refine vc_ret (seq_r (iS (.agg [.bx (numV x.g x.n x.e).enc]) (Bv true) [] ?_))
   exact ⟨_, _, _, rfl, .inl rfl, by rw [medO_odd (odd_of hz22 hc23 hs), hx, numV_may x.2]; rfl, by rw [medO_odd (odd_of hz22 hc23 hs), hx]; rfl⟩
end Go.Proofs.YtmldjlgeeljfdaaGreat
