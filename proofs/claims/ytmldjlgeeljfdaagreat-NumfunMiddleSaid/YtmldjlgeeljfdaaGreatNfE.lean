/-
  numfun.Mode of numbers.
-/
import Derived.Test.YtmldjlgeeljfdaaGreatNfD
namespace Go.Proofs.YtmldjlgeeljfdaaGreat
open Go.RowKit Go.Sort
set_option linter.unusedVariables false
set_option linter.unusedSimpArgs false

/-- How many stand ahead that are as great as x. -/
def runN (x : D3) : List D3 → Nat
  | [] => 0
  | y :: r => if cfD y x = 0 then runN x r + 1 else 0
/-- Run by run: how many the longest run so far has, and the heads of the runs as long as it. -/
def modeGo : Nat → List D3 → Nat → List D3 → List D3
  | 0, _, _, o => o
  | _ + 1, [], _, o => o
  | f + 1, x :: r, m, o =>
    if m < runN x (x :: r) then modeGo f ((x :: r).drop (runN x (x :: r))) (runN x (x :: r)) [x]
    else if runN x (x :: r) = m then modeGo f ((x :: r).drop (runN x (x :: r))) m (o ++ [x])
    else modeGo f ((x :: r).drop (runN x (x :: r))) m o
def modeL (ds : List D3) : List D3 := modeGo ds.length (srtL ds) 0 []
theorem modeGo_nil (f m : Nat) (o : List D3) : modeGo f [] m o = o := by cases f <;> rfl
theorem cfD_self (x : D3) : cfD x x = 0 := by rw [cfD_val, cmpI_eq]
theorem runN_end {s : List D3} {x : D3} {k : Nat} (h : s.length ≤ k) : runN x (s.drop k) = 0 := by rw [List.drop_eq_nil_of_le h]; rfl
theorem runN_cons {s : List D3} {x y : D3} {k : Nat} (h : s[k]? = some y) : runN x (s.drop k) = if cfD y x = 0 then runN x (s.drop (k + 1)) + 1 else 0 := by
  obtain ⟨h1, h2⟩ := List.getElem?_eq_some_iff.1 h
  rw [List.drop_eq_getElem_cons h1, h2, runN]
theorem runN_pos {s : List D3} {x : D3} {i : Nat} (h : s[i]? = some x) : 1 ≤ runN x (s.drop i) := by
  rw [runN_cons h, if_pos (cfD_self x)]; omega
theorem modeGo_step {s : List D3} {x : D3} {i f m n : Nat} {o R : List D3} (hx : s[i]? = some x) (hn : runN x (s.drop i) = n) (h : modeGo (f + 1) (s.drop i) m o = R) :
    (m < n → modeGo f (s.drop (i + n)) n [x] = R) ∧ (¬ m < n → n = m → modeGo f (s.drop (i + n)) m (o ++ [x]) = R) ∧ (¬ m < n → n ≠ m → modeGo f (s.drop (i + n)) m o = R) := by
  obtain ⟨h1, h2⟩ := List.getElem?_eq_some_iff.1 hx
  rw [List.drop_eq_getElem_cons h1, h2] at h hn
  have hd : ∀ q, (x :: s.drop (i + 1)).drop q = s.drop (i + q) := fun q => by
    rw [← h2, ← List.drop_eq_getElem_cons h1, List.drop_drop]
  rw [modeGo, hn, hd] at h
  refine ⟨fun a => ?_, fun a b => ?_, fun a b => ?_⟩
  · rwa [if_pos a] at h
  · rwa [if_neg a, if_pos b] at h
  · rwa [if_neg a, if_neg b] at h
theorem c_cmpD (x y : D3) : HasC Tryz.prog 21 [dDec x.g x.n x.e, dDec y.g y.n y.e] (fun r => ∃ c, r = .v (.int .i64 c) ∧ c = cfD x y) := by
  have b1 := x.lo; have b2 := x.hi; have b3 := y.lo; have b4 := y.hi
  exact (c_decCmp x.lt y.lt (by omega) (by omega) (by omega) (by omega)).mono fun r hr => ⟨_, hr, rfl⟩
theorem numL_one (o : List D3) (x : D3) : encL (numL o) ++ [BV (.num x.g x.n x.e)] = encL (numL (o ++ [x])) := by
  simp [numL, encL_map, D3.vl]

set_option maxHeartbeats 4000000 in
set_option maxRecDepth 1000000 in
theorem c_Mode {ds : List D3} (h0 : ds ≠ []) (hl : ds.length < 20) : HasC Tryz.prog 7 [.sl (numL ds).length (encL (numL ds))] (fun r => r = VV (.list (numL (modeL ds)))) := by
  refine ⟨fun args w => Tryz.call7 args w, ⟨_, rfl⟩, fun W vs Im hKw hIm hr => ?_⟩
  rw [DV.relL] at hr
  obtain ⟨y, ys, e1, hy, h2⟩ := hr
  rw [DV.relL] at h2
  subst h2
  obtain rfl : vs = #[y] := Array.ext' e1
  have HY : Aside _ := hy
  have HI : Aside _ := hIm
  have HK : Hid _ := hKw
  clear hy hIm hKw e1
  go_enter Tryz.func7, Tryz.ntmps7
  go_wp2_with fail
  refine (numbers_calls h0 hl (HK.out.below (alloc_below W _)) (fun g o h => Nat.lt_of_lt_of_le (HI.out g o h) (alloc_below W _).size) (DV.rel_mono (fun _ _ h => h) (fun g o h => alloc_cell (HI.out g o h)) _ _ HY.out)).mono ?_
  rintro e w1 ⟨b, cap, rfl, hc1, hc2, hle, hsw⟩
  have HS : Hid _ := hsw
  have HL : Hid _ := hle
  have HC : Hid _ := And.intro hc1 hc2
  clear hsw hle hc1 hc2
  go_wp2_with fail
  refine (sort_calls (cap := cap) (d := ds.toArray) (HK.out.below (alloc_below W _)) HS.out (by simpa using hl)).mono ?_
  rintro e w2 ⟨rfl, hsw2⟩
  rename_i K1 hK1 K0 hK0
  refine hK0 _ _ (hK1 _ _ ?_)
  clear hK0 hK1 K0 K1
  have hL := HL.out
  have hcap := HC.out
  rw [alloc_size] at hL
  have hsz : (insertionSort ltD ds.toArray 0 ds.toArray.size).size = ds.length := by
    have := srtL_len ds
    simpa [srtL] using this
  have hrel := sw_rel (Im := Im) (b2 := W.heap.size) (cap := cap) hsw2 (by omega) hcap.2
  rw [hsz, show (insertionSort ltD ds.toArray 0 ds.toArray.size).toList = srtL ds by simp [srtL]] at hrel
  refine vc_rest [] (g := midG Im W.heap.size b) (s := mkS 70 [(2, .p 2 0), (3, .d (.sl ((srtL ds).length) (decL (srtL ds))))] [(2, [.v (.nilIface)])]) (by kernel_rfl) ?_ ?_
  ·exact RelG.mid (k2 := 2) (b2 := W.heap.size) (blk := b) HK.out HI.out ((alloc_below W _).trans (hsw2.below.mono (alloc_below W _).size)) rfl rfl (by omega) hsw2.lt (Nat.le_refl _) (by omega) ((hsw2.below.block _ (by rw [alloc_size]; omega)).trans (alloc_new W _)) (by rw [DV.relL]; exact ⟨_, _, rfl, v_rel _, by rw [DV.relL]⟩) rfl ⟨⟨_, rfl, rfl⟩, ⟨_, rfl, hrel⟩, trivial⟩ rfl rfl
  have hs := srtL_len ds
  refine vc_seqr rfl (iQ 1 (iE 70 [(2, .p 2 0), (3, .d (.sl ((srtL ds).length) (decL (srtL ds)))), (5, .w (.sl 0 []) none)] [(2, [.v (.nilIface)])] ?_))
  refine vc_seqr rfl (iQ 1 (iE 70 [(2, .p 2 0), (3, .d (.sl ((srtL ds).length) (decL (srtL ds)))), (5, .w (.sl 0 []) none), (6, Ia 0)] [(2, [.v (.nilIface)])] ?_))
  refine vc_seq (vc_seqr rfl (iQ 1 (iE 70 [(2, .p 2 0), (3, .d (.sl ((srtL ds).length) (decL (srtL ds)))), (5, .w (.sl 0 []) none), (6, Ia 0), (7, Ia 0)] [(2, [.v (.nilIface)])] ?_)))
  refine vc_block (vc_loop 70 (fun (vcx : Nat × Nat × Nat × Int × Int × (List D3)) => match vcx with | (i, m, f, zi, zm, o) => [(2, .p 2 0), (3, .d (.sl ((srtL ds).length) (decL (srtL ds)))), (5, .w (.sl ((numL o).length) (encL (numL o))) (some ⟨66, 0, 29, 1⟩)), (6, Ia zm), (7, Ia zi)]) (fun (vcx : Nat × Nat × Nat × Int × Int × (List D3)) => match vcx with | (i, m, f, zi, zm, o) => [(2, [.v (.nilIface)])]) (fun (vcx : Nat × Nat × Nat × Int × Int × (List D3)) => match vcx with | (i, m, f, zi, zm, o) => zi = i ∧ zm = m ∧ i ≤ ds.length ∧ ds.length ≤ i + f ∧ m ≤ ds.length ∧ o.length ≤ i ∧ modeGo f ((srtL ds).drop i) m o = modeL ds) (fun (vcx : Nat × Nat × Nat × Int × Int × (List D3)) => match vcx with | (i, m, f, zi, zm, o) => ds.length - i) ((0, 0, ds.length, 0, 0, [])) (⟨rfl, rfl, by omega, by omega, by omega, by simp, rfl⟩) (by kernel_rfl) (by kernel_rfl) ?_)
  rintro ⟨i, m, f, zi, zm, o⟩ hinv
  simp only at hinv
  obtain ⟨h1, h2, h3, h4, h5, h6, h7⟩ := hinv
  refine vc_seq (vc_seqr rfl (iQ 3 (iB .lss 3 (.int .i64 zi) (.int .i64 ((((srtL ds).length : Nat) : Int))) (some 26) ?_)))
  intro c26 hc26
  refine iE 70 [(2, .p 2 0), (3, .d (.sl ((srtL ds).length) (decL (srtL ds)))), (5, .w (.sl ((numL o).length) (encL (numL o))) (some ⟨66, 0, 29, 1⟩)), (6, Ia zm), (7, Ia zi), (26, Ba c26)] [(2, [.v (.nilIface)])] ?_
  cases c26
  ·replace hc26 := bf hc26
   have hi : i = ds.length := by omega
   refine iF (vc_exit (seq_x (loop_x (block_x rfl (seq_n (vc_seqr rfl (iQ 1 (iC 23 [.sl ((numL o).length) (encL (numL o))] (some 69) (c_vList (vs := numL o) (by rw [numL_len]; omega)) ?_))))))))
   rintro _ rfl
   have ho : o = modeL ds := by rw [← h7, hi, List.drop_eq_nil_of_le (by omega), modeGo_nil]
   refine iQ 1 (iE 70 [(2, .p 2 0), (3, .d (.sl ((srtL ds).length) (decL (srtL ds)))), (5, .w (.sl ((numL o).length) (encL (numL o))) (some ⟨66, 0, 29, 1⟩)), (6, Ia zm), (7, Ia zi), (26, Ba false)] [(2, [.bx (Vl.list (numL o)).enc])] ?_)
   refine vc_ret (iR (.agg [.bx (Vl.list (numL o)).enc]) ?_)
   rw [ho]
  ·replace hc26 := bt hc26
   obtain ⟨x, hx⟩ : ∃ x, (srtL ds)[i]? = some x := ⟨_, List.getElem?_eq_getElem (by omega)⟩
   have hf : modeGo ((f - 1) + 1) ((srtL ds).drop i) m o = modeL ds := by rw [Nat.sub_add_cancel (by omega)]; exact h7
   refine iT (vc_skip (seq_n (vc_block (vc_seqr rfl (iQ 2 (iE 70 [(2, .p 2 0), (3, .d (.sl ((srtL ds).length) (decL (srtL ds)))), (5, .w (.sl ((numL o).length) (encL (numL o))) (some ⟨66, 0, 29, 1⟩)), (6, Ia zm), (7, Ia zi), (8, Ia zi), (26, Ba true)] [(2, [.v (.nilIface)])] ?_))))))
   refine vc_seq (vc_block (vc_loop 70 (fun (vcx : Nat × Int) => match vcx with | (k, zk) => [(2, .p 2 0), (3, .d (.sl ((srtL ds).length) (decL (srtL ds)))), (5, .w (.sl ((numL o).length) (encL (numL o))) (some ⟨66, 0, 29, 1⟩)), (6, Ia zm), (7, Ia zi), (8, Ia zk), (26, Ba true)]) (fun (vcx : Nat × Int) => match vcx with | (k, zk) => [(2, [.v (.nilIface)])]) (fun (vcx : Nat × Int) => match vcx with | (k, zk) => zk = k ∧ i ≤ k ∧ k ≤ ds.length ∧ runN x ((srtL ds).drop i) = k - i + runN x ((srtL ds).drop k)) (fun (vcx : Nat × Int) => match vcx with | (k, zk) => ds.length - k) ((i, zi)) (⟨h1, by omega, by omega, by omega⟩) (by kernel_rfl) (by kernel_rfl) ?_))
   rintro ⟨k, zk⟩ hinv
   simp only at hinv
   obtain ⟨k1, k2, k3, k4⟩ := hinv
   refine vc_seq (vc_seqr rfl (iQ 3 (iB .lss 3 (.int .i64 zk) (.int .i64 ((((srtL ds).length : Nat) : Int))) (some 31) ?_)))
   intro c31 hc31
   refine iQ 1 ?_
   cases c31
   ·replace hc31 := bf hc31
    refine iQ 11 (iE 70 [(2, .p 2 0), (3, .d (.sl ((srtL ds).length) (decL (srtL ds)))), (5, .w (.sl ((numL o).length) (encL (numL o))) (some ⟨66, 0, 29, 1⟩)), (6, Ia zm), (7, Ia zi), (8, Ia zk), (26, Ba true), (43, Ba false)] [(2, [.v (.nilIface)])] ?_)
    have hr0 : runN x ((srtL ds).drop k) = 0 := runN_end (by omega)
    have hend : runN x ((srtL ds).drop i) = k - i := by omega
    have st := modeGo_step hx hend hf
    rw [show i + (k - i) = k by omega] at st
    have hp := runN_pos hx
    refine iF (vc_exit (seq_x (loop_x (block_x rfl (seq_n (vc_seq (vc_seqr rfl (iQ 2 (iB .sub 3 (.int .i64 zk) (.int .i64 zi) (some 48) ?_)))))))))
    intro z48 hz48
    try replace hz48 := hz48.i64 (by omega)
    refine iQ 1 (iB .gtr 3 (.int .i64 z48) (.int .i64 zm) (some 50) ?_)
    intro c50 hc50
    refine iE 70 [(2, .p 2 0), (3, .d (.sl ((srtL ds).length) (decL (srtL ds)))), (5, .w (.sl ((numL o).length) (encL (numL o))) (some ⟨66, 0, 29, 1⟩)), (6, Ia zm), (7, Ia zi), (8, Ia zk), (26, Ba true), (43, Ba false), (50, Ba c50)] [(2, [.v (.nilIface)])] ?_
    cases c50
    ·replace hc50 := bf hc50
     refine iF (vc_skip (seq_n (vc_seq (vc_seqr rfl (iQ 2 (iB .sub 3 (.int .i64 zk) (.int .i64 zi) (some 56) ?_))))))
     intro z56 hz56
     try replace hz56 := hz56.i64 (by omega)
     refine iQ 1 (iB .eql 3 (.int .i64 z56) (.int .i64 zm) (some 58) ?_)
     intro c58 hc58
     refine iE 70 [(2, .p 2 0), (3, .d (.sl ((srtL ds).length) (decL (srtL ds)))), (5, .w (.sl ((numL o).length) (encL (numL o))) (some ⟨66, 0, 29, 1⟩)), (6, Ia zm), (7, Ia zi), (8, Ia zk), (26, Ba true), (43, Ba false), (50, Ba false), (58, Ba c58)] [(2, [.v (.nilIface)])] ?_
     cases c58
     ·replace hc58 := bf hc58
      refine iF (vc_skip (seq_n (vc_reg rfl (iQ 2 (iE 70 [(2, .p 2 0), (3, .d (.sl ((srtL ds).length) (decL (srtL ds)))), (5, .w (.sl ((numL o).length) (encL (numL o))) (some ⟨66, 0, 29, 1⟩)), (6, Ia zm), (7, Ia zk), (8, Ia zk), (26, Ba true), (43, Ba false), (50, Ba false), (58, Ba false)] [(2, [.v (.nilIface)])] ?_)))))
      refine block_n ?_
      refine loop_n (k, m, f - 1, zk, zm, o) (⟨k1, h2, k3, by omega, h5, by omega, st.2.2 (by omega) (by omega)⟩) (by simp only; omega) (by kernel_rfl) (by kernel_rfl)
     ·replace hc58 := bt hc58
      refine iT (vc_reg rfl (iQ 3 (vcI_idx (q := zi) (n := ((srtL ds).length)) (cs := (decL (srtL ds))) (z := 4) (ds := [.v (.bool ((x).g)), .v (.int .u64 (hiW ((x).n))), .v (.int .u64 (loW ((x).n))), .v (.int .i64 ((x).e))]) (dst := (some 62)) (by kernel_rfl) (by omega) (by rw [h1, Int.toNat_natCast]; exact decL_get hx) ?_)))
      refine iQ 1 (iC 22 [.agg [Bv ((x).g), Hw ((x).n), Lw ((x).n), Iv ((x).e)]] (some 64) (c_vNumD x) ?_)
      rintro _ rfl
      refine iQ 1 (vcI_app (n := ((numL o).length)) (cs := (encL (numL o))) (m := 1) (ds := [.bx (Vl.num (x).g (x).n (x).e).enc]) (N := ((numL (o ++ [x])).length)) (es := (encL (numL (o ++ [x])))) (j := 66) (e := 29) (z := 1) (dst := (some 66)) (by kernel_rfl) (by first | rfl | omega | (rw [Nat.mul_one]; exact dg_len _) | (simp [dg]; done) | (simp [dg]; omega)) (by first | rfl | omega | (rw [Nat.mul_one]; exact dg_len _) | (simp [dg]; done) | (simp [dg]; omega)) (rfl) (by rw [numL_len]; omega) (by simp [numL]) (numL_one o x) ?_)
      refine iQ 1 (iE 70 [(2, .p 2 0), (3, .d (.sl ((srtL ds).length) (decL (srtL ds)))), (5, .w (.sl ((numL (o ++ [x])).length) (encL (numL (o ++ [x])))) (some ⟨66, 0, 29, 1⟩)), (6, Ia zm), (7, Ia zi), (8, Ia zk), (26, Ba true), (43, Ba false), (50, Ba false), (58, Ba true)] [(2, [.v (.nilIface)])] ?_)
      refine seq_n (vc_reg rfl (iQ 2 (iE 70 [(2, .p 2 0), (3, .d (.sl ((srtL ds).length) (decL (srtL ds)))), (5, .w (.sl ((numL (o ++ [x])).length) (encL (numL (o ++ [x])))) (some ⟨66, 0, 29, 1⟩)), (6, Ia zm), (7, Ia zk), (8, Ia zk), (26, Ba true), (43, Ba false), (50, Ba false), (58, Ba true)] [(2, [.v (.nilIface)])] ?_)))
      refine block_n ?_
      refine loop_n (k, m, f - 1, zk, zm, o ++ [x]) (⟨k1, h2, k3, by omega, h5, by simp; omega, st.2.1 (by omega) (by omega)⟩) (by simp only; omega) (by kernel_rfl) (by kernel_rfl)
    ·replace hc50 := bt hc50
     refine iT (vc_reg rfl (iQ 2 (iB .sub 3 (.int .i64 zk) (.int .i64 zi) (some 53) ?_)))
     intro z53 hz53
     try replace hz53 := hz53.i64 (by omega)
     refine iQ 2 (iE 70 [(2, .p 2 0), (3, .d (.sl ((srtL ds).length) (decL (srtL ds)))), (5, .w (.sl 0 []) none), (6, Ia z53), (7, Ia zi), (8, Ia zk), (26, Ba true), (43, Ba false), (50, Ba true)] [(2, [.v (.nilIface)])] ?_)
     refine seq_n (vc_seq (vc_seqr rfl (iQ 2 (iB .sub 3 (.int .i64 zk) (.int .i64 zi) (some 56) ?_))))
     intro z56 hz56
     try replace hz56 := hz56.i64 (by omega)
     refine iQ 1 (iB .eql 3 (.int .i64 z56) (.int .i64 z53) (some 58) ?_)
     refine all_true ((by omega)) ?_
     refine iE 70 [(2, .p 2 0), (3, .d (.sl ((srtL ds).length) (decL (srtL ds)))), (5, .w (.sl 0 []) none), (6, Ia z53), (7, Ia zi), (8, Ia zk), (26, Ba true), (43, Ba false), (50, Ba true), (58, Ba true)] [(2, [.v (.nilIface)])] ?_
     refine iT (vc_reg rfl (iQ 3 (vcI_idx (q := zi) (n := ((srtL ds).length)) (cs := (decL (srtL ds))) (z := 4) (ds := [.v (.bool ((x).g)), .v (.int .u64 (hiW ((x).n))), .v (.int .u64 (loW ((x).n))), .v (.int .i64 ((x).e))]) (dst := (some 62)) (by kernel_rfl) (by omega) (by rw [h1, Int.toNat_natCast]; exact decL_get hx) ?_)))
     refine iQ 1 (iC 22 [.agg [Bv ((x).g), Hw ((x).n), Lw ((x).n), Iv ((x).e)]] (some 64) (c_vNumD x) ?_)
     rintro _ rfl
     refine iQ 1 (vcI_app (n := 0) (cs := []) (m := 1) (ds := [.bx (Vl.num (x).g (x).n (x).e).enc]) (N := ((numL [x]).length)) (es := (encL (numL [x]))) (j := 66) (e := 29) (z := 1) (dst := (some 66)) (by kernel_rfl) (by first | rfl | omega | (rw [Nat.mul_one]; exact dg_len _) | (simp [dg]; done) | (simp [dg]; omega)) (by first | rfl | omega | (rw [Nat.mul_one]; exact dg_len _) | (simp [dg]; done) | (simp [dg]; omega)) (rfl) (by omega) (by simp [numL]) (numL_one [] x) ?_)
     refine iQ 1 (iE 70 [(2, .p 2 0), (3, .d (.sl ((srtL ds).length) (decL (srtL ds)))), (5, .w (.sl ((numL [x]).length) (encL (numL [x]))) (some ⟨66, 0, 29, 1⟩)), (6, Ia z53), (7, Ia zi), (8, Ia zk), (26, Ba true), (43, Ba false), (50, Ba true), (58, Ba true)] [(2, [.v (.nilIface)])] ?_)
     refine seq_n (vc_reg rfl (iQ 2 (iE 70 [(2, .p 2 0), (3, .d (.sl ((srtL ds).length) (decL (srtL ds)))), (5, .w (.sl ((numL [x]).length) (encL (numL [x]))) (some ⟨66, 0, 29, 1⟩)), (6, Ia z53), (7, Ia zk), (8, Ia zk), (26, Ba true), (43, Ba false), (50, Ba true), (58, Ba true)] [(2, [.v (.nilIface)])] ?_)))
     refine block_n ?_
     refine loop_n (k, k - i, f - 1, zk, z53, [x]) (⟨k1, by omega, k3, by omega, by omega, by simp; omega, st.1 (by omega)⟩) (by simp only; omega) (by kernel_rfl) (by kernel_rfl)
   ·replace hc31 := bt hc31
    refine iQ 2 ?_
    obtain ⟨y2, hy2⟩ : ∃ y, (srtL ds)[k]? = some y := ⟨_, List.getElem?_eq_getElem (by omega)⟩
    have hrc := runN_cons (x := x) hy2
    refine vcI_idx (q := zk) (n := ((srtL ds).length)) (cs := (decL (srtL ds))) (z := 4) (ds := [.v (.bool ((y2).g)), .v (.int .u64 (hiW ((y2).n))), .v (.int .u64 (loW ((y2).n))), .v (.int .i64 ((y2).e))]) (dst := (some 35)) (by kernel_rfl) (by omega) (by rw [k1, Int.toNat_natCast]; exact decL_get hy2) ?_
    refine iQ 3 (vcI_idx (q := zi) (n := ((srtL ds).length)) (cs := (decL (srtL ds))) (z := 4) (ds := [.v (.bool ((x).g)), .v (.int .u64 (hiW ((x).n))), .v (.int .u64 (loW ((x).n))), .v (.int .i64 ((x).e))]) (dst := (some 39)) (by kernel_rfl) (by omega) (by rw [h1, Int.toNat_natCast]; exact decL_get hx) ?_)
    refine iQ 1 (iC 21 [.agg [Bv ((y2).g), Hw ((y2).n), Lw ((y2).n), Iv ((y2).e)], .agg [Bv ((x).g), Hw ((x).n), Lw ((x).n), Iv ((x).e)]] (some 41) (c_cmpD y2 x) ?_)
    rintro _ ⟨c, rfl, hc⟩
    refine iB .eql 3 (.int .i64 c) (.int .i64 0) (some 42) ?_
    intro c42 hc42
    refine iQ 1 (iE 70 [(2, .p 2 0), (3, .d (.sl ((srtL ds).length) (decL (srtL ds)))), (5, .w (.sl ((numL o).length) (encL (numL o))) (some ⟨66, 0, 29, 1⟩)), (6, Ia zm), (7, Ia zi), (8, Ia zk), (26, Ba true), (43, Ba c42)] [(2, [.v (.nilIface)])] ?_)
    cases c42
    ·replace hc42 := bf hc42
     rw [if_neg (by rw [← hc]; exact hc42)] at hrc
     have hend : runN x ((srtL ds).drop i) = k - i := by omega
     have st := modeGo_step hx hend hf
     rw [show i + (k - i) = k by omega] at st
     have hp := runN_pos hx
     refine iF (vc_exit (seq_x (loop_x (block_x rfl (seq_n (vc_seq (vc_seqr rfl (iQ 2 (iB .sub 3 (.int .i64 zk) (.int .i64 zi) (some 48) ?_)))))))))
     intro z48 hz48
     try replace hz48 := hz48.i64 (by omega)
     refine iQ 1 (iB .gtr 3 (.int .i64 z48) (.int .i64 zm) (some 50) ?_)
     intro c50 hc50
     refine iE 70 [(2, .p 2 0), (3, .d (.sl ((srtL ds).length) (decL (srtL ds)))), (5, .w (.sl ((numL o).length) (encL (numL o))) (some ⟨66, 0, 29, 1⟩)), (6, Ia zm), (7, Ia zi), (8, Ia zk), (26, Ba true), (43, Ba false), (50, Ba c50)] [(2, [.v (.nilIface)])] ?_
     cases c50
     ·replace hc50 := bf hc50
      refine iF (vc_skip (seq_n (vc_seq (vc_seqr rfl (iQ 2 (iB .sub 3 (.int .i64 zk) (.int .i64 zi) (some 56) ?_))))))
      intro z56 hz56
      try replace hz56 := hz56.i64 (by omega)
      refine iQ 1 (iB .eql 3 (.int .i64 z56) (.int .i64 zm) (some 58) ?_)
      intro c58 hc58
      refine iE 70 [(2, .p 2 0), (3, .d (.sl ((srtL ds).length) (decL (srtL ds)))), (5, .w (.sl ((numL o).length) (encL (numL o))) (some ⟨66, 0, 29, 1⟩)), (6, Ia zm), (7, Ia zi), (8, Ia zk), (26, Ba true), (43, Ba false), (50, Ba false), (58, Ba c58)] [(2, [.v (.nilIface)])] ?_
      cases c58
      ·replace hc58 := bf hc58
       refine iF (vc_skip (seq_n (vc_reg rfl (iQ 2 (iE 70 [(2, .p 2 0), (3, .d (.sl ((srtL ds).length) (decL (srtL ds)))), (5, .w (.sl ((numL o).length) (encL (numL o))) (some ⟨66, 0, 29, 1⟩)), (6, Ia zm), (7, Ia zk), (8, Ia zk), (26, Ba true), (43, Ba false), (50, Ba false), (58, Ba false)] [(2, [.v (.nilIface)])] ?_)))))
       refine block_n ?_
       refine loop_n (k, m, f - 1, zk, zm, o) (⟨k1, h2, k3, by omega, h5, by omega, st.2.2 (by omega) (by omega)⟩) (by simp only; omega) (by kernel_rfl) (by kernel_rfl)
      ·replace hc58 := bt hc58
       refine iT (vc_reg rfl (iQ 3 (vcI_idx (q := zi) (n := ((srtL ds).length)) (cs := (decL (srtL ds))) (z := 4) (ds := [.v (.bool ((x).g)), .v (.int .u64 (hiW ((x).n))), .v (.int .u64 (loW ((x).n))), .v (.int .i64 ((x).e))]) (dst := (some 62)) (by kernel_rfl) (by omega) (by rw [h1, Int.toNat_natCast]; exact decL_get hx) ?_)))
       refine iQ 1 (iC 22 [.agg [Bv ((x).g), Hw ((x).n), Lw ((x).n), Iv ((x).e)]] (some 64) (c_vNumD x) ?_)
       rintro _ rfl
       refine iQ 1 (vcI_app (n := ((numL o).length)) (cs := (encL (numL o))) (m := 1) (ds := [.bx (Vl.num (x).g (x).n (x).e).enc]) (N := ((numL (o ++ [x])).length)) (es := (encL (numL (o ++ [x])))) (j := 66) (e := 29) (z := 1) (dst := (some 66)) (by kernel_rfl) (by first | rfl | omega | (rw [Nat.mul_one]; exact dg_len _) | (simp [dg]; done) | (simp [dg]; omega)) (by first | rfl | omega | (rw [Nat.mul_one]; exact dg_len _) | (simp [dg]; done) | (simp [dg]; omega)) (rfl) (by rw [numL_len]; omega) (by simp [numL]) (numL_one o x) ?_)
       refine iQ 1 (iE 70 [(2, .p 2 0), (3, .d (.sl ((srtL ds).length) (decL (srtL ds)))), (5, .w (.sl ((numL (o ++ [x])).length) (encL (numL (o ++ [x])))) (some ⟨66, 0, 29, 1⟩)), (6, Ia zm), (7, Ia zi), (8, Ia zk), (26, Ba true), (43, Ba false), (50, Ba false), (58, Ba true)] [(2, [.v (.nilIface)])] ?_)
       refine seq_n (vc_reg rfl (iQ 2 (iE 70 [(2, .p 2 0), (3, .d (.sl ((srtL ds).length) (decL (srtL ds)))), (5, .w (.sl ((numL (o ++ [x])).length) (encL (numL (o ++ [x])))) (some ⟨66, 0, 29, 1⟩)), (6, Ia zm), (7, Ia zk), (8, Ia zk), (26, Ba true), (43, Ba false), (50, Ba false), (58, Ba true)] [(2, [.v (.nilIface)])] ?_)))
       refine block_n ?_
       refine loop_n (k, m, f - 1, zk, zm, o ++ [x]) (⟨k1, h2, k3, by omega, h5, by simp; omega, st.2.1 (by omega) (by omega)⟩) (by simp only; omega) (by kernel_rfl) (by kernel_rfl)
     ·replace hc50 := bt hc50
      refine iT (vc_reg rfl (iQ 2 (iB .sub 3 (.int .i64 zk) (.int .i64 zi) (some 53) ?_)))
      intro z53 hz53
      try replace hz53 := hz53.i64 (by omega)
      refine iQ 2 (iE 70 [(2, .p 2 0), (3, .d (.sl ((srtL ds).length) (decL (srtL ds)))), (5, .w (.sl 0 []) none), (6, Ia z53), (7, Ia zi), (8, Ia zk), (26, Ba true), (43, Ba false), (50, Ba true)] [(2, [.v (.nilIface)])] ?_)
      refine seq_n (vc_seq (vc_seqr rfl (iQ 2 (iB .sub 3 (.int .i64 zk) (.int .i64 zi) (some 56) ?_))))
      intro z56 hz56
      try replace hz56 := hz56.i64 (by omega)
      refine iQ 1 (iB .eql 3 (.int .i64 z56) (.int .i64 z53) (some 58) ?_)
      refine all_true ((by omega)) ?_
      refine iE 70 [(2, .p 2 0), (3, .d (.sl ((srtL ds).length) (decL (srtL ds)))), (5, .w (.sl 0 []) none), (6, Ia z53), (7, Ia zi), (8, Ia zk), (26, Ba true), (43, Ba false), (50, Ba true), (58, Ba true)] [(2, [.v (.nilIface)])] ?_
      refine iT (vc_reg rfl (iQ 3 (vcI_idx (q := zi) (n := ((srtL ds).length)) (cs := (decL (srtL ds))) (z := 4) (ds := [.v (.bool ((x).g)), .v (.int .u64 (hiW ((x).n))), .v (.int .u64 (loW ((x).n))), .v (.int .i64 ((x).e))]) (dst := (some 62)) (by kernel_rfl) (by omega) (by rw [h1, Int.toNat_natCast]; exact decL_get hx) ?_)))
      refine iQ 1 (iC 22 [.agg [Bv ((x).g), Hw ((x).n), Lw ((x).n), Iv ((x).e)]] (some 64) (c_vNumD x) ?_)
      rintro _ rfl
      refine iQ 1 (vcI_app (n := 0) (cs := []) (m := 1) (ds := [.bx (Vl.num (x).g (x).n (x).e).enc]) (N := ((numL [x]).length)) (es := (encL (numL [x]))) (j := 66) (e := 29) (z := 1) (dst := (some 66)) (by kernel_rfl) (by first | rfl | omega | (rw [Nat.mul_one]; exact dg_len _) | (simp [dg]; done) | (simp [dg]; omega)) (by first | rfl | omega | (rw [Nat.mul_one]; exact dg_len _) | (simp [dg]; done) | (simp [dg]; omega)) (rfl) (by omega) (by simp [numL]) (numL_one [] x) ?_)
      refine iQ 1 (iE 70 [(2, .p 2 0), (3, .d (.sl ((srtL ds).length) (decL (srtL ds)))), (5, .w (.sl ((numL [x]).length) (encL (numL [x]))) (some ⟨66, 0, 29, 1⟩)), (6, Ia z53), (7, Ia zi), (8, Ia zk), (26, Ba true), (43, Ba false), (50, Ba true), (58, Ba true)] [(2, [.v (.nilIface)])] ?_)
      refine seq_n (vc_reg rfl (iQ 2 (iE 70 [(2, .p 2 0), (3, .d (.sl ((srtL ds).length) (decL (srtL ds)))), (5, .w (.sl ((numL [x]).length) (encL (numL [x]))) (some ⟨66, 0, 29, 1⟩)), (6, Ia z53), (7, Ia zk), (8, Ia zk), (26, Ba true), (43, Ba false), (50, Ba true), (58, Ba true)] [(2, [.v (.nilIface)])] ?_)))
      refine block_n ?_
      refine loop_n (k, k - i, f - 1, zk, z53, [x]) (⟨k1, by omega, k3, by omega, by omega, by simp; omega, st.1 (by omega)⟩) (by simp only; omega) (by kernel_rfl) (by kernel_rfl)
    ·replace hc42 := bt hc42
     rw [if_pos (by rw [← hc]; exact hc42)] at hrc
     refine iT (vc_skip (seq_n (vc_block (vc_reg rfl (iQ 1 (iB .add 3 (.int .i64 zk) (.int .i64 1) (some 45) ?_))))))
     intro z45 hz45
     try replace hz45 := hz45.i64 (by omega)
     refine iQ 1 (iE 70 [(2, .p 2 0), (3, .d (.sl ((srtL ds).length) (decL (srtL ds)))), (5, .w (.sl ((numL o).length) (encL (numL o))) (some ⟨66, 0, 29, 1⟩)), (6, Ia zm), (7, Ia zi), (8, Ia z45), (26, Ba true), (43, Ba true)] [(2, [.v (.nilIface)])] ?_)
     refine block_n ?_
     refine loop_n (k + 1, z45) (⟨by omega, by omega, by omega, by omega⟩) (by simp only; omega) (by kernel_rfl) (by kernel_rfl)
end Go.Proofs.YtmldjlgeeljfdaaGreat
