/-
  numeral: Read, Signed, Plain.
-/
import Derived.Test.YtjpaedjhihiakaaDoorNrA
namespace Go.Proofs.YtjpaedjhihiakaaDoor
open Go.RowKit
set_option linter.unusedVariables false
set_option linter.unusedSimpArgs false
set_option maxRecDepth 100000

theorem nd38 {N : Nat} (h : N < 10 ^ 38) : N < B128 ∧ nd N ≤ 78 := ⟨Nat.lt_trans h (by decide), Nat.le_trans (nd_le 38 N h) (by decide)⟩
theorem c_FitR {N : Nat} {E : Int} {more : Bool} {g : Bool} {k : Nat} {x : Int} {ok : Bool} (h : fitU 1 false N E more = (g, k, x, ok)) (hN : N < 10 ^ 38) (he0 : -1000000000000000000 ≤ E) (he1 : E ≤ 1000000000000000000) :
    HasC Tryd.prog 77 [.agg [.v (.bool false), .v (.int .u64 0), .v (.int .u64 0), .v (.int .u64 (hiW N)), .v (.int .u64 (loW N)), .v (.int .i64 E), .v (.bool more)], .v (.int .i64 1)] (fun y => y = .tup [dDec g k x, .v (.bool ok)]) :=
  (c_FitT1 (m := 1) (neg := false) (more := more) (nd38 hN).1 he0 he1).mono fun y ⟨g', k', x', ok', h1, h2⟩ => by
    rw [fitT_U _ _ _ _ (nd38 hN).2, h] at h2
    simp only [Prod.mk.injEq] at h2
    obtain ⟨a1, a2, a3, a4⟩ := h2
    rw [h1, a1, a2, a3, a4]
theorem c_FitZ {E : Int} {g : Bool} {k : Nat} {x : Int} {ok : Bool} (h : fitU 1 false 0 E false = (g, k, x, ok)) (he0 : -1000000000000000000 ≤ E) (he1 : E ≤ 1000000000000000000) :
    HasC Tryd.prog 77 [.agg [.v (.bool false), .v (.int .u64 0), .v (.int .u64 0), .v (.int .u64 0), .v (.int .u64 0), .v (.int .i64 E), .v (.bool false)], .v (.int .i64 1)] (fun y => y = .tup [dDec g k x, .v (.bool ok)]) := by
  have c := c_FitR h (by decide) he0 he1
  exact c
/-- What a text that has the shape is made of. -/
theorem shape_facts {l s1 e1 w p : L8} {is1 pt : Bool} (hX : cutL 69 l = (s1, e1, is1)) (hY : cutL 46 s1 = (w, p, pt)) (h : shapeB l = true) :
    (trimP 43 e1 = [] ∧ expS e1 = 0 ∨ Lib.atoiAll (trimP 43 e1) = .ok (expS e1) ∧ (trimP 43 e1).length ≤ 100) ∧ -999999 ≤ expS e1 ∧ expS e1 ≤ 999999 ∧ (w ++ p).all isDg = true ∧ readT l = fitU 1 false (nvL (w ++ p)) (expS e1 - p.length) false := by
  have hr : readT l = fitU 1 false (nvL (w ++ p)) (expS e1 - p.length) false := by
    rw [readT, if_pos h]
    simp only [rawN, rawE, allS, hX, hY]
  rw [shape_eq hX hY, Bool.and_eq_true] at h
  obtain ⟨hE, hP⟩ := h
  have hpn := (cutL_rest hY).1
  have hall : (w ++ p).all isDg = true := by
    rw [List.all_append, Bool.and_eq_true]
    rw [Bool.or_eq_true] at hP
    rcases hP with hP | hP
    · simp only [Bool.and_eq_true, Bool.or_eq_true] at hP
      refine ⟨?_, (digsB_iff.1 hP.1.2).2⟩
      rcases hP.2 with h | h
      · rw [List.isEmpty_iff] at h
        rw [h]
        rfl
      · exact (digsB_iff.1 h).2
    · simp only [Bool.and_eq_true, Bool.not_eq_true'] at hP
      rw [hpn hP.1]
      exact ⟨(digsB_iff.1 hP.2).2, rfl⟩
  rw [Bool.or_eq_true] at hE
  rcases hE with hE | hE
  · have he : e1 = [] := (cutL_rest hX).1 (by simpa using hE)
    subst he
    exact ⟨.inl ⟨rfl, rfl⟩, by decide, by decide, hall, hr⟩
  · simp only [Bool.and_eq_true, decide_eq_true_eq] at hE
    have h1 := atoi_exp hE.1 hE.2
    have h2 := (pmag (digsB_iff.1 hE.1).2 (digsB_iff.1 hE.1).1 hE.2).2
    have h3 : (trimP 43 e1).length ≤ 100 := by
      have h4 : e1.length ≤ (signP e1).length + 1 := by
        unfold signP
        split
        · rw [List.length_tail]; omega
        · omega
      unfold trimP
      split
      · rw [List.length_tail]; omega
      · omega
    have h5 : -999999 ≤ expS e1 ∧ expS e1 ≤ 999999 := by
      unfold expS
      split <;> omega
    exact ⟨.inr ⟨h1, h3⟩, h5.1, h5.2, hall, hr⟩
theorem c_TrimL0E {l L : L8} {s : ByteArray} (hs : s = tx l) (hL : L = lz l) : HasC Tryd.prog 74 [.v (.string s), .v (.string ⟨#[48]⟩)] (fun y => y = .v (.string (tx L))) := by subst hL; exact c_TrimL0 hs

set_option maxHeartbeats 1600000 in
theorem c_nRead {l : L8} {g : Bool} {k : Nat} {x : Int} {ok : Bool} (hT : readT l = (g, k, x, ok)) (hL : l.length ≤ 1000000000000000) : HasC Tryd.prog 36 [.v (.string (tx l))] (fun y => y = .tup [dDec g k x, .v (.bool ok)]) := by
  refine HasC.of [] (fn := Tryd.f36) tyOk mixed (fun args w => Tryd.call36 args w) Tryd.func36 rfl (by kernel_rfl) (Nat.le_of_ble_eq_true rfl) (⟨_, rfl⟩) ?_
  obtain ⟨s1, e1, is1, hX⟩ : ∃ a b g, cutL 69 l = (a, b, g) := ⟨_, _, _, rfl⟩
  obtain ⟨w, p, pt, hY⟩ : ∃ a b g, cutL 46 s1 = (a, b, g) := ⟨_, _, _, rfl⟩
  have hx := cutL_rest hX
  have hy := cutL_rest hY
  refine vc_seqr rfl (iQ 2 (iE 74 [(0, .d (Sv (tx l))), (2, .p 2 0), (3, Ba false)] [(2, [Bv false, Uv 0, Uv 0, Iv 0])] ?_))
  refine vc_seq (vc_seqr rfl (iQ 1 (iC 40 [Sv (tx l)] (some 15) (c_Shape hL) ?_)))
  rintro _ ⟨b, rfl, hb⟩
  refine iU .not (.bool b) (some 16) ?_
  intro c16 hc16
  refine iE 74 [(0, .d (Sv (tx l))), (2, .p 2 0), (3, Ba false), (16, Ba c16)] [(2, [Bv false, Uv 0, Uv 0, Iv 0])] ?_
  cases c16
  · replace hc16 := bf hc16
    obtain ⟨f1, f2, f3, f4, f5⟩ := shape_facts hX hY (hb.1 (by simpa using hc16))
    refine iF (vc_skip (seq_n (vc_seqr rfl (iQ 1 (iC 70 [Sv (tx l), Sv (⟨#[69]⟩)] (some 20) (c_CutE hX (by omega)) ?_)))))
    rintro _ rfl
    refine iQ 7 (iE 74 [(0, .d (Sv (tx s1))), (2, .p 2 0), (3, Ba false), (4, .d (Sv (tx e1))), (16, Ba false)] [(2, [Bv false, Uv 0, Uv 0, Iv 0])] ?_)
    refine vc_seqr rfl (iQ 1 (iC 48 [Sv (tx e1), Sv (⟨#[43]⟩)] (some 26) (c_trim (l := e1) (c := 43)) ?_))
    rintro _ rfl
    refine iC 73 [Sv (tx (trimP 43 e1))] (some 27) (c_Atoi (v := expS e1) f1) ?_
    rintro _ ⟨er, rfl⟩
    refine iQ 5 (iE 74 [(0, .d (Sv (tx s1))), (2, .p 2 0), (3, Ba false), (6, Ia (expS e1)), (16, Ba false)] [(2, [Bv false, Uv 0, Uv 0, Iv 0])] ?_)
    refine vc_seqr rfl (iQ 1 (iC 70 [Sv (tx s1), Sv (⟨#[46]⟩)] (some 32) (c_CutE hY (by omega)) ?_))
    rintro _ rfl
    refine iQ 7 (iE 74 [(0, .d (Sv (tx s1))), (2, .p 2 0), (3, Ba false), (6, Ia (expS e1)), (8, .d (Sv (tx w))), (9, .d (Sv (tx p))), (16, Ba false)] [(2, [Bv false, Uv 0, Uv 0, Iv 0])] ?_)
    refine vc_seqr rfl (iQ 2 (iB .add 9 (.string (tx w)) (.string (tx p)) (some 38) ?_))
    refine And.intro (sz_le (m := (w).length) (n := (p).length) rfl rfl (by omega)) ?_
    intro s38 hs38
    have hl38 : (s38 : ByteArray).size = (w).length + (p).length := sz_add hs38 rfl rfl
    have e38 : s38 = tx (w ++ p) := by rw [hs38, tx_append]
    obtain ⟨L, hLz⟩ : ∃ L, L = lz (w ++ p) := ⟨_, rfl⟩
    have hLd : L.all isDg = true := by rw [hLz]; exact lz_all f4
    have hLn : nvL L = nvL (w ++ p) := by rw [hLz, nvL_lz]
    have hL0 : ∀ c r, L = c :: r → c ≠ 48 := fun c r h => lz_head (hLz.symm.trans h)
    have hLl : L.length ≤ w.length + p.length := by rw [hLz]; have := (List.dropWhile_sublist (p := (· == (48 : UInt8))) (l := w ++ p)).length_le; rw [List.length_append] at this; exact this
    rw [← hLn] at f5
    refine iC 74 [Sv s38, Sv (⟨#[48]⟩)] (some 39) (c_TrimL0E e38 hLz) ?_
    rintro _ rfl
    refine iQ 1 (iE 74 [(0, .d (Sv (tx s1))), (2, .p 2 0), (3, Ba false), (6, Ia (expS e1)), (9, .d (Sv (tx p))), (11, .d (Sv (tx L))), (16, Ba false)] [(2, [Bv false, Uv 0, Uv 0, Iv 0])] ?_)
    refine vc_seqr rfl (iQ 2 (iL .len [9] [.string (tx p)] (some 42) ?_))
    intro n42 hn42
    have e42 : n42 = p.length := by rw [hn42]; exact tx_size _
    refine iB .sub 3 (.int .i64 (expS e1)) (.int .i64 ((n42 : Nat))) (some 43) ?_
    intro z43 hz43
    try replace hz43 := hz43.i64 (by omega)
    refine iQ 3 (iE 74 [(0, .d (Sv (tx s1))), (2, .p 2 0), (3, Ba false), (9, .d (Sv (tx p))), (11, .d (Sv (tx L))), (12, .p 12 0), (16, Ba false)] [(2, [Bv false, Uv 0, Uv 0, Iv 0]), (12, [Bv false, Uv 0, Uv 0, Uv 0, Uv 0, Iv z43, Bv false])] ?_)
    refine vc_seq (vc_seqr rfl (iQ 1 (iL .len [9] [.string (tx L)] (some 46) ?_)))
    intro n46 hn46
    have e46 : n46 = L.length := by rw [hn46]; exact tx_size _
    refine iB .sub 3 (.int .i64 ((n46 : Nat))) (.int .i64 38) (some 47) ?_
    intro z47 hz47
    try replace hz47 := hz47.i64 (by omega)
    refine iQ 1 (iE 74 [(0, .d (Sv (tx s1))), (2, .p 2 0), (3, Ba false), (9, .d (Sv (tx p))), (11, .d (Sv (tx L))), (12, .p 12 0), (13, Ia z47), (16, Ba false)] [(2, [Bv false, Uv 0, Uv 0, Iv 0]), (12, [Bv false, Uv 0, Uv 0, Uv 0, Uv 0, Iv z43, Bv false])] ?_)
    refine vc_seqr rfl (iQ 1 (iB .gtr 3 (.int .i64 z47) (.int .i64 0) (some 49) ?_))
    intro c49 hc49
    refine iE 74 [(0, .d (Sv (tx s1))), (2, .p 2 0), (3, Ba false), (9, .d (Sv (tx p))), (11, .d (Sv (tx L))), (12, .p 12 0), (13, Ia z47), (16, Ba false), (49, Ba c49)] [(2, [Bv false, Uv 0, Uv 0, Iv 0]), (12, [Bv false, Uv 0, Uv 0, Uv 0, Uv 0, Iv z43, Bv false])] ?_
    cases c49
    · replace hc49 := bf hc49
      refine iF (vc_skip (seq_n (vc_seq (vc_seqr rfl (iQ 1 (iB .neq 9 (.string (tx L)) (.string (⟨#[]⟩)) (some 63) ?_))))))
      intro c63 hc63
      refine iE 74 [(0, .d (Sv (tx s1))), (2, .p 2 0), (3, Ba false), (9, .d (Sv (tx p))), (11, .d (Sv (tx L))), (12, .p 12 0), (13, Ia z47), (16, Ba false), (49, Ba false), (63, Ba c63)] [(2, [Bv false, Uv 0, Uv 0, Iv 0]), (12, [Bv false, Uv 0, Uv 0, Uv 0, Uv 0, Iv z43, Bv false])] ?_
      cases c63
      · replace hc63 := bf hc63
        have hLn0 : L = [] := (bempty _).1 (Classical.not_not.1 hc63)
        refine iF (vc_skip (seq_n (vc_seqr rfl (iQ 1 (iC 77 [.agg [Bv false, Uv 0, Uv 0, Uv 0, Uv 0, Iv z43, Bv false], Iv 1] (some 71) (c_FitZ (E := z43) (by rw [← hT, f5, hLn0]; exact congrArg (fun z ↦ fitU 1 false 0 z false) (by omega)) (by omega) (by omega)) ?_)))))
        rintro _ rfl
        refine iQ 4 (iE 74 [(0, .d (Sv (tx s1))), (2, .p 2 0), (3, Ba ok), (9, .d (Sv (tx p))), (11, .d (Sv (tx L))), (12, .p 12 0), (13, Ia z47), (16, Ba false), (49, Ba false), (63, Ba false)] [(2, [Bv g, Hw k, Lw k, Iv x]), (12, [Bv false, Uv 0, Uv 0, Uv 0, Uv 0, Iv z43, Bv false])] ?_)
        refine vc_ret (iS (.agg [Bv g, Hw k, Lw k, Iv x]) (Bv ok) [] ?_)
        rfl
      · replace hc63 := bt hc63
        have hLn0 : L ≠ [] := fun h => hc63 ((bempty _).2 h)
        refine iT (vc_reg rfl (iQ 1 (iC 76 [Sv (tx L)] (some 66) (c_wRead (l := L) rfl hLd hLn0 (by omega)) ?_)))
        rintro _ rfl
        refine iQ 5 (iE 74 [(0, .d (Sv (tx s1))), (2, .p 2 0), (3, Ba false), (9, .d (Sv (tx p))), (11, .d (Sv (tx L))), (12, .p 12 0), (13, Ia z47), (16, Ba false), (49, Ba false), (63, Ba true)] [(2, [Bv false, Uv 0, Uv 0, Iv 0]), (12, [Bv false, Uv 0, Uv 0, Hw (nvL L), Lw (nvL L), Iv z43, Bv false])] ?_)
        refine seq_n (vc_seqr rfl (iQ 1 (iC 77 [.agg [Bv false, Uv 0, Uv 0, Hw (nvL L), Lw (nvL L), Iv z43, Bv false], Iv 1] (some 71) (c_FitR (N := nvL L) (E := z43) (more := false) (by rw [← hT, f5]; congr 1; omega) (nvL_lt hLd (by omega)) (by omega) (by omega)) ?_)))
        rintro _ rfl
        refine iQ 4 (iE 74 [(0, .d (Sv (tx s1))), (2, .p 2 0), (3, Ba ok), (9, .d (Sv (tx p))), (11, .d (Sv (tx L))), (12, .p 12 0), (13, Ia z47), (16, Ba false), (49, Ba false), (63, Ba true)] [(2, [Bv g, Hw k, Lw k, Iv x]), (12, [Bv false, Uv 0, Uv 0, Hw (nvL L), Lw (nvL L), Iv z43, Bv false])] ?_)
        refine vc_ret (iS (.agg [Bv g, Hw k, Lw k, Iv x]) (Bv ok) [] ?_)
        rfl
    · replace hc49 := bt hc49
      refine iT (vc_seqr rfl (iQ 1 (iY 9 (tx L) (38) (((tx L : ByteArray).size : Int)) (some 51) ?_)))
      refine And.intro (by rw [tx_size]; omega) ?_
      intro s51 hs51
      have hl51 := sz_ext hs51 (by rw [tx_size]; omega)
      have e51 : s51 = tx (L.drop 38) := drop_tx (by rw [hs51, Int.toNat_natCast]; rfl)
      refine iC 75 [Sv s51, Sv (⟨#[48]⟩)] (some 52) (c_Trim0 e51 (by rw [List.length_drop]; omega)) ?_
      rintro _ ⟨t, rfl, ht⟩
      refine iB .neq 9 (.string (tx t)) (.string (⟨#[]⟩)) (some 53) ?_
      intro c53 hc53
      refine iQ 2 (iE 74 [(0, .d (Sv (tx s1))), (2, .p 2 0), (3, Ba false), (9, .d (Sv (tx p))), (11, .d (Sv (tx L))), (12, .p 12 0), (13, Ia z47), (16, Ba false), (49, Ba true)] [(2, [Bv false, Uv 0, Uv 0, Iv 0]), (12, [Bv false, Uv 0, Uv 0, Uv 0, Uv 0, Iv z43, Bv c53])] ?_)
      refine vc_seqr rfl (iQ 3 (iB .add 3 (.int .i64 z43) (.int .i64 z47) (some 58) ?_))
      intro z58 hz58
      try replace hz58 := hz58.i64 (by omega)
      refine iQ 2 (iE 74 [(0, .d (Sv (tx s1))), (2, .p 2 0), (3, Ba false), (9, .d (Sv (tx p))), (11, .d (Sv (tx L))), (12, .p 12 0), (13, Ia z47), (16, Ba false), (49, Ba true)] [(2, [Bv false, Uv 0, Uv 0, Iv 0]), (12, [Bv false, Uv 0, Uv 0, Uv 0, Uv 0, Iv z58, Bv c53])] ?_)
      refine vc_reg rfl (iQ 1 (iY 9 (tx L) (0) (38) (some 61) ?_))
      refine And.intro (by rw [tx_size]; omega) ?_
      intro s61 hs61
      have hl61 := sz_ext hs61 (by rw [tx_size]; omega)
      have e61 : s61 = tx (L.take 38) := take_tx (by rw [hs61]; rfl)
      have hL38 : L.take 38 ≠ [] := fun h => by have := congrArg List.length h; rw [List.length_take, List.length_nil] at this; omega
      refine iQ 1 (iE 74 [(0, .d (Sv (tx s1))), (2, .p 2 0), (3, Ba false), (9, .d (Sv (tx p))), (11, .d (Sv s61)), (12, .p 12 0), (13, Ia z47), (16, Ba false), (49, Ba true)] [(2, [Bv false, Uv 0, Uv 0, Iv 0]), (12, [Bv false, Uv 0, Uv 0, Uv 0, Uv 0, Iv z58, Bv c53])] ?_)
      refine seq_n (vc_seq (vc_seqr rfl (iQ 1 (iB .neq 9 (.string s61) (.string (⟨#[]⟩)) (some 63) ?_))))
      intro c63 hc63
      refine iE 74 [(0, .d (Sv (tx s1))), (2, .p 2 0), (3, Ba false), (9, .d (Sv (tx p))), (11, .d (Sv s61)), (12, .p 12 0), (13, Ia z47), (16, Ba false), (49, Ba true), (63, Ba c63)] [(2, [Bv false, Uv 0, Uv 0, Iv 0]), (12, [Bv false, Uv 0, Uv 0, Uv 0, Uv 0, Iv z58, Bv c53])] ?_
      obtain rfl : c63 = true := hc63.2 ((by rw [e61, Ne, bempty]; exact hL38))
      have hLd38 : (L.take 38).all isDg = true := by rw [List.all_eq_true] at hLd ⊢; exact fun y hy => hLd y (List.mem_of_mem_take hy)
      refine iT (vc_reg rfl (iQ 1 (iC 76 [Sv s61] (some 66) (c_wRead e61 hLd38 hL38 (by rw [List.length_take]; omega)) ?_)))
      rintro _ rfl
      have hfc := fit_cut (m := 1) (e := expS e1 - p.length) (more := c53) hLd hL0 (by omega) (by rw [hc53, Ne, bempty, ht])
      refine iQ 5 (iE 74 [(0, .d (Sv (tx s1))), (2, .p 2 0), (3, Ba false), (9, .d (Sv (tx p))), (11, .d (Sv s61)), (12, .p 12 0), (13, Ia z47), (16, Ba false), (49, Ba true), (63, Ba true)] [(2, [Bv false, Uv 0, Uv 0, Iv 0]), (12, [Bv false, Uv 0, Uv 0, Hw (nvL (L.take 38)), Lw (nvL (L.take 38)), Iv z58, Bv c53])] ?_)
      refine seq_n (vc_seqr rfl (iQ 1 (iC 77 [.agg [Bv false, Uv 0, Uv 0, Hw (nvL (L.take 38)), Lw (nvL (L.take 38)), Iv z58, Bv c53], Iv 1] (some 71) (c_FitR (N := nvL (L.take 38)) (E := z58) (more := c53) (by rw [← hT, f5, hfc, show z58 = expS e1 - (p.length : Int) + ((L.length - 38 : Nat) : Int) by omega]) (nvL_lt hLd38 (by rw [List.length_take]; omega)) (by omega) (by omega)) ?_)))
      rintro _ rfl
      refine iQ 4 (iE 74 [(0, .d (Sv (tx s1))), (2, .p 2 0), (3, Ba ok), (9, .d (Sv (tx p))), (11, .d (Sv s61)), (12, .p 12 0), (13, Ia z47), (16, Ba false), (49, Ba true), (63, Ba true)] [(2, [Bv g, Hw k, Lw k, Iv x]), (12, [Bv false, Uv 0, Uv 0, Hw (nvL (L.take 38)), Lw (nvL (L.take 38)), Iv z58, Bv c53])] ?_)
      refine vc_ret (iS (.agg [Bv g, Hw k, Lw k, Iv x]) (Bv ok) [] ?_)
      rfl
  · replace hc16 := bt hc16
    refine iT (vc_seqr rfl (iQ 3 (iE 74 [(0, .d (Sv (tx l))), (2, .p 2 0), (3, Ba false), (16, Ba true)] [(2, [Bv false, Uv 0, Uv 0, Iv 0])] ?_)))
    refine vc_ret (seq_r (iS (.agg [Bv false, Uv 0, Uv 0, Iv 0]) (Bv false) [] ?_))
    have hs : readT l = (false, 0, 0, false) := by rw [readT, if_neg (fun h => by have := hb.2 h; rw [hc16] at this; cases this)]
    rw [hs] at hT
    simp only [Prod.mk.injEq] at hT
    obtain ⟨a1, a2, a3, a4⟩ := hT
    rw [← a1, ← a2, ← a3, ← a4]
    rfl

theorem c_nReadE {l : L8} {s : ByteArray} {g : Bool} {k : Nat} {x : Int} {ok : Bool} (hs : s = tx l) (hT : readT l = (g, k, x, ok)) (hL : l.length ≤ 1000000000000000) :
    HasC Tryd.prog 36 [.v (.string s)] (fun y => y = .tup [dDec g k x, .v (.bool ok)]) := by subst hs; exact c_nRead hT hL
theorem fitU_range1 {m : Int} {s : Bool} {N : Nat} {e : Int} {more : Bool} {g : Bool} {k : Nat} {x : Int} {ok : Bool} (ht : fitU m s N e more = (g, k, x, ok)) : k < E34 ∧ -6176 ≤ x ∧ x ≤ 6111 ∧ (k = 0 → g = false) := by
  unfold fitU at ht
  exact fitE_range (fit2_lt (cutQ_E34 (by unfold fitKU; omega))) ht
theorem readT_rng {l : L8} {g : Bool} {k : Nat} {x : Int} {ok : Bool} (h : readT l = (g, k, x, ok)) : k < E34 ∧ -6176 ≤ x ∧ x ≤ 6111 ∧ (k = 0 → g = false) := by
  unfold readT at h
  split at h
  · exact fitU_range1 h
  · simp only [Prod.mk.injEq] at h
    obtain ⟨rfl, rfl, rfl, rfl⟩ := h
    exact ⟨by decide, by decide, by decide, fun _ => rfl⟩
theorem fitE_pos {n : Nat} {e : Int} {g : Bool} {k : Nat} {x : Int} {ok : Bool} (h : fitE false n e = (g, k, x, ok)) : g = false ∧ (ok = false → k = 0 ∧ x = 0) := by
  unfold fitE at h
  split at h
  · simp only [Prod.mk.injEq] at h
    obtain ⟨rfl, rfl, rfl, rfl⟩ := h
    exact ⟨rfl, fun h => by cases h⟩
  · split at h
    · simp only [Prod.mk.injEq] at h
      obtain ⟨rfl, rfl, rfl, rfl⟩ := h
      exact ⟨rfl, fun _ => ⟨rfl, rfl⟩⟩
    · simp only [Prod.mk.injEq] at h
      obtain ⟨rfl, rfl, rfl, rfl⟩ := h
      exact ⟨rfl, fun h => by cases h⟩
theorem readT_pos {l : L8} {g : Bool} {k : Nat} {x : Int} {ok : Bool} (h : readT l = (g, k, x, ok)) : g = false ∧ (ok = false → k = 0 ∧ x = 0) ∧ (ok = true → shapeB l = true) := by
  unfold readT at h
  split at h
  · rename_i hs
    have := fitE_pos h
    exact ⟨this.1, this.2, fun _ => hs⟩
  · simp only [Prod.mk.injEq] at h
    obtain ⟨rfl, rfl, rfl, rfl⟩ := h
    exact ⟨rfl, fun _ => ⟨rfl, rfl⟩, fun h => by cases h⟩
/-- A text whose number may be one. -/
theorem readT_own {l : L8} {N : Nat} {e : Int} (hs : shapeB l = true) (hN : rawN l = N) (he : rawE l = e) (h1 : N < E34) (h2 : -6176 ≤ e) (h3 : e ≤ 6111) : readT l = (false, N, e, true) := by
  rw [readT, if_pos hs, hN, he, fitU_own h1 h2 h3]
  simp
theorem readT_body {N : Nat} {e : Int} (h1 : N < E34) (h2 : -6176 ≤ e) (h3 : e ≤ 6111) : readT (bodyL N e) = (false, N, e, true) := by
  obtain ⟨a, b, c, _⟩ := body_read (N := N) (e := e) (by omega) (by omega)
  exact readT_own a b c h1 h2 h3
/-- What Signed tells. -/
noncomputable def signT (l : L8) : T4 := if l.head? = some 45 then (!(readT l.tail).1 && decide ((readT l.tail).2.1 ≠ 0), (readT l.tail).2.1, (readT l.tail).2.2.1, (readT l.tail).2.2.2) else readT l
theorem signT_text {g : Bool} {N : Nat} {e : Int} (h0 : N = 0 → g = false) (h1 : N < E34) (h2 : -6176 ≤ e) (h3 : e ≤ 6111) : signT (textL g N e) = (g, N, e, true) := by
  have hb := readT_body h1 h2 h3
  unfold signT textL
  cases g with
  | true =>
    rw [if_pos rfl, if_pos (by rfl), List.tail_cons, hb]
    have hN : N ≠ 0 := fun h => by have := h0 h; cases this
    simp [hN]
  | false =>
    have he : (if false = true then 45 :: bodyL N e else bodyL N e) = bodyL N e := rfl
    rw [he, if_neg (body_read (N := N) (e := e) (by omega) (by omega)).2.2.2, hb]
theorem trimP_len (c : UInt8) (l : L8) : (trimP c l).length ≤ l.length ∧ ((trimP c l).length ≠ l.length ↔ l.head? = some c) := by
  unfold trimP
  split
  · rename_i h
    cases l with
    | nil => cases h
    | cons x r => simp at h; simp [h]
  · rename_i h
    simp [h]

theorem c_Signed {l : L8} {g : Bool} {k : Nat} {x : Int} {ok : Bool} (hT : signT l = (g, k, x, ok)) (hL : l.length ≤ 1000000000000000) : HasC Tryd.prog 71 [.v (.string (tx l))] (fun y => y = .tup [dDec g k x, .v (.bool ok)]) := by
  refine HasC.of [] (fn := Tryd.f71) tyOk mixed (fun args w => Tryd.call71 args w) Tryd.func71 rfl (by kernel_rfl) (Nat.le_of_ble_eq_true rfl) (⟨_, rfl⟩) ?_
  obtain ⟨g1, k1, x1, ok1, hR⟩ : ∃ a b c d, readT (trimP 45 l) = (a, b, c, d) := ⟨_, _, _, _, rfl⟩
  have htl := trimP_len 45 l
  have hrg := readT_rng hR
  refine vc_seqr rfl (iQ 2 (iE 24 [(0, .d (Sv (tx l))), (2, .p 2 0), (3, Ba false)] [(2, [Bv false, Uv 0, Uv 0, Iv 0])] ?_))
  refine vc_seqr rfl (iQ 1 (iC 48 [Sv (tx l), Sv (⟨#[45]⟩)] (some 8) (c_trim (l := l) (c := 45)) ?_))
  rintro _ rfl
  refine iQ 1 (iE 24 [(0, .d (Sv (tx l))), (2, .p 2 0), (3, Ba false), (4, .d (Sv (tx (trimP 45 l))))] [(2, [Bv false, Uv 0, Uv 0, Iv 0])] ?_)
  refine vc_seqr rfl (iQ 1 (iC 36 [Sv (tx (trimP 45 l))] (some 11) (c_nReadE (l := trimP 45 l) rfl hR (by omega)) ?_))
  rintro _ rfl
  refine iQ 6 (iE 24 [(0, .d (Sv (tx l))), (2, .p 2 0), (3, Ba false), (4, .d (Sv (tx (trimP 45 l)))), (5, .p 5 0), (6, Ba ok1)] [(2, [Bv false, Uv 0, Uv 0, Iv 0]), (5, [Bv g1, Hw k1, Lw k1, Iv x1])] ?_)
  refine vc_seq (vc_seqr rfl (iQ 1 (iL .len [9] [.string (tx (trimP 45 l))] (some 15) ?_)))
  intro n15 hn15
  have e15 : n15 = (trimP 45 l).length := by rw [hn15]; exact tx_size _
  refine iQ 1 (iL .len [9] [.string (tx l)] (some 17) ?_)
  intro n17 hn17
  have e17 : n17 = l.length := by rw [hn17]; exact tx_size _
  refine iB .neq 3 (.int .i64 ((n15 : Nat))) (.int .i64 ((n17 : Nat))) (some 18) ?_
  intro c18 hc18
  refine iE 24 [(0, .d (Sv (tx l))), (2, .p 2 0), (3, Ba false), (4, .d (Sv (tx (trimP 45 l)))), (5, .p 5 0), (6, Ba ok1), (18, Ba c18)] [(2, [Bv false, Uv 0, Uv 0, Iv 0]), (5, [Bv g1, Hw k1, Lw k1, Iv x1])] ?_
  cases c18
  · replace hc18 := bf hc18
    have hh : ¬ l.head? = some 45 := fun h => htl.2.2 h (by omega)
    refine iF (vc_skip (seq_n (vc_seqr rfl (iQ 4 (iE 24 [(0, .d (Sv (tx l))), (2, .p 2 0), (3, Ba ok1), (4, .d (Sv (tx (trimP 45 l)))), (5, .p 5 0), (6, Ba ok1), (18, Ba false)] [(2, [Bv g1, Hw k1, Lw k1, Iv x1]), (5, [Bv g1, Hw k1, Lw k1, Iv x1])] ?_)))))
    refine vc_ret (iS (.agg [Bv g1, Hw k1, Lw k1, Iv x1]) (Bv ok1) [] ?_)
    rw [signT, if_neg hh] at hT
    rw [trimP, if_neg hh, hT] at hR
    simp only [Prod.mk.injEq] at hR
    obtain ⟨a1, a2, a3, a4⟩ := hR
    rw [← a1, ← a2, ← a3, ← a4]
    rfl
  · replace hc18 := bt hc18
    have hh : l.head? = some 45 := htl.2.1 (by omega)
    refine iT (vc_seqr rfl (iQ 1 (iC 103 [.agg [Bv g1, Hw k1, Lw k1, Iv x1]] (some 20) (c_Neg (g := g1) (A := k1) (e := x1) (Nat.lt_trans hrg.1 e34_lt)) ?_)))
    rintro _ rfl
    refine iQ 3 (iE 24 [(0, .d (Sv (tx l))), (2, .p 2 0), (3, Ba ok1), (4, .d (Sv (tx (trimP 45 l)))), (5, .p 5 0), (6, Ba ok1), (18, Ba true)] [(2, [Bv (!g1 && decide (k1 ≠ 0)), Hw k1, Lw k1, Iv x1]), (5, [Bv g1, Hw k1, Lw k1, Iv x1])] ?_)
    refine vc_ret (seq_r (iS (.agg [Bv (!g1 && decide (k1 ≠ 0)), Hw k1, Lw k1, Iv x1]) (Bv ok1) [] ?_))
    rw [signT, if_pos hh] at hT
    rw [trimP, if_pos hh] at hR
    rw [hR] at hT
    simp only [Prod.mk.injEq] at hT
    obtain ⟨a1, a2, a3, a4⟩ := hT
    rw [← a1, ← a2, ← a3, ← a4]
    rfl
theorem c_SignedE {l : L8} {s : ByteArray} {g : Bool} {k : Nat} {x : Int} {ok : Bool} (hs : s = tx l) (hT : signT l = (g, k, x, ok)) (hL : l.length ≤ 1000000000000000) :
    HasC Tryd.prog 71 [.v (.string s)] (fun y => y = .tup [dDec g k x, .v (.bool ok)]) := by subst hs; exact c_Signed hT hL
theorem signT_rng {l : L8} {g : Bool} {k : Nat} {x : Int} {ok : Bool} (h : signT l = (g, k, x, ok)) : k < E34 ∧ -6176 ≤ x ∧ x ≤ 6111 ∧ (k = 0 → g = false) := by
  unfold signT at h
  split at h
  · obtain ⟨g1, k1, x1, ok1, hR⟩ : ∃ a b c d, readT l.tail = (a, b, c, d) := ⟨_, _, _, _, rfl⟩
    have hr := readT_rng hR
    rw [hR] at h
    simp only [Prod.mk.injEq] at h
    obtain ⟨rfl, rfl, rfl, rfl⟩ := h
    exact ⟨hr.1, hr.2.1, hr.2.2.1, fun h => by simp [h]⟩
  · exact readT_rng h
theorem c_Plain {l : L8} {g : Bool} {k : Nat} {x : Int} {ok : Bool} (hT : signT l = (g, k, x, ok)) (hL : l.length ≤ 1000000000000000) : HasC Tryd.prog 72 [.v (.string (tx l))] (fun y => ∃ b, y = .v (.bool b) ∧ (b = true ↔ ok = true ∧ textL g k x = l)) := by
  refine HasC.of [] (fn := Tryd.f72) tyOk mixed (fun args w => Tryd.call72 args w) Tryd.func72 rfl (by kernel_rfl) (Nat.le_of_ble_eq_true rfl) (⟨_, @decide (ok = true ∧ textL g k x = l) (Classical.propDecidable _), rfl, by simp⟩) ?_
  have hrg := signT_rng hT
  refine vc_seqr rfl (iQ 1 (iE 17 [(0, .d (Sv (tx l))), (2, Ba false)] [] ?_))
  refine vc_seqr rfl (iQ 1 (iC 71 [Sv (tx l)] (some 7) (c_SignedE (l := l) rfl hT hL) ?_))
  rintro _ rfl
  refine iQ 6 (iE 17 [(0, .d (Sv (tx l))), (2, Ba false), (3, .p 3 0), (4, Ba ok)] [(3, [Bv g, Hw k, Lw k, Iv x])] ?_)
  refine vc_seqr rfl (iQ 2 ?_)
  cases ok
  · skip
    refine iQ 6 (iE 17 [(0, .d (Sv (tx l))), (2, Ba false), (3, .p 3 0)] [(3, [Bv g, Hw k, Lw k, Iv x])] ?_)
    refine vc_ret (iR (Bv false) ?_)
    exact ⟨_, rfl, by simp⟩
  · skip
    refine iQ 1 (iC 37 [.agg [Bv g, Hw k, Lw k, Iv x]] (some 13) (c_nText (Nat.lt_trans hrg.1 e34_lt) (by omega) (by omega)) ?_)
    rintro _ rfl
    refine iQ 1 (iB .eql 9 (.string (tx (textL g k x))) (.string (tx l)) (some 15) ?_)
    intro c15 hc15
    refine iQ 2 (iE 17 [(0, .d (Sv (tx l))), (2, Ba c15), (3, .p 3 0)] [(3, [Bv g, Hw k, Lw k, Iv x])] ?_)
    refine vc_ret (iR (Bv c15) ?_)
    exact ⟨_, rfl, by rw [hc15, tx_iff]; simp⟩
end Go.Proofs.YtjpaedjhihiakaaDoor
