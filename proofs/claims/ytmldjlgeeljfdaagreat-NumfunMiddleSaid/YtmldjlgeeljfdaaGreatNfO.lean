/-
  casuistlaw20.NumfunMiddle: the law.
-/
import Derived.Test.YtmldjlgeeljfdaaGreatNfN
namespace Go.Proofs.YtmldjlgeeljfdaaGreat
open Go.RowKit
set_option linter.unusedVariables false
set_option linter.unusedSimpArgs false
set_option maxRecDepth 100000

theorem v_Median0  : HasC Tryz.prog 6 [.sl ((numL []).length) (encL (numL []))] (fun y => ∃ z v o, y = .tup [z, .v (.bool o)] ∧ IsV z v ∧ v = .null ∧ o = true) := by
 refine HasC.of [] (fn := Tryz.f6) tyOk mixed (fun args w => Tryz.call6 args w) Tryz.func6 rfl (by kernel_rfl) (Nat.le_of_ble_eq_true rfl) (⟨_, _, _, _, rfl, .inl rfl, rfl, rfl⟩) ?_
 refine vc_seqr rfl (iQ 2 (iE 55 [(0, .d (.sl ((numL []).length) (encL (numL [])))), (2, .p 2 0), (3, Ba false)] [(2, [.v (.nilIface)])] ?_))
 refine vc_seqr rfl (iQ 1 (iC 19 [.sl ((numL []).length) (encL (numL []))] (some 11) ((c_numbers (ds := []) (by decide)).toC) ?_))
 rintro _ rfl
 refine iQ 5 (iE 55 [(2, .p 2 0), (3, Ba false), (4, .d (.sl ((([] : List D3)).length) (decL (([] : List D3))))), (5, Ba false)] [(2, [.v (.nilIface)])] ?_)
 refine vc_seq (vc_seqr rfl (iQ 1 (iU .not (.bool false) (some 15) ?_)))
 refine all_true ((by simp)) ?_
 refine iE 55 [(2, .p 2 0), (3, Ba false), (4, .d (.sl ((([] : List D3)).length) (decL (([] : List D3))))), (15, Ba true)] [(2, [.v (.nilIface)])] ?_
 refine iT (vc_seqr rfl (iQ 3 (iE 55 [(2, .p 2 0), (3, Ba true), (4, .d (.sl ((([] : List D3)).length) (decL (([] : List D3))))), (15, Ba true)] [(2, [.v (.nilIface)])] ?_)))
 refine vc_ret (seq_r (iS (.agg [.v (.nilIface)]) (Bv true) [] ?_))
 exact ⟨_, .null, _, rfl, IsV.null, rfl, rfl⟩
theorem c_vList0 : HasC Tryz.prog 23 [.sl 0 []] (fun r => r = VV (.list (numL []))) := c_vList (vs := []) (by decide)
theorem c_NullV0 {v : Vl} (h : v = .null) : HasC Tryz.prog 9 [VV v] (fun y => y = .v (.bool true)) := by subst h; exact c_Null .null
theorem c_Mode0  : HasC Tryz.prog 7 [.sl ((numL []).length) (encL (numL []))] (fun y => y = VV (.list (numL []))) := by
 refine HasC.of [] (fn := Tryz.f7) tyOk mixed (fun args w => Tryz.call7 args w) Tryz.func7 rfl (by kernel_rfl) (Nat.le_of_ble_eq_true rfl) (⟨_, rfl⟩) ?_
 refine vc_seqr rfl (iQ 1 (iE 70 [(0, .d (.sl ((numL []).length) (encL (numL [])))), (2, .p 2 0)] [(2, [.v (.nilIface)])] ?_))
 refine vc_seqr rfl (iQ 1 (iC 19 [.sl ((numL []).length) (encL (numL []))] (some 11) ((c_numbers (ds := []) (by decide)).toC) ?_))
 rintro _ rfl
 refine iQ 5 (iE 70 [(0, .d (.sl ((numL []).length) (encL (numL [])))), (2, .p 2 0), (3, .d (.sl ((([] : List D3)).length) (decL (([] : List D3))))), (4, Ba false)] [(2, [.v (.nilIface)])] ?_)
 refine vc_seq (vc_seqr rfl (iQ 1 (iU .not (.bool false) (some 15) ?_)))
 refine all_true ((by simp)) ?_
 refine iE 70 [(0, .d (.sl ((numL []).length) (encL (numL [])))), (2, .p 2 0), (3, .d (.sl ((([] : List D3)).length) (decL (([] : List D3))))), (15, Ba true)] [(2, [.v (.nilIface)])] ?_
 refine iT (vc_seq (vc_seqr rfl (iQ 2 (iB .eql 3 (.int .i64 ((((numL []).length : Nat) : Int))) (.int .i64 0) (some 18) ?_))))
 refine all_true ((by decide)) ?_
 refine iE 70 [(0, .d (.sl ((numL []).length) (encL (numL [])))), (2, .p 2 0), (3, .d (.sl ((([] : List D3)).length) (decL (([] : List D3))))), (15, Ba true), (18, Ba true)] [(2, [.v (.nilIface)])] ?_
 refine iT (vc_seqr rfl (iC 23 [.sl 0 []] (some 19) (c_vList0) ?_))
 rintro _ rfl
 refine iQ 1 (iE 70 [(0, .d (.sl ((numL []).length) (encL (numL [])))), (2, .p 2 0), (3, .d (.sl ((([] : List D3)).length) (decL (([] : List D3))))), (15, Ba true), (18, Ba true)] [(2, [.bx (Vl.list (numL [])).enc])] ?_)
 refine vc_ret (seq_r (seq_r (iR (.agg [.bx (Vl.list (numL [])).enc]) ?_)))
 rfl
theorem c_MedianW {ds : List D3} (hl : ds.length < 20) : HasC Tryz.prog 6 [.sl (numL ds).length (encL (numL ds))] (fun y => ∃ v o, y = .tup [VV v, .v (.bool o)] ∧ (ds = [] → v = .null) ∧ (ds ≠ [] → v = optV (medO ds) ∧ o = (medO ds).isSome)) := by
  by_cases h0 : ds = []
  · subst h0
    exact ((v_Median0.isVb (q := fun v o => v = .null ∧ o = true))).mono fun y ⟨v, o, h1, h2, _⟩ => ⟨v, o, h1, fun _ => h2, fun h => absurd rfl h⟩
  · exact (dOpt_ex (c_Median h0 hl)).mono fun y ⟨v, o, h1, h2, h3⟩ => ⟨v, o, h1, fun h => absurd h h0, fun _ => ⟨h2, h3⟩⟩
theorem c_ModeW {ds : List D3} (hl : ds.length < 20) : HasC Tryz.prog 7 [.sl (numL ds).length (encL (numL ds))] (fun r => r = VV (.list (numL (modeL ds)))) := by
  by_cases h0 : ds = []
  · subst h0; exact c_Mode0
  · exact c_Mode h0 hl
theorem modeL_le (ds : List D3) : (modeL ds).length ≤ ds.length := by
  have key : ∀ (f : Nat) (l : List D3) (m : Nat) (o : List D3), (modeGo f l m o).length ≤ o.length + l.length := by
    intro f
    induction f with
    | zero => intro l m o; simp [modeGo]
    | succ f ih =>
      intro l m o
      cases l with
      | nil => simp [modeGo]
      | cons x r =>
        have hpos : 0 < runN x (x :: r) := by rw [runN, if_pos (cfD_self x)]; omega
        have hd : ((x :: r).drop (runN x (x :: r))).length + 1 ≤ (x :: r).length := by
          rw [List.length_drop]
          simp only [List.length_cons]
          omega
        rw [modeGo]
        split
        · have := ih ((x :: r).drop (runN x (x :: r))) (runN x (x :: r)) [x]
          simp only [List.length_cons, List.length_nil] at this hd ⊢
          omega
        · split
          · have := ih ((x :: r).drop (runN x (x :: r))) m (o ++ [x])
            simp only [List.length_append, List.length_cons, List.length_nil] at this hd ⊢
            omega
          · have := ih ((x :: r).drop (runN x (x :: r))) m o
            simp only [List.length_cons] at this hd ⊢
            omega
  have := key ds.length (srtL ds) 0 []
  rw [srtL_len] at this
  simpa [modeL] using this
theorem c_AsListM {ds : List D3} (hl : ds.length ≤ 1000000) : HasC Tryz.prog 8 [VV (.list (numL ds))] (fun r => r = .tup [.sl (numL ds).length (encL (numL ds)), .v (.bool true)]) := c_AsListL (by rw [numL_len]; omega)
/-- What the law asks of the mode. -/
structure MLaw (ds : List D3) (y0 : D3) : Prop where
  le : ∀ x ∈ ds, cntS x 0 ds ≤ cntS y0 0 ds
  yes : ∀ x ∈ ds, cntS x 0 ds = cntS y0 0 ds → cntS x 0 (modeL ds) = 1
  no : ∀ x ∈ ds, cntS x 0 ds < cntS y0 0 ds → cntS x 0 (modeL ds) = 0
  up : ∀ (k : Nat) (a b : D3), (modeL ds)[k]? = some a → (modeL ds)[k + 1]? = some b → cfD a b < 0
theorem mlaw_of {ds : List D3} {y0 : D3} (h : (modeL ds)[0]? = some y0) : MLaw ds y0 := by
  obtain ⟨M, l1, l2, l3, _⟩ := mode_law ds
  have hy : cntS y0 0 ds = M := by
    have hp := cntS_pos (List.mem_of_getElem? h)
    rw [cntS_0, l2] at hp
    rw [cntS_0]
    split at hp
    · rename_i k; exact k.1
    · omega
  refine ⟨fun x _ => ?_, fun x hx he => ?_, fun x hx hlt => ?_, fun k a b ha hb => ?_⟩
  · rw [hy, cntS_0]; exact l1 _
  · rw [hy] at he
    have hp := cntS_pos hx
    rw [cntS_0] at he hp ⊢
    rw [l2, if_pos ⟨he, hp⟩]
  · rw [hy, cntS_0] at hlt
    rw [cntS_0, l2, if_neg (fun k => by omega)]
  · obtain ⟨ha1, ha2⟩ := List.getElem?_eq_some_iff.1 ha
    obtain ⟨hb1, hb2⟩ := List.getElem?_eq_some_iff.1 hb
    have := List.pairwise_iff_getElem.1 l3 k (k + 1) ha1 hb1 (by omega)
    rw [ha2, hb2] at this
    rw [cfD_val, cmpI_lt]
    exact this
set_option maxHeartbeats 1600000 in
theorem c_NumfunMiddle {xs : List Raw} (hn : ∀ x ∈ xs, x.2.1 < B128) (hl : xs.length ≤ 9223372036854775807) : HasC Tryz.prog 3 [.sl xs.length (rawL xs)] (fun r => r = .v (.bool true)) := by
 refine HasC.of [] (fn := Tryz.f3) tyOk mixed (fun args w => Tryz.call3 args w) Tryz.func3 rfl (by kernel_rfl) (Nat.le_of_ble_eq_true rfl) (⟨_, rfl⟩) ?_
 refine vc_seqr rfl (iQ 1 (iE 156 [(0, .d (.sl xs.length (rawL xs))), (2, Ba false)] [] ?_))
 refine vc_seq (vc_seqr rfl (iC 4 [] (some 15) (c_awake20) ?_))
 rintro _ rfl
 refine iU .not (.bool true) (some 16) ?_
 refine all_false ((by simp)) ?_
 refine iE 156 [(0, .d (.sl xs.length (rawL xs))), (2, Ba false), (16, Ba false)] [] ?_
 refine iF (vc_skip (seq_n (vc_seqr rfl (iQ 1 (iC 5 [.sl xs.length (rawL xs)] (some 18) (c_values hn hl) ?_)))))
 rintro _ ⟨ds, rfl, hd⟩
 have hL := numL_len ds
 have hM := numL_len (modeL ds)
 have hML := modeL_le ds
 refine iQ 1 (iE 156 [(2, Ba false), (3, .d (.sl ((numL ds).length) (encL (numL ds)))), (16, Ba false)] [] ?_)
 refine vc_seqr rfl (iQ 1 (iC 6 [.sl ((numL ds).length) (encL (numL ds))] (some 21) (c_MedianW (by omega)) ?_))
 rintro _ ⟨v, o, rfl, hv0, hv1⟩
 refine iQ 6 (iE 156 [(2, Ba false), (3, .d (.sl ((numL ds).length) (encL (numL ds)))), (4, .p 4 0), (5, Ba o), (16, Ba false)] [(4, [.bx (v).enc])] ?_)
 refine vc_seq (vc_seqr rfl (iQ 2 (iB .eql 3 (.int .i64 ((((numL ds).length : Nat) : Int))) (.int .i64 0) (some 26) ?_)))
 intro c26 hc26
 refine iQ 1 ?_
 cases c26
 ·replace hc26 := bf hc26
  refine iQ 1 (iU .not (.bool o) (some 29) ?_)
  have h0 : ds ≠ [] := fun e => hc26 (by rw [hL, e]; rfl)
  obtain ⟨hv, ho⟩ := hv1 h0
  intro c29 hc29
  refine iQ 1 (iE 156 [(2, Ba false), (3, .d (.sl ((numL ds).length) (encL (numL ds)))), (4, .p 4 0), (16, Ba false), (30, Ba c29)] [(4, [.bx (v).enc])] ?_)
  cases c29
  ·replace hc29 := bf hc29
   obtain ⟨d, q1, q2⟩ := opt_yes hv ho (by simpa using hc29)
   refine iF (vc_skip (seq_n (vc_seqr rfl (iQ 3 (iE 156 [(2, Ba false), (3, .d (.sl ((numL ds).length) (encL (numL ds)))), (4, .p 4 0), (8, Ia ((((numL ds).length : Nat) : Int))), (16, Ba false), (30, Ba false)] [(4, [.bx (v).enc])] ?_)))))
   refine vc_seq (vc_seqr rfl (iQ 1 (iB .rem 3 (.int .i64 ((((numL ds).length : Nat) : Int))) (.int .i64 2) (some 55) ?_)))
   refine And.intro (by omega) ?_
   intro z55 hz55
   refine iB .eql 3 (.int .i64 z55) (.int .i64 1) (some 56) ?_
   intro c56 hc56
   refine iQ 1 ?_
   cases c56
   ·replace hc56 := bf hc56
    refine iQ 21 (iE 156 [(2, Ba false), (3, .d (.sl ((numL ds).length) (encL (numL ds)))), (4, .p 4 0), (8, Ia ((((numL ds).length : Nat) : Int))), (16, Ba false), (30, Ba false), (78, Ba false)] [(4, [.bx (v).enc])] ?_)
    refine iF (vc_skip (seq_n (vc_seqr rfl (iQ 1 (iC 7 [.sl ((numL ds).length) (encL (numL ds))] (some 81) (c_ModeW (by omega)) ?_)))))
    rintro _ rfl
    refine iC 8 [.agg [.bx (Vl.list (numL (modeL ds))).enc]] (some 82) (c_AsListM (by omega)) ?_
    rintro _ rfl
    have hne : modeL ds ≠ [] := (mode_law ds).choose_spec.2.2.2 h0
    have hnl : 0 < (modeL ds).length := List.length_pos_iff.2 hne
    refine iQ 5 (iE 156 [(2, Ba false), (3, .d (.sl ((numL ds).length) (encL (numL ds)))), (4, .p 4 0), (8, Ia ((((numL ds).length : Nat) : Int))), (9, .d (.sl ((numL (modeL ds)).length) (encL (numL (modeL ds))))), (10, Ba true), (16, Ba false), (30, Ba false), (78, Ba false)] [(4, [.bx (v).enc])] ?_)
    refine vc_seq (vc_seqr rfl (iQ 1 (iU .not (.bool true) (some 86) ?_)))
    refine all_false ((by simp)) ?_
    refine iQ 3 (iB .eql 3 (.int .i64 ((((numL (modeL ds)).length : Nat) : Int))) (.int .i64 0) (some 90) ?_)
    refine all_false ((by omega)) ?_
    obtain ⟨y0, hy0⟩ : ∃ y, (modeL ds)[0]? = some y := ⟨_, List.getElem?_eq_getElem hnl⟩
    have law := mlaw_of hy0
    refine iQ 1 (iE 156 [(2, Ba false), (3, .d (.sl ((numL ds).length) (encL (numL ds)))), (4, .p 4 0), (8, Ia ((((numL ds).length : Nat) : Int))), (9, .d (.sl ((numL (modeL ds)).length) (encL (numL (modeL ds))))), (16, Ba false), (30, Ba false), (78, Ba false), (91, Ba false)] [(4, [.bx (v).enc])] ?_)
    refine iF (vc_skip (seq_n (vc_seqr rfl (iQ 2 (vcI_idx1 (q := 0) (n := ((numL (modeL ds)).length)) (cs := (encL (numL (modeL ds)))) (d := .bx (Vl.num (y0).g (y0).n (y0).e).enc) (dst := (some 94)) (by kernel_rfl) (by omega) (encL_get1 (numL_get hy0)) ?_)))))
    refine iQ 1 (iC 10 [.sl ((numL ds).length) (encL (numL ds)), .agg [.bx (Vl.num (y0).g (y0).n (y0).e).enc], Iv 0] (some 96) (c_count (ds := ds) (x := y0) (by omega)) ?_)
    rintro _ rfl
    refine iQ 1 (iE 156 [(2, Ba false), (3, .d (.sl ((numL ds).length) (encL (numL ds)))), (4, .p 4 0), (8, Ia ((((numL ds).length : Nat) : Int))), (9, .d (.sl ((numL (modeL ds)).length) (encL (numL (modeL ds))))), (11, Ia ((cntS y0 0 ds : Nat))), (16, Ba false), (30, Ba false), (78, Ba false), (91, Ba false)] [(4, [.bx (v).enc])] ?_)
    refine vc_seq (vc_seqr rfl (iQ 1 (iE 156 [(2, Ba false), (3, .d (.sl ((numL ds).length) (encL (numL ds)))), (4, .p 4 0), (8, Ia ((((numL ds).length : Nat) : Int))), (9, .d (.sl ((numL (modeL ds)).length) (encL (numL (modeL ds))))), (11, Ia ((cntS y0 0 ds : Nat))), (12, Ia 0), (16, Ba false), (30, Ba false), (78, Ba false), (91, Ba false)] [(4, [.bx (v).enc])] ?_)))
    refine vc_block (vc_loop 156 (fun (vcx : Nat × Int) => match vcx with | (k, zk) => [(2, Ba false), (3, .d (.sl ((numL ds).length) (encL (numL ds)))), (4, .p 4 0), (8, Ia ((((numL ds).length : Nat) : Int))), (9, .d (.sl ((numL (modeL ds)).length) (encL (numL (modeL ds))))), (11, Ia ((cntS y0 0 ds : Nat))), (12, Ia zk), (16, Ba false), (30, Ba false), (78, Ba false), (91, Ba false)]) (fun (vcx : Nat × Int) => match vcx with | (k, zk) => [(4, [.bx (v).enc])]) (fun (vcx : Nat × Int) => match vcx with | (k, zk) => zk = k ∧ k ≤ ds.length) (fun (vcx : Nat × Int) => match vcx with | (k, zk) => ds.length - k) ((0, 0)) (⟨rfl, Nat.zero_le _⟩) (by kernel_rfl) (by kernel_rfl) ?_)
    rintro ⟨k, zk⟩ hinv
    simp only at hinv
    obtain ⟨i1, i2⟩ := hinv
    refine vc_seq (vc_seqr rfl (iQ 2 (iB .lss 3 (.int .i64 zk) (.int .i64 ((((numL ds).length : Nat) : Int))) (some 99) ?_)))
    intro c99 hc99
    refine iE 156 [(2, Ba false), (3, .d (.sl ((numL ds).length) (encL (numL ds)))), (4, .p 4 0), (8, Ia ((((numL ds).length : Nat) : Int))), (9, .d (.sl ((numL (modeL ds)).length) (encL (numL (modeL ds))))), (11, Ia ((cntS y0 0 ds : Nat))), (12, Ia zk), (16, Ba false), (30, Ba false), (78, Ba false), (91, Ba false), (99, Ba c99)] [(4, [.bx (v).enc])] ?_
    cases c99
    ·replace hc99 := bf hc99
     refine iF (vc_exit (seq_x (loop_x (block_x rfl (seq_n (vc_seq (vc_seqr rfl (iQ 1 (iE 156 [(2, Ba false), (3, .d (.sl ((numL ds).length) (encL (numL ds)))), (4, .p 4 0), (8, Ia ((((numL ds).length : Nat) : Int))), (9, .d (.sl ((numL (modeL ds)).length) (encL (numL (modeL ds))))), (11, Ia ((cntS y0 0 ds : Nat))), (12, Ia zk), (14, Ia 1), (16, Ba false), (30, Ba false), (78, Ba false), (91, Ba false), (99, Ba false)] [(4, [.bx (v).enc])] ?_)))))))))
     refine vc_block (vc_loop 156 (fun (vcx : Nat × Int) => match vcx with | (j, zj) => [(2, Ba false), (3, .d (.sl ((numL ds).length) (encL (numL ds)))), (4, .p 4 0), (8, Ia ((((numL ds).length : Nat) : Int))), (9, .d (.sl ((numL (modeL ds)).length) (encL (numL (modeL ds))))), (11, Ia ((cntS y0 0 ds : Nat))), (12, Ia zk), (14, Ia zj), (16, Ba false), (30, Ba false), (78, Ba false), (91, Ba false), (99, Ba false)]) (fun (vcx : Nat × Int) => match vcx with | (j, zj) => [(4, [.bx (v).enc])]) (fun (vcx : Nat × Int) => match vcx with | (j, zj) => zj = j ∧ 1 ≤ j ∧ j ≤ (modeL ds).length) (fun (vcx : Nat × Int) => match vcx with | (j, zj) => (modeL ds).length - j) ((1, 1)) (⟨rfl, Nat.le_refl _, hnl⟩) (by kernel_rfl) (by kernel_rfl) ?_)
     rintro ⟨j, zj⟩ hinv
     simp only at hinv
     obtain ⟨j1, j2, j3⟩ := hinv
     refine vc_seq (vc_seqr rfl (iQ 3 (iB .lss 3 (.int .i64 zj) (.int .i64 ((((numL (modeL ds)).length : Nat) : Int))) (some 142) ?_)))
     intro c142 hc142
     refine iE 156 [(2, Ba false), (3, .d (.sl ((numL ds).length) (encL (numL ds)))), (4, .p 4 0), (8, Ia ((((numL ds).length : Nat) : Int))), (9, .d (.sl ((numL (modeL ds)).length) (encL (numL (modeL ds))))), (11, Ia ((cntS y0 0 ds : Nat))), (12, Ia zk), (14, Ia zj), (16, Ba false), (30, Ba false), (78, Ba false), (91, Ba false), (99, Ba false), (142, Ba c142)] [(4, [.bx (v).enc])] ?_
     cases c142
     ·replace hc142 := bf hc142
      refine iF (vc_exit (seq_x (loop_x (block_x rfl (seq_n (vc_seqr rfl (iQ 1 (iE 156 [(2, Ba true), (3, .d (.sl ((numL ds).length) (encL (numL ds)))), (4, .p 4 0), (8, Ia ((((numL ds).length : Nat) : Int))), (9, .d (.sl ((numL (modeL ds)).length) (encL (numL (modeL ds))))), (11, Ia ((cntS y0 0 ds : Nat))), (12, Ia zk), (14, Ia zj), (16, Ba false), (30, Ba false), (78, Ba false), (91, Ba false), (99, Ba false), (142, Ba false)] [(4, [.bx (v).enc])] ?_))))))))
      refine vc_ret (iR (Bv true) ?_)
      rfl
     ·replace hc142 := bt hc142
      obtain ⟨a, ha⟩ : ∃ y, (modeL ds)[j - 1]? = some y := ⟨_, List.getElem?_eq_getElem (by omega)⟩
      obtain ⟨b, hb⟩ : ∃ y, (modeL ds)[j - 1 + 1]? = some y := ⟨_, List.getElem?_eq_getElem (by omega)⟩
      have hlt := law.up _ a b ha hb
      rw [show j - 1 + 1 = j by omega] at hb
      refine iT (vc_skip (seq_n (vc_seq (vc_block (vc_seqr rfl (iQ 2 (iB .sub 3 (.int .i64 zj) (.int .i64 1) (some 147) ?_)))))))
      intro z147 hz147
      try replace hz147 := hz147.i64 (by omega)
      have e147 : z147.toNat = j - 1 := by omega
      refine vcI_idx1 (q := z147) (n := ((numL (modeL ds)).length)) (cs := (encL (numL (modeL ds)))) (d := .bx (Vl.num (a).g (a).n (a).e).enc) (dst := (some 148)) (by kernel_rfl) (by omega) (by rw [e147]; exact encL_get1 (numL_get ha)) ?_
      refine iQ 3 (vcI_idx1 (q := zj) (n := ((numL (modeL ds)).length)) (cs := (encL (numL (modeL ds)))) (d := .bx (Vl.num (b).g (b).n (b).e).enc) (dst := (some 152)) (by kernel_rfl) (by omega) (by rw [j1, Int.toNat_natCast]; exact encL_get1 (numL_get hb)) ?_)
      refine iQ 1 (iC 11 [.agg [.bx (Vl.num (a).g (a).n (a).e).enc], .agg [.bx (Vl.num (b).g (b).n (b).e).enc]] (some 154) (c_NLess hlt) ?_)
      rintro _ rfl
      refine iB .neq 36 (.int .i64 2) (.int .i64 2) (some 155) ?_
      refine all_false ((by simp)) ?_
      refine iE 156 [(2, Ba false), (3, .d (.sl ((numL ds).length) (encL (numL ds)))), (4, .p 4 0), (8, Ia ((((numL ds).length : Nat) : Int))), (9, .d (.sl ((numL (modeL ds)).length) (encL (numL (modeL ds))))), (11, Ia ((cntS y0 0 ds : Nat))), (12, Ia zk), (14, Ia zj), (16, Ba false), (30, Ba false), (78, Ba false), (91, Ba false), (99, Ba false), (142, Ba true), (155, Ba false)] [(4, [.bx (v).enc])] ?_
      refine iF (vc_skip (block_n (seq_n (vc_reg rfl (iQ 1 (iB .add 3 (.int .i64 zj) (.int .i64 1) (some 144) ?_))))))
      intro z144 hz144
      try replace hz144 := hz144.i64 (by omega)
      refine iQ 1 (iE 156 [(2, Ba false), (3, .d (.sl ((numL ds).length) (encL (numL ds)))), (4, .p 4 0), (8, Ia ((((numL ds).length : Nat) : Int))), (9, .d (.sl ((numL (modeL ds)).length) (encL (numL (modeL ds))))), (11, Ia ((cntS y0 0 ds : Nat))), (12, Ia zk), (14, Ia z144), (16, Ba false), (30, Ba false), (78, Ba false), (91, Ba false), (99, Ba false), (142, Ba true), (155, Ba false)] [(4, [.bx (v).enc])] ?_)
      refine loop_n (j + 1, z144) (⟨by omega, by omega, by omega⟩) (by simp only; omega) (by kernel_rfl) (by kernel_rfl)
    ·replace hc99 := bt hc99
     obtain ⟨x, hx⟩ : ∃ y, ds[k]? = some y := ⟨_, List.getElem?_eq_getElem (by omega)⟩
     have hxm := List.mem_of_getElem? hx
     have w1 := law.le x hxm
     refine iT (vc_skip (seq_n (vc_seq (vc_block (vc_seqr rfl (iQ 3 (vcI_idx1 (q := zk) (n := ((numL ds).length)) (cs := (encL (numL ds))) (d := .bx (Vl.num (x).g (x).n (x).e).enc) (dst := (some 105)) (by kernel_rfl) (by omega) (by rw [i1, Int.toNat_natCast]; exact encL_get1 (numL_get hx)) ?_)))))))
     refine iQ 1 (iC 10 [.sl ((numL ds).length) (encL (numL ds)), .agg [.bx (Vl.num (x).g (x).n (x).e).enc], Iv 0] (some 107) (c_count (ds := ds) (x := x) (by omega)) ?_)
     rintro _ rfl
     refine iQ 1 (iE 156 [(2, Ba false), (3, .d (.sl ((numL ds).length) (encL (numL ds)))), (4, .p 4 0), (8, Ia ((((numL ds).length : Nat) : Int))), (9, .d (.sl ((numL (modeL ds)).length) (encL (numL (modeL ds))))), (11, Ia ((cntS y0 0 ds : Nat))), (12, Ia zk), (13, Ia ((cntS x 0 ds : Nat))), (16, Ba false), (30, Ba false), (78, Ba false), (91, Ba false), (99, Ba true)] [(4, [.bx (v).enc])] ?_)
     refine vc_seqr rfl (iQ 2 (iB .gtr 3 (.int .i64 ((cntS x 0 ds : Nat))) (.int .i64 ((cntS y0 0 ds : Nat))) (some 110) ?_))
     refine all_false ((by omega)) ?_
     refine iQ 3 (iB .eql 3 (.int .i64 ((cntS x 0 ds : Nat))) (.int .i64 ((cntS y0 0 ds : Nat))) (some 114) ?_)
     intro c114 hc114
     refine iQ 1 ?_
     cases c114
     ·replace hc114 := bf hc114
      refine iQ 12 (iB .lss 3 (.int .i64 ((cntS x 0 ds : Nat))) (.int .i64 ((cntS y0 0 ds : Nat))) (some 128) ?_)
      have w3 := law.no x hxm (by omega)
      refine all_true ((by omega)) ?_
      refine iQ 4 (vcI_idx1 (q := zk) (n := ((numL ds).length)) (cs := (encL (numL ds))) (d := .bx (Vl.num (x).g (x).n (x).e).enc) (dst := (some 133)) (by kernel_rfl) (by omega) (by rw [i1, Int.toNat_natCast]; exact encL_get1 (numL_get hx)) ?_)
      refine iQ 1 (iC 10 [.sl ((numL (modeL ds)).length) (encL (numL (modeL ds))), .agg [.bx (Vl.num (x).g (x).n (x).e).enc], Iv 0] (some 135) (c_count (ds := modeL ds) (x := x) (by omega)) ?_)
      rintro _ rfl
      refine iB .neq 3 (.int .i64 ((cntS x 0 (modeL ds) : Nat))) (.int .i64 0) (some 136) ?_
      refine all_false ((by omega)) ?_
      refine iQ 2 (iE 156 [(2, Ba false), (3, .d (.sl ((numL ds).length) (encL (numL ds)))), (4, .p 4 0), (8, Ia ((((numL ds).length : Nat) : Int))), (9, .d (.sl ((numL (modeL ds)).length) (encL (numL (modeL ds))))), (11, Ia ((cntS y0 0 ds : Nat))), (12, Ia zk), (13, Ia ((cntS x 0 ds : Nat))), (16, Ba false), (30, Ba false), (78, Ba false), (91, Ba false), (99, Ba true), (138, Ba false)] [(4, [.bx (v).enc])] ?_)
      refine iF (vc_skip (block_n (seq_n (vc_reg rfl (iQ 1 (iB .add 3 (.int .i64 zk) (.int .i64 1) (some 101) ?_))))))
      intro z101 hz101
      try replace hz101 := hz101.i64 (by omega)
      refine iQ 1 (iE 156 [(2, Ba false), (3, .d (.sl ((numL ds).length) (encL (numL ds)))), (4, .p 4 0), (8, Ia ((((numL ds).length : Nat) : Int))), (9, .d (.sl ((numL (modeL ds)).length) (encL (numL (modeL ds))))), (11, Ia ((cntS y0 0 ds : Nat))), (12, Ia z101), (13, Ia ((cntS x 0 ds : Nat))), (16, Ba false), (30, Ba false), (78, Ba false), (91, Ba false), (99, Ba true), (138, Ba false)] [(4, [.bx (v).enc])] ?_)
      refine loop_n (k + 1, z101) (⟨by omega, by omega⟩) (by simp only; omega) (by kernel_rfl) (by kernel_rfl)
     ·replace hc114 := bt hc114
      refine iQ 3 ?_
      have w2 := law.yes x hxm (by omega)
      refine vcI_idx1 (q := zk) (n := ((numL ds).length)) (cs := (encL (numL ds))) (d := .bx (Vl.num (x).g (x).n (x).e).enc) (dst := (some 119)) (by kernel_rfl) (by omega) (by rw [i1, Int.toNat_natCast]; exact encL_get1 (numL_get hx)) ?_
      refine iQ 1 (iC 10 [.sl ((numL (modeL ds)).length) (encL (numL (modeL ds))), .agg [.bx (Vl.num (x).g (x).n (x).e).enc], Iv 0] (some 121) (c_count (ds := modeL ds) (x := x) (by omega)) ?_)
      rintro _ rfl
      refine iB .neq 3 (.int .i64 ((cntS x 0 (modeL ds) : Nat))) (.int .i64 1) (some 122) ?_
      refine all_false ((by omega)) ?_
      refine iQ 5 (iB .lss 3 (.int .i64 ((cntS x 0 ds : Nat))) (.int .i64 ((cntS y0 0 ds : Nat))) (some 128) ?_)
      refine all_false ((by omega)) ?_
      refine iQ 10 (iE 156 [(2, Ba false), (3, .d (.sl ((numL ds).length) (encL (numL ds)))), (4, .p 4 0), (8, Ia ((((numL ds).length : Nat) : Int))), (9, .d (.sl ((numL (modeL ds)).length) (encL (numL (modeL ds))))), (11, Ia ((cntS y0 0 ds : Nat))), (12, Ia zk), (13, Ia ((cntS x 0 ds : Nat))), (16, Ba false), (30, Ba false), (78, Ba false), (91, Ba false), (99, Ba true), (138, Ba false)] [(4, [.bx (v).enc])] ?_)
      refine iF (vc_skip (block_n (seq_n (vc_reg rfl (iQ 1 (iB .add 3 (.int .i64 zk) (.int .i64 1) (some 101) ?_))))))
      intro z101 hz101
      try replace hz101 := hz101.i64 (by omega)
      refine iQ 1 (iE 156 [(2, Ba false), (3, .d (.sl ((numL ds).length) (encL (numL ds)))), (4, .p 4 0), (8, Ia ((((numL ds).length : Nat) : Int))), (9, .d (.sl ((numL (modeL ds)).length) (encL (numL (modeL ds))))), (11, Ia ((cntS y0 0 ds : Nat))), (12, Ia z101), (13, Ia ((cntS x 0 ds : Nat))), (16, Ba false), (30, Ba false), (78, Ba false), (91, Ba false), (99, Ba true), (138, Ba false)] [(4, [.bx (v).enc])] ?_)
      refine loop_n (k + 1, z101) (⟨by omega, by omega⟩) (by simp only; omega) (by kernel_rfl) (by kernel_rfl)
   ·replace hc56 := bt hc56
    refine iQ 2 ?_
    have hod : ds.length % 2 = 1 := odd_of hz55 hc56 hL
    obtain ⟨m1, m2, m3⟩ := med_law q1 hod
    refine iC 10 [.sl ((numL ds).length) (encL (numL ds)), .agg [.bx (v).enc], Iv (-1)] (some 60) (c_countE (ds := ds) q2 (by omega)) ?_
    rintro _ rfl
    refine iQ 1 (iB .quo 3 (.int .i64 ((((numL ds).length : Nat) : Int))) (.int .i64 2) (some 62) ?_)
    refine And.intro (by omega) ?_
    intro z62 hz62
    refine iB .gtr 3 (.int .i64 ((cntS d (-1) ds : Nat))) (.int .i64 z62) (some 63) ?_
    refine all_false ((by have := half_of hz62 hL (by omega); omega)) ?_
    refine iQ 3 (iC 10 [.sl ((numL ds).length) (encL (numL ds)), .agg [.bx (v).enc], Iv 1] (some 67) (c_countE (ds := ds) q2 (by omega)) ?_)
    rintro _ rfl
    refine iQ 1 (iB .quo 3 (.int .i64 ((((numL ds).length : Nat) : Int))) (.int .i64 2) (some 69) ?_)
    refine And.intro (by omega) ?_
    intro z69 hz69
    refine iB .gtr 3 (.int .i64 ((cntS d 1 ds : Nat))) (.int .i64 z69) (some 70) ?_
    refine all_false ((by have := half_of hz69 hL (by omega); omega)) ?_
    refine iQ 4 (iC 10 [.sl ((numL ds).length) (encL (numL ds)), .agg [.bx (v).enc], Iv 0] (some 75) (c_countE (ds := ds) q2 (by omega)) ?_)
    rintro _ rfl
    refine iB .eql 3 (.int .i64 ((cntS d 0 ds : Nat))) (.int .i64 0) (some 76) ?_
    refine all_false ((by omega)) ?_
    refine iQ 2 (iE 156 [(2, Ba false), (3, .d (.sl ((numL ds).length) (encL (numL ds)))), (4, .p 4 0), (8, Ia ((((numL ds).length : Nat) : Int))), (16, Ba false), (30, Ba false), (78, Ba false)] [(4, [.bx (v).enc])] ?_)
    refine iF (vc_skip (seq_n (vc_seqr rfl (iQ 1 (iC 7 [.sl ((numL ds).length) (encL (numL ds))] (some 81) (c_ModeW (by omega)) ?_)))))
    rintro _ rfl
    refine iC 8 [.agg [.bx (Vl.list (numL (modeL ds))).enc]] (some 82) (c_AsListM (by omega)) ?_
    rintro _ rfl
    have hne : modeL ds ≠ [] := (mode_law ds).choose_spec.2.2.2 h0
    have hnl : 0 < (modeL ds).length := List.length_pos_iff.2 hne
    refine iQ 5 (iE 156 [(2, Ba false), (3, .d (.sl ((numL ds).length) (encL (numL ds)))), (4, .p 4 0), (8, Ia ((((numL ds).length : Nat) : Int))), (9, .d (.sl ((numL (modeL ds)).length) (encL (numL (modeL ds))))), (10, Ba true), (16, Ba false), (30, Ba false), (78, Ba false)] [(4, [.bx (v).enc])] ?_)
    refine vc_seq (vc_seqr rfl (iQ 1 (iU .not (.bool true) (some 86) ?_)))
    refine all_false ((by simp)) ?_
    refine iQ 3 (iB .eql 3 (.int .i64 ((((numL (modeL ds)).length : Nat) : Int))) (.int .i64 0) (some 90) ?_)
    refine all_false ((by omega)) ?_
    obtain ⟨y0, hy0⟩ : ∃ y, (modeL ds)[0]? = some y := ⟨_, List.getElem?_eq_getElem hnl⟩
    have law := mlaw_of hy0
    refine iQ 1 (iE 156 [(2, Ba false), (3, .d (.sl ((numL ds).length) (encL (numL ds)))), (4, .p 4 0), (8, Ia ((((numL ds).length : Nat) : Int))), (9, .d (.sl ((numL (modeL ds)).length) (encL (numL (modeL ds))))), (16, Ba false), (30, Ba false), (78, Ba false), (91, Ba false)] [(4, [.bx (v).enc])] ?_)
    refine iF (vc_skip (seq_n (vc_seqr rfl (iQ 2 (vcI_idx1 (q := 0) (n := ((numL (modeL ds)).length)) (cs := (encL (numL (modeL ds)))) (d := .bx (Vl.num (y0).g (y0).n (y0).e).enc) (dst := (some 94)) (by kernel_rfl) (by omega) (encL_get1 (numL_get hy0)) ?_)))))
    refine iQ 1 (iC 10 [.sl ((numL ds).length) (encL (numL ds)), .agg [.bx (Vl.num (y0).g (y0).n (y0).e).enc], Iv 0] (some 96) (c_count (ds := ds) (x := y0) (by omega)) ?_)
    rintro _ rfl
    refine iQ 1 (iE 156 [(2, Ba false), (3, .d (.sl ((numL ds).length) (encL (numL ds)))), (4, .p 4 0), (8, Ia ((((numL ds).length : Nat) : Int))), (9, .d (.sl ((numL (modeL ds)).length) (encL (numL (modeL ds))))), (11, Ia ((cntS y0 0 ds : Nat))), (16, Ba false), (30, Ba false), (78, Ba false), (91, Ba false)] [(4, [.bx (v).enc])] ?_)
    refine vc_seq (vc_seqr rfl (iQ 1 (iE 156 [(2, Ba false), (3, .d (.sl ((numL ds).length) (encL (numL ds)))), (4, .p 4 0), (8, Ia ((((numL ds).length : Nat) : Int))), (9, .d (.sl ((numL (modeL ds)).length) (encL (numL (modeL ds))))), (11, Ia ((cntS y0 0 ds : Nat))), (12, Ia 0), (16, Ba false), (30, Ba false), (78, Ba false), (91, Ba false)] [(4, [.bx (v).enc])] ?_)))
    refine vc_block (vc_loop 156 (fun (vcx : Nat × Int) => match vcx with | (k, zk) => [(2, Ba false), (3, .d (.sl ((numL ds).length) (encL (numL ds)))), (4, .p 4 0), (8, Ia ((((numL ds).length : Nat) : Int))), (9, .d (.sl ((numL (modeL ds)).length) (encL (numL (modeL ds))))), (11, Ia ((cntS y0 0 ds : Nat))), (12, Ia zk), (16, Ba false), (30, Ba false), (78, Ba false), (91, Ba false)]) (fun (vcx : Nat × Int) => match vcx with | (k, zk) => [(4, [.bx (v).enc])]) (fun (vcx : Nat × Int) => match vcx with | (k, zk) => zk = k ∧ k ≤ ds.length) (fun (vcx : Nat × Int) => match vcx with | (k, zk) => ds.length - k) ((0, 0)) (⟨rfl, Nat.zero_le _⟩) (by kernel_rfl) (by kernel_rfl) ?_)
    rintro ⟨k, zk⟩ hinv
    simp only at hinv
    obtain ⟨i1, i2⟩ := hinv
    refine vc_seq (vc_seqr rfl (iQ 2 (iB .lss 3 (.int .i64 zk) (.int .i64 ((((numL ds).length : Nat) : Int))) (some 99) ?_)))
    intro c99 hc99
    refine iE 156 [(2, Ba false), (3, .d (.sl ((numL ds).length) (encL (numL ds)))), (4, .p 4 0), (8, Ia ((((numL ds).length : Nat) : Int))), (9, .d (.sl ((numL (modeL ds)).length) (encL (numL (modeL ds))))), (11, Ia ((cntS y0 0 ds : Nat))), (12, Ia zk), (16, Ba false), (30, Ba false), (78, Ba false), (91, Ba false), (99, Ba c99)] [(4, [.bx (v).enc])] ?_
    cases c99
    ·replace hc99 := bf hc99
     refine iF (vc_exit (seq_x (loop_x (block_x rfl (seq_n (vc_seq (vc_seqr rfl (iQ 1 (iE 156 [(2, Ba false), (3, .d (.sl ((numL ds).length) (encL (numL ds)))), (4, .p 4 0), (8, Ia ((((numL ds).length : Nat) : Int))), (9, .d (.sl ((numL (modeL ds)).length) (encL (numL (modeL ds))))), (11, Ia ((cntS y0 0 ds : Nat))), (12, Ia zk), (14, Ia 1), (16, Ba false), (30, Ba false), (78, Ba false), (91, Ba false), (99, Ba false)] [(4, [.bx (v).enc])] ?_)))))))))
     refine vc_block (vc_loop 156 (fun (vcx : Nat × Int) => match vcx with | (j, zj) => [(2, Ba false), (3, .d (.sl ((numL ds).length) (encL (numL ds)))), (4, .p 4 0), (8, Ia ((((numL ds).length : Nat) : Int))), (9, .d (.sl ((numL (modeL ds)).length) (encL (numL (modeL ds))))), (11, Ia ((cntS y0 0 ds : Nat))), (12, Ia zk), (14, Ia zj), (16, Ba false), (30, Ba false), (78, Ba false), (91, Ba false), (99, Ba false)]) (fun (vcx : Nat × Int) => match vcx with | (j, zj) => [(4, [.bx (v).enc])]) (fun (vcx : Nat × Int) => match vcx with | (j, zj) => zj = j ∧ 1 ≤ j ∧ j ≤ (modeL ds).length) (fun (vcx : Nat × Int) => match vcx with | (j, zj) => (modeL ds).length - j) ((1, 1)) (⟨rfl, Nat.le_refl _, hnl⟩) (by kernel_rfl) (by kernel_rfl) ?_)
     rintro ⟨j, zj⟩ hinv
     simp only at hinv
     obtain ⟨j1, j2, j3⟩ := hinv
     refine vc_seq (vc_seqr rfl (iQ 3 (iB .lss 3 (.int .i64 zj) (.int .i64 ((((numL (modeL ds)).length : Nat) : Int))) (some 142) ?_)))
     intro c142 hc142
     refine iE 156 [(2, Ba false), (3, .d (.sl ((numL ds).length) (encL (numL ds)))), (4, .p 4 0), (8, Ia ((((numL ds).length : Nat) : Int))), (9, .d (.sl ((numL (modeL ds)).length) (encL (numL (modeL ds))))), (11, Ia ((cntS y0 0 ds : Nat))), (12, Ia zk), (14, Ia zj), (16, Ba false), (30, Ba false), (78, Ba false), (91, Ba false), (99, Ba false), (142, Ba c142)] [(4, [.bx (v).enc])] ?_
     cases c142
     ·replace hc142 := bf hc142
      refine iF (vc_exit (seq_x (loop_x (block_x rfl (seq_n (vc_seqr rfl (iQ 1 (iE 156 [(2, Ba true), (3, .d (.sl ((numL ds).length) (encL (numL ds)))), (4, .p 4 0), (8, Ia ((((numL ds).length : Nat) : Int))), (9, .d (.sl ((numL (modeL ds)).length) (encL (numL (modeL ds))))), (11, Ia ((cntS y0 0 ds : Nat))), (12, Ia zk), (14, Ia zj), (16, Ba false), (30, Ba false), (78, Ba false), (91, Ba false), (99, Ba false), (142, Ba false)] [(4, [.bx (v).enc])] ?_))))))))
      refine vc_ret (iR (Bv true) ?_)
      rfl
     ·replace hc142 := bt hc142
      obtain ⟨a, ha⟩ : ∃ y, (modeL ds)[j - 1]? = some y := ⟨_, List.getElem?_eq_getElem (by omega)⟩
      obtain ⟨b, hb⟩ : ∃ y, (modeL ds)[j - 1 + 1]? = some y := ⟨_, List.getElem?_eq_getElem (by omega)⟩
      have hlt := law.up _ a b ha hb
      rw [show j - 1 + 1 = j by omega] at hb
      refine iT (vc_skip (seq_n (vc_seq (vc_block (vc_seqr rfl (iQ 2 (iB .sub 3 (.int .i64 zj) (.int .i64 1) (some 147) ?_)))))))
      intro z147 hz147
      try replace hz147 := hz147.i64 (by omega)
      have e147 : z147.toNat = j - 1 := by omega
      refine vcI_idx1 (q := z147) (n := ((numL (modeL ds)).length)) (cs := (encL (numL (modeL ds)))) (d := .bx (Vl.num (a).g (a).n (a).e).enc) (dst := (some 148)) (by kernel_rfl) (by omega) (by rw [e147]; exact encL_get1 (numL_get ha)) ?_
      refine iQ 3 (vcI_idx1 (q := zj) (n := ((numL (modeL ds)).length)) (cs := (encL (numL (modeL ds)))) (d := .bx (Vl.num (b).g (b).n (b).e).enc) (dst := (some 152)) (by kernel_rfl) (by omega) (by rw [j1, Int.toNat_natCast]; exact encL_get1 (numL_get hb)) ?_)
      refine iQ 1 (iC 11 [.agg [.bx (Vl.num (a).g (a).n (a).e).enc], .agg [.bx (Vl.num (b).g (b).n (b).e).enc]] (some 154) (c_NLess hlt) ?_)
      rintro _ rfl
      refine iB .neq 36 (.int .i64 2) (.int .i64 2) (some 155) ?_
      refine all_false ((by simp)) ?_
      refine iE 156 [(2, Ba false), (3, .d (.sl ((numL ds).length) (encL (numL ds)))), (4, .p 4 0), (8, Ia ((((numL ds).length : Nat) : Int))), (9, .d (.sl ((numL (modeL ds)).length) (encL (numL (modeL ds))))), (11, Ia ((cntS y0 0 ds : Nat))), (12, Ia zk), (14, Ia zj), (16, Ba false), (30, Ba false), (78, Ba false), (91, Ba false), (99, Ba false), (142, Ba true), (155, Ba false)] [(4, [.bx (v).enc])] ?_
      refine iF (vc_skip (block_n (seq_n (vc_reg rfl (iQ 1 (iB .add 3 (.int .i64 zj) (.int .i64 1) (some 144) ?_))))))
      intro z144 hz144
      try replace hz144 := hz144.i64 (by omega)
      refine iQ 1 (iE 156 [(2, Ba false), (3, .d (.sl ((numL ds).length) (encL (numL ds)))), (4, .p 4 0), (8, Ia ((((numL ds).length : Nat) : Int))), (9, .d (.sl ((numL (modeL ds)).length) (encL (numL (modeL ds))))), (11, Ia ((cntS y0 0 ds : Nat))), (12, Ia zk), (14, Ia z144), (16, Ba false), (30, Ba false), (78, Ba false), (91, Ba false), (99, Ba false), (142, Ba true), (155, Ba false)] [(4, [.bx (v).enc])] ?_)
      refine loop_n (j + 1, z144) (⟨by omega, by omega, by omega⟩) (by simp only; omega) (by kernel_rfl) (by kernel_rfl)
    ·replace hc99 := bt hc99
     obtain ⟨x, hx⟩ : ∃ y, ds[k]? = some y := ⟨_, List.getElem?_eq_getElem (by omega)⟩
     have hxm := List.mem_of_getElem? hx
     have w1 := law.le x hxm
     refine iT (vc_skip (seq_n (vc_seq (vc_block (vc_seqr rfl (iQ 3 (vcI_idx1 (q := zk) (n := ((numL ds).length)) (cs := (encL (numL ds))) (d := .bx (Vl.num (x).g (x).n (x).e).enc) (dst := (some 105)) (by kernel_rfl) (by omega) (by rw [i1, Int.toNat_natCast]; exact encL_get1 (numL_get hx)) ?_)))))))
     refine iQ 1 (iC 10 [.sl ((numL ds).length) (encL (numL ds)), .agg [.bx (Vl.num (x).g (x).n (x).e).enc], Iv 0] (some 107) (c_count (ds := ds) (x := x) (by omega)) ?_)
     rintro _ rfl
     refine iQ 1 (iE 156 [(2, Ba false), (3, .d (.sl ((numL ds).length) (encL (numL ds)))), (4, .p 4 0), (8, Ia ((((numL ds).length : Nat) : Int))), (9, .d (.sl ((numL (modeL ds)).length) (encL (numL (modeL ds))))), (11, Ia ((cntS y0 0 ds : Nat))), (12, Ia zk), (13, Ia ((cntS x 0 ds : Nat))), (16, Ba false), (30, Ba false), (78, Ba false), (91, Ba false), (99, Ba true)] [(4, [.bx (v).enc])] ?_)
     refine vc_seqr rfl (iQ 2 (iB .gtr 3 (.int .i64 ((cntS x 0 ds : Nat))) (.int .i64 ((cntS y0 0 ds : Nat))) (some 110) ?_))
     refine all_false ((by omega)) ?_
     refine iQ 3 (iB .eql 3 (.int .i64 ((cntS x 0 ds : Nat))) (.int .i64 ((cntS y0 0 ds : Nat))) (some 114) ?_)
     intro c114 hc114
     refine iQ 1 ?_
     cases c114
     ·replace hc114 := bf hc114
      refine iQ 12 (iB .lss 3 (.int .i64 ((cntS x 0 ds : Nat))) (.int .i64 ((cntS y0 0 ds : Nat))) (some 128) ?_)
      have w3 := law.no x hxm (by omega)
      refine all_true ((by omega)) ?_
      refine iQ 4 (vcI_idx1 (q := zk) (n := ((numL ds).length)) (cs := (encL (numL ds))) (d := .bx (Vl.num (x).g (x).n (x).e).enc) (dst := (some 133)) (by kernel_rfl) (by omega) (by rw [i1, Int.toNat_natCast]; exact encL_get1 (numL_get hx)) ?_)
      refine iQ 1 (iC 10 [.sl ((numL (modeL ds)).length) (encL (numL (modeL ds))), .agg [.bx (Vl.num (x).g (x).n (x).e).enc], Iv 0] (some 135) (c_count (ds := modeL ds) (x := x) (by omega)) ?_)
      rintro _ rfl
      refine iB .neq 3 (.int .i64 ((cntS x 0 (modeL ds) : Nat))) (.int .i64 0) (some 136) ?_
      refine all_false ((by omega)) ?_
      refine iQ 2 (iE 156 [(2, Ba false), (3, .d (.sl ((numL ds).length) (encL (numL ds)))), (4, .p 4 0), (8, Ia ((((numL ds).length : Nat) : Int))), (9, .d (.sl ((numL (modeL ds)).length) (encL (numL (modeL ds))))), (11, Ia ((cntS y0 0 ds : Nat))), (12, Ia zk), (13, Ia ((cntS x 0 ds : Nat))), (16, Ba false), (30, Ba false), (78, Ba false), (91, Ba false), (99, Ba true), (138, Ba false)] [(4, [.bx (v).enc])] ?_)
      refine iF (vc_skip (block_n (seq_n (vc_reg rfl (iQ 1 (iB .add 3 (.int .i64 zk) (.int .i64 1) (some 101) ?_))))))
      intro z101 hz101
      try replace hz101 := hz101.i64 (by omega)
      refine iQ 1 (iE 156 [(2, Ba false), (3, .d (.sl ((numL ds).length) (encL (numL ds)))), (4, .p 4 0), (8, Ia ((((numL ds).length : Nat) : Int))), (9, .d (.sl ((numL (modeL ds)).length) (encL (numL (modeL ds))))), (11, Ia ((cntS y0 0 ds : Nat))), (12, Ia z101), (13, Ia ((cntS x 0 ds : Nat))), (16, Ba false), (30, Ba false), (78, Ba false), (91, Ba false), (99, Ba true), (138, Ba false)] [(4, [.bx (v).enc])] ?_)
      refine loop_n (k + 1, z101) (⟨by omega, by omega⟩) (by simp only; omega) (by kernel_rfl) (by kernel_rfl)
     ·replace hc114 := bt hc114
      refine iQ 3 ?_
      have w2 := law.yes x hxm (by omega)
      refine vcI_idx1 (q := zk) (n := ((numL ds).length)) (cs := (encL (numL ds))) (d := .bx (Vl.num (x).g (x).n (x).e).enc) (dst := (some 119)) (by kernel_rfl) (by omega) (by rw [i1, Int.toNat_natCast]; exact encL_get1 (numL_get hx)) ?_
      refine iQ 1 (iC 10 [.sl ((numL (modeL ds)).length) (encL (numL (modeL ds))), .agg [.bx (Vl.num (x).g (x).n (x).e).enc], Iv 0] (some 121) (c_count (ds := modeL ds) (x := x) (by omega)) ?_)
      rintro _ rfl
      refine iB .neq 3 (.int .i64 ((cntS x 0 (modeL ds) : Nat))) (.int .i64 1) (some 122) ?_
      refine all_false ((by omega)) ?_
      refine iQ 5 (iB .lss 3 (.int .i64 ((cntS x 0 ds : Nat))) (.int .i64 ((cntS y0 0 ds : Nat))) (some 128) ?_)
      refine all_false ((by omega)) ?_
      refine iQ 10 (iE 156 [(2, Ba false), (3, .d (.sl ((numL ds).length) (encL (numL ds)))), (4, .p 4 0), (8, Ia ((((numL ds).length : Nat) : Int))), (9, .d (.sl ((numL (modeL ds)).length) (encL (numL (modeL ds))))), (11, Ia ((cntS y0 0 ds : Nat))), (12, Ia zk), (13, Ia ((cntS x 0 ds : Nat))), (16, Ba false), (30, Ba false), (78, Ba false), (91, Ba false), (99, Ba true), (138, Ba false)] [(4, [.bx (v).enc])] ?_)
      refine iF (vc_skip (block_n (seq_n (vc_reg rfl (iQ 1 (iB .add 3 (.int .i64 zk) (.int .i64 1) (some 101) ?_))))))
      intro z101 hz101
      try replace hz101 := hz101.i64 (by omega)
      refine iQ 1 (iE 156 [(2, Ba false), (3, .d (.sl ((numL ds).length) (encL (numL ds)))), (4, .p 4 0), (8, Ia ((((numL ds).length : Nat) : Int))), (9, .d (.sl ((numL (modeL ds)).length) (encL (numL (modeL ds))))), (11, Ia ((cntS y0 0 ds : Nat))), (12, Ia z101), (13, Ia ((cntS x 0 ds : Nat))), (16, Ba false), (30, Ba false), (78, Ba false), (91, Ba false), (99, Ba true), (138, Ba false)] [(4, [.bx (v).enc])] ?_)
      refine loop_n (k + 1, z101) (⟨by omega, by omega⟩) (by simp only; omega) (by kernel_rfl) (by kernel_rfl)
  ·replace hc29 := bt hc29
   obtain ⟨q1, q2⟩ := opt_no hv ho (by simpa using hc29)
   refine iT (vc_seqr rfl (iQ 1 (iC 7 [.sl ((numL ds).length) (encL (numL ds))] (some 33) (c_ModeW (by omega)) ?_)))
   rintro _ rfl
   refine iC 8 [.agg [.bx (Vl.list (numL (modeL ds))).enc]] (some 34) (c_AsListM (by omega)) ?_
   rintro _ rfl
   refine iQ 5 (iE 156 [(2, Ba false), (3, .d (.sl ((numL ds).length) (encL (numL ds)))), (4, .p 4 0), (6, .d (.sl ((numL (modeL ds)).length) (encL (numL (modeL ds))))), (7, Ba true), (16, Ba false), (30, Ba true)] [(4, [.bx (v).enc])] ?_)
   refine vc_seqr rfl (iQ 1 (iC 9 [.agg [.bx (v).enc]] (some 38) (c_NullV0 q2) ?_))
   rintro _ rfl
   refine iQ 6 (iB .gtr 3 (.int .i64 ((((numL ds).length : Nat) : Int))) (.int .i64 0) (some 45) ?_)
   refine all_true ((by omega)) ?_
   refine iQ 7 (iE 156 [(2, Ba true), (3, .d (.sl ((numL ds).length) (encL (numL ds)))), (4, .p 4 0), (16, Ba false), (30, Ba true)] [(4, [.bx (v).enc])] ?_)
   refine vc_ret (seq_r (iR (Bv true) ?_))
   rfl
 ·replace hc26 := bt hc26
  refine iQ 3 (iE 156 [(2, Ba false), (3, .d (.sl ((numL ds).length) (encL (numL ds)))), (4, .p 4 0), (16, Ba false), (30, Ba true)] [(4, [.bx (v).enc])] ?_)
  have e0 : ds = [] := List.length_eq_zero_iff.1 (by omega)
  have e1 : modeL ds = [] := List.length_eq_zero_iff.1 (by rw [e0] at hML ⊢; simpa using hML)
  have hvn : v = .null := hv0 e0
  refine iT (vc_seqr rfl (iQ 1 (iC 7 [.sl ((numL ds).length) (encL (numL ds))] (some 33) (c_ModeW (by omega)) ?_)))
  rintro _ rfl
  refine iC 8 [.agg [.bx (Vl.list (numL (modeL ds))).enc]] (some 34) (c_AsListM (by omega)) ?_
  rintro _ rfl
  refine iQ 5 (iE 156 [(2, Ba false), (3, .d (.sl ((numL ds).length) (encL (numL ds)))), (4, .p 4 0), (6, .d (.sl ((numL (modeL ds)).length) (encL (numL (modeL ds))))), (7, Ba true), (16, Ba false), (30, Ba true)] [(4, [.bx (v).enc])] ?_)
  refine vc_seqr rfl (iQ 1 (iC 9 [.agg [.bx (v).enc]] (some 38) (c_NullV0 hvn) ?_))
  rintro _ rfl
  refine iQ 6 (iB .gtr 3 (.int .i64 ((((numL ds).length : Nat) : Int))) (.int .i64 0) (some 45) ?_)
  refine all_false ((by omega)) ?_
  refine iQ 3 (iB .eql 3 (.int .i64 ((((numL (modeL ds)).length : Nat) : Int))) (.int .i64 0) (some 49) ?_)
  refine all_true ((by rw [hM, e1]; rfl)) ?_
  refine iQ 3 (iE 156 [(2, Ba true), (3, .d (.sl ((numL ds).length) (encL (numL ds)))), (4, .p 4 0), (16, Ba false), (30, Ba true)] [(4, [.bx (v).enc])] ?_)
  refine vc_ret (seq_r (iR (Bv true) ?_))
  rfl
end Go.Proofs.YtmldjlgeeljfdaaGreat
