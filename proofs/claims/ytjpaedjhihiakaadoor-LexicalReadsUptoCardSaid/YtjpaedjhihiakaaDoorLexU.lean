/-
  lexical: what is read of a text, of days, times and moments; LexicalReads. lexical: what is read of a text, of times and moments; LexicalReads. LexicalReads.
-/
import Derived.Test.YtjpaedjhihiakaaDoorLexV
import Derived.Test.YtjpaedjhihiakaaDoorSpl
namespace Go.Proofs.YtjpaedjhihiakaaDoor

open Go.RowKit
set_option linter.unusedVariables false
set_option linter.unusedSimpArgs false
set_option maxRecDepth 100000

theorem join_cons (c : UInt8) (p q : L8) (r : List L8) : joinL c (p :: q :: r) = p ++ c :: joinL c (q :: r) := rfl
theorem join3 {ps : List L8} {c : UInt8} {l : L8} (h : joinL c ps = l) (h3 : ps.length = 3) : ∃ a b d, ps = [a, b, d] ∧ l = a ++ c :: (b ++ c :: d) := by
  match ps, h3 with
  | [a, b, d], _ => exact ⟨a, b, d, rfl, h.symm⟩
theorem numS_lt {lo hi n : Nat} {l : L8} {g : Bool} (h : g = true ∧ numS lo hi l = some n ∨ g = false ∧ numS lo hi l = none ∧ n = 0) : n < 10 ^ hi := by
  rcases h with ⟨_, h⟩ | ⟨_, _, rfl⟩
  · unfold numS at h
    split at h
    · rename_i hc
      cases h
      exact nvL_lt hc.2.2 hc.2.1
    · cases h
  · exact Nat.pow_pos (by decide)
def DateP (l : L8) (r : DV) : Prop := ∃ (y m d : Int) (ok : Bool), r = .tup [.agg [.v (.int .i64 y), .v (.int .i64 m), .v (.int .i64 d)], .v (.bool ok)] ∧ (ok = true ∧ mayD y m d ∧ l = dateL y m d ∨ ok = false ∧ y = 0 ∧ m = 0 ∧ d = 0)
theorem DateP_no (l : L8) : DateP l (.tup [.agg [.v (.int .i64 0), .v (.int .i64 0), .v (.int .i64 0)], .v (.bool false)]) := ⟨0, 0, 0, false, rfl, .inr ⟨rfl, rfl, rfl, rfl⟩⟩
theorem dateT_eq {y m d : Int} {l : L8} (h : tx (dateT y m d) = tx l) (h0 : l ≠ []) : mayD y m d ∧ l = dateL y m d := by
  have h1 := tx_inj h
  unfold dateT at h1
  split at h1
  · rename_i hm
    exact ⟨hm, h1.symm⟩
  · exact absurd h1.symm h0
theorem DateP_yes {y m d : Int} {l : L8} (h : tx (dateT y m d) = tx l) (h0 : l ≠ []) : DateP l (.tup [.agg [.v (.int .i64 y), .v (.int .i64 m), .v (.int .i64 d)], .v (.bool true)]) := ⟨y, m, d, true, rfl, .inl ⟨rfl, dateT_eq h h0⟩⟩

theorem c_ReadDate {l : L8} (hL : l.length < 4294967281) : HasC Tryd.prog 32 [.v (.string (tx l))] (DateP l) := by
  refine HasC.of [] (fn := Tryd.f32) tyOk mixed (fun args w => Tryd.call32 args w) Tryd.func32 rfl (by kernel_rfl) (Nat.le_of_ble_eq_true rfl) (⟨_, DateP_no l⟩) ?_
  refine vc_seqr rfl (iQ 2 (iE 67 [(0, .d (Sv (tx l))), (2, .p 2 0), (3, Ba false)] [(2, [Iv 0, Iv 0, Iv 0])] ?_))
  refine vc_seqr rfl (iQ 1 (iC 48 [Sv (tx l), Sv (⟨#[45]⟩)] (some 13) (c_trim) ?_))
  rintro _ rfl
  have hul := (uns_len l).1
  refine iC 64 [Sv (tx (unsS l).1), Sv (⟨#[45]⟩)] (some 14) (c_Split (c := 45) (by omega)) ?_
  rintro _ ⟨ps, rfl, hj, hpl⟩
  refine iQ 1 (iE 67 [(0, .d (Sv (tx l))), (2, .p 2 0), (3, Ba false), (4, .d (.sl ps.length (strsD ps)))] [(2, [Iv 0, Iv 0, Iv 0])] ?_)
  refine vc_seq (vc_seqr rfl (iQ 2 (iB .neq 3 (.int .i64 (((ps.length : Nat) : Int))) (.int .i64 3) (some 17) ?_)))
  intro c17 hc17
  refine iE 67 [(0, .d (Sv (tx l))), (2, .p 2 0), (3, Ba false), (4, .d (.sl ps.length (strsD ps))), (17, Ba c17)] [(2, [Iv 0, Iv 0, Iv 0])] ?_
  cases c17
  · replace hc17 := bf hc17
    obtain ⟨p0, p1, p2, hps, hl3⟩ := join3 hj (by omega)
    have h0 : l ≠ [] := fun e => by have h9 := congrArg List.length hl3; rw [e] at hul; simp only [List.length_append, List.length_cons, List.length_nil] at h9 hul; rw [e] at h9; omega
    have h00 : 0 < l.length := List.length_pos_iff.2 h0
    refine iF (vc_skip (seq_n (vc_seqr rfl (iQ 1 (vcI_idx1 (q := 0) (n := ps.length) (cs := (strsD ps)) (d := .v (.string (tx p0))) (dst := (some 21)) (by kernel_rfl) (by omega) (strs_get (i := 0) (by rw [hps]; rfl)) ?_)))))
    refine iQ 1 (iC 65 [Sv (tx p0), Iv 4, Iv 9] (some 23) (c_number (l := p0) (lo := 4) (hi := 9) (by decide)) ?_)
    rintro _ ⟨y, g1, rfl, h1⟩
    have hy := numS_lt h1
    refine iQ 5 (iE 67 [(0, .d (Sv (tx l))), (2, .p 2 0), (3, Ba false), (4, .d (.sl ps.length (strsD ps))), (5, Ia ((y : Int))), (6, Ba g1), (17, Ba false)] [(2, [Iv 0, Iv 0, Iv 0])] ?_)
    refine vc_seqr rfl (iQ 1 (vcI_idx1 (q := 1) (n := ps.length) (cs := (strsD ps)) (d := .v (.string (tx p1))) (dst := (some 28)) (by kernel_rfl) (by omega) (strs_get (i := 1) (by rw [hps]; rfl)) ?_))
    refine iQ 1 (iC 65 [Sv (tx p1), Iv 2, Iv 2] (some 30) (c_number (l := p1) (lo := 2) (hi := 2) (by decide)) ?_)
    rintro _ ⟨m, g2, rfl, h2⟩
    refine iQ 5 (iE 67 [(0, .d (Sv (tx l))), (2, .p 2 0), (3, Ba false), (4, .d (.sl ps.length (strsD ps))), (5, Ia ((y : Int))), (6, Ba g1), (7, Ia ((m : Int))), (8, Ba g2), (17, Ba false)] [(2, [Iv 0, Iv 0, Iv 0])] ?_)
    refine vc_seqr rfl (iQ 1 (vcI_idx1 (q := 2) (n := ps.length) (cs := (strsD ps)) (d := .v (.string (tx p2))) (dst := (some 35)) (by kernel_rfl) (by omega) (strs_get (i := 2) (by rw [hps]; rfl)) ?_))
    refine iQ 1 (iC 65 [Sv (tx p2), Iv 2, Iv 2] (some 37) (c_number (l := p2) (lo := 2) (hi := 2) (by decide)) ?_)
    rintro _ ⟨d, g3, rfl, h3⟩
    refine iQ 5 (iE 67 [(0, .d (Sv (tx l))), (2, .p 2 0), (3, Ba false), (4, .d (.sl ps.length (strsD ps))), (5, Ia ((y : Int))), (6, Ba g1), (7, Ia ((m : Int))), (8, Ba g2), (9, Ia ((d : Int))), (10, Ba g3), (17, Ba false)] [(2, [Iv 0, Iv 0, Iv 0])] ?_)
    refine vc_seq (vc_seqr rfl (iQ 1 (iX 9 (.string (tx l)) (.int .i64 0) (some 41) ?_)))
    refine And.intro (by rw [tx_size]; omega) ?_
    intro z41 hz41
    refine iB .eql 5 (.int .u8 z41) (.int .u8 45) (some 42) ?_
    intro c42 hc42
    refine iE 67 [(0, .d (Sv (tx l))), (2, .p 2 0), (3, Ba false), (4, .d (.sl ps.length (strsD ps))), (5, Ia ((y : Int))), (6, Ba g1), (7, Ia ((m : Int))), (8, Ba g2), (9, Ia ((d : Int))), (10, Ba g3), (17, Ba false), (42, Ba c42)] [(2, [Iv 0, Iv 0, Iv 0])] ?_
    cases c42
    · replace hc42 := bf hc42
      refine iF (vc_skip (seq_n (vc_seqr rfl (iQ 6 (iE 67 [(0, .d (Sv (tx l))), (2, .p 2 0), (3, Ba false), (4, .d (.sl ps.length (strsD ps))), (5, Ia ((y : Int))), (6, Ba g1), (8, Ba g2), (10, Ba g3), (11, .p 11 0), (17, Ba false), (42, Ba false)] [(2, [Iv 0, Iv 0, Iv 0]), (11, [Iv ((y : Int)), Iv ((m : Int)), Iv ((d : Int))])] ?_)))))
      refine vc_seq (vc_seqr rfl (iQ 1 (iU .not (.bool g1) (some 50) ?_)))
      intro c50 hc50
      refine iQ 1 ?_
      cases c50
      · replace hc50 := bf hc50
        refine iQ 1 (iU .not (.bool g2) (some 53) ?_)
        intro c53 hc53
        refine iQ 2 ?_
        cases c53
        · replace hc53 := bf hc53
          refine iQ 1 (iU .not (.bool g3) (some 57) ?_)
          intro c57 hc57
          refine iQ 2 ?_
          cases c57
          · replace hc57 := bf hc57
            refine iQ 1 (iC 17 [.agg [Iv ((y : Int)), Iv ((m : Int)), Iv ((d : Int))]] (some 61) (c_lexDate) ?_)
            rintro _ rfl
            refine iQ 1 (iB .neq 9 (.string (tx (dateT (y:Int) (m : Int) (d : Int)))) (.string (tx l)) (some 63) ?_)
            intro c63 hc63
            refine iQ 1 (iE 67 [(0, .d (Sv (tx l))), (2, .p 2 0), (3, Ba false), (4, .d (.sl ps.length (strsD ps))), (5, Ia ((y : Int))), (11, .p 11 0), (17, Ba false), (42, Ba false), (64, Ba c63)] [(2, [Iv 0, Iv 0, Iv 0]), (11, [Iv ((y : Int)), Iv ((m : Int)), Iv ((d : Int))])] ?_)
            cases c63
            · replace hc63 := bf hc63
              refine iF (vc_skip (seq_n (vc_seqr rfl (iQ 3 (iE 67 [(0, .d (Sv (tx l))), (2, .p 2 0), (3, Ba true), (4, .d (.sl ps.length (strsD ps))), (5, Ia ((y : Int))), (11, .p 11 0), (17, Ba false), (42, Ba false), (64, Ba false)] [(2, [Iv ((y : Int)), Iv ((m : Int)), Iv ((d : Int))]), (11, [Iv ((y : Int)), Iv ((m : Int)), Iv ((d : Int))])] ?_)))))
              refine vc_ret (iS (.agg [Iv ((y : Int)), Iv ((m : Int)), Iv ((d : Int))]) (Bv true) [] ?_)
              exact DateP_yes (Classical.not_not.1 hc63) h0
            · replace hc63 := bt hc63
              refine iT (vc_seqr rfl (iQ 3 (iE 67 [(0, .d (Sv (tx l))), (2, .p 2 0), (3, Ba false), (4, .d (.sl ps.length (strsD ps))), (5, Ia ((y : Int))), (11, .p 11 0), (17, Ba false), (42, Ba false), (64, Ba true)] [(2, [Iv 0, Iv 0, Iv 0]), (11, [Iv ((y : Int)), Iv ((m : Int)), Iv ((d : Int))])] ?_)))
              refine vc_ret (seq_r (iS (.agg [Iv 0, Iv 0, Iv 0]) (Bv false) [] ?_))
              exact DateP_no l
          · replace hc57 := bt hc57
            refine iQ 5 (iE 67 [(0, .d (Sv (tx l))), (2, .p 2 0), (3, Ba false), (4, .d (.sl ps.length (strsD ps))), (5, Ia ((y : Int))), (11, .p 11 0), (17, Ba false), (42, Ba false), (64, Ba true)] [(2, [Iv 0, Iv 0, Iv 0]), (11, [Iv ((y : Int)), Iv ((m : Int)), Iv ((d : Int))])] ?_)
            refine iT (vc_seqr rfl (iQ 3 (iE 67 [(0, .d (Sv (tx l))), (2, .p 2 0), (3, Ba false), (4, .d (.sl ps.length (strsD ps))), (5, Ia ((y : Int))), (11, .p 11 0), (17, Ba false), (42, Ba false), (64, Ba true)] [(2, [Iv 0, Iv 0, Iv 0]), (11, [Iv ((y : Int)), Iv ((m : Int)), Iv ((d : Int))])] ?_)))
            refine vc_ret (seq_r (iS (.agg [Iv 0, Iv 0, Iv 0]) (Bv false) [] ?_))
            exact DateP_no l
        · replace hc53 := bt hc53
          refine iQ 9 (iE 67 [(0, .d (Sv (tx l))), (2, .p 2 0), (3, Ba false), (4, .d (.sl ps.length (strsD ps))), (5, Ia ((y : Int))), (11, .p 11 0), (17, Ba false), (42, Ba false), (64, Ba true)] [(2, [Iv 0, Iv 0, Iv 0]), (11, [Iv ((y : Int)), Iv ((m : Int)), Iv ((d : Int))])] ?_)
          refine iT (vc_seqr rfl (iQ 3 (iE 67 [(0, .d (Sv (tx l))), (2, .p 2 0), (3, Ba false), (4, .d (.sl ps.length (strsD ps))), (5, Ia ((y : Int))), (11, .p 11 0), (17, Ba false), (42, Ba false), (64, Ba true)] [(2, [Iv 0, Iv 0, Iv 0]), (11, [Iv ((y : Int)), Iv ((m : Int)), Iv ((d : Int))])] ?_)))
          refine vc_ret (seq_r (iS (.agg [Iv 0, Iv 0, Iv 0]) (Bv false) [] ?_))
          exact DateP_no l
      · replace hc50 := bt hc50
        refine iQ 13 (iE 67 [(0, .d (Sv (tx l))), (2, .p 2 0), (3, Ba false), (4, .d (.sl ps.length (strsD ps))), (5, Ia ((y : Int))), (11, .p 11 0), (17, Ba false), (42, Ba false), (64, Ba true)] [(2, [Iv 0, Iv 0, Iv 0]), (11, [Iv ((y : Int)), Iv ((m : Int)), Iv ((d : Int))])] ?_)
        refine iT (vc_seqr rfl (iQ 3 (iE 67 [(0, .d (Sv (tx l))), (2, .p 2 0), (3, Ba false), (4, .d (.sl ps.length (strsD ps))), (5, Ia ((y : Int))), (11, .p 11 0), (17, Ba false), (42, Ba false), (64, Ba true)] [(2, [Iv 0, Iv 0, Iv 0]), (11, [Iv ((y : Int)), Iv ((m : Int)), Iv ((d : Int))])] ?_)))
        refine vc_ret (seq_r (iS (.agg [Iv 0, Iv 0, Iv 0]) (Bv false) [] ?_))
        exact DateP_no l
    · replace hc42 := bt hc42
      refine iT (vc_reg rfl (iQ 1 (iU .neg (.int .i64 ((y : Int))) (some 44) ?_)))
      intro z44 hz44
      try replace hz44 := hz44.i64 (by omega)
      refine iQ 1 (iE 67 [(0, .d (Sv (tx l))), (2, .p 2 0), (3, Ba false), (4, .d (.sl ps.length (strsD ps))), (5, Ia z44), (6, Ba g1), (7, Ia ((m : Int))), (8, Ba g2), (9, Ia ((d : Int))), (10, Ba g3), (17, Ba false), (42, Ba true)] [(2, [Iv 0, Iv 0, Iv 0])] ?_)
      refine seq_n (vc_seqr rfl (iQ 6 (iE 67 [(0, .d (Sv (tx l))), (2, .p 2 0), (3, Ba false), (4, .d (.sl ps.length (strsD ps))), (5, Ia z44), (6, Ba g1), (8, Ba g2), (10, Ba g3), (11, .p 11 0), (17, Ba false), (42, Ba true)] [(2, [Iv 0, Iv 0, Iv 0]), (11, [Iv z44, Iv ((m : Int)), Iv ((d : Int))])] ?_)))
      refine vc_seq (vc_seqr rfl (iQ 1 (iU .not (.bool g1) (some 50) ?_)))
      intro c50 hc50
      refine iQ 1 ?_
      cases c50
      · replace hc50 := bf hc50
        refine iQ 1 (iU .not (.bool g2) (some 53) ?_)
        intro c53 hc53
        refine iQ 2 ?_
        cases c53
        · replace hc53 := bf hc53
          refine iQ 1 (iU .not (.bool g3) (some 57) ?_)
          intro c57 hc57
          refine iQ 2 ?_
          cases c57
          · replace hc57 := bf hc57
            refine iQ 1 (iC 17 [.agg [Iv z44, Iv ((m : Int)), Iv ((d : Int))]] (some 61) (c_lexDate) ?_)
            rintro _ rfl
            refine iQ 1 (iB .neq 9 (.string (tx (dateT z44 (m : Int) (d : Int)))) (.string (tx l)) (some 63) ?_)
            intro c63 hc63
            refine iQ 1 (iE 67 [(0, .d (Sv (tx l))), (2, .p 2 0), (3, Ba false), (4, .d (.sl ps.length (strsD ps))), (5, Ia z44), (11, .p 11 0), (17, Ba false), (42, Ba true), (64, Ba c63)] [(2, [Iv 0, Iv 0, Iv 0]), (11, [Iv z44, Iv ((m : Int)), Iv ((d : Int))])] ?_)
            cases c63
            · replace hc63 := bf hc63
              refine iF (vc_skip (seq_n (vc_seqr rfl (iQ 3 (iE 67 [(0, .d (Sv (tx l))), (2, .p 2 0), (3, Ba true), (4, .d (.sl ps.length (strsD ps))), (5, Ia z44), (11, .p 11 0), (17, Ba false), (42, Ba true), (64, Ba false)] [(2, [Iv z44, Iv ((m : Int)), Iv ((d : Int))]), (11, [Iv z44, Iv ((m : Int)), Iv ((d : Int))])] ?_)))))
              refine vc_ret (iS (.agg [Iv z44, Iv ((m : Int)), Iv ((d : Int))]) (Bv true) [] ?_)
              exact DateP_yes (Classical.not_not.1 hc63) h0
            · replace hc63 := bt hc63
              refine iT (vc_seqr rfl (iQ 3 (iE 67 [(0, .d (Sv (tx l))), (2, .p 2 0), (3, Ba false), (4, .d (.sl ps.length (strsD ps))), (5, Ia z44), (11, .p 11 0), (17, Ba false), (42, Ba true), (64, Ba true)] [(2, [Iv 0, Iv 0, Iv 0]), (11, [Iv z44, Iv ((m : Int)), Iv ((d : Int))])] ?_)))
              refine vc_ret (seq_r (iS (.agg [Iv 0, Iv 0, Iv 0]) (Bv false) [] ?_))
              exact DateP_no l
          · replace hc57 := bt hc57
            refine iQ 5 (iE 67 [(0, .d (Sv (tx l))), (2, .p 2 0), (3, Ba false), (4, .d (.sl ps.length (strsD ps))), (5, Ia z44), (11, .p 11 0), (17, Ba false), (42, Ba true), (64, Ba true)] [(2, [Iv 0, Iv 0, Iv 0]), (11, [Iv z44, Iv ((m : Int)), Iv ((d : Int))])] ?_)
            refine iT (vc_seqr rfl (iQ 3 (iE 67 [(0, .d (Sv (tx l))), (2, .p 2 0), (3, Ba false), (4, .d (.sl ps.length (strsD ps))), (5, Ia z44), (11, .p 11 0), (17, Ba false), (42, Ba true), (64, Ba true)] [(2, [Iv 0, Iv 0, Iv 0]), (11, [Iv z44, Iv ((m : Int)), Iv ((d : Int))])] ?_)))
            refine vc_ret (seq_r (iS (.agg [Iv 0, Iv 0, Iv 0]) (Bv false) [] ?_))
            exact DateP_no l
        · replace hc53 := bt hc53
          refine iQ 9 (iE 67 [(0, .d (Sv (tx l))), (2, .p 2 0), (3, Ba false), (4, .d (.sl ps.length (strsD ps))), (5, Ia z44), (11, .p 11 0), (17, Ba false), (42, Ba true), (64, Ba true)] [(2, [Iv 0, Iv 0, Iv 0]), (11, [Iv z44, Iv ((m : Int)), Iv ((d : Int))])] ?_)
          refine iT (vc_seqr rfl (iQ 3 (iE 67 [(0, .d (Sv (tx l))), (2, .p 2 0), (3, Ba false), (4, .d (.sl ps.length (strsD ps))), (5, Ia z44), (11, .p 11 0), (17, Ba false), (42, Ba true), (64, Ba true)] [(2, [Iv 0, Iv 0, Iv 0]), (11, [Iv z44, Iv ((m : Int)), Iv ((d : Int))])] ?_)))
          refine vc_ret (seq_r (iS (.agg [Iv 0, Iv 0, Iv 0]) (Bv false) [] ?_))
          exact DateP_no l
      · replace hc50 := bt hc50
        refine iQ 13 (iE 67 [(0, .d (Sv (tx l))), (2, .p 2 0), (3, Ba false), (4, .d (.sl ps.length (strsD ps))), (5, Ia z44), (11, .p 11 0), (17, Ba false), (42, Ba true), (64, Ba true)] [(2, [Iv 0, Iv 0, Iv 0]), (11, [Iv z44, Iv ((m : Int)), Iv ((d : Int))])] ?_)
        refine iT (vc_seqr rfl (iQ 3 (iE 67 [(0, .d (Sv (tx l))), (2, .p 2 0), (3, Ba false), (4, .d (.sl ps.length (strsD ps))), (5, Ia z44), (11, .p 11 0), (17, Ba false), (42, Ba true), (64, Ba true)] [(2, [Iv 0, Iv 0, Iv 0]), (11, [Iv z44, Iv ((m : Int)), Iv ((d : Int))])] ?_)))
        refine vc_ret (seq_r (iS (.agg [Iv 0, Iv 0, Iv 0]) (Bv false) [] ?_))
        exact DateP_no l
  · replace hc17 := bt hc17
    refine iT (vc_seqr rfl (iQ 3 (iE 67 [(0, .d (Sv (tx l))), (2, .p 2 0), (3, Ba false), (4, .d (.sl ps.length (strsD ps))), (17, Ba true)] [(2, [Iv 0, Iv 0, Iv 0])] ?_)))
    refine vc_ret (seq_r (iS (.agg [Iv 0, Iv 0, Iv 0]) (Bv false) [] ?_))
    exact DateP_no l

-- numbers between signs
def natsD (ns : List Nat) : List DV := ns.map fun (n : Nat) => DV.v (.int .i64 (n : Int))
@[simp] theorem natsD_len (ns : List Nat) : (natsD ns).length = ns.length := by simp [natsD]
theorem nats_get {ns : List Nat} {i : Nat} {n : Nat} (h : ns[i]? = some n) : (natsD ns)[((i : Nat) : Int).toNat]? = some (.v (.int .i64 (n : Int))) := by simp [natsD, h]
/-- All pieces are numbers of two digits. -/
def AllN (ps : List L8) : Prop := ∀ p ∈ ps, numS 2 2 p = some (nvL p)
def PtP (l : L8) (n : Int) (r : DV) : Prop := ∃ (ns : List Nat) (ok : Bool), r = .tup [.sl ns.length (natsD ns), .v (.bool ok)] ∧ (ok = true → ∃ ps, joinL 58 ps = l ∧ ns = ps.map nvL ∧ (ps.length : Int) = n ∧ AllN ps) ∧ (ok = false → ns = [])
theorem PtP_no (l : L8) (n : Int) : PtP l n (.tup [.sl 0 [], .v (.bool false)]) := ⟨[], false, rfl, (fun h => by cases h), fun _ => rfl⟩
theorem AllN.lt {ps : List L8} (h : AllN ps) : ∀ n ∈ ps.map nvL, n < 100 := by
  intro n hn
  obtain ⟨p, hp, rfl⟩ := List.mem_map.1 hn
  exact numS_lt (lo := 2) (hi := 2) (l := p) (g := true) (.inl ⟨rfl, h p hp⟩)
theorem AllN.take {ps : List L8} {k : Nat} {p : L8} {n : Nat} (h : AllN (ps.take k)) (hp : ps[k]? = some p) (hn : numS 2 2 p = some n) : AllN (ps.take (k + 1)) ∧ n = nvL p ∧ (ps.take (k + 1)).map nvL = (ps.take k).map nvL ++ [n] := by
  obtain ⟨hk, e⟩ := List.getElem?_eq_some_iff.1 hp
  have hv : n = nvL p := by
    unfold numS at hn
    split at hn
    · cases hn; rfl
    · cases hn
  rw [List.take_succ_eq_append_getElem hk, e]
  refine ⟨fun q hq => ?_, hv, by simp [hv]⟩
  rcases List.mem_append.1 hq with hq | hq
  · exact h q hq
  · simp at hq
    subst hq
    rw [hn, hv]
theorem nats_snoc {ns : List Nat} {n : Nat} : natsD ns ++ [.v (.int .i64 (n : Int))] = natsD (ns ++ [n]) := by simp [natsD]

set_option maxHeartbeats 800000 in
theorem c_parts {l : L8} {n : Int} (hL : l.length < 4294967281) : HasC Tryd.prog 66 [.v (.string (tx l)), .v (.int .i64 n)] (PtP l n) := by
  refine HasC.of [] (fn := Tryd.f66) tyOk mixed (fun args w => Tryd.call66 args w) Tryd.func66 rfl (by kernel_rfl) (Nat.le_of_ble_eq_true rfl) (⟨_, PtP_no l n⟩) ?_
  refine vc_seqr rfl (iQ 2 (iE 37 [(0, .d (Sv (tx l))), (1, Ia n), (4, .w (.sl 0 []) none), (5, Ba false)] [] ?_))
  refine vc_seqr rfl (iQ 1 (iC 64 [Sv (tx l), Sv (⟨#[58]⟩)] (some 13) (c_Split (c := 58) (by omega)) ?_))
  rintro _ ⟨ps, rfl, hj, hpl⟩
  refine iQ 1 (iE 37 [(1, Ia n), (4, .w (.sl 0 []) none), (5, Ba false), (6, .d (.sl ps.length (strsD ps)))] [] ?_)
  refine vc_seq (vc_seqr rfl (iQ 3 (iB .neq 3 (.int .i64 (((ps.length : Nat) : Int))) (.int .i64 n) (some 17) ?_)))
  intro c17 hc17
  refine iE 37 [(4, .w (.sl 0 []) none), (5, Ba false), (6, .d (.sl ps.length (strsD ps))), (17, Ba c17)] [] ?_
  cases c17
  · replace hc17 := bf hc17
    refine iF (vc_skip (seq_n (vc_seqr rfl (iQ 1 (iE 37 [(4, .w (.sl 0 []) none), (5, Ba false), (6, .d (.sl ps.length (strsD ps))), (7, .w (.sl 0 []) none), (17, Ba false)] [] ?_)))))
    refine vc_seq (vc_seqr rfl (iQ 3 (iE 37 [(4, .w (.sl 0 []) none), (5, Ba false), (6, .d (.sl ps.length (strsD ps))), (7, .w (.sl 0 []) none), (17, Ba false), (18, .d (.sl ps.length (strsD ps))), (19, Ia (((ps.length : Nat) : Int))), (20, Ia 0)] [] ?_)))
    refine vc_block (vc_loop 37 (fun (vcx : Nat) => match vcx with | k => [(4, .w (.sl 0 []) none), (5, Ba false), (6, .d (.sl ps.length (strsD ps))), (7, .w (.sl (((ps.take k).map nvL).length) (natsD ((ps.take k).map nvL))) (some ⟨7, 0, 3, 1⟩)), (17, Ba false), (18, .d (.sl ps.length (strsD ps))), (19, Ia (((ps.length : Nat) : Int))), (20, Ia ((k : Int)))]) (fun (vcx : Nat) => match vcx with | k => []) (fun (vcx : Nat) => match vcx with | k => k ≤ ps.length ∧ AllN (ps.take k)) (fun (vcx : Nat) => match vcx with | k => ps.length - k) 0 (⟨Nat.zero_le _, fun p hp => by simp at hp⟩) (by kernel_rfl) (by kernel_rfl) ?_)
    rintro k hinv
    simp only at hinv
    obtain ⟨h1, h2⟩ := hinv
    refine vc_seqr rfl (iB .lss 3 (.int .i64 ((k : Int))) (.int .i64 (((ps.length : Nat) : Int))) (some 21) ?_)
    intro c21 hc21
    refine iE 37 [(4, .w (.sl 0 []) none), (5, Ba false), (6, .d (.sl ps.length (strsD ps))), (7, .w (.sl (((ps.take k).map nvL).length) (natsD ((ps.take k).map nvL))) (some ⟨7, 0, 3, 1⟩)), (17, Ba false), (18, .d (.sl ps.length (strsD ps))), (19, Ia (((ps.length : Nat) : Int))), (20, Ia ((k : Int))), (21, Ba c21)] [] ?_
    refine vc_seq ?_
    cases c21
    · replace hc21 := bf hc21
      have hk : k = ps.length := by omega
      refine iF (vc_exit (seq_x (loop_x (block_x rfl (seq_n (vc_seqr rfl (iQ 3 (iE 37 [(4, .w (.sl (((ps.take k).map nvL).length) (natsD ((ps.take k).map nvL))) (some ⟨7, 0, 3, 1⟩)), (5, Ba true), (6, .d (.sl ps.length (strsD ps))), (7, .w (.sl (((ps.take k).map nvL).length) (natsD ((ps.take k).map nvL))) (some ⟨7, 0, 3, 1⟩)), (17, Ba false), (18, .d (.sl ps.length (strsD ps))), (19, Ia (((ps.length : Nat) : Int))), (20, Ia ((k : Int))), (21, Ba false)] [] ?_))))))))
      refine vc_ret (iS (.sl (((ps.take k).map nvL).length) (natsD ((ps.take k).map nvL))) (Bv true) [] ?_)
      subst hk; rw [List.take_length] at h2 ⊢; exact ⟨_, true, rfl, fun _ => ⟨ps, hj, rfl, by omega, h2⟩, fun h => by cases h⟩
    · replace hc21 := bt hc21
      have hlt : k < ps.length := by omega
      obtain ⟨p, hp⟩ : ∃ p, ps[k]? = some p := ⟨_, List.getElem?_eq_getElem hlt⟩
      refine iT (vc_skip (seq_n (vc_seq (vc_block (vc_seqr rfl (vcI_idx1 (q := ((k : Int))) (n := ps.length) (cs := (strsD ps)) (d := .v (.string (tx p))) (dst := (some 22)) (by kernel_rfl) (by omega) (strs_get hp) ?_))))))
      refine iQ 2 (iE 37 [(4, .w (.sl 0 []) none), (5, Ba false), (6, .d (.sl ps.length (strsD ps))), (7, .w (.sl (((ps.take k).map nvL).length) (natsD ((ps.take k).map nvL))) (some ⟨7, 0, 3, 1⟩)), (9, .d (Sv (tx p))), (17, Ba false), (18, .d (.sl ps.length (strsD ps))), (19, Ia (((ps.length : Nat) : Int))), (20, Ia ((k : Int))), (21, Ba true)] [] ?_)
      refine vc_seqr rfl (iQ 1 (iC 65 [Sv (tx p), Iv 2, Iv 2] (some 26) (c_number (l := p) (lo := 2) (hi := 2) (by decide)) ?_))
      rintro _ ⟨z, g, rfl, hz⟩
      refine iQ 5 (iE 37 [(4, .w (.sl 0 []) none), (5, Ba false), (6, .d (.sl ps.length (strsD ps))), (7, .w (.sl (((ps.take k).map nvL).length) (natsD ((ps.take k).map nvL))) (some ⟨7, 0, 3, 1⟩)), (9, .d (Sv (tx p))), (10, Ia ((z : Int))), (11, Ba g), (17, Ba false), (18, .d (.sl ps.length (strsD ps))), (19, Ia (((ps.length : Nat) : Int))), (20, Ia ((k : Int))), (21, Ba true)] [] ?_)
      refine vc_seq (vc_seqr rfl (iQ 1 (iU .not (.bool g) (some 30) ?_)))
      intro c30 hc30
      refine iE 37 [(4, .w (.sl 0 []) none), (5, Ba false), (6, .d (.sl ps.length (strsD ps))), (7, .w (.sl (((ps.take k).map nvL).length) (natsD ((ps.take k).map nvL))) (some ⟨7, 0, 3, 1⟩)), (9, .d (Sv (tx p))), (10, Ia ((z : Int))), (11, Ba g), (17, Ba false), (18, .d (.sl ps.length (strsD ps))), (19, Ia (((ps.length : Nat) : Int))), (20, Ia ((k : Int))), (21, Ba true), (30, Ba c30)] [] ?_
      cases c30
      · replace hc30 := bf hc30
        have hz1 : numS 2 2 p = some z := or_t hz hc30
        obtain ⟨q1, q2, q3⟩ := h2.take hp hz1
        refine iF (vc_skip (seq_n (vc_reg rfl (iQ 3 (vcI_app (n := (((ps.take k).map nvL).length)) (cs := (natsD ((ps.take k).map nvL))) (m := 1) (ds := [.v (.int .i64 ((z : Int)))]) (N := (((ps.take (k + 1)).map nvL).length)) (es := (natsD ((ps.take (k + 1)).map nvL))) (j := 7) (e := 3) (z := 1) (dst := (some 34)) (by kernel_rfl) (by first | rfl | omega | (rw [Nat.mul_one]; exact dg_len _) | (simp [dg]; done) | (simp [dg]; omega)) (by first | rfl | omega | (rw [Nat.mul_one]; exact dg_len _) | (simp [dg]; done) | (simp [dg]; omega)) (rfl) (by simp; omega) (by simp [hlt]; omega) (by rw [q3]; exact nats_snoc) ?_)))))
        refine iQ 1 (iE 37 [(4, .w (.sl 0 []) none), (5, Ba false), (6, .d (.sl ps.length (strsD ps))), (7, .w (.sl (((ps.take (k + 1)).map nvL).length) (natsD ((ps.take (k + 1)).map nvL))) (some ⟨7, 0, 3, 1⟩)), (9, .d (Sv (tx p))), (10, Ia ((z : Int))), (11, Ba g), (17, Ba false), (18, .d (.sl ps.length (strsD ps))), (19, Ia (((ps.length : Nat) : Int))), (20, Ia ((k : Int))), (21, Ba true), (30, Ba false)] [] ?_)
        refine block_n (seq_n (vc_reg rfl (iB .add 3 (.int .i64 ((k : Int))) (.int .i64 1) (some 35) ?_)))
        intro z35 hz35
        try replace hz35 := hz35.i64 (by omega)
        refine iQ 1 (iE 37 [(4, .w (.sl 0 []) none), (5, Ba false), (6, .d (.sl ps.length (strsD ps))), (7, .w (.sl (((ps.take (k + 1)).map nvL).length) (natsD ((ps.take (k + 1)).map nvL))) (some ⟨7, 0, 3, 1⟩)), (9, .d (Sv (tx p))), (10, Ia ((z : Int))), (11, Ba g), (17, Ba false), (18, .d (.sl ps.length (strsD ps))), (19, Ia (((ps.length : Nat) : Int))), (20, Ia z35), (21, Ba true), (30, Ba false)] [] ?_)
        obtain rfl : z35 = ((k + 1 : Nat) : Int) := by omega
        refine loop_n (k + 1) (⟨by omega, q1⟩) (by show ps.length - (k + 1) < ps.length - k; omega) (by kernel_rfl) (by kernel_rfl)
      · replace hc30 := bt hc30
        refine iT (vc_seqr rfl (iQ 2 (iE 37 [(4, .w (.sl 0 []) none), (5, Ba false), (6, .d (.sl ps.length (strsD ps))), (7, .w (.sl (((ps.take k).map nvL).length) (natsD ((ps.take k).map nvL))) (some ⟨7, 0, 3, 1⟩)), (9, .d (Sv (tx p))), (10, Ia ((z : Int))), (11, Ba g), (17, Ba false), (18, .d (.sl ps.length (strsD ps))), (19, Ia (((ps.length : Nat) : Int))), (20, Ia ((k : Int))), (21, Ba true), (30, Ba true)] [] ?_)))
        refine vc_ret (seq_r (block_r (seq_r (loop_r (block_r (seq_r (iS (.sl 0 []) (Bv false) [] ?_)))))))
        exact PtP_no l n
  · replace hc17 := bt hc17
    refine iT (vc_seqr rfl (iQ 2 (iE 37 [(4, .w (.sl 0 []) none), (5, Ba false), (6, .d (.sl ps.length (strsD ps))), (17, Ba true)] [] ?_)))
    refine vc_ret (seq_r (iS (.sl 0 []) (Bv false) [] ?_))
    exact PtP_no l n
theorem c_partsE {l : L8} {s : ByteArray} {n : Int} (hs : s = tx l) (hL : l.length < 4294967281) : HasC Tryd.prog 66 [.v (.string s), .v (.int .i64 n)] (PtP l n) := by subst hs; exact c_parts hL


open Go.RowKit
set_option linter.unusedVariables false
set_option linter.unusedSimpArgs false
set_option maxRecDepth 100000

theorem pad_nv {p : L8} (h : numS 2 2 p = some (nvL p)) : padL (nvL p : Int) 2 = p ∧ nvL p < 100 := by
  have hlt : nvL p < 100 := numS_lt (lo := 2) (hi := 2) (l := p) (g := true) (.inl ⟨rfl, h⟩)
  refine ⟨?_, hlt⟩
  unfold numS at h
  split at h
  · rename_i hc
    match p, hc with
    | [x, y], hc =>
      simp only [List.all_cons, List.all_nil, Bool.and_true, Bool.and_eq_true] at hc
      have h1 := isDg_iff.1 hc.2.2.1
      have h2 := isDg_iff.1 hc.2.2.2
      have hv : nvL [x, y] = (x.toNat - 48) * 10 + (y.toNat - 48) := by simp [nvL, nvA]
      rw [padL_dw (by omega) (by omega) (by decide), Int.toNat_natCast]
      simp only [dwL, List.nil_append, List.singleton_append, List.cons_append]
      have a1 : UInt8.ofNat (48 + nvL [x, y] / 10 % 10) = x := UInt8.toNat_inj.1 (by rw [UInt8.toNat_ofNat']; omega)
      have a2 : UInt8.ofNat (48 + nvL [x, y] % 10) = y := UInt8.toNat_inj.1 (by rw [UInt8.toNat_ofNat']; omega)
      rw [a1, a2]
    | [], hc => simp at hc
    | [x], hc => simp at hc
    | x :: y :: z :: r, hc => simp at hc
  · cases h
def TimeP (l : L8) (r : DV) : Prop := ∃ (s : Int) (z : Bool) (o : Int) (ok : Bool), r = .tup [.agg [.v (.int .i64 s), .v (.bool z), .v (.int .i64 o)], .v (.bool ok)] ∧ (ok = true ∧ mayT s z o ∧ l = timeL s z o ∨ ok = false ∧ s = 0 ∧ z = false ∧ o = 0)
theorem TimeP_no (l : L8) : TimeP l (.tup [.agg [.v (.int .i64 0), .v (.bool false), .v (.int .i64 0)], .v (.bool false)]) := ⟨0, false, 0, false, rfl, .inr ⟨rfl, rfl, rfl, rfl⟩⟩
theorem TimeP_yes {s o : Int} {z : Bool} {l : L8} (h : tx (timeT s z o) = tx l) (h0 : l ≠ []) : TimeP l (.tup [.agg [.v (.int .i64 s), .v (.bool z), .v (.int .i64 o)], .v (.bool true)]) := by
  have h1 := tx_inj h
  unfold timeT at h1
  split at h1
  · rename_i hm
    exact ⟨s, z, o, true, rfl, .inl ⟨rfl, hm, h1.symm⟩⟩
  · exact absurd h1.symm h0
def OfP (h m s : Nat) (r : DV) : Prop := ∃ (x : Int) (ok : Bool), r = .tup [.agg [.v (.int .i64 x), .v (.bool false), .v (.int .i64 0)], .v (.bool ok)] ∧ (ok = true ∧ (h ≤ 23 ∧ m ≤ 59 ∧ s ≤ 59 ∧ x = 3600 * (h : Int) + 60 * (m : Int) + (s : Int)) ∨ ok = false ∧ x = 0)
theorem c_Of {h m s : Nat} (h1 : h < 100) (h2 : m < 100) (h3 : s < 100) : HasC Tryd.prog 67 [.v (.int .i64 ((h : Int))), .v (.int .i64 ((m : Int))), .v (.int .i64 ((s : Int)))] (OfP h m s) := by
  refine HasC.of [] (fn := Tryd.f67) tyOk mixed (fun args w => Tryd.call67 args w) Tryd.func67 rfl (by kernel_rfl) (Nat.le_of_ble_eq_true rfl) (by by_cases k : h ≤ 23 ∧ m ≤ 59 ∧ s ≤ 59; exact ⟨_, _, true, rfl, .inl ⟨rfl, k.1, k.2.1, k.2.2, rfl⟩⟩; exact ⟨_, 0, false, rfl, .inr ⟨rfl, rfl⟩⟩) ?_
  refine vc_seqr rfl (iQ 2 (iE 39 [(0, Ia ((h : Int))), (1, Ia ((m : Int))), (2, Ia ((s : Int))), (6, .p 6 0), (7, Ba false)] [(6, [Iv 0, Bv false, Iv 0])] ?_))
  refine vc_seq (vc_seqr rfl (iQ 1 (iB .lss 3 (.int .i64 ((h : Int))) (.int .i64 0) (some 9) ?_)))
  intro c9 hc9
  refine iQ 1 ?_
  cases c9
  · replace hc9 := bf hc9
    refine iQ 1 (iB .gtr 3 (.int .i64 ((h : Int))) (.int .i64 23) (some 12) ?_)
    intro c12 hc12
    refine iQ 2 ?_
    cases c12
    · replace hc12 := bf hc12
      refine iQ 1 (iB .lss 3 (.int .i64 ((m : Int))) (.int .i64 0) (some 16) ?_)
      intro c16 hc16
      refine iQ 2 ?_
      cases c16
      · replace hc16 := bf hc16
        refine iQ 1 (iB .gtr 3 (.int .i64 ((m : Int))) (.int .i64 59) (some 20) ?_)
        intro c20 hc20
        refine iQ 2 ?_
        cases c20
        · replace hc20 := bf hc20
          refine iQ 1 (iB .lss 3 (.int .i64 ((s : Int))) (.int .i64 0) (some 24) ?_)
          intro c24 hc24
          refine iQ 2 ?_
          cases c24
          · replace hc24 := bf hc24
            refine iQ 1 (iB .gtr 3 (.int .i64 ((s : Int))) (.int .i64 59) (some 28) ?_)
            intro c28 hc28
            refine iQ 1 (iE 39 [(0, Ia ((h : Int))), (1, Ia ((m : Int))), (2, Ia ((s : Int))), (6, .p 6 0), (7, Ba false), (29, Ba c28)] [(6, [Iv 0, Bv false, Iv 0])] ?_)
            cases c28
            · replace hc28 := bf hc28
              refine iF (vc_skip (seq_n (vc_seqr rfl (iQ 1 (iB .mul 3 (.int .i64 3600) (.int .i64 ((h : Int))) (some 32) ?_)))))
              intro z32 hz32
              try replace hz32 := hz32.i64 (by omega)
              refine iQ 1 (iB .mul 3 (.int .i64 60) (.int .i64 ((m : Int))) (some 34) ?_)
              intro z34 hz34
              try replace hz34 := hz34.i64 (by omega)
              refine iB .add 3 (.int .i64 z32) (.int .i64 z34) (some 35) ?_
              intro z35 hz35
              try replace hz35 := hz35.i64 (by omega)
              refine iQ 1 (iB .add 3 (.int .i64 z35) (.int .i64 ((s : Int))) (some 37) ?_)
              intro z37 hz37
              try replace hz37 := hz37.i64 (by omega)
              refine iQ 3 (iE 39 [(0, Ia ((h : Int))), (1, Ia ((m : Int))), (2, Ia ((s : Int))), (6, .p 6 0), (7, Ba true), (29, Ba false)] [(6, [Iv z37, Bv false, Iv 0])] ?_)
              refine vc_ret (iS (.agg [Iv z37, Bv false, Iv 0]) (Bv true) [] ?_)
              exact ⟨_, true, rfl, .inl ⟨rfl, by omega, by omega, by omega, by omega⟩⟩
            · replace hc28 := bt hc28
              refine iT (vc_seqr rfl (iQ 3 (iE 39 [(0, Ia ((h : Int))), (1, Ia ((m : Int))), (2, Ia ((s : Int))), (6, .p 6 0), (7, Ba false), (29, Ba true)] [(6, [Iv 0, Bv false, Iv 0])] ?_)))
              refine vc_ret (seq_r (iS (.agg [Iv 0, Bv false, Iv 0]) (Bv false) [] ?_))
              exact ⟨0, false, rfl, .inr ⟨rfl, rfl⟩⟩
          · replace hc24 := bt hc24
            refine iQ 3 (iE 39 [(0, Ia ((h : Int))), (1, Ia ((m : Int))), (2, Ia ((s : Int))), (6, .p 6 0), (7, Ba false), (29, Ba true)] [(6, [Iv 0, Bv false, Iv 0])] ?_)
            refine iT (vc_seqr rfl (iQ 3 (iE 39 [(0, Ia ((h : Int))), (1, Ia ((m : Int))), (2, Ia ((s : Int))), (6, .p 6 0), (7, Ba false), (29, Ba true)] [(6, [Iv 0, Bv false, Iv 0])] ?_)))
            refine vc_ret (seq_r (iS (.agg [Iv 0, Bv false, Iv 0]) (Bv false) [] ?_))
            exact ⟨0, false, rfl, .inr ⟨rfl, rfl⟩⟩
        · replace hc20 := bt hc20
          refine iQ 7 (iE 39 [(0, Ia ((h : Int))), (1, Ia ((m : Int))), (2, Ia ((s : Int))), (6, .p 6 0), (7, Ba false), (29, Ba true)] [(6, [Iv 0, Bv false, Iv 0])] ?_)
          refine iT (vc_seqr rfl (iQ 3 (iE 39 [(0, Ia ((h : Int))), (1, Ia ((m : Int))), (2, Ia ((s : Int))), (6, .p 6 0), (7, Ba false), (29, Ba true)] [(6, [Iv 0, Bv false, Iv 0])] ?_)))
          refine vc_ret (seq_r (iS (.agg [Iv 0, Bv false, Iv 0]) (Bv false) [] ?_))
          exact ⟨0, false, rfl, .inr ⟨rfl, rfl⟩⟩
      · replace hc16 := bt hc16
        refine iQ 11 (iE 39 [(0, Ia ((h : Int))), (1, Ia ((m : Int))), (2, Ia ((s : Int))), (6, .p 6 0), (7, Ba false), (29, Ba true)] [(6, [Iv 0, Bv false, Iv 0])] ?_)
        refine iT (vc_seqr rfl (iQ 3 (iE 39 [(0, Ia ((h : Int))), (1, Ia ((m : Int))), (2, Ia ((s : Int))), (6, .p 6 0), (7, Ba false), (29, Ba true)] [(6, [Iv 0, Bv false, Iv 0])] ?_)))
        refine vc_ret (seq_r (iS (.agg [Iv 0, Bv false, Iv 0]) (Bv false) [] ?_))
        exact ⟨0, false, rfl, .inr ⟨rfl, rfl⟩⟩
    · replace hc12 := bt hc12
      refine iQ 15 (iE 39 [(0, Ia ((h : Int))), (1, Ia ((m : Int))), (2, Ia ((s : Int))), (6, .p 6 0), (7, Ba false), (29, Ba true)] [(6, [Iv 0, Bv false, Iv 0])] ?_)
      refine iT (vc_seqr rfl (iQ 3 (iE 39 [(0, Ia ((h : Int))), (1, Ia ((m : Int))), (2, Ia ((s : Int))), (6, .p 6 0), (7, Ba false), (29, Ba true)] [(6, [Iv 0, Bv false, Iv 0])] ?_)))
      refine vc_ret (seq_r (iS (.agg [Iv 0, Bv false, Iv 0]) (Bv false) [] ?_))
      exact ⟨0, false, rfl, .inr ⟨rfl, rfl⟩⟩
  · replace hc9 := bt hc9
    refine iQ 19 (iE 39 [(0, Ia ((h : Int))), (1, Ia ((m : Int))), (2, Ia ((s : Int))), (6, .p 6 0), (7, Ba false), (29, Ba true)] [(6, [Iv 0, Bv false, Iv 0])] ?_)
    refine iT (vc_seqr rfl (iQ 3 (iE 39 [(0, Ia ((h : Int))), (1, Ia ((m : Int))), (2, Ia ((s : Int))), (6, .p 6 0), (7, Ba false), (29, Ba true)] [(6, [Iv 0, Bv false, Iv 0])] ?_)))
    refine vc_ret (seq_r (iS (.agg [Iv 0, Bv false, Iv 0]) (Bv false) [] ?_))
    exact ⟨0, false, rfl, .inr ⟨rfl, rfl⟩⟩
def AtP (s o : Int) (r : DV) : Prop := ∃ (s' : Int) (z' : Bool) (o' : Int) (ok : Bool), r = .tup [.agg [.v (.int .i64 s'), .v (.bool z'), .v (.int .i64 o')], .v (.bool ok)] ∧ (ok = true ∧ (mayT s true o ∧ s' = s ∧ z' = true ∧ o' = o) ∨ ok = false ∧ s' = 0 ∧ z' = false ∧ o' = 0)
theorem c_At {s o0 o : Int} {z : Bool} : HasC Tryd.prog 68 [.agg [.v (.int .i64 s), .v (.bool z), .v (.int .i64 o0)], .v (.int .i64 o)] (AtP s o) := by
  refine HasC.of [] (fn := Tryd.f68) tyOk mixed (fun args w => Tryd.call68 args w) Tryd.func68 rfl (by kernel_rfl) (Nat.le_of_ble_eq_true rfl) (by by_cases k : mayT s true o; exact ⟨_, s, true, o, true, rfl, .inl ⟨rfl, k, rfl, rfl, rfl⟩⟩; exact ⟨_, 0, false, 0, false, rfl, .inr ⟨rfl, rfl, rfl, rfl⟩⟩) ?_
  refine vc_seqr rfl (iQ 3 (iE 14 [(1, Ia o), (2, .p 2 0), (4, .p 4 0), (5, Ba false)] [(2, [Iv s, Bv z, Iv o0]), (4, [Iv 0, Bv false, Iv 0])] ?_))
  refine vc_seqr rfl (iQ 5 (iE 14 [(2, .p 2 0), (4, .p 4 0), (5, Ba false)] [(2, [Iv s, Bv true, Iv o]), (4, [Iv 0, Bv false, Iv 0])] ?_))
  refine vc_seq (vc_seqr rfl (iQ 1 (iC 28 [.agg [Iv s, Bv true, Iv o]] (some 10) (c_TMay (s := s) (z := true) (o := o)) ?_)))
  rintro _ ⟨b, rfl, hb⟩
  refine iU .not (.bool b) (some 11) ?_
  intro c11 hc11
  refine iE 14 [(2, .p 2 0), (4, .p 4 0), (5, Ba false), (11, Ba c11)] [(2, [Iv s, Bv true, Iv o]), (4, [Iv 0, Bv false, Iv 0])] ?_
  cases c11
  · replace hc11 := bf hc11
    refine iF (vc_skip (seq_n (vc_seqr rfl (iQ 3 (iE 14 [(2, .p 2 0), (4, .p 4 0), (5, Ba true), (11, Ba false)] [(2, [Iv s, Bv true, Iv o]), (4, [Iv s, Bv true, Iv o])] ?_)))))
    refine vc_ret (iS (.agg [Iv s, Bv true, Iv o]) (Bv true) [] ?_)
    exact ⟨s, true, o, true, rfl, .inl ⟨rfl, hb.1 (by simpa using hc11), rfl, rfl, rfl⟩⟩
  · replace hc11 := bt hc11
    refine iT (vc_seqr rfl (iQ 3 (iE 14 [(2, .p 2 0), (4, .p 4 0), (5, Ba false), (11, Ba true)] [(2, [Iv s, Bv true, Iv o]), (4, [Iv 0, Bv false, Iv 0])] ?_)))
    refine vc_ret (seq_r (iS (.agg [Iv 0, Bv false, Iv 0]) (Bv false) [] ?_))
    exact ⟨0, false, 0, false, rfl, .inr ⟨rfl, rfl, rfl, rfl⟩⟩
/-- The text of an hour, a minute, a second. -/
theorem hms {l a b d : L8} {ps : List L8} {x : Int} (hl : l.take 8 = a ++ 58 :: (b ++ 58 :: d)) (hp : ps = [a, b, d]) (hN : AllN ps) (h : nvL a ≤ 23 ∧ nvL b ≤ 59 ∧ nvL d ≤ 59 ∧ x = 3600 * (nvL a : Int) + 60 * (nvL b : Int) + (nvL d : Int)) :
    0 ≤ x ∧ x < 86400 ∧ ∀ z o, timeL x z o = l.take 8 ++ zoneL z o := by
  have ha := pad_nv (hN a (by rw [hp]; simp))
  have hb := pad_nv (hN b (by rw [hp]; simp))
  have hd := pad_nv (hN d (by rw [hp]; simp))
  refine ⟨by omega, by omega, fun z o => ?_⟩
  rw [timeL, show x / 3600 = (nvL a : Int) by omega, show x % 3600 / 60 = (nvL b : Int) by omega, show x % 60 = (nvL d : Int) by omega, ha.1, hb.1, hd.1, hl]
  simp
theorem c_CountE {l : L8} {s : ByteArray} (hs : s = tx l) (hl : l.length < 4294967281) : HasC Tryd.prog 69 [.v (.string s), .v (.string ⟨#[58]⟩)] (fun y => ∃ n : Nat, y = .v (.int .i64 (n : Int)) ∧ n ≤ l.length) := by subst hs; exact c_Count (c := 58) hl
theorem eq_tx {l : L8} {s : ByteArray} {r : L8} (hs : s = tx l) : s = tx r ↔ l = r := by rw [hs, tx_iff]
theorem drop_tx {l : L8} {s : ByteArray} {k : Nat} (hs : s = (tx l).extract k (tx l).size) : s = tx (l.drop k) := by
  rw [hs, tx_extract, tx_size, List.take_of_length_le (by rw [List.length_drop]; exact Nat.le_refl _)]
theorem drop_txE {l : L8} {s t : ByteArray} (ht : t = tx l) (hs : s = t.extract 1 t.size) : s = tx (l.drop 1) := by subst ht; exact drop_tx hs

set_option maxHeartbeats 1600000 in
theorem c_ReadTime {l : L8} (hL : l.length < 4294967281) : HasC Tryd.prog 33 [.v (.string (tx l))] (TimeP l) := by
  refine HasC.of [] (fn := Tryd.f33) tyOk mixed (fun args w => Tryd.call33 args w) Tryd.func33 rfl (by kernel_rfl) (Nat.le_of_ble_eq_true rfl) (⟨_, TimeP_no l⟩) ?_
  refine vc_seqr rfl (iQ 2 (iE 108 [(0, .d (Sv (tx l))), (2, .p 2 0), (3, Ba false)] [(2, [Iv 0, Bv false, Iv 0])] ?_))
  refine vc_seq (vc_seqr rfl (iQ 1 (iL .len [9] [.string (tx l)] (some 11) ?_)))
  intro n11 hn11
  have e11 : n11 = l.length := by rw [hn11]; exact tx_size l
  refine iB .lss 3 (.int .i64 ((n11 : Nat))) (.int .i64 8) (some 12) ?_
  intro c12 hc12
  refine iE 108 [(0, .d (Sv (tx l))), (2, .p 2 0), (3, Ba false), (12, Ba c12)] [(2, [Iv 0, Bv false, Iv 0])] ?_
  cases c12
  · replace hc12 := bf hc12
    have h0 : l ≠ [] := fun e => by rw [e] at e11; simp at e11; omega
    refine iF (vc_skip (seq_n (vc_seqr rfl (iQ 1 (iY 9 (tx l) (0) (8) (some 16) ?_)))))
    refine And.intro (by rw [tx_size]; omega) ?_
    intro s16 hs16
    have e16 : s16 = tx (l.take 8) := by rw [hs16, tx_extract]; simp
    refine iC 66 [Sv s16, Iv 3] (some 17) (c_partsE (n := 3) e16 (by rw [List.length_take]; omega)) ?_
    rintro _ ⟨ns, g, rfl, hg, hg2⟩
    refine iQ 5 (iE 108 [(0, .d (Sv (tx l))), (2, .p 2 0), (3, Ba false), (4, .d (.sl ((ns).length) (natsD (ns)))), (5, Ba g), (12, Ba false)] [(2, [Iv 0, Bv false, Iv 0])] ?_)
    refine vc_seq (vc_seqr rfl (iQ 1 (iU .not (.bool g) (some 21) ?_)))
    intro c21 hc21
    refine iE 108 [(0, .d (Sv (tx l))), (2, .p 2 0), (3, Ba false), (4, .d (.sl ((ns).length) (natsD (ns)))), (5, Ba g), (12, Ba false), (21, Ba c21)] [(2, [Iv 0, Bv false, Iv 0])] ?_
    cases c21
    · replace hc21 := bf hc21
      obtain ⟨ps, j1, j2, j3, j4⟩ := hg (by simpa using hc21)
      obtain ⟨p0, p1, p2, hps, h8⟩ := join3 j1 (by omega)
      have n0 : ns[0]? = some (nvL p0) := by rw [j2, hps]; rfl
      have n1 : ns[1]? = some (nvL p1) := by rw [j2, hps]; rfl
      have n2 : ns[2]? = some (nvL p2) := by rw [j2, hps]; rfl
      have nl : ns.length = 3 := by rw [j2, hps]; rfl
      have w0 := (pad_nv (j4 p0 (by rw [hps]; simp))).2
      have w1 := (pad_nv (j4 p1 (by rw [hps]; simp))).2
      have w2 := (pad_nv (j4 p2 (by rw [hps]; simp))).2
      refine iF (vc_skip (seq_n (vc_seqr rfl (iQ 1 (vcI_idx1 (q := 0) (n := ((ns).length)) (cs := (natsD (ns))) (d := .v (.int .i64 ((nvL p0 : Int)))) (dst := (some 25)) (by kernel_rfl) (by omega) (nats_get (i := 0) n0) ?_)))))
      refine iQ 2 (vcI_idx1 (q := 1) (n := ((ns).length)) (cs := (natsD (ns))) (d := .v (.int .i64 ((nvL p1 : Int)))) (dst := (some 28)) (by kernel_rfl) (by omega) (nats_get (i := 1) n1) ?_)
      refine iQ 2 (vcI_idx1 (q := 2) (n := ((ns).length)) (cs := (natsD (ns))) (d := .v (.int .i64 ((nvL p2 : Int)))) (dst := (some 31)) (by kernel_rfl) (by omega) (nats_get (i := 2) n2) ?_)
      refine iQ 1 (iC 67 [Iv ((nvL p0 : Int)), Iv ((nvL p1 : Int)), Iv ((nvL p2 : Int))] (some 33) (c_Of w0 w1 w2) ?_)
      rintro _ ⟨x, g2, rfl, hx⟩
      refine iQ 6 (iE 108 [(0, .d (Sv (tx l))), (2, .p 2 0), (3, Ba false), (5, Ba g2), (6, .p 6 0), (12, Ba false), (21, Ba false)] [(2, [Iv 0, Bv false, Iv 0]), (6, [Iv x, Bv false, Iv 0])] ?_)
      refine vc_seqr rfl (iQ 1 (iY 9 (tx l) (8) (((tx l : ByteArray).size : Int)) (some 37) ?_))
      refine And.intro (by rw [tx_size]; omega) ?_
      intro s37 hs37
      have e37 : s37 = tx (l.drop 8) := drop_tx hs37
      refine iQ 1 (iE 108 [(0, .d (Sv (tx l))), (2, .p 2 0), (3, Ba false), (5, Ba g2), (6, .p 6 0), (7, .d (Sv s37)), (12, Ba false), (21, Ba false)] [(2, [Iv 0, Bv false, Iv 0]), (6, [Iv x, Bv false, Iv 0])] ?_)
      refine vc_seq (vc_block (vc_seqr rfl (iQ 1 (iU .not (.bool g2) (some 40) ?_))))
      intro c40 hc40
      refine iQ 1 (iE 108 [(0, .d (Sv (tx l))), (2, .p 2 0), (3, Ba false), (5, Ba g2), (6, .p 6 0), (7, .d (Sv s37)), (12, Ba false), (21, Ba false), (38, Ba c40)] [(2, [Iv 0, Bv false, Iv 0]), (6, [Iv x, Bv false, Iv 0])] ?_)
      cases c40
      · replace hc40 := bf hc40
        obtain ⟨x0, x1, hT⟩ := hms h8 hps j4 (or_t hx hc40)
        refine iF (vc_seqr rfl (iQ 1 (iB .eql 9 (.string s37) (.string (⟨#[]⟩)) (some 44) ?_)))
        intro c44 hc44
        refine iQ 1 (iE 108 [(0, .d (Sv (tx l))), (2, .p 2 0), (3, Ba false), (5, Ba g2), (6, .p 6 0), (7, .d (Sv s37)), (12, Ba false), (21, Ba false), (38, Ba false), (42, Ba c44)] [(2, [Iv 0, Bv false, Iv 0]), (6, [Iv x, Bv false, Iv 0])] ?_)
        cases c44
        · replace hc44 := bf hc44
          have hd : l.drop 8 ≠ [] := fun e => hc44 ((eq_tx (r := []) e37).2 e)
          have hdl : 8 < l.length := by have := List.length_pos_iff.2 hd; rw [List.length_drop] at this; omega
          have hdd : (l.drop 8).length = l.length - 8 := List.length_drop
          refine iF (vc_seqr rfl (iQ 1 (iB .eql 9 (.string s37) (.string (⟨#[90]⟩)) (some 48) ?_)))
          intro c48 hc48
          refine iQ 1 (iE 108 [(0, .d (Sv (tx l))), (2, .p 2 0), (3, Ba false), (5, Ba g2), (6, .p 6 0), (7, .d (Sv s37)), (12, Ba false), (21, Ba false), (38, Ba false), (42, Ba false), (46, Ba c48)] [(2, [Iv 0, Bv false, Iv 0]), (6, [Iv x, Bv false, Iv 0])] ?_)
          cases c48
          · replace hc48 := bf hc48
            refine iF (vc_skip (block_n (seq_n (vc_seqr rfl (iQ 1 (iY 9 (s37) (1) (((s37 : ByteArray).size : Int)) (some 55) ?_))))))
            refine And.intro (by rw [e37, tx_size]; omega) ?_
            intro s55 hs55
            have e55 : s55 = tx ((l.drop 8).drop 1) := drop_txE e37 hs55
            refine iQ 1 (iC 69 [Sv s37, Sv (⟨#[58]⟩)] (some 57) (c_CountE e37 (by omega)) ?_)
            rintro _ ⟨kc, rfl, hkc⟩
            refine iB .add 3 (.int .i64 ((kc : Int))) (.int .i64 1) (some 58) ?_
            intro z58 hz58
            try replace hz58 := hz58.i64 (by omega)
            refine iC 66 [Sv s55, Iv z58] (some 59) (c_partsE (n := z58) e55 (by rw [List.length_drop]; omega)) ?_
            rintro _ ⟨ns2, g4, rfl, hg4, hg5⟩
            refine iQ 5 (iE 108 [(0, .d (Sv (tx l))), (2, .p 2 0), (3, Ba false), (5, Ba g4), (6, .p 6 0), (7, .d (Sv s37)), (8, .d (.sl ((ns2).length) (natsD (ns2)))), (12, Ba false), (21, Ba false), (38, Ba false), (42, Ba false), (46, Ba false)] [(2, [Iv 0, Bv false, Iv 0]), (6, [Iv x, Bv false, Iv 0])] ?_)
            refine vc_seq (vc_seqr rfl (iQ 1 (iU .not (.bool g4) (some 63) ?_)))
            intro c63 hc63
            refine iQ 1 ?_
            cases c63
            · replace hc63 := bf hc63
              refine iQ 2 (iB .lss 3 (.int .i64 ((((ns2).length : Nat) : Int))) (.int .i64 2) (some 67) ?_)
              obtain ⟨ps2, i1, i2, i3, i4⟩ := hg4 (by simpa using hc63)
              have hlt2 := i4.lt
              rw [← i2] at hlt2
              intro c67 hc67
              refine iQ 1 (iE 108 [(0, .d (Sv (tx l))), (2, .p 2 0), (3, Ba false), (5, Ba g4), (6, .p 6 0), (7, .d (Sv s37)), (8, .d (.sl ((ns2).length) (natsD (ns2)))), (12, Ba false), (21, Ba false), (38, Ba false), (42, Ba false), (46, Ba false), (68, Ba c67)] [(2, [Iv 0, Bv false, Iv 0]), (6, [Iv x, Bv false, Iv 0])] ?_)
              cases c67
              · replace hc67 := bf hc67
                obtain ⟨q0, hq0⟩ : ∃ q, ns2[0]? = some q := ⟨_, List.getElem?_eq_getElem (by omega)⟩
                obtain ⟨q1, hq1⟩ : ∃ q, ns2[1]? = some q := ⟨_, List.getElem?_eq_getElem (by omega)⟩
                have b0 := hlt2 _ (List.mem_of_getElem? hq0)
                have b1 := hlt2 _ (List.mem_of_getElem? hq1)
                refine iF (vc_skip (seq_n (vc_seqr rfl (iQ 1 (vcI_idx1 (q := 0) (n := ((ns2).length)) (cs := (natsD (ns2))) (d := .v (.int .i64 ((q0 : Int)))) (dst := (some 71)) (by kernel_rfl) (by omega) (nats_get (i := 0) hq0) ?_)))))
                refine iQ 1 (iB .mul 3 (.int .i64 3600) (.int .i64 ((q0 : Int))) (some 73) ?_)
                intro z73 hz73
                try replace hz73 := hz73.i64 (by omega)
                refine iQ 1 (vcI_idx1 (q := 1) (n := ((ns2).length)) (cs := (natsD (ns2))) (d := .v (.int .i64 ((q1 : Int)))) (dst := (some 75)) (by kernel_rfl) (by omega) (nats_get (i := 1) hq1) ?_)
                refine iQ 1 (iB .mul 3 (.int .i64 60) (.int .i64 ((q1 : Int))) (some 77) ?_)
                intro z77 hz77
                try replace hz77 := hz77.i64 (by omega)
                refine iB .add 3 (.int .i64 z73) (.int .i64 z77) (some 78) ?_
                intro z78 hz78
                try replace hz78 := hz78.i64 (by omega)
                refine iQ 1 (iE 108 [(0, .d (Sv (tx l))), (2, .p 2 0), (3, Ba false), (5, Ba g4), (6, .p 6 0), (7, .d (Sv s37)), (8, .d (.sl ((ns2).length) (natsD (ns2)))), (9, Ia z78), (12, Ba false), (21, Ba false), (38, Ba false), (42, Ba false), (46, Ba false), (68, Ba false)] [(2, [Iv 0, Bv false, Iv 0]), (6, [Iv x, Bv false, Iv 0])] ?_)
                refine vc_seq (vc_seqr rfl (iQ 2 (iB .gtr 3 (.int .i64 ((((ns2).length : Nat) : Int))) (.int .i64 2) (some 81) ?_)))
                intro c81 hc81
                refine iE 108 [(0, .d (Sv (tx l))), (2, .p 2 0), (3, Ba false), (5, Ba g4), (6, .p 6 0), (7, .d (Sv s37)), (8, .d (.sl ((ns2).length) (natsD (ns2)))), (9, Ia z78), (12, Ba false), (21, Ba false), (38, Ba false), (42, Ba false), (46, Ba false), (68, Ba false), (81, Ba c81)] [(2, [Iv 0, Bv false, Iv 0]), (6, [Iv x, Bv false, Iv 0])] ?_
                cases c81
                · replace hc81 := bf hc81
                  refine iF (vc_skip (seq_n (vc_seq (vc_seqr rfl (iQ 1 (iX 9 (.string s37) (.int .i64 0) (some 88) ?_))))))
                  refine And.intro (by rw [e37, tx_size]; omega) ?_
                  intro z88 hz88
                  refine iB .eql 5 (.int .u8 z88) (.int .u8 45) (some 89) ?_
                  intro c89 hc89
                  refine iE 108 [(0, .d (Sv (tx l))), (2, .p 2 0), (3, Ba false), (5, Ba g4), (6, .p 6 0), (7, .d (Sv s37)), (8, .d (.sl ((ns2).length) (natsD (ns2)))), (9, Ia z78), (12, Ba false), (21, Ba false), (38, Ba false), (42, Ba false), (46, Ba false), (68, Ba false), (81, Ba false), (89, Ba c89)] [(2, [Iv 0, Bv false, Iv 0]), (6, [Iv x, Bv false, Iv 0])] ?_
                  cases c89
                  · replace hc89 := bf hc89
                    refine iF (vc_skip (seq_n (vc_seqr rfl (iQ 2 (iC 68 [.agg [Iv x, Bv false, Iv 0], Iv z78] (some 95) (c_At (s := x) (z := false) (o0 := 0) (o := z78)) ?_)))))
                    rintro _ ⟨x4, z4, o4, g5, rfl, h5⟩
                    refine iQ 5 (iE 108 [(0, .d (Sv (tx l))), (2, .p 2 0), (3, Ba false), (5, Ba g5), (6, .p 6 0), (7, .d (Sv s37)), (8, .d (.sl ((ns2).length) (natsD (ns2)))), (9, Ia z78), (12, Ba false), (21, Ba false), (38, Ba false), (42, Ba false), (46, Ba false), (68, Ba false), (81, Ba false), (89, Ba false)] [(2, [Iv 0, Bv false, Iv 0]), (6, [Iv x4, Bv z4, Iv o4])] ?_)
                    refine vc_seq (vc_seqr rfl (iQ 1 (iU .not (.bool g5) (some 99) ?_)))
                    intro c99 hc99
                    refine iQ 1 ?_
                    cases c99
                    · replace hc99 := bf hc99
                      refine iQ 1 (iC 19 [.agg [Iv x4, Bv z4, Iv o4]] (some 102) (c_lexTime) ?_)
                      rintro _ rfl
                      refine iQ 1 (iB .neq 9 (.string (tx (timeT x4 z4 o4))) (.string (tx l)) (some 104) ?_)
                      intro c104 hc104
                      refine iQ 1 (iE 108 [(0, .d (Sv (tx l))), (2, .p 2 0), (3, Ba false), (5, Ba g5), (6, .p 6 0), (7, .d (Sv s37)), (8, .d (.sl ((ns2).length) (natsD (ns2)))), (9, Ia z78), (12, Ba false), (21, Ba false), (38, Ba false), (42, Ba false), (46, Ba false), (68, Ba false), (81, Ba false), (89, Ba false), (105, Ba c104)] [(2, [Iv 0, Bv false, Iv 0]), (6, [Iv x4, Bv z4, Iv o4])] ?_)
                      cases c104
                      · replace hc104 := bf hc104
                        refine iF (vc_skip (seq_n (vc_seqr rfl (iQ 3 (iE 108 [(0, .d (Sv (tx l))), (2, .p 2 0), (3, Ba true), (5, Ba g5), (6, .p 6 0), (7, .d (Sv s37)), (8, .d (.sl ((ns2).length) (natsD (ns2)))), (9, Ia z78), (12, Ba false), (21, Ba false), (38, Ba false), (42, Ba false), (46, Ba false), (68, Ba false), (81, Ba false), (89, Ba false), (105, Ba false)] [(2, [Iv x4, Bv z4, Iv o4]), (6, [Iv x4, Bv z4, Iv o4])] ?_)))))
                        refine vc_ret (iS (.agg [Iv x4, Bv z4, Iv o4]) (Bv true) [] ?_)
                        exact TimeP_yes (Classical.not_not.1 hc104) h0
                      · replace hc104 := bt hc104
                        refine iT (vc_seqr rfl (iQ 3 (iE 108 [(0, .d (Sv (tx l))), (2, .p 2 0), (3, Ba false), (5, Ba g5), (6, .p 6 0), (7, .d (Sv s37)), (8, .d (.sl ((ns2).length) (natsD (ns2)))), (9, Ia z78), (12, Ba false), (21, Ba false), (38, Ba false), (42, Ba false), (46, Ba false), (68, Ba false), (81, Ba false), (89, Ba false), (105, Ba true)] [(2, [Iv 0, Bv false, Iv 0]), (6, [Iv x4, Bv z4, Iv o4])] ?_)))
                        refine vc_ret (seq_r (iS (.agg [Iv 0, Bv false, Iv 0]) (Bv false) [] ?_))
                        exact TimeP_no l
                    · replace hc99 := bt hc99
                      refine iQ 5 (iE 108 [(0, .d (Sv (tx l))), (2, .p 2 0), (3, Ba false), (5, Ba g5), (6, .p 6 0), (7, .d (Sv s37)), (8, .d (.sl ((ns2).length) (natsD (ns2)))), (9, Ia z78), (12, Ba false), (21, Ba false), (38, Ba false), (42, Ba false), (46, Ba false), (68, Ba false), (81, Ba false), (89, Ba false), (105, Ba true)] [(2, [Iv 0, Bv false, Iv 0]), (6, [Iv x4, Bv z4, Iv o4])] ?_)
                      refine iT (vc_seqr rfl (iQ 3 (iE 108 [(0, .d (Sv (tx l))), (2, .p 2 0), (3, Ba false), (5, Ba g5), (6, .p 6 0), (7, .d (Sv s37)), (8, .d (.sl ((ns2).length) (natsD (ns2)))), (9, Ia z78), (12, Ba false), (21, Ba false), (38, Ba false), (42, Ba false), (46, Ba false), (68, Ba false), (81, Ba false), (89, Ba false), (105, Ba true)] [(2, [Iv 0, Bv false, Iv 0]), (6, [Iv x4, Bv z4, Iv o4])] ?_)))
                      refine vc_ret (seq_r (iS (.agg [Iv 0, Bv false, Iv 0]) (Bv false) [] ?_))
                      exact TimeP_no l
                  · replace hc89 := bt hc89
                    refine iT (vc_reg rfl (iQ 1 (iU .neg (.int .i64 z78) (some 91) ?_)))
                    intro z91 hz91
                    try replace hz91 := hz91.i64 (by omega)
                    refine iQ 1 (iE 108 [(0, .d (Sv (tx l))), (2, .p 2 0), (3, Ba false), (5, Ba g4), (6, .p 6 0), (7, .d (Sv s37)), (8, .d (.sl ((ns2).length) (natsD (ns2)))), (9, Ia z91), (12, Ba false), (21, Ba false), (38, Ba false), (42, Ba false), (46, Ba false), (68, Ba false), (81, Ba false), (89, Ba true)] [(2, [Iv 0, Bv false, Iv 0]), (6, [Iv x, Bv false, Iv 0])] ?_)
                    refine seq_n (vc_seqr rfl (iQ 2 (iC 68 [.agg [Iv x, Bv false, Iv 0], Iv z91] (some 95) (c_At (s := x) (z := false) (o0 := 0) (o := z91)) ?_)))
                    rintro _ ⟨x4, z4, o4, g5, rfl, h5⟩
                    refine iQ 5 (iE 108 [(0, .d (Sv (tx l))), (2, .p 2 0), (3, Ba false), (5, Ba g5), (6, .p 6 0), (7, .d (Sv s37)), (8, .d (.sl ((ns2).length) (natsD (ns2)))), (9, Ia z91), (12, Ba false), (21, Ba false), (38, Ba false), (42, Ba false), (46, Ba false), (68, Ba false), (81, Ba false), (89, Ba true)] [(2, [Iv 0, Bv false, Iv 0]), (6, [Iv x4, Bv z4, Iv o4])] ?_)
                    refine vc_seq (vc_seqr rfl (iQ 1 (iU .not (.bool g5) (some 99) ?_)))
                    intro c99 hc99
                    refine iQ 1 ?_
                    cases c99
                    · replace hc99 := bf hc99
                      refine iQ 1 (iC 19 [.agg [Iv x4, Bv z4, Iv o4]] (some 102) (c_lexTime) ?_)
                      rintro _ rfl
                      refine iQ 1 (iB .neq 9 (.string (tx (timeT x4 z4 o4))) (.string (tx l)) (some 104) ?_)
                      intro c104 hc104
                      refine iQ 1 (iE 108 [(0, .d (Sv (tx l))), (2, .p 2 0), (3, Ba false), (5, Ba g5), (6, .p 6 0), (7, .d (Sv s37)), (8, .d (.sl ((ns2).length) (natsD (ns2)))), (9, Ia z91), (12, Ba false), (21, Ba false), (38, Ba false), (42, Ba false), (46, Ba false), (68, Ba false), (81, Ba false), (89, Ba true), (105, Ba c104)] [(2, [Iv 0, Bv false, Iv 0]), (6, [Iv x4, Bv z4, Iv o4])] ?_)
                      cases c104
                      · replace hc104 := bf hc104
                        refine iF (vc_skip (seq_n (vc_seqr rfl (iQ 3 (iE 108 [(0, .d (Sv (tx l))), (2, .p 2 0), (3, Ba true), (5, Ba g5), (6, .p 6 0), (7, .d (Sv s37)), (8, .d (.sl ((ns2).length) (natsD (ns2)))), (9, Ia z91), (12, Ba false), (21, Ba false), (38, Ba false), (42, Ba false), (46, Ba false), (68, Ba false), (81, Ba false), (89, Ba true), (105, Ba false)] [(2, [Iv x4, Bv z4, Iv o4]), (6, [Iv x4, Bv z4, Iv o4])] ?_)))))
                        refine vc_ret (iS (.agg [Iv x4, Bv z4, Iv o4]) (Bv true) [] ?_)
                        exact TimeP_yes (Classical.not_not.1 hc104) h0
                      · replace hc104 := bt hc104
                        refine iT (vc_seqr rfl (iQ 3 (iE 108 [(0, .d (Sv (tx l))), (2, .p 2 0), (3, Ba false), (5, Ba g5), (6, .p 6 0), (7, .d (Sv s37)), (8, .d (.sl ((ns2).length) (natsD (ns2)))), (9, Ia z91), (12, Ba false), (21, Ba false), (38, Ba false), (42, Ba false), (46, Ba false), (68, Ba false), (81, Ba false), (89, Ba true), (105, Ba true)] [(2, [Iv 0, Bv false, Iv 0]), (6, [Iv x4, Bv z4, Iv o4])] ?_)))
                        refine vc_ret (seq_r (iS (.agg [Iv 0, Bv false, Iv 0]) (Bv false) [] ?_))
                        exact TimeP_no l
                    · replace hc99 := bt hc99
                      refine iQ 5 (iE 108 [(0, .d (Sv (tx l))), (2, .p 2 0), (3, Ba false), (5, Ba g5), (6, .p 6 0), (7, .d (Sv s37)), (8, .d (.sl ((ns2).length) (natsD (ns2)))), (9, Ia z91), (12, Ba false), (21, Ba false), (38, Ba false), (42, Ba false), (46, Ba false), (68, Ba false), (81, Ba false), (89, Ba true), (105, Ba true)] [(2, [Iv 0, Bv false, Iv 0]), (6, [Iv x4, Bv z4, Iv o4])] ?_)
                      refine iT (vc_seqr rfl (iQ 3 (iE 108 [(0, .d (Sv (tx l))), (2, .p 2 0), (3, Ba false), (5, Ba g5), (6, .p 6 0), (7, .d (Sv s37)), (8, .d (.sl ((ns2).length) (natsD (ns2)))), (9, Ia z91), (12, Ba false), (21, Ba false), (38, Ba false), (42, Ba false), (46, Ba false), (68, Ba false), (81, Ba false), (89, Ba true), (105, Ba true)] [(2, [Iv 0, Bv false, Iv 0]), (6, [Iv x4, Bv z4, Iv o4])] ?_)))
                      refine vc_ret (seq_r (iS (.agg [Iv 0, Bv false, Iv 0]) (Bv false) [] ?_))
                      exact TimeP_no l
                · replace hc81 := bt hc81
                  obtain ⟨q2, hq2⟩ : ∃ q, ns2[2]? = some q := ⟨_, List.getElem?_eq_getElem (by omega)⟩
                  have b2 := hlt2 _ (List.mem_of_getElem? hq2)
                  refine iT (vc_reg rfl (iQ 2 (vcI_idx1 (q := 2) (n := ((ns2).length)) (cs := (natsD (ns2))) (d := .v (.int .i64 ((q2 : Int)))) (dst := (some 84)) (by kernel_rfl) (by omega) (nats_get (i := 2) hq2) ?_)))
                  refine iQ 1 (iB .add 3 (.int .i64 z78) (.int .i64 ((q2 : Int))) (some 86) ?_)
                  intro z86 hz86
                  try replace hz86 := hz86.i64 (by omega)
                  refine iQ 1 (iE 108 [(0, .d (Sv (tx l))), (2, .p 2 0), (3, Ba false), (5, Ba g4), (6, .p 6 0), (7, .d (Sv s37)), (8, .d (.sl ((ns2).length) (natsD (ns2)))), (9, Ia z86), (12, Ba false), (21, Ba false), (38, Ba false), (42, Ba false), (46, Ba false), (68, Ba false), (81, Ba true)] [(2, [Iv 0, Bv false, Iv 0]), (6, [Iv x, Bv false, Iv 0])] ?_)
                  refine seq_n (vc_seq (vc_seqr rfl (iQ 1 (iX 9 (.string s37) (.int .i64 0) (some 88) ?_))))
                  refine And.intro (by rw [e37, tx_size]; omega) ?_
                  intro z88 hz88
                  refine iB .eql 5 (.int .u8 z88) (.int .u8 45) (some 89) ?_
                  intro c89 hc89
                  refine iE 108 [(0, .d (Sv (tx l))), (2, .p 2 0), (3, Ba false), (5, Ba g4), (6, .p 6 0), (7, .d (Sv s37)), (8, .d (.sl ((ns2).length) (natsD (ns2)))), (9, Ia z86), (12, Ba false), (21, Ba false), (38, Ba false), (42, Ba false), (46, Ba false), (68, Ba false), (81, Ba true), (89, Ba c89)] [(2, [Iv 0, Bv false, Iv 0]), (6, [Iv x, Bv false, Iv 0])] ?_
                  cases c89
                  · replace hc89 := bf hc89
                    refine iF (vc_skip (seq_n (vc_seqr rfl (iQ 2 (iC 68 [.agg [Iv x, Bv false, Iv 0], Iv z86] (some 95) (c_At (s := x) (z := false) (o0 := 0) (o := z86)) ?_)))))
                    rintro _ ⟨x4, z4, o4, g5, rfl, h5⟩
                    refine iQ 5 (iE 108 [(0, .d (Sv (tx l))), (2, .p 2 0), (3, Ba false), (5, Ba g5), (6, .p 6 0), (7, .d (Sv s37)), (8, .d (.sl ((ns2).length) (natsD (ns2)))), (9, Ia z86), (12, Ba false), (21, Ba false), (38, Ba false), (42, Ba false), (46, Ba false), (68, Ba false), (81, Ba true), (89, Ba false)] [(2, [Iv 0, Bv false, Iv 0]), (6, [Iv x4, Bv z4, Iv o4])] ?_)
                    refine vc_seq (vc_seqr rfl (iQ 1 (iU .not (.bool g5) (some 99) ?_)))
                    intro c99 hc99
                    refine iQ 1 ?_
                    cases c99
                    · replace hc99 := bf hc99
                      refine iQ 1 (iC 19 [.agg [Iv x4, Bv z4, Iv o4]] (some 102) (c_lexTime) ?_)
                      rintro _ rfl
                      refine iQ 1 (iB .neq 9 (.string (tx (timeT x4 z4 o4))) (.string (tx l)) (some 104) ?_)
                      intro c104 hc104
                      refine iQ 1 (iE 108 [(0, .d (Sv (tx l))), (2, .p 2 0), (3, Ba false), (5, Ba g5), (6, .p 6 0), (7, .d (Sv s37)), (8, .d (.sl ((ns2).length) (natsD (ns2)))), (9, Ia z86), (12, Ba false), (21, Ba false), (38, Ba false), (42, Ba false), (46, Ba false), (68, Ba false), (81, Ba true), (89, Ba false), (105, Ba c104)] [(2, [Iv 0, Bv false, Iv 0]), (6, [Iv x4, Bv z4, Iv o4])] ?_)
                      cases c104
                      · replace hc104 := bf hc104
                        refine iF (vc_skip (seq_n (vc_seqr rfl (iQ 3 (iE 108 [(0, .d (Sv (tx l))), (2, .p 2 0), (3, Ba true), (5, Ba g5), (6, .p 6 0), (7, .d (Sv s37)), (8, .d (.sl ((ns2).length) (natsD (ns2)))), (9, Ia z86), (12, Ba false), (21, Ba false), (38, Ba false), (42, Ba false), (46, Ba false), (68, Ba false), (81, Ba true), (89, Ba false), (105, Ba false)] [(2, [Iv x4, Bv z4, Iv o4]), (6, [Iv x4, Bv z4, Iv o4])] ?_)))))
                        refine vc_ret (iS (.agg [Iv x4, Bv z4, Iv o4]) (Bv true) [] ?_)
                        exact TimeP_yes (Classical.not_not.1 hc104) h0
                      · replace hc104 := bt hc104
                        refine iT (vc_seqr rfl (iQ 3 (iE 108 [(0, .d (Sv (tx l))), (2, .p 2 0), (3, Ba false), (5, Ba g5), (6, .p 6 0), (7, .d (Sv s37)), (8, .d (.sl ((ns2).length) (natsD (ns2)))), (9, Ia z86), (12, Ba false), (21, Ba false), (38, Ba false), (42, Ba false), (46, Ba false), (68, Ba false), (81, Ba true), (89, Ba false), (105, Ba true)] [(2, [Iv 0, Bv false, Iv 0]), (6, [Iv x4, Bv z4, Iv o4])] ?_)))
                        refine vc_ret (seq_r (iS (.agg [Iv 0, Bv false, Iv 0]) (Bv false) [] ?_))
                        exact TimeP_no l
                    · replace hc99 := bt hc99
                      refine iQ 5 (iE 108 [(0, .d (Sv (tx l))), (2, .p 2 0), (3, Ba false), (5, Ba g5), (6, .p 6 0), (7, .d (Sv s37)), (8, .d (.sl ((ns2).length) (natsD (ns2)))), (9, Ia z86), (12, Ba false), (21, Ba false), (38, Ba false), (42, Ba false), (46, Ba false), (68, Ba false), (81, Ba true), (89, Ba false), (105, Ba true)] [(2, [Iv 0, Bv false, Iv 0]), (6, [Iv x4, Bv z4, Iv o4])] ?_)
                      refine iT (vc_seqr rfl (iQ 3 (iE 108 [(0, .d (Sv (tx l))), (2, .p 2 0), (3, Ba false), (5, Ba g5), (6, .p 6 0), (7, .d (Sv s37)), (8, .d (.sl ((ns2).length) (natsD (ns2)))), (9, Ia z86), (12, Ba false), (21, Ba false), (38, Ba false), (42, Ba false), (46, Ba false), (68, Ba false), (81, Ba true), (89, Ba false), (105, Ba true)] [(2, [Iv 0, Bv false, Iv 0]), (6, [Iv x4, Bv z4, Iv o4])] ?_)))
                      refine vc_ret (seq_r (iS (.agg [Iv 0, Bv false, Iv 0]) (Bv false) [] ?_))
                      exact TimeP_no l
                  · replace hc89 := bt hc89
                    refine iT (vc_reg rfl (iQ 1 (iU .neg (.int .i64 z86) (some 91) ?_)))
                    intro z91 hz91
                    try replace hz91 := hz91.i64 (by omega)
                    refine iQ 1 (iE 108 [(0, .d (Sv (tx l))), (2, .p 2 0), (3, Ba false), (5, Ba g4), (6, .p 6 0), (7, .d (Sv s37)), (8, .d (.sl ((ns2).length) (natsD (ns2)))), (9, Ia z91), (12, Ba false), (21, Ba false), (38, Ba false), (42, Ba false), (46, Ba false), (68, Ba false), (81, Ba true), (89, Ba true)] [(2, [Iv 0, Bv false, Iv 0]), (6, [Iv x, Bv false, Iv 0])] ?_)
                    refine seq_n (vc_seqr rfl (iQ 2 (iC 68 [.agg [Iv x, Bv false, Iv 0], Iv z91] (some 95) (c_At (s := x) (z := false) (o0 := 0) (o := z91)) ?_)))
                    rintro _ ⟨x4, z4, o4, g5, rfl, h5⟩
                    refine iQ 5 (iE 108 [(0, .d (Sv (tx l))), (2, .p 2 0), (3, Ba false), (5, Ba g5), (6, .p 6 0), (7, .d (Sv s37)), (8, .d (.sl ((ns2).length) (natsD (ns2)))), (9, Ia z91), (12, Ba false), (21, Ba false), (38, Ba false), (42, Ba false), (46, Ba false), (68, Ba false), (81, Ba true), (89, Ba true)] [(2, [Iv 0, Bv false, Iv 0]), (6, [Iv x4, Bv z4, Iv o4])] ?_)
                    refine vc_seq (vc_seqr rfl (iQ 1 (iU .not (.bool g5) (some 99) ?_)))
                    intro c99 hc99
                    refine iQ 1 ?_
                    cases c99
                    · replace hc99 := bf hc99
                      refine iQ 1 (iC 19 [.agg [Iv x4, Bv z4, Iv o4]] (some 102) (c_lexTime) ?_)
                      rintro _ rfl
                      refine iQ 1 (iB .neq 9 (.string (tx (timeT x4 z4 o4))) (.string (tx l)) (some 104) ?_)
                      intro c104 hc104
                      refine iQ 1 (iE 108 [(0, .d (Sv (tx l))), (2, .p 2 0), (3, Ba false), (5, Ba g5), (6, .p 6 0), (7, .d (Sv s37)), (8, .d (.sl ((ns2).length) (natsD (ns2)))), (9, Ia z91), (12, Ba false), (21, Ba false), (38, Ba false), (42, Ba false), (46, Ba false), (68, Ba false), (81, Ba true), (89, Ba true), (105, Ba c104)] [(2, [Iv 0, Bv false, Iv 0]), (6, [Iv x4, Bv z4, Iv o4])] ?_)
                      cases c104
                      · replace hc104 := bf hc104
                        refine iF (vc_skip (seq_n (vc_seqr rfl (iQ 3 (iE 108 [(0, .d (Sv (tx l))), (2, .p 2 0), (3, Ba true), (5, Ba g5), (6, .p 6 0), (7, .d (Sv s37)), (8, .d (.sl ((ns2).length) (natsD (ns2)))), (9, Ia z91), (12, Ba false), (21, Ba false), (38, Ba false), (42, Ba false), (46, Ba false), (68, Ba false), (81, Ba true), (89, Ba true), (105, Ba false)] [(2, [Iv x4, Bv z4, Iv o4]), (6, [Iv x4, Bv z4, Iv o4])] ?_)))))
                        refine vc_ret (iS (.agg [Iv x4, Bv z4, Iv o4]) (Bv true) [] ?_)
                        exact TimeP_yes (Classical.not_not.1 hc104) h0
                      · replace hc104 := bt hc104
                        refine iT (vc_seqr rfl (iQ 3 (iE 108 [(0, .d (Sv (tx l))), (2, .p 2 0), (3, Ba false), (5, Ba g5), (6, .p 6 0), (7, .d (Sv s37)), (8, .d (.sl ((ns2).length) (natsD (ns2)))), (9, Ia z91), (12, Ba false), (21, Ba false), (38, Ba false), (42, Ba false), (46, Ba false), (68, Ba false), (81, Ba true), (89, Ba true), (105, Ba true)] [(2, [Iv 0, Bv false, Iv 0]), (6, [Iv x4, Bv z4, Iv o4])] ?_)))
                        refine vc_ret (seq_r (iS (.agg [Iv 0, Bv false, Iv 0]) (Bv false) [] ?_))
                        exact TimeP_no l
                    · replace hc99 := bt hc99
                      refine iQ 5 (iE 108 [(0, .d (Sv (tx l))), (2, .p 2 0), (3, Ba false), (5, Ba g5), (6, .p 6 0), (7, .d (Sv s37)), (8, .d (.sl ((ns2).length) (natsD (ns2)))), (9, Ia z91), (12, Ba false), (21, Ba false), (38, Ba false), (42, Ba false), (46, Ba false), (68, Ba false), (81, Ba true), (89, Ba true), (105, Ba true)] [(2, [Iv 0, Bv false, Iv 0]), (6, [Iv x4, Bv z4, Iv o4])] ?_)
                      refine iT (vc_seqr rfl (iQ 3 (iE 108 [(0, .d (Sv (tx l))), (2, .p 2 0), (3, Ba false), (5, Ba g5), (6, .p 6 0), (7, .d (Sv s37)), (8, .d (.sl ((ns2).length) (natsD (ns2)))), (9, Ia z91), (12, Ba false), (21, Ba false), (38, Ba false), (42, Ba false), (46, Ba false), (68, Ba false), (81, Ba true), (89, Ba true), (105, Ba true)] [(2, [Iv 0, Bv false, Iv 0]), (6, [Iv x4, Bv z4, Iv o4])] ?_)))
                      refine vc_ret (seq_r (iS (.agg [Iv 0, Bv false, Iv 0]) (Bv false) [] ?_))
                      exact TimeP_no l
              · replace hc67 := bt hc67
                refine iT (vc_seqr rfl (iQ 3 (iE 108 [(0, .d (Sv (tx l))), (2, .p 2 0), (3, Ba false), (5, Ba g4), (6, .p 6 0), (7, .d (Sv s37)), (8, .d (.sl ((ns2).length) (natsD (ns2)))), (12, Ba false), (21, Ba false), (38, Ba false), (42, Ba false), (46, Ba false), (68, Ba true)] [(2, [Iv 0, Bv false, Iv 0]), (6, [Iv x, Bv false, Iv 0])] ?_)))
                refine vc_ret (seq_r (iS (.agg [Iv 0, Bv false, Iv 0]) (Bv false) [] ?_))
                exact TimeP_no l
            · replace hc63 := bt hc63
              refine iQ 4 (iE 108 [(0, .d (Sv (tx l))), (2, .p 2 0), (3, Ba false), (5, Ba g4), (6, .p 6 0), (7, .d (Sv s37)), (8, .d (.sl ((ns2).length) (natsD (ns2)))), (12, Ba false), (21, Ba false), (38, Ba false), (42, Ba false), (46, Ba false), (68, Ba true)] [(2, [Iv 0, Bv false, Iv 0]), (6, [Iv x, Bv false, Iv 0])] ?_)
              refine iT (vc_seqr rfl (iQ 3 (iE 108 [(0, .d (Sv (tx l))), (2, .p 2 0), (3, Ba false), (5, Ba g4), (6, .p 6 0), (7, .d (Sv s37)), (8, .d (.sl ((ns2).length) (natsD (ns2)))), (12, Ba false), (21, Ba false), (38, Ba false), (42, Ba false), (46, Ba false), (68, Ba true)] [(2, [Iv 0, Bv false, Iv 0]), (6, [Iv x, Bv false, Iv 0])] ?_)))
              refine vc_ret (seq_r (iS (.agg [Iv 0, Bv false, Iv 0]) (Bv false) [] ?_))
              exact TimeP_no l
          · replace hc48 := bt hc48
            have hz : l.drop 8 = [90] := (eq_tx (r := [90]) e37).1 hc48
            refine iT (vc_seqr rfl (iQ 1 (iC 68 [.agg [Iv x, Bv false, Iv 0], Iv 0] (some 50) (c_At (s := x) (z := false) (o0 := 0) (o := 0)) ?_)))
            rintro _ ⟨x', z', o', g3, rfl, h3⟩
            refine iQ 4 (iE 108 [(0, .d (Sv (tx l))), (2, .p 2 0), (3, Ba g3), (5, Ba g2), (6, .p 6 0), (7, .d (Sv s37)), (12, Ba false), (21, Ba false), (38, Ba false), (42, Ba false), (46, Ba true)] [(2, [Iv x', Bv z', Iv o']), (6, [Iv x, Bv false, Iv 0])] ?_)
            refine vc_ret (block_r (seq_r (iS (.agg [Iv x', Bv z', Iv o']) (Bv g3) [] ?_)))
            refine ⟨x', z', o', g3, rfl, ?_⟩; rcases h3 with ⟨q1, q2, q3, q4, q5⟩ | h3; exact .inl ⟨q1, by rw [q3, q4, q5]; exact q2, by rw [q3, q4, q5, hT, show zoneL true 0 = [90] from rfl, ← hz, List.take_append_drop]⟩; exact .inr h3
        · replace hc44 := bt hc44
          have hd : l.drop 8 = [] := (eq_tx (r := []) e37).1 hc44
          refine iT (vc_seqr rfl (iQ 3 (iE 108 [(0, .d (Sv (tx l))), (2, .p 2 0), (3, Ba true), (5, Ba g2), (6, .p 6 0), (7, .d (Sv s37)), (12, Ba false), (21, Ba false), (38, Ba false), (42, Ba true)] [(2, [Iv x, Bv false, Iv 0]), (6, [Iv x, Bv false, Iv 0])] ?_)))
          refine vc_ret (block_r (seq_r (iS (.agg [Iv x, Bv false, Iv 0]) (Bv true) [] ?_)))
          exact ⟨x, false, 0, true, rfl, .inl ⟨rfl, by unfold mayT; simp; omega, by rw [hT, show zoneL false 0 = [] from rfl, ← hd, List.take_append_drop]⟩⟩
      · replace hc40 := bt hc40
        refine iT (vc_seqr rfl (iQ 3 (iE 108 [(0, .d (Sv (tx l))), (2, .p 2 0), (3, Ba false), (5, Ba g2), (6, .p 6 0), (7, .d (Sv s37)), (12, Ba false), (21, Ba false), (38, Ba true)] [(2, [Iv 0, Bv false, Iv 0]), (6, [Iv x, Bv false, Iv 0])] ?_)))
        refine vc_ret (block_r (seq_r (iS (.agg [Iv 0, Bv false, Iv 0]) (Bv false) [] ?_)))
        exact TimeP_no l
    · replace hc21 := bt hc21
      refine iT (vc_seqr rfl (iQ 3 (iE 108 [(0, .d (Sv (tx l))), (2, .p 2 0), (3, Ba false), (4, .d (.sl ((ns).length) (natsD (ns)))), (5, Ba g), (12, Ba false), (21, Ba true)] [(2, [Iv 0, Bv false, Iv 0])] ?_)))
      refine vc_ret (seq_r (iS (.agg [Iv 0, Bv false, Iv 0]) (Bv false) [] ?_))
      exact TimeP_no l
  · replace hc12 := bt hc12
    refine iT (vc_seqr rfl (iQ 3 (iE 108 [(0, .d (Sv (tx l))), (2, .p 2 0), (3, Ba false), (12, Ba true)] [(2, [Iv 0, Bv false, Iv 0])] ?_)))
    refine vc_ret (seq_r (iS (.agg [Iv 0, Bv false, Iv 0]) (Bv false) [] ?_))
    exact TimeP_no l
def MomP (l : L8) (r : DV) : Prop := ∃ (y m d s : Int) (z : Bool) (o : Int) (ok : Bool), r = .tup [.agg [.v (.int .i64 y), .v (.int .i64 m), .v (.int .i64 d), .v (.int .i64 s), .v (.bool z), .v (.int .i64 o)], .v (.bool ok)] ∧
  (ok = true ∧ (mayD y m d ∧ mayT s z o ∧ l = dateL y m d ++ [84] ++ timeL s z o) ∨ ok = false ∧ y = 0 ∧ m = 0 ∧ d = 0 ∧ s = 0 ∧ z = false ∧ o = 0)
theorem MomP_no (l : L8) : MomP l (.tup [.agg [.v (.int .i64 0), .v (.int .i64 0), .v (.int .i64 0), .v (.int .i64 0), .v (.bool false), .v (.int .i64 0)], .v (.bool false)]) := ⟨0, 0, 0, 0, false, 0, false, rfl, .inr ⟨rfl, rfl, rfl, rfl, rfl, rfl, rfl⟩⟩
theorem c_ReadMoment {l : L8} (hL : l.length < 4294967281) : HasC Tryd.prog 34 [.v (.string (tx l))] (MomP l) := by
  refine HasC.of [] (fn := Tryd.f34) tyOk mixed (fun args w => Tryd.call34 args w) Tryd.func34 rfl (by kernel_rfl) (Nat.le_of_ble_eq_true rfl) (⟨_, MomP_no l⟩) ?_
  refine vc_seqr rfl (iQ 2 (iE 41 [(0, .d (Sv (tx l))), (2, .p 2 0), (3, Ba false)] [(2, [Iv 0, Iv 0, Iv 0, Iv 0, Bv false, Iv 0])] ?_))
  refine vc_seqr rfl (iQ 1 (iC 70 [Sv (tx l), Sv (⟨#[84]⟩)] (some 13) (c_Cut (c := 84) hL) ?_))
  rintro _ ⟨a, e, g, rfl, h1, h2, h3⟩
  refine iQ 7 (iE 41 [(2, .p 2 0), (3, Ba false), (4, .d (Sv (tx a))), (5, .d (Sv (tx e))), (6, Ba g)] [(2, [Iv 0, Iv 0, Iv 0, Iv 0, Bv false, Iv 0])] ?_)
  refine vc_seqr rfl (iQ 1 (iC 32 [Sv (tx a)] (some 19) (c_ReadDate (l := a) (by omega)) ?_))
  rintro _ ⟨y, m, d, g1, rfl, hd⟩
  refine iQ 6 (iE 41 [(2, .p 2 0), (3, Ba false), (5, .d (Sv (tx e))), (6, Ba g), (7, .p 7 0), (8, Ba g1)] [(2, [Iv 0, Iv 0, Iv 0, Iv 0, Bv false, Iv 0]), (7, [Iv y, Iv m, Iv d])] ?_)
  refine vc_seqr rfl (iQ 1 (iC 33 [Sv (tx e)] (some 24) (c_ReadTime (l := e) (by omega)) ?_))
  rintro _ ⟨s, z, o, g2, rfl, ht⟩
  refine iQ 6 (iE 41 [(2, .p 2 0), (3, Ba false), (6, Ba g), (7, .p 7 0), (8, Ba g1), (9, .p 9 0), (10, Ba g2)] [(2, [Iv 0, Iv 0, Iv 0, Iv 0, Bv false, Iv 0]), (7, [Iv y, Iv m, Iv d]), (9, [Iv s, Bv z, Iv o])] ?_)
  refine vc_seq (vc_seqr rfl (iQ 1 (iU .not (.bool g) (some 28) ?_)))
  intro c28 hc28
  refine iQ 1 ?_
  cases c28
  · replace hc28 := bf hc28
    refine iQ 1 (iU .not (.bool g1) (some 31) ?_)
    intro c31 hc31
    refine iQ 2 ?_
    cases c31
    · replace hc31 := bf hc31
      refine iQ 1 (iU .not (.bool g2) (some 35) ?_)
      intro c35 hc35
      refine iQ 1 (iE 41 [(2, .p 2 0), (3, Ba false), (7, .p 7 0), (9, .p 9 0), (36, Ba c35)] [(2, [Iv 0, Iv 0, Iv 0, Iv 0, Bv false, Iv 0]), (7, [Iv y, Iv m, Iv d]), (9, [Iv s, Bv z, Iv o])] ?_)
      cases c35
      · replace hc35 := bf hc35
        have d1 := or_t hd hc31
        have t1 := or_t ht hc35
        refine iF (vc_skip (seq_n (vc_seqr rfl (iQ 5 (iE 41 [(2, .p 2 0), (3, Ba true), (7, .p 7 0), (9, .p 9 0), (36, Ba false)] [(2, [Iv y, Iv m, Iv d, Iv s, Bv z, Iv o]), (7, [Iv y, Iv m, Iv d]), (9, [Iv s, Bv z, Iv o])] ?_)))))
        refine vc_ret (iS (.agg [Iv y, Iv m, Iv d, Iv s, Bv z, Iv o]) (Bv true) [] ?_)
        exact ⟨y, m, d, s, z, o, true, rfl, .inl ⟨rfl, d1.1, t1.1, by rw [h1 (by simpa using hc28), ← d1.2, ← t1.2]; simp⟩⟩
      · replace hc35 := bt hc35
        refine iT (vc_seqr rfl (iQ 3 (iE 41 [(2, .p 2 0), (3, Ba false), (7, .p 7 0), (9, .p 9 0), (36, Ba true)] [(2, [Iv 0, Iv 0, Iv 0, Iv 0, Bv false, Iv 0]), (7, [Iv y, Iv m, Iv d]), (9, [Iv s, Bv z, Iv o])] ?_)))
        refine vc_ret (seq_r (iS (.agg [Iv 0, Iv 0, Iv 0, Iv 0, Bv false, Iv 0]) (Bv false) [] ?_))
        exact MomP_no l
    · replace hc31 := bt hc31
      refine iQ 3 (iE 41 [(2, .p 2 0), (3, Ba false), (7, .p 7 0), (9, .p 9 0), (36, Ba true)] [(2, [Iv 0, Iv 0, Iv 0, Iv 0, Bv false, Iv 0]), (7, [Iv y, Iv m, Iv d]), (9, [Iv s, Bv z, Iv o])] ?_)
      refine iT (vc_seqr rfl (iQ 3 (iE 41 [(2, .p 2 0), (3, Ba false), (7, .p 7 0), (9, .p 9 0), (36, Ba true)] [(2, [Iv 0, Iv 0, Iv 0, Iv 0, Bv false, Iv 0]), (7, [Iv y, Iv m, Iv d]), (9, [Iv s, Bv z, Iv o])] ?_)))
      refine vc_ret (seq_r (iS (.agg [Iv 0, Iv 0, Iv 0, Iv 0, Bv false, Iv 0]) (Bv false) [] ?_))
      exact MomP_no l
  · replace hc28 := bt hc28
    refine iQ 7 (iE 41 [(2, .p 2 0), (3, Ba false), (7, .p 7 0), (9, .p 9 0), (36, Ba true)] [(2, [Iv 0, Iv 0, Iv 0, Iv 0, Bv false, Iv 0]), (7, [Iv y, Iv m, Iv d]), (9, [Iv s, Bv z, Iv o])] ?_)
    refine iT (vc_seqr rfl (iQ 3 (iE 41 [(2, .p 2 0), (3, Ba false), (7, .p 7 0), (9, .p 9 0), (36, Ba true)] [(2, [Iv 0, Iv 0, Iv 0, Iv 0, Bv false, Iv 0]), (7, [Iv y, Iv m, Iv d]), (9, [Iv s, Bv z, Iv o])] ?_)))
    refine vc_ret (seq_r (iS (.agg [Iv 0, Iv 0, Iv 0, Iv 0, Bv false, Iv 0]) (Bv false) [] ?_))
    exact MomP_no l


open Go.RowKit
set_option linter.unusedVariables false
set_option linter.unusedSimpArgs false
set_option maxRecDepth 100000

theorem c_DateMayT {y m d : Int} (h : mayD y m d) : HasC Tryd.prog 27 [.agg [.v (.int .i64 y), .v (.int .i64 m), .v (.int .i64 d)]] (fun r => r = .v (.bool true)) := c_DateMay.mono fun r ⟨b, hr, hb⟩ => by rw [hr, hb.2 h]
theorem c_TMayT {s o : Int} {z : Bool} (h : mayT s z o) : HasC Tryd.prog 28 [.agg [.v (.int .i64 s), .v (.bool z), .v (.int .i64 o)]] (fun r => r = .v (.bool true)) := c_TMay.mono fun r ⟨b, hr, hb⟩ => by rw [hr, hb.2 h]
theorem c_mMayT {y m d s o : Int} {z : Bool} (h : mayD y m d) (k : mayT s z o) : HasC Tryd.prog 29 [.agg [.v (.int .i64 y), .v (.int .i64 m), .v (.int .i64 d), .v (.int .i64 s), .v (.bool z), .v (.int .i64 o)]] (fun r => r = .v (.bool true)) := c_mMay.mono fun r ⟨b, hr, hb⟩ => by rw [hr, hb.2 ⟨h, k⟩]

set_option maxHeartbeats 16000000 in
theorem c_LexicalReads {l : L8} (hL : l.length < 4294967281) : HasC Tryd.prog 7 [.v (.string (tx l))] (fun r => r = .v (.bool true)) := by
  refine HasC.of [] (fn := Tryd.f7) tyOk mixed (fun args w => Tryd.call7 args w) Tryd.func7 rfl (by kernel_rfl) (Nat.le_of_ble_eq_true rfl) (⟨_, rfl⟩) ?_
  refine vc_seqr rfl (iQ 1 (iE 90 [(0, .d (Sv (tx l))), (2, Ba false)] [] ?_))
  refine vc_seq (vc_seqr rfl (iC 11 [] (some 9) (c_awake09) ?_))
  rintro _ rfl
  refine iU .not (.bool true) (some 10) ?_
  intro c10 hc10
  refine iE 90 [(0, .d (Sv (tx l))), (2, Ba false), (10, Ba c10)] [] ?_
  obtain rfl : c10 = false := bff hc10 (by simp)
  refine iF (vc_skip (seq_n (vc_seqr rfl (iQ 1 (iC 32 [Sv (tx l)] (some 13) (c_ReadDate hL) ?_)))))
  rintro _ ⟨y, m, d, g1, rfl, h1⟩
  refine iQ 6 (iE 90 [(0, .d (Sv (tx l))), (2, Ba false), (3, .p 3 0), (4, Ba g1), (10, Ba false)] [(3, [Iv y, Iv m, Iv d])] ?_)
  refine vc_seqr rfl (iQ 1 (iC 33 [Sv (tx l)] (some 18) (c_ReadTime hL) ?_))
  rintro _ ⟨s, z, o, g2, rfl, h2⟩
  refine iQ 6 (iE 90 [(0, .d (Sv (tx l))), (2, Ba false), (3, .p 3 0), (4, Ba g1), (5, .p 5 0), (6, Ba g2), (10, Ba false)] [(3, [Iv y, Iv m, Iv d]), (5, [Iv s, Bv z, Iv o])] ?_)
  refine vc_seqr rfl (iQ 1 (iC 34 [Sv (tx l)] (some 23) (c_ReadMoment hL) ?_))
  rintro _ ⟨y3, m3, d3, s3, z3, o3, g3, rfl, h3⟩
  refine iQ 6 (iE 90 [(0, .d (Sv (tx l))), (2, Ba false), (3, .p 3 0), (4, Ba g1), (5, .p 5 0), (6, Ba g2), (7, .p 7 0), (8, Ba g3), (10, Ba false)] [(3, [Iv y, Iv m, Iv d]), (5, [Iv s, Bv z, Iv o]), (7, [Iv y3, Iv m3, Iv d3, Iv s3, Bv z3, Iv o3])] ?_)
  refine vc_seq (vc_seqr rfl (iQ 2 ?_))
  cases g1
  · skip
    refine iQ 12 (iU .not (.bool false) (some 40) ?_)
    obtain ⟨i1, i2, i3⟩ := or_f h1 rfl
    intro c40 hc40
    refine iQ 1 ?_
    obtain rfl : c40 = true := hc40.2 (by simp)
    refine iQ 2 (iB .neq 29 (.agg #[.int .i64 y, .int .i64 m, .int .i64 d]) (.agg #[.int .i64 0, .int .i64 0, .int .i64 0]) (some 44) ?_)
    intro c44 hc44
    try simp only [Array.mk.injEq, List.cons.injEq, Value.int.injEq, Value.bool.injEq, Value.string.injEq, true_and, and_true] at hc44
    refine iQ 3 ?_
    obtain rfl : c44 = false := bff hc44 (by simp [i1, i2, i3])
    refine iQ 2 ?_
    cases g2
    · skip
      refine iQ 13 (iU .not (.bool false) (some 63) ?_)
      obtain ⟨e1, e2, e3⟩ := or_f h2 rfl
      intro c63 hc63
      refine iQ 1 ?_
      obtain rfl : c63 = true := hc63.2 (by simp)
      refine iQ 2 (iB .neq 31 (.agg #[.int .i64 s, .bool z, .int .i64 o]) (.agg #[.int .i64 0, .bool false, .int .i64 0]) (some 67) ?_)
      intro c67 hc67
      try simp only [Array.mk.injEq, List.cons.injEq, Value.int.injEq, Value.bool.injEq, Value.string.injEq, true_and, and_true] at hc67
      refine iQ 2 (iE 90 [(0, .d (Sv (tx l))), (2, Ba false), (3, .p 3 0), (5, .p 5 0), (7, .p 7 0), (8, Ba g3), (10, Ba false), (69, Ba c67)] [(3, [Iv y, Iv m, Iv d]), (5, [Iv s, Bv z, Iv o]), (7, [Iv y3, Iv m3, Iv d3, Iv s3, Bv z3, Iv o3])] ?_)
      obtain rfl : c67 = false := bff hc67 (by simp [e1, e2, e3])
      refine iF (vc_skip (seq_n (vc_seqr rfl (iQ 2 ?_))))
      cases g3
      · skip
        refine iQ 11 (iU .not (.bool false) (some 83) ?_)
        obtain ⟨a1, a2, a3, a4, a5, a6⟩ := or_f h3 rfl
        intro c83 hc83
        refine iQ 1 ?_
        obtain rfl : c83 = true := hc83.2 (by simp)
        refine iQ 2 (iB .eql 33 (.agg #[.int .i64 y3, .int .i64 m3, .int .i64 d3, .int .i64 s3, .bool z3, .int .i64 o3]) (.agg #[.int .i64 0, .int .i64 0, .int .i64 0, .int .i64 0, .bool false, .int .i64 0]) (some 87) ?_)
        intro c87 hc87
        try simp only [Array.mk.injEq, List.cons.injEq, Value.int.injEq, Value.bool.injEq, Value.string.injEq, true_and, and_true] at hc87
        refine iQ 3 (iE 90 [(0, .d (Sv (tx l))), (2, Ba c87), (3, .p 3 0), (5, .p 5 0), (7, .p 7 0), (10, Ba false), (69, Ba false)] [(3, [Iv y, Iv m, Iv d]), (5, [Iv s, Bv z, Iv o]), (7, [Iv y3, Iv m3, Iv d3, Iv s3, Bv z3, Iv o3])] ?_)
        refine vc_ret (iR (Bv c87) ?_)
        rw [hc87.2 (by simp [a1, a2, a3, a4, a5, a6])]
      · skip
        refine iQ 1 ?_
        have hm := or_t h3 (by simp)
        refine iC 29 [.agg [Iv y3, Iv m3, Iv d3, Iv s3, Bv z3, Iv o3]] (some 73) (c_mMayT hm.1 hm.2.1) ?_
        rintro _ rfl
        refine iQ 3 (iC 21 [.agg [Iv y3, Iv m3, Iv d3, Iv s3, Bv z3, Iv o3]] (some 77) (c_lexMomentM hm.1 hm.2.1) ?_)
        rintro _ rfl
        refine iQ 1 (iB .eql 9 (.string (tx (dateL y3 m3 d3 ++ [84] ++ timeL s3 z3 o3))) (.string (tx l)) (some 79) ?_)
        intro c79 hc79
        refine iQ 2 ?_
        obtain rfl : c79 = true := hc79.2 (by rw [hm.2.2])
        refine iQ 9 (iE 90 [(0, .d (Sv (tx l))), (2, Ba true), (3, .p 3 0), (5, .p 5 0), (7, .p 7 0), (10, Ba false), (69, Ba false)] [(3, [Iv y, Iv m, Iv d]), (5, [Iv s, Bv z, Iv o]), (7, [Iv y3, Iv m3, Iv d3, Iv s3, Bv z3, Iv o3])] ?_)
        refine vc_ret (iR (Bv true) ?_)
        rfl
    · skip
      refine iQ 1 ?_
      have ht := or_t h2 (by simp)
      refine iC 28 [.agg [Iv s, Bv z, Iv o]] (some 51) (c_TMayT ht.1) ?_
      rintro _ rfl
      refine iU .not (.bool true) (some 52) ?_
      intro c52 hc52
      refine iQ 1 ?_
      obtain rfl : c52 = false := bff hc52 (by simp)
      refine iQ 1 (iC 19 [.agg [Iv s, Bv z, Iv o]] (some 55) (c_lexTimeM ht.1) ?_)
      rintro _ rfl
      refine iQ 1 (iB .neq 9 (.string (tx (timeL s z o))) (.string (tx l)) (some 57) ?_)
      intro c57 hc57
      refine iQ 4 ?_
      obtain rfl : c57 = false := bff hc57 (by rw [ht.2]; simp)
      refine iQ 1 (iU .not (.bool true) (some 63) ?_)
      intro c63 hc63
      refine iQ 1 ?_
      obtain rfl : c63 = false := bff hc63 (by simp)
      refine iQ 5 (iE 90 [(0, .d (Sv (tx l))), (2, Ba false), (3, .p 3 0), (5, .p 5 0), (7, .p 7 0), (8, Ba g3), (10, Ba false), (69, Ba false)] [(3, [Iv y, Iv m, Iv d]), (5, [Iv s, Bv z, Iv o]), (7, [Iv y3, Iv m3, Iv d3, Iv s3, Bv z3, Iv o3])] ?_)
      refine iF (vc_skip (seq_n (vc_seqr rfl (iQ 2 ?_))))
      cases g3
      · skip
        refine iQ 11 (iU .not (.bool false) (some 83) ?_)
        obtain ⟨a1, a2, a3, a4, a5, a6⟩ := or_f h3 rfl
        intro c83 hc83
        refine iQ 1 ?_
        obtain rfl : c83 = true := hc83.2 (by simp)
        refine iQ 2 (iB .eql 33 (.agg #[.int .i64 y3, .int .i64 m3, .int .i64 d3, .int .i64 s3, .bool z3, .int .i64 o3]) (.agg #[.int .i64 0, .int .i64 0, .int .i64 0, .int .i64 0, .bool false, .int .i64 0]) (some 87) ?_)
        intro c87 hc87
        try simp only [Array.mk.injEq, List.cons.injEq, Value.int.injEq, Value.bool.injEq, Value.string.injEq, true_and, and_true] at hc87
        refine iQ 3 (iE 90 [(0, .d (Sv (tx l))), (2, Ba c87), (3, .p 3 0), (5, .p 5 0), (7, .p 7 0), (10, Ba false), (69, Ba false)] [(3, [Iv y, Iv m, Iv d]), (5, [Iv s, Bv z, Iv o]), (7, [Iv y3, Iv m3, Iv d3, Iv s3, Bv z3, Iv o3])] ?_)
        refine vc_ret (iR (Bv c87) ?_)
        rw [hc87.2 (by simp [a1, a2, a3, a4, a5, a6])]
      · skip
        refine iQ 1 ?_
        have hm := or_t h3 (by simp)
        refine iC 29 [.agg [Iv y3, Iv m3, Iv d3, Iv s3, Bv z3, Iv o3]] (some 73) (c_mMayT hm.1 hm.2.1) ?_
        rintro _ rfl
        refine iQ 3 (iC 21 [.agg [Iv y3, Iv m3, Iv d3, Iv s3, Bv z3, Iv o3]] (some 77) (c_lexMomentM hm.1 hm.2.1) ?_)
        rintro _ rfl
        refine iQ 1 (iB .eql 9 (.string (tx (dateL y3 m3 d3 ++ [84] ++ timeL s3 z3 o3))) (.string (tx l)) (some 79) ?_)
        intro c79 hc79
        refine iQ 2 ?_
        obtain rfl : c79 = true := hc79.2 (by rw [hm.2.2])
        refine iQ 9 (iE 90 [(0, .d (Sv (tx l))), (2, Ba true), (3, .p 3 0), (5, .p 5 0), (7, .p 7 0), (10, Ba false), (69, Ba false)] [(3, [Iv y, Iv m, Iv d]), (5, [Iv s, Bv z, Iv o]), (7, [Iv y3, Iv m3, Iv d3, Iv s3, Bv z3, Iv o3])] ?_)
        refine vc_ret (iR (Bv true) ?_)
        rfl
  · skip
    refine iQ 1 ?_
    have hd := or_t h1 (by simp)
    refine iC 27 [.agg [Iv y, Iv m, Iv d]] (some 29) (c_DateMayT hd.1) ?_
    rintro _ rfl
    refine iU .not (.bool true) (some 30) ?_
    intro c30 hc30
    refine iQ 1 ?_
    obtain rfl : c30 = false := bff hc30 (by simp)
    refine iQ 1 (iC 17 [.agg [Iv y, Iv m, Iv d]] (some 33) (c_lexDateM hd.1) ?_)
    rintro _ rfl
    refine iQ 1 (iB .neq 9 (.string (tx (dateL y m d))) (.string (tx l)) (some 35) ?_)
    intro c35 hc35
    refine iQ 3 ?_
    obtain rfl : c35 = false := bff hc35 (by rw [hd.2]; simp)
    refine iQ 1 (iU .not (.bool true) (some 40) ?_)
    intro c40 hc40
    refine iQ 1 ?_
    obtain rfl : c40 = false := bff hc40 (by simp)
    refine iQ 8 ?_
    cases g2
    · skip
      refine iQ 13 (iU .not (.bool false) (some 63) ?_)
      obtain ⟨e1, e2, e3⟩ := or_f h2 rfl
      intro c63 hc63
      refine iQ 1 ?_
      obtain rfl : c63 = true := hc63.2 (by simp)
      refine iQ 2 (iB .neq 31 (.agg #[.int .i64 s, .bool z, .int .i64 o]) (.agg #[.int .i64 0, .bool false, .int .i64 0]) (some 67) ?_)
      intro c67 hc67
      try simp only [Array.mk.injEq, List.cons.injEq, Value.int.injEq, Value.bool.injEq, Value.string.injEq, true_and, and_true] at hc67
      refine iQ 2 (iE 90 [(0, .d (Sv (tx l))), (2, Ba false), (3, .p 3 0), (5, .p 5 0), (7, .p 7 0), (8, Ba g3), (10, Ba false), (69, Ba c67)] [(3, [Iv y, Iv m, Iv d]), (5, [Iv s, Bv z, Iv o]), (7, [Iv y3, Iv m3, Iv d3, Iv s3, Bv z3, Iv o3])] ?_)
      obtain rfl : c67 = false := bff hc67 (by simp [e1, e2, e3])
      refine iF (vc_skip (seq_n (vc_seqr rfl (iQ 2 ?_))))
      cases g3
      · skip
        refine iQ 11 (iU .not (.bool false) (some 83) ?_)
        obtain ⟨a1, a2, a3, a4, a5, a6⟩ := or_f h3 rfl
        intro c83 hc83
        refine iQ 1 ?_
        obtain rfl : c83 = true := hc83.2 (by simp)
        refine iQ 2 (iB .eql 33 (.agg #[.int .i64 y3, .int .i64 m3, .int .i64 d3, .int .i64 s3, .bool z3, .int .i64 o3]) (.agg #[.int .i64 0, .int .i64 0, .int .i64 0, .int .i64 0, .bool false, .int .i64 0]) (some 87) ?_)
        intro c87 hc87
        try simp only [Array.mk.injEq, List.cons.injEq, Value.int.injEq, Value.bool.injEq, Value.string.injEq, true_and, and_true] at hc87
        refine iQ 3 (iE 90 [(0, .d (Sv (tx l))), (2, Ba c87), (3, .p 3 0), (5, .p 5 0), (7, .p 7 0), (10, Ba false), (69, Ba false)] [(3, [Iv y, Iv m, Iv d]), (5, [Iv s, Bv z, Iv o]), (7, [Iv y3, Iv m3, Iv d3, Iv s3, Bv z3, Iv o3])] ?_)
        refine vc_ret (iR (Bv c87) ?_)
        rw [hc87.2 (by simp [a1, a2, a3, a4, a5, a6])]
      · skip
        refine iQ 1 ?_
        have hm := or_t h3 (by simp)
        refine iC 29 [.agg [Iv y3, Iv m3, Iv d3, Iv s3, Bv z3, Iv o3]] (some 73) (c_mMayT hm.1 hm.2.1) ?_
        rintro _ rfl
        refine iQ 3 (iC 21 [.agg [Iv y3, Iv m3, Iv d3, Iv s3, Bv z3, Iv o3]] (some 77) (c_lexMomentM hm.1 hm.2.1) ?_)
        rintro _ rfl
        refine iQ 1 (iB .eql 9 (.string (tx (dateL y3 m3 d3 ++ [84] ++ timeL s3 z3 o3))) (.string (tx l)) (some 79) ?_)
        intro c79 hc79
        refine iQ 2 ?_
        obtain rfl : c79 = true := hc79.2 (by rw [hm.2.2])
        refine iQ 9 (iE 90 [(0, .d (Sv (tx l))), (2, Ba true), (3, .p 3 0), (5, .p 5 0), (7, .p 7 0), (10, Ba false), (69, Ba false)] [(3, [Iv y, Iv m, Iv d]), (5, [Iv s, Bv z, Iv o]), (7, [Iv y3, Iv m3, Iv d3, Iv s3, Bv z3, Iv o3])] ?_)
        refine vc_ret (iR (Bv true) ?_)
        rfl
    · skip
      refine iQ 1 ?_
      have ht := or_t h2 (by simp)
      refine iC 28 [.agg [Iv s, Bv z, Iv o]] (some 51) (c_TMayT ht.1) ?_
      rintro _ rfl
      refine iU .not (.bool true) (some 52) ?_
      intro c52 hc52
      refine iQ 1 ?_
      obtain rfl : c52 = false := bff hc52 (by simp)
      refine iQ 1 (iC 19 [.agg [Iv s, Bv z, Iv o]] (some 55) (c_lexTimeM ht.1) ?_)
      rintro _ rfl
      refine iQ 1 (iB .neq 9 (.string (tx (timeL s z o))) (.string (tx l)) (some 57) ?_)
      intro c57 hc57
      refine iQ 4 ?_
      obtain rfl : c57 = false := bff hc57 (by rw [ht.2]; simp)
      refine iQ 1 (iU .not (.bool true) (some 63) ?_)
      intro c63 hc63
      refine iQ 1 ?_
      obtain rfl : c63 = false := bff hc63 (by simp)
      refine iQ 5 (iE 90 [(0, .d (Sv (tx l))), (2, Ba false), (3, .p 3 0), (5, .p 5 0), (7, .p 7 0), (8, Ba g3), (10, Ba false), (69, Ba false)] [(3, [Iv y, Iv m, Iv d]), (5, [Iv s, Bv z, Iv o]), (7, [Iv y3, Iv m3, Iv d3, Iv s3, Bv z3, Iv o3])] ?_)
      refine iF (vc_skip (seq_n (vc_seqr rfl (iQ 2 ?_))))
      cases g3
      · skip
        refine iQ 11 (iU .not (.bool false) (some 83) ?_)
        obtain ⟨a1, a2, a3, a4, a5, a6⟩ := or_f h3 rfl
        intro c83 hc83
        refine iQ 1 ?_
        obtain rfl : c83 = true := hc83.2 (by simp)
        refine iQ 2 (iB .eql 33 (.agg #[.int .i64 y3, .int .i64 m3, .int .i64 d3, .int .i64 s3, .bool z3, .int .i64 o3]) (.agg #[.int .i64 0, .int .i64 0, .int .i64 0, .int .i64 0, .bool false, .int .i64 0]) (some 87) ?_)
        intro c87 hc87
        try simp only [Array.mk.injEq, List.cons.injEq, Value.int.injEq, Value.bool.injEq, Value.string.injEq, true_and, and_true] at hc87
        refine iQ 3 (iE 90 [(0, .d (Sv (tx l))), (2, Ba c87), (3, .p 3 0), (5, .p 5 0), (7, .p 7 0), (10, Ba false), (69, Ba false)] [(3, [Iv y, Iv m, Iv d]), (5, [Iv s, Bv z, Iv o]), (7, [Iv y3, Iv m3, Iv d3, Iv s3, Bv z3, Iv o3])] ?_)
        refine vc_ret (iR (Bv c87) ?_)
        rw [hc87.2 (by simp [a1, a2, a3, a4, a5, a6])]
      · skip
        refine iQ 1 ?_
        have hm := or_t h3 (by simp)
        refine iC 29 [.agg [Iv y3, Iv m3, Iv d3, Iv s3, Bv z3, Iv o3]] (some 73) (c_mMayT hm.1 hm.2.1) ?_
        rintro _ rfl
        refine iQ 3 (iC 21 [.agg [Iv y3, Iv m3, Iv d3, Iv s3, Bv z3, Iv o3]] (some 77) (c_lexMomentM hm.1 hm.2.1) ?_)
        rintro _ rfl
        refine iQ 1 (iB .eql 9 (.string (tx (dateL y3 m3 d3 ++ [84] ++ timeL s3 z3 o3))) (.string (tx l)) (some 79) ?_)
        intro c79 hc79
        refine iQ 2 ?_
        obtain rfl : c79 = true := hc79.2 (by rw [hm.2.2])
        refine iQ 9 (iE 90 [(0, .d (Sv (tx l))), (2, Ba true), (3, .p 3 0), (5, .p 5 0), (7, .p 7 0), (10, Ba false), (69, Ba false)] [(3, [Iv y, Iv m, Iv d]), (5, [Iv s, Bv z, Iv o]), (7, [Iv y3, Iv m3, Iv d3, Iv s3, Bv z3, Iv o3])] ?_)
        refine vc_ret (iR (Bv true) ?_)
        rfl
end Go.Proofs.YtjpaedjhihiakaaDoor
