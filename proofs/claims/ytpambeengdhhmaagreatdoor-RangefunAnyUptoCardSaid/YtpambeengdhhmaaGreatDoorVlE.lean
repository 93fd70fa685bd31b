/-
  value.Of: a value out of any plain datum.
-/
import Derived.Test.YtpambeengdhhmaaGreatDoorVlX
import Derived.Test.YtpambeengdhhmaaGreatDoorLexU
import Derived.Test.YtpambeengdhhmaaGreatDoorNrW
namespace Go.Proofs.YtpambeengdhhmaaGreatDoor
open Go.RowKit
set_option linter.unusedVariables false
set_option linter.unusedSimpArgs false
set_option maxRecDepth 100000

/-- A plain datum: its kind, its text, its items, its names, whether its ends belong to it. -/
inductive Dm where
  | mk (k : Int) (t : L8) (is : List Dm) (ns : List L8) (p q : Bool)
mutual
def Dm.cells : Dm → List DV
  | .mk k t is ns p q => [.v (.int .i64 k), .v (.string (tx t)), .sl is.length (cellsL is), .sl ns.length (txsD ns), .v (.bool p), .v (.bool q)]
def cellsL : List Dm → List DV
  | [] => []
  | d :: ds => d.cells ++ cellsL ds
end
mutual
def Dm.small : Dm → Prop
  | .mk k t is ns p q => t.length ≤ 1073741824 ∧ is.length ≤ 1073741824 ∧ ns.length ≤ 1073741824 ∧ (∀ n ∈ ns, n.length ≤ 1073741824) ∧ smallL is
def smallL : List Dm → Prop
  | [] => True
  | d :: ds => d.small ∧ smallL ds
end
theorem smallL_iff : ∀ {ds : List Dm}, smallL ds ↔ ∀ d ∈ ds, d.small
  | [] => by simp [smallL]
  | d :: ds => by rw [smallL, smallL_iff]; simp
theorem cells_len (d : Dm) : d.cells.length = 6 := by cases d; simp [Dm.cells]
theorem cellsL_get : ∀ {ds : List Dm} {k : Nat} {d : Dm}, ds[k]? = some d → ((cellsL ds).drop (k * 6)).take 6 = d.cells
  | [], k, d, h => by simp at h
  | e :: ds, 0, d, h => by
    have : e = d := by simpa using h
    subst this
    have := cells_len e
    rw [cellsL, Nat.zero_mul, List.drop_zero, List.take_append_of_le_length (by omega), List.take_of_length_le (by omega)]
  | e :: ds, k + 1, d, h => by
    have := cells_len e
    rw [cellsL, show (k + 1) * 6 = e.cells.length + k * 6 by omega, ← List.drop_drop, List.drop_left]
    exact cellsL_get (by simpa using h)
abbrev dDat (k : Int) (t : L8) (is : List Dm) (ns : List L8) (p q : Bool) : DV := .agg [.v (.int .i64 k), .v (.string (tx t)), .sl is.length (cellsL is), .sl ns.length (txsD ns), .v (.bool p), .v (.bool q)]

set_option maxHeartbeats 3200000 in
theorem v_read {k : Int} {l : L8} (hL : l.length ≤ 1073741824) : HasC Tryz.prog 65 [.v (.int .i64 k), .v (.string (tx l))] (fun r => ∃ v, IsV r v ∧ v.ok) := by
 refine HasC.of [] (fn := Tryz.f65) tyOk mixed (fun args w => Tryz.call65 args w) Tryz.func65 rfl (by kernel_rfl) (Nat.le_of_ble_eq_true rfl) (⟨_, .null, IsV.null, null_ok⟩) ?_
 refine vc_seqr rfl (iQ 1 (iE 94 [(0, Ia k), (1, .d (Sv (tx l))), (4, .p 4 0)] [(4, [.v (.nilIface)])] ?_))
 refine vc_seq (vc_seqr rfl (iQ 1 (iE 94 [(1, .d (Sv (tx l))), (4, .p 4 0), (17, Ia k)] [(4, [.v (.nilIface)])] ?_)))
 refine vc_block (vc_seqr rfl (iB .eql 36 (.int .i64 k) (.int .i64 2) (some 19) ?_))
 intro c19 hc19
 refine iQ 1 (iE 94 [(1, .d (Sv (tx l))), (4, .p 4 0), (17, Ia k), (18, Ba c19)] [(4, [.v (.nilIface)])] ?_)
 cases c19
 ·replace hc19 := bf hc19
  refine iF (vc_seqr rfl (iB .eql 36 (.int .i64 k) (.int .i64 3) (some 30) ?_))
  intro c30 hc30
  refine iQ 1 (iE 94 [(1, .d (Sv (tx l))), (4, .p 4 0), (17, Ia k), (18, Ba false), (29, Ba c30)] [(4, [.v (.nilIface)])] ?_)
  cases c30
  ·replace hc30 := bf hc30
   refine iF (vc_seqr rfl (iB .eql 36 (.int .i64 k) (.int .i64 4) (some 40) ?_))
   intro c40 hc40
   refine iQ 1 (iE 94 [(1, .d (Sv (tx l))), (4, .p 4 0), (17, Ia k), (18, Ba false), (29, Ba false), (39, Ba c40)] [(4, [.v (.nilIface)])] ?_)
   cases c40
   ·replace hc40 := bf hc40
    refine iF (vc_seqr rfl (iB .eql 36 (.int .i64 k) (.int .i64 5) (some 44) ?_))
    intro c44 hc44
    refine iQ 1 (iE 94 [(1, .d (Sv (tx l))), (4, .p 4 0), (17, Ia k), (18, Ba false), (29, Ba false), (39, Ba false), (43, Ba c44)] [(4, [.v (.nilIface)])] ?_)
    cases c44
    ·replace hc44 := bf hc44
     refine iF (vc_seqr rfl (iB .eql 36 (.int .i64 k) (.int .i64 6) (some 54) ?_))
     intro c54 hc54
     refine iQ 1 (iE 94 [(1, .d (Sv (tx l))), (4, .p 4 0), (17, Ia k), (18, Ba false), (29, Ba false), (39, Ba false), (43, Ba false), (53, Ba c54)] [(4, [.v (.nilIface)])] ?_)
     cases c54
     ·replace hc54 := bf hc54
      refine iF (vc_seqr rfl (iB .eql 36 (.int .i64 k) (.int .i64 7) (some 64) ?_))
      intro c64 hc64
      refine iQ 1 (iE 94 [(1, .d (Sv (tx l))), (4, .p 4 0), (17, Ia k), (18, Ba false), (29, Ba false), (39, Ba false), (43, Ba false), (53, Ba false), (63, Ba c64)] [(4, [.v (.nilIface)])] ?_)
      cases c64
      ·replace hc64 := bf hc64
       refine iF (vc_seqr rfl (iB .eql 36 (.int .i64 k) (.int .i64 8) (some 74) ?_))
       intro c74 hc74
       refine iQ 1 (iE 94 [(1, .d (Sv (tx l))), (4, .p 4 0), (17, Ia k), (18, Ba false), (29, Ba false), (39, Ba false), (43, Ba false), (53, Ba false), (63, Ba false), (73, Ba c74)] [(4, [.v (.nilIface)])] ?_)
       cases c74
       ·replace hc74 := bf hc74
        refine iF (vc_seqr rfl (iB .eql 36 (.int .i64 k) (.int .i64 9) (some 84) ?_))
        intro c84 hc84
        refine iQ 1 (iE 94 [(1, .d (Sv (tx l))), (4, .p 4 0), (17, Ia k), (18, Ba false), (29, Ba false), (39, Ba false), (43, Ba false), (53, Ba false), (63, Ba false), (73, Ba false), (83, Ba c84)] [(4, [.v (.nilIface)])] ?_)
        cases c84
        ·replace hc84 := bf hc84
         refine iF (vc_skip (block_n (seq_n (vc_seqr rfl (iQ 2 (iE 94 [(1, .d (Sv (tx l))), (4, .p 4 0), (17, Ia k), (18, Ba false), (29, Ba false), (39, Ba false), (43, Ba false), (53, Ba false), (63, Ba false), (73, Ba false), (83, Ba false)] [(4, [.v (.nilIface)])] ?_))))))
         refine vc_ret (iR (.agg [.v (.nilIface)]) ?_)
         exact ⟨_, IsV.null, null_ok⟩
        ·replace hc84 := bt hc84
         refine iT (vc_seqr rfl (iQ 1 (iC 116 [Sv (tx l)] (some 87) (c_ReadMonths (l := l) (by omega)) ?_)))
         rintro _ ⟨n, ok, rfl, hd⟩
         refine iQ 5 (iE 94 [(1, .d (Sv (tx l))), (4, .p 4 0), (15, Ia n), (16, Ba ok), (17, Ia k), (18, Ba false), (29, Ba false), (39, Ba false), (43, Ba false), (53, Ba false), (63, Ba false), (73, Ba false), (83, Ba true)] [(4, [.v (.nilIface)])] ?_)
         refine vc_seqr rfl (iQ 1 (iE 94 [(1, .d (Sv (tx l))), (4, .p 4 0), (15, Ia n), (17, Ia k), (18, Ba false), (29, Ba false), (39, Ba false), (43, Ba false), (53, Ba false), (63, Ba false), (73, Ba false), (83, Ba true), (90, Ba ok)] [(4, [.v (.nilIface)])] ?_))
         cases ok
         ·skip
          refine iF (vc_skip (block_n (seq_n (vc_seqr rfl (iQ 2 (iE 94 [(1, .d (Sv (tx l))), (4, .p 4 0), (15, Ia n), (17, Ia k), (18, Ba false), (29, Ba false), (39, Ba false), (43, Ba false), (53, Ba false), (63, Ba false), (73, Ba false), (83, Ba true), (90, Ba false)] [(4, [.v (.nilIface)])] ?_))))))
          refine vc_ret (iR (.agg [.v (.nilIface)]) ?_)
          exact ⟨_, IsV.null, null_ok⟩
         ·skip
          refine iT (vc_seqr rfl (iQ 1 (iC 117 [Iv n] (some 92) (c_vMonths) ?_)))
          rintro _ rfl
          refine iQ 1 (iE 94 [(1, .d (Sv (tx l))), (4, .p 4 0), (17, Ia k), (18, Ba false), (29, Ba false), (39, Ba false), (43, Ba false), (53, Ba false), (63, Ba false), (73, Ba false), (83, Ba true), (90, Ba true)] [(4, [.bx (monthsV n).enc])] ?_)
          refine vc_ret (block_r (seq_r (iR (.agg [.bx (monthsV n).enc]) ?_)))
          exact ⟨_, .inl rfl, months_ok⟩
       ·replace hc74 := bt hc74
        refine iT (vc_seqr rfl (iQ 1 (iC 114 [Sv (tx l)] (some 77) (c_ReadDays (l := l) (by omega)) ?_)))
        rintro _ ⟨n, ok, rfl, hd⟩
        refine iQ 5 (iE 94 [(1, .d (Sv (tx l))), (4, .p 4 0), (13, Ia n), (14, Ba ok), (17, Ia k), (18, Ba false), (29, Ba false), (39, Ba false), (43, Ba false), (53, Ba false), (63, Ba false), (73, Ba true)] [(4, [.v (.nilIface)])] ?_)
        refine vc_seqr rfl (iQ 1 (iE 94 [(1, .d (Sv (tx l))), (4, .p 4 0), (13, Ia n), (17, Ia k), (18, Ba false), (29, Ba false), (39, Ba false), (43, Ba false), (53, Ba false), (63, Ba false), (73, Ba true), (80, Ba ok)] [(4, [.v (.nilIface)])] ?_))
        cases ok
        ·skip
         refine iF (vc_skip (block_n (seq_n (vc_seqr rfl (iQ 2 (iE 94 [(1, .d (Sv (tx l))), (4, .p 4 0), (13, Ia n), (17, Ia k), (18, Ba false), (29, Ba false), (39, Ba false), (43, Ba false), (53, Ba false), (63, Ba false), (73, Ba true), (80, Ba false)] [(4, [.v (.nilIface)])] ?_))))))
         refine vc_ret (iR (.agg [.v (.nilIface)]) ?_)
         exact ⟨_, IsV.null, null_ok⟩
        ·skip
         refine iT (vc_seqr rfl (iQ 1 (iC 115 [Iv n] (some 82) (c_vDays) ?_)))
         rintro _ rfl
         refine iQ 1 (iE 94 [(1, .d (Sv (tx l))), (4, .p 4 0), (17, Ia k), (18, Ba false), (29, Ba false), (39, Ba false), (43, Ba false), (53, Ba false), (63, Ba false), (73, Ba true), (80, Ba true)] [(4, [.bx (daysV n).enc])] ?_)
         refine vc_ret (block_r (seq_r (iR (.agg [.bx (daysV n).enc]) ?_)))
         exact ⟨_, .inl rfl, days_ok⟩
      ·replace hc64 := bt hc64
       refine iT (vc_seqr rfl (iQ 1 (iC 112 [Sv (tx l)] (some 67) (c_ReadMoment (l := l) (by omega)) ?_)))
       rintro _ ⟨y, m, d, s, z, o, ok, rfl, hd⟩
       refine iQ 6 (iE 94 [(1, .d (Sv (tx l))), (4, .p 4 0), (11, .p 11 0), (12, Ba ok), (17, Ia k), (18, Ba false), (29, Ba false), (39, Ba false), (43, Ba false), (53, Ba false), (63, Ba true)] [(4, [.v (.nilIface)]), (11, [Iv y, Iv m, Iv d, Iv s, Bv z, Iv o])] ?_)
       refine vc_seqr rfl (iQ 1 (iE 94 [(1, .d (Sv (tx l))), (4, .p 4 0), (11, .p 11 0), (17, Ia k), (18, Ba false), (29, Ba false), (39, Ba false), (43, Ba false), (53, Ba false), (63, Ba true), (70, Ba ok)] [(4, [.v (.nilIface)]), (11, [Iv y, Iv m, Iv d, Iv s, Bv z, Iv o])] ?_))
       cases ok
       ·skip
        refine iF (vc_skip (block_n (seq_n (vc_seqr rfl (iQ 2 (iE 94 [(1, .d (Sv (tx l))), (4, .p 4 0), (11, .p 11 0), (17, Ia k), (18, Ba false), (29, Ba false), (39, Ba false), (43, Ba false), (53, Ba false), (63, Ba true), (70, Ba false)] [(4, [.v (.nilIface)]), (11, [Iv y, Iv m, Iv d, Iv s, Bv z, Iv o])] ?_))))))
        refine vc_ret (iR (.agg [.v (.nilIface)]) ?_)
        exact ⟨_, IsV.null, null_ok⟩
       ·skip
        refine iT (vc_seqr rfl (iQ 1 (iC 113 [.agg [Iv y, Iv m, Iv d, Iv s, Bv z, Iv o]] (some 72) (c_vMoment) ?_)))
        rintro _ rfl
        refine iQ 1 (iE 94 [(1, .d (Sv (tx l))), (4, .p 4 0), (11, .p 11 0), (17, Ia k), (18, Ba false), (29, Ba false), (39, Ba false), (43, Ba false), (53, Ba false), (63, Ba true), (70, Ba true)] [(4, [.bx (momV y m d s z o).enc]), (11, [Iv y, Iv m, Iv d, Iv s, Bv z, Iv o])] ?_)
        refine vc_ret (block_r (seq_r (iR (.agg [.bx (momV y m d s z o).enc]) ?_)))
        exact ⟨_, .inl rfl, mom_ok⟩
     ·replace hc54 := bt hc54
      refine iT (vc_seqr rfl (iQ 1 (iC 110 [Sv (tx l)] (some 57) (c_ReadTime (l := l) (by omega)) ?_)))
      rintro _ ⟨s, z, o, ok, rfl, hd⟩
      refine iQ 6 (iE 94 [(1, .d (Sv (tx l))), (4, .p 4 0), (9, .p 9 0), (10, Ba ok), (17, Ia k), (18, Ba false), (29, Ba false), (39, Ba false), (43, Ba false), (53, Ba true)] [(4, [.v (.nilIface)]), (9, [Iv s, Bv z, Iv o])] ?_)
      refine vc_seqr rfl (iQ 1 (iE 94 [(1, .d (Sv (tx l))), (4, .p 4 0), (9, .p 9 0), (17, Ia k), (18, Ba false), (29, Ba false), (39, Ba false), (43, Ba false), (53, Ba true), (60, Ba ok)] [(4, [.v (.nilIface)]), (9, [Iv s, Bv z, Iv o])] ?_))
      cases ok
      ·skip
       refine iF (vc_skip (block_n (seq_n (vc_seqr rfl (iQ 2 (iE 94 [(1, .d (Sv (tx l))), (4, .p 4 0), (9, .p 9 0), (17, Ia k), (18, Ba false), (29, Ba false), (39, Ba false), (43, Ba false), (53, Ba true), (60, Ba false)] [(4, [.v (.nilIface)]), (9, [Iv s, Bv z, Iv o])] ?_))))))
       refine vc_ret (iR (.agg [.v (.nilIface)]) ?_)
       exact ⟨_, IsV.null, null_ok⟩
      ·skip
       refine iT (vc_seqr rfl (iQ 1 (iC 111 [.agg [Iv s, Bv z, Iv o]] (some 62) (c_vTime) ?_)))
       rintro _ rfl
       refine iQ 1 (iE 94 [(1, .d (Sv (tx l))), (4, .p 4 0), (9, .p 9 0), (17, Ia k), (18, Ba false), (29, Ba false), (39, Ba false), (43, Ba false), (53, Ba true), (60, Ba true)] [(4, [.bx (timeV s z o).enc]), (9, [Iv s, Bv z, Iv o])] ?_)
       refine vc_ret (block_r (seq_r (iR (.agg [.bx (timeV s z o).enc]) ?_)))
       exact ⟨_, .inl rfl, time_ok⟩
    ·replace hc44 := bt hc44
     refine iT (vc_seqr rfl (iQ 1 (iC 108 [Sv (tx l)] (some 47) (c_ReadDate (l := l) (by omega)) ?_)))
     rintro _ ⟨y, m, d, ok, rfl, hd⟩
     refine iQ 6 (iE 94 [(1, .d (Sv (tx l))), (4, .p 4 0), (7, .p 7 0), (8, Ba ok), (17, Ia k), (18, Ba false), (29, Ba false), (39, Ba false), (43, Ba true)] [(4, [.v (.nilIface)]), (7, [Iv y, Iv m, Iv d])] ?_)
     refine vc_seqr rfl (iQ 1 (iE 94 [(1, .d (Sv (tx l))), (4, .p 4 0), (7, .p 7 0), (17, Ia k), (18, Ba false), (29, Ba false), (39, Ba false), (43, Ba true), (50, Ba ok)] [(4, [.v (.nilIface)]), (7, [Iv y, Iv m, Iv d])] ?_))
     cases ok
     ·skip
      refine iF (vc_skip (block_n (seq_n (vc_seqr rfl (iQ 2 (iE 94 [(1, .d (Sv (tx l))), (4, .p 4 0), (7, .p 7 0), (17, Ia k), (18, Ba false), (29, Ba false), (39, Ba false), (43, Ba true), (50, Ba false)] [(4, [.v (.nilIface)]), (7, [Iv y, Iv m, Iv d])] ?_))))))
      refine vc_ret (iR (.agg [.v (.nilIface)]) ?_)
      exact ⟨_, IsV.null, null_ok⟩
     ·skip
      refine iT (vc_seqr rfl (iQ 1 (iC 109 [.agg [Iv y, Iv m, Iv d]] (some 52) (c_vDate) ?_)))
      rintro _ rfl
      refine iQ 1 (iE 94 [(1, .d (Sv (tx l))), (4, .p 4 0), (7, .p 7 0), (17, Ia k), (18, Ba false), (29, Ba false), (39, Ba false), (43, Ba true), (50, Ba true)] [(4, [.bx (dayV y m d).enc]), (7, [Iv y, Iv m, Iv d])] ?_)
      refine vc_ret (block_r (seq_r (iR (.agg [.bx (dayV y m d).enc]) ?_)))
      exact ⟨_, .inl rfl, day_ok⟩
   ·replace hc40 := bt hc40
    refine iT (vc_seqr rfl (iQ 1 (iC 34 [Sv (tx l)] (some 42) (c_vText (Nat.le_trans hL (by decide))) ?_)))
    rintro _ rfl
    refine iQ 1 (iE 94 [(1, .d (Sv (tx l))), (4, .p 4 0), (17, Ia k), (18, Ba false), (29, Ba false), (39, Ba true)] [(4, [.bx (textV l).enc])] ?_)
    refine vc_ret (block_r (seq_r (iR (.agg [.bx (textV l).enc]) ?_)))
    exact ⟨_, .inl rfl, text_ok⟩
  ·replace hc30 := bt hc30
   obtain ⟨g, n, e, ok, hT⟩ : ∃ a b c d, signT l = (a, b, c, d) := ⟨_, _, _, _, rfl⟩
   refine iT (vc_seqr rfl (iQ 1 (iC 107 [Sv (tx l)] (some 33) (c_SignedE (l := l) rfl hT (Nat.le_trans hL (by decide))) ?_)))
   rintro _ rfl
   refine iQ 6 (iE 94 [(1, .d (Sv (tx l))), (4, .p 4 0), (5, .p 5 0), (6, Ba ok), (17, Ia k), (18, Ba false), (29, Ba true)] [(4, [.v (.nilIface)]), (5, [Bv g, Hw n, Lw n, Iv e])] ?_)
   refine vc_seqr rfl (iQ 1 (iE 94 [(1, .d (Sv (tx l))), (4, .p 4 0), (5, .p 5 0), (17, Ia k), (18, Ba false), (29, Ba true), (36, Ba ok)] [(4, [.v (.nilIface)]), (5, [Bv g, Hw n, Lw n, Iv e])] ?_))
   cases ok
   ·skip
    refine iF (vc_skip (block_n (seq_n (vc_seqr rfl (iQ 2 (iE 94 [(1, .d (Sv (tx l))), (4, .p 4 0), (5, .p 5 0), (17, Ia k), (18, Ba false), (29, Ba true), (36, Ba false)] [(4, [.v (.nilIface)]), (5, [Bv g, Hw n, Lw n, Iv e])] ?_))))))
    refine vc_ret (iR (.agg [.v (.nilIface)]) ?_)
    exact ⟨_, IsV.null, null_ok⟩
   ·skip
    refine iT (vc_seqr rfl (iQ 1 (iC 33 [.agg [Bv g, Hw n, Lw n, Iv e]] (some 38) (c_vNum (Nat.lt_trans (signT_rng hT).1 e34_lt)) ?_)))
    rintro _ rfl
    refine iQ 1 (iE 94 [(1, .d (Sv (tx l))), (4, .p 4 0), (5, .p 5 0), (17, Ia k), (18, Ba false), (29, Ba true), (36, Ba true)] [(4, [.bx (numV g n e).enc]), (5, [Bv g, Hw n, Lw n, Iv e])] ?_)
    refine vc_ret (block_r (seq_r (iR (.agg [.bx (numV g n e).enc]) ?_)))
    exact ⟨_, .inl rfl, num_ok⟩
 ·replace hc19 := bt hc19
  refine iT (vc_seqr rfl (iQ 1 (iB .eql 9 (.string (tx l)) (.string (⟨#[116, 114, 117, 101]⟩)) (some 21) ?_)))
  intro c21 hc21
  refine iQ 1 ?_
  cases c21
  ·replace hc21 := bf hc21
   refine iQ 1 (iB .eql 9 (.string (tx l)) (.string (⟨#[102, 97, 108, 115, 101]⟩)) (some 24) ?_)
   intro c24 hc24
   refine iQ 1 (iE 94 [(1, .d (Sv (tx l))), (4, .p 4 0), (17, Ia k), (18, Ba true), (25, Ba c24)] [(4, [.v (.nilIface)])] ?_)
   cases c24
   ·replace hc24 := bf hc24
    refine iF (vc_skip (block_n (seq_n (vc_seqr rfl (iQ 2 (iE 94 [(1, .d (Sv (tx l))), (4, .p 4 0), (17, Ia k), (18, Ba true), (25, Ba false)] [(4, [.v (.nilIface)])] ?_))))))
    refine vc_ret (iR (.agg [.v (.nilIface)]) ?_)
    exact ⟨_, IsV.null, null_ok⟩
   ·replace hc24 := bt hc24
    refine iT (vc_seqr rfl (iQ 1 (iB .eql 9 (.string (tx l)) (.string (⟨#[116, 114, 117, 101]⟩)) (some 27) ?_)))
    intro c27 hc27
    refine iC 36 [Bv c27] (some 28) (c_vBool (p := c27)) ?_
    rintro _ rfl
    refine iQ 1 (iE 94 [(1, .d (Sv (tx l))), (4, .p 4 0), (17, Ia k), (18, Ba true), (25, Ba true)] [(4, [.bx (Vl.bool c27).enc])] ?_)
    refine vc_ret (block_r (seq_r (iR (.agg [.bx (Vl.bool c27).enc]) ?_)))
    exact ⟨_, .inl rfl, bool_ok⟩
  ·replace hc21 := bt hc21
   refine iQ 3 (iE 94 [(1, .d (Sv (tx l))), (4, .p 4 0), (17, Ia k), (18, Ba true), (25, Ba true)] [(4, [.v (.nilIface)])] ?_)
   refine iT (vc_seqr rfl (iQ 1 (iB .eql 9 (.string (tx l)) (.string (⟨#[116, 114, 117, 101]⟩)) (some 27) ?_)))
   intro c27 hc27
   refine iC 36 [Bv c27] (some 28) (c_vBool (p := c27)) ?_
   rintro _ rfl
   refine iQ 1 (iE 94 [(1, .d (Sv (tx l))), (4, .p 4 0), (17, Ia k), (18, Ba true), (25, Ba true)] [(4, [.bx (Vl.bool c27).enc])] ?_)
   refine vc_ret (block_r (seq_r (iR (.agg [.bx (Vl.bool c27).enc]) ?_)))
   exact ⟨_, .inl rfl, bool_ok⟩
theorem c_read {k : Int} {l : L8} (hL : l.length ≤ 1073741824) : HasC Tryz.prog 65 [.v (.int .i64 k), .v (.string (tx l))] (fun r => ∃ v, r = VV v ∧ v.ok) := (v_read hL).isV

/-- What Of tells. -/
def OfQ (v : Vl) (ok : Bool) : Prop := v.ok ∧ (ok = false → v = .null)
theorem okL_snoc {vs : List Vl} {v : Vl} (h : okL vs) (hv : v.ok) : okL (vs ++ [v]) := okL_iff.2 fun x hx => by
  rcases List.mem_append.1 hx with h1 | h1
  · exact okL_iff.1 h x h1
  · simp at h1; rw [h1]; exact hv
theorem encL_snoc {vs : List Vl} {v : Vl} : encL vs ++ [.bx v.enc] = encL (vs ++ [v]) := by simp [encL_map]

theorem two_of {vs : List Vl} (h : vs.length = 2) : ∃ a b, vs = [a, b] := by
  match vs, h with
  | [a, b], _ => exact ⟨a, b, rfl⟩
set_option maxHeartbeats 3200000 in
theorem v_of {k : Int} {t : L8} {is : List Dm} {ns : List L8} {p q : Bool} (hs : (Dm.mk k t is ns p q).small) (ih : ∀ (k : Int) (t : L8) (is' : List Dm) (ns : List L8) (p q : Bool), Dm.mk k t is' ns p q ∈ is → HasC Tryz.prog 39 [dDat k t is' ns p q] (fun y => ∃ v ok, y = .tup [VV v, .v (.bool ok)] ∧ OfQ v ok)) : HasC Tryz.prog 64 [.agg [.v (.int .i64 k), .v (.string (tx t)), .sl ((is).length) (cellsL (is)), .sl ((ns).length) (txsD (ns)), .v (.bool p), .v (.bool q)]] (fun y => ∃ x v ok, y = .tup [x, .v (.bool ok)] ∧ IsV x v ∧ OfQ v ok) := by
 refine HasC.of [] (fn := Tryz.f64) tyOk mixed (fun args w => Tryz.call64 args w) Tryz.func64 rfl (by kernel_rfl) (Nat.le_of_ble_eq_true rfl) (⟨_, _, .null, false, rfl, IsV.null, null_ok, fun _ => rfl⟩) ?_
 rw [Dm.small] at hs
 obtain ⟨hs1, hs2, hs3, hs4, hs5⟩ := hs
 refine vc_seqr rfl (iQ 3 (iE 76 [(1, .p 1 0), (2, .p 2 0), (3, Ba false)] [(1, [Iv k, Sv (tx t), .sl ((is).length) (cellsL (is)), .sl ((ns).length) (txsD (ns)), Bv p, Bv q]), (2, [.v (.nilIface)])] ?_))
 refine vc_seq (vc_seqr rfl (iQ 2 (iB .neq 9 (.string (tx t)) (.string (⟨#[]⟩)) (some 12) ?_)))
 intro c12 hc12
 refine iQ 1 ?_
 cases c12
 ·replace hc12 := bf hc12
  refine iQ 2 (iB .neq 36 (.int .i64 k) (.int .i64 11) (some 16) ?_)
  intro c16 hc16
  refine iQ 1 ?_
  cases c16
  ·replace hc16 := bf hc16
   refine iQ 6 (iE 76 [(1, .p 1 0), (2, .p 2 0), (3, Ba false), (23, Ba false)] [(1, [Iv k, Sv (tx t), .sl ((is).length) (cellsL (is)), .sl ((ns).length) (txsD (ns)), Bv p, Bv q]), (2, [.v (.nilIface)])] ?_)
   refine iF (vc_skip (seq_n (vc_seqr rfl (iQ 1 (iE 76 [(1, .p 1 0), (2, .p 2 0), (3, Ba false), (4, .w (.sl 0 []) none), (23, Ba false)] [(1, [Iv k, Sv (tx t), .sl ((is).length) (cellsL (is)), .sl ((ns).length) (txsD (ns)), Bv p, Bv q]), (2, [.v (.nilIface)])] ?_)))))
   refine vc_seq (vc_seqr rfl (iQ 4 (iE 76 [(1, .p 1 0), (2, .p 2 0), (3, Ba false), (4, .w (.sl 0 []) none), (23, Ba false), (26, .d (.sl ((is).length) (cellsL (is)))), (27, Ia ((((is).length : Nat) : Int))), (28, Ia 0)] [(1, [Iv k, Sv (tx t), .sl ((is).length) (cellsL (is)), .sl ((ns).length) (txsD (ns)), Bv p, Bv q]), (2, [.v (.nilIface)])] ?_)))
   refine vc_block (vc_loop 76 (fun (vcx : Nat × (List Vl) × Int) => match vcx with | (j, vs, z) => [(1, .p 1 0), (2, .p 2 0), (3, Ba false), (4, .w (.sl ((vs).length) (encL (vs))) (some ⟨4, 0, 30, 1⟩)), (23, Ba false), (26, .d (.sl ((is).length) (cellsL (is)))), (27, Ia ((((is).length : Nat) : Int))), (28, Ia z)]) (fun (vcx : Nat × (List Vl) × Int) => match vcx with | (j, vs, z) => [(1, [Iv k, Sv (tx t), .sl ((is).length) (cellsL (is)), .sl ((ns).length) (txsD (ns)), Bv p, Bv q]), (2, [.v (.nilIface)])]) (fun (vcx : Nat × (List Vl) × Int) => match vcx with | (j, vs, z) => z = j ∧ j ≤ is.length ∧ vs.length = j ∧ okL vs) (fun (vcx : Nat × (List Vl) × Int) => match vcx with | (j, vs, z) => is.length - j) ((0, [], 0)) (⟨rfl, Nat.zero_le _, rfl, by rw [okL]; trivial⟩) (by kernel_rfl) (by kernel_rfl) ?_)
   rintro ⟨j, vs, z⟩ hinv
   simp only at hinv
   obtain ⟨h1, h2, h3, h4⟩ := hinv
   refine vc_seqr rfl (iB .lss 3 (.int .i64 z) (.int .i64 ((((is).length : Nat) : Int))) (some 29) ?_)
   intro c29 hc29
   refine iE 76 [(1, .p 1 0), (2, .p 2 0), (3, Ba false), (4, .w (.sl ((vs).length) (encL (vs))) (some ⟨4, 0, 30, 1⟩)), (23, Ba false), (26, .d (.sl ((is).length) (cellsL (is)))), (27, Ia ((((is).length : Nat) : Int))), (28, Ia z), (29, Ba c29)] [(1, [Iv k, Sv (tx t), .sl ((is).length) (cellsL (is)), .sl ((ns).length) (txsD (ns)), Bv p, Bv q]), (2, [.v (.nilIface)])] ?_
   refine vc_seq ?_
   cases c29
   ·replace hc29 := bf hc29
    refine iF (vc_exit (seq_x (loop_x (block_x rfl (seq_n (vc_seqr rfl (iQ 1 (iE 76 [(1, .p 1 0), (2, .p 2 0), (3, Ba false), (4, .w (.sl ((vs).length) (encL (vs))) (some ⟨4, 0, 30, 1⟩)), (9, .p 9 0), (23, Ba false), (26, .d (.sl ((is).length) (cellsL (is)))), (27, Ia ((((is).length : Nat) : Int))), (28, Ia z), (29, Ba false)] [(1, [Iv k, Sv (tx t), .sl ((is).length) (cellsL (is)), .sl ((ns).length) (txsD (ns)), Bv p, Bv q]), (2, [.v (.nilIface)]), (9, [.v (.nilIface)])] ?_))))))))
    refine vc_mid 76 (fun (vcx : Vl) => match vcx with | x => [(1, .p 1 0), (2, .p 2 0), (3, Ba false), (4, .w (.sl ((vs).length) (encL (vs))) (some ⟨4, 0, 30, 1⟩)), (9, .p 9 0), (23, Ba false), (26, .d (.sl ((is).length) (cellsL (is)))), (27, Ia ((((is).length : Nat) : Int))), (28, Ia z), (29, Ba false)]) (fun (vcx : Vl) => match vcx with | x => [(1, [Iv k, Sv (tx t), .sl ((is).length) (cellsL (is)), .sl ((ns).length) (txsD (ns)), Bv p, Bv q]), (2, [.v (.nilIface)]), (9, [.bx (x).enc])]) (fun (vcx : Vl) => match vcx with | x => x.ok) ?_ ?_
    ·rintro x hinv
     simp only at hinv
     refine vc_seqr rfl (iQ 2 (iC 14 [.agg [.bx (x).enc]] (some 74) (c_NullE (v := x)) ?_))
     rintro _ ⟨n, rfl, hn⟩
     refine iU .not (.bool n) (some 75) ?_
     intro c75 hc75
     refine iQ 2 (iE 76 [(1, .p 1 0), (2, .p 2 0), (3, Ba c75), (4, .w (.sl ((vs).length) (encL (vs))) (some ⟨4, 0, 30, 1⟩)), (9, .p 9 0), (23, Ba false), (26, .d (.sl ((is).length) (cellsL (is)))), (27, Ia ((((is).length : Nat) : Int))), (28, Ia z), (29, Ba false)] [(1, [Iv k, Sv (tx t), .sl ((is).length) (cellsL (is)), .sl ((ns).length) (txsD (ns)), Bv p, Bv q]), (2, [.bx (x).enc]), (9, [.bx (x).enc])] ?_)
     refine vc_ret (iS (.agg [.bx (x).enc]) (Bv c75) [] ?_)
     exact ⟨_, x, c75, rfl, .inl rfl, hinv, fun h => (kind_null).1 (hn.1 (by cases n; exact absurd (hc75.2 rfl) (by rw [h]; simp); rfl))⟩
    intro hmid
    refine vc_block (vc_seqr rfl (iQ 2 (iB .eql 36 (.int .i64 k) (.int .i64 10) (some 48) ?_)))
    intro c48 hc48
    refine iQ 1 (iE 76 [(1, .p 1 0), (2, .p 2 0), (3, Ba false), (4, .w (.sl ((vs).length) (encL (vs))) (some ⟨4, 0, 30, 1⟩)), (9, .p 9 0), (23, Ba false), (26, .d (.sl ((is).length) (cellsL (is)))), (27, Ia ((((is).length : Nat) : Int))), (28, Ia z), (29, Ba false), (45, Ba c48)] [(1, [Iv k, Sv (tx t), .sl ((is).length) (cellsL (is)), .sl ((ns).length) (txsD (ns)), Bv p, Bv q]), (2, [.v (.nilIface)]), (9, [.v (.nilIface)])] ?_)
    cases c48
    ·replace hc48 := bf hc48
     refine iF (vc_seqr rfl (iQ 2 (iB .eql 36 (.int .i64 k) (.int .i64 11) (some 54) ?_)))
     intro c54 hc54
     refine iQ 1 (iE 76 [(1, .p 1 0), (2, .p 2 0), (3, Ba false), (4, .w (.sl ((vs).length) (encL (vs))) (some ⟨4, 0, 30, 1⟩)), (9, .p 9 0), (23, Ba false), (26, .d (.sl ((is).length) (cellsL (is)))), (27, Ia ((((is).length : Nat) : Int))), (28, Ia z), (29, Ba false), (45, Ba false), (51, Ba c54)] [(1, [Iv k, Sv (tx t), .sl ((is).length) (cellsL (is)), .sl ((ns).length) (txsD (ns)), Bv p, Bv q]), (2, [.v (.nilIface)]), (9, [.v (.nilIface)])] ?_)
     cases c54
     ·replace hc54 := bf hc54
      refine iF (vc_seqr rfl (iQ 2 (iB .eql 3 (.int .i64 ((((vs).length : Nat) : Int))) (.int .i64 2) (some 62) ?_)))
      intro c62 hc62
      refine iQ 1 (iE 76 [(1, .p 1 0), (2, .p 2 0), (3, Ba false), (4, .w (.sl ((vs).length) (encL (vs))) (some ⟨4, 0, 30, 1⟩)), (9, .p 9 0), (23, Ba false), (26, .d (.sl ((is).length) (cellsL (is)))), (27, Ia ((((is).length : Nat) : Int))), (28, Ia z), (29, Ba false), (45, Ba false), (51, Ba false), (59, Ba c62)] [(1, [Iv k, Sv (tx t), .sl ((is).length) (cellsL (is)), .sl ((ns).length) (txsD (ns)), Bv p, Bv q]), (2, [.v (.nilIface)]), (9, [.v (.nilIface)])] ?_)
      cases c62
      ·replace hc62 := bf hc62
       refine iF (vc_skip (block_n (seq_n (vc_seqr rfl (iQ 2 (iC 14 [.agg [.v (.nilIface)]] (some 74) (c_Null0) ?_))))))
       rintro _ rfl
       refine iU .not (.bool true) (some 75) ?_
       intro c75 hc75
       refine iQ 2 (iE 76 [(1, .p 1 0), (2, .p 2 0), (3, Ba c75), (4, .w (.sl ((vs).length) (encL (vs))) (some ⟨4, 0, 30, 1⟩)), (9, .p 9 0), (23, Ba false), (26, .d (.sl ((is).length) (cellsL (is)))), (27, Ia ((((is).length : Nat) : Int))), (28, Ia z), (29, Ba false), (45, Ba false), (51, Ba false), (59, Ba false)] [(1, [Iv k, Sv (tx t), .sl ((is).length) (cellsL (is)), .sl ((ns).length) (txsD (ns)), Bv p, Bv q]), (2, [.v (.nilIface)]), (9, [.v (.nilIface)])] ?_)
       refine vc_ret (iS (.agg [.v (.nilIface)]) (Bv c75) [] ?_)
       exact ⟨_, .null, c75, rfl, IsV.null, null_ok, fun _ => rfl⟩
      ·replace hc62 := bt hc62
       obtain ⟨v0, v1, hvs⟩ := two_of (vs := vs) (by omega)
       refine iT (vc_reg rfl (iQ 1 (vcI_idx1 (q := 0) (n := ((vs).length)) (cs := (encL (vs))) (d := .bx (v0).enc) (dst := (some 64)) (by kernel_rfl) (by omega) (by rw [hvs]; simp [encL]) ?_)))
       refine iQ 2 (vcI_idx1 (q := 1) (n := ((vs).length)) (cs := (encL (vs))) (d := .bx (v1).enc) (dst := (some 67)) (by kernel_rfl) (by omega) (by rw [hvs]; simp [encL]) ?_)
       refine iQ 3 (iC 20 [.agg [.bx (v0).enc], .agg [.bx (v1).enc], .agg [Bv p, Bv q]] (some 71) (c_vRange) ?_)
       rintro _ rfl
       refine iQ 1 (iE 76 [(1, .p 1 0), (2, .p 2 0), (3, Ba false), (4, .w (.sl ((vs).length) (encL (vs))) (some ⟨4, 0, 30, 1⟩)), (9, .p 9 0), (23, Ba false), (26, .d (.sl ((is).length) (cellsL (is)))), (27, Ia ((((is).length : Nat) : Int))), (28, Ia z), (29, Ba false)] [(1, [Iv k, Sv (tx t), .sl ((is).length) (cellsL (is)), .sl ((ns).length) (txsD (ns)), Bv p, Bv q]), (2, [.v (.nilIface)]), (9, [.bx (rangeV v0 v1 p q).enc])] ?_)
       refine block_n ?_
       refine mid_n hmid (rangeV v0 v1 p q) (by rw [hvs] at h4; simp only [okL] at h4; exact range_ok h4.1 h4.2.1) (by kernel_rfl)
     ·replace hc54 := bt hc54
      refine iT (vc_reg rfl (iQ 3 (iC 106 [.sl ((ns).length) (txsD (ns)), .sl ((vs).length) (encL (vs))] (some 58) (c_vContext hs3 hs4) ?_)))
      rintro _ rfl
      refine iQ 1 (iE 76 [(1, .p 1 0), (2, .p 2 0), (3, Ba false), (4, .w (.sl ((vs).length) (encL (vs))) (some ⟨4, 0, 30, 1⟩)), (9, .p 9 0), (23, Ba false), (26, .d (.sl ((is).length) (cellsL (is)))), (27, Ia ((((is).length : Nat) : Int))), (28, Ia z), (29, Ba false)] [(1, [Iv k, Sv (tx t), .sl ((is).length) (cellsL (is)), .sl ((ns).length) (txsD (ns)), Bv p, Bv q]), (2, [.v (.nilIface)]), (9, [.bx (ctxV ns vs).enc])] ?_)
      refine block_n ?_
      refine mid_n hmid (ctxV ns vs) (ctx_ok (by omega) h4) (by kernel_rfl)
    ·replace hc48 := bt hc48
     refine iT (vc_reg rfl (iQ 1 (iC 32 [.sl ((vs).length) (encL (vs))] (some 50) (c_vList (by omega)) ?_)))
     rintro _ rfl
     refine iQ 1 (iE 76 [(1, .p 1 0), (2, .p 2 0), (3, Ba false), (4, .w (.sl ((vs).length) (encL (vs))) (some ⟨4, 0, 30, 1⟩)), (9, .p 9 0), (23, Ba false), (26, .d (.sl ((is).length) (cellsL (is)))), (27, Ia ((((is).length : Nat) : Int))), (28, Ia z), (29, Ba false)] [(1, [Iv k, Sv (tx t), .sl ((is).length) (cellsL (is)), .sl ((ns).length) (txsD (ns)), Bv p, Bv q]), (2, [.v (.nilIface)]), (9, [.bx (Vl.list vs).enc])] ?_)
     refine block_n ?_
     refine mid_n hmid (Vl.list vs) (by rw [Vl.ok]; exact ⟨by omega, h4⟩) (by kernel_rfl)
   ·replace hc29 := bt hc29
    have hj : j < is.length := by omega
    obtain ⟨⟨k', t', is', ns', p', q'⟩, hm⟩ : ∃ d, is[j]? = some d := ⟨_, List.getElem?_eq_getElem hj⟩
    refine iT (vc_skip (seq_n (vc_seq (vc_block (vc_seqr rfl (vcI_idx (q := z) (n := ((is).length)) (cs := (cellsL (is))) (z := 6) (ds := [.v (.int .i64 k'), .v (.string (tx t')), .sl ((is').length) (cellsL (is')), .sl ((ns').length) (txsD (ns')), .v (.bool p'), .v (.bool q')]) (dst := (some 30)) (by kernel_rfl) (by omega) (by rw [h1, Int.toNat_natCast]; exact (cellsL_get hm).trans (by rw [Dm.cells])) ?_))))))
    refine iQ 3 (iE 76 [(1, .p 1 0), (2, .p 2 0), (3, Ba false), (4, .w (.sl ((vs).length) (encL (vs))) (some ⟨4, 0, 30, 1⟩)), (6, .p 6 0), (23, Ba false), (26, .d (.sl ((is).length) (cellsL (is)))), (27, Ia ((((is).length : Nat) : Int))), (28, Ia z), (29, Ba true)] [(1, [Iv k, Sv (tx t), .sl ((is).length) (cellsL (is)), .sl ((ns).length) (txsD (ns)), Bv p, Bv q]), (2, [.v (.nilIface)]), (6, [Iv k', Sv (tx t'), .sl ((is').length) (cellsL (is')), .sl ((ns').length) (txsD (ns')), Bv p', Bv q'])] ?_)
    refine vc_seqr rfl (iQ 1 (iC 39 [.agg [Iv k', Sv (tx t'), .sl ((is').length) (cellsL (is')), .sl ((ns').length) (txsD (ns')), Bv p', Bv q']] (some 34) (ih k' t' is' ns' p' q' (List.mem_of_getElem? hm)) ?_))
    rintro _ ⟨v, ok, rfl, hv⟩
    refine iQ 6 (iE 76 [(1, .p 1 0), (2, .p 2 0), (3, Ba false), (4, .w (.sl ((vs).length) (encL (vs))) (some ⟨4, 0, 30, 1⟩)), (6, .p 6 0), (7, .p 7 0), (8, Ba ok), (23, Ba false), (26, .d (.sl ((is).length) (cellsL (is)))), (27, Ia ((((is).length : Nat) : Int))), (28, Ia z), (29, Ba true)] [(1, [Iv k, Sv (tx t), .sl ((is).length) (cellsL (is)), .sl ((ns).length) (txsD (ns)), Bv p, Bv q]), (2, [.v (.nilIface)]), (6, [Iv k', Sv (tx t'), .sl ((is').length) (cellsL (is')), .sl ((ns').length) (txsD (ns')), Bv p', Bv q']), (7, [.bx (v).enc])] ?_)
    refine vc_seq (vc_seqr rfl (iQ 1 (iU .not (.bool ok) (some 38) ?_)))
    intro c38 hc38
    refine iE 76 [(1, .p 1 0), (2, .p 2 0), (3, Ba false), (4, .w (.sl ((vs).length) (encL (vs))) (some ⟨4, 0, 30, 1⟩)), (6, .p 6 0), (7, .p 7 0), (8, Ba ok), (23, Ba false), (26, .d (.sl ((is).length) (cellsL (is)))), (27, Ia ((((is).length : Nat) : Int))), (28, Ia z), (29, Ba true), (38, Ba c38)] [(1, [Iv k, Sv (tx t), .sl ((is).length) (cellsL (is)), .sl ((ns).length) (txsD (ns)), Bv p, Bv q]), (2, [.v (.nilIface)]), (6, [Iv k', Sv (tx t'), .sl ((is').length) (cellsL (is')), .sl ((ns').length) (txsD (ns')), Bv p', Bv q']), (7, [.bx (v).enc])] ?_
    cases c38
    ·replace hc38 := bf hc38
     refine iF (vc_skip (seq_n (vc_reg rfl (iQ 3 (vcI_app (n := ((vs).length)) (cs := (encL (vs))) (m := 1) (ds := [.bx (v).enc]) (N := ((vs ++ [v]).length)) (es := (encL (vs ++ [v]))) (j := 4) (e := 30) (z := 1) (dst := (some 43)) (by kernel_rfl) (by first | rfl | omega | (rw [Nat.mul_one]; exact dg_len _) | (simp [dg]; done) | (simp [dg]; omega)) (by first | rfl | omega | (rw [Nat.mul_one]; exact dg_len _) | (simp [dg]; done) | (simp [dg]; omega)) (rfl) (by omega) (by simp) (encL_snoc) ?_)))))
     refine iQ 1 (iE 76 [(1, .p 1 0), (2, .p 2 0), (3, Ba false), (4, .w (.sl ((vs ++ [v]).length) (encL (vs ++ [v]))) (some ⟨4, 0, 30, 1⟩)), (6, .p 6 0), (7, .p 7 0), (8, Ba ok), (23, Ba false), (26, .d (.sl ((is).length) (cellsL (is)))), (27, Ia ((((is).length : Nat) : Int))), (28, Ia z), (29, Ba true), (38, Ba false)] [(1, [Iv k, Sv (tx t), .sl ((is).length) (cellsL (is)), .sl ((ns).length) (txsD (ns)), Bv p, Bv q]), (2, [.v (.nilIface)]), (6, [Iv k', Sv (tx t'), .sl ((is').length) (cellsL (is')), .sl ((ns').length) (txsD (ns')), Bv p', Bv q']), (7, [.bx (v).enc])] ?_)
     refine block_n (seq_n (vc_reg rfl (iB .add 3 (.int .i64 z) (.int .i64 1) (some 44) ?_)))
     intro z44 hz44
     try replace hz44 := hz44.i64 (by omega)
     refine iQ 1 (iE 76 [(1, .p 1 0), (2, .p 2 0), (3, Ba false), (4, .w (.sl ((vs ++ [v]).length) (encL (vs ++ [v]))) (some ⟨4, 0, 30, 1⟩)), (6, .p 6 0), (7, .p 7 0), (8, Ba ok), (23, Ba false), (26, .d (.sl ((is).length) (cellsL (is)))), (27, Ia ((((is).length : Nat) : Int))), (28, Ia z44), (29, Ba true), (38, Ba false)] [(1, [Iv k, Sv (tx t), .sl ((is).length) (cellsL (is)), .sl ((ns).length) (txsD (ns)), Bv p, Bv q]), (2, [.v (.nilIface)]), (6, [Iv k', Sv (tx t'), .sl ((is').length) (cellsL (is')), .sl ((ns').length) (txsD (ns')), Bv p', Bv q']), (7, [.bx (v).enc])] ?_)
     refine loop_n (j + 1, vs ++ [v], z44) (⟨by omega, by omega, by simp; omega, okL_snoc h4 hv.1⟩) (by show is.length - (j + 1) < is.length - j; omega) (by kernel_rfl) (by kernel_rfl)
    ·replace hc38 := bt hc38
     refine iT (vc_seqr rfl (iQ 3 (iE 76 [(1, .p 1 0), (2, .p 2 0), (3, Ba false), (4, .w (.sl ((vs).length) (encL (vs))) (some ⟨4, 0, 30, 1⟩)), (6, .p 6 0), (7, .p 7 0), (8, Ba ok), (23, Ba false), (26, .d (.sl ((is).length) (cellsL (is)))), (27, Ia ((((is).length : Nat) : Int))), (28, Ia z), (29, Ba true), (38, Ba true)] [(1, [Iv k, Sv (tx t), .sl ((is).length) (cellsL (is)), .sl ((ns).length) (txsD (ns)), Bv p, Bv q]), (2, [.v (.nilIface)]), (6, [Iv k', Sv (tx t'), .sl ((is').length) (cellsL (is')), .sl ((ns').length) (txsD (ns')), Bv p', Bv q']), (7, [.bx (v).enc])] ?_)))
     refine vc_ret (seq_r (block_r (seq_r (loop_r (block_r (seq_r (iS (.agg [.v (.nilIface)]) (Bv false) [] ?_)))))))
     exact ⟨_, .null, _, rfl, IsV.null, null_ok, fun _ => rfl⟩
  ·replace hc16 := bt hc16
   refine iQ 3 (iB .gtr 3 (.int .i64 ((((ns).length : Nat) : Int))) (.int .i64 0) (some 21) ?_)
   intro c21 hc21
   refine iQ 2 (iE 76 [(1, .p 1 0), (2, .p 2 0), (3, Ba false), (23, Ba c21)] [(1, [Iv k, Sv (tx t), .sl ((is).length) (cellsL (is)), .sl ((ns).length) (txsD (ns)), Bv p, Bv q]), (2, [.v (.nilIface)])] ?_)
   cases c21
   ·replace hc21 := bf hc21
    refine iF (vc_skip (seq_n (vc_seqr rfl (iQ 1 (iE 76 [(1, .p 1 0), (2, .p 2 0), (3, Ba false), (4, .w (.sl 0 []) none), (23, Ba false)] [(1, [Iv k, Sv (tx t), .sl ((is).length) (cellsL (is)), .sl ((ns).length) (txsD (ns)), Bv p, Bv q]), (2, [.v (.nilIface)])] ?_)))))
    refine vc_seq (vc_seqr rfl (iQ 4 (iE 76 [(1, .p 1 0), (2, .p 2 0), (3, Ba false), (4, .w (.sl 0 []) none), (23, Ba false), (26, .d (.sl ((is).length) (cellsL (is)))), (27, Ia ((((is).length : Nat) : Int))), (28, Ia 0)] [(1, [Iv k, Sv (tx t), .sl ((is).length) (cellsL (is)), .sl ((ns).length) (txsD (ns)), Bv p, Bv q]), (2, [.v (.nilIface)])] ?_)))
    refine vc_block (vc_loop 76 (fun (vcx : Nat × (List Vl) × Int) => match vcx with | (j, vs, z) => [(1, .p 1 0), (2, .p 2 0), (3, Ba false), (4, .w (.sl ((vs).length) (encL (vs))) (some ⟨4, 0, 30, 1⟩)), (23, Ba false), (26, .d (.sl ((is).length) (cellsL (is)))), (27, Ia ((((is).length : Nat) : Int))), (28, Ia z)]) (fun (vcx : Nat × (List Vl) × Int) => match vcx with | (j, vs, z) => [(1, [Iv k, Sv (tx t), .sl ((is).length) (cellsL (is)), .sl ((ns).length) (txsD (ns)), Bv p, Bv q]), (2, [.v (.nilIface)])]) (fun (vcx : Nat × (List Vl) × Int) => match vcx with | (j, vs, z) => z = j ∧ j ≤ is.length ∧ vs.length = j ∧ okL vs) (fun (vcx : Nat × (List Vl) × Int) => match vcx with | (j, vs, z) => is.length - j) ((0, [], 0)) (⟨rfl, Nat.zero_le _, rfl, by rw [okL]; trivial⟩) (by kernel_rfl) (by kernel_rfl) ?_)
    rintro ⟨j, vs, z⟩ hinv
    simp only at hinv
    obtain ⟨h1, h2, h3, h4⟩ := hinv
    refine vc_seqr rfl (iB .lss 3 (.int .i64 z) (.int .i64 ((((is).length : Nat) : Int))) (some 29) ?_)
    intro c29 hc29
    refine iE 76 [(1, .p 1 0), (2, .p 2 0), (3, Ba false), (4, .w (.sl ((vs).length) (encL (vs))) (some ⟨4, 0, 30, 1⟩)), (23, Ba false), (26, .d (.sl ((is).length) (cellsL (is)))), (27, Ia ((((is).length : Nat) : Int))), (28, Ia z), (29, Ba c29)] [(1, [Iv k, Sv (tx t), .sl ((is).length) (cellsL (is)), .sl ((ns).length) (txsD (ns)), Bv p, Bv q]), (2, [.v (.nilIface)])] ?_
    refine vc_seq ?_
    cases c29
    ·replace hc29 := bf hc29
     refine iF (vc_exit (seq_x (loop_x (block_x rfl (seq_n (vc_seqr rfl (iQ 1 (iE 76 [(1, .p 1 0), (2, .p 2 0), (3, Ba false), (4, .w (.sl ((vs).length) (encL (vs))) (some ⟨4, 0, 30, 1⟩)), (9, .p 9 0), (23, Ba false), (26, .d (.sl ((is).length) (cellsL (is)))), (27, Ia ((((is).length : Nat) : Int))), (28, Ia z), (29, Ba false)] [(1, [Iv k, Sv (tx t), .sl ((is).length) (cellsL (is)), .sl ((ns).length) (txsD (ns)), Bv p, Bv q]), (2, [.v (.nilIface)]), (9, [.v (.nilIface)])] ?_))))))))
     refine vc_mid 76 (fun (vcx : Vl) => match vcx with | x => [(1, .p 1 0), (2, .p 2 0), (3, Ba false), (4, .w (.sl ((vs).length) (encL (vs))) (some ⟨4, 0, 30, 1⟩)), (9, .p 9 0), (23, Ba false), (26, .d (.sl ((is).length) (cellsL (is)))), (27, Ia ((((is).length : Nat) : Int))), (28, Ia z), (29, Ba false)]) (fun (vcx : Vl) => match vcx with | x => [(1, [Iv k, Sv (tx t), .sl ((is).length) (cellsL (is)), .sl ((ns).length) (txsD (ns)), Bv p, Bv q]), (2, [.v (.nilIface)]), (9, [.bx (x).enc])]) (fun (vcx : Vl) => match vcx with | x => x.ok) ?_ ?_
     ·rintro x hinv
      simp only at hinv
      refine vc_seqr rfl (iQ 2 (iC 14 [.agg [.bx (x).enc]] (some 74) (c_NullE (v := x)) ?_))
      rintro _ ⟨n, rfl, hn⟩
      refine iU .not (.bool n) (some 75) ?_
      intro c75 hc75
      refine iQ 2 (iE 76 [(1, .p 1 0), (2, .p 2 0), (3, Ba c75), (4, .w (.sl ((vs).length) (encL (vs))) (some ⟨4, 0, 30, 1⟩)), (9, .p 9 0), (23, Ba false), (26, .d (.sl ((is).length) (cellsL (is)))), (27, Ia ((((is).length : Nat) : Int))), (28, Ia z), (29, Ba false)] [(1, [Iv k, Sv (tx t), .sl ((is).length) (cellsL (is)), .sl ((ns).length) (txsD (ns)), Bv p, Bv q]), (2, [.bx (x).enc]), (9, [.bx (x).enc])] ?_)
      refine vc_ret (iS (.agg [.bx (x).enc]) (Bv c75) [] ?_)
      exact ⟨_, x, c75, rfl, .inl rfl, hinv, fun h => (kind_null).1 (hn.1 (by cases n; exact absurd (hc75.2 rfl) (by rw [h]; simp); rfl))⟩
     intro hmid
     refine vc_block (vc_seqr rfl (iQ 2 (iB .eql 36 (.int .i64 k) (.int .i64 10) (some 48) ?_)))
     intro c48 hc48
     refine iQ 1 (iE 76 [(1, .p 1 0), (2, .p 2 0), (3, Ba false), (4, .w (.sl ((vs).length) (encL (vs))) (some ⟨4, 0, 30, 1⟩)), (9, .p 9 0), (23, Ba false), (26, .d (.sl ((is).length) (cellsL (is)))), (27, Ia ((((is).length : Nat) : Int))), (28, Ia z), (29, Ba false), (45, Ba c48)] [(1, [Iv k, Sv (tx t), .sl ((is).length) (cellsL (is)), .sl ((ns).length) (txsD (ns)), Bv p, Bv q]), (2, [.v (.nilIface)]), (9, [.v (.nilIface)])] ?_)
     cases c48
     ·replace hc48 := bf hc48
      refine iF (vc_seqr rfl (iQ 2 (iB .eql 36 (.int .i64 k) (.int .i64 11) (some 54) ?_)))
      intro c54 hc54
      refine iQ 1 (iE 76 [(1, .p 1 0), (2, .p 2 0), (3, Ba false), (4, .w (.sl ((vs).length) (encL (vs))) (some ⟨4, 0, 30, 1⟩)), (9, .p 9 0), (23, Ba false), (26, .d (.sl ((is).length) (cellsL (is)))), (27, Ia ((((is).length : Nat) : Int))), (28, Ia z), (29, Ba false), (45, Ba false), (51, Ba c54)] [(1, [Iv k, Sv (tx t), .sl ((is).length) (cellsL (is)), .sl ((ns).length) (txsD (ns)), Bv p, Bv q]), (2, [.v (.nilIface)]), (9, [.v (.nilIface)])] ?_)
      cases c54
      ·replace hc54 := bf hc54
       refine iF (vc_seqr rfl (iQ 2 (iB .eql 3 (.int .i64 ((((vs).length : Nat) : Int))) (.int .i64 2) (some 62) ?_)))
       intro c62 hc62
       refine iQ 1 (iE 76 [(1, .p 1 0), (2, .p 2 0), (3, Ba false), (4, .w (.sl ((vs).length) (encL (vs))) (some ⟨4, 0, 30, 1⟩)), (9, .p 9 0), (23, Ba false), (26, .d (.sl ((is).length) (cellsL (is)))), (27, Ia ((((is).length : Nat) : Int))), (28, Ia z), (29, Ba false), (45, Ba false), (51, Ba false), (59, Ba c62)] [(1, [Iv k, Sv (tx t), .sl ((is).length) (cellsL (is)), .sl ((ns).length) (txsD (ns)), Bv p, Bv q]), (2, [.v (.nilIface)]), (9, [.v (.nilIface)])] ?_)
       cases c62
       ·replace hc62 := bf hc62
        refine iF (vc_skip (block_n (seq_n (vc_seqr rfl (iQ 2 (iC 14 [.agg [.v (.nilIface)]] (some 74) (c_Null0) ?_))))))
        rintro _ rfl
        refine iU .not (.bool true) (some 75) ?_
        intro c75 hc75
        refine iQ 2 (iE 76 [(1, .p 1 0), (2, .p 2 0), (3, Ba c75), (4, .w (.sl ((vs).length) (encL (vs))) (some ⟨4, 0, 30, 1⟩)), (9, .p 9 0), (23, Ba false), (26, .d (.sl ((is).length) (cellsL (is)))), (27, Ia ((((is).length : Nat) : Int))), (28, Ia z), (29, Ba false), (45, Ba false), (51, Ba false), (59, Ba false)] [(1, [Iv k, Sv (tx t), .sl ((is).length) (cellsL (is)), .sl ((ns).length) (txsD (ns)), Bv p, Bv q]), (2, [.v (.nilIface)]), (9, [.v (.nilIface)])] ?_)
        refine vc_ret (iS (.agg [.v (.nilIface)]) (Bv c75) [] ?_)
        exact ⟨_, .null, c75, rfl, IsV.null, null_ok, fun _ => rfl⟩
       ·replace hc62 := bt hc62
        obtain ⟨v0, v1, hvs⟩ := two_of (vs := vs) (by omega)
        refine iT (vc_reg rfl (iQ 1 (vcI_idx1 (q := 0) (n := ((vs).length)) (cs := (encL (vs))) (d := .bx (v0).enc) (dst := (some 64)) (by kernel_rfl) (by omega) (by rw [hvs]; simp [encL]) ?_)))
        refine iQ 2 (vcI_idx1 (q := 1) (n := ((vs).length)) (cs := (encL (vs))) (d := .bx (v1).enc) (dst := (some 67)) (by kernel_rfl) (by omega) (by rw [hvs]; simp [encL]) ?_)
        refine iQ 3 (iC 20 [.agg [.bx (v0).enc], .agg [.bx (v1).enc], .agg [Bv p, Bv q]] (some 71) (c_vRange) ?_)
        rintro _ rfl
        refine iQ 1 (iE 76 [(1, .p 1 0), (2, .p 2 0), (3, Ba false), (4, .w (.sl ((vs).length) (encL (vs))) (some ⟨4, 0, 30, 1⟩)), (9, .p 9 0), (23, Ba false), (26, .d (.sl ((is).length) (cellsL (is)))), (27, Ia ((((is).length : Nat) : Int))), (28, Ia z), (29, Ba false)] [(1, [Iv k, Sv (tx t), .sl ((is).length) (cellsL (is)), .sl ((ns).length) (txsD (ns)), Bv p, Bv q]), (2, [.v (.nilIface)]), (9, [.bx (rangeV v0 v1 p q).enc])] ?_)
        refine block_n ?_
        refine mid_n hmid (rangeV v0 v1 p q) (by rw [hvs] at h4; simp only [okL] at h4; exact range_ok h4.1 h4.2.1) (by kernel_rfl)
      ·replace hc54 := bt hc54
       refine iT (vc_reg rfl (iQ 3 (iC 106 [.sl ((ns).length) (txsD (ns)), .sl ((vs).length) (encL (vs))] (some 58) (c_vContext hs3 hs4) ?_)))
       rintro _ rfl
       refine iQ 1 (iE 76 [(1, .p 1 0), (2, .p 2 0), (3, Ba false), (4, .w (.sl ((vs).length) (encL (vs))) (some ⟨4, 0, 30, 1⟩)), (9, .p 9 0), (23, Ba false), (26, .d (.sl ((is).length) (cellsL (is)))), (27, Ia ((((is).length : Nat) : Int))), (28, Ia z), (29, Ba false)] [(1, [Iv k, Sv (tx t), .sl ((is).length) (cellsL (is)), .sl ((ns).length) (txsD (ns)), Bv p, Bv q]), (2, [.v (.nilIface)]), (9, [.bx (ctxV ns vs).enc])] ?_)
       refine block_n ?_
       refine mid_n hmid (ctxV ns vs) (ctx_ok (by omega) h4) (by kernel_rfl)
     ·replace hc48 := bt hc48
      refine iT (vc_reg rfl (iQ 1 (iC 32 [.sl ((vs).length) (encL (vs))] (some 50) (c_vList (by omega)) ?_)))
      rintro _ rfl
      refine iQ 1 (iE 76 [(1, .p 1 0), (2, .p 2 0), (3, Ba false), (4, .w (.sl ((vs).length) (encL (vs))) (some ⟨4, 0, 30, 1⟩)), (9, .p 9 0), (23, Ba false), (26, .d (.sl ((is).length) (cellsL (is)))), (27, Ia ((((is).length : Nat) : Int))), (28, Ia z), (29, Ba false)] [(1, [Iv k, Sv (tx t), .sl ((is).length) (cellsL (is)), .sl ((ns).length) (txsD (ns)), Bv p, Bv q]), (2, [.v (.nilIface)]), (9, [.bx (Vl.list vs).enc])] ?_)
      refine block_n ?_
      refine mid_n hmid (Vl.list vs) (by rw [Vl.ok]; exact ⟨by omega, h4⟩) (by kernel_rfl)
    ·replace hc29 := bt hc29
     have hj : j < is.length := by omega
     obtain ⟨⟨k', t', is', ns', p', q'⟩, hm⟩ : ∃ d, is[j]? = some d := ⟨_, List.getElem?_eq_getElem hj⟩
     refine iT (vc_skip (seq_n (vc_seq (vc_block (vc_seqr rfl (vcI_idx (q := z) (n := ((is).length)) (cs := (cellsL (is))) (z := 6) (ds := [.v (.int .i64 k'), .v (.string (tx t')), .sl ((is').length) (cellsL (is')), .sl ((ns').length) (txsD (ns')), .v (.bool p'), .v (.bool q')]) (dst := (some 30)) (by kernel_rfl) (by omega) (by rw [h1, Int.toNat_natCast]; exact (cellsL_get hm).trans (by rw [Dm.cells])) ?_))))))
     refine iQ 3 (iE 76 [(1, .p 1 0), (2, .p 2 0), (3, Ba false), (4, .w (.sl ((vs).length) (encL (vs))) (some ⟨4, 0, 30, 1⟩)), (6, .p 6 0), (23, Ba false), (26, .d (.sl ((is).length) (cellsL (is)))), (27, Ia ((((is).length : Nat) : Int))), (28, Ia z), (29, Ba true)] [(1, [Iv k, Sv (tx t), .sl ((is).length) (cellsL (is)), .sl ((ns).length) (txsD (ns)), Bv p, Bv q]), (2, [.v (.nilIface)]), (6, [Iv k', Sv (tx t'), .sl ((is').length) (cellsL (is')), .sl ((ns').length) (txsD (ns')), Bv p', Bv q'])] ?_)
     refine vc_seqr rfl (iQ 1 (iC 39 [.agg [Iv k', Sv (tx t'), .sl ((is').length) (cellsL (is')), .sl ((ns').length) (txsD (ns')), Bv p', Bv q']] (some 34) (ih k' t' is' ns' p' q' (List.mem_of_getElem? hm)) ?_))
     rintro _ ⟨v, ok, rfl, hv⟩
     refine iQ 6 (iE 76 [(1, .p 1 0), (2, .p 2 0), (3, Ba false), (4, .w (.sl ((vs).length) (encL (vs))) (some ⟨4, 0, 30, 1⟩)), (6, .p 6 0), (7, .p 7 0), (8, Ba ok), (23, Ba false), (26, .d (.sl ((is).length) (cellsL (is)))), (27, Ia ((((is).length : Nat) : Int))), (28, Ia z), (29, Ba true)] [(1, [Iv k, Sv (tx t), .sl ((is).length) (cellsL (is)), .sl ((ns).length) (txsD (ns)), Bv p, Bv q]), (2, [.v (.nilIface)]), (6, [Iv k', Sv (tx t'), .sl ((is').length) (cellsL (is')), .sl ((ns').length) (txsD (ns')), Bv p', Bv q']), (7, [.bx (v).enc])] ?_)
     refine vc_seq (vc_seqr rfl (iQ 1 (iU .not (.bool ok) (some 38) ?_)))
     intro c38 hc38
     refine iE 76 [(1, .p 1 0), (2, .p 2 0), (3, Ba false), (4, .w (.sl ((vs).length) (encL (vs))) (some ⟨4, 0, 30, 1⟩)), (6, .p 6 0), (7, .p 7 0), (8, Ba ok), (23, Ba false), (26, .d (.sl ((is).length) (cellsL (is)))), (27, Ia ((((is).length : Nat) : Int))), (28, Ia z), (29, Ba true), (38, Ba c38)] [(1, [Iv k, Sv (tx t), .sl ((is).length) (cellsL (is)), .sl ((ns).length) (txsD (ns)), Bv p, Bv q]), (2, [.v (.nilIface)]), (6, [Iv k', Sv (tx t'), .sl ((is').length) (cellsL (is')), .sl ((ns').length) (txsD (ns')), Bv p', Bv q']), (7, [.bx (v).enc])] ?_
     cases c38
     ·replace hc38 := bf hc38
      refine iF (vc_skip (seq_n (vc_reg rfl (iQ 3 (vcI_app (n := ((vs).length)) (cs := (encL (vs))) (m := 1) (ds := [.bx (v).enc]) (N := ((vs ++ [v]).length)) (es := (encL (vs ++ [v]))) (j := 4) (e := 30) (z := 1) (dst := (some 43)) (by kernel_rfl) (by first | rfl | omega | (rw [Nat.mul_one]; exact dg_len _) | (simp [dg]; done) | (simp [dg]; omega)) (by first | rfl | omega | (rw [Nat.mul_one]; exact dg_len _) | (simp [dg]; done) | (simp [dg]; omega)) (rfl) (by omega) (by simp) (encL_snoc) ?_)))))
      refine iQ 1 (iE 76 [(1, .p 1 0), (2, .p 2 0), (3, Ba false), (4, .w (.sl ((vs ++ [v]).length) (encL (vs ++ [v]))) (some ⟨4, 0, 30, 1⟩)), (6, .p 6 0), (7, .p 7 0), (8, Ba ok), (23, Ba false), (26, .d (.sl ((is).length) (cellsL (is)))), (27, Ia ((((is).length : Nat) : Int))), (28, Ia z), (29, Ba true), (38, Ba false)] [(1, [Iv k, Sv (tx t), .sl ((is).length) (cellsL (is)), .sl ((ns).length) (txsD (ns)), Bv p, Bv q]), (2, [.v (.nilIface)]), (6, [Iv k', Sv (tx t'), .sl ((is').length) (cellsL (is')), .sl ((ns').length) (txsD (ns')), Bv p', Bv q']), (7, [.bx (v).enc])] ?_)
      refine block_n (seq_n (vc_reg rfl (iB .add 3 (.int .i64 z) (.int .i64 1) (some 44) ?_)))
      intro z44 hz44
      try replace hz44 := hz44.i64 (by omega)
      refine iQ 1 (iE 76 [(1, .p 1 0), (2, .p 2 0), (3, Ba false), (4, .w (.sl ((vs ++ [v]).length) (encL (vs ++ [v]))) (some ⟨4, 0, 30, 1⟩)), (6, .p 6 0), (7, .p 7 0), (8, Ba ok), (23, Ba false), (26, .d (.sl ((is).length) (cellsL (is)))), (27, Ia ((((is).length : Nat) : Int))), (28, Ia z44), (29, Ba true), (38, Ba false)] [(1, [Iv k, Sv (tx t), .sl ((is).length) (cellsL (is)), .sl ((ns).length) (txsD (ns)), Bv p, Bv q]), (2, [.v (.nilIface)]), (6, [Iv k', Sv (tx t'), .sl ((is').length) (cellsL (is')), .sl ((ns').length) (txsD (ns')), Bv p', Bv q']), (7, [.bx (v).enc])] ?_)
      refine loop_n (j + 1, vs ++ [v], z44) (⟨by omega, by omega, by simp; omega, okL_snoc h4 hv.1⟩) (by show is.length - (j + 1) < is.length - j; omega) (by kernel_rfl) (by kernel_rfl)
     ·replace hc38 := bt hc38
      refine iT (vc_seqr rfl (iQ 3 (iE 76 [(1, .p 1 0), (2, .p 2 0), (3, Ba false), (4, .w (.sl ((vs).length) (encL (vs))) (some ⟨4, 0, 30, 1⟩)), (6, .p 6 0), (7, .p 7 0), (8, Ba ok), (23, Ba false), (26, .d (.sl ((is).length) (cellsL (is)))), (27, Ia ((((is).length : Nat) : Int))), (28, Ia z), (29, Ba true), (38, Ba true)] [(1, [Iv k, Sv (tx t), .sl ((is).length) (cellsL (is)), .sl ((ns).length) (txsD (ns)), Bv p, Bv q]), (2, [.v (.nilIface)]), (6, [Iv k', Sv (tx t'), .sl ((is').length) (cellsL (is')), .sl ((ns').length) (txsD (ns')), Bv p', Bv q']), (7, [.bx (v).enc])] ?_)))
      refine vc_ret (seq_r (block_r (seq_r (loop_r (block_r (seq_r (iS (.agg [.v (.nilIface)]) (Bv false) [] ?_)))))))
      exact ⟨_, .null, _, rfl, IsV.null, null_ok, fun _ => rfl⟩
   ·replace hc21 := bt hc21
    refine iT (vc_seqr rfl (iQ 3 (iE 76 [(1, .p 1 0), (2, .p 2 0), (3, Ba false), (23, Ba true)] [(1, [Iv k, Sv (tx t), .sl ((is).length) (cellsL (is)), .sl ((ns).length) (txsD (ns)), Bv p, Bv q]), (2, [.v (.nilIface)])] ?_)))
    refine vc_ret (seq_r (iS (.agg [.v (.nilIface)]) (Bv false) [] ?_))
    exact ⟨_, .null, _, rfl, IsV.null, null_ok, fun _ => rfl⟩
 ·replace hc12 := bt hc12
  refine iQ 10 (iE 76 [(1, .p 1 0), (2, .p 2 0), (3, Ba false), (23, Ba true)] [(1, [Iv k, Sv (tx t), .sl ((is).length) (cellsL (is)), .sl ((ns).length) (txsD (ns)), Bv p, Bv q]), (2, [.v (.nilIface)])] ?_)
  refine iT (vc_seqr rfl (iQ 3 (iE 76 [(1, .p 1 0), (2, .p 2 0), (3, Ba false), (23, Ba true)] [(1, [Iv k, Sv (tx t), .sl ((is).length) (cellsL (is)), .sl ((ns).length) (txsD (ns)), Bv p, Bv q]), (2, [.v (.nilIface)])] ?_)))
  refine vc_ret (seq_r (iS (.agg [.v (.nilIface)]) (Bv false) [] ?_))
  exact ⟨_, .null, _, rfl, IsV.null, null_ok, fun _ => rfl⟩
set_option maxHeartbeats 3200000 in
theorem v_Of {k : Int} {t : L8} {is : List Dm} {ns : List L8} {p q : Bool} (hs : (Dm.mk k t is ns p q).small) (ih : ∀ (k : Int) (t : L8) (is' : List Dm) (ns : List L8) (p q : Bool), Dm.mk k t is' ns p q ∈ is → HasC Tryz.prog 39 [dDat k t is' ns p q] (fun y => ∃ v ok, y = .tup [VV v, .v (.bool ok)] ∧ OfQ v ok)) : HasC Tryz.prog 39 [.agg [.v (.int .i64 k), .v (.string (tx t)), .sl ((is).length) (cellsL (is)), .sl ((ns).length) (txsD (ns)), .v (.bool p), .v (.bool q)]] (fun y => ∃ x v ok, y = .tup [x, .v (.bool ok)] ∧ IsV x v ∧ OfQ v ok) := by
 refine HasC.of [3] (fn := Tryz.f39) tyOk mixed (fun args w => Tryz.call39 args w) Tryz.func39 rfl (by kernel_rfl) (Nat.le_of_ble_eq_true rfl) (⟨_, _, .null, false, rfl, IsV.null, null_ok, fun _ => rfl⟩) ?_
 have hs' := hs
 rw [Dm.small] at hs'
 obtain ⟨hs1, hs2, hs3, hs4, hs5⟩ := hs'
 refine vc_seqr rfl (iQ 3 (iE 53 [(1, .p 1 0), (2, .p 2 0), (3, Ba false)] [(1, [Iv k, Sv (tx t), .sl ((is).length) (cellsL (is)), .sl ((ns).length) (txsD (ns)), Bv p, Bv q]), (2, [.v (.nilIface)])] ?_))
 refine vc_seq (vc_seqr rfl (iQ 2 (iE 53 [(1, .p 1 0), (2, .p 2 0), (3, Ba false), (6, Ia k)] [(1, [Iv k, Sv (tx t), .sl ((is).length) (cellsL (is)), .sl ((ns).length) (txsD (ns)), Bv p, Bv q]), (2, [.v (.nilIface)])] ?_)))
 refine vc_block (vc_seqr rfl (iB .eql 36 (.int .i64 k) (.int .i64 1) (some 8) ?_))
 intro c8 hc8
 refine iQ 1 (iE 53 [(1, .p 1 0), (2, .p 2 0), (3, Ba false), (6, Ia k), (7, Ba c8)] [(1, [Iv k, Sv (tx t), .sl ((is).length) (cellsL (is)), .sl ((ns).length) (txsD (ns)), Bv p, Bv q]), (2, [.v (.nilIface)])] ?_)
 cases c8
 ·replace hc8 := bf hc8
  refine iF (vc_seq (vc_seqr rfl (iB .eql 36 (.int .i64 k) (.int .i64 10) (some 26) ?_)))
  intro c26 hc26
  refine iQ 1 (iE 53 [(1, .p 1 0), (2, .p 2 0), (3, Ba false), (6, Ia k), (7, Ba false), (25, Ba c26)] [(1, [Iv k, Sv (tx t), .sl ((is).length) (cellsL (is)), .sl ((ns).length) (txsD (ns)), Bv p, Bv q]), (2, [.v (.nilIface)])] ?_)
  cases c26
  ·replace hc26 := bf hc26
   refine iF (vc_seqr rfl (iB .eql 36 (.int .i64 k) (.int .i64 11) (some 27) ?_))
   intro c27 hc27
   refine iQ 1 (iE 53 [(1, .p 1 0), (2, .p 2 0), (3, Ba false), (6, Ia k), (7, Ba false), (25, Ba c27)] [(1, [Iv k, Sv (tx t), .sl ((is).length) (cellsL (is)), .sl ((ns).length) (txsD (ns)), Bv p, Bv q]), (2, [.v (.nilIface)])] ?_)
   cases c27
   ·replace hc27 := bf hc27
    refine iF (vc_reg rfl (iB .eql 36 (.int .i64 k) (.int .i64 12) (some 28) ?_))
    intro c28 hc28
    refine iQ 1 (iE 53 [(1, .p 1 0), (2, .p 2 0), (3, Ba false), (6, Ia k), (7, Ba false), (25, Ba c28)] [(1, [Iv k, Sv (tx t), .sl ((is).length) (cellsL (is)), .sl ((ns).length) (txsD (ns)), Bv p, Bv q]), (2, [.v (.nilIface)])] ?_)
    refine seq_n ?_
    cases c28
    ·replace hc28 := bf hc28
     refine iF (vc_skip (block_n (seq_n (vc_seq (vc_seqr rfl (iQ 3 (iB .gtr 3 (.int .i64 ((((is).length : Nat) : Int))) (.int .i64 0) (some 36) ?_)))))))
     intro c36 hc36
     refine iQ 1 ?_
     cases c36
     ·replace hc36 := bf hc36
      refine iQ 3 (iB .gtr 3 (.int .i64 ((((ns).length : Nat) : Int))) (.int .i64 0) (some 41) ?_)
      intro c41 hc41
      refine iQ 1 (iE 53 [(1, .p 1 0), (2, .p 2 0), (3, Ba false), (6, Ia k), (7, Ba false), (25, Ba false), (42, Ba c41)] [(1, [Iv k, Sv (tx t), .sl ((is).length) (cellsL (is)), .sl ((ns).length) (txsD (ns)), Bv p, Bv q]), (2, [.v (.nilIface)])] ?_)
      cases c41
      ·replace hc41 := bf hc41
       refine iF (vc_skip (seq_n (vc_seqr rfl (iQ 4 (iC 65 [Iv k, Sv (tx t)] (some 48) (c_read hs1) ?_)))))
       rintro _ ⟨v, rfl, hv⟩
       refine iQ 2 (iE 53 [(1, .p 1 0), (2, .p 2 0), (3, Ba false), (4, .p 4 0), (6, Ia k), (7, Ba false), (25, Ba false), (42, Ba false)] [(1, [Iv k, Sv (tx t), .sl ((is).length) (cellsL (is)), .sl ((ns).length) (txsD (ns)), Bv p, Bv q]), (2, [.v (.nilIface)]), (4, [.bx (v).enc])] ?_)
       refine vc_seqr rfl (iQ 2 (iC 14 [.agg [.bx (v).enc]] (some 51) (c_NullE (v := v)) ?_))
       rintro _ ⟨n, rfl, hn⟩
       refine iU .not (.bool n) (some 52) ?_
       intro c52 hc52
       refine iQ 2 (iE 53 [(1, .p 1 0), (2, .p 2 0), (3, Ba c52), (4, .p 4 0), (6, Ia k), (7, Ba false), (25, Ba false), (42, Ba false)] [(1, [Iv k, Sv (tx t), .sl ((is).length) (cellsL (is)), .sl ((ns).length) (txsD (ns)), Bv p, Bv q]), (2, [.bx (v).enc]), (4, [.bx (v).enc])] ?_)
       refine vc_ret (iS (.agg [.bx (v).enc]) (Bv c52) [] ?_)
       exact ⟨_, v, c52, rfl, .inl rfl, hv, fun h => (kind_null).1 (hn.1 (by cases n; exact absurd (hc52.2 rfl) (by rw [h]; simp); rfl))⟩
      ·replace hc41 := bt hc41
       refine iT (vc_seqr rfl (iQ 3 (iE 53 [(1, .p 1 0), (2, .p 2 0), (3, Ba false), (6, Ia k), (7, Ba false), (25, Ba false), (42, Ba true)] [(1, [Iv k, Sv (tx t), .sl ((is).length) (cellsL (is)), .sl ((ns).length) (txsD (ns)), Bv p, Bv q]), (2, [.v (.nilIface)])] ?_)))
       refine vc_ret (seq_r (iS (.agg [.v (.nilIface)]) (Bv false) [] ?_))
       exact ⟨_, .null, _, rfl, IsV.null, null_ok, fun _ => rfl⟩
     ·replace hc36 := bt hc36
      refine iQ 5 (iE 53 [(1, .p 1 0), (2, .p 2 0), (3, Ba false), (6, Ia k), (7, Ba false), (25, Ba false), (42, Ba true)] [(1, [Iv k, Sv (tx t), .sl ((is).length) (cellsL (is)), .sl ((ns).length) (txsD (ns)), Bv p, Bv q]), (2, [.v (.nilIface)])] ?_)
      refine iT (vc_seqr rfl (iQ 3 (iE 53 [(1, .p 1 0), (2, .p 2 0), (3, Ba false), (6, Ia k), (7, Ba false), (25, Ba false), (42, Ba true)] [(1, [Iv k, Sv (tx t), .sl ((is).length) (cellsL (is)), .sl ((ns).length) (txsD (ns)), Bv p, Bv q]), (2, [.v (.nilIface)])] ?_)))
      refine vc_ret (seq_r (iS (.agg [.v (.nilIface)]) (Bv false) [] ?_))
      exact ⟨_, .null, _, rfl, IsV.null, null_ok, fun _ => rfl⟩
    ·replace hc28 := bt hc28
     refine iT (vc_seqr rfl (iQ 1 (iC 64 [.agg [Iv k, Sv (tx t), .sl ((is).length) (cellsL (is)), .sl ((ns).length) (txsD (ns)), Bv p, Bv q]] (some 30) ((v_of hs ih).isVb) ?_)))
     rintro _ ⟨v, ok, rfl, hv⟩
     refine iQ 4 (iE 53 [(1, .p 1 0), (2, .p 2 0), (3, Ba ok), (6, Ia k), (7, Ba false), (25, Ba true)] [(1, [Iv k, Sv (tx t), .sl ((is).length) (cellsL (is)), .sl ((ns).length) (txsD (ns)), Bv p, Bv q]), (2, [.bx (v).enc])] ?_)
     refine vc_ret (block_r (seq_r (iS (.agg [.bx (v).enc]) (Bv ok) [] ?_)))
     exact ⟨_, v, ok, rfl, .inl rfl, hv⟩
   ·replace hc27 := bt hc27
    refine iT (vc_skip (seq_n (iT (vc_seqr rfl (iQ 1 (iC 64 [.agg [Iv k, Sv (tx t), .sl ((is).length) (cellsL (is)), .sl ((ns).length) (txsD (ns)), Bv p, Bv q]] (some 30) ((v_of hs ih).isVb) ?_))))))
    rintro _ ⟨v, ok, rfl, hv⟩
    refine iQ 4 (iE 53 [(1, .p 1 0), (2, .p 2 0), (3, Ba ok), (6, Ia k), (7, Ba false), (25, Ba true)] [(1, [Iv k, Sv (tx t), .sl ((is).length) (cellsL (is)), .sl ((ns).length) (txsD (ns)), Bv p, Bv q]), (2, [.bx (v).enc])] ?_)
    refine vc_ret (block_r (seq_r (iS (.agg [.bx (v).enc]) (Bv ok) [] ?_)))
    exact ⟨_, v, ok, rfl, .inl rfl, hv⟩
  ·replace hc26 := bt hc26
   refine iT (vc_skip (seq_n (iT (vc_seqr rfl (iQ 1 (iC 64 [.agg [Iv k, Sv (tx t), .sl ((is).length) (cellsL (is)), .sl ((ns).length) (txsD (ns)), Bv p, Bv q]] (some 30) ((v_of hs ih).isVb) ?_))))))
   rintro _ ⟨v, ok, rfl, hv⟩
   refine iQ 4 (iE 53 [(1, .p 1 0), (2, .p 2 0), (3, Ba ok), (6, Ia k), (7, Ba false), (25, Ba true)] [(1, [Iv k, Sv (tx t), .sl ((is).length) (cellsL (is)), .sl ((ns).length) (txsD (ns)), Bv p, Bv q]), (2, [.bx (v).enc])] ?_)
   refine vc_ret (block_r (seq_r (iS (.agg [.bx (v).enc]) (Bv ok) [] ?_)))
   exact ⟨_, v, ok, rfl, .inl rfl, hv⟩
 ·replace hc8 := bt hc8
  refine iT (vc_seqrx rfl (by kernel_rfl) ?_)
  refine iQ 3 (iB .eql 9 (.string (tx t)) (.string (⟨#[]⟩)) (some 12) ?_)
  intro c12 hc12
  refine iQ 1 ?_
  cases c12
  ·replace hc12 := bf hc12
   refine iQ 13 (iE 53 [(1, .p 1 0), (2, .p 2 0), (3, Ba false), (6, Ia k), (7, Ba true)] [(1, [Iv k, Sv (tx t), .sl ((is).length) (cellsL (is)), .sl ((ns).length) (txsD (ns)), Bv p, Bv q]), (2, [.v (.nilIface)])] ?_)
   refine vc_ret (block_r (seq_r (iS (.agg [.v (.nilIface)]) (Bv false) [] ?_)))
   exact ⟨_, .null, _, rfl, IsV.null, null_ok, fun _ => rfl⟩
  ·replace hc12 := bt hc12
   refine iQ 3 (iB .eql 3 (.int .i64 ((((is).length : Nat) : Int))) (.int .i64 0) (some 17) ?_)
   intro c17 hc17
   refine iQ 2 ?_
   cases c17
   ·replace hc17 := bf hc17
    refine iQ 7 (iE 53 [(1, .p 1 0), (2, .p 2 0), (3, Ba false), (6, Ia k), (7, Ba true)] [(1, [Iv k, Sv (tx t), .sl ((is).length) (cellsL (is)), .sl ((ns).length) (txsD (ns)), Bv p, Bv q]), (2, [.v (.nilIface)])] ?_)
    refine vc_ret (block_r (seq_r (iS (.agg [.v (.nilIface)]) (Bv false) [] ?_)))
    exact ⟨_, .null, _, rfl, IsV.null, null_ok, fun _ => rfl⟩
   ·replace hc17 := bt hc17
    refine iQ 3 (iB .eql 3 (.int .i64 ((((ns).length : Nat) : Int))) (.int .i64 0) (some 23) ?_)
    intro c23 hc23
    refine iQ 3 (iE 53 [(1, .p 1 0), (2, .p 2 0), (3, Ba c23), (6, Ia k), (7, Ba true)] [(1, [Iv k, Sv (tx t), .sl ((is).length) (cellsL (is)), .sl ((ns).length) (txsD (ns)), Bv p, Bv q]), (2, [.v (.nilIface)])] ?_)
    refine vc_ret (block_r (seq_r (iS (.agg [.v (.nilIface)]) (Bv c23) [] ?_)))
    exact ⟨_, .null, _, rfl, IsV.null, null_ok, fun _ => rfl⟩
theorem c_vOf (k : Int) (t : L8) (is : List Dm) (ns : List L8) (p q : Bool) (hs : (Dm.mk k t is ns p q).small) : HasC Tryz.prog 39 [dDat k t is ns p q] (fun y => ∃ v ok, y = .tup [VV v, .v (.bool ok)] ∧ OfQ v ok) :=
  (v_Of hs fun k' t' is' ns' p' q' hm => c_vOf k' t' is' ns' p' q' (by rw [Dm.small] at hs; exact smallL_iff.1 hs.2.2.2.2 _ hm)).isVb
termination_by SizeOf.sizeOf is
decreasing_by
  have := List.sizeOf_lt_of_mem hm
  simp at this
  omega
end Go.Proofs.YtpambeengdhhmaaGreatDoor
