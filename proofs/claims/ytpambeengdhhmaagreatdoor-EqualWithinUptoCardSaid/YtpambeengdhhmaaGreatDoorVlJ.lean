/-
  casuistlaw12: EqualWithin.
-/
import Derived.Test.YtpambeengdhhmaaGreatDoorVlI
import Derived.Test.YtpambeengdhhmaaGreatDoorVlE
namespace Go.Proofs.YtpambeengdhhmaaGreatDoor
open Go.RowKit
set_option linter.unusedVariables false
set_option linter.unusedSimpArgs false
set_option maxRecDepth 100000

-- casuistlaw12's own
theorem c_Make12 {k : Int} {t : L8} {is : List Dm} {ns : List L8} {p q : Bool} (hs : (Dm.mk k t is ns p q).small) : HasC Tryz.prog 19 [.agg [.v (.int .i64 k), .v (.string (tx t)), .sl ((is).length) (cellsL (is)), .sl ((ns).length) (txsD (ns)), .v (.bool p), .v (.bool q)]] (fun r => ∃ v, r = VV v ∧ v.ok) := by
  refine HasC.of [] (fn := Tryz.f19) tyOk mixed (fun args w => Tryz.call19 args w) Tryz.func19 rfl (by kernel_rfl) (Nat.le_of_ble_eq_true rfl) (⟨_, .null, rfl, null_ok⟩) ?_
  refine vc_seqr rfl (iQ 2 (iE 11 [(1, .p 1 0), (2, .p 2 0)] [(1, [Iv k, Sv (tx t), .sl ((is).length) (cellsL (is)), .sl ((ns).length) (txsD (ns)), Bv p, Bv q]), (2, [.v (.nilIface)])] ?_))
  refine vc_seqr rfl (iQ 1 (iC 39 [.agg [Iv k, Sv (tx t), .sl ((is).length) (cellsL (is)), .sl ((ns).length) (txsD (ns)), Bv p, Bv q]] (some 7) (c_vOf k t is ns p q hs) ?_))
  rintro _ ⟨v, ok, rfl, hv⟩
  refine iQ 6 (iE 11 [(2, .p 2 0), (3, .p 3 0)] [(2, [.v (.nilIface)]), (3, [.bx (v).enc])] ?_)
  refine vc_seqr rfl (iQ 2 (iE 11 [(2, .p 2 0), (3, .p 3 0)] [(2, [.bx (v).enc]), (3, [.bx (v).enc])] ?_))
  refine vc_ret (iR (.agg [.bx (v).enc]) ?_)
  exact ⟨v, rfl, hv.1⟩
-- within
theorem rng_of {a b : Vl} {p q : Bool} (h : ¬ (rangeV a b p q).kindI = 1) : RgOk a.kindI b.kindI ∧ rangeV a b p q = .rng a b (p && !a.nullB) (q && !b.nullB) := by
  unfold rangeV at h ⊢
  by_cases hr : RgOk a.kindI b.kindI
  · rw [if_pos hr]; exact ⟨hr, rfl⟩
  · rw [if_neg hr] at h; exact absurd rfl h
theorem nullB_f {a : Vl} (h : ¬ a.kindI = 1) : a.nullB = false := by
  cases hb : a.nullB with
  | false => rfl
  | true => exact absurd ((nullK a).1 hb) h
theorem within_no {x a b : Vl} {p q : Bool} (h : (rangeV a b p q).kindI = 1 ∨ a.kindI = 1 ∧ b.kindI = 1) : withinI x (rangeV a b p q) = 0 := by
  unfold rangeV at h ⊢
  by_cases hr : RgOk a.kindI b.kindI
  · rw [if_pos hr] at h ⊢
    rcases h with h | h
    · cases h
    · rw [within_rng, if_pos h]
  · rw [if_neg hr]
    simp [withinI, rngOf]
theorem within_hi {x a b : Vl} {p q : Bool} (h : ¬ (rangeV a b p q).kindI = 1) (ha : a.kindI = 1) (hb : ¬ b.kindI = 1) : withinI x (rangeV a b p q) = andI 2 (endI q x b) := by
  rw [(rng_of h).2, nullB_f hb]
  simp only [Bool.not_false, Bool.and_true]
  rw [within_rng, if_neg (fun k => hb k.2), highI, if_neg hb, lowI, if_pos ha]
theorem within_both {x a b : Vl} {p q : Bool} (h : ¬ (rangeV a b p q).kindI = 1) (ha : ¬ a.kindI = 1) (hb : ¬ b.kindI = 1) : withinI x (rangeV a b p q) = andI (andI 2 (endI p a x)) (endI q x b) := by
  rw [(rng_of h).2, nullB_f ha, nullB_f hb]
  simp only [Bool.not_false, Bool.and_true]
  rw [within_rng, if_neg (fun k => hb k.2), highI, if_neg hb, lowI, if_neg ha]
theorem within_lo {x a b : Vl} {p q : Bool} (h : ¬ (rangeV a b p q).kindI = 1) (ha : ¬ a.kindI = 1) (hb : b.kindI = 1) : withinI x (rangeV a b p q) = andI 2 (endI p a x) := by
  rw [(rng_of h).2, nullB_f ha]
  simp only [Bool.not_false, Bool.and_true]
  rw [within_rng, if_neg (fun k => ha k.1), highI, if_pos hb, lowI, if_neg ha]
theorem within_end {x a b : Vl} {p q : Bool} (h : ¬ (rangeV a b p q).kindI = 1) : withinI x a = 0 := by
  have hr := (rng_of h).1
  have : (rngOf a).is = false := by
    cases a <;> try rfl
    case rng lo hi p q => unfold RgOk at hr; simp [Vl.kindI] at hr
  rw [withinI, this, if_neg (by simp)]
set_option maxHeartbeats 3200000 in
theorem c_EqualWithin {k1 k2 k3 : Int} {t1 t2 t3 : L8} {is1 is2 is3 : List Dm} {ns1 ns2 ns3 : List L8} {p1 q1 p2 q2 p3 q3 i0 i1 : Bool} (s1 : (Dm.mk k1 t1 is1 ns1 p1 q1).small) (s2 : (Dm.mk k2 t2 is2 ns2 p2 q2).small) (s3 : (Dm.mk k3 t3 is3 ns3 p3 q3).small) : HasC Tryz.prog 4 [.agg [.v (.int .i64 k1), .v (.string (tx t1)), .sl ((is1).length) (cellsL (is1)), .sl ((ns1).length) (txsD (ns1)), .v (.bool p1), .v (.bool q1)], .agg [.v (.int .i64 k2), .v (.string (tx t2)), .sl ((is2).length) (cellsL (is2)), .sl ((ns2).length) (txsD (ns2)), .v (.bool p2), .v (.bool q2)], .agg [.v (.int .i64 k3), .v (.string (tx t3)), .sl ((is3).length) (cellsL (is3)), .sl ((ns3).length) (txsD (ns3)), .v (.bool p3), .v (.bool q3)], .agg [.v (.bool i0), .v (.bool i1)]] (fun r => r = .v (.bool true)) := by
  refine HasC.of [] (fn := Tryz.f4) tyOk mixed (fun args w => Tryz.call4 args w) Tryz.func4 rfl (by kernel_rfl) (Nat.le_of_ble_eq_true rfl) (⟨_, rfl⟩) ?_
  refine vc_seqr rfl (iQ 5 (iE 71 [(4, .p 4 0), (5, .p 5 0), (6, .p 6 0), (7, .p 7 0), (8, Ba false)] [(4, [Iv k1, Sv (tx t1), .sl ((is1).length) (cellsL (is1)), .sl ((ns1).length) (txsD (ns1)), Bv p1, Bv q1]), (5, [Iv k2, Sv (tx t2), .sl ((is2).length) (cellsL (is2)), .sl ((ns2).length) (txsD (ns2)), Bv p2, Bv q2]), (6, [Iv k3, Sv (tx t3), .sl ((is3).length) (cellsL (is3)), .sl ((ns3).length) (txsD (ns3)), Bv p3, Bv q3]), (7, [Bv i0, Bv i1])] ?_))
  refine vc_seq (vc_seqr rfl (iC 8 [] (some 15) (c_awake12) ?_))
  rintro _ rfl
  refine iU .not (.bool true) (some 16) ?_
  refine all_false ((by simp)) ?_
  refine iE 71 [(4, .p 4 0), (5, .p 5 0), (6, .p 6 0), (7, .p 7 0), (8, Ba false), (16, Ba false)] [(4, [Iv k1, Sv (tx t1), .sl ((is1).length) (cellsL (is1)), .sl ((ns1).length) (txsD (ns1)), Bv p1, Bv q1]), (5, [Iv k2, Sv (tx t2), .sl ((is2).length) (cellsL (is2)), .sl ((ns2).length) (txsD (ns2)), Bv p2, Bv q2]), (6, [Iv k3, Sv (tx t3), .sl ((is3).length) (cellsL (is3)), .sl ((ns3).length) (txsD (ns3)), Bv p3, Bv q3]), (7, [Bv i0, Bv i1])] ?_
  refine iF (vc_skip (seq_n (vc_seqr rfl (iQ 1 (iC 19 [.agg [Iv k1, Sv (tx t1), .sl ((is1).length) (cellsL (is1)), .sl ((ns1).length) (txsD (ns1)), Bv p1, Bv q1]] (some 18) (c_Make12 s1) ?_)))))
  rintro _ ⟨x, rfl, ox⟩
  refine iQ 1 (iC 19 [.agg [Iv k2, Sv (tx t2), .sl ((is2).length) (cellsL (is2)), .sl ((ns2).length) (txsD (ns2)), Bv p2, Bv q2]] (some 20) (c_Make12 s2) ?_)
  rintro _ ⟨a, rfl, oa⟩
  refine iQ 1 (iC 19 [.agg [Iv k3, Sv (tx t3), .sl ((is3).length) (cellsL (is3)), .sl ((ns3).length) (txsD (ns3)), Bv p3, Bv q3]] (some 22) (c_Make12 s3) ?_)
  rintro _ ⟨bb, rfl, ob⟩
  refine iQ 6 (iE 71 [(7, .p 7 0), (8, Ba false), (9, .p 9 0), (10, .p 10 0), (11, .p 11 0), (16, Ba false)] [(7, [Bv i0, Bv i1]), (9, [.bx (x).enc]), (10, [.bx (a).enc]), (11, [.bx (bb).enc])] ?_)
  refine vc_seqr rfl (iQ 3 (iC 20 [.agg [.bx (a).enc], .agg [.bx (bb).enc], .agg [Bv i0, Bv i1]] (some 26) (c_vRange (lo := a) (hi := bb) (p := i0) (q := i1)) ?_))
  rintro _ rfl
  refine iQ 2 (iE 71 [(7, .p 7 0), (8, Ba false), (9, .p 9 0), (10, .p 10 0), (11, .p 11 0), (12, .p 12 0), (16, Ba false)] [(7, [Bv i0, Bv i1]), (9, [.bx (x).enc]), (10, [.bx (a).enc]), (11, [.bx (bb).enc]), (12, [.bx (rangeV a bb i0 i1).enc])] ?_)
  refine vc_seqr rfl (iQ 2 (iC 21 [.agg [.bx (x).enc], .agg [.bx (rangeV a bb i0 i1).enc]] (some 29) (c_Within ox (range_ok oa ob)) ?_))
  rintro _ rfl
  refine iQ 1 (iE 71 [(7, .p 7 0), (8, Ba false), (9, .p 9 0), (10, .p 10 0), (11, .p 11 0), (12, .p 12 0), (13, Ia (withinI x (rangeV a bb i0 i1))), (16, Ba false)] [(7, [Bv i0, Bv i1]), (9, [.bx (x).enc]), (10, [.bx (a).enc]), (11, [.bx (bb).enc]), (12, [.bx (rangeV a bb i0 i1).enc])] ?_)
  refine vc_seq (vc_seqr rfl (iQ 1 (iC 14 [.agg [.bx (rangeV a bb i0 i1).enc]] (some 31) (c_NullE (v := rangeV a bb i0 i1)) ?_)))
  rintro _ ⟨nr, rfl, hnr⟩
  refine iQ 1 ?_
  cases nr
  · replace hnr := bf hnr
    refine iQ 1 (iC 14 [.agg [.bx (a).enc]] (some 34) (c_NullE (v := a)) ?_)
    rintro _ ⟨na, rfl, hna⟩
    refine iQ 1 ?_
    cases na
    · replace hna := bf hna
      refine iQ 4 (iE 71 [(7, .p 7 0), (8, Ba false), (9, .p 9 0), (10, .p 10 0), (11, .p 11 0), (12, .p 12 0), (13, Ia (withinI x (rangeV a bb i0 i1))), (16, Ba false), (39, Ba false)] [(7, [Bv i0, Bv i1]), (9, [.bx (x).enc]), (10, [.bx (a).enc]), (11, [.bx (bb).enc]), (12, [.bx (rangeV a bb i0 i1).enc])] ?_)
      refine iF (vc_skip (seq_n (vc_seqr rfl (iQ 1 (iE 71 [(7, .p 7 0), (8, Ba false), (9, .p 9 0), (10, .p 10 0), (11, .p 11 0), (12, .p 12 0), (13, Ia (withinI x (rangeV a bb i0 i1))), (14, Ia 2), (16, Ba false), (39, Ba false)] [(7, [Bv i0, Bv i1]), (9, [.bx (x).enc]), (10, [.bx (a).enc]), (11, [.bx (bb).enc]), (12, [.bx (rangeV a bb i0 i1).enc])] ?_)))))
      refine vc_seq (vc_seqr rfl (iQ 1 (iC 14 [.agg [.bx (a).enc]] (some 43) (c_NullF hna) ?_)))
      rintro _ rfl
      refine iU .not (.bool false) (some 44) ?_
      refine all_true ((by simp)) ?_
      refine iE 71 [(7, .p 7 0), (8, Ba false), (9, .p 9 0), (10, .p 10 0), (11, .p 11 0), (12, .p 12 0), (13, Ia (withinI x (rangeV a bb i0 i1))), (14, Ia 2), (16, Ba false), (39, Ba false), (44, Ba true)] [(7, [Bv i0, Bv i1]), (9, [.bx (x).enc]), (10, [.bx (a).enc]), (11, [.bx (bb).enc]), (12, [.bx (rangeV a bb i0 i1).enc])] ?_
      refine iT (vc_reg rfl (iQ 5 (iC 22 [Bv i0, .agg [.bx (a).enc], .agg [.bx (x).enc]] (some 50) (c_end12 oa ox) ?_)))
      rintro _ rfl
      refine iC 15 [Iv 2, Iv (endI i0 a x)] (some 51) (c_and12) ?_
      rintro _ rfl
      refine iQ 1 (iE 71 [(7, .p 7 0), (8, Ba false), (9, .p 9 0), (10, .p 10 0), (11, .p 11 0), (12, .p 12 0), (13, Ia (withinI x (rangeV a bb i0 i1))), (14, Ia (andI 2 (endI i0 a x))), (16, Ba false), (39, Ba false), (44, Ba true)] [(7, [Bv i0, Bv i1]), (9, [.bx (x).enc]), (10, [.bx (a).enc]), (11, [.bx (bb).enc]), (12, [.bx (rangeV a bb i0 i1).enc])] ?_)
      refine seq_n (vc_seq (vc_seqr rfl (iQ 1 (iC 14 [.agg [.bx (bb).enc]] (some 53) (c_NullE (v := bb)) ?_))))
      rintro _ ⟨nb, rfl, hnb⟩
      refine iU .not (.bool nb) (some 54) ?_
      intro c54 hc54
      refine iE 71 [(7, .p 7 0), (8, Ba false), (9, .p 9 0), (10, .p 10 0), (11, .p 11 0), (12, .p 12 0), (13, Ia (withinI x (rangeV a bb i0 i1))), (14, Ia (andI 2 (endI i0 a x))), (16, Ba false), (39, Ba false), (44, Ba true), (54, Ba c54)] [(7, [Bv i0, Bv i1]), (9, [.bx (x).enc]), (10, [.bx (a).enc]), (11, [.bx (bb).enc]), (12, [.bx (rangeV a bb i0 i1).enc])] ?_
      cases c54
      · replace hc54 := bf hc54
        have hnb' : bb.kindI = 1 := hnb.1 (by simpa using hc54)
        refine iF (vc_skip (seq_n (vc_seqr rfl (iQ 2 (iB .eql 23 (.int .i64 (withinI x (rangeV a bb i0 i1))) (.int .i64 (andI 2 (endI i0 a x))) (some 64) ?_)))))
        refine all_true ((within_lo hnr hna hnb')) ?_
        refine iQ 3 (iC 21 [.agg [.bx (x).enc], .agg [.bx (a).enc]] (some 68) (c_Within ox oa) ?_)
        rintro _ rfl
        refine iB .eql 23 (.int .i64 (withinI x a)) (.int .i64 0) (some 69) ?_
        refine all_true ((within_end hnr)) ?_
        refine iQ 2 (iE 71 [(7, .p 7 0), (8, Ba true), (9, .p 9 0), (10, .p 10 0), (11, .p 11 0), (12, .p 12 0), (13, Ia (withinI x (rangeV a bb i0 i1))), (14, Ia (andI 2 (endI i0 a x))), (16, Ba false), (39, Ba false), (44, Ba true), (54, Ba false)] [(7, [Bv i0, Bv i1]), (9, [.bx (x).enc]), (10, [.bx (a).enc]), (11, [.bx (bb).enc]), (12, [.bx (rangeV a bb i0 i1).enc])] ?_)
        refine vc_ret (iR (Bv true) ?_)
        rfl
      · replace hc54 := bt hc54
        have hnb' : bb.kindI ≠ 1 := fun h => by have := hnb.2 h; rw [this] at hc54; cases hc54
        refine iT (vc_reg rfl (iQ 5 (iC 22 [Bv i1, .agg [.bx (x).enc], .agg [.bx (bb).enc]] (some 60) (c_end12 ox ob) ?_)))
        rintro _ rfl
        refine iC 15 [Iv (andI 2 (endI i0 a x)), Iv (endI i1 x bb)] (some 61) (c_and12) ?_
        rintro _ rfl
        refine iQ 1 (iE 71 [(7, .p 7 0), (8, Ba false), (9, .p 9 0), (10, .p 10 0), (11, .p 11 0), (12, .p 12 0), (13, Ia (withinI x (rangeV a bb i0 i1))), (14, Ia (andI (andI 2 (endI i0 a x)) (endI i1 x bb))), (16, Ba false), (39, Ba false), (44, Ba true), (54, Ba true)] [(7, [Bv i0, Bv i1]), (9, [.bx (x).enc]), (10, [.bx (a).enc]), (11, [.bx (bb).enc]), (12, [.bx (rangeV a bb i0 i1).enc])] ?_)
        refine seq_n (vc_seqr rfl (iQ 2 (iB .eql 23 (.int .i64 (withinI x (rangeV a bb i0 i1))) (.int .i64 (andI (andI 2 (endI i0 a x)) (endI i1 x bb))) (some 64) ?_)))
        refine all_true ((within_both hnr hna hnb')) ?_
        refine iQ 3 (iC 21 [.agg [.bx (x).enc], .agg [.bx (a).enc]] (some 68) (c_Within ox oa) ?_)
        rintro _ rfl
        refine iB .eql 23 (.int .i64 (withinI x a)) (.int .i64 0) (some 69) ?_
        refine all_true ((within_end hnr)) ?_
        refine iQ 2 (iE 71 [(7, .p 7 0), (8, Ba true), (9, .p 9 0), (10, .p 10 0), (11, .p 11 0), (12, .p 12 0), (13, Ia (withinI x (rangeV a bb i0 i1))), (14, Ia (andI (andI 2 (endI i0 a x)) (endI i1 x bb))), (16, Ba false), (39, Ba false), (44, Ba true), (54, Ba true)] [(7, [Bv i0, Bv i1]), (9, [.bx (x).enc]), (10, [.bx (a).enc]), (11, [.bx (bb).enc]), (12, [.bx (rangeV a bb i0 i1).enc])] ?_)
        refine vc_ret (iR (Bv true) ?_)
        rfl
    · replace hna := bt hna
      refine iQ 1 (iC 14 [.agg [.bx (bb).enc]] (some 37) (c_NullE (v := bb)) ?_)
      rintro _ ⟨nb, rfl, hnb⟩
      refine iQ 2 (iE 71 [(7, .p 7 0), (8, Ba false), (9, .p 9 0), (10, .p 10 0), (11, .p 11 0), (12, .p 12 0), (13, Ia (withinI x (rangeV a bb i0 i1))), (16, Ba false), (39, Ba nb)] [(7, [Bv i0, Bv i1]), (9, [.bx (x).enc]), (10, [.bx (a).enc]), (11, [.bx (bb).enc]), (12, [.bx (rangeV a bb i0 i1).enc])] ?_)
      cases nb
      · replace hnb := bf hnb
        refine iF (vc_skip (seq_n (vc_seqr rfl (iQ 1 (iE 71 [(7, .p 7 0), (8, Ba false), (9, .p 9 0), (10, .p 10 0), (11, .p 11 0), (12, .p 12 0), (13, Ia (withinI x (rangeV a bb i0 i1))), (14, Ia 2), (16, Ba false), (39, Ba false)] [(7, [Bv i0, Bv i1]), (9, [.bx (x).enc]), (10, [.bx (a).enc]), (11, [.bx (bb).enc]), (12, [.bx (rangeV a bb i0 i1).enc])] ?_)))))
        refine vc_seq (vc_seqr rfl (iQ 1 (iC 14 [.agg [.bx (a).enc]] (some 43) (c_NullT hna) ?_)))
        rintro _ rfl
        refine iU .not (.bool true) (some 44) ?_
        refine all_false ((by simp)) ?_
        refine iE 71 [(7, .p 7 0), (8, Ba false), (9, .p 9 0), (10, .p 10 0), (11, .p 11 0), (12, .p 12 0), (13, Ia (withinI x (rangeV a bb i0 i1))), (14, Ia 2), (16, Ba false), (39, Ba false), (44, Ba false)] [(7, [Bv i0, Bv i1]), (9, [.bx (x).enc]), (10, [.bx (a).enc]), (11, [.bx (bb).enc]), (12, [.bx (rangeV a bb i0 i1).enc])] ?_
        refine iF (vc_skip (seq_n (vc_seq (vc_seqr rfl (iQ 1 (iC 14 [.agg [.bx (bb).enc]] (some 53) (c_NullF hnb) ?_))))))
        rintro _ rfl
        refine iU .not (.bool false) (some 54) ?_
        refine all_true ((by simp)) ?_
        refine iE 71 [(7, .p 7 0), (8, Ba false), (9, .p 9 0), (10, .p 10 0), (11, .p 11 0), (12, .p 12 0), (13, Ia (withinI x (rangeV a bb i0 i1))), (14, Ia 2), (16, Ba false), (39, Ba false), (44, Ba false), (54, Ba true)] [(7, [Bv i0, Bv i1]), (9, [.bx (x).enc]), (10, [.bx (a).enc]), (11, [.bx (bb).enc]), (12, [.bx (rangeV a bb i0 i1).enc])] ?_
        refine iT (vc_reg rfl (iQ 5 (iC 22 [Bv i1, .agg [.bx (x).enc], .agg [.bx (bb).enc]] (some 60) (c_end12 ox ob) ?_)))
        rintro _ rfl
        refine iC 15 [Iv 2, Iv (endI i1 x bb)] (some 61) (c_and12) ?_
        rintro _ rfl
        refine iQ 1 (iE 71 [(7, .p 7 0), (8, Ba false), (9, .p 9 0), (10, .p 10 0), (11, .p 11 0), (12, .p 12 0), (13, Ia (withinI x (rangeV a bb i0 i1))), (14, Ia (andI 2 (endI i1 x bb))), (16, Ba false), (39, Ba false), (44, Ba false), (54, Ba true)] [(7, [Bv i0, Bv i1]), (9, [.bx (x).enc]), (10, [.bx (a).enc]), (11, [.bx (bb).enc]), (12, [.bx (rangeV a bb i0 i1).enc])] ?_)
        refine seq_n (vc_seqr rfl (iQ 2 (iB .eql 23 (.int .i64 (withinI x (rangeV a bb i0 i1))) (.int .i64 (andI 2 (endI i1 x bb))) (some 64) ?_)))
        refine all_true ((within_hi hnr hna hnb)) ?_
        refine iQ 3 (iC 21 [.agg [.bx (x).enc], .agg [.bx (a).enc]] (some 68) (c_Within ox oa) ?_)
        rintro _ rfl
        refine iB .eql 23 (.int .i64 (withinI x a)) (.int .i64 0) (some 69) ?_
        refine all_true ((within_end hnr)) ?_
        refine iQ 2 (iE 71 [(7, .p 7 0), (8, Ba true), (9, .p 9 0), (10, .p 10 0), (11, .p 11 0), (12, .p 12 0), (13, Ia (withinI x (rangeV a bb i0 i1))), (14, Ia (andI 2 (endI i1 x bb))), (16, Ba false), (39, Ba false), (44, Ba false), (54, Ba true)] [(7, [Bv i0, Bv i1]), (9, [.bx (x).enc]), (10, [.bx (a).enc]), (11, [.bx (bb).enc]), (12, [.bx (rangeV a bb i0 i1).enc])] ?_)
        refine vc_ret (iR (Bv true) ?_)
        rfl
      · replace hnb := bt hnb
        refine iT (vc_seqr rfl (iQ 1 (iB .eql 23 (.int .i64 (withinI x (rangeV a bb i0 i1))) (.int .i64 0) (some 41) ?_)))
        intro c41 hc41
        refine iQ 1 (iE 71 [(7, .p 7 0), (8, Ba c41), (9, .p 9 0), (10, .p 10 0), (11, .p 11 0), (12, .p 12 0), (13, Ia (withinI x (rangeV a bb i0 i1))), (16, Ba false), (39, Ba true)] [(7, [Bv i0, Bv i1]), (9, [.bx (x).enc]), (10, [.bx (a).enc]), (11, [.bx (bb).enc]), (12, [.bx (rangeV a bb i0 i1).enc])] ?_)
        refine vc_ret (seq_r (iR (Bv c41) ?_))
        rw [hc41.2 (within_no (.inr ⟨hna, hnb⟩))]
  · replace hnr := bt hnr
    refine iQ 7 (iE 71 [(7, .p 7 0), (8, Ba false), (9, .p 9 0), (10, .p 10 0), (11, .p 11 0), (12, .p 12 0), (13, Ia (withinI x (rangeV a bb i0 i1))), (16, Ba false), (39, Ba true)] [(7, [Bv i0, Bv i1]), (9, [.bx (x).enc]), (10, [.bx (a).enc]), (11, [.bx (bb).enc]), (12, [.bx (rangeV a bb i0 i1).enc])] ?_)
    refine iT (vc_seqr rfl (iQ 1 (iB .eql 23 (.int .i64 (withinI x (rangeV a bb i0 i1))) (.int .i64 0) (some 41) ?_)))
    intro c41 hc41
    refine iQ 1 (iE 71 [(7, .p 7 0), (8, Ba c41), (9, .p 9 0), (10, .p 10 0), (11, .p 11 0), (12, .p 12 0), (13, Ia (withinI x (rangeV a bb i0 i1))), (16, Ba false), (39, Ba true)] [(7, [Bv i0, Bv i1]), (9, [.bx (x).enc]), (10, [.bx (a).enc]), (11, [.bx (bb).enc]), (12, [.bx (rangeV a bb i0 i1).enc])] ?_)
    refine vc_ret (seq_r (iR (Bv c41) ?_))
    rw [hc41.2 (within_no (.inl hnr))]
end Go.Proofs.YtpambeengdhhmaaGreatDoor
