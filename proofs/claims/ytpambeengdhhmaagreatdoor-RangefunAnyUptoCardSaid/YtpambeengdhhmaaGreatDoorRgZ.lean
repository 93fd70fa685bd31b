/-
  rangefun: what it says of the ends of whatever values. rangefun.holds, of, Holds of whatever values; casuistlaw23's yes, fits. casuistlaw23: awake, words, RangefunAny.
-/
import Derived.Test.YtpambeengdhhmaaGreatDoorVlW
namespace Go.Proofs.YtpambeengdhhmaaGreatDoor

open Go.RowKit
set_option linter.unusedVariables false
set_option linter.unusedSimpArgs false
set_option maxRecDepth 100000

noncomputable def sameI (a b : Vl) : Int := match ordV a b with
  | some c => ofI (decide (c = 0))
  | none => 0
noncomputable def eiI (a b : Vl) (m : Bool) : Int := notI (andI (notI (lessI a b)) (notI (andI (sameI a b) (ofI m))))
theorem bnotE {c p : Bool} (h : c = true ↔ p = false) : c = !p := by cases c <;> cases p <;> simp_all
theorem beqE {c p q : Bool} (h : c = true ↔ p = q) : c = (p == q) := by cases c <;> cases p <;> cases q <;> simp_all
theorem g_less {x y : Vl} (hx : x.ok) (hy : y.ok) : HasC Tryz.prog 168 [.agg [.bx (x).enc], .agg [.bx (y).enc]] (fun r => r = .v (.int .i64 (lessI x y))) := by
 refine HasC.of [] (fn := Tryz.f168) tyOk mixed (fun args w => Tryz.call168 args w) Tryz.func168 rfl (by kernel_rfl) (Nat.le_of_ble_eq_true rfl) (⟨_, rfl⟩) ?_
 refine vc_seqr rfl (iQ 3 (iE 8 [(2, .p 2 0), (3, .p 3 0), (4, Ia 0)] [(2, [.bx (x).enc]), (3, [.bx (y).enc])] ?_))
 refine vc_seqr rfl (iQ 2 (iC 35 [.agg [.bx (x).enc], .agg [.bx (y).enc]] (some 7) (c_Less hx hy) ?_))
 rintro _ rfl
 refine iQ 1 (iE 8 [(4, Ia (lessI x y))] [] ?_)
 refine vc_ret (iR (Iv (lessI x y)) ?_)
 rfl
theorem g_same {x y : Vl} (hx : x.ok) (hy : y.ok) : HasC Tryz.prog 131 [.agg [.bx (x).enc], .agg [.bx (y).enc]] (fun r => r = .v (.int .i64 (sameI x y))) := by
 refine HasC.of [] (fn := Tryz.f131) tyOk mixed (fun args w => Tryz.call131 args w) Tryz.func131 rfl (by kernel_rfl) (Nat.le_of_ble_eq_true rfl) (⟨_, rfl⟩) ?_
 refine vc_seqr rfl (iQ 3 (iE 18 [(2, .p 2 0), (3, .p 3 0), (4, Ia 0)] [(2, [.bx (x).enc]), (3, [.bx (y).enc])] ?_))
 refine vc_seqr rfl (iQ 2 (iC 24 [.agg [.bx (x).enc], .agg [.bx (y).enc]] (some 10) (c_CmpE hx hy) ?_))
 rintro _ ⟨c, ok, rfl, h1, h2⟩
 obtain ⟨k1, k2⟩ := some_of h1 h2
 refine iQ 5 (iE 18 [(4, Ia 0), (5, Ia c), (6, Ba ok)] [] ?_)
 refine vc_seq (vc_seqr rfl (iQ 1 (iU .not (.bool ok) (some 14) ?_)))
 intro c14 hc14
 refine iE 18 [(4, Ia 0), (5, Ia c), (14, Ba c14)] [] ?_
 cases c14
 ·replace hc14 := bf hc14
  refine iF (vc_skip (seq_n (vc_seqr rfl (iQ 1 (iB .eql 3 (.int .i64 c) (.int .i64 0) (some 16) ?_)))))
  intro c16 hc16
  refine iC 18 [Bv c16] (some 17) (c_eOf (p := c16)) ?_
  rintro _ rfl
  refine iQ 1 (iE 18 [(4, Ia (ofI c16)), (14, Ba false)] [] ?_)
  refine vc_ret (iR (Iv (ofI c16)) ?_)
  rw [sameI, k1 (by simpa using hc14)]; simp only; rw [show decide (c = 0) = c16 from Bool.eq_iff_iff.2 (by rw [decide_eq_true_iff, hc16])]
 ·replace hc14 := bt hc14
  refine iT (vc_seqr rfl (iQ 1 (iE 18 [(4, Ia 0), (5, Ia c), (14, Ba true)] [] ?_)))
  refine vc_ret (seq_r (iR (Iv 0) ?_))
  rw [sameI, k2 (by simpa using hc14)]
theorem g_either {x y : Vl} {m : Bool} (hx : x.ok) (hy : y.ok) : HasC Tryz.prog 130 [.agg [.bx (x).enc], .agg [.bx (y).enc], .v (.bool m)] (fun r => r = .v (.int .i64 (eiI x y m))) := by
 refine HasC.of [] (fn := Tryz.f130) tyOk mixed (fun args w => Tryz.call130 args w) Tryz.func130 rfl (by kernel_rfl) (Nat.le_of_ble_eq_true rfl) (⟨_, rfl⟩) ?_
 refine vc_seqr rfl (iQ 3 (iE 17 [(2, Ba m), (3, .p 3 0), (4, .p 4 0), (6, Ia 0)] [(3, [.bx (x).enc]), (4, [.bx (y).enc])] ?_))
 refine vc_seqr rfl (iQ 2 (iC 168 [.agg [.bx (x).enc], .agg [.bx (y).enc]] (some 9) (g_less hx hy) ?_))
 rintro _ rfl
 refine iQ 2 (iC 131 [.agg [.bx (x).enc], .agg [.bx (y).enc]] (some 12) (g_same hx hy) ?_)
 rintro _ rfl
 refine iQ 1 (iC 18 [Bv m] (some 14) (c_eOf (p := m)) ?_)
 rintro _ rfl
 refine iC 11 [Iv (sameI x y), Iv (ofI m)] (some 15) (c_eAnd) ?_
 rintro _ rfl
 refine iC 12 [Iv (lessI x y), Iv (andI (sameI x y) (ofI m))] (some 16) (c_eOr) ?_
 rintro _ rfl
 refine iQ 1 (iE 17 [(6, Ia (notI (andI (notI (lessI x y)) (notI (andI (sameI x y) (ofI m))))))] [] ?_)
 refine vc_ret (iR (Iv (notI (andI (notI (lessI x y)) (notI (andI (sameI x y) (ofI m)))))) ?_)
 rfl
theorem g_before {a0 a1 b0 b1 : Vl} {p0 p1 q0 q1 pa pb : Bool} (ha0 : a0.ok) (ha1 : a1.ok) (hb0 : b0.ok) (hb1 : b1.ok) : HasC Tryz.prog 79 [.agg [.bx (a0).enc, .bx (a1).enc, .v (.bool p0), .v (.bool p1), .v (.bool pa)], .agg [.bx (b0).enc, .bx (b1).enc, .v (.bool q0), .v (.bool q1), .v (.bool pb)]] (fun r => r = .v (.int .i64 (eiI a1 b0 (!p1 || !q0)))) := by
 refine HasC.of [] (fn := Tryz.f79) tyOk mixed (fun args w => Tryz.call79 args w) Tryz.func79 rfl (by kernel_rfl) (Nat.le_of_ble_eq_true rfl) (⟨_, rfl⟩) ?_
 refine vc_seqr rfl (iQ 3 (iE 20 [(2, .p 2 0), (3, .p 3 0), (4, Ia 0)] [(2, [.bx (a0).enc, .bx (a1).enc, Bv p0, Bv p1, Bv pa]), (3, [.bx (b0).enc, .bx (b1).enc, Bv q0, Bv q1, Bv pb])] ?_))
 refine vc_seqr rfl (iQ 7 (iU .not (.bool p1) (some 12) ?_))
 intro c12 hc12
 refine iQ 1 ?_
 cases c12
 ·replace hc12 := bf hc12
  refine iQ 3 (iU .not (.bool q0) (some 17) ?_)
  intro c17 hc17
  refine iQ 1 (iC 130 [.agg [.bx (a1).enc], .agg [.bx (b0).enc], Bv c17] (some 19) (g_either ha1 hb0) ?_)
  rintro _ rfl
  refine iQ 1 (iE 20 [(4, Ia (eiI a1 b0 c17))] [] ?_)
  refine vc_ret (iR (Iv (eiI a1 b0 c17)) ?_)
  rw [show p1 = true by simpa using hc12, bnotE hc17]; rfl
 ·replace hc12 := bt hc12
  refine iQ 5 (iC 130 [.agg [.bx (a1).enc], .agg [.bx (b0).enc], Bv true] (some 19) (g_either ha1 hb0) ?_)
  rintro _ rfl
  refine iQ 1 (iE 20 [(4, Ia (eiI a1 b0 true))] [] ?_)
  refine vc_ret (iR (Iv (eiI a1 b0 true)) ?_)
  rw [hc12]; rfl
theorem g_from {a0 a1 b0 b1 : Vl} {p0 p1 q0 q1 pa pb : Bool} (ha0 : a0.ok) (ha1 : a1.ok) (hb0 : b0.ok) (hb1 : b1.ok) : HasC Tryz.prog 82 [.agg [.bx (a0).enc, .bx (a1).enc, .v (.bool p0), .v (.bool p1), .v (.bool pa)], .agg [.bx (b0).enc, .bx (b1).enc, .v (.bool q0), .v (.bool q1), .v (.bool pb)]] (fun r => r = .v (.int .i64 (eiI a0 b0 (p0 || !q0)))) := by
 refine HasC.of [] (fn := Tryz.f82) tyOk mixed (fun args w => Tryz.call82 args w) Tryz.func82 rfl (by kernel_rfl) (Nat.le_of_ble_eq_true rfl) (⟨_, rfl⟩) ?_
 refine vc_seqr rfl (iQ 3 (iE 19 [(2, .p 2 0), (3, .p 3 0), (4, Ia 0)] [(2, [.bx (a0).enc, .bx (a1).enc, Bv p0, Bv p1, Bv pa]), (3, [.bx (b0).enc, .bx (b1).enc, Bv q0, Bv q1, Bv pb])] ?_))
 refine vc_seqr rfl (iQ 8 ?_)
 cases p0
 ·skip
  refine iQ 3 (iU .not (.bool q0) (some 16) ?_)
  intro c16 hc16
  refine iQ 1 (iC 130 [.agg [.bx (a0).enc], .agg [.bx (b0).enc], Bv c16] (some 18) (g_either ha0 hb0) ?_)
  rintro _ rfl
  refine iQ 1 (iE 19 [(4, Ia (eiI a0 b0 c16))] [] ?_)
  refine vc_ret (iR (Iv (eiI a0 b0 c16)) ?_)
  rw [bnotE hc16]; rfl
 ·skip
  refine iQ 5 (iC 130 [.agg [.bx (a0).enc], .agg [.bx (b0).enc], Bv true] (some 18) (g_either ha0 hb0) ?_)
  rintro _ rfl
  refine iQ 1 (iE 19 [(4, Ia (eiI a0 b0 true))] [] ?_)
  refine vc_ret (iR (Iv (eiI a0 b0 true)) ?_)
  rfl
theorem g_to {a0 a1 b0 b1 : Vl} {p0 p1 q0 q1 pa pb : Bool} (ha0 : a0.ok) (ha1 : a1.ok) (hb0 : b0.ok) (hb1 : b1.ok) : HasC Tryz.prog 83 [.agg [.bx (a0).enc, .bx (a1).enc, .v (.bool p0), .v (.bool p1), .v (.bool pa)], .agg [.bx (b0).enc, .bx (b1).enc, .v (.bool q0), .v (.bool q1), .v (.bool pb)]] (fun r => r = .v (.int .i64 (eiI b1 a1 (p1 || !q1)))) := by
 refine HasC.of [] (fn := Tryz.f83) tyOk mixed (fun args w => Tryz.call83 args w) Tryz.func83 rfl (by kernel_rfl) (Nat.le_of_ble_eq_true rfl) (⟨_, rfl⟩) ?_
 refine vc_seqr rfl (iQ 3 (iE 19 [(2, .p 2 0), (3, .p 3 0), (4, Ia 0)] [(2, [.bx (a0).enc, .bx (a1).enc, Bv p0, Bv p1, Bv pa]), (3, [.bx (b0).enc, .bx (b1).enc, Bv q0, Bv q1, Bv pb])] ?_))
 refine vc_seqr rfl (iQ 8 ?_)
 cases p1
 ·skip
  refine iQ 3 (iU .not (.bool q1) (some 16) ?_)
  intro c16 hc16
  refine iQ 1 (iC 130 [.agg [.bx (b1).enc], .agg [.bx (a1).enc], Bv c16] (some 18) (g_either hb1 ha1) ?_)
  rintro _ rfl
  refine iQ 1 (iE 19 [(4, Ia (eiI b1 a1 c16))] [] ?_)
  refine vc_ret (iR (Iv (eiI b1 a1 c16)) ?_)
  rw [bnotE hc16]; rfl
 ·skip
  refine iQ 5 (iC 130 [.agg [.bx (b1).enc], .agg [.bx (a1).enc], Bv true] (some 18) (g_either hb1 ha1) ?_)
  rintro _ rfl
  refine iQ 1 (iE 19 [(4, Ia (eiI b1 a1 true))] [] ?_)
  refine vc_ret (iR (Iv (eiI b1 a1 true)) ?_)
  rfl
theorem g_meets {a0 a1 b0 b1 : Vl} {p0 p1 q0 q1 pa pb : Bool} (ha0 : a0.ok) (ha1 : a1.ok) (hb0 : b0.ok) (hb1 : b1.ok) : HasC Tryz.prog 80 [.agg [.bx (a0).enc, .bx (a1).enc, .v (.bool p0), .v (.bool p1), .v (.bool pa)], .agg [.bx (b0).enc, .bx (b1).enc, .v (.bool q0), .v (.bool q1), .v (.bool pb)]] (fun r => r = .v (.int .i64 (andI (sameI a1 b0) (ofI (p1 && q0))))) := by
 refine HasC.of [] (fn := Tryz.f80) tyOk mixed (fun args w => Tryz.call80 args w) Tryz.func80 rfl (by kernel_rfl) (Nat.le_of_ble_eq_true rfl) (⟨_, rfl⟩) ?_
 refine vc_seqr rfl (iQ 3 (iE 20 [(2, .p 2 0), (3, .p 3 0), (4, Ia 0)] [(2, [.bx (a0).enc, .bx (a1).enc, Bv p0, Bv p1, Bv pa]), (3, [.bx (b0).enc, .bx (b1).enc, Bv q0, Bv q1, Bv pb])] ?_))
 refine vc_seqr rfl (iQ 4 (iC 131 [.agg [.bx (a1).enc], .agg [.bx (b0).enc]] (some 9) (g_same ha1 hb0) ?_))
 rintro _ rfl
 refine iQ 4 ?_
 cases p1
 ·skip
  refine iQ 4 (iC 18 [Bv false] (some 18) (c_eOf (p := false)) ?_)
  rintro _ rfl
  refine iC 11 [Iv (sameI a1 b0), Iv (ofI false)] (some 19) (c_eAnd) ?_
  rintro _ rfl
  refine iQ 1 (iE 20 [(4, Ia (andI (sameI a1 b0) (ofI false)))] [] ?_)
  refine vc_ret (iR (Iv (andI (sameI a1 b0) (ofI false))) ?_)
  rfl
 ·skip
  refine iQ 4 (iC 18 [Bv q0] (some 18) (c_eOf (p := q0)) ?_)
  rintro _ rfl
  refine iC 11 [Iv (sameI a1 b0), Iv (ofI q0)] (some 19) (c_eAnd) ?_
  rintro _ rfl
  refine iQ 1 (iE 20 [(4, Ia (andI (sameI a1 b0) (ofI q0)))] [] ?_)
  refine vc_ret (iR (Iv (andI (sameI a1 b0) (ofI q0))) ?_)
  rfl
theorem g_starts {a0 a1 b0 b1 : Vl} {p0 p1 q0 q1 pa pb : Bool} (ha0 : a0.ok) (ha1 : a1.ok) (hb0 : b0.ok) (hb1 : b1.ok) : HasC Tryz.prog 85 [.agg [.bx (a0).enc, .bx (a1).enc, .v (.bool p0), .v (.bool p1), .v (.bool pa)], .agg [.bx (b0).enc, .bx (b1).enc, .v (.bool q0), .v (.bool q1), .v (.bool pb)]] (fun r => r = .v (.int .i64 (andI (sameI a0 b0) (ofI (p0 == q0))))) := by
 refine HasC.of [] (fn := Tryz.f85) tyOk mixed (fun args w => Tryz.call85 args w) Tryz.func85 rfl (by kernel_rfl) (Nat.le_of_ble_eq_true rfl) (⟨_, rfl⟩) ?_
 refine vc_seqr rfl (iQ 3 (iE 19 [(2, .p 2 0), (3, .p 3 0), (4, Ia 0)] [(2, [.bx (a0).enc, .bx (a1).enc, Bv p0, Bv p1, Bv pa]), (3, [.bx (b0).enc, .bx (b1).enc, Bv q0, Bv q1, Bv pb])] ?_))
 refine vc_seqr rfl (iQ 4 (iC 131 [.agg [.bx (a0).enc], .agg [.bx (b0).enc]] (some 9) (g_same ha0 hb0) ?_))
 rintro _ rfl
 refine iQ 6 (iB .eql 4 (.bool p0) (.bool q0) (some 16) ?_)
 intro c16 hc16
 refine iC 18 [Bv c16] (some 17) (c_eOf (p := c16)) ?_
 rintro _ rfl
 refine iC 11 [Iv (sameI a0 b0), Iv (ofI c16)] (some 18) (c_eAnd) ?_
 rintro _ rfl
 refine iQ 1 (iE 19 [(4, Ia (andI (sameI a0 b0) (ofI c16)))] [] ?_)
 refine vc_ret (iR (Iv (andI (sameI a0 b0) (ofI c16))) ?_)
 rw [beqE hc16]
theorem g_ends {a0 a1 b0 b1 : Vl} {p0 p1 q0 q1 pa pb : Bool} (ha0 : a0.ok) (ha1 : a1.ok) (hb0 : b0.ok) (hb1 : b1.ok) : HasC Tryz.prog 84 [.agg [.bx (a0).enc, .bx (a1).enc, .v (.bool p0), .v (.bool p1), .v (.bool pa)], .agg [.bx (b0).enc, .bx (b1).enc, .v (.bool q0), .v (.bool q1), .v (.bool pb)]] (fun r => r = .v (.int .i64 (andI (sameI a1 b1) (ofI (p1 == q1))))) := by
 refine HasC.of [] (fn := Tryz.f84) tyOk mixed (fun args w => Tryz.call84 args w) Tryz.func84 rfl (by kernel_rfl) (Nat.le_of_ble_eq_true rfl) (⟨_, rfl⟩) ?_
 refine vc_seqr rfl (iQ 3 (iE 19 [(2, .p 2 0), (3, .p 3 0), (4, Ia 0)] [(2, [.bx (a0).enc, .bx (a1).enc, Bv p0, Bv p1, Bv pa]), (3, [.bx (b0).enc, .bx (b1).enc, Bv q0, Bv q1, Bv pb])] ?_))
 refine vc_seqr rfl (iQ 4 (iC 131 [.agg [.bx (a1).enc], .agg [.bx (b1).enc]] (some 9) (g_same ha1 hb1) ?_))
 rintro _ rfl
 refine iQ 6 (iB .eql 4 (.bool p1) (.bool q1) (some 16) ?_)
 intro c16 hc16
 refine iC 18 [Bv c16] (some 17) (c_eOf (p := c16)) ?_
 rintro _ rfl
 refine iC 11 [Iv (sameI a1 b1), Iv (ofI c16)] (some 18) (c_eAnd) ?_
 rintro _ rfl
 refine iQ 1 (iE 19 [(4, Ia (andI (sameI a1 b1) (ofI c16)))] [] ?_)
 refine vc_ret (iR (Iv (andI (sameI a1 b1) (ofI c16))) ?_)
 rw [beqE hc16]
theorem g_overlaps {a0 a1 b0 b1 : Vl} {p0 p1 q0 q1 pa pb : Bool} (ha0 : a0.ok) (ha1 : a1.ok) (hb0 : b0.ok) (hb1 : b1.ok) : HasC Tryz.prog 81 [.agg [.bx (a0).enc, .bx (a1).enc, .v (.bool p0), .v (.bool p1), .v (.bool pa)], .agg [.bx (b0).enc, .bx (b1).enc, .v (.bool q0), .v (.bool q1), .v (.bool pb)]] (fun r => r = .v (.int .i64 (andI (eiI b0 a1 (q0 && p1)) (eiI a0 b1 (p0 && q1))))) := by
 refine HasC.of [] (fn := Tryz.f81) tyOk mixed (fun args w => Tryz.call81 args w) Tryz.func81 rfl (by kernel_rfl) (Nat.le_of_ble_eq_true rfl) (⟨_, rfl⟩) ?_
 refine vc_seqr rfl (iQ 3 (iE 32 [(2, .p 2 0), (3, .p 3 0), (4, Ia 0)] [(2, [.bx (a0).enc, .bx (a1).enc, Bv p0, Bv p1, Bv pa]), (3, [.bx (b0).enc, .bx (b1).enc, Bv q0, Bv q1, Bv pb])] ?_))
 refine vc_seqr rfl (iQ 8 ?_)
 cases q0
 ·skip
  refine iQ 4 (iC 130 [.agg [.bx (b0).enc], .agg [.bx (a1).enc], Bv false] (some 17) (g_either hb0 ha1) ?_)
  rintro _ rfl
  refine iQ 8 ?_
  cases p0
  ·skip
   refine iQ 4 (iC 130 [.agg [.bx (a0).enc], .agg [.bx (b1).enc], Bv false] (some 30) (g_either ha0 hb1) ?_)
   rintro _ rfl
   refine iC 11 [Iv (eiI b0 a1 false), Iv (eiI a0 b1 false)] (some 31) (c_eAnd) ?_
   rintro _ rfl
   refine iQ 1 (iE 32 [(4, Ia (andI (eiI b0 a1 false) (eiI a0 b1 false)))] [] ?_)
   refine vc_ret (iR (Iv (andI (eiI b0 a1 false) (eiI a0 b1 false))) ?_)
   rfl
  ·skip
   refine iQ 4 (iC 130 [.agg [.bx (a0).enc], .agg [.bx (b1).enc], Bv q1] (some 30) (g_either ha0 hb1) ?_)
   rintro _ rfl
   refine iC 11 [Iv (eiI b0 a1 false), Iv (eiI a0 b1 q1)] (some 31) (c_eAnd) ?_
   rintro _ rfl
   refine iQ 1 (iE 32 [(4, Ia (andI (eiI b0 a1 false) (eiI a0 b1 q1)))] [] ?_)
   refine vc_ret (iR (Iv (andI (eiI b0 a1 false) (eiI a0 b1 q1))) ?_)
   rfl
 ·skip
  refine iQ 4 (iC 130 [.agg [.bx (b0).enc], .agg [.bx (a1).enc], Bv p1] (some 17) (g_either hb0 ha1) ?_)
  rintro _ rfl
  refine iQ 8 ?_
  cases p0
  ·skip
   refine iQ 4 (iC 130 [.agg [.bx (a0).enc], .agg [.bx (b1).enc], Bv false] (some 30) (g_either ha0 hb1) ?_)
   rintro _ rfl
   refine iC 11 [Iv (eiI b0 a1 p1), Iv (eiI a0 b1 false)] (some 31) (c_eAnd) ?_
   rintro _ rfl
   refine iQ 1 (iE 32 [(4, Ia (andI (eiI b0 a1 p1) (eiI a0 b1 false)))] [] ?_)
   refine vc_ret (iR (Iv (andI (eiI b0 a1 p1) (eiI a0 b1 false))) ?_)
   rfl
  ·skip
   refine iQ 4 (iC 130 [.agg [.bx (a0).enc], .agg [.bx (b1).enc], Bv q1] (some 30) (g_either ha0 hb1) ?_)
   rintro _ rfl
   refine iC 11 [Iv (eiI b0 a1 p1), Iv (eiI a0 b1 q1)] (some 31) (c_eAnd) ?_
   rintro _ rfl
   refine iQ 1 (iE 32 [(4, Ia (andI (eiI b0 a1 p1) (eiI a0 b1 q1)))] [] ?_)
   refine vc_ret (iR (Iv (andI (eiI b0 a1 p1) (eiI a0 b1 q1))) ?_)
   rfl
abbrev w_before : ByteArray := ⟨#[98, 101, 102, 111, 114, 101]⟩
abbrev w_after : ByteArray := ⟨#[97, 102, 116, 101, 114]⟩
abbrev w_meets : ByteArray := ⟨#[109, 101, 101, 116, 115]⟩
abbrev w_met_by : ByteArray := ⟨#[109, 101, 116, 32, 98, 121]⟩
abbrev w_overlaps : ByteArray := ⟨#[111, 118, 101, 114, 108, 97, 112, 115]⟩
abbrev w_overlaps_before : ByteArray := ⟨#[111, 118, 101, 114, 108, 97, 112, 115, 32, 98, 101, 102, 111, 114, 101]⟩
abbrev w_overlaps_after : ByteArray := ⟨#[111, 118, 101, 114, 108, 97, 112, 115, 32, 97, 102, 116, 101, 114]⟩
abbrev w_finishes : ByteArray := ⟨#[102, 105, 110, 105, 115, 104, 101, 115]⟩
abbrev w_finished_by : ByteArray := ⟨#[102, 105, 110, 105, 115, 104, 101, 100, 32, 98, 121]⟩
abbrev w_includes : ByteArray := ⟨#[105, 110, 99, 108, 117, 100, 101, 115]⟩
abbrev w_during : ByteArray := ⟨#[100, 117, 114, 105, 110, 103]⟩
abbrev w_starts : ByteArray := ⟨#[115, 116, 97, 114, 116, 115]⟩
abbrev w_started_by : ByteArray := ⟨#[115, 116, 97, 114, 116, 101, 100, 32, 98, 121]⟩
abbrev w_coincides : ByteArray := ⟨#[99, 111, 105, 110, 99, 105, 100, 101, 115]⟩
/-- What a word says of two, from their ends. -/
noncomputable def hV (w : ByteArray) (a0 a1 : Vl) (p0 p1 : Bool) (b0 b1 : Vl) (q0 q1 : Bool) : Int :=
  if w = w_before then eiI a1 b0 (!p1 || !q0) else
  if w = w_after then eiI b1 a0 (!q1 || !p0) else
  if w = w_meets then andI (sameI a1 b0) (ofI (p1 && q0)) else
  if w = w_met_by then andI (sameI b1 a0) (ofI (q1 && p0)) else
  if w = w_overlaps then andI (eiI b0 a1 (q0 && p1)) (eiI a0 b1 (p0 && q1)) else
  if w = w_overlaps_before then andI (andI (eiI b0 a1 (q0 && p1)) (eiI a0 b1 (p0 && q1))) (andI (notI (eiI b0 a0 (q0 || !p0))) (notI (eiI b1 a1 (p1 || !q1)))) else
  if w = w_overlaps_after then andI (andI (eiI a0 b1 (p0 && q1)) (eiI b0 a1 (q0 && p1))) (andI (notI (eiI a0 b0 (p0 || !q0))) (notI (eiI a1 b1 (q1 || !p1)))) else
  if w = w_finishes then andI (andI (sameI a1 b1) (ofI (p1 == q1))) (eiI b0 a0 (q0 || !p0)) else
  if w = w_finished_by then andI (andI (sameI b1 a1) (ofI (q1 == p1))) (eiI a0 b0 (p0 || !q0)) else
  if w = w_includes then andI (eiI a0 b0 (p0 || !q0)) (eiI b1 a1 (p1 || !q1)) else
  if w = w_during then andI (eiI b0 a0 (q0 || !p0)) (eiI a1 b1 (q1 || !p1)) else
  if w = w_starts then andI (andI (sameI a0 b0) (ofI (p0 == q0))) (eiI a1 b1 (q1 || !p1)) else
  if w = w_started_by then andI (andI (sameI b0 a0) (ofI (q0 == p0))) (eiI b1 a1 (p1 || !q1)) else
  if w = w_coincides then andI (andI (sameI a0 b0) (ofI (p0 == q0))) (andI (sameI a1 b1) (ofI (p1 == q1))) else
  0
theorem hV_before {a0 a1 b0 b1 : Vl} {p0 p1 q0 q1 : Bool} {w : ByteArray} (h : w = w_before) : hV w a0 a1 p0 p1 b0 b1 q0 q1 = eiI a1 b0 (!p1 || !q0) := by
  subst h
  simp [hV]
theorem hV_after {a0 a1 b0 b1 : Vl} {p0 p1 q0 q1 : Bool} {w : ByteArray} (h : w = w_after) : hV w a0 a1 p0 p1 b0 b1 q0 q1 = eiI b1 a0 (!q1 || !p0) := by
  subst h
  simp [hV]
theorem hV_meets {a0 a1 b0 b1 : Vl} {p0 p1 q0 q1 : Bool} {w : ByteArray} (h : w = w_meets) : hV w a0 a1 p0 p1 b0 b1 q0 q1 = andI (sameI a1 b0) (ofI (p1 && q0)) := by
  subst h
  simp [hV]
theorem hV_met_by {a0 a1 b0 b1 : Vl} {p0 p1 q0 q1 : Bool} {w : ByteArray} (h : w = w_met_by) : hV w a0 a1 p0 p1 b0 b1 q0 q1 = andI (sameI b1 a0) (ofI (q1 && p0)) := by
  subst h
  simp [hV]
theorem hV_overlaps {a0 a1 b0 b1 : Vl} {p0 p1 q0 q1 : Bool} {w : ByteArray} (h : w = w_overlaps) : hV w a0 a1 p0 p1 b0 b1 q0 q1 = andI (eiI b0 a1 (q0 && p1)) (eiI a0 b1 (p0 && q1)) := by
  subst h
  simp [hV]
theorem hV_overlaps_before {a0 a1 b0 b1 : Vl} {p0 p1 q0 q1 : Bool} {w : ByteArray} (h : w = w_overlaps_before) : hV w a0 a1 p0 p1 b0 b1 q0 q1 = andI (andI (eiI b0 a1 (q0 && p1)) (eiI a0 b1 (p0 && q1))) (andI (notI (eiI b0 a0 (q0 || !p0))) (notI (eiI b1 a1 (p1 || !q1)))) := by
  subst h
  simp [hV]
theorem hV_overlaps_after {a0 a1 b0 b1 : Vl} {p0 p1 q0 q1 : Bool} {w : ByteArray} (h : w = w_overlaps_after) : hV w a0 a1 p0 p1 b0 b1 q0 q1 = andI (andI (eiI a0 b1 (p0 && q1)) (eiI b0 a1 (q0 && p1))) (andI (notI (eiI a0 b0 (p0 || !q0))) (notI (eiI a1 b1 (q1 || !p1)))) := by
  subst h
  simp [hV]
theorem hV_finishes {a0 a1 b0 b1 : Vl} {p0 p1 q0 q1 : Bool} {w : ByteArray} (h : w = w_finishes) : hV w a0 a1 p0 p1 b0 b1 q0 q1 = andI (andI (sameI a1 b1) (ofI (p1 == q1))) (eiI b0 a0 (q0 || !p0)) := by
  subst h
  simp [hV]
theorem hV_finished_by {a0 a1 b0 b1 : Vl} {p0 p1 q0 q1 : Bool} {w : ByteArray} (h : w = w_finished_by) : hV w a0 a1 p0 p1 b0 b1 q0 q1 = andI (andI (sameI b1 a1) (ofI (q1 == p1))) (eiI a0 b0 (p0 || !q0)) := by
  subst h
  simp [hV]
theorem hV_includes {a0 a1 b0 b1 : Vl} {p0 p1 q0 q1 : Bool} {w : ByteArray} (h : w = w_includes) : hV w a0 a1 p0 p1 b0 b1 q0 q1 = andI (eiI a0 b0 (p0 || !q0)) (eiI b1 a1 (p1 || !q1)) := by
  subst h
  simp [hV]
theorem hV_during {a0 a1 b0 b1 : Vl} {p0 p1 q0 q1 : Bool} {w : ByteArray} (h : w = w_during) : hV w a0 a1 p0 p1 b0 b1 q0 q1 = andI (eiI b0 a0 (q0 || !p0)) (eiI a1 b1 (q1 || !p1)) := by
  subst h
  simp [hV]
theorem hV_starts {a0 a1 b0 b1 : Vl} {p0 p1 q0 q1 : Bool} {w : ByteArray} (h : w = w_starts) : hV w a0 a1 p0 p1 b0 b1 q0 q1 = andI (andI (sameI a0 b0) (ofI (p0 == q0))) (eiI a1 b1 (q1 || !p1)) := by
  subst h
  simp [hV]
theorem hV_started_by {a0 a1 b0 b1 : Vl} {p0 p1 q0 q1 : Bool} {w : ByteArray} (h : w = w_started_by) : hV w a0 a1 p0 p1 b0 b1 q0 q1 = andI (andI (sameI b0 a0) (ofI (q0 == p0))) (eiI b1 a1 (p1 || !q1)) := by
  subst h
  simp [hV]
theorem hV_coincides {a0 a1 b0 b1 : Vl} {p0 p1 q0 q1 : Bool} {w : ByteArray} (h : w = w_coincides) : hV w a0 a1 p0 p1 b0 b1 q0 q1 = andI (andI (sameI a0 b0) (ofI (p0 == q0))) (andI (sameI a1 b1) (ofI (p1 == q1))) := by
  subst h
  simp [hV]
theorem hV_none {a0 a1 b0 b1 : Vl} {p0 p1 q0 q1 : Bool} {w : ByteArray} (h0 : ¬ w = w_before) (h1 : ¬ w = w_after) (h2 : ¬ w = w_meets) (h3 : ¬ w = w_met_by) (h4 : ¬ w = w_overlaps) (h5 : ¬ w = w_overlaps_before) (h6 : ¬ w = w_overlaps_after) (h7 : ¬ w = w_finishes) (h8 : ¬ w = w_finished_by) (h9 : ¬ w = w_includes) (h10 : ¬ w = w_during) (h11 : ¬ w = w_starts) (h12 : ¬ w = w_started_by) (h13 : ¬ w = w_coincides) : hV w a0 a1 p0 p1 b0 b1 q0 q1 = 0 := by
  simp only [hV, if_neg h0, if_neg h1, if_neg h2, if_neg h3, if_neg h4, if_neg h5, if_neg h6, if_neg h7, if_neg h8, if_neg h9, if_neg h10, if_neg h11, if_neg h12, if_neg h13]


open Go.RowKit
set_option linter.unusedVariables false
set_option linter.unusedSimpArgs false
set_option maxRecDepth 100000

theorem h_overlaps_before {a0 a1 b0 b1 : Vl} {p0 p1 q0 q1 pa pb : Bool} (ha0 : a0.ok) (ha1 : a1.ok) (hb0 : b0.ok) (hb1 : b1.ok) : HasC Tryz.prog 51 [.v (.string (⟨#[111, 118, 101, 114, 108, 97, 112, 115, 32, 98, 101, 102, 111, 114, 101]⟩)), .agg [.bx (a0).enc, .bx (a1).enc, .v (.bool p0), .v (.bool p1), .v (.bool pa)], .agg [.bx (b0).enc, .bx (b1).enc, .v (.bool q0), .v (.bool q1), .v (.bool pb)]] (fun r => r = .v (.int .i64 (andI (andI (eiI b0 a1 (q0 && p1)) (eiI a0 b1 (p0 && q1))) (andI (notI (eiI b0 a0 (q0 || !p0))) (notI (eiI b1 a1 (p1 || !q1))))))) := by
 refine HasC.of [] (fn := Tryz.f51) tyOk mixed (fun args w => Tryz.call51 args w) Tryz.func51 rfl (by kernel_rfl) (Nat.le_of_ble_eq_true rfl) (⟨_, rfl⟩) ?_
 refine vc_seqr rfl (iQ 3 (iE 104 [(0, .d (Sv (⟨#[111, 118, 101, 114, 108, 97, 112, 115, 32, 98, 101, 102, 111, 114, 101]⟩))), (4, .p 4 0), (5, .p 5 0), (6, Ia 0)] [(4, [.bx (a0).enc, .bx (a1).enc, Bv p0, Bv p1, Bv pa]), (5, [.bx (b0).enc, .bx (b1).enc, Bv q0, Bv q1, Bv pb])] ?_))
 refine vc_seq (vc_seqr rfl (iQ 1 (iE 104 [(4, .p 4 0), (5, .p 5 0), (6, Ia 0), (7, .d (Sv (⟨#[111, 118, 101, 114, 108, 97, 112, 115, 32, 98, 101, 102, 111, 114, 101]⟩)))] [(4, [.bx (a0).enc, .bx (a1).enc, Bv p0, Bv p1, Bv pa]), (5, [.bx (b0).enc, .bx (b1).enc, Bv q0, Bv q1, Bv pb])] ?_)))
 refine vc_block (vc_seqr rfl (iB .eql 9 (.string (⟨#[111, 118, 101, 114, 108, 97, 112, 115, 32, 98, 101, 102, 111, 114, 101]⟩)) (.string (⟨#[98, 101, 102, 111, 114, 101]⟩)) (some 9) ?_))
 refine all_false ((by decide)) ?_
 refine iQ 1 (iE 104 [(4, .p 4 0), (5, .p 5 0), (6, Ia 0), (7, .d (Sv (⟨#[111, 118, 101, 114, 108, 97, 112, 115, 32, 98, 101, 102, 111, 114, 101]⟩))), (8, Ba false)] [(4, [.bx (a0).enc, .bx (a1).enc, Bv p0, Bv p1, Bv pa]), (5, [.bx (b0).enc, .bx (b1).enc, Bv q0, Bv q1, Bv pb])] ?_)
 refine iF (vc_seqr rfl (iB .eql 9 (.string (⟨#[111, 118, 101, 114, 108, 97, 112, 115, 32, 98, 101, 102, 111, 114, 101]⟩)) (.string (⟨#[97, 102, 116, 101, 114]⟩)) (some 14) ?_))
 refine all_false ((by decide)) ?_
 refine iQ 1 (iE 104 [(4, .p 4 0), (5, .p 5 0), (6, Ia 0), (7, .d (Sv (⟨#[111, 118, 101, 114, 108, 97, 112, 115, 32, 98, 101, 102, 111, 114, 101]⟩))), (8, Ba false), (13, Ba false)] [(4, [.bx (a0).enc, .bx (a1).enc, Bv p0, Bv p1, Bv pa]), (5, [.bx (b0).enc, .bx (b1).enc, Bv q0, Bv q1, Bv pb])] ?_)
 refine iF (vc_seqr rfl (iB .eql 9 (.string (⟨#[111, 118, 101, 114, 108, 97, 112, 115, 32, 98, 101, 102, 111, 114, 101]⟩)) (.string (⟨#[109, 101, 101, 116, 115]⟩)) (some 19) ?_))
 refine all_false ((by decide)) ?_
 refine iQ 1 (iE 104 [(4, .p 4 0), (5, .p 5 0), (6, Ia 0), (7, .d (Sv (⟨#[111, 118, 101, 114, 108, 97, 112, 115, 32, 98, 101, 102, 111, 114, 101]⟩))), (8, Ba false), (13, Ba false), (18, Ba false)] [(4, [.bx (a0).enc, .bx (a1).enc, Bv p0, Bv p1, Bv pa]), (5, [.bx (b0).enc, .bx (b1).enc, Bv q0, Bv q1, Bv pb])] ?_)
 refine iF (vc_seqr rfl (iB .eql 9 (.string (⟨#[111, 118, 101, 114, 108, 97, 112, 115, 32, 98, 101, 102, 111, 114, 101]⟩)) (.string (⟨#[109, 101, 116, 32, 98, 121]⟩)) (some 24) ?_))
 refine all_false ((by decide)) ?_
 refine iQ 1 (iE 104 [(4, .p 4 0), (5, .p 5 0), (6, Ia 0), (7, .d (Sv (⟨#[111, 118, 101, 114, 108, 97, 112, 115, 32, 98, 101, 102, 111, 114, 101]⟩))), (8, Ba false), (13, Ba false), (18, Ba false), (23, Ba false)] [(4, [.bx (a0).enc, .bx (a1).enc, Bv p0, Bv p1, Bv pa]), (5, [.bx (b0).enc, .bx (b1).enc, Bv q0, Bv q1, Bv pb])] ?_)
 refine iF (vc_seqr rfl (iB .eql 9 (.string (⟨#[111, 118, 101, 114, 108, 97, 112, 115, 32, 98, 101, 102, 111, 114, 101]⟩)) (.string (⟨#[111, 118, 101, 114, 108, 97, 112, 115]⟩)) (some 29) ?_))
 refine all_false ((by decide)) ?_
 refine iQ 1 (iE 104 [(4, .p 4 0), (5, .p 5 0), (6, Ia 0), (7, .d (Sv (⟨#[111, 118, 101, 114, 108, 97, 112, 115, 32, 98, 101, 102, 111, 114, 101]⟩))), (8, Ba false), (13, Ba false), (18, Ba false), (23, Ba false), (28, Ba false)] [(4, [.bx (a0).enc, .bx (a1).enc, Bv p0, Bv p1, Bv pa]), (5, [.bx (b0).enc, .bx (b1).enc, Bv q0, Bv q1, Bv pb])] ?_)
 refine iF (vc_seqr rfl (iB .eql 9 (.string (⟨#[111, 118, 101, 114, 108, 97, 112, 115, 32, 98, 101, 102, 111, 114, 101]⟩)) (.string (⟨#[111, 118, 101, 114, 108, 97, 112, 115, 32, 98, 101, 102, 111, 114, 101]⟩)) (some 34) ?_))
 refine all_true ((by decide)) ?_
 refine iQ 1 (iE 104 [(4, .p 4 0), (5, .p 5 0), (6, Ia 0), (7, .d (Sv (⟨#[111, 118, 101, 114, 108, 97, 112, 115, 32, 98, 101, 102, 111, 114, 101]⟩))), (8, Ba false), (13, Ba false), (18, Ba false), (23, Ba false), (28, Ba false), (33, Ba true)] [(4, [.bx (a0).enc, .bx (a1).enc, Bv p0, Bv p1, Bv pa]), (5, [.bx (b0).enc, .bx (b1).enc, Bv q0, Bv q1, Bv pb])] ?_)
 refine iT (vc_seqr rfl (iQ 2 (iC 81 [.agg [.bx (a0).enc, .bx (a1).enc, Bv p0, Bv p1, Bv pa], .agg [.bx (b0).enc, .bx (b1).enc, Bv q0, Bv q1, Bv pb]] (some 37) (g_overlaps ha0 ha1 hb0 hb1) ?_)))
 rintro _ rfl
 refine iQ 2 (iC 82 [.agg [.bx (b0).enc, .bx (b1).enc, Bv q0, Bv q1, Bv pb], .agg [.bx (a0).enc, .bx (a1).enc, Bv p0, Bv p1, Bv pa]] (some 40) (g_from hb0 hb1 ha0 ha1) ?_)
 rintro _ rfl
 refine iC 10 [Iv (eiI b0 a0 (q0 || !p0))] (some 41) (c_eNot) ?_
 rintro _ rfl
 refine iQ 2 (iC 83 [.agg [.bx (a0).enc, .bx (a1).enc, Bv p0, Bv p1, Bv pa], .agg [.bx (b0).enc, .bx (b1).enc, Bv q0, Bv q1, Bv pb]] (some 44) (g_to ha0 ha1 hb0 hb1) ?_)
 rintro _ rfl
 refine iC 10 [Iv (eiI b1 a1 (p1 || !q1))] (some 45) (c_eNot) ?_
 rintro _ rfl
 refine iC 11 [Iv (notI (eiI b0 a0 (q0 || !p0))), Iv (notI (eiI b1 a1 (p1 || !q1)))] (some 46) (c_eAnd) ?_
 rintro _ rfl
 refine iC 11 [Iv (andI (eiI b0 a1 (q0 && p1)) (eiI a0 b1 (p0 && q1))), Iv (andI (notI (eiI b0 a0 (q0 || !p0))) (notI (eiI b1 a1 (p1 || !q1))))] (some 47) (c_eAnd) ?_
 rintro _ rfl
 refine iQ 1 (iE 104 [(4, .p 4 0), (5, .p 5 0), (6, Ia (andI (andI (eiI b0 a1 (q0 && p1)) (eiI a0 b1 (p0 && q1))) (andI (notI (eiI b0 a0 (q0 || !p0))) (notI (eiI b1 a1 (p1 || !q1)))))), (7, .d (Sv (⟨#[111, 118, 101, 114, 108, 97, 112, 115, 32, 98, 101, 102, 111, 114, 101]⟩))), (8, Ba false), (13, Ba false), (18, Ba false), (23, Ba false), (28, Ba false), (33, Ba true)] [(4, [.bx (a0).enc, .bx (a1).enc, Bv p0, Bv p1, Bv pa]), (5, [.bx (b0).enc, .bx (b1).enc, Bv q0, Bv q1, Bv pb])] ?_)
 refine vc_ret (block_r (seq_r (iR (Iv (andI (andI (eiI b0 a1 (q0 && p1)) (eiI a0 b1 (p0 && q1))) (andI (notI (eiI b0 a0 (q0 || !p0))) (notI (eiI b1 a1 (p1 || !q1)))))) ?_)))
 rfl
theorem h_finishes {a0 a1 b0 b1 : Vl} {p0 p1 q0 q1 pa pb : Bool} (ha0 : a0.ok) (ha1 : a1.ok) (hb0 : b0.ok) (hb1 : b1.ok) : HasC Tryz.prog 51 [.v (.string (⟨#[102, 105, 110, 105, 115, 104, 101, 115]⟩)), .agg [.bx (a0).enc, .bx (a1).enc, .v (.bool p0), .v (.bool p1), .v (.bool pa)], .agg [.bx (b0).enc, .bx (b1).enc, .v (.bool q0), .v (.bool q1), .v (.bool pb)]] (fun r => r = .v (.int .i64 (andI (andI (sameI a1 b1) (ofI (p1 == q1))) (eiI b0 a0 (q0 || !p0))))) := by
 refine HasC.of [] (fn := Tryz.f51) tyOk mixed (fun args w => Tryz.call51 args w) Tryz.func51 rfl (by kernel_rfl) (Nat.le_of_ble_eq_true rfl) (⟨_, rfl⟩) ?_
 refine vc_seqr rfl (iQ 3 (iE 104 [(0, .d (Sv (⟨#[102, 105, 110, 105, 115, 104, 101, 115]⟩))), (4, .p 4 0), (5, .p 5 0), (6, Ia 0)] [(4, [.bx (a0).enc, .bx (a1).enc, Bv p0, Bv p1, Bv pa]), (5, [.bx (b0).enc, .bx (b1).enc, Bv q0, Bv q1, Bv pb])] ?_))
 refine vc_seq (vc_seqr rfl (iQ 1 (iE 104 [(4, .p 4 0), (5, .p 5 0), (6, Ia 0), (7, .d (Sv (⟨#[102, 105, 110, 105, 115, 104, 101, 115]⟩)))] [(4, [.bx (a0).enc, .bx (a1).enc, Bv p0, Bv p1, Bv pa]), (5, [.bx (b0).enc, .bx (b1).enc, Bv q0, Bv q1, Bv pb])] ?_)))
 refine vc_block (vc_seqr rfl (iB .eql 9 (.string (⟨#[102, 105, 110, 105, 115, 104, 101, 115]⟩)) (.string (⟨#[98, 101, 102, 111, 114, 101]⟩)) (some 9) ?_))
 refine all_false ((by decide)) ?_
 refine iQ 1 (iE 104 [(4, .p 4 0), (5, .p 5 0), (6, Ia 0), (7, .d (Sv (⟨#[102, 105, 110, 105, 115, 104, 101, 115]⟩))), (8, Ba false)] [(4, [.bx (a0).enc, .bx (a1).enc, Bv p0, Bv p1, Bv pa]), (5, [.bx (b0).enc, .bx (b1).enc, Bv q0, Bv q1, Bv pb])] ?_)
 refine iF (vc_seqr rfl (iB .eql 9 (.string (⟨#[102, 105, 110, 105, 115, 104, 101, 115]⟩)) (.string (⟨#[97, 102, 116, 101, 114]⟩)) (some 14) ?_))
 refine all_false ((by decide)) ?_
 refine iQ 1 (iE 104 [(4, .p 4 0), (5, .p 5 0), (6, Ia 0), (7, .d (Sv (⟨#[102, 105, 110, 105, 115, 104, 101, 115]⟩))), (8, Ba false), (13, Ba false)] [(4, [.bx (a0).enc, .bx (a1).enc, Bv p0, Bv p1, Bv pa]), (5, [.bx (b0).enc, .bx (b1).enc, Bv q0, Bv q1, Bv pb])] ?_)
 refine iF (vc_seqr rfl (iB .eql 9 (.string (⟨#[102, 105, 110, 105, 115, 104, 101, 115]⟩)) (.string (⟨#[109, 101, 101, 116, 115]⟩)) (some 19) ?_))
 refine all_false ((by decide)) ?_
 refine iQ 1 (iE 104 [(4, .p 4 0), (5, .p 5 0), (6, Ia 0), (7, .d (Sv (⟨#[102, 105, 110, 105, 115, 104, 101, 115]⟩))), (8, Ba false), (13, Ba false), (18, Ba false)] [(4, [.bx (a0).enc, .bx (a1).enc, Bv p0, Bv p1, Bv pa]), (5, [.bx (b0).enc, .bx (b1).enc, Bv q0, Bv q1, Bv pb])] ?_)
 refine iF (vc_seqr rfl (iB .eql 9 (.string (⟨#[102, 105, 110, 105, 115, 104, 101, 115]⟩)) (.string (⟨#[109, 101, 116, 32, 98, 121]⟩)) (some 24) ?_))
 refine all_false ((by decide)) ?_
 refine iQ 1 (iE 104 [(4, .p 4 0), (5, .p 5 0), (6, Ia 0), (7, .d (Sv (⟨#[102, 105, 110, 105, 115, 104, 101, 115]⟩))), (8, Ba false), (13, Ba false), (18, Ba false), (23, Ba false)] [(4, [.bx (a0).enc, .bx (a1).enc, Bv p0, Bv p1, Bv pa]), (5, [.bx (b0).enc, .bx (b1).enc, Bv q0, Bv q1, Bv pb])] ?_)
 refine iF (vc_seqr rfl (iB .eql 9 (.string (⟨#[102, 105, 110, 105, 115, 104, 101, 115]⟩)) (.string (⟨#[111, 118, 101, 114, 108, 97, 112, 115]⟩)) (some 29) ?_))
 refine all_false ((by decide)) ?_
 refine iQ 1 (iE 104 [(4, .p 4 0), (5, .p 5 0), (6, Ia 0), (7, .d (Sv (⟨#[102, 105, 110, 105, 115, 104, 101, 115]⟩))), (8, Ba false), (13, Ba false), (18, Ba false), (23, Ba false), (28, Ba false)] [(4, [.bx (a0).enc, .bx (a1).enc, Bv p0, Bv p1, Bv pa]), (5, [.bx (b0).enc, .bx (b1).enc, Bv q0, Bv q1, Bv pb])] ?_)
 refine iF (vc_seqr rfl (iB .eql 9 (.string (⟨#[102, 105, 110, 105, 115, 104, 101, 115]⟩)) (.string (⟨#[111, 118, 101, 114, 108, 97, 112, 115, 32, 98, 101, 102, 111, 114, 101]⟩)) (some 34) ?_))
 refine all_false ((by decide)) ?_
 refine iQ 1 (iE 104 [(4, .p 4 0), (5, .p 5 0), (6, Ia 0), (7, .d (Sv (⟨#[102, 105, 110, 105, 115, 104, 101, 115]⟩))), (8, Ba false), (13, Ba false), (18, Ba false), (23, Ba false), (28, Ba false), (33, Ba false)] [(4, [.bx (a0).enc, .bx (a1).enc, Bv p0, Bv p1, Bv pa]), (5, [.bx (b0).enc, .bx (b1).enc, Bv q0, Bv q1, Bv pb])] ?_)
 refine iF (vc_seqr rfl (iB .eql 9 (.string (⟨#[102, 105, 110, 105, 115, 104, 101, 115]⟩)) (.string (⟨#[111, 118, 101, 114, 108, 97, 112, 115, 32, 97, 102, 116, 101, 114]⟩)) (some 49) ?_))
 refine all_false ((by decide)) ?_
 refine iQ 1 (iE 104 [(4, .p 4 0), (5, .p 5 0), (6, Ia 0), (7, .d (Sv (⟨#[102, 105, 110, 105, 115, 104, 101, 115]⟩))), (8, Ba false), (13, Ba false), (18, Ba false), (23, Ba false), (28, Ba false), (33, Ba false), (48, Ba false)] [(4, [.bx (a0).enc, .bx (a1).enc, Bv p0, Bv p1, Bv pa]), (5, [.bx (b0).enc, .bx (b1).enc, Bv q0, Bv q1, Bv pb])] ?_)
 refine iF (vc_seqr rfl (iB .eql 9 (.string (⟨#[102, 105, 110, 105, 115, 104, 101, 115]⟩)) (.string (⟨#[102, 105, 110, 105, 115, 104, 101, 115]⟩)) (some 54) ?_))
 refine all_true ((by decide)) ?_
 refine iQ 1 (iE 104 [(4, .p 4 0), (5, .p 5 0), (6, Ia 0), (7, .d (Sv (⟨#[102, 105, 110, 105, 115, 104, 101, 115]⟩))), (8, Ba false), (13, Ba false), (18, Ba false), (23, Ba false), (28, Ba false), (33, Ba false), (48, Ba false), (53, Ba true)] [(4, [.bx (a0).enc, .bx (a1).enc, Bv p0, Bv p1, Bv pa]), (5, [.bx (b0).enc, .bx (b1).enc, Bv q0, Bv q1, Bv pb])] ?_)
 refine iT (vc_seqr rfl (iQ 2 (iC 84 [.agg [.bx (a0).enc, .bx (a1).enc, Bv p0, Bv p1, Bv pa], .agg [.bx (b0).enc, .bx (b1).enc, Bv q0, Bv q1, Bv pb]] (some 57) (g_ends ha0 ha1 hb0 hb1) ?_)))
 rintro _ rfl
 refine iQ 2 (iC 82 [.agg [.bx (b0).enc, .bx (b1).enc, Bv q0, Bv q1, Bv pb], .agg [.bx (a0).enc, .bx (a1).enc, Bv p0, Bv p1, Bv pa]] (some 60) (g_from hb0 hb1 ha0 ha1) ?_)
 rintro _ rfl
 refine iC 11 [Iv (andI (sameI a1 b1) (ofI (p1 == q1))), Iv (eiI b0 a0 (q0 || !p0))] (some 61) (c_eAnd) ?_
 rintro _ rfl
 refine iQ 1 (iE 104 [(4, .p 4 0), (5, .p 5 0), (6, Ia (andI (andI (sameI a1 b1) (ofI (p1 == q1))) (eiI b0 a0 (q0 || !p0)))), (7, .d (Sv (⟨#[102, 105, 110, 105, 115, 104, 101, 115]⟩))), (8, Ba false), (13, Ba false), (18, Ba false), (23, Ba false), (28, Ba false), (33, Ba false), (48, Ba false), (53, Ba true)] [(4, [.bx (a0).enc, .bx (a1).enc, Bv p0, Bv p1, Bv pa]), (5, [.bx (b0).enc, .bx (b1).enc, Bv q0, Bv q1, Bv pb])] ?_)
 refine vc_ret (block_r (seq_r (iR (Iv (andI (andI (sameI a1 b1) (ofI (p1 == q1))) (eiI b0 a0 (q0 || !p0)))) ?_)))
 rfl
theorem h_includes {a0 a1 b0 b1 : Vl} {p0 p1 q0 q1 pa pb : Bool} (ha0 : a0.ok) (ha1 : a1.ok) (hb0 : b0.ok) (hb1 : b1.ok) : HasC Tryz.prog 51 [.v (.string (⟨#[105, 110, 99, 108, 117, 100, 101, 115]⟩)), .agg [.bx (a0).enc, .bx (a1).enc, .v (.bool p0), .v (.bool p1), .v (.bool pa)], .agg [.bx (b0).enc, .bx (b1).enc, .v (.bool q0), .v (.bool q1), .v (.bool pb)]] (fun r => r = .v (.int .i64 (andI (eiI a0 b0 (p0 || !q0)) (eiI b1 a1 (p1 || !q1))))) := by
 refine HasC.of [] (fn := Tryz.f51) tyOk mixed (fun args w => Tryz.call51 args w) Tryz.func51 rfl (by kernel_rfl) (Nat.le_of_ble_eq_true rfl) (⟨_, rfl⟩) ?_
 refine vc_seqr rfl (iQ 3 (iE 104 [(0, .d (Sv (⟨#[105, 110, 99, 108, 117, 100, 101, 115]⟩))), (4, .p 4 0), (5, .p 5 0), (6, Ia 0)] [(4, [.bx (a0).enc, .bx (a1).enc, Bv p0, Bv p1, Bv pa]), (5, [.bx (b0).enc, .bx (b1).enc, Bv q0, Bv q1, Bv pb])] ?_))
 refine vc_seq (vc_seqr rfl (iQ 1 (iE 104 [(4, .p 4 0), (5, .p 5 0), (6, Ia 0), (7, .d (Sv (⟨#[105, 110, 99, 108, 117, 100, 101, 115]⟩)))] [(4, [.bx (a0).enc, .bx (a1).enc, Bv p0, Bv p1, Bv pa]), (5, [.bx (b0).enc, .bx (b1).enc, Bv q0, Bv q1, Bv pb])] ?_)))
 refine vc_block (vc_seqr rfl (iB .eql 9 (.string (⟨#[105, 110, 99, 108, 117, 100, 101, 115]⟩)) (.string (⟨#[98, 101, 102, 111, 114, 101]⟩)) (some 9) ?_))
 refine all_false ((by decide)) ?_
 refine iQ 1 (iE 104 [(4, .p 4 0), (5, .p 5 0), (6, Ia 0), (7, .d (Sv (⟨#[105, 110, 99, 108, 117, 100, 101, 115]⟩))), (8, Ba false)] [(4, [.bx (a0).enc, .bx (a1).enc, Bv p0, Bv p1, Bv pa]), (5, [.bx (b0).enc, .bx (b1).enc, Bv q0, Bv q1, Bv pb])] ?_)
 refine iF (vc_seqr rfl (iB .eql 9 (.string (⟨#[105, 110, 99, 108, 117, 100, 101, 115]⟩)) (.string (⟨#[97, 102, 116, 101, 114]⟩)) (some 14) ?_))
 refine all_false ((by decide)) ?_
 refine iQ 1 (iE 104 [(4, .p 4 0), (5, .p 5 0), (6, Ia 0), (7, .d (Sv (⟨#[105, 110, 99, 108, 117, 100, 101, 115]⟩))), (8, Ba false), (13, Ba false)] [(4, [.bx (a0).enc, .bx (a1).enc, Bv p0, Bv p1, Bv pa]), (5, [.bx (b0).enc, .bx (b1).enc, Bv q0, Bv q1, Bv pb])] ?_)
 refine iF (vc_seqr rfl (iB .eql 9 (.string (⟨#[105, 110, 99, 108, 117, 100, 101, 115]⟩)) (.string (⟨#[109, 101, 101, 116, 115]⟩)) (some 19) ?_))
 refine all_false ((by decide)) ?_
 refine iQ 1 (iE 104 [(4, .p 4 0), (5, .p 5 0), (6, Ia 0), (7, .d (Sv (⟨#[105, 110, 99, 108, 117, 100, 101, 115]⟩))), (8, Ba false), (13, Ba false), (18, Ba false)] [(4, [.bx (a0).enc, .bx (a1).enc, Bv p0, Bv p1, Bv pa]), (5, [.bx (b0).enc, .bx (b1).enc, Bv q0, Bv q1, Bv pb])] ?_)
 refine iF (vc_seqr rfl (iB .eql 9 (.string (⟨#[105, 110, 99, 108, 117, 100, 101, 115]⟩)) (.string (⟨#[109, 101, 116, 32, 98, 121]⟩)) (some 24) ?_))
 refine all_false ((by decide)) ?_
 refine iQ 1 (iE 104 [(4, .p 4 0), (5, .p 5 0), (6, Ia 0), (7, .d (Sv (⟨#[105, 110, 99, 108, 117, 100, 101, 115]⟩))), (8, Ba false), (13, Ba false), (18, Ba false), (23, Ba false)] [(4, [.bx (a0).enc, .bx (a1).enc, Bv p0, Bv p1, Bv pa]), (5, [.bx (b0).enc, .bx (b1).enc, Bv q0, Bv q1, Bv pb])] ?_)
 refine iF (vc_seqr rfl (iB .eql 9 (.string (⟨#[105, 110, 99, 108, 117, 100, 101, 115]⟩)) (.string (⟨#[111, 118, 101, 114, 108, 97, 112, 115]⟩)) (some 29) ?_))
 refine all_false ((by decide)) ?_
 refine iQ 1 (iE 104 [(4, .p 4 0), (5, .p 5 0), (6, Ia 0), (7, .d (Sv (⟨#[105, 110, 99, 108, 117, 100, 101, 115]⟩))), (8, Ba false), (13, Ba false), (18, Ba false), (23, Ba false), (28, Ba false)] [(4, [.bx (a0).enc, .bx (a1).enc, Bv p0, Bv p1, Bv pa]), (5, [.bx (b0).enc, .bx (b1).enc, Bv q0, Bv q1, Bv pb])] ?_)
 refine iF (vc_seqr rfl (iB .eql 9 (.string (⟨#[105, 110, 99, 108, 117, 100, 101, 115]⟩)) (.string (⟨#[111, 118, 101, 114, 108, 97, 112, 115, 32, 98, 101, 102, 111, 114, 101]⟩)) (some 34) ?_))
 refine all_false ((by decide)) ?_
 refine iQ 1 (iE 104 [(4, .p 4 0), (5, .p 5 0), (6, Ia 0), (7, .d (Sv (⟨#[105, 110, 99, 108, 117, 100, 101, 115]⟩))), (8, Ba false), (13, Ba false), (18, Ba false), (23, Ba false), (28, Ba false), (33, Ba false)] [(4, [.bx (a0).enc, .bx (a1).enc, Bv p0, Bv p1, Bv pa]), (5, [.bx (b0).enc, .bx (b1).enc, Bv q0, Bv q1, Bv pb])] ?_)
 refine iF (vc_seqr rfl (iB .eql 9 (.string (⟨#[105, 110, 99, 108, 117, 100, 101, 115]⟩)) (.string (⟨#[111, 118, 101, 114, 108, 97, 112, 115, 32, 97, 102, 116, 101, 114]⟩)) (some 49) ?_))
 refine all_false ((by decide)) ?_
 refine iQ 1 (iE 104 [(4, .p 4 0), (5, .p 5 0), (6, Ia 0), (7, .d (Sv (⟨#[105, 110, 99, 108, 117, 100, 101, 115]⟩))), (8, Ba false), (13, Ba false), (18, Ba false), (23, Ba false), (28, Ba false), (33, Ba false), (48, Ba false)] [(4, [.bx (a0).enc, .bx (a1).enc, Bv p0, Bv p1, Bv pa]), (5, [.bx (b0).enc, .bx (b1).enc, Bv q0, Bv q1, Bv pb])] ?_)
 refine iF (vc_seqr rfl (iB .eql 9 (.string (⟨#[105, 110, 99, 108, 117, 100, 101, 115]⟩)) (.string (⟨#[102, 105, 110, 105, 115, 104, 101, 115]⟩)) (some 54) ?_))
 refine all_false ((by decide)) ?_
 refine iQ 1 (iE 104 [(4, .p 4 0), (5, .p 5 0), (6, Ia 0), (7, .d (Sv (⟨#[105, 110, 99, 108, 117, 100, 101, 115]⟩))), (8, Ba false), (13, Ba false), (18, Ba false), (23, Ba false), (28, Ba false), (33, Ba false), (48, Ba false), (53, Ba false)] [(4, [.bx (a0).enc, .bx (a1).enc, Bv p0, Bv p1, Bv pa]), (5, [.bx (b0).enc, .bx (b1).enc, Bv q0, Bv q1, Bv pb])] ?_)
 refine iF (vc_seqr rfl (iB .eql 9 (.string (⟨#[105, 110, 99, 108, 117, 100, 101, 115]⟩)) (.string (⟨#[102, 105, 110, 105, 115, 104, 101, 100, 32, 98, 121]⟩)) (some 63) ?_))
 refine all_false ((by decide)) ?_
 refine iQ 1 (iE 104 [(4, .p 4 0), (5, .p 5 0), (6, Ia 0), (7, .d (Sv (⟨#[105, 110, 99, 108, 117, 100, 101, 115]⟩))), (8, Ba false), (13, Ba false), (18, Ba false), (23, Ba false), (28, Ba false), (33, Ba false), (48, Ba false), (53, Ba false), (62, Ba false)] [(4, [.bx (a0).enc, .bx (a1).enc, Bv p0, Bv p1, Bv pa]), (5, [.bx (b0).enc, .bx (b1).enc, Bv q0, Bv q1, Bv pb])] ?_)
 refine iF (vc_seqr rfl (iB .eql 9 (.string (⟨#[105, 110, 99, 108, 117, 100, 101, 115]⟩)) (.string (⟨#[105, 110, 99, 108, 117, 100, 101, 115]⟩)) (some 68) ?_))
 refine all_true ((by decide)) ?_
 refine iQ 1 (iE 104 [(4, .p 4 0), (5, .p 5 0), (6, Ia 0), (7, .d (Sv (⟨#[105, 110, 99, 108, 117, 100, 101, 115]⟩))), (8, Ba false), (13, Ba false), (18, Ba false), (23, Ba false), (28, Ba false), (33, Ba false), (48, Ba false), (53, Ba false), (62, Ba false), (67, Ba true)] [(4, [.bx (a0).enc, .bx (a1).enc, Bv p0, Bv p1, Bv pa]), (5, [.bx (b0).enc, .bx (b1).enc, Bv q0, Bv q1, Bv pb])] ?_)
 refine iT (vc_seqr rfl (iQ 2 (iC 82 [.agg [.bx (a0).enc, .bx (a1).enc, Bv p0, Bv p1, Bv pa], .agg [.bx (b0).enc, .bx (b1).enc, Bv q0, Bv q1, Bv pb]] (some 71) (g_from ha0 ha1 hb0 hb1) ?_)))
 rintro _ rfl
 refine iQ 2 (iC 83 [.agg [.bx (a0).enc, .bx (a1).enc, Bv p0, Bv p1, Bv pa], .agg [.bx (b0).enc, .bx (b1).enc, Bv q0, Bv q1, Bv pb]] (some 74) (g_to ha0 ha1 hb0 hb1) ?_)
 rintro _ rfl
 refine iC 11 [Iv (eiI a0 b0 (p0 || !q0)), Iv (eiI b1 a1 (p1 || !q1))] (some 75) (c_eAnd) ?_
 rintro _ rfl
 refine iQ 1 (iE 104 [(4, .p 4 0), (5, .p 5 0), (6, Ia (andI (eiI a0 b0 (p0 || !q0)) (eiI b1 a1 (p1 || !q1)))), (7, .d (Sv (⟨#[105, 110, 99, 108, 117, 100, 101, 115]⟩))), (8, Ba false), (13, Ba false), (18, Ba false), (23, Ba false), (28, Ba false), (33, Ba false), (48, Ba false), (53, Ba false), (62, Ba false), (67, Ba true)] [(4, [.bx (a0).enc, .bx (a1).enc, Bv p0, Bv p1, Bv pa]), (5, [.bx (b0).enc, .bx (b1).enc, Bv q0, Bv q1, Bv pb])] ?_)
 refine vc_ret (block_r (seq_r (iR (Iv (andI (eiI a0 b0 (p0 || !q0)) (eiI b1 a1 (p1 || !q1)))) ?_)))
 rfl
theorem h_starts {a0 a1 b0 b1 : Vl} {p0 p1 q0 q1 pa pb : Bool} (ha0 : a0.ok) (ha1 : a1.ok) (hb0 : b0.ok) (hb1 : b1.ok) : HasC Tryz.prog 51 [.v (.string (⟨#[115, 116, 97, 114, 116, 115]⟩)), .agg [.bx (a0).enc, .bx (a1).enc, .v (.bool p0), .v (.bool p1), .v (.bool pa)], .agg [.bx (b0).enc, .bx (b1).enc, .v (.bool q0), .v (.bool q1), .v (.bool pb)]] (fun r => r = .v (.int .i64 (andI (andI (sameI a0 b0) (ofI (p0 == q0))) (eiI a1 b1 (q1 || !p1))))) := by
 refine HasC.of [] (fn := Tryz.f51) tyOk mixed (fun args w => Tryz.call51 args w) Tryz.func51 rfl (by kernel_rfl) (Nat.le_of_ble_eq_true rfl) (⟨_, rfl⟩) ?_
 refine vc_seqr rfl (iQ 3 (iE 104 [(0, .d (Sv (⟨#[115, 116, 97, 114, 116, 115]⟩))), (4, .p 4 0), (5, .p 5 0), (6, Ia 0)] [(4, [.bx (a0).enc, .bx (a1).enc, Bv p0, Bv p1, Bv pa]), (5, [.bx (b0).enc, .bx (b1).enc, Bv q0, Bv q1, Bv pb])] ?_))
 refine vc_seq (vc_seqr rfl (iQ 1 (iE 104 [(4, .p 4 0), (5, .p 5 0), (6, Ia 0), (7, .d (Sv (⟨#[115, 116, 97, 114, 116, 115]⟩)))] [(4, [.bx (a0).enc, .bx (a1).enc, Bv p0, Bv p1, Bv pa]), (5, [.bx (b0).enc, .bx (b1).enc, Bv q0, Bv q1, Bv pb])] ?_)))
 refine vc_block (vc_seqr rfl (iB .eql 9 (.string (⟨#[115, 116, 97, 114, 116, 115]⟩)) (.string (⟨#[98, 101, 102, 111, 114, 101]⟩)) (some 9) ?_))
 refine all_false ((by decide)) ?_
 refine iQ 1 (iE 104 [(4, .p 4 0), (5, .p 5 0), (6, Ia 0), (7, .d (Sv (⟨#[115, 116, 97, 114, 116, 115]⟩))), (8, Ba false)] [(4, [.bx (a0).enc, .bx (a1).enc, Bv p0, Bv p1, Bv pa]), (5, [.bx (b0).enc, .bx (b1).enc, Bv q0, Bv q1, Bv pb])] ?_)
 refine iF (vc_seqr rfl (iB .eql 9 (.string (⟨#[115, 116, 97, 114, 116, 115]⟩)) (.string (⟨#[97, 102, 116, 101, 114]⟩)) (some 14) ?_))
 refine all_false ((by decide)) ?_
 refine iQ 1 (iE 104 [(4, .p 4 0), (5, .p 5 0), (6, Ia 0), (7, .d (Sv (⟨#[115, 116, 97, 114, 116, 115]⟩))), (8, Ba false), (13, Ba false)] [(4, [.bx (a0).enc, .bx (a1).enc, Bv p0, Bv p1, Bv pa]), (5, [.bx (b0).enc, .bx (b1).enc, Bv q0, Bv q1, Bv pb])] ?_)
 refine iF (vc_seqr rfl (iB .eql 9 (.string (⟨#[115, 116, 97, 114, 116, 115]⟩)) (.string (⟨#[109, 101, 101, 116, 115]⟩)) (some 19) ?_))
 refine all_false ((by decide)) ?_
 refine iQ 1 (iE 104 [(4, .p 4 0), (5, .p 5 0), (6, Ia 0), (7, .d (Sv (⟨#[115, 116, 97, 114, 116, 115]⟩))), (8, Ba false), (13, Ba false), (18, Ba false)] [(4, [.bx (a0).enc, .bx (a1).enc, Bv p0, Bv p1, Bv pa]), (5, [.bx (b0).enc, .bx (b1).enc, Bv q0, Bv q1, Bv pb])] ?_)
 refine iF (vc_seqr rfl (iB .eql 9 (.string (⟨#[115, 116, 97, 114, 116, 115]⟩)) (.string (⟨#[109, 101, 116, 32, 98, 121]⟩)) (some 24) ?_))
 refine all_false ((by decide)) ?_
 refine iQ 1 (iE 104 [(4, .p 4 0), (5, .p 5 0), (6, Ia 0), (7, .d (Sv (⟨#[115, 116, 97, 114, 116, 115]⟩))), (8, Ba false), (13, Ba false), (18, Ba false), (23, Ba false)] [(4, [.bx (a0).enc, .bx (a1).enc, Bv p0, Bv p1, Bv pa]), (5, [.bx (b0).enc, .bx (b1).enc, Bv q0, Bv q1, Bv pb])] ?_)
 refine iF (vc_seqr rfl (iB .eql 9 (.string (⟨#[115, 116, 97, 114, 116, 115]⟩)) (.string (⟨#[111, 118, 101, 114, 108, 97, 112, 115]⟩)) (some 29) ?_))
 refine all_false ((by decide)) ?_
 refine iQ 1 (iE 104 [(4, .p 4 0), (5, .p 5 0), (6, Ia 0), (7, .d (Sv (⟨#[115, 116, 97, 114, 116, 115]⟩))), (8, Ba false), (13, Ba false), (18, Ba false), (23, Ba false), (28, Ba false)] [(4, [.bx (a0).enc, .bx (a1).enc, Bv p0, Bv p1, Bv pa]), (5, [.bx (b0).enc, .bx (b1).enc, Bv q0, Bv q1, Bv pb])] ?_)
 refine iF (vc_seqr rfl (iB .eql 9 (.string (⟨#[115, 116, 97, 114, 116, 115]⟩)) (.string (⟨#[111, 118, 101, 114, 108, 97, 112, 115, 32, 98, 101, 102, 111, 114, 101]⟩)) (some 34) ?_))
 refine all_false ((by decide)) ?_
 refine iQ 1 (iE 104 [(4, .p 4 0), (5, .p 5 0), (6, Ia 0), (7, .d (Sv (⟨#[115, 116, 97, 114, 116, 115]⟩))), (8, Ba false), (13, Ba false), (18, Ba false), (23, Ba false), (28, Ba false), (33, Ba false)] [(4, [.bx (a0).enc, .bx (a1).enc, Bv p0, Bv p1, Bv pa]), (5, [.bx (b0).enc, .bx (b1).enc, Bv q0, Bv q1, Bv pb])] ?_)
 refine iF (vc_seqr rfl (iB .eql 9 (.string (⟨#[115, 116, 97, 114, 116, 115]⟩)) (.string (⟨#[111, 118, 101, 114, 108, 97, 112, 115, 32, 97, 102, 116, 101, 114]⟩)) (some 49) ?_))
 refine all_false ((by decide)) ?_
 refine iQ 1 (iE 104 [(4, .p 4 0), (5, .p 5 0), (6, Ia 0), (7, .d (Sv (⟨#[115, 116, 97, 114, 116, 115]⟩))), (8, Ba false), (13, Ba false), (18, Ba false), (23, Ba false), (28, Ba false), (33, Ba false), (48, Ba false)] [(4, [.bx (a0).enc, .bx (a1).enc, Bv p0, Bv p1, Bv pa]), (5, [.bx (b0).enc, .bx (b1).enc, Bv q0, Bv q1, Bv pb])] ?_)
 refine iF (vc_seqr rfl (iB .eql 9 (.string (⟨#[115, 116, 97, 114, 116, 115]⟩)) (.string (⟨#[102, 105, 110, 105, 115, 104, 101, 115]⟩)) (some 54) ?_))
 refine all_false ((by decide)) ?_
 refine iQ 1 (iE 104 [(4, .p 4 0), (5, .p 5 0), (6, Ia 0), (7, .d (Sv (⟨#[115, 116, 97, 114, 116, 115]⟩))), (8, Ba false), (13, Ba false), (18, Ba false), (23, Ba false), (28, Ba false), (33, Ba false), (48, Ba false), (53, Ba false)] [(4, [.bx (a0).enc, .bx (a1).enc, Bv p0, Bv p1, Bv pa]), (5, [.bx (b0).enc, .bx (b1).enc, Bv q0, Bv q1, Bv pb])] ?_)
 refine iF (vc_seqr rfl (iB .eql 9 (.string (⟨#[115, 116, 97, 114, 116, 115]⟩)) (.string (⟨#[102, 105, 110, 105, 115, 104, 101, 100, 32, 98, 121]⟩)) (some 63) ?_))
 refine all_false ((by decide)) ?_
 refine iQ 1 (iE 104 [(4, .p 4 0), (5, .p 5 0), (6, Ia 0), (7, .d (Sv (⟨#[115, 116, 97, 114, 116, 115]⟩))), (8, Ba false), (13, Ba false), (18, Ba false), (23, Ba false), (28, Ba false), (33, Ba false), (48, Ba false), (53, Ba false), (62, Ba false)] [(4, [.bx (a0).enc, .bx (a1).enc, Bv p0, Bv p1, Bv pa]), (5, [.bx (b0).enc, .bx (b1).enc, Bv q0, Bv q1, Bv pb])] ?_)
 refine iF (vc_seqr rfl (iB .eql 9 (.string (⟨#[115, 116, 97, 114, 116, 115]⟩)) (.string (⟨#[105, 110, 99, 108, 117, 100, 101, 115]⟩)) (some 68) ?_))
 refine all_false ((by decide)) ?_
 refine iQ 1 (iE 104 [(4, .p 4 0), (5, .p 5 0), (6, Ia 0), (7, .d (Sv (⟨#[115, 116, 97, 114, 116, 115]⟩))), (8, Ba false), (13, Ba false), (18, Ba false), (23, Ba false), (28, Ba false), (33, Ba false), (48, Ba false), (53, Ba false), (62, Ba false), (67, Ba false)] [(4, [.bx (a0).enc, .bx (a1).enc, Bv p0, Bv p1, Bv pa]), (5, [.bx (b0).enc, .bx (b1).enc, Bv q0, Bv q1, Bv pb])] ?_)
 refine iF (vc_seqr rfl (iB .eql 9 (.string (⟨#[115, 116, 97, 114, 116, 115]⟩)) (.string (⟨#[100, 117, 114, 105, 110, 103]⟩)) (some 77) ?_))
 refine all_false ((by decide)) ?_
 refine iQ 1 (iE 104 [(4, .p 4 0), (5, .p 5 0), (6, Ia 0), (7, .d (Sv (⟨#[115, 116, 97, 114, 116, 115]⟩))), (8, Ba false), (13, Ba false), (18, Ba false), (23, Ba false), (28, Ba false), (33, Ba false), (48, Ba false), (53, Ba false), (62, Ba false), (67, Ba false), (76, Ba false)] [(4, [.bx (a0).enc, .bx (a1).enc, Bv p0, Bv p1, Bv pa]), (5, [.bx (b0).enc, .bx (b1).enc, Bv q0, Bv q1, Bv pb])] ?_)
 refine iF (vc_seqr rfl (iB .eql 9 (.string (⟨#[115, 116, 97, 114, 116, 115]⟩)) (.string (⟨#[115, 116, 97, 114, 116, 115]⟩)) (some 82) ?_))
 refine all_true ((by decide)) ?_
 refine iQ 1 (iE 104 [(4, .p 4 0), (5, .p 5 0), (6, Ia 0), (7, .d (Sv (⟨#[115, 116, 97, 114, 116, 115]⟩))), (8, Ba false), (13, Ba false), (18, Ba false), (23, Ba false), (28, Ba false), (33, Ba false), (48, Ba false), (53, Ba false), (62, Ba false), (67, Ba false), (76, Ba false), (81, Ba true)] [(4, [.bx (a0).enc, .bx (a1).enc, Bv p0, Bv p1, Bv pa]), (5, [.bx (b0).enc, .bx (b1).enc, Bv q0, Bv q1, Bv pb])] ?_)
 refine iT (vc_seqr rfl (iQ 2 (iC 85 [.agg [.bx (a0).enc, .bx (a1).enc, Bv p0, Bv p1, Bv pa], .agg [.bx (b0).enc, .bx (b1).enc, Bv q0, Bv q1, Bv pb]] (some 85) (g_starts ha0 ha1 hb0 hb1) ?_)))
 rintro _ rfl
 refine iQ 2 (iC 83 [.agg [.bx (b0).enc, .bx (b1).enc, Bv q0, Bv q1, Bv pb], .agg [.bx (a0).enc, .bx (a1).enc, Bv p0, Bv p1, Bv pa]] (some 88) (g_to hb0 hb1 ha0 ha1) ?_)
 rintro _ rfl
 refine iC 11 [Iv (andI (sameI a0 b0) (ofI (p0 == q0))), Iv (eiI a1 b1 (q1 || !p1))] (some 89) (c_eAnd) ?_
 rintro _ rfl
 refine iQ 1 (iE 104 [(4, .p 4 0), (5, .p 5 0), (6, Ia (andI (andI (sameI a0 b0) (ofI (p0 == q0))) (eiI a1 b1 (q1 || !p1)))), (7, .d (Sv (⟨#[115, 116, 97, 114, 116, 115]⟩))), (8, Ba false), (13, Ba false), (18, Ba false), (23, Ba false), (28, Ba false), (33, Ba false), (48, Ba false), (53, Ba false), (62, Ba false), (67, Ba false), (76, Ba false), (81, Ba true)] [(4, [.bx (a0).enc, .bx (a1).enc, Bv p0, Bv p1, Bv pa]), (5, [.bx (b0).enc, .bx (b1).enc, Bv q0, Bv q1, Bv pb])] ?_)
 refine vc_ret (block_r (seq_r (iR (Iv (andI (andI (sameI a0 b0) (ofI (p0 == q0))) (eiI a1 b1 (q1 || !p1)))) ?_)))
 rfl
set_option maxHeartbeats 3200000 in
theorem g_holds {w : ByteArray} {a0 a1 b0 b1 : Vl} {p0 p1 q0 q1 pa pb : Bool} (ha0 : a0.ok) (ha1 : a1.ok) (hb0 : b0.ok) (hb1 : b1.ok) : HasC Tryz.prog 51 [.v (.string w), .agg [.bx (a0).enc, .bx (a1).enc, .v (.bool p0), .v (.bool p1), .v (.bool pa)], .agg [.bx (b0).enc, .bx (b1).enc, .v (.bool q0), .v (.bool q1), .v (.bool pb)]] (fun r => r = .v (.int .i64 (hV w a0 a1 p0 p1 b0 b1 q0 q1))) := by
 refine HasC.of [] (fn := Tryz.f51) tyOk mixed (fun args w => Tryz.call51 args w) Tryz.func51 rfl (by kernel_rfl) (Nat.le_of_ble_eq_true rfl) (⟨_, rfl⟩) ?_
 refine vc_seqr rfl (iQ 3 (iE 104 [(0, .d (Sv w)), (4, .p 4 0), (5, .p 5 0), (6, Ia 0)] [(4, [.bx (a0).enc, .bx (a1).enc, Bv p0, Bv p1, Bv pa]), (5, [.bx (b0).enc, .bx (b1).enc, Bv q0, Bv q1, Bv pb])] ?_))
 refine vc_seq (vc_seqr rfl (iQ 1 (iE 104 [(4, .p 4 0), (5, .p 5 0), (6, Ia 0), (7, .d (Sv w))] [(4, [.bx (a0).enc, .bx (a1).enc, Bv p0, Bv p1, Bv pa]), (5, [.bx (b0).enc, .bx (b1).enc, Bv q0, Bv q1, Bv pb])] ?_)))
 refine vc_block (vc_seqr rfl (iB .eql 9 (.string w) (.string (⟨#[98, 101, 102, 111, 114, 101]⟩)) (some 9) ?_))
 intro c9 hc9
 refine iQ 1 (iE 104 [(4, .p 4 0), (5, .p 5 0), (6, Ia 0), (7, .d (Sv w)), (8, Ba c9)] [(4, [.bx (a0).enc, .bx (a1).enc, Bv p0, Bv p1, Bv pa]), (5, [.bx (b0).enc, .bx (b1).enc, Bv q0, Bv q1, Bv pb])] ?_)
 cases c9
 ·replace hc9 := bf hc9
  refine iF (vc_seqr rfl (iB .eql 9 (.string w) (.string (⟨#[97, 102, 116, 101, 114]⟩)) (some 14) ?_))
  intro c14 hc14
  refine iQ 1 (iE 104 [(4, .p 4 0), (5, .p 5 0), (6, Ia 0), (7, .d (Sv w)), (8, Ba false), (13, Ba c14)] [(4, [.bx (a0).enc, .bx (a1).enc, Bv p0, Bv p1, Bv pa]), (5, [.bx (b0).enc, .bx (b1).enc, Bv q0, Bv q1, Bv pb])] ?_)
  cases c14
  ·replace hc14 := bf hc14
   refine iF (vc_seqr rfl (iB .eql 9 (.string w) (.string (⟨#[109, 101, 101, 116, 115]⟩)) (some 19) ?_))
   intro c19 hc19
   refine iQ 1 (iE 104 [(4, .p 4 0), (5, .p 5 0), (6, Ia 0), (7, .d (Sv w)), (8, Ba false), (13, Ba false), (18, Ba c19)] [(4, [.bx (a0).enc, .bx (a1).enc, Bv p0, Bv p1, Bv pa]), (5, [.bx (b0).enc, .bx (b1).enc, Bv q0, Bv q1, Bv pb])] ?_)
   cases c19
   ·replace hc19 := bf hc19
    refine iF (vc_seqr rfl (iB .eql 9 (.string w) (.string (⟨#[109, 101, 116, 32, 98, 121]⟩)) (some 24) ?_))
    intro c24 hc24
    refine iQ 1 (iE 104 [(4, .p 4 0), (5, .p 5 0), (6, Ia 0), (7, .d (Sv w)), (8, Ba false), (13, Ba false), (18, Ba false), (23, Ba c24)] [(4, [.bx (a0).enc, .bx (a1).enc, Bv p0, Bv p1, Bv pa]), (5, [.bx (b0).enc, .bx (b1).enc, Bv q0, Bv q1, Bv pb])] ?_)
    cases c24
    ·replace hc24 := bf hc24
     refine iF (vc_seqr rfl (iB .eql 9 (.string w) (.string (⟨#[111, 118, 101, 114, 108, 97, 112, 115]⟩)) (some 29) ?_))
     intro c29 hc29
     refine iQ 1 (iE 104 [(4, .p 4 0), (5, .p 5 0), (6, Ia 0), (7, .d (Sv w)), (8, Ba false), (13, Ba false), (18, Ba false), (23, Ba false), (28, Ba c29)] [(4, [.bx (a0).enc, .bx (a1).enc, Bv p0, Bv p1, Bv pa]), (5, [.bx (b0).enc, .bx (b1).enc, Bv q0, Bv q1, Bv pb])] ?_)
     cases c29
     ·replace hc29 := bf hc29
      refine iF (vc_seqr rfl (iB .eql 9 (.string w) (.string (⟨#[111, 118, 101, 114, 108, 97, 112, 115, 32, 98, 101, 102, 111, 114, 101]⟩)) (some 34) ?_))
      intro c34 hc34
      refine iQ 1 (iE 104 [(4, .p 4 0), (5, .p 5 0), (6, Ia 0), (7, .d (Sv w)), (8, Ba false), (13, Ba false), (18, Ba false), (23, Ba false), (28, Ba false), (33, Ba c34)] [(4, [.bx (a0).enc, .bx (a1).enc, Bv p0, Bv p1, Bv pa]), (5, [.bx (b0).enc, .bx (b1).enc, Bv q0, Bv q1, Bv pb])] ?_)
      cases c34
      ·replace hc34 := bf hc34
       refine iF (vc_seqr rfl (iB .eql 9 (.string w) (.string (⟨#[111, 118, 101, 114, 108, 97, 112, 115, 32, 97, 102, 116, 101, 114]⟩)) (some 49) ?_))
       intro c49 hc49
       refine iQ 1 (iE 104 [(4, .p 4 0), (5, .p 5 0), (6, Ia 0), (7, .d (Sv w)), (8, Ba false), (13, Ba false), (18, Ba false), (23, Ba false), (28, Ba false), (33, Ba false), (48, Ba c49)] [(4, [.bx (a0).enc, .bx (a1).enc, Bv p0, Bv p1, Bv pa]), (5, [.bx (b0).enc, .bx (b1).enc, Bv q0, Bv q1, Bv pb])] ?_)
       cases c49
       ·replace hc49 := bf hc49
        refine iF (vc_seqr rfl (iB .eql 9 (.string w) (.string (⟨#[102, 105, 110, 105, 115, 104, 101, 115]⟩)) (some 54) ?_))
        intro c54 hc54
        refine iQ 1 (iE 104 [(4, .p 4 0), (5, .p 5 0), (6, Ia 0), (7, .d (Sv w)), (8, Ba false), (13, Ba false), (18, Ba false), (23, Ba false), (28, Ba false), (33, Ba false), (48, Ba false), (53, Ba c54)] [(4, [.bx (a0).enc, .bx (a1).enc, Bv p0, Bv p1, Bv pa]), (5, [.bx (b0).enc, .bx (b1).enc, Bv q0, Bv q1, Bv pb])] ?_)
        cases c54
        ·replace hc54 := bf hc54
         refine iF (vc_seqr rfl (iB .eql 9 (.string w) (.string (⟨#[102, 105, 110, 105, 115, 104, 101, 100, 32, 98, 121]⟩)) (some 63) ?_))
         intro c63 hc63
         refine iQ 1 (iE 104 [(4, .p 4 0), (5, .p 5 0), (6, Ia 0), (7, .d (Sv w)), (8, Ba false), (13, Ba false), (18, Ba false), (23, Ba false), (28, Ba false), (33, Ba false), (48, Ba false), (53, Ba false), (62, Ba c63)] [(4, [.bx (a0).enc, .bx (a1).enc, Bv p0, Bv p1, Bv pa]), (5, [.bx (b0).enc, .bx (b1).enc, Bv q0, Bv q1, Bv pb])] ?_)
         cases c63
         ·replace hc63 := bf hc63
          refine iF (vc_seqr rfl (iB .eql 9 (.string w) (.string (⟨#[105, 110, 99, 108, 117, 100, 101, 115]⟩)) (some 68) ?_))
          intro c68 hc68
          refine iQ 1 (iE 104 [(4, .p 4 0), (5, .p 5 0), (6, Ia 0), (7, .d (Sv w)), (8, Ba false), (13, Ba false), (18, Ba false), (23, Ba false), (28, Ba false), (33, Ba false), (48, Ba false), (53, Ba false), (62, Ba false), (67, Ba c68)] [(4, [.bx (a0).enc, .bx (a1).enc, Bv p0, Bv p1, Bv pa]), (5, [.bx (b0).enc, .bx (b1).enc, Bv q0, Bv q1, Bv pb])] ?_)
          cases c68
          ·replace hc68 := bf hc68
           refine iF (vc_seqr rfl (iB .eql 9 (.string w) (.string (⟨#[100, 117, 114, 105, 110, 103]⟩)) (some 77) ?_))
           intro c77 hc77
           refine iQ 1 (iE 104 [(4, .p 4 0), (5, .p 5 0), (6, Ia 0), (7, .d (Sv w)), (8, Ba false), (13, Ba false), (18, Ba false), (23, Ba false), (28, Ba false), (33, Ba false), (48, Ba false), (53, Ba false), (62, Ba false), (67, Ba false), (76, Ba c77)] [(4, [.bx (a0).enc, .bx (a1).enc, Bv p0, Bv p1, Bv pa]), (5, [.bx (b0).enc, .bx (b1).enc, Bv q0, Bv q1, Bv pb])] ?_)
           cases c77
           ·replace hc77 := bf hc77
            refine iF (vc_seqr rfl (iB .eql 9 (.string w) (.string (⟨#[115, 116, 97, 114, 116, 115]⟩)) (some 82) ?_))
            intro c82 hc82
            refine iQ 1 (iE 104 [(4, .p 4 0), (5, .p 5 0), (6, Ia 0), (7, .d (Sv w)), (8, Ba false), (13, Ba false), (18, Ba false), (23, Ba false), (28, Ba false), (33, Ba false), (48, Ba false), (53, Ba false), (62, Ba false), (67, Ba false), (76, Ba false), (81, Ba c82)] [(4, [.bx (a0).enc, .bx (a1).enc, Bv p0, Bv p1, Bv pa]), (5, [.bx (b0).enc, .bx (b1).enc, Bv q0, Bv q1, Bv pb])] ?_)
            cases c82
            ·replace hc82 := bf hc82
             refine iF (vc_seqr rfl (iB .eql 9 (.string w) (.string (⟨#[115, 116, 97, 114, 116, 101, 100, 32, 98, 121]⟩)) (some 91) ?_))
             intro c91 hc91
             refine iQ 1 (iE 104 [(4, .p 4 0), (5, .p 5 0), (6, Ia 0), (7, .d (Sv w)), (8, Ba false), (13, Ba false), (18, Ba false), (23, Ba false), (28, Ba false), (33, Ba false), (48, Ba false), (53, Ba false), (62, Ba false), (67, Ba false), (76, Ba false), (81, Ba false), (90, Ba c91)] [(4, [.bx (a0).enc, .bx (a1).enc, Bv p0, Bv p1, Bv pa]), (5, [.bx (b0).enc, .bx (b1).enc, Bv q0, Bv q1, Bv pb])] ?_)
             cases c91
             ·replace hc91 := bf hc91
              refine iF (vc_seqr rfl (iB .eql 9 (.string w) (.string (⟨#[99, 111, 105, 110, 99, 105, 100, 101, 115]⟩)) (some 96) ?_))
              intro c96 hc96
              refine iQ 1 (iE 104 [(4, .p 4 0), (5, .p 5 0), (6, Ia 0), (7, .d (Sv w)), (8, Ba false), (13, Ba false), (18, Ba false), (23, Ba false), (28, Ba false), (33, Ba false), (48, Ba false), (53, Ba false), (62, Ba false), (67, Ba false), (76, Ba false), (81, Ba false), (90, Ba false), (95, Ba c96)] [(4, [.bx (a0).enc, .bx (a1).enc, Bv p0, Bv p1, Bv pa]), (5, [.bx (b0).enc, .bx (b1).enc, Bv q0, Bv q1, Bv pb])] ?_)
              cases c96
              ·replace hc96 := bf hc96
               refine iF (vc_skip (block_n (seq_n (vc_seqr rfl (iQ 1 (iE 104 [(4, .p 4 0), (5, .p 5 0), (6, Ia 0), (7, .d (Sv w)), (8, Ba false), (13, Ba false), (18, Ba false), (23, Ba false), (28, Ba false), (33, Ba false), (48, Ba false), (53, Ba false), (62, Ba false), (67, Ba false), (76, Ba false), (81, Ba false), (90, Ba false), (95, Ba false)] [(4, [.bx (a0).enc, .bx (a1).enc, Bv p0, Bv p1, Bv pa]), (5, [.bx (b0).enc, .bx (b1).enc, Bv q0, Bv q1, Bv pb])] ?_))))))
               refine vc_ret (iR (Iv 0) ?_)
               rw [hV_none hc9 hc14 hc19 hc24 hc29 hc34 hc49 hc54 hc63 hc68 hc77 hc82 hc91 hc96]
              ·replace hc96 := bt hc96
               refine iT (vc_seqr rfl (iQ 2 (iC 85 [.agg [.bx (a0).enc, .bx (a1).enc, Bv p0, Bv p1, Bv pa], .agg [.bx (b0).enc, .bx (b1).enc, Bv q0, Bv q1, Bv pb]] (some 99) (g_starts ha0 ha1 hb0 hb1) ?_)))
               rintro _ rfl
               refine iQ 2 (iC 84 [.agg [.bx (a0).enc, .bx (a1).enc, Bv p0, Bv p1, Bv pa], .agg [.bx (b0).enc, .bx (b1).enc, Bv q0, Bv q1, Bv pb]] (some 102) (g_ends ha0 ha1 hb0 hb1) ?_)
               rintro _ rfl
               refine iC 11 [Iv (andI (sameI a0 b0) (ofI (p0 == q0))), Iv (andI (sameI a1 b1) (ofI (p1 == q1)))] (some 103) (c_eAnd) ?_
               rintro _ rfl
               refine iQ 1 (iE 104 [(4, .p 4 0), (5, .p 5 0), (6, Ia (andI (andI (sameI a0 b0) (ofI (p0 == q0))) (andI (sameI a1 b1) (ofI (p1 == q1))))), (7, .d (Sv w)), (8, Ba false), (13, Ba false), (18, Ba false), (23, Ba false), (28, Ba false), (33, Ba false), (48, Ba false), (53, Ba false), (62, Ba false), (67, Ba false), (76, Ba false), (81, Ba false), (90, Ba false), (95, Ba true)] [(4, [.bx (a0).enc, .bx (a1).enc, Bv p0, Bv p1, Bv pa]), (5, [.bx (b0).enc, .bx (b1).enc, Bv q0, Bv q1, Bv pb])] ?_)
               refine vc_ret (block_r (seq_r (iR (Iv (andI (andI (sameI a0 b0) (ofI (p0 == q0))) (andI (sameI a1 b1) (ofI (p1 == q1))))) ?_)))
               rw [hV_coincides hc96]
             ·replace hc91 := bt hc91
              refine iT (vc_seqr rfl (iQ 2 (iC 51 [Sv (⟨#[115, 116, 97, 114, 116, 115]⟩), .agg [.bx (b0).enc, .bx (b1).enc, Bv q0, Bv q1, Bv pb], .agg [.bx (a0).enc, .bx (a1).enc, Bv p0, Bv p1, Bv pa]] (some 94) (h_starts hb0 hb1 ha0 ha1) ?_)))
              rintro _ rfl
              refine iQ 1 (iE 104 [(4, .p 4 0), (5, .p 5 0), (6, Ia (andI (andI (sameI b0 a0) (ofI (q0 == p0))) (eiI b1 a1 (p1 || !q1)))), (7, .d (Sv w)), (8, Ba false), (13, Ba false), (18, Ba false), (23, Ba false), (28, Ba false), (33, Ba false), (48, Ba false), (53, Ba false), (62, Ba false), (67, Ba false), (76, Ba false), (81, Ba false), (90, Ba true)] [(4, [.bx (a0).enc, .bx (a1).enc, Bv p0, Bv p1, Bv pa]), (5, [.bx (b0).enc, .bx (b1).enc, Bv q0, Bv q1, Bv pb])] ?_)
              refine vc_ret (block_r (seq_r (iR (Iv (andI (andI (sameI b0 a0) (ofI (q0 == p0))) (eiI b1 a1 (p1 || !q1)))) ?_)))
              rw [hV_started_by hc91]
            ·replace hc82 := bt hc82
             refine iT (vc_seqr rfl (iQ 2 (iC 85 [.agg [.bx (a0).enc, .bx (a1).enc, Bv p0, Bv p1, Bv pa], .agg [.bx (b0).enc, .bx (b1).enc, Bv q0, Bv q1, Bv pb]] (some 85) (g_starts ha0 ha1 hb0 hb1) ?_)))
             rintro _ rfl
             refine iQ 2 (iC 83 [.agg [.bx (b0).enc, .bx (b1).enc, Bv q0, Bv q1, Bv pb], .agg [.bx (a0).enc, .bx (a1).enc, Bv p0, Bv p1, Bv pa]] (some 88) (g_to hb0 hb1 ha0 ha1) ?_)
             rintro _ rfl
             refine iC 11 [Iv (andI (sameI a0 b0) (ofI (p0 == q0))), Iv (eiI a1 b1 (q1 || !p1))] (some 89) (c_eAnd) ?_
             rintro _ rfl
             refine iQ 1 (iE 104 [(4, .p 4 0), (5, .p 5 0), (6, Ia (andI (andI (sameI a0 b0) (ofI (p0 == q0))) (eiI a1 b1 (q1 || !p1)))), (7, .d (Sv w)), (8, Ba false), (13, Ba false), (18, Ba false), (23, Ba false), (28, Ba false), (33, Ba false), (48, Ba false), (53, Ba false), (62, Ba false), (67, Ba false), (76, Ba false), (81, Ba true)] [(4, [.bx (a0).enc, .bx (a1).enc, Bv p0, Bv p1, Bv pa]), (5, [.bx (b0).enc, .bx (b1).enc, Bv q0, Bv q1, Bv pb])] ?_)
             refine vc_ret (block_r (seq_r (iR (Iv (andI (andI (sameI a0 b0) (ofI (p0 == q0))) (eiI a1 b1 (q1 || !p1)))) ?_)))
             rw [hV_starts hc82]
           ·replace hc77 := bt hc77
            refine iT (vc_seqr rfl (iQ 2 (iC 51 [Sv (⟨#[105, 110, 99, 108, 117, 100, 101, 115]⟩), .agg [.bx (b0).enc, .bx (b1).enc, Bv q0, Bv q1, Bv pb], .agg [.bx (a0).enc, .bx (a1).enc, Bv p0, Bv p1, Bv pa]] (some 80) (h_includes hb0 hb1 ha0 ha1) ?_)))
            rintro _ rfl
            refine iQ 1 (iE 104 [(4, .p 4 0), (5, .p 5 0), (6, Ia (andI (eiI b0 a0 (q0 || !p0)) (eiI a1 b1 (q1 || !p1)))), (7, .d (Sv w)), (8, Ba false), (13, Ba false), (18, Ba false), (23, Ba false), (28, Ba false), (33, Ba false), (48, Ba false), (53, Ba false), (62, Ba false), (67, Ba false), (76, Ba true)] [(4, [.bx (a0).enc, .bx (a1).enc, Bv p0, Bv p1, Bv pa]), (5, [.bx (b0).enc, .bx (b1).enc, Bv q0, Bv q1, Bv pb])] ?_)
            refine vc_ret (block_r (seq_r (iR (Iv (andI (eiI b0 a0 (q0 || !p0)) (eiI a1 b1 (q1 || !p1)))) ?_)))
            rw [hV_during hc77]
          ·replace hc68 := bt hc68
           refine iT (vc_seqr rfl (iQ 2 (iC 82 [.agg [.bx (a0).enc, .bx (a1).enc, Bv p0, Bv p1, Bv pa], .agg [.bx (b0).enc, .bx (b1).enc, Bv q0, Bv q1, Bv pb]] (some 71) (g_from ha0 ha1 hb0 hb1) ?_)))
           rintro _ rfl
           refine iQ 2 (iC 83 [.agg [.bx (a0).enc, .bx (a1).enc, Bv p0, Bv p1, Bv pa], .agg [.bx (b0).enc, .bx (b1).enc, Bv q0, Bv q1, Bv pb]] (some 74) (g_to ha0 ha1 hb0 hb1) ?_)
           rintro _ rfl
           refine iC 11 [Iv (eiI a0 b0 (p0 || !q0)), Iv (eiI b1 a1 (p1 || !q1))] (some 75) (c_eAnd) ?_
           rintro _ rfl
           refine iQ 1 (iE 104 [(4, .p 4 0), (5, .p 5 0), (6, Ia (andI (eiI a0 b0 (p0 || !q0)) (eiI b1 a1 (p1 || !q1)))), (7, .d (Sv w)), (8, Ba false), (13, Ba false), (18, Ba false), (23, Ba false), (28, Ba false), (33, Ba false), (48, Ba false), (53, Ba false), (62, Ba false), (67, Ba true)] [(4, [.bx (a0).enc, .bx (a1).enc, Bv p0, Bv p1, Bv pa]), (5, [.bx (b0).enc, .bx (b1).enc, Bv q0, Bv q1, Bv pb])] ?_)
           refine vc_ret (block_r (seq_r (iR (Iv (andI (eiI a0 b0 (p0 || !q0)) (eiI b1 a1 (p1 || !q1)))) ?_)))
           rw [hV_includes hc68]
         ·replace hc63 := bt hc63
          refine iT (vc_seqr rfl (iQ 2 (iC 51 [Sv (⟨#[102, 105, 110, 105, 115, 104, 101, 115]⟩), .agg [.bx (b0).enc, .bx (b1).enc, Bv q0, Bv q1, Bv pb], .agg [.bx (a0).enc, .bx (a1).enc, Bv p0, Bv p1, Bv pa]] (some 66) (h_finishes hb0 hb1 ha0 ha1) ?_)))
          rintro _ rfl
          refine iQ 1 (iE 104 [(4, .p 4 0), (5, .p 5 0), (6, Ia (andI (andI (sameI b1 a1) (ofI (q1 == p1))) (eiI a0 b0 (p0 || !q0)))), (7, .d (Sv w)), (8, Ba false), (13, Ba false), (18, Ba false), (23, Ba false), (28, Ba false), (33, Ba false), (48, Ba false), (53, Ba false), (62, Ba true)] [(4, [.bx (a0).enc, .bx (a1).enc, Bv p0, Bv p1, Bv pa]), (5, [.bx (b0).enc, .bx (b1).enc, Bv q0, Bv q1, Bv pb])] ?_)
          refine vc_ret (block_r (seq_r (iR (Iv (andI (andI (sameI b1 a1) (ofI (q1 == p1))) (eiI a0 b0 (p0 || !q0)))) ?_)))
          rw [hV_finished_by hc63]
        ·replace hc54 := bt hc54
         refine iT (vc_seqr rfl (iQ 2 (iC 84 [.agg [.bx (a0).enc, .bx (a1).enc, Bv p0, Bv p1, Bv pa], .agg [.bx (b0).enc, .bx (b1).enc, Bv q0, Bv q1, Bv pb]] (some 57) (g_ends ha0 ha1 hb0 hb1) ?_)))
         rintro _ rfl
         refine iQ 2 (iC 82 [.agg [.bx (b0).enc, .bx (b1).enc, Bv q0, Bv q1, Bv pb], .agg [.bx (a0).enc, .bx (a1).enc, Bv p0, Bv p1, Bv pa]] (some 60) (g_from hb0 hb1 ha0 ha1) ?_)
         rintro _ rfl
         refine iC 11 [Iv (andI (sameI a1 b1) (ofI (p1 == q1))), Iv (eiI b0 a0 (q0 || !p0))] (some 61) (c_eAnd) ?_
         rintro _ rfl
         refine iQ 1 (iE 104 [(4, .p 4 0), (5, .p 5 0), (6, Ia (andI (andI (sameI a1 b1) (ofI (p1 == q1))) (eiI b0 a0 (q0 || !p0)))), (7, .d (Sv w)), (8, Ba false), (13, Ba false), (18, Ba false), (23, Ba false), (28, Ba false), (33, Ba false), (48, Ba false), (53, Ba true)] [(4, [.bx (a0).enc, .bx (a1).enc, Bv p0, Bv p1, Bv pa]), (5, [.bx (b0).enc, .bx (b1).enc, Bv q0, Bv q1, Bv pb])] ?_)
         refine vc_ret (block_r (seq_r (iR (Iv (andI (andI (sameI a1 b1) (ofI (p1 == q1))) (eiI b0 a0 (q0 || !p0)))) ?_)))
         rw [hV_finishes hc54]
       ·replace hc49 := bt hc49
        refine iT (vc_seqr rfl (iQ 2 (iC 51 [Sv (⟨#[111, 118, 101, 114, 108, 97, 112, 115, 32, 98, 101, 102, 111, 114, 101]⟩), .agg [.bx (b0).enc, .bx (b1).enc, Bv q0, Bv q1, Bv pb], .agg [.bx (a0).enc, .bx (a1).enc, Bv p0, Bv p1, Bv pa]] (some 52) (h_overlaps_before hb0 hb1 ha0 ha1) ?_)))
        rintro _ rfl
        refine iQ 1 (iE 104 [(4, .p 4 0), (5, .p 5 0), (6, Ia (andI (andI (eiI a0 b1 (p0 && q1)) (eiI b0 a1 (q0 && p1))) (andI (notI (eiI a0 b0 (p0 || !q0))) (notI (eiI a1 b1 (q1 || !p1)))))), (7, .d (Sv w)), (8, Ba false), (13, Ba false), (18, Ba false), (23, Ba false), (28, Ba false), (33, Ba false), (48, Ba true)] [(4, [.bx (a0).enc, .bx (a1).enc, Bv p0, Bv p1, Bv pa]), (5, [.bx (b0).enc, .bx (b1).enc, Bv q0, Bv q1, Bv pb])] ?_)
        refine vc_ret (block_r (seq_r (iR (Iv (andI (andI (eiI a0 b1 (p0 && q1)) (eiI b0 a1 (q0 && p1))) (andI (notI (eiI a0 b0 (p0 || !q0))) (notI (eiI a1 b1 (q1 || !p1)))))) ?_)))
        rw [hV_overlaps_after hc49]
      ·replace hc34 := bt hc34
       refine iT (vc_seqr rfl (iQ 2 (iC 81 [.agg [.bx (a0).enc, .bx (a1).enc, Bv p0, Bv p1, Bv pa], .agg [.bx (b0).enc, .bx (b1).enc, Bv q0, Bv q1, Bv pb]] (some 37) (g_overlaps ha0 ha1 hb0 hb1) ?_)))
       rintro _ rfl
       refine iQ 2 (iC 82 [.agg [.bx (b0).enc, .bx (b1).enc, Bv q0, Bv q1, Bv pb], .agg [.bx (a0).enc, .bx (a1).enc, Bv p0, Bv p1, Bv pa]] (some 40) (g_from hb0 hb1 ha0 ha1) ?_)
       rintro _ rfl
       refine iC 10 [Iv (eiI b0 a0 (q0 || !p0))] (some 41) (c_eNot) ?_
       rintro _ rfl
       refine iQ 2 (iC 83 [.agg [.bx (a0).enc, .bx (a1).enc, Bv p0, Bv p1, Bv pa], .agg [.bx (b0).enc, .bx (b1).enc, Bv q0, Bv q1, Bv pb]] (some 44) (g_to ha0 ha1 hb0 hb1) ?_)
       rintro _ rfl
       refine iC 10 [Iv (eiI b1 a1 (p1 || !q1))] (some 45) (c_eNot) ?_
       rintro _ rfl
       refine iC 11 [Iv (notI (eiI b0 a0 (q0 || !p0))), Iv (notI (eiI b1 a1 (p1 || !q1)))] (some 46) (c_eAnd) ?_
       rintro _ rfl
       refine iC 11 [Iv (andI (eiI b0 a1 (q0 && p1)) (eiI a0 b1 (p0 && q1))), Iv (andI (notI (eiI b0 a0 (q0 || !p0))) (notI (eiI b1 a1 (p1 || !q1))))] (some 47) (c_eAnd) ?_
       rintro _ rfl
       refine iQ 1 (iE 104 [(4, .p 4 0), (5, .p 5 0), (6, Ia (andI (andI (eiI b0 a1 (q0 && p1)) (eiI a0 b1 (p0 && q1))) (andI (notI (eiI b0 a0 (q0 || !p0))) (notI (eiI b1 a1 (p1 || !q1)))))), (7, .d (Sv w)), (8, Ba false), (13, Ba false), (18, Ba false), (23, Ba false), (28, Ba false), (33, Ba true)] [(4, [.bx (a0).enc, .bx (a1).enc, Bv p0, Bv p1, Bv pa]), (5, [.bx (b0).enc, .bx (b1).enc, Bv q0, Bv q1, Bv pb])] ?_)
       refine vc_ret (block_r (seq_r (iR (Iv (andI (andI (eiI b0 a1 (q0 && p1)) (eiI a0 b1 (p0 && q1))) (andI (notI (eiI b0 a0 (q0 || !p0))) (notI (eiI b1 a1 (p1 || !q1)))))) ?_)))
       rw [hV_overlaps_before hc34]
     ·replace hc29 := bt hc29
      refine iT (vc_seqr rfl (iQ 2 (iC 81 [.agg [.bx (a0).enc, .bx (a1).enc, Bv p0, Bv p1, Bv pa], .agg [.bx (b0).enc, .bx (b1).enc, Bv q0, Bv q1, Bv pb]] (some 32) (g_overlaps ha0 ha1 hb0 hb1) ?_)))
      rintro _ rfl
      refine iQ 1 (iE 104 [(4, .p 4 0), (5, .p 5 0), (6, Ia (andI (eiI b0 a1 (q0 && p1)) (eiI a0 b1 (p0 && q1)))), (7, .d (Sv w)), (8, Ba false), (13, Ba false), (18, Ba false), (23, Ba false), (28, Ba true)] [(4, [.bx (a0).enc, .bx (a1).enc, Bv p0, Bv p1, Bv pa]), (5, [.bx (b0).enc, .bx (b1).enc, Bv q0, Bv q1, Bv pb])] ?_)
      refine vc_ret (block_r (seq_r (iR (Iv (andI (eiI b0 a1 (q0 && p1)) (eiI a0 b1 (p0 && q1)))) ?_)))
      rw [hV_overlaps hc29]
    ·replace hc24 := bt hc24
     refine iT (vc_seqr rfl (iQ 2 (iC 80 [.agg [.bx (b0).enc, .bx (b1).enc, Bv q0, Bv q1, Bv pb], .agg [.bx (a0).enc, .bx (a1).enc, Bv p0, Bv p1, Bv pa]] (some 27) (g_meets hb0 hb1 ha0 ha1) ?_)))
     rintro _ rfl
     refine iQ 1 (iE 104 [(4, .p 4 0), (5, .p 5 0), (6, Ia (andI (sameI b1 a0) (ofI (q1 && p0)))), (7, .d (Sv w)), (8, Ba false), (13, Ba false), (18, Ba false), (23, Ba true)] [(4, [.bx (a0).enc, .bx (a1).enc, Bv p0, Bv p1, Bv pa]), (5, [.bx (b0).enc, .bx (b1).enc, Bv q0, Bv q1, Bv pb])] ?_)
     refine vc_ret (block_r (seq_r (iR (Iv (andI (sameI b1 a0) (ofI (q1 && p0)))) ?_)))
     rw [hV_met_by hc24]
   ·replace hc19 := bt hc19
    refine iT (vc_seqr rfl (iQ 2 (iC 80 [.agg [.bx (a0).enc, .bx (a1).enc, Bv p0, Bv p1, Bv pa], .agg [.bx (b0).enc, .bx (b1).enc, Bv q0, Bv q1, Bv pb]] (some 22) (g_meets ha0 ha1 hb0 hb1) ?_)))
    rintro _ rfl
    refine iQ 1 (iE 104 [(4, .p 4 0), (5, .p 5 0), (6, Ia (andI (sameI a1 b0) (ofI (p1 && q0)))), (7, .d (Sv w)), (8, Ba false), (13, Ba false), (18, Ba true)] [(4, [.bx (a0).enc, .bx (a1).enc, Bv p0, Bv p1, Bv pa]), (5, [.bx (b0).enc, .bx (b1).enc, Bv q0, Bv q1, Bv pb])] ?_)
    refine vc_ret (block_r (seq_r (iR (Iv (andI (sameI a1 b0) (ofI (p1 && q0)))) ?_)))
    rw [hV_meets hc19]
  ·replace hc14 := bt hc14
   refine iT (vc_seqr rfl (iQ 2 (iC 79 [.agg [.bx (b0).enc, .bx (b1).enc, Bv q0, Bv q1, Bv pb], .agg [.bx (a0).enc, .bx (a1).enc, Bv p0, Bv p1, Bv pa]] (some 17) (g_before hb0 hb1 ha0 ha1) ?_)))
   rintro _ rfl
   refine iQ 1 (iE 104 [(4, .p 4 0), (5, .p 5 0), (6, Ia (eiI b1 a0 (!q1 || !p0))), (7, .d (Sv w)), (8, Ba false), (13, Ba true)] [(4, [.bx (a0).enc, .bx (a1).enc, Bv p0, Bv p1, Bv pa]), (5, [.bx (b0).enc, .bx (b1).enc, Bv q0, Bv q1, Bv pb])] ?_)
   refine vc_ret (block_r (seq_r (iR (Iv (eiI b1 a0 (!q1 || !p0))) ?_)))
   rw [hV_after hc14]
 ·replace hc9 := bt hc9
  refine iT (vc_seqr rfl (iQ 2 (iC 79 [.agg [.bx (a0).enc, .bx (a1).enc, Bv p0, Bv p1, Bv pa], .agg [.bx (b0).enc, .bx (b1).enc, Bv q0, Bv q1, Bv pb]] (some 12) (g_before ha0 ha1 hb0 hb1) ?_)))
  rintro _ rfl
  refine iQ 1 (iE 104 [(4, .p 4 0), (5, .p 5 0), (6, Ia (eiI a1 b0 (!p1 || !q0))), (7, .d (Sv w)), (8, Ba true)] [(4, [.bx (a0).enc, .bx (a1).enc, Bv p0, Bv p1, Bv pa]), (5, [.bx (b0).enc, .bx (b1).enc, Bv q0, Bv q1, Bv pb])] ?_)
  refine vc_ret (block_r (seq_r (iR (Iv (eiI a1 b0 (!p1 || !q0))) ?_)))
  rw [hV_before hc9]
def ptI (w : ByteArray) : Int := if w = w_before ∨ w = w_after ∨ w = w_coincides then 3 else if w = w_finishes ∨ w = w_starts ∨ w = w_during then 1 else if w = w_finished_by ∨ w = w_started_by ∨ w = w_includes then 2 else 0
theorem pt_cases (w : ByteArray) : ptI w = 0 ∨ ptI w = 1 ∨ ptI w = 2 ∨ ptI w = 3 := by
  unfold ptI
  split
  · simp
  · split
    · simp
    · split <;> simp
theorem pt_one {n z : Int} (hn : n = 0 ∨ n = 1 ∨ n = 2 ∨ n = 3) (h : BitIs .and .i64 n 1 z) : (z = 0 ↔ n = 0 ∨ n = 2) := by
  rcases hn with rfl | rfl | rfl | rfl <;> rw [h] <;> decide
theorem pt_two {n z : Int} (hn : n = 0 ∨ n = 1 ∨ n = 2 ∨ n = 3) (h : BitIs .and .i64 n 2 z) : (z = 0 ↔ n = 0 ∨ n = 1) := by
  rcases hn with rfl | rfl | rfl | rfl <;> rw [h] <;> decide
theorem g_points {w : ByteArray} : HasC Tryz.prog 50 [.v (.string w)] (fun r => r = .v (.int .i64 (ptI w))) := by
 refine HasC.of [] (fn := Tryz.f50) tyOk mixed (fun args w => Tryz.call50 args w) Tryz.func50 rfl (by kernel_rfl) (Nat.le_of_ble_eq_true rfl) (⟨_, rfl⟩) ?_
 refine vc_seqr rfl (iQ 1 (iE 16 [(0, .d (Sv w)), (2, Ia 0)] [] ?_))
 refine vc_seq (vc_seqr rfl (iQ 1 (iE 16 [(2, Ia 0), (3, .d (Sv w))] [] ?_)))
 refine vc_block (vc_seq (vc_seqr rfl (iB .eql 9 (.string w) (.string (⟨#[98, 101, 102, 111, 114, 101]⟩)) (some 5) ?_)))
 intro c5 hc5
 refine iQ 1 (iE 16 [(2, Ia 0), (3, .d (Sv w)), (4, Ba c5)] [] ?_)
 cases c5
 ·replace hc5 := bf hc5
  refine iF (vc_seqr rfl (iB .eql 9 (.string w) (.string (⟨#[97, 102, 116, 101, 114]⟩)) (some 6) ?_))
  intro c6 hc6
  refine iQ 1 (iE 16 [(2, Ia 0), (3, .d (Sv w)), (4, Ba c6)] [] ?_)
  cases c6
  ·replace hc6 := bf hc6
   refine iF (vc_reg rfl (iB .eql 9 (.string w) (.string (⟨#[99, 111, 105, 110, 99, 105, 100, 101, 115]⟩)) (some 7) ?_))
   intro c7 hc7
   refine iQ 1 (iE 16 [(2, Ia 0), (3, .d (Sv w)), (4, Ba c7)] [] ?_)
   refine seq_n ?_
   cases c7
   ·replace hc7 := bf hc7
    refine iF (vc_seq (vc_seqr rfl (iB .eql 9 (.string w) (.string (⟨#[102, 105, 110, 105, 115, 104, 101, 115]⟩)) (some 9) ?_)))
    intro c9 hc9
    refine iQ 1 (iE 16 [(2, Ia 0), (3, .d (Sv w)), (4, Ba false), (8, Ba c9)] [] ?_)
    cases c9
    ·replace hc9 := bf hc9
     refine iF (vc_seqr rfl (iB .eql 9 (.string w) (.string (⟨#[115, 116, 97, 114, 116, 115]⟩)) (some 10) ?_))
     intro c10 hc10
     refine iQ 1 (iE 16 [(2, Ia 0), (3, .d (Sv w)), (4, Ba false), (8, Ba c10)] [] ?_)
     cases c10
     ·replace hc10 := bf hc10
      refine iF (vc_reg rfl (iB .eql 9 (.string w) (.string (⟨#[100, 117, 114, 105, 110, 103]⟩)) (some 11) ?_))
      intro c11 hc11
      refine iQ 1 (iE 16 [(2, Ia 0), (3, .d (Sv w)), (4, Ba false), (8, Ba c11)] [] ?_)
      refine seq_n ?_
      cases c11
      ·replace hc11 := bf hc11
       refine iF (vc_seq (vc_seqr rfl (iB .eql 9 (.string w) (.string (⟨#[102, 105, 110, 105, 115, 104, 101, 100, 32, 98, 121]⟩)) (some 13) ?_)))
       intro c13 hc13
       refine iQ 1 (iE 16 [(2, Ia 0), (3, .d (Sv w)), (4, Ba false), (8, Ba false), (12, Ba c13)] [] ?_)
       cases c13
       ·replace hc13 := bf hc13
        refine iF (vc_seqr rfl (iB .eql 9 (.string w) (.string (⟨#[115, 116, 97, 114, 116, 101, 100, 32, 98, 121]⟩)) (some 14) ?_))
        intro c14 hc14
        refine iQ 1 (iE 16 [(2, Ia 0), (3, .d (Sv w)), (4, Ba false), (8, Ba false), (12, Ba c14)] [] ?_)
        cases c14
        ·replace hc14 := bf hc14
         refine iF (vc_reg rfl (iB .eql 9 (.string w) (.string (⟨#[105, 110, 99, 108, 117, 100, 101, 115]⟩)) (some 15) ?_))
         intro c15 hc15
         refine iQ 1 (iE 16 [(2, Ia 0), (3, .d (Sv w)), (4, Ba false), (8, Ba false), (12, Ba c15)] [] ?_)
         refine seq_n ?_
         cases c15
         ·replace hc15 := bf hc15
          refine iF (vc_skip (block_n (seq_n (vc_seqr rfl (iQ 1 (iE 16 [(2, Ia 0), (3, .d (Sv w)), (4, Ba false), (8, Ba false), (12, Ba false)] [] ?_))))))
          refine vc_ret (iR (Iv 0) ?_)
          rw [ptI, if_neg (by simp only [hc5, hc6, hc7, or_self, not_false_eq_true]), if_neg (by simp only [hc9, hc10, hc11, or_self, not_false_eq_true]), if_neg (by simp only [hc13, hc14, hc15, or_self, not_false_eq_true])]
         ·replace hc15 := bt hc15
          refine iT (vc_seqr rfl (iQ 1 (iE 16 [(2, Ia 2), (3, .d (Sv w)), (4, Ba false), (8, Ba false), (12, Ba true)] [] ?_)))
          refine vc_ret (block_r (seq_r (iR (Iv 2) ?_)))
          rw [ptI, if_neg (by simp only [hc5, hc6, hc7, or_self, not_false_eq_true]), if_neg (by simp only [hc9, hc10, hc11, or_self, not_false_eq_true]), if_pos (by simp only [hc15, true_or, or_true])]
        ·replace hc14 := bt hc14
         refine iT (vc_skip (seq_n (iT (vc_seqr rfl (iQ 1 (iE 16 [(2, Ia 2), (3, .d (Sv w)), (4, Ba false), (8, Ba false), (12, Ba true)] [] ?_))))))
         refine vc_ret (block_r (seq_r (iR (Iv 2) ?_)))
         rw [ptI, if_neg (by simp only [hc5, hc6, hc7, or_self, not_false_eq_true]), if_neg (by simp only [hc9, hc10, hc11, or_self, not_false_eq_true]), if_pos (by simp only [hc14, true_or, or_true])]
       ·replace hc13 := bt hc13
        refine iT (vc_skip (seq_n (iT (vc_seqr rfl (iQ 1 (iE 16 [(2, Ia 2), (3, .d (Sv w)), (4, Ba false), (8, Ba false), (12, Ba true)] [] ?_))))))
        refine vc_ret (block_r (seq_r (iR (Iv 2) ?_)))
        rw [ptI, if_neg (by simp only [hc5, hc6, hc7, or_self, not_false_eq_true]), if_neg (by simp only [hc9, hc10, hc11, or_self, not_false_eq_true]), if_pos (by simp only [hc13, true_or, or_true])]
      ·replace hc11 := bt hc11
       refine iT (vc_seqr rfl (iQ 1 (iE 16 [(2, Ia 1), (3, .d (Sv w)), (4, Ba false), (8, Ba true)] [] ?_)))
       refine vc_ret (block_r (seq_r (iR (Iv 1) ?_)))
       rw [ptI, if_neg (by simp only [hc5, hc6, hc7, or_self, not_false_eq_true]), if_pos (by simp only [hc11, true_or, or_true])]
     ·replace hc10 := bt hc10
      refine iT (vc_skip (seq_n (iT (vc_seqr rfl (iQ 1 (iE 16 [(2, Ia 1), (3, .d (Sv w)), (4, Ba false), (8, Ba true)] [] ?_))))))
      refine vc_ret (block_r (seq_r (iR (Iv 1) ?_)))
      rw [ptI, if_neg (by simp only [hc5, hc6, hc7, or_self, not_false_eq_true]), if_pos (by simp only [hc10, true_or, or_true])]
    ·replace hc9 := bt hc9
     refine iT (vc_skip (seq_n (iT (vc_seqr rfl (iQ 1 (iE 16 [(2, Ia 1), (3, .d (Sv w)), (4, Ba false), (8, Ba true)] [] ?_))))))
     refine vc_ret (block_r (seq_r (iR (Iv 1) ?_)))
     rw [ptI, if_neg (by simp only [hc5, hc6, hc7, or_self, not_false_eq_true]), if_pos (by simp only [hc9, true_or, or_true])]
   ·replace hc7 := bt hc7
    refine iT (vc_seqr rfl (iQ 1 (iE 16 [(2, Ia 3), (3, .d (Sv w)), (4, Ba true)] [] ?_)))
    refine vc_ret (block_r (seq_r (iR (Iv 3) ?_)))
    rw [ptI, if_pos (by simp only [hc7, true_or, or_true])]
  ·replace hc6 := bt hc6
   refine iT (vc_skip (seq_n (iT (vc_seqr rfl (iQ 1 (iE 16 [(2, Ia 3), (3, .d (Sv w)), (4, Ba true)] [] ?_))))))
   refine vc_ret (block_r (seq_r (iR (Iv 3) ?_)))
   rw [ptI, if_pos (by simp only [hc6, true_or, or_true])]
 ·replace hc5 := bt hc5
  refine iT (vc_skip (seq_n (iT (vc_seqr rfl (iQ 1 (iE 16 [(2, Ia 3), (3, .d (Sv w)), (4, Ba true)] [] ?_))))))
  refine vc_ret (block_r (seq_r (iR (Iv 3) ?_)))
  rw [ptI, if_pos (by simp only [hc5, true_or, or_true])]
-- a value as a point or a range
def loS (v : Vl) : Vl := if (rngOf v).is = true then (rngOf v).lo else v
def hiS (v : Vl) : Vl := if (rngOf v).is = true then (rngOf v).hi else v
def pS (v : Vl) : Bool := if (rngOf v).is = true then (rngOf v).p else true
def qS (v : Vl) : Bool := if (rngOf v).is = true then (rngOf v).q else true
def ptS (v : Vl) : Bool := !(rngOf v).is
def okS (v : Vl) : Bool := if (rngOf v).is = true then !(rngOf v).lo.nullB && !(rngOf v).hi.nullB else decide (3 ≤ v.kindI ∧ v.kindI ≤ 9)
def SpanIs (v a0 a1 : Vl) (p0 p1 pa ok : Bool) : Prop := a0 = loS v ∧ a1 = hiS v ∧ p0 = pS v ∧ p1 = qS v ∧ pa = ptS v ∧ ok = okS v
theorem SpanIs.ok {v a0 a1 : Vl} {p0 p1 pa ok : Bool} (h : SpanIs v a0 a1 p0 p1 pa ok) (o : v.ok) : a0.ok ∧ a1.ok := by
  obtain ⟨rfl, rfl, _⟩ := h
  obtain ⟨h1, h2⟩ := rng_ok (v := v) rfl o
  unfold loS hiS
  constructor <;> split <;> assumption
theorem span_pt {v lo hi : Vl} {p q is c : Bool} (h : rngOf v = ⟨lo, hi, p, q, is⟩) (he : is = false) (hc : c = true ↔ 3 ≤ v.kindI ∧ v.kindI ≤ 9) : SpanIs v v v true true true c := by
  unfold SpanIs loS hiS pS qS ptS okS
  rw [h, he]
  simp only [Bool.false_eq_true, if_false, true_and, Bool.not_false]
  rw [Bool.eq_iff_iff, hc, decide_eq_true_iff]
theorem span_rg {v lo hi : Vl} {p q is c : Bool} (h : rngOf v = ⟨lo, hi, p, q, is⟩) (he : is = true) (hc : c = true ↔ lo.kindI ≠ 1 ∧ hi.kindI ≠ 1) : SpanIs v lo hi p q false c := by
  unfold SpanIs loS hiS pS qS ptS okS
  rw [h, he]
  simp only [if_true, true_and, Bool.not_true]
  rw [Bool.eq_iff_iff, hc, Bool.and_eq_true, Bool.not_eq_true', Bool.not_eq_true', ← Bool.not_eq_true, ← Bool.not_eq_true, nullK, nullK]
theorem g_of {v : Vl} : HasC Tryz.prog 49 [.agg [.bx (v).enc]] (fun r => ∃ (a0 a1 : Vl) (p0 p1 pa ok : Bool), r = .tup [.agg [.bx a0.enc, .bx a1.enc, .v (.bool p0), .v (.bool p1), .v (.bool pa)], .v (.bool ok)] ∧ SpanIs v a0 a1 p0 p1 pa ok) := by
 refine HasC.of [] (fn := Tryz.f49) tyOk mixed (fun args w => Tryz.call49 args w) Tryz.func49 rfl (by kernel_rfl) (Nat.le_of_ble_eq_true rfl) (⟨_, _, _, _, _, _, _, rfl, rfl, rfl, rfl, rfl, rfl, rfl⟩) ?_
 obtain ⟨⟨lo, hi, p, q, is⟩, hr⟩ : ∃ e, rngOf v = e := ⟨_, rfl⟩
 refine vc_seqr rfl (iQ 3 (iE 38 [(1, .p 1 0), (2, .p 2 0), (3, Ba false)] [(1, [.bx (v).enc]), (2, [.v (.nilIface), .v (.nilIface), Bv false, Bv false, Bv false])] ?_))
 refine vc_seqr rfl (iQ 1 (iC 42 [.agg [.bx (v).enc]] (some 9) (c_AsRangeX hr) ?_))
 rintro _ rfl
 refine iQ 9 (iE 38 [(1, .p 1 0), (2, .p 2 0), (3, Ba false), (4, .p 4 0), (5, .p 5 0), (6, Ba is)] [(1, [.bx (v).enc]), (2, [.v (.nilIface), .v (.nilIface), Bv false, Bv false, Bv false]), (4, [.bx (lo).enc, .bx (hi).enc]), (5, [Bv p, Bv q])] ?_)
 refine vc_seq (vc_seqr rfl (iQ 1 (iU .not (.bool is) (some 14) ?_)))
 intro c14 hc14
 refine iE 38 [(1, .p 1 0), (2, .p 2 0), (3, Ba false), (4, .p 4 0), (5, .p 5 0), (14, Ba c14)] [(1, [.bx (v).enc]), (2, [.v (.nilIface), .v (.nilIface), Bv false, Bv false, Bv false]), (4, [.bx (lo).enc, .bx (hi).enc]), (5, [Bv p, Bv q])] ?_
 cases c14
 ·replace hc14 := bf hc14
  refine iF (vc_skip (seq_n (vc_seqr rfl (iQ 8 (iC 14 [.agg [.bx (lo).enc]] (some 30) (c_NullE (v := lo)) ?_)))))
  rintro _ ⟨n1, rfl, hn1⟩
  refine iU .not (.bool n1) (some 31) ?_
  intro c31 hc31
  refine iQ 1 ?_
  cases c31
  ·replace hc31 := bf hc31
   refine iQ 7 (iE 38 [(1, .p 1 0), (2, .p 2 0), (3, Ba false), (4, .p 4 0), (5, .p 5 0), (14, Ba false)] [(1, [.bx (v).enc]), (2, [.bx (lo).enc, .bx (hi).enc, Bv p, Bv q, Bv false]), (4, [.bx (lo).enc, .bx (hi).enc]), (5, [Bv p, Bv q])] ?_)
   refine vc_ret (iS (.agg [.bx (lo).enc, .bx (hi).enc, Bv p, Bv q, Bv false]) (Bv false) [] ?_)
   exact ⟨_, _, _, _, _, _, rfl, span_rg hr (by simpa using hc14) (by simp_all)⟩
  ·replace hc31 := bt hc31
   refine iQ 2 (iC 14 [.agg [.bx (hi).enc]] (some 35) (c_NullE (v := hi)) ?_)
   rintro _ ⟨n2, rfl, hn2⟩
   refine iU .not (.bool n2) (some 36) ?_
   intro c36 hc36
   refine iQ 3 (iE 38 [(1, .p 1 0), (2, .p 2 0), (3, Ba c36), (4, .p 4 0), (5, .p 5 0), (14, Ba false)] [(1, [.bx (v).enc]), (2, [.bx (lo).enc, .bx (hi).enc, Bv p, Bv q, Bv false]), (4, [.bx (lo).enc, .bx (hi).enc]), (5, [Bv p, Bv q])] ?_)
   refine vc_ret (iS (.agg [.bx (lo).enc, .bx (hi).enc, Bv p, Bv q, Bv false]) (Bv c36) [] ?_)
   exact ⟨_, _, _, _, _, _, rfl, span_rg hr (by simpa using hc14) (by rw [hc36, ← Bool.not_eq_true, hn2]; simp_all)⟩
 ·replace hc14 := bt hc14
  refine iT (vc_seqr rfl (iQ 5 (iC 40 [.agg [.bx (v).enc]] (some 20) (c_KindE (v := v)) ?_)))
  rintro _ ⟨k, rfl, hk⟩
  refine iC 41 [Iv k] (some 21) (c_OrdE (k := k)) ?_
  rintro _ ⟨c, rfl, hc⟩
  refine iQ 2 (iE 38 [(1, .p 1 0), (2, .p 2 0), (3, Ba c), (4, .p 4 0), (5, .p 5 0), (14, Ba true)] [(1, [.bx (v).enc]), (2, [.bx (v).enc, .bx (v).enc, Bv true, Bv true, Bv true]), (4, [.bx (lo).enc, .bx (hi).enc]), (5, [Bv p, Bv q])] ?_)
  refine vc_ret (seq_r (iS (.agg [.bx (v).enc, .bx (v).enc, Bv true, Bv true, Bv true]) (Bv c) [] ?_))
  exact ⟨_, _, _, _, _, _, rfl, span_pt hr (by simpa using hc14) (by rw [hc, hk])⟩
theorem okS_pt {v lo hi : Vl} {p q is : Bool} (h : rngOf v = ⟨lo, hi, p, q, is⟩) (he : is = false) : okS v = true ↔ 3 ≤ v.kindI ∧ v.kindI ≤ 9 := by
  unfold okS
  rw [h, he]
  simp
theorem okS_rg {v lo hi : Vl} {p q is : Bool} (h : rngOf v = ⟨lo, hi, p, q, is⟩) (he : is = true) : okS v = true ↔ lo.kindI ≠ 1 ∧ hi.kindI ≠ 1 := by
  unfold okS
  rw [h, he]
  simp only [if_true]
  rw [Bool.and_eq_true, Bool.not_eq_true', Bool.not_eq_true', ← Bool.not_eq_true, ← Bool.not_eq_true, nullK, nullK]
theorem rg_kind {v lo hi : Vl} {p q is : Bool} (h : rngOf v = ⟨lo, hi, p, q, is⟩) : is = true → ¬ (3 ≤ v.kindI ∧ v.kindI ≤ 9) := by
  intro e
  cases v <;> simp only [rngOf, Ends.mk.injEq] at h <;> obtain ⟨rfl, rfl, rfl, rfl, rfl⟩ := h <;> first | (simp [Vl.kindI]; done) | cases e
theorem g_fits {v : Vl} : HasC Tryz.prog 29 [.agg [.bx (v).enc]] (fun r => ∃ c, r = .v (.bool c) ∧ (c = true ↔ okS v = true)) := by
 refine HasC.of [] (fn := Tryz.f29) tyOk mixed (fun args w => Tryz.call29 args w) Tryz.func29 rfl (by kernel_rfl) (Nat.le_of_ble_eq_true rfl) (⟨_, _, rfl, Iff.rfl⟩) ?_
 obtain ⟨⟨lo, hi, p, q, is⟩, hr⟩ : ∃ e, rngOf v = e := ⟨_, rfl⟩
 have hkd := rg_kind hr
 refine vc_seqr rfl (iQ 2 (iE 30 [(1, .p 1 0), (2, Ba false)] [(1, [.bx (v).enc])] ?_))
 refine vc_seqr rfl (iQ 1 (iC 42 [.agg [.bx (v).enc]] (some 8) (c_AsRangeX hr) ?_))
 rintro _ rfl
 refine iQ 9 (iE 30 [(1, .p 1 0), (2, Ba false), (3, .p 3 0), (5, Ba is)] [(1, [.bx (v).enc]), (3, [.bx (lo).enc, .bx (hi).enc])] ?_)
 refine vc_seqr rfl (iQ 1 (iC 40 [.agg [.bx (v).enc]] (some 13) (c_KindE (v := v)) ?_))
 rintro _ ⟨k, rfl, hk⟩
 refine iC 41 [Iv k] (some 14) (c_OrdE (k := k)) ?_
 rintro _ ⟨o, rfl, ho⟩
 rw [hk] at ho
 refine iQ 1 ?_
 cases o
 ·skip
  refine iQ 2 ?_
  cases is
  ·skip
   refine iQ 13 (iE 30 [(1, .p 1 0), (2, Ba false), (3, .p 3 0)] [(1, [.bx (v).enc]), (3, [.bx (lo).enc, .bx (hi).enc])] ?_)
   refine vc_ret (iR (Bv false) ?_)
   exact ⟨_, rfl, by rw [okS_pt hr rfl, ← ho]⟩
  ·skip
   refine iQ 2 (iC 14 [.agg [.bx (lo).enc]] (some 20) (c_NullE (v := lo)) ?_)
   rintro _ ⟨n1, rfl, hn1⟩
   refine iU .not (.bool n1) (some 21) ?_
   intro c21 hc21
   refine iQ 2 ?_
   cases c21
   ·replace hc21 := bf hc21
    refine iQ 7 (iE 30 [(1, .p 1 0), (2, Ba false), (3, .p 3 0)] [(1, [.bx (v).enc]), (3, [.bx (lo).enc, .bx (hi).enc])] ?_)
    refine vc_ret (iR (Bv false) ?_)
    exact ⟨_, rfl, by rw [okS_rg hr rfl]; simp_all⟩
   ·replace hc21 := bt hc21
    refine iQ 2 (iC 14 [.agg [.bx (hi).enc]] (some 26) (c_NullE (v := hi)) ?_)
    rintro _ ⟨n2, rfl, hn2⟩
    refine iU .not (.bool n2) (some 27) ?_
    intro c27 hc27
    refine iQ 3 (iE 30 [(1, .p 1 0), (2, Ba c27), (3, .p 3 0)] [(1, [.bx (v).enc]), (3, [.bx (lo).enc, .bx (hi).enc])] ?_)
    refine vc_ret (iR (Bv c27) ?_)
    exact ⟨_, rfl, by rw [okS_rg hr rfl, hc27, ← Bool.not_eq_true, hn2]; simp_all⟩
 ·skip
  refine iQ 15 (iE 30 [(1, .p 1 0), (2, Ba true), (3, .p 3 0)] [(1, [.bx (v).enc]), (3, [.bx (lo).enc, .bx (hi).enc])] ?_)
  refine vc_ret (iR (Bv true) ?_)
  exact ⟨_, rfl, by have h1 := ho.1 rfl; cases is; rw [okS_pt hr rfl]; simp [h1]; exact absurd h1 (hkd rfl)⟩
def nullR (w : ByteArray) (ok fine pa pb : Bool) : Bool := !ok || !fine || (pa && decide (ptI w = 0 ∨ ptI w = 2)) || (pb && decide (ptI w = 0 ∨ ptI w = 1)) || (decide (w = w_coincides) && (pa != pb)) || (decide (ptI w ≠ 3) && pa && pb)
noncomputable def hol (w : ByteArray) (a0 a1 : Vl) (p0 p1 pa ok : Bool) (b0 b1 : Vl) (q0 q1 pb fine : Bool) : Int := if nullR w ok fine pa pb = true then 0 else hV w a0 a1 p0 p1 b0 b1 q0 q1
/-- What Holds says of two values: 2 true, 1 false, 0 null. -/
noncomputable def HolI (w : ByteArray) (x y : Vl) : Int := hol w (loS x) (hiS x) (pS x) (qS x) (ptS x) (okS x) (loS y) (hiS y) (pS y) (qS y) (ptS y) (okS y)
theorem HolI_eq {w : ByteArray} {x y a0 a1 b0 b1 : Vl} {p0 p1 pa ok q0 q1 pb fine : Bool} (h1 : SpanIs x a0 a1 p0 p1 pa ok) (h2 : SpanIs y b0 b1 q0 q1 pb fine) : HolI w x y = hol w a0 a1 p0 p1 pa ok b0 b1 q0 q1 pb fine := by
  obtain ⟨rfl, rfl, rfl, rfl, rfl, rfl⟩ := h1
  obtain ⟨rfl, rfl, rfl, rfl, rfl, rfl⟩ := h2
  rfl
theorem hol_null {w : ByteArray} {x y a0 a1 b0 b1 : Vl} {p0 p1 pa ok q0 q1 pb fine : Bool} (h1 : SpanIs x a0 a1 p0 p1 pa ok) (h2 : SpanIs y b0 b1 q0 q1 pb fine) (h : nullR w ok fine pa pb = true) : ∃ v, IsV (.agg [.v .nilIface]) v ∧ v = truthV (HolI w x y) := by
  rw [HolI_eq h1 h2, hol, if_pos h]
  exact ⟨.null, IsV.null, rfl⟩
theorem hol_some {w : ByteArray} {x y a0 a1 b0 b1 : Vl} {p0 p1 pa ok q0 q1 pb fine : Bool} (h1 : SpanIs x a0 a1 p0 p1 pa ok) (h2 : SpanIs y b0 b1 q0 q1 pb fine) (h : nullR w ok fine pa pb = false) : ∃ v, IsV (VV (truthV (hV w a0 a1 p0 p1 b0 b1 q0 q1))) v ∧ v = truthV (HolI w x y) := by
  rw [HolI_eq h1 h2, hol, if_neg (by rw [h]; decide)]
  exact ⟨_, .inl rfl, rfl⟩

set_option maxHeartbeats 3200000 in
theorem v_Holds {w : ByteArray} {x y : Vl} (ox : x.ok) (oy : y.ok) : HasC Tryz.prog 28 [.v (.string w), .agg [.bx (x).enc], .agg [.bx (y).enc]] (fun r => ∃ v, IsV r v ∧ v = truthV (HolI w x y)) := by
 refine HasC.of [] (fn := Tryz.f28) tyOk mixed (fun args w => Tryz.call28 args w) Tryz.func28 rfl (by kernel_rfl) (Nat.le_of_ble_eq_true rfl) (⟨_, _, .inl rfl, rfl⟩) ?_
 refine vc_seqr rfl (iQ 3 (iE 77 [(0, .d (Sv w)), (4, .p 4 0), (5, .p 5 0), (6, .p 6 0)] [(4, [.bx (x).enc]), (5, [.bx (y).enc]), (6, [.v (.nilIface)])] ?_))
 refine vc_seqr rfl (iQ 1 (iC 49 [.agg [.bx (x).enc]] (some 14) (g_of (v := x)) ?_))
 rintro _ ⟨a0, a1, p0, p1, pa, ok, rfl, h1⟩
 refine iQ 6 (iE 77 [(0, .d (Sv w)), (5, .p 5 0), (6, .p 6 0), (7, .p 7 0), (8, Ba ok)] [(5, [.bx (y).enc]), (6, [.v (.nilIface)]), (7, [.bx (a0).enc, .bx (a1).enc, Bv p0, Bv p1, Bv pa])] ?_)
 refine vc_seqr rfl (iQ 1 (iC 49 [.agg [.bx (y).enc]] (some 19) (g_of (v := y)) ?_))
 rintro _ ⟨b0, b1, q0, q1, pb, fine, rfl, h2⟩
 obtain ⟨ha0, ha1⟩ := h1.ok ox
 obtain ⟨hb0, hb1⟩ := h2.ok oy
 refine iQ 6 (iE 77 [(0, .d (Sv w)), (6, .p 6 0), (7, .p 7 0), (8, Ba ok), (9, .p 9 0), (10, Ba fine)] [(6, [.v (.nilIface)]), (7, [.bx (a0).enc, .bx (a1).enc, Bv p0, Bv p1, Bv pa]), (9, [.bx (b0).enc, .bx (b1).enc, Bv q0, Bv q1, Bv pb])] ?_)
 refine vc_seqr rfl (iQ 1 (iC 50 [Sv w] (some 23) (g_points (w := w)) ?_))
 rintro _ rfl
 refine iQ 1 (iE 77 [(0, .d (Sv w)), (6, .p 6 0), (7, .p 7 0), (8, Ba ok), (9, .p 9 0), (10, Ba fine), (11, Ia (ptI w))] [(6, [.v (.nilIface)]), (7, [.bx (a0).enc, .bx (a1).enc, Bv p0, Bv p1, Bv pa]), (9, [.bx (b0).enc, .bx (b1).enc, Bv q0, Bv q1, Bv pb])] ?_)
 refine vc_seq (vc_seqr rfl (iQ 1 (iU .not (.bool ok) (some 25) ?_)))
 intro c25 hc25
 refine iQ 1 ?_
 cases c25
 ·replace hc25 := bf hc25
  refine iQ 1 (iU .not (.bool fine) (some 28) ?_)
  intro c28 hc28
  refine iQ 2 ?_
  cases c28
  ·replace hc28 := bf hc28
   refine iQ 3 ?_
   cases pa
   ·skip
    refine iQ 9 ?_
    cases pb
    ·skip
     refine iQ 7 (iB .eql 9 (.string w) (.string (⟨#[99, 111, 105, 110, 99, 105, 100, 101, 115]⟩)) (some 50) ?_)
     intro c50 hc50
     refine iQ 1 ?_
     cases c50
     ·replace hc50 := bf hc50
      refine iQ 9 (iB .neq 3 (.int .i64 (ptI w)) (.int .i64 3) (some 61) ?_)
      intro c61 hc61
      refine iQ 1 ?_
      cases c61
      ·replace hc61 := bf hc61
       refine iQ 8 (iE 77 [(0, .d (Sv w)), (6, .p 6 0), (7, .p 7 0), (9, .p 9 0), (70, Ba false)] [(6, [.v (.nilIface)]), (7, [.bx (a0).enc, .bx (a1).enc, Bv p0, Bv p1, Bv false]), (9, [.bx (b0).enc, .bx (b1).enc, Bv q0, Bv q1, Bv false])] ?_)
       refine iF (vc_skip (seq_n (vc_seqr rfl (iQ 3 (iC 51 [Sv w, .agg [.bx (a0).enc, .bx (a1).enc, Bv p0, Bv p1, Bv false], .agg [.bx (b0).enc, .bx (b1).enc, Bv q0, Bv q1, Bv false]] (some 75) (g_holds ha0 ha1 hb0 hb1) ?_)))))
       rintro _ rfl
       refine iC 13 [Iv (hV w a0 a1 p0 p1 b0 b1 q0 q1)] (some 76) (c_eValue (t := hV w a0 a1 p0 p1 b0 b1 q0 q1)) ?_
       rintro _ rfl
       refine iQ 1 (iE 77 [(0, .d (Sv w)), (6, .p 6 0), (7, .p 7 0), (9, .p 9 0), (70, Ba false)] [(6, [.bx (truthV (hV w a0 a1 p0 p1 b0 b1 q0 q1)).enc]), (7, [.bx (a0).enc, .bx (a1).enc, Bv p0, Bv p1, Bv false]), (9, [.bx (b0).enc, .bx (b1).enc, Bv q0, Bv q1, Bv false])] ?_)
       refine vc_ret (iR (.agg [.bx (truthV (hV w a0 a1 p0 p1 b0 b1 q0 q1)).enc]) ?_)
       exact hol_some h1 h2 (by simp [nullR, hc25, hc28, hc50, hc61])
      ·replace hc61 := bt hc61
       refine iQ 8 (iE 77 [(0, .d (Sv w)), (6, .p 6 0), (7, .p 7 0), (9, .p 9 0), (70, Ba false)] [(6, [.v (.nilIface)]), (7, [.bx (a0).enc, .bx (a1).enc, Bv p0, Bv p1, Bv false]), (9, [.bx (b0).enc, .bx (b1).enc, Bv q0, Bv q1, Bv false])] ?_)
       refine iF (vc_skip (seq_n (vc_seqr rfl (iQ 3 (iC 51 [Sv w, .agg [.bx (a0).enc, .bx (a1).enc, Bv p0, Bv p1, Bv false], .agg [.bx (b0).enc, .bx (b1).enc, Bv q0, Bv q1, Bv false]] (some 75) (g_holds ha0 ha1 hb0 hb1) ?_)))))
       rintro _ rfl
       refine iC 13 [Iv (hV w a0 a1 p0 p1 b0 b1 q0 q1)] (some 76) (c_eValue (t := hV w a0 a1 p0 p1 b0 b1 q0 q1)) ?_
       rintro _ rfl
       refine iQ 1 (iE 77 [(0, .d (Sv w)), (6, .p 6 0), (7, .p 7 0), (9, .p 9 0), (70, Ba false)] [(6, [.bx (truthV (hV w a0 a1 p0 p1 b0 b1 q0 q1)).enc]), (7, [.bx (a0).enc, .bx (a1).enc, Bv p0, Bv p1, Bv false]), (9, [.bx (b0).enc, .bx (b1).enc, Bv q0, Bv q1, Bv false])] ?_)
       refine vc_ret (iR (.agg [.bx (truthV (hV w a0 a1 p0 p1 b0 b1 q0 q1)).enc]) ?_)
       exact hol_some h1 h2 (by simp [nullR, hc25, hc28, hc50, hc61])
     ·replace hc50 := bt hc50
      refine iQ 4 (iB .neq 4 (.bool false) (.bool false) (some 56) ?_)
      refine all_false ((by simp)) ?_
      refine iQ 4 (iB .neq 3 (.int .i64 (ptI w)) (.int .i64 3) (some 61) ?_)
      intro c61 hc61
      refine iQ 1 ?_
      cases c61
      ·replace hc61 := bf hc61
       refine iQ 8 (iE 77 [(0, .d (Sv w)), (6, .p 6 0), (7, .p 7 0), (9, .p 9 0), (70, Ba false)] [(6, [.v (.nilIface)]), (7, [.bx (a0).enc, .bx (a1).enc, Bv p0, Bv p1, Bv false]), (9, [.bx (b0).enc, .bx (b1).enc, Bv q0, Bv q1, Bv false])] ?_)
       refine iF (vc_skip (seq_n (vc_seqr rfl (iQ 3 (iC 51 [Sv w, .agg [.bx (a0).enc, .bx (a1).enc, Bv p0, Bv p1, Bv false], .agg [.bx (b0).enc, .bx (b1).enc, Bv q0, Bv q1, Bv false]] (some 75) (g_holds ha0 ha1 hb0 hb1) ?_)))))
       rintro _ rfl
       refine iC 13 [Iv (hV w a0 a1 p0 p1 b0 b1 q0 q1)] (some 76) (c_eValue (t := hV w a0 a1 p0 p1 b0 b1 q0 q1)) ?_
       rintro _ rfl
       refine iQ 1 (iE 77 [(0, .d (Sv w)), (6, .p 6 0), (7, .p 7 0), (9, .p 9 0), (70, Ba false)] [(6, [.bx (truthV (hV w a0 a1 p0 p1 b0 b1 q0 q1)).enc]), (7, [.bx (a0).enc, .bx (a1).enc, Bv p0, Bv p1, Bv false]), (9, [.bx (b0).enc, .bx (b1).enc, Bv q0, Bv q1, Bv false])] ?_)
       refine vc_ret (iR (.agg [.bx (truthV (hV w a0 a1 p0 p1 b0 b1 q0 q1)).enc]) ?_)
       exact hol_some h1 h2 (by first | (simp [nullR, hc25, hc28, hc50]; done) | (simp [nullR, hc25, hc28, hc50]; decide) | (rw [hc50] at hc61; exact absurd (by decide) hc61))
      ·replace hc61 := bt hc61
       refine iQ 8 (iE 77 [(0, .d (Sv w)), (6, .p 6 0), (7, .p 7 0), (9, .p 9 0), (70, Ba false)] [(6, [.v (.nilIface)]), (7, [.bx (a0).enc, .bx (a1).enc, Bv p0, Bv p1, Bv false]), (9, [.bx (b0).enc, .bx (b1).enc, Bv q0, Bv q1, Bv false])] ?_)
       refine iF (vc_skip (seq_n (vc_seqr rfl (iQ 3 (iC 51 [Sv w, .agg [.bx (a0).enc, .bx (a1).enc, Bv p0, Bv p1, Bv false], .agg [.bx (b0).enc, .bx (b1).enc, Bv q0, Bv q1, Bv false]] (some 75) (g_holds ha0 ha1 hb0 hb1) ?_)))))
       rintro _ rfl
       refine iC 13 [Iv (hV w a0 a1 p0 p1 b0 b1 q0 q1)] (some 76) (c_eValue (t := hV w a0 a1 p0 p1 b0 b1 q0 q1)) ?_
       rintro _ rfl
       refine iQ 1 (iE 77 [(0, .d (Sv w)), (6, .p 6 0), (7, .p 7 0), (9, .p 9 0), (70, Ba false)] [(6, [.bx (truthV (hV w a0 a1 p0 p1 b0 b1 q0 q1)).enc]), (7, [.bx (a0).enc, .bx (a1).enc, Bv p0, Bv p1, Bv false]), (9, [.bx (b0).enc, .bx (b1).enc, Bv q0, Bv q1, Bv false])] ?_)
       refine vc_ret (iR (.agg [.bx (truthV (hV w a0 a1 p0 p1 b0 b1 q0 q1)).enc]) ?_)
       exact hol_some h1 h2 (by first | (simp [nullR, hc25, hc28, hc50]; done) | (simp [nullR, hc25, hc28, hc50]; decide) | (rw [hc50] at hc61; exact absurd (by decide) hc61))
    ·skip
     refine iQ 1 (iB .and 3 (.int .i64 (ptI w)) (.int .i64 2) (some 44) ?_)
     intro z44 hz44
     have e44 := pt_two (pt_cases w) hz44
     refine iB .eql 3 (.int .i64 z44) (.int .i64 0) (some 45) ?_
     intro c45 hc45
     refine iQ 3 ?_
     cases c45
     ·replace hc45 := bf hc45
      refine iQ 1 (iB .eql 9 (.string w) (.string (⟨#[99, 111, 105, 110, 99, 105, 100, 101, 115]⟩)) (some 50) ?_)
      rw [e44] at hc45
      intro c50 hc50
      refine iQ 1 ?_
      cases c50
      ·replace hc50 := bf hc50
       refine iQ 9 (iB .neq 3 (.int .i64 (ptI w)) (.int .i64 3) (some 61) ?_)
       intro c61 hc61
       refine iQ 1 ?_
       cases c61
       ·replace hc61 := bf hc61
        refine iQ 8 (iE 77 [(0, .d (Sv w)), (6, .p 6 0), (7, .p 7 0), (9, .p 9 0), (70, Ba false)] [(6, [.v (.nilIface)]), (7, [.bx (a0).enc, .bx (a1).enc, Bv p0, Bv p1, Bv false]), (9, [.bx (b0).enc, .bx (b1).enc, Bv q0, Bv q1, Bv true])] ?_)
        refine iF (vc_skip (seq_n (vc_seqr rfl (iQ 3 (iC 51 [Sv w, .agg [.bx (a0).enc, .bx (a1).enc, Bv p0, Bv p1, Bv false], .agg [.bx (b0).enc, .bx (b1).enc, Bv q0, Bv q1, Bv true]] (some 75) (g_holds ha0 ha1 hb0 hb1) ?_)))))
        rintro _ rfl
        refine iC 13 [Iv (hV w a0 a1 p0 p1 b0 b1 q0 q1)] (some 76) (c_eValue (t := hV w a0 a1 p0 p1 b0 b1 q0 q1)) ?_
        rintro _ rfl
        refine iQ 1 (iE 77 [(0, .d (Sv w)), (6, .p 6 0), (7, .p 7 0), (9, .p 9 0), (70, Ba false)] [(6, [.bx (truthV (hV w a0 a1 p0 p1 b0 b1 q0 q1)).enc]), (7, [.bx (a0).enc, .bx (a1).enc, Bv p0, Bv p1, Bv false]), (9, [.bx (b0).enc, .bx (b1).enc, Bv q0, Bv q1, Bv true])] ?_)
        refine vc_ret (iR (.agg [.bx (truthV (hV w a0 a1 p0 p1 b0 b1 q0 q1)).enc]) ?_)
        exact hol_some h1 h2 (by simp [nullR, hc25, hc28, hc45, hc50, hc61])
       ·replace hc61 := bt hc61
        refine iQ 8 (iE 77 [(0, .d (Sv w)), (6, .p 6 0), (7, .p 7 0), (9, .p 9 0), (70, Ba false)] [(6, [.v (.nilIface)]), (7, [.bx (a0).enc, .bx (a1).enc, Bv p0, Bv p1, Bv false]), (9, [.bx (b0).enc, .bx (b1).enc, Bv q0, Bv q1, Bv true])] ?_)
        refine iF (vc_skip (seq_n (vc_seqr rfl (iQ 3 (iC 51 [Sv w, .agg [.bx (a0).enc, .bx (a1).enc, Bv p0, Bv p1, Bv false], .agg [.bx (b0).enc, .bx (b1).enc, Bv q0, Bv q1, Bv true]] (some 75) (g_holds ha0 ha1 hb0 hb1) ?_)))))
        rintro _ rfl
        refine iC 13 [Iv (hV w a0 a1 p0 p1 b0 b1 q0 q1)] (some 76) (c_eValue (t := hV w a0 a1 p0 p1 b0 b1 q0 q1)) ?_
        rintro _ rfl
        refine iQ 1 (iE 77 [(0, .d (Sv w)), (6, .p 6 0), (7, .p 7 0), (9, .p 9 0), (70, Ba false)] [(6, [.bx (truthV (hV w a0 a1 p0 p1 b0 b1 q0 q1)).enc]), (7, [.bx (a0).enc, .bx (a1).enc, Bv p0, Bv p1, Bv false]), (9, [.bx (b0).enc, .bx (b1).enc, Bv q0, Bv q1, Bv true])] ?_)
        refine vc_ret (iR (.agg [.bx (truthV (hV w a0 a1 p0 p1 b0 b1 q0 q1)).enc]) ?_)
        exact hol_some h1 h2 (by simp [nullR, hc25, hc28, hc45, hc50, hc61])
      ·replace hc50 := bt hc50
       refine iQ 4 (iB .neq 4 (.bool false) (.bool true) (some 56) ?_)
       refine all_true ((by simp)) ?_
       refine iQ 14 (iE 77 [(0, .d (Sv w)), (6, .p 6 0), (7, .p 7 0), (9, .p 9 0), (70, Ba true)] [(6, [.v (.nilIface)]), (7, [.bx (a0).enc, .bx (a1).enc, Bv p0, Bv p1, Bv false]), (9, [.bx (b0).enc, .bx (b1).enc, Bv q0, Bv q1, Bv true])] ?_)
       refine iT (vc_seqr rfl (iQ 2 (iE 77 [(0, .d (Sv w)), (6, .p 6 0), (7, .p 7 0), (9, .p 9 0), (70, Ba true)] [(6, [.v (.nilIface)]), (7, [.bx (a0).enc, .bx (a1).enc, Bv p0, Bv p1, Bv false]), (9, [.bx (b0).enc, .bx (b1).enc, Bv q0, Bv q1, Bv true])] ?_)))
       refine vc_ret (seq_r (iR (.agg [.v (.nilIface)]) ?_))
       exact hol_null h1 h2 (by simp [nullR, hc25, hc28, hc45, hc50])
     ·replace hc45 := bt hc45
      refine iQ 22 (iE 77 [(0, .d (Sv w)), (6, .p 6 0), (7, .p 7 0), (9, .p 9 0), (70, Ba true)] [(6, [.v (.nilIface)]), (7, [.bx (a0).enc, .bx (a1).enc, Bv p0, Bv p1, Bv false]), (9, [.bx (b0).enc, .bx (b1).enc, Bv q0, Bv q1, Bv true])] ?_)
      rw [e44] at hc45
      refine iT (vc_seqr rfl (iQ 2 (iE 77 [(0, .d (Sv w)), (6, .p 6 0), (7, .p 7 0), (9, .p 9 0), (70, Ba true)] [(6, [.v (.nilIface)]), (7, [.bx (a0).enc, .bx (a1).enc, Bv p0, Bv p1, Bv false]), (9, [.bx (b0).enc, .bx (b1).enc, Bv q0, Bv q1, Bv true])] ?_)))
      refine vc_ret (seq_r (iR (.agg [.v (.nilIface)]) ?_))
      exact hol_null h1 h2 (by simp [nullR, hc25, hc28, hc45])
   ·skip
    refine iQ 1 (iB .and 3 (.int .i64 (ptI w)) (.int .i64 1) (some 35) ?_)
    intro z35 hz35
    have e35 := pt_one (pt_cases w) hz35
    refine iB .eql 3 (.int .i64 z35) (.int .i64 0) (some 36) ?_
    intro c36 hc36
    refine iQ 3 ?_
    cases c36
    ·replace hc36 := bf hc36
     refine iQ 3 ?_
     rw [e35] at hc36
     cases pb
     ·skip
      refine iQ 7 (iB .eql 9 (.string w) (.string (⟨#[99, 111, 105, 110, 99, 105, 100, 101, 115]⟩)) (some 50) ?_)
      intro c50 hc50
      refine iQ 1 ?_
      cases c50
      ·replace hc50 := bf hc50
       refine iQ 9 (iB .neq 3 (.int .i64 (ptI w)) (.int .i64 3) (some 61) ?_)
       intro c61 hc61
       refine iQ 1 ?_
       cases c61
       ·replace hc61 := bf hc61
        refine iQ 8 (iE 77 [(0, .d (Sv w)), (6, .p 6 0), (7, .p 7 0), (9, .p 9 0), (70, Ba false)] [(6, [.v (.nilIface)]), (7, [.bx (a0).enc, .bx (a1).enc, Bv p0, Bv p1, Bv true]), (9, [.bx (b0).enc, .bx (b1).enc, Bv q0, Bv q1, Bv false])] ?_)
        refine iF (vc_skip (seq_n (vc_seqr rfl (iQ 3 (iC 51 [Sv w, .agg [.bx (a0).enc, .bx (a1).enc, Bv p0, Bv p1, Bv true], .agg [.bx (b0).enc, .bx (b1).enc, Bv q0, Bv q1, Bv false]] (some 75) (g_holds ha0 ha1 hb0 hb1) ?_)))))
        rintro _ rfl
        refine iC 13 [Iv (hV w a0 a1 p0 p1 b0 b1 q0 q1)] (some 76) (c_eValue (t := hV w a0 a1 p0 p1 b0 b1 q0 q1)) ?_
        rintro _ rfl
        refine iQ 1 (iE 77 [(0, .d (Sv w)), (6, .p 6 0), (7, .p 7 0), (9, .p 9 0), (70, Ba false)] [(6, [.bx (truthV (hV w a0 a1 p0 p1 b0 b1 q0 q1)).enc]), (7, [.bx (a0).enc, .bx (a1).enc, Bv p0, Bv p1, Bv true]), (9, [.bx (b0).enc, .bx (b1).enc, Bv q0, Bv q1, Bv false])] ?_)
        refine vc_ret (iR (.agg [.bx (truthV (hV w a0 a1 p0 p1 b0 b1 q0 q1)).enc]) ?_)
        exact hol_some h1 h2 (by simp [nullR, hc25, hc28, hc36, hc50, hc61])
       ·replace hc61 := bt hc61
        refine iQ 8 (iE 77 [(0, .d (Sv w)), (6, .p 6 0), (7, .p 7 0), (9, .p 9 0), (70, Ba false)] [(6, [.v (.nilIface)]), (7, [.bx (a0).enc, .bx (a1).enc, Bv p0, Bv p1, Bv true]), (9, [.bx (b0).enc, .bx (b1).enc, Bv q0, Bv q1, Bv false])] ?_)
        refine iF (vc_skip (seq_n (vc_seqr rfl (iQ 3 (iC 51 [Sv w, .agg [.bx (a0).enc, .bx (a1).enc, Bv p0, Bv p1, Bv true], .agg [.bx (b0).enc, .bx (b1).enc, Bv q0, Bv q1, Bv false]] (some 75) (g_holds ha0 ha1 hb0 hb1) ?_)))))
        rintro _ rfl
        refine iC 13 [Iv (hV w a0 a1 p0 p1 b0 b1 q0 q1)] (some 76) (c_eValue (t := hV w a0 a1 p0 p1 b0 b1 q0 q1)) ?_
        rintro _ rfl
        refine iQ 1 (iE 77 [(0, .d (Sv w)), (6, .p 6 0), (7, .p 7 0), (9, .p 9 0), (70, Ba false)] [(6, [.bx (truthV (hV w a0 a1 p0 p1 b0 b1 q0 q1)).enc]), (7, [.bx (a0).enc, .bx (a1).enc, Bv p0, Bv p1, Bv true]), (9, [.bx (b0).enc, .bx (b1).enc, Bv q0, Bv q1, Bv false])] ?_)
        refine vc_ret (iR (.agg [.bx (truthV (hV w a0 a1 p0 p1 b0 b1 q0 q1)).enc]) ?_)
        exact hol_some h1 h2 (by simp [nullR, hc25, hc28, hc36, hc50, hc61])
      ·replace hc50 := bt hc50
       refine iQ 4 (iB .neq 4 (.bool true) (.bool false) (some 56) ?_)
       refine all_true ((by simp)) ?_
       refine iQ 14 (iE 77 [(0, .d (Sv w)), (6, .p 6 0), (7, .p 7 0), (9, .p 9 0), (70, Ba true)] [(6, [.v (.nilIface)]), (7, [.bx (a0).enc, .bx (a1).enc, Bv p0, Bv p1, Bv true]), (9, [.bx (b0).enc, .bx (b1).enc, Bv q0, Bv q1, Bv false])] ?_)
       refine iT (vc_seqr rfl (iQ 2 (iE 77 [(0, .d (Sv w)), (6, .p 6 0), (7, .p 7 0), (9, .p 9 0), (70, Ba true)] [(6, [.v (.nilIface)]), (7, [.bx (a0).enc, .bx (a1).enc, Bv p0, Bv p1, Bv true]), (9, [.bx (b0).enc, .bx (b1).enc, Bv q0, Bv q1, Bv false])] ?_)))
       refine vc_ret (seq_r (iR (.agg [.v (.nilIface)]) ?_))
       exact hol_null h1 h2 (by simp [nullR, hc25, hc28, hc36, hc50])
     ·skip
      refine iQ 1 (iB .and 3 (.int .i64 (ptI w)) (.int .i64 2) (some 44) ?_)
      intro z44 hz44
      have e44 := pt_two (pt_cases w) hz44
      refine iB .eql 3 (.int .i64 z44) (.int .i64 0) (some 45) ?_
      intro c45 hc45
      refine iQ 3 ?_
      cases c45
      ·replace hc45 := bf hc45
       refine iQ 1 (iB .eql 9 (.string w) (.string (⟨#[99, 111, 105, 110, 99, 105, 100, 101, 115]⟩)) (some 50) ?_)
       rw [e44] at hc45
       intro c50 hc50
       refine iQ 1 ?_
       cases c50
       ·replace hc50 := bf hc50
        refine iQ 9 (iB .neq 3 (.int .i64 (ptI w)) (.int .i64 3) (some 61) ?_)
        intro c61 hc61
        refine iQ 1 ?_
        cases c61
        ·replace hc61 := bf hc61
         refine iQ 8 (iE 77 [(0, .d (Sv w)), (6, .p 6 0), (7, .p 7 0), (9, .p 9 0), (70, Ba false)] [(6, [.v (.nilIface)]), (7, [.bx (a0).enc, .bx (a1).enc, Bv p0, Bv p1, Bv true]), (9, [.bx (b0).enc, .bx (b1).enc, Bv q0, Bv q1, Bv true])] ?_)
         refine iF (vc_skip (seq_n (vc_seqr rfl (iQ 3 (iC 51 [Sv w, .agg [.bx (a0).enc, .bx (a1).enc, Bv p0, Bv p1, Bv true], .agg [.bx (b0).enc, .bx (b1).enc, Bv q0, Bv q1, Bv true]] (some 75) (g_holds ha0 ha1 hb0 hb1) ?_)))))
         rintro _ rfl
         refine iC 13 [Iv (hV w a0 a1 p0 p1 b0 b1 q0 q1)] (some 76) (c_eValue (t := hV w a0 a1 p0 p1 b0 b1 q0 q1)) ?_
         rintro _ rfl
         refine iQ 1 (iE 77 [(0, .d (Sv w)), (6, .p 6 0), (7, .p 7 0), (9, .p 9 0), (70, Ba false)] [(6, [.bx (truthV (hV w a0 a1 p0 p1 b0 b1 q0 q1)).enc]), (7, [.bx (a0).enc, .bx (a1).enc, Bv p0, Bv p1, Bv true]), (9, [.bx (b0).enc, .bx (b1).enc, Bv q0, Bv q1, Bv true])] ?_)
         refine vc_ret (iR (.agg [.bx (truthV (hV w a0 a1 p0 p1 b0 b1 q0 q1)).enc]) ?_)
         exact hol_some h1 h2 (by simp [nullR, hc25, hc28, hc36, hc45, hc50, hc61])
        ·replace hc61 := bt hc61
         refine iQ 8 (iE 77 [(0, .d (Sv w)), (6, .p 6 0), (7, .p 7 0), (9, .p 9 0), (70, Ba true)] [(6, [.v (.nilIface)]), (7, [.bx (a0).enc, .bx (a1).enc, Bv p0, Bv p1, Bv true]), (9, [.bx (b0).enc, .bx (b1).enc, Bv q0, Bv q1, Bv true])] ?_)
         refine iT (vc_seqr rfl (iQ 2 (iE 77 [(0, .d (Sv w)), (6, .p 6 0), (7, .p 7 0), (9, .p 9 0), (70, Ba true)] [(6, [.v (.nilIface)]), (7, [.bx (a0).enc, .bx (a1).enc, Bv p0, Bv p1, Bv true]), (9, [.bx (b0).enc, .bx (b1).enc, Bv q0, Bv q1, Bv true])] ?_)))
         refine vc_ret (seq_r (iR (.agg [.v (.nilIface)]) ?_))
         exact hol_null h1 h2 (by simp [nullR, hc25, hc28, hc36, hc45, hc50, hc61])
       ·replace hc50 := bt hc50
        refine iQ 4 (iB .neq 4 (.bool true) (.bool true) (some 56) ?_)
        refine all_false ((by simp)) ?_
        refine iQ 4 (iB .neq 3 (.int .i64 (ptI w)) (.int .i64 3) (some 61) ?_)
        intro c61 hc61
        refine iQ 1 ?_
        cases c61
        ·replace hc61 := bf hc61
         refine iQ 8 (iE 77 [(0, .d (Sv w)), (6, .p 6 0), (7, .p 7 0), (9, .p 9 0), (70, Ba false)] [(6, [.v (.nilIface)]), (7, [.bx (a0).enc, .bx (a1).enc, Bv p0, Bv p1, Bv true]), (9, [.bx (b0).enc, .bx (b1).enc, Bv q0, Bv q1, Bv true])] ?_)
         refine iF (vc_skip (seq_n (vc_seqr rfl (iQ 3 (iC 51 [Sv w, .agg [.bx (a0).enc, .bx (a1).enc, Bv p0, Bv p1, Bv true], .agg [.bx (b0).enc, .bx (b1).enc, Bv q0, Bv q1, Bv true]] (some 75) (g_holds ha0 ha1 hb0 hb1) ?_)))))
         rintro _ rfl
         refine iC 13 [Iv (hV w a0 a1 p0 p1 b0 b1 q0 q1)] (some 76) (c_eValue (t := hV w a0 a1 p0 p1 b0 b1 q0 q1)) ?_
         rintro _ rfl
         refine iQ 1 (iE 77 [(0, .d (Sv w)), (6, .p 6 0), (7, .p 7 0), (9, .p 9 0), (70, Ba false)] [(6, [.bx (truthV (hV w a0 a1 p0 p1 b0 b1 q0 q1)).enc]), (7, [.bx (a0).enc, .bx (a1).enc, Bv p0, Bv p1, Bv true]), (9, [.bx (b0).enc, .bx (b1).enc, Bv q0, Bv q1, Bv true])] ?_)
         refine vc_ret (iR (.agg [.bx (truthV (hV w a0 a1 p0 p1 b0 b1 q0 q1)).enc]) ?_)
         exact hol_some h1 h2 (by first | (simp [nullR, hc25, hc28, hc50]; done) | (simp [nullR, hc25, hc28, hc50]; decide) | (rw [hc50] at hc61; exact absurd (by decide) hc61))
        ·replace hc61 := bt hc61
         refine iQ 8 (iE 77 [(0, .d (Sv w)), (6, .p 6 0), (7, .p 7 0), (9, .p 9 0), (70, Ba true)] [(6, [.v (.nilIface)]), (7, [.bx (a0).enc, .bx (a1).enc, Bv p0, Bv p1, Bv true]), (9, [.bx (b0).enc, .bx (b1).enc, Bv q0, Bv q1, Bv true])] ?_)
         refine iT (vc_seqr rfl (iQ 2 (iE 77 [(0, .d (Sv w)), (6, .p 6 0), (7, .p 7 0), (9, .p 9 0), (70, Ba true)] [(6, [.v (.nilIface)]), (7, [.bx (a0).enc, .bx (a1).enc, Bv p0, Bv p1, Bv true]), (9, [.bx (b0).enc, .bx (b1).enc, Bv q0, Bv q1, Bv true])] ?_)))
         refine vc_ret (seq_r (iR (.agg [.v (.nilIface)]) ?_))
         exact hol_null h1 h2 (by first | (simp [nullR, hc25, hc28, hc50]; done) | (simp [nullR, hc25, hc28, hc50]; decide) | (rw [hc50] at hc61; exact absurd (by decide) hc61))
      ·replace hc45 := bt hc45
       refine iQ 22 (iE 77 [(0, .d (Sv w)), (6, .p 6 0), (7, .p 7 0), (9, .p 9 0), (70, Ba true)] [(6, [.v (.nilIface)]), (7, [.bx (a0).enc, .bx (a1).enc, Bv p0, Bv p1, Bv true]), (9, [.bx (b0).enc, .bx (b1).enc, Bv q0, Bv q1, Bv true])] ?_)
       rw [e44] at hc45
       refine iT (vc_seqr rfl (iQ 2 (iE 77 [(0, .d (Sv w)), (6, .p 6 0), (7, .p 7 0), (9, .p 9 0), (70, Ba true)] [(6, [.v (.nilIface)]), (7, [.bx (a0).enc, .bx (a1).enc, Bv p0, Bv p1, Bv true]), (9, [.bx (b0).enc, .bx (b1).enc, Bv q0, Bv q1, Bv true])] ?_)))
       refine vc_ret (seq_r (iR (.agg [.v (.nilIface)]) ?_))
       exact hol_null h1 h2 (by simp [nullR, hc25, hc28, hc36, hc45])
    ·replace hc36 := bt hc36
     refine iQ 31 (iE 77 [(0, .d (Sv w)), (6, .p 6 0), (7, .p 7 0), (9, .p 9 0), (70, Ba true)] [(6, [.v (.nilIface)]), (7, [.bx (a0).enc, .bx (a1).enc, Bv p0, Bv p1, Bv true]), (9, [.bx (b0).enc, .bx (b1).enc, Bv q0, Bv q1, Bv pb])] ?_)
     rw [e35] at hc36
     refine iT (vc_seqr rfl (iQ 2 (iE 77 [(0, .d (Sv w)), (6, .p 6 0), (7, .p 7 0), (9, .p 9 0), (70, Ba true)] [(6, [.v (.nilIface)]), (7, [.bx (a0).enc, .bx (a1).enc, Bv p0, Bv p1, Bv true]), (9, [.bx (b0).enc, .bx (b1).enc, Bv q0, Bv q1, Bv pb])] ?_)))
     refine vc_ret (seq_r (iR (.agg [.v (.nilIface)]) ?_))
     exact hol_null h1 h2 (by simp [nullR, hc25, hc28, hc36])
  ·replace hc28 := bt hc28
   refine iQ 40 (iE 77 [(0, .d (Sv w)), (6, .p 6 0), (7, .p 7 0), (9, .p 9 0), (70, Ba true)] [(6, [.v (.nilIface)]), (7, [.bx (a0).enc, .bx (a1).enc, Bv p0, Bv p1, Bv pa]), (9, [.bx (b0).enc, .bx (b1).enc, Bv q0, Bv q1, Bv pb])] ?_)
   refine iT (vc_seqr rfl (iQ 2 (iE 77 [(0, .d (Sv w)), (6, .p 6 0), (7, .p 7 0), (9, .p 9 0), (70, Ba true)] [(6, [.v (.nilIface)]), (7, [.bx (a0).enc, .bx (a1).enc, Bv p0, Bv p1, Bv pa]), (9, [.bx (b0).enc, .bx (b1).enc, Bv q0, Bv q1, Bv pb])] ?_)))
   refine vc_ret (seq_r (iR (.agg [.v (.nilIface)]) ?_))
   exact hol_null h1 h2 (by simp [nullR, hc25, hc28])
 ·replace hc25 := bt hc25
  refine iQ 44 (iE 77 [(0, .d (Sv w)), (6, .p 6 0), (7, .p 7 0), (9, .p 9 0), (70, Ba true)] [(6, [.v (.nilIface)]), (7, [.bx (a0).enc, .bx (a1).enc, Bv p0, Bv p1, Bv pa]), (9, [.bx (b0).enc, .bx (b1).enc, Bv q0, Bv q1, Bv pb])] ?_)
  refine iT (vc_seqr rfl (iQ 2 (iE 77 [(0, .d (Sv w)), (6, .p 6 0), (7, .p 7 0), (9, .p 9 0), (70, Ba true)] [(6, [.v (.nilIface)]), (7, [.bx (a0).enc, .bx (a1).enc, Bv p0, Bv p1, Bv pa]), (9, [.bx (b0).enc, .bx (b1).enc, Bv q0, Bv q1, Bv pb])] ?_)))
  refine vc_ret (seq_r (iR (.agg [.v (.nilIface)]) ?_))
  exact hol_null h1 h2 (by simp [nullR, hc25])
theorem g_Holds {w : ByteArray} {x y : Vl} (ox : x.ok) (oy : y.ok) : HasC Tryz.prog 28 [.v (.string w), VV x, VV y] (fun r => r = VV (truthV (HolI w x y))) := (v_Holds ox oy).isV.mono fun r ⟨v, h1, h2⟩ => by rw [h1, h2]
def yesI : Vl → Int
  | .bool b => if b = true then 1 else 0
  | _ => -1
theorem yes_no {v : Vl} (h : false = (boolOf v).2) : DV.v (.int .i64 (-1)) = .v (.int .i64 (yesI v)) := by
  cases v
  case bool b => cases h
  all_goals rfl
theorem yes_is {v : Vl} {x : Bool} (h1 : x = (boolOf v).1) (h2 : true = (boolOf v).2) : DV.v (.int .i64 (if x = true then 1 else 0)) = .v (.int .i64 (yesI v)) := by
  cases v
  case bool b => rw [h1]; rfl
  all_goals cases h2
theorem g_yes {v : Vl} : HasC Tryz.prog 27 [.agg [.bx (v).enc]] (fun r => r = .v (.int .i64 (yesI v))) := by
 refine HasC.of [] (fn := Tryz.f27) tyOk mixed (fun args w => Tryz.call27 args w) Tryz.func27 rfl (by kernel_rfl) (Nat.le_of_ble_eq_true rfl) (⟨_, rfl⟩) ?_
 refine vc_seqr rfl (iQ 2 (iE 13 [(1, .p 1 0), (2, Ia 0)] [(1, [.bx (v).enc])] ?_))
 refine vc_seqr rfl (iQ 1 (iC 37 [.agg [.bx (v).enc]] (some 7) (c_AsBoolX (v := v)) ?_))
 rintro _ ⟨x, ok, rfl, h1, h2⟩
 refine iQ 5 (iE 13 [(2, Ia 0), (3, Ba x), (4, Ba ok)] [] ?_)
 refine vc_seq (vc_seqr rfl (iQ 1 (iU .not (.bool ok) (some 11) ?_)))
 intro c11 hc11
 refine iE 13 [(2, Ia 0), (3, Ba x), (11, Ba c11)] [] ?_
 cases c11
 ·replace hc11 := bf hc11
  refine iF (vc_skip (seq_n (vc_seq (vc_seqr rfl (iQ 1 (iE 13 [(2, Ia 0), (11, Ba false), (12, Ba x)] [] ?_))))))
  cases x
  ·skip
   refine iF (vc_skip (seq_n (vc_seqr rfl (iQ 1 (iE 13 [(2, Ia 0), (11, Ba false), (12, Ba false)] [] ?_)))))
   refine vc_ret (iR (Iv 0) ?_)
   exact yes_is h1 (by rw [← h2]; cases ok; exact absurd rfl hc11; rfl)
  ·skip
   refine iT (vc_seqr rfl (iQ 1 (iE 13 [(2, Ia 1), (11, Ba false), (12, Ba true)] [] ?_)))
   refine vc_ret (seq_r (iR (Iv 1) ?_))
   exact yes_is h1 (by rw [← h2]; cases ok; exact absurd rfl hc11; rfl)
 ·replace hc11 := bt hc11
  refine iT (vc_seqr rfl (iQ 1 (iE 13 [(2, Ia (-1)), (3, Ba x), (11, Ba true)] [] ?_)))
  refine vc_ret (seq_r (iR (Iv (-1)) ?_))
  exact yes_no (by rw [← h2]; exact hc11.symm)


open Go.RowKit
set_option linter.unusedVariables false
set_option linter.unusedSimpArgs false
set_option maxRecDepth 100000

theorem ei_ints (x y : Int) (m : Bool) : eiI (intV x) (intV y) m = notI (andI (notI (ofI (decide (cmpI x y < 0)))) (notI (andI (ofI (decide (cmpI x y = 0))) (ofI m)))) := by
  unfold eiI lessI sameI
  rw [ord_ints]
theorem same_ints (x y : Int) : sameI (intV x) (intV y) = ofI (decide (cmpI x y = 0)) := by
  unfold sameI
  rw [ord_ints]
theorem yes_truth {t : Int} (h : Tri t) : yesI (truthV t) = t - 1 := by rcases h with rfl | rfl | rfl <;> rfl
abbrev rgV (x y : Int) (p q : Bool) : Vl := .rng (intV x) (intV y) p q
theorem rg_range (x y : Int) (p q : Bool) : rangeV (intV x) (intV y) p q = rgV x y p q := by
  rw [rangeV, if_pos (by unfold RgOk; simp [intV, Vl.kindI])]
  simp [intV, Vl.nullB]
theorem rg_ok {x y : Int} (p q : Bool) (hx : -1000 ≤ x ∧ x ≤ 1000) (hy : -1000 ≤ y ∧ y ≤ 1000) : (rgV x y p q).ok := by
  rw [← rg_range]
  exact range_ok (okA x hx) (okA y hy)
theorem g_span {x y : Int} {p q : Bool} (hx : -1000 ≤ x ∧ x ≤ 1000) (hy : -1000 ≤ y ∧ y ≤ 1000) : HasC Tryz.prog 48 [.v (.int .i64 x), .v (.int .i64 y), .v (.bool p), .v (.bool q)] (fun r => r = VV (rgV x y p q)) := by
 refine HasC.of [] (fn := Tryz.f48) tyOk mixed (fun args w => Tryz.call48 args w) Tryz.func48 rfl (by kernel_rfl) (Nat.le_of_ble_eq_true rfl) (⟨_, rfl⟩) ?_
 refine vc_seqr rfl (iQ 1 (iE 17 [(0, Ia x), (1, Ia y), (2, Ba p), (3, Ba q), (8, .p 8 0)] [(8, [.v (.nilIface)])] ?_))
 refine vc_seqr rfl (iQ 1 (iC 17 [Iv x] (some 10) (c_vInt (x := x) (by omega) (by omega)) ?_))
 rintro _ rfl
 refine iQ 1 (iC 17 [Iv y] (some 12) (c_vInt (x := y) (by omega) (by omega)) ?_)
 rintro _ rfl
 refine iQ 3 (iC 20 [.agg [.bx (intV x).enc], .agg [.bx (intV y).enc], .agg [Bv p, Bv q]] (some 16) (c_vRange (lo := intV x) (hi := intV y) (p := p) (q := q)) ?_)
 rintro _ rfl
 refine iQ 1 (iE 17 [(8, .p 8 0)] [(8, [.bx (rangeV (intV x) (intV y) p q).enc])] ?_)
 refine vc_ret (iR (.agg [.bx (rangeV (intV x) (intV y) p q).enc]) ?_)
 rw [← rg_range]
theorem aw23_0 : yesI (truthV (HolI w_before (intV 1) (rgV 2 3 true true))) = 1 := by
  have h : HolI w_before (intV 1) (rgV 2 3 true true) = 2 := by
    rw [HolI, hol, if_neg (by decide), hV_before rfl]
    show eiI (intV 1) (intV 2) (!true || !true) = 2
    rw [ei_ints]; decide
  rw [h]
  rfl
theorem aw23_1 : yesI (truthV (HolI w_before (rgV 1 2 true false) (rgV 2 3 true true))) = 1 := by
  have h : HolI w_before (rgV 1 2 true false) (rgV 2 3 true true) = 2 := by
    rw [HolI, hol, if_neg (by decide), hV_before rfl]
    show eiI (intV 2) (intV 2) (!false || !true) = 2
    rw [ei_ints]; decide
  rw [h]
  rfl
theorem aw23_2 : yesI (truthV (HolI w_meets (rgV 1 2 true true) (rgV 2 3 true true))) = 1 := by
  have h : HolI w_meets (rgV 1 2 true true) (rgV 2 3 true true) = 2 := by
    rw [HolI, hol, if_neg (by decide), hV_meets rfl]
    show andI (sameI (intV 2) (intV 2)) (ofI (true && true)) = 2
    rw [same_ints]; decide
  rw [h]
  rfl
theorem aw23_3 : yesI (truthV (HolI w_includes (rgV 1 5 true true) (intV 5))) = 1 := by
  have h : HolI w_includes (rgV 1 5 true true) (intV 5) = 2 := by
    rw [HolI, hol, if_neg (by decide), hV_includes rfl]
    show andI (eiI (intV 1) (intV 5) (true || !true)) (eiI (intV 5) (intV 5) (true || !true)) = 2
    rw [ei_ints, ei_ints]; decide
  rw [h]
  rfl
theorem aw23_4 : yesI (truthV (HolI w_during (intV 1) (rgV 1 5 false true))) = 0 := by
  have h : HolI w_during (intV 1) (rgV 1 5 false true) = 1 := by
    rw [HolI, hol, if_neg (by decide), hV_during rfl]
    show andI (eiI (intV 1) (intV 1) (false || !true)) (eiI (intV 1) (intV 5) (true || !true)) = 1
    rw [ei_ints, ei_ints]; decide
  rw [h]
  rfl
theorem aw23_5 : yesI (truthV (HolI w_before (intV 1) (.text [97]))) = -1 := by
  have h : HolI w_before (intV 1) (.text [97]) = 0 := by
    rw [HolI, hol, if_neg (by decide), hV_before rfl]
    show eiI (intV 1) (.text [97]) (!true || !true) = 0
    unfold eiI lessI sameI
    rw [show ordV (intV 1) (.text [97]) = none from rfl]
    decide
  rw [h]
  rfl
set_option maxHeartbeats 3200000 in
theorem g_awake  : HasC Tryz.prog 25 [] (fun r => r = .v (.bool true)) := by
 refine HasC.of [] (fn := Tryz.f25) tyOk mixed (fun args w => Tryz.call25 args w) Tryz.func25 rfl (by kernel_rfl) (Nat.le_of_ble_eq_true rfl) (⟨_, rfl⟩) ?_
 refine vc_seqr rfl (iQ 1 (iE 43 [(0, Ba false)] [] ?_))
 refine vc_seqr rfl (iC 17 [Iv 1] (some 2) (c_vInt (x := 1) (by decide) (by decide)) ?_)
 rintro _ rfl
 refine iQ 2 (iE 43 [(0, Ba false), (1, .p 1 0)] [(1, [.bx (intV 1).enc])] ?_)
 refine vc_seqr rfl (iQ 1 (iC 48 [Iv 2, Iv 3, Bv true, Bv true] (some 4) (g_span (x := 2) (y := 3) (p := true) (q := true) (by decide) (by decide)) ?_))
 rintro _ rfl
 refine iC 28 [Sv (⟨#[98, 101, 102, 111, 114, 101]⟩), .agg [.bx (intV 1).enc], .agg [.bx (rgV 2 3 true true).enc]] (some 5) (g_Holds (w := w_before) (x := intV 1) (y := rgV 2 3 true true) (okA 1 (by decide)) (rg_ok true true (by decide) (by decide))) ?_
 rintro _ rfl
 refine iC 27 [.agg [.bx (truthV (HolI w_before (intV 1) (rgV 2 3 true true))).enc]] (some 6) (g_yes (v := truthV (HolI w_before (intV 1) (rgV 2 3 true true)))) ?_
 rintro _ rfl
 refine iB .eql 3 (.int .i64 (yesI (truthV (HolI w_before (intV 1) (rgV 2 3 true true))))) (.int .i64 1) (some 7) ?_
 refine all_true (aw23_0) ?_
 refine iQ 1 (iC 48 [Iv 1, Iv 2, Bv true, Bv false] (some 9) (g_span (x := 1) (y := 2) (p := true) (q := false) (by decide) (by decide)) ?_)
 rintro _ rfl
 refine iC 48 [Iv 2, Iv 3, Bv true, Bv true] (some 10) (g_span (x := 2) (y := 3) (p := true) (q := true) (by decide) (by decide)) ?_
 rintro _ rfl
 refine iC 28 [Sv (⟨#[98, 101, 102, 111, 114, 101]⟩), .agg [.bx (rgV 1 2 true false).enc], .agg [.bx (rgV 2 3 true true).enc]] (some 11) (g_Holds (w := w_before) (x := rgV 1 2 true false) (y := rgV 2 3 true true) (rg_ok true false (by decide) (by decide)) (rg_ok true true (by decide) (by decide))) ?_
 rintro _ rfl
 refine iC 27 [.agg [.bx (truthV (HolI w_before (rgV 1 2 true false) (rgV 2 3 true true))).enc]] (some 12) (g_yes (v := truthV (HolI w_before (rgV 1 2 true false) (rgV 2 3 true true)))) ?_
 rintro _ rfl
 refine iB .eql 3 (.int .i64 (yesI (truthV (HolI w_before (rgV 1 2 true false) (rgV 2 3 true true))))) (.int .i64 1) (some 13) ?_
 refine all_true (aw23_1) ?_
 refine iQ 2 (iC 48 [Iv 1, Iv 2, Bv true, Bv true] (some 16) (g_span (x := 1) (y := 2) (p := true) (q := true) (by decide) (by decide)) ?_)
 rintro _ rfl
 refine iC 48 [Iv 2, Iv 3, Bv true, Bv true] (some 17) (g_span (x := 2) (y := 3) (p := true) (q := true) (by decide) (by decide)) ?_
 rintro _ rfl
 refine iC 28 [Sv (⟨#[109, 101, 101, 116, 115]⟩), .agg [.bx (rgV 1 2 true true).enc], .agg [.bx (rgV 2 3 true true).enc]] (some 18) (g_Holds (w := w_meets) (x := rgV 1 2 true true) (y := rgV 2 3 true true) (rg_ok true true (by decide) (by decide)) (rg_ok true true (by decide) (by decide))) ?_
 rintro _ rfl
 refine iC 27 [.agg [.bx (truthV (HolI w_meets (rgV 1 2 true true) (rgV 2 3 true true))).enc]] (some 19) (g_yes (v := truthV (HolI w_meets (rgV 1 2 true true) (rgV 2 3 true true)))) ?_
 rintro _ rfl
 refine iB .eql 3 (.int .i64 (yesI (truthV (HolI w_meets (rgV 1 2 true true) (rgV 2 3 true true))))) (.int .i64 1) (some 20) ?_
 refine all_true (aw23_2) ?_
 refine iQ 2 (iC 48 [Iv 1, Iv 5, Bv true, Bv true] (some 23) (g_span (x := 1) (y := 5) (p := true) (q := true) (by decide) (by decide)) ?_)
 rintro _ rfl
 refine iC 17 [Iv 5] (some 24) (c_vInt (x := 5) (by decide) (by decide)) ?_
 rintro _ rfl
 refine iC 28 [Sv (⟨#[105, 110, 99, 108, 117, 100, 101, 115]⟩), .agg [.bx (rgV 1 5 true true).enc], .agg [.bx (intV 5).enc]] (some 25) (g_Holds (w := w_includes) (x := rgV 1 5 true true) (y := intV 5) (rg_ok true true (by decide) (by decide)) (okA 5 (by decide))) ?_
 rintro _ rfl
 refine iC 27 [.agg [.bx (truthV (HolI w_includes (rgV 1 5 true true) (intV 5))).enc]] (some 26) (g_yes (v := truthV (HolI w_includes (rgV 1 5 true true) (intV 5)))) ?_
 rintro _ rfl
 refine iB .eql 3 (.int .i64 (yesI (truthV (HolI w_includes (rgV 1 5 true true) (intV 5))))) (.int .i64 1) (some 27) ?_
 refine all_true (aw23_3) ?_
 refine iQ 3 (iC 48 [Iv 1, Iv 5, Bv false, Bv true] (some 31) (g_span (x := 1) (y := 5) (p := false) (q := true) (by decide) (by decide)) ?_)
 rintro _ rfl
 refine iC 28 [Sv (⟨#[100, 117, 114, 105, 110, 103]⟩), .agg [.bx (intV 1).enc], .agg [.bx (rgV 1 5 false true).enc]] (some 32) (g_Holds (w := w_during) (x := intV 1) (y := rgV 1 5 false true) (okA 1 (by decide)) (rg_ok false true (by decide) (by decide))) ?_
 rintro _ rfl
 refine iC 27 [.agg [.bx (truthV (HolI w_during (intV 1) (rgV 1 5 false true))).enc]] (some 33) (g_yes (v := truthV (HolI w_during (intV 1) (rgV 1 5 false true)))) ?_
 rintro _ rfl
 refine iB .eql 3 (.int .i64 (yesI (truthV (HolI w_during (intV 1) (rgV 1 5 false true))))) (.int .i64 0) (some 34) ?_
 refine all_true (aw23_4) ?_
 refine iQ 3 (iC 34 [Sv (⟨#[97]⟩)] (some 38) (c_vTextE (l := [97]) (s := ⟨#[97]⟩) rfl (by decide)) ?_)
 rintro _ rfl
 refine iC 28 [Sv (⟨#[98, 101, 102, 111, 114, 101]⟩), .agg [.bx (intV 1).enc], .agg [.bx (Vl.text [97]).enc]] (some 39) (g_Holds (w := w_before) (x := intV 1) (y := .text [97]) (okA 1 (by decide)) (okT [97] (by decide))) ?_
 rintro _ rfl
 refine iC 27 [.agg [.bx (truthV (HolI w_before (intV 1) (.text [97]))).enc]] (some 40) (g_yes (v := truthV (HolI w_before (intV 1) (.text [97])))) ?_
 rintro _ rfl
 refine iB .eql 3 (.int .i64 (yesI (truthV (HolI w_before (intV 1) (.text [97]))))) (.int .i64 (-1)) (some 41) ?_
 refine all_true (aw23_5) ?_
 refine iQ 2 (iE 43 [(0, Ba true), (1, .p 1 0)] [(1, [.bx (intV 1).enc])] ?_)
 refine vc_ret (iR (Bv true) ?_)
 rfl
def words : List ByteArray := [w_before, w_after, w_meets, w_met_by, w_overlaps, w_overlaps_before, w_overlaps_after, w_finishes, w_finished_by, w_includes, w_during, w_starts, w_started_by, w_coincides]
def pairs : List ByteArray := [w_before, w_after, w_meets, w_met_by, w_overlaps_before, w_overlaps_after, w_finishes, w_finished_by, w_includes, w_during, w_starts, w_started_by, w_overlaps, w_overlaps, w_coincides, w_coincides]
def wk (k : Nat) : ByteArray := words.getD k w_before
def pk (k : Nat) : ByteArray := pairs.getD k w_before
def wds : List DV := words.map fun w => .v (.string w)
def pds : List DV := pairs.map fun w => .v (.string w)
theorem wk_get {k : Nat} {c : Int} (e : c = k) (h : k < 14) : wds[c.toNat]? = some (.v (.string (wk k))) := by
  subst e
  have e : words[k]? = some words[k] := List.getElem?_eq_getElem h
  rw [wds, List.getElem?_map, Int.toNat_natCast, wk, List.getD_eq_getElem?_getD, e]
  rfl
theorem pk_get {k : Nat} {c : Int} (e : c = k) (h : k < 16) : pds[c.toNat]? = some (.v (.string (pk k))) := by
  subst e
  have e : pairs[k]? = some pairs[k] := List.getElem?_eq_getElem h
  rw [pds, List.getElem?_map, Int.toNat_natCast, pk, List.getD_eq_getElem?_getD, e]
  rfl
theorem g_words  : HasC Tryz.prog 26 [] (fun r => r = .sl 14 wds) := by
 refine HasC.of [] (fn := Tryz.f26) tyOk mixed (fun args w => Tryz.call26 args w) Tryz.func26 rfl (by kernel_rfl) (Nat.le_of_ble_eq_true rfl) (⟨_, rfl⟩) ?_
 refine vc_seqr rfl (iQ 1 (iE 2 [(0, .w (.sl 0 []) none)] [] ?_))
 refine vc_seqr rfl (iQ 2 (iE 2 [(0, .w (.sl 14 [.v (.string (⟨#[98, 101, 102, 111, 114, 101]⟩)), .v (.string (⟨#[97, 102, 116, 101, 114]⟩)), .v (.string (⟨#[109, 101, 101, 116, 115]⟩)), .v (.string (⟨#[109, 101, 116, 32, 98, 121]⟩)), .v (.string (⟨#[111, 118, 101, 114, 108, 97, 112, 115]⟩)), .v (.string (⟨#[111, 118, 101, 114, 108, 97, 112, 115, 32, 98, 101, 102, 111, 114, 101]⟩)), .v (.string (⟨#[111, 118, 101, 114, 108, 97, 112, 115, 32, 97, 102, 116, 101, 114]⟩)), .v (.string (⟨#[102, 105, 110, 105, 115, 104, 101, 115]⟩)), .v (.string (⟨#[102, 105, 110, 105, 115, 104, 101, 100, 32, 98, 121]⟩)), .v (.string (⟨#[105, 110, 99, 108, 117, 100, 101, 115]⟩)), .v (.string (⟨#[100, 117, 114, 105, 110, 103]⟩)), .v (.string (⟨#[115, 116, 97, 114, 116, 115]⟩)), .v (.string (⟨#[115, 116, 97, 114, 116, 101, 100, 32, 98, 121]⟩)), .v (.string (⟨#[99, 111, 105, 110, 99, 105, 100, 101, 115]⟩))]) none)] [] ?_))
 refine vc_ret (iR (.sl 14 [.v (.string (⟨#[98, 101, 102, 111, 114, 101]⟩)), .v (.string (⟨#[97, 102, 116, 101, 114]⟩)), .v (.string (⟨#[109, 101, 101, 116, 115]⟩)), .v (.string (⟨#[109, 101, 116, 32, 98, 121]⟩)), .v (.string (⟨#[111, 118, 101, 114, 108, 97, 112, 115]⟩)), .v (.string (⟨#[111, 118, 101, 114, 108, 97, 112, 115, 32, 98, 101, 102, 111, 114, 101]⟩)), .v (.string (⟨#[111, 118, 101, 114, 108, 97, 112, 115, 32, 97, 102, 116, 101, 114]⟩)), .v (.string (⟨#[102, 105, 110, 105, 115, 104, 101, 115]⟩)), .v (.string (⟨#[102, 105, 110, 105, 115, 104, 101, 100, 32, 98, 121]⟩)), .v (.string (⟨#[105, 110, 99, 108, 117, 100, 101, 115]⟩)), .v (.string (⟨#[100, 117, 114, 105, 110, 103]⟩)), .v (.string (⟨#[115, 116, 97, 114, 116, 115]⟩)), .v (.string (⟨#[115, 116, 97, 114, 116, 101, 100, 32, 98, 121]⟩)), .v (.string (⟨#[99, 111, 105, 110, 99, 105, 100, 101, 115]⟩))]) ?_)
 rfl
theorem andI_comm (x y : Int) : andI x y = andI y x := by unfold andI; simp only [or_comm, and_comm]
theorem sameI_symm (a b : Vl) : sameI a b = sameI b a := by
  unfold sameI
  rw [ord_swap a b]
  cases ordV a b with
  | none => rfl
  | some c =>
    simp only [Option.map_some]
    congr 1
    simp only [decide_eq_decide]
    omega
theorem beq_symm (p q : Bool) : (p == q) = (q == p) := by cases p <;> cases q <;> rfl
theorem tri_ei (a b : Vl) (m : Bool) : Tri (eiI a b m) := by unfold eiI; exact tri_not _
theorem tri_ite {c : Prop} [Decidable c] {x y : Int} (h1 : Tri x) (h2 : Tri y) : Tri (if c then x else y) := by split <;> assumption
theorem tri_hV (w : ByteArray) (a0 a1 : Vl) (p0 p1 : Bool) (b0 b1 : Vl) (q0 q1 : Bool) : Tri (hV w a0 a1 p0 p1 b0 b1 q0 q1) := by
  unfold hV
  repeat refine tri_ite (by first | exact tri_ei .. | exact tri_and ..) ?_
  exact .inl rfl
theorem tri_hol (w : ByteArray) (x y : Vl) : Tri (HolI w x y) := by
  unfold HolI hol
  split
  · exact .inl rfl
  · exact tri_hV ..
theorem hol_fits {w : ByteArray} {x y : Vl} (h : yesI (truthV (HolI w x y)) ≥ 0) : okS x = true ∧ okS y = true := by
  rw [yes_truth (tri_hol w x y)] at h
  by_cases hn : nullR w (okS x) (okS y) (ptS x) (ptS y) = true
  · rw [HolI, hol, if_pos hn] at h
    omega
  · have hn : nullR w (okS x) (okS y) (ptS x) (ptS y) = false := by simpa using hn
    unfold nullR at hn
    simp only [Bool.or_eq_false_iff, Bool.not_eq_false'] at hn
    exact ⟨hn.1.1.1.1.1, hn.1.1.1.1.2⟩
theorem hol_none {s : ByteArray} {x y : Vl} (h : ∀ j, j < 14 → wk j ≠ s) : HolI s x y = 0 := by
  unfold HolI hol
  split
  · rfl
  · exact hV_none (fun e => h 0 (by decide) e.symm) (fun e => h 1 (by decide) e.symm) (fun e => h 2 (by decide) e.symm) (fun e => h 3 (by decide) e.symm) (fun e => h 4 (by decide) e.symm) (fun e => h 5 (by decide) e.symm) (fun e => h 6 (by decide) e.symm) (fun e => h 7 (by decide) e.symm) (fun e => h 8 (by decide) e.symm) (fun e => h 9 (by decide) e.symm) (fun e => h 10 (by decide) e.symm) (fun e => h 11 (by decide) e.symm) (fun e => h 12 (by decide) e.symm) (fun e => h 13 (by decide) e.symm)
theorem nr_before : ∀ ok fine pa pb : Bool, nullR w_before ok fine pa pb = nullR w_after fine ok pb pa := by decide
theorem turn_before (x y : Vl) : HolI w_before x y = HolI w_after y x := by
  unfold HolI hol
  rw [nr_before]
  split
  · rfl
  · rw [hV_before rfl, hV_after rfl]
theorem nr_meets : ∀ ok fine pa pb : Bool, nullR w_meets ok fine pa pb = nullR w_met_by fine ok pb pa := by decide
theorem turn_meets (x y : Vl) : HolI w_meets x y = HolI w_met_by y x := by
  unfold HolI hol
  rw [nr_meets]
  split
  · rfl
  · rw [hV_meets rfl, hV_met_by rfl]
theorem nr_overlaps_before : ∀ ok fine pa pb : Bool, nullR w_overlaps_before ok fine pa pb = nullR w_overlaps_after fine ok pb pa := by decide
theorem turn_overlaps_before (x y : Vl) : HolI w_overlaps_before x y = HolI w_overlaps_after y x := by
  unfold HolI hol
  rw [nr_overlaps_before]
  split
  · rfl
  · rw [hV_overlaps_before rfl, hV_overlaps_after rfl]
theorem nr_finishes : ∀ ok fine pa pb : Bool, nullR w_finishes ok fine pa pb = nullR w_finished_by fine ok pb pa := by decide
theorem turn_finishes (x y : Vl) : HolI w_finishes x y = HolI w_finished_by y x := by
  unfold HolI hol
  rw [nr_finishes]
  split
  · rfl
  · rw [hV_finishes rfl, hV_finished_by rfl]
theorem nr_includes : ∀ ok fine pa pb : Bool, nullR w_includes ok fine pa pb = nullR w_during fine ok pb pa := by decide
theorem turn_includes (x y : Vl) : HolI w_includes x y = HolI w_during y x := by
  unfold HolI hol
  rw [nr_includes]
  split
  · rfl
  · rw [hV_includes rfl, hV_during rfl]
theorem nr_starts : ∀ ok fine pa pb : Bool, nullR w_starts ok fine pa pb = nullR w_started_by fine ok pb pa := by decide
theorem turn_starts (x y : Vl) : HolI w_starts x y = HolI w_started_by y x := by
  unfold HolI hol
  rw [nr_starts]
  split
  · rfl
  · rw [hV_starts rfl, hV_started_by rfl]
theorem nr_overlaps : ∀ ok fine pa pb : Bool, nullR w_overlaps ok fine pa pb = nullR w_overlaps fine ok pb pa := by decide
theorem turn_overlaps (x y : Vl) : HolI w_overlaps x y = HolI w_overlaps y x := by
  unfold HolI hol
  rw [nr_overlaps]
  split
  · rfl
  · rw [hV_overlaps rfl, hV_overlaps rfl, andI_comm]
theorem nr_coincides : ∀ ok fine pa pb : Bool, nullR w_coincides ok fine pa pb = nullR w_coincides fine ok pb pa := by decide
theorem turn_coincides (x y : Vl) : HolI w_coincides x y = HolI w_coincides y x := by
  unfold HolI hol
  rw [nr_coincides]
  split
  · rfl
  · rw [hV_coincides rfl, hV_coincides rfl, sameI_symm (loS x), sameI_symm (hiS x), beq_symm (pS x), beq_symm (qS x)]
theorem turn_k (x y : Vl) : ∀ k, k < 8 → HolI (pk (2 * k)) x y = HolI (pk (2 * k + 1)) y x
  | 0, _ => turn_before x y
  | 1, _ => turn_meets x y
  | 2, _ => turn_overlaps_before x y
  | 3, _ => turn_finishes x y
  | 4, _ => turn_includes x y
  | 5, _ => turn_starts x y
  | 6, _ => turn_overlaps x y
  | 7, _ => turn_coincides x y
  | k + 8, h => absurd h (by omega)
theorem g_fitsT {v : Vl} (h : okS v = true) : HasC Tryz.prog 29 [VV v] (fun r => r = .v (.bool true)) := (g_fits (v := v)).mono fun r ⟨c, h1, h2⟩ => by rw [h1, h2.2 h]
theorem kn_step {s : ByteArray} {k : Nat} {c c' : Bool} (h : c = true ↔ ∃ j, j < k ∧ wk j = s) (h' : c' = true ↔ (c = true ∨ wk k = s)) : c' = true ↔ ∃ j, j < k + 1 ∧ wk j = s := by
  rw [h', h]
  constructor
  · rintro (⟨j, h1, h2⟩ | h1)
    · exact ⟨j, by omega, h2⟩
    · exact ⟨k, by omega, h1⟩
  · rintro ⟨j, h1, h2⟩
    by_cases e : j = k
    · subst e; exact .inr h2
    · exact .inl ⟨j, by omega, h2⟩
theorem kn_stepT {s : ByteArray} {k : Nat} (h : true = true ↔ ∃ j, j < k ∧ wk j = s) : true = true ↔ ∃ j, j < k + 1 ∧ wk j = s := kn_step h (by simp)
theorem kn_stepF {s : ByteArray} {k : Nat} {c' : Bool} (h : false = true ↔ ∃ j, j < k ∧ wk j = s) (h' : c' = true ↔ wk k = s) : c' = true ↔ ∃ j, j < k + 1 ∧ wk j = s := kn_step h (by rw [h']; simp)
theorem kn_none {s : ByteArray} {k : Nat} (hk : ¬ k < 14) (h : false = true ↔ ∃ j, j < k ∧ wk j = s) : ∀ j, j < 14 → wk j ≠ s := fun j h1 h2 => Bool.false_ne_true (h.2 ⟨j, by omega, h2⟩)
set_option maxHeartbeats 3200000 in
theorem c_RangefunAny {k1 k2 : Int} {t1 t2 : L8} {is1 is2 : List Dm} {ns1 ns2 : List L8} {p1 q1 p2 q2 : Bool} {s : ByteArray} (s1 : (Dm.mk k1 t1 is1 ns1 p1 q1).small) (s2 : (Dm.mk k2 t2 is2 ns2 p2 q2).small) : HasC Tryz.prog 6 [.agg [.v (.int .i64 k1), .v (.string (tx t1)), .sl ((is1).length) (cellsL (is1)), .sl ((ns1).length) (txsD (ns1)), .v (.bool p1), .v (.bool q1)], .agg [.v (.int .i64 k2), .v (.string (tx t2)), .sl ((is2).length) (cellsL (is2)), .sl ((ns2).length) (txsD (ns2)), .v (.bool p2), .v (.bool q2)], .v (.string s)] (fun r => r = .v (.bool true)) := by
 refine HasC.of [] (fn := Tryz.f6) tyOk mixed (fun args w => Tryz.call6 args w) Tryz.func6 rfl (by kernel_rfl) (Nat.le_of_ble_eq_true rfl) (⟨_, rfl⟩) ?_
 refine vc_seqr rfl (iQ 3 (iE 83 [(2, .d (Sv s)), (3, .p 3 0), (4, .p 4 0), (6, Ba false)] [(3, [Iv k1, Sv (tx t1), .sl ((is1).length) (cellsL (is1)), .sl ((ns1).length) (txsD (ns1)), Bv p1, Bv q1]), (4, [Iv k2, Sv (tx t2), .sl ((is2).length) (cellsL (is2)), .sl ((ns2).length) (txsD (ns2)), Bv p2, Bv q2])] ?_))
 refine vc_seq (vc_seqr rfl (iC 25 [] (some 15) (g_awake) ?_))
 rintro _ rfl
 refine iU .not (.bool true) (some 16) ?_
 refine all_false ((by simp)) ?_
 refine iE 83 [(2, .d (Sv s)), (3, .p 3 0), (4, .p 4 0), (6, Ba false), (16, Ba false)] [(3, [Iv k1, Sv (tx t1), .sl ((is1).length) (cellsL (is1)), .sl ((ns1).length) (txsD (ns1)), Bv p1, Bv q1]), (4, [Iv k2, Sv (tx t2), .sl ((is2).length) (cellsL (is2)), .sl ((ns2).length) (txsD (ns2)), Bv p2, Bv q2])] ?_
 refine iF (vc_skip (seq_n (vc_seqr rfl (iQ 1 (iC 19 [.agg [Iv k1, Sv (tx t1), .sl ((is1).length) (cellsL (is1)), .sl ((ns1).length) (txsD (ns1)), Bv p1, Bv q1]] (some 18) (c_Make12 s1) ?_)))))
 rintro _ ⟨x, rfl, ox⟩
 refine iQ 1 (iC 19 [.agg [Iv k2, Sv (tx t2), .sl ((is2).length) (cellsL (is2)), .sl ((ns2).length) (txsD (ns2)), Bv p2, Bv q2]] (some 20) (c_Make12 s2) ?_)
 rintro _ ⟨y, rfl, oy⟩
 refine iQ 4 (iE 83 [(2, .d (Sv s)), (6, Ba false), (7, .p 7 0), (8, .p 8 0), (16, Ba false)] [(7, [.bx (x).enc]), (8, [.bx (y).enc])] ?_)
 refine vc_seqr rfl (iQ 1 (iE 83 [(2, .d (Sv s)), (6, Ba false), (7, .p 7 0), (8, .p 8 0), (9, Ba false), (16, Ba false)] [(7, [.bx (x).enc]), (8, [.bx (y).enc])] ?_))
 refine vc_seq (vc_seqr rfl (iC 26 [] (some 21) (g_words) ?_))
 rintro _ rfl
 refine iQ 2 (iE 83 [(2, .d (Sv s)), (6, Ba false), (7, .p 7 0), (8, .p 8 0), (9, Ba false), (16, Ba false), (21, .d (.sl 14 wds)), (22, Ia (((14 : Nat) : Int))), (23, Ia 0)] [(7, [.bx (x).enc]), (8, [.bx (y).enc])] ?_)
 refine vc_block (vc_loop 83 (fun (vcx : Nat × Int × Bool) => match vcx with | (k, c, kn) => [(2, .d (Sv s)), (6, Ba false), (7, .p 7 0), (8, .p 8 0), (9, Ba kn), (16, Ba false), (21, .d (.sl 14 wds)), (22, Ia (((14 : Nat) : Int))), (23, Ia c)]) (fun (vcx : Nat × Int × Bool) => match vcx with | (k, c, kn) => [(7, [.bx (x).enc]), (8, [.bx (y).enc])]) (fun (vcx : Nat × Int × Bool) => match vcx with | (k, c, kn) => c = k ∧ k ≤ 14 ∧ (kn = true ↔ ∃ j, j < k ∧ wk j = s)) (fun (vcx : Nat × Int × Bool) => match vcx with | (k, c, kn) => 14 - k) ((0, 0, false)) (⟨rfl, by omega, by simp⟩) (by kernel_rfl) (by kernel_rfl) ?_)
 rintro ⟨k, c, kn⟩ hinv
 simp only at hinv
 obtain ⟨h0, h1, h2⟩ := hinv
 refine vc_seqr rfl (iB .lss 3 (.int .i64 c) (.int .i64 (((14 : Nat) : Int))) (some 24) ?_)
 intro c24 hc24
 refine iE 83 [(2, .d (Sv s)), (6, Ba false), (7, .p 7 0), (8, .p 8 0), (9, Ba kn), (16, Ba false), (21, .d (.sl 14 wds)), (22, Ia (((14 : Nat) : Int))), (23, Ia c), (24, Ba c24)] [(7, [.bx (x).enc]), (8, [.bx (y).enc])] ?_
 refine vc_seq ?_
 cases c24
 ·replace hc24 := bf hc24
  refine iF (vc_exit (seq_x (loop_x (block_x rfl (seq_n (vc_seqr rfl (iQ 2 (iE 83 [(2, .d (Sv s)), (6, Ba false), (7, .p 7 0), (8, .p 8 0), (9, Ba kn), (13, .w (.sl 16 [.v (.string (⟨#[98, 101, 102, 111, 114, 101]⟩)), .v (.string (⟨#[97, 102, 116, 101, 114]⟩)), .v (.string (⟨#[109, 101, 101, 116, 115]⟩)), .v (.string (⟨#[109, 101, 116, 32, 98, 121]⟩)), .v (.string (⟨#[111, 118, 101, 114, 108, 97, 112, 115, 32, 98, 101, 102, 111, 114, 101]⟩)), .v (.string (⟨#[111, 118, 101, 114, 108, 97, 112, 115, 32, 97, 102, 116, 101, 114]⟩)), .v (.string (⟨#[102, 105, 110, 105, 115, 104, 101, 115]⟩)), .v (.string (⟨#[102, 105, 110, 105, 115, 104, 101, 100, 32, 98, 121]⟩)), .v (.string (⟨#[105, 110, 99, 108, 117, 100, 101, 115]⟩)), .v (.string (⟨#[100, 117, 114, 105, 110, 103]⟩)), .v (.string (⟨#[115, 116, 97, 114, 116, 115]⟩)), .v (.string (⟨#[115, 116, 97, 114, 116, 101, 100, 32, 98, 121]⟩)), .v (.string (⟨#[111, 118, 101, 114, 108, 97, 112, 115]⟩)), .v (.string (⟨#[111, 118, 101, 114, 108, 97, 112, 115]⟩)), .v (.string (⟨#[99, 111, 105, 110, 99, 105, 100, 101, 115]⟩)), .v (.string (⟨#[99, 111, 105, 110, 99, 105, 100, 101, 115]⟩))]) none), (16, Ba false), (21, .d (.sl 14 wds)), (22, Ia (((14 : Nat) : Int))), (23, Ia c), (24, Ba false)] [(7, [.bx (x).enc]), (8, [.bx (y).enc])] ?_))))))))
  refine vc_seq (vc_seqr rfl (iQ 1 (iE 83 [(2, .d (Sv s)), (6, Ba false), (7, .p 7 0), (8, .p 8 0), (9, Ba kn), (13, .w (.sl 16 [.v (.string (⟨#[98, 101, 102, 111, 114, 101]⟩)), .v (.string (⟨#[97, 102, 116, 101, 114]⟩)), .v (.string (⟨#[109, 101, 101, 116, 115]⟩)), .v (.string (⟨#[109, 101, 116, 32, 98, 121]⟩)), .v (.string (⟨#[111, 118, 101, 114, 108, 97, 112, 115, 32, 98, 101, 102, 111, 114, 101]⟩)), .v (.string (⟨#[111, 118, 101, 114, 108, 97, 112, 115, 32, 97, 102, 116, 101, 114]⟩)), .v (.string (⟨#[102, 105, 110, 105, 115, 104, 101, 115]⟩)), .v (.string (⟨#[102, 105, 110, 105, 115, 104, 101, 100, 32, 98, 121]⟩)), .v (.string (⟨#[105, 110, 99, 108, 117, 100, 101, 115]⟩)), .v (.string (⟨#[100, 117, 114, 105, 110, 103]⟩)), .v (.string (⟨#[115, 116, 97, 114, 116, 115]⟩)), .v (.string (⟨#[115, 116, 97, 114, 116, 101, 100, 32, 98, 121]⟩)), .v (.string (⟨#[111, 118, 101, 114, 108, 97, 112, 115]⟩)), .v (.string (⟨#[111, 118, 101, 114, 108, 97, 112, 115]⟩)), .v (.string (⟨#[99, 111, 105, 110, 99, 105, 100, 101, 115]⟩)), .v (.string (⟨#[99, 111, 105, 110, 99, 105, 100, 101, 115]⟩))]) none), (14, Ia 0), (16, Ba false), (21, .d (.sl 14 wds)), (22, Ia (((14 : Nat) : Int))), (23, Ia c), (24, Ba false)] [(7, [.bx (x).enc]), (8, [.bx (y).enc])] ?_)))
  refine vc_cast (s' := mkS 83 [(2, .d (Sv s)), (6, Ba false), (7, .p 7 0), (8, .p 8 0), (9, Ba kn), (13, .w (.sl 16 pds) none), (14, Ia 0), (16, Ba false), (21, .d (.sl 14 wds)), (22, Ia (((14 : Nat) : Int))), (23, Ia c), (24, Ba false)] [(7, [.bx (x).enc]), (8, [.bx (y).enc])]) (by rw [show (.sl 16 pds : DV) = .sl 16 [.v (.string (⟨#[98, 101, 102, 111, 114, 101]⟩)), .v (.string (⟨#[97, 102, 116, 101, 114]⟩)), .v (.string (⟨#[109, 101, 101, 116, 115]⟩)), .v (.string (⟨#[109, 101, 116, 32, 98, 121]⟩)), .v (.string (⟨#[111, 118, 101, 114, 108, 97, 112, 115, 32, 98, 101, 102, 111, 114, 101]⟩)), .v (.string (⟨#[111, 118, 101, 114, 108, 97, 112, 115, 32, 97, 102, 116, 101, 114]⟩)), .v (.string (⟨#[102, 105, 110, 105, 115, 104, 101, 115]⟩)), .v (.string (⟨#[102, 105, 110, 105, 115, 104, 101, 100, 32, 98, 121]⟩)), .v (.string (⟨#[105, 110, 99, 108, 117, 100, 101, 115]⟩)), .v (.string (⟨#[100, 117, 114, 105, 110, 103]⟩)), .v (.string (⟨#[115, 116, 97, 114, 116, 115]⟩)), .v (.string (⟨#[115, 116, 97, 114, 116, 101, 100, 32, 98, 121]⟩)), .v (.string (⟨#[111, 118, 101, 114, 108, 97, 112, 115]⟩)), .v (.string (⟨#[111, 118, 101, 114, 108, 97, 112, 115]⟩)), .v (.string (⟨#[99, 111, 105, 110, 99, 105, 100, 101, 115]⟩)), .v (.string (⟨#[99, 111, 105, 110, 99, 105, 100, 101, 115]⟩))] from rfl]) ?_
  refine vc_block (vc_loop 83 (fun (vcx : Nat × Int) => match vcx with | (m, e) => [(2, .d (Sv s)), (6, Ba false), (7, .p 7 0), (8, .p 8 0), (9, Ba kn), (13, .w (.sl 16 pds) none), (14, Ia e), (16, Ba false), (21, .d (.sl 14 wds)), (22, Ia (((14 : Nat) : Int))), (23, Ia c), (24, Ba false)]) (fun (vcx : Nat × Int) => match vcx with | (m, e) => [(7, [.bx (x).enc]), (8, [.bx (y).enc])]) (fun (vcx : Nat × Int) => match vcx with | (m, e) => e = 2 * m ∧ m ≤ 8) (fun (vcx : Nat × Int) => match vcx with | (m, e) => 8 - m) ((0, 0)) (⟨rfl, by omega⟩) (by kernel_rfl) (by kernel_rfl) ?_)
  rintro ⟨m, e⟩ hinv
  simp only at hinv
  obtain ⟨g0, g1⟩ := hinv
  refine vc_seq (vc_seqr rfl (iQ 3 (iB .lss 3 (.int .i64 e) (.int .i64 (((16 : Nat) : Int))) (some 54) ?_)))
  intro c54 hc54
  refine iE 83 [(2, .d (Sv s)), (6, Ba false), (7, .p 7 0), (8, .p 8 0), (9, Ba kn), (13, .w (.sl 16 pds) none), (14, Ia e), (16, Ba false), (21, .d (.sl 14 wds)), (22, Ia (((14 : Nat) : Int))), (23, Ia c), (24, Ba false), (54, Ba c54)] [(7, [.bx (x).enc]), (8, [.bx (y).enc])] ?_
  cases c54
  ·replace hc54 := bf hc54
   refine iF (vc_exit (seq_x (loop_x (block_x rfl (seq_n (vc_seqr rfl (iQ 2 ?_)))))))
   cases kn
   ·skip
    refine iQ 3 (iC 28 [Sv s, .agg [.bx (x).enc], .agg [.bx (y).enc]] (some 80) (g_Holds (w := s) ox oy) ?_)
    rintro _ rfl
    refine iC 14 [.agg [.bx (truthV (HolI s x y)).enc]] (some 81) (c_NullT (v := truthV (HolI s x y)) (by rw [hol_none (kn_none (by omega) h2)]; rfl)) ?_
    rintro _ rfl
    refine iQ 2 (iE 83 [(2, .d (Sv s)), (6, Ba true), (7, .p 7 0), (8, .p 8 0), (9, Ba false), (13, .w (.sl 16 pds) none), (14, Ia e), (16, Ba false), (21, .d (.sl 14 wds)), (22, Ia (((14 : Nat) : Int))), (23, Ia c), (24, Ba false), (54, Ba false)] [(7, [.bx (x).enc]), (8, [.bx (y).enc])] ?_)
    refine vc_ret (iR (Bv true) ?_)
    rfl
   ·skip
    refine iQ 7 (iE 83 [(2, .d (Sv s)), (6, Ba true), (7, .p 7 0), (8, .p 8 0), (9, Ba true), (13, .w (.sl 16 pds) none), (14, Ia e), (16, Ba false), (21, .d (.sl 14 wds)), (22, Ia (((14 : Nat) : Int))), (23, Ia c), (24, Ba false), (54, Ba false)] [(7, [.bx (x).enc]), (8, [.bx (y).enc])] ?_)
    refine vc_ret (iR (Bv true) ?_)
    rfl
  ·replace hc54 := bt hc54
   refine iT (vc_skip (seq_n (vc_seq (vc_block (vc_seqr rfl (iQ 2 (vcI_idx1 (q := e) (n := 16) (cs := pds) (d := .v (.string (pk (2 * m)))) (dst := (some 59)) (by kernel_rfl) (by omega) (pk_get (k := 2 * m) (by omega) (by omega)) ?_)))))))
   refine iQ 3 (iC 28 [Sv (pk (2 * m)), .agg [.bx (x).enc], .agg [.bx (y).enc]] (some 63) (g_Holds (w := pk (2 * m)) ox oy) ?_)
   rintro _ rfl
   refine iC 27 [.agg [.bx (truthV (HolI (pk (2 * m)) x y)).enc]] (some 64) (g_yes (v := truthV (HolI (pk (2 * m)) x y))) ?_
   rintro _ rfl
   refine iQ 2 (iB .add 3 (.int .i64 e) (.int .i64 1) (some 67) ?_)
   intro z67 hz67
   try replace hz67 := hz67.i64 (by omega)
   refine vcI_idx1 (q := z67) (n := 16) (cs := pds) (d := .v (.string (pk (2 * m + 1)))) (dst := (some 68)) (by kernel_rfl) (by omega) (pk_get (k := 2 * m + 1) (by omega) (by omega)) ?_
   refine iQ 3 (iC 28 [Sv (pk (2 * m + 1)), .agg [.bx (y).enc], .agg [.bx (x).enc]] (some 72) (g_Holds (w := pk (2 * m + 1)) oy ox) ?_)
   rintro _ rfl
   refine iC 27 [.agg [.bx (truthV (HolI (pk (2 * m + 1)) y x)).enc]] (some 73) (g_yes (v := truthV (HolI (pk (2 * m + 1)) y x))) ?_
   rintro _ rfl
   refine iB .neq 3 (.int .i64 (yesI (truthV (HolI (pk (2 * m)) x y)))) (.int .i64 (yesI (truthV (HolI (pk (2 * m + 1)) y x)))) (some 74) ?_
   refine all_false ((by rw [turn_k x y m (by omega)]; simp)) ?_
   refine iE 83 [(2, .d (Sv s)), (6, Ba false), (7, .p 7 0), (8, .p 8 0), (9, Ba kn), (13, .w (.sl 16 pds) none), (14, Ia e), (16, Ba false), (21, .d (.sl 14 wds)), (22, Ia (((14 : Nat) : Int))), (23, Ia c), (24, Ba false), (54, Ba true), (74, Ba false)] [(7, [.bx (x).enc]), (8, [.bx (y).enc])] ?_
   refine iF (vc_skip (block_n (seq_n (vc_reg rfl (iQ 1 (iB .add 3 (.int .i64 e) (.int .i64 2) (some 56) ?_))))))
   intro z56 hz56
   try replace hz56 := hz56.i64 (by omega)
   refine iQ 1 (iE 83 [(2, .d (Sv s)), (6, Ba false), (7, .p 7 0), (8, .p 8 0), (9, Ba kn), (13, .w (.sl 16 pds) none), (14, Ia z56), (16, Ba false), (21, .d (.sl 14 wds)), (22, Ia (((14 : Nat) : Int))), (23, Ia c), (24, Ba false), (54, Ba true), (74, Ba false)] [(7, [.bx (x).enc]), (8, [.bx (y).enc])] ?_)
   refine loop_n (m + 1, z56) (⟨by omega, by omega⟩) (by show 8 - (m + 1) < 8 - m; omega) (by kernel_rfl) (by kernel_rfl)
 ·replace hc24 := bt hc24
  refine iT (vc_skip (seq_n (vc_seq (vc_block (vc_seqr rfl (vcI_idx1 (q := c) (n := 14) (cs := wds) (d := .v (.string (wk k))) (dst := (some 25)) (by kernel_rfl) (by omega) (wk_get h0 (by omega)) ?_))))))
  refine iQ 2 (iE 83 [(2, .d (Sv s)), (6, Ba false), (7, .p 7 0), (8, .p 8 0), (9, Ba kn), (11, .d (Sv (wk k))), (16, Ba false), (21, .d (.sl 14 wds)), (22, Ia (((14 : Nat) : Int))), (23, Ia c), (24, Ba true)] [(7, [.bx (x).enc]), (8, [.bx (y).enc])] ?_)
  refine vc_seqr rfl (iQ 2 ?_)
  cases kn
  ·skip
   refine iQ 2 (iB .eql 9 (.string (wk k)) (.string s) (some 31) ?_)
   intro c31 hc31
   refine iQ 2 (iE 83 [(2, .d (Sv s)), (6, Ba false), (7, .p 7 0), (8, .p 8 0), (9, Ba c31), (11, .d (Sv (wk k))), (16, Ba false), (21, .d (.sl 14 wds)), (22, Ia (((14 : Nat) : Int))), (23, Ia c), (24, Ba true)] [(7, [.bx (x).enc]), (8, [.bx (y).enc])] ?_)
   refine vc_seqr rfl (iQ 3 (iC 28 [Sv (wk k), .agg [.bx (x).enc], .agg [.bx (y).enc]] (some 36) (g_Holds (w := wk k) ox oy) ?_))
   rintro _ rfl
   refine iC 27 [.agg [.bx (truthV (HolI (wk k) x y)).enc]] (some 37) (g_yes (v := truthV (HolI (wk k) x y))) ?_
   rintro _ rfl
   refine iQ 1 (iE 83 [(2, .d (Sv s)), (6, Ba false), (7, .p 7 0), (8, .p 8 0), (9, Ba c31), (11, .d (Sv (wk k))), (12, Ia (yesI (truthV (HolI (wk k) x y)))), (16, Ba false), (21, .d (.sl 14 wds)), (22, Ia (((14 : Nat) : Int))), (23, Ia c), (24, Ba true)] [(7, [.bx (x).enc]), (8, [.bx (y).enc])] ?_)
   refine vc_seqr rfl (iQ 1 (iB .geq 3 (.int .i64 (yesI (truthV (HolI (wk k) x y)))) (.int .i64 0) (some 39) ?_))
   intro c39 hc39
   refine iQ 1 ?_
   cases c39
   ·replace hc39 := bf hc39
    refine iQ 8 (iE 83 [(2, .d (Sv s)), (6, Ba false), (7, .p 7 0), (8, .p 8 0), (9, Ba c31), (11, .d (Sv (wk k))), (12, Ia (yesI (truthV (HolI (wk k) x y)))), (16, Ba false), (21, .d (.sl 14 wds)), (22, Ia (((14 : Nat) : Int))), (23, Ia c), (24, Ba true), (48, Ba false)] [(7, [.bx (x).enc]), (8, [.bx (y).enc])] ?_)
    refine iF (vc_skip (block_n (seq_n (vc_reg rfl (iB .add 3 (.int .i64 c) (.int .i64 1) (some 49) ?_)))))
    intro z49 hz49
    try replace hz49 := hz49.i64 (by omega)
    refine iQ 1 (iE 83 [(2, .d (Sv s)), (6, Ba false), (7, .p 7 0), (8, .p 8 0), (9, Ba c31), (11, .d (Sv (wk k))), (12, Ia (yesI (truthV (HolI (wk k) x y)))), (16, Ba false), (21, .d (.sl 14 wds)), (22, Ia (((14 : Nat) : Int))), (23, Ia z49), (24, Ba true), (48, Ba false)] [(7, [.bx (x).enc]), (8, [.bx (y).enc])] ?_)
    refine loop_n (k + 1, z49, c31) (⟨by omega, by omega, (kn_stepF h2 hc31)⟩) (by show 14 - (k + 1) < 14 - k; omega) (by kernel_rfl) (by kernel_rfl)
   ·replace hc39 := bt hc39
    refine iQ 1 ?_
    obtain ⟨f1, f2⟩ := hol_fits hc39
    refine iC 29 [.agg [.bx (x).enc]] (some 42) (g_fitsT f1) ?_
    rintro _ rfl
    refine iQ 2 (iC 29 [.agg [.bx (y).enc]] (some 45) (g_fitsT f2) ?_)
    rintro _ rfl
    refine iQ 1 (iU .not (.bool true) (some 47) ?_)
    refine all_false ((by simp)) ?_
    refine iQ 1 (iE 83 [(2, .d (Sv s)), (6, Ba false), (7, .p 7 0), (8, .p 8 0), (9, Ba c31), (11, .d (Sv (wk k))), (12, Ia (yesI (truthV (HolI (wk k) x y)))), (16, Ba false), (21, .d (.sl 14 wds)), (22, Ia (((14 : Nat) : Int))), (23, Ia c), (24, Ba true), (48, Ba false)] [(7, [.bx (x).enc]), (8, [.bx (y).enc])] ?_)
    refine iF (vc_skip (block_n (seq_n (vc_reg rfl (iB .add 3 (.int .i64 c) (.int .i64 1) (some 49) ?_)))))
    intro z49 hz49
    try replace hz49 := hz49.i64 (by omega)
    refine iQ 1 (iE 83 [(2, .d (Sv s)), (6, Ba false), (7, .p 7 0), (8, .p 8 0), (9, Ba c31), (11, .d (Sv (wk k))), (12, Ia (yesI (truthV (HolI (wk k) x y)))), (16, Ba false), (21, .d (.sl 14 wds)), (22, Ia (((14 : Nat) : Int))), (23, Ia z49), (24, Ba true), (48, Ba false)] [(7, [.bx (x).enc]), (8, [.bx (y).enc])] ?_)
    refine loop_n (k + 1, z49, c31) (⟨by omega, by omega, (kn_stepF h2 hc31)⟩) (by show 14 - (k + 1) < 14 - k; omega) (by kernel_rfl) (by kernel_rfl)
  ·skip
   refine iQ 5 (iE 83 [(2, .d (Sv s)), (6, Ba false), (7, .p 7 0), (8, .p 8 0), (9, Ba true), (11, .d (Sv (wk k))), (16, Ba false), (21, .d (.sl 14 wds)), (22, Ia (((14 : Nat) : Int))), (23, Ia c), (24, Ba true)] [(7, [.bx (x).enc]), (8, [.bx (y).enc])] ?_)
   refine vc_seqr rfl (iQ 3 (iC 28 [Sv (wk k), .agg [.bx (x).enc], .agg [.bx (y).enc]] (some 36) (g_Holds (w := wk k) ox oy) ?_))
   rintro _ rfl
   refine iC 27 [.agg [.bx (truthV (HolI (wk k) x y)).enc]] (some 37) (g_yes (v := truthV (HolI (wk k) x y))) ?_
   rintro _ rfl
   refine iQ 1 (iE 83 [(2, .d (Sv s)), (6, Ba false), (7, .p 7 0), (8, .p 8 0), (9, Ba true), (11, .d (Sv (wk k))), (12, Ia (yesI (truthV (HolI (wk k) x y)))), (16, Ba false), (21, .d (.sl 14 wds)), (22, Ia (((14 : Nat) : Int))), (23, Ia c), (24, Ba true)] [(7, [.bx (x).enc]), (8, [.bx (y).enc])] ?_)
   refine vc_seqr rfl (iQ 1 (iB .geq 3 (.int .i64 (yesI (truthV (HolI (wk k) x y)))) (.int .i64 0) (some 39) ?_))
   intro c39 hc39
   refine iQ 1 ?_
   cases c39
   ·replace hc39 := bf hc39
    refine iQ 8 (iE 83 [(2, .d (Sv s)), (6, Ba false), (7, .p 7 0), (8, .p 8 0), (9, Ba true), (11, .d (Sv (wk k))), (12, Ia (yesI (truthV (HolI (wk k) x y)))), (16, Ba false), (21, .d (.sl 14 wds)), (22, Ia (((14 : Nat) : Int))), (23, Ia c), (24, Ba true), (48, Ba false)] [(7, [.bx (x).enc]), (8, [.bx (y).enc])] ?_)
    refine iF (vc_skip (block_n (seq_n (vc_reg rfl (iB .add 3 (.int .i64 c) (.int .i64 1) (some 49) ?_)))))
    intro z49 hz49
    try replace hz49 := hz49.i64 (by omega)
    refine iQ 1 (iE 83 [(2, .d (Sv s)), (6, Ba false), (7, .p 7 0), (8, .p 8 0), (9, Ba true), (11, .d (Sv (wk k))), (12, Ia (yesI (truthV (HolI (wk k) x y)))), (16, Ba false), (21, .d (.sl 14 wds)), (22, Ia (((14 : Nat) : Int))), (23, Ia z49), (24, Ba true), (48, Ba false)] [(7, [.bx (x).enc]), (8, [.bx (y).enc])] ?_)
    refine loop_n (k + 1, z49, true) (⟨by omega, by omega, (kn_stepT h2)⟩) (by show 14 - (k + 1) < 14 - k; omega) (by kernel_rfl) (by kernel_rfl)
   ·replace hc39 := bt hc39
    refine iQ 1 ?_
    obtain ⟨f1, f2⟩ := hol_fits hc39
    refine iC 29 [.agg [.bx (x).enc]] (some 42) (g_fitsT f1) ?_
    rintro _ rfl
    refine iQ 2 (iC 29 [.agg [.bx (y).enc]] (some 45) (g_fitsT f2) ?_)
    rintro _ rfl
    refine iQ 1 (iU .not (.bool true) (some 47) ?_)
    refine all_false ((by simp)) ?_
    refine iQ 1 (iE 83 [(2, .d (Sv s)), (6, Ba false), (7, .p 7 0), (8, .p 8 0), (9, Ba true), (11, .d (Sv (wk k))), (12, Ia (yesI (truthV (HolI (wk k) x y)))), (16, Ba false), (21, .d (.sl 14 wds)), (22, Ia (((14 : Nat) : Int))), (23, Ia c), (24, Ba true), (48, Ba false)] [(7, [.bx (x).enc]), (8, [.bx (y).enc])] ?_)
    refine iF (vc_skip (block_n (seq_n (vc_reg rfl (iB .add 3 (.int .i64 c) (.int .i64 1) (some 49) ?_)))))
    intro z49 hz49
    try replace hz49 := hz49.i64 (by omega)
    refine iQ 1 (iE 83 [(2, .d (Sv s)), (6, Ba false), (7, .p 7 0), (8, .p 8 0), (9, Ba true), (11, .d (Sv (wk k))), (12, Ia (yesI (truthV (HolI (wk k) x y)))), (16, Ba false), (21, .d (.sl 14 wds)), (22, Ia (((14 : Nat) : Int))), (23, Ia z49), (24, Ba true), (48, Ba false)] [(7, [.bx (x).enc]), (8, [.bx (y).enc])] ?_)
    refine loop_n (k + 1, z49, true) (⟨by omega, by omega, (kn_stepT h2)⟩) (by show 14 - (k + 1) < 14 - k; omega) (by kernel_rfl) (by kernel_rfl)
end Go.Proofs.YtpambeengdhhmaaGreatDoor
