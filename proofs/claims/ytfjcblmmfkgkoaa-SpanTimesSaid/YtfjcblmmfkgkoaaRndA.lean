/-
  round: Scale, Whole, Floor, Ceiling, Modulo, Even, Odd.
-/
import Derived.Test.YtfjcblmmfkgkoaaRndP
namespace Go.Proofs.Ytfjcblmmfkgkoaa
open Go.RowKit
set_option linter.unusedVariables false
set_option linter.unusedSimpArgs false
set_option maxRecDepth 100000

theorem c_Cut1 {m n e : Int} {neg : Bool} {A : Nat} (hA : A < E34) (hn : n ≤ 100000000) (he0 : -1000000000 ≤ e) (he1 : e ≤ 1000000000) :
    HasC Try.prog 57 [.agg [.v (.bool neg), .v (.int .u64 0), .v (.int .u64 0), .v (.int .u64 (hiW A)), .v (.int .u64 (loW A)), .v (.int .i64 e), .v (.bool false)], .v (.int .i64 n), .v (.int .i64 m)] (fun y => y = dWide neg 0 (cutQ m neg A false n.toNat) (e + n.toNat) false) := by
  rw [← dWide_1]
  exact c_CutS (hi := 0) (by decide) (Nat.lt_trans hA e34_lt) (by omega) (by omega) (by omega) (by rw [Nat.zero_mul, Nat.zero_add]) (Nat.le_of_lt (cut_lt hA))
theorem pow_big {A k : Nat} (hA : A ≠ 0) (hk : 34 ≤ k) : ¬ A * 10 ^ k < E34 := by
  have h1 : 10 ^ 34 ≤ 10 ^ k := Nat.pow_le_pow_right (by decide) hk
  have h2 : 1 * 10 ^ k ≤ A * 10 ^ k := Nat.mul_le_mul_right _ (by omega)
  have h3 : (10 : Nat) ^ 34 = E34 := by decide
  omega

theorem up_ne {A k : Nat} (hA : A ≠ 0) (h : A * 10 ^ k = 0) : False := by
  rcases Nat.mul_eq_zero.1 h with m | m
  · exact hA m
  · exact absurd m (Nat.pos_iff_ne_zero.1 (Nat.pow_pos (by decide)))

set_option maxHeartbeats 3200000 in
theorem c_Scale {s : Bool} {A : Nat} {e p m : Int} (hA : A < E34) (hs : A = 0 → s = false) (h1 : -6176 ≤ e) (h2 : e ≤ 6111) (hp0 : -9223372036854775808 ≤ p) (hp1 : p ≤ 9223372036854775807) : HasC Try.prog 16 [.agg [.v (.bool s), .v (.int .u64 (hiW (A))), .v (.int .u64 (loW (A))), .v (.int .i64 e)], .v (.int .i64 p), .v (.int .i64 m)] (fun y => y = dFit (scaleT m s A e p)) := by
  refine HasC.of [] (fn := Try.f16) tyOk mixed (fun args w => Try.call16 args w) Try.func16 rfl (by kernel_rfl) (Nat.le_of_ble_eq_true rfl) (⟨_, rfl⟩) ?_
  have hAB := Nat.lt_trans hA e34_lt
  refine vc_seqr rfl (iQ 3 (iE 103 [(1, Ia p), (2, Ia m), (3, .p 3 0), (6, .p 6 0), (7, Ba false)] [(3, [Bv s, Hw A, Lw A, Iv e]), (6, [Bv false, Uv 0, Uv 0, Iv 0])] ?_))
  refine vc_seq (vc_seqr rfl (iQ 1 (iB .lss 3 (.int .i64 p) (.int .i64 (-6111)) (some 17) ?_)))
  intro c17 hc17
  refine iQ 1 ?_
  cases c17
  · replace hc17 := bf hc17
    refine iQ 1 (iB .gtr 3 (.int .i64 p) (.int .i64 6176) (some 20) ?_)
    intro c20 hc20
    refine iQ 2 ?_
    cases c20
    · replace hc20 := bf hc20
      refine iQ 1 (iB .lss 32 (.int .i64 m) (.int .i64 1) (some 24) ?_)
      intro c24 hc24
      refine iQ 2 ?_
      cases c24
      · replace hc24 := bf hc24
        refine iQ 1 (iB .gtr 32 (.int .i64 m) (.int .i64 7) (some 28) ?_)
        intro c28 hc28
        refine iQ 1 (iE 103 [(1, Ia p), (2, Ia m), (3, .p 3 0), (6, .p 6 0), (7, Ba false), (29, Ba c28)] [(3, [Bv s, Hw A, Lw A, Iv e]), (6, [Bv false, Uv 0, Uv 0, Iv 0])] ?_)
        cases c28
        · replace hc28 := bf hc28
          have hok : ¬ (p < -6111 ∨ 6176 < p ∨ m < 1 ∨ 7 < m) := by omega
          refine iF (vc_skip (seq_n (vc_seqr rfl (iQ 1 (iU .neg (.int .i64 p) (some 32) ?_)))))
          intro z32 hz32
          try replace hz32 := hz32.i64 (by omega)
          refine iQ 2 (iB .sub 3 (.int .i64 z32) (.int .i64 e) (some 35) ?_)
          intro z35 hz35
          try replace hz35 := hz35.i64 (by omega)
          refine iQ 1 (iE 103 [(1, Ia p), (2, Ia m), (3, .p 3 0), (6, .p 6 0), (7, Ba false), (8, Ia z35), (29, Ba false)] [(3, [Bv s, Hw A, Lw A, Iv e]), (6, [Bv false, Uv 0, Uv 0, Iv 0])] ?_)
          refine vc_seq (vc_seqr rfl (iQ 1 (iB .geq 3 (.int .i64 z35) (.int .i64 0) (some 37) ?_)))
          intro c37 hc37
          refine iE 103 [(1, Ia p), (2, Ia m), (3, .p 3 0), (6, .p 6 0), (7, Ba false), (8, Ia z35), (29, Ba false), (37, Ba c37)] [(3, [Bv s, Hw A, Lw A, Iv e]), (6, [Bv false, Uv 0, Uv 0, Iv 0])] ?_
          cases c37
          · replace hc37 := bf hc37
            have hneg : ¬ 0 ≤ -p - e := by omega
            refine iF (vc_skip (seq_n (vc_seqr rfl (iQ 5 (iU .neg (.int .i64 p) (some 69) ?_)))))
            intro z69 hz69
            try replace hz69 := hz69.i64 (by omega)
            refine iQ 3 (iE 103 [(1, Ia p), (2, Ia m), (3, .p 3 0), (6, .p 6 0), (7, Ba false), (8, Ia z35), (11, .p 11 0), (29, Ba false), (37, Ba false)] [(3, [Bv s, Hw A, Lw A, Iv e]), (6, [Bv false, Uv 0, Uv 0, Iv 0]), (11, [Bv s, Hw A, Lw A, Iv z69])] ?_)
            refine vc_seq (vc_seqr rfl (iQ 1 (iC 59 [.agg [Bv s, Hw A, Lw A, Iv e]] (some 72) (c_Zero hAB) ?_)))
            rintro _ ⟨z, rfl, hz⟩
            refine iE 103 [(1, Ia p), (2, Ia m), (3, .p 3 0), (6, .p 6 0), (7, Ba false), (8, Ia z35), (11, .p 11 0), (29, Ba false), (37, Ba false), (72, Ba z)] [(3, [Bv s, Hw A, Lw A, Iv e]), (6, [Bv false, Uv 0, Uv 0, Iv 0]), (11, [Bv s, Hw A, Lw A, Iv z69])] ?_
            cases z
            · replace hz := bf hz
              refine iF (vc_skip (seq_n (vc_seq (vc_seqr rfl (iQ 1 (iU .neg (.int .i64 z35) (some 75) ?_))))))
              intro z75 hz75
              try replace hz75 := hz75.i64 (by omega)
              refine iB .gtr 3 (.int .i64 z75) (.int .i64 34) (some 76) ?_
              intro c76 hc76
              refine iE 103 [(1, Ia p), (2, Ia m), (3, .p 3 0), (6, .p 6 0), (7, Ba false), (8, Ia z35), (11, .p 11 0), (29, Ba false), (37, Ba false), (72, Ba false), (76, Ba c76)] [(3, [Bv s, Hw A, Lw A, Iv e]), (6, [Bv false, Uv 0, Uv 0, Iv 0]), (11, [Bv s, Hw A, Lw A, Iv z69])] ?_
              cases c76
              · replace hc76 := bf hc76
                refine iF (vc_skip (seq_n (vc_seqr rfl (iQ 1 (iU .neg (.int .i64 z35) (some 80) ?_)))))
                intro z80 hz80
                try replace hz80 := hz80.i64 (by omega)
                have hk : z80.toNat = (p + e).toNat := by omega
                refine iC 54 [Iv z80] (some 81) (cw_Ten (k := z80) (by omega) (by omega)) ?_
                rintro _ rfl
                have ht : 10 ^ z80.toNat < B128 := Nat.lt_of_le_of_lt (Nat.pow_le_pow_right (by decide) (show z80.toNat ≤ 34 by omega)) (by decide)
                refine iQ 6 (iE 103 [(1, Ia p), (2, Ia m), (3, .p 3 0), (6, .p 6 0), (7, Ba false), (8, Ia z35), (11, .p 11 0), (12, .p 12 0), (29, Ba false), (37, Ba false), (72, Ba false), (76, Ba false)] [(3, [Bv s, Hw A, Lw A, Iv e]), (6, [Bv false, Uv 0, Uv 0, Iv 0]), (11, [Bv s, Hw A, Lw A, Iv z69]), (12, [Hw (10 ^ z80.toNat), Lw (10 ^ z80.toNat)])] ?_)
                refine vc_seqr rfl (iQ 3 (iC 60 [.agg [Hw A, Lw A], .agg [Hw (10 ^ z80.toNat), Lw (10 ^ z80.toNat)]] (some 88) (cw_Mul hAB ht) ?_))
                rintro _ rfl
                refine iQ 7 (iE 103 [(1, Ia p), (2, Ia m), (3, .p 3 0), (6, .p 6 0), (7, Ba false), (8, Ia z35), (11, .p 11 0), (12, .p 12 0), (14, .p 14 0), (15, .p 15 0), (29, Ba false), (37, Ba false), (72, Ba false), (76, Ba false)] [(3, [Bv s, Hw A, Lw A, Iv e]), (6, [Bv false, Uv 0, Uv 0, Iv 0]), (11, [Bv s, Hw A, Lw A, Iv z69]), (12, [Hw (10 ^ z80.toNat), Lw (10 ^ z80.toNat)]), (14, [Hw (A * 10 ^ z80.toNat / B128), Lw (A * 10 ^ z80.toNat / B128)]), (15, [Hw (A * 10 ^ z80.toNat % B128), Lw (A * 10 ^ z80.toNat % B128)])] ?_)
                refine vc_seqr rfl (iQ 3 (iE 103 [(1, Ia p), (2, Ia m), (3, .p 3 0), (6, .p 6 0), (7, Ba false), (8, Ia z35), (11, .p 11 0), (12, .p 12 0), (14, .p 14 0), (15, .p 15 0), (29, Ba false), (37, Ba false), (72, Ba false), (76, Ba false)] [(3, [Bv s, Hw A, Lw A, Iv e]), (6, [Bv false, Uv 0, Uv 0, Iv 0]), (11, [Bv s, Hw (A * 10 ^ z80.toNat % B128), Lw (A * 10 ^ z80.toNat % B128), Iv z69]), (12, [Hw (10 ^ z80.toNat), Lw (10 ^ z80.toNat)]), (14, [Hw (A * 10 ^ z80.toNat / B128), Lw (A * 10 ^ z80.toNat / B128)]), (15, [Hw (A * 10 ^ z80.toNat % B128), Lw (A * 10 ^ z80.toNat % B128)])] ?_))
                refine vc_seq (vc_seqr rfl (iQ 1 (iC 56 [.agg [Hw (A * 10 ^ z80.toNat / B128), Lw (A * 10 ^ z80.toNat / B128)]] (some 94) (cw_Zero (Nat.div_lt_of_lt_mul (Nat.mul_lt_mul'' hAB ht))) ?_)))
                rintro _ ⟨zh, rfl, hzh⟩
                refine iU .not (.bool zh) (some 95) ?_
                intro c95 hc95
                refine iQ 1 ?_
                cases c95
                · replace hc95 := bf hc95
                  refine iQ 1 ?_
                  have hh0 : A * 10 ^ z80.toNat / B128 = 0 := hzh.1 (by simpa using hc95)
                  have hlB : A * 10 ^ z80.toNat < B128 := by rcases (Nat.div_eq_zero_iff).1 hh0 with k | k; exact absurd k (by decide); exact k
                  refine iC 58 [.agg [Bv s, Hw (A * 10 ^ z80.toNat % B128), Lw (A * 10 ^ z80.toNat % B128), Iv z69]] (some 98) (c_May (mod_lt128 _)) ?_
                  rintro _ ⟨w, rfl, hw⟩
                  rw [Nat.mod_eq_of_lt hlB] at hw
                  refine iU .not (.bool w) (some 99) ?_
                  intro c99 hc99
                  refine iQ 1 (iE 103 [(1, Ia p), (2, Ia m), (3, .p 3 0), (6, .p 6 0), (7, Ba false), (8, Ia z35), (11, .p 11 0), (12, .p 12 0), (14, .p 14 0), (15, .p 15 0), (29, Ba false), (37, Ba false), (72, Ba false), (76, Ba false), (100, Ba c99)] [(3, [Bv s, Hw A, Lw A, Iv e]), (6, [Bv false, Uv 0, Uv 0, Iv 0]), (11, [Bv s, Hw (A * 10 ^ z80.toNat % B128), Lw (A * 10 ^ z80.toNat % B128), Iv z69]), (12, [Hw (10 ^ z80.toNat), Lw (10 ^ z80.toNat)]), (14, [Hw (A * 10 ^ z80.toNat / B128), Lw (A * 10 ^ z80.toNat / B128)]), (15, [Hw (A * 10 ^ z80.toNat % B128), Lw (A * 10 ^ z80.toNat % B128)])] ?_)
                  cases c99
                  · replace hc99 := bf hc99
                    have hM : May s (A * 10 ^ z80.toNat) z69 := hw.1 (by simpa using hc99)
                    refine iF (vc_skip (seq_n (vc_seqr rfl (iQ 3 (iE 103 [(1, Ia p), (2, Ia m), (3, .p 3 0), (6, .p 6 0), (7, Ba true), (8, Ia z35), (11, .p 11 0), (12, .p 12 0), (14, .p 14 0), (15, .p 15 0), (29, Ba false), (37, Ba false), (72, Ba false), (76, Ba false), (100, Ba false)] [(3, [Bv s, Hw A, Lw A, Iv e]), (6, [Bv s, Hw (A * 10 ^ z80.toNat % B128), Lw (A * 10 ^ z80.toNat % B128), Iv z69]), (11, [Bv s, Hw (A * 10 ^ z80.toNat % B128), Lw (A * 10 ^ z80.toNat % B128), Iv z69]), (12, [Hw (10 ^ z80.toNat), Lw (10 ^ z80.toNat)]), (14, [Hw (A * 10 ^ z80.toNat / B128), Lw (A * 10 ^ z80.toNat / B128)]), (15, [Hw (A * 10 ^ z80.toNat % B128), Lw (A * 10 ^ z80.toNat % B128)])] ?_)))))
                    refine vc_ret (iS (.agg [Bv s, Hw (A * 10 ^ z80.toNat % B128), Lw (A * 10 ^ z80.toNat % B128), Iv z69]) (Bv true) [] ?_)
                    rw [scale_up hok hneg (by rw [← hk]; exact hM.1), ← hk, Nat.mod_eq_of_lt hlB, show -p = z69 by omega]; rfl
                  · replace hc99 := bt hc99
                    have hM : ¬ May s (A * 10 ^ z80.toNat) z69 := fun k => by rw [hw.2 k] at hc99; cases hc99
                    refine iT (vc_seqr rfl (iQ 3 (iE 103 [(1, Ia p), (2, Ia m), (3, .p 3 0), (6, .p 6 0), (7, Ba false), (8, Ia z35), (11, .p 11 0), (12, .p 12 0), (14, .p 14 0), (15, .p 15 0), (29, Ba false), (37, Ba false), (72, Ba false), (76, Ba false), (100, Ba true)] [(3, [Bv s, Hw A, Lw A, Iv e]), (6, [Bv false, Uv 0, Uv 0, Iv 0]), (11, [Bv s, Hw (A * 10 ^ z80.toNat % B128), Lw (A * 10 ^ z80.toNat % B128), Iv z69]), (12, [Hw (10 ^ z80.toNat), Lw (10 ^ z80.toNat)]), (14, [Hw (A * 10 ^ z80.toNat / B128), Lw (A * 10 ^ z80.toNat / B128)]), (15, [Hw (A * 10 ^ z80.toNat % B128), Lw (A * 10 ^ z80.toNat % B128)])] ?_)))
                    refine vc_ret (seq_r (iS (.agg [Bv false, Uv 0, Uv 0, Iv 0]) (Bv false) [] ?_))
                    rw [scale_big hok hneg (by rw [← hk]; exact fun k => hM ⟨k, by omega, by omega, fun h0 h00 => up_ne hz h00⟩)]; rfl
                · replace hc95 := bt hc95
                  refine iQ 4 (iE 103 [(1, Ia p), (2, Ia m), (3, .p 3 0), (6, .p 6 0), (7, Ba false), (8, Ia z35), (11, .p 11 0), (12, .p 12 0), (14, .p 14 0), (15, .p 15 0), (29, Ba false), (37, Ba false), (72, Ba false), (76, Ba false), (100, Ba true)] [(3, [Bv s, Hw A, Lw A, Iv e]), (6, [Bv false, Uv 0, Uv 0, Iv 0]), (11, [Bv s, Hw (A * 10 ^ z80.toNat % B128), Lw (A * 10 ^ z80.toNat % B128), Iv z69]), (12, [Hw (10 ^ z80.toNat), Lw (10 ^ z80.toNat)]), (14, [Hw (A * 10 ^ z80.toNat / B128), Lw (A * 10 ^ z80.toNat / B128)]), (15, [Hw (A * 10 ^ z80.toNat % B128), Lw (A * 10 ^ z80.toNat % B128)])] ?_)
                  have hh0 : A * 10 ^ z80.toNat / B128 ≠ 0 := fun k => by rw [hzh.2 k] at hc95; cases hc95
                  refine iT (vc_seqr rfl (iQ 3 (iE 103 [(1, Ia p), (2, Ia m), (3, .p 3 0), (6, .p 6 0), (7, Ba false), (8, Ia z35), (11, .p 11 0), (12, .p 12 0), (14, .p 14 0), (15, .p 15 0), (29, Ba false), (37, Ba false), (72, Ba false), (76, Ba false), (100, Ba true)] [(3, [Bv s, Hw A, Lw A, Iv e]), (6, [Bv false, Uv 0, Uv 0, Iv 0]), (11, [Bv s, Hw (A * 10 ^ z80.toNat % B128), Lw (A * 10 ^ z80.toNat % B128), Iv z69]), (12, [Hw (10 ^ z80.toNat), Lw (10 ^ z80.toNat)]), (14, [Hw (A * 10 ^ z80.toNat / B128), Lw (A * 10 ^ z80.toNat / B128)]), (15, [Hw (A * 10 ^ z80.toNat % B128), Lw (A * 10 ^ z80.toNat % B128)])] ?_)))
                  refine vc_ret (seq_r (iS (.agg [Bv false, Uv 0, Uv 0, Iv 0]) (Bv false) [] ?_))
                  rw [scale_big hok hneg (by rw [← hk]; exact fun k => hh0 (Nat.div_eq_of_lt (Nat.lt_trans k e34_lt)))]; rfl
              · replace hc76 := bt hc76
                refine iT (vc_seqr rfl (iQ 3 (iE 103 [(1, Ia p), (2, Ia m), (3, .p 3 0), (6, .p 6 0), (7, Ba false), (8, Ia z35), (11, .p 11 0), (29, Ba false), (37, Ba false), (72, Ba false), (76, Ba true)] [(3, [Bv s, Hw A, Lw A, Iv e]), (6, [Bv false, Uv 0, Uv 0, Iv 0]), (11, [Bv s, Hw A, Lw A, Iv z69])] ?_)))
                refine vc_ret (seq_r (iS (.agg [Bv false, Uv 0, Uv 0, Iv 0]) (Bv false) [] ?_))
                rw [scale_big hok hneg (pow_big hz (by omega))]; rfl
            · replace hz := bt hz
              refine iT (vc_seqr rfl (iQ 3 (iE 103 [(1, Ia p), (2, Ia m), (3, .p 3 0), (6, .p 6 0), (7, Ba true), (8, Ia z35), (11, .p 11 0), (29, Ba false), (37, Ba false), (72, Ba true)] [(3, [Bv s, Hw A, Lw A, Iv e]), (6, [Bv s, Hw A, Lw A, Iv z69]), (11, [Bv s, Hw A, Lw A, Iv z69])] ?_)))
              refine vc_ret (seq_r (iS (.agg [Bv s, Hw A, Lw A, Iv z69]) (Bv true) [] ?_))
              rw [hz, scale_up hok hneg (by rw [Nat.zero_mul]; decide), Nat.zero_mul, show -p = z69 by omega]; rfl
          · replace hc37 := bt hc37
            refine iT (vc_seqr rfl (iQ 9 (iC 57 [.agg [Bv s, Uv 0, Uv 0, Hw A, Lw A, Iv e, Bv false], Iv z35, Iv m] (some 47) (c_Cut1 hA (by omega) (by omega) (by omega)) ?_)))
            rintro _ rfl
            have hQ : cutQ m s A false (-p - e).toNat = cutQ m s A false z35.toNat := by rw [show -p - e = z35 by omega]
            have hQE : cutQ m s A false z35.toNat < E34 := cut_lt hA
            have hQB := Nat.lt_trans hQE e34_lt
            refine iQ 2 (iE 103 [(1, Ia p), (2, Ia m), (3, .p 3 0), (6, .p 6 0), (7, Ba false), (8, Ia z35), (9, .p 9 0), (29, Ba false), (37, Ba true)] [(3, [Bv s, Hw A, Lw A, Iv e]), (6, [Bv false, Uv 0, Uv 0, Iv 0]), (9, [Bv s, Hw 0, Lw 0, Hw (cutQ m s A false z35.toNat), Lw (cutQ m s A false z35.toNat), Iv (e + (z35.toNat : Int)), Bv false])] ?_)
            refine vc_seqr rfl (iQ 3 ?_)
            cases s
            · skip
              refine iQ 8 (iU .neg (.int .i64 p) (some 59) ?_)
              intro z59 hz59
              try replace hz59 := hz59.i64 (by omega)
              refine iQ 3 (iE 103 [(1, Ia p), (2, Ia m), (3, .p 3 0), (6, .p 6 0), (7, Ba false), (8, Ia z35), (9, .p 9 0), (10, .p 10 0), (29, Ba false), (37, Ba true)] [(3, [Bv false, Hw A, Lw A, Iv e]), (6, [Bv false, Uv 0, Uv 0, Iv 0]), (9, [Bv false, Hw 0, Lw 0, Hw (cutQ m false A false z35.toNat), Lw (cutQ m false A false z35.toNat), Iv (e + (z35.toNat : Int)), Bv false]), (10, [Bv false, Hw (cutQ m false A false z35.toNat), Lw (cutQ m false A false z35.toNat), Iv z59])] ?_)
              refine vc_seqr rfl (iQ 2 (iC 58 [.agg [Bv false, Hw (cutQ m false A false z35.toNat), Lw (cutQ m false A false z35.toNat), Iv z59]] (some 63) (c_May hQB) ?_))
              rintro _ ⟨w, rfl, hw⟩
              refine iQ 2 (iE 103 [(1, Ia p), (2, Ia m), (3, .p 3 0), (6, .p 6 0), (7, Ba w), (8, Ia z35), (9, .p 9 0), (10, .p 10 0), (29, Ba false), (37, Ba true)] [(3, [Bv false, Hw A, Lw A, Iv e]), (6, [Bv false, Hw (cutQ m false A false z35.toNat), Lw (cutQ m false A false z35.toNat), Iv z59]), (9, [Bv false, Hw 0, Lw 0, Hw (cutQ m false A false z35.toNat), Lw (cutQ m false A false z35.toNat), Iv (e + (z35.toNat : Int)), Bv false]), (10, [Bv false, Hw (cutQ m false A false z35.toNat), Lw (cutQ m false A false z35.toNat), Iv z59])] ?_)
              refine vc_ret (seq_r (iS (.agg [Bv false, Hw (cutQ m false A false z35.toNat), Lw (cutQ m false A false z35.toNat), Iv z59]) (Bv w) [] ?_))
              rw [scale_cut hok (by omega) hQ, hw.2 ⟨hQE, by omega, by omega, fun h => by cases h⟩, show -p = z59 by omega]; rfl
            · skip
              refine iQ 2 (iC 56 [.agg [Hw (cutQ m true A false z35.toNat), Lw (cutQ m true A false z35.toNat)]] (some 53) (cw_Zero hQB) ?_)
              rintro _ ⟨z, rfl, hz⟩
              refine iU .not (.bool z) (some 54) ?_
              intro c54 hc54
              refine iQ 4 (iU .neg (.int .i64 p) (some 59) ?_)
              intro z59 hz59
              try replace hz59 := hz59.i64 (by omega)
              refine iQ 3 (iE 103 [(1, Ia p), (2, Ia m), (3, .p 3 0), (6, .p 6 0), (7, Ba false), (8, Ia z35), (9, .p 9 0), (10, .p 10 0), (29, Ba false), (37, Ba true)] [(3, [Bv true, Hw A, Lw A, Iv e]), (6, [Bv false, Uv 0, Uv 0, Iv 0]), (9, [Bv true, Hw 0, Lw 0, Hw (cutQ m true A false z35.toNat), Lw (cutQ m true A false z35.toNat), Iv (e + (z35.toNat : Int)), Bv false]), (10, [Bv c54, Hw (cutQ m true A false z35.toNat), Lw (cutQ m true A false z35.toNat), Iv z59])] ?_)
              refine vc_seqr rfl (iQ 2 (iC 58 [.agg [Bv c54, Hw (cutQ m true A false z35.toNat), Lw (cutQ m true A false z35.toNat), Iv z59]] (some 63) (c_May hQB) ?_))
              rintro _ ⟨w, rfl, hw⟩
              have hsg : (true && decide (cutQ m true A false z35.toNat ≠ 0)) = c54 := by rw [Bool.eq_iff_iff, hc54]; cases z <;> simp_all
              refine iQ 2 (iE 103 [(1, Ia p), (2, Ia m), (3, .p 3 0), (6, .p 6 0), (7, Ba w), (8, Ia z35), (9, .p 9 0), (10, .p 10 0), (29, Ba false), (37, Ba true)] [(3, [Bv true, Hw A, Lw A, Iv e]), (6, [Bv c54, Hw (cutQ m true A false z35.toNat), Lw (cutQ m true A false z35.toNat), Iv z59]), (9, [Bv true, Hw 0, Lw 0, Hw (cutQ m true A false z35.toNat), Lw (cutQ m true A false z35.toNat), Iv (e + (z35.toNat : Int)), Bv false]), (10, [Bv c54, Hw (cutQ m true A false z35.toNat), Lw (cutQ m true A false z35.toNat), Iv z59])] ?_)
              refine vc_ret (seq_r (iS (.agg [Bv c54, Hw (cutQ m true A false z35.toNat), Lw (cutQ m true A false z35.toNat), Iv z59]) (Bv w) [] ?_))
              rw [scale_cut hok (by omega) hQ, hw.2 ⟨hQE, by omega, by omega, fun h h0 => by rw [hz.2 h0] at hc54; rw [h] at hc54; simp at hc54⟩, show -p = z59 by omega, hsg]; rfl
        · replace hc28 := bt hc28
          refine iT (vc_seqr rfl (iQ 3 (iE 103 [(1, Ia p), (2, Ia m), (3, .p 3 0), (6, .p 6 0), (7, Ba false), (29, Ba true)] [(3, [Bv s, Hw A, Lw A, Iv e]), (6, [Bv false, Uv 0, Uv 0, Iv 0])] ?_)))
          refine vc_ret (seq_r (iS (.agg [Bv false, Uv 0, Uv 0, Iv 0]) (Bv false) [] ?_))
          rw [scale_none (by omega)]; rfl
      · replace hc24 := bt hc24
        refine iQ 3 (iE 103 [(1, Ia p), (2, Ia m), (3, .p 3 0), (6, .p 6 0), (7, Ba false), (29, Ba true)] [(3, [Bv s, Hw A, Lw A, Iv e]), (6, [Bv false, Uv 0, Uv 0, Iv 0])] ?_)
        refine iT (vc_seqr rfl (iQ 3 (iE 103 [(1, Ia p), (2, Ia m), (3, .p 3 0), (6, .p 6 0), (7, Ba false), (29, Ba true)] [(3, [Bv s, Hw A, Lw A, Iv e]), (6, [Bv false, Uv 0, Uv 0, Iv 0])] ?_)))
        refine vc_ret (seq_r (iS (.agg [Bv false, Uv 0, Uv 0, Iv 0]) (Bv false) [] ?_))
        rw [scale_none (by omega)]; rfl
    · replace hc20 := bt hc20
      refine iQ 7 (iE 103 [(1, Ia p), (2, Ia m), (3, .p 3 0), (6, .p 6 0), (7, Ba false), (29, Ba true)] [(3, [Bv s, Hw A, Lw A, Iv e]), (6, [Bv false, Uv 0, Uv 0, Iv 0])] ?_)
      refine iT (vc_seqr rfl (iQ 3 (iE 103 [(1, Ia p), (2, Ia m), (3, .p 3 0), (6, .p 6 0), (7, Ba false), (29, Ba true)] [(3, [Bv s, Hw A, Lw A, Iv e]), (6, [Bv false, Uv 0, Uv 0, Iv 0])] ?_)))
      refine vc_ret (seq_r (iS (.agg [Bv false, Uv 0, Uv 0, Iv 0]) (Bv false) [] ?_))
      rw [scale_none (by omega)]; rfl
  · replace hc17 := bt hc17
    refine iQ 11 (iE 103 [(1, Ia p), (2, Ia m), (3, .p 3 0), (6, .p 6 0), (7, Ba false), (29, Ba true)] [(3, [Bv s, Hw A, Lw A, Iv e]), (6, [Bv false, Uv 0, Uv 0, Iv 0])] ?_)
    refine iT (vc_seqr rfl (iQ 3 (iE 103 [(1, Ia p), (2, Ia m), (3, .p 3 0), (6, .p 6 0), (7, Ba false), (29, Ba true)] [(3, [Bv s, Hw A, Lw A, Iv e]), (6, [Bv false, Uv 0, Uv 0, Iv 0])] ?_)))
    refine vc_ret (seq_r (iS (.agg [Bv false, Uv 0, Uv 0, Iv 0]) (Bv false) [] ?_))
    rw [scale_none (by omega)]; rfl

def dDec3 (t : Bool × Nat × Int) : DV := dDec t.1 t.2.1 t.2.2
theorem c_rndWhole {s : Bool} {A : Nat} {e m : Int} (hA : A < E34) (hs : A = 0 → s = false) (h1 : -6176 ≤ e) (h2 : e ≤ 6111) (hm0 : 1 ≤ m) (hm1 : m ≤ 7) : HasC Try.prog 22 [.agg [.v (.bool s), .v (.int .u64 (hiW (A))), .v (.int .u64 (loW (A))), .v (.int .i64 e)], .v (.int .i64 m)] (fun y => y = dDec3 (wholeT m s A e)) := by
  refine HasC.of [] (fn := Try.f22) tyOk mixed (fun args w => Try.call22 args w) Try.func22 rfl (by kernel_rfl) (Nat.le_of_ble_eq_true rfl) (⟨_, rfl⟩) ?_
  refine vc_seqr rfl (iQ 2 (iE 18 [(1, Ia m), (2, .p 2 0), (4, .p 4 0)] [(2, [Bv s, Hw A, Lw A, Iv e]), (4, [Bv false, Uv 0, Uv 0, Iv 0])] ?_))
  refine vc_seq (vc_seqr rfl (iQ 2 (iB .geq 3 (.int .i64 e) (.int .i64 0) (some 9) ?_)))
  intro c9 hc9
  refine iE 18 [(1, Ia m), (2, .p 2 0), (4, .p 4 0), (9, Ba c9)] [(2, [Bv s, Hw A, Lw A, Iv e]), (4, [Bv false, Uv 0, Uv 0, Iv 0])] ?_
  cases c9
  · replace hc9 := bf hc9
    refine iF (vc_skip (seq_n (vc_seqr rfl (iQ 2 (iC 16 [.agg [Bv s, Hw A, Lw A, Iv e], Iv 0, Iv m] (some 14) (fit_as (c_Scale hA hs h1 h2 (by decide) (by decide)) (whole_scale hm0 hm1 (by omega))) ?_)))))
    rintro _ rfl
    refine iQ 6 (iE 18 [(2, .p 2 0), (4, .p 4 0), (5, .p 5 0), (9, Ba false)] [(2, [Bv s, Hw A, Lw A, Iv e]), (4, [Bv false, Uv 0, Uv 0, Iv 0]), (5, [Bv ((wholeT m s A e).1), Hw ((wholeT m s A e).2.1), Lw ((wholeT m s A e).2.1), Iv ((wholeT m s A e).2.2)])] ?_)
    refine vc_seqr rfl (iQ 2 (iE 18 [(2, .p 2 0), (4, .p 4 0), (5, .p 5 0), (9, Ba false)] [(2, [Bv s, Hw A, Lw A, Iv e]), (4, [Bv ((wholeT m s A e).1), Hw ((wholeT m s A e).2.1), Lw ((wholeT m s A e).2.1), Iv ((wholeT m s A e).2.2)]), (5, [Bv ((wholeT m s A e).1), Hw ((wholeT m s A e).2.1), Lw ((wholeT m s A e).2.1), Iv ((wholeT m s A e).2.2)])] ?_))
    refine vc_ret (iR (.agg [Bv ((wholeT m s A e).1), Hw ((wholeT m s A e).2.1), Lw ((wholeT m s A e).2.1), Iv ((wholeT m s A e).2.2)]) ?_)
    rfl
  · replace hc9 := bt hc9
    refine iT (vc_seqr rfl (iQ 2 (iE 18 [(1, Ia m), (2, .p 2 0), (4, .p 4 0), (9, Ba true)] [(2, [Bv s, Hw A, Lw A, Iv e]), (4, [Bv s, Hw A, Lw A, Iv e])] ?_)))
    refine vc_ret (seq_r (iR (.agg [Bv s, Hw A, Lw A, Iv e]) ?_))
    rw [wholeT, if_pos (by omega)]; rfl

theorem c_Floor {s : Bool} {A : Nat} {e : Int} (hA : A < E34) (hs : A = 0 → s = false) (h1 : -6176 ≤ e) (h2 : e ≤ 6111) : HasC Try.prog 30 [.agg [.v (.bool s), .v (.int .u64 (hiW (A))), .v (.int .u64 (loW (A))), .v (.int .i64 e)]] (fun y => y = dDec3 (wholeT 6 s A e)) := by
  refine HasC.of [] (fn := Try.f30) tyOk mixed (fun args w => Try.call30 args w) Try.func30 rfl (by kernel_rfl) (Nat.le_of_ble_eq_true rfl) (⟨_, rfl⟩) ?_
  refine vc_seqr rfl (iQ 2 (iE 5 [(1, .p 1 0), (2, .p 2 0)] [(1, [Bv s, Hw A, Lw A, Iv e]), (2, [Bv false, Uv 0, Uv 0, Iv 0])] ?_))
  refine vc_seqr rfl (iQ 1 (iC 22 [.agg [Bv s, Hw A, Lw A, Iv e], Iv 6] (some 4) (c_rndWhole (m := 6) hA hs h1 h2 (by decide) (by decide)) ?_))
  rintro _ rfl
  refine iQ 1 (iE 5 [(2, .p 2 0)] [(2, [Bv ((wholeT 6 s A e).1), Hw ((wholeT 6 s A e).2.1), Lw ((wholeT 6 s A e).2.1), Iv ((wholeT 6 s A e).2.2)])] ?_)
  refine vc_ret (iR (.agg [Bv ((wholeT 6 s A e).1), Hw ((wholeT 6 s A e).2.1), Lw ((wholeT 6 s A e).2.1), Iv ((wholeT 6 s A e).2.2)]) ?_)
  rfl
theorem c_Ceiling {s : Bool} {A : Nat} {e : Int} (hA : A < E34) (hs : A = 0 → s = false) (h1 : -6176 ≤ e) (h2 : e ≤ 6111) : HasC Try.prog 32 [.agg [.v (.bool s), .v (.int .u64 (hiW (A))), .v (.int .u64 (loW (A))), .v (.int .i64 e)]] (fun y => y = dDec3 (wholeT 7 s A e)) := by
  refine HasC.of [] (fn := Try.f32) tyOk mixed (fun args w => Try.call32 args w) Try.func32 rfl (by kernel_rfl) (Nat.le_of_ble_eq_true rfl) (⟨_, rfl⟩) ?_
  refine vc_seqr rfl (iQ 2 (iE 5 [(1, .p 1 0), (2, .p 2 0)] [(1, [Bv s, Hw A, Lw A, Iv e]), (2, [Bv false, Uv 0, Uv 0, Iv 0])] ?_))
  refine vc_seqr rfl (iQ 1 (iC 22 [.agg [Bv s, Hw A, Lw A, Iv e], Iv 7] (some 4) (c_rndWhole (m := 7) hA hs h1 h2 (by decide) (by decide)) ?_))
  rintro _ rfl
  refine iQ 1 (iE 5 [(2, .p 2 0)] [(2, [Bv ((wholeT 7 s A e).1), Hw ((wholeT 7 s A e).2.1), Lw ((wholeT 7 s A e).2.1), Iv ((wholeT 7 s A e).2.2)])] ?_)
  refine vc_ret (iR (.agg [Bv ((wholeT 7 s A e).1), Hw ((wholeT 7 s A e).2.1), Lw ((wholeT 7 s A e).2.1), Iv ((wholeT 7 s A e).2.2)]) ?_)
  rfl
theorem whole_ex3 {P : Program} {f : FuncId} {ds : List DV} {t : Bool × Nat × Int} (h : HasC P f ds (fun y => y = dDec3 t)) : HasC P f ds (fun y => ∃ g k x, y = dDec g k x ∧ t = (g, k, x)) :=
  h.mono fun y hy => ⟨_, _, _, hy, rfl⟩

theorem fit3_as {P : Program} {f : FuncId} {ds : List DV} {t : Bool × Nat × Int} {g : Bool} {k : Nat} {x : Int} (h : HasC P f ds (fun y => y = dDec3 t)) (ht : t = (g, k, x)) : HasC P f ds (fun y => y = dDec g k x) := by
  subst ht
  exact h
/-- Whether a number is whole, and its last digit leaves so much by 2. -/
def parP (s : Bool) (A : Nat) (e left : Int) (f : Bool × Nat × Int) : Prop :=
  cmpZ f.1 f.2.1 f.2.2 s A e = 0 ∧ (((0 < e ∨ A = 0) ∧ left = 0) ∨ (¬ (0 < e ∨ A = 0) ∧ ((f.2.1 % 2 : Nat) : Int) = left))

theorem lo_par {s g : Bool} {A k : Nat} {e x left z : Int} (hz : z = loW k % 2) (h0 : cmpZ g k x s A e = 0) (hez : ¬ (0 < e ∨ A = 0)) : z = left ↔ parP s A e left (g, k, x) := by
  have e1 : loW k % 2 = ((k % 2 : Nat) : Int) := by
    unfold loW
    omega
  rw [hz, e1]
  constructor
  · intro h
    exact ⟨h0, .inr ⟨hez, h⟩⟩
  · intro h
    rcases h.2 with h | h
    · exact absurd h.1 hez
    · exact h.2

set_option maxHeartbeats 1600000 in
theorem c_parity {s : Bool} {A : Nat} {e left : Int} (hA : A < E34) (hs : A = 0 → s = false) (h1 : -6176 ≤ e) (h2 : e ≤ 6111) : HasC Try.prog 68 [.agg [.v (.bool s), .v (.int .u64 (hiW (A))), .v (.int .u64 (loW (A))), .v (.int .i64 e)], .v (.int .u64 left)] (fun y => ∃ b, y = .v (.bool b) ∧ (b = true ↔ parP s A e left (wholeT 6 s A e))) := by
  refine HasC.of [] (fn := Try.f68) tyOk mixed (fun args w => Try.call68 args w) Try.func68 rfl (by kernel_rfl) (Nat.le_of_ble_eq_true rfl) (⟨_, @decide (parP s A e left (wholeT 6 s A e)) (Classical.propDecidable _), rfl, by simp⟩) ?_
  obtain ⟨w1, w2, w3, w4⟩ := whole_range (m := 6) hA hs h2
  obtain ⟨t, ht⟩ : ∃ t, wholeT 6 s A e = t := ⟨_, rfl⟩
  rw [ht] at w1 w2 w3 w4
  rw [ht]
  obtain ⟨g, k, x⟩ := t
  simp only at w1 w2 w3 w4
  refine vc_seqr rfl (iQ 2 (iE 26 [(1, .d (Uv left)), (2, .p 2 0), (4, Ba false)] [(2, [Bv s, Hw A, Lw A, Iv e])] ?_))
  refine vc_seq (vc_seqr rfl (iQ 1 (iC 30 [.agg [Bv s, Hw A, Lw A, Iv e]] (some 6) (fit3_as (c_Floor hA hs h1 h2) ht) ?_)))
  rintro _ rfl
  refine iQ 1 (iC 25 [.agg [Bv g, Hw k, Lw k, Iv x], .agg [Bv s, Hw A, Lw A, Iv e]] (some 8) (c_decCmp w1 hA (by omega) (by omega) (by omega) (by omega)) ?_)
  rintro _ rfl
  refine iB .neq 3 (.int .i64 (cmpZ g k x s A e)) (.int .i64 0) (some 9) ?_
  intro c9 hc9
  refine iE 26 [(1, .d (Uv left)), (2, .p 2 0), (4, Ba false), (9, Ba c9)] [(2, [Bv s, Hw A, Lw A, Iv e])] ?_
  cases c9
  · replace hc9 := bf hc9
    have h0 : cmpZ g k x s A e = 0 := Decidable.not_not.1 hc9
    refine iF (vc_skip (seq_n (vc_seq (vc_seqr rfl (iQ 2 (iB .gtr 3 (.int .i64 e) (.int .i64 0) (some 12) ?_))))))
    intro c12 hc12
    refine iQ 1 ?_
    cases c12
    · replace hc12 := bf hc12
      refine iQ 1 (iC 59 [.agg [Bv s, Hw A, Lw A, Iv e]] (some 15) (c_Zero (Nat.lt_trans hA e34_lt)) ?_)
      rintro _ ⟨z, rfl, hz⟩
      refine iQ 1 (iE 26 [(1, .d (Uv left)), (2, .p 2 0), (4, Ba false), (9, Ba false), (16, Ba z)] [(2, [Bv s, Hw A, Lw A, Iv e])] ?_)
      cases z
      · replace hz := bf hz
        have hez : ¬ (0 < e ∨ A = 0) := fun h => by rcases h with h | h; exact hc12 h; exact hz h
        refine iF (vc_skip (seq_n (vc_seqr rfl (iQ 1 (iC 30 [.agg [Bv s, Hw A, Lw A, Iv e]] (some 20) (fit3_as (c_Floor hA hs h1 h2) ht) ?_)))))
        rintro _ rfl
        refine iQ 2 (iB .and 22 (.int .u64 (loW (k))) (.int .u64 1) (some 23) ?_)
        intro z23 hz23
        have h23 := and_one hz23 (lo_range k).1 (lo_range k).2
        refine iQ 1 (iB .eql 22 (.int .u64 z23) (.int .u64 left) (some 25) ?_)
        intro c25 hc25
        refine iQ 1 (iE 26 [(1, .d (Uv left)), (2, .p 2 0), (4, Ba c25), (9, Ba false), (16, Ba false)] [(2, [Bv s, Hw A, Lw A, Iv e])] ?_)
        refine vc_ret (iR (Bv c25) ?_)
        exact ⟨_, rfl, by rw [hc25]; exact lo_par h23 h0 hez⟩
      · replace hz := bt hz
        have hez : 0 < e ∨ A = 0 := .inr hz
        refine iT (vc_seqr rfl (iQ 1 (iB .eql 22 (.int .u64 left) (.int .u64 0) (some 18) ?_)))
        intro c18 hc18
        refine iQ 1 (iE 26 [(1, .d (Uv left)), (2, .p 2 0), (4, Ba c18), (9, Ba false), (16, Ba true)] [(2, [Bv s, Hw A, Lw A, Iv e])] ?_)
        refine vc_ret (seq_r (iR (Bv c18) ?_))
        exact ⟨_, rfl, by rw [hc18]; exact ⟨fun h => ⟨h0, .inl ⟨hez, h⟩⟩, fun h => by rcases h.2 with h | h; exact h.2; exact absurd hez h.1⟩⟩
    · replace hc12 := bt hc12
      refine iQ 3 (iE 26 [(1, .d (Uv left)), (2, .p 2 0), (4, Ba false), (9, Ba false), (16, Ba true)] [(2, [Bv s, Hw A, Lw A, Iv e])] ?_)
      have hez : 0 < e ∨ A = 0 := .inl hc12
      refine iT (vc_seqr rfl (iQ 1 (iB .eql 22 (.int .u64 left) (.int .u64 0) (some 18) ?_)))
      intro c18 hc18
      refine iQ 1 (iE 26 [(1, .d (Uv left)), (2, .p 2 0), (4, Ba c18), (9, Ba false), (16, Ba true)] [(2, [Bv s, Hw A, Lw A, Iv e])] ?_)
      refine vc_ret (seq_r (iR (Bv c18) ?_))
      exact ⟨_, rfl, by rw [hc18]; exact ⟨fun h => ⟨h0, .inl ⟨hez, h⟩⟩, fun h => by rcases h.2 with h | h; exact h.2; exact absurd hez h.1⟩⟩
  · replace hc9 := bt hc9
    refine iT (vc_seqr rfl (iQ 1 (iE 26 [(1, .d (Uv left)), (2, .p 2 0), (4, Ba false), (9, Ba true)] [(2, [Bv s, Hw A, Lw A, Iv e])] ?_)))
    refine vc_ret (seq_r (iR (Bv false) ?_))
    exact ⟨_, rfl, ⟨fun h => (by cases h), fun h => absurd h.1 hc9⟩⟩

theorem c_Even {s : Bool} {A : Nat} {e : Int} (hA : A < E34) (hs : A = 0 → s = false) (h1 : -6176 ≤ e) (h2 : e ≤ 6111) : HasC Try.prog 23 [.agg [.v (.bool s), .v (.int .u64 (hiW (A))), .v (.int .u64 (loW (A))), .v (.int .i64 e)]] (fun y => ∃ b, y = .v (.bool b) ∧ (b = true ↔ parP s A e 0 (wholeT 6 s A e))) := by
  refine HasC.of [] (fn := Try.f23) tyOk mixed (fun args w => Try.call23 args w) Try.func23 rfl (by kernel_rfl) (Nat.le_of_ble_eq_true rfl) (⟨_, @decide (parP s A e 0 (wholeT 6 s A e)) (Classical.propDecidable _), rfl, by simp⟩) ?_
  refine vc_seqr rfl (iQ 2 (iE 5 [(1, .p 1 0), (2, Ba false)] [(1, [Bv s, Hw A, Lw A, Iv e])] ?_))
  refine vc_seqr rfl (iQ 1 (iC 68 [.agg [Bv s, Hw A, Lw A, Iv e], Uv 0] (some 4) (c_parity hA hs h1 h2) ?_))
  rintro _ ⟨b, rfl, hb⟩
  refine iQ 1 (iE 5 [(2, Ba b)] [] ?_)
  refine vc_ret (iR (Bv b) ?_)
  exact ⟨_, rfl, hb⟩
theorem c_Odd {s : Bool} {A : Nat} {e : Int} (hA : A < E34) (hs : A = 0 → s = false) (h1 : -6176 ≤ e) (h2 : e ≤ 6111) : HasC Try.prog 24 [.agg [.v (.bool s), .v (.int .u64 (hiW (A))), .v (.int .u64 (loW (A))), .v (.int .i64 e)]] (fun y => ∃ b, y = .v (.bool b) ∧ (b = true ↔ parP s A e 1 (wholeT 6 s A e))) := by
  refine HasC.of [] (fn := Try.f24) tyOk mixed (fun args w => Try.call24 args w) Try.func24 rfl (by kernel_rfl) (Nat.le_of_ble_eq_true rfl) (⟨_, @decide (parP s A e 1 (wholeT 6 s A e)) (Classical.propDecidable _), rfl, by simp⟩) ?_
  refine vc_seqr rfl (iQ 2 (iE 5 [(1, .p 1 0), (2, Ba false)] [(1, [Bv s, Hw A, Lw A, Iv e])] ?_))
  refine vc_seqr rfl (iQ 1 (iC 68 [.agg [Bv s, Hw A, Lw A, Iv e], Uv 1] (some 4) (c_parity hA hs h1 h2) ?_))
  rintro _ ⟨b, rfl, hb⟩
  refine iQ 1 (iE 5 [(2, Ba b)] [] ?_)
  refine vc_ret (iR (Bv b) ?_)
  exact ⟨_, rfl, hb⟩

/-- What Modulo answers: from the quotient on; from the product on. -/
noncomputable def modM (s : Bool) (a : Nat) (x : Int) (m : T4) : T4 := if m.2.2.2 = false then (false, 0, 0, false) else addT s a x (!m.1 && decide (m.2.1 ≠ 0)) m.2.1 m.2.2.1
noncomputable def modD (s : Bool) (a : Nat) (x : Int) (t : Bool) (b : Nat) (y : Int) (d : T4) : T4 :=
  if d.2.2.2 = false then (false, 0, 0, false) else modM s a x (mulT (t, b, y, true) ((wholeT 6 d.1 d.2.1 d.2.2.1).1, (wholeT 6 d.1 d.2.1 d.2.2.1).2.1, (wholeT 6 d.1 d.2.1 d.2.2.1).2.2, true))
noncomputable def modT (s : Bool) (a : Nat) (x : Int) (t : Bool) (b : Nat) (y : Int) : T4 := modD s a x t b y (qDivT (s != t) a b (x - y))
theorem mod_no {s : Bool} {a : Nat} {x : Int} {t : Bool} {b : Nat} {y : Int} {g : Bool} {k : Nat} {z : Int} (h : qDivT (s != t) a b (x - y) = (g, k, z, false)) : modT s a x t b y = (false, 0, 0, false) := by
  rw [modT, h, modD, if_pos rfl]
theorem mod_yes {s : Bool} {a : Nat} {x : Int} {t : Bool} {b : Nat} {y : Int} {g g1 : Bool} {k k1 : Nat} {z z1 : Int} {m : T4} (h : qDivT (s != t) a b (x - y) = (g, k, z, true)) (hw : wholeT 6 g k z = (g1, k1, z1)) (hm : mulT (t, b, y, true) (g1, k1, z1, true) = m) : modT s a x t b y = modM s a x m := by
  rw [modT, h, modD, if_neg (by simp)]
  show modM s a x (mulT (t, b, y, true) ((wholeT 6 g k z).1, (wholeT 6 g k z).2.1, (wholeT 6 g k z).2.2, true)) = _
  rw [hw, hm]
theorem modM_no {s : Bool} {a : Nat} {x : Int} {g : Bool} {k : Nat} {z : Int} : modM s a x (g, k, z, false) = (false, 0, 0, false) := if_pos rfl
theorem modM_yes {s : Bool} {a : Nat} {x : Int} {g : Bool} {k : Nat} {z : Int} : modM s a x (g, k, z, true) = addT s a x (!g && decide (k ≠ 0)) k z := if_neg (by simp)
theorem qdiv_range {s : Bool} {a b : Nat} {like : Int} {g : Bool} {k : Nat} {x : Int} {ok : Bool} (h : qDivT s a b like = (g, k, x, ok)) : k < E34 ∧ -6176 ≤ x ∧ x ≤ 6111 ∧ (k = 0 → g = false) := by
  unfold qDivT at h
  split at h
  · obtain ⟨h1, h2, h3, h4⟩ := T4.inj4 h
    subst h1 h2 h3
    exact ⟨by decide, by decide, by decide, fun _ => rfl⟩
  · unfold divT at h
    split at h
    · exact fitT_range h
    · exact fitT_range h
theorem mul_range {t u : T4} {g : Bool} {k : Nat} {x : Int} {ok : Bool} (h : mulT t u = (g, k, x, ok)) : k < E34 ∧ -6176 ≤ x ∧ x ≤ 6111 ∧ (k = 0 → g = false) := fitT_range h

set_option maxHeartbeats 1600000 in
theorem c_Modulo {s t : Bool} {a b : Nat} {x y : Int} (ha : a < E34) (hb : b < E34) (h1 : -6176 ≤ x) (h2 : x ≤ 6111) (h3 : -6176 ≤ y) (h4 : y ≤ 6111) : HasC Try.prog 27 [.agg [.v (.bool s), .v (.int .u64 (hiW (a))), .v (.int .u64 (loW (a))), .v (.int .i64 x)], .agg [.v (.bool t), .v (.int .u64 (hiW (b))), .v (.int .u64 (loW (b))), .v (.int .i64 y)]] (fun r => r = dFit (modT s a x t b y)) := by
  refine HasC.of [] (fn := Try.f27) tyOk mixed (fun args w => Try.call27 args w) Try.func27 rfl (by kernel_rfl) (Nat.le_of_ble_eq_true rfl) (⟨_, rfl⟩) ?_
  refine vc_seqr rfl (iQ 4 (iE 33 [(2, .p 2 0), (3, .p 3 0), (4, .p 4 0), (5, Ba false)] [(2, [Bv s, Hw a, Lw a, Iv x]), (3, [Bv t, Hw b, Lw b, Iv y]), (4, [Bv false, Uv 0, Uv 0, Iv 0])] ?_))
  refine vc_seqr rfl (iQ 2 (iC 28 [.agg [Bv s, Hw a, Lw a, Iv x], .agg [Bv t, Hw b, Lw b, Iv y]] (some 12) (dfit_ex (c_qDiv ha hb (by omega) (by omega) (by omega) (by omega))) ?_))
  rintro _ ⟨g, k, z, ok, rfl, hT⟩
  obtain ⟨r1, r2, r3, r4⟩ := qdiv_range hT
  refine iQ 6 (iE 33 [(2, .p 2 0), (3, .p 3 0), (4, .p 4 0), (5, Ba false), (6, .p 6 0), (7, Ba ok)] [(2, [Bv s, Hw a, Lw a, Iv x]), (3, [Bv t, Hw b, Lw b, Iv y]), (4, [Bv false, Uv 0, Uv 0, Iv 0]), (6, [Bv g, Hw k, Lw k, Iv z])] ?_)
  refine vc_seq (vc_seqr rfl (iQ 1 (iU .not (.bool ok) (some 16) ?_)))
  intro c16 hc16
  refine iE 33 [(2, .p 2 0), (3, .p 3 0), (4, .p 4 0), (5, Ba false), (6, .p 6 0), (7, Ba ok), (16, Ba c16)] [(2, [Bv s, Hw a, Lw a, Iv x]), (3, [Bv t, Hw b, Lw b, Iv y]), (4, [Bv false, Uv 0, Uv 0, Iv 0]), (6, [Bv g, Hw k, Lw k, Iv z])] ?_
  cases c16
  · replace hc16 := bf hc16
    have hok : ok = true := by simpa using hc16
    rw [hok] at hT
    obtain ⟨w1, w2, w3, w4⟩ := whole_range (m := 6) r1 r4 r3
    obtain ⟨tw, htw⟩ : ∃ tw, wholeT 6 g k z = tw := ⟨_, rfl⟩
    rw [htw] at w1 w2 w3 w4
    obtain ⟨g1, k1, z1⟩ := tw
    simp only at w1 w2 w3 w4
    refine iF (vc_skip (seq_n (vc_seqr rfl (iQ 2 (iC 30 [.agg [Bv g, Hw k, Lw k, Iv z]] (some 21) (fit3_as (c_Floor r1 r4 r2 r3) htw) ?_)))))
    rintro _ rfl
    refine iC 29 [.agg [Bv t, Hw b, Lw b, Iv y], .agg [Bv g1, Hw k1, Lw k1, Iv z1]] (some 22) (c_decMulT (o1 := true) (o2 := true) (Nat.lt_trans hb e34_lt) (Nat.lt_trans w1 e34_lt) (by omega) (by omega) (by omega) (by omega)) ?_
    rintro _ ⟨m, l, v, ol, rfl, hM⟩
    have hY := mod_yes (a := a) (x := x) hT htw hM
    obtain ⟨m1, m2, m3, m4⟩ := mul_range hM
    refine iQ 6 (iE 33 [(2, .p 2 0), (3, .p 3 0), (4, .p 4 0), (5, Ba false), (6, .p 6 0), (7, Ba ol), (8, .p 8 0), (16, Ba false)] [(2, [Bv s, Hw a, Lw a, Iv x]), (3, [Bv t, Hw b, Lw b, Iv y]), (4, [Bv false, Uv 0, Uv 0, Iv 0]), (6, [Bv g, Hw k, Lw k, Iv z]), (8, [Bv m, Hw l, Lw l, Iv v])] ?_)
    refine vc_seq (vc_seqr rfl (iQ 1 (iU .not (.bool ol) (some 26) ?_)))
    intro c26 hc26
    refine iE 33 [(2, .p 2 0), (3, .p 3 0), (4, .p 4 0), (5, Ba false), (6, .p 6 0), (7, Ba ol), (8, .p 8 0), (16, Ba false), (26, Ba c26)] [(2, [Bv s, Hw a, Lw a, Iv x]), (3, [Bv t, Hw b, Lw b, Iv y]), (4, [Bv false, Uv 0, Uv 0, Iv 0]), (6, [Bv g, Hw k, Lw k, Iv z]), (8, [Bv m, Hw l, Lw l, Iv v])] ?_
    cases c26
    · replace hc26 := bf hc26
      have hol : ol = true := by simpa using hc26
      rw [hol] at hY
      refine iF (vc_skip (seq_n (vc_seqr rfl (iQ 2 (iC 31 [.agg [Bv s, Hw a, Lw a, Iv x], .agg [Bv m, Hw l, Lw l, Iv v]] (some 30) (dfit_ex (c_decSub ha m1 (by omega) (by omega) (by omega) (by omega))) ?_)))))
      rintro _ ⟨g5, k5, x5, ok5, rfl, hS⟩
      refine iQ 4 (iE 33 [(2, .p 2 0), (3, .p 3 0), (4, .p 4 0), (5, Ba ok5), (6, .p 6 0), (7, Ba ol), (8, .p 8 0), (16, Ba false), (26, Ba false)] [(2, [Bv s, Hw a, Lw a, Iv x]), (3, [Bv t, Hw b, Lw b, Iv y]), (4, [Bv g5, Hw k5, Lw k5, Iv x5]), (6, [Bv g, Hw k, Lw k, Iv z]), (8, [Bv m, Hw l, Lw l, Iv v])] ?_)
      refine vc_ret (iS (.agg [Bv g5, Hw k5, Lw k5, Iv x5]) (Bv ok5) [] ?_)
      rw [hY, modM_yes, hS]; rfl
    · replace hc26 := bt hc26
      have hol : ol = false := hc26
      rw [hol] at hY
      refine iT (vc_seqr rfl (iQ 3 (iE 33 [(2, .p 2 0), (3, .p 3 0), (4, .p 4 0), (5, Ba false), (6, .p 6 0), (7, Ba ol), (8, .p 8 0), (16, Ba false), (26, Ba true)] [(2, [Bv s, Hw a, Lw a, Iv x]), (3, [Bv t, Hw b, Lw b, Iv y]), (4, [Bv false, Uv 0, Uv 0, Iv 0]), (6, [Bv g, Hw k, Lw k, Iv z]), (8, [Bv m, Hw l, Lw l, Iv v])] ?_)))
      refine vc_ret (seq_r (iS (.agg [Bv false, Uv 0, Uv 0, Iv 0]) (Bv false) [] ?_))
      rw [hY, modM_no]; rfl
  · replace hc16 := bt hc16
    have hok : ok = false := hc16
    rw [hok] at hT
    refine iT (vc_seqr rfl (iQ 3 (iE 33 [(2, .p 2 0), (3, .p 3 0), (4, .p 4 0), (5, Ba false), (6, .p 6 0), (7, Ba ok), (16, Ba true)] [(2, [Bv s, Hw a, Lw a, Iv x]), (3, [Bv t, Hw b, Lw b, Iv y]), (4, [Bv false, Uv 0, Uv 0, Iv 0]), (6, [Bv g, Hw k, Lw k, Iv z])] ?_)))
    refine vc_ret (seq_r (iS (.agg [Bv false, Uv 0, Uv 0, Iv 0]) (Bv false) [] ?_))
    rw [mod_no hT]; rfl

end Go.Proofs.Ytfjcblmmfkgkoaa
