/-
  The laws' own functions: Make, Ref, Like; what may be a number is fitted to itself.
-/
import Derived.Test.YtfjcblmmfkgkoaaRefZ
import Derived.Test.YtfjcblmmfkgkoaaLawA
import Derived.Test.YtfjcblmmfkgkoaaVcY
namespace Go.Proofs.Ytfjcblmmfkgkoaa
open Go.RowKit
set_option linter.unusedVariables false
set_option linter.unusedSimpArgs false
set_option maxRecDepth 100000

theorem fitT_own {m : Int} {neg : Bool} {N : Nat} {e : Int} (hN : N < E34) (h1 : -6176 ≤ e) (h2 : e ≤ 6111) : fitT m neg N e false = (if N = 0 then false else neg, N, e, true) := by
  rw [fitT_U _ _ _ _ (by have := nd_le 34 N hN; omega)]
  exact fitU_own hN h1 h2
theorem fitT_own' {m : Int} {neg : Bool} {N : Nat} {e : Int} (hN : N < E34) (h0 : N ≠ 0) (h1 : -6176 ≤ e) (h2 : e ≤ 6111) : fitT m neg N e false = (neg, N, e, true) := by
  rw [fitT_own hN h1 h2, if_neg h0]
theorem fitT_zero {m : Int} {neg : Bool} {e : Int} (h1 : -6176 ≤ e) (h2 : e ≤ 6111) : fitT m neg 0 e false = (false, 0, e, true) := by
  rw [fitT_own (by decide) h1 h2, if_pos rfl]
theorem cw_Div34 {n : Nat} (hn : n < B128) : HasC Try.prog 55 [.agg [.v (.int .u64 0), .v (.int .u64 0)], dU n, dU (10 ^ (34 : Int).toNat)] (fun y => y = .tup [dU (n / E34), dU (n % E34), .v (.bool true)]) := by
  have e : (10 : Nat) ^ (34 : Int).toNat = E34 := by decide
  rw [e, ← dU_0']
  have h := cw_Div_yes (h := 0) (l := n) (d := E34) (by decide) hn (by decide) (by decide)
  rw [Nat.zero_mul, Nat.zero_add] at h
  exact h
theorem tmod6000 {e z : Int} (h : z = e.tmod 6000) : -6176 ≤ z ∧ z ≤ 6111 := by
  have h1 := Int.tmod_lt_of_pos e (show (0 : Int) < 6000 by decide)
  have h2 := Int.lt_tmod_of_pos e (show (0 : Int) < 6000 by decide)
  omega

set_option maxHeartbeats 1600000 in
theorem c_Make {g : Bool} {n : Nat} {e : Int} (hn : n < B128) : HasC Try.prog 15 [.agg [.v (.bool g), .v (.int .u64 (hiW (n))), .v (.int .u64 (loW (n))), .v (.int .i64 e)]] (fun y => ∃ s c x, y = dDec s c x ∧ c < E34 ∧ -6176 ≤ x ∧ x ≤ 6111 ∧ (c = 0 → s = false)) := by
  refine HasC.of [] (fn := Try.f15) tyOk mixed (fun args w => Try.call15 args w) Try.func15 rfl (by kernel_rfl) (Nat.le_of_ble_eq_true rfl) (⟨_, false, 0, 0, rfl, by decide, by decide, by decide, fun _ => rfl⟩) ?_
  refine vc_seqr rfl (iQ 2 (iE 42 [(1, .p 1 0), (2, .p 2 0)] [(1, [Bv g, Hw n, Lw n, Iv e]), (2, [Bv false, Uv 0, Uv 0, Iv 0])] ?_))
  refine vc_seqr rfl (iC 54 [Iv 34] (some 10) (cw_Ten (k := 34) (by decide) (by decide)) ?_)
  rintro _ rfl
  refine iQ 6 (iE 42 [(1, .p 1 0), (2, .p 2 0), (3, .p 3 0)] [(1, [Bv g, Hw n, Lw n, Iv e]), (2, [Bv false, Uv 0, Uv 0, Iv 0]), (3, [Hw (10 ^ (34 : Int).toNat), Lw (10 ^ (34 : Int).toNat)])] ?_)
  refine vc_seqr rfl (iQ 4 (iC 55 [.agg [Uv 0, Uv 0], .agg [Hw n, Lw n], .agg [Hw (10 ^ (34 : Int).toNat), Lw (10 ^ (34 : Int).toNat)]] (some 18) (cw_Div34 hn) ?_))
  rintro _ rfl
  have hc : n % E34 < E34 := Nat.mod_lt _ (by decide)
  have hcB := Nat.lt_trans hc e34_lt
  refine iQ 9 (iE 42 [(1, .p 1 0), (2, .p 2 0), (3, .p 3 0), (6, .p 6 0)] [(1, [Bv g, Hw n, Lw n, Iv e]), (2, [Bv false, Uv 0, Uv 0, Iv 0]), (3, [Hw (10 ^ (34 : Int).toNat), Lw (10 ^ (34 : Int).toNat)]), (6, [Hw (n % E34), Lw (n % E34)])] ?_)
  refine vc_seqr rfl (iQ 3 (iE 42 [(1, .p 1 0), (2, .p 2 0), (3, .p 3 0), (6, .p 6 0), (8, Ia e)] [(1, [Bv g, Hw n, Lw n, Iv e]), (2, [Bv false, Uv 0, Uv 0, Iv 0]), (3, [Hw (10 ^ (34 : Int).toNat), Lw (10 ^ (34 : Int).toNat)]), (6, [Hw (n % E34), Lw (n % E34)])] ?_))
  refine vc_mid 42 (fun (vcx : Int × Bool) => match vcx with | (x, vb29) => [(1, .p 1 0), (2, .p 2 0), (3, .p 3 0), (6, .p 6 0), (8, Ia x), (29, Ba vb29)]) (fun (vcx : Int × Bool) => match vcx with | (x, vb29) => [(1, [Bv g, Hw n, Lw n, Iv e]), (2, [Bv false, Uv 0, Uv 0, Iv 0]), (3, [Hw (10 ^ (34 : Int).toNat), Lw (10 ^ (34 : Int).toNat)]), (6, [Hw (n % E34), Lw (n % E34)])]) (fun (vcx : Int × Bool) => match vcx with | (x, vb29) => -6176 ≤ x ∧ x ≤ 6111) ?_ ?_
  · rintro ⟨x, vb29⟩ hinv
    simp only at hinv
    refine vc_seqr rfl (iQ 3 ?_)
    cases g
    · skip
      refine iQ 8 (iE 42 [(1, .p 1 0), (2, .p 2 0), (3, .p 3 0), (6, .p 6 0), (8, Ia x), (29, Ba vb29)] [(1, [Bv false, Hw n, Lw n, Iv e]), (2, [Bv false, Hw (n % E34), Lw (n % E34), Iv x]), (3, [Hw (10 ^ (34 : Int).toNat), Lw (10 ^ (34 : Int).toNat)]), (6, [Hw (n % E34), Lw (n % E34)])] ?_)
      refine vc_ret (iR (.agg [Bv false, Hw (n % E34), Lw (n % E34), Iv x]) ?_)
      exact ⟨_, _, _, rfl, hc, hinv.1, hinv.2, fun _ => rfl⟩
    · skip
      refine iQ 1 (iC 56 [.agg [Hw (n % E34), Lw (n % E34)]] (some 36) (cw_Zero hcB) ?_)
      rintro _ ⟨z, rfl, hz⟩
      refine iU .not (.bool z) (some 37) ?_
      intro c37 hc37
      refine iQ 5 (iE 42 [(1, .p 1 0), (2, .p 2 0), (3, .p 3 0), (6, .p 6 0), (8, Ia x), (29, Ba vb29)] [(1, [Bv true, Hw n, Lw n, Iv e]), (2, [Bv c37, Hw (n % E34), Lw (n % E34), Iv x]), (3, [Hw (10 ^ (34 : Int).toNat), Lw (10 ^ (34 : Int).toNat)]), (6, [Hw (n % E34), Lw (n % E34)])] ?_)
      refine vc_ret (iR (.agg [Bv c37, Hw (n % E34), Lw (n % E34), Iv x]) ?_)
      exact ⟨_, _, _, rfl, hc, hinv.1, hinv.2, fun h => by rw [hz.2 h] at hc37; exact bff hc37 (by simp)⟩
  intro hmid
  refine vc_seqr rfl (iQ 1 (iB .lss 3 (.int .i64 e) (.int .i64 (-6176)) (some 25) ?_))
  intro c25 hc25
  refine iQ 1 ?_
  cases c25
  · replace hc25 := bf hc25
    refine iQ 1 (iB .gtr 3 (.int .i64 e) (.int .i64 6111) (some 28) ?_)
    intro c28 hc28
    refine iQ 1 (iE 42 [(1, .p 1 0), (2, .p 2 0), (3, .p 3 0), (6, .p 6 0), (8, Ia e), (29, Ba c28)] [(1, [Bv g, Hw n, Lw n, Iv e]), (2, [Bv false, Uv 0, Uv 0, Iv 0]), (3, [Hw (10 ^ (34 : Int).toNat), Lw (10 ^ (34 : Int).toNat)]), (6, [Hw (n % E34), Lw (n % E34)])] ?_)
    cases c28
    · replace hc28 := bf hc28
      refine iF (vc_skip ?_)
      refine mid_n hmid (e, false) (by omega) (by kernel_rfl)
    · replace hc28 := bt hc28
      refine iT (vc_reg rfl (iQ 1 (iB .rem 3 (.int .i64 e) (.int .i64 6000) (some 31) ?_)))
      refine And.intro (by omega) ?_
      intro z31 hz31
      have h31 := tmod6000 hz31
      refine iQ 1 (iE 42 [(1, .p 1 0), (2, .p 2 0), (3, .p 3 0), (6, .p 6 0), (8, Ia z31), (29, Ba true)] [(1, [Bv g, Hw n, Lw n, Iv e]), (2, [Bv false, Uv 0, Uv 0, Iv 0]), (3, [Hw (10 ^ (34 : Int).toNat), Lw (10 ^ (34 : Int).toNat)]), (6, [Hw (n % E34), Lw (n % E34)])] ?_)
      refine mid_n hmid (z31, true) (h31) (by kernel_rfl)
  · replace hc25 := bt hc25
    refine iQ 3 (iE 42 [(1, .p 1 0), (2, .p 2 0), (3, .p 3 0), (6, .p 6 0), (8, Ia e), (29, Ba true)] [(1, [Bv g, Hw n, Lw n, Iv e]), (2, [Bv false, Uv 0, Uv 0, Iv 0]), (3, [Hw (10 ^ (34 : Int).toNat), Lw (10 ^ (34 : Int).toNat)]), (6, [Hw (n % E34), Lw (n % E34)])] ?_)
    refine iT (vc_reg rfl (iQ 1 (iB .rem 3 (.int .i64 e) (.int .i64 6000) (some 31) ?_)))
    refine And.intro (by omega) ?_
    intro z31 hz31
    have h31 := tmod6000 hz31
    refine iQ 1 (iE 42 [(1, .p 1 0), (2, .p 2 0), (3, .p 3 0), (6, .p 6 0), (8, Ia z31), (29, Ba true)] [(1, [Bv g, Hw n, Lw n, Iv e]), (2, [Bv false, Uv 0, Uv 0, Iv 0]), (3, [Hw (10 ^ (34 : Int).toNat), Lw (10 ^ (34 : Int).toNat)]), (6, [Hw (n % E34), Lw (n % E34)])] ?_)
    refine mid_n hmid (z31, true) (h31) (by kernel_rfl)

theorem c_Ref {g : Bool} {n : Nat} {e : Int} (hn : n < B128) : HasC Try.prog 17 [.agg [.v (.bool g), .v (.int .u64 (hiW (n))), .v (.int .u64 (loW (n))), .v (.int .i64 e)]] (fun y => y = dRD g n e) := by
  refine HasC.of [] (fn := Try.f17) tyOk mixed (fun args w => Try.call17 args w) Try.func17 rfl (by kernel_rfl) (Nat.le_of_ble_eq_true rfl) (⟨_, rfl⟩) ?_
  refine vc_seqr rfl (iQ 2 (iE 11 [(1, .p 1 0), (2, .p 2 0)] [(1, [Bv g, Hw n, Lw n, Iv e]), (2, [Bv false, .sl 0 [], Iv 0])] ?_))
  refine vc_seqr rfl (iQ 4 (iC 61 [.agg [Hw n, Lw n]] (some 7) (c_N hn) ?_))
  rintro _ rfl
  refine iQ 4 (iE 11 [(2, .p 2 0)] [(2, [Bv g, .sl (nd (n)) (dg (digs (n))), Iv e])] ?_)
  refine vc_ret (iR (.agg [Bv g, .sl (nd (n)) (dg (digs (n))), Iv e]) ?_)
  rfl

theorem c_LikeT {g : Bool} {n : Nat} {e : Int} (hn : n < B128) : HasC Try.prog 20 [.agg [.v (.bool g), .v (.int .u64 (hiW (n))), .v (.int .u64 (loW (n))), .v (.int .i64 e)], .agg [.v (.bool g), .sl (nd (n)) (dg (digs (n))), .v (.int .i64 e)]] (fun y => y = .v (.bool true)) := by
  refine HasC.of [] (fn := Try.f20) tyOk mixed (fun args w => Try.call20 args w) Try.func20 rfl (by kernel_rfl) (Nat.le_of_ble_eq_true rfl) (⟨_, rfl⟩) ?_
  refine vc_seqr rfl (iQ 3 (iE 26 [(2, .p 2 0), (3, .p 3 0), (4, Ba false)] [(2, [Bv g, Hw n, Lw n, Iv e]), (3, [Bv g, .sl (nd (n)) (dg (digs (n))), Iv e])] ?_))
  refine vc_seqr rfl (iQ 4 (iB .eql 4 (.bool g) (.bool g) (some 9) ?_))
  intro c9 hc9
  refine iQ 1 ?_
  obtain rfl : c9 = true := hc9.2 (rfl)
  refine iQ 4 (iB .eql 3 (.int .i64 e) (.int .i64 e) (some 15) ?_)
  intro c15 hc15
  refine iQ 2 ?_
  obtain rfl : c15 = true := hc15.2 (rfl)
  refine iQ 2 (iC 61 [.agg [Hw n, Lw n]] (some 20) (c_N hn) ?_)
  rintro _ rfl
  have hnn := nd_U hn
  refine iQ 2 (iC 65 [.sl (nd (n)) (dg (digs (n))), .sl (nd (n)) (dg (digs (n)))] (some 23) (c_Cmp (a := n) (b := n) (by omega) (by omega)) ?_)
  rintro _ rfl
  refine iB .eql 3 (.int .i64 (cmpN n n)) (.int .i64 0) (some 24) ?_
  intro c24 hc24
  refine iQ 2 (iE 26 [(4, Ba c24)] [] ?_)
  refine vc_ret (iR (Bv c24) ?_)
  rw [hc24.2 (cmpN_eq n)]

theorem T4.inj {a a' : Bool} {b b' : Nat} {c c' : Int} {d d' : Bool} (h : ((a, b, c, d) : T4) = (a', b', c', d')) : a = a' ∧ b = b' ∧ c = c' ∧ d = d' := by
  simp only [Prod.mk.injEq] at h
  exact h
theorem fit_as {P : Program} {f : FuncId} {ds : List DV} {t : T4} {g : Bool} {k : Nat} {x : Int} {ok : Bool} (h : HasC P f ds (fun y => y = dFit t)) (ht : t = (g, k, x, ok)) : HasC P f ds (fun y => y = .tup [dDec g k x, .v (.bool ok)]) := by
  subst ht
  exact h
theorem rfit_as {P : Program} {f : FuncId} {ds : List DV} {t : T4} {g : Bool} {k : Nat} {x : Int} {ok : Bool} (h : HasC P f ds (fun y => y = dRFit t)) (ht : t = (g, k, x, ok)) : HasC P f ds (fun y => y = .tup [dRD g k x, .v (.bool ok)]) := by
  subst ht
  exact h
theorem c_decMulA {g1 g2 o1 o2 : Bool} {a b : Nat} {x1 x2 : Int} {g : Bool} {k : Nat} {x : Int} {ok : Bool} (hT : mulT (g1, a, x1, o1) (g2, b, x2, o2) = (g, k, x, ok)) (ha : a < B128) (hb : b < B128) (h1 : -100000000000000000 ≤ x1) (h2 : x1 ≤ 100000000000000000) (h3 : -100000000000000000 ≤ x2) (h4 : x2 ≤ 100000000000000000) :
    HasC Try.prog 29 [dDec g1 a x1, dDec g2 b x2] (fun y => y = .tup [dDec g k x, .v (.bool ok)]) :=
  (c_decMulT (o1 := o1) (o2 := o2) ha hb h1 h2 h3 h4).mono fun y ⟨g', k', x', ok', h1, h2⟩ => by
    rw [hT] at h2
    obtain ⟨a1, a2, a3, a4⟩ := T4.inj h2
    rw [h1, a1, a2, a3, a4]

theorem tru {c : Bool} (h : c = true) : c = true ↔ True := by simp [h]
theorem none4 {g : Bool} {k : Nat} {x : Int} {ok : Bool} (h : ((false, 0, 0, false) : T4) = (g, k, x, ok)) : g = false ∧ k = 0 ∧ x = 0 ∧ ok = false := by
  obtain ⟨h1, h2, h3, h4⟩ := T4.inj h
  exact ⟨h1.symm, h2.symm, h3.symm, h4.symm⟩

theorem fitU_range {m : Int} {s : Bool} {N : Nat} {e : Int} {more : Bool} {g : Bool} {k : Nat} {x : Int} {ok : Bool} (ht : fitU m s N e more = (g, k, x, ok)) : k < E34 ∧ -6176 ≤ x ∧ x ≤ 6111 ∧ (k = 0 → g = false) :=
  fitE_range (fit2_lt (cutQ_E34 (by unfold fitKU; omega))) ht

end Go.Proofs.Ytfjcblmmfkgkoaa
