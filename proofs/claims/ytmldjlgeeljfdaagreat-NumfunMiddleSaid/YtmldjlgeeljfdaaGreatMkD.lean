/-
  casuistlaw02.Make: a number that may be one, of any numbers.
-/
import Derived.Test.YtmldjlgeeljfdaaGreatVcY
import Derived.Test.YtmldjlgeeljfdaaGreatDecs
namespace Go.Proofs.YtmldjlgeeljfdaaGreat
open Go.RowKit
set_option linter.unusedVariables false
set_option linter.unusedSimpArgs false
set_option maxRecDepth 100000

theorem cw_Div34 {n : Nat} (hn : n < B128) : HasC Tryz.prog 39 [.agg [.v (.int .u64 0), .v (.int .u64 0)], dU n, dU (10 ^ (34 : Int).toNat)] (fun y => y = .tup [dU (n / E34), dU (n % E34), .v (.bool true)]) := by
  have e : (10 : Nat) ^ (34 : Int).toNat = E34 := by decide
  rw [e, ← dU_0']
  have h := cw_Div_yes (h := 0) (l := n) (d := E34) (by decide) hn (by decide) (by decide)
  rw [Nat.zero_mul, Nat.zero_add] at h
  exact h
theorem tmod6000 {e z : Int} (h : z = e.tmod 6000) : -6176 ≤ z ∧ z ≤ 6111 := by
  have h1 := Int.tmod_lt_of_pos e (show (0 : Int) < 6000 by decide)
  have h2 := Int.lt_tmod_of_pos e (show (0 : Int) < 6000 by decide)
  omega

set_option maxHeartbeats 1600000 in
theorem c_Make {g : Bool} {n : Nat} {e : Int} (hn : n < B128) : HasC Tryz.prog 44 [.agg [.v (.bool g), .v (.int .u64 (hiW (n))), .v (.int .u64 (loW (n))), .v (.int .i64 e)]] (fun y => ∃ s c x, y = dDec s c x ∧ c < E34 ∧ -6176 ≤ x ∧ x ≤ 6111 ∧ (c = 0 → s = false)) := by
 refine HasC.of [] (fn := Tryz.f44) tyOk mixed (fun args w => Tryz.call44 args w) Tryz.func44 rfl (by kernel_rfl) (Nat.le_of_ble_eq_true rfl) (⟨_, false, 0, 0, rfl, by decide, by decide, by decide, fun _ => rfl⟩) ?_
 refine vc_seqr rfl (iQ 2 (iE 42 [(1, .p 1 0), (2, .p 2 0)] [(1, [Bv g, Hw n, Lw n, Iv e]), (2, [Bv false, Uv 0, Uv 0, Iv 0])] ?_))
 refine vc_seqr rfl (iC 77 [Iv 34] (some 10) (cw_Ten (k := 34) (by decide) (by decide)) ?_)
 rintro _ rfl
 refine iQ 6 (iE 42 [(1, .p 1 0), (2, .p 2 0), (3, .p 3 0)] [(1, [Bv g, Hw n, Lw n, Iv e]), (2, [Bv false, Uv 0, Uv 0, Iv 0]), (3, [Hw (10 ^ (34 : Int).toNat), Lw (10 ^ (34 : Int).toNat)])] ?_)
 refine vc_seqr rfl (iQ 4 (iC 39 [.agg [Uv 0, Uv 0], .agg [Hw n, Lw n], .agg [Hw (10 ^ (34 : Int).toNat), Lw (10 ^ (34 : Int).toNat)]] (some 18) (cw_Div34 hn) ?_))
 rintro _ rfl
 have hc : n % E34 < E34 := Nat.mod_lt _ (by decide)
 have hcB := Nat.lt_trans hc e34_lt
 refine iQ 9 (iE 42 [(1, .p 1 0), (2, .p 2 0), (3, .p 3 0), (6, .p 6 0)] [(1, [Bv g, Hw n, Lw n, Iv e]), (2, [Bv false, Uv 0, Uv 0, Iv 0]), (3, [Hw (10 ^ (34 : Int).toNat), Lw (10 ^ (34 : Int).toNat)]), (6, [Hw (n % E34), Lw (n % E34)])] ?_)
 refine vc_seqr rfl (iQ 3 (iE 42 [(1, .p 1 0), (2, .p 2 0), (3, .p 3 0), (6, .p 6 0), (8, Ia e)] [(1, [Bv g, Hw n, Lw n, Iv e]), (2, [Bv false, Uv 0, Uv 0, Iv 0]), (3, [Hw (10 ^ (34 : Int).toNat), Lw (10 ^ (34 : Int).toNat)]), (6, [Hw (n % E34), Lw (n % E34)])] ?_))
 refine vc_mid 42 (fun (vcx : Int × Bool) => match vcx with | (x, vb29) => [(1, .p 1 0), (2, .p 2 0), (3, .p 3 0), (6, .p 6 0), (8, Ia x), (29, Ba vb29)]) (fun (vcx : Int × Bool) => match vcx with | (x, vb29) => [(1, [Bv g, Hw n, Lw n, Iv e]), (2, [Bv false, Uv 0, Uv 0, Iv 0]), (3, [Hw (10 ^ (34 : Int).toNat), Lw (10 ^ (34 : Int).toNat)]), (6, [Hw (n % E34), Lw (n % E34)])]) (fun (vcx : Int × Bool) => match vcx with | (x, vb29) => -6176 ≤ x ∧ x ≤ 6111) ?_ ?_
 ·rintro ⟨x, vb29⟩ hinv
  simp only at hinv
  refine vc_seqr rfl (iQ 3 ?_)
  cases g
  ·skip
   refine iQ 8 (iE 42 [(1, .p 1 0), (2, .p 2 0), (3, .p 3 0), (6, .p 6 0), (8, Ia x), (29, Ba vb29)] [(1, [Bv false, Hw n, Lw n, Iv e]), (2, [Bv false, Hw (n % E34), Lw (n % E34), Iv x]), (3, [Hw (10 ^ (34 : Int).toNat), Lw (10 ^ (34 : Int).toNat)]), (6, [Hw (n % E34), Lw (n % E34)])] ?_)
   refine vc_ret (iR (.agg [Bv false, Hw (n % E34), Lw (n % E34), Iv x]) ?_)
   exact ⟨_, _, _, rfl, hc, hinv.1, hinv.2, fun _ => rfl⟩
  ·skip
   refine iQ 1 (iC 40 [.agg [Hw (n % E34), Lw (n % E34)]] (some 36) (cw_Zero hcB) ?_)
   rintro _ ⟨z, rfl, hz⟩
   refine iU .not (.bool z) (some 37) ?_
   intro c37 hc37
   refine iQ 5 (iE 42 [(1, .p 1 0), (2, .p 2 0), (3, .p 3 0), (6, .p 6 0), (8, Ia x), (29, Ba vb29)] [(1, [Bv true, Hw n, Lw n, Iv e]), (2, [Bv c37, Hw (n % E34), Lw (n % E34), Iv x]), (3, [Hw (10 ^ (34 : Int).toNat), Lw (10 ^ (34 : Int).toNat)]), (6, [Hw (n % E34), Lw (n % E34)])] ?_)
   refine vc_ret (iR (.agg [Bv c37, Hw (n % E34), Lw (n % E34), Iv x]) ?_)
   exact ⟨_, _, _, rfl, hc, hinv.1, hinv.2, fun h => by rw [hz.2 h] at hc37; exact bff hc37 (by simp)⟩
 intro hmid
 refine vc_seqr rfl (iQ 1 (iB .lss 3 (.int .i64 e) (.int .i64 (-6176)) (some 25) ?_))
 intro c25 hc25
 refine iQ 1 ?_
 cases c25
 ·replace hc25 := bf hc25
  refine iQ 1 (iB .gtr 3 (.int .i64 e) (.int .i64 6111) (some 28) ?_)
  intro c28 hc28
  refine iQ 1 (iE 42 [(1, .p 1 0), (2, .p 2 0), (3, .p 3 0), (6, .p 6 0), (8, Ia e), (29, Ba c28)] [(1, [Bv g, Hw n, Lw n, Iv e]), (2, [Bv false, Uv 0, Uv 0, Iv 0]), (3, [Hw (10 ^ (34 : Int).toNat), Lw (10 ^ (34 : Int).toNat)]), (6, [Hw (n % E34), Lw (n % E34)])] ?_)
  cases c28
  ·replace hc28 := bf hc28
   refine iF (vc_skip ?_)
   refine mid_n hmid (e, false) (by omega) (by kernel_rfl)
  ·replace hc28 := bt hc28
   refine iT (vc_reg rfl (iQ 1 (iB .rem 3 (.int .i64 e) (.int .i64 6000) (some 31) ?_)))
   refine And.intro (by omega) ?_
   intro z31 hz31
   have h31 := tmod6000 hz31
   refine iQ 1 (iE 42 [(1, .p 1 0), (2, .p 2 0), (3, .p 3 0), (6, .p 6 0), (8, Ia z31), (29, Ba true)] [(1, [Bv g, Hw n, Lw n, Iv e]), (2, [Bv false, Uv 0, Uv 0, Iv 0]), (3, [Hw (10 ^ (34 : Int).toNat), Lw (10 ^ (34 : Int).toNat)]), (6, [Hw (n % E34), Lw (n % E34)])] ?_)
   refine mid_n hmid (z31, true) (h31) (by kernel_rfl)
 ·replace hc25 := bt hc25
  refine iQ 3 (iE 42 [(1, .p 1 0), (2, .p 2 0), (3, .p 3 0), (6, .p 6 0), (8, Ia e), (29, Ba true)] [(1, [Bv g, Hw n, Lw n, Iv e]), (2, [Bv false, Uv 0, Uv 0, Iv 0]), (3, [Hw (10 ^ (34 : Int).toNat), Lw (10 ^ (34 : Int).toNat)]), (6, [Hw (n % E34), Lw (n % E34)])] ?_)
  refine iT (vc_reg rfl (iQ 1 (iB .rem 3 (.int .i64 e) (.int .i64 6000) (some 31) ?_)))
  refine And.intro (by omega) ?_
  intro z31 hz31
  have h31 := tmod6000 hz31
  refine iQ 1 (iE 42 [(1, .p 1 0), (2, .p 2 0), (3, .p 3 0), (6, .p 6 0), (8, Ia z31), (29, Ba true)] [(1, [Bv g, Hw n, Lw n, Iv e]), (2, [Bv false, Uv 0, Uv 0, Iv 0]), (3, [Hw (10 ^ (34 : Int).toNat), Lw (10 ^ (34 : Int).toNat)]), (6, [Hw (n % E34), Lw (n % E34)])] ?_)
  refine mid_n hmid (z31, true) (h31) (by kernel_rfl)

end Go.Proofs.YtmldjlgeeljfdaaGreat
