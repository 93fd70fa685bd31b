/-
  equal: whether values are the same; within, among. equal: within, among; truths and values; value.Int.
-/
import Derived.Test.YtpambeengdhhmaaGreatDoorVlF
namespace Go.Proofs.YtpambeengdhhmaaGreatDoor

open Go.RowKit
set_option linter.unusedVariables false
set_option linter.unusedSimpArgs false
set_option maxRecDepth 100000

noncomputable def simpS (a b : Vl) : Int := if b.nullB = true then 1 else match ordV a b with
  | some c => ofI (decide (c = 0))
  | none => 0
mutual
noncomputable def sameV : Vl → Vl → Int
  | .null, b => ofI b.nullB
  | .bool x, b => match b with
    | .null => 1
    | .bool y => ofI (x == y)
    | _ => 0
  | .list xs, b => match b with
    | .null => 1
    | .list ys => if xs.length = ys.length then allV 2 xs ys else 1
    | _ => 0
  | .ctx ns xs, b => match b with
    | .null => 1
    | .ctx ms ys => if ns.length = ms.length then ctxS 2 ns xs ms ys else 1
    | _ => 0
  | .rng lo hi p q, b => match b with
    | .null => 1
    | .rng lo' hi' p' q' => andI (ofI (p == p' && q == q')) (andI (andI 2 (sameV lo lo')) (sameV hi hi'))
    | _ => 0
  | .num g n e, b => simpS (.num g n e) b
  | .text l, b => simpS (.text l) b
  | .day y m d, b => simpS (.day y m d) b
  | .time s z o, b => simpS (.time s z o) b
  | .mom y m d s z o, b => simpS (.mom y m d s z o) b
  | .days n, b => simpS (.days n) b
  | .months n, b => simpS (.months n) b
noncomputable def allV : Int → List Vl → List Vl → Int
  | t, [], _ => t
  | t, x :: xs, [] => t
  | t, x :: xs, y :: ys => allV (andI t (sameV x y)) xs ys
noncomputable def ctxS : Int → List L8 → List Vl → List L8 → List Vl → Int
  | t, _, [], _, _ => t
  | t, [], x :: xs, _, _ => t
  | t, n :: ns, x :: xs, ms, ys => match idxOf n ms with
    | none => 1
    | some k => ctxS (andI t (sameV x (ys.getD k .null))) ns xs ms ys
end
theorem c_NullT {v : Vl} (h : v.kindI = 1) : HasC Tryz.prog 14 [VV v] (fun y => y = .v (.bool true)) := (c_Null v).mono fun y hy => by rw [hy, (nullK v).2 h]
open Go.RowKit
set_option linter.unusedVariables false
set_option linter.unusedSimpArgs false
set_option maxRecDepth 100000

def intV (x : Int) : Vl := .num (decide (x < 0)) x.natAbs 0
theorem may_i64 {x : Int} (h0 : -9223372036854775808 ≤ x) (h1 : x ≤ 9223372036854775807) : May (decide (x < 0)) x.natAbs 0 := ⟨by unfold E34; omega, by decide, by decide, fun h h2 => by have : x < 0 := (by simpa using h); omega⟩
theorem numV_int {x : Int} (h0 : -9223372036854775808 ≤ x) (h1 : x ≤ 9223372036854775807) : numV (decide (x < 0)) x.natAbs 0 = intV x := by rw [numV, if_pos (may_i64 h0 h1), intV]
theorem int_ok {x : Int} (h0 : -9223372036854775808 ≤ x) (h1 : x ≤ 9223372036854775807) : (intV x).ok := by rw [intV, Vl.ok]; exact may_i64 h0 h1
theorem c_vInt {x : Int} (h0 : -9223372036854775808 ≤ x) (h1 : x ≤ 9223372036854775807) : HasC Tryz.prog 17 [.v (.int .i64 x)] (fun r => r = VV (intV x)) := by
 refine HasC.of [] (fn := Tryz.f17) tyOk mixed (fun args w => Tryz.call17 args w) Tryz.func17 rfl (by kernel_rfl) (Nat.le_of_ble_eq_true rfl) (⟨_, rfl⟩) ?_
 refine vc_seqr rfl (iQ 1 (iE 6 [(0, Ia x), (2, .p 2 0)] [(2, [.v (.nilIface)])] ?_))
 refine vc_seqr rfl (iQ 1 (iC 38 [Iv x] (some 4) (c_Int h0 h1) ?_))
 rintro _ rfl
 refine iC 33 [.agg [Bv (decide (x < 0)), Hw x.natAbs, Lw x.natAbs, Iv 0]] (some 5) (c_vNum (Nat.lt_trans (may_i64 h0 h1).1 e34_lt)) ?_
 rintro _ rfl
 refine iQ 1 (iE 6 [(2, .p 2 0)] [(2, [.bx (numV (decide (x < 0)) x.natAbs 0).enc])] ?_)
 refine vc_ret (iR (.agg [.bx (numV (decide (x < 0)) x.natAbs 0).enc]) ?_)
 rw [← numV_int h0 h1]
-- truths as values
def truthV (t : Int) : Vl := if t = 2 then .bool true else if t = 1 then .bool false else .null
theorem v_eValue {t : Int} : HasC Tryz.prog 13 [.v (.int .i64 t)] (fun r => ∃ v, IsV r v ∧ v = truthV t) := by
 refine HasC.of [] (fn := Tryz.f13) tyOk mixed (fun args w => Tryz.call13 args w) Tryz.func13 rfl (by kernel_rfl) (Nat.le_of_ble_eq_true rfl) (⟨_, _, .inl rfl, rfl⟩) ?_
 refine vc_seqr rfl (iQ 1 (iE 11 [(0, Ia t), (2, .p 2 0)] [(2, [.v (.nilIface)])] ?_))
 refine vc_seq (vc_seqr rfl (iQ 1 (iE 11 [(2, .p 2 0), (3, Ia t)] [(2, [.v (.nilIface)])] ?_)))
 refine vc_block (vc_seqr rfl (iB .eql 23 (.int .i64 t) (.int .i64 2) (some 5) ?_))
 intro c5 hc5
 refine iQ 1 (iE 11 [(2, .p 2 0), (3, Ia t), (4, Ba c5)] [(2, [.v (.nilIface)])] ?_)
 cases c5
 ·replace hc5 := bf hc5
  refine iF (vc_seqr rfl (iB .eql 23 (.int .i64 t) (.int .i64 1) (some 8) ?_))
  intro c8 hc8
  refine iQ 1 (iE 11 [(2, .p 2 0), (3, Ia t), (4, Ba false), (7, Ba c8)] [(2, [.v (.nilIface)])] ?_)
  cases c8
  ·replace hc8 := bf hc8
   refine iF (vc_skip (block_n (seq_n (vc_seqr rfl (iQ 2 (iE 11 [(2, .p 2 0), (3, Ia t), (4, Ba false), (7, Ba false)] [(2, [.v (.nilIface)])] ?_))))))
   refine vc_ret (iR (.agg [.v (.nilIface)]) ?_)
   exact ⟨.null, IsV.null, by rw [truthV, if_neg hc5, if_neg hc8]⟩
  ·replace hc8 := bt hc8
   refine iT (vc_seqr rfl (iC 36 [Bv false] (some 9) (c_vBool (p := false)) ?_))
   rintro _ rfl
   refine iQ 1 (iE 11 [(2, .p 2 0), (3, Ia t), (4, Ba false), (7, Ba true)] [(2, [.bx (Vl.bool false).enc])] ?_)
   refine vc_ret (block_r (seq_r (iR (.agg [.bx (Vl.bool false).enc]) ?_)))
   exact ⟨_, .inl rfl, by rw [truthV, if_neg hc5, if_pos hc8]⟩
 ·replace hc5 := bt hc5
  refine iT (vc_seqr rfl (iC 36 [Bv true] (some 6) (c_vBool (p := true)) ?_))
  rintro _ rfl
  refine iQ 1 (iE 11 [(2, .p 2 0), (3, Ia t), (4, Ba true)] [(2, [.bx (Vl.bool true).enc])] ?_)
  refine vc_ret (block_r (seq_r (iR (.agg [.bx (Vl.bool true).enc]) ?_)))
  exact ⟨_, .inl rfl, by rw [truthV, if_pos hc5]⟩
theorem c_eValue {t : Int} : HasC Tryz.prog 13 [.v (.int .i64 t)] (fun r => r = VV (truthV t)) := v_eValue.isV.mono fun r ⟨v, h1, h2⟩ => by rw [h1, h2]
theorem c_AsBoolX {v : Vl} : HasC Tryz.prog 37 [VV v] (fun r => ∃ x ok, r = .tup [.v (.bool x), .v (.bool ok)] ∧ x = (boolOf v).1 ∧ ok = (boolOf v).2) := (c_AsBool v).mono fun r hr => ⟨_, _, hr, rfl, rfl⟩
theorem c_AsRangeX {v lo hi : Vl} {p q is : Bool} (h : rngOf v = ⟨lo, hi, p, q, is⟩) : HasC Tryz.prog 42 [VV v] (fun r => r = .tup [.agg [BV lo, BV hi], .agg [.v (.bool p), .v (.bool q)], .v (.bool is)]) := (c_AsRange v).mono fun r hr => by rw [hr, h]; rfl
theorem rng_ok {v lo hi : Vl} {p q is : Bool} (h : rngOf v = ⟨lo, hi, p, q, is⟩) (o : v.ok) : lo.ok ∧ hi.ok := by
  cases v <;> simp only [rngOf, Ends.mk.injEq] at h <;> obtain ⟨rfl, rfl, rfl, rfl, rfl⟩ := h
  case rng => rw [Vl.ok] at o; exact ⟨o.1, o.2.1⟩
  all_goals exact ⟨null_ok, null_ok⟩
end Go.Proofs.YtpambeengdhhmaaGreatDoor
