/-
  The laws of dec: sums, products, order.
-/
import Derived.Test.YtfjcblmmfkgkoaaLawG
namespace Go.Proofs.Ytfjcblmmfkgkoaa
open Go.RowKit
set_option linter.unusedVariables false
set_option linter.unusedSimpArgs false
set_option maxRecDepth 100000

theorem nd34 {a : Nat} (h : a < E34) : nd a ≤ 100 := Nat.le_trans (nd_le 34 a h) (by decide)

theorem mulT_comm (s1 s2 o1 o2 : Bool) (a b : Nat) (x1 x2 : Int) : mulT (s1, a, x1, o1) (s2, b, x2, o2) = mulT (s2, b, x2, o2) (s1, a, x1, o1) := by
  show fitT 1 (s1 != s2) (a * b) (x1 + x2) false = fitT 1 (s2 != s1) (b * a) (x2 + x1) false
  rw [Nat.mul_comm, Int.add_comm]
  congr 1
  cases s1 <;> cases s2 <;> rfl
theorem mul_one1 {s o o' : Bool} {a : Nat} {x : Int} (ha : a < E34) (h0 : a = 0 → s = false) (h1 : -6176 ≤ x) (h2 : x ≤ 6111) : mulT (s, a, x, o) (false, 1, 0, o') = (s, a, x, true) := by
  show fitT 1 (s != false) (a * 1) (x + 0) false = _
  rw [Nat.mul_one, Int.add_zero, fitT_own ha h1 h2]
  by_cases k : a = 0
  · rw [if_pos k, h0 k]
  · rw [if_neg k]
    cases s <;> rfl
theorem add_neg {s : Bool} {a : Nat} {x : Int} (h0 : a = 0 → s = false) (h1 : -6176 ≤ x) (h2 : x ≤ 6111) : addT s a x (!s && decide (a ≠ 0)) a x = (false, 0, x, true) := by
  have hs : (sumT s a x (!s && decide (a ≠ 0)) a x).2.1 = 0 ∧ (sumT s a x (!s && decide (a ≠ 0)) a x).2.2 = x := by
    unfold sumT
    rw [show min x x = x by omega, show (x - x).toNat = 0 by omega, Nat.pow_zero, Nat.mul_one]
    by_cases k : a = 0
    · rw [h0 k, k]
      simp
    · have hd : decide (a ≠ 0) = true := by simp [k]
      rw [hd, Bool.and_true, if_neg (by cases s <;> simp), if_pos (Nat.le_refl _)]
      simp
  rw [addT, hs.1, hs.2, fitU_own (by decide) h1 h2, if_pos rfl]

theorem cmpZ_range (s1 s2 : Bool) (A B : Nat) (e1 e2 : Int) : -1 ≤ cmpZ s1 A e1 s2 B e2 ∧ cmpZ s1 A e1 s2 B e2 ≤ 1 := by
  unfold cmpZ cmpI
  split
  · omega
  · split <;> omega
theorem cmpZ_trans {s1 s2 s3 : Bool} {A B C : Nat} {e1 e2 e3 : Int} (h1 : cmpZ s1 A e1 s2 B e2 ≤ 0) (h2 : cmpZ s2 B e2 s3 C e3 ≤ 0) : cmpZ s1 A e1 s3 C e3 ≤ 0 := by
  obtain ⟨E, hE⟩ : ∃ E, E = min (min e1 e2) e3 := ⟨_, rfl⟩
  rw [cmpZ_any (E := E) (by omega) (by omega), cmpI_le] at *
  omega
theorem V_neg0 (s : Bool) (A : Nat) (e E : Int) : V (!s && decide (A ≠ 0)) A e E = -V s A e E := by
  by_cases h : A = 0
  · subst h
    rw [V_0, V_0]
    rfl
  · have hd : decide (A ≠ 0) = true := by simp [h]
    rw [hd, Bool.and_true, V_neg]
theorem cmpZ_neg (s1 s2 : Bool) (A B : Nat) (e1 e2 : Int) : cmpZ (!s1 && decide (A ≠ 0)) A e1 (!s2 && decide (B ≠ 0)) B e2 = -cmpZ s1 A e1 s2 B e2 := by
  unfold cmpZ
  rw [V_neg0, V_neg0, cmpI_neg]

theorem c_FitA {m e : Int} {neg : Bool} {N : Nat} {g : Bool} {k : Nat} {x : Int} {ok : Bool} (h : fitT m neg N e false = (g, k, x, ok)) (hN : N < B128) (he0 : -1000000000000000000 ≤ e) (he1 : e ≤ 1000000000000000000) :
    HasC Try.prog 75 [.agg [.v (.bool neg), .v (.int .u64 0), .v (.int .u64 0), .v (.int .u64 (hiW N)), .v (.int .u64 (loW N)), .v (.int .i64 e), .v (.bool false)], .v (.int .i64 m)] (fun y => y = .tup [dDec g k x, .v (.bool ok)]) :=
  (c_FitT1 (m := m) (neg := neg) (more := false) hN he0 he1).mono fun y ⟨g', k', x', ok', h1, h2⟩ => by
    rw [h] at h2
    obtain ⟨a1, a2, a3, a4⟩ := T4.inj h2
    rw [h1, a1, a2, a3, a4]
theorem wide_lt {hi lo : Nat} (h : hi < B128) (k : lo < B128) : nd (hi * B128 + lo) ≤ 78 := nd_U2 h k

end Go.Proofs.Ytfjcblmmfkgkoaa
