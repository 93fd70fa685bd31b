/-
  numfun: the numbers of some values.
-/
import Derived.Test.YtmldjlgeeljfdaaGreatVlY
import Derived.Test.YtmldjlgeeljfdaaGreatVcK
import Derived.Test.YtmldjlgeeljfdaaGreatSrtS
namespace Go.Proofs.YtmldjlgeeljfdaaGreat
open Go.RowKit
set_option linter.unusedVariables false
set_option linter.unusedSimpArgs false
set_option maxRecDepth 100000
def decC (x : D3) : List DV := [.v (.bool x.g), .v (.int .u64 (hiW x.n)), .v (.int .u64 (loW x.n)), .v (.int .i64 x.e)]
/-- Numbers, as their cells read; as values. -/
def decL (ds : List D3) : List DV := ds.flatMap decC
def D3.vl (x : D3) : Vl := .num x.g x.n x.e
def numL (ds : List D3) : List Vl := ds.map D3.vl
@[simp] theorem numL_len (ds : List D3) : (numL ds).length = ds.length := by simp [numL]
@[simp] theorem decL_len : ∀ ds : List D3, (decL ds).length = ds.length * 4
  | [] => rfl
  | x :: ds => by
    have := decL_len ds
    simp only [decL, List.flatMap_cons, List.length_append, List.length_cons] at this ⊢
    rw [this]
    simp only [decC, List.length_cons, List.length_nil]
    omega
theorem decL_app (a b : List D3) : decL a ++ decL b = decL (a ++ b) := by simp [decL]
theorem decL_one (x : D3) : decL [x] = decC x := by simp [decL]
theorem decL_allOne : ∀ ds : List D3, allOne (decL ds) = true
  | [] => rfl
  | x :: ds => by
    have := decL_allOne ds
    simp only [decL, List.flatMap_cons] at this ⊢
    simp only [decC, List.cons_append, List.nil_append, allOne, DV.one, Value.oneCell', Bool.true_and] at this ⊢
    exact this
theorem decL_get : ∀ {ds : List D3} {k : Nat} {x : D3}, ds[k]? = some x → ((decL ds).drop (k * 4)).take 4 = decC x
  | [], k, x, h => by simp at h
  | y :: ds, 0, x, h => by
    have : y = x := by simpa using h
    subst this
    simp [decL, decC]
  | y :: ds, k + 1, x, h => by
    have e : (k + 1) * 4 = 4 + k * 4 := by omega
    have : decL (y :: ds) = decC y ++ decL ds := by simp [decL]
    rw [e, this, ← List.drop_drop, List.drop_left' (by rfl)]
    exact decL_get (by simpa using h)
theorem numL_get {ds : List D3} {k : Nat} {x : D3} (h : ds[k]? = some x) : (numL ds)[k]? = some (.num x.g x.n x.e) := by simp [numL, h, D3.vl]
theorem take_more {α : Type} {ds : List α} {k : Nat} {x : α} (h : ds[k]? = some x) : ds.take k ++ [x] = ds.take (k + 1) := by
  rw [List.take_add_one, h]; rfl

theorem c_numbers {ds : List D3} (h : ds.length ≤ 1000000) : HasO Tryz.prog 19 [.sl ((numL ds).length) (encL (numL ds))] (ds.length) (fun r => r = .tup [.sl ds.length (decL ds), .v (.bool (decide (0 < ds.length)))]) := by
 refine HasO.of [] (k := 2) (n := ds.length) (fn := Tryz.f19) tyOk mixed (fun args w => Tryz.call19 args w) Tryz.func19 rfl (by kernel_rfl) (Nat.le_of_ble_eq_true rfl) (⟨_, rfl⟩) (.inr ⟨_, rfl⟩) (fun y hy => ⟨_, .inr ⟨_, hy⟩⟩) ?_
 refine vc_seqr rfl (iQ 2 (iE 31 [(0, .d (.sl ((numL ds).length) (encL (numL ds)))), (2, .w (.sl 0 []) none), (3, Ba false)] [] ?_))
 refine vc_seqr rfl (iQ 1 (iE 31 [(0, .d (.sl ((numL ds).length) (encL (numL ds)))), (2, .w (.sl 0 []) none), (3, Ba false), (4, .w (.sl 0 []) none)] [] ?_))
 refine vc_seq (vc_seqr rfl (iQ 3 (iE 31 [(2, .w (.sl 0 []) none), (3, Ba false), (4, .w (.sl 0 []) none), (9, .d (.sl ((numL ds).length) (encL (numL ds)))), (10, Ia ((((numL ds).length : Nat) : Int))), (11, Ia 0)] [] ?_)))
 refine vc_block (vc_loop 31 (fun (vcx : Nat × Int) => match vcx with | (k, z) => [(2, .w (.sl 0 []) none), (3, Ba false), (4, .w (.sl ((ds.take k).length) (decL (ds.take k))) (some ⟨4, 0, 45, 4⟩)), (9, .d (.sl ((numL ds).length) (encL (numL ds)))), (10, Ia ((((numL ds).length : Nat) : Int))), (11, Ia z)]) (fun (vcx : Nat × Int) => match vcx with | (k, z) => []) (fun (vcx : Nat × Int) => match vcx with | (k, z) => z = k ∧ k ≤ ds.length) (fun (vcx : Nat × Int) => match vcx with | (k, z) => ds.length - k) ((0, 0)) (⟨rfl, Nat.zero_le _⟩) (by kernel_rfl) (by kernel_rfl) ?_)
 rintro ⟨k, z⟩ hinv
 simp only at hinv
 obtain ⟨h1, h2⟩ := hinv
 have hl := numL_len ds
 have ht : (ds.take k).length = k := by simp; omega
 refine vc_seqr rfl (iB .lss 3 (.int .i64 z) (.int .i64 ((((numL ds).length : Nat) : Int))) (some 12) ?_)
 intro c12 hc12
 refine iE 31 [(2, .w (.sl 0 []) none), (3, Ba false), (4, .w (.sl ((ds.take k).length) (decL (ds.take k))) (some ⟨4, 0, 45, 4⟩)), (9, .d (.sl ((numL ds).length) (encL (numL ds)))), (10, Ia ((((numL ds).length : Nat) : Int))), (11, Ia z), (12, Ba c12)] [] ?_
 refine vc_seq ?_
 cases c12
 ·replace hc12 := bf hc12
  have hk : k = ds.length := by omega
  refine iF (vc_exit (seq_x (loop_x (block_x rfl (seq_n (vc_seqr rfl (iQ 3 (iB .gtr 3 (.int .i64 ((((ds.take k).length : Nat) : Int))) (.int .i64 0) (some 30) ?_))))))))
  intro c30 hc30
  refine iQ 2 (iE 31 [(2, .w (.sl ((ds.take k).length) (decL (ds.take k))) (some ⟨4, 0, 45, 4⟩)), (3, Ba c30), (4, .w (.sl ((ds.take k).length) (decL (ds.take k))) (some ⟨4, 0, 45, 4⟩)), (9, .d (.sl ((numL ds).length) (encL (numL ds)))), (10, Ia ((((numL ds).length : Nat) : Int))), (11, Ia z), (12, Ba false)] [] ?_)
  refine vc_ret (iSO (.sl ((ds.take k).length) (decL (ds.take k))) (Bv c30) [] ?_)
  have e : ds.take k = ds := by rw [hk, List.take_length]
  have e2 : c30 = decide (0 < ds.length) := by rw [Bool.eq_iff_iff, hc30]; simp; omega
  rw [e2, e]
 ·replace hc12 := bt hc12
  have hk : k < ds.length := by omega
  obtain ⟨x, hx⟩ : ∃ x, ds[k]? = some x := ⟨_, List.getElem?_eq_getElem hk⟩
  refine iT (vc_skip (seq_n (vc_seq (vc_block (vc_seqr rfl (vcI_idx1 (q := z) (n := ((numL ds).length)) (cs := (encL (numL ds))) (d := .bx (Vl.num x.g x.n x.e).enc) (dst := (some 13)) (by kernel_rfl) (by omega) (by rw [h1, Int.toNat_natCast]; exact encL_get1 (numL_get hx)) ?_))))))
  refine iQ 3 (iE 31 [(2, .w (.sl 0 []) none), (3, Ba false), (4, .w (.sl ((ds.take k).length) (decL (ds.take k))) (some ⟨4, 0, 45, 4⟩)), (6, .p 6 0), (9, .d (.sl ((numL ds).length) (encL (numL ds)))), (10, Ia ((((numL ds).length : Nat) : Int))), (11, Ia z), (12, Ba true)] [(6, [.bx (Vl.num x.g x.n x.e).enc])] ?_)
  refine vc_seqr rfl (iQ 1 (iC 43 [.agg [.bx (Vl.num x.g x.n x.e).enc]] (some 17) (c_AsNumN) ?_))
  rintro _ rfl
  refine iQ 6 (iE 31 [(2, .w (.sl 0 []) none), (3, Ba false), (4, .w (.sl ((ds.take k).length) (decL (ds.take k))) (some ⟨4, 0, 45, 4⟩)), (6, .p 6 0), (7, .p 7 0), (8, Ba true), (9, .d (.sl ((numL ds).length) (encL (numL ds)))), (10, Ia ((((numL ds).length : Nat) : Int))), (11, Ia z), (12, Ba true)] [(6, [.bx (Vl.num x.g x.n x.e).enc]), (7, [Bv x.g, Hw x.n, Lw x.n, Iv x.e])] ?_)
  refine vc_seq (vc_seqr rfl (iQ 1 (iU .not (.bool true) (some 21) ?_)))
  refine all_false ((by simp)) ?_
  refine iE 31 [(2, .w (.sl 0 []) none), (3, Ba false), (4, .w (.sl ((ds.take k).length) (decL (ds.take k))) (some ⟨4, 0, 45, 4⟩)), (6, .p 6 0), (7, .p 7 0), (8, Ba true), (9, .d (.sl ((numL ds).length) (encL (numL ds)))), (10, Ia ((((numL ds).length : Nat) : Int))), (11, Ia z), (12, Ba true), (21, Ba false)] [(6, [.bx (Vl.num x.g x.n x.e).enc]), (7, [Bv x.g, Hw x.n, Lw x.n, Iv x.e])] ?_
  refine iF (vc_skip (seq_n (vc_reg rfl (iQ 3 (vcI_app (n := ((ds.take k).length)) (cs := (decL (ds.take k))) (m := 1) (ds := [.v (.bool x.g), .v (.int .u64 (hiW (x.n))), .v (.int .u64 (loW (x.n))), .v (.int .i64 x.e)]) (N := ((ds.take (k + 1)).length)) (es := (decL (ds.take (k + 1)))) (j := 4) (e := 45) (z := 4) (dst := (some 25)) (by kernel_rfl) (by first | rfl | omega | (rw [Nat.mul_one]; exact dg_len _) | (simp [dg]; done) | (simp [dg]; omega)) (by first | rfl | omega | (rw [Nat.mul_one]; exact dg_len _) | (simp [dg]; done) | (simp [dg]; omega)) (rfl) (by omega) (by simp; omega) (by show decL (ds.take k) ++ decC x = _; rw [← decL_one, decL_app, take_more hx]) ?_)))))
  refine iQ 1 (iE 31 [(2, .w (.sl 0 []) none), (3, Ba false), (4, .w (.sl ((ds.take (k + 1)).length) (decL (ds.take (k + 1)))) (some ⟨4, 0, 45, 4⟩)), (6, .p 6 0), (7, .p 7 0), (8, Ba true), (9, .d (.sl ((numL ds).length) (encL (numL ds)))), (10, Ia ((((numL ds).length : Nat) : Int))), (11, Ia z), (12, Ba true), (21, Ba false)] [(6, [.bx (Vl.num x.g x.n x.e).enc]), (7, [Bv x.g, Hw x.n, Lw x.n, Iv x.e])] ?_)
  refine block_n (seq_n (vc_reg rfl (iB .add 3 (.int .i64 z) (.int .i64 1) (some 26) ?_)))
  intro z26 hz26
  try replace hz26 := hz26.i64 (by omega)
  refine iQ 1 (iE 31 [(2, .w (.sl 0 []) none), (3, Ba false), (4, .w (.sl ((ds.take (k + 1)).length) (decL (ds.take (k + 1)))) (some ⟨4, 0, 45, 4⟩)), (6, .p 6 0), (7, .p 7 0), (8, Ba true), (9, .d (.sl ((numL ds).length) (encL (numL ds)))), (10, Ia ((((numL ds).length : Nat) : Int))), (11, Ia z26), (12, Ba true), (21, Ba false)] [(6, [.bx (Vl.num x.g x.n x.e).enc]), (7, [Bv x.g, Hw x.n, Lw x.n, Iv x.e])] ?_)
  refine loop_n (k + 1, z26) (⟨by omega, by omega⟩) (by simp only; omega) (by kernel_rfl) (by kernel_rfl)
end Go.Proofs.YtmldjlgeeljfdaaGreat
