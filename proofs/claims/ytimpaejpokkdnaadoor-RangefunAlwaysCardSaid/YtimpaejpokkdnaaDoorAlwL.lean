/-
  casuistlaw23's law of two ranges: RangefunAlways.
-/
import Derived.Test.YtimpaejpokkdnaaDoorLeadL
namespace Go.Proofs.YtimpaejpokkdnaaDoor
open Go.RowKit
set_option linter.unusedVariables false
set_option linter.unusedSimpArgs false
set_option maxRecDepth 100000

def w3 : Nat → ByteArray
  | 0 => w_before
  | 1 => w_after
  | _ => w_overlaps
theorem mem_w3 (k : Nat) : w3 k ∈ words := by
  match k with
  | 0 => exact mem_before
  | 1 => exact mem_after
  | _ + 2 => exact mem_overlaps
theorem w3_get {k : Nat} {c : Int} (e : c = k) (h : k = 0 ∨ k = 1 ∨ k = 2) : ([.v (.string ⟨#[98, 101, 102, 111, 114, 101]⟩), .v (.string ⟨#[97, 102, 116, 101, 114]⟩), .v (.string ⟨#[111, 118, 101, 114, 108, 97, 112, 115]⟩)] : List DV)[c.toNat]? = some (.v (.string (w3 k))) := by
  subst e
  rcases h with rfl | rfl | rfl <;> rfl
/-- What the first words say, added up. -/
def sum3 (a0 a1 : Int) (p0 p1 : Bool) (b0 b1 : Int) (q0 q1 : Bool) : Nat → Int
  | 0 => 0
  | k + 1 => sum3 a0 a1 p0 p1 b0 b1 q0 q1 k + (ofI (hB (w3 k) a0 a1 p0 p1 b0 b1 q0 q1) - 1)
theorem ofI_le (p : Bool) : 0 ≤ ofI p - 1 ∧ ofI p - 1 ≤ 1 := by cases p <;> decide
theorem sum3_le {a0 a1 b0 b1 : Int} {p0 p1 q0 q1 : Bool} (k : Nat) : 0 ≤ sum3 a0 a1 p0 p1 b0 b1 q0 q1 k ∧ sum3 a0 a1 p0 p1 b0 b1 q0 q1 k ≤ k := by
  induction k with
  | zero => exact ⟨Int.le_refl _, Int.le_refl _⟩
  | succ k ih =>
    have := ofI_le (hB (w3 k) a0 a1 p0 p1 b0 b1 q0 q1)
    rw [sum3]
    omega
theorem sum3_one {a0 a1 b0 b1 : Int} {p0 p1 q0 q1 : Bool} (ha : a0 < a1) (hb : b0 < b1) : sum3 a0 a1 p0 p1 b0 b1 q0 q1 3 = 1 := by
  simp only [sum3, w3, hB_before, hB_after, hB_overlaps]
  have e : ∀ p : Bool, ofI p - 1 = if p = true then 1 else 0 := by intro p; cases p <;> rfl
  simp only [e, ltE, Bool.and_eq_true, Bool.or_eq_true, decide_eq_true_eq]
  cases p0 <;> cases p1 <;> cases q0 <;> cases q1 <;> simp <;> (repeat' split) <;> omega

set_option maxHeartbeats 1600000 in
theorem c_Always {a0 a1 b0 b1 : Int} {p0 p1 q0 q1 pa pb : Bool} (ha0 : In16 a0) (ha1 : In16 a1) (hb0 : In16 b0) (hb1 : In16 b1) : HasC Tryd.prog 4 [.agg [.v (.int .i16 a0), .v (.int .i16 a1), .v (.bool p0), .v (.bool p1), .v (.bool pa)], .agg [.v (.int .i16 b0), .v (.int .i16 b1), .v (.bool q0), .v (.bool q1), .v (.bool pb)]] (fun r => r = .v (.bool true)) := by
  refine HasC.of [] (fn := Tryd.f4) tyOk mixed (fun args w => Tryd.call4 args w) Tryd.func4 rfl (by kernel_rfl) (Nat.le_of_ble_eq_true rfl) (⟨_, rfl⟩) ?_
  refine vc_seqr rfl (iQ 3 (iE 46 [(2, .p 2 0), (3, .p 3 0), (4, Ba false)] [(2, [.v (.int .i16 a0), .v (.int .i16 a1), Bv p0, Bv p1, Bv pa]), (3, [.v (.int .i16 b0), .v (.int .i16 b1), Bv q0, Bv q1, Bv pb])] ?_))
  refine vc_seq (vc_seqr rfl (iC 5 [] (some 10) (c_awake) ?_))
  rintro _ rfl
  refine iU .not (.bool true) (some 11) ?_
  refine all_false ((by simp)) ?_
  refine iE 46 [(2, .p 2 0), (3, .p 3 0), (4, Ba false), (11, Ba false)] [(2, [.v (.int .i16 a0), .v (.int .i16 a1), Bv p0, Bv p1, Bv pa]), (3, [.v (.int .i16 b0), .v (.int .i16 b1), Bv q0, Bv q1, Bv pb])] ?_
  refine iF (vc_skip (seq_n (vc_seqr rfl (iQ 4 (iE 46 [(2, .p 2 0), (3, .p 3 0), (4, Ba false), (11, Ba false)] [(2, [.v (.int .i16 a0), .v (.int .i16 a1), Bv p0, Bv p1, Bv false]), (3, [.v (.int .i16 b0), .v (.int .i16 b1), Bv q0, Bv q1, Bv false])] ?_)))))
  refine vc_seq (vc_seqr rfl (iQ 4 (iB .geq 22 (.int .i16 a0) (.int .i16 a1) (some 18) ?_)))
  intro c18 hc18
  refine iQ 1 ?_
  cases c18
  · replace hc18 := bf hc18
    refine iQ 4 (iB .geq 22 (.int .i16 b0) (.int .i16 b1) (some 24) ?_)
    intro c24 hc24
    refine iQ 1 (iE 46 [(2, .p 2 0), (3, .p 3 0), (4, Ba false), (11, Ba false), (25, Ba c24)] [(2, [.v (.int .i16 a0), .v (.int .i16 a1), Bv p0, Bv p1, Bv false]), (3, [.v (.int .i16 b0), .v (.int .i16 b1), Bv q0, Bv q1, Bv false])] ?_)
    cases c24
    · replace hc24 := bf hc24
      refine iF (vc_skip (seq_n (vc_seqr rfl (iQ 1 (iC 6 [.agg [.v (.int .i16 a0), .v (.int .i16 a1), Bv p0, Bv p1, Bv false]] (some 27) (c_Make ha0 ha1) ?_)))))
      rintro _ rfl
      refine iQ 1 (iC 6 [.agg [.v (.int .i16 b0), .v (.int .i16 b1), Bv q0, Bv q1, Bv false]] (some 29) (c_Make hb0 hb1) ?_)
      rintro _ rfl
      refine iQ 4 (iE 46 [(2, .p 2 0), (3, .p 3 0), (4, Ba false), (5, .p 5 0), (6, .p 6 0), (11, Ba false), (25, Ba false)] [(2, [.v (.int .i16 a0), .v (.int .i16 a1), Bv p0, Bv p1, Bv false]), (3, [.v (.int .i16 b0), .v (.int .i16 b1), Bv q0, Bv q1, Bv false]), (5, [.ifc (tV false) (cV a0 a1 p0 p1 false)]), (6, [.ifc (tV false) (cV b0 b1 q0 q1 false)])] ?_)
      refine vc_seqr rfl (iQ 1 (iE 46 [(2, .p 2 0), (3, .p 3 0), (4, Ba false), (5, .p 5 0), (6, .p 6 0), (7, Ia 0), (11, Ba false), (25, Ba false)] [(2, [.v (.int .i16 a0), .v (.int .i16 a1), Bv p0, Bv p1, Bv false]), (3, [.v (.int .i16 b0), .v (.int .i16 b1), Bv q0, Bv q1, Bv false]), (5, [.ifc (tV false) (cV a0 a1 p0 p1 false)]), (6, [.ifc (tV false) (cV b0 b1 q0 q1 false)])] ?_))
      refine vc_seq (vc_seqr rfl (iQ 3 (iE 46 [(2, .p 2 0), (3, .p 3 0), (4, Ba false), (5, .p 5 0), (6, .p 6 0), (7, Ia 0), (11, Ba false), (25, Ba false), (30, .w (.sl 3 [.v (.string (⟨#[98, 101, 102, 111, 114, 101]⟩)), .v (.string (⟨#[97, 102, 116, 101, 114]⟩)), .v (.string (⟨#[111, 118, 101, 114, 108, 97, 112, 115]⟩))]) none), (31, Ia (((3 : Nat) : Int))), (32, Ia 0)] [(2, [.v (.int .i16 a0), .v (.int .i16 a1), Bv p0, Bv p1, Bv false]), (3, [.v (.int .i16 b0), .v (.int .i16 b1), Bv q0, Bv q1, Bv false]), (5, [.ifc (tV false) (cV a0 a1 p0 p1 false)]), (6, [.ifc (tV false) (cV b0 b1 q0 q1 false)])] ?_)))
      refine vc_block (vc_loop 46 (fun (vcx : Nat × Int × Int) => match vcx with | (k, c, n) => [(2, .p 2 0), (3, .p 3 0), (4, Ba false), (5, .p 5 0), (6, .p 6 0), (7, Ia n), (11, Ba false), (25, Ba false), (30, .w (.sl 3 [.v (.string (⟨#[98, 101, 102, 111, 114, 101]⟩)), .v (.string (⟨#[97, 102, 116, 101, 114]⟩)), .v (.string (⟨#[111, 118, 101, 114, 108, 97, 112, 115]⟩))]) none), (31, Ia (((3 : Nat) : Int))), (32, Ia c)]) (fun (vcx : Nat × Int × Int) => match vcx with | (k, c, n) => [(2, [.v (.int .i16 a0), .v (.int .i16 a1), Bv p0, Bv p1, Bv false]), (3, [.v (.int .i16 b0), .v (.int .i16 b1), Bv q0, Bv q1, Bv false]), (5, [.ifc (tV false) (cV a0 a1 p0 p1 false)]), (6, [.ifc (tV false) (cV b0 b1 q0 q1 false)])]) (fun (vcx : Nat × Int × Int) => match vcx with | (k, c, n) => c = k ∧ k ≤ 3 ∧ n = sum3 a0 a1 p0 p1 b0 b1 q0 q1 k) (fun (vcx : Nat × Int × Int) => match vcx with | (k, c, n) => 3 - k) ((0, 0, 0)) (⟨rfl, by omega, rfl⟩) (by kernel_rfl) (by kernel_rfl) ?_)
      rintro ⟨k, c, n⟩ hinv
      simp only at hinv
      refine vc_seqr rfl (iB .lss 3 (.int .i64 c) (.int .i64 (((3 : Nat) : Int))) (some 33) ?_)
      intro c33 hc33
      refine iE 46 [(2, .p 2 0), (3, .p 3 0), (4, Ba false), (5, .p 5 0), (6, .p 6 0), (7, Ia n), (11, Ba false), (25, Ba false), (30, .w (.sl 3 [.v (.string (⟨#[98, 101, 102, 111, 114, 101]⟩)), .v (.string (⟨#[97, 102, 116, 101, 114]⟩)), .v (.string (⟨#[111, 118, 101, 114, 108, 97, 112, 115]⟩))]) none), (31, Ia (((3 : Nat) : Int))), (32, Ia c), (33, Ba c33)] [(2, [.v (.int .i16 a0), .v (.int .i16 a1), Bv p0, Bv p1, Bv false]), (3, [.v (.int .i16 b0), .v (.int .i16 b1), Bv q0, Bv q1, Bv false]), (5, [.ifc (tV false) (cV a0 a1 p0 p1 false)]), (6, [.ifc (tV false) (cV b0 b1 q0 q1 false)])] ?_
      refine vc_seq ?_
      cases c33
      · replace hc33 := bf hc33
        obtain ⟨h0, h1, h2⟩ := hinv
        have h3 : k = 3 := by omega
        refine iF (vc_exit (seq_x (loop_x (block_x rfl (seq_n (vc_seqr rfl (iQ 1 (iB .eql 3 (.int .i64 n) (.int .i64 1) (some 45) ?_))))))))
        refine all_true ((by rw [h2, h3]; exact sum3_one (by omega) (by omega))) ?_
        refine iQ 1 (iE 46 [(2, .p 2 0), (3, .p 3 0), (4, Ba true), (5, .p 5 0), (6, .p 6 0), (7, Ia n), (11, Ba false), (25, Ba false), (30, .w (.sl 3 [.v (.string (⟨#[98, 101, 102, 111, 114, 101]⟩)), .v (.string (⟨#[97, 102, 116, 101, 114]⟩)), .v (.string (⟨#[111, 118, 101, 114, 108, 97, 112, 115]⟩))]) none), (31, Ia (((3 : Nat) : Int))), (32, Ia c), (33, Ba false)] [(2, [.v (.int .i16 a0), .v (.int .i16 a1), Bv p0, Bv p1, Bv false]), (3, [.v (.int .i16 b0), .v (.int .i16 b1), Bv q0, Bv q1, Bv false]), (5, [.ifc (tV false) (cV a0 a1 p0 p1 false)]), (6, [.ifc (tV false) (cV b0 b1 q0 q1 false)])] ?_)
        refine vc_ret (iR (Bv true) ?_)
        rfl
      · replace hc33 := bt hc33
        obtain ⟨h0, h1, h2⟩ := hinv
        have h3 : k = 0 ∨ k = 1 ∨ k = 2 := by omega
        have h4 := sum3_le (a0 := a0) (a1 := a1) (p0 := p0) (p1 := p1) (b0 := b0) (b1 := b1) (q0 := q0) (q1 := q1) k
        have h5 := ofI_le (hB (w3 k) a0 a1 p0 p1 b0 b1 q0 q1)
        refine iT (vc_skip (seq_n (vc_seq (vc_block (vc_seqr rfl (vcI_idx1 (q := c) (n := 3) (cs := [.v (.string (⟨#[98, 101, 102, 111, 114, 101]⟩)), .v (.string (⟨#[97, 102, 116, 101, 114]⟩)), .v (.string (⟨#[111, 118, 101, 114, 108, 97, 112, 115]⟩))]) (d := .v (.string (w3 k))) (dst := (some 34)) (by kernel_rfl) (by omega) (w3_get h0 h3) ?_))))))
        refine iQ 2 (iE 46 [(2, .p 2 0), (3, .p 3 0), (4, Ba false), (5, .p 5 0), (6, .p 6 0), (7, Ia n), (9, .d (Sv (w3 k))), (11, Ba false), (25, Ba false), (30, .w (.sl 3 [.v (.string (⟨#[98, 101, 102, 111, 114, 101]⟩)), .v (.string (⟨#[97, 102, 116, 101, 114]⟩)), .v (.string (⟨#[111, 118, 101, 114, 108, 97, 112, 115]⟩))]) none), (31, Ia (((3 : Nat) : Int))), (32, Ia c), (33, Ba true)] [(2, [.v (.int .i16 a0), .v (.int .i16 a1), Bv p0, Bv p1, Bv false]), (3, [.v (.int .i16 b0), .v (.int .i16 b1), Bv q0, Bv q1, Bv false]), (5, [.ifc (tV false) (cV a0 a1 p0 p1 false)]), (6, [.ifc (tV false) (cV b0 b1 q0 q1 false)])] ?_)
        refine vc_reg rfl (iQ 4 (iC 8 [Sv (w3 k), .agg [.ifc (tV false) (cV a0 a1 p0 p1 false)], .agg [.ifc (tV false) (cV b0 b1 q0 q1 false)]] (some 40) (c_HoldR (mem_w3 k) ha0 ha1 hb0 hb1) ?_))
        rintro _ rfl
        refine iC 7 [.agg [cT (ofI (hB (w3 k) a0 a1 p0 p1 b0 b1 q0 q1))]] (some 41) (c_yes (ofI_cases _)) ?_
        rintro _ rfl
        refine iB .add 3 (.int .i64 n) (.int .i64 (ofI (hB (w3 k) a0 a1 p0 p1 b0 b1 q0 q1) - 1)) (some 42) ?_
        intro z42 hz42
        try replace hz42 := hz42.i64 (by omega)
        refine iQ 1 (iE 46 [(2, .p 2 0), (3, .p 3 0), (4, Ba false), (5, .p 5 0), (6, .p 6 0), (7, Ia z42), (9, .d (Sv (w3 k))), (11, Ba false), (25, Ba false), (30, .w (.sl 3 [.v (.string (⟨#[98, 101, 102, 111, 114, 101]⟩)), .v (.string (⟨#[97, 102, 116, 101, 114]⟩)), .v (.string (⟨#[111, 118, 101, 114, 108, 97, 112, 115]⟩))]) none), (31, Ia (((3 : Nat) : Int))), (32, Ia c), (33, Ba true)] [(2, [.v (.int .i16 a0), .v (.int .i16 a1), Bv p0, Bv p1, Bv false]), (3, [.v (.int .i16 b0), .v (.int .i16 b1), Bv q0, Bv q1, Bv false]), (5, [.ifc (tV false) (cV a0 a1 p0 p1 false)]), (6, [.ifc (tV false) (cV b0 b1 q0 q1 false)])] ?_)
        refine block_n (seq_n (vc_reg rfl (iB .add 3 (.int .i64 c) (.int .i64 1) (some 43) ?_)))
        intro z43 hz43
        try replace hz43 := hz43.i64 (by omega)
        refine iQ 1 (iE 46 [(2, .p 2 0), (3, .p 3 0), (4, Ba false), (5, .p 5 0), (6, .p 6 0), (7, Ia z42), (9, .d (Sv (w3 k))), (11, Ba false), (25, Ba false), (30, .w (.sl 3 [.v (.string (⟨#[98, 101, 102, 111, 114, 101]⟩)), .v (.string (⟨#[97, 102, 116, 101, 114]⟩)), .v (.string (⟨#[111, 118, 101, 114, 108, 97, 112, 115]⟩))]) none), (31, Ia (((3 : Nat) : Int))), (32, Ia z43), (33, Ba true)] [(2, [.v (.int .i16 a0), .v (.int .i16 a1), Bv p0, Bv p1, Bv false]), (3, [.v (.int .i16 b0), .v (.int .i16 b1), Bv q0, Bv q1, Bv false]), (5, [.ifc (tV false) (cV a0 a1 p0 p1 false)]), (6, [.ifc (tV false) (cV b0 b1 q0 q1 false)])] ?_)
        refine loop_n (k + 1, z43, z42) (⟨by rw [hz43, h0]; rfl, by omega, by rw [hz42, h2]; rfl⟩) (by show 3 - (k + 1) < 3 - k; omega) (by kernel_rfl) (by kernel_rfl)
    · replace hc24 := bt hc24
      refine iT (vc_seqr rfl (iQ 1 (iE 46 [(2, .p 2 0), (3, .p 3 0), (4, Ba true), (11, Ba false), (25, Ba true)] [(2, [.v (.int .i16 a0), .v (.int .i16 a1), Bv p0, Bv p1, Bv false]), (3, [.v (.int .i16 b0), .v (.int .i16 b1), Bv q0, Bv q1, Bv false])] ?_)))
      refine vc_ret (seq_r (iR (Bv true) ?_))
      rfl
  · replace hc18 := bt hc18
    refine iQ 6 (iE 46 [(2, .p 2 0), (3, .p 3 0), (4, Ba false), (11, Ba false), (25, Ba true)] [(2, [.v (.int .i16 a0), .v (.int .i16 a1), Bv p0, Bv p1, Bv false]), (3, [.v (.int .i16 b0), .v (.int .i16 b1), Bv q0, Bv q1, Bv false])] ?_)
    refine iT (vc_seqr rfl (iQ 1 (iE 46 [(2, .p 2 0), (3, .p 3 0), (4, Ba true), (11, Ba false), (25, Ba true)] [(2, [.v (.int .i16 a0), .v (.int .i16 a1), Bv p0, Bv p1, Bv false]), (3, [.v (.int .i16 b0), .v (.int .i16 b1), Bv q0, Bv q1, Bv false])] ?_)))
    refine vc_ret (seq_r (iR (Bv true) ?_))
    rfl
end Go.Proofs.YtimpaejpokkdnaaDoor
