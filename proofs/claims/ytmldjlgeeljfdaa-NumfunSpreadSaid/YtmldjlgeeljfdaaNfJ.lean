/-
  casuistlaw20.NumfunSpread: the law.
-/
import Derived.Test.YtmldjlgeeljfdaaNfI
namespace Go.Proofs.Ytmldjlgeeljfdaa
open Go.RowKit
set_option linter.unusedVariables false
set_option linter.unusedSimpArgs false
set_option maxRecDepth 100000
def i32L (ns : List Int) : List DV := ns.map fun x => .v (.int .i32 x)
theorem i32L_get {ns : List Int} {k : Nat} {x : Int} (h : ns[k]? = some x) : (i32L ns)[k]? = some (.v (.int .i32 x)) := by simp [i32L, h]
def d7 : D3 := natD 7 (by decide)
theorem c_v7 : HasC Try.prog 5 [.v (.int .i64 7)] (fun r => r = VV (.num d7.g d7.n d7.e)) := c_vInt (x := 7) (by decide) (by decide)
theorem c_vIntX {z : Int} {x : D3} (h : intV z = x.vl) (h0 : -9223372036854775808 ≤ z) (h1 : z ≤ 9223372036854775807) : HasC Try.prog 5 [.v (.int .i64 z)] (fun r => r = VV (.num x.g x.n x.e)) := (c_vInt h0 h1).mono fun r hr => by rw [hr, h]; rfl
theorem int_ex {z : Int} (h0 : -9223372036854775808 ≤ z) (h1 : z ≤ 9223372036854775807) : ∃ x : D3, intV z = x.vl ∧ x.e = 0 := ⟨intD z h0 h1, rfl, rfl⟩
theorem c_SpreadT {vs : List D3} (h : vs.length ≤ 6) (he : ∀ x ∈ vs, x.e = 0) : HasC Try.prog 6 [.sl (numL vs).length (encL (numL vs))] (fun y => ∃ v, y = .tup [VV v, .v (.bool true)] ∧ v = spreadV vs) :=
  (c_SpreadW h he).mono fun y ⟨v, o, h1, h2, h3⟩ => ⟨v, by rw [h1, h3], h2⟩
theorem all_snoc {p : D3 → Prop} {vs : List D3} {x : D3} (h : ∀ y ∈ vs, p y) (hx : p x) : ∀ y ∈ vs ++ [x], p y := fun y hy => by
  rcases List.mem_append.1 hy with h1 | h1
  · exact h y h1
  · rw [List.mem_singleton.1 h1]; exact hx
theorem sgn_nn {g : Bool} {n : Nat} (h : g = false) : 0 ≤ sgnT g n := by
  subst h
  unfold sgnT
  split <;> simp
theorem tmodM {e : Int} : -1000000 < e.tmod 1000000 ∧ e.tmod 1000000 < 1000000 := by
  rcases Int.le_total 0 e with h | h
  · rw [Int.tmod_eq_emod_of_nonneg h]; omega
  · obtain ⟨n, rfl⟩ : ∃ n : Int, e = -n := ⟨-e, by omega⟩
    rw [Int.neg_tmod, Int.tmod_eq_emod_of_nonneg (by omega)]; omega
theorem tmodI {e z : Int} (h : IntIs .i64 (e.tmod 1000000) z) : -1000000 < z ∧ z < 1000000 := by
  have b := @tmodM e
  have := h.i64 (by omega)
  omega
theorem tmodE {e z : Int} (h : z = e.tmod 1000000) : -1000000 < z ∧ z < 1000000 := by rw [h]; exact tmodM
theorem c_NumfunSpread {ns : List Int} {a : Int} (hn : ∀ x ∈ ns, -2147483648 ≤ x ∧ x ≤ 2147483647) (hl : ns.length ≤ 9223372036854775807) (ha : -2147483648 ≤ a ∧ a ≤ 2147483647) : HasC Try.prog 3 [.sl ns.length (i32L ns), .v (.int .i32 a)] (fun r => r = .v (.bool true)) := by
 refine HasC.of [] (fn := Try.f3) tyOk mixed (fun args w => Try.call3 args w) Try.func3 rfl (by kernel_rfl) (Nat.le_of_ble_eq_true rfl) (⟨_, rfl⟩) ?_
 refine vc_seqr rfl (iQ 1 (iE 113 [(0, .d (.sl ns.length (i32L ns))), (1, .d (.v (.int .i32 a))), (4, Ba false)] [] ?_))
 refine vc_seq (vc_seqr rfl (iC 4 [] (some 20) (c_awake20) ?_))
 rintro _ rfl
 refine iU .not (.bool true) (some 21) ?_
 refine all_false ((by simp)) ?_
 refine iE 113 [(0, .d (.sl ns.length (i32L ns))), (1, .d (.v (.int .i32 a))), (4, Ba false), (21, Ba false)] [] ?_
 refine iF (vc_skip (seq_n (vc_seqr rfl (iQ 3 (iE 113 [(0, .d (.sl ns.length (i32L ns))), (1, .d (.v (.int .i32 a))), (4, Ba false), (5, .w (.sl 0 []) none), (6, .w (.sl 0 []) none), (7, .w (.sl 0 []) none), (21, Ba false)] [] ?_)))))
 refine vc_seq (vc_seqr rfl (iQ 1 (iE 113 [(0, .d (.sl ns.length (i32L ns))), (1, .d (.v (.int .i32 a))), (4, Ba false), (5, .w (.sl 0 []) none), (6, .w (.sl 0 []) none), (7, .w (.sl 0 []) none), (8, Ia 0), (21, Ba false)] [] ?_)))
 refine vc_block (vc_loop 113 (fun (vcx : Nat × Int × (List D3) × (List D3)) => match vcx with | (k, z, vs, ws) => [(0, .d (.sl ns.length (i32L ns))), (1, .d (.v (.int .i32 a))), (4, Ba false), (5, .w (.sl ((numL vs).length) (encL (numL vs))) (some ⟨5, 0, 28, 1⟩)), (6, .w (.sl ((numL ws).length) (encL (numL ws))) (some ⟨6, 0, 28, 1⟩)), (7, .w (.sl ((numL (List.replicate k d7)).length) (encL (numL (List.replicate k d7)))) (some ⟨7, 0, 28, 1⟩)), (8, Ia z), (21, Ba false)]) (fun (vcx : Nat × Int × (List D3) × (List D3)) => match vcx with | (k, z, vs, ws) => []) (fun (vcx : Nat × Int × (List D3) × (List D3)) => match vcx with | (k, z, vs, ws) => z = k ∧ k ≤ 6 ∧ vs.length = k ∧ (∀ x ∈ vs, x.e = 0) ∧ ws.length = k ∧ (∀ x ∈ ws, x.e = 0)) (fun (vcx : Nat × Int × (List D3) × (List D3)) => match vcx with | (k, z, vs, ws) => 6 - k) ((0, 0, [], [])) (⟨rfl, by decide, rfl, by simp, rfl, by simp⟩) (by kernel_rfl) (by kernel_rfl) ?_)
 rintro ⟨k, z, vs, ws⟩ hinv
 simp only at hinv
 obtain ⟨i1, i2, i3, i4, i5, i6⟩ := hinv
 have e7 : ∀ x ∈ List.replicate k d7, x.e = 0 := fun x hx => by rw [(List.mem_replicate.1 hx).2]; rfl
 refine vc_seq (vc_seqr rfl (iQ 3 (iB .lss 3 (.int .i64 z) (.int .i64 (((ns.length : Nat) : Int))) (some 25) ?_)))
 intro c25 hc25
 refine iQ 1 ?_
 cases c25
 ·replace hc25 := bf hc25
  refine iQ 3 (iE 113 [(0, .d (.sl ns.length (i32L ns))), (1, .d (.v (.int .i32 a))), (4, Ba false), (5, .w (.sl ((numL vs).length) (encL (numL vs))) (some ⟨5, 0, 28, 1⟩)), (6, .w (.sl ((numL ws).length) (encL (numL ws))) (some ⟨6, 0, 28, 1⟩)), (7, .w (.sl ((numL (List.replicate k d7)).length) (encL (numL (List.replicate k d7)))) (some ⟨7, 0, 28, 1⟩)), (8, Ia z), (21, Ba false), (29, Ba false)] [] ?_)
  refine iF (vc_exit (seq_x (loop_x (block_x rfl (seq_n (vc_seqr rfl (iQ 1 (iC 6 [.sl ((numL vs).length) (encL (numL vs))] (some 58) (c_SpreadT (vs := vs) (by omega) i4) ?_))))))))
  rintro _ ⟨v1, rfl, hv1⟩
  refine iQ 6 (iE 113 [(0, .d (.sl ns.length (i32L ns))), (1, .d (.v (.int .i32 a))), (4, Ba false), (5, .w (.sl ((numL vs).length) (encL (numL vs))) (some ⟨5, 0, 28, 1⟩)), (6, .w (.sl ((numL ws).length) (encL (numL ws))) (some ⟨6, 0, 28, 1⟩)), (7, .w (.sl ((numL (List.replicate k d7)).length) (encL (numL (List.replicate k d7)))) (some ⟨7, 0, 28, 1⟩)), (8, Ia z), (10, .p 10 0), (11, Ba true), (21, Ba false), (29, Ba false)] [(10, [.bx (v1).enc])] ?_)
  refine vc_seqr rfl (iQ 1 (iC 6 [.sl ((numL ws).length) (encL (numL ws))] (some 63) (c_SpreadT (vs := ws) (by omega) i6) ?_))
  rintro _ ⟨v2, rfl, hv2⟩
  refine iQ 6 (iE 113 [(0, .d (.sl ns.length (i32L ns))), (1, .d (.v (.int .i32 a))), (4, Ba false), (5, .w (.sl ((numL vs).length) (encL (numL vs))) (some ⟨5, 0, 28, 1⟩)), (6, .w (.sl ((numL ws).length) (encL (numL ws))) (some ⟨6, 0, 28, 1⟩)), (7, .w (.sl ((numL (List.replicate k d7)).length) (encL (numL (List.replicate k d7)))) (some ⟨7, 0, 28, 1⟩)), (8, Ia z), (10, .p 10 0), (11, Ba true), (13, Ba true), (21, Ba false), (29, Ba false)] [(10, [.bx (v1).enc])] ?_)
  refine vc_seqr rfl (iQ 1 (iC 6 [.sl ((numL (List.replicate k d7)).length) (encL (numL (List.replicate k d7)))] (some 68) (c_SpreadT (vs := List.replicate k d7) (by simp; omega) e7) ?_))
  rintro _ ⟨v3, rfl, hv3⟩
  obtain ⟨s1, s2⟩ := spread_ok (vs := vs) (by omega) i4
  obtain ⟨s3, s4⟩ := spread_ok (vs := List.replicate k d7) (by simp; omega) e7
  have s5 := spread_sevens (k := k) (by omega)
  rw [← hv1] at s1 s2
  rw [← hv3] at s3 s4
  have s6 : NoSize v3 := by rw [hv3]; exact s5
  refine iQ 6 (iE 113 [(0, .d (.sl ns.length (i32L ns))), (1, .d (.v (.int .i32 a))), (4, Ba false), (5, .w (.sl ((numL vs).length) (encL (numL vs))) (some ⟨5, 0, 28, 1⟩)), (6, .w (.sl ((numL ws).length) (encL (numL ws))) (some ⟨6, 0, 28, 1⟩)), (7, .w (.sl ((numL (List.replicate k d7)).length) (encL (numL (List.replicate k d7)))) (some ⟨7, 0, 28, 1⟩)), (8, Ia z), (10, .p 10 0), (11, Ba true), (13, Ba true), (14, .p 14 0), (15, Ba true), (21, Ba false), (29, Ba false)] [(10, [.bx (v1).enc]), (14, [.bx (v3).enc])] ?_)
  refine vc_seq (vc_seqr rfl (iQ 1 (iU .not (.bool true) (some 72) ?_)))
  refine all_false ((by simp)) ?_
  refine iQ 2 (iU .not (.bool true) (some 75) ?_)
  refine all_false ((by simp)) ?_
  refine iQ 3 (iU .not (.bool true) (some 79) ?_)
  refine all_false ((by simp)) ?_
  refine iQ 3 (iC 7 [.agg [.bx (v1).enc]] (some 83) (c_Null v1) ?_)
  rintro _ rfl
  refine iQ 2 (iB .lss 3 (.int .i64 ((((numL vs).length : Nat) : Int))) (.int .i64 2) (some 86) ?_)
  intro c86 hc86
  refine iB .neq 4 (.bool v1.nullB) (.bool c86) (some 87) ?_
  refine all_false ((by rw [show v1.nullB = c86 by rw [Bool.eq_iff_iff, s2, hc86, numL_len]; omega]; simp)) ?_
  refine iQ 3 (iC 7 [.agg [.bx (v3).enc]] (some 91) (c_Null v3) ?_)
  rintro _ rfl
  refine iQ 1 (iC 7 [.agg [.bx (v1).enc]] (some 93) (c_Null v1) ?_)
  rintro _ rfl
  refine iB .neq 4 (.bool v3.nullB) (.bool v1.nullB) (some 94) ?_
  refine all_false ((by rw [show v3.nullB = v1.nullB by rw [Bool.eq_iff_iff, s2, s4, List.length_replicate]; omega]; simp)) ?_
  refine iQ 1 (iE 113 [(0, .d (.sl ns.length (i32L ns))), (1, .d (.v (.int .i32 a))), (4, Ba false), (5, .w (.sl ((numL vs).length) (encL (numL vs))) (some ⟨5, 0, 28, 1⟩)), (6, .w (.sl ((numL ws).length) (encL (numL ws))) (some ⟨6, 0, 28, 1⟩)), (7, .w (.sl ((numL (List.replicate k d7)).length) (encL (numL (List.replicate k d7)))) (some ⟨7, 0, 28, 1⟩)), (8, Ia z), (10, .p 10 0), (14, .p 14 0), (21, Ba false), (29, Ba false), (95, Ba false)] [(10, [.bx (v1).enc]), (14, [.bx (v3).enc])] ?_)
  refine iF (vc_skip (seq_n (vc_seqr rfl (iQ 1 (iC 8 [.agg [.bx (v1).enc]] (some 98) (c_AsNumS s1) ?_)))))
  rintro _ ⟨g, n, e, ok, rfl, hn1, hg⟩
  refine iQ 6 (iE 113 [(0, .d (.sl ns.length (i32L ns))), (1, .d (.v (.int .i32 a))), (4, Ba false), (5, .w (.sl ((numL vs).length) (encL (numL vs))) (some ⟨5, 0, 28, 1⟩)), (6, .w (.sl ((numL ws).length) (encL (numL ws))) (some ⟨6, 0, 28, 1⟩)), (7, .w (.sl ((numL (List.replicate k d7)).length) (encL (numL (List.replicate k d7)))) (some ⟨7, 0, 28, 1⟩)), (8, Ia z), (10, .p 10 0), (14, .p 14 0), (16, .p 16 0), (21, Ba false), (29, Ba false), (95, Ba false)] [(10, [.bx (v1).enc]), (14, [.bx (v3).enc]), (16, [Bv g, Hw n, Lw n, Iv e])] ?_)
  refine vc_seqr rfl (iQ 1 (iC 8 [.agg [.bx (v3).enc]] (some 103) (c_AsNumZ s6) ?_))
  rintro _ ⟨g2, n2, e2, ok2, rfl, hn2, hz2⟩
  refine iQ 6 (iE 113 [(0, .d (.sl ns.length (i32L ns))), (1, .d (.v (.int .i32 a))), (4, Ba false), (5, .w (.sl ((numL vs).length) (encL (numL vs))) (some ⟨5, 0, 28, 1⟩)), (6, .w (.sl ((numL ws).length) (encL (numL ws))) (some ⟨6, 0, 28, 1⟩)), (7, .w (.sl ((numL (List.replicate k d7)).length) (encL (numL (List.replicate k d7)))) (some ⟨7, 0, 28, 1⟩)), (8, Ia z), (10, .p 10 0), (14, .p 14 0), (16, .p 16 0), (18, .p 18 0), (21, Ba false), (29, Ba false), (95, Ba false)] [(10, [.bx (v1).enc]), (14, [.bx (v3).enc]), (16, [Bv g, Hw n, Lw n, Iv e]), (18, [Bv g2, Hw n2, Lw n2, Iv e2])] ?_)
  refine vc_seqr rfl (iQ 1 (iC 9 [.agg [Bv g, Hw n, Lw n, Iv e]] (some 107) (c_SignT hn1) ?_))
  rintro _ rfl
  refine iB .geq 3 (.int .i64 (sgnT g n)) (.int .i64 0) (some 108) ?_
  refine all_true ((sgn_nn hg)) ?_
  refine iQ 2 (iC 10 [.agg [Bv g2, Hw n2, Lw n2, Iv e2]] (some 111) (c_Zero0 hn2 hz2) ?_)
  rintro _ rfl
  refine iQ 2 (iE 113 [(0, .d (.sl ns.length (i32L ns))), (1, .d (.v (.int .i32 a))), (4, Ba true), (5, .w (.sl ((numL vs).length) (encL (numL vs))) (some ⟨5, 0, 28, 1⟩)), (6, .w (.sl ((numL ws).length) (encL (numL ws))) (some ⟨6, 0, 28, 1⟩)), (7, .w (.sl ((numL (List.replicate k d7)).length) (encL (numL (List.replicate k d7)))) (some ⟨7, 0, 28, 1⟩)), (8, Ia z), (10, .p 10 0), (14, .p 14 0), (16, .p 16 0), (18, .p 18 0), (21, Ba false), (29, Ba false), (95, Ba false)] [(10, [.bx (v1).enc]), (14, [.bx (v3).enc]), (16, [Bv g, Hw n, Lw n, Iv e]), (18, [Bv g2, Hw n2, Lw n2, Iv e2])] ?_)
  refine vc_ret (iR (Bv true) ?_)
  rfl
 ·replace hc25 := bt hc25
  refine iQ 1 (iB .lss 3 (.int .i64 z) (.int .i64 6) (some 28) ?_)
  intro c28 hc28
  refine iQ 1 (iE 113 [(0, .d (.sl ns.length (i32L ns))), (1, .d (.v (.int .i32 a))), (4, Ba false), (5, .w (.sl ((numL vs).length) (encL (numL vs))) (some ⟨5, 0, 28, 1⟩)), (6, .w (.sl ((numL ws).length) (encL (numL ws))) (some ⟨6, 0, 28, 1⟩)), (7, .w (.sl ((numL (List.replicate k d7)).length) (encL (numL (List.replicate k d7)))) (some ⟨7, 0, 28, 1⟩)), (8, Ia z), (21, Ba false), (29, Ba c28)] [] ?_)
  cases c28
  ·replace hc28 := bf hc28
   refine iF (vc_exit (seq_x (loop_x (block_x rfl (seq_n (vc_seqr rfl (iQ 1 (iC 6 [.sl ((numL vs).length) (encL (numL vs))] (some 58) (c_SpreadT (vs := vs) (by omega) i4) ?_))))))))
   rintro _ ⟨v1, rfl, hv1⟩
   refine iQ 6 (iE 113 [(0, .d (.sl ns.length (i32L ns))), (1, .d (.v (.int .i32 a))), (4, Ba false), (5, .w (.sl ((numL vs).length) (encL (numL vs))) (some ⟨5, 0, 28, 1⟩)), (6, .w (.sl ((numL ws).length) (encL (numL ws))) (some ⟨6, 0, 28, 1⟩)), (7, .w (.sl ((numL (List.replicate k d7)).length) (encL (numL (List.replicate k d7)))) (some ⟨7, 0, 28, 1⟩)), (8, Ia z), (10, .p 10 0), (11, Ba true), (21, Ba false), (29, Ba false)] [(10, [.bx (v1).enc])] ?_)
   refine vc_seqr rfl (iQ 1 (iC 6 [.sl ((numL ws).length) (encL (numL ws))] (some 63) (c_SpreadT (vs := ws) (by omega) i6) ?_))
   rintro _ ⟨v2, rfl, hv2⟩
   refine iQ 6 (iE 113 [(0, .d (.sl ns.length (i32L ns))), (1, .d (.v (.int .i32 a))), (4, Ba false), (5, .w (.sl ((numL vs).length) (encL (numL vs))) (some ⟨5, 0, 28, 1⟩)), (6, .w (.sl ((numL ws).length) (encL (numL ws))) (some ⟨6, 0, 28, 1⟩)), (7, .w (.sl ((numL (List.replicate k d7)).length) (encL (numL (List.replicate k d7)))) (some ⟨7, 0, 28, 1⟩)), (8, Ia z), (10, .p 10 0), (11, Ba true), (13, Ba true), (21, Ba false), (29, Ba false)] [(10, [.bx (v1).enc])] ?_)
   refine vc_seqr rfl (iQ 1 (iC 6 [.sl ((numL (List.replicate k d7)).length) (encL (numL (List.replicate k d7)))] (some 68) (c_SpreadT (vs := List.replicate k d7) (by simp; omega) e7) ?_))
   rintro _ ⟨v3, rfl, hv3⟩
   obtain ⟨s1, s2⟩ := spread_ok (vs := vs) (by omega) i4
   obtain ⟨s3, s4⟩ := spread_ok (vs := List.replicate k d7) (by simp; omega) e7
   have s5 := spread_sevens (k := k) (by omega)
   rw [← hv1] at s1 s2
   rw [← hv3] at s3 s4
   have s6 : NoSize v3 := by rw [hv3]; exact s5
   refine iQ 6 (iE 113 [(0, .d (.sl ns.length (i32L ns))), (1, .d (.v (.int .i32 a))), (4, Ba false), (5, .w (.sl ((numL vs).length) (encL (numL vs))) (some ⟨5, 0, 28, 1⟩)), (6, .w (.sl ((numL ws).length) (encL (numL ws))) (some ⟨6, 0, 28, 1⟩)), (7, .w (.sl ((numL (List.replicate k d7)).length) (encL (numL (List.replicate k d7)))) (some ⟨7, 0, 28, 1⟩)), (8, Ia z), (10, .p 10 0), (11, Ba true), (13, Ba true), (14, .p 14 0), (15, Ba true), (21, Ba false), (29, Ba false)] [(10, [.bx (v1).enc]), (14, [.bx (v3).enc])] ?_)
   refine vc_seq (vc_seqr rfl (iQ 1 (iU .not (.bool true) (some 72) ?_)))
   refine all_false ((by simp)) ?_
   refine iQ 2 (iU .not (.bool true) (some 75) ?_)
   refine all_false ((by simp)) ?_
   refine iQ 3 (iU .not (.bool true) (some 79) ?_)
   refine all_false ((by simp)) ?_
   refine iQ 3 (iC 7 [.agg [.bx (v1).enc]] (some 83) (c_Null v1) ?_)
   rintro _ rfl
   refine iQ 2 (iB .lss 3 (.int .i64 ((((numL vs).length : Nat) : Int))) (.int .i64 2) (some 86) ?_)
   intro c86 hc86
   refine iB .neq 4 (.bool v1.nullB) (.bool c86) (some 87) ?_
   refine all_false ((by rw [show v1.nullB = c86 by rw [Bool.eq_iff_iff, s2, hc86, numL_len]; omega]; simp)) ?_
   refine iQ 3 (iC 7 [.agg [.bx (v3).enc]] (some 91) (c_Null v3) ?_)
   rintro _ rfl
   refine iQ 1 (iC 7 [.agg [.bx (v1).enc]] (some 93) (c_Null v1) ?_)
   rintro _ rfl
   refine iB .neq 4 (.bool v3.nullB) (.bool v1.nullB) (some 94) ?_
   refine all_false ((by rw [show v3.nullB = v1.nullB by rw [Bool.eq_iff_iff, s2, s4, List.length_replicate]; omega]; simp)) ?_
   refine iQ 1 (iE 113 [(0, .d (.sl ns.length (i32L ns))), (1, .d (.v (.int .i32 a))), (4, Ba false), (5, .w (.sl ((numL vs).length) (encL (numL vs))) (some ⟨5, 0, 28, 1⟩)), (6, .w (.sl ((numL ws).length) (encL (numL ws))) (some ⟨6, 0, 28, 1⟩)), (7, .w (.sl ((numL (List.replicate k d7)).length) (encL (numL (List.replicate k d7)))) (some ⟨7, 0, 28, 1⟩)), (8, Ia z), (10, .p 10 0), (14, .p 14 0), (21, Ba false), (29, Ba false), (95, Ba false)] [(10, [.bx (v1).enc]), (14, [.bx (v3).enc])] ?_)
   refine iF (vc_skip (seq_n (vc_seqr rfl (iQ 1 (iC 8 [.agg [.bx (v1).enc]] (some 98) (c_AsNumS s1) ?_)))))
   rintro _ ⟨g, n, e, ok, rfl, hn1, hg⟩
   refine iQ 6 (iE 113 [(0, .d (.sl ns.length (i32L ns))), (1, .d (.v (.int .i32 a))), (4, Ba false), (5, .w (.sl ((numL vs).length) (encL (numL vs))) (some ⟨5, 0, 28, 1⟩)), (6, .w (.sl ((numL ws).length) (encL (numL ws))) (some ⟨6, 0, 28, 1⟩)), (7, .w (.sl ((numL (List.replicate k d7)).length) (encL (numL (List.replicate k d7)))) (some ⟨7, 0, 28, 1⟩)), (8, Ia z), (10, .p 10 0), (14, .p 14 0), (16, .p 16 0), (21, Ba false), (29, Ba false), (95, Ba false)] [(10, [.bx (v1).enc]), (14, [.bx (v3).enc]), (16, [Bv g, Hw n, Lw n, Iv e])] ?_)
   refine vc_seqr rfl (iQ 1 (iC 8 [.agg [.bx (v3).enc]] (some 103) (c_AsNumZ s6) ?_))
   rintro _ ⟨g2, n2, e2, ok2, rfl, hn2, hz2⟩
   refine iQ 6 (iE 113 [(0, .d (.sl ns.length (i32L ns))), (1, .d (.v (.int .i32 a))), (4, Ba false), (5, .w (.sl ((numL vs).length) (encL (numL vs))) (some ⟨5, 0, 28, 1⟩)), (6, .w (.sl ((numL ws).length) (encL (numL ws))) (some ⟨6, 0, 28, 1⟩)), (7, .w (.sl ((numL (List.replicate k d7)).length) (encL (numL (List.replicate k d7)))) (some ⟨7, 0, 28, 1⟩)), (8, Ia z), (10, .p 10 0), (14, .p 14 0), (16, .p 16 0), (18, .p 18 0), (21, Ba false), (29, Ba false), (95, Ba false)] [(10, [.bx (v1).enc]), (14, [.bx (v3).enc]), (16, [Bv g, Hw n, Lw n, Iv e]), (18, [Bv g2, Hw n2, Lw n2, Iv e2])] ?_)
   refine vc_seqr rfl (iQ 1 (iC 9 [.agg [Bv g, Hw n, Lw n, Iv e]] (some 107) (c_SignT hn1) ?_))
   rintro _ rfl
   refine iB .geq 3 (.int .i64 (sgnT g n)) (.int .i64 0) (some 108) ?_
   refine all_true ((sgn_nn hg)) ?_
   refine iQ 2 (iC 10 [.agg [Bv g2, Hw n2, Lw n2, Iv e2]] (some 111) (c_Zero0 hn2 hz2) ?_)
   rintro _ rfl
   refine iQ 2 (iE 113 [(0, .d (.sl ns.length (i32L ns))), (1, .d (.v (.int .i32 a))), (4, Ba true), (5, .w (.sl ((numL vs).length) (encL (numL vs))) (some ⟨5, 0, 28, 1⟩)), (6, .w (.sl ((numL ws).length) (encL (numL ws))) (some ⟨6, 0, 28, 1⟩)), (7, .w (.sl ((numL (List.replicate k d7)).length) (encL (numL (List.replicate k d7)))) (some ⟨7, 0, 28, 1⟩)), (8, Ia z), (10, .p 10 0), (14, .p 14 0), (16, .p 16 0), (18, .p 18 0), (21, Ba false), (29, Ba false), (95, Ba false)] [(10, [.bx (v1).enc]), (14, [.bx (v3).enc]), (16, [Bv g, Hw n, Lw n, Iv e]), (18, [Bv g2, Hw n2, Lw n2, Iv e2])] ?_)
   refine vc_ret (iR (Bv true) ?_)
   rfl
  ·replace hc28 := bt hc28
   obtain ⟨x, hx⟩ : ∃ x, ns[k]? = some x := ⟨_, List.getElem?_eq_getElem (by omega)⟩
   have hxr := hn x (List.mem_of_getElem? hx)
   refine iT (vc_skip (seq_n (vc_seq (vc_block (vc_seqr rfl (iQ 2 (vcI_idx1 (q := z) (n := ns.length) (cs := (i32L ns)) (d := .v (.int .i32 x)) (dst := (some 34)) (by kernel_rfl) (by omega) (by rw [i1, Int.toNat_natCast]; exact i32L_get hx) ?_)))))))
   refine iQ 1 (iV 21 3 (.int .i32 x) (some 36) ?_)
   intro z36 hz36
   try replace hz36 := hz36.i64 (by omega)
   refine iB .rem 3 (.int .i64 z36) (.int .i64 1000000) (some 37) ?_
   refine And.intro (by omega) ?_
   intro z37 hz37
   have b37 := (by first | exact tmodE hz37 | exact tmodI hz37 : -1000000 < z37 ∧ z37 < 1000000)
   obtain ⟨x1, hx1, he1⟩ := int_ex (z := z37) (by omega) (by omega)
   refine iQ 1 (iE 113 [(0, .d (.sl ns.length (i32L ns))), (1, .d (.v (.int .i32 a))), (4, Ba false), (5, .w (.sl ((numL vs).length) (encL (numL vs))) (some ⟨5, 0, 28, 1⟩)), (6, .w (.sl ((numL ws).length) (encL (numL ws))) (some ⟨6, 0, 28, 1⟩)), (7, .w (.sl ((numL (List.replicate k d7)).length) (encL (numL (List.replicate k d7)))) (some ⟨7, 0, 28, 1⟩)), (8, Ia z), (9, Ia z37), (21, Ba false), (29, Ba true)] [] ?_)
   refine vc_seqr rfl (iQ 2 (iC 5 [Iv z37] (some 40) (c_vIntX hx1 (by omega) (by omega)) ?_))
   rintro _ rfl
   refine iQ 1 (vcI_app (n := ((numL vs).length)) (cs := (encL (numL vs))) (m := 1) (ds := [.bx (Vl.num (x1).g (x1).n (x1).e).enc]) (N := ((numL (vs ++ [x1])).length)) (es := (encL (numL (vs ++ [x1])))) (j := 5) (e := 28) (z := 1) (dst := (some 42)) (by kernel_rfl) (by first | rfl | omega | (rw [Nat.mul_one]; exact dg_len _) | (simp [dg]; done) | (simp [dg]; omega)) (by first | rfl | omega | (rw [Nat.mul_one]; exact dg_len _) | (simp [dg]; done) | (simp [dg]; omega)) (rfl) (by rw [numL_len]; omega) (by simp [numL]) (numL_one vs x1) ?_)
   refine iQ 1 (iE 113 [(0, .d (.sl ns.length (i32L ns))), (1, .d (.v (.int .i32 a))), (4, Ba false), (5, .w (.sl ((numL (vs ++ [x1])).length) (encL (numL (vs ++ [x1])))) (some ⟨5, 0, 28, 1⟩)), (6, .w (.sl ((numL ws).length) (encL (numL ws))) (some ⟨6, 0, 28, 1⟩)), (7, .w (.sl ((numL (List.replicate k d7)).length) (encL (numL (List.replicate k d7)))) (some ⟨7, 0, 28, 1⟩)), (8, Ia z), (9, Ia z37), (21, Ba false), (29, Ba true)] [] ?_)
   refine vc_seqr rfl (iQ 3 (iV 21 3 (.int .i32 a) (some 46) ?_))
   intro z46 hz46
   try replace hz46 := hz46.i64 (by omega)
   refine iB .rem 3 (.int .i64 z46) (.int .i64 1000000) (some 47) ?_
   refine And.intro (by omega) ?_
   intro z47 hz47
   have b47 := (by first | exact tmodE hz47 | exact tmodI hz47 : -1000000 < z47 ∧ z47 < 1000000)
   refine iB .add 3 (.int .i64 z37) (.int .i64 z47) (some 48) ?_
   intro z48 hz48
   try replace hz48 := hz48.i64 (by omega)
   obtain ⟨x2, hx2, he2⟩ := int_ex (z := z48) (by omega) (by omega)
   refine iC 5 [Iv z48] (some 49) (c_vIntX hx2 (by omega) (by omega)) ?_
   rintro _ rfl
   refine iQ 1 (vcI_app (n := ((numL ws).length)) (cs := (encL (numL ws))) (m := 1) (ds := [.bx (Vl.num (x2).g (x2).n (x2).e).enc]) (N := ((numL (ws ++ [x2])).length)) (es := (encL (numL (ws ++ [x2])))) (j := 6) (e := 28) (z := 1) (dst := (some 51)) (by kernel_rfl) (by first | rfl | omega | (rw [Nat.mul_one]; exact dg_len _) | (simp [dg]; done) | (simp [dg]; omega)) (by first | rfl | omega | (rw [Nat.mul_one]; exact dg_len _) | (simp [dg]; done) | (simp [dg]; omega)) (rfl) (by rw [numL_len]; omega) (by simp [numL]) (numL_one ws x2) ?_)
   refine iQ 1 (iE 113 [(0, .d (.sl ns.length (i32L ns))), (1, .d (.v (.int .i32 a))), (4, Ba false), (5, .w (.sl ((numL (vs ++ [x1])).length) (encL (numL (vs ++ [x1])))) (some ⟨5, 0, 28, 1⟩)), (6, .w (.sl ((numL (ws ++ [x2])).length) (encL (numL (ws ++ [x2])))) (some ⟨6, 0, 28, 1⟩)), (7, .w (.sl ((numL (List.replicate k d7)).length) (encL (numL (List.replicate k d7)))) (some ⟨7, 0, 28, 1⟩)), (8, Ia z), (9, Ia z37), (21, Ba false), (29, Ba true)] [] ?_)
   refine vc_reg rfl (iQ 1 (iC 5 [Iv 7] (some 53) (c_v7) ?_))
   rintro _ rfl
   refine iQ 1 (vcI_app (n := ((numL (List.replicate k d7)).length)) (cs := (encL (numL (List.replicate k d7)))) (m := 1) (ds := [.bx (Vl.num (d7).g (d7).n (d7).e).enc]) (N := ((numL (List.replicate (k + 1) d7)).length)) (es := (encL (numL (List.replicate (k + 1) d7)))) (j := 7) (e := 28) (z := 1) (dst := (some 55)) (by kernel_rfl) (by first | rfl | omega | (rw [Nat.mul_one]; exact dg_len _) | (simp [dg]; done) | (simp [dg]; omega)) (by first | rfl | omega | (rw [Nat.mul_one]; exact dg_len _) | (simp [dg]; done) | (simp [dg]; omega)) (rfl) (by rw [numL_len]; simp; omega) (by simp [numL]) (by rw [List.replicate_succ']; exact numL_one _ d7) ?_)
   refine iQ 1 (iE 113 [(0, .d (.sl ns.length (i32L ns))), (1, .d (.v (.int .i32 a))), (4, Ba false), (5, .w (.sl ((numL (vs ++ [x1])).length) (encL (numL (vs ++ [x1])))) (some ⟨5, 0, 28, 1⟩)), (6, .w (.sl ((numL (ws ++ [x2])).length) (encL (numL (ws ++ [x2])))) (some ⟨6, 0, 28, 1⟩)), (7, .w (.sl ((numL (List.replicate (k + 1) d7)).length) (encL (numL (List.replicate (k + 1) d7)))) (some ⟨7, 0, 28, 1⟩)), (8, Ia z), (9, Ia z37), (21, Ba false), (29, Ba true)] [] ?_)
   refine block_n (seq_n (vc_reg rfl (iQ 1 (iB .add 3 (.int .i64 z) (.int .i64 1) (some 31) ?_))))
   intro z31 hz31
   try replace hz31 := hz31.i64 (by omega)
   refine iQ 1 (iE 113 [(0, .d (.sl ns.length (i32L ns))), (1, .d (.v (.int .i32 a))), (4, Ba false), (5, .w (.sl ((numL (vs ++ [x1])).length) (encL (numL (vs ++ [x1])))) (some ⟨5, 0, 28, 1⟩)), (6, .w (.sl ((numL (ws ++ [x2])).length) (encL (numL (ws ++ [x2])))) (some ⟨6, 0, 28, 1⟩)), (7, .w (.sl ((numL (List.replicate (k + 1) d7)).length) (encL (numL (List.replicate (k + 1) d7)))) (some ⟨7, 0, 28, 1⟩)), (8, Ia z31), (9, Ia z37), (21, Ba false), (29, Ba true)] [] ?_)
   refine loop_n (k + 1, z31, vs ++ [x1], ws ++ [x2]) (⟨by omega, by omega, by simp; omega, all_snoc i4 he1, by simp; omega, all_snoc i6 he2⟩) (by simp only; omega) (by kernel_rfl) (by kernel_rfl)
end Go.Proofs.Ytmldjlgeeljfdaa
