/-
  casuistlaw12: EqualAmong. The order of values turns and leads on; to be the same turns; a value is the same as itself. casuistlaw12: EqualTurns.
-/
import Derived.Test.YtpambeengdhhmaaGreatDoorVlJ
namespace Go.Proofs.YtpambeengdhhmaaGreatDoor

open Go.RowKit
set_option linter.unusedVariables false
set_option linter.unusedSimpArgs false
set_option maxRecDepth 100000

def Tri (t : Int) : Prop := t = 0 ∨ t = 1 ∨ t = 2
theorem tri_of (p : Bool) : Tri (ofI p) := by unfold ofI Tri; split <;> simp
theorem tri_and (x y : Int) : Tri (andI x y) := by unfold andI Tri; split <;> (try split) <;> simp
theorem tri_simp (a b : Vl) : Tri (simpS a b) := by
  unfold simpS
  split
  · simp [Tri]
  · split
    · exact tri_of _
    · simp [Tri]
theorem tri_all : ∀ (xs ys : List Vl) {t : Int}, Tri t → Tri (allV t xs ys)
  | [], _, t, h => by simpa [allV] using h
  | x :: xs, [], t, h => by simpa [allV] using h
  | x :: xs, y :: ys, t, h => by rw [allV]; exact tri_all xs ys (tri_and _ _)
theorem tri_ctx : ∀ (ns : List L8) (xs : List Vl) (ms : List L8) (ys : List Vl) {t : Int}, Tri t → Tri (ctxS t ns xs ms ys)
  | ns, [], _, _, t, h => by cases ns <;> simpa [ctxS] using h
  | [], x :: xs, _, _, t, h => by simpa [ctxS] using h
  | n :: ns, x :: xs, ms, ys, t, h => by
    rw [ctxS]
    split
    · simp [Tri]
    · exact tri_ctx ns xs ms ys (tri_and _ _)
theorem tri_same (a b : Vl) : Tri (sameV a b) := by
  cases a
  case null => rw [sameV]; exact tri_of _
  case bool x => cases b <;> simp only [sameV] <;> first | exact tri_of _ | simp [Tri]
  case list xs =>
    cases b
    case list ys =>
      simp only [sameV]
      split
      · exact tri_all _ _ (.inr (.inr rfl))
      · simp [Tri]
    all_goals simp [sameV, Tri]
  case ctx ns xs =>
    cases b
    case ctx ms ys =>
      simp only [sameV]
      split
      · exact tri_ctx _ _ _ _ (.inr (.inr rfl))
      · simp [Tri]
    all_goals simp [sameV, Tri]
  case rng lo hi p q => cases b <;> simp only [sameV] <;> first | exact tri_and _ _ | simp [Tri]
  all_goals rw [sameV]; exact tri_simp _ _
theorem or_spec {x y : Int} (hx : Tri x) (hy : Tri y) : Tri (orI x y) ∧ (orI x y = 2 ↔ x = 2 ∨ y = 2) ∧ (orI x y = 0 ↔ ¬ (x = 2 ∨ y = 2) ∧ (x = 0 ∨ y = 0)) := by
  rcases hx with rfl | rfl | rfl <;> rcases hy with rfl | rfl | rfl <;> refine ⟨?_, ?_, ?_⟩ <;> simp [orI, notI, andI, Tri]
theorem am_spec (v : Vl) : ∀ (xs : List Vl) {t : Int}, Tri t → (amT v t xs = 2 ↔ t = 2 ∨ ∃ y ∈ xs, sameV v y = 2) ∧ (amT v t xs = 0 ↔ ¬ (t = 2 ∨ ∃ y ∈ xs, sameV v y = 2) ∧ (t = 0 ∨ ∃ y ∈ xs, sameV v y = 0))
  | [], t, h => by
    simp only [amT, List.foldl_nil, List.not_mem_nil, false_and, exists_false, or_false]
    refine ⟨trivial, fun h => ⟨by omega, h⟩, fun h => h.2⟩
  | x :: xs, t, h => by
    obtain ⟨h1, h2, h3⟩ := or_spec h (tri_same v x)
    obtain ⟨k1, k2⟩ := am_spec v xs h1
    rw [show amT v t (x :: xs) = amT v (orI t (sameV v x)) xs from rfl]
    simp only [List.mem_cons, exists_eq_or_imp]
    rw [k1, k2, h2, h3]
    constructor
    · rw [or_assoc]
    · constructor
      · rintro ⟨a, b⟩
        refine ⟨fun c => a (by rcases c with c | c | c <;> simp_all), ?_⟩
        rcases b with b | b
        · rcases b.2 with b | b
          · exact .inl b
          · exact .inr (.inl b)
        · exact .inr (.inr b)
      · rintro ⟨a, b⟩
        have a1 : ¬ (t = 2 ∨ sameV v x = 2) := fun c => a (by rcases c with c | c <;> simp_all)
        refine ⟨fun c => a (by rcases c with (c | c) | c <;> simp_all), ?_⟩
        rcases b with b | b | b
        · exact .inl ⟨a1, .inl b⟩
        · exact .inl ⟨a1, .inr b⟩
        · exact .inr b
theorem am_end {v : Vl} {xs : List Vl} {yes un : Bool} (h1 : yes = true ↔ ∃ y ∈ xs, sameV v y = 2) (h2 : un = true ↔ ∃ y ∈ xs, sameV v y = 0) : (amT v 1 xs = 2 ↔ yes = true) ∧ (amT v 1 xs = 0 ↔ yes = false ∧ un = true) := by
  obtain ⟨k1, k2⟩ := am_spec v xs (t := 1) (by simp [Tri])
  rw [k1, k2, h2, ← Bool.not_eq_true, h1]
  simp
theorem ex_snoc {v y : Vl} {vs : List Vl} {c c' : Bool} {r : Int} (h : c = true ↔ ∃ y ∈ vs, sameV v y = r) (h' : c' = true ↔ (c = true ∨ sameV v y = r)) : c' = true ↔ ∃ z ∈ vs ++ [y], sameV v z = r := by
  rw [h', h]
  simp only [List.mem_append, List.mem_singleton]
  constructor
  · rintro (⟨z, hz, e⟩ | e)
    · exact ⟨z, .inl hz, e⟩
    · exact ⟨y, .inr rfl, e⟩
  · rintro ⟨z, hz | rfl, e⟩
    · exact .inl ⟨z, hz, e⟩
    · exact .inr e
set_option maxHeartbeats 3200000 in
theorem c_EqualAmong {k : Int} {t : L8} {is ds : List Dm} {ns : List L8} {p q : Bool} (hs : (Dm.mk k t is ns p q).small) (hd : smallL ds) (hl : ds.length ≤ 1048576) : HasC Tryz.prog 7 [.agg [.v (.int .i64 k), .v (.string (tx t)), .sl ((is).length) (cellsL (is)), .sl ((ns).length) (txsD (ns)), .v (.bool p), .v (.bool q)], .sl ((ds).length) (cellsL (ds))] (fun r => r = .v (.bool true)) := by
 refine HasC.of [] (fn := Tryz.f7) tyOk mixed (fun args w => Tryz.call7 args w) Tryz.func7 rfl (by kernel_rfl) (Nat.le_of_ble_eq_true rfl) (⟨_, rfl⟩) ?_
 refine vc_seqr rfl (iQ 2 (iE 66 [(1, .d (.sl ((ds).length) (cellsL (ds)))), (2, .p 2 0), (4, Ba false)] [(2, [Iv k, Sv (tx t), .sl ((is).length) (cellsL (is)), .sl ((ns).length) (txsD (ns)), Bv p, Bv q])] ?_))
 refine vc_seq (vc_seqr rfl (iC 8 [] (some 13) (c_awake12) ?_))
 rintro _ rfl
 refine iU .not (.bool true) (some 14) ?_
 refine all_false ((by simp)) ?_
 refine iE 66 [(1, .d (.sl ((ds).length) (cellsL (ds)))), (2, .p 2 0), (4, Ba false), (14, Ba false)] [(2, [Iv k, Sv (tx t), .sl ((is).length) (cellsL (is)), .sl ((ns).length) (txsD (ns)), Bv p, Bv q])] ?_
 refine iF (vc_skip (seq_n (vc_seqr rfl (iQ 1 (iC 19 [.agg [Iv k, Sv (tx t), .sl ((is).length) (cellsL (is)), .sl ((ns).length) (txsD (ns)), Bv p, Bv q]] (some 16) (c_Make12 hs) ?_)))))
 rintro _ ⟨x, rfl, ox⟩
 refine iQ 2 (iE 66 [(1, .d (.sl ((ds).length) (cellsL (ds)))), (4, Ba false), (5, .p 5 0), (14, Ba false)] [(5, [.bx (x).enc])] ?_)
 refine vc_seqr rfl (iQ 1 (iE 66 [(1, .d (.sl ((ds).length) (cellsL (ds)))), (4, Ba false), (5, .p 5 0), (6, .w (.sl 0 []) none), (14, Ba false)] [(5, [.bx (x).enc])] ?_))
 refine vc_seqr rfl (iQ 2 (iE 66 [(1, .d (.sl ((ds).length) (cellsL (ds)))), (4, Ba false), (5, .p 5 0), (6, .w (.sl 0 []) none), (7, Ba false), (8, Ba false), (14, Ba false)] [(5, [.bx (x).enc])] ?_))
 refine vc_seq (vc_seqr rfl (iQ 1 (iE 66 [(1, .d (.sl ((ds).length) (cellsL (ds)))), (4, Ba false), (5, .p 5 0), (6, .w (.sl 0 []) none), (7, Ba false), (8, Ba false), (9, Ia 0), (14, Ba false)] [(5, [.bx (x).enc])] ?_)))
 refine vc_block (vc_loop 66 (fun (vcx : Nat × (List Vl) × Int × Bool × Bool) => match vcx with | (j, vs, z, yes, un) => [(1, .d (.sl ((ds).length) (cellsL (ds)))), (4, Ba false), (5, .p 5 0), (6, .w (.sl ((vs).length) (encL (vs))) (some ⟨6, 0, 30, 1⟩)), (7, Ba yes), (8, Ba un), (9, Ia z), (14, Ba false)]) (fun (vcx : Nat × (List Vl) × Int × Bool × Bool) => match vcx with | (j, vs, z, yes, un) => [(5, [.bx (x).enc])]) (fun (vcx : Nat × (List Vl) × Int × Bool × Bool) => match vcx with | (j, vs, z, yes, un) => z = j ∧ j ≤ ds.length ∧ vs.length = j ∧ okL vs ∧ (yes = true ↔ ∃ y ∈ vs, sameV x y = 2) ∧ (un = true ↔ ∃ y ∈ vs, sameV x y = 0)) (fun (vcx : Nat × (List Vl) × Int × Bool × Bool) => match vcx with | (j, vs, z, yes, un) => ds.length - j) ((0, [], 0, false, false)) (⟨rfl, Nat.zero_le _, rfl, by rw [okL]; trivial, by simp, by simp⟩) (by kernel_rfl) (by kernel_rfl) ?_)
 rintro ⟨j, vs, z, yes, un⟩ hinv
 simp only at hinv
 obtain ⟨h1, h2, h3, h4, h5, h6⟩ := hinv
 refine vc_seq (vc_seqr rfl (iQ 3 (iB .lss 3 (.int .i64 z) (.int .i64 ((((ds).length : Nat) : Int))) (some 20) ?_)))
 intro c20 hc20
 refine iQ 1 ?_
 cases c20
 ·replace hc20 := bf hc20
  refine iQ 3 (iE 66 [(1, .d (.sl ((ds).length) (cellsL (ds)))), (4, Ba false), (5, .p 5 0), (6, .w (.sl ((vs).length) (encL (vs))) (some ⟨6, 0, 30, 1⟩)), (7, Ba yes), (8, Ba un), (9, Ia z), (14, Ba false), (24, Ba false)] [(5, [.bx (x).enc])] ?_)
  refine iF (vc_exit (seq_x (loop_x (block_x rfl (seq_n (vc_seqr rfl (iQ 2 (iC 30 [.agg [.bx (x).enc], .sl ((vs).length) (encL (vs))] (some 51) (c_Among ox h4 (by omega)) ?_))))))))
  rintro _ rfl
  obtain ⟨e1, e2⟩ := am_end h5 h6
  refine iQ 1 (iE 66 [(1, .d (.sl ((ds).length) (cellsL (ds)))), (4, Ba false), (5, .p 5 0), (6, .w (.sl ((vs).length) (encL (vs))) (some ⟨6, 0, 30, 1⟩)), (7, Ba yes), (8, Ba un), (9, Ia z), (12, Ia (amT x 1 vs)), (14, Ba false), (24, Ba false)] [(5, [.bx (x).enc])] ?_)
  refine vc_seqr rfl (iQ 1 (iB .eql 23 (.int .i64 (amT x 1 vs)) (.int .i64 2) (some 53) ?_))
  intro c53 hc53
  refine iQ 1 (iB .eql 4 (.bool c53) (.bool yes) (some 55) ?_)
  refine all_true ((by rw [Bool.eq_iff_iff, hc53]; exact e1)) ?_
  refine iQ 2 (iB .eql 23 (.int .i64 (amT x 1 vs)) (.int .i64 0) (some 58) ?_)
  intro c58 hc58
  refine iQ 1 (iU .not (.bool yes) (some 60) ?_)
  intro c60 hc60
  refine iQ 1 ?_
  cases c60
  ·replace hc60 := bf hc60
   refine iQ 2 (iB .eql 4 (.bool c58) (.bool false) (some 64) ?_)
   refine all_true ((by rw [Bool.eq_iff_iff, hc58, e2]; simp [hc60])) ?_
   refine iQ 2 (iE 66 [(1, .d (.sl ((ds).length) (cellsL (ds)))), (4, Ba true), (5, .p 5 0), (6, .w (.sl ((vs).length) (encL (vs))) (some ⟨6, 0, 30, 1⟩)), (7, Ba yes), (8, Ba un), (9, Ia z), (14, Ba false), (24, Ba false)] [(5, [.bx (x).enc])] ?_)
   refine vc_ret (iR (Bv true) ?_)
   rfl
  ·replace hc60 := bt hc60
   refine iQ 2 (iB .eql 4 (.bool c58) (.bool un) (some 64) ?_)
   refine all_true ((by rw [Bool.eq_iff_iff, hc58, e2]; simp [hc60])) ?_
   refine iQ 2 (iE 66 [(1, .d (.sl ((ds).length) (cellsL (ds)))), (4, Ba true), (5, .p 5 0), (6, .w (.sl ((vs).length) (encL (vs))) (some ⟨6, 0, 30, 1⟩)), (7, Ba yes), (8, Ba un), (9, Ia z), (14, Ba false), (24, Ba false)] [(5, [.bx (x).enc])] ?_)
   refine vc_ret (iR (Bv true) ?_)
   rfl
 ·replace hc20 := bt hc20
  refine iQ 1 (iB .lss 3 (.int .i64 z) (.int .i64 10) (some 23) ?_)
  intro c23 hc23
  refine iQ 1 (iE 66 [(1, .d (.sl ((ds).length) (cellsL (ds)))), (4, Ba false), (5, .p 5 0), (6, .w (.sl ((vs).length) (encL (vs))) (some ⟨6, 0, 30, 1⟩)), (7, Ba yes), (8, Ba un), (9, Ia z), (14, Ba false), (24, Ba c23)] [(5, [.bx (x).enc])] ?_)
  cases c23
  ·replace hc23 := bf hc23
   refine iF (vc_exit (seq_x (loop_x (block_x rfl (seq_n (vc_seqr rfl (iQ 2 (iC 30 [.agg [.bx (x).enc], .sl ((vs).length) (encL (vs))] (some 51) (c_Among ox h4 (by omega)) ?_))))))))
   rintro _ rfl
   obtain ⟨e1, e2⟩ := am_end h5 h6
   refine iQ 1 (iE 66 [(1, .d (.sl ((ds).length) (cellsL (ds)))), (4, Ba false), (5, .p 5 0), (6, .w (.sl ((vs).length) (encL (vs))) (some ⟨6, 0, 30, 1⟩)), (7, Ba yes), (8, Ba un), (9, Ia z), (12, Ia (amT x 1 vs)), (14, Ba false), (24, Ba false)] [(5, [.bx (x).enc])] ?_)
   refine vc_seqr rfl (iQ 1 (iB .eql 23 (.int .i64 (amT x 1 vs)) (.int .i64 2) (some 53) ?_))
   intro c53 hc53
   refine iQ 1 (iB .eql 4 (.bool c53) (.bool yes) (some 55) ?_)
   refine all_true ((by rw [Bool.eq_iff_iff, hc53]; exact e1)) ?_
   refine iQ 2 (iB .eql 23 (.int .i64 (amT x 1 vs)) (.int .i64 0) (some 58) ?_)
   intro c58 hc58
   refine iQ 1 (iU .not (.bool yes) (some 60) ?_)
   intro c60 hc60
   refine iQ 1 ?_
   cases c60
   ·replace hc60 := bf hc60
    refine iQ 2 (iB .eql 4 (.bool c58) (.bool false) (some 64) ?_)
    refine all_true ((by rw [Bool.eq_iff_iff, hc58, e2]; simp [hc60])) ?_
    refine iQ 2 (iE 66 [(1, .d (.sl ((ds).length) (cellsL (ds)))), (4, Ba true), (5, .p 5 0), (6, .w (.sl ((vs).length) (encL (vs))) (some ⟨6, 0, 30, 1⟩)), (7, Ba yes), (8, Ba un), (9, Ia z), (14, Ba false), (24, Ba false)] [(5, [.bx (x).enc])] ?_)
    refine vc_ret (iR (Bv true) ?_)
    rfl
   ·replace hc60 := bt hc60
    refine iQ 2 (iB .eql 4 (.bool c58) (.bool un) (some 64) ?_)
    refine all_true ((by rw [Bool.eq_iff_iff, hc58, e2]; simp [hc60])) ?_
    refine iQ 2 (iE 66 [(1, .d (.sl ((ds).length) (cellsL (ds)))), (4, Ba true), (5, .p 5 0), (6, .w (.sl ((vs).length) (encL (vs))) (some ⟨6, 0, 30, 1⟩)), (7, Ba yes), (8, Ba un), (9, Ia z), (14, Ba false), (24, Ba false)] [(5, [.bx (x).enc])] ?_)
    refine vc_ret (iR (Bv true) ?_)
    rfl
  ·replace hc23 := bt hc23
   have hj : j < ds.length := by omega
   obtain ⟨⟨k', t', is', ns', p', q'⟩, hm⟩ : ∃ d, ds[j]? = some d := ⟨_, List.getElem?_eq_getElem hj⟩
   have hsm := smallL_iff.1 hd _ (List.mem_of_getElem? hm)
   refine iT (vc_skip (seq_n (vc_seq (vc_block (vc_seqr rfl (iQ 2 (vcI_idx (q := z) (n := ((ds).length)) (cs := (cellsL (ds))) (z := 6) (ds := [.v (.int .i64 k'), .v (.string (tx t')), .sl ((is').length) (cellsL (is')), .sl ((ns').length) (txsD (ns')), .v (.bool p'), .v (.bool q')]) (dst := (some 29)) (by kernel_rfl) (by omega) (by rw [h1, Int.toNat_natCast]; exact (cellsL_get hm).trans (by rw [Dm.cells])) ?_)))))))
   refine iQ 1 (iC 19 [.agg [Iv k', Sv (tx t'), .sl ((is').length) (cellsL (is')), .sl ((ns').length) (txsD (ns')), Bv p', Bv q']] (some 31) (c_Make12 hsm) ?_)
   rintro _ ⟨v, rfl, ov⟩
   refine iQ 2 (iE 66 [(1, .d (.sl ((ds).length) (cellsL (ds)))), (4, Ba false), (5, .p 5 0), (6, .w (.sl ((vs).length) (encL (vs))) (some ⟨6, 0, 30, 1⟩)), (7, Ba yes), (8, Ba un), (9, Ia z), (10, .p 10 0), (14, Ba false), (24, Ba true)] [(5, [.bx (x).enc]), (10, [.bx (v).enc])] ?_)
   refine vc_seqr rfl (iQ 3 (vcI_app (n := ((vs).length)) (cs := (encL (vs))) (m := 1) (ds := [.bx (v).enc]) (N := ((vs ++ [v]).length)) (es := (encL (vs ++ [v]))) (j := 6) (e := 30) (z := 1) (dst := (some 35)) (by kernel_rfl) (by first | rfl | omega | (rw [Nat.mul_one]; exact dg_len _) | (simp [dg]; done) | (simp [dg]; omega)) (by first | rfl | omega | (rw [Nat.mul_one]; exact dg_len _) | (simp [dg]; done) | (simp [dg]; omega)) (rfl) (by omega) (by simp) (encL_snoc) ?_))
   refine iQ 1 (iE 66 [(1, .d (.sl ((ds).length) (cellsL (ds)))), (4, Ba false), (5, .p 5 0), (6, .w (.sl ((vs ++ [v]).length) (encL (vs ++ [v]))) (some ⟨6, 0, 30, 1⟩)), (7, Ba yes), (8, Ba un), (9, Ia z), (10, .p 10 0), (14, Ba false), (24, Ba true)] [(5, [.bx (x).enc]), (10, [.bx (v).enc])] ?_)
   refine vc_seqr rfl (iQ 2 (iC 23 [.agg [.bx (x).enc], .agg [.bx (v).enc]] (some 38) (c_Same x v ox ov) ?_))
   rintro _ rfl
   refine iQ 1 (iE 66 [(1, .d (.sl ((ds).length) (cellsL (ds)))), (4, Ba false), (5, .p 5 0), (6, .w (.sl ((vs ++ [v]).length) (encL (vs ++ [v]))) (some ⟨6, 0, 30, 1⟩)), (7, Ba yes), (8, Ba un), (9, Ia z), (10, .p 10 0), (11, Ia (sameV x v)), (14, Ba false), (24, Ba true)] [(5, [.bx (x).enc]), (10, [.bx (v).enc])] ?_)
   refine vc_seqr rfl (iQ 2 ?_)
   cases yes
   ·skip
    refine iQ 1 (iB .eql 23 (.int .i64 (sameV x v)) (.int .i64 2) (some 42) ?_)
    intro c42 hc42
    refine iQ 2 (iE 66 [(1, .d (.sl ((ds).length) (cellsL (ds)))), (4, Ba false), (5, .p 5 0), (6, .w (.sl ((vs ++ [v]).length) (encL (vs ++ [v]))) (some ⟨6, 0, 30, 1⟩)), (7, Ba c42), (8, Ba un), (9, Ia z), (10, .p 10 0), (11, Ia (sameV x v)), (14, Ba false), (24, Ba true)] [(5, [.bx (x).enc]), (10, [.bx (v).enc])] ?_)
    refine vc_reg rfl (iQ 2 ?_)
    cases un
    ·skip
     refine iQ 1 (iB .eql 23 (.int .i64 (sameV x v)) (.int .i64 0) (some 47) ?_)
     intro c47 hc47
     refine iQ 2 (iE 66 [(1, .d (.sl ((ds).length) (cellsL (ds)))), (4, Ba false), (5, .p 5 0), (6, .w (.sl ((vs ++ [v]).length) (encL (vs ++ [v]))) (some ⟨6, 0, 30, 1⟩)), (7, Ba c42), (8, Ba c47), (9, Ia z), (10, .p 10 0), (11, Ia (sameV x v)), (14, Ba false), (24, Ba true)] [(5, [.bx (x).enc]), (10, [.bx (v).enc])] ?_)
     refine block_n (seq_n (vc_reg rfl (iQ 1 (iB .add 3 (.int .i64 z) (.int .i64 1) (some 26) ?_))))
     intro z26 hz26
     try replace hz26 := hz26.i64 (by omega)
     refine iQ 1 (iE 66 [(1, .d (.sl ((ds).length) (cellsL (ds)))), (4, Ba false), (5, .p 5 0), (6, .w (.sl ((vs ++ [v]).length) (encL (vs ++ [v]))) (some ⟨6, 0, 30, 1⟩)), (7, Ba c42), (8, Ba c47), (9, Ia z26), (10, .p 10 0), (11, Ia (sameV x v)), (14, Ba false), (24, Ba true)] [(5, [.bx (x).enc]), (10, [.bx (v).enc])] ?_)
     refine loop_n (j + 1, vs ++ [v], z26, c42, c47) (⟨by omega, by omega, by simp; omega, okL_snoc h4 ov, ex_snoc h5 (by rw [hc42]; simp), ex_snoc h6 (by rw [hc47]; simp)⟩) (by show ds.length - (j + 1) < ds.length - j; omega) (by kernel_rfl) (by kernel_rfl)
    ·skip
     refine iQ 4 (iE 66 [(1, .d (.sl ((ds).length) (cellsL (ds)))), (4, Ba false), (5, .p 5 0), (6, .w (.sl ((vs ++ [v]).length) (encL (vs ++ [v]))) (some ⟨6, 0, 30, 1⟩)), (7, Ba c42), (8, Ba true), (9, Ia z), (10, .p 10 0), (11, Ia (sameV x v)), (14, Ba false), (24, Ba true)] [(5, [.bx (x).enc]), (10, [.bx (v).enc])] ?_)
     refine block_n (seq_n (vc_reg rfl (iQ 1 (iB .add 3 (.int .i64 z) (.int .i64 1) (some 26) ?_))))
     intro z26 hz26
     try replace hz26 := hz26.i64 (by omega)
     refine iQ 1 (iE 66 [(1, .d (.sl ((ds).length) (cellsL (ds)))), (4, Ba false), (5, .p 5 0), (6, .w (.sl ((vs ++ [v]).length) (encL (vs ++ [v]))) (some ⟨6, 0, 30, 1⟩)), (7, Ba c42), (8, Ba true), (9, Ia z26), (10, .p 10 0), (11, Ia (sameV x v)), (14, Ba false), (24, Ba true)] [(5, [.bx (x).enc]), (10, [.bx (v).enc])] ?_)
     refine loop_n (j + 1, vs ++ [v], z26, c42, true) (⟨by omega, by omega, by simp; omega, okL_snoc h4 ov, ex_snoc h5 (by rw [hc42]; simp), ex_snoc h6 (by simp)⟩) (by show ds.length - (j + 1) < ds.length - j; omega) (by kernel_rfl) (by kernel_rfl)
   ·skip
    refine iQ 4 (iE 66 [(1, .d (.sl ((ds).length) (cellsL (ds)))), (4, Ba false), (5, .p 5 0), (6, .w (.sl ((vs ++ [v]).length) (encL (vs ++ [v]))) (some ⟨6, 0, 30, 1⟩)), (7, Ba true), (8, Ba un), (9, Ia z), (10, .p 10 0), (11, Ia (sameV x v)), (14, Ba false), (24, Ba true)] [(5, [.bx (x).enc]), (10, [.bx (v).enc])] ?_)
    refine vc_reg rfl (iQ 2 ?_)
    cases un
    ·skip
     refine iQ 1 (iB .eql 23 (.int .i64 (sameV x v)) (.int .i64 0) (some 47) ?_)
     intro c47 hc47
     refine iQ 2 (iE 66 [(1, .d (.sl ((ds).length) (cellsL (ds)))), (4, Ba false), (5, .p 5 0), (6, .w (.sl ((vs ++ [v]).length) (encL (vs ++ [v]))) (some ⟨6, 0, 30, 1⟩)), (7, Ba true), (8, Ba c47), (9, Ia z), (10, .p 10 0), (11, Ia (sameV x v)), (14, Ba false), (24, Ba true)] [(5, [.bx (x).enc]), (10, [.bx (v).enc])] ?_)
     refine block_n (seq_n (vc_reg rfl (iQ 1 (iB .add 3 (.int .i64 z) (.int .i64 1) (some 26) ?_))))
     intro z26 hz26
     try replace hz26 := hz26.i64 (by omega)
     refine iQ 1 (iE 66 [(1, .d (.sl ((ds).length) (cellsL (ds)))), (4, Ba false), (5, .p 5 0), (6, .w (.sl ((vs ++ [v]).length) (encL (vs ++ [v]))) (some ⟨6, 0, 30, 1⟩)), (7, Ba true), (8, Ba c47), (9, Ia z26), (10, .p 10 0), (11, Ia (sameV x v)), (14, Ba false), (24, Ba true)] [(5, [.bx (x).enc]), (10, [.bx (v).enc])] ?_)
     refine loop_n (j + 1, vs ++ [v], z26, true, c47) (⟨by omega, by omega, by simp; omega, okL_snoc h4 ov, ex_snoc h5 (by simp), ex_snoc h6 (by rw [hc47]; simp)⟩) (by show ds.length - (j + 1) < ds.length - j; omega) (by kernel_rfl) (by kernel_rfl)
    ·skip
     refine iQ 4 (iE 66 [(1, .d (.sl ((ds).length) (cellsL (ds)))), (4, Ba false), (5, .p 5 0), (6, .w (.sl ((vs ++ [v]).length) (encL (vs ++ [v]))) (some ⟨6, 0, 30, 1⟩)), (7, Ba true), (8, Ba true), (9, Ia z), (10, .p 10 0), (11, Ia (sameV x v)), (14, Ba false), (24, Ba true)] [(5, [.bx (x).enc]), (10, [.bx (v).enc])] ?_)
     refine block_n (seq_n (vc_reg rfl (iQ 1 (iB .add 3 (.int .i64 z) (.int .i64 1) (some 26) ?_))))
     intro z26 hz26
     try replace hz26 := hz26.i64 (by omega)
     refine iQ 1 (iE 66 [(1, .d (.sl ((ds).length) (cellsL (ds)))), (4, Ba false), (5, .p 5 0), (6, .w (.sl ((vs ++ [v]).length) (encL (vs ++ [v]))) (some ⟨6, 0, 30, 1⟩)), (7, Ba true), (8, Ba true), (9, Ia z26), (10, .p 10 0), (11, Ia (sameV x v)), (14, Ba false), (24, Ba true)] [(5, [.bx (x).enc]), (10, [.bx (v).enc])] ?_)
     refine loop_n (j + 1, vs ++ [v], z26, true, true) (⟨by omega, by omega, by simp; omega, okL_snoc h4 ov, ex_snoc h5 (by simp), ex_snoc h6 (by simp)⟩) (by show ds.length - (j + 1) < ds.length - j; omega) (by kernel_rfl) (by kernel_rfl)


open Go.RowKit
set_option linter.unusedVariables false
set_option linter.unusedSimpArgs false
set_option maxRecDepth 100000

theorem cb_swap : ∀ a b : L8, Lib.compareBytes b a = -Lib.compareBytes a b
  | [], [] => rfl
  | [], _ :: _ => rfl
  | _ :: _, [] => rfl
  | x :: a, y :: b => by
    rw [Lib.compareBytes, Lib.compareBytes]
    simp only [UInt8.lt_iff_toNat_lt]
    by_cases h1 : x.toNat < y.toNat
    · rw [if_neg (show ¬ y.toNat < x.toNat by omega), if_pos h1, if_pos h1]; rfl
    · by_cases h2 : y.toNat < x.toNat
      · rw [if_pos h2, if_neg h1, if_pos h2]
      · rw [if_neg h2, if_neg h1, if_neg h1, if_neg h2, cb_swap a b]
theorem cb_bd : ∀ a b : L8, -1 ≤ Lib.compareBytes a b ∧ Lib.compareBytes a b ≤ 1
  | [], [] => by decide
  | [], _ :: _ => by simp [Lib.compareBytes]
  | _ :: _, [] => by simp [Lib.compareBytes]
  | x :: a, y :: b => by
    rw [Lib.compareBytes]
    split
    · omega
    · split
      · omega
      · exact cb_bd a b
theorem cb_on : ∀ {a b c : L8}, Lib.compareBytes a b ≤ 0 → Lib.compareBytes b c ≤ 0 → Lib.compareBytes a c ≤ 0
  | [], b, [], _, _ => by simp [Lib.compareBytes]
  | [], b, _ :: _, _, _ => by simp [Lib.compareBytes]
  | _ :: _, [], c, h, _ => by simp [Lib.compareBytes] at h
  | _ :: _, _ :: _, [], _, h => by simp [Lib.compareBytes] at h
  | x :: a, y :: b, z :: c, h1, h2 => by
    rw [Lib.compareBytes] at h1 h2 ⊢
    simp only [UInt8.lt_iff_toNat_lt] at h1 h2 ⊢
    split at h1
    · split at h2
      · rw [if_pos (by omega)]; decide
      · split at h2
        · omega
        · rw [if_pos (by omega)]; decide
    · split at h1
      · omega
      · split at h2
        · rw [if_pos (by omega)]; decide
        · split at h2
          · omega
          · rw [if_neg (by omega), if_neg (by omega)]
            exact cb_on h1 h2
theorem cmpI_bd (x y : Int) : -1 ≤ cmpI x y ∧ cmpI x y ≤ 1 := by unfold cmpI; split <;> (try split) <;> omega
theorem cmpI_on {x y z : Int} (h1 : cmpI x y ≤ 0) (h2 : cmpI y z ≤ 0) : cmpI x z ≤ 0 := by
  rw [cmpI_le] at *
  omega
theorem cmpZ_bd (s1 s2 : Bool) (A B : Nat) (e1 e2 : Int) : -1 ≤ cmpZ s1 A e1 s2 B e2 ∧ cmpZ s1 A e1 s2 B e2 ≤ 1 := by rw [cmpZ]; exact cmpI_bd _ _
theorem cmpZ_on {s1 s2 s3 : Bool} {A B C : Nat} {e1 e2 e3 : Int} (h1 : cmpZ s1 A e1 s2 B e2 ≤ 0) (h2 : cmpZ s2 B e2 s3 C e3 ≤ 0) : cmpZ s1 A e1 s3 C e3 ≤ 0 := by
  rw [cmpZ_any (E := min (min e1 e2) e3) (by omega) (by omega)] at h1 h2 ⊢
  exact cmpI_on h1 h2
theorem ord_swap (a b : Vl) : ordV b a = (ordV a b).map (fun c => -c) := by
  by_cases h : a.kindI = b.kindI
  · cases a
    case num g n e => obtain ⟨g', n', e', rfl⟩ := kind3 h.symm; simp only [ordV, Option.map_some, cmpZ_swap g g' n n' e e']
    case text l => obtain ⟨l', rfl⟩ := kind4 h.symm; simp only [ordV, Option.map_some, cb_swap l l']
    case day y m d => obtain ⟨y', m', d', rfl⟩ := kind5 h.symm; simp only [ordV, Option.map_some, cmpI_swap (keyD y m d)]
    case time s z o =>
      obtain ⟨s', z', o', rfl⟩ := kind6 h.symm
      simp only [ordV]
      by_cases hz : z = z'
      · rw [if_pos hz, if_pos hz.symm, Option.map_some, cmpI_swap (s - o)]
      · rw [if_neg hz, if_neg (Ne.symm hz)]; rfl
    case mom y m d s z o =>
      obtain ⟨y', m', d', s', z', o', rfl⟩ := kind7 h.symm
      simp only [ordV]
      by_cases hz : z = z'
      · rw [if_pos hz, if_pos hz.symm, Option.map_some, cmpI_swap (86400 * numI y m d + s - o)]
      · rw [if_neg hz, if_neg (Ne.symm hz)]; rfl
    case days n => obtain ⟨n', rfl⟩ := kind8 h.symm; simp only [ordV, Option.map_some, cmpI_swap n]
    case months n => obtain ⟨n', rfl⟩ := kind9 h.symm; simp only [ordV, Option.map_some, cmpI_swap n]
    all_goals
      rw [ord_un (show ¬ (3 ≤ b.kindI ∧ b.kindI ≤ 9) by rw [← h]; simp [Vl.kindI]), ord_un (by simp [Vl.kindI])]
      rfl
  · rw [ord_kind h, ord_kind (Ne.symm h)]
    rfl
theorem ord_bd {a b : Vl} {c : Int} (h : ordV a b = some c) : -1 ≤ c ∧ c ≤ 1 := by
  have hk : a.kindI = b.kindI := by
    by_cases hk : a.kindI = b.kindI
    · exact hk
    · rw [ord_kind hk] at h; cases h
  cases a
  case num g n e => obtain ⟨g', n', e', rfl⟩ := kind3 hk.symm; simp only [ordV, Option.some.injEq] at h; rw [← h]; exact cmpZ_bd _ _ _ _ _ _
  case text l => obtain ⟨l', rfl⟩ := kind4 hk.symm; simp only [ordV, Option.some.injEq] at h; rw [← h]; exact cb_bd _ _
  case day y m d => obtain ⟨y', m', d', rfl⟩ := kind5 hk.symm; simp only [ordV, Option.some.injEq] at h; rw [← h]; exact cmpI_bd _ _
  case time s z o =>
    obtain ⟨s', z', o', rfl⟩ := kind6 hk.symm
    simp only [ordV] at h
    split at h
    · cases h; exact cmpI_bd _ _
    · cases h
  case mom y m d s z o =>
    obtain ⟨y', m', d', s', z', o', rfl⟩ := kind7 hk.symm
    simp only [ordV] at h
    split at h
    · cases h; exact cmpI_bd _ _
    · cases h
  case days n => obtain ⟨n', rfl⟩ := kind8 hk.symm; simp only [ordV, Option.some.injEq] at h; rw [← h]; exact cmpI_bd _ _
  case months n => obtain ⟨n', rfl⟩ := kind9 hk.symm; simp only [ordV, Option.some.injEq] at h; rw [← h]; exact cmpI_bd _ _
  all_goals
    rw [ord_un (by simp [Vl.kindI])] at h
    cases h
theorem ord_on {a b c : Vl} {i j : Int} (h1 : ordV a b = some i) (h2 : ordV b c = some j) : ∃ k, ordV a c = some k ∧ (i ≤ 0 → j ≤ 0 → k ≤ 0) := by
  have hk : a.kindI = b.kindI := by
    by_cases hk : a.kindI = b.kindI
    · exact hk
    · rw [ord_kind hk] at h1; cases h1
  have hk2 : b.kindI = c.kindI := by
    by_cases hk : b.kindI = c.kindI
    · exact hk
    · rw [ord_kind hk] at h2; cases h2
  cases a
  case num g n e =>
    obtain ⟨g', n', e', rfl⟩ := kind3 hk.symm
    obtain ⟨g3, n3, e3, rfl⟩ := kind3 hk2.symm
    simp only [ordV, Option.some.injEq] at h1 h2 ⊢
    exact ⟨_, rfl, fun a b => cmpZ_on (by rw [h1]; exact a) (by rw [h2]; exact b)⟩
  case text l =>
    obtain ⟨l', rfl⟩ := kind4 hk.symm
    obtain ⟨l3, rfl⟩ := kind4 hk2.symm
    simp only [ordV, Option.some.injEq] at h1 h2 ⊢
    exact ⟨_, rfl, fun a b => cb_on (by rw [h1]; exact a) (by rw [h2]; exact b)⟩
  case day y m d =>
    obtain ⟨y', m', d', rfl⟩ := kind5 hk.symm
    obtain ⟨y3, m3, d3, rfl⟩ := kind5 hk2.symm
    simp only [ordV, Option.some.injEq] at h1 h2 ⊢
    exact ⟨_, rfl, fun a b => cmpI_on (by rw [h1]; exact a) (by rw [h2]; exact b)⟩
  case time s z o =>
    obtain ⟨s', z', o', rfl⟩ := kind6 hk.symm
    obtain ⟨s3, z3, o3, rfl⟩ := kind6 hk2.symm
    simp only [ordV] at h1 h2 ⊢
    split at h1
    · split at h2
      · rename_i e1 e2
        cases h1
        cases h2
        rw [if_pos (e1.trans e2)]
        exact ⟨_, rfl, fun a b => cmpI_on a b⟩
      · cases h2
    · cases h1
  case mom y m d s z o =>
    obtain ⟨y', m', d', s', z', o', rfl⟩ := kind7 hk.symm
    obtain ⟨y3, m3, d3, s3, z3, o3, rfl⟩ := kind7 hk2.symm
    simp only [ordV] at h1 h2 ⊢
    split at h1
    · split at h2
      · rename_i e1 e2
        cases h1
        cases h2
        rw [if_pos (e1.trans e2)]
        exact ⟨_, rfl, fun a b => cmpI_on a b⟩
      · cases h2
    · cases h1
  case days n =>
    obtain ⟨n', rfl⟩ := kind8 hk.symm
    obtain ⟨n3, rfl⟩ := kind8 hk2.symm
    simp only [ordV, Option.some.injEq] at h1 h2 ⊢
    exact ⟨_, rfl, fun a b => cmpI_on (by rw [h1]; exact a) (by rw [h2]; exact b)⟩
  case months n =>
    obtain ⟨n', rfl⟩ := kind9 hk.symm
    obtain ⟨n3, rfl⟩ := kind9 hk2.symm
    simp only [ordV, Option.some.injEq] at h1 h2 ⊢
    exact ⟨_, rfl, fun a b => cmpI_on (by rw [h1]; exact a) (by rw [h2]; exact b)⟩
  all_goals
    rw [ord_un (by simp [Vl.kindI])] at h1
    cases h1
-- sameness
theorem an1 {x y : Int} : andI x y = 1 ↔ x = 1 ∨ y = 1 := by
  unfold andI
  split
  · rename_i h; simp [h]
  · rename_i h; split <;> simp [h]
theorem an2 {x y : Int} : andI x y = 2 ↔ x = 2 ∧ y = 2 := by
  unfold andI
  split
  · rename_i h
    constructor
    · intro k; cases k
    · intro k; omega
  · split
    · rename_i h; simp [h]
    · rename_i h; simp [h]
theorem tri_eq {x y : Int} (hx : Tri x) (hy : Tri y) (h1 : x = 1 ↔ y = 1) (h2 : x = 2 ↔ y = 2) : x = y := by unfold Tri at *; omega
theorem all_symm : ∀ {xs ys : List Vl} {t : Int}, (∀ x ∈ xs, ∀ y ∈ ys, sameV x y = sameV y x) → allV t xs ys = allV t ys xs
  | [], [], t, _ => rfl
  | [], y :: ys, t, _ => by simp [allV]
  | x :: xs, [], t, _ => by simp [allV]
  | x :: xs, y :: ys, t, h => by
    rw [allV, allV, h x (by simp) y (by simp)]
    exact all_symm fun x hx y hy => h x (by simp [hx]) y (by simp [hy])
theorem all_refl : ∀ {xs : List Vl} {t : Int}, t ≠ 1 → (∀ x ∈ xs, sameV x x ≠ 1) → allV t xs xs ≠ 1
  | [], t, h, _ => by simpa [allV] using h
  | x :: xs, t, h, k => by
    rw [allV]
    exact all_refl (fun e => by rcases an1.1 e with e | e; exact h e; exact k x (by simp) e) fun x hx => k x (by simp [hx])
theorem ctx_one : ∀ {ns : List L8} {xs : List Vl} {ms : List L8} {ys : List Vl} {t : Int}, ns.length = xs.length → (ctxS t ns xs ms ys = 1 ↔ t = 1 ∨ ∃ (i : Nat) (n : L8) (x : Vl), ns[i]? = some n ∧ xs[i]? = some x ∧ (idxOf n ms = none ∨ ∃ k, idxOf n ms = some k ∧ sameV x (ys.getD k .null) = 1))
  | [], [], ms, ys, t, _ => by simp [ctxS]
  | n :: ns, x :: xs, ms, ys, t, h => by
    rw [ctxS]
    cases hq : idxOf n ms with
    | none => exact ⟨fun _ => .inr ⟨0, n, x, rfl, rfl, .inl hq⟩, fun _ => rfl⟩
    | some k =>
      simp only
      rw [ctx_one (by simpa using h), an1]
      constructor
      · rintro ((h1 | h1) | ⟨i, n', x', h1, h2, h3⟩)
        · exact .inl h1
        · exact .inr ⟨0, n, x, rfl, rfl, .inr ⟨k, hq, h1⟩⟩
        · exact .inr ⟨i + 1, n', x', by simpa using h1, by simpa using h2, h3⟩
      · rintro (h1 | ⟨i, n', x', h1, h2, h3⟩)
        · exact .inl (.inl h1)
        · cases i with
          | zero =>
            simp at h1 h2
            subst h1 h2
            rcases h3 with h3 | ⟨k', h3, h4⟩
            · rw [hq] at h3; cases h3
            · rw [hq] at h3; cases h3; exact .inl (.inr h4)
          | succ i => exact .inr ⟨i, n', x', by simpa using h1, by simpa using h2, h3⟩
theorem ctx_two : ∀ {ns : List L8} {xs : List Vl} {ms : List L8} {ys : List Vl} {t : Int}, ns.length = xs.length → (ctxS t ns xs ms ys = 2 ↔ t = 2 ∧ ∀ (i : Nat) (n : L8) (x : Vl), ns[i]? = some n → xs[i]? = some x → ∃ k, idxOf n ms = some k ∧ sameV x (ys.getD k .null) = 2)
  | [], [], ms, ys, t, _ => by simp [ctxS]
  | n :: ns, x :: xs, ms, ys, t, h => by
    rw [ctxS]
    cases hq : idxOf n ms with
    | none =>
      simp only
      constructor
      · intro k; cases k
      · rintro ⟨_, h1⟩
        obtain ⟨k, h2, _⟩ := h1 0 n x rfl rfl
        rw [hq] at h2
        cases h2
    | some k =>
      simp only
      rw [ctx_two (by simpa using h), an2]
      constructor
      · rintro ⟨⟨h1, h2⟩, h3⟩
        refine ⟨h1, fun i n' x' k1 k2 => ?_⟩
        cases i with
        | zero =>
          simp at k1 k2
          subst k1 k2
          exact ⟨k, hq, h2⟩
        | succ i => exact h3 i n' x' (by simpa using k1) (by simpa using k2)
      · rintro ⟨h1, h2⟩
        refine ⟨⟨h1, ?_⟩, fun i n' x' k1 k2 => h2 (i + 1) n' x' (by simpa using k1) (by simpa using k2)⟩
        obtain ⟨k', h3, h4⟩ := h2 0 n x rfl rfl
        rw [hq] at h3
        cases h3
        exact h4
theorem nodup_le : ∀ {ns ms : List L8}, ns.Nodup → (∀ n ∈ ns, n ∈ ms) → ns.length ≤ ms.length
  | [], ms, _, _ => Nat.zero_le _
  | n :: ns, ms, h, k => by
    obtain ⟨h1, h2⟩ := List.nodup_cons.1 h
    have hn := k n (by simp)
    have := nodup_le (ms := ms.erase n) h2 fun m hm => (List.mem_erase_of_ne (fun e => by subst e; exact h1 hm)).2 (k m (by simp [hm]))
    rw [List.length_erase_of_mem hn] at this
    have := List.length_pos_of_mem hn
    rw [List.length_cons]
    omega
theorem nodup_back {ns ms : List L8} (h : ns.Nodup) (hl : ms.length ≤ ns.length) (k : ∀ n ∈ ns, n ∈ ms) : ∀ m ∈ ms, m ∈ ns := by
  intro m hm
  refine Classical.byContradiction fun hn => ?_
  have := nodup_le (ms := ms.erase m) h fun n hn' => (List.mem_erase_of_ne (fun e => by subst e; exact hn hn')).2 (k n hn')
  rw [List.length_erase_of_mem hm] at this
  have := List.length_pos_of_mem hm
  omega
theorem idx_own {ns : List L8} {i : Nat} {n : L8} (h : ns.Nodup) (hi : ns[i]? = some n) : idxOf n ns = some i := by
  refine idx_some ⟨hi, fun j hj e => ?_⟩
  obtain ⟨h1, h2⟩ := List.getElem?_eq_some_iff.1 hi
  obtain ⟨h3, h4⟩ := List.getElem?_eq_some_iff.1 e
  have := List.pairwise_iff_getElem.1 h j i h3 h1 hj
  exact this (h4.trans h2.symm)
theorem idx_mem {ns : List L8} {n : L8} (h : n ∈ ns) : ∃ k, idxOf n ns = some k := by
  cases hq : idxOf n ns with
  | none => exact absurd h (idx_none.1 hq)
  | some k => exact ⟨k, rfl⟩
theorem getD_at {ys : List Vl} {k : Nat} {y : Vl} (h : ys[k]? = some y) : ys.getD k .null = y := by rw [List.getD_eq_getElem?_getD, h]; rfl
theorem ctx_half1 {ns ms : List L8} {xs ys : List Vl} (hn : ns.Nodup) (hm : ms.Nodup) (hl : ns.length = ms.length) (hx : ns.length = xs.length) (hy : ms.length = ys.length) (h : ∀ x ∈ xs, ∀ y ∈ ys, sameV x y = sameV y x) (k : ctxS 2 ns xs ms ys = 1) : ctxS 2 ms ys ns xs = 1 := by
  rw [ctx_one hx] at k
  rw [ctx_one hy]
  rcases k with k | ⟨i, n, x, h1, h2, h3⟩
  · cases k
  · refine .inr ?_
    rcases h3 with h3 | ⟨k, h3, h4⟩
    · obtain ⟨m, hm1, hm2⟩ : ∃ m ∈ ms, m ∉ ns := by
        refine Classical.byContradiction fun hc => ?_
        have : ∀ m ∈ ms, m ∈ ns := fun m hm => Classical.byContradiction fun h => hc ⟨m, hm, h⟩
        exact (idx_none.1 h3) (nodup_back hm (by omega) this n (List.mem_of_getElem? h1))
      obtain ⟨j, hj⟩ := List.getElem?_of_mem hm1
      have hjl := (List.getElem?_eq_some_iff.1 hj).1
      exact ⟨j, m, ys[j]'(by omega), hj, List.getElem?_eq_getElem (by omega), .inl (idx_none.2 hm2)⟩
    · have h5 := idx_at h3
      have hkl := (List.getElem?_eq_some_iff.1 h5).1
      have h6 : ys[k]? = some (ys[k]'(by omega)) := List.getElem?_eq_getElem (by omega)
      refine ⟨k, n, _, h5, h6, .inr ⟨i, idx_own hn h1, ?_⟩⟩
      rw [getD_at h6] at h4
      rw [getD_at h2, ← h x (List.mem_of_getElem? h2) _ (List.mem_of_getElem? h6)]
      exact h4
theorem ctx_half2 {ns ms : List L8} {xs ys : List Vl} (hn : ns.Nodup) (hm : ms.Nodup) (hl : ns.length = ms.length) (hx : ns.length = xs.length) (hy : ms.length = ys.length) (h : ∀ x ∈ xs, ∀ y ∈ ys, sameV x y = sameV y x) (k : ctxS 2 ns xs ms ys = 2) : ctxS 2 ms ys ns xs = 2 := by
  rw [ctx_two hx] at k
  rw [ctx_two hy]
  refine ⟨rfl, fun j m y h1 h2 => ?_⟩
  have hsub : ∀ n ∈ ns, n ∈ ms := fun n hn' => by
    obtain ⟨i, hi⟩ := List.getElem?_of_mem hn'
    have hil := (List.getElem?_eq_some_iff.1 hi).1
    obtain ⟨k', h3, _⟩ := k.2 i n _ hi (List.getElem?_eq_getElem (by omega))
    exact List.mem_of_getElem? (idx_at h3)
  obtain ⟨i, hi⟩ := idx_mem (nodup_back hn (by omega) hsub m (List.mem_of_getElem? h1))
  have h3 := idx_at hi
  have hil := (List.getElem?_eq_some_iff.1 h3).1
  have h4 : xs[i]? = some (xs[i]'(by omega)) := List.getElem?_eq_getElem (by omega)
  obtain ⟨k', h5, h6⟩ := k.2 i m _ h3 h4
  rw [idx_own hm h1] at h5
  cases h5
  refine ⟨i, hi, ?_⟩
  rw [getD_at h2] at h6
  rw [getD_at h4, ← h _ (List.mem_of_getElem? h4) y (List.mem_of_getElem? h2)]
  exact h6
theorem ctx_symm {ns ms : List L8} {xs ys : List Vl} (hn : ns.Nodup) (hm : ms.Nodup) (hl : ns.length = ms.length) (hx : ns.length = xs.length) (hy : ms.length = ys.length) (h : ∀ x ∈ xs, ∀ y ∈ ys, sameV x y = sameV y x) : ctxS 2 ns xs ms ys = ctxS 2 ms ys ns xs :=
  have h' : ∀ y ∈ ys, ∀ x ∈ xs, sameV y x = sameV x y := fun y hy x hx => (h x hx y hy).symm
  tri_eq (tri_ctx _ _ _ _ (.inr (.inr rfl))) (tri_ctx _ _ _ _ (.inr (.inr rfl))) ⟨ctx_half1 hn hm hl hx hy h, ctx_half1 hm hn hl.symm hy hx h'⟩ ⟨ctx_half2 hn hm hl hx hy h, ctx_half2 hm hn hl.symm hy hx h'⟩
theorem symm_n : ∀ (n : Nat) (a b : Vl), SizeOf.sizeOf a < n → a.ok → b.ok → sameV a b = sameV b a
  | 0, a, b, h, _, _ => by omega
  | n + 1, a, b, hn, oa, ob => by
    by_cases h1 : a.kindI = 1 ∨ b.kindI = 1
    · rw [same_null h1, same_null h1.symm]
      simp only [and_comm]
    · by_cases h : a.kindI = b.kindI
      · by_cases hk : 3 ≤ a.kindI ∧ a.kindI ≤ 9
        · rw [same_ord h hk, same_ord h.symm (h ▸ hk), ord_swap a b]
          cases ordV a b with
          | none => rfl
          | some c =>
            simp only [Option.map_some]
            congr 1
            simp only [decide_eq_decide]
            omega
        · cases a
          case bool x =>
            obtain ⟨y, rfl⟩ := kind2 h.symm
            simp only [sameV]
            cases x <;> cases y <;> rfl
          case list xs =>
            obtain ⟨ys, rfl⟩ := kind10 h.symm
            simp only [sameV]
            rw [Vl.ok] at oa ob
            by_cases hl : xs.length = ys.length
            · rw [if_pos hl, if_pos hl.symm]
              refine all_symm fun x hx y hy => symm_n n x y ?_ (okL_iff.1 oa.2 x hx) (okL_iff.1 ob.2 y hy)
              have := List.sizeOf_lt_of_mem hx
              simp only [Vl.list.sizeOf_spec] at hn
              omega
            · rw [if_neg hl, if_neg (Ne.symm hl)]
          case ctx ns xs =>
            obtain ⟨ms, ys, rfl⟩ := kind11 h.symm
            simp only [sameV]
            rw [Vl.ok] at oa ob
            by_cases hl : ns.length = ms.length
            · rw [if_pos hl, if_pos hl.symm]
              refine ctx_symm oa.2.1 ob.2.1 hl oa.1 ob.1 fun x hx y hy => symm_n n x y ?_ (okL_iff.1 oa.2.2.2 x hx) (okL_iff.1 ob.2.2.2 y hy)
              have := List.sizeOf_lt_of_mem hx
              simp only [Vl.ctx.sizeOf_spec] at hn
              omega
            · rw [if_neg hl, if_neg (Ne.symm hl)]
          case rng lo hi p q =>
            obtain ⟨lo', hi', p', q', rfl⟩ := kind12 h.symm
            simp only [sameV]
            rw [Vl.ok] at oa ob
            simp only [Vl.rng.sizeOf_spec] at hn
            rw [symm_n n lo lo' (by omega) oa.1 ob.1, symm_n n hi hi' (by omega) oa.2.1 ob.2.1]
            congr 1
            cases p <;> cases p' <;> cases q <;> cases q' <;> rfl
          all_goals first | (simp [Vl.kindI] at hk; done) | (simp [Vl.kindI] at h1; done)
      · rw [same_kind h (by omega) (by omega), same_kind (Ne.symm h) (by omega) (by omega)]
theorem same_symm {a b : Vl} (oa : a.ok) (ob : b.ok) : sameV a b = sameV b a := symm_n _ a b (Nat.lt_succ_self _) oa ob
theorem of_ne {p : Bool} (h : p = true) : ofI p ≠ 1 := by rw [h]; decide
theorem refl_n : ∀ (n : Nat) (a : Vl), SizeOf.sizeOf a < n → a.ok → sameV a a ≠ 1
  | 0, a, h, _ => by omega
  | n + 1, a, hn, oa => by
    by_cases hk : 3 ≤ a.kindI ∧ a.kindI ≤ 9
    · rw [same_ord rfl hk]
      cases ho : ordV a a with
      | none => simp
      | some c =>
        have := ord_swap a a
        rw [ho] at this
        simp only [Option.map_some, Option.some.injEq] at this
        exact of_ne (by simp; omega)
    · cases a
      case null => rw [sameV]; exact of_ne rfl
      case bool x => simp only [sameV]; exact of_ne (by simp)
      case list xs =>
        simp only [sameV, if_true]
        rw [Vl.ok] at oa
        refine all_refl (by decide) fun x hx => refl_n n x ?_ (okL_iff.1 oa.2 x hx)
        have := List.sizeOf_lt_of_mem hx
        simp only [Vl.list.sizeOf_spec] at hn
        omega
      case ctx ns xs =>
        simp only [sameV, if_true]
        rw [Vl.ok] at oa
        rw [Ne, ctx_one oa.1]
        rintro (e | ⟨i, m, x, h1, h2, h3⟩)
        · cases e
        · rcases h3 with h3 | ⟨k, h3, h4⟩
          · exact idx_none.1 h3 (List.mem_of_getElem? h1)
          · rw [idx_own oa.2.1 h1] at h3
            cases h3
            rw [getD_at h2] at h4
            refine refl_n n x ?_ (okL_iff.1 oa.2.2.2 x (List.mem_of_getElem? h2)) h4
            have := List.sizeOf_lt_of_mem (List.mem_of_getElem? h2)
            simp only [Vl.ctx.sizeOf_spec] at hn
            omega
      case rng lo hi p q =>
        simp only [sameV]
        rw [Vl.ok] at oa
        simp only [Vl.rng.sizeOf_spec] at hn
        intro e
        rcases an1.1 e with e | e
        · exact of_ne (by simp) e
        · rcases an1.1 e with e | e
          · rcases an1.1 e with e | e
            · cases e
            · exact refl_n n lo (by omega) oa.1 e
          · exact refl_n n hi (by omega) oa.2.1 e
      all_goals (simp [Vl.kindI] at hk; done)
theorem same_refl {a : Vl} (oa : a.ok) : sameV a a ≠ 1 := refl_n _ a (Nat.lt_succ_self _) oa


open Go.RowKit
set_option linter.unusedVariables false
set_option linter.unusedSimpArgs false
set_option maxRecDepth 100000

theorem c_CmpE {a b : Vl} (oa : a.ok) (ob : b.ok) : HasC Tryz.prog 24 [VV a, VV b] (fun r => ∃ (c : Int) (ok : Bool), r = .tup [.v (.int .i64 c), .v (.bool ok)] ∧ c = (ordV a b).getD 0 ∧ ok = (ordV a b).isSome) := (c_Cmp2 oa ob).mono fun r hr => ⟨_, _, hr, rfl, rfl⟩
theorem turns_back {x y : Vl} {i l : Int} {ok right : Bool} (h1 : i = (ordV x y).getD 0) (h2 : ok = (ordV x y).isSome) (h3 : l = (ordV y x).getD 0) (h4 : right = (ordV y x).isSome) : right = ok ∧ l = -i ∧ -1 ≤ l ∧ l ≤ 1 := by
  rw [ord_swap x y] at h3 h4
  cases ho : ordV x y with
  | none => rw [ho] at h1 h2 h3 h4; simp at *; subst h1 h2 h3 h4; simp
  | some c =>
    have := ord_bd ho
    rw [ho] at h1 h2 h3 h4
    simp at *
    subst h1 h2 h3 h4
    refine ⟨rfl, rfl, by omega, by omega⟩
theorem turns_on {x y z : Vl} {i j k : Int} {good : Bool} (h1 : i = (ordV x y).getD 0) (h2 : true = (ordV x y).isSome) (h3 : j = (ordV y z).getD 0) (h4 : true = (ordV y z).isSome) (h5 : k = (ordV x z).getD 0) (h6 : good = (ordV x z).isSome) : good = true ∧ (i ≤ 0 → j ≤ 0 → k ≤ 0) := by
  cases ho : ordV x y with
  | none => rw [ho] at h2; cases h2
  | some c =>
    cases hp : ordV y z with
    | none => rw [hp] at h4; cases h4
    | some d =>
      obtain ⟨e, he, hk⟩ := ord_on ho hp
      rw [ho] at h1
      rw [hp] at h3
      rw [he] at h5 h6
      simp at h1 h3 h5 h6
      subst h1 h3 h5 h6
      exact ⟨rfl, hk⟩
theorem turns_le {i j k : Int} {c : Bool} (h : i ≤ 0 → j ≤ 0 → k ≤ 0) (h1 : i ≤ 0) (h2 : c = true ↔ j ≤ 0) (h3 : ¬ c = false) : k ≤ 0 := h h1 (h2.1 (by simpa using h3))
set_option maxHeartbeats 3200000 in
theorem c_EqualTurns {k1 k2 k3 : Int} {t1 t2 t3 : L8} {is1 is2 is3 : List Dm} {ns1 ns2 ns3 : List L8} {p1 q1 p2 q2 p3 q3 : Bool} (s1 : (Dm.mk k1 t1 is1 ns1 p1 q1).small) (s2 : (Dm.mk k2 t2 is2 ns2 p2 q2).small) (s3 : (Dm.mk k3 t3 is3 ns3 p3 q3).small) : HasC Tryz.prog 5 [.agg [.v (.int .i64 k1), .v (.string (tx t1)), .sl ((is1).length) (cellsL (is1)), .sl ((ns1).length) (txsD (ns1)), .v (.bool p1), .v (.bool q1)], .agg [.v (.int .i64 k2), .v (.string (tx t2)), .sl ((is2).length) (cellsL (is2)), .sl ((ns2).length) (txsD (ns2)), .v (.bool p2), .v (.bool q2)], .agg [.v (.int .i64 k3), .v (.string (tx t3)), .sl ((is3).length) (cellsL (is3)), .sl ((ns3).length) (txsD (ns3)), .v (.bool p3), .v (.bool q3)]] (fun r => r = .v (.bool true)) := by
 refine HasC.of [] (fn := Tryz.f5) tyOk mixed (fun args w => Tryz.call5 args w) Tryz.func5 rfl (by kernel_rfl) (Nat.le_of_ble_eq_true rfl) (⟨_, rfl⟩) ?_
 refine vc_seqr rfl (iQ 4 (iE 101 [(3, .p 3 0), (4, .p 4 0), (5, .p 5 0), (6, Ba false)] [(3, [Iv k1, Sv (tx t1), .sl ((is1).length) (cellsL (is1)), .sl ((ns1).length) (txsD (ns1)), Bv p1, Bv q1]), (4, [Iv k2, Sv (tx t2), .sl ((is2).length) (cellsL (is2)), .sl ((ns2).length) (txsD (ns2)), Bv p2, Bv q2]), (5, [Iv k3, Sv (tx t3), .sl ((is3).length) (cellsL (is3)), .sl ((ns3).length) (txsD (ns3)), Bv p3, Bv q3])] ?_))
 refine vc_seq (vc_seqr rfl (iC 8 [] (some 18) (c_awake12) ?_))
 rintro _ rfl
 refine iU .not (.bool true) (some 19) ?_
 refine all_false ((by simp)) ?_
 refine iE 101 [(3, .p 3 0), (4, .p 4 0), (5, .p 5 0), (6, Ba false), (19, Ba false)] [(3, [Iv k1, Sv (tx t1), .sl ((is1).length) (cellsL (is1)), .sl ((ns1).length) (txsD (ns1)), Bv p1, Bv q1]), (4, [Iv k2, Sv (tx t2), .sl ((is2).length) (cellsL (is2)), .sl ((ns2).length) (txsD (ns2)), Bv p2, Bv q2]), (5, [Iv k3, Sv (tx t3), .sl ((is3).length) (cellsL (is3)), .sl ((ns3).length) (txsD (ns3)), Bv p3, Bv q3])] ?_
 refine iF (vc_skip (seq_n (vc_seqr rfl (iQ 1 (iC 19 [.agg [Iv k1, Sv (tx t1), .sl ((is1).length) (cellsL (is1)), .sl ((ns1).length) (txsD (ns1)), Bv p1, Bv q1]] (some 21) (c_Make12 s1) ?_)))))
 rintro _ ⟨x, rfl, ox⟩
 refine iQ 1 (iC 19 [.agg [Iv k2, Sv (tx t2), .sl ((is2).length) (cellsL (is2)), .sl ((ns2).length) (txsD (ns2)), Bv p2, Bv q2]] (some 23) (c_Make12 s2) ?_)
 rintro _ ⟨y, rfl, oy⟩
 refine iQ 1 (iC 19 [.agg [Iv k3, Sv (tx t3), .sl ((is3).length) (cellsL (is3)), .sl ((ns3).length) (txsD (ns3)), Bv p3, Bv q3]] (some 25) (c_Make12 s3) ?_)
 rintro _ ⟨z, rfl, oz⟩
 refine iQ 6 (iE 101 [(6, Ba false), (7, .p 7 0), (8, .p 8 0), (9, .p 9 0), (19, Ba false)] [(7, [.bx (x).enc]), (8, [.bx (y).enc]), (9, [.bx (z).enc])] ?_)
 refine vc_seq (vc_seqr rfl (iQ 2 (iC 23 [.agg [.bx (x).enc], .agg [.bx (y).enc]] (some 28) (c_Same x y ox oy) ?_)))
 rintro _ rfl
 refine iQ 2 (iC 23 [.agg [.bx (y).enc], .agg [.bx (x).enc]] (some 31) (c_Same y x oy ox) ?_)
 rintro _ rfl
 refine iB .neq 23 (.int .i64 (sameV x y)) (.int .i64 (sameV y x)) (some 32) ?_
 refine all_false ((by rw [same_symm ox oy]; simp)) ?_
 refine iQ 3 (iC 23 [.agg [.bx (x).enc], .agg [.bx (x).enc]] (some 36) (c_Same x x ox ox) ?_)
 rintro _ rfl
 refine iB .eql 23 (.int .i64 (sameV x x)) (.int .i64 1) (some 37) ?_
 refine all_false ((same_refl ox)) ?_
 refine iQ 1 (iE 101 [(6, Ba false), (7, .p 7 0), (8, .p 8 0), (9, .p 9 0), (19, Ba false), (38, Ba false)] [(7, [.bx (x).enc]), (8, [.bx (y).enc]), (9, [.bx (z).enc])] ?_)
 refine iF (vc_skip (seq_n (vc_seqr rfl (iQ 2 (iC 24 [.agg [.bx (x).enc], .agg [.bx (y).enc]] (some 42) (c_CmpE ox oy) ?_)))))
 rintro _ ⟨i, ok, rfl, hi, hok⟩
 refine iQ 5 (iE 101 [(6, Ba false), (7, .p 7 0), (8, .p 8 0), (9, .p 9 0), (10, Ia i), (11, Ba ok), (19, Ba false), (38, Ba false)] [(7, [.bx (x).enc]), (8, [.bx (y).enc]), (9, [.bx (z).enc])] ?_)
 refine vc_seqr rfl (iQ 2 (iC 24 [.agg [.bx (y).enc], .agg [.bx (z).enc]] (some 48) (c_CmpE oy oz) ?_))
 rintro _ ⟨j, fine, rfl, hj, hfine⟩
 refine iQ 5 (iE 101 [(6, Ba false), (7, .p 7 0), (8, .p 8 0), (9, .p 9 0), (10, Ia i), (11, Ba ok), (12, Ia j), (13, Ba fine), (19, Ba false), (38, Ba false)] [(7, [.bx (x).enc]), (8, [.bx (y).enc]), (9, [.bx (z).enc])] ?_)
 refine vc_seqr rfl (iQ 2 (iC 24 [.agg [.bx (x).enc], .agg [.bx (z).enc]] (some 54) (c_CmpE ox oz) ?_))
 rintro _ ⟨k, good, rfl, hk, hgood⟩
 refine iQ 5 (iE 101 [(6, Ba false), (7, .p 7 0), (8, .p 8 0), (9, .p 9 0), (10, Ia i), (11, Ba ok), (12, Ia j), (13, Ba fine), (14, Ia k), (15, Ba good), (19, Ba false), (38, Ba false)] [(7, [.bx (x).enc]), (8, [.bx (y).enc]), (9, [.bx (z).enc])] ?_)
 refine vc_seqr rfl (iQ 2 (iC 24 [.agg [.bx (y).enc], .agg [.bx (x).enc]] (some 60) (c_CmpE oy ox) ?_))
 rintro _ ⟨l, right, rfl, hl, hright⟩
 obtain ⟨e1, e2, e3, e4⟩ := turns_back hi hok hl hright
 refine iQ 5 (iE 101 [(6, Ba false), (7, .p 7 0), (8, .p 8 0), (9, .p 9 0), (10, Ia i), (11, Ba ok), (12, Ia j), (13, Ba fine), (14, Ia k), (15, Ba good), (16, Ia l), (17, Ba right), (19, Ba false), (38, Ba false)] [(7, [.bx (x).enc]), (8, [.bx (y).enc]), (9, [.bx (z).enc])] ?_)
 refine vc_seq (vc_seqr rfl (iQ 2 (iB .neq 4 (.bool ok) (.bool right) (some 65) ?_)))
 refine all_false ((by rw [e1]; simp)) ?_
 refine iQ 3 (iU .neg (.int .i64 l) (some 69) ?_)
 intro z69 hz69
 try replace hz69 := hz69.i64 (by omega)
 refine iB .neq 3 (.int .i64 i) (.int .i64 z69) (some 70) ?_
 refine all_false ((by omega)) ?_
 refine iQ 4 ?_
 cases ok
 ·skip
  refine iQ 7 (iE 101 [(6, Ba false), (7, .p 7 0), (8, .p 8 0), (9, .p 9 0), (10, Ia i), (11, Ba false), (12, Ia j), (13, Ba fine), (14, Ia k), (19, Ba false), (38, Ba false), (81, Ba false)] [(7, [.bx (x).enc]), (8, [.bx (y).enc]), (9, [.bx (z).enc])] ?_)
  refine iF (vc_skip (seq_n (vc_seqr rfl (iQ 1 (iU .not (.bool false) (some 83) ?_)))))
  refine all_true ((by simp)) ?_
  refine iQ 18 (iE 101 [(6, Ba true), (7, .p 7 0), (8, .p 8 0), (9, .p 9 0), (10, Ia i), (11, Ba false), (13, Ba fine), (19, Ba false), (38, Ba false), (81, Ba false)] [(7, [.bx (x).enc]), (8, [.bx (y).enc]), (9, [.bx (z).enc])] ?_)
  refine vc_ret (iR (Bv true) ?_)
  rfl
 ·skip
  refine iQ 3 ?_
  cases fine
  ·skip
   refine iQ 4 (iE 101 [(6, Ba false), (7, .p 7 0), (8, .p 8 0), (9, .p 9 0), (10, Ia i), (11, Ba true), (12, Ia j), (13, Ba false), (14, Ia k), (19, Ba false), (38, Ba false), (81, Ba false)] [(7, [.bx (x).enc]), (8, [.bx (y).enc]), (9, [.bx (z).enc])] ?_)
   refine iF (vc_skip (seq_n (vc_seqr rfl (iQ 1 (iU .not (.bool true) (some 83) ?_)))))
   refine all_false ((by simp)) ?_
   refine iQ 2 (iU .not (.bool false) (some 86) ?_)
   refine all_true ((by simp)) ?_
   refine iQ 15 (iE 101 [(6, Ba true), (7, .p 7 0), (8, .p 8 0), (9, .p 9 0), (10, Ia i), (11, Ba true), (13, Ba false), (19, Ba false), (38, Ba false), (81, Ba false)] [(7, [.bx (x).enc]), (8, [.bx (y).enc]), (9, [.bx (z).enc])] ?_)
   refine vc_ret (iR (Bv true) ?_)
   rfl
  ·skip
   refine iQ 1 (iU .not (.bool good) (some 79) ?_)
   obtain ⟨g1, g2⟩ := turns_on hi hok hj hfine hk hgood
   refine all_false ((by rw [g1]; simp)) ?_
   refine iQ 2 (iE 101 [(6, Ba false), (7, .p 7 0), (8, .p 8 0), (9, .p 9 0), (10, Ia i), (11, Ba true), (12, Ia j), (13, Ba true), (14, Ia k), (19, Ba false), (38, Ba false), (81, Ba false)] [(7, [.bx (x).enc]), (8, [.bx (y).enc]), (9, [.bx (z).enc])] ?_)
   refine iF (vc_skip (seq_n (vc_seqr rfl (iQ 1 (iU .not (.bool true) (some 83) ?_)))))
   refine all_false ((by simp)) ?_
   refine iQ 2 (iU .not (.bool true) (some 86) ?_)
   refine all_false ((by simp)) ?_
   refine iQ 3 (iB .leq 3 (.int .i64 i) (.int .i64 0) (some 90) ?_)
   intro c90 hc90
   refine iQ 1 ?_
   cases c90
   ·replace hc90 := bf hc90
    refine iQ 3 (iU .not (.bool false) (some 95) ?_)
    refine all_true ((by simp)) ?_
    refine iQ 6 (iE 101 [(6, Ba true), (7, .p 7 0), (8, .p 8 0), (9, .p 9 0), (10, Ia i), (11, Ba true), (13, Ba true), (19, Ba false), (38, Ba false), (81, Ba false)] [(7, [.bx (x).enc]), (8, [.bx (y).enc]), (9, [.bx (z).enc])] ?_)
    refine vc_ret (iR (Bv true) ?_)
    rfl
   ·replace hc90 := bt hc90
    refine iQ 1 (iB .leq 3 (.int .i64 j) (.int .i64 0) (some 93) ?_)
    intro c93 hc93
    refine iQ 1 (iU .not (.bool c93) (some 95) ?_)
    intro c95 hc95
    refine iQ 2 ?_
    cases c95
    ·replace hc95 := bf hc95
     refine iQ 1 (iB .leq 3 (.int .i64 k) (.int .i64 0) (some 99) ?_)
     refine all_true ((turns_le g2 hc90 hc93 hc95)) ?_
     refine iQ 2 (iE 101 [(6, Ba true), (7, .p 7 0), (8, .p 8 0), (9, .p 9 0), (10, Ia i), (11, Ba true), (13, Ba true), (19, Ba false), (38, Ba false), (81, Ba false)] [(7, [.bx (x).enc]), (8, [.bx (y).enc]), (9, [.bx (z).enc])] ?_)
     refine vc_ret (iR (Bv true) ?_)
     rfl
    ·replace hc95 := bt hc95
     refine iQ 4 (iE 101 [(6, Ba true), (7, .p 7 0), (8, .p 8 0), (9, .p 9 0), (10, Ia i), (11, Ba true), (13, Ba true), (19, Ba false), (38, Ba false), (81, Ba false)] [(7, [.bx (x).enc]), (8, [.bx (y).enc]), (9, [.bx (z).enc])] ?_)
     refine vc_ret (iR (Bv true) ?_)
     rfl
end Go.Proofs.YtpambeengdhhmaaGreatDoor
