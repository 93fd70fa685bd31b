/-
  equal: whether values are the same; within, among. equal: within, among; truths and values; value.Int.
-/
import Derived.Test.YtpambeengdhhmaaGreatDoorVlF
namespace Go.Proofs.YtpambeengdhhmaaGreatDoor

open Go.RowKit
set_option linter.unusedVariables false
set_option linter.unusedSimpArgs false
set_option maxRecDepth 100000

noncomputable def simpS (a b : Vl) : Int := if b.nullB = true then 1 else match ordV a b with
  | some c => ofI (decide (c = 0))
  | none => 0
mutual
noncomputable def sameV : Vl → Vl → Int
  | .null, b => ofI b.nullB
  | .bool x, b => match b with
    | .null => 1
    | .bool y => ofI (x == y)
    | _ => 0
  | .list xs, b => match b with
    | .null => 1
    | .list ys => if xs.length = ys.length then allV 2 xs ys else 1
    | _ => 0
  | .ctx ns xs, b => match b with
    | .null => 1
    | .ctx ms ys => if ns.length = ms.length then ctxS 2 ns xs ms ys else 1
    | _ => 0
  | .rng lo hi p q, b => match b with
    | .null => 1
    | .rng lo' hi' p' q' => andI (ofI (p == p' && q == q')) (andI (andI 2 (sameV lo lo')) (sameV hi hi'))
    | _ => 0
  | .num g n e, b => simpS (.num g n e) b
  | .text l, b => simpS (.text l) b
  | .day y m d, b => simpS (.day y m d) b
  | .time s z o, b => simpS (.time s z o) b
  | .mom y m d s z o, b => simpS (.mom y m d s z o) b
  | .days n, b => simpS (.days n) b
  | .months n, b => simpS (.months n) b
noncomputable def allV : Int → List Vl → List Vl → Int
  | t, [], _ => t
  | t, x :: xs, [] => t
  | t, x :: xs, y :: ys => allV (andI t (sameV x y)) xs ys
noncomputable def ctxS : Int → List L8 → List Vl → List L8 → List Vl → Int
  | t, _, [], _, _ => t
  | t, [], x :: xs, _, _ => t
  | t, n :: ns, x :: xs, ms, ys => match idxOf n ms with
    | none => 1
    | some k => ctxS (andI t (sameV x (ys.getD k .null))) ns xs ms ys
end
theorem same_null {a b : Vl} (h : a.kindI = 1 ∨ b.kindI = 1) : sameV a b = ofI (decide (a.kindI = 1 ∧ b.kindI = 1)) := by
  cases a <;> cases b <;> simp_all [sameV, simpS, Vl.kindI, Vl.nullB, ofI]
theorem same_kind {a b : Vl} (h : a.kindI ≠ b.kindI) (h1 : a.kindI ≠ 1) (h2 : b.kindI ≠ 1) : sameV a b = 0 := by
  cases a <;> cases b <;> simp_all [sameV, simpS, Vl.kindI, Vl.nullB, ordV]
theorem same_ord {a b : Vl} (h : a.kindI = b.kindI) (h1 : 3 ≤ a.kindI ∧ a.kindI ≤ 9) : sameV a b = match ordV a b with
    | some c => ofI (decide (c = 0))
    | none => 0 := by
  have hb : b.nullB = false := by cases hb : b.nullB with
    | false => rfl
    | true => have := (nullK b).1 hb; omega
  cases a <;> first | (simp only [sameV, simpS, hb]; rfl) | (simp [Vl.kindI] at h1)
theorem c_NullT {v : Vl} (h : v.kindI = 1) : HasC Tryz.prog 14 [VV v] (fun y => y = .v (.bool true)) := (c_Null v).mono fun y hy => by rw [hy, (nullK v).2 h]
theorem c_NullF {v : Vl} (h : v.kindI ≠ 1) : HasC Tryz.prog 14 [VV v] (fun y => y = .v (.bool false)) := (c_Null v).mono fun y hy => by
  cases hn : v.nullB with
  | true => exact absurd ((nullK v).1 hn) h
  | false => rw [hy, hn]
theorem c_AsBoolE {v : Vl} {x : Bool} (h : v = .bool x) : HasC Tryz.prog 37 [VV v] (fun r => r = .tup [.v (.bool x), .v (.bool true)]) := by subst h; exact c_AsBool (.bool x)
theorem w_AsListL {xs : List Vl} (h : xs.length ≤ 1073741824) : HasC Tryz.prog 44 [.agg [.ifc 105 (.sl ((xs).length) (encL (xs)))]] (fun r => r = .tup [.sl xs.length (encL xs), .v (.bool true)]) := by
  refine HasC.of [] (fn := Tryz.f44) tyOk mixed (fun args w => Tryz.call44 args w) Tryz.func44 rfl (by kernel_rfl) (Nat.le_of_ble_eq_true rfl) (⟨_, rfl⟩) ?_
  refine vc_seqr rfl (iQ 3 (iE 15 [(1, .p 1 0), (2, .w (.sl 0 []) none), (3, Ba false)] [(1, [.ifc 105 (.sl ((xs).length) (encL (xs)))])] ?_))
  refine vc_seqr rfl (iQ 8 (iE 15 [(2, .w (.sl 0 []) none), (3, Ba false), (4, .d (.sl ((xs).length) (encL (xs)))), (5, Ba true)] [] ?_))
  refine vc_seqr rfl (iQ 1 (iC 60 [.sl ((xs).length) (encL (xs))] (some 13) (c_CloneV h) ?_))
  rintro _ rfl
  refine iQ 3 (iE 15 [(2, .d (.sl ((xs).length) (encL (xs)))), (3, Ba true)] [] ?_)
  refine vc_ret (iS (.sl ((xs).length) (encL (xs))) (Bv true) [] ?_)
  rfl
theorem c_AsListE {v : Vl} {xs : List Vl} (e : v = .list xs) (h : xs.length ≤ 1073741824) : HasC Tryz.prog 44 [VV v] (fun r => r = .tup [.sl xs.length (encL xs), .v (.bool true)]) := by
  subst e
  have := HasC.ub (w_AsListL h)
  rw [← show (Vl.list xs).enc = .ifc 105 (.sl xs.length (encL xs)) by rw [Vl.enc]] at this
  exact this
theorem w_AsContextC {ns : List L8} {xs : List Vl} (h : xs.length ≤ 1073741824) (h' : ns.length ≤ 1073741824) : HasC Tryz.prog 66 [.agg [.ifc 169 (.agg [.sl ((ns).length) (txsD (ns)), .sl ((xs).length) (encL (xs))])]] (fun r => r = .tup [.sl ns.length (txsD ns), .sl xs.length (encL xs), .v (.bool true)]) := by
  refine HasC.of [] (fn := Tryz.f66) tyOk mixed (fun args w => Tryz.call66 args w) Tryz.func66 rfl (by kernel_rfl) (Nat.le_of_ble_eq_true rfl) (⟨_, rfl⟩) ?_
  refine vc_seqr rfl (iQ 4 (iE 20 [(1, .p 1 0), (2, .w (.sl 0 []) none), (3, .w (.sl 0 []) none), (4, Ba false)] [(1, [.ifc 169 (.agg [.sl ((ns).length) (txsD (ns)), .sl ((xs).length) (encL (xs))])])] ?_))
  refine vc_seqr rfl (iQ 9 (iE 20 [(2, .w (.sl 0 []) none), (3, .w (.sl 0 []) none), (4, Ba false), (5, .p 5 0), (6, Ba true)] [(5, [.sl ((ns).length) (txsD (ns)), .sl ((xs).length) (encL (xs))])] ?_))
  refine vc_seqr rfl (iQ 2 (iC 118 [.sl ((ns).length) (txsD (ns))] (some 15) (c_CloneS h') ?_))
  rintro _ rfl
  refine iQ 2 (iC 60 [.sl ((xs).length) (encL (xs))] (some 18) (c_CloneV h) ?_)
  rintro _ rfl
  refine iQ 4 (iE 20 [(2, .d (.sl ((ns).length) (txsD (ns)))), (3, .d (.sl ((xs).length) (encL (xs)))), (4, Ba true), (5, .p 5 0)] [(5, [.sl ((ns).length) (txsD (ns)), .sl ((xs).length) (encL (xs))])] ?_)
  refine vc_ret (iS (.sl ((ns).length) (txsD (ns))) (.sl ((xs).length) (encL (xs))) [Bv true] ?_)
  rfl
theorem c_AsContextE {v : Vl} {ns : List L8} {xs : List Vl} (e : v = .ctx ns xs) (h : xs.length ≤ 1073741824) (h' : ns.length ≤ 1073741824) : HasC Tryz.prog 66 [VV v] (fun r => r = .tup [.sl ns.length (txsD ns), .sl xs.length (encL xs), .v (.bool true)]) := by
  subst e
  have := HasC.ub (w_AsContextC h h')
  rw [← show (Vl.ctx ns xs).enc = .ifc 169 (.agg [.sl ns.length (txsD ns), .sl xs.length (encL xs)]) by rw [Vl.enc]] at this
  exact this
theorem c_AsRangeE {v : Vl} {lo hi : Vl} {p q : Bool} (e : v = .rng lo hi p q) : HasC Tryz.prog 42 [VV v] (fun r => r = .tup [.agg [BV lo, BV hi], .agg [.v (.bool p), .v (.bool q)], .v (.bool true)]) := by subst e; exact c_AsRange (.rng lo hi p q)
theorem isVb1 {P : Program} {f : FuncId} {ds : List DV} {v : Vl} {ok : Bool} (h : HasC P f ds (fun y => ∃ x, y = .tup [x, .v (.bool ok)] ∧ (x = VV v ∨ x = .agg [v.enc]))) : HasC P f ds (fun y => y = .tup [VV v, .v (.bool ok)]) :=
  h.weak fun y ⟨x, h0, h1⟩ => ⟨_, rfl, fun Im W r k => by
    subst h0
    rw [DV.rel] at k ⊢
    obtain ⟨vs, e, k2⟩ := k
    refine ⟨vs, e, ?_⟩
    rw [DV.relL] at k2 ⊢
    obtain ⟨u, us, e1, k3, k4⟩ := k2
    refine ⟨u, us, e1, ?_, k4⟩
    rcases h1 with rfl | rfl
    · exact k3
    · exact rel_agg1 (fun z hz => rel_bx (enc_one v) hz) k3⟩
/-- What a context has by a name. -/
def entV (n : L8) (ms : List L8) (ys : List Vl) : Vl := match idxOf n ms with
  | some k => ys.getD k .null
  | none => .null
theorem idx_lt {n : L8} {ms : List L8} {k : Nat} (h : idxOf n ms = some k) : k < ms.length := (List.getElem?_eq_some_iff.1 (idx_at h)).1
theorem w_Entry {n : L8} {ms : List L8} {ys : List Vl} (h : ys.length ≤ 1073741824) (h' : ms.length = ys.length) : HasC Tryz.prog 67 [.agg [.ifc 169 (.agg [.sl ((ms).length) (txsD (ms)), .sl ((ys).length) (encL (ys))])], .v (.string (tx n))] (fun r => ∃ x, r = .tup [x, .v (.bool (idxOf n ms).isSome)] ∧ (x = VV (entV n ms ys) ∨ x = .agg [(entV n ms ys).enc])) := by
  refine HasC.of [] (fn := Tryz.f67) tyOk mixed (fun args w => Tryz.call67 args w) Tryz.func67 rfl (by kernel_rfl) (Nat.le_of_ble_eq_true rfl) (⟨_, _, rfl, .inl rfl⟩) ?_
  refine vc_seqr rfl (iQ 3 (iE 31 [(1, .d (Sv (tx n))), (2, .p 2 0), (4, .p 4 0), (5, Ba false)] [(2, [.ifc 169 (.agg [.sl ((ms).length) (txsD (ms)), .sl ((ys).length) (encL (ys))])]), (4, [.v (.nilIface)])] ?_))
  refine vc_seqr rfl (iQ 9 (iE 31 [(1, .d (Sv (tx n))), (4, .p 4 0), (5, Ba false), (6, .p 6 0), (7, Ba true)] [(4, [.v (.nilIface)]), (6, [.sl ((ms).length) (txsD (ms)), .sl ((ys).length) (encL (ys))])] ?_))
  refine vc_seqr rfl (iQ 3 (iC 119 [.sl ((ms).length) (txsD (ms)), Sv (tx n)] (some 18) (c_IndexS (l := n) (ns := ms) (by omega)) ?_))
  rintro _ rfl
  refine iQ 1 (iE 31 [(4, .p 4 0), (5, Ba false), (6, .p 6 0), (7, Ba true), (8, Ia (idxI n ms))] [(4, [.v (.nilIface)]), (6, [.sl ((ms).length) (txsD (ms)), .sl ((ys).length) (encL (ys))])] ?_)
  refine vc_seq (vc_seqr rfl (iQ 1 (iU .not (.bool true) (some 20) ?_)))
  refine all_false ((by simp)) ?_
  refine iQ 2 (iB .lss 3 (.int .i64 (idxI n ms)) (.int .i64 0) (some 23) ?_)
  intro c23 hc23
  refine iQ 1 (iE 31 [(4, .p 4 0), (5, Ba false), (6, .p 6 0), (8, Ia (idxI n ms)), (24, Ba c23)] [(4, [.v (.nilIface)]), (6, [.sl ((ms).length) (txsD (ms)), .sl ((ys).length) (encL (ys))])] ?_)
  cases c23
  · replace hc23 := bf hc23
    obtain ⟨k, hi⟩ : ∃ k, idxOf n ms = some k := by cases hq : idxOf n ms with | none => rw [idxI, hq] at hc23; simp at hc23 | some k => exact ⟨k, rfl⟩
    have hlt := idx_lt hi
    obtain ⟨y, hy⟩ : ∃ y, ys[k]? = some y := ⟨_, List.getElem?_eq_getElem (by omega)⟩
    have hii : idxI n ms = (k : Int) := by rw [idxI, hi]
    refine iF (vc_skip (seq_n (vc_seqr rfl (iQ 3 (vcI_idx1 (q := (idxI n ms)) (n := ((ys).length)) (cs := (encL (ys))) (d := .bx (y).enc) (dst := (some 29)) (by kernel_rfl) (by omega) (by rw [hii, Int.toNat_natCast]; exact encL_get1 hy) ?_)))))
    refine iQ 3 (iE 31 [(4, .p 4 0), (5, Ba true), (6, .p 6 0), (8, Ia (idxI n ms)), (24, Ba false)] [(4, [.bx (y).enc]), (6, [.sl ((ms).length) (txsD (ms)), .sl ((ys).length) (encL (ys))])] ?_)
    refine vc_ret (iS (.agg [.bx (y).enc]) (Bv true) [] ?_)
    exact ⟨_, by rw [hi]; rfl, .inl (by rw [entV, hi]; simp only; rw [List.getD_eq_getElem?_getD, hy]; rfl)⟩
  · replace hc23 := bt hc23
    have hi : idxOf n ms = none := by cases hq : idxOf n ms with | none => rfl | some k => rw [idxI, hq] at hc23; simp at hc23; omega
    refine iT (vc_seqr rfl (iQ 3 (iE 31 [(4, .p 4 0), (5, Ba false), (6, .p 6 0), (8, Ia (idxI n ms)), (24, Ba true)] [(4, [.v (.nilIface)]), (6, [.sl ((ms).length) (txsD (ms)), .sl ((ys).length) (encL (ys))])] ?_)))
    refine vc_ret (seq_r (iS (.agg [.v (.nilIface)]) (Bv false) [] ?_))
    exact ⟨_, by rw [hi]; rfl, .inr (by rw [entV, hi, Vl.enc])⟩
theorem c_Entry {v : Vl} {n : L8} {ms : List L8} {ys : List Vl} (e : v = .ctx ms ys) (h : ys.length ≤ 1073741824) (h' : ms.length = ys.length) : HasC Tryz.prog 67 [VV v, .v (.string (tx n))] (fun r => r = .tup [VV (entV n ms ys), .v (.bool (idxOf n ms).isSome)]) := by
  subst e
  have := HasC.ub (isVb1 (w_Entry (n := n) h h'))
  rw [← show (Vl.ctx ms ys).enc = .ifc 169 (.agg [.sl ms.length (txsD ms), .sl ys.length (encL ys)]) by rw [Vl.enc]] at this
  exact this
theorem c_EntryE {v : Vl} {n : L8} {ms : List L8} {ys : List Vl} (e : v = .ctx ms ys) (h : ys.length ≤ 1073741824) (h' : ms.length = ys.length) : HasC Tryz.prog 67 [VV v, .v (.string (tx n))] (fun r => ∃ b, r = .tup [VV (entV n ms ys), .v (.bool b)] ∧ b = (idxOf n ms).isSome) := (c_Entry e h h').mono fun r hr => ⟨_, hr, rfl⟩
theorem ent_ok {n : L8} {ms : List L8} {ys : List Vl} (h : okL ys) : (entV n ms ys).ok := by
  unfold entV
  split
  · rename_i k _
    rw [List.getD_eq_getElem?_getD]
    cases hq : ys[k]? with
    | none => simp only [Option.getD_none]; rw [Vl.ok]; trivial
    | some y => exact okL_iff.1 h y (List.mem_of_getElem? hq)
  · rw [Vl.ok]; trivial

/-- What is in a value. -/
def Vl.kids : Vl → List Vl
  | .list xs => xs
  | .ctx _ xs => xs
  | .rng lo hi _ _ => [lo, hi]
  | _ => []
abbrev SameC (x y : Vl) : Prop := HasC Tryz.prog 23 [VV x, VV y] (fun r => r = .v (.int .i64 (sameV x y)))
theorem allV_take : ∀ (xs ys : List Vl) (t : Int) (k : Nat) (x y : Vl), xs[k]? = some x → ys[k]? = some y → allV t (xs.take (k + 1)) (ys.take (k + 1)) = andI (allV t (xs.take k) (ys.take k)) (sameV x y)
  | [], ys, t, k, x, y, h, _ => by simp at h
  | x0 :: xs, [], t, k, x, y, _, h => by simp at h
  | x0 :: xs, y0 :: ys, t, 0, x, y, h1, h2 => by
    simp at h1 h2
    subst h1; subst h2
    simp [allV]
  | x0 :: xs, y0 :: ys, t, k + 1, x, y, h1, h2 => by
    simp only [List.take_succ_cons, allV]
    exact allV_take xs ys _ k x y (by simpa using h1) (by simpa using h2)
theorem c_all {xs ys : List Vl} (hx : okL xs) (hy : okL ys) (hl : xs.length ≤ 1073741824) (ih : ∀ x ∈ xs, ∀ y, x.ok → y.ok → SameC x y) : HasC Tryz.prog 45 [.sl ((xs).length) (encL (xs)), .sl ((ys).length) (encL (ys))] (fun r => r = .v (.int .i64 (if xs.length = ys.length then allV 2 xs ys else 1))) := by
  refine HasC.of [] (fn := Tryz.f45) tyOk mixed (fun args w => Tryz.call45 args w) Tryz.func45 rfl (by kernel_rfl) (Nat.le_of_ble_eq_true rfl) (⟨_, rfl⟩) ?_
  refine vc_seqr rfl (iQ 1 (iE 30 [(0, .d (.sl ((xs).length) (encL (xs)))), (1, .d (.sl ((ys).length) (encL (ys)))), (4, Ia 0)] [] ?_))
  refine vc_seq (vc_seqr rfl (iQ 4 (iB .neq 3 (.int .i64 ((((xs).length : Nat) : Int))) (.int .i64 ((((ys).length : Nat) : Int))) (some 11) ?_)))
  intro c11 hc11
  refine iE 30 [(0, .d (.sl ((xs).length) (encL (xs)))), (1, .d (.sl ((ys).length) (encL (ys)))), (4, Ia 0), (11, Ba c11)] [] ?_
  cases c11
  · replace hc11 := bf hc11
    have hll : xs.length = ys.length := by omega
    refine iF (vc_skip (seq_n (vc_seqr rfl (iQ 1 (iE 30 [(0, .d (.sl ((xs).length) (encL (xs)))), (1, .d (.sl ((ys).length) (encL (ys)))), (4, Ia 0), (5, Ia 2), (11, Ba false)] [] ?_)))))
    refine vc_seq (vc_seqr rfl (iQ 3 (iE 30 [(0, .d (.sl ((xs).length) (encL (xs)))), (1, .d (.sl ((ys).length) (encL (ys)))), (4, Ia 0), (5, Ia 2), (11, Ba false), (13, Ia ((((xs).length : Nat) : Int))), (14, Ia 0)] [] ?_)))
    refine vc_block (vc_loop 30 (fun (vcx : Nat × Int × Int) => match vcx with | (k, z, t) => [(0, .d (.sl ((xs).length) (encL (xs)))), (1, .d (.sl ((ys).length) (encL (ys)))), (4, Ia 0), (5, Ia t), (11, Ba false), (13, Ia ((((xs).length : Nat) : Int))), (14, Ia z)]) (fun (vcx : Nat × Int × Int) => match vcx with | (k, z, t) => []) (fun (vcx : Nat × Int × Int) => match vcx with | (k, z, t) => z = k ∧ k ≤ xs.length ∧ t = allV 2 (xs.take k) (ys.take k)) (fun (vcx : Nat × Int × Int) => match vcx with | (k, z, t) => xs.length - k) ((0, 0, 2)) (⟨rfl, Nat.zero_le _, by simp [allV]⟩) (by kernel_rfl) (by kernel_rfl) ?_)
    rintro ⟨k, z, t⟩ hinv
    simp only at hinv
    obtain ⟨h1, h2, h3⟩ := hinv
    refine vc_seqr rfl (iB .lss 3 (.int .i64 z) (.int .i64 ((((xs).length : Nat) : Int))) (some 15) ?_)
    intro c15 hc15
    refine iE 30 [(0, .d (.sl ((xs).length) (encL (xs)))), (1, .d (.sl ((ys).length) (encL (ys)))), (4, Ia 0), (5, Ia t), (11, Ba false), (13, Ia ((((xs).length : Nat) : Int))), (14, Ia z), (15, Ba c15)] [] ?_
    refine vc_seq ?_
    cases c15
    · replace hc15 := bf hc15
      have hk : k = xs.length := by omega
      refine iF (vc_exit (seq_x (loop_x (block_x rfl (seq_n (vc_seqr rfl (iQ 2 (iE 30 [(0, .d (.sl ((xs).length) (encL (xs)))), (1, .d (.sl ((ys).length) (encL (ys)))), (4, Ia t), (5, Ia t), (11, Ba false), (13, Ia ((((xs).length : Nat) : Int))), (14, Ia z), (15, Ba false)] [] ?_))))))))
      refine vc_ret (iR (Iv t) ?_)
      rw [if_pos hll, h3, hk, List.take_length, hll, List.take_length]
    · replace hc15 := bt hc15
      have hk : k < xs.length := by omega
      obtain ⟨x, hx1⟩ : ∃ x, xs[k]? = some x := ⟨_, List.getElem?_eq_getElem hk⟩
      obtain ⟨y, hy1⟩ : ∃ y, ys[k]? = some y := ⟨_, List.getElem?_eq_getElem (by omega)⟩
      refine iT (vc_skip (seq_n (vc_seq (vc_block (vc_seqr rfl (iQ 2 (iE 30 [(0, .d (.sl ((xs).length) (encL (xs)))), (1, .d (.sl ((ys).length) (encL (ys)))), (4, Ia 0), (5, Ia t), (6, Ia z), (11, Ba false), (13, Ia ((((xs).length : Nat) : Int))), (14, Ia z), (15, Ba true)] [] ?_)))))))
      refine vc_reg rfl (iQ 3 (vcI_idx1 (q := z) (n := ((xs).length)) (cs := (encL (xs))) (d := .bx (x).enc) (dst := (some 20)) (by kernel_rfl) (by omega) (by rw [h1, Int.toNat_natCast]; exact encL_get1 hx1) ?_))
      refine iQ 3 (vcI_idx1 (q := z) (n := ((ys).length)) (cs := (encL (ys))) (d := .bx (y).enc) (dst := (some 24)) (by kernel_rfl) (by omega) (by rw [h1, Int.toNat_natCast]; exact encL_get1 hy1) ?_)
      refine iQ 1 (iC 23 [.agg [.bx (x).enc], .agg [.bx (y).enc]] (some 26) (ih x (List.mem_of_getElem? hx1) y (okL_iff.1 hx x (List.mem_of_getElem? hx1)) (okL_iff.1 hy y (List.mem_of_getElem? hy1))) ?_)
      rintro _ rfl
      refine iC 11 [Iv t, Iv (sameV x y)] (some 27) (c_eAnd) ?_
      rintro _ rfl
      refine iQ 1 (iE 30 [(0, .d (.sl ((xs).length) (encL (xs)))), (1, .d (.sl ((ys).length) (encL (ys)))), (4, Ia 0), (5, Ia (andI t (sameV x y))), (6, Ia z), (11, Ba false), (13, Ia ((((xs).length : Nat) : Int))), (14, Ia z), (15, Ba true)] [] ?_)
      refine block_n (seq_n (vc_reg rfl (iB .add 3 (.int .i64 z) (.int .i64 1) (some 28) ?_)))
      intro z28 hz28
      try replace hz28 := hz28.i64 (by omega)
      refine iQ 1 (iE 30 [(0, .d (.sl ((xs).length) (encL (xs)))), (1, .d (.sl ((ys).length) (encL (ys)))), (4, Ia 0), (5, Ia (andI t (sameV x y))), (6, Ia z), (11, Ba false), (13, Ia ((((xs).length : Nat) : Int))), (14, Ia z28), (15, Ba true)] [] ?_)
      refine loop_n (k + 1, z28, andI t (sameV x y)) (⟨by omega, by omega, by rw [h3, allV_take xs ys 2 k x y hx1 hy1]⟩) (by show xs.length - (k + 1) < xs.length - k; omega) (by kernel_rfl) (by kernel_rfl)
  · replace hc11 := bt hc11
    refine iT (vc_seqr rfl (iQ 1 (iE 30 [(0, .d (.sl ((xs).length) (encL (xs)))), (1, .d (.sl ((ys).length) (encL (ys)))), (4, Ia 1), (11, Ba true)] [] ?_)))
    refine vc_ret (seq_r (iR (Iv 1) ?_))
    rw [if_neg (by omega)]
theorem ctxS_take : ∀ (ns : List L8) (xs : List Vl) (ms : List L8) (ys : List Vl) (t : Int) (k : Nat) (n : L8) (x : Vl), ns[k]? = some n → xs[k]? = some x → (∀ m ∈ ns.take k, (idxOf m ms).isSome = true) →
    ctxS t (ns.take (k + 1)) (xs.take (k + 1)) ms ys = if (idxOf n ms).isSome = true then andI (ctxS t (ns.take k) (xs.take k) ms ys) (sameV x (entV n ms ys)) else 1
  | [], xs, ms, ys, t, k, n, x, h, _, _ => by simp at h
  | n0 :: ns, [], ms, ys, t, k, n, x, _, h, _ => by simp at h
  | n0 :: ns, x0 :: xs, ms, ys, t, 0, n, x, h1, h2, _ => by
    simp at h1 h2
    subst h1; subst h2
    simp only [List.take_succ_cons, List.take_zero, ctxS, entV]
    cases idxOf n0 ms with
    | none => simp
    | some k => simp
  | n0 :: ns, x0 :: xs, ms, ys, t, k + 1, n, x, h1, h2, h3 => by
    have h0 := h3 n0 (by simp)
    simp only [List.take_succ_cons, ctxS]
    obtain ⟨j, hj⟩ := Option.isSome_iff_exists.1 h0
    rw [hj]
    exact ctxS_take ns xs ms ys _ k n x (by simpa using h1) (by simpa using h2) (fun m hm => h3 m (by simp [hm]))
theorem ctxS_no : ∀ (ns : List L8) (xs : List Vl) (ms : List L8) (ys : List Vl) (t : Int) (k : Nat) (n : L8), ns.length = xs.length → ns[k]? = some n → idxOf n ms = none → ctxS t ns xs ms ys = 1
  | [], xs, ms, ys, t, k, n, _, h, _ => by simp at h
  | n0 :: ns, [], ms, ys, t, k, n, hl, _, _ => by simp at hl
  | n0 :: ns, x0 :: xs, ms, ys, t, 0, n, hl, h1, h2 => by
    simp at h1
    subst h1
    simp only [ctxS, h2]
  | n0 :: ns, x0 :: xs, ms, ys, t, k + 1, n, hl, h1, h2 => by
    simp only [ctxS]
    cases idxOf n0 ms with
    | none => rfl
    | some j => exact ctxS_no ns xs ms ys _ k n (by simpa using hl) (by simpa using h1) h2
theorem more_idx {ns ms : List L8} {k : Nat} {n : L8} (h : ∀ m ∈ ns.take k, (idxOf m ms).isSome = true) (hn : ns[k]? = some n) (hi : (idxOf n ms).isSome = true) : ∀ m ∈ ns.take (k + 1), (idxOf m ms).isSome = true := fun m hm => by
  obtain ⟨h1, h2⟩ := List.getElem?_eq_some_iff.1 hn
  rw [List.take_succ_eq_append_getElem h1, h2, List.mem_append] at hm
  rcases hm with hm | hm
  · exact h m hm
  · simp at hm; rw [hm]; exact hi
set_option maxHeartbeats 1600000 in
theorem c_ctxs {a b : Vl} {ns ms : List L8} {xs ys : List Vl} (ea : a = .ctx ns xs) (eb : b = .ctx ms ys) (oa : a.ok) (ob : b.ok) (ih : ∀ x ∈ xs, ∀ y, x.ok → y.ok → SameC x y) : HasC Tryz.prog 46 [.agg [.bx (a).enc], .agg [.bx (b).enc]] (fun r => r = .v (.int .i64 (if ns.length = ms.length then ctxS 2 ns xs ms ys else 1))) := by
  refine HasC.of [] (fn := Tryz.f46) tyOk mixed (fun args w => Tryz.call46 args w) Tryz.func46 rfl (by kernel_rfl) (Nat.le_of_ble_eq_true rfl) (⟨_, rfl⟩) ?_
  rw [ea, Vl.ok] at oa
  rw [eb, Vl.ok] at ob
  obtain ⟨a1, a2, a3, a4⟩ := oa
  obtain ⟨b1, b2, b3, b4⟩ := ob
  refine vc_seqr rfl (iQ 3 (iE 58 [(2, .p 2 0), (3, .p 3 0), (4, Ia 0)] [(2, [.bx (a).enc]), (3, [.bx (b).enc])] ?_))
  refine vc_seqr rfl (iQ 1 (iC 66 [.agg [.bx (a).enc]] (some 18) (c_AsContextE ea a3 (by omega)) ?_))
  rintro _ rfl
  refine iQ 7 (iE 58 [(3, .p 3 0), (4, Ia 0), (5, .d (.sl ((ns).length) (txsD (ns)))), (6, .d (.sl ((xs).length) (encL (xs))))] [(3, [.bx (b).enc])] ?_)
  refine vc_seqr rfl (iQ 1 (iC 66 [.agg [.bx (b).enc]] (some 24) (c_AsContextE eb b3 (by omega)) ?_))
  rintro _ rfl
  refine iQ 7 (iE 58 [(3, .p 3 0), (4, Ia 0), (5, .d (.sl ((ns).length) (txsD (ns)))), (6, .d (.sl ((xs).length) (encL (xs)))), (8, .d (.sl ((ms).length) (txsD (ms))))] [(3, [.bx (b).enc])] ?_)
  refine vc_seq (vc_seqr rfl (iQ 4 (iB .neq 3 (.int .i64 ((((ns).length : Nat) : Int))) (.int .i64 ((((ms).length : Nat) : Int))) (some 32) ?_)))
  intro c32 hc32
  refine iE 58 [(3, .p 3 0), (4, Ia 0), (5, .d (.sl ((ns).length) (txsD (ns)))), (6, .d (.sl ((xs).length) (encL (xs)))), (32, Ba c32)] [(3, [.bx (b).enc])] ?_
  cases c32
  · replace hc32 := bf hc32
    have hll : ns.length = ms.length := by omega
    refine iF (vc_skip (seq_n (vc_seqr rfl (iQ 1 (iE 58 [(3, .p 3 0), (4, Ia 0), (5, .d (.sl ((ns).length) (txsD (ns)))), (6, .d (.sl ((xs).length) (encL (xs)))), (11, Ia 2), (32, Ba false)] [(3, [.bx (b).enc])] ?_)))))
    refine vc_seq (vc_seqr rfl (iQ 3 (iE 58 [(3, .p 3 0), (4, Ia 0), (5, .d (.sl ((ns).length) (txsD (ns)))), (6, .d (.sl ((xs).length) (encL (xs)))), (11, Ia 2), (32, Ba false), (33, .d (.sl ((ns).length) (txsD (ns)))), (34, Ia ((((ns).length : Nat) : Int))), (35, Ia 0)] [(3, [.bx (b).enc])] ?_)))
    refine vc_block (vc_loop 58 (fun (vcx : Nat × Int × Int) => match vcx with | (k, z, t) => [(3, .p 3 0), (4, Ia 0), (5, .d (.sl ((ns).length) (txsD (ns)))), (6, .d (.sl ((xs).length) (encL (xs)))), (11, Ia t), (32, Ba false), (33, .d (.sl ((ns).length) (txsD (ns)))), (34, Ia ((((ns).length : Nat) : Int))), (35, Ia z)]) (fun (vcx : Nat × Int × Int) => match vcx with | (k, z, t) => [(3, [.bx (b).enc])]) (fun (vcx : Nat × Int × Int) => match vcx with | (k, z, t) => z = k ∧ k ≤ ns.length ∧ t = ctxS 2 (ns.take k) (xs.take k) ms ys ∧ ∀ m ∈ ns.take k, (idxOf m ms).isSome = true) (fun (vcx : Nat × Int × Int) => match vcx with | (k, z, t) => ns.length - k) ((0, 0, 2)) (⟨rfl, Nat.zero_le _, by simp [ctxS], by simp⟩) (by kernel_rfl) (by kernel_rfl) ?_)
    rintro ⟨k, z, t⟩ hinv
    simp only at hinv
    obtain ⟨h1, h2, h3, h4⟩ := hinv
    refine vc_seqr rfl (iB .lss 3 (.int .i64 z) (.int .i64 ((((ns).length : Nat) : Int))) (some 36) ?_)
    intro c36 hc36
    refine iE 58 [(3, .p 3 0), (4, Ia 0), (5, .d (.sl ((ns).length) (txsD (ns)))), (6, .d (.sl ((xs).length) (encL (xs)))), (11, Ia t), (32, Ba false), (33, .d (.sl ((ns).length) (txsD (ns)))), (34, Ia ((((ns).length : Nat) : Int))), (35, Ia z), (36, Ba c36)] [(3, [.bx (b).enc])] ?_
    refine vc_seq ?_
    cases c36
    · replace hc36 := bf hc36
      have hk : k = ns.length := by omega
      refine iF (vc_exit (seq_x (loop_x (block_x rfl (seq_n (vc_seqr rfl (iQ 2 (iE 58 [(3, .p 3 0), (4, Ia t), (5, .d (.sl ((ns).length) (txsD (ns)))), (6, .d (.sl ((xs).length) (encL (xs)))), (11, Ia t), (32, Ba false), (33, .d (.sl ((ns).length) (txsD (ns)))), (34, Ia ((((ns).length : Nat) : Int))), (35, Ia z), (36, Ba false)] [(3, [.bx (b).enc])] ?_))))))))
      refine vc_ret (iR (Iv t) ?_)
      rw [if_pos hll, h3, hk, List.take_length, a1, List.take_length]
    · replace hc36 := bt hc36
      have hk : k < ns.length := by omega
      obtain ⟨n, hn⟩ : ∃ n, ns[k]? = some n := ⟨_, List.getElem?_eq_getElem hk⟩
      obtain ⟨x, hx⟩ : ∃ x, xs[k]? = some x := ⟨_, List.getElem?_eq_getElem (by omega)⟩
      refine iT (vc_skip (seq_n (vc_seq (vc_block (vc_seqr rfl (iQ 1 (vcI_idx1 (q := z) (n := ((ns).length)) (cs := (txsD (ns))) (d := .v (.string (tx n))) (dst := (some 38)) (by kernel_rfl) (by omega) (by rw [h1, Int.toNat_natCast]; exact txsD_get1 hn) ?_)))))))
      refine iQ 3 (iE 58 [(3, .p 3 0), (4, Ia 0), (5, .d (.sl ((ns).length) (txsD (ns)))), (6, .d (.sl ((xs).length) (encL (xs)))), (11, Ia t), (12, Ia z), (13, .d (Sv (tx n))), (32, Ba false), (33, .d (.sl ((ns).length) (txsD (ns)))), (34, Ia ((((ns).length : Nat) : Int))), (35, Ia z), (36, Ba true)] [(3, [.bx (b).enc])] ?_)
      refine vc_seqr rfl (iQ 2 (iC 67 [.agg [.bx (b).enc], Sv (tx n)] (some 43) (c_EntryE (n := n) eb b3 b1) ?_))
      rintro _ ⟨f, rfl, hf⟩
      refine iQ 6 (iE 58 [(3, .p 3 0), (4, Ia 0), (5, .d (.sl ((ns).length) (txsD (ns)))), (6, .d (.sl ((xs).length) (encL (xs)))), (11, Ia t), (12, Ia z), (13, .d (Sv (tx n))), (14, .p 14 0), (15, Ba f), (32, Ba false), (33, .d (.sl ((ns).length) (txsD (ns)))), (34, Ia ((((ns).length : Nat) : Int))), (35, Ia z), (36, Ba true)] [(3, [.bx (b).enc]), (14, [.bx (entV n ms ys).enc])] ?_)
      refine vc_seq (vc_seqr rfl (iQ 1 (iU .not (.bool f) (some 47) ?_)))
      intro c47 hc47
      refine iE 58 [(3, .p 3 0), (4, Ia 0), (5, .d (.sl ((ns).length) (txsD (ns)))), (6, .d (.sl ((xs).length) (encL (xs)))), (11, Ia t), (12, Ia z), (13, .d (Sv (tx n))), (14, .p 14 0), (15, Ba f), (32, Ba false), (33, .d (.sl ((ns).length) (txsD (ns)))), (34, Ia ((((ns).length : Nat) : Int))), (35, Ia z), (36, Ba true), (47, Ba c47)] [(3, [.bx (b).enc]), (14, [.bx (entV n ms ys).enc])] ?_
      cases c47
      · replace hc47 := bf hc47
        have hi : (idxOf n ms).isSome = true := hf.symm.trans (by simpa using hc47)
        refine iF (vc_skip (seq_n (vc_reg rfl (iQ 3 (vcI_idx1 (q := z) (n := ((xs).length)) (cs := (encL (xs))) (d := .bx (x).enc) (dst := (some 51)) (by kernel_rfl) (by omega) (by rw [h1, Int.toNat_natCast]; exact encL_get1 hx) ?_)))))
        refine iQ 2 (iC 23 [.agg [.bx (x).enc], .agg [.bx (entV n ms ys).enc]] (some 54) (ih x (List.mem_of_getElem? hx) (entV n ms ys) (okL_iff.1 a4 x (List.mem_of_getElem? hx)) (ent_ok b4)) ?_)
        rintro _ rfl
        refine iC 11 [Iv t, Iv (sameV x (entV n ms ys))] (some 55) (c_eAnd) ?_
        rintro _ rfl
        refine iQ 1 (iE 58 [(3, .p 3 0), (4, Ia 0), (5, .d (.sl ((ns).length) (txsD (ns)))), (6, .d (.sl ((xs).length) (encL (xs)))), (11, Ia (andI t (sameV x (entV n ms ys)))), (12, Ia z), (13, .d (Sv (tx n))), (14, .p 14 0), (15, Ba f), (32, Ba false), (33, .d (.sl ((ns).length) (txsD (ns)))), (34, Ia ((((ns).length : Nat) : Int))), (35, Ia z), (36, Ba true), (47, Ba false)] [(3, [.bx (b).enc]), (14, [.bx (entV n ms ys).enc])] ?_)
        refine block_n (seq_n (vc_reg rfl (iB .add 3 (.int .i64 z) (.int .i64 1) (some 56) ?_)))
        intro z56 hz56
        try replace hz56 := hz56.i64 (by omega)
        refine iQ 1 (iE 58 [(3, .p 3 0), (4, Ia 0), (5, .d (.sl ((ns).length) (txsD (ns)))), (6, .d (.sl ((xs).length) (encL (xs)))), (11, Ia (andI t (sameV x (entV n ms ys)))), (12, Ia z), (13, .d (Sv (tx n))), (14, .p 14 0), (15, Ba f), (32, Ba false), (33, .d (.sl ((ns).length) (txsD (ns)))), (34, Ia ((((ns).length : Nat) : Int))), (35, Ia z56), (36, Ba true), (47, Ba false)] [(3, [.bx (b).enc]), (14, [.bx (entV n ms ys).enc])] ?_)
        refine loop_n (k + 1, z56, andI t (sameV x (entV n ms ys))) (⟨by omega, by omega, by rw [h3, ctxS_take ns xs ms ys 2 k n x hn hx h4, if_pos hi], more_idx h4 hn hi⟩) (by show ns.length - (k + 1) < ns.length - k; omega) (by kernel_rfl) (by kernel_rfl)
      · replace hc47 := bt hc47
        have hi : idxOf n ms = none := by rw [hc47] at hf; cases hq : idxOf n ms with | none => rfl | some k => rw [hq] at hf; cases hf
        refine iT (vc_seqr rfl (iQ 1 (iE 58 [(3, .p 3 0), (4, Ia 1), (5, .d (.sl ((ns).length) (txsD (ns)))), (6, .d (.sl ((xs).length) (encL (xs)))), (11, Ia t), (12, Ia z), (13, .d (Sv (tx n))), (14, .p 14 0), (15, Ba f), (32, Ba false), (33, .d (.sl ((ns).length) (txsD (ns)))), (34, Ia ((((ns).length : Nat) : Int))), (35, Ia z), (36, Ba true), (47, Ba true)] [(3, [.bx (b).enc]), (14, [.bx (entV n ms ys).enc])] ?_)))
        refine vc_ret (seq_r (block_r (seq_r (loop_r (block_r (seq_r (iR (Iv 1) ?_)))))))
        rw [if_pos hll, ctxS_no ns xs ms ys 2 k n a1 hn hi]
  · replace hc32 := bt hc32
    refine iT (vc_seqr rfl (iQ 1 (iE 58 [(3, .p 3 0), (4, Ia 1), (5, .d (.sl ((ns).length) (txsD (ns)))), (6, .d (.sl ((xs).length) (encL (xs)))), (32, Ba true)] [(3, [.bx (b).enc])] ?_)))
    refine vc_ret (seq_r (iR (Iv 1) ?_))
    rw [if_neg (by omega)]
theorem c_all2 {a b c d : Vl} (ha : a.ok) (hb : b.ok) (hc : c.ok) (hd : d.ok) (ih : ∀ x ∈ [a, b], ∀ y, x.ok → y.ok → SameC x y) : HasC Tryz.prog 45 [.sl 2 [.bx a.enc, .bx b.enc], .sl 2 [.bx c.enc, .bx d.enc]] (fun r => r = .v (.int .i64 (andI (andI 2 (sameV a c)) (sameV b d)))) := by
  have h := c_all (xs := [a, b]) (ys := [c, d]) (by simp [okL, ha, hb]) (by simp [okL, hc, hd]) (by simp) ih
  simp only [encL, List.length_cons, List.length_nil, allV, if_true] at h
  exact h
set_option maxHeartbeats 3200000 in
theorem v_Same {a b : Vl} (oa : a.ok) (ob : b.ok) (ih : ∀ x ∈ a.kids, ∀ y, x.ok → y.ok → SameC x y) : HasC Tryz.prog 23 [.agg [.bx (a).enc], .agg [.bx (b).enc]] (fun r => r = .v (.int .i64 (sameV a b))) := by
  refine HasC.of [] (fn := Tryz.f23) tyOk mixed (fun args w => Tryz.call23 args w) Tryz.func23 rfl (by kernel_rfl) (Nat.le_of_ble_eq_true rfl) (⟨_, rfl⟩) ?_
  refine vc_seqr rfl (iQ 3 (iE 113 [(2, .p 2 0), (3, .p 3 0), (4, Ia 0)] [(2, [.bx (a).enc]), (3, [.bx (b).enc])] ?_))
  refine vc_seqr rfl (iQ 1 (iC 40 [.agg [.bx (a).enc]] (some 23) (c_KindE (v := a)) ?_))
  rintro _ ⟨ka, rfl, hka⟩
  refine iQ 1 (iE 113 [(2, .p 2 0), (3, .p 3 0), (4, Ia 0), (5, Ia ka)] [(2, [.bx (a).enc]), (3, [.bx (b).enc])] ?_)
  refine vc_seq (vc_block (vc_seqr rfl (iQ 1 (iC 14 [.agg [.bx (a).enc]] (some 26) (c_NullE (v := a)) ?_))))
  rintro _ ⟨na, rfl, hna⟩
  refine iQ 1 ?_
  cases na
  · replace hna := bf hna
    refine iQ 1 (iC 14 [.agg [.bx (b).enc]] (some 29) (c_NullE (v := b)) ?_)
    rintro _ ⟨nb, rfl, hnb⟩
    refine iQ 2 (iE 113 [(2, .p 2 0), (3, .p 3 0), (4, Ia 0), (5, Ia ka), (24, Ba nb)] [(2, [.bx (a).enc]), (3, [.bx (b).enc])] ?_)
    cases nb
    · replace hnb := bf hnb
      refine iF (vc_seqr rfl (iQ 1 (iC 40 [.agg [.bx (b).enc]] (some 40) (c_KindE (v := b)) ?_)))
      rintro _ ⟨kb, rfl, hkb⟩
      refine iQ 1 (iB .neq 36 (.int .i64 kb) (.int .i64 ka) (some 42) ?_)
      intro c42 hc42
      refine iQ 1 (iE 113 [(2, .p 2 0), (3, .p 3 0), (4, Ia 0), (5, Ia ka), (24, Ba false), (38, Ba c42)] [(2, [.bx (a).enc]), (3, [.bx (b).enc])] ?_)
      cases c42
      · replace hc42 := bf hc42
        have hk : a.kindI = b.kindI := by omega
        have hrg := kind_rng (v := a)
        refine iF (vc_skip (block_n (seq_n (vc_seq (vc_seqr rfl (iQ 1 (iE 113 [(2, .p 2 0), (3, .p 3 0), (4, Ia 0), (5, Ia ka), (24, Ba false), (38, Ba false), (43, Ia ka)] [(2, [.bx (a).enc]), (3, [.bx (b).enc])] ?_)))))))
        refine vc_block (vc_seqr rfl (iB .eql 36 (.int .i64 ka) (.int .i64 2) (some 45) ?_))
        intro c45 hc45
        refine iQ 1 (iE 113 [(2, .p 2 0), (3, .p 3 0), (4, Ia 0), (5, Ia ka), (24, Ba false), (38, Ba false), (43, Ia ka), (44, Ba c45)] [(2, [.bx (a).enc]), (3, [.bx (b).enc])] ?_)
        cases c45
        · replace hc45 := bf hc45
          refine iF (vc_seqr rfl (iB .eql 36 (.int .i64 ka) (.int .i64 10) (some 61) ?_))
          intro c61 hc61
          refine iQ 1 (iE 113 [(2, .p 2 0), (3, .p 3 0), (4, Ia 0), (5, Ia ka), (24, Ba false), (38, Ba false), (43, Ia ka), (44, Ba false), (60, Ba c61)] [(2, [.bx (a).enc]), (3, [.bx (b).enc])] ?_)
          cases c61
          · replace hc61 := bf hc61
            refine iF (vc_seqr rfl (iB .eql 36 (.int .i64 ka) (.int .i64 11) (some 76) ?_))
            intro c76 hc76
            refine iQ 1 (iE 113 [(2, .p 2 0), (3, .p 3 0), (4, Ia 0), (5, Ia ka), (24, Ba false), (38, Ba false), (43, Ia ka), (44, Ba false), (60, Ba false), (75, Ba c76)] [(2, [.bx (a).enc]), (3, [.bx (b).enc])] ?_)
            cases c76
            · replace hc76 := bf hc76
              refine iF (vc_seqr rfl (iB .eql 36 (.int .i64 ka) (.int .i64 12) (some 81) ?_))
              intro c81 hc81
              refine iQ 1 (iE 113 [(2, .p 2 0), (3, .p 3 0), (4, Ia 0), (5, Ia ka), (24, Ba false), (38, Ba false), (43, Ia ka), (44, Ba false), (60, Ba false), (75, Ba false), (80, Ba c81)] [(2, [.bx (a).enc]), (3, [.bx (b).enc])] ?_)
              cases c81
              · replace hc81 := bf hc81
                refine iF (vc_skip (block_n (seq_n (vc_seqr rfl (iQ 2 (iC 47 [.agg [.bx (a).enc], .agg [.bx (b).enc]] (some 105) (c_orderE oa ob) ?_))))))
                rintro _ ⟨c, ok, rfl, h1, h2⟩
                obtain ⟨k1, k2⟩ := some_of h1 h2
                refine iQ 5 (iE 113 [(2, .p 2 0), (3, .p 3 0), (4, Ia 0), (5, Ia ka), (20, Ia c), (21, Ba ok), (24, Ba false), (38, Ba false), (43, Ia ka), (44, Ba false), (60, Ba false), (75, Ba false), (80, Ba false)] [(2, [.bx (a).enc]), (3, [.bx (b).enc])] ?_)
                refine vc_seq (vc_seqr rfl (iQ 1 (iU .not (.bool ok) (some 109) ?_)))
                intro c109 hc109
                refine iE 113 [(2, .p 2 0), (3, .p 3 0), (4, Ia 0), (5, Ia ka), (20, Ia c), (24, Ba false), (38, Ba false), (43, Ia ka), (44, Ba false), (60, Ba false), (75, Ba false), (80, Ba false), (109, Ba c109)] [(2, [.bx (a).enc]), (3, [.bx (b).enc])] ?_
                cases c109
                · replace hc109 := bf hc109
                  refine iF (vc_skip (seq_n (vc_seqr rfl (iQ 1 (iB .eql 3 (.int .i64 c) (.int .i64 0) (some 111) ?_)))))
                  intro c111 hc111
                  refine iC 18 [Bv c111] (some 112) (c_eOf (p := c111)) ?_
                  rintro _ rfl
                  refine iQ 1 (iE 113 [(2, .p 2 0), (3, .p 3 0), (4, Ia (ofI c111)), (5, Ia ka), (24, Ba false), (38, Ba false), (43, Ia ka), (44, Ba false), (60, Ba false), (75, Ba false), (80, Ba false), (109, Ba false)] [(2, [.bx (a).enc]), (3, [.bx (b).enc])] ?_)
                  refine vc_ret (iR (Iv (ofI c111)) ?_)
                  rw [same_ord hk (by omega), k1 (by simpa using hc109)]; simp only; rw [show decide (c = 0) = c111 from Bool.eq_iff_iff.2 (by rw [decide_eq_true_iff, hc111])]
                · replace hc109 := bt hc109
                  refine iT (vc_seqr rfl (iQ 1 (iE 113 [(2, .p 2 0), (3, .p 3 0), (4, Ia 0), (5, Ia ka), (20, Ia c), (24, Ba false), (38, Ba false), (43, Ia ka), (44, Ba false), (60, Ba false), (75, Ba false), (80, Ba false), (109, Ba true)] [(2, [.bx (a).enc]), (3, [.bx (b).enc])] ?_)))
                  refine vc_ret (seq_r (iR (Iv 0) ?_))
                  rw [same_ord hk (by omega), k2 (by simpa using hc109)]
              · replace hc81 := bt hc81
                obtain ⟨lo, hi, p, q, ha⟩ := kind12 (v := a) (by omega)
                obtain ⟨lo', hi', p', q', hb⟩ := kind12 (v := b) (by omega)
                have oa' := oa
                rw [ha, Vl.ok] at oa'
                rw [hb, Vl.ok] at ob
                refine iT (vc_seqr rfl (iQ 1 (iC 42 [.agg [.bx (a).enc]] (some 84) (c_AsRangeE ha) ?_)))
                rintro _ rfl
                refine iQ 9 (iE 113 [(2, .p 2 0), (3, .p 3 0), (4, Ia 0), (5, Ia ka), (14, .p 14 0), (15, .p 15 0), (24, Ba false), (38, Ba false), (43, Ia ka), (44, Ba false), (60, Ba false), (75, Ba false), (80, Ba true)] [(2, [.bx (a).enc]), (3, [.bx (b).enc]), (14, [.bx (lo).enc, .bx (hi).enc]), (15, [Bv p, Bv q])] ?_)
                refine vc_seqr rfl (iQ 1 (iC 42 [.agg [.bx (b).enc]] (some 90) (c_AsRangeE hb) ?_))
                rintro _ rfl
                refine iQ 9 (iE 113 [(2, .p 2 0), (3, .p 3 0), (4, Ia 0), (5, Ia ka), (14, .p 14 0), (15, .p 15 0), (17, .p 17 0), (18, .p 18 0), (24, Ba false), (38, Ba false), (43, Ia ka), (44, Ba false), (60, Ba false), (75, Ba false), (80, Ba true)] [(2, [.bx (a).enc]), (3, [.bx (b).enc]), (14, [.bx (lo).enc, .bx (hi).enc]), (15, [Bv p, Bv q]), (17, [.bx (lo').enc, .bx (hi').enc]), (18, [Bv p', Bv q'])] ?_)
                refine vc_seqrf [14, 17] rfl (by kernel_rfl) ?_
                refine iQ 2 (iB .eql 39 (.agg #[.bool p, .bool q]) (.agg #[.bool p', .bool q']) (some 96) ?_)
                intro c96 hc96
                try simp only [Array.mk.injEq, List.cons.injEq, Value.int.injEq, Value.bool.injEq, Value.string.injEq, true_and, and_true] at hc96
                refine iC 18 [Bv c96] (some 97) (c_eOf (p := c96)) ?_
                rintro _ rfl
                refine iQ 2 (iC 45 [.sl 2 [.bx (lo).enc, .bx (hi).enc], .sl 2 [.bx (lo').enc, .bx (hi').enc]] (some 100) (c_all2 oa'.1 oa'.2.1 ob.1 ob.2.1 (fun x hx ↦ ih x (by rw [ha]; exact hx))) ?_)
                rintro _ rfl
                refine iC 11 [Iv (ofI c96), Iv (andI (andI 2 (sameV lo lo')) (sameV hi hi'))] (some 101) (c_eAnd) ?_
                rintro _ rfl
                refine iQ 1 (iE 113 [(2, .p 2 0), (3, .p 3 0), (4, Ia (andI (ofI c96) (andI (andI 2 (sameV lo lo')) (sameV hi hi')))), (5, Ia ka), (14, .rc [.bx (lo).enc, .bx (hi).enc]), (15, .p 15 0), (17, .rc [.bx (lo').enc, .bx (hi').enc]), (18, .p 18 0), (24, Ba false), (38, Ba false), (43, Ia ka), (44, Ba false), (60, Ba false), (75, Ba false), (80, Ba true)] [(2, [.bx (a).enc]), (3, [.bx (b).enc]), (15, [Bv p, Bv q]), (18, [Bv p', Bv q'])] ?_)
                refine vc_ret (block_r (seq_r (iR (Iv (andI (ofI c96) (andI (andI 2 (sameV lo lo')) (sameV hi hi')))) ?_)))
                rw [ha, hb]; simp only [sameV]; congr 5; rw [Bool.eq_iff_iff, hc96]; simp
            · replace hc76 := bt hc76
              obtain ⟨ns, xs, ha⟩ := kind11 (v := a) (by omega)
              obtain ⟨ms, ys, hb⟩ := kind11 (v := b) (by omega)
              refine iT (vc_seqr rfl (iQ 2 (iC 46 [.agg [.bx (a).enc], .agg [.bx (b).enc]] (some 79) (c_ctxs ha hb oa ob (fun x hx ↦ ih x (by rw [ha]; exact hx))) ?_)))
              rintro _ rfl
              refine iQ 1 (iE 113 [(2, .p 2 0), (3, .p 3 0), (4, Ia (if ns.length = ms.length then ctxS 2 ns xs ms ys else 1)), (5, Ia ka), (24, Ba false), (38, Ba false), (43, Ia ka), (44, Ba false), (60, Ba false), (75, Ba true)] [(2, [.bx (a).enc]), (3, [.bx (b).enc])] ?_)
              refine vc_ret (block_r (seq_r (iR (Iv (if ns.length = ms.length then ctxS 2 ns xs ms ys else 1)) ?_)))
              rw [ha, hb]; simp only [sameV]
          · replace hc61 := bt hc61
            obtain ⟨xs, ha⟩ := kind10 (v := a) (by omega)
            obtain ⟨ys, hb⟩ := kind10 (v := b) (by omega)
            have oa' := oa
            rw [ha, Vl.ok] at oa'
            rw [hb, Vl.ok] at ob
            refine iT (vc_seqr rfl (iQ 1 (iC 44 [.agg [.bx (a).enc]] (some 64) (c_AsListE ha oa'.1) ?_)))
            rintro _ rfl
            refine iQ 5 (iE 113 [(2, .p 2 0), (3, .p 3 0), (4, Ia 0), (5, Ia ka), (10, .d (.sl ((xs).length) (encL (xs)))), (24, Ba false), (38, Ba false), (43, Ia ka), (44, Ba false), (60, Ba true)] [(2, [.bx (a).enc]), (3, [.bx (b).enc])] ?_)
            refine vc_seqr rfl (iQ 1 (iC 44 [.agg [.bx (b).enc]] (some 69) (c_AsListE hb ob.1) ?_))
            rintro _ rfl
            refine iQ 5 (iE 113 [(2, .p 2 0), (3, .p 3 0), (4, Ia 0), (5, Ia ka), (10, .d (.sl ((xs).length) (encL (xs)))), (12, .d (.sl ((ys).length) (encL (ys)))), (24, Ba false), (38, Ba false), (43, Ia ka), (44, Ba false), (60, Ba true)] [(2, [.bx (a).enc]), (3, [.bx (b).enc])] ?_)
            refine vc_seqr rfl (iQ 2 (iC 45 [.sl ((xs).length) (encL (xs)), .sl ((ys).length) (encL (ys))] (some 74) (c_all oa'.2 ob.2 oa'.1 (fun x hx ↦ ih x (by rw [ha]; exact hx))) ?_))
            rintro _ rfl
            refine iQ 1 (iE 113 [(2, .p 2 0), (3, .p 3 0), (4, Ia (if xs.length = ys.length then allV 2 xs ys else 1)), (5, Ia ka), (24, Ba false), (38, Ba false), (43, Ia ka), (44, Ba false), (60, Ba true)] [(2, [.bx (a).enc]), (3, [.bx (b).enc])] ?_)
            refine vc_ret (block_r (seq_r (iR (Iv (if xs.length = ys.length then allV 2 xs ys else 1)) ?_)))
            rw [ha, hb]; simp only [sameV]
        · replace hc45 := bt hc45
          obtain ⟨x, ha⟩ := kind2 (v := a) (by omega)
          obtain ⟨y, hb⟩ := kind2 (v := b) (by omega)
          refine iT (vc_seqr rfl (iQ 1 (iC 37 [.agg [.bx (a).enc]] (some 48) (c_AsBoolE ha) ?_)))
          rintro _ rfl
          refine iQ 5 (iE 113 [(2, .p 2 0), (3, .p 3 0), (4, Ia 0), (5, Ia ka), (6, Ba x), (24, Ba false), (38, Ba false), (43, Ia ka), (44, Ba true)] [(2, [.bx (a).enc]), (3, [.bx (b).enc])] ?_)
          refine vc_seqr rfl (iQ 1 (iC 37 [.agg [.bx (b).enc]] (some 53) (c_AsBoolE hb) ?_))
          rintro _ rfl
          refine iQ 5 (iE 113 [(2, .p 2 0), (3, .p 3 0), (4, Ia 0), (5, Ia ka), (6, Ba x), (8, Ba y), (24, Ba false), (38, Ba false), (43, Ia ka), (44, Ba true)] [(2, [.bx (a).enc]), (3, [.bx (b).enc])] ?_)
          refine vc_seqr rfl (iQ 2 (iB .eql 4 (.bool x) (.bool y) (some 58) ?_))
          intro c58 hc58
          refine iC 18 [Bv c58] (some 59) (c_eOf (p := c58)) ?_
          rintro _ rfl
          refine iQ 1 (iE 113 [(2, .p 2 0), (3, .p 3 0), (4, Ia (ofI c58)), (5, Ia ka), (24, Ba false), (38, Ba false), (43, Ia ka), (44, Ba true)] [(2, [.bx (a).enc]), (3, [.bx (b).enc])] ?_)
          refine vc_ret (block_r (seq_r (iR (Iv (ofI c58)) ?_)))
          rw [ha, hb]; simp only [sameV]; congr 4; rw [Bool.eq_iff_iff, hc58]; simp
      · replace hc42 := bt hc42
        refine iT (vc_seqr rfl (iQ 1 (iE 113 [(2, .p 2 0), (3, .p 3 0), (4, Ia 0), (5, Ia ka), (24, Ba false), (38, Ba true)] [(2, [.bx (a).enc]), (3, [.bx (b).enc])] ?_)))
        refine vc_ret (block_r (seq_r (iR (Iv 0) ?_)))
        rw [same_kind (by omega) hna hnb]
    · replace hnb := bt hnb
      refine iT (vc_seqr rfl (iQ 1 (iC 14 [.agg [.bx (a).enc]] (some 32) (c_NullF hna) ?_)))
      rintro _ rfl
      refine iQ 4 (iC 18 [Bv false] (some 37) (c_eOf (p := false)) ?_)
      rintro _ rfl
      refine iQ 1 (iE 113 [(2, .p 2 0), (3, .p 3 0), (4, Ia (ofI false)), (5, Ia ka), (24, Ba true)] [(2, [.bx (a).enc]), (3, [.bx (b).enc])] ?_)
      refine vc_ret (block_r (seq_r (iR (Iv (ofI false)) ?_)))
      rw [same_null (.inr hnb)]; congr 4; simp [hna]
  · replace hna := bt hna
    refine iQ 4 (iE 113 [(2, .p 2 0), (3, .p 3 0), (4, Ia 0), (5, Ia ka), (24, Ba true)] [(2, [.bx (a).enc]), (3, [.bx (b).enc])] ?_)
    refine iT (vc_seqr rfl (iQ 1 (iC 14 [.agg [.bx (a).enc]] (some 32) (c_NullT hna) ?_)))
    rintro _ rfl
    refine iQ 2 (iC 14 [.agg [.bx (b).enc]] (some 35) (c_NullE (v := b)) ?_)
    rintro _ ⟨nb, rfl, hnb⟩
    refine iQ 1 (iC 18 [Bv nb] (some 37) (c_eOf (p := nb)) ?_)
    rintro _ rfl
    refine iQ 1 (iE 113 [(2, .p 2 0), (3, .p 3 0), (4, Ia (ofI nb)), (5, Ia ka), (24, Ba true)] [(2, [.bx (a).enc]), (3, [.bx (b).enc])] ?_)
    refine vc_ret (block_r (seq_r (iR (Iv (ofI nb)) ?_)))
    rw [same_null (.inl hna)]; congr 4; rw [Bool.eq_iff_iff, hnb]; simp [hna]
theorem kids_lt {a x : Vl} (h : x ∈ a.kids) : SizeOf.sizeOf x < SizeOf.sizeOf a := by
  cases a <;> simp only [Vl.kids, List.not_mem_nil] at h
  case list xs => have := List.sizeOf_lt_of_mem h; simp; omega
  case ctx ns xs => have := List.sizeOf_lt_of_mem h; simp; omega
  case rng lo hi p q =>
    simp at h
    rcases h with rfl | rfl <;> simp <;> omega
theorem c_Same (a b : Vl) (oa : a.ok) (ob : b.ok) : SameC a b := v_Same oa ob fun x hx y ox oy => c_Same x y ox oy
termination_by SizeOf.sizeOf a
decreasing_by exact kids_lt hx


open Go.RowKit
set_option linter.unusedVariables false
set_option linter.unusedSimpArgs false
set_option maxRecDepth 100000

def intV (x : Int) : Vl := .num (decide (x < 0)) x.natAbs 0
theorem may_i64 {x : Int} (h0 : -9223372036854775808 ≤ x) (h1 : x ≤ 9223372036854775807) : May (decide (x < 0)) x.natAbs 0 := ⟨by unfold E34; omega, by decide, by decide, fun h h2 => by have : x < 0 := (by simpa using h); omega⟩
theorem numV_int {x : Int} (h0 : -9223372036854775808 ≤ x) (h1 : x ≤ 9223372036854775807) : numV (decide (x < 0)) x.natAbs 0 = intV x := by rw [numV, if_pos (may_i64 h0 h1), intV]
theorem int_ok {x : Int} (h0 : -9223372036854775808 ≤ x) (h1 : x ≤ 9223372036854775807) : (intV x).ok := by rw [intV, Vl.ok]; exact may_i64 h0 h1
theorem c_vInt {x : Int} (h0 : -9223372036854775808 ≤ x) (h1 : x ≤ 9223372036854775807) : HasC Tryz.prog 17 [.v (.int .i64 x)] (fun r => r = VV (intV x)) := by
  refine HasC.of [] (fn := Tryz.f17) tyOk mixed (fun args w => Tryz.call17 args w) Tryz.func17 rfl (by kernel_rfl) (Nat.le_of_ble_eq_true rfl) (⟨_, rfl⟩) ?_
  refine vc_seqr rfl (iQ 1 (iE 6 [(0, Ia x), (2, .p 2 0)] [(2, [.v (.nilIface)])] ?_))
  refine vc_seqr rfl (iQ 1 (iC 38 [Iv x] (some 4) (c_Int h0 h1) ?_))
  rintro _ rfl
  refine iC 33 [.agg [Bv (decide (x < 0)), Hw x.natAbs, Lw x.natAbs, Iv 0]] (some 5) (c_vNum (Nat.lt_trans (may_i64 h0 h1).1 e34_lt)) ?_
  rintro _ rfl
  refine iQ 1 (iE 6 [(2, .p 2 0)] [(2, [.bx (numV (decide (x < 0)) x.natAbs 0).enc])] ?_)
  refine vc_ret (iR (.agg [.bx (numV (decide (x < 0)) x.natAbs 0).enc]) ?_)
  rw [← numV_int h0 h1]
-- truths as values
noncomputable def endI (p : Bool) (a b : Vl) : Int := if p = true then lessOrI a b else lessI a b
noncomputable def lowI (v lo : Vl) (p : Bool) : Int := if lo.kindI = 1 then 2 else andI 2 (endI p lo v)
noncomputable def highI (t : Int) (v hi : Vl) (q : Bool) : Int := if hi.kindI = 1 then t else andI t (endI q v hi)
noncomputable def withinI (v r : Vl) : Int := if (rngOf r).is = true then (if (rngOf r).lo.kindI = 1 ∧ (rngOf r).hi.kindI = 1 then 0 else highI (lowI v (rngOf r).lo (rngOf r).p) v (rngOf r).hi (rngOf r).q) else 0
theorem c_AsRangeX {v lo hi : Vl} {p q is : Bool} (h : rngOf v = ⟨lo, hi, p, q, is⟩) : HasC Tryz.prog 42 [VV v] (fun r => r = .tup [.agg [BV lo, BV hi], .agg [.v (.bool p), .v (.bool q)], .v (.bool is)]) := (c_AsRange v).mono fun r hr => by rw [hr, h]; rfl
theorem rng_ok {v lo hi : Vl} {p q is : Bool} (h : rngOf v = ⟨lo, hi, p, q, is⟩) (o : v.ok) : lo.ok ∧ hi.ok := by
  cases v <;> simp only [rngOf, Ends.mk.injEq] at h <;> obtain ⟨rfl, rfl, rfl, rfl, rfl⟩ := h
  case rng => rw [Vl.ok] at o; exact ⟨o.1, o.2.1⟩
  all_goals exact ⟨null_ok, null_ok⟩
set_option maxHeartbeats 3200000 in
theorem c_Within {v r : Vl} (ov : v.ok) (or : r.ok) : HasC Tryz.prog 21 [.agg [.bx (v).enc], .agg [.bx (r).enc]] (fun y => y = .v (.int .i64 (withinI v r))) := by
  refine HasC.of [9, 11] (fn := Tryz.f21) tyOk mixed (fun args w => Tryz.call21 args w) Tryz.func21 rfl (by kernel_rfl) (Nat.le_of_ble_eq_true rfl) (⟨_, rfl⟩) ?_
  obtain ⟨⟨lo, hi, p, q, is⟩, hr⟩ : ∃ e, rngOf r = e := ⟨_, rfl⟩
  obtain ⟨olo, ohi⟩ := rng_ok hr or
  refine vc_seqr rfl (iQ 3 (iE 57 [(2, .p 2 0), (3, .p 3 0), (4, Ia 0)] [(2, [.bx (v).enc]), (3, [.bx (r).enc])] ?_))
  refine vc_seqr rfl (iQ 1 (iC 42 [.agg [.bx (r).enc]] (some 15) (c_AsRangeX hr) ?_))
  rintro _ rfl
  refine iQ 9 (iE 57 [(2, .p 2 0), (4, Ia 0), (5, .p 5 0), (6, .p 6 0), (7, Ba is)] [(2, [.bx (v).enc]), (5, [.bx (lo).enc, .bx (hi).enc]), (6, [Bv p, Bv q])] ?_)
  refine vc_seq (vc_seqr rfl (iQ 1 (iU .not (.bool is) (some 20) ?_)))
  intro c20 hc20
  refine iE 57 [(2, .p 2 0), (4, Ia 0), (5, .p 5 0), (6, .p 6 0), (20, Ba c20)] [(2, [.bx (v).enc]), (5, [.bx (lo).enc, .bx (hi).enc]), (6, [Bv p, Bv q])] ?_
  cases c20
  · replace hc20 := bf hc20
    have his : is = true := by simpa using hc20
    refine iF (vc_skip (seq_n (vc_seqr rfl (iQ 1 (iE 57 [(2, .p 2 0), (4, Ia 0), (5, .p 5 0), (6, .p 6 0), (8, Ia 2), (20, Ba false)] [(2, [.bx (v).enc]), (5, [.bx (lo).enc, .bx (hi).enc]), (6, [Bv p, Bv q])] ?_)))))
    refine vc_seq (vc_seqr rfl (iQ 2 (iE 57 [(2, .p 2 0), (4, Ia 0), (5, .p 5 0), (6, .p 6 0), (8, Ia 2), (20, Ba false), (21, .d (.agg [.bx (lo).enc, .bx (hi).enc])), (22, Ia 0)] [(2, [.bx (v).enc]), (5, [.bx (lo).enc, .bx (hi).enc]), (6, [Bv p, Bv q])] ?_)))
    refine vc_block (vc_loop 57 (fun (vcx : Nat × Int × Int) => match vcx with | (k, z, t) => [(2, .p 2 0), (4, Ia 0), (5, .p 5 0), (6, .p 6 0), (8, Ia t), (20, Ba false), (21, .d (.agg [.bx (lo).enc, .bx (hi).enc])), (22, Ia z)]) (fun (vcx : Nat × Int × Int) => match vcx with | (k, z, t) => [(2, [.bx (v).enc]), (5, [.bx (lo).enc, .bx (hi).enc]), (6, [Bv p, Bv q])]) (fun (vcx : Nat × Int × Int) => match vcx with | (k, z, t) => (z = 0 ∧ k = 0 ∧ t = 2) ∨ (z = 1 ∧ k = 1 ∧ t = lowI v lo p) ∨ (z = 2 ∧ k = 2 ∧ t = highI (lowI v lo p) v hi q)) (fun (vcx : Nat × Int × Int) => match vcx with | (k, z, t) => 2 - k) ((0, 0, 2)) (.inl ⟨rfl, rfl, rfl⟩) (by kernel_rfl) (by kernel_rfl) ?_)
    rintro ⟨k, z, t⟩ hinv
    simp only at hinv
    rcases (by omega : z = 0 ∨ z = 1 ∨ z = 2) with rfl | rfl | rfl
    · skip
      have ht : t = 2 ∧ k = 0 := by omega
      refine vc_seqr rfl (iB .lss 3 (.int .i64 0) (.int .i64 2) (some 23) ?_)
      refine all_true ((by decide)) ?_
      refine iE 57 [(2, .p 2 0), (4, Ia 0), (5, .p 5 0), (6, .p 6 0), (8, Ia t), (20, Ba false), (21, .d (.agg [.bx (lo).enc, .bx (hi).enc])), (22, Ia 0), (23, Ba true)] [(2, [.bx (v).enc]), (5, [.bx (lo).enc, .bx (hi).enc]), (6, [Bv p, Bv q])] ?_
      refine vc_seq (iT (vc_skip (seq_n (vc_seq (vc_block (vc_seqr rfl (iQ 5 (iE 57 [(2, .p 2 0), (4, Ia 0), (5, .p 5 0), (6, .p 6 0), (8, Ia t), (9, Ia 0), (10, .p 10 0), (20, Ba false), (21, .d (.agg [.bx (lo).enc, .bx (hi).enc])), (22, Ia 0), (23, Ba true)] [(2, [.bx (v).enc]), (5, [.bx (lo).enc, .bx (hi).enc]), (6, [Bv p, Bv q]), (10, [.bx (lo).enc])] ?_))))))))
      refine vc_seq (vc_seqr rfl (iQ 1 (iC 14 [.agg [.bx (lo).enc]] (some 27) (c_NullE (v := lo)) ?_)))
      rintro _ ⟨n1, rfl, hn1⟩
      refine iE 57 [(2, .p 2 0), (4, Ia 0), (5, .p 5 0), (6, .p 6 0), (8, Ia t), (9, Ia 0), (10, .p 10 0), (20, Ba false), (21, .d (.agg [.bx (lo).enc, .bx (hi).enc])), (22, Ia 0), (23, Ba true), (27, Ba n1)] [(2, [.bx (v).enc]), (5, [.bx (lo).enc, .bx (hi).enc]), (6, [Bv p, Bv q]), (10, [.bx (lo).enc])] ?_
      cases n1
      · replace hn1 := bf hn1
        refine iF (vc_skip (seq_n (vc_seqrx rfl (by kernel_rfl) ?_)))
        refine iQ 6 (iE 57 [(2, .p 2 0), (4, Ia 0), (5, .p 5 0), (6, .p 6 0), (8, Ia t), (9, Ia 0), (10, .p 10 0), (11, .p 11 0), (12, .p 12 0), (20, Ba false), (21, .d (.agg [.bx (lo).enc, .bx (hi).enc])), (22, Ia 0), (23, Ba true), (27, Ba false)] [(2, [.bx (v).enc]), (5, [.bx (lo).enc, .bx (hi).enc]), (6, [Bv p, Bv q]), (10, [.bx (lo).enc]), (11, [.bx (lo).enc]), (12, [.bx (v).enc])] ?_)
        refine vc_seq (vc_seqr rfl (iQ 1 (iB .eql 3 (.int .i64 0) (.int .i64 1) (some 31) ?_)))
        refine all_false ((by decide)) ?_
        refine iE 57 [(2, .p 2 0), (4, Ia 0), (5, .p 5 0), (6, .p 6 0), (8, Ia t), (9, Ia 0), (10, .p 10 0), (11, .p 11 0), (12, .p 12 0), (20, Ba false), (21, .d (.agg [.bx (lo).enc, .bx (hi).enc])), (22, Ia 0), (23, Ba true), (27, Ba false), (31, Ba false)] [(2, [.bx (v).enc]), (5, [.bx (lo).enc, .bx (hi).enc]), (6, [Bv p, Bv q]), (10, [.bx (lo).enc]), (11, [.bx (lo).enc]), (12, [.bx (v).enc])] ?_
        refine iF (vc_skip (seq_n (vc_seqr rfl (iQ 3 (iE 57 [(2, .p 2 0), (4, Ia 0), (5, .p 5 0), (6, .p 6 0), (8, Ia t), (9, Ia 0), (10, .p 10 0), (11, .p 11 0), (12, .p 12 0), (20, Ba false), (21, .d (.agg [.bx (lo).enc, .bx (hi).enc])), (22, Ia 0), (23, Ba true), (27, Ba false), (31, Ba false), (36, Ba p)] [(2, [.bx (v).enc]), (5, [.bx (lo).enc, .bx (hi).enc]), (6, [Bv p, Bv q]), (10, [.bx (lo).enc]), (11, [.bx (lo).enc]), (12, [.bx (v).enc])] ?_)))))
        cases p
        · skip
          refine iF (vc_reg rfl (iQ 3 (iC 35 [.agg [.bx (lo).enc], .agg [.bx (v).enc]] (some 45) (c_Less olo ov) ?_)))
          rintro _ rfl
          refine iC 11 [Iv t, Iv (lessI lo v)] (some 46) (c_eAnd) ?_
          rintro _ rfl
          refine iQ 1 (iE 57 [(2, .p 2 0), (4, Ia 0), (5, .p 5 0), (6, .p 6 0), (8, Ia (andI t (lessI lo v))), (9, Ia 0), (10, .p 10 0), (11, .p 11 0), (12, .p 12 0), (20, Ba false), (21, .d (.agg [.bx (lo).enc, .bx (hi).enc])), (22, Ia 0), (23, Ba true), (27, Ba false), (31, Ba false), (36, Ba false)] [(2, [.bx (v).enc]), (5, [.bx (lo).enc, .bx (hi).enc]), (6, [Bv false, Bv q]), (10, [.bx (lo).enc]), (11, [.bx (lo).enc]), (12, [.bx (v).enc])] ?_)
          refine block_n (seq_n (vc_reg rfl (iB .add 3 (.int .i64 0) (.int .i64 1) (some 47) ?_)))
          intro z47 hz47
          try replace hz47 := hz47.i64 (by omega)
          refine iQ 1 (iE 57 [(2, .p 2 0), (4, Ia 0), (5, .p 5 0), (6, .p 6 0), (8, Ia (andI t (lessI lo v))), (9, Ia 0), (10, .p 10 0), (11, .p 11 0), (12, .p 12 0), (20, Ba false), (21, .d (.agg [.bx (lo).enc, .bx (hi).enc])), (22, Ia z47), (23, Ba true), (27, Ba false), (31, Ba false), (36, Ba false)] [(2, [.bx (v).enc]), (5, [.bx (lo).enc, .bx (hi).enc]), (6, [Bv false, Bv q]), (10, [.bx (lo).enc]), (11, [.bx (lo).enc]), (12, [.bx (v).enc])] ?_)
          refine loop_n (1, z47, andI t (lessI lo v)) (.inr (.inl ⟨by omega, rfl, by rw [lowI, if_neg hn1, endI, if_neg (by simp), ht.1]⟩)) (by show 2 - 1 < 2 - k; omega) (by kernel_rfl) (by kernel_rfl)
        · skip
          refine iT (vc_reg rfl (iQ 3 (iC 43 [.agg [.bx (lo).enc], .agg [.bx (v).enc]] (some 40) (c_LessOr olo ov) ?_)))
          rintro _ rfl
          refine iC 11 [Iv t, Iv (lessOrI lo v)] (some 41) (c_eAnd) ?_
          rintro _ rfl
          refine iQ 1 (iE 57 [(2, .p 2 0), (4, Ia 0), (5, .p 5 0), (6, .p 6 0), (8, Ia (andI t (lessOrI lo v))), (9, Ia 0), (10, .p 10 0), (11, .p 11 0), (12, .p 12 0), (20, Ba false), (21, .d (.agg [.bx (lo).enc, .bx (hi).enc])), (22, Ia 0), (23, Ba true), (27, Ba false), (31, Ba false), (36, Ba true)] [(2, [.bx (v).enc]), (5, [.bx (lo).enc, .bx (hi).enc]), (6, [Bv true, Bv q]), (10, [.bx (lo).enc]), (11, [.bx (lo).enc]), (12, [.bx (v).enc])] ?_)
          refine block_n (seq_n (vc_reg rfl (iB .add 3 (.int .i64 0) (.int .i64 1) (some 47) ?_)))
          intro z47 hz47
          try replace hz47 := hz47.i64 (by omega)
          refine iQ 1 (iE 57 [(2, .p 2 0), (4, Ia 0), (5, .p 5 0), (6, .p 6 0), (8, Ia (andI t (lessOrI lo v))), (9, Ia 0), (10, .p 10 0), (11, .p 11 0), (12, .p 12 0), (20, Ba false), (21, .d (.agg [.bx (lo).enc, .bx (hi).enc])), (22, Ia z47), (23, Ba true), (27, Ba false), (31, Ba false), (36, Ba true)] [(2, [.bx (v).enc]), (5, [.bx (lo).enc, .bx (hi).enc]), (6, [Bv true, Bv q]), (10, [.bx (lo).enc]), (11, [.bx (lo).enc]), (12, [.bx (v).enc])] ?_)
          refine loop_n (1, z47, andI t (lessOrI lo v)) (.inr (.inl ⟨by omega, rfl, by rw [lowI, if_neg hn1, endI, if_pos rfl, ht.1]⟩)) (by show 2 - 1 < 2 - k; omega) (by kernel_rfl) (by kernel_rfl)
      · replace hn1 := bt hn1
        refine iT (vc_exit (seq_x (block_x rfl (seq_n (vc_reg rfl (iB .add 3 (.int .i64 0) (.int .i64 1) (some 47) ?_))))))
        intro z47 hz47
        try replace hz47 := hz47.i64 (by omega)
        refine iQ 1 (iE 57 [(2, .p 2 0), (4, Ia 0), (5, .p 5 0), (6, .p 6 0), (8, Ia t), (9, Ia 0), (10, .p 10 0), (20, Ba false), (21, .d (.agg [.bx (lo).enc, .bx (hi).enc])), (22, Ia z47), (23, Ba true), (27, Ba true)] [(2, [.bx (v).enc]), (5, [.bx (lo).enc, .bx (hi).enc]), (6, [Bv p, Bv q]), (10, [.bx (lo).enc])] ?_)
        refine loop_n (1, z47, t) (.inr (.inl ⟨by omega, rfl, by rw [lowI, if_pos hn1]; exact ht.1⟩)) (by show 2 - 1 < 2 - k; omega) (by kernel_rfl) (by kernel_rfl)
    · skip
      have ht : t = lowI v lo p ∧ k = 1 := by omega
      refine vc_seqr rfl (iB .lss 3 (.int .i64 1) (.int .i64 2) (some 23) ?_)
      refine all_true ((by decide)) ?_
      refine iE 57 [(2, .p 2 0), (4, Ia 0), (5, .p 5 0), (6, .p 6 0), (8, Ia t), (20, Ba false), (21, .d (.agg [.bx (lo).enc, .bx (hi).enc])), (22, Ia 1), (23, Ba true)] [(2, [.bx (v).enc]), (5, [.bx (lo).enc, .bx (hi).enc]), (6, [Bv p, Bv q])] ?_
      refine vc_seq (iT (vc_skip (seq_n (vc_seq (vc_block (vc_seqr rfl (iQ 5 (iE 57 [(2, .p 2 0), (4, Ia 0), (5, .p 5 0), (6, .p 6 0), (8, Ia t), (9, Ia 1), (10, .p 10 0), (20, Ba false), (21, .d (.agg [.bx (lo).enc, .bx (hi).enc])), (22, Ia 1), (23, Ba true)] [(2, [.bx (v).enc]), (5, [.bx (lo).enc, .bx (hi).enc]), (6, [Bv p, Bv q]), (10, [.bx (hi).enc])] ?_))))))))
      refine vc_seq (vc_seqr rfl (iQ 1 (iC 14 [.agg [.bx (hi).enc]] (some 27) (c_NullE (v := hi)) ?_)))
      rintro _ ⟨n2, rfl, hn2⟩
      refine iE 57 [(2, .p 2 0), (4, Ia 0), (5, .p 5 0), (6, .p 6 0), (8, Ia t), (9, Ia 1), (10, .p 10 0), (20, Ba false), (21, .d (.agg [.bx (lo).enc, .bx (hi).enc])), (22, Ia 1), (23, Ba true), (27, Ba n2)] [(2, [.bx (v).enc]), (5, [.bx (lo).enc, .bx (hi).enc]), (6, [Bv p, Bv q]), (10, [.bx (hi).enc])] ?_
      cases n2
      · replace hn2 := bf hn2
        refine iF (vc_skip (seq_n (vc_seqrx rfl (by kernel_rfl) ?_)))
        refine iQ 6 (iE 57 [(2, .p 2 0), (4, Ia 0), (5, .p 5 0), (6, .p 6 0), (8, Ia t), (9, Ia 1), (10, .p 10 0), (11, .p 11 0), (12, .p 12 0), (20, Ba false), (21, .d (.agg [.bx (lo).enc, .bx (hi).enc])), (22, Ia 1), (23, Ba true), (27, Ba false)] [(2, [.bx (v).enc]), (5, [.bx (lo).enc, .bx (hi).enc]), (6, [Bv p, Bv q]), (10, [.bx (hi).enc]), (11, [.bx (hi).enc]), (12, [.bx (v).enc])] ?_)
        refine vc_seq (vc_seqr rfl (iQ 1 (iB .eql 3 (.int .i64 1) (.int .i64 1) (some 31) ?_)))
        refine all_true ((by decide)) ?_
        refine iE 57 [(2, .p 2 0), (4, Ia 0), (5, .p 5 0), (6, .p 6 0), (8, Ia t), (9, Ia 1), (10, .p 10 0), (11, .p 11 0), (12, .p 12 0), (20, Ba false), (21, .d (.agg [.bx (lo).enc, .bx (hi).enc])), (22, Ia 1), (23, Ba true), (27, Ba false), (31, Ba true)] [(2, [.bx (v).enc]), (5, [.bx (lo).enc, .bx (hi).enc]), (6, [Bv p, Bv q]), (10, [.bx (hi).enc]), (11, [.bx (hi).enc]), (12, [.bx (v).enc])] ?_
        refine iT (vc_regx rfl (by kernel_rfl) ?_)
        refine iQ 4 (iE 57 [(2, .p 2 0), (4, Ia 0), (5, .p 5 0), (6, .p 6 0), (8, Ia t), (9, Ia 1), (10, .p 10 0), (11, .p 11 0), (12, .p 12 0), (20, Ba false), (21, .d (.agg [.bx (lo).enc, .bx (hi).enc])), (22, Ia 1), (23, Ba true), (27, Ba false), (31, Ba true)] [(2, [.bx (v).enc]), (5, [.bx (lo).enc, .bx (hi).enc]), (6, [Bv p, Bv q]), (10, [.bx (hi).enc]), (11, [.bx (v).enc]), (12, [.bx (hi).enc])] ?_)
        refine seq_n (vc_seqr rfl (iQ 3 (iE 57 [(2, .p 2 0), (4, Ia 0), (5, .p 5 0), (6, .p 6 0), (8, Ia t), (9, Ia 1), (10, .p 10 0), (11, .p 11 0), (12, .p 12 0), (20, Ba false), (21, .d (.agg [.bx (lo).enc, .bx (hi).enc])), (22, Ia 1), (23, Ba true), (27, Ba false), (31, Ba true), (36, Ba q)] [(2, [.bx (v).enc]), (5, [.bx (lo).enc, .bx (hi).enc]), (6, [Bv p, Bv q]), (10, [.bx (hi).enc]), (11, [.bx (v).enc]), (12, [.bx (hi).enc])] ?_)))
        cases q
        · skip
          refine iF (vc_reg rfl (iQ 3 (iC 35 [.agg [.bx (v).enc], .agg [.bx (hi).enc]] (some 45) (c_Less ov ohi) ?_)))
          rintro _ rfl
          refine iC 11 [Iv t, Iv (lessI v hi)] (some 46) (c_eAnd) ?_
          rintro _ rfl
          refine iQ 1 (iE 57 [(2, .p 2 0), (4, Ia 0), (5, .p 5 0), (6, .p 6 0), (8, Ia (andI t (lessI v hi))), (9, Ia 1), (10, .p 10 0), (11, .p 11 0), (12, .p 12 0), (20, Ba false), (21, .d (.agg [.bx (lo).enc, .bx (hi).enc])), (22, Ia 1), (23, Ba true), (27, Ba false), (31, Ba true), (36, Ba false)] [(2, [.bx (v).enc]), (5, [.bx (lo).enc, .bx (hi).enc]), (6, [Bv p, Bv false]), (10, [.bx (hi).enc]), (11, [.bx (v).enc]), (12, [.bx (hi).enc])] ?_)
          refine block_n (seq_n (vc_reg rfl (iB .add 3 (.int .i64 1) (.int .i64 1) (some 47) ?_)))
          intro z47 hz47
          try replace hz47 := hz47.i64 (by omega)
          refine iQ 1 (iE 57 [(2, .p 2 0), (4, Ia 0), (5, .p 5 0), (6, .p 6 0), (8, Ia (andI t (lessI v hi))), (9, Ia 1), (10, .p 10 0), (11, .p 11 0), (12, .p 12 0), (20, Ba false), (21, .d (.agg [.bx (lo).enc, .bx (hi).enc])), (22, Ia z47), (23, Ba true), (27, Ba false), (31, Ba true), (36, Ba false)] [(2, [.bx (v).enc]), (5, [.bx (lo).enc, .bx (hi).enc]), (6, [Bv p, Bv false]), (10, [.bx (hi).enc]), (11, [.bx (v).enc]), (12, [.bx (hi).enc])] ?_)
          refine loop_n (2, z47, andI t (lessI v hi)) (.inr (.inr ⟨by omega, rfl, by rw [highI, if_neg hn2, endI, if_neg (by simp), ht.1]⟩)) (by show 2 - 2 < 2 - k; omega) (by kernel_rfl) (by kernel_rfl)
        · skip
          refine iT (vc_reg rfl (iQ 3 (iC 43 [.agg [.bx (v).enc], .agg [.bx (hi).enc]] (some 40) (c_LessOr ov ohi) ?_)))
          rintro _ rfl
          refine iC 11 [Iv t, Iv (lessOrI v hi)] (some 41) (c_eAnd) ?_
          rintro _ rfl
          refine iQ 1 (iE 57 [(2, .p 2 0), (4, Ia 0), (5, .p 5 0), (6, .p 6 0), (8, Ia (andI t (lessOrI v hi))), (9, Ia 1), (10, .p 10 0), (11, .p 11 0), (12, .p 12 0), (20, Ba false), (21, .d (.agg [.bx (lo).enc, .bx (hi).enc])), (22, Ia 1), (23, Ba true), (27, Ba false), (31, Ba true), (36, Ba true)] [(2, [.bx (v).enc]), (5, [.bx (lo).enc, .bx (hi).enc]), (6, [Bv p, Bv true]), (10, [.bx (hi).enc]), (11, [.bx (v).enc]), (12, [.bx (hi).enc])] ?_)
          refine block_n (seq_n (vc_reg rfl (iB .add 3 (.int .i64 1) (.int .i64 1) (some 47) ?_)))
          intro z47 hz47
          try replace hz47 := hz47.i64 (by omega)
          refine iQ 1 (iE 57 [(2, .p 2 0), (4, Ia 0), (5, .p 5 0), (6, .p 6 0), (8, Ia (andI t (lessOrI v hi))), (9, Ia 1), (10, .p 10 0), (11, .p 11 0), (12, .p 12 0), (20, Ba false), (21, .d (.agg [.bx (lo).enc, .bx (hi).enc])), (22, Ia z47), (23, Ba true), (27, Ba false), (31, Ba true), (36, Ba true)] [(2, [.bx (v).enc]), (5, [.bx (lo).enc, .bx (hi).enc]), (6, [Bv p, Bv true]), (10, [.bx (hi).enc]), (11, [.bx (v).enc]), (12, [.bx (hi).enc])] ?_)
          refine loop_n (2, z47, andI t (lessOrI v hi)) (.inr (.inr ⟨by omega, rfl, by rw [highI, if_neg hn2, endI, if_pos rfl, ht.1]⟩)) (by show 2 - 2 < 2 - k; omega) (by kernel_rfl) (by kernel_rfl)
      · replace hn2 := bt hn2
        refine iT (vc_exit (seq_x (block_x rfl (seq_n (vc_reg rfl (iB .add 3 (.int .i64 1) (.int .i64 1) (some 47) ?_))))))
        intro z47 hz47
        try replace hz47 := hz47.i64 (by omega)
        refine iQ 1 (iE 57 [(2, .p 2 0), (4, Ia 0), (5, .p 5 0), (6, .p 6 0), (8, Ia t), (9, Ia 1), (10, .p 10 0), (20, Ba false), (21, .d (.agg [.bx (lo).enc, .bx (hi).enc])), (22, Ia z47), (23, Ba true), (27, Ba true)] [(2, [.bx (v).enc]), (5, [.bx (lo).enc, .bx (hi).enc]), (6, [Bv p, Bv q]), (10, [.bx (hi).enc])] ?_)
        refine loop_n (2, z47, t) (.inr (.inr ⟨by omega, rfl, by rw [highI, if_pos hn2]; exact ht.1⟩)) (by show 2 - 2 < 2 - k; omega) (by kernel_rfl) (by kernel_rfl)
    · skip
      have ht : t = highI (lowI v lo p) v hi q := by omega
      refine vc_seqr rfl (iB .lss 3 (.int .i64 2) (.int .i64 2) (some 23) ?_)
      refine all_false ((by decide)) ?_
      refine iE 57 [(2, .p 2 0), (4, Ia 0), (5, .p 5 0), (6, .p 6 0), (8, Ia t), (20, Ba false), (21, .d (.agg [.bx (lo).enc, .bx (hi).enc])), (22, Ia 2), (23, Ba false)] [(2, [.bx (v).enc]), (5, [.bx (lo).enc, .bx (hi).enc]), (6, [Bv p, Bv q])] ?_
      refine vc_seq (iF (vc_exit (seq_x (loop_x (block_x rfl (seq_n (vc_seq (vc_seqr rfl (iQ 2 (iC 14 [.agg [.bx (lo).enc]] (some 50) (c_NullE (v := lo)) ?_))))))))))
      rintro _ ⟨n1, rfl, hn1⟩
      refine iQ 1 ?_
      cases n1
      · replace hn1 := bf hn1
        refine iQ 4 (iE 57 [(2, .p 2 0), (4, Ia 0), (5, .p 5 0), (6, .p 6 0), (8, Ia t), (20, Ba false), (21, .d (.agg [.bx (lo).enc, .bx (hi).enc])), (22, Ia 2), (23, Ba false), (55, Ba false)] [(2, [.bx (v).enc]), (5, [.bx (lo).enc, .bx (hi).enc]), (6, [Bv p, Bv q])] ?_)
        refine iF (vc_skip (seq_n (vc_seqr rfl (iQ 2 (iE 57 [(2, .p 2 0), (4, Ia t), (5, .p 5 0), (6, .p 6 0), (8, Ia t), (20, Ba false), (21, .d (.agg [.bx (lo).enc, .bx (hi).enc])), (22, Ia 2), (23, Ba false), (55, Ba false)] [(2, [.bx (v).enc]), (5, [.bx (lo).enc, .bx (hi).enc]), (6, [Bv p, Bv q])] ?_)))))
        refine vc_ret (iR (Iv t) ?_)
        rw [withinI, hr, if_pos his, if_neg (fun h => hn1 h.1), ht]
      · replace hn1 := bt hn1
        refine iQ 2 (iC 14 [.agg [.bx (hi).enc]] (some 54) (c_NullE (v := hi)) ?_)
        rintro _ ⟨n2, rfl, hn2⟩
        refine iQ 1 (iE 57 [(2, .p 2 0), (4, Ia 0), (5, .p 5 0), (6, .p 6 0), (8, Ia t), (20, Ba false), (21, .d (.agg [.bx (lo).enc, .bx (hi).enc])), (22, Ia 2), (23, Ba false), (55, Ba n2)] [(2, [.bx (v).enc]), (5, [.bx (lo).enc, .bx (hi).enc]), (6, [Bv p, Bv q])] ?_)
        cases n2
        · replace hn2 := bf hn2
          refine iF (vc_skip (seq_n (vc_seqr rfl (iQ 2 (iE 57 [(2, .p 2 0), (4, Ia t), (5, .p 5 0), (6, .p 6 0), (8, Ia t), (20, Ba false), (21, .d (.agg [.bx (lo).enc, .bx (hi).enc])), (22, Ia 2), (23, Ba false), (55, Ba false)] [(2, [.bx (v).enc]), (5, [.bx (lo).enc, .bx (hi).enc]), (6, [Bv p, Bv q])] ?_)))))
          refine vc_ret (iR (Iv t) ?_)
          rw [withinI, hr, if_pos his, if_neg (fun h => hn2 h.2), ht]
        · replace hn2 := bt hn2
          refine iT (vc_seqr rfl (iQ 1 (iE 57 [(2, .p 2 0), (4, Ia 0), (5, .p 5 0), (6, .p 6 0), (8, Ia t), (20, Ba false), (21, .d (.agg [.bx (lo).enc, .bx (hi).enc])), (22, Ia 2), (23, Ba false), (55, Ba true)] [(2, [.bx (v).enc]), (5, [.bx (lo).enc, .bx (hi).enc]), (6, [Bv p, Bv q])] ?_)))
          refine vc_ret (seq_r (iR (Iv 0) ?_))
          rw [withinI, hr, if_pos his, if_pos ⟨hn1, hn2⟩]
  · replace hc20 := bt hc20
    refine iT (vc_seqr rfl (iQ 1 (iE 57 [(2, .p 2 0), (4, Ia 0), (5, .p 5 0), (6, .p 6 0), (20, Ba true)] [(2, [.bx (v).enc]), (5, [.bx (lo).enc, .bx (hi).enc]), (6, [Bv p, Bv q])] ?_)))
    refine vc_ret (seq_r (iR (Iv 0) ?_))
    rw [withinI, hr, if_neg (by rw [hc20]; simp)]
-- among
theorem c_and12 {x y : Int} : HasC Tryz.prog 15 [.v (.int .i64 x), .v (.int .i64 y)] (fun r => r = .v (.int .i64 (andI x y))) := by
  refine HasC.of [] (fn := Tryz.f15) tyOk mixed (fun args w => Tryz.call15 args w) Tryz.func15 rfl (by kernel_rfl) (Nat.le_of_ble_eq_true rfl) (⟨_, rfl⟩) ?_
  refine vc_seqr rfl (iQ 1 (iE 17 [(0, Ia x), (1, Ia y), (4, Ia 0)] [] ?_))
  refine vc_seq (vc_seqr rfl (iQ 1 (iB .eql 23 (.int .i64 x) (.int .i64 1) (some 6) ?_)))
  intro c6 hc6
  refine iQ 1 ?_
  cases c6
  · replace hc6 := bf hc6
    refine iQ 1 (iB .eql 23 (.int .i64 y) (.int .i64 1) (some 9) ?_)
    intro c9 hc9
    refine iQ 1 (iE 17 [(0, Ia x), (1, Ia y), (4, Ia 0), (10, Ba c9)] [] ?_)
    cases c9
    · replace hc9 := bf hc9
      refine iF (vc_skip (seq_n (vc_seq (vc_seqr rfl (iQ 1 (iB .eql 23 (.int .i64 x) (.int .i64 2) (some 12) ?_))))))
      intro c12 hc12
      refine iQ 1 ?_
      cases c12
      · replace hc12 := bf hc12
        refine iQ 3 (iE 17 [(0, Ia x), (1, Ia y), (4, Ia 0), (10, Ba false), (16, Ba false)] [] ?_)
        refine iF (vc_skip (seq_n (vc_seqr rfl (iQ 1 (iE 17 [(0, Ia x), (1, Ia y), (4, Ia 0), (10, Ba false), (16, Ba false)] [] ?_)))))
        refine vc_ret (iR (Iv 0) ?_)
        rw [andI, if_neg (by omega), if_neg (by omega)]
      · replace hc12 := bt hc12
        refine iQ 1 (iB .eql 23 (.int .i64 y) (.int .i64 2) (some 15) ?_)
        intro c15 hc15
        refine iQ 1 (iE 17 [(0, Ia x), (1, Ia y), (4, Ia 0), (10, Ba false), (16, Ba c15)] [] ?_)
        cases c15
        · replace hc15 := bf hc15
          refine iF (vc_skip (seq_n (vc_seqr rfl (iQ 1 (iE 17 [(0, Ia x), (1, Ia y), (4, Ia 0), (10, Ba false), (16, Ba false)] [] ?_)))))
          refine vc_ret (iR (Iv 0) ?_)
          rw [andI, if_neg (by omega), if_neg (by omega)]
        · replace hc15 := bt hc15
          refine iT (vc_seqr rfl (iQ 1 (iE 17 [(0, Ia x), (1, Ia y), (4, Ia 2), (10, Ba false), (16, Ba true)] [] ?_)))
          refine vc_ret (seq_r (iR (Iv 2) ?_))
          rw [andI, if_neg (by omega), if_pos (by omega)]
    · replace hc9 := bt hc9
      refine iT (vc_seqr rfl (iQ 1 (iE 17 [(0, Ia x), (1, Ia y), (4, Ia 1), (10, Ba true)] [] ?_)))
      refine vc_ret (seq_r (iR (Iv 1) ?_))
      rw [andI, if_pos (by omega)]
  · replace hc6 := bt hc6
    refine iQ 3 (iE 17 [(0, Ia x), (1, Ia y), (4, Ia 0), (10, Ba true)] [] ?_)
    refine iT (vc_seqr rfl (iQ 1 (iE 17 [(0, Ia x), (1, Ia y), (4, Ia 1), (10, Ba true)] [] ?_)))
    refine vc_ret (seq_r (iR (Iv 1) ?_))
    rw [andI, if_pos (by omega)]
theorem c_end12 {p : Bool} {a b : Vl} (oa : a.ok) (ob : b.ok) : HasC Tryz.prog 22 [.v (.bool p), .agg [.bx (a).enc], .agg [.bx (b).enc]] (fun r => r = .v (.int .i64 (endI p a b))) := by
  refine HasC.of [] (fn := Tryz.f22) tyOk mixed (fun args w => Tryz.call22 args w) Tryz.func22 rfl (by kernel_rfl) (Nat.le_of_ble_eq_true rfl) (⟨_, rfl⟩) ?_
  refine vc_seqr rfl (iQ 3 (iE 14 [(0, Ba p), (4, .p 4 0), (5, .p 5 0), (6, Ia 0)] [(4, [.bx (a).enc]), (5, [.bx (b).enc])] ?_))
  refine vc_seq (vc_seqr rfl (iQ 1 (iE 14 [(4, .p 4 0), (5, .p 5 0), (6, Ia 0), (7, Ba p)] [(4, [.bx (a).enc]), (5, [.bx (b).enc])] ?_)))
  cases p
  · skip
    refine iF (vc_skip (seq_n (vc_seqr rfl (iQ 2 (iC 35 [.agg [.bx (a).enc], .agg [.bx (b).enc]] (some 13) (c_Less oa ob) ?_)))))
    rintro _ rfl
    refine iQ 1 (iE 14 [(4, .p 4 0), (5, .p 5 0), (6, Ia (lessI a b)), (7, Ba false)] [(4, [.bx (a).enc]), (5, [.bx (b).enc])] ?_)
    refine vc_ret (iR (Iv (lessI a b)) ?_)
    rfl
  · skip
    refine iT (vc_seqr rfl (iQ 2 (iC 43 [.agg [.bx (a).enc], .agg [.bx (b).enc]] (some 10) (c_LessOr oa ob) ?_)))
    rintro _ rfl
    refine iQ 1 (iE 14 [(4, .p 4 0), (5, .p 5 0), (6, Ia (lessOrI a b)), (7, Ba true)] [(4, [.bx (a).enc]), (5, [.bx (b).enc])] ?_)
    refine vc_ret (seq_r (iR (Iv (lessOrI a b)) ?_))
    rfl
end Go.Proofs.YtpambeengdhhmaaGreatDoor
