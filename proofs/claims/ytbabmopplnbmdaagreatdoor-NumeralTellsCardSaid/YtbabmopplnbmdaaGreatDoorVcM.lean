/-
  The reference's numbers, digit by digit.
-/
import Derived.Test.YtbabmopplnbmdaaGreatDoorVcN
import Derived.Test.YtbabmopplnbmdaaGreatDoorPure
namespace Go.Proofs.YtbabmopplnbmdaaGreatDoor
open Go.RowKit
set_option linter.unusedVariables false
set_option linter.unusedSimpArgs false
set_option maxRecDepth 100000

theorem mulI {a b : Nat} {z : Int} (h : IntIs .i64 ((a : Int) * (b : Int)) z) (hb : a * b ≤ 9223372036854775807) : z = ((a * b : Nat) : Int) := by
  have e : ((a : Int) * (b : Int)) = ((a * b : Nat) : Int) := by simp
  rw [e] at h
  exact h.i64 (by omega)
theorem quoI {a b : Nat} {x z : Int} (hx : x = (a : Int)) (h : IntIs .i64 (x.tdiv (b : Int)) z) (ha : a ≤ 9223372036854775807) : z = ((a / b : Nat) : Int) := by
  subst hx
  have e : ((a : Int).tdiv (b : Int)) = ((a / b : Nat) : Int) := by rw [Int.tdiv_eq_ediv_of_nonneg (by omega)]; simp
  rw [e] at h
  have := Nat.div_le_self a b
  generalize a / b = q at *
  exact h.i64 (by omega)
theorem remI {a b : Nat} {x z : Int} (hx : x = (a : Int)) (h : z = x.tmod (b : Int)) : z = ((a % b : Nat) : Int) := by
  subst hx
  rw [h, Int.tmod_eq_emod_of_nonneg (by omega)]
  simp
theorem dg_snoc {ds : List Nat} {d : Nat} {z : Int} (h : z = (d : Int)) : dg ds ++ [.v (.int .i64 z)] = dg (ds ++ [d]) := by rw [dg_append, dg_one, h]

theorem trimTo_spec (ds : List Nat) : ∀ n, n ≤ ds.length → (∀ i, trimTo ds n ≤ i → i < n → ds[i]? = some 0) ∧ (0 < trimTo ds n → ds[trimTo ds n - 1]? ≠ some 0)
  | 0, h => ⟨fun i _ h => by omega, fun h => by simp [trimTo] at h⟩
  | n + 1, h => by
    obtain ⟨h1, h2⟩ := trimTo_spec ds n (by omega)
    unfold trimTo
    split
    · rename_i hd
      refine ⟨fun i hi hn => ?_, h2⟩
      by_cases e : i = n
      · subst e; exact hd
      · exact h1 i hi (by omega)
    · rename_i hd
      exact ⟨fun i hi hn => by omega, fun _ => by simpa using hd⟩
theorem trim_eq {ds : List Nat} (hd : ∀ d ∈ ds, d < 10) : trim ds = digs (dval ds) := by
  obtain ⟨h1, h2⟩ := trimTo_spec ds ds.length (Nat.le_refl _)
  have hle := trimTo_le ds ds.length
  refine trim_digs hd hle (fun i hi hm => ?_) fun h0 => ?_
  · have := h1 i hm hi
    rw [List.getElem?_eq_getElem hi] at this
    exact Option.some.inj this
  · intro e
    refine h2 h0 ?_
    rw [List.getElem?_eq_getElem (by omega), e]
theorem c_TrimD {ds : List Nat} (hd : ∀ d ∈ ds, d < 10) (hl : ds.length ≤ 100000000000) : HasC Tryz.prog 58 [.sl ds.length (dg ds)] (fun y => y = .sl (nd (dval ds)) (dg (digs (dval ds)))) :=
  (c_Trim hl).mono fun y hy => by rw [hy, trim_eq hd]; rfl

theorem digs_get? {n k : Nat} (h : k < nd n) : (digs n)[k]? = some (dig n k) := by
  have h' : k < (digs n).length := h
  rw [List.getElem?_eq_getElem h', digs_get]

theorem c_at {n k : Nat} : HasC Tryz.prog 98 [.sl (nd (n)) (dg (digs (n))), .v (.int .i64 ((k : Int)))] (fun y => y = .v (.int .i64 ((dig n k : Nat) : Int))) := by
  refine HasC.of [] (fn := Tryz.f98) tyOk mixed (fun args w => Tryz.call98 args w) Tryz.func98 rfl (by kernel_rfl) (Nat.le_of_ble_eq_true rfl) (⟨_, rfl⟩) ?_
  refine vc_seqr rfl (iQ 1 (iE 17 [(0, .d (.sl (nd (n)) (dg (digs (n))))), (1, Ia ((k : Int))), (4, Ia 0)] [] ?_))
  refine vc_seq (vc_seqr rfl (iQ 1 (iB .lss 3 (.int .i64 ((k : Int))) (.int .i64 0) (some 6) ?_)))
  intro c6 hc6
  refine iQ 1 ?_
  obtain rfl : c6 = false := bff hc6 (by omega)
  refine iQ 3 (iB .geq 3 (.int .i64 ((k : Int))) (.int .i64 (((nd (n) : Nat) : Int))) (some 11) ?_)
  intro c11 hc11
  refine iQ 1 (iE 17 [(0, .d (.sl (nd (n)) (dg (digs (n))))), (1, Ia ((k : Int))), (4, Ia 0), (12, Ba c11)] [] ?_)
  cases c11
  · replace hc11 := bf hc11
    refine iF (vc_skip (seq_n (vc_seqr rfl (iQ 2 (vcI_idx1 (q := ((k : Int))) (n := (nd (n))) (cs := (dg (digs (n)))) (d := .v (.int .i64 (((dig n k : Nat) : Int)))) (dst := (some 15)) (by kernel_rfl) (by omega) (by rw [Int.toNat_natCast]; exact dg_get (digs_get? (by omega))) ?_)))))
    refine iQ 2 (iE 17 [(0, .d (.sl (nd (n)) (dg (digs (n))))), (1, Ia ((k : Int))), (4, Ia (((dig n k : Nat) : Int))), (12, Ba false)] [] ?_)
    refine vc_ret (iR (Iv (((dig n k : Nat) : Int))) ?_)
    rfl
  · replace hc11 := bt hc11
    have h0 : dig n k = 0 := dig_zero (by omega)
    refine iT (vc_seqr rfl (iQ 1 (iE 17 [(0, .d (.sl (nd (n)) (dg (digs (n))))), (1, Ia ((k : Int))), (4, Ia 0), (12, Ba true)] [] ?_)))
    refine vc_ret (seq_r (iR (Iv 0) ?_))
    rw [h0]; rfl

theorem c_Small {n x add : Nat} (hx : x ≤ 4294967296) (ha : add < 4294967296) (hn : nd n ≤ 900000) : HasC Tryz.prog 84 [.sl (nd (n)) (dg (digs (n))), .v (.int .i64 ((x : Int))), .v (.int .i64 ((add : Int)))] (fun y => y = .sl (nd (n * x + add)) (dg (digs (n * x + add)))) := by
  refine HasC.of [] (fn := Tryz.f84) tyOk mixed (fun args w => Tryz.call84 args w) Tryz.func84 rfl (by kernel_rfl) (Nat.le_of_ble_eq_true rfl) (⟨_, rfl⟩) ?_
  refine vc_seqr rfl (iQ 1 (iE 38 [(0, .d (.sl (nd (n)) (dg (digs (n))))), (1, Ia ((x : Int))), (2, Ia ((add : Int))), (6, .w (.sl 0 []) none)] [] ?_))
  refine vc_seqr rfl (iQ 1 (iE 38 [(0, .d (.sl (nd (n)) (dg (digs (n))))), (1, Ia ((x : Int))), (2, Ia ((add : Int))), (6, .w (.sl 0 []) none), (7, .w (.sl 0 []) none)] [] ?_))
  refine vc_seqr rfl (iQ 2 (iE 38 [(0, .d (.sl (nd (n)) (dg (digs (n))))), (1, Ia ((x : Int))), (6, .w (.sl 0 []) none), (7, .w (.sl 0 []) none), (8, Ia ((add : Int)))] [] ?_))
  refine vc_seq (vc_seqr rfl (iQ 1 (iE 38 [(0, .d (.sl (nd (n)) (dg (digs (n))))), (1, Ia ((x : Int))), (6, .w (.sl 0 []) none), (7, .w (.sl 0 []) none), (8, Ia ((add : Int))), (9, Ia 0)] [] ?_)))
  refine vc_block (vc_loop 38 (fun (vcx : Nat × Nat × (List Nat)) => match vcx with | (k, c, ds) => [(0, .d (.sl (nd (n)) (dg (digs (n))))), (1, Ia ((x : Int))), (6, .w (.sl 0 []) none), (7, .w (.sl ((ds).length) (dg (ds))) (some ⟨7, 0, 3, 1⟩)), (8, Ia ((c : Int))), (9, Ia ((k : Int)))]) (fun (vcx : Nat × Nat × (List Nat)) => match vcx with | (k, c, ds) => []) (fun (vcx : Nat × Nat × (List Nat)) => match vcx with | (k, c, ds) => SmallInv n x add k c ds ∧ k ≤ nd n + 11) (fun (vcx : Nat × Nat × (List Nat)) => match vcx with | (k, c, ds) => nd n + 11 - k) ((0, add, [])) (⟨SmallInv.start n x ha, by omega⟩) (by kernel_rfl) (by kernel_rfl) ?_)
  rintro ⟨k, c, ds⟩ hinv
  simp only at hinv
  obtain ⟨hinv, hk⟩ := hinv
  refine vc_seq (vc_seqr rfl (iQ 3 (iB .lss 3 (.int .i64 ((k : Int))) (.int .i64 (((nd (n) : Nat) : Int))) (some 15) ?_)))
  intro c15 hc15
  refine iQ 1 ?_
  cases c15
  · replace hc15 := bf hc15
    refine iQ 1 (iB .gtr 3 (.int .i64 ((c : Int))) (.int .i64 0) (some 18) ?_)
    intro c18 hc18
    refine iQ 1 (iE 38 [(0, .d (.sl (nd (n)) (dg (digs (n))))), (1, Ia ((x : Int))), (6, .w (.sl 0 []) none), (7, .w (.sl ((ds).length) (dg (ds))) (some ⟨7, 0, 3, 1⟩)), (8, Ia ((c : Int))), (9, Ia ((k : Int))), (19, Ba c18)] [] ?_)
    cases c18
    · replace hc18 := bf hc18
      have hv := hinv.done (by omega) (by omega)
      have hlen := hinv.len
      refine iF (vc_exit (seq_x (loop_x (block_x rfl (seq_n (vc_seqr rfl (iQ 1 (iC 58 [.sl ((ds).length) (dg (ds))] (some 37) (c_TrimD hinv.lt (by omega)) ?_))))))))
      rintro _ rfl
      refine iQ 1 (iE 38 [(0, .d (.sl (nd (n)) (dg (digs (n))))), (1, Ia ((x : Int))), (6, .d (.sl (nd (dval ds)) (dg (digs (dval ds))))), (7, .w (.sl ((ds).length) (dg (ds))) (some ⟨7, 0, 3, 1⟩)), (8, Ia ((c : Int))), (9, Ia ((k : Int))), (19, Ba false)] [] ?_)
      refine vc_ret (iR (.sl (nd (dval ds)) (dg (digs (dval ds)))) ?_)
      rw [hv]
    · replace hc18 := bt hc18
      have hb := hinv.bound hx ha (by omega)
      have hdl := dig_lt n k
      have hm : dig n k * x ≤ 9 * 4294967296 := Nat.mul_le_mul (by omega) hx
      have hcl := hinv.cl
      have hlen := hinv.len
      refine iT (vc_skip (seq_n (vc_seq (vc_block (vc_seqr rfl (iQ 2 (iC 98 [.sl (nd (n)) (dg (digs (n))), Iv ((k : Int))] (some 24) (c_at) ?_)))))))
      rintro _ rfl
      refine iQ 1 (iB .mul 3 (.int .i64 (((dig n k : Nat) : Int))) (.int .i64 ((x : Int))) (some 26) ?_)
      intro z26 hz26
      try replace hz26 := hz26.i64 (by omega)
      replace hz26 : z26 = ((dig n k * x : Nat) : Int) := by rw [hz26]; simp
      refine iQ 1 (iB .add 3 (.int .i64 z26) (.int .i64 ((c : Int))) (some 28) ?_)
      intro z28 hz28
      try replace hz28 := hz28.i64 (by omega)
      replace hz28 : z28 = ((dig n k * x + c : Nat) : Int) := by rw [hz28, hz26]; simp
      refine iQ 1 (iE 38 [(0, .d (.sl (nd (n)) (dg (digs (n))))), (1, Ia ((x : Int))), (6, .w (.sl 0 []) none), (7, .w (.sl ((ds).length) (dg (ds))) (some ⟨7, 0, 3, 1⟩)), (8, Ia ((c : Int))), (9, Ia ((k : Int))), (10, Ia z28), (19, Ba true)] [] ?_)
      refine vc_seqr rfl (iQ 2 (iB .rem 3 (.int .i64 z28) (.int .i64 10) (some 31) ?_))
      refine And.intro (by omega) ?_
      intro z31 hz31
      replace hz31 := remI hz28 hz31 (b := 10)
      refine iQ 1 (vcI_app (n := ((ds).length)) (cs := (dg (ds))) (m := 1) (ds := [.v (.int .i64 z31)]) (N := ((ds ++ [(dig n k * x + c) % 10]).length)) (es := (dg (ds ++ [(dig n k * x + c) % 10]))) (j := 7) (e := 3) (z := 1) (dst := (some 33)) (by kernel_rfl) (by first | rfl | omega | (rw [Nat.mul_one]; exact dg_len _) | (simp [dg]; done) | (simp [dg]; omega)) (by first | rfl | omega | (rw [Nat.mul_one]; exact dg_len _) | (simp [dg]; done) | (simp [dg]; omega)) (rfl) (by omega) (by simp) (dg_snoc hz31) ?_)
      refine iQ 1 (iE 38 [(0, .d (.sl (nd (n)) (dg (digs (n))))), (1, Ia ((x : Int))), (6, .w (.sl 0 []) none), (7, .w (.sl ((ds ++ [(dig n k * x + c) % 10]).length) (dg (ds ++ [(dig n k * x + c) % 10]))) (some ⟨7, 0, 3, 1⟩)), (8, Ia ((c : Int))), (9, Ia ((k : Int))), (10, Ia z28), (19, Ba true)] [] ?_)
      refine vc_reg rfl (iQ 1 (iB .quo 3 (.int .i64 z28) (.int .i64 10) (some 35) ?_))
      refine And.intro (by omega) ?_
      intro z35 hz35
      replace hz35 := quoI hz28 hz35 (b := 10) (by omega)
      refine iQ 1 (iE 38 [(0, .d (.sl (nd (n)) (dg (digs (n))))), (1, Ia ((x : Int))), (6, .w (.sl 0 []) none), (7, .w (.sl ((ds ++ [(dig n k * x + c) % 10]).length) (dg (ds ++ [(dig n k * x + c) % 10]))) (some ⟨7, 0, 3, 1⟩)), (8, Ia z35), (9, Ia ((k : Int))), (10, Ia z28), (19, Ba true)] [] ?_)
      refine block_n (seq_n (vc_reg rfl (iQ 1 (iB .add 3 (.int .i64 ((k : Int))) (.int .i64 1) (some 21) ?_))))
      intro z21 hz21
      try replace hz21 := hz21.i64 (by omega)
      refine iQ 1 (iE 38 [(0, .d (.sl (nd (n)) (dg (digs (n))))), (1, Ia ((x : Int))), (6, .w (.sl 0 []) none), (7, .w (.sl ((ds ++ [(dig n k * x + c) % 10]).length) (dg (ds ++ [(dig n k * x + c) % 10]))) (some ⟨7, 0, 3, 1⟩)), (8, Ia z35), (9, Ia z21), (10, Ia z28), (19, Ba true)] [] ?_)
      obtain rfl : z21 = ((k + 1 : Nat) : Int) := by omega
      subst hz35
      refine loop_n (k + 1, (dig n k * x + c) / 10, ds ++ [(dig n k * x + c) % 10]) (⟨hinv.next hx, by omega⟩) (by show nd n + 11 - (k + 1) < nd n + 11 - k; omega) (by kernel_rfl) (by kernel_rfl)
  · replace hc15 := bt hc15
    refine iQ 3 (iE 38 [(0, .d (.sl (nd (n)) (dg (digs (n))))), (1, Ia ((x : Int))), (6, .w (.sl 0 []) none), (7, .w (.sl ((ds).length) (dg (ds))) (some ⟨7, 0, 3, 1⟩)), (8, Ia ((c : Int))), (9, Ia ((k : Int))), (19, Ba true)] [] ?_)
    have hb := hinv.bound hx ha (by omega)
    have hdl := dig_lt n k
    have hm : dig n k * x ≤ 9 * 4294967296 := Nat.mul_le_mul (by omega) hx
    have hcl := hinv.cl
    have hlen := hinv.len
    refine iT (vc_skip (seq_n (vc_seq (vc_block (vc_seqr rfl (iQ 2 (iC 98 [.sl (nd (n)) (dg (digs (n))), Iv ((k : Int))] (some 24) (c_at) ?_)))))))
    rintro _ rfl
    refine iQ 1 (iB .mul 3 (.int .i64 (((dig n k : Nat) : Int))) (.int .i64 ((x : Int))) (some 26) ?_)
    intro z26 hz26
    try replace hz26 := hz26.i64 (by omega)
    replace hz26 : z26 = ((dig n k * x : Nat) : Int) := by rw [hz26]; simp
    refine iQ 1 (iB .add 3 (.int .i64 z26) (.int .i64 ((c : Int))) (some 28) ?_)
    intro z28 hz28
    try replace hz28 := hz28.i64 (by omega)
    replace hz28 : z28 = ((dig n k * x + c : Nat) : Int) := by rw [hz28, hz26]; simp
    refine iQ 1 (iE 38 [(0, .d (.sl (nd (n)) (dg (digs (n))))), (1, Ia ((x : Int))), (6, .w (.sl 0 []) none), (7, .w (.sl ((ds).length) (dg (ds))) (some ⟨7, 0, 3, 1⟩)), (8, Ia ((c : Int))), (9, Ia ((k : Int))), (10, Ia z28), (19, Ba true)] [] ?_)
    refine vc_seqr rfl (iQ 2 (iB .rem 3 (.int .i64 z28) (.int .i64 10) (some 31) ?_))
    refine And.intro (by omega) ?_
    intro z31 hz31
    replace hz31 := remI hz28 hz31 (b := 10)
    refine iQ 1 (vcI_app (n := ((ds).length)) (cs := (dg (ds))) (m := 1) (ds := [.v (.int .i64 z31)]) (N := ((ds ++ [(dig n k * x + c) % 10]).length)) (es := (dg (ds ++ [(dig n k * x + c) % 10]))) (j := 7) (e := 3) (z := 1) (dst := (some 33)) (by kernel_rfl) (by first | rfl | omega | (rw [Nat.mul_one]; exact dg_len _) | (simp [dg]; done) | (simp [dg]; omega)) (by first | rfl | omega | (rw [Nat.mul_one]; exact dg_len _) | (simp [dg]; done) | (simp [dg]; omega)) (rfl) (by omega) (by simp) (dg_snoc hz31) ?_)
    refine iQ 1 (iE 38 [(0, .d (.sl (nd (n)) (dg (digs (n))))), (1, Ia ((x : Int))), (6, .w (.sl 0 []) none), (7, .w (.sl ((ds ++ [(dig n k * x + c) % 10]).length) (dg (ds ++ [(dig n k * x + c) % 10]))) (some ⟨7, 0, 3, 1⟩)), (8, Ia ((c : Int))), (9, Ia ((k : Int))), (10, Ia z28), (19, Ba true)] [] ?_)
    refine vc_reg rfl (iQ 1 (iB .quo 3 (.int .i64 z28) (.int .i64 10) (some 35) ?_))
    refine And.intro (by omega) ?_
    intro z35 hz35
    replace hz35 := quoI hz28 hz35 (b := 10) (by omega)
    refine iQ 1 (iE 38 [(0, .d (.sl (nd (n)) (dg (digs (n))))), (1, Ia ((x : Int))), (6, .w (.sl 0 []) none), (7, .w (.sl ((ds ++ [(dig n k * x + c) % 10]).length) (dg (ds ++ [(dig n k * x + c) % 10]))) (some ⟨7, 0, 3, 1⟩)), (8, Ia z35), (9, Ia ((k : Int))), (10, Ia z28), (19, Ba true)] [] ?_)
    refine block_n (seq_n (vc_reg rfl (iQ 1 (iB .add 3 (.int .i64 ((k : Int))) (.int .i64 1) (some 21) ?_))))
    intro z21 hz21
    try replace hz21 := hz21.i64 (by omega)
    refine iQ 1 (iE 38 [(0, .d (.sl (nd (n)) (dg (digs (n))))), (1, Ia ((x : Int))), (6, .w (.sl 0 []) none), (7, .w (.sl ((ds ++ [(dig n k * x + c) % 10]).length) (dg (ds ++ [(dig n k * x + c) % 10]))) (some ⟨7, 0, 3, 1⟩)), (8, Ia z35), (9, Ia z21), (10, Ia z28), (19, Ba true)] [] ?_)
    obtain rfl : z21 = ((k + 1 : Nat) : Int) := by omega
    subst hz35
    refine loop_n (k + 1, (dig n k * x + c) / 10, ds ++ [(dig n k * x + c) % 10]) (⟨hinv.next hx, by omega⟩) (by show nd n + 11 - (k + 1) < nd n + 11 - k; omega) (by kernel_rfl) (by kernel_rfl)

theorem c_SmallI {n x add : Nat} {X A : Int} (hX : X = (x : Int)) (hA : A = (add : Int)) (hx : x ≤ 4294967296) (ha : add < 4294967296) (hn : nd n ≤ 900000) : HasC Tryz.prog 84 [.sl (nd n) (dg (digs n)), .v (.int .i64 X), .v (.int .i64 A)] (fun y => y = .sl (nd (n * x + add)) (dg (digs (n * x + add)))) := by
  subst hX hA
  exact c_Small hx ha hn
theorem nd_lt {a b : Nat} (h : nd a < nd b) : a < b := by
  rcases Nat.lt_or_ge a b with h1 | h1
  · exact h1
  · have := nd_mono h1
    omega
theorem dn_zero : (.sl (nd 0) (dg (digs 0)) : DV) = .sl 0 [] := by rw [nd_zero, digs_zero]; rfl
theorem dn_one : (.sl (nd 1) (dg (digs 1)) : DV) = .sl 1 [.v (.int .i64 1)] := by rw [nd_def, digs_one]; rfl

theorem c_Add {a b : Nat} (ha : nd a ≤ 900000) (hb : nd b ≤ 900000) : HasC Tryz.prog 83 [.sl (nd (a)) (dg (digs (a))), .sl (nd (b)) (dg (digs (b)))] (fun y => y = .sl (nd (a + b)) (dg (digs (a + b)))) := by
  refine HasC.of [] (fn := Tryz.f83) tyOk mixed (fun args w => Tryz.call83 args w) Tryz.func83 rfl (by kernel_rfl) (Nat.le_of_ble_eq_true rfl) (⟨_, rfl⟩) ?_
  refine vc_seqr rfl (iQ 1 (iE 43 [(0, .d (.sl (nd (a)) (dg (digs (a))))), (1, .d (.sl (nd (b)) (dg (digs (b))))), (4, .w (.sl 0 []) none)] [] ?_))
  refine vc_seqr rfl (iQ 1 (iE 43 [(0, .d (.sl (nd (a)) (dg (digs (a))))), (1, .d (.sl (nd (b)) (dg (digs (b))))), (4, .w (.sl 0 []) none), (5, .w (.sl 0 []) none)] [] ?_))
  refine vc_seqr rfl (iQ 1 (iE 43 [(0, .d (.sl (nd (a)) (dg (digs (a))))), (1, .d (.sl (nd (b)) (dg (digs (b))))), (4, .w (.sl 0 []) none), (5, .w (.sl 0 []) none), (6, Ia 0)] [] ?_))
  refine vc_seq (vc_seqr rfl (iQ 1 (iE 43 [(0, .d (.sl (nd (a)) (dg (digs (a))))), (1, .d (.sl (nd (b)) (dg (digs (b))))), (4, .w (.sl 0 []) none), (5, .w (.sl 0 []) none), (6, Ia 0), (7, Ia 0)] [] ?_)))
  refine vc_block (vc_loop 43 (fun (vcx : Nat × Nat × (List Nat)) => match vcx with | (k, c, ds) => [(0, .d (.sl (nd (a)) (dg (digs (a))))), (1, .d (.sl (nd (b)) (dg (digs (b))))), (4, .w (.sl 0 []) none), (5, .w (.sl ((ds).length) (dg (ds))) (some ⟨5, 0, 3, 1⟩)), (6, Ia ((c : Int))), (7, Ia ((k : Int)))]) (fun (vcx : Nat × Nat × (List Nat)) => match vcx with | (k, c, ds) => []) (fun (vcx : Nat × Nat × (List Nat)) => match vcx with | (k, c, ds) => AddInv a b k c ds ∧ k ≤ 900001) (fun (vcx : Nat × Nat × (List Nat)) => match vcx with | (k, c, ds) => 900001 - k) ((0, 0, [])) (⟨AddInv.start a b, by omega⟩) (by kernel_rfl) (by kernel_rfl) ?_)
  rintro ⟨k, c, ds⟩ hinv
  simp only at hinv
  obtain ⟨hinv, hk⟩ := hinv
  refine vc_seq (vc_seqr rfl (iQ 3 (iB .lss 3 (.int .i64 ((k : Int))) (.int .i64 (((nd (a) : Nat) : Int))) (some 12) ?_)))
  intro c12 hc12
  refine iQ 1 ?_
  cases c12
  · replace hc12 := bf hc12
    refine iQ 3 (iB .lss 3 (.int .i64 ((k : Int))) (.int .i64 (((nd (b) : Nat) : Int))) (some 17) ?_)
    intro c17 hc17
    refine iQ 2 ?_
    cases c17
    · replace hc17 := bf hc17
      refine iQ 1 (iB .gtr 3 (.int .i64 ((c : Int))) (.int .i64 0) (some 21) ?_)
      intro c21 hc21
      refine iQ 1 (iE 43 [(0, .d (.sl (nd (a)) (dg (digs (a))))), (1, .d (.sl (nd (b)) (dg (digs (b))))), (4, .w (.sl 0 []) none), (5, .w (.sl ((ds).length) (dg (ds))) (some ⟨5, 0, 3, 1⟩)), (6, Ia ((c : Int))), (7, Ia ((k : Int))), (22, Ba c21)] [] ?_)
      cases c21
      · replace hc21 := bf hc21
        have hv := hinv.done (by omega) (by omega) (by omega)
        have hlen := hinv.len
        refine iF (vc_exit (seq_x (loop_x (block_x rfl (seq_n (vc_seqr rfl (iQ 1 (iC 58 [.sl ((ds).length) (dg (ds))] (some 42) (c_TrimD hinv.lt (by omega)) ?_))))))))
        rintro _ rfl
        refine iQ 1 (iE 43 [(0, .d (.sl (nd (a)) (dg (digs (a))))), (1, .d (.sl (nd (b)) (dg (digs (b))))), (4, .d (.sl (nd (dval ds)) (dg (digs (dval ds))))), (5, .w (.sl ((ds).length) (dg (ds))) (some ⟨5, 0, 3, 1⟩)), (6, Ia ((c : Int))), (7, Ia ((k : Int))), (22, Ba false)] [] ?_)
        refine vc_ret (iR (.sl (nd (dval ds)) (dg (digs (dval ds)))) ?_)
        rw [hv]
      · replace hc21 := bt hc21
        have hbd := hinv.bound ha hb (by omega)
        have hda := dig_lt a k; have hdb := dig_lt b k; have hcl := hinv.cl; have hlen := hinv.len
        refine iT (vc_skip (seq_n (vc_seq (vc_block (vc_seqr rfl (iQ 2 (iC 98 [.sl (nd (a)) (dg (digs (a))), Iv ((k : Int))] (some 27) (c_at) ?_)))))))
        rintro _ rfl
        refine iQ 2 (iC 98 [.sl (nd (b)) (dg (digs (b))), Iv ((k : Int))] (some 30) (c_at) ?_)
        rintro _ rfl
        refine iB .add 3 (.int .i64 (((dig a k : Nat) : Int))) (.int .i64 (((dig b k : Nat) : Int))) (some 31) ?_
        intro z31 hz31
        try replace hz31 := hz31.i64 (by omega)
        refine iQ 1 (iB .add 3 (.int .i64 z31) (.int .i64 ((c : Int))) (some 33) ?_)
        intro z33 hz33
        try replace hz33 := hz33.i64 (by omega)
        replace hz33 : z33 = ((dig a k + dig b k + c : Nat) : Int) := by omega
        refine iQ 1 (iE 43 [(0, .d (.sl (nd (a)) (dg (digs (a))))), (1, .d (.sl (nd (b)) (dg (digs (b))))), (4, .w (.sl 0 []) none), (5, .w (.sl ((ds).length) (dg (ds))) (some ⟨5, 0, 3, 1⟩)), (6, Ia ((c : Int))), (7, Ia ((k : Int))), (8, Ia z33), (22, Ba true)] [] ?_)
        refine vc_seqr rfl (iQ 2 (iB .rem 3 (.int .i64 z33) (.int .i64 10) (some 36) ?_))
        refine And.intro (by omega) ?_
        intro z36 hz36
        replace hz36 := remI hz33 hz36 (b := 10)
        refine iQ 1 (vcI_app (n := ((ds).length)) (cs := (dg (ds))) (m := 1) (ds := [.v (.int .i64 z36)]) (N := ((ds ++ [(dig a k + dig b k + c) % 10]).length)) (es := (dg (ds ++ [(dig a k + dig b k + c) % 10]))) (j := 5) (e := 3) (z := 1) (dst := (some 38)) (by kernel_rfl) (by first | rfl | omega | (rw [Nat.mul_one]; exact dg_len _) | (simp [dg]; done) | (simp [dg]; omega)) (by first | rfl | omega | (rw [Nat.mul_one]; exact dg_len _) | (simp [dg]; done) | (simp [dg]; omega)) (rfl) (by omega) (by simp) (dg_snoc hz36) ?_)
        refine iQ 1 (iE 43 [(0, .d (.sl (nd (a)) (dg (digs (a))))), (1, .d (.sl (nd (b)) (dg (digs (b))))), (4, .w (.sl 0 []) none), (5, .w (.sl ((ds ++ [(dig a k + dig b k + c) % 10]).length) (dg (ds ++ [(dig a k + dig b k + c) % 10]))) (some ⟨5, 0, 3, 1⟩)), (6, Ia ((c : Int))), (7, Ia ((k : Int))), (8, Ia z33), (22, Ba true)] [] ?_)
        refine vc_reg rfl (iQ 1 (iB .quo 3 (.int .i64 z33) (.int .i64 10) (some 40) ?_))
        refine And.intro (by omega) ?_
        intro z40 hz40
        replace hz40 := quoI hz33 hz40 (b := 10) (by omega)
        refine iQ 1 (iE 43 [(0, .d (.sl (nd (a)) (dg (digs (a))))), (1, .d (.sl (nd (b)) (dg (digs (b))))), (4, .w (.sl 0 []) none), (5, .w (.sl ((ds ++ [(dig a k + dig b k + c) % 10]).length) (dg (ds ++ [(dig a k + dig b k + c) % 10]))) (some ⟨5, 0, 3, 1⟩)), (6, Ia z40), (7, Ia ((k : Int))), (8, Ia z33), (22, Ba true)] [] ?_)
        refine block_n (seq_n (vc_reg rfl (iQ 1 (iB .add 3 (.int .i64 ((k : Int))) (.int .i64 1) (some 24) ?_))))
        intro z24 hz24
        try replace hz24 := hz24.i64 (by omega)
        refine iQ 1 (iE 43 [(0, .d (.sl (nd (a)) (dg (digs (a))))), (1, .d (.sl (nd (b)) (dg (digs (b))))), (4, .w (.sl 0 []) none), (5, .w (.sl ((ds ++ [(dig a k + dig b k + c) % 10]).length) (dg (ds ++ [(dig a k + dig b k + c) % 10]))) (some ⟨5, 0, 3, 1⟩)), (6, Ia z40), (7, Ia z24), (8, Ia z33), (22, Ba true)] [] ?_)
        obtain rfl : z24 = ((k + 1 : Nat) : Int) := by omega
        subst hz40
        refine loop_n (k + 1, (dig a k + dig b k + c) / 10, ds ++ [(dig a k + dig b k + c) % 10]) (⟨hinv.next, by omega⟩) (by show 900001 - (k + 1) < 900001 - k; omega) (by kernel_rfl) (by kernel_rfl)
    · replace hc17 := bt hc17
      refine iQ 3 (iE 43 [(0, .d (.sl (nd (a)) (dg (digs (a))))), (1, .d (.sl (nd (b)) (dg (digs (b))))), (4, .w (.sl 0 []) none), (5, .w (.sl ((ds).length) (dg (ds))) (some ⟨5, 0, 3, 1⟩)), (6, Ia ((c : Int))), (7, Ia ((k : Int))), (22, Ba true)] [] ?_)
      have hbd := hinv.bound ha hb (by omega)
      have hda := dig_lt a k; have hdb := dig_lt b k; have hcl := hinv.cl; have hlen := hinv.len
      refine iT (vc_skip (seq_n (vc_seq (vc_block (vc_seqr rfl (iQ 2 (iC 98 [.sl (nd (a)) (dg (digs (a))), Iv ((k : Int))] (some 27) (c_at) ?_)))))))
      rintro _ rfl
      refine iQ 2 (iC 98 [.sl (nd (b)) (dg (digs (b))), Iv ((k : Int))] (some 30) (c_at) ?_)
      rintro _ rfl
      refine iB .add 3 (.int .i64 (((dig a k : Nat) : Int))) (.int .i64 (((dig b k : Nat) : Int))) (some 31) ?_
      intro z31 hz31
      try replace hz31 := hz31.i64 (by omega)
      refine iQ 1 (iB .add 3 (.int .i64 z31) (.int .i64 ((c : Int))) (some 33) ?_)
      intro z33 hz33
      try replace hz33 := hz33.i64 (by omega)
      replace hz33 : z33 = ((dig a k + dig b k + c : Nat) : Int) := by omega
      refine iQ 1 (iE 43 [(0, .d (.sl (nd (a)) (dg (digs (a))))), (1, .d (.sl (nd (b)) (dg (digs (b))))), (4, .w (.sl 0 []) none), (5, .w (.sl ((ds).length) (dg (ds))) (some ⟨5, 0, 3, 1⟩)), (6, Ia ((c : Int))), (7, Ia ((k : Int))), (8, Ia z33), (22, Ba true)] [] ?_)
      refine vc_seqr rfl (iQ 2 (iB .rem 3 (.int .i64 z33) (.int .i64 10) (some 36) ?_))
      refine And.intro (by omega) ?_
      intro z36 hz36
      replace hz36 := remI hz33 hz36 (b := 10)
      refine iQ 1 (vcI_app (n := ((ds).length)) (cs := (dg (ds))) (m := 1) (ds := [.v (.int .i64 z36)]) (N := ((ds ++ [(dig a k + dig b k + c) % 10]).length)) (es := (dg (ds ++ [(dig a k + dig b k + c) % 10]))) (j := 5) (e := 3) (z := 1) (dst := (some 38)) (by kernel_rfl) (by first | rfl | omega | (rw [Nat.mul_one]; exact dg_len _) | (simp [dg]; done) | (simp [dg]; omega)) (by first | rfl | omega | (rw [Nat.mul_one]; exact dg_len _) | (simp [dg]; done) | (simp [dg]; omega)) (rfl) (by omega) (by simp) (dg_snoc hz36) ?_)
      refine iQ 1 (iE 43 [(0, .d (.sl (nd (a)) (dg (digs (a))))), (1, .d (.sl (nd (b)) (dg (digs (b))))), (4, .w (.sl 0 []) none), (5, .w (.sl ((ds ++ [(dig a k + dig b k + c) % 10]).length) (dg (ds ++ [(dig a k + dig b k + c) % 10]))) (some ⟨5, 0, 3, 1⟩)), (6, Ia ((c : Int))), (7, Ia ((k : Int))), (8, Ia z33), (22, Ba true)] [] ?_)
      refine vc_reg rfl (iQ 1 (iB .quo 3 (.int .i64 z33) (.int .i64 10) (some 40) ?_))
      refine And.intro (by omega) ?_
      intro z40 hz40
      replace hz40 := quoI hz33 hz40 (b := 10) (by omega)
      refine iQ 1 (iE 43 [(0, .d (.sl (nd (a)) (dg (digs (a))))), (1, .d (.sl (nd (b)) (dg (digs (b))))), (4, .w (.sl 0 []) none), (5, .w (.sl ((ds ++ [(dig a k + dig b k + c) % 10]).length) (dg (ds ++ [(dig a k + dig b k + c) % 10]))) (some ⟨5, 0, 3, 1⟩)), (6, Ia z40), (7, Ia ((k : Int))), (8, Ia z33), (22, Ba true)] [] ?_)
      refine block_n (seq_n (vc_reg rfl (iQ 1 (iB .add 3 (.int .i64 ((k : Int))) (.int .i64 1) (some 24) ?_))))
      intro z24 hz24
      try replace hz24 := hz24.i64 (by omega)
      refine iQ 1 (iE 43 [(0, .d (.sl (nd (a)) (dg (digs (a))))), (1, .d (.sl (nd (b)) (dg (digs (b))))), (4, .w (.sl 0 []) none), (5, .w (.sl ((ds ++ [(dig a k + dig b k + c) % 10]).length) (dg (ds ++ [(dig a k + dig b k + c) % 10]))) (some ⟨5, 0, 3, 1⟩)), (6, Ia z40), (7, Ia z24), (8, Ia z33), (22, Ba true)] [] ?_)
      obtain rfl : z24 = ((k + 1 : Nat) : Int) := by omega
      subst hz40
      refine loop_n (k + 1, (dig a k + dig b k + c) / 10, ds ++ [(dig a k + dig b k + c) % 10]) (⟨hinv.next, by omega⟩) (by show 900001 - (k + 1) < 900001 - k; omega) (by kernel_rfl) (by kernel_rfl)
  · replace hc12 := bt hc12
    refine iQ 9 (iE 43 [(0, .d (.sl (nd (a)) (dg (digs (a))))), (1, .d (.sl (nd (b)) (dg (digs (b))))), (4, .w (.sl 0 []) none), (5, .w (.sl ((ds).length) (dg (ds))) (some ⟨5, 0, 3, 1⟩)), (6, Ia ((c : Int))), (7, Ia ((k : Int))), (22, Ba true)] [] ?_)
    have hbd := hinv.bound ha hb (by omega)
    have hda := dig_lt a k; have hdb := dig_lt b k; have hcl := hinv.cl; have hlen := hinv.len
    refine iT (vc_skip (seq_n (vc_seq (vc_block (vc_seqr rfl (iQ 2 (iC 98 [.sl (nd (a)) (dg (digs (a))), Iv ((k : Int))] (some 27) (c_at) ?_)))))))
    rintro _ rfl
    refine iQ 2 (iC 98 [.sl (nd (b)) (dg (digs (b))), Iv ((k : Int))] (some 30) (c_at) ?_)
    rintro _ rfl
    refine iB .add 3 (.int .i64 (((dig a k : Nat) : Int))) (.int .i64 (((dig b k : Nat) : Int))) (some 31) ?_
    intro z31 hz31
    try replace hz31 := hz31.i64 (by omega)
    refine iQ 1 (iB .add 3 (.int .i64 z31) (.int .i64 ((c : Int))) (some 33) ?_)
    intro z33 hz33
    try replace hz33 := hz33.i64 (by omega)
    replace hz33 : z33 = ((dig a k + dig b k + c : Nat) : Int) := by omega
    refine iQ 1 (iE 43 [(0, .d (.sl (nd (a)) (dg (digs (a))))), (1, .d (.sl (nd (b)) (dg (digs (b))))), (4, .w (.sl 0 []) none), (5, .w (.sl ((ds).length) (dg (ds))) (some ⟨5, 0, 3, 1⟩)), (6, Ia ((c : Int))), (7, Ia ((k : Int))), (8, Ia z33), (22, Ba true)] [] ?_)
    refine vc_seqr rfl (iQ 2 (iB .rem 3 (.int .i64 z33) (.int .i64 10) (some 36) ?_))
    refine And.intro (by omega) ?_
    intro z36 hz36
    replace hz36 := remI hz33 hz36 (b := 10)
    refine iQ 1 (vcI_app (n := ((ds).length)) (cs := (dg (ds))) (m := 1) (ds := [.v (.int .i64 z36)]) (N := ((ds ++ [(dig a k + dig b k + c) % 10]).length)) (es := (dg (ds ++ [(dig a k + dig b k + c) % 10]))) (j := 5) (e := 3) (z := 1) (dst := (some 38)) (by kernel_rfl) (by first | rfl | omega | (rw [Nat.mul_one]; exact dg_len _) | (simp [dg]; done) | (simp [dg]; omega)) (by first | rfl | omega | (rw [Nat.mul_one]; exact dg_len _) | (simp [dg]; done) | (simp [dg]; omega)) (rfl) (by omega) (by simp) (dg_snoc hz36) ?_)
    refine iQ 1 (iE 43 [(0, .d (.sl (nd (a)) (dg (digs (a))))), (1, .d (.sl (nd (b)) (dg (digs (b))))), (4, .w (.sl 0 []) none), (5, .w (.sl ((ds ++ [(dig a k + dig b k + c) % 10]).length) (dg (ds ++ [(dig a k + dig b k + c) % 10]))) (some ⟨5, 0, 3, 1⟩)), (6, Ia ((c : Int))), (7, Ia ((k : Int))), (8, Ia z33), (22, Ba true)] [] ?_)
    refine vc_reg rfl (iQ 1 (iB .quo 3 (.int .i64 z33) (.int .i64 10) (some 40) ?_))
    refine And.intro (by omega) ?_
    intro z40 hz40
    replace hz40 := quoI hz33 hz40 (b := 10) (by omega)
    refine iQ 1 (iE 43 [(0, .d (.sl (nd (a)) (dg (digs (a))))), (1, .d (.sl (nd (b)) (dg (digs (b))))), (4, .w (.sl 0 []) none), (5, .w (.sl ((ds ++ [(dig a k + dig b k + c) % 10]).length) (dg (ds ++ [(dig a k + dig b k + c) % 10]))) (some ⟨5, 0, 3, 1⟩)), (6, Ia z40), (7, Ia ((k : Int))), (8, Ia z33), (22, Ba true)] [] ?_)
    refine block_n (seq_n (vc_reg rfl (iQ 1 (iB .add 3 (.int .i64 ((k : Int))) (.int .i64 1) (some 24) ?_))))
    intro z24 hz24
    try replace hz24 := hz24.i64 (by omega)
    refine iQ 1 (iE 43 [(0, .d (.sl (nd (a)) (dg (digs (a))))), (1, .d (.sl (nd (b)) (dg (digs (b))))), (4, .w (.sl 0 []) none), (5, .w (.sl ((ds ++ [(dig a k + dig b k + c) % 10]).length) (dg (ds ++ [(dig a k + dig b k + c) % 10]))) (some ⟨5, 0, 3, 1⟩)), (6, Ia z40), (7, Ia z24), (8, Ia z33), (22, Ba true)] [] ?_)
    obtain rfl : z24 = ((k + 1 : Nat) : Int) := by omega
    subst hz40
    refine loop_n (k + 1, (dig a k + dig b k + c) / 10, ds ++ [(dig a k + dig b k + c) % 10]) (⟨hinv.next, by omega⟩) (by show 900001 - (k + 1) < 900001 - k; omega) (by kernel_rfl) (by kernel_rfl)

theorem c_Cmp {a b : Nat} (ha : nd a ≤ 90000000) (hb : nd b ≤ 90000000) : HasC Tryz.prog 29 [.sl (nd (a)) (dg (digs (a))), .sl (nd (b)) (dg (digs (b)))] (fun y => y = .v (.int .i64 (cmpN a b))) := by
  refine HasC.of [] (fn := Tryz.f29) tyOk mixed (fun args w => Tryz.call29 args w) Tryz.func29 rfl (by kernel_rfl) (Nat.le_of_ble_eq_true rfl) (⟨_, rfl⟩) ?_
  refine vc_seqr rfl (iQ 1 (iE 41 [(0, .d (.sl (nd (a)) (dg (digs (a))))), (1, .d (.sl (nd (b)) (dg (digs (b))))), (4, Ia 0)] [] ?_))
  refine vc_seq (vc_seqr rfl (iQ 4 (iB .neq 3 (.int .i64 (((nd (a) : Nat) : Int))) (.int .i64 (((nd (b) : Nat) : Int))) (some 10) ?_)))
  intro c10 hc10
  refine iE 41 [(0, .d (.sl (nd (a)) (dg (digs (a))))), (1, .d (.sl (nd (b)) (dg (digs (b))))), (4, Ia 0), (10, Ba c10)] [] ?_
  cases c10
  · replace hc10 := bf hc10
    refine iF (vc_skip (seq_n (vc_seq (vc_seqr rfl (iQ 2 (iB .sub 3 (.int .i64 (((nd (a) : Nat) : Int))) (.int .i64 1) (some 18) ?_))))))
    intro z18 hz18
    try replace hz18 := hz18.i64 (by omega)
    refine iQ 1 (iE 41 [(0, .d (.sl (nd (a)) (dg (digs (a))))), (1, .d (.sl (nd (b)) (dg (digs (b))))), (4, Ia 0), (5, Ia z18), (10, Ba false)] [] ?_)
    refine vc_block (vc_loop 41 (fun (vcx : Nat × Int) => match vcx with | (k, c) => [(0, .d (.sl (nd (a)) (dg (digs (a))))), (1, .d (.sl (nd (b)) (dg (digs (b))))), (4, Ia 0), (5, Ia c), (10, Ba false)]) (fun (vcx : Nat × Int) => match vcx with | (k, c) => []) (fun (vcx : Nat × Int) => match vcx with | (k, c) => c = (k : Int) - 1 ∧ k ≤ nd a ∧ a / 10 ^ k = b / 10 ^ k) (fun (vcx : Nat × Int) => match vcx with | (k, c) => k) ((nd a, z18)) (⟨hz18, Nat.le_refl _, by rw [div_nd (Nat.le_refl _), div_nd (by omega)]⟩) (by kernel_rfl) (by kernel_rfl) ?_)
    rintro ⟨k, c⟩ hinv
    simp only at hinv
    obtain ⟨hc, hk, he⟩ := hinv
    refine vc_seq (vc_seqr rfl (iQ 1 (iB .geq 3 (.int .i64 c) (.int .i64 0) (some 20) ?_)))
    intro c20 hc20
    refine iE 41 [(0, .d (.sl (nd (a)) (dg (digs (a))))), (1, .d (.sl (nd (b)) (dg (digs (b))))), (4, Ia 0), (5, Ia c), (10, Ba false), (20, Ba c20)] [] ?_
    cases c20
    · replace hc20 := bf hc20
      have hk0 : k = 0 := by omega
      have hab : a = b := by rw [hk0] at he; simpa using he
      refine iF (vc_exit (seq_x (loop_x (block_x rfl (seq_n (vc_seqr rfl (iQ 1 (iE 41 [(0, .d (.sl (nd (a)) (dg (digs (a))))), (1, .d (.sl (nd (b)) (dg (digs (b))))), (4, Ia 0), (5, Ia c), (10, Ba false), (20, Ba false)] [] ?_))))))))
      refine vc_ret (iR (Iv 0) ?_)
      rw [hab, cmpN_eq]
    · replace hc20 := bt hc20
      obtain ⟨u1, u2⟩ := div_up (by omega : 1 ≤ k) he
      refine iT (vc_skip (seq_n (vc_seq (vc_block (vc_seq (vc_seqr rfl (iQ 2 (vcI_idx1 (q := c) (n := (nd (a))) (cs := (dg (digs (a)))) (d := .v (.int .i64 (((dig a (k - 1) : Nat) : Int)))) (dst := (some 25)) (by kernel_rfl) (by omega) (by rw [show c.toNat = k - 1 by omega]; exact dg_get (digs_get? (by omega))) ?_))))))))
      refine iQ 3 (vcI_idx1 (q := c) (n := (nd (b))) (cs := (dg (digs (b)))) (d := .v (.int .i64 (((dig b (k - 1) : Nat) : Int)))) (dst := (some 29)) (by kernel_rfl) (by omega) (by rw [show c.toNat = k - 1 by omega]; exact dg_get (digs_get? (by omega))) ?_)
      refine iQ 1 (iB .lss 3 (.int .i64 (((dig a (k - 1) : Nat) : Int))) (.int .i64 (((dig b (k - 1) : Nat) : Int))) (some 31) ?_)
      intro c31 hc31
      refine iE 41 [(0, .d (.sl (nd (a)) (dg (digs (a))))), (1, .d (.sl (nd (b)) (dg (digs (b))))), (4, Ia 0), (5, Ia c), (10, Ba false), (20, Ba true), (31, Ba c31)] [] ?_
      cases c31
      · replace hc31 := bf hc31
        refine iF (vc_skip (seq_n (vc_seqr rfl (iQ 2 (vcI_idx1 (q := c) (n := (nd (a))) (cs := (dg (digs (a)))) (d := .v (.int .i64 (((dig a (k - 1) : Nat) : Int)))) (dst := (some 34)) (by kernel_rfl) (by omega) (by rw [show c.toNat = k - 1 by omega]; exact dg_get (digs_get? (by omega))) ?_)))))
        refine iQ 3 (vcI_idx1 (q := c) (n := (nd (b))) (cs := (dg (digs (b)))) (d := .v (.int .i64 (((dig b (k - 1) : Nat) : Int)))) (dst := (some 38)) (by kernel_rfl) (by omega) (by rw [show c.toNat = k - 1 by omega]; exact dg_get (digs_get? (by omega))) ?_)
        refine iQ 1 (iB .gtr 3 (.int .i64 (((dig a (k - 1) : Nat) : Int))) (.int .i64 (((dig b (k - 1) : Nat) : Int))) (some 40) ?_)
        intro c40 hc40
        refine iE 41 [(0, .d (.sl (nd (a)) (dg (digs (a))))), (1, .d (.sl (nd (b)) (dg (digs (b))))), (4, Ia 0), (5, Ia c), (10, Ba false), (20, Ba true), (31, Ba false), (40, Ba c40)] [] ?_
        cases c40
        · replace hc40 := bf hc40
          refine iF (vc_skip (block_n (seq_n (vc_reg rfl (iQ 1 (iB .sub 3 (.int .i64 c) (.int .i64 1) (some 22) ?_))))))
          intro z22 hz22
          try replace hz22 := hz22.i64 (by omega)
          refine iQ 1 (iE 41 [(0, .d (.sl (nd (a)) (dg (digs (a))))), (1, .d (.sl (nd (b)) (dg (digs (b))))), (4, Ia 0), (5, Ia z22), (10, Ba false), (20, Ba true), (31, Ba false), (40, Ba false)] [] ?_)
          refine loop_n (k - 1, z22) (⟨by omega, by omega, u2 (by omega)⟩) (by show k - 1 < k; omega) (by kernel_rfl) (by kernel_rfl)
        · replace hc40 := bt hc40
          obtain ⟨v1, v2⟩ := div_up (by omega : 1 ≤ k) he.symm
          refine iT (vc_seqr rfl (iQ 1 (iE 41 [(0, .d (.sl (nd (a)) (dg (digs (a))))), (1, .d (.sl (nd (b)) (dg (digs (b))))), (4, Ia 1), (5, Ia c), (10, Ba false), (20, Ba true), (31, Ba false), (40, Ba true)] [] ?_)))
          refine vc_ret (block_r (seq_r (loop_r (block_r (seq_r (iR (Iv 1) ?_))))))
          rw [cmpN_gt (v1 (by omega))]
      · replace hc31 := bt hc31
        refine iT (vc_seqr rfl (iQ 1 (iE 41 [(0, .d (.sl (nd (a)) (dg (digs (a))))), (1, .d (.sl (nd (b)) (dg (digs (b))))), (4, Ia (-1)), (5, Ia c), (10, Ba false), (20, Ba true), (31, Ba true)] [] ?_)))
        refine vc_ret (seq_r (block_r (seq_r (loop_r (block_r (seq_r (iR (Iv (-1)) ?_)))))))
        rw [cmpN_lt (u1 (by omega))]
  · replace hc10 := bt hc10
    refine iT (vc_seq (vc_seqr rfl (iQ 4 (iB .lss 3 (.int .i64 (((nd (a) : Nat) : Int))) (.int .i64 (((nd (b) : Nat) : Int))) (some 15) ?_))))
    intro c15 hc15
    refine iE 41 [(0, .d (.sl (nd (a)) (dg (digs (a))))), (1, .d (.sl (nd (b)) (dg (digs (b))))), (4, Ia 0), (10, Ba true), (15, Ba c15)] [] ?_
    cases c15
    · replace hc15 := bf hc15
      refine iF (vc_skip (seq_n (vc_seqr rfl (iQ 1 (iE 41 [(0, .d (.sl (nd (a)) (dg (digs (a))))), (1, .d (.sl (nd (b)) (dg (digs (b))))), (4, Ia 1), (10, Ba true), (15, Ba false)] [] ?_)))))
      refine vc_ret (seq_r (iR (Iv 1) ?_))
      rw [cmpN_gt (nd_lt (by omega))]
    · replace hc15 := bt hc15
      refine iT (vc_seqr rfl (iQ 1 (iE 41 [(0, .d (.sl (nd (a)) (dg (digs (a))))), (1, .d (.sl (nd (b)) (dg (digs (b))))), (4, Ia (-1)), (10, Ba true), (15, Ba true)] [] ?_)))
      refine vc_ret (seq_r (seq_r (iR (Iv (-1)) ?_)))
      rw [cmpN_lt (nd_lt (by omega))]

theorem shift_lt (k a : Nat) : ∀ d ∈ List.replicate k 0 ++ digs a, d < 10 := by
  intro d hd
  rcases List.mem_append.1 hd with h | h
  · have := (List.mem_replicate.1 h).2
    omega
  · exact digs_lt h

theorem c_Shift {a n : Nat} (ha : nd a ≤ 900000) (hn : n ≤ 90000) : HasC Tryz.prog 60 [.sl (nd (a)) (dg (digs (a))), .v (.int .i64 ((n : Int)))] (fun y => y = .sl (nd (a * 10 ^ n)) (dg (digs (a * 10 ^ n)))) := by
  refine HasC.of [] (fn := Tryz.f60) tyOk mixed (fun args w => Tryz.call60 args w) Tryz.func60 rfl (by kernel_rfl) (Nat.le_of_ble_eq_true rfl) (⟨_, rfl⟩) ?_
  refine vc_seqr rfl (iQ 1 (iE 20 [(0, .d (.sl (nd (a)) (dg (digs (a))))), (1, Ia ((n : Int))), (4, .w (.sl 0 []) none)] [] ?_))
  refine vc_seqr rfl (iQ 1 (iE 20 [(0, .d (.sl (nd (a)) (dg (digs (a))))), (1, Ia ((n : Int))), (4, .w (.sl 0 []) none), (5, .w (.sl 0 []) none)] [] ?_))
  refine vc_seq (vc_seqr rfl (iQ 1 (iE 20 [(0, .d (.sl (nd (a)) (dg (digs (a))))), (1, Ia ((n : Int))), (4, .w (.sl 0 []) none), (5, .w (.sl 0 []) none), (6, Ia 0)] [] ?_)))
  refine vc_block (vc_loop 20 (fun (vcx : Nat) => match vcx with | k => [(0, .d (.sl (nd (a)) (dg (digs (a))))), (1, Ia ((n : Int))), (4, .w (.sl 0 []) none), (5, .w (.sl ((List.replicate k 0).length) (dg (List.replicate k 0))) (some ⟨5, 0, 3, 1⟩)), (6, Ia ((k : Int)))]) (fun (vcx : Nat) => match vcx with | k => []) (fun (vcx : Nat) => match vcx with | k => k ≤ n) (fun (vcx : Nat) => match vcx with | k => n - k) 0 (Nat.zero_le _) (by kernel_rfl) (by kernel_rfl) ?_)
  rintro k hinv
  simp only at hinv
  refine vc_seq (vc_seqr rfl (iQ 2 (iB .lss 3 (.int .i64 ((k : Int))) (.int .i64 ((n : Int))) (some 9) ?_)))
  intro c9 hc9
  refine iE 20 [(0, .d (.sl (nd (a)) (dg (digs (a))))), (1, Ia ((n : Int))), (4, .w (.sl 0 []) none), (5, .w (.sl ((List.replicate k 0).length) (dg (List.replicate k 0))) (some ⟨5, 0, 3, 1⟩)), (6, Ia ((k : Int))), (9, Ba c9)] [] ?_
  cases c9
  · replace hc9 := bf hc9
    have hkn : k = n := by omega
    refine iF (vc_exit (seq_x (loop_x (block_x rfl (seq_n (vc_seqr rfl (iQ 2 (vcI_app (n := ((List.replicate k 0).length)) (cs := (dg (List.replicate k 0))) (m := (nd (a))) (ds := (dg (digs (a)))) (N := ((List.replicate k 0 ++ digs a).length)) (es := (dg (List.replicate k 0 ++ digs a))) (j := 5) (e := 3) (z := 1) (dst := (some 17)) (by kernel_rfl) (by first | rfl | omega | (rw [Nat.mul_one]; exact dg_len _) | (simp [dg]; done) | (simp [dg]; omega)) (by first | rfl | omega | (rw [Nat.mul_one]; exact dg_len _) | (simp [dg]; done) | (simp [dg]; omega)) (by first | rfl | exact allOne_dg _ | simp [dg, allOne]) (by simp; omega) (by simp [nd]) (by rw [dg_append]) ?_))))))))
    refine iQ 1 (iE 20 [(1, Ia ((n : Int))), (4, .w (.sl 0 []) none), (5, .w (.sl ((List.replicate k 0 ++ digs a).length) (dg (List.replicate k 0 ++ digs a))) (some ⟨5, 0, 3, 1⟩)), (6, Ia ((k : Int))), (9, Ba false)] [] ?_)
    refine vc_seqr rfl (iQ 1 (iC 58 [.sl ((List.replicate k 0 ++ digs a).length) (dg (List.replicate k 0 ++ digs a))] (some 19) (c_TrimD (shift_lt k a) (by rw [List.length_append, ← nd_def]; simp; omega)) ?_))
    rintro _ rfl
    refine iQ 1 (iE 20 [(1, Ia ((n : Int))), (4, .d (.sl (nd (dval (List.replicate k 0 ++ digs a))) (dg (digs (dval (List.replicate k 0 ++ digs a)))))), (5, .w (.sl ((List.replicate k 0 ++ digs a).length) (dg (List.replicate k 0 ++ digs a))) (some ⟨5, 0, 3, 1⟩)), (6, Ia ((k : Int))), (9, Ba false)] [] ?_)
    refine vc_ret (iR (.sl (nd (dval (List.replicate k 0 ++ digs a))) (dg (digs (dval (List.replicate k 0 ++ digs a))))) ?_)
    rw [dval_append, dval_zeros, dval_digs, List.length_replicate, hkn, Nat.zero_add, Nat.mul_comm]
  · replace hc9 := bt hc9
    refine iT (vc_skip (seq_n (vc_seq (vc_block (vc_reg rfl (iQ 2 (vcI_app (n := ((List.replicate k 0).length)) (cs := (dg (List.replicate k 0))) (m := 1) (ds := [.v (.int .i64 0)]) (N := ((List.replicate (k + 1) 0).length)) (es := (dg (List.replicate (k + 1) 0))) (j := 5) (e := 3) (z := 1) (dst := (some 14)) (by kernel_rfl) (by first | rfl | omega | (rw [Nat.mul_one]; exact dg_len _) | (simp [dg]; done) | (simp [dg]; omega)) (by first | rfl | omega | (rw [Nat.mul_one]; exact dg_len _) | (simp [dg]; done) | (simp [dg]; omega)) (rfl) (by simp; omega) (by simp) (by simp [dg, List.replicate_succ']) ?_)))))))
    refine iQ 1 (iE 20 [(0, .d (.sl (nd (a)) (dg (digs (a))))), (1, Ia ((n : Int))), (4, .w (.sl 0 []) none), (5, .w (.sl ((List.replicate (k + 1) 0).length) (dg (List.replicate (k + 1) 0))) (some ⟨5, 0, 3, 1⟩)), (6, Ia ((k : Int))), (9, Ba true)] [] ?_)
    refine block_n (seq_n (vc_reg rfl (iQ 1 (iB .add 3 (.int .i64 ((k : Int))) (.int .i64 1) (some 11) ?_))))
    intro z11 hz11
    try replace hz11 := hz11.i64 (by omega)
    refine iQ 1 (iE 20 [(0, .d (.sl (nd (a)) (dg (digs (a))))), (1, Ia ((n : Int))), (4, .w (.sl 0 []) none), (5, .w (.sl ((List.replicate (k + 1) 0).length) (dg (List.replicate (k + 1) 0))) (some ⟨5, 0, 3, 1⟩)), (6, Ia z11), (9, Ba true)] [] ?_)
    obtain rfl : z11 = ((k + 1 : Nat) : Int) := by omega
    refine loop_n (k + 1) (by show k + 1 ≤ n; omega) (by show n - (k + 1) < n - k; omega) (by kernel_rfl) (by kernel_rfl)

theorem mul_digit (b : Nat) {k : Nat} (hk : 1 ≤ k) : b / 10 ^ (k - 1) = b / 10 ^ k * 10 + dig b (k - 1) := by
  obtain ⟨j, rfl⟩ : ∃ j, k = j + 1 := ⟨k - 1, by omega⟩
  have := dig_step b j
  simp only [Nat.add_sub_cancel]
  omega

def dw (ws : List Int) : List DV := ws.map fun w => .v (.int .u64 w)
theorem dw_get {ws : List Int} {i : Nat} (h : i < ws.length) : (dw ws)[i]? = some (.v (.int .u64 ws[i])) := by simp [dw, h]

theorem words_hi {x z w : Int} (h1 : ShrIs .u64 x 32 z) (h2 : IntIs .i64 z w) (h0 : 0 ≤ x) (hx : x < 18446744073709551616) : ∃ q : Nat, w = (q : Int) ∧ q = x.toNat / 4294967296 := by
  have e : z = x / 4294967296 := by
    have h1' : z = x.fdiv (2 ^ (min (32 : Int).toNat IntKind.u64.bits)) := h1
    have e1 : ((2 : Int) ^ (min (32 : Int).toNat IntKind.u64.bits)) = 4294967296 := by decide
    rw [h1', e1, Int.fdiv_eq_ediv_of_nonneg _ (by decide)]
  have := h2.i64 (by omega)
  exact ⟨x.toNat / 4294967296, by omega, rfl⟩
theorem words_lo {x z w : Int} (h1 : z = x.tmod 4294967296) (h2 : IntIs .i64 z w) (h0 : 0 ≤ x) (hx : x < 18446744073709551616) : ∃ r : Nat, w = (r : Int) ∧ r = x.toNat % 4294967296 := by
  have e : z = x % 4294967296 := by rw [h1, Int.tmod_eq_emod_of_nonneg h0]
  have := h2.i64 (by omega)
  exact ⟨x.toNat % 4294967296, by omega, rfl⟩
theorem words_nd {m : Nat} (h : nd m ≤ 2000) : nd (m * 10 ^ 10 + 10 ^ 10) ≤ 900000 := by
  have h1 := lt_nd m
  have h2 : m * 10 ^ 10 + 10 ^ 10 ≤ 10 ^ nd m * 10 ^ 10 := by
    rw [← Nat.add_one_mul]
    exact Nat.mul_le_mul_right _ h1
  refine Nat.le_trans (nd_mono h2) (Nat.le_trans (nd_mul _ _) ?_)
  have h3 : nd (10 ^ nd m) ≤ nd m + 1 := nd_le _ _ (Nat.pow_lt_pow_right (by decide) (by omega))
  have h4 : nd (10 ^ 10) ≤ 11 := nd_le _ _ (by decide)
  omega

theorem c_Words {ws : List Int} (h0 : ∀ x ∈ ws, 0 ≤ x) (h1 : ∀ x ∈ ws, x < 18446744073709551616) (hl : ws.length ≤ 100) : HasC Tryz.prog 61 [.sl ws.length (dw ws)] (fun y => y = .sl (nd (wval ws)) (dg (digs (wval ws)))) := by
  refine HasC.of [] (fn := Tryz.f61) tyOk mixed (fun args w => Tryz.call61 args w) Tryz.func61 rfl (by kernel_rfl) (Nat.le_of_ble_eq_true rfl) (⟨_, rfl⟩) ?_
  refine vc_seqr rfl (iQ 1 (iE 28 [(0, .d (.sl ws.length (dw ws))), (2, .w (.sl 0 []) none)] [] ?_))
  refine vc_seqr rfl (iQ 1 (iE 28 [(0, .d (.sl ws.length (dw ws))), (2, .w (.sl 0 []) none), (3, .w (.sl 0 []) none)] [] ?_))
  refine vc_seq (vc_seqr rfl (iQ 1 (iE 28 [(0, .d (.sl ws.length (dw ws))), (2, .w (.sl 0 []) none), (3, .w (.sl 0 []) none), (4, Ia 0)] [] ?_)))
  refine vc_cast (s' := mkS 28 [(0, .d (.sl ws.length (dw ws))), (2, .w (.sl 0 []) none), (3, .w (.sl (nd (0)) (dg (digs (0)))) none), (4, Ia 0)] []) (by rw [show (.sl (nd (0)) (dg (digs (0))) : DV) = .sl 0 [] from dn_zero]) ?_
  refine vc_block (vc_loop 28 (fun (vcx : Nat × Nat) => match vcx with | (k, m) => [(0, .d (.sl ws.length (dw ws))), (2, .w (.sl 0 []) none), (3, .d (.sl (nd (m)) (dg (digs (m))))), (4, Ia ((k : Int)))]) (fun (vcx : Nat × Nat) => match vcx with | (k, m) => []) (fun (vcx : Nat × Nat) => match vcx with | (k, m) => k ≤ ws.length ∧ m = wval (ws.take k)) (fun (vcx : Nat × Nat) => match vcx with | (k, m) => ws.length - k) ((0, 0)) (⟨by omega, by simp [wval_nil]⟩) (by kernel_rfl) (by kernel_rfl) ?_)
  rintro ⟨k, m⟩ hinv
  simp only at hinv
  obtain ⟨hk, hm⟩ := hinv
  refine vc_seq (vc_seqr rfl (iQ 3 (iB .lss 3 (.int .i64 ((k : Int))) (.int .i64 (((ws.length : Nat) : Int))) (some 8) ?_)))
  intro c8 hc8
  refine iE 28 [(0, .d (.sl ws.length (dw ws))), (2, .w (.sl 0 []) none), (3, .d (.sl (nd (m)) (dg (digs (m))))), (4, Ia ((k : Int))), (8, Ba c8)] [] ?_
  cases c8
  · replace hc8 := bf hc8
    have hkl : k = ws.length := by omega
    refine iF (vc_exit (seq_x (loop_x (block_x rfl (seq_n (vc_seqr rfl (iQ 2 (iE 28 [(0, .d (.sl ws.length (dw ws))), (2, .d (.sl (nd (m)) (dg (digs (m))))), (3, .d (.sl (nd (m)) (dg (digs (m))))), (4, Ia ((k : Int))), (8, Ba false)] [] ?_))))))))
    refine vc_ret (iR (.sl (nd (m)) (dg (digs (m)))) ?_)
    rw [hm, hkl, List.take_length]
  · replace hc8 := bt hc8
    have hlt : k < ws.length := by omega
    have hx0 := h0 _ (List.getElem_mem hlt); have hx1 := h1 _ (List.getElem_mem hlt)
    have hmb : nd m ≤ 20 * ws.length := by rw [hm]; exact nd_le _ _ (Nat.lt_of_lt_of_le (wval_lt _ fun x hx => h1 x (List.mem_of_mem_take hx)) (Nat.pow_le_pow_right (by decide) (by rw [List.length_take]; omega)))
    refine iT (vc_skip (seq_n (vc_seq (vc_block (vc_seqr rfl (iQ 3 (vcI_idx1 (q := ((k : Int))) (n := ws.length) (cs := (dw ws)) (d := .v (.int .u64 (ws[k]))) (dst := (some 14)) (by kernel_rfl) (by omega) (by rw [Int.toNat_natCast]; exact dw_get hlt) ?_)))))))
    refine iQ 1 (iB .shr 23 (.int .u64 (ws[k])) (.int .u64 32) (some 16) ?_)
    refine And.intro (by omega) ?_
    intro z16 hz16
    refine iV 23 3 (.int .u64 z16) (some 17) ?_
    intro z17 hz17
    try replace hz17 := hz17.i64 (by omega)
    obtain ⟨q, hq⟩ : ∃ q : Nat, z17 = (q : Int) ∧ q = ws[k].toNat / 4294967296 := words_hi hz16 hz17 hx0 hx1
    refine iC 84 [.sl (nd (m)) (dg (digs (m))), Iv 4294967296, Iv z17] (some 18) (c_SmallI (n := m) (x := 4294967296) (add := q) rfl hq.1 (by omega) (by omega) (by omega)) ?_
    rintro _ rfl
    refine iQ 1 (iE 28 [(0, .d (.sl ws.length (dw ws))), (2, .w (.sl 0 []) none), (3, .d (.sl (nd (m * 4294967296 + q)) (dg (digs (m * 4294967296 + q))))), (4, Ia ((k : Int))), (8, Ba true)] [] ?_)
    refine vc_reg rfl (iQ 3 (vcI_idx1 (q := ((k : Int))) (n := ws.length) (cs := (dw ws)) (d := .v (.int .u64 (ws[k]))) (dst := (some 22)) (by kernel_rfl) (by omega) (by rw [Int.toNat_natCast]; exact dw_get hlt) ?_))
    refine iQ 1 (iB .rem 23 (.int .u64 (ws[k])) (.int .u64 4294967296) (some 24) ?_)
    refine And.intro (by omega) ?_
    intro z24 hz24
    refine iV 23 3 (.int .u64 z24) (some 25) ?_
    intro z25 hz25
    try replace hz25 := hz25.i64 (by omega)
    obtain ⟨r, hr⟩ : ∃ r : Nat, z25 = (r : Int) ∧ r = ws[k].toNat % 4294967296 := words_lo hz24 hz25 hx0 hx1
    refine iC 84 [.sl (nd (m * 4294967296 + q)) (dg (digs (m * 4294967296 + q))), Iv 4294967296, Iv z25] (some 26) (c_SmallI (n := m * 4294967296 + q) (x := 4294967296) (add := r) rfl hr.1 (by omega) (by omega) (by exact Nat.le_trans (nd_mono (show m * 4294967296 + q ≤ m * 10 ^ 10 + 10 ^ 10 by omega)) (words_nd (by omega)))) ?_
    rintro _ rfl
    refine iQ 1 (iE 28 [(0, .d (.sl ws.length (dw ws))), (2, .w (.sl 0 []) none), (3, .d (.sl (nd ((m * 4294967296 + q) * 4294967296 + r)) (dg (digs ((m * 4294967296 + q) * 4294967296 + r))))), (4, Ia ((k : Int))), (8, Ba true)] [] ?_)
    refine block_n (seq_n (vc_reg rfl (iQ 1 (iB .add 3 (.int .i64 ((k : Int))) (.int .i64 1) (some 10) ?_))))
    intro z10 hz10
    try replace hz10 := hz10.i64 (by omega)
    refine iQ 1 (iE 28 [(0, .d (.sl ws.length (dw ws))), (2, .w (.sl 0 []) none), (3, .d (.sl (nd ((m * 4294967296 + q) * 4294967296 + r)) (dg (digs ((m * 4294967296 + q) * 4294967296 + r))))), (4, Ia z10), (8, Ba true)] [] ?_)
    obtain rfl : z10 = ((k + 1 : Nat) : Int) := by omega
    refine loop_n (k + 1, (m * 4294967296 + q) * 4294967296 + r) (⟨by omega, by rw [List.take_succ_eq_append_getElem hlt, wval_snoc, ← hm]; omega⟩) (by show ws.length - (k + 1) < ws.length - k; omega) (by kernel_rfl) (by kernel_rfl)

end Go.Proofs.YtbabmopplnbmdaaGreatDoor
