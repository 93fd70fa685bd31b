/-
  strings.Split, strings.Cut, strings.Count at a sign of one byte: the kit's contracts, as what reads so. lexical: what is read of a text, of days, times and moments; LexicalReads. lexical: what is read of a text, of times and moments; LexicalReads.
-/
import Derived.Test.YtpambeengdhhmaaGreatDoorLayZ
import Derived.Test.YtpambeengdhhmaaGreatDoorIto
import Derived.Lib.SplitLaws
import Derived.Lib.CutLaws
import Derived.Sort.Grow
import Derived.Test.YtpambeengdhhmaaGreatDoorLexW
namespace Go.Proofs.YtpambeengdhhmaaGreatDoor

open Go.Shelf Go.RowKit
set_option linter.unusedVariables false
set_option linter.unusedSimpArgs false
set_option maxRecDepth 100000

theorem Kw.maxLen {w : World} (h : Kw w) : ∃ m, w.cell? ⟨2, 0, none⟩ = some (.int .i64 m) := by
  rcases h.mx with h | ⟨cs, h1, m, rfl⟩
  · have h2 : (Tryz.prog.globalNamed "internal/bytealg.MaxLen").isSome = true := by kernel_rfl
    rw [h] at h2
    cases h2
  · have := World.var?_cell (show Tryz.prog.globalNamed "internal/bytealg.MaxLen" = some 2 by kernel_rfl) h1 0
    exact ⟨m, by rw [this]; rfl⟩
theorem relL_args {Im : Nat → Nat → Prop} {W : World} {ds : List DV} {vs : List Value} {us : Array Value} (hb : ds.map DV.base = vs.map some) (hr : DV.relL Im W ds us.toList) : us = vs.toArray := by
  apply Array.ext'
  have hl := DV.relL_length hr
  have hl2 : ds.length = vs.length := by have := congrArg List.length hb; simpa using this
  apply List.ext_getElem?
  intro i
  by_cases hi : i < ds.length
  · obtain ⟨y, hy, hry⟩ := DV.relL_get hr (show ds[i]? = some ds[i] by simp [hi])
    have hbi : (ds.map DV.base)[i]? = (vs.map some)[i]? := by rw [hb]
    simp [hi, show i < vs.length by omega] at hbi
    rw [hy, DV.base_rel hbi hry]
    simp [show i < vs.length by omega]
  · rw [List.getElem?_eq_none (by omega), List.getElem?_eq_none (by simp; omega)]

-- joined
def joinL (c : UInt8) : List L8 → L8
  | [] => []
  | [p] => p
  | p :: q :: r => p ++ c :: joinL c (q :: r)
def strsD (ps : List L8) : List DV := ps.map fun p => .v (.string (tx p))
@[simp] theorem strsD_len (ps : List L8) : (strsD ps).length = ps.length := by simp [strsD]
theorem strs_get {ps : List L8} {i : Nat} {p : L8} (h : ps[i]? = some p) : (strsD ps)[((i : Nat) : Int).toNat]? = some (.v (.string (tx p))) := by simp [strsD, h]
theorem one_at {s : ByteArray} {c : UInt8} {i : Nat} (h : Lib.indexB s (tx [c]) = i) : i < s.size ∧ s.data.toList[i]? = some c := by
  have h1 : Lib.index s.data.toList [c] = (i : Int) := h
  rcases Lib.index_spec s.data.toList [c] with ⟨h2, _⟩ | ⟨j, h2, h3, h4, _⟩
  · rw [h2] at h1; omega
  · obtain rfl : j = i := by omega
    have h5 : (s.data.toList.drop j).head? = some c := by
      unfold Lib.occAt at h4
      cases hd : s.data.toList.drop j with
      | nil => rw [hd] at h4; cases h4
      | cons a r =>
        rw [hd] at h4
        simp at h4
        rw [h4]
        rfl
    rw [List.head?_drop] at h5
    refine ⟨?_, h5⟩
    have := (List.getElem?_eq_some_iff.1 h5).1
    simpa using this
theorem cut_at {l : L8} {c : UInt8} {i : Nat} (h : l[i]? = some c) : l = l.take i ++ c :: l.drop (i + 1) := by
  obtain ⟨h1, h2⟩ := List.getElem?_eq_some_iff.1 h
  rw [← h2, ← List.drop_eq_getElem_cons h1, List.take_append_drop]
theorem ext_list (s : ByteArray) (a b : Nat) : (s.extract a b).data.toList = (s.data.toList.drop a).take (b - a) := by
  have h := tx_extract s.data.toList a b
  rw [← tx_eta] at h
  rw [h]
  rfl
theorem split_join (c : UInt8) : ∀ (k : Nat) (s : ByteArray), (Lib.splitB (tx [c]) 0 k s) ≠ [] ∧ joinL c ((Lib.splitB (tx [c]) 0 k s).map fun b => b.data.toList) = s.data.toList
  | 0, s => by simp [Lib.splitB_zero, joinL]
  | k + 1, s => by
    rcases Lib.indexB_cases s (tx [c]) with h | ⟨i, h, _⟩
    · rw [Lib.splitB_miss _ _ _ _ h]
      simp [joinL]
    · rw [Lib.splitB_hit _ _ _ _ i h]
      obtain ⟨h1, h2⟩ := one_at h
      obtain ⟨q1, q2⟩ := split_join c k (s.extract (i + (tx [c]).size) s.size)
      refine ⟨by simp, ?_⟩
      cases hr : Lib.splitB (tx [c]) 0 k (s.extract (i + (tx [c]).size) s.size) with
      | nil => exact absurd hr q1
      | cons a r =>
        rw [hr] at q2
        simp only [List.map_cons, joinL] at q2 ⊢
        rw [q2]
        have e1 : (s.extract 0 (i + 0)).data.toList = s.data.toList.take i := by rw [ext_list]; rfl
        have e2 : (s.extract (i + (tx [c]).size) s.size).data.toList = s.data.toList.drop (i + 1) := by
          rw [ext_list, tx_size, List.length_singleton]
          exact List.take_of_length_le (by rw [List.length_drop, Array.length_toList]; exact Nat.le_refl _)
        rw [e1, e2]
        exact (cut_at h2).symm
theorem strs_cell (W : World) (bs : List ByteArray) (t : TypeId) {i : Nat} (h : i < bs.length) : (W.alloc (.cells (bs.map Value.string).toArray t)).cell? ⟨W.heap.size, i, none⟩ = some (.string bs[i]) := by
  rw [World.cell?_alloc_new, List.getElem?_toArray, List.getElem?_map, List.getElem?_eq_getElem h]
  rfl
def SpP (c : UInt8) (l : L8) (r : DV) : Prop := ∃ ps : List L8, r = .sl ps.length (strsD ps) ∧ joinL c ps = l ∧ ps.length ≤ 4294967300
theorem c_Split {l : L8} {c : UInt8} (hl : l.length < 4294967281) : HasC Tryz.prog 151 [.v (.string (tx l)), .v (.string (tx [c]))] (SpP c l) := by
  refine ⟨fun args w => Tryz.call151 args w, ⟨_, [l], rfl, rfl, by rw [List.length_singleton]; omega⟩, fun W vs Im hK hIm hr => ?_⟩
  obtain rfl := relL_args (vs := [.string (tx l), .string (tx [c])]) rfl hr
  obtain ⟨m, hm⟩ := hK.maxLen
  have hs : (tx l).size < 4294967281 := by rw [tx_size]; exact hl
  have h1 : 1 ≤ (tx [c]).size := by rw [tx_size]; exact Nat.le_refl _
  have hlen := Lib.splitB_all (tx [c]) h1 0 _ (tx l) rfl
  have hcl := Lib.countB_le (tx [c]) h1 (tx l).size (tx l) (Nat.le_refl _)
  obtain ⟨j1, j2⟩ := split_join c (Lib.countB (tx l) (tx [c])) (tx l)
  refine (Any.strings_Split laysSplit (by kernel_rfl) (tx l) (tx [c]) m W hs hm h1).mono fun e w' ⟨he, hw⟩ => ?_
  obtain ⟨bs, hbs⟩ : ∃ bs, bs = Lib.splitB (tx [c]) 0 (Lib.countB (tx l) (tx [c])) (tx l) := ⟨_, rfl⟩
  rw [← hbs] at hlen j1 j2 hw
  rw [← hlen] at he
  subst hw
  have hB : Below W.heap.size W (W.alloc (.cells (bs.map Value.string).toArray (laysSplit_ren.t 9))) := (Below.refl _ _).alloc (Nat.le_refl _) _
  have hbl : bs.length ≤ 4294967281 := by omega
  refine ⟨_, .sl bs.length (strsD (bs.map fun b => b.data.toList)), he, ⟨bs.map fun b => b.data.toList, by rw [List.length_map], j2, by rw [List.length_map]; omega⟩, ?_, hB⟩
  rw [DV.rel]
  refine .inr ⟨_, _, _, rfl, Nat.le_refl _, Nat.le_trans hbl (by decide), DV.relC_mk fun i d hd => ?_⟩
  obtain ⟨hi, he⟩ := List.getElem?_eq_some_iff.1 hd
  have hib : i < bs.length := by rw [strsD_len, List.length_map] at hi; exact hi
  refine ⟨.inr ⟨Nat.le_refl _, by rw [World.alloc, Array.size_push]; exact Nat.lt_succ_self _⟩, .string bs[i], ?_, ?_⟩
  · rw [Nat.zero_add]
    exact strs_cell W bs _ hib
  · rw [← he]
    simp only [strsD, List.getElem_map]
    rw [DV.rel, ← tx_eta]
/-- What Cut tells. -/
def CutP (c : UInt8) (l : L8) (r : DV) : Prop := ∃ (a b : L8) (g : Bool), r = .tup [.v (.string (tx a)), .v (.string (tx b)), .v (.bool g)] ∧ (g = true → l = a ++ c :: b) ∧ a.length ≤ l.length ∧ b.length ≤ l.length
theorem c_sCut {l : L8} {c : UInt8} (hl : l.length < 4294967281) : HasC Tryz.prog 53 [.v (.string (tx l)), .v (.string (tx [c]))] (CutP c l) :=
  (HasC.ofCallsK (vs := [.string (tx l), .string (tx [c])]) (R := fun r => ∃ (a b : L8) (g : Bool), r = .tuple #[.string (tx a), .string (tx b), .bool g] ∧ (g = true → l = a ++ c :: b) ∧ a.length ≤ l.length ∧ b.length ≤ l.length) (fun args w => Tryz.call53 args w)
    ⟨_, l, [], false, rfl, (fun h => by cases h), Nat.le_refl _, by simp⟩ rfl fun w hk => by
      obtain ⟨m, hm⟩ := hk.maxLen
      have hs : (tx l).size < 4294967281 := by rw [tx_size]; exact hl
      refine (Any.strings_Cut laysCut (tx l) (tx [c]) m w hs hm).mono fun e w' ⟨he, n, hw⟩ => ⟨_, he, ⟨(Lib.cut l [c]).1, (Lib.cut l [c]).2.1, (Lib.cut l [c]).2.2, rfl, ?_, ?_, ?_⟩, by rw [hw]; exact grow_below w n #[]⟩
      · unfold Lib.cut
        split
        · rename_i h
          intro _
          have h1 : Lib.indexB (tx l) (tx [c]) = ((Lib.index l [c]).toNat : Int) := by
            show Lib.index l [c] = _
            omega
          exact cut_at (one_at h1).2
        · intro h; cases h
      · unfold Lib.cut
        split
        · simp; omega
        · simp
      · unfold Lib.cut
        split
        · simp
        · simp).mono fun y ⟨r, ⟨a, b, g, hr, h1, h2, h3⟩, hy⟩ => ⟨a, b, g, by rw [hy, hr]; rfl, h1, h2, h3⟩
theorem c_Count {l : L8} {c : UInt8} (hl : l.length < 4294967281) : HasC Tryz.prog 158 [.v (.string (tx l)), .v (.string (tx [c]))] (fun y => ∃ n : Nat, y = .v (.int .i64 (n : Int)) ∧ n ≤ l.length) :=
  (HasC.ofCallsK (vs := [.string (tx l), .string (tx [c])]) (R := fun r => ∃ n : Nat, r = .int .i64 (n : Int) ∧ n ≤ l.length) (fun args w => Tryz.call158 args w) ⟨_, 0, rfl, Nat.zero_le _⟩ rfl fun w hk =>
    (Any.strings_Count_one laysCount (tx l) c w).mono fun e w' ⟨he, hw⟩ => ⟨_, he, ⟨Lib.countByte l c, rfl, List.count_le_length⟩, by rw [hw]; exact Below.refl _ _⟩).mono fun y ⟨r, ⟨n, hr, h⟩, hy⟩ => ⟨n, by rw [hy, hr]; rfl, h⟩


open Go.RowKit
set_option linter.unusedVariables false
set_option linter.unusedSimpArgs false
set_option maxRecDepth 100000

theorem join3 {ps : List L8} {c : UInt8} {l : L8} (h : joinL c ps = l) (h3 : ps.length = 3) : ∃ a b d, ps = [a, b, d] ∧ l = a ++ c :: (b ++ c :: d) := by
  match ps, h3 with
  | [a, b, d], _ => exact ⟨a, b, d, rfl, h.symm⟩
theorem numS_lt {lo hi n : Nat} {l : L8} {g : Bool} (h : g = true ∧ numS lo hi l = some n ∨ g = false ∧ numS lo hi l = none ∧ n = 0) : n < 10 ^ hi := by
  rcases h with ⟨_, h⟩ | ⟨_, _, rfl⟩
  · unfold numS at h
    split at h
    · rename_i hc
      cases h
      exact nvL_lt hc.2.2 hc.2.1
    · cases h
  · exact Nat.pow_pos (by decide)
def DateP (l : L8) (r : DV) : Prop := ∃ (y m d : Int) (ok : Bool), r = .tup [.agg [.v (.int .i64 y), .v (.int .i64 m), .v (.int .i64 d)], .v (.bool ok)] ∧ (ok = true ∧ mayD y m d ∧ l = dateL y m d ∨ ok = false ∧ y = 0 ∧ m = 0 ∧ d = 0)
theorem DateP_no (l : L8) : DateP l (.tup [.agg [.v (.int .i64 0), .v (.int .i64 0), .v (.int .i64 0)], .v (.bool false)]) := ⟨0, 0, 0, false, rfl, .inr ⟨rfl, rfl, rfl, rfl⟩⟩
theorem dateT_eq {y m d : Int} {l : L8} (h : tx (dateT y m d) = tx l) (h0 : l ≠ []) : mayD y m d ∧ l = dateL y m d := by
  have h1 := tx_inj h
  unfold dateT at h1
  split at h1
  · rename_i hm
    exact ⟨hm, h1.symm⟩
  · exact absurd h1.symm h0
theorem DateP_yes {y m d : Int} {l : L8} (h : tx (dateT y m d) = tx l) (h0 : l ≠ []) : DateP l (.tup [.agg [.v (.int .i64 y), .v (.int .i64 m), .v (.int .i64 d)], .v (.bool true)]) := ⟨y, m, d, true, rfl, .inl ⟨rfl, dateT_eq h h0⟩⟩

theorem c_ReadDate {l : L8} (hL : l.length < 4294967281) : HasC Tryz.prog 108 [.v (.string (tx l))] (DateP l) := by
 refine HasC.of [] (fn := Tryz.f108) tyOk mixed (fun args w => Tryz.call108 args w) Tryz.func108 rfl (by kernel_rfl) (Nat.le_of_ble_eq_true rfl) (⟨_, DateP_no l⟩) ?_
 refine vc_seqr rfl (iQ 2 (iE 67 [(0, .d (Sv (tx l))), (2, .p 2 0), (3, Ba false)] [(2, [Iv 0, Iv 0, Iv 0])] ?_))
 refine vc_seqr rfl (iQ 1 (iC 55 [Sv (tx l), Sv (⟨#[45]⟩)] (some 13) (c_trimM) ?_))
 rintro _ rfl
 have hul := (uns_len l).1
 refine iC 151 [Sv (tx (unsS l).1), Sv (⟨#[45]⟩)] (some 14) (c_Split (c := 45) (by omega)) ?_
 rintro _ ⟨ps, rfl, hj, hpl⟩
 refine iQ 1 (iE 67 [(0, .d (Sv (tx l))), (2, .p 2 0), (3, Ba false), (4, .d (.sl ps.length (strsD ps)))] [(2, [Iv 0, Iv 0, Iv 0])] ?_)
 refine vc_seq (vc_seqr rfl (iQ 2 (iB .neq 3 (.int .i64 (((ps.length : Nat) : Int))) (.int .i64 3) (some 17) ?_)))
 intro c17 hc17
 refine iE 67 [(0, .d (Sv (tx l))), (2, .p 2 0), (3, Ba false), (4, .d (.sl ps.length (strsD ps))), (17, Ba c17)] [(2, [Iv 0, Iv 0, Iv 0])] ?_
 cases c17
 ·replace hc17 := bf hc17
  obtain ⟨p0, p1, p2, hps, hl3⟩ := join3 hj (by omega)
  have h0 : l ≠ [] := fun e => by have h9 := congrArg List.length hl3; rw [e] at hul; simp only [List.length_append, List.length_cons, List.length_nil] at h9 hul; rw [e] at h9; omega
  have h00 : 0 < l.length := List.length_pos_iff.2 h0
  refine iF (vc_skip (seq_n (vc_seqr rfl (iQ 1 (vcI_idx1 (q := 0) (n := ps.length) (cs := (strsD ps)) (d := .v (.string (tx p0))) (dst := (some 21)) (by kernel_rfl) (by omega) (strs_get (i := 0) (by rw [hps]; rfl)) ?_)))))
  refine iQ 1 (iC 152 [Sv (tx p0), Iv 4, Iv 9] (some 23) (c_number (l := p0) (lo := 4) (hi := 9) (by decide)) ?_)
  rintro _ ⟨y, g1, rfl, h1⟩
  have hy := numS_lt h1
  refine iQ 5 (iE 67 [(0, .d (Sv (tx l))), (2, .p 2 0), (3, Ba false), (4, .d (.sl ps.length (strsD ps))), (5, Ia ((y : Int))), (6, Ba g1), (17, Ba false)] [(2, [Iv 0, Iv 0, Iv 0])] ?_)
  refine vc_seqr rfl (iQ 1 (vcI_idx1 (q := 1) (n := ps.length) (cs := (strsD ps)) (d := .v (.string (tx p1))) (dst := (some 28)) (by kernel_rfl) (by omega) (strs_get (i := 1) (by rw [hps]; rfl)) ?_))
  refine iQ 1 (iC 152 [Sv (tx p1), Iv 2, Iv 2] (some 30) (c_number (l := p1) (lo := 2) (hi := 2) (by decide)) ?_)
  rintro _ ⟨m, g2, rfl, h2⟩
  refine iQ 5 (iE 67 [(0, .d (Sv (tx l))), (2, .p 2 0), (3, Ba false), (4, .d (.sl ps.length (strsD ps))), (5, Ia ((y : Int))), (6, Ba g1), (7, Ia ((m : Int))), (8, Ba g2), (17, Ba false)] [(2, [Iv 0, Iv 0, Iv 0])] ?_)
  refine vc_seqr rfl (iQ 1 (vcI_idx1 (q := 2) (n := ps.length) (cs := (strsD ps)) (d := .v (.string (tx p2))) (dst := (some 35)) (by kernel_rfl) (by omega) (strs_get (i := 2) (by rw [hps]; rfl)) ?_))
  refine iQ 1 (iC 152 [Sv (tx p2), Iv 2, Iv 2] (some 37) (c_number (l := p2) (lo := 2) (hi := 2) (by decide)) ?_)
  rintro _ ⟨d, g3, rfl, h3⟩
  refine iQ 5 (iE 67 [(0, .d (Sv (tx l))), (2, .p 2 0), (3, Ba false), (4, .d (.sl ps.length (strsD ps))), (5, Ia ((y : Int))), (6, Ba g1), (7, Ia ((m : Int))), (8, Ba g2), (9, Ia ((d : Int))), (10, Ba g3), (17, Ba false)] [(2, [Iv 0, Iv 0, Iv 0])] ?_)
  refine vc_seq (vc_seqr rfl (iQ 1 (iX 9 (.string (tx l)) (.int .i64 0) (some 41) ?_)))
  refine And.intro (by rw [tx_size]; omega) ?_
  intro z41 hz41
  refine iB .eql 5 (.int .u8 z41) (.int .u8 45) (some 42) ?_
  intro c42 hc42
  refine iE 67 [(0, .d (Sv (tx l))), (2, .p 2 0), (3, Ba false), (4, .d (.sl ps.length (strsD ps))), (5, Ia ((y : Int))), (6, Ba g1), (7, Ia ((m : Int))), (8, Ba g2), (9, Ia ((d : Int))), (10, Ba g3), (17, Ba false), (42, Ba c42)] [(2, [Iv 0, Iv 0, Iv 0])] ?_
  cases c42
  ·replace hc42 := bf hc42
   refine iF (vc_skip (seq_n (vc_seqr rfl (iQ 6 (iE 67 [(0, .d (Sv (tx l))), (2, .p 2 0), (3, Ba false), (4, .d (.sl ps.length (strsD ps))), (5, Ia ((y : Int))), (6, Ba g1), (8, Ba g2), (10, Ba g3), (11, .p 11 0), (17, Ba false), (42, Ba false)] [(2, [Iv 0, Iv 0, Iv 0]), (11, [Iv ((y : Int)), Iv ((m : Int)), Iv ((d : Int))])] ?_)))))
   refine vc_seq (vc_seqr rfl (iQ 1 (iU .not (.bool g1) (some 50) ?_)))
   intro c50 hc50
   refine iQ 1 ?_
   cases c50
   ·replace hc50 := bf hc50
    refine iQ 1 (iU .not (.bool g2) (some 53) ?_)
    intro c53 hc53
    refine iQ 2 ?_
    cases c53
    ·replace hc53 := bf hc53
     refine iQ 1 (iU .not (.bool g3) (some 57) ?_)
     intro c57 hc57
     refine iQ 2 ?_
     cases c57
     ·replace hc57 := bf hc57
      refine iQ 1 (iC 153 [.agg [Iv ((y : Int)), Iv ((m : Int)), Iv ((d : Int))]] (some 61) (c_lexDate) ?_)
      rintro _ rfl
      refine iQ 1 (iB .neq 9 (.string (tx (dateT (y:Int) (m : Int) (d : Int)))) (.string (tx l)) (some 63) ?_)
      intro c63 hc63
      refine iQ 1 (iE 67 [(0, .d (Sv (tx l))), (2, .p 2 0), (3, Ba false), (4, .d (.sl ps.length (strsD ps))), (5, Ia ((y : Int))), (11, .p 11 0), (17, Ba false), (42, Ba false), (64, Ba c63)] [(2, [Iv 0, Iv 0, Iv 0]), (11, [Iv ((y : Int)), Iv ((m : Int)), Iv ((d : Int))])] ?_)
      cases c63
      ·replace hc63 := bf hc63
       refine iF (vc_skip (seq_n (vc_seqr rfl (iQ 3 (iE 67 [(0, .d (Sv (tx l))), (2, .p 2 0), (3, Ba true), (4, .d (.sl ps.length (strsD ps))), (5, Ia ((y : Int))), (11, .p 11 0), (17, Ba false), (42, Ba false), (64, Ba false)] [(2, [Iv ((y : Int)), Iv ((m : Int)), Iv ((d : Int))]), (11, [Iv ((y : Int)), Iv ((m : Int)), Iv ((d : Int))])] ?_)))))
       refine vc_ret (iS (.agg [Iv ((y : Int)), Iv ((m : Int)), Iv ((d : Int))]) (Bv true) [] ?_)
       exact DateP_yes (Classical.not_not.1 hc63) h0
      ·replace hc63 := bt hc63
       refine iT (vc_seqr rfl (iQ 3 (iE 67 [(0, .d (Sv (tx l))), (2, .p 2 0), (3, Ba false), (4, .d (.sl ps.length (strsD ps))), (5, Ia ((y : Int))), (11, .p 11 0), (17, Ba false), (42, Ba false), (64, Ba true)] [(2, [Iv 0, Iv 0, Iv 0]), (11, [Iv ((y : Int)), Iv ((m : Int)), Iv ((d : Int))])] ?_)))
       refine vc_ret (seq_r (iS (.agg [Iv 0, Iv 0, Iv 0]) (Bv false) [] ?_))
       exact DateP_no l
     ·replace hc57 := bt hc57
      refine iQ 5 (iE 67 [(0, .d (Sv (tx l))), (2, .p 2 0), (3, Ba false), (4, .d (.sl ps.length (strsD ps))), (5, Ia ((y : Int))), (11, .p 11 0), (17, Ba false), (42, Ba false), (64, Ba true)] [(2, [Iv 0, Iv 0, Iv 0]), (11, [Iv ((y : Int)), Iv ((m : Int)), Iv ((d : Int))])] ?_)
      refine iT (vc_seqr rfl (iQ 3 (iE 67 [(0, .d (Sv (tx l))), (2, .p 2 0), (3, Ba false), (4, .d (.sl ps.length (strsD ps))), (5, Ia ((y : Int))), (11, .p 11 0), (17, Ba false), (42, Ba false), (64, Ba true)] [(2, [Iv 0, Iv 0, Iv 0]), (11, [Iv ((y : Int)), Iv ((m : Int)), Iv ((d : Int))])] ?_)))
      refine vc_ret (seq_r (iS (.agg [Iv 0, Iv 0, Iv 0]) (Bv false) [] ?_))
      exact DateP_no l
    ·replace hc53 := bt hc53
     refine iQ 9 (iE 67 [(0, .d (Sv (tx l))), (2, .p 2 0), (3, Ba false), (4, .d (.sl ps.length (strsD ps))), (5, Ia ((y : Int))), (11, .p 11 0), (17, Ba false), (42, Ba false), (64, Ba true)] [(2, [Iv 0, Iv 0, Iv 0]), (11, [Iv ((y : Int)), Iv ((m : Int)), Iv ((d : Int))])] ?_)
     refine iT (vc_seqr rfl (iQ 3 (iE 67 [(0, .d (Sv (tx l))), (2, .p 2 0), (3, Ba false), (4, .d (.sl ps.length (strsD ps))), (5, Ia ((y : Int))), (11, .p 11 0), (17, Ba false), (42, Ba false), (64, Ba true)] [(2, [Iv 0, Iv 0, Iv 0]), (11, [Iv ((y : Int)), Iv ((m : Int)), Iv ((d : Int))])] ?_)))
     refine vc_ret (seq_r (iS (.agg [Iv 0, Iv 0, Iv 0]) (Bv false) [] ?_))
     exact DateP_no l
   ·replace hc50 := bt hc50
    refine iQ 13 (iE 67 [(0, .d (Sv (tx l))), (2, .p 2 0), (3, Ba false), (4, .d (.sl ps.length (strsD ps))), (5, Ia ((y : Int))), (11, .p 11 0), (17, Ba false), (42, Ba false), (64, Ba true)] [(2, [Iv 0, Iv 0, Iv 0]), (11, [Iv ((y : Int)), Iv ((m : Int)), Iv ((d : Int))])] ?_)
    refine iT (vc_seqr rfl (iQ 3 (iE 67 [(0, .d (Sv (tx l))), (2, .p 2 0), (3, Ba false), (4, .d (.sl ps.length (strsD ps))), (5, Ia ((y : Int))), (11, .p 11 0), (17, Ba false), (42, Ba false), (64, Ba true)] [(2, [Iv 0, Iv 0, Iv 0]), (11, [Iv ((y : Int)), Iv ((m : Int)), Iv ((d : Int))])] ?_)))
    refine vc_ret (seq_r (iS (.agg [Iv 0, Iv 0, Iv 0]) (Bv false) [] ?_))
    exact DateP_no l
  ·replace hc42 := bt hc42
   refine iT (vc_reg rfl (iQ 1 (iU .neg (.int .i64 ((y : Int))) (some 44) ?_)))
   intro z44 hz44
   try replace hz44 := hz44.i64 (by omega)
   refine iQ 1 (iE 67 [(0, .d (Sv (tx l))), (2, .p 2 0), (3, Ba false), (4, .d (.sl ps.length (strsD ps))), (5, Ia z44), (6, Ba g1), (7, Ia ((m : Int))), (8, Ba g2), (9, Ia ((d : Int))), (10, Ba g3), (17, Ba false), (42, Ba true)] [(2, [Iv 0, Iv 0, Iv 0])] ?_)
   refine seq_n (vc_seqr rfl (iQ 6 (iE 67 [(0, .d (Sv (tx l))), (2, .p 2 0), (3, Ba false), (4, .d (.sl ps.length (strsD ps))), (5, Ia z44), (6, Ba g1), (8, Ba g2), (10, Ba g3), (11, .p 11 0), (17, Ba false), (42, Ba true)] [(2, [Iv 0, Iv 0, Iv 0]), (11, [Iv z44, Iv ((m : Int)), Iv ((d : Int))])] ?_)))
   refine vc_seq (vc_seqr rfl (iQ 1 (iU .not (.bool g1) (some 50) ?_)))
   intro c50 hc50
   refine iQ 1 ?_
   cases c50
   ·replace hc50 := bf hc50
    refine iQ 1 (iU .not (.bool g2) (some 53) ?_)
    intro c53 hc53
    refine iQ 2 ?_
    cases c53
    ·replace hc53 := bf hc53
     refine iQ 1 (iU .not (.bool g3) (some 57) ?_)
     intro c57 hc57
     refine iQ 2 ?_
     cases c57
     ·replace hc57 := bf hc57
      refine iQ 1 (iC 153 [.agg [Iv z44, Iv ((m : Int)), Iv ((d : Int))]] (some 61) (c_lexDate) ?_)
      rintro _ rfl
      refine iQ 1 (iB .neq 9 (.string (tx (dateT z44 (m : Int) (d : Int)))) (.string (tx l)) (some 63) ?_)
      intro c63 hc63
      refine iQ 1 (iE 67 [(0, .d (Sv (tx l))), (2, .p 2 0), (3, Ba false), (4, .d (.sl ps.length (strsD ps))), (5, Ia z44), (11, .p 11 0), (17, Ba false), (42, Ba true), (64, Ba c63)] [(2, [Iv 0, Iv 0, Iv 0]), (11, [Iv z44, Iv ((m : Int)), Iv ((d : Int))])] ?_)
      cases c63
      ·replace hc63 := bf hc63
       refine iF (vc_skip (seq_n (vc_seqr rfl (iQ 3 (iE 67 [(0, .d (Sv (tx l))), (2, .p 2 0), (3, Ba true), (4, .d (.sl ps.length (strsD ps))), (5, Ia z44), (11, .p 11 0), (17, Ba false), (42, Ba true), (64, Ba false)] [(2, [Iv z44, Iv ((m : Int)), Iv ((d : Int))]), (11, [Iv z44, Iv ((m : Int)), Iv ((d : Int))])] ?_)))))
       refine vc_ret (iS (.agg [Iv z44, Iv ((m : Int)), Iv ((d : Int))]) (Bv true) [] ?_)
       exact DateP_yes (Classical.not_not.1 hc63) h0
      ·replace hc63 := bt hc63
       refine iT (vc_seqr rfl (iQ 3 (iE 67 [(0, .d (Sv (tx l))), (2, .p 2 0), (3, Ba false), (4, .d (.sl ps.length (strsD ps))), (5, Ia z44), (11, .p 11 0), (17, Ba false), (42, Ba true), (64, Ba true)] [(2, [Iv 0, Iv 0, Iv 0]), (11, [Iv z44, Iv ((m : Int)), Iv ((d : Int))])] ?_)))
       refine vc_ret (seq_r (iS (.agg [Iv 0, Iv 0, Iv 0]) (Bv false) [] ?_))
       exact DateP_no l
     ·replace hc57 := bt hc57
      refine iQ 5 (iE 67 [(0, .d (Sv (tx l))), (2, .p 2 0), (3, Ba false), (4, .d (.sl ps.length (strsD ps))), (5, Ia z44), (11, .p 11 0), (17, Ba false), (42, Ba true), (64, Ba true)] [(2, [Iv 0, Iv 0, Iv 0]), (11, [Iv z44, Iv ((m : Int)), Iv ((d : Int))])] ?_)
      refine iT (vc_seqr rfl (iQ 3 (iE 67 [(0, .d (Sv (tx l))), (2, .p 2 0), (3, Ba false), (4, .d (.sl ps.length (strsD ps))), (5, Ia z44), (11, .p 11 0), (17, Ba false), (42, Ba true), (64, Ba true)] [(2, [Iv 0, Iv 0, Iv 0]), (11, [Iv z44, Iv ((m : Int)), Iv ((d : Int))])] ?_)))
      refine vc_ret (seq_r (iS (.agg [Iv 0, Iv 0, Iv 0]) (Bv false) [] ?_))
      exact DateP_no l
    ·replace hc53 := bt hc53
     refine iQ 9 (iE 67 [(0, .d (Sv (tx l))), (2, .p 2 0), (3, Ba false), (4, .d (.sl ps.length (strsD ps))), (5, Ia z44), (11, .p 11 0), (17, Ba false), (42, Ba true), (64, Ba true)] [(2, [Iv 0, Iv 0, Iv 0]), (11, [Iv z44, Iv ((m : Int)), Iv ((d : Int))])] ?_)
     refine iT (vc_seqr rfl (iQ 3 (iE 67 [(0, .d (Sv (tx l))), (2, .p 2 0), (3, Ba false), (4, .d (.sl ps.length (strsD ps))), (5, Ia z44), (11, .p 11 0), (17, Ba false), (42, Ba true), (64, Ba true)] [(2, [Iv 0, Iv 0, Iv 0]), (11, [Iv z44, Iv ((m : Int)), Iv ((d : Int))])] ?_)))
     refine vc_ret (seq_r (iS (.agg [Iv 0, Iv 0, Iv 0]) (Bv false) [] ?_))
     exact DateP_no l
   ·replace hc50 := bt hc50
    refine iQ 13 (iE 67 [(0, .d (Sv (tx l))), (2, .p 2 0), (3, Ba false), (4, .d (.sl ps.length (strsD ps))), (5, Ia z44), (11, .p 11 0), (17, Ba false), (42, Ba true), (64, Ba true)] [(2, [Iv 0, Iv 0, Iv 0]), (11, [Iv z44, Iv ((m : Int)), Iv ((d : Int))])] ?_)
    refine iT (vc_seqr rfl (iQ 3 (iE 67 [(0, .d (Sv (tx l))), (2, .p 2 0), (3, Ba false), (4, .d (.sl ps.length (strsD ps))), (5, Ia z44), (11, .p 11 0), (17, Ba false), (42, Ba true), (64, Ba true)] [(2, [Iv 0, Iv 0, Iv 0]), (11, [Iv z44, Iv ((m : Int)), Iv ((d : Int))])] ?_)))
    refine vc_ret (seq_r (iS (.agg [Iv 0, Iv 0, Iv 0]) (Bv false) [] ?_))
    exact DateP_no l
 ·replace hc17 := bt hc17
  refine iT (vc_seqr rfl (iQ 3 (iE 67 [(0, .d (Sv (tx l))), (2, .p 2 0), (3, Ba false), (4, .d (.sl ps.length (strsD ps))), (17, Ba true)] [(2, [Iv 0, Iv 0, Iv 0])] ?_)))
  refine vc_ret (seq_r (iS (.agg [Iv 0, Iv 0, Iv 0]) (Bv false) [] ?_))
  exact DateP_no l

-- numbers between signs
def natsD (ns : List Nat) : List DV := ns.map fun (n : Nat) => DV.v (.int .i64 (n : Int))
@[simp] theorem natsD_len (ns : List Nat) : (natsD ns).length = ns.length := by simp [natsD]
theorem nats_get {ns : List Nat} {i : Nat} {n : Nat} (h : ns[i]? = some n) : (natsD ns)[((i : Nat) : Int).toNat]? = some (.v (.int .i64 (n : Int))) := by simp [natsD, h]
/-- All pieces are numbers of two digits. -/
def AllN (ps : List L8) : Prop := ∀ p ∈ ps, numS 2 2 p = some (nvL p)
def PtP (l : L8) (n : Int) (r : DV) : Prop := ∃ (ns : List Nat) (ok : Bool), r = .tup [.sl ns.length (natsD ns), .v (.bool ok)] ∧ (ok = true → ∃ ps, joinL 58 ps = l ∧ ns = ps.map nvL ∧ (ps.length : Int) = n ∧ AllN ps) ∧ (ok = false → ns = [])
theorem PtP_no (l : L8) (n : Int) : PtP l n (.tup [.sl 0 [], .v (.bool false)]) := ⟨[], false, rfl, (fun h => by cases h), fun _ => rfl⟩
theorem AllN.lt {ps : List L8} (h : AllN ps) : ∀ n ∈ ps.map nvL, n < 100 := by
  intro n hn
  obtain ⟨p, hp, rfl⟩ := List.mem_map.1 hn
  exact numS_lt (lo := 2) (hi := 2) (l := p) (g := true) (.inl ⟨rfl, h p hp⟩)
theorem AllN.take {ps : List L8} {k : Nat} {p : L8} {n : Nat} (h : AllN (ps.take k)) (hp : ps[k]? = some p) (hn : numS 2 2 p = some n) : AllN (ps.take (k + 1)) ∧ n = nvL p ∧ (ps.take (k + 1)).map nvL = (ps.take k).map nvL ++ [n] := by
  obtain ⟨hk, e⟩ := List.getElem?_eq_some_iff.1 hp
  have hv : n = nvL p := by
    unfold numS at hn
    split at hn
    · cases hn; rfl
    · cases hn
  rw [List.take_succ_eq_append_getElem hk, e]
  refine ⟨fun q hq => ?_, hv, by simp [hv]⟩
  rcases List.mem_append.1 hq with hq | hq
  · exact h q hq
  · simp at hq
    subst hq
    rw [hn, hv]
theorem nats_snoc {ns : List Nat} {n : Nat} : natsD ns ++ [.v (.int .i64 (n : Int))] = natsD (ns ++ [n]) := by simp [natsD]

set_option maxHeartbeats 800000 in
theorem c_parts {l : L8} {n : Int} (hL : l.length < 4294967281) : HasC Tryz.prog 155 [.v (.string (tx l)), .v (.int .i64 n)] (PtP l n) := by
 refine HasC.of [] (fn := Tryz.f155) tyOk mixed (fun args w => Tryz.call155 args w) Tryz.func155 rfl (by kernel_rfl) (Nat.le_of_ble_eq_true rfl) (⟨_, PtP_no l n⟩) ?_
 refine vc_seqr rfl (iQ 2 (iE 37 [(0, .d (Sv (tx l))), (1, Ia n), (4, .w (.sl 0 []) none), (5, Ba false)] [] ?_))
 refine vc_seqr rfl (iQ 1 (iC 151 [Sv (tx l), Sv (⟨#[58]⟩)] (some 13) (c_Split (c := 58) (by omega)) ?_))
 rintro _ ⟨ps, rfl, hj, hpl⟩
 refine iQ 1 (iE 37 [(1, Ia n), (4, .w (.sl 0 []) none), (5, Ba false), (6, .d (.sl ps.length (strsD ps)))] [] ?_)
 refine vc_seq (vc_seqr rfl (iQ 3 (iB .neq 3 (.int .i64 (((ps.length : Nat) : Int))) (.int .i64 n) (some 17) ?_)))
 intro c17 hc17
 refine iE 37 [(4, .w (.sl 0 []) none), (5, Ba false), (6, .d (.sl ps.length (strsD ps))), (17, Ba c17)] [] ?_
 cases c17
 ·replace hc17 := bf hc17
  refine iF (vc_skip (seq_n (vc_seqr rfl (iQ 1 (iE 37 [(4, .w (.sl 0 []) none), (5, Ba false), (6, .d (.sl ps.length (strsD ps))), (7, .w (.sl 0 []) none), (17, Ba false)] [] ?_)))))
  refine vc_seq (vc_seqr rfl (iQ 3 (iE 37 [(4, .w (.sl 0 []) none), (5, Ba false), (6, .d (.sl ps.length (strsD ps))), (7, .w (.sl 0 []) none), (17, Ba false), (18, .d (.sl ps.length (strsD ps))), (19, Ia (((ps.length : Nat) : Int))), (20, Ia 0)] [] ?_)))
  refine vc_block (vc_loop 37 (fun (vcx : Nat) => match vcx with | k => [(4, .w (.sl 0 []) none), (5, Ba false), (6, .d (.sl ps.length (strsD ps))), (7, .w (.sl (((ps.take k).map nvL).length) (natsD ((ps.take k).map nvL))) (some ⟨7, 0, 3, 1⟩)), (17, Ba false), (18, .d (.sl ps.length (strsD ps))), (19, Ia (((ps.length : Nat) : Int))), (20, Ia ((k : Int)))]) (fun (vcx : Nat) => match vcx with | k => []) (fun (vcx : Nat) => match vcx with | k => k ≤ ps.length ∧ AllN (ps.take k)) (fun (vcx : Nat) => match vcx with | k => ps.length - k) 0 (⟨Nat.zero_le _, fun p hp => by simp at hp⟩) (by kernel_rfl) (by kernel_rfl) ?_)
  rintro k hinv
  simp only at hinv
  obtain ⟨h1, h2⟩ := hinv
  refine vc_seqr rfl (iB .lss 3 (.int .i64 ((k : Int))) (.int .i64 (((ps.length : Nat) : Int))) (some 21) ?_)
  intro c21 hc21
  refine iE 37 [(4, .w (.sl 0 []) none), (5, Ba false), (6, .d (.sl ps.length (strsD ps))), (7, .w (.sl (((ps.take k).map nvL).length) (natsD ((ps.take k).map nvL))) (some ⟨7, 0, 3, 1⟩)), (17, Ba false), (18, .d (.sl ps.length (strsD ps))), (19, Ia (((ps.length : Nat) : Int))), (20, Ia ((k : Int))), (21, Ba c21)] [] ?_
  refine vc_seq ?_
  cases c21
  ·replace hc21 := bf hc21
   have hk : k = ps.length := by omega
   refine iF (vc_exit (seq_x (loop_x (block_x rfl (seq_n (vc_seqr rfl (iQ 3 (iE 37 [(4, .w (.sl (((ps.take k).map nvL).length) (natsD ((ps.take k).map nvL))) (some ⟨7, 0, 3, 1⟩)), (5, Ba true), (6, .d (.sl ps.length (strsD ps))), (7, .w (.sl (((ps.take k).map nvL).length) (natsD ((ps.take k).map nvL))) (some ⟨7, 0, 3, 1⟩)), (17, Ba false), (18, .d (.sl ps.length (strsD ps))), (19, Ia (((ps.length : Nat) : Int))), (20, Ia ((k : Int))), (21, Ba false)] [] ?_))))))))
   refine vc_ret (iS (.sl (((ps.take k).map nvL).length) (natsD ((ps.take k).map nvL))) (Bv true) [] ?_)
   subst hk; rw [List.take_length] at h2 ⊢; exact ⟨_, true, rfl, fun _ => ⟨ps, hj, rfl, by omega, h2⟩, fun h => by cases h⟩
  ·replace hc21 := bt hc21
   have hlt : k < ps.length := by omega
   obtain ⟨p, hp⟩ : ∃ p, ps[k]? = some p := ⟨_, List.getElem?_eq_getElem hlt⟩
   refine iT (vc_skip (seq_n (vc_seq (vc_block (vc_seqr rfl (vcI_idx1 (q := ((k : Int))) (n := ps.length) (cs := (strsD ps)) (d := .v (.string (tx p))) (dst := (some 22)) (by kernel_rfl) (by omega) (strs_get hp) ?_))))))
   refine iQ 2 (iE 37 [(4, .w (.sl 0 []) none), (5, Ba false), (6, .d (.sl ps.length (strsD ps))), (7, .w (.sl (((ps.take k).map nvL).length) (natsD ((ps.take k).map nvL))) (some ⟨7, 0, 3, 1⟩)), (9, .d (Sv (tx p))), (17, Ba false), (18, .d (.sl ps.length (strsD ps))), (19, Ia (((ps.length : Nat) : Int))), (20, Ia ((k : Int))), (21, Ba true)] [] ?_)
   refine vc_seqr rfl (iQ 1 (iC 152 [Sv (tx p), Iv 2, Iv 2] (some 26) (c_number (l := p) (lo := 2) (hi := 2) (by decide)) ?_))
   rintro _ ⟨z, g, rfl, hz⟩
   refine iQ 5 (iE 37 [(4, .w (.sl 0 []) none), (5, Ba false), (6, .d (.sl ps.length (strsD ps))), (7, .w (.sl (((ps.take k).map nvL).length) (natsD ((ps.take k).map nvL))) (some ⟨7, 0, 3, 1⟩)), (9, .d (Sv (tx p))), (10, Ia ((z : Int))), (11, Ba g), (17, Ba false), (18, .d (.sl ps.length (strsD ps))), (19, Ia (((ps.length : Nat) : Int))), (20, Ia ((k : Int))), (21, Ba true)] [] ?_)
   refine vc_seq (vc_seqr rfl (iQ 1 (iU .not (.bool g) (some 30) ?_)))
   intro c30 hc30
   refine iE 37 [(4, .w (.sl 0 []) none), (5, Ba false), (6, .d (.sl ps.length (strsD ps))), (7, .w (.sl (((ps.take k).map nvL).length) (natsD ((ps.take k).map nvL))) (some ⟨7, 0, 3, 1⟩)), (9, .d (Sv (tx p))), (10, Ia ((z : Int))), (11, Ba g), (17, Ba false), (18, .d (.sl ps.length (strsD ps))), (19, Ia (((ps.length : Nat) : Int))), (20, Ia ((k : Int))), (21, Ba true), (30, Ba c30)] [] ?_
   cases c30
   ·replace hc30 := bf hc30
    have hz1 : numS 2 2 p = some z := or_t hz hc30
    obtain ⟨q1, q2, q3⟩ := h2.take hp hz1
    refine iF (vc_skip (seq_n (vc_reg rfl (iQ 3 (vcI_app (n := (((ps.take k).map nvL).length)) (cs := (natsD ((ps.take k).map nvL))) (m := 1) (ds := [.v (.int .i64 ((z : Int)))]) (N := (((ps.take (k + 1)).map nvL).length)) (es := (natsD ((ps.take (k + 1)).map nvL))) (j := 7) (e := 3) (z := 1) (dst := (some 34)) (by kernel_rfl) (by first | rfl | omega | (rw [Nat.mul_one]; exact dg_len _) | (simp [dg]; done) | (simp [dg]; omega)) (by first | rfl | omega | (rw [Nat.mul_one]; exact dg_len _) | (simp [dg]; done) | (simp [dg]; omega)) (rfl) (by simp; omega) (by simp [hlt]; omega) (by rw [q3]; exact nats_snoc) ?_)))))
    refine iQ 1 (iE 37 [(4, .w (.sl 0 []) none), (5, Ba false), (6, .d (.sl ps.length (strsD ps))), (7, .w (.sl (((ps.take (k + 1)).map nvL).length) (natsD ((ps.take (k + 1)).map nvL))) (some ⟨7, 0, 3, 1⟩)), (9, .d (Sv (tx p))), (10, Ia ((z : Int))), (11, Ba g), (17, Ba false), (18, .d (.sl ps.length (strsD ps))), (19, Ia (((ps.length : Nat) : Int))), (20, Ia ((k : Int))), (21, Ba true), (30, Ba false)] [] ?_)
    refine block_n (seq_n (vc_reg rfl (iB .add 3 (.int .i64 ((k : Int))) (.int .i64 1) (some 35) ?_)))
    intro z35 hz35
    try replace hz35 := hz35.i64 (by omega)
    refine iQ 1 (iE 37 [(4, .w (.sl 0 []) none), (5, Ba false), (6, .d (.sl ps.length (strsD ps))), (7, .w (.sl (((ps.take (k + 1)).map nvL).length) (natsD ((ps.take (k + 1)).map nvL))) (some ⟨7, 0, 3, 1⟩)), (9, .d (Sv (tx p))), (10, Ia ((z : Int))), (11, Ba g), (17, Ba false), (18, .d (.sl ps.length (strsD ps))), (19, Ia (((ps.length : Nat) : Int))), (20, Ia z35), (21, Ba true), (30, Ba false)] [] ?_)
    obtain rfl : z35 = ((k + 1 : Nat) : Int) := by omega
    refine loop_n (k + 1) (⟨by omega, q1⟩) (by show ps.length - (k + 1) < ps.length - k; omega) (by kernel_rfl) (by kernel_rfl)
   ·replace hc30 := bt hc30
    refine iT (vc_seqr rfl (iQ 2 (iE 37 [(4, .w (.sl 0 []) none), (5, Ba false), (6, .d (.sl ps.length (strsD ps))), (7, .w (.sl (((ps.take k).map nvL).length) (natsD ((ps.take k).map nvL))) (some ⟨7, 0, 3, 1⟩)), (9, .d (Sv (tx p))), (10, Ia ((z : Int))), (11, Ba g), (17, Ba false), (18, .d (.sl ps.length (strsD ps))), (19, Ia (((ps.length : Nat) : Int))), (20, Ia ((k : Int))), (21, Ba true), (30, Ba true)] [] ?_)))
    refine vc_ret (seq_r (block_r (seq_r (loop_r (block_r (seq_r (iS (.sl 0 []) (Bv false) [] ?_)))))))
    exact PtP_no l n
 ·replace hc17 := bt hc17
  refine iT (vc_seqr rfl (iQ 2 (iE 37 [(4, .w (.sl 0 []) none), (5, Ba false), (6, .d (.sl ps.length (strsD ps))), (17, Ba true)] [] ?_)))
  refine vc_ret (seq_r (iS (.sl 0 []) (Bv false) [] ?_))
  exact PtP_no l n
theorem c_partsE {l : L8} {s : ByteArray} {n : Int} (hs : s = tx l) (hL : l.length < 4294967281) : HasC Tryz.prog 155 [.v (.string s), .v (.int .i64 n)] (PtP l n) := by subst hs; exact c_parts hL


open Go.RowKit
set_option linter.unusedVariables false
set_option linter.unusedSimpArgs false
set_option maxRecDepth 100000

theorem pad_nv {p : L8} (h : numS 2 2 p = some (nvL p)) : padL (nvL p : Int) 2 = p ∧ nvL p < 100 := by
  have hlt : nvL p < 100 := numS_lt (lo := 2) (hi := 2) (l := p) (g := true) (.inl ⟨rfl, h⟩)
  refine ⟨?_, hlt⟩
  unfold numS at h
  split at h
  · rename_i hc
    match p, hc with
    | [x, y], hc =>
      simp only [List.all_cons, List.all_nil, Bool.and_true, Bool.and_eq_true] at hc
      have h1 := isDg_iff.1 hc.2.2.1
      have h2 := isDg_iff.1 hc.2.2.2
      have hv : nvL [x, y] = (x.toNat - 48) * 10 + (y.toNat - 48) := by simp [nvL, nvA]
      rw [padL_dw (by omega) (by omega) (by decide), Int.toNat_natCast]
      simp only [dwL, List.nil_append, List.singleton_append, List.cons_append]
      have a1 : UInt8.ofNat (48 + nvL [x, y] / 10 % 10) = x := UInt8.toNat_inj.1 (by rw [UInt8.toNat_ofNat']; omega)
      have a2 : UInt8.ofNat (48 + nvL [x, y] % 10) = y := UInt8.toNat_inj.1 (by rw [UInt8.toNat_ofNat']; omega)
      rw [a1, a2]
    | [], hc => simp at hc
    | [x], hc => simp at hc
    | x :: y :: z :: r, hc => simp at hc
  · cases h
def TimeP (l : L8) (r : DV) : Prop := ∃ (s : Int) (z : Bool) (o : Int) (ok : Bool), r = .tup [.agg [.v (.int .i64 s), .v (.bool z), .v (.int .i64 o)], .v (.bool ok)] ∧ (ok = true ∧ mayT s z o ∧ l = timeL s z o ∨ ok = false ∧ s = 0 ∧ z = false ∧ o = 0)
theorem TimeP_no (l : L8) : TimeP l (.tup [.agg [.v (.int .i64 0), .v (.bool false), .v (.int .i64 0)], .v (.bool false)]) := ⟨0, false, 0, false, rfl, .inr ⟨rfl, rfl, rfl, rfl⟩⟩
theorem TimeP_yes {s o : Int} {z : Bool} {l : L8} (h : tx (timeT s z o) = tx l) (h0 : l ≠ []) : TimeP l (.tup [.agg [.v (.int .i64 s), .v (.bool z), .v (.int .i64 o)], .v (.bool true)]) := by
  have h1 := tx_inj h
  unfold timeT at h1
  split at h1
  · rename_i hm
    exact ⟨s, z, o, true, rfl, .inl ⟨rfl, hm, h1.symm⟩⟩
  · exact absurd h1.symm h0
def OfP (h m s : Nat) (r : DV) : Prop := ∃ (x : Int) (ok : Bool), r = .tup [.agg [.v (.int .i64 x), .v (.bool false), .v (.int .i64 0)], .v (.bool ok)] ∧ (ok = true ∧ (h ≤ 23 ∧ m ≤ 59 ∧ s ≤ 59 ∧ x = 3600 * (h : Int) + 60 * (m : Int) + (s : Int)) ∨ ok = false ∧ x = 0)
theorem c_Of {h m s : Nat} (h1 : h < 100) (h2 : m < 100) (h3 : s < 100) : HasC Tryz.prog 156 [.v (.int .i64 ((h : Int))), .v (.int .i64 ((m : Int))), .v (.int .i64 ((s : Int)))] (OfP h m s) := by
 refine HasC.of [] (fn := Tryz.f156) tyOk mixed (fun args w => Tryz.call156 args w) Tryz.func156 rfl (by kernel_rfl) (Nat.le_of_ble_eq_true rfl) (by by_cases k : h ≤ 23 ∧ m ≤ 59 ∧ s ≤ 59; exact ⟨_, _, true, rfl, .inl ⟨rfl, k.1, k.2.1, k.2.2, rfl⟩⟩; exact ⟨_, 0, false, rfl, .inr ⟨rfl, rfl⟩⟩) ?_
 refine vc_seqr rfl (iQ 2 (iE 39 [(0, Ia ((h : Int))), (1, Ia ((m : Int))), (2, Ia ((s : Int))), (6, .p 6 0), (7, Ba false)] [(6, [Iv 0, Bv false, Iv 0])] ?_))
 refine vc_seq (vc_seqr rfl (iQ 1 (iB .lss 3 (.int .i64 ((h : Int))) (.int .i64 0) (some 9) ?_)))
 intro c9 hc9
 refine iQ 1 ?_
 cases c9
 ·replace hc9 := bf hc9
  refine iQ 1 (iB .gtr 3 (.int .i64 ((h : Int))) (.int .i64 23) (some 12) ?_)
  intro c12 hc12
  refine iQ 2 ?_
  cases c12
  ·replace hc12 := bf hc12
   refine iQ 1 (iB .lss 3 (.int .i64 ((m : Int))) (.int .i64 0) (some 16) ?_)
   intro c16 hc16
   refine iQ 2 ?_
   cases c16
   ·replace hc16 := bf hc16
    refine iQ 1 (iB .gtr 3 (.int .i64 ((m : Int))) (.int .i64 59) (some 20) ?_)
    intro c20 hc20
    refine iQ 2 ?_
    cases c20
    ·replace hc20 := bf hc20
     refine iQ 1 (iB .lss 3 (.int .i64 ((s : Int))) (.int .i64 0) (some 24) ?_)
     intro c24 hc24
     refine iQ 2 ?_
     cases c24
     ·replace hc24 := bf hc24
      refine iQ 1 (iB .gtr 3 (.int .i64 ((s : Int))) (.int .i64 59) (some 28) ?_)
      intro c28 hc28
      refine iQ 1 (iE 39 [(0, Ia ((h : Int))), (1, Ia ((m : Int))), (2, Ia ((s : Int))), (6, .p 6 0), (7, Ba false), (29, Ba c28)] [(6, [Iv 0, Bv false, Iv 0])] ?_)
      cases c28
      ·replace hc28 := bf hc28
       refine iF (vc_skip (seq_n (vc_seqr rfl (iQ 1 (iB .mul 3 (.int .i64 3600) (.int .i64 ((h : Int))) (some 32) ?_)))))
       intro z32 hz32
       try replace hz32 := hz32.i64 (by omega)
       refine iQ 1 (iB .mul 3 (.int .i64 60) (.int .i64 ((m : Int))) (some 34) ?_)
       intro z34 hz34
       try replace hz34 := hz34.i64 (by omega)
       refine iB .add 3 (.int .i64 z32) (.int .i64 z34) (some 35) ?_
       intro z35 hz35
       try replace hz35 := hz35.i64 (by omega)
       refine iQ 1 (iB .add 3 (.int .i64 z35) (.int .i64 ((s : Int))) (some 37) ?_)
       intro z37 hz37
       try replace hz37 := hz37.i64 (by omega)
       refine iQ 3 (iE 39 [(0, Ia ((h : Int))), (1, Ia ((m : Int))), (2, Ia ((s : Int))), (6, .p 6 0), (7, Ba true), (29, Ba false)] [(6, [Iv z37, Bv false, Iv 0])] ?_)
       refine vc_ret (iS (.agg [Iv z37, Bv false, Iv 0]) (Bv true) [] ?_)
       exact ⟨_, true, rfl, .inl ⟨rfl, by omega, by omega, by omega, by omega⟩⟩
      ·replace hc28 := bt hc28
       refine iT (vc_seqr rfl (iQ 3 (iE 39 [(0, Ia ((h : Int))), (1, Ia ((m : Int))), (2, Ia ((s : Int))), (6, .p 6 0), (7, Ba false), (29, Ba true)] [(6, [Iv 0, Bv false, Iv 0])] ?_)))
       refine vc_ret (seq_r (iS (.agg [Iv 0, Bv false, Iv 0]) (Bv false) [] ?_))
       exact ⟨0, false, rfl, .inr ⟨rfl, rfl⟩⟩
     ·replace hc24 := bt hc24
      refine iQ 3 (iE 39 [(0, Ia ((h : Int))), (1, Ia ((m : Int))), (2, Ia ((s : Int))), (6, .p 6 0), (7, Ba false), (29, Ba true)] [(6, [Iv 0, Bv false, Iv 0])] ?_)
      refine iT (vc_seqr rfl (iQ 3 (iE 39 [(0, Ia ((h : Int))), (1, Ia ((m : Int))), (2, Ia ((s : Int))), (6, .p 6 0), (7, Ba false), (29, Ba true)] [(6, [Iv 0, Bv false, Iv 0])] ?_)))
      refine vc_ret (seq_r (iS (.agg [Iv 0, Bv false, Iv 0]) (Bv false) [] ?_))
      exact ⟨0, false, rfl, .inr ⟨rfl, rfl⟩⟩
    ·replace hc20 := bt hc20
     refine iQ 7 (iE 39 [(0, Ia ((h : Int))), (1, Ia ((m : Int))), (2, Ia ((s : Int))), (6, .p 6 0), (7, Ba false), (29, Ba true)] [(6, [Iv 0, Bv false, Iv 0])] ?_)
     refine iT (vc_seqr rfl (iQ 3 (iE 39 [(0, Ia ((h : Int))), (1, Ia ((m : Int))), (2, Ia ((s : Int))), (6, .p 6 0), (7, Ba false), (29, Ba true)] [(6, [Iv 0, Bv false, Iv 0])] ?_)))
     refine vc_ret (seq_r (iS (.agg [Iv 0, Bv false, Iv 0]) (Bv false) [] ?_))
     exact ⟨0, false, rfl, .inr ⟨rfl, rfl⟩⟩
   ·replace hc16 := bt hc16
    refine iQ 11 (iE 39 [(0, Ia ((h : Int))), (1, Ia ((m : Int))), (2, Ia ((s : Int))), (6, .p 6 0), (7, Ba false), (29, Ba true)] [(6, [Iv 0, Bv false, Iv 0])] ?_)
    refine iT (vc_seqr rfl (iQ 3 (iE 39 [(0, Ia ((h : Int))), (1, Ia ((m : Int))), (2, Ia ((s : Int))), (6, .p 6 0), (7, Ba false), (29, Ba true)] [(6, [Iv 0, Bv false, Iv 0])] ?_)))
    refine vc_ret (seq_r (iS (.agg [Iv 0, Bv false, Iv 0]) (Bv false) [] ?_))
    exact ⟨0, false, rfl, .inr ⟨rfl, rfl⟩⟩
  ·replace hc12 := bt hc12
   refine iQ 15 (iE 39 [(0, Ia ((h : Int))), (1, Ia ((m : Int))), (2, Ia ((s : Int))), (6, .p 6 0), (7, Ba false), (29, Ba true)] [(6, [Iv 0, Bv false, Iv 0])] ?_)
   refine iT (vc_seqr rfl (iQ 3 (iE 39 [(0, Ia ((h : Int))), (1, Ia ((m : Int))), (2, Ia ((s : Int))), (6, .p 6 0), (7, Ba false), (29, Ba true)] [(6, [Iv 0, Bv false, Iv 0])] ?_)))
   refine vc_ret (seq_r (iS (.agg [Iv 0, Bv false, Iv 0]) (Bv false) [] ?_))
   exact ⟨0, false, rfl, .inr ⟨rfl, rfl⟩⟩
 ·replace hc9 := bt hc9
  refine iQ 19 (iE 39 [(0, Ia ((h : Int))), (1, Ia ((m : Int))), (2, Ia ((s : Int))), (6, .p 6 0), (7, Ba false), (29, Ba true)] [(6, [Iv 0, Bv false, Iv 0])] ?_)
  refine iT (vc_seqr rfl (iQ 3 (iE 39 [(0, Ia ((h : Int))), (1, Ia ((m : Int))), (2, Ia ((s : Int))), (6, .p 6 0), (7, Ba false), (29, Ba true)] [(6, [Iv 0, Bv false, Iv 0])] ?_)))
  refine vc_ret (seq_r (iS (.agg [Iv 0, Bv false, Iv 0]) (Bv false) [] ?_))
  exact ⟨0, false, rfl, .inr ⟨rfl, rfl⟩⟩
def AtP (s o : Int) (r : DV) : Prop := ∃ (s' : Int) (z' : Bool) (o' : Int) (ok : Bool), r = .tup [.agg [.v (.int .i64 s'), .v (.bool z'), .v (.int .i64 o')], .v (.bool ok)] ∧ (ok = true ∧ (mayT s true o ∧ s' = s ∧ z' = true ∧ o' = o) ∨ ok = false ∧ s' = 0 ∧ z' = false ∧ o' = 0)
theorem c_At {s o0 o : Int} {z : Bool} : HasC Tryz.prog 157 [.agg [.v (.int .i64 s), .v (.bool z), .v (.int .i64 o0)], .v (.int .i64 o)] (AtP s o) := by
 refine HasC.of [] (fn := Tryz.f157) tyOk mixed (fun args w => Tryz.call157 args w) Tryz.func157 rfl (by kernel_rfl) (Nat.le_of_ble_eq_true rfl) (by by_cases k : mayT s true o; exact ⟨_, s, true, o, true, rfl, .inl ⟨rfl, k, rfl, rfl, rfl⟩⟩; exact ⟨_, 0, false, 0, false, rfl, .inr ⟨rfl, rfl, rfl, rfl⟩⟩) ?_
 refine vc_seqr rfl (iQ 3 (iE 14 [(1, Ia o), (2, .p 2 0), (4, .p 4 0), (5, Ba false)] [(2, [Iv s, Bv z, Iv o0]), (4, [Iv 0, Bv false, Iv 0])] ?_))
 refine vc_seqr rfl (iQ 5 (iE 14 [(2, .p 2 0), (4, .p 4 0), (5, Ba false)] [(2, [Iv s, Bv true, Iv o]), (4, [Iv 0, Bv false, Iv 0])] ?_))
 refine vc_seq (vc_seqr rfl (iQ 1 (iC 160 [.agg [Iv s, Bv true, Iv o]] (some 10) (c_TMay (s := s) (z := true) (o := o)) ?_)))
 rintro _ ⟨b, rfl, hb⟩
 refine iU .not (.bool b) (some 11) ?_
 intro c11 hc11
 refine iE 14 [(2, .p 2 0), (4, .p 4 0), (5, Ba false), (11, Ba c11)] [(2, [Iv s, Bv true, Iv o]), (4, [Iv 0, Bv false, Iv 0])] ?_
 cases c11
 ·replace hc11 := bf hc11
  refine iF (vc_skip (seq_n (vc_seqr rfl (iQ 3 (iE 14 [(2, .p 2 0), (4, .p 4 0), (5, Ba true), (11, Ba false)] [(2, [Iv s, Bv true, Iv o]), (4, [Iv s, Bv true, Iv o])] ?_)))))
  refine vc_ret (iS (.agg [Iv s, Bv true, Iv o]) (Bv true) [] ?_)
  exact ⟨s, true, o, true, rfl, .inl ⟨rfl, hb.1 (by simpa using hc11), rfl, rfl, rfl⟩⟩
 ·replace hc11 := bt hc11
  refine iT (vc_seqr rfl (iQ 3 (iE 14 [(2, .p 2 0), (4, .p 4 0), (5, Ba false), (11, Ba true)] [(2, [Iv s, Bv true, Iv o]), (4, [Iv 0, Bv false, Iv 0])] ?_)))
  refine vc_ret (seq_r (iS (.agg [Iv 0, Bv false, Iv 0]) (Bv false) [] ?_))
  exact ⟨0, false, 0, false, rfl, .inr ⟨rfl, rfl, rfl, rfl⟩⟩
/-- The text of an hour, a minute, a second. -/
theorem hms {l a b d : L8} {ps : List L8} {x : Int} (hl : l.take 8 = a ++ 58 :: (b ++ 58 :: d)) (hp : ps = [a, b, d]) (hN : AllN ps) (h : nvL a ≤ 23 ∧ nvL b ≤ 59 ∧ nvL d ≤ 59 ∧ x = 3600 * (nvL a : Int) + 60 * (nvL b : Int) + (nvL d : Int)) :
    0 ≤ x ∧ x < 86400 ∧ ∀ z o, timeL x z o = l.take 8 ++ zoneL z o := by
  have ha := pad_nv (hN a (by rw [hp]; simp))
  have hb := pad_nv (hN b (by rw [hp]; simp))
  have hd := pad_nv (hN d (by rw [hp]; simp))
  refine ⟨by omega, by omega, fun z o => ?_⟩
  rw [timeL, show x / 3600 = (nvL a : Int) by omega, show x % 3600 / 60 = (nvL b : Int) by omega, show x % 60 = (nvL d : Int) by omega, ha.1, hb.1, hd.1, hl]
  simp
theorem c_CountE {l : L8} {s : ByteArray} (hs : s = tx l) (hl : l.length < 4294967281) : HasC Tryz.prog 158 [.v (.string s), .v (.string ⟨#[58]⟩)] (fun y => ∃ n : Nat, y = .v (.int .i64 (n : Int)) ∧ n ≤ l.length) := by subst hs; exact c_Count (c := 58) hl
theorem eq_tx {l : L8} {s : ByteArray} {r : L8} (hs : s = tx l) : s = tx r ↔ l = r := by rw [hs, tx_iff]
theorem drop_txE {l : L8} {s t : ByteArray} (ht : t = tx l) (hs : s = t.extract 1 t.size) : s = tx (l.drop 1) := by subst ht; exact drop_tx hs

set_option maxHeartbeats 1600000 in
theorem c_ReadTime {l : L8} (hL : l.length < 4294967281) : HasC Tryz.prog 110 [.v (.string (tx l))] (TimeP l) := by
 refine HasC.of [] (fn := Tryz.f110) tyOk mixed (fun args w => Tryz.call110 args w) Tryz.func110 rfl (by kernel_rfl) (Nat.le_of_ble_eq_true rfl) (⟨_, TimeP_no l⟩) ?_
 refine vc_seqr rfl (iQ 2 (iE 108 [(0, .d (Sv (tx l))), (2, .p 2 0), (3, Ba false)] [(2, [Iv 0, Bv false, Iv 0])] ?_))
 refine vc_seq (vc_seqr rfl (iQ 1 (iL .len [9] [.string (tx l)] (some 11) ?_)))
 intro n11 hn11
 have e11 : n11 = l.length := by rw [hn11]; exact tx_size l
 refine iB .lss 3 (.int .i64 ((n11 : Nat))) (.int .i64 8) (some 12) ?_
 intro c12 hc12
 refine iE 108 [(0, .d (Sv (tx l))), (2, .p 2 0), (3, Ba false), (12, Ba c12)] [(2, [Iv 0, Bv false, Iv 0])] ?_
 cases c12
 ·replace hc12 := bf hc12
  have h0 : l ≠ [] := fun e => by rw [e] at e11; simp at e11; omega
  refine iF (vc_skip (seq_n (vc_seqr rfl (iQ 1 (iY 9 (tx l) (0) (8) (some 16) ?_)))))
  refine And.intro (by rw [tx_size]; omega) ?_
  intro s16 hs16
  have e16 : s16 = tx (l.take 8) := by rw [hs16, tx_extract]; simp
  refine iC 155 [Sv s16, Iv 3] (some 17) (c_partsE (n := 3) e16 (by rw [List.length_take]; omega)) ?_
  rintro _ ⟨ns, g, rfl, hg, hg2⟩
  refine iQ 5 (iE 108 [(0, .d (Sv (tx l))), (2, .p 2 0), (3, Ba false), (4, .d (.sl ((ns).length) (natsD (ns)))), (5, Ba g), (12, Ba false)] [(2, [Iv 0, Bv false, Iv 0])] ?_)
  refine vc_seq (vc_seqr rfl (iQ 1 (iU .not (.bool g) (some 21) ?_)))
  intro c21 hc21
  refine iE 108 [(0, .d (Sv (tx l))), (2, .p 2 0), (3, Ba false), (4, .d (.sl ((ns).length) (natsD (ns)))), (5, Ba g), (12, Ba false), (21, Ba c21)] [(2, [Iv 0, Bv false, Iv 0])] ?_
  cases c21
  ·replace hc21 := bf hc21
   obtain ⟨ps, j1, j2, j3, j4⟩ := hg (by simpa using hc21)
   obtain ⟨p0, p1, p2, hps, h8⟩ := join3 j1 (by omega)
   have n0 : ns[0]? = some (nvL p0) := by rw [j2, hps]; rfl
   have n1 : ns[1]? = some (nvL p1) := by rw [j2, hps]; rfl
   have n2 : ns[2]? = some (nvL p2) := by rw [j2, hps]; rfl
   have nl : ns.length = 3 := by rw [j2, hps]; rfl
   have w0 := (pad_nv (j4 p0 (by rw [hps]; simp))).2
   have w1 := (pad_nv (j4 p1 (by rw [hps]; simp))).2
   have w2 := (pad_nv (j4 p2 (by rw [hps]; simp))).2
   refine iF (vc_skip (seq_n (vc_seqr rfl (iQ 1 (vcI_idx1 (q := 0) (n := ((ns).length)) (cs := (natsD (ns))) (d := .v (.int .i64 ((nvL p0 : Int)))) (dst := (some 25)) (by kernel_rfl) (by omega) (nats_get (i := 0) n0) ?_)))))
   refine iQ 2 (vcI_idx1 (q := 1) (n := ((ns).length)) (cs := (natsD (ns))) (d := .v (.int .i64 ((nvL p1 : Int)))) (dst := (some 28)) (by kernel_rfl) (by omega) (nats_get (i := 1) n1) ?_)
   refine iQ 2 (vcI_idx1 (q := 2) (n := ((ns).length)) (cs := (natsD (ns))) (d := .v (.int .i64 ((nvL p2 : Int)))) (dst := (some 31)) (by kernel_rfl) (by omega) (nats_get (i := 2) n2) ?_)
   refine iQ 1 (iC 156 [Iv ((nvL p0 : Int)), Iv ((nvL p1 : Int)), Iv ((nvL p2 : Int))] (some 33) (c_Of w0 w1 w2) ?_)
   rintro _ ⟨x, g2, rfl, hx⟩
   refine iQ 6 (iE 108 [(0, .d (Sv (tx l))), (2, .p 2 0), (3, Ba false), (5, Ba g2), (6, .p 6 0), (12, Ba false), (21, Ba false)] [(2, [Iv 0, Bv false, Iv 0]), (6, [Iv x, Bv false, Iv 0])] ?_)
   refine vc_seqr rfl (iQ 1 (iY 9 (tx l) (8) (((tx l : ByteArray).size : Int)) (some 37) ?_))
   refine And.intro (by rw [tx_size]; omega) ?_
   intro s37 hs37
   have e37 : s37 = tx (l.drop 8) := drop_tx hs37
   refine iQ 1 (iE 108 [(0, .d (Sv (tx l))), (2, .p 2 0), (3, Ba false), (5, Ba g2), (6, .p 6 0), (7, .d (Sv s37)), (12, Ba false), (21, Ba false)] [(2, [Iv 0, Bv false, Iv 0]), (6, [Iv x, Bv false, Iv 0])] ?_)
   refine vc_seq (vc_block (vc_seqr rfl (iQ 1 (iU .not (.bool g2) (some 40) ?_))))
   intro c40 hc40
   refine iQ 1 (iE 108 [(0, .d (Sv (tx l))), (2, .p 2 0), (3, Ba false), (5, Ba g2), (6, .p 6 0), (7, .d (Sv s37)), (12, Ba false), (21, Ba false), (38, Ba c40)] [(2, [Iv 0, Bv false, Iv 0]), (6, [Iv x, Bv false, Iv 0])] ?_)
   cases c40
   ·replace hc40 := bf hc40
    obtain ⟨x0, x1, hT⟩ := hms h8 hps j4 (or_t hx hc40)
    refine iF (vc_seqr rfl (iQ 1 (iB .eql 9 (.string s37) (.string (⟨#[]⟩)) (some 44) ?_)))
    intro c44 hc44
    refine iQ 1 (iE 108 [(0, .d (Sv (tx l))), (2, .p 2 0), (3, Ba false), (5, Ba g2), (6, .p 6 0), (7, .d (Sv s37)), (12, Ba false), (21, Ba false), (38, Ba false), (42, Ba c44)] [(2, [Iv 0, Bv false, Iv 0]), (6, [Iv x, Bv false, Iv 0])] ?_)
    cases c44
    ·replace hc44 := bf hc44
     have hd : l.drop 8 ≠ [] := fun e => hc44 ((eq_tx (r := []) e37).2 e)
     have hdl : 8 < l.length := by have := List.length_pos_iff.2 hd; rw [List.length_drop] at this; omega
     have hdd : (l.drop 8).length = l.length - 8 := List.length_drop
     refine iF (vc_seqr rfl (iQ 1 (iB .eql 9 (.string s37) (.string (⟨#[90]⟩)) (some 48) ?_)))
     intro c48 hc48
     refine iQ 1 (iE 108 [(0, .d (Sv (tx l))), (2, .p 2 0), (3, Ba false), (5, Ba g2), (6, .p 6 0), (7, .d (Sv s37)), (12, Ba false), (21, Ba false), (38, Ba false), (42, Ba false), (46, Ba c48)] [(2, [Iv 0, Bv false, Iv 0]), (6, [Iv x, Bv false, Iv 0])] ?_)
     cases c48
     ·replace hc48 := bf hc48
      refine iF (vc_skip (block_n (seq_n (vc_seqr rfl (iQ 1 (iY 9 (s37) (1) (((s37 : ByteArray).size : Int)) (some 55) ?_))))))
      refine And.intro (by rw [e37, tx_size]; omega) ?_
      intro s55 hs55
      have e55 : s55 = tx ((l.drop 8).drop 1) := drop_txE e37 hs55
      refine iQ 1 (iC 158 [Sv s37, Sv (⟨#[58]⟩)] (some 57) (c_CountE e37 (by omega)) ?_)
      rintro _ ⟨kc, rfl, hkc⟩
      refine iB .add 3 (.int .i64 ((kc : Int))) (.int .i64 1) (some 58) ?_
      intro z58 hz58
      try replace hz58 := hz58.i64 (by omega)
      refine iC 155 [Sv s55, Iv z58] (some 59) (c_partsE (n := z58) e55 (by rw [List.length_drop]; omega)) ?_
      rintro _ ⟨ns2, g4, rfl, hg4, hg5⟩
      refine iQ 5 (iE 108 [(0, .d (Sv (tx l))), (2, .p 2 0), (3, Ba false), (5, Ba g4), (6, .p 6 0), (7, .d (Sv s37)), (8, .d (.sl ((ns2).length) (natsD (ns2)))), (12, Ba false), (21, Ba false), (38, Ba false), (42, Ba false), (46, Ba false)] [(2, [Iv 0, Bv false, Iv 0]), (6, [Iv x, Bv false, Iv 0])] ?_)
      refine vc_seq (vc_seqr rfl (iQ 1 (iU .not (.bool g4) (some 63) ?_)))
      intro c63 hc63
      refine iQ 1 ?_
      cases c63
      ·replace hc63 := bf hc63
       refine iQ 2 (iB .lss 3 (.int .i64 ((((ns2).length : Nat) : Int))) (.int .i64 2) (some 67) ?_)
       obtain ⟨ps2, i1, i2, i3, i4⟩ := hg4 (by simpa using hc63)
       have hlt2 := i4.lt
       rw [← i2] at hlt2
       intro c67 hc67
       refine iQ 1 (iE 108 [(0, .d (Sv (tx l))), (2, .p 2 0), (3, Ba false), (5, Ba g4), (6, .p 6 0), (7, .d (Sv s37)), (8, .d (.sl ((ns2).length) (natsD (ns2)))), (12, Ba false), (21, Ba false), (38, Ba false), (42, Ba false), (46, Ba false), (68, Ba c67)] [(2, [Iv 0, Bv false, Iv 0]), (6, [Iv x, Bv false, Iv 0])] ?_)
       cases c67
       ·replace hc67 := bf hc67
        obtain ⟨q0, hq0⟩ : ∃ q, ns2[0]? = some q := ⟨_, List.getElem?_eq_getElem (by omega)⟩
        obtain ⟨q1, hq1⟩ : ∃ q, ns2[1]? = some q := ⟨_, List.getElem?_eq_getElem (by omega)⟩
        have b0 := hlt2 _ (List.mem_of_getElem? hq0)
        have b1 := hlt2 _ (List.mem_of_getElem? hq1)
        refine iF (vc_skip (seq_n (vc_seqr rfl (iQ 1 (vcI_idx1 (q := 0) (n := ((ns2).length)) (cs := (natsD (ns2))) (d := .v (.int .i64 ((q0 : Int)))) (dst := (some 71)) (by kernel_rfl) (by omega) (nats_get (i := 0) hq0) ?_)))))
        refine iQ 1 (iB .mul 3 (.int .i64 3600) (.int .i64 ((q0 : Int))) (some 73) ?_)
        intro z73 hz73
        try replace hz73 := hz73.i64 (by omega)
        refine iQ 1 (vcI_idx1 (q := 1) (n := ((ns2).length)) (cs := (natsD (ns2))) (d := .v (.int .i64 ((q1 : Int)))) (dst := (some 75)) (by kernel_rfl) (by omega) (nats_get (i := 1) hq1) ?_)
        refine iQ 1 (iB .mul 3 (.int .i64 60) (.int .i64 ((q1 : Int))) (some 77) ?_)
        intro z77 hz77
        try replace hz77 := hz77.i64 (by omega)
        refine iB .add 3 (.int .i64 z73) (.int .i64 z77) (some 78) ?_
        intro z78 hz78
        try replace hz78 := hz78.i64 (by omega)
        refine iQ 1 (iE 108 [(0, .d (Sv (tx l))), (2, .p 2 0), (3, Ba false), (5, Ba g4), (6, .p 6 0), (7, .d (Sv s37)), (8, .d (.sl ((ns2).length) (natsD (ns2)))), (9, Ia z78), (12, Ba false), (21, Ba false), (38, Ba false), (42, Ba false), (46, Ba false), (68, Ba false)] [(2, [Iv 0, Bv false, Iv 0]), (6, [Iv x, Bv false, Iv 0])] ?_)
        refine vc_seq (vc_seqr rfl (iQ 2 (iB .gtr 3 (.int .i64 ((((ns2).length : Nat) : Int))) (.int .i64 2) (some 81) ?_)))
        intro c81 hc81
        refine iE 108 [(0, .d (Sv (tx l))), (2, .p 2 0), (3, Ba false), (5, Ba g4), (6, .p 6 0), (7, .d (Sv s37)), (8, .d (.sl ((ns2).length) (natsD (ns2)))), (9, Ia z78), (12, Ba false), (21, Ba false), (38, Ba false), (42, Ba false), (46, Ba false), (68, Ba false), (81, Ba c81)] [(2, [Iv 0, Bv false, Iv 0]), (6, [Iv x, Bv false, Iv 0])] ?_
        cases c81
        ·replace hc81 := bf hc81
         refine iF (vc_skip (seq_n (vc_seq (vc_seqr rfl (iQ 1 (iX 9 (.string s37) (.int .i64 0) (some 88) ?_))))))
         refine And.intro (by rw [e37, tx_size]; omega) ?_
         intro z88 hz88
         refine iB .eql 5 (.int .u8 z88) (.int .u8 45) (some 89) ?_
         intro c89 hc89
         refine iE 108 [(0, .d (Sv (tx l))), (2, .p 2 0), (3, Ba false), (5, Ba g4), (6, .p 6 0), (7, .d (Sv s37)), (8, .d (.sl ((ns2).length) (natsD (ns2)))), (9, Ia z78), (12, Ba false), (21, Ba false), (38, Ba false), (42, Ba false), (46, Ba false), (68, Ba false), (81, Ba false), (89, Ba c89)] [(2, [Iv 0, Bv false, Iv 0]), (6, [Iv x, Bv false, Iv 0])] ?_
         cases c89
         ·replace hc89 := bf hc89
          refine iF (vc_skip (seq_n (vc_seqr rfl (iQ 2 (iC 157 [.agg [Iv x, Bv false, Iv 0], Iv z78] (some 95) (c_At (s := x) (z := false) (o0 := 0) (o := z78)) ?_)))))
          rintro _ ⟨x4, z4, o4, g5, rfl, h5⟩
          refine iQ 5 (iE 108 [(0, .d (Sv (tx l))), (2, .p 2 0), (3, Ba false), (5, Ba g5), (6, .p 6 0), (7, .d (Sv s37)), (8, .d (.sl ((ns2).length) (natsD (ns2)))), (9, Ia z78), (12, Ba false), (21, Ba false), (38, Ba false), (42, Ba false), (46, Ba false), (68, Ba false), (81, Ba false), (89, Ba false)] [(2, [Iv 0, Bv false, Iv 0]), (6, [Iv x4, Bv z4, Iv o4])] ?_)
          refine vc_seq (vc_seqr rfl (iQ 1 (iU .not (.bool g5) (some 99) ?_)))
          intro c99 hc99
          refine iQ 1 ?_
          cases c99
          ·replace hc99 := bf hc99
           refine iQ 1 (iC 159 [.agg [Iv x4, Bv z4, Iv o4]] (some 102) (c_lexTime) ?_)
           rintro _ rfl
           refine iQ 1 (iB .neq 9 (.string (tx (timeT x4 z4 o4))) (.string (tx l)) (some 104) ?_)
           intro c104 hc104
           refine iQ 1 (iE 108 [(0, .d (Sv (tx l))), (2, .p 2 0), (3, Ba false), (5, Ba g5), (6, .p 6 0), (7, .d (Sv s37)), (8, .d (.sl ((ns2).length) (natsD (ns2)))), (9, Ia z78), (12, Ba false), (21, Ba false), (38, Ba false), (42, Ba false), (46, Ba false), (68, Ba false), (81, Ba false), (89, Ba false), (105, Ba c104)] [(2, [Iv 0, Bv false, Iv 0]), (6, [Iv x4, Bv z4, Iv o4])] ?_)
           cases c104
           ·replace hc104 := bf hc104
            refine iF (vc_skip (seq_n (vc_seqr rfl (iQ 3 (iE 108 [(0, .d (Sv (tx l))), (2, .p 2 0), (3, Ba true), (5, Ba g5), (6, .p 6 0), (7, .d (Sv s37)), (8, .d (.sl ((ns2).length) (natsD (ns2)))), (9, Ia z78), (12, Ba false), (21, Ba false), (38, Ba false), (42, Ba false), (46, Ba false), (68, Ba false), (81, Ba false), (89, Ba false), (105, Ba false)] [(2, [Iv x4, Bv z4, Iv o4]), (6, [Iv x4, Bv z4, Iv o4])] ?_)))))
            refine vc_ret (iS (.agg [Iv x4, Bv z4, Iv o4]) (Bv true) [] ?_)
            exact TimeP_yes (Classical.not_not.1 hc104) h0
           ·replace hc104 := bt hc104
            refine iT (vc_seqr rfl (iQ 3 (iE 108 [(0, .d (Sv (tx l))), (2, .p 2 0), (3, Ba false), (5, Ba g5), (6, .p 6 0), (7, .d (Sv s37)), (8, .d (.sl ((ns2).length) (natsD (ns2)))), (9, Ia z78), (12, Ba false), (21, Ba false), (38, Ba false), (42, Ba false), (46, Ba false), (68, Ba false), (81, Ba false), (89, Ba false), (105, Ba true)] [(2, [Iv 0, Bv false, Iv 0]), (6, [Iv x4, Bv z4, Iv o4])] ?_)))
            refine vc_ret (seq_r (iS (.agg [Iv 0, Bv false, Iv 0]) (Bv false) [] ?_))
            exact TimeP_no l
          ·replace hc99 := bt hc99
           refine iQ 5 (iE 108 [(0, .d (Sv (tx l))), (2, .p 2 0), (3, Ba false), (5, Ba g5), (6, .p 6 0), (7, .d (Sv s37)), (8, .d (.sl ((ns2).length) (natsD (ns2)))), (9, Ia z78), (12, Ba false), (21, Ba false), (38, Ba false), (42, Ba false), (46, Ba false), (68, Ba false), (81, Ba false), (89, Ba false), (105, Ba true)] [(2, [Iv 0, Bv false, Iv 0]), (6, [Iv x4, Bv z4, Iv o4])] ?_)
           refine iT (vc_seqr rfl (iQ 3 (iE 108 [(0, .d (Sv (tx l))), (2, .p 2 0), (3, Ba false), (5, Ba g5), (6, .p 6 0), (7, .d (Sv s37)), (8, .d (.sl ((ns2).length) (natsD (ns2)))), (9, Ia z78), (12, Ba false), (21, Ba false), (38, Ba false), (42, Ba false), (46, Ba false), (68, Ba false), (81, Ba false), (89, Ba false), (105, Ba true)] [(2, [Iv 0, Bv false, Iv 0]), (6, [Iv x4, Bv z4, Iv o4])] ?_)))
           refine vc_ret (seq_r (iS (.agg [Iv 0, Bv false, Iv 0]) (Bv false) [] ?_))
           exact TimeP_no l
         ·replace hc89 := bt hc89
          refine iT (vc_reg rfl (iQ 1 (iU .neg (.int .i64 z78) (some 91) ?_)))
          intro z91 hz91
          try replace hz91 := hz91.i64 (by omega)
          refine iQ 1 (iE 108 [(0, .d (Sv (tx l))), (2, .p 2 0), (3, Ba false), (5, Ba g4), (6, .p 6 0), (7, .d (Sv s37)), (8, .d (.sl ((ns2).length) (natsD (ns2)))), (9, Ia z91), (12, Ba false), (21, Ba false), (38, Ba false), (42, Ba false), (46, Ba false), (68, Ba false), (81, Ba false), (89, Ba true)] [(2, [Iv 0, Bv false, Iv 0]), (6, [Iv x, Bv false, Iv 0])] ?_)
          refine seq_n (vc_seqr rfl (iQ 2 (iC 157 [.agg [Iv x, Bv false, Iv 0], Iv z91] (some 95) (c_At (s := x) (z := false) (o0 := 0) (o := z91)) ?_)))
          rintro _ ⟨x4, z4, o4, g5, rfl, h5⟩
          refine iQ 5 (iE 108 [(0, .d (Sv (tx l))), (2, .p 2 0), (3, Ba false), (5, Ba g5), (6, .p 6 0), (7, .d (Sv s37)), (8, .d (.sl ((ns2).length) (natsD (ns2)))), (9, Ia z91), (12, Ba false), (21, Ba false), (38, Ba false), (42, Ba false), (46, Ba false), (68, Ba false), (81, Ba false), (89, Ba true)] [(2, [Iv 0, Bv false, Iv 0]), (6, [Iv x4, Bv z4, Iv o4])] ?_)
          refine vc_seq (vc_seqr rfl (iQ 1 (iU .not (.bool g5) (some 99) ?_)))
          intro c99 hc99
          refine iQ 1 ?_
          cases c99
          ·replace hc99 := bf hc99
           refine iQ 1 (iC 159 [.agg [Iv x4, Bv z4, Iv o4]] (some 102) (c_lexTime) ?_)
           rintro _ rfl
           refine iQ 1 (iB .neq 9 (.string (tx (timeT x4 z4 o4))) (.string (tx l)) (some 104) ?_)
           intro c104 hc104
           refine iQ 1 (iE 108 [(0, .d (Sv (tx l))), (2, .p 2 0), (3, Ba false), (5, Ba g5), (6, .p 6 0), (7, .d (Sv s37)), (8, .d (.sl ((ns2).length) (natsD (ns2)))), (9, Ia z91), (12, Ba false), (21, Ba false), (38, Ba false), (42, Ba false), (46, Ba false), (68, Ba false), (81, Ba false), (89, Ba true), (105, Ba c104)] [(2, [Iv 0, Bv false, Iv 0]), (6, [Iv x4, Bv z4, Iv o4])] ?_)
           cases c104
           ·replace hc104 := bf hc104
            refine iF (vc_skip (seq_n (vc_seqr rfl (iQ 3 (iE 108 [(0, .d (Sv (tx l))), (2, .p 2 0), (3, Ba true), (5, Ba g5), (6, .p 6 0), (7, .d (Sv s37)), (8, .d (.sl ((ns2).length) (natsD (ns2)))), (9, Ia z91), (12, Ba false), (21, Ba false), (38, Ba false), (42, Ba false), (46, Ba false), (68, Ba false), (81, Ba false), (89, Ba true), (105, Ba false)] [(2, [Iv x4, Bv z4, Iv o4]), (6, [Iv x4, Bv z4, Iv o4])] ?_)))))
            refine vc_ret (iS (.agg [Iv x4, Bv z4, Iv o4]) (Bv true) [] ?_)
            exact TimeP_yes (Classical.not_not.1 hc104) h0
           ·replace hc104 := bt hc104
            refine iT (vc_seqr rfl (iQ 3 (iE 108 [(0, .d (Sv (tx l))), (2, .p 2 0), (3, Ba false), (5, Ba g5), (6, .p 6 0), (7, .d (Sv s37)), (8, .d (.sl ((ns2).length) (natsD (ns2)))), (9, Ia z91), (12, Ba false), (21, Ba false), (38, Ba false), (42, Ba false), (46, Ba false), (68, Ba false), (81, Ba false), (89, Ba true), (105, Ba true)] [(2, [Iv 0, Bv false, Iv 0]), (6, [Iv x4, Bv z4, Iv o4])] ?_)))
            refine vc_ret (seq_r (iS (.agg [Iv 0, Bv false, Iv 0]) (Bv false) [] ?_))
            exact TimeP_no l
          ·replace hc99 := bt hc99
           refine iQ 5 (iE 108 [(0, .d (Sv (tx l))), (2, .p 2 0), (3, Ba false), (5, Ba g5), (6, .p 6 0), (7, .d (Sv s37)), (8, .d (.sl ((ns2).length) (natsD (ns2)))), (9, Ia z91), (12, Ba false), (21, Ba false), (38, Ba false), (42, Ba false), (46, Ba false), (68, Ba false), (81, Ba false), (89, Ba true), (105, Ba true)] [(2, [Iv 0, Bv false, Iv 0]), (6, [Iv x4, Bv z4, Iv o4])] ?_)
           refine iT (vc_seqr rfl (iQ 3 (iE 108 [(0, .d (Sv (tx l))), (2, .p 2 0), (3, Ba false), (5, Ba g5), (6, .p 6 0), (7, .d (Sv s37)), (8, .d (.sl ((ns2).length) (natsD (ns2)))), (9, Ia z91), (12, Ba false), (21, Ba false), (38, Ba false), (42, Ba false), (46, Ba false), (68, Ba false), (81, Ba false), (89, Ba true), (105, Ba true)] [(2, [Iv 0, Bv false, Iv 0]), (6, [Iv x4, Bv z4, Iv o4])] ?_)))
           refine vc_ret (seq_r (iS (.agg [Iv 0, Bv false, Iv 0]) (Bv false) [] ?_))
           exact TimeP_no l
        ·replace hc81 := bt hc81
         obtain ⟨q2, hq2⟩ : ∃ q, ns2[2]? = some q := ⟨_, List.getElem?_eq_getElem (by omega)⟩
         have b2 := hlt2 _ (List.mem_of_getElem? hq2)
         refine iT (vc_reg rfl (iQ 2 (vcI_idx1 (q := 2) (n := ((ns2).length)) (cs := (natsD (ns2))) (d := .v (.int .i64 ((q2 : Int)))) (dst := (some 84)) (by kernel_rfl) (by omega) (nats_get (i := 2) hq2) ?_)))
         refine iQ 1 (iB .add 3 (.int .i64 z78) (.int .i64 ((q2 : Int))) (some 86) ?_)
         intro z86 hz86
         try replace hz86 := hz86.i64 (by omega)
         refine iQ 1 (iE 108 [(0, .d (Sv (tx l))), (2, .p 2 0), (3, Ba false), (5, Ba g4), (6, .p 6 0), (7, .d (Sv s37)), (8, .d (.sl ((ns2).length) (natsD (ns2)))), (9, Ia z86), (12, Ba false), (21, Ba false), (38, Ba false), (42, Ba false), (46, Ba false), (68, Ba false), (81, Ba true)] [(2, [Iv 0, Bv false, Iv 0]), (6, [Iv x, Bv false, Iv 0])] ?_)
         refine seq_n (vc_seq (vc_seqr rfl (iQ 1 (iX 9 (.string s37) (.int .i64 0) (some 88) ?_))))
         refine And.intro (by rw [e37, tx_size]; omega) ?_
         intro z88 hz88
         refine iB .eql 5 (.int .u8 z88) (.int .u8 45) (some 89) ?_
         intro c89 hc89
         refine iE 108 [(0, .d (Sv (tx l))), (2, .p 2 0), (3, Ba false), (5, Ba g4), (6, .p 6 0), (7, .d (Sv s37)), (8, .d (.sl ((ns2).length) (natsD (ns2)))), (9, Ia z86), (12, Ba false), (21, Ba false), (38, Ba false), (42, Ba false), (46, Ba false), (68, Ba false), (81, Ba true), (89, Ba c89)] [(2, [Iv 0, Bv false, Iv 0]), (6, [Iv x, Bv false, Iv 0])] ?_
         cases c89
         ·replace hc89 := bf hc89
          refine iF (vc_skip (seq_n (vc_seqr rfl (iQ 2 (iC 157 [.agg [Iv x, Bv false, Iv 0], Iv z86] (some 95) (c_At (s := x) (z := false) (o0 := 0) (o := z86)) ?_)))))
          rintro _ ⟨x4, z4, o4, g5, rfl, h5⟩
          refine iQ 5 (iE 108 [(0, .d (Sv (tx l))), (2, .p 2 0), (3, Ba false), (5, Ba g5), (6, .p 6 0), (7, .d (Sv s37)), (8, .d (.sl ((ns2).length) (natsD (ns2)))), (9, Ia z86), (12, Ba false), (21, Ba false), (38, Ba false), (42, Ba false), (46, Ba false), (68, Ba false), (81, Ba true), (89, Ba false)] [(2, [Iv 0, Bv false, Iv 0]), (6, [Iv x4, Bv z4, Iv o4])] ?_)
          refine vc_seq (vc_seqr rfl (iQ 1 (iU .not (.bool g5) (some 99) ?_)))
          intro c99 hc99
          refine iQ 1 ?_
          cases c99
          ·replace hc99 := bf hc99
           refine iQ 1 (iC 159 [.agg [Iv x4, Bv z4, Iv o4]] (some 102) (c_lexTime) ?_)
           rintro _ rfl
           refine iQ 1 (iB .neq 9 (.string (tx (timeT x4 z4 o4))) (.string (tx l)) (some 104) ?_)
           intro c104 hc104
           refine iQ 1 (iE 108 [(0, .d (Sv (tx l))), (2, .p 2 0), (3, Ba false), (5, Ba g5), (6, .p 6 0), (7, .d (Sv s37)), (8, .d (.sl ((ns2).length) (natsD (ns2)))), (9, Ia z86), (12, Ba false), (21, Ba false), (38, Ba false), (42, Ba false), (46, Ba false), (68, Ba false), (81, Ba true), (89, Ba false), (105, Ba c104)] [(2, [Iv 0, Bv false, Iv 0]), (6, [Iv x4, Bv z4, Iv o4])] ?_)
           cases c104
           ·replace hc104 := bf hc104
            refine iF (vc_skip (seq_n (vc_seqr rfl (iQ 3 (iE 108 [(0, .d (Sv (tx l))), (2, .p 2 0), (3, Ba true), (5, Ba g5), (6, .p 6 0), (7, .d (Sv s37)), (8, .d (.sl ((ns2).length) (natsD (ns2)))), (9, Ia z86), (12, Ba false), (21, Ba false), (38, Ba false), (42, Ba false), (46, Ba false), (68, Ba false), (81, Ba true), (89, Ba false), (105, Ba false)] [(2, [Iv x4, Bv z4, Iv o4]), (6, [Iv x4, Bv z4, Iv o4])] ?_)))))
            refine vc_ret (iS (.agg [Iv x4, Bv z4, Iv o4]) (Bv true) [] ?_)
            exact TimeP_yes (Classical.not_not.1 hc104) h0
           ·replace hc104 := bt hc104
            refine iT (vc_seqr rfl (iQ 3 (iE 108 [(0, .d (Sv (tx l))), (2, .p 2 0), (3, Ba false), (5, Ba g5), (6, .p 6 0), (7, .d (Sv s37)), (8, .d (.sl ((ns2).length) (natsD (ns2)))), (9, Ia z86), (12, Ba false), (21, Ba false), (38, Ba false), (42, Ba false), (46, Ba false), (68, Ba false), (81, Ba true), (89, Ba false), (105, Ba true)] [(2, [Iv 0, Bv false, Iv 0]), (6, [Iv x4, Bv z4, Iv o4])] ?_)))
            refine vc_ret (seq_r (iS (.agg [Iv 0, Bv false, Iv 0]) (Bv false) [] ?_))
            exact TimeP_no l
          ·replace hc99 := bt hc99
           refine iQ 5 (iE 108 [(0, .d (Sv (tx l))), (2, .p 2 0), (3, Ba false), (5, Ba g5), (6, .p 6 0), (7, .d (Sv s37)), (8, .d (.sl ((ns2).length) (natsD (ns2)))), (9, Ia z86), (12, Ba false), (21, Ba false), (38, Ba false), (42, Ba false), (46, Ba false), (68, Ba false), (81, Ba true), (89, Ba false), (105, Ba true)] [(2, [Iv 0, Bv false, Iv 0]), (6, [Iv x4, Bv z4, Iv o4])] ?_)
           refine iT (vc_seqr rfl (iQ 3 (iE 108 [(0, .d (Sv (tx l))), (2, .p 2 0), (3, Ba false), (5, Ba g5), (6, .p 6 0), (7, .d (Sv s37)), (8, .d (.sl ((ns2).length) (natsD (ns2)))), (9, Ia z86), (12, Ba false), (21, Ba false), (38, Ba false), (42, Ba false), (46, Ba false), (68, Ba false), (81, Ba true), (89, Ba false), (105, Ba true)] [(2, [Iv 0, Bv false, Iv 0]), (6, [Iv x4, Bv z4, Iv o4])] ?_)))
           refine vc_ret (seq_r (iS (.agg [Iv 0, Bv false, Iv 0]) (Bv false) [] ?_))
           exact TimeP_no l
         ·replace hc89 := bt hc89
          refine iT (vc_reg rfl (iQ 1 (iU .neg (.int .i64 z86) (some 91) ?_)))
          intro z91 hz91
          try replace hz91 := hz91.i64 (by omega)
          refine iQ 1 (iE 108 [(0, .d (Sv (tx l))), (2, .p 2 0), (3, Ba false), (5, Ba g4), (6, .p 6 0), (7, .d (Sv s37)), (8, .d (.sl ((ns2).length) (natsD (ns2)))), (9, Ia z91), (12, Ba false), (21, Ba false), (38, Ba false), (42, Ba false), (46, Ba false), (68, Ba false), (81, Ba true), (89, Ba true)] [(2, [Iv 0, Bv false, Iv 0]), (6, [Iv x, Bv false, Iv 0])] ?_)
          refine seq_n (vc_seqr rfl (iQ 2 (iC 157 [.agg [Iv x, Bv false, Iv 0], Iv z91] (some 95) (c_At (s := x) (z := false) (o0 := 0) (o := z91)) ?_)))
          rintro _ ⟨x4, z4, o4, g5, rfl, h5⟩
          refine iQ 5 (iE 108 [(0, .d (Sv (tx l))), (2, .p 2 0), (3, Ba false), (5, Ba g5), (6, .p 6 0), (7, .d (Sv s37)), (8, .d (.sl ((ns2).length) (natsD (ns2)))), (9, Ia z91), (12, Ba false), (21, Ba false), (38, Ba false), (42, Ba false), (46, Ba false), (68, Ba false), (81, Ba true), (89, Ba true)] [(2, [Iv 0, Bv false, Iv 0]), (6, [Iv x4, Bv z4, Iv o4])] ?_)
          refine vc_seq (vc_seqr rfl (iQ 1 (iU .not (.bool g5) (some 99) ?_)))
          intro c99 hc99
          refine iQ 1 ?_
          cases c99
          ·replace hc99 := bf hc99
           refine iQ 1 (iC 159 [.agg [Iv x4, Bv z4, Iv o4]] (some 102) (c_lexTime) ?_)
           rintro _ rfl
           refine iQ 1 (iB .neq 9 (.string (tx (timeT x4 z4 o4))) (.string (tx l)) (some 104) ?_)
           intro c104 hc104
           refine iQ 1 (iE 108 [(0, .d (Sv (tx l))), (2, .p 2 0), (3, Ba false), (5, Ba g5), (6, .p 6 0), (7, .d (Sv s37)), (8, .d (.sl ((ns2).length) (natsD (ns2)))), (9, Ia z91), (12, Ba false), (21, Ba false), (38, Ba false), (42, Ba false), (46, Ba false), (68, Ba false), (81, Ba true), (89, Ba true), (105, Ba c104)] [(2, [Iv 0, Bv false, Iv 0]), (6, [Iv x4, Bv z4, Iv o4])] ?_)
           cases c104
           ·replace hc104 := bf hc104
            refine iF (vc_skip (seq_n (vc_seqr rfl (iQ 3 (iE 108 [(0, .d (Sv (tx l))), (2, .p 2 0), (3, Ba true), (5, Ba g5), (6, .p 6 0), (7, .d (Sv s37)), (8, .d (.sl ((ns2).length) (natsD (ns2)))), (9, Ia z91), (12, Ba false), (21, Ba false), (38, Ba false), (42, Ba false), (46, Ba false), (68, Ba false), (81, Ba true), (89, Ba true), (105, Ba false)] [(2, [Iv x4, Bv z4, Iv o4]), (6, [Iv x4, Bv z4, Iv o4])] ?_)))))
            refine vc_ret (iS (.agg [Iv x4, Bv z4, Iv o4]) (Bv true) [] ?_)
            exact TimeP_yes (Classical.not_not.1 hc104) h0
           ·replace hc104 := bt hc104
            refine iT (vc_seqr rfl (iQ 3 (iE 108 [(0, .d (Sv (tx l))), (2, .p 2 0), (3, Ba false), (5, Ba g5), (6, .p 6 0), (7, .d (Sv s37)), (8, .d (.sl ((ns2).length) (natsD (ns2)))), (9, Ia z91), (12, Ba false), (21, Ba false), (38, Ba false), (42, Ba false), (46, Ba false), (68, Ba false), (81, Ba true), (89, Ba true), (105, Ba true)] [(2, [Iv 0, Bv false, Iv 0]), (6, [Iv x4, Bv z4, Iv o4])] ?_)))
            refine vc_ret (seq_r (iS (.agg [Iv 0, Bv false, Iv 0]) (Bv false) [] ?_))
            exact TimeP_no l
          ·replace hc99 := bt hc99
           refine iQ 5 (iE 108 [(0, .d (Sv (tx l))), (2, .p 2 0), (3, Ba false), (5, Ba g5), (6, .p 6 0), (7, .d (Sv s37)), (8, .d (.sl ((ns2).length) (natsD (ns2)))), (9, Ia z91), (12, Ba false), (21, Ba false), (38, Ba false), (42, Ba false), (46, Ba false), (68, Ba false), (81, Ba true), (89, Ba true), (105, Ba true)] [(2, [Iv 0, Bv false, Iv 0]), (6, [Iv x4, Bv z4, Iv o4])] ?_)
           refine iT (vc_seqr rfl (iQ 3 (iE 108 [(0, .d (Sv (tx l))), (2, .p 2 0), (3, Ba false), (5, Ba g5), (6, .p 6 0), (7, .d (Sv s37)), (8, .d (.sl ((ns2).length) (natsD (ns2)))), (9, Ia z91), (12, Ba false), (21, Ba false), (38, Ba false), (42, Ba false), (46, Ba false), (68, Ba false), (81, Ba true), (89, Ba true), (105, Ba true)] [(2, [Iv 0, Bv false, Iv 0]), (6, [Iv x4, Bv z4, Iv o4])] ?_)))
           refine vc_ret (seq_r (iS (.agg [Iv 0, Bv false, Iv 0]) (Bv false) [] ?_))
           exact TimeP_no l
       ·replace hc67 := bt hc67
        refine iT (vc_seqr rfl (iQ 3 (iE 108 [(0, .d (Sv (tx l))), (2, .p 2 0), (3, Ba false), (5, Ba g4), (6, .p 6 0), (7, .d (Sv s37)), (8, .d (.sl ((ns2).length) (natsD (ns2)))), (12, Ba false), (21, Ba false), (38, Ba false), (42, Ba false), (46, Ba false), (68, Ba true)] [(2, [Iv 0, Bv false, Iv 0]), (6, [Iv x, Bv false, Iv 0])] ?_)))
        refine vc_ret (seq_r (iS (.agg [Iv 0, Bv false, Iv 0]) (Bv false) [] ?_))
        exact TimeP_no l
      ·replace hc63 := bt hc63
       refine iQ 4 (iE 108 [(0, .d (Sv (tx l))), (2, .p 2 0), (3, Ba false), (5, Ba g4), (6, .p 6 0), (7, .d (Sv s37)), (8, .d (.sl ((ns2).length) (natsD (ns2)))), (12, Ba false), (21, Ba false), (38, Ba false), (42, Ba false), (46, Ba false), (68, Ba true)] [(2, [Iv 0, Bv false, Iv 0]), (6, [Iv x, Bv false, Iv 0])] ?_)
       refine iT (vc_seqr rfl (iQ 3 (iE 108 [(0, .d (Sv (tx l))), (2, .p 2 0), (3, Ba false), (5, Ba g4), (6, .p 6 0), (7, .d (Sv s37)), (8, .d (.sl ((ns2).length) (natsD (ns2)))), (12, Ba false), (21, Ba false), (38, Ba false), (42, Ba false), (46, Ba false), (68, Ba true)] [(2, [Iv 0, Bv false, Iv 0]), (6, [Iv x, Bv false, Iv 0])] ?_)))
       refine vc_ret (seq_r (iS (.agg [Iv 0, Bv false, Iv 0]) (Bv false) [] ?_))
       exact TimeP_no l
     ·replace hc48 := bt hc48
      have hz : l.drop 8 = [90] := (eq_tx (r := [90]) e37).1 hc48
      refine iT (vc_seqr rfl (iQ 1 (iC 157 [.agg [Iv x, Bv false, Iv 0], Iv 0] (some 50) (c_At (s := x) (z := false) (o0 := 0) (o := 0)) ?_)))
      rintro _ ⟨x', z', o', g3, rfl, h3⟩
      refine iQ 4 (iE 108 [(0, .d (Sv (tx l))), (2, .p 2 0), (3, Ba g3), (5, Ba g2), (6, .p 6 0), (7, .d (Sv s37)), (12, Ba false), (21, Ba false), (38, Ba false), (42, Ba false), (46, Ba true)] [(2, [Iv x', Bv z', Iv o']), (6, [Iv x, Bv false, Iv 0])] ?_)
      refine vc_ret (block_r (seq_r (iS (.agg [Iv x', Bv z', Iv o']) (Bv g3) [] ?_)))
      refine ⟨x', z', o', g3, rfl, ?_⟩; rcases h3 with ⟨q1, q2, q3, q4, q5⟩ | h3; exact .inl ⟨q1, by rw [q3, q4, q5]; exact q2, by rw [q3, q4, q5, hT, show zoneL true 0 = [90] from rfl, ← hz, List.take_append_drop]⟩; exact .inr h3
    ·replace hc44 := bt hc44
     have hd : l.drop 8 = [] := (eq_tx (r := []) e37).1 hc44
     refine iT (vc_seqr rfl (iQ 3 (iE 108 [(0, .d (Sv (tx l))), (2, .p 2 0), (3, Ba true), (5, Ba g2), (6, .p 6 0), (7, .d (Sv s37)), (12, Ba false), (21, Ba false), (38, Ba false), (42, Ba true)] [(2, [Iv x, Bv false, Iv 0]), (6, [Iv x, Bv false, Iv 0])] ?_)))
     refine vc_ret (block_r (seq_r (iS (.agg [Iv x, Bv false, Iv 0]) (Bv true) [] ?_)))
     exact ⟨x, false, 0, true, rfl, .inl ⟨rfl, by unfold mayT; simp; omega, by rw [hT, show zoneL false 0 = [] from rfl, ← hd, List.take_append_drop]⟩⟩
   ·replace hc40 := bt hc40
    refine iT (vc_seqr rfl (iQ 3 (iE 108 [(0, .d (Sv (tx l))), (2, .p 2 0), (3, Ba false), (5, Ba g2), (6, .p 6 0), (7, .d (Sv s37)), (12, Ba false), (21, Ba false), (38, Ba true)] [(2, [Iv 0, Bv false, Iv 0]), (6, [Iv x, Bv false, Iv 0])] ?_)))
    refine vc_ret (block_r (seq_r (iS (.agg [Iv 0, Bv false, Iv 0]) (Bv false) [] ?_)))
    exact TimeP_no l
  ·replace hc21 := bt hc21
   refine iT (vc_seqr rfl (iQ 3 (iE 108 [(0, .d (Sv (tx l))), (2, .p 2 0), (3, Ba false), (4, .d (.sl ((ns).length) (natsD (ns)))), (5, Ba g), (12, Ba false), (21, Ba true)] [(2, [Iv 0, Bv false, Iv 0])] ?_)))
   refine vc_ret (seq_r (iS (.agg [Iv 0, Bv false, Iv 0]) (Bv false) [] ?_))
   exact TimeP_no l
 ·replace hc12 := bt hc12
  refine iT (vc_seqr rfl (iQ 3 (iE 108 [(0, .d (Sv (tx l))), (2, .p 2 0), (3, Ba false), (12, Ba true)] [(2, [Iv 0, Bv false, Iv 0])] ?_)))
  refine vc_ret (seq_r (iS (.agg [Iv 0, Bv false, Iv 0]) (Bv false) [] ?_))
  exact TimeP_no l
def MomP (l : L8) (r : DV) : Prop := ∃ (y m d s : Int) (z : Bool) (o : Int) (ok : Bool), r = .tup [.agg [.v (.int .i64 y), .v (.int .i64 m), .v (.int .i64 d), .v (.int .i64 s), .v (.bool z), .v (.int .i64 o)], .v (.bool ok)] ∧
  (ok = true ∧ (mayD y m d ∧ mayT s z o ∧ l = dateL y m d ++ [84] ++ timeL s z o) ∨ ok = false ∧ y = 0 ∧ m = 0 ∧ d = 0 ∧ s = 0 ∧ z = false ∧ o = 0)
theorem MomP_no (l : L8) : MomP l (.tup [.agg [.v (.int .i64 0), .v (.int .i64 0), .v (.int .i64 0), .v (.int .i64 0), .v (.bool false), .v (.int .i64 0)], .v (.bool false)]) := ⟨0, 0, 0, 0, false, 0, false, rfl, .inr ⟨rfl, rfl, rfl, rfl, rfl, rfl, rfl⟩⟩
theorem c_ReadMoment {l : L8} (hL : l.length < 4294967281) : HasC Tryz.prog 112 [.v (.string (tx l))] (MomP l) := by
 refine HasC.of [] (fn := Tryz.f112) tyOk mixed (fun args w => Tryz.call112 args w) Tryz.func112 rfl (by kernel_rfl) (Nat.le_of_ble_eq_true rfl) (⟨_, MomP_no l⟩) ?_
 refine vc_seqr rfl (iQ 2 (iE 41 [(0, .d (Sv (tx l))), (2, .p 2 0), (3, Ba false)] [(2, [Iv 0, Iv 0, Iv 0, Iv 0, Bv false, Iv 0])] ?_))
 refine vc_seqr rfl (iQ 1 (iC 53 [Sv (tx l), Sv (⟨#[84]⟩)] (some 13) (c_sCut (c := 84) hL) ?_))
 rintro _ ⟨a, e, g, rfl, h1, h2, h3⟩
 refine iQ 7 (iE 41 [(2, .p 2 0), (3, Ba false), (4, .d (Sv (tx a))), (5, .d (Sv (tx e))), (6, Ba g)] [(2, [Iv 0, Iv 0, Iv 0, Iv 0, Bv false, Iv 0])] ?_)
 refine vc_seqr rfl (iQ 1 (iC 108 [Sv (tx a)] (some 19) (c_ReadDate (l := a) (by omega)) ?_))
 rintro _ ⟨y, m, d, g1, rfl, hd⟩
 refine iQ 6 (iE 41 [(2, .p 2 0), (3, Ba false), (5, .d (Sv (tx e))), (6, Ba g), (7, .p 7 0), (8, Ba g1)] [(2, [Iv 0, Iv 0, Iv 0, Iv 0, Bv false, Iv 0]), (7, [Iv y, Iv m, Iv d])] ?_)
 refine vc_seqr rfl (iQ 1 (iC 110 [Sv (tx e)] (some 24) (c_ReadTime (l := e) (by omega)) ?_))
 rintro _ ⟨s, z, o, g2, rfl, ht⟩
 refine iQ 6 (iE 41 [(2, .p 2 0), (3, Ba false), (6, Ba g), (7, .p 7 0), (8, Ba g1), (9, .p 9 0), (10, Ba g2)] [(2, [Iv 0, Iv 0, Iv 0, Iv 0, Bv false, Iv 0]), (7, [Iv y, Iv m, Iv d]), (9, [Iv s, Bv z, Iv o])] ?_)
 refine vc_seq (vc_seqr rfl (iQ 1 (iU .not (.bool g) (some 28) ?_)))
 intro c28 hc28
 refine iQ 1 ?_
 cases c28
 ·replace hc28 := bf hc28
  refine iQ 1 (iU .not (.bool g1) (some 31) ?_)
  intro c31 hc31
  refine iQ 2 ?_
  cases c31
  ·replace hc31 := bf hc31
   refine iQ 1 (iU .not (.bool g2) (some 35) ?_)
   intro c35 hc35
   refine iQ 1 (iE 41 [(2, .p 2 0), (3, Ba false), (7, .p 7 0), (9, .p 9 0), (36, Ba c35)] [(2, [Iv 0, Iv 0, Iv 0, Iv 0, Bv false, Iv 0]), (7, [Iv y, Iv m, Iv d]), (9, [Iv s, Bv z, Iv o])] ?_)
   cases c35
   ·replace hc35 := bf hc35
    have d1 := or_t hd hc31
    have t1 := or_t ht hc35
    refine iF (vc_skip (seq_n (vc_seqr rfl (iQ 5 (iE 41 [(2, .p 2 0), (3, Ba true), (7, .p 7 0), (9, .p 9 0), (36, Ba false)] [(2, [Iv y, Iv m, Iv d, Iv s, Bv z, Iv o]), (7, [Iv y, Iv m, Iv d]), (9, [Iv s, Bv z, Iv o])] ?_)))))
    refine vc_ret (iS (.agg [Iv y, Iv m, Iv d, Iv s, Bv z, Iv o]) (Bv true) [] ?_)
    exact ⟨y, m, d, s, z, o, true, rfl, .inl ⟨rfl, d1.1, t1.1, by rw [h1 (by simpa using hc28), ← d1.2, ← t1.2]; simp⟩⟩
   ·replace hc35 := bt hc35
    refine iT (vc_seqr rfl (iQ 3 (iE 41 [(2, .p 2 0), (3, Ba false), (7, .p 7 0), (9, .p 9 0), (36, Ba true)] [(2, [Iv 0, Iv 0, Iv 0, Iv 0, Bv false, Iv 0]), (7, [Iv y, Iv m, Iv d]), (9, [Iv s, Bv z, Iv o])] ?_)))
    refine vc_ret (seq_r (iS (.agg [Iv 0, Iv 0, Iv 0, Iv 0, Bv false, Iv 0]) (Bv false) [] ?_))
    exact MomP_no l
  ·replace hc31 := bt hc31
   refine iQ 3 (iE 41 [(2, .p 2 0), (3, Ba false), (7, .p 7 0), (9, .p 9 0), (36, Ba true)] [(2, [Iv 0, Iv 0, Iv 0, Iv 0, Bv false, Iv 0]), (7, [Iv y, Iv m, Iv d]), (9, [Iv s, Bv z, Iv o])] ?_)
   refine iT (vc_seqr rfl (iQ 3 (iE 41 [(2, .p 2 0), (3, Ba false), (7, .p 7 0), (9, .p 9 0), (36, Ba true)] [(2, [Iv 0, Iv 0, Iv 0, Iv 0, Bv false, Iv 0]), (7, [Iv y, Iv m, Iv d]), (9, [Iv s, Bv z, Iv o])] ?_)))
   refine vc_ret (seq_r (iS (.agg [Iv 0, Iv 0, Iv 0, Iv 0, Bv false, Iv 0]) (Bv false) [] ?_))
   exact MomP_no l
 ·replace hc28 := bt hc28
  refine iQ 7 (iE 41 [(2, .p 2 0), (3, Ba false), (7, .p 7 0), (9, .p 9 0), (36, Ba true)] [(2, [Iv 0, Iv 0, Iv 0, Iv 0, Bv false, Iv 0]), (7, [Iv y, Iv m, Iv d]), (9, [Iv s, Bv z, Iv o])] ?_)
  refine iT (vc_seqr rfl (iQ 3 (iE 41 [(2, .p 2 0), (3, Ba false), (7, .p 7 0), (9, .p 9 0), (36, Ba true)] [(2, [Iv 0, Iv 0, Iv 0, Iv 0, Bv false, Iv 0]), (7, [Iv y, Iv m, Iv d]), (9, [Iv s, Bv z, Iv o])] ?_)))
  refine vc_ret (seq_r (iS (.agg [Iv 0, Iv 0, Iv 0, Iv 0, Bv false, Iv 0]) (Bv false) [] ?_))
  exact MomP_no l
end Go.Proofs.YtpambeengdhhmaaGreatDoor
