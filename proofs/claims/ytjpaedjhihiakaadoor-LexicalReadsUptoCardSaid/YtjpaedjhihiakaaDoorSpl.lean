/-
  strings.Split, strings.Cut, strings.Count at a sign of one byte: the kit's contracts, as what reads so.
-/
import Derived.Test.YtjpaedjhihiakaaDoorLay
import Derived.Test.YtjpaedjhihiakaaDoorIto
import Derived.Lib.SplitLaws
import Derived.Lib.CutLaws
import Derived.Sort.Grow
namespace Go.Proofs.YtjpaedjhihiakaaDoor
open Go.Shelf Go.RowKit
set_option linter.unusedVariables false
set_option linter.unusedSimpArgs false
set_option maxRecDepth 100000

theorem Kw.maxLen {w : World} (h : Kw w) : ∃ m, w.cell? ⟨0, 0, none⟩ = some (.int .i64 m) := by
  rcases h.mx with h | ⟨cs, h1, m, rfl⟩
  · have h2 : (Tryd.prog.globalNamed "internal/bytealg.MaxLen").isSome = true := by kernel_rfl
    rw [h] at h2
    cases h2
  · have := World.var?_cell (show Tryd.prog.globalNamed "internal/bytealg.MaxLen" = some 0 by kernel_rfl) h1 0
    exact ⟨m, by rw [this]; rfl⟩
theorem relL_args {Im : Nat → Nat → Prop} {W : World} {ds : List DV} {vs : List Value} {us : Array Value} (hb : ds.map DV.base = vs.map some) (hr : DV.relL Im W ds us.toList) : us = vs.toArray := by
  apply Array.ext'
  have hl := DV.relL_length hr
  have hl2 : ds.length = vs.length := by have := congrArg List.length hb; simpa using this
  apply List.ext_getElem?
  intro i
  by_cases hi : i < ds.length
  · obtain ⟨y, hy, hry⟩ := DV.relL_get hr (show ds[i]? = some ds[i] by simp [hi])
    have hbi : (ds.map DV.base)[i]? = (vs.map some)[i]? := by rw [hb]
    simp [hi, show i < vs.length by omega] at hbi
    rw [hy, DV.base_rel hbi hry]
    simp [show i < vs.length by omega]
  · rw [List.getElem?_eq_none (by omega), List.getElem?_eq_none (by simp; omega)]

-- joined
def joinL (c : UInt8) : List L8 → L8
  | [] => []
  | [p] => p
  | p :: q :: r => p ++ c :: joinL c (q :: r)
def strsD (ps : List L8) : List DV := ps.map fun p => .v (.string (tx p))
@[simp] theorem strsD_len (ps : List L8) : (strsD ps).length = ps.length := by simp [strsD]
theorem strs_get {ps : List L8} {i : Nat} {p : L8} (h : ps[i]? = some p) : (strsD ps)[((i : Nat) : Int).toNat]? = some (.v (.string (tx p))) := by simp [strsD, h]
theorem one_at {s : ByteArray} {c : UInt8} {i : Nat} (h : Lib.indexB s (tx [c]) = i) : i < s.size ∧ s.data.toList[i]? = some c := by
  have h1 : Lib.index s.data.toList [c] = (i : Int) := h
  rcases Lib.index_spec s.data.toList [c] with ⟨h2, _⟩ | ⟨j, h2, h3, h4, _⟩
  · rw [h2] at h1; omega
  · obtain rfl : j = i := by omega
    have h5 : (s.data.toList.drop j).head? = some c := by
      unfold Lib.occAt at h4
      cases hd : s.data.toList.drop j with
      | nil => rw [hd] at h4; cases h4
      | cons a r =>
        rw [hd] at h4
        simp at h4
        rw [h4]
        rfl
    rw [List.head?_drop] at h5
    refine ⟨?_, h5⟩
    have := (List.getElem?_eq_some_iff.1 h5).1
    simpa using this
theorem cut_at {l : L8} {c : UInt8} {i : Nat} (h : l[i]? = some c) : l = l.take i ++ c :: l.drop (i + 1) := by
  obtain ⟨h1, h2⟩ := List.getElem?_eq_some_iff.1 h
  rw [← h2, ← List.drop_eq_getElem_cons h1, List.take_append_drop]
theorem ext_list (s : ByteArray) (a b : Nat) : (s.extract a b).data.toList = (s.data.toList.drop a).take (b - a) := by
  have h := tx_extract s.data.toList a b
  rw [← tx_eta] at h
  rw [h]
  rfl
theorem split_join (c : UInt8) : ∀ (k : Nat) (s : ByteArray), (Lib.splitB (tx [c]) 0 k s) ≠ [] ∧ joinL c ((Lib.splitB (tx [c]) 0 k s).map fun b => b.data.toList) = s.data.toList
  | 0, s => by simp [Lib.splitB_zero, joinL]
  | k + 1, s => by
    rcases Lib.indexB_cases s (tx [c]) with h | ⟨i, h, _⟩
    · rw [Lib.splitB_miss _ _ _ _ h]
      simp [joinL]
    · rw [Lib.splitB_hit _ _ _ _ i h]
      obtain ⟨h1, h2⟩ := one_at h
      obtain ⟨q1, q2⟩ := split_join c k (s.extract (i + (tx [c]).size) s.size)
      refine ⟨by simp, ?_⟩
      cases hr : Lib.splitB (tx [c]) 0 k (s.extract (i + (tx [c]).size) s.size) with
      | nil => exact absurd hr q1
      | cons a r =>
        rw [hr] at q2
        simp only [List.map_cons, joinL] at q2 ⊢
        rw [q2]
        have e1 : (s.extract 0 (i + 0)).data.toList = s.data.toList.take i := by rw [ext_list]; rfl
        have e2 : (s.extract (i + (tx [c]).size) s.size).data.toList = s.data.toList.drop (i + 1) := by
          rw [ext_list, tx_size, List.length_singleton]
          exact List.take_of_length_le (by rw [List.length_drop, Array.length_toList]; exact Nat.le_refl _)
        rw [e1, e2]
        exact (cut_at h2).symm
theorem strs_cell (W : World) (bs : List ByteArray) (t : TypeId) {i : Nat} (h : i < bs.length) : (W.alloc (.cells (bs.map Value.string).toArray t)).cell? ⟨W.heap.size, i, none⟩ = some (.string bs[i]) := by
  rw [World.cell?_alloc_new, List.getElem?_toArray, List.getElem?_map, List.getElem?_eq_getElem h]
  rfl
def SpP (c : UInt8) (l : L8) (r : DV) : Prop := ∃ ps : List L8, r = .sl ps.length (strsD ps) ∧ joinL c ps = l ∧ ps.length ≤ 4294967300
theorem c_Split {l : L8} {c : UInt8} (hl : l.length < 4294967281) : HasC Tryd.prog 64 [.v (.string (tx l)), .v (.string (tx [c]))] (SpP c l) := by
  refine ⟨fun args w => Tryd.call64 args w, ⟨_, [l], rfl, rfl, by rw [List.length_singleton]; omega⟩, fun W vs Im hK hIm hr => ?_⟩
  obtain rfl := relL_args (vs := [.string (tx l), .string (tx [c])]) rfl hr
  obtain ⟨m, hm⟩ := hK.maxLen
  have hs : (tx l).size < 4294967281 := by rw [tx_size]; exact hl
  have h1 : 1 ≤ (tx [c]).size := by rw [tx_size]; exact Nat.le_refl _
  have hlen := Lib.splitB_all (tx [c]) h1 0 _ (tx l) rfl
  have hcl := Lib.countB_le (tx [c]) h1 (tx l).size (tx l) (Nat.le_refl _)
  obtain ⟨j1, j2⟩ := split_join c (Lib.countB (tx l) (tx [c])) (tx l)
  refine (Any.strings_Split laysSplit (by kernel_rfl) (tx l) (tx [c]) m W hs hm h1).mono fun e w' ⟨he, hw⟩ => ?_
  obtain ⟨bs, hbs⟩ : ∃ bs, bs = Lib.splitB (tx [c]) 0 (Lib.countB (tx l) (tx [c])) (tx l) := ⟨_, rfl⟩
  rw [← hbs] at hlen j1 j2 hw
  rw [← hlen] at he
  subst hw
  have hB : Below W.heap.size W (W.alloc (.cells (bs.map Value.string).toArray (laysSplit_ren.t 9))) := (Below.refl _ _).alloc (Nat.le_refl _) _
  have hbl : bs.length ≤ 4294967281 := by omega
  refine ⟨_, .sl bs.length (strsD (bs.map fun b => b.data.toList)), he, ⟨bs.map fun b => b.data.toList, by rw [List.length_map], j2, by rw [List.length_map]; omega⟩, ?_, hB⟩
  rw [DV.rel]
  refine .inr ⟨_, _, _, rfl, Nat.le_refl _, Nat.le_trans hbl (by decide), DV.relC_mk fun i d hd => ?_⟩
  obtain ⟨hi, he⟩ := List.getElem?_eq_some_iff.1 hd
  have hib : i < bs.length := by rw [strsD_len, List.length_map] at hi; exact hi
  refine ⟨.inr ⟨Nat.le_refl _, by rw [World.alloc, Array.size_push]; exact Nat.lt_succ_self _⟩, .string bs[i], ?_, ?_⟩
  · rw [Nat.zero_add]
    exact strs_cell W bs _ hib
  · rw [← he]
    simp only [strsD, List.getElem_map]
    rw [DV.rel, ← tx_eta]
/-- What Cut tells. -/
def CutP (c : UInt8) (l : L8) (r : DV) : Prop := ∃ (a b : L8) (g : Bool), r = .tup [.v (.string (tx a)), .v (.string (tx b)), .v (.bool g)] ∧ (g = true → l = a ++ c :: b) ∧ a.length ≤ l.length ∧ b.length ≤ l.length
theorem c_Cut {l : L8} {c : UInt8} (hl : l.length < 4294967281) : HasC Tryd.prog 70 [.v (.string (tx l)), .v (.string (tx [c]))] (CutP c l) :=
  (HasC.ofCallsK (vs := [.string (tx l), .string (tx [c])]) (R := fun r => ∃ (a b : L8) (g : Bool), r = .tuple #[.string (tx a), .string (tx b), .bool g] ∧ (g = true → l = a ++ c :: b) ∧ a.length ≤ l.length ∧ b.length ≤ l.length) (fun args w => Tryd.call70 args w)
    ⟨_, l, [], false, rfl, (fun h => by cases h), Nat.le_refl _, by simp⟩ rfl fun w hk => by
      obtain ⟨m, hm⟩ := hk.maxLen
      have hs : (tx l).size < 4294967281 := by rw [tx_size]; exact hl
      refine (Any.strings_Cut laysCut (tx l) (tx [c]) m w hs hm).mono fun e w' ⟨he, n, hw⟩ => ⟨_, he, ⟨(Lib.cut l [c]).1, (Lib.cut l [c]).2.1, (Lib.cut l [c]).2.2, rfl, ?_, ?_, ?_⟩, by rw [hw]; exact grow_below w n #[]⟩
      · unfold Lib.cut
        split
        · rename_i h
          intro _
          have h1 : Lib.indexB (tx l) (tx [c]) = ((Lib.index l [c]).toNat : Int) := by
            show Lib.index l [c] = _
            omega
          exact cut_at (one_at h1).2
        · intro h; cases h
      · unfold Lib.cut
        split
        · simp; omega
        · simp
      · unfold Lib.cut
        split
        · simp
        · simp).mono fun y ⟨r, ⟨a, b, g, hr, h1, h2, h3⟩, hy⟩ => ⟨a, b, g, by rw [hy, hr]; rfl, h1, h2, h3⟩
theorem c_Count {l : L8} {c : UInt8} (hl : l.length < 4294967281) : HasC Tryd.prog 69 [.v (.string (tx l)), .v (.string (tx [c]))] (fun y => ∃ n : Nat, y = .v (.int .i64 (n : Int)) ∧ n ≤ l.length) :=
  (HasC.ofCallsK (vs := [.string (tx l), .string (tx [c])]) (R := fun r => ∃ n : Nat, r = .int .i64 (n : Int) ∧ n ≤ l.length) (fun args w => Tryd.call69 args w) ⟨_, 0, rfl, Nat.zero_le _⟩ rfl fun w hk =>
    (Any.strings_Count_one laysCount (tx l) c w).mono fun e w' ⟨he, hw⟩ => ⟨_, he, ⟨Lib.countByte l c, rfl, List.count_le_length⟩, by rw [hw]; exact Below.refl _ _⟩).mono fun y ⟨r, ⟨n, hr, h⟩, hy⟩ => ⟨n, by rw [hy, hr]; rfl, h⟩
end Go.Proofs.YtjpaedjhihiakaaDoor
