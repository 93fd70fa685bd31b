/-
  A slice of numbers that the program itself has made: what it reads as, carried over calls and new blocks.
-/
import Derived.Test.YtpnfomnnbmncaaaBlk
import Derived.Test.YtpnfomnnbmncaaaDig
import Derived.WalkSpells
import Derived.WalkLawsBesides
import Derived.Laws.AppendOwnNone
namespace Go.Proofs.Ytpnfomnnbmncaaa
open Go.RowKit
set_option linter.unusedVariables false

theorem info_int : (Try.prog.info? 3).map (fun i => (i.zero, i.size, i.bytes)) = some (some (.int .i64 0), 1, 8) := by kernel_rfl

/-- An append whose second argument's type is another slice type's name. -/
theorem append_types {P : Program} {w : World} {t tx e e' : TypeId} (ht : P.underlying t = some (.slice e)) (hx : P.underlying tx = some (.slice e')) (ty : TypeId) (bs : Option Addr) (n cp : Nat) (ad : Option Addr) (m c : Nat) {i : TypeInfo} (hi : P.info? e = some i) :
    (Builtin.append_ #[t, tx] ty #[.slice bs n cp, .slice ad m c]).run P w = (Builtin.append_ #[t, t] ty #[.slice bs n cp, .slice ad m c]).run P w := by
  simp [Builtin.append_, run_underlying ht, run_underlying hx, sizeOf, typeInfo, hi]

theorem ownsRow_slice {w : World} {base : Nat} {e : TypeId} {size : Nat} {v : Value} {n : Nat} {xs : List Value} (h : w.ownsRow base e size v n xs) : ∃ bs cp, v = .slice bs n cp := by
  rcases h.2 with ⟨h1, h2⟩ | ⟨g, cap, cur, hv, _⟩
  · subst h2; exact ⟨_, _, h1⟩
  · exact ⟨_, _, hv⟩

theorem wpList_append_own_x {P : Program} {w : World} {ops : Array Oper} {rest : List Oper} {o : Oper} {a : Act} {Q : Exit → Act → World → Prop} (hgd : o.guard = none) (s x : Operand) (t tx : TypeId)
    (ho : o.op = .call { callee := .builtin .append, args := #[s, x], argTypes := #[t, tx] })
    (base : Nat) (e e' : TypeId) (i : TypeInfo) (z : Value) (size bytes : Nat) (ht : P.underlying t = some (.slice e)) (htx : P.underlying tx = some (.slice e')) (hi : P.info? e = some i) (hz : i.zero = some z)
    (hsize : i.size = size) (hby : i.bytes = bytes) (hzs : z.cells.size = size) (hsz : 0 < size)
    (v : Value) (n : Nat) (xs : List Value) (hs : a.eval s = v) (hown : w.ownsRow base e size v n xs)
    (ad : Addr) (m c : Nat) (news : List Value) (hx : a.eval x = .slice (some ad) m c) (hl : news.length = m * size) (hnews : ∀ j u, news[j]? = some u → w.cell? (ad.add j) = some u) (h1 : ∀ u ∈ news, u.oneCell' = true)
    (h63 : n + m ≤ maxLen) (hbytes : (n + m) * bytes ≤ 140737488355328) (hbase : base ≤ w.heap.size)
    (h : ∀ v' w', w'.ownsRow base e size v' (n + m) (xs ++ news) → w.grownBy w' v.ownBlock → (v' = .slice none 0 0 ↔ v = .slice none 0 0 ∧ m = 0) → wpList P ops Q rest (a.put o.dst v') w') : wpList P ops Q (o :: rest) a w := by
  refine wpList_plain hgd fun K hK => ?_
  obtain ⟨v', w', hr, h2, h3, h4⟩ := run_append_own (P := P) w base t o.type e i z size bytes ht hi hz hsize hby hzs hsz v n xs hown ad m c news hl hnews h1 h63 hbytes hbase
  obtain ⟨bs, cp, rfl⟩ := ownsRow_slice hown
  rw [← append_types ht htx _ _ _ _ _ _ _ hi] at hr
  unfold Oper.wp execOp
  simp only [ho, resolve, invoke, builtin, Sem.run_bind, Sem.run_pure, Result.andThen_ok, List.map_toArray, List.map_cons, List.map_nil, hs, hx, hr]
  exact hK _ _ (h v' w' h2 h3 h4)

theorem wpList_append_own_none_x {P : Program} {w : World} {ops : Array Oper} {rest : List Oper} {o : Oper} {a : Act} {Q : Exit → Act → World → Prop} (hgd : o.guard = none) (s x : Operand) (t tx : TypeId)
    (ho : o.op = .call { callee := .builtin .append, args := #[s, x], argTypes := #[t, tx] })
    (base : Nat) (e e' : TypeId) (i : TypeInfo) (size : Nat) (ht : P.underlying t = some (.slice e)) (htx : P.underlying tx = some (.slice e')) (hi : P.info? e = some i)
    (v : Value) (n : Nat) (xs : List Value) (hs : a.eval s = v) (hown : w.ownsRow base e size v n xs) (hx : a.eval x = .slice none 0 0)
    (h : wpList P ops Q rest (a.put o.dst v) w) : wpList P ops Q (o :: rest) a w := by
  refine wpList_plain hgd fun K hK => ?_
  have hrun := run_append_owned_none (P := P) (w := w) base t o.type e i size ht hi v n xs hown
  obtain ⟨bs, cp, rfl⟩ := ownsRow_slice hown
  rw [← append_types ht htx _ _ _ _ _ _ _ hi] at hrun
  unfold Oper.wp execOp
  simp only [ho, resolve, invoke, builtin, Sem.run_bind, Sem.run_pure, Result.andThen_ok, List.map_toArray, List.map_cons, List.map_nil, hs, hx, hrun]
  exact hK _ _ h

/-- The cells of some digits. -/
def dcells (ds : List Nat) : List Value := ds.map fun (d : Nat) => Value.int .i64 (d : Int)
theorem dcells_length (ds : List Nat) : (dcells ds).length = ds.length := by simp [dcells]
theorem dcells_get {ds : List Nat} {i : Nat} (h : i < ds.length) : (dcells ds)[i]? = some (.int .i64 ((ds[i] : Nat) : Int)) := by simp [dcells, h]
theorem dcells_append (ds es : List Nat) : dcells (ds ++ es) = dcells ds ++ dcells es := by simp [dcells]
theorem dcells_one {ds : List Nat} : ∀ u ∈ dcells ds, u.oneCell' = true := by
  intro u hu
  obtain ⟨d, _, rfl⟩ := List.mem_map.1 hu
  rfl

/-- The slice v reads as the digits ds: it is nil, or begins at the head of a block of the program's own. -/
def Row (w : World) (v : Value) (ds : List Nat) : Prop := w.ownsRow 0 3 1 v ds.length (dcells ds)

theorem ownsRow_base {w : World} {b b' : Nat} {e : TypeId} {size : Nat} {v : Value} {n : Nat} {xs : List Value} (h : w.ownsRow b e size v n xs) (hb : b' ≤ b) : w.ownsRow b' e size v n xs := by
  obtain ⟨h1, h2⟩ := h
  refine ⟨h1, ?_⟩
  rcases h2 with h2 | ⟨g, cap, cur, hv, hg, r⟩
  · exact .inl h2
  · exact .inr ⟨g, cap, cur, hv, by omega, r⟩
theorem ownsRow_below {w w' : World} {b : Nat} {e : TypeId} {size : Nat} {v : Value} {n : Nat} {xs : List Value} (h : w.ownsRow b e size v n xs) (hb : Below w.heap.size w w') : w'.ownsRow b e size v n xs := by
  obtain ⟨h1, h2⟩ := h
  refine ⟨h1, ?_⟩
  rcases h2 with h2 | ⟨g, cap, cur, hv, hg, hh, r⟩
  · exact .inl h2
  · exact .inr ⟨g, cap, cur, hv, hg, by rw [hb.block g (lt_of_block hh)]; exact hh, r⟩
theorem ownsRow_other {w : World} {b : Nat} {e : TypeId} {size : Nat} {v : Value} {n : Nat} {xs : List Value} (h : w.ownsRow b e size v n xs) {a : Addr} {cs : Array Value} (k : Blk w a.block cs) (x : Value) (hne : ∀ cur, w.heap[a.block]? ≠ some (.cells cur e (0, 0))) : (w.setCell a x).ownsRow b e size v n xs := by
  obtain ⟨h1, h2⟩ := h
  refine ⟨h1, ?_⟩
  rcases h2 with h2 | ⟨g, cap, cur, hv, hg, hh, r⟩
  · exact .inl h2
  · refine .inr ⟨g, cap, cur, hv, hg, ?_, r⟩
    rw [Below.heap_setCell _ _ _ _ (fun e => hne cur (e ▸ hh))]
    exact hh

theorem Row.nil (w : World) : Row w (.slice none 0 0) [] := ⟨by simp [dcells], .inl ⟨rfl, rfl⟩⟩
theorem Row.below {w w' : World} {v : Value} {ds : List Nat} (h : Row w v ds) (hb : Below w.heap.size w w') : Row w' v ds := ownsRow_below h hb
theorem Row.alloc {w : World} {v : Value} {ds : List Nat} (h : Row w v ds) (o : Obj) : Row (w.alloc o) v ds := World.ownsRow.alloc h o
theorem Row.drew {w : World} {v : Value} {ds : List Nat} (h : Row w v ds) : Row w.drew v ds := h
theorem Row.drewN {w : World} {v : Value} {ds : List Nat} (h : Row w v ds) (n : Nat) : Row (w.drewN n) v ds := h
/-- A store into a block from a number on that the slice lies below. -/
theorem Row.set {w : World} {v : Value} {ds : List Nat} (h : Row w v ds) {a : Addr} (x : Value) (hne : ∀ k, v.ownBlock = some k → k ≠ a.block) : Row (w.setCell a x) v ds :=
  ownsRow_setCell_other h (by
    intro e
    exact hne _ e rfl) x

/-- What a slice that reads as digits is: nil, or an address, with its cells. -/
theorem Row.shape {w : World} {v : Value} {ds : List Nat} (h : Row w v ds) : (v = .slice none 0 0 ∧ ds = []) ∨ ∃ g cap, v = .slice (some ⟨g, 0, none⟩) ds.length cap ∧ ds.length ≤ cap ∧ cap ≤ maxLen ∧ g < w.heap.size ∧ ∀ i (hi : i < ds.length), w.cell? ⟨g, i, none⟩ = some (.int .i64 ((ds[i] : Nat) : Int)) := by
  have h' := h
  obtain ⟨h1, h2⟩ := h
  rcases h2 with ⟨h2, h3⟩ | ⟨g, cap, cur, hv, hg, hh, hn, hm, hc, ht⟩
  · exact .inl ⟨h2, List.length_eq_zero_iff.1 h3⟩
  · subst hv
    refine .inr ⟨g, cap, rfl, hn, hm, lt_of_block hh, fun i hi => ?_⟩
    rw [World.ownsRow.cellAt h' i (by omega), dcells_get hi]
theorem Row.open {w : World} {v : Value} {ds : List Nat} (h : Row w v ds) : ∃ a cap, v = .slice a ds.length cap ∧ cap ≤ 9223372036854775807 ∧ ds.length ≤ cap := by
  rcases h.shape with ⟨rfl, rfl⟩ | ⟨g, cap, rfl, h1, h2, _⟩
  · exact ⟨none, 0, rfl, by omega, by simp⟩
  · exact ⟨_, cap, rfl, by simp only [maxLen] at h2; omega, h1⟩
theorem Row.le {w : World} {v : Value} {ds : List Nat} (h : Row w v ds) : ds.length ≤ maxLen := by
  rcases h.shape with ⟨_, rfl⟩ | ⟨g, cap, _, h1, h2, _⟩
  · simp
  · omega
/-- Its length, as the program asks for it. -/
theorem Row.ofOwn {w : World} {b : Nat} {v : Value} {n : Nat} {ds : List Nat} (h : w.ownsRow b 3 1 v n (dcells ds)) : Row w v ds := by
  have e := h.1
  rw [dcells_length, Nat.mul_one] at e
  subst e
  exact ownsRow_base h (Nat.zero_le _)

theorem digit_new (W : World) (x : Value) (T : TypeId) : ∀ (j : Nat) (u : Value), [x][j]? = some u → (W.alloc (.cells #[x] T)).cell? ⟨W.heap.size, j, none⟩ = some u := by
  intro j u hj
  match j, hj with
  | 0, hj =>
    have e : x = u := by simpa using hj
    subst e
    exact (Blk.new rfl : Blk (W.alloc (.cells #[x] T)) W.heap.size #[x]).cell rfl

theorem digit_add (W : World) (x : Value) (T : TypeId) : ∀ (j : Nat) (u : Value), [x][j]? = some u → (W.alloc (.cells #[x] T)).cell? ((⟨W.heap.size, 0, none⟩ : Addr).add j) = some u := by
  intro j u hj
  match j, hj with
  | 0, hj => exact digit_new W x T 0 u hj

theorem Row.one (W : World) (q : Nat) : Row (W.alloc (.cells #[.int .i64 (q : Int)] 3)) (.slice (some ⟨W.heap.size, 0, none⟩) 1 1) [q] :=
  ⟨by simp [dcells], .inr ⟨W.heap.size, 1, #[.int .i64 (q : Int)], rfl, Nat.zero_le _, by show (W.heap.push _)[W.heap.size]? = _; simp, by simp, by simp [maxLen], by simp, by simp [dcells]⟩⟩

theorem row_news {w : World} {g : Nat} {ds : List Nat} (hcell : ∀ i (hi : i < ds.length), w.cell? ⟨g, i, none⟩ = some (.int .i64 ((ds[i] : Nat) : Int))) (m : Nat) : ∀ (j : Nat) (u : Value), (dcells (ds.take m))[j]? = some u → w.cell? ⟨g, j, none⟩ = some u := by
  intro j u hj
  have hl : j < (ds.take m).length := by
    have := (List.getElem?_eq_some_iff.1 hj).1
    rwa [dcells_length] at this
  rw [dcells_get hl] at hj
  have hl2 : j < ds.length := by rw [List.length_take] at hl; omega
  rw [hcell j hl2, ← hj, List.getElem_take]

/-- Digits and noughts above them. -/
theorem dval_append (ds es : List Nat) : dval (ds ++ es) = dval ds + 10 ^ ds.length * dval es := by
  induction ds with
  | nil => simp [dval]
  | cons d ds ih => rw [List.cons_append, dval, ih, dval, List.length_cons, Nat.pow_succ, Nat.mul_add, Nat.mul_left_comm, Nat.mul_comm (10 ^ ds.length) 10, Nat.mul_assoc, Nat.mul_left_comm 10]; omega
theorem dval_lt {ds : List Nat} (h : ∀ d ∈ ds, d < 10) : dval ds < 10 ^ ds.length := by
  induction ds with
  | nil => simp [dval]
  | cons d ds ih =>
    have h1 := ih fun x hx => h x (by simp [hx])
    have h2 := h d (by simp)
    rw [dval, List.length_cons, Nat.pow_succ]
    omega
theorem dval_take {ds : List Nat} {m : Nat} (h : ∀ i (hi : i < ds.length), m ≤ i → ds[i] = 0) (hm : m ≤ ds.length) : dval (ds.take m) = dval ds := by
  have e : dval (ds.drop m) = 0 := by
    have hz : ∀ x ∈ ds.drop m, x = 0 := by
      intro x hx
      obtain ⟨i, hi, rfl⟩ := List.mem_iff_getElem.1 hx
      rw [List.getElem_drop]
      exact h _ _ (by omega)
    generalize ds.drop m = es at hz
    clear h hm
    induction es with
    | nil => rfl
    | cons a es ih => rw [dval, hz a (by simp), ih fun x hx => hz x (by simp [hx])]
  have := dval_append (ds.take m) (ds.drop m)
  rw [List.take_append_drop, e] at this
  omega
/-- What Trim leaves: the digits of the value. -/
theorem trim_digs {ds : List Nat} {m : Nat} (hd : ∀ d ∈ ds, d < 10) (hm : m ≤ ds.length) (h : ∀ i (hi : i < ds.length), m ≤ i → ds[i] = 0) (ht : ∀ (h0 : 0 < m), ds[m - 1]'(by omega) ≠ 0) : ds.take m = digs (dval ds) := by
  rw [← dval_take h hm]
  refine (digs_dval _ ⟨fun d hx => hd d (List.mem_of_mem_take hx), ?_⟩).symm
  rcases Nat.eq_zero_or_pos m with h0 | h0
  · subst h0; simp
  · rw [List.getLast?_eq_getElem?, List.length_take, Nat.min_eq_left hm, List.getElem?_take, if_pos (by omega), List.getElem?_eq_getElem (by omega)]
    intro e
    exact ht h0 (by simpa using e)

end Go.Proofs.Ytpnfomnnbmncaaa
