/-
  An argument that is a number of two words, opened. Arguments that are days, times, moments' numbers, small words: opened. What a tied row's own world gives: the library's tables as they are listed, the shape of its variables. What a tied row's own world gives: the error of strconv as it is listed. Arguments that are numbers with a sign and an exponent, opened; small ints. Arguments that are bytes, opened.
-/
import Derived.Test.YtpambeengdhhmaaGreatDoorNum
import Derived.ProofKit
import Derived.OpenShut
import Derived.ShutString
import Derived.ChangeOld
import Derived.Below
import Derived.Lib.SmallJoins
import Derived.Test.YtpambeengdhhmaaGreatDoorVcY
import Derived.Test.YtpambeengdhhmaaGreatDoorRows
import Derived.Lib.LaidTab
import Derived.Stop.LaidErr
import Derived.MakeChecks
import Derived.Lay
import Derived.LaidMore
import Derived.LaidLaws
import Derived.Lib.LaidU8T
import Derived.PinnedBridge
import Derived.Test.YtpambeengdhhmaaGreatDoorLay3
import Derived.Deep.Strs
namespace Go.Proofs.YtpambeengdhhmaaGreatDoor

open Go.ChangeShapes Go.WideShapes Go.ChangeAt Go.RowKit Go.Joins
set_option linter.unusedVariables false
set_option maxRecDepth 100000

theorem row_own : ownKnob Tryz.prog.godebug = none := by kernel_rfl
theorem row_laid : laidOutB Tryz.prog = true := by kernel_rfl
theorem cellsU : Tryz.prog.cellsOf 60 = 2 := by kernel_rfl

theorem open_U {H : Type} {enc : TypeId × Value → H} {W : World} {base base' : Nat} {spare : Nat → Bool} {held : Bool} {r : Reach} {v : Value} {d : DataW H} {p : List MemPlace}
    (hv : Value.okWide Tryz.prog W r base' 60 v) (h : DataW.Trod enc Tryz.prog W base spare held 60 v d p) :
    ∃ (a1 a0 : Int) (a : Nat), v = .agg #[.int .u64 a1, .int .u64 a0] ∧ IsU a1 a0 a := by
  obtain ⟨c0, c1, y0, y1, m, rfl, rfl, rfl, hy0, hy1⟩ := open_agg2 Tryz.underlying60 (by kernel_rfl) cellsU hv h
  obtain ⟨a, e0, rfl, wa⟩ := DataW.trod_int Tryz.underlying58 hy0
  obtain ⟨b, e1, rfl, wb⟩ := DataW.trod_int Tryz.underlying58 hy1
  simp at e0 e1
  subst e0 e1
  have h0 := bounds_u64 wa
  have h1 := bounds_u64 wb
  exact ⟨a, b, (a * 18446744073709551616 + b).toNat, rfl, ⟨by omega, by omega, by omega, by omega, by omega⟩⟩

theorem open_W {H : Type} {enc : TypeId × Value → H} {W : World} {base base' : Nat} {spare : Nat → Bool} {held : Bool} {r : Reach} {v : Value} {d : DataW H} {p : List MemPlace}
    (hv : Value.okWide Tryz.prog W r base' 58 v) (h : DataW.Trod enc Tryz.prog W base spare held 58 v d p) :
    ∃ (a : Int) (n : Nat), v = .int .u64 a ∧ IsW a n := by
  obtain ⟨x, rfl, rfl, rfl, wx⟩ := open_int Tryz.underlying58 hv h
  have h0 := bounds_u64 wx
  exact ⟨x, x.toNat, rfl, ⟨by omega, by omega, by omega⟩⟩

theorem open_I {H : Type} {enc : TypeId × Value → H} {W : World} {base base' : Nat} {spare : Nat → Bool} {held : Bool} {r : Reach} {v : Value} {d : DataW H} {p : List MemPlace}
    (hv : Value.okWide Tryz.prog W r base' 3 v) (h : DataW.Trod enc Tryz.prog W base spare held 3 v d p) :
    ∃ a : Int, v = .int .i64 a ∧ -9223372036854775808 ≤ a ∧ a ≤ 9223372036854775807 := by
  obtain ⟨x, rfl, rfl, rfl, wx⟩ := open_int Tryz.underlying3 hv h
  have h0 := bounds_i64 wx
  exact ⟨x, rfl, h0.1, h0.2⟩



open Go.ChangeShapes Go.WideShapes Go.ChangeAt Go.RowKit Go.Joins
set_option linter.unusedVariables false
set_option maxRecDepth 100000

section
variable {P : Program} {W : World} {r : Reach} {b : Nat} {u t : TypeId} {v : Value}
theorem cell_int {k : IntKind} (hu : P.underlying u = some (.int k)) (h : Cell.okWide P W r b u v) : ∃ n, v = .int k n ∧ k.min ≤ n ∧ n ≤ k.max := by
  unfold Cell.okWide Cell.ok at h
  rw [hu] at h
  cases v <;> simp at h
  obtain ⟨rfl, h⟩ := h
  exact ⟨_, rfl, h⟩
theorem cell_bool (hu : P.underlying u = some .bool) (h : Cell.okWide P W r b u v) : ∃ n, v = .bool n := by
  unfold Cell.okWide Cell.ok at h
  rw [hu] at h
  cases v <;> simp at h
  exact ⟨_, rfl⟩
theorem row_cells {fs : Array Field} {ts : List TypeId} (hu : P.underlying t = some (.struct fs)) (hts : P.cellTypes P.depth t = some ts) (h : Value.okWide P W r b t v) :
    ∃ cs, v = .agg cs ∧ cs.size = P.cellsOf t ∧ ∀ i x, cs[i]? = some x → ∃ u, ts[i % ts.length]? = some u ∧ Cell.okWide P W r b u x := by
  unfold Value.okWide at h
  rw [hu] at h
  obtain ⟨cs, h1, h2, ts', h3, _, h4⟩ := h
  rw [hts] at h3
  cases h3
  exact ⟨cs, h1, h2, h4⟩
theorem arr3 {cs : Array Value} (h : cs.size = 3) : ∃ a b c, cs = #[a, b, c] := by
  obtain ⟨l⟩ := cs
  match l, h with
  | [a, b, c], _ => exact ⟨_, _, _, rfl⟩
theorem arr6 {cs : Array Value} (h : cs.size = 6) : ∃ a b c d e f, cs = #[a, b, c, d, e, f] := by
  obtain ⟨l⟩ := cs
  match l, h with
  | [a, b, c, d, e, f], _ => exact ⟨_, _, _, _, _, _, rfl⟩
theorem arr9 {cs : Array Value} (h : cs.size = 9) : ∃ a b c d e f g i j, cs = #[a, b, c, d, e, f, g, i, j] := by
  obtain ⟨l⟩ := cs
  match l, h with
  | [a, b, c, d, e, f, g, i, j], _ => exact ⟨_, _, _, _, _, _, _, _, _, rfl⟩
theorem cell_at {ts : List TypeId} {cs : Array Value} {i : Nat} {x : Value} (h : ∀ i x, cs[i]? = some x → ∃ u, ts[i % ts.length]? = some u ∧ Cell.okWide P W r b u x) (hc : cs[i]? = some x) (hu : ts[i % ts.length]? = some u) : Cell.okWide P W r b u x := by
  obtain ⟨u', h1, h2⟩ := h i x hc
  rw [hu] at h1
  cases h1
  exact h2
end
def i64B (a : Int) : Prop := -9223372036854775808 ≤ a ∧ a ≤ 9223372036854775807
theorem i64B_of {n : Int} (h : IntKind.i64.min ≤ n ∧ n ≤ IntKind.i64.max) : i64B n := h
theorem open_Date {W : World} {r : Reach} {b : Nat} {v : Value} (hv : Value.okWide Tryz.prog W r b 124 v) :
    ∃ y m d : Int, v = .agg #[.int .i64 y, .int .i64 m, .int .i64 d] ∧ i64B y ∧ i64B m ∧ i64B d := by
  obtain ⟨cs, rfl, hs, hc⟩ := row_cells (ts := [3, 3, 3]) Tryz.underlying124 (by kernel_rfl) hv
  obtain ⟨c0, c1, c2, rfl⟩ := arr3 (hs.trans (by kernel_rfl))
  obtain ⟨y, rfl, hy⟩ := cell_int Tryz.underlying3 (cell_at (i := 0) hc rfl rfl)
  obtain ⟨m, rfl, hm⟩ := cell_int Tryz.underlying3 (cell_at (i := 1) hc rfl rfl)
  obtain ⟨d, rfl, hd⟩ := cell_int Tryz.underlying3 (cell_at (i := 2) hc rfl rfl)
  exact ⟨y, m, d, rfl, hy, hm, hd⟩
theorem open_Time {W : World} {r : Reach} {b : Nat} {v : Value} (hv : Value.okWide Tryz.prog W r b 129 v) :
    ∃ (s : Int) (z : Bool) (o : Int), v = .agg #[.int .i64 s, .bool z, .int .i64 o] ∧ i64B s ∧ i64B o := by
  obtain ⟨cs, rfl, hs, hc⟩ := row_cells (ts := [3, 4, 3]) Tryz.underlying129 (by kernel_rfl) hv
  obtain ⟨c0, c1, c2, rfl⟩ := arr3 (hs.trans (by kernel_rfl))
  obtain ⟨s, rfl, hS⟩ := cell_int Tryz.underlying3 (cell_at (i := 0) hc rfl rfl)
  obtain ⟨z, rfl⟩ := cell_bool Tryz.underlying4 (cell_at (i := 1) hc rfl rfl)
  obtain ⟨o, rfl, ho⟩ := cell_int Tryz.underlying3 (cell_at (i := 2) hc rfl rfl)
  exact ⟨s, z, o, rfl, hS, ho⟩


open Go.ChangeShapes Go.WideShapes Go.ChangeAt Go.RowKit
set_option linter.unusedVariables false
set_option maxRecDepth 100000

theorem int_of_shape {P : Program} {w : World} {g : Nat} {t : TypeId} {k : IntKind} {zero : Array Value} (h : w.ShapedOpen P) (hg : g < P.globals.size)
    (h0 : ((begin P (fun _ _ => 0) default).world.heap[g]?).bind Obj.row? = some (zero, t)) (hz : zero.size = 1)
    (hb : P.buildable t = true) (hc : P.cellTypes P.depth t = some [t]) (hu : P.underlying t = some (.int k)) : ∃ m, (match w.heap[g]? with | some (.cells cs _ _) => some cs | _ => none) = some #[.int k m] := by
  obtain ⟨cs, hh, hs, hr⟩ := h.1 g zero t hg h0
  obtain ⟨ts, hts, _, hall⟩ := hr hb
  rw [hc] at hts
  cases hts
  have h1 : 0 < cs.size := by omega
  obtain ⟨u, hu', hok⟩ := hall 0 cs[0] (by simp [h1])
  have : u = t := by simpa using hu'.symm
  subst this
  rw [hh]
  have hcs : cs = #[cs[0]] := by
    apply Array.ext
    · simp; omega
    · intro i hi1 hi2
      simp at hi2
      subst hi2
      rfl
  unfold Cell.ok at hok
  rw [hu] at hok
  cases hv : cs[0] with
  | int k' m =>
    rw [hv] at hok
    obtain ⟨rfl, _⟩ := hok
    refine ⟨m, ?_⟩
    show some cs = _
    rw [hcs, hv]
  | _ => rw [hv] at hok; simp at hok
theorem mx_of {w : World} (h : w.ShapedOpen Tryz.prog) : KwV w "internal/bytealg.MaxLen" fun cs => ∃ m, cs = #[.int .i64 m] := by
  obtain ⟨m, hm⟩ := int_of_shape (P := Tryz.prog) (g := 2) (t := 3) (k := .i64) (zero := #[.int .i64 0]) h (of_decide_eq_true (by kernel_rfl)) (by kernel_rfl) rfl (by kernel_rfl) (by kernel_rfl) (by kernel_rfl)
  refine .inr ⟨_, ?_, m, rfl⟩
  unfold World.var?
  rw [show Tryz.prog.globalNamed "internal/bytealg.MaxLen" = some 2 by kernel_rfl]
  exact hm
theorem tab_of {w : World} {r : List (String × DataW Unit)} (h : laidMetH Tryz.prog (("math/bits.deBruijn32tab", Rows.laid_math_bits_deBruijn32tab) :: ("math/bits.deBruijn64tab", Rows.laid_math_bits_deBruijn64tab) :: ("internal/strconv.uint64pow10", Rows.laid_internal_strconv_uint64pow10) :: r) w)
    (hp : ((("math/bits.deBruijn32tab", Rows.laid_math_bits_deBruijn32tab) :: ("math/bits.deBruijn64tab", Rows.laid_math_bits_deBruijn64tab) :: ("internal/strconv.uint64pow10", Rows.laid_internal_strconv_uint64pow10) :: r : List (String × DataW Unit)).all fun x => x.2.handleName?.isNone) = true) :
    KwV w "internal/strconv.uint64pow10" fun cs => cs = (Lib.pow10Tab.map fun z => Value.int .u64 z).toArray := by
  rw [MakeChecks.laidMetH_plain _ _ _ hp] at h
  exact .inr ⟨_, Lib.tabIs_of_head (k := .u64) (zs := Lib.pow10Tab) (g := 7) (t := 266) (e := 58) (n := 20) (by kernel_rfl) (by kernel_rfl) (by kernel_rfl) (by kernel_rfl) (by kernel_rfl) (by kernel_rfl) h.tail.tail, rfl⟩

theorem returnsK {H : Type} {enc : TypeId × Value → H} {a : Assume} {C : Checked} {os : Os} {f : FuncId} {fn : Func} {s : ChangeSpec} {conds : List PathCond} {apart fresh handsOn again : Bool} {X : World → Array Value → Prop}
    (hX : ∀ (w w' : World) (args : Array Value), w.heap = w'.heap → X w args → X w' args)
    (own : ownKnob C.prog.godebug = none) (started : os.Started) (noInit : C.prog.inits.idxOf? f = none) (hfn : C.prog.funcs[f]? = some fn)
    (witness : ∃ (w : World) (tape : Tape) (i : Input), w.os = os ∧ (w.forCall tape i).Shaped C.prog ∧ i.vars = [] ∧ Input.okWide C.prog (w.forCall tape i) .any w.heap.size f i ∧
      ((s.pre enc C.prog fn conds apart (w.forCall tape i).memory i.args ∧ X (w.forCall tape i).memory i.args) ∧ sizedMet enc C.prog fn (OpenSpec.ofChange s) apart (w.forCall tape i).memory i.args) ∧ a.holds C.prog (lone (Frame.enter C.prog f i.args .normal) [] (w.forCall tape i)))
    (contract : ∀ (W : World), W.ShapedOpen C.prog → ∀ (base : Nat) (args : Array Value) (ds gs : List (DataW H)) (before : List MemPlace),
      (∀ (j : Nat) t v, fn.params[j]? = some t → args[j]? = some v → Value.okWide C.prog W .any base t v) →
      DataW.Whole enc C.prog fn.params.toList s.vars apart W args.toList ds gs before →
      conds.all (PathCond.test C.prog ⟨fn.params.toList, ds, s.plain.varTypes C.prog, gs⟩) = true →
      (DataW.weightsEach C.prog (fn.params.toList ++ s.plain.varTypes C.prog) (ds ++ gs)).all (· ≤ reachBytes) = true → X W args →
      a.holds C.prog (lone (Frame.enter C.prog f args .normal) [] W) →
      Calls C.prog f args W fun e W' => ∃ v, e = .returned v ∧ s.post enc C.prog fn apart fresh handsOn again W args v W') :
    ReturnsInHanded a C os f .any (fun w args => (s.pre enc C.prog fn conds apart w args ∧ X w args) ∧ sizedMet enc C.prog fn (OpenSpec.ofChange s) apart w args) (s.post enc C.prog fn apart fresh handsOn again) := by
  refine returnsInHanded_of_calls own started noInit witness ?_
  intro w tape i _ hsh _ hok hpre hholds
  obtain ⟨_, _, _, fn', hfn', _, _, _, _, hval⟩ := hok
  have e : fn' = fn := Option.some.inj (hfn'.symm.trans hfn)
  subst e
  obtain ⟨⟨⟨ds, gs, before, hw, hc⟩, hx⟩, hz⟩ := hpre
  have hw' := DataW.Whole.of_heap (w' := w.forCall tape i) (by rfl) hw
  refine (contract (w.forCall tape i) hsh w.heap.size i.args ds gs before hval hw' hc (hz.weights hw) (hX _ _ _ (by rfl) hx) hholds).mono fun e W' ⟨v, he, hp⟩ => ?_
  subst he
  exact ChangeSpec.post_blind hp


open Go.ChangeShapes Go.WideShapes Go.ChangeAt Go.RowKit
set_option linter.unusedVariables false
set_option maxRecDepth 100000

abbrev listed (r : List (String × DataW Unit)) : List (String × DataW Unit) := ("math/bits.deBruijn32tab", Rows.laid_math_bits_deBruijn32tab) :: ("math/bits.deBruijn64tab", Rows.laid_math_bits_deBruijn64tab) :: ("internal/strconv.uint64pow10", Rows.laid_internal_strconv_uint64pow10) ::
  ("unicode/utf8.acceptRanges", Rows.laid_unicode_utf8_acceptRanges) :: ("strconv.ErrRange", Rows.laid_strconv_ErrRange) :: ("strconv.ErrSyntax", Rows.laid_strconv_ErrSyntax) :: r
theorem star05 : "*" ++ "errors.errorString" = "*errors.errorString" := by decide
theorem row_es (u : TypeId) (h : Tryz.prog.typeName? 3 u = some "*errors.errorString") : u = 254 :=
  typeName_ptr_named (nm := "errors.errorString") (by rw [star05]; kernel_rfl) (by kernel_rfl) (by decide) u (by rw [star05]; exact h)
theorem syn_of {w : World} {r : List (String × DataW Unit)} (h : laidMetH Tryz.prog (listed r) w) (hp : ((listed r).all fun x => x.2.handleName?.isNone) = true) : KwV w "strconv.ErrSyntax" fun cs => ∃ t p, cs = #[.iface t p] := by
  rw [MakeChecks.laidMetH_plain _ _ _ hp] at h
  obtain ⟨a0, s0, hv, _⟩ := laid_sentinel (n := "strconv.ErrSyntax") (nm := "*errors.errorString") (g := 3) (ti := 95) (tp := 254) (te := 256) (ts := 9) h.tail.tail.tail.tail.tail (by kernel_rfl) (by kernel_rfl) Tryz.underlying95 row_es Tryz.underlying254 Tryz.underlying256 rfl rfl Tryz.underlying9 (by kernel_rfl) (by kernel_rfl)
  exact .inr ⟨_, hv, _, _, rfl⟩
abbrev listed7 (r : List (String × DataW Unit)) : List (String × DataW Unit) := listed (("unicode/utf8.first", Rows.laid_unicode_utf8_first) :: r)
theorem u8_of {w : World} {r : List (String × DataW Unit)} (h : laidMetH Tryz.prog (listed7 r) w) (hp : ((listed7 r).all fun x => x.2.handleName?.isNone) = true) : ∀ g3 g4, Tryz.prog.globalNamed "unicode/utf8.first" = some g3 → Tryz.prog.globalNamed "unicode/utf8.acceptRanges" = some g4 → Lib.Utf8Tabs g3 g4 w := by
  intro g3 g4 h3 h4
  rw [MakeChecks.laidMetH_plain _ _ _ hp] at h
  have k3 := Lib.laidMet.reads h (n := "unicode/utf8.first") (.tail _ (.tail _ (.tail _ (.tail _ (.tail _ (.tail _ (.head _)))))))
  have k4 := Lib.laidMet.reads h (n := "unicode/utf8.acceptRanges") (.tail _ (.tail _ (.tail _ (.head _))))
  rw [show Rows.laid_unicode_utf8_first = Lib.firstData from Pinned.utf8First_eq] at k3
  rw [show (Rows.laid_unicode_utf8_acceptRanges : DataW Unit) = Lib.acceptData by kernel_rfl] at k4
  have X : U8Extra Tryz.prog laysValid_ren := ⟨by kernel_rfl, by kernel_rfl, by kernel_rfl, by kernel_rfl, by kernel_rfl, by kernel_rfl, by kernel_rfl⟩
  obtain rfl := Option.some.inj (X.n3.symm.trans h3)
  obtain rfl := Option.some.inj (X.n4.symm.trans h4)
  exact utf8Tabs_of_readsT (U8Types.of196 laysValid) X k3 k4
theorem kw_of {w : World} {r : List (String × DataW Unit)} (hs : w.ShapedOpen Tryz.prog) (h : laidMetH Tryz.prog (listed7 r) w) (hp : ((listed7 r).all fun x => x.2.handleName?.isNone) = true) : Kw w := ⟨tab_of h hp, mx_of hs, syn_of h hp, u8_of h hp⟩


open Go.ChangeShapes Go.WideShapes Go.ChangeAt Go.RowKit Go.Joins
set_option linter.unusedVariables false
set_option maxRecDepth 100000

theorem cells_bool : Tryz.prog.cellsOf 4 = 1 := by kernel_rfl
theorem cells_int : Tryz.prog.cellsOf 3 = 1 := by kernel_rfl
theorem cells_u64 : Tryz.prog.cellsOf 58 = 1 := by kernel_rfl


open Go.ChangeShapes Go.WideShapes Go.ChangeAt Go.RowKit Go.Joins
set_option linter.unusedVariables false
set_option maxRecDepth 100000

theorem open_u8 {H : Type} {enc : TypeId × Value → H} {W : World} {base base' : Nat} {spare : Nat → Bool} {held : Bool} {r : Reach} {v : Value} {d : DataW H} {p : List MemPlace}
    (hv : Value.okWide Tryz.prog W r base' 5 v) (h : DataW.Trod enc Tryz.prog W base spare held 5 v d p) :
    ∃ n : Nat, v = .int .u8 (n : Int) ∧ n < 256 := by
  obtain ⟨x, rfl, rfl, rfl, wx⟩ := open_int Tryz.underlying5 hv h
  have b := bounds_u8 wx
  obtain ⟨n, rfl⟩ : ∃ n : Nat, x = (n : Int) := ⟨x.toNat, by omega⟩
  exact ⟨n, rfl, by omega⟩
end Go.Proofs.YtpambeengdhhmaaGreatDoor
