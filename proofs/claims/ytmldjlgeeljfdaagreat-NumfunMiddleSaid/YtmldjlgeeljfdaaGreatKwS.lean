/-
  What a row's own world gives: the shape of the library's variables.
-/
import Derived.Test.YtmldjlgeeljfdaaGreatVcY
import Derived.Test.YtmldjlgeeljfdaaGreatRows
import Derived.MakeChecks
import Derived.Handed
import Derived.LaidMore
namespace Go.Proofs.YtmldjlgeeljfdaaGreat
open Go.ChangeShapes Go.WideShapes Go.ChangeAt Go.RowKit
set_option linter.unusedVariables false
set_option maxRecDepth 100000

theorem int_of_shape {P : Program} {w : World} {g : Nat} {t : TypeId} {k : IntKind} {zero : Array Value} (h : w.ShapedOpen P) (hg : g < P.globals.size)
    (h0 : ((begin P (fun _ _ => 0) default).world.heap[g]?).bind Obj.row? = some (zero, t)) (hz : zero.size = 1)
    (hb : P.buildable t = true) (hc : P.cellTypes P.depth t = some [t]) (hu : P.underlying t = some (.int k)) : ∃ m, (match w.heap[g]? with | some (.cells cs _ _) => some cs | _ => none) = some #[.int k m] := by
  obtain ⟨cs, hh, hs, hr⟩ := h.1 g zero t hg h0
  obtain ⟨ts, hts, _, hall⟩ := hr hb
  rw [hc] at hts
  cases hts
  have h1 : 0 < cs.size := by omega
  obtain ⟨u, hu', hok⟩ := hall 0 cs[0] (by simp [h1])
  have : u = t := by simpa using hu'.symm
  subst this
  rw [hh]
  have hcs : cs = #[cs[0]] := by
    apply Array.ext
    · simp; omega
    · intro i hi1 hi2
      simp at hi2
      subst hi2
      rfl
  unfold Cell.ok at hok
  rw [hu] at hok
  cases hv : cs[0] with
  | int k' m =>
    rw [hv] at hok
    obtain ⟨rfl, _⟩ := hok
    refine ⟨m, ?_⟩
    show some cs = _
    rw [hcs, hv]
  | _ => rw [hv] at hok; simp at hok
theorem mx_of {w : World} (h : w.ShapedOpen Tryz.prog) : KwV w "internal/bytealg.MaxLen" fun cs => ∃ m, cs = #[.int .i64 m] := by
  obtain ⟨m, hm⟩ := int_of_shape (P := Tryz.prog) (g := 2) (t := 3) (k := .i64) (zero := #[.int .i64 0]) h (of_decide_eq_true (by kernel_rfl)) (by kernel_rfl) rfl (by kernel_rfl) (by kernel_rfl) (by kernel_rfl)
  refine .inr ⟨_, ?_, m, rfl⟩
  unfold World.var?
  rw [show Tryz.prog.globalNamed "internal/bytealg.MaxLen" = some 2 by kernel_rfl]
  exact hm
theorem kw_S {w : World} (hs : w.ShapedOpen Tryz.prog) : Kw w := ⟨.inl (by kernel_rfl), mx_of hs⟩
/-- A row whose world is known by its shape. -/
theorem returnsS {H : Type} {enc : TypeId × Value → H} {a : Assume} {C : Checked} {os : Os} {f : FuncId} {fn : Func} {s : ChangeSpec} {conds : List PathCond} {apart fresh handsOn again : Bool}
    (own : ownKnob C.prog.godebug = none) (started : os.Started) (noInit : C.prog.inits.idxOf? f = none) (hfn : C.prog.funcs[f]? = some fn)
    (witness : ∃ (w : World) (tape : Tape) (i : Input), w.os = os ∧ (w.forCall tape i).Shaped C.prog ∧ i.vars = [] ∧ Input.okWide C.prog (w.forCall tape i) .any w.heap.size f i ∧
      s.pre6 enc C.prog fn conds apart (w.forCall tape i).memory i.args ∧ a.holds C.prog (lone (Frame.enter C.prog f i.args .normal) [] (w.forCall tape i)))
    (contract : ∀ (W : World), W.ShapedOpen C.prog → ∀ (base : Nat) (args : Array Value) (ds gs : List (DataW H)) (before : List MemPlace),
      (∀ (j : Nat) t v, fn.params[j]? = some t → args[j]? = some v → Value.okWide C.prog W .any base t v) →
      DataW.Whole enc C.prog fn.params.toList s.vars apart W args.toList ds gs before →
      conds.all (PathCond.test C.prog ⟨fn.params.toList, ds, s.plain.varTypes C.prog, gs⟩) = true →
      a.holds C.prog (lone (Frame.enter C.prog f args .normal) [] W) →
      Calls C.prog f args W fun e W' => ∃ v, e = .returned v ∧ s.post enc C.prog fn apart fresh handsOn again W args v W') :
    ReturnsInHanded a C os f .any (s.pre6 enc C.prog fn conds apart) (s.post enc C.prog fn apart fresh handsOn again) := by
  refine returnsInHanded_of_calls own started noInit witness ?_
  intro w tape i _ hsh _ hok hpre hholds
  obtain ⟨_, _, _, fn', hfn', _, _, _, _, hval⟩ := hok
  have e : fn' = fn := Option.some.inj (hfn'.symm.trans hfn)
  subst e
  obtain ⟨⟨ds, gs, before, hw, hc⟩, _⟩ := hpre
  have hw' := DataW.Whole.of_heap (w' := w.forCall tape i) (by rfl) hw
  refine (contract (w.forCall tape i) hsh w.heap.size i.args ds gs before hval hw' hc hholds).mono fun e W' ⟨v, he, hp⟩ => ?_
  subst he
  exact ChangeSpec.post_blind hp
end Go.Proofs.YtmldjlgeeljfdaaGreat
