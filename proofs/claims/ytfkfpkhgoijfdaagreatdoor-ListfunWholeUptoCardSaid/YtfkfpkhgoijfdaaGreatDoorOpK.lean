/- An argument that is a number of two words, opened. Arguments that are days, times, moments' numbers, small words: opened. What a tied row's own world gives: the library's tables as they are listed, the shape of its variables. What a tied row's own world gives: the error of strconv as it is listed. Arguments that are numbers with a sign and an exponent, opened; small ints. Arguments that are bytes, opened. -/
import Derived.Test.YtfkfpkhgoijfdaaGreatDoorNum
import Derived.ProofKit
import Derived.OpenShut
import Derived.ShutString
import Derived.ChangeOld
import Derived.Below
import Derived.Lib.SmallJoins
import Derived.Test.YtfkfpkhgoijfdaaGreatDoorVcZ
import Derived.Test.YtfkfpkhgoijfdaaGreatDoorRows
import Derived.Lib.LaidTab
import Derived.Stop.LaidErr
import Derived.MakeChecks
import Derived.Lay
import Derived.LaidMore
import Derived.LaidLaws
import Derived.Lib.LaidU8T
import Derived.PinnedBridge
import Derived.Test.YtfkfpkhgoijfdaaGreatDoorLayZ
import Derived.Deep.Strs
namespace Go.Proofs.YtfkfpkhgoijfdaaGreatDoor
open Go.ChangeShapes Go.WideShapes Go.ChangeAt Go.RowKit Go.Joins
set_option linter.unusedVariables false
set_option maxRecDepth 100000
theorem b1u:ownKnob Tryz.prog.godebug=none:=by kernel_rfl
theorem Sy:laidOutB Tryz.prog=true:=by kernel_rfl
open Go.ChangeShapes Go.WideShapes Go.ChangeAt Go.RowKit Go.Joins
set_option linter.unusedVariables false
set_option maxRecDepth 100000
section
variable {P:Program} {W:World} {r:Reach} {b:Nat} {u t:TypeId} {v:Value}
end
open Go.ChangeShapes Go.WideShapes Go.ChangeAt Go.RowKit
set_option linter.unusedVariables false
set_option maxRecDepth 100000
theorem Vv {P:Program} {w:World} {g:Nat} {t:TypeId} {k:IntKind} {zero:Array Value} (h:w.ShapedOpen P) (hg:g<P.globals.size)
  (h0:((begin P (fun _ _=>0) default).world.heap[g]?).bind Obj.row?=some (zero,t)) (hz:zero.size=1)
  (hb:P.buildable t=true) (hc:P.cellTypes P.depth t=some [t]) (hu:P.underlying t=some (.int k)) : ∃ m,(match w.heap[g]? with | some (.cells cs _ _)=>some cs | _=>none)=some #[.int k m]:=by
 obtain ⟨cs,hh,hs,hr⟩:=h.1 g zero t hg h0
 obtain ⟨ts,hts,_,hall⟩:=hr hb
 rw[hc] at hts
 cases hts
 have h1:0<cs.size:=by omega
 obtain ⟨u,hu',hok⟩:=hall 0 cs[0] (by simp[h1])
 have:u=t:=by simpa using hu'.symm
 subst this
 rw[hh]
 have hcs:cs=#[cs[0]]:=by
  apply Array.ext
  ·simp;omega
  ·intro i hi1 hi2
   simp at hi2
   subst hi2
   rfl
 unfold Cell.ok at hok
 rw[hu] at hok
 cases hv:cs[0] with
 | int k' m =>
  rw[hv] at hok
  obtain ⟨rfl,_⟩:=hok
  refine ⟨m,?_⟩
  show some cs=_
  rw[hcs,hv]
 | _=>rw[hv] at hok;simp at hok
theorem b9b {w:World} (h:w.ShapedOpen Tryz.prog):KwV w "internal/bytealg.MaxLen" fun cs => ∃ m,cs=#[.int .i64 m]:=by
 obtain ⟨m,hm⟩:=Vv (P:=Tryz.prog) (g:=4) (t:=3) (k:=.i64) (zero:=#[.int .i64 0]) h (of_decide_eq_true (by kernel_rfl)) (by kernel_rfl) rfl (by kernel_rfl) (by kernel_rfl) (by kernel_rfl)
 refine .inr ⟨_,?_,m,rfl⟩
 unfold World.var?
 rw[show Tryz.prog.globalNamed "internal/bytealg.MaxLen" = some 4 by kernel_rfl]
 exact hm
theorem b5a {w:World} {r:List (String×DataW Unit)} (h:laidMetH Tryz.prog (("math/bits.deBruijn32tab",Rows.laid_math_bits_deBruijn32tab)::("math/bits.deBruijn64tab",Rows.laid_math_bits_deBruijn64tab)::("internal/strconv.uint64pow10",Rows.laid_internal_strconv_uint64pow10)::r) w)
  (hp:((("math/bits.deBruijn32tab",Rows.laid_math_bits_deBruijn32tab)::("math/bits.deBruijn64tab",Rows.laid_math_bits_deBruijn64tab)::("internal/strconv.uint64pow10",Rows.laid_internal_strconv_uint64pow10)::r:List (String×DataW Unit)).all fun x=>x.2.handleName?.isNone)=true) :
  KwV w "internal/strconv.uint64pow10" fun cs=>cs=(Lib.pow10Tab.map fun z=>Value.int .u64 z).toArray:=by
 rw[MakeChecks.laidMetH_plain _ _ _ hp] at h
 exact .inr ⟨_,Lib.tabIs_of_head (k:=.u64) (zs:=Lib.pow10Tab) (g:=7) (t:=248) (e:=85) (n:=20) (by kernel_rfl) (by kernel_rfl) (by kernel_rfl) (by kernel_rfl) (by kernel_rfl) (by kernel_rfl) h.tail.tail,rfl⟩
open Go.ChangeShapes Go.WideShapes Go.ChangeAt Go.RowKit
set_option linter.unusedVariables false
set_option maxRecDepth 100000
abbrev listed (r:List (String×DataW Unit)):List (String×DataW Unit):=("math/bits.deBruijn32tab",Rows.laid_math_bits_deBruijn32tab)::("math/bits.deBruijn64tab",Rows.laid_math_bits_deBruijn64tab)::("internal/strconv.uint64pow10",Rows.laid_internal_strconv_uint64pow10) ::
 ("unicode/utf8.acceptRanges",Rows.laid_unicode_utf8_acceptRanges)::("strconv.ErrRange",Rows.laid_strconv_ErrRange)::("strconv.ErrSyntax",Rows.laid_strconv_ErrSyntax)::r
theorem a6k : "*" ++ "errors.errorString" = "*errors.errorString" := by decide
theorem b4e (u:TypeId) (h:Tryz.prog.typeName? 3 u=some "*errors.errorString"):u=253 :=
 typeName_ptr_named (nm := "errors.errorString") (by rw[a6k];kernel_rfl) (by kernel_rfl) (by decide) u (by rw[a6k];exact h)
theorem b5h {w:World} {r:List (String×DataW Unit)} (h:laidMetH Tryz.prog (listed r) w) (hp:((listed r).all fun x=>x.2.handleName?.isNone)=true):KwV w "strconv.ErrSyntax" fun cs => ∃ t p,cs=#[.iface t p]:=by
 rw[MakeChecks.laidMetH_plain _ _ _ hp] at h
 obtain ⟨a0,s0,hv,_⟩:=laid_sentinel (n := "strconv.ErrSyntax") (nm := "*errors.errorString") (g:=5) (ti:=189) (tp:=253) (te:=255) (ts:=9) h.tail.tail.tail.tail.tail (by kernel_rfl) (by kernel_rfl) Tryz.underlying189 b4e Tryz.underlying253 Tryz.underlying255 rfl rfl Tryz.underlying9 (by kernel_rfl) (by kernel_rfl)
 exact .inr ⟨_,hv,_,_,rfl⟩
abbrev Qs (r:List (String×DataW Unit)):List (String×DataW Unit):=listed (("unicode/utf8.first",Rows.laid_unicode_utf8_first)::r)
theorem b9g {w:World} {r:List (String×DataW Unit)} (h:laidMetH Tryz.prog (Qs r) w) (hp:((Qs r).all fun x=>x.2.handleName?.isNone)=true) : ∀ g3 g4,Tryz.prog.globalNamed "unicode/utf8.first" = some g3→Tryz.prog.globalNamed "unicode/utf8.acceptRanges" = some g4→Lib.Utf8Tabs g3 g4 w:=by
 intro g3 g4 h3 h4
 rw[MakeChecks.laidMetH_plain _ _ _ hp] at h
 have k3:=Lib.laidMet.reads h (n := "unicode/utf8.first") (.tail _ (.tail _ (.tail _ (.tail _ (.tail _ (.tail _ (.head _)))))))
 have k4:=Lib.laidMet.reads h (n := "unicode/utf8.acceptRanges") (.tail _ (.tail _ (.tail _ (.head _))))
 rw[show Rows.laid_unicode_utf8_first=Lib.firstData from Pinned.utf8First_eq] at k3
 rw[show (Rows.laid_unicode_utf8_acceptRanges:DataW Unit)=Lib.acceptData by kernel_rfl] at k4
 have X:U8Extra Tryz.prog laysValid_ren:=⟨by kernel_rfl,by kernel_rfl,by kernel_rfl,by kernel_rfl,by kernel_rfl,by kernel_rfl,by kernel_rfl⟩
 obtain rfl:=Option.some.inj (X.n3.symm.trans h3)
 obtain rfl:=Option.some.inj (X.n4.symm.trans h4)
 exact utf8Tabs_of_readsT (U8Types.of196 Vi) X k3 k4
theorem b9f {w:World} {r:List (String×DataW Unit)} (hs:w.ShapedOpen Tryz.prog) (h:laidMetH Tryz.prog (Qs r) w) (hp:((Qs r).all fun x=>x.2.handleName?.isNone)=true):Kw w:=⟨b5a h hp,b9b hs,b5h h hp,b9g h hp⟩
open Go.ChangeShapes Go.WideShapes Go.ChangeAt Go.RowKit Go.Joins
set_option linter.unusedVariables false
set_option maxRecDepth 100000
open Go.ChangeShapes Go.WideShapes Go.ChangeAt Go.RowKit Go.Joins
set_option linter.unusedVariables false
set_option maxRecDepth 100000
end Go.Proofs.YtfkfpkhgoijfdaaGreatDoor
