/- An argument that is a number of two words, opened. Arguments that are days, times, moments' numbers, small words: opened. What a tied row's own world gives: the library's tables as they are listed, the shape of its variables. What a tied row's own world gives: the error of strconv as it is listed. Arguments that are numbers with a sign and an exponent, opened; small ints. Arguments that are bytes, opened. -/
import Derived.Test.YtdkgnmiiibpnnaaGreatDoorNum
import Derived.ProofKit
import Derived.OpenShut
import Derived.ShutString
import Derived.ChangeOld
import Derived.Below
import Derived.Lib.SmallJoins
import Derived.Test.YtdkgnmiiibpnnaaGreatDoorVcZ
import Derived.Test.YtdkgnmiiibpnnaaGreatDoorRows
import Derived.Lib.LaidTab
import Derived.Stop.LaidErr
import Derived.MakeChecks
import Derived.Lay
import Derived.LaidMore
import Derived.LaidLaws
import Derived.Lib.LaidU8T
import Derived.PinnedBridge
import Derived.Test.YtdkgnmiiibpnnaaGreatDoorLayZ
import Derived.Deep.Strs
namespace Go.Proofs.YtdkgnmiiibpnnaaGreatDoor
open Go.ChangeShapes Go.WideShapes Go.ChangeAt Go.RowKit Go.Joins
set_option linter.unusedVariables false
set_option maxRecDepth 100000
theorem b2s:ownKnob Tryz.prog.godebug=none:=by kernel_rfl
theorem Jn:laidOutB Tryz.prog=true:=by kernel_rfl
theorem b7p:Tryz.prog.cellsOf 24=2:=by kernel_rfl
theorem b70 {H:Type} {enc:TypeId×Value→H} {W:World} {base base':Nat} {spare:Nat→Bool} {held:Bool} {r:Reach} {v:Value} {d:DataW H} {p:List MemPlace}
  (hv:Value.okWide Tryz.prog W r base' 3 v) (h:DataW.Trod enc Tryz.prog W base spare held 3 v d p) :
  ∃ a:Int,v=.int .i64 a ∧ -9223372036854775808≤a∧a≤9223372036854775807:=by
 obtain ⟨x,rfl,rfl,rfl,wx⟩:=open_int Tryz.underlying3 hv h
 have h0:=bounds_i64 wx
 exact ⟨x,rfl,h0.1,h0.2⟩
open Go.ChangeShapes Go.WideShapes Go.ChangeAt Go.RowKit Go.Joins
set_option linter.unusedVariables false
set_option maxRecDepth 100000
section
variable {P:Program} {W:World} {r:Reach} {b:Nat} {u t:TypeId} {v:Value}
end
open Go.ChangeShapes Go.WideShapes Go.ChangeAt Go.RowKit
set_option linter.unusedVariables false
set_option maxRecDepth 100000
theorem Xd {P:Program} {w:World} {g:Nat} {t:TypeId} {k:IntKind} {zero:Array Value} (h:w.ShapedOpen P) (hg:g<P.globals.size)
  (h0:((begin P (fun _ _=>0) default).world.heap[g]?).bind Obj.row?=some (zero,t)) (hz:zero.size=1)
  (hb:P.buildable t=true) (hc:P.cellTypes P.depth t=some [t]) (hu:P.underlying t=some (.int k)) : ∃ m,(match w.heap[g]? with | some (.cells cs _ _)=>some cs | _=>none)=some #[.int k m]:=by
 obtain ⟨cs,hh,hs,hr⟩:=h.1 g zero t hg h0
 obtain ⟨ts,hts,_,hall⟩:=hr hb
 rw[hc] at hts
 cases hts
 have h1:0<cs.size:=by omega
 obtain ⟨u,hu',hok⟩:=hall 0 cs[0] (by simp[h1])
 have:u=t:=by simpa using hu'.symm
 subst this
 rw[hh]
 have hcs:cs=#[cs[0]]:=by
  apply Array.ext
  ·simp;omega
  ·intro i hi1 hi2
   simp at hi2
   subst hi2
   rfl
 unfold Cell.ok at hok
 rw[hu] at hok
 cases hv:cs[0] with
 | int k' m =>
  rw[hv] at hok
  obtain ⟨rfl,_⟩:=hok
  refine ⟨m,?_⟩
  show some cs=_
  rw[hcs,hv]
 | _=>rw[hv] at hok;simp at hok
theorem c06 {w:World} (h:w.ShapedOpen Tryz.prog):KwV w "internal/bytealg.MaxLen" fun cs => ∃ m,cs=#[.int .i64 m]:=by
 obtain ⟨m,hm⟩:=Xd (P:=Tryz.prog) (g:=2) (t:=3) (k:=.i64) (zero:=#[.int .i64 0]) h (of_decide_eq_true (by kernel_rfl)) (by kernel_rfl) rfl (by kernel_rfl) (by kernel_rfl) (by kernel_rfl)
 refine .inr ⟨_,?_,m,rfl⟩
 unfold World.var?
 rw[show Tryz.prog.globalNamed "internal/bytealg.MaxLen" = some 2 by kernel_rfl]
 exact hm
theorem b8b {w:World} {r:List (String×DataW Unit)} (h:laidMetH Tryz.prog (("math/bits.deBruijn32tab",Rows.laid_math_bits_deBruijn32tab)::("math/bits.deBruijn64tab",Rows.laid_math_bits_deBruijn64tab)::("internal/strconv.uint64pow10",Rows.laid_internal_strconv_uint64pow10)::r) w)
  (hp:((("math/bits.deBruijn32tab",Rows.laid_math_bits_deBruijn32tab)::("math/bits.deBruijn64tab",Rows.laid_math_bits_deBruijn64tab)::("internal/strconv.uint64pow10",Rows.laid_internal_strconv_uint64pow10)::r:List (String×DataW Unit)).all fun x=>x.2.handleName?.isNone)=true) :
  KwV w "internal/strconv.uint64pow10" fun cs=>cs=(Lib.pow10Tab.map fun z=>Value.int .u64 z).toArray:=by
 rw[MakeChecks.laidMetH_plain _ _ _ hp] at h
 exact .inr ⟨_,Lib.tabIs_of_head (k:=.u64) (zs:=Lib.pow10Tab) (g:=7) (t:=283) (e:=22) (n:=20) (by kernel_rfl) (by kernel_rfl) (by kernel_rfl) (by kernel_rfl) (by kernel_rfl) (by kernel_rfl) h.tail.tail,rfl⟩
open Go.ChangeShapes Go.WideShapes Go.ChangeAt Go.RowKit
set_option linter.unusedVariables false
set_option maxRecDepth 100000
abbrev listed (r:List (String×DataW Unit)):List (String×DataW Unit):=("math/bits.deBruijn32tab",Rows.laid_math_bits_deBruijn32tab)::("math/bits.deBruijn64tab",Rows.laid_math_bits_deBruijn64tab)::("internal/strconv.uint64pow10",Rows.laid_internal_strconv_uint64pow10) ::
 ("unicode/utf8.acceptRanges",Rows.laid_unicode_utf8_acceptRanges)::("strconv.ErrRange",Rows.laid_strconv_ErrRange)::("strconv.ErrSyntax",Rows.laid_strconv_ErrSyntax)::r
theorem b2a : "*" ++ "errors.errorString" = "*errors.errorString" := by decide
theorem b75 (u:TypeId) (h:Tryz.prog.typeName? 3 u=some "*errors.errorString"):u=278 :=
 typeName_ptr_named (nm := "errors.errorString") (by rw[b2a];kernel_rfl) (by kernel_rfl) (by decide) u (by rw[b2a];exact h)
theorem b6w {w:World} {r:List (String×DataW Unit)} (h:laidMetH Tryz.prog (listed r) w) (hp:((listed r).all fun x=>x.2.handleName?.isNone)=true):KwV w "strconv.ErrSyntax" fun cs => ∃ t p,cs=#[.iface t p]:=by
 rw[MakeChecks.laidMetH_plain _ _ _ hp] at h
 obtain ⟨a0,s0,hv,_⟩:=laid_sentinel (n := "strconv.ErrSyntax") (nm := "*errors.errorString") (g:=5) (ti:=166) (tp:=278) (te:=280) (ts:=9) h.tail.tail.tail.tail.tail (by kernel_rfl) (by kernel_rfl) Tryz.underlying166 b75 Tryz.underlying278 Tryz.underlying280 rfl rfl Tryz.underlying9 (by kernel_rfl) (by kernel_rfl)
 exact .inr ⟨_,hv,_,_,rfl⟩
abbrev Qe (r:List (String×DataW Unit)):List (String×DataW Unit):=listed (("unicode/utf8.first",Rows.laid_unicode_utf8_first)::r)
theorem b98 {w:World} {r:List (String×DataW Unit)} (h:laidMetH Tryz.prog (Qe r) w) (hp:((Qe r).all fun x=>x.2.handleName?.isNone)=true) : ∀ g3 g4,Tryz.prog.globalNamed "unicode/utf8.first" = some g3→Tryz.prog.globalNamed "unicode/utf8.acceptRanges" = some g4→Lib.Utf8Tabs g3 g4 w:=by
 intro g3 g4 h3 h4
 rw[MakeChecks.laidMetH_plain _ _ _ hp] at h
 have k3:=Lib.laidMet.reads h (n := "unicode/utf8.first") (.tail _ (.tail _ (.tail _ (.tail _ (.tail _ (.tail _ (.head _)))))))
 have k4:=Lib.laidMet.reads h (n := "unicode/utf8.acceptRanges") (.tail _ (.tail _ (.tail _ (.head _))))
 rw[show Rows.laid_unicode_utf8_first=Lib.firstData from Pinned.utf8First_eq] at k3
 rw[show (Rows.laid_unicode_utf8_acceptRanges:DataW Unit)=Lib.acceptData by kernel_rfl] at k4
 have X:U8Extra Tryz.prog laysValid_ren:=⟨by kernel_rfl,by kernel_rfl,by kernel_rfl,by kernel_rfl,by kernel_rfl,by kernel_rfl,by kernel_rfl⟩
 obtain rfl:=Option.some.inj (X.n3.symm.trans h3)
 obtain rfl:=Option.some.inj (X.n4.symm.trans h4)
 exact utf8Tabs_of_readsT (U8Types.of196 Ul) X k3 k4
theorem c0c {w:World} {r:List (String×DataW Unit)} (hs:w.ShapedOpen Tryz.prog) (h:laidMetH Tryz.prog (Qe r) w) (hp:((Qe r).all fun x=>x.2.handleName?.isNone)=true):Kw w:=⟨b8b h hp,c06 hs,b6w h hp,b98 h hp⟩
open Go.ChangeShapes Go.WideShapes Go.ChangeAt Go.RowKit Go.Joins
set_option linter.unusedVariables false
set_option maxRecDepth 100000
theorem a2j:Tryz.prog.cellsOf 4=1:=by kernel_rfl
theorem a6i:Tryz.prog.cellsOf 3=1:=by kernel_rfl
theorem Up:Tryz.prog.cellsOf 22=1:=by kernel_rfl
theorem a8u:Tryz.prog.cellsOf 26=4:=by kernel_rfl
theorem Zr {H:Type} {enc:TypeId×Value→H} {W:World} {base base':Nat} {spare:Nat→Bool} {held:Bool} {r:Reach} {v:Value} {d:DataW H} {p:List MemPlace}
  (hv:Value.okWide Tryz.prog W r base' 26 v) (h:DataW.Trod enc Tryz.prog W base spare held 26 v d p) :
  ∃ (g:Bool) (a1 a0 e:Int) (a:Nat),v=.agg #[.bool g,.int .u64 a1,.int .u64 a0,.int .i64 e]∧IsU a1 a0 a ∧ -9223372036854775808≤e∧e≤9223372036854775807:=by
 obtain ⟨cs,rfl,hsz⟩:=okWide_struct Tryz.underlying26 hv
 obtain ⟨c0,c1,c2,c3,rfl⟩:=array4 (hsz.trans a8u)
 obtain ⟨fuel,hf⟩:=h
 obtain ⟨y0,y1,y2,n,hx,_,h0,h1,h2⟩:=Go.Deep.trod_struct3 Tryz.underlying26 hf
 have k0:DataW.trod enc Tryz.prog W base spare held n 4 [c0]=some y0:=by simpa [Value.cells,a2j] using h0
 have k1:DataW.trod enc Tryz.prog W base spare held n 24 [c1,c2]=some y1:=by simpa [Value.cells,b7p] using h1
 have k2:DataW.trod enc Tryz.prog W base spare held n 3 [c3]=some y2:=by simpa [Value.cells,a6i] using h2
 obtain ⟨g,e0,_⟩:=DataW.trod_bool Tryz.underlying4 k0
 obtain ⟨z0,z1,m,_,_,i0,i1⟩:=trod_struct2 Tryz.underlying24 k1
 have j0:DataW.trod enc Tryz.prog W base spare held m 22 [c1]=some z0:=by simpa [Up] using i0
 have j1:DataW.trod enc Tryz.prog W base spare held m 22 [c2]=some z1:=by simpa [Up] using i1
 obtain ⟨a,ea,_,wa⟩:=DataW.trod_int Tryz.underlying22 j0
 obtain ⟨b,eb,_,wb⟩:=DataW.trod_int Tryz.underlying22 j1
 obtain ⟨c,ec,_,wc⟩:=DataW.trod_int Tryz.underlying3 k2
 simp at e0 ea eb ec
 subst e0 ea eb ec
 have b0:=bounds_u64 wa
 have b1:=bounds_u64 wb
 have b2:=bounds_i64 wc
 exact ⟨g,a,b,c,(a*18446744073709551616+b).toNat,rfl,⟨by omega,by omega,by omega,by omega,by omega⟩,b2.1,b2.2⟩
open Go.ChangeShapes Go.WideShapes Go.ChangeAt Go.RowKit Go.Joins
set_option linter.unusedVariables false
set_option maxRecDepth 100000
theorem b4w {H:Type} {enc:TypeId×Value→H} {W:World} {base base':Nat} {spare:Nat→Bool} {held:Bool} {r:Reach} {v:Value} {d:DataW H} {p:List MemPlace}
  (hv:Value.okWide Tryz.prog W r base' 5 v) (h:DataW.Trod enc Tryz.prog W base spare held 5 v d p) :
  ∃ n:Nat,v=.int .u8 (n:Int)∧n<256:=by
 obtain ⟨x,rfl,rfl,rfl,wx⟩:=open_int Tryz.underlying5 hv h
 have b:=bounds_u8 wx
 obtain ⟨n,rfl⟩ : ∃ n:Nat,x=(n:Int):=⟨x.toNat,by omega⟩
 exact ⟨n,rfl,by omega⟩
end Go.Proofs.YtdkgnmiiibpnnaaGreatDoor
