/-
  Values that are numbers or lists of these (for a seat that has no others): how they read; value's own functions.
-/
import Derived.Test.YtmldjlgeeljfdaaGreatDecs
import Derived.Test.YtmldjlgeeljfdaaGreatDecY
import Derived.Handy
namespace Go.Proofs.YtmldjlgeeljfdaaGreat

open Go.RowKit
set_option linter.unusedVariables false
set_option linter.unusedSimpArgs false
set_option maxRecDepth 100000

theorem HasC.args {P : Program} {f : FuncId} {ds ds' : List DV} {post : DV → Prop} (h : HasC P f ds' post) (k : ∀ Im W vs, DV.relL Im W ds vs → DV.relL Im W ds' vs) : HasC P f ds post :=
  ⟨h.1, h.2.1, fun W vs Im hK hIm hr => h.2.2 W vs Im hK hIm (k _ _ _ hr)⟩
theorem HasC.weak {P : Program} {f : FuncId} {ds : List DV} {post post' : DV → Prop} (h : HasC P f ds post) (k : ∀ y, post y → ∃ y', post' y' ∧ ∀ Im W r, y.rel Im W r → y'.rel Im W r) : HasC P f ds post' :=
  ⟨h.1, h.2.1.elim fun y hy => (k y hy).elim fun y' h' => ⟨y', h'.1⟩, fun W vs Im hK hIm hr => (h.2.2 W vs Im hK hIm hr).mono fun e W' ⟨r, y, h1, h2, h3, h4⟩ => (k y h2).elim fun y' h' => ⟨r, y', h1, h'.1, h'.2 _ _ _ h3, h4⟩⟩
theorem rel_bx {Im : Nat → Nat → Prop} {W : World} {x : DV} {y : Value} (h1 : x.one = true) (h : x.rel Im W y) : (DV.bx x).rel Im W y := by
  rw [DV.rel]
  exact ⟨DV.one_rel h h1, h⟩
theorem rel_agg1 {Im : Nat → Nat → Prop} {W : World} {x x' : DV} {y : Value} (h : ∀ z, x.rel Im W z → x'.rel Im W z) (k : (DV.agg [x]).rel Im W y) : (DV.agg [x']).rel Im W y := by
  rw [DV.rel] at k ⊢
  obtain ⟨vs, e, k2⟩ := k
  refine ⟨vs, e, ?_⟩
  rw [DV.relL] at k2 ⊢
  obtain ⟨u, us, e1, k3, k4⟩ := k2
  exact ⟨u, us, e1, h _ k3, k4⟩
/-- The box around an argument's cell is laid off. -/
theorem HasC.ub {P : Program} {f : FuncId} {x : DV} {r : List DV} {post : DV → Prop} (h : HasC P f (.agg [x] :: r) post) : HasC P f (.agg [.bx x] :: r) post := h.args fun Im W vs k => by
  rw [DV.relL] at k ⊢
  obtain ⟨u, us, e, k1, k2⟩ := k
  exact ⟨u, us, e, rel_agg1 (fun z hz => by rw [DV.rel] at hz; exact hz.2) k1, k2⟩
theorem HasC.ub2 {P : Program} {f : FuncId} {x y : DV} {r : List DV} {post : DV → Prop} (h : HasC P f (.agg [x] :: .agg [y] :: r) post) : HasC P f (.agg [.bx x] :: .agg [.bx y] :: r) post := h.args fun Im W vs k => by
  rw [DV.relL] at k ⊢
  obtain ⟨u, us, e, k1, k2⟩ := k
  refine ⟨u, us, e, rel_agg1 (fun z hz => by rw [DV.rel] at hz; exact hz.2) k1, ?_⟩
  rw [DV.relL] at k2 ⊢
  obtain ⟨u, us, e, k1, k2⟩ := k2
  exact ⟨u, us, e, rel_agg1 (fun z hz => by rw [DV.rel] at hz; exact hz.2) k1, k2⟩

inductive Vl where
  | null
  | num (g : Bool) (n : Nat) (e : Int)
  | list (vs : List Vl)

mutual
def Vl.enc : Vl → DV
  | .null => .v .nilIface
  | .num g n e => .ifc 88 (dDec g n e)
  | .list vs => .ifc 59 (.sl vs.length (encL vs))
def encL : List Vl → List DV
  | [] => []
  | v :: vs => .bx v.enc :: encL vs
end
/-- A value's cell, whatever it is; a value. -/
abbrev BV (v : Vl) : DV := .bx v.enc
abbrev VV (v : Vl) : DV := .agg [.bx v.enc]
def Vl.nullB : Vl → Bool
  | .null => true
  | _ => false
theorem null_iff {v : Vl} : v.nullB = true ↔ v = .null := by cases v <;> simp [Vl.nullB]
theorem enc_one (v : Vl) : v.enc.one = true := by cases v <;> simp [Vl.enc, DV.one, Value.oneCell']
theorem encL_map : ∀ vs, encL vs = vs.map BV
  | [] => by simp [encL]
  | v :: vs => by rw [encL, encL_map vs]; rfl
@[simp] theorem encL_len (vs : List Vl) : (encL vs).length = vs.length := by rw [encL_map, List.length_map]
theorem encL_allOne : ∀ vs, allOne (encL vs) = true
  | [] => by simp [encL, allOne]
  | v :: vs => by rw [encL]; simp only [allOne, DV.one, Bool.true_and]; exact encL_allOne vs
theorem encL_app (a b : List Vl) : encL a ++ encL b = encL (a ++ b) := by simp [encL_map]
theorem encL_get {vs : List Vl} {k : Nat} {v : Vl} (h : vs[k]? = some v) : ((encL vs).drop (k * 1)).take 1 = [BV v] := by
  rw [encL_map, Nat.mul_one]
  obtain ⟨h1, h2⟩ := List.getElem?_eq_some_iff.1 h
  rw [List.drop_eq_getElem_cons (by simpa using h1)]
  simp [h2]
theorem encL_get1 {vs : List Vl} {k : Nat} {v : Vl} (h : vs[k]? = some v) : (encL vs)[k]? = some (BV v) := by
  rw [encL_map, List.getElem?_map, h]
  rfl
/-- A result, its cell boxed. -/
theorem HasC.bxR {P : Program} {f : FuncId} {ds : List DV} {v : Vl} (h : HasC P f ds (fun y => y = .agg [v.enc])) : HasC P f ds (fun y => y = VV v) :=
  h.weak fun y hy => ⟨_, rfl, fun Im W r k => by subst hy; exact rel_agg1 (fun z hz => rel_bx (enc_one v) hz) k⟩

-- what may be
mutual
def Vl.ok : Vl → Prop
  | .null => True
  | .num g n e => May g n e
  | .list vs => vs.length ≤ 1073741824 ∧ okL vs
def okL : List Vl → Prop
  | [] => True
  | v :: vs => v.ok ∧ okL vs
end
theorem okL_iff : ∀ {vs : List Vl}, okL vs ↔ ∀ v ∈ vs, v.ok
  | [] => by simp [okL]
  | v :: vs => by rw [okL, okL_iff]; simp
theorem one_arg {Im : Nat → Nat → Prop} {W : World} {t : TypeId} {d : DV} {vs : Array Value} (hr : DV.relL Im W [.agg [.ifc t d]] vs.toList) : ∃ u, vs = #[.agg #[.iface t u]] := by
  rw [DV.relL] at hr
  obtain ⟨a, r0, e1, h1, h2⟩ := hr
  rw [DV.relL] at h2
  subst h2
  rw [DV.rel] at h1
  obtain ⟨xs, rfl, h3⟩ := h1
  rw [DV.relL] at h3
  obtain ⟨b, bs, e2, h4, h5⟩ := h3
  rw [DV.relL] at h5
  subst h5
  rw [DV.rel] at h4
  obtain ⟨u, rfl, h6⟩ := h4
  have ex : xs = #[.iface t u] := Array.ext' e2
  exact ⟨u, Array.ext' (by rw [e1, ex])⟩
theorem nil_arg {Im : Nat → Nat → Prop} {W : World} {vs : Array Value} (hr : DV.relL Im W [.agg [.v .nilIface]] vs.toList) : vs = #[.agg #[.nilIface]] := by
  rw [DV.relL] at hr
  obtain ⟨a, r0, e1, h1, h2⟩ := hr
  rw [DV.relL] at h2
  subst h2
  rw [DV.rel] at h1
  obtain ⟨xs, rfl, h3⟩ := h1
  rw [DV.relL] at h3
  obtain ⟨b, bs, e2, h4, h5⟩ := h3
  rw [DV.relL] at h5
  subst h5
  rw [DV.rel] at h4
  subst h4
  have ex : xs = #[.nilIface] := Array.ext' e2
  exact Array.ext' (by rw [e1, ex])
/-- A function of one value behind an interface, of which it asks the type alone. -/
theorem HasC.ofIfc {f : FuncId} {t : TypeId} {r : Value} {d : DV} (hent : Enters Tryz.prog f) (h : ∀ u w, Calls Tryz.prog f #[.agg #[.iface t u]] w fun e w' => e = .returned r ∧ Below w.heap.size w w') : HasC Tryz.prog f [.agg [.ifc t d]] (fun y => y = .v r) := by
  refine ⟨hent, ⟨_, rfl⟩, fun W vs Im _ hIm hr => ?_⟩
  obtain ⟨u, rfl⟩ := one_arg hr
  exact (h u W).mono fun e w' ⟨he, hb⟩ => ⟨r, _, he, rfl, v_rel r, hb⟩
theorem HasC.ofNil {f : FuncId} {r : Value} (hent : Enters Tryz.prog f) (h : ∀ w, Calls Tryz.prog f #[.agg #[.nilIface]] w fun e w' => e = .returned r ∧ Below w.heap.size w w') : HasC Tryz.prog f [.agg [.v .nilIface]] (fun y => y = .v r) := by
  refine ⟨hent, ⟨_, rfl⟩, fun W vs Im _ hIm hr => ?_⟩
  obtain rfl := nil_arg hr
  exact (h W).mono fun e w' ⟨he, hb⟩ => ⟨r, _, he, rfl, v_rel r, hb⟩

theorem inner_ms : Tryz.prog.underlying 27 = some (.interface (Tryz.prog.methodsAt 27)) := by kernel_rfl

theorem c_NullI {t : TypeId} {d : DV} : HasC Tryz.prog 9 [.agg [.ifc t d]] (fun y => y = .v (.bool false)) :=
  HasC.ofIfc (fun args w => Tryz.call9 args w) fun u w => by
    go_enter Tryz.func9, Tryz.ntmps9
    go_wp2_with fail
    go_returns
    exact ⟨rfl, by go_grown⟩
theorem c_Null0 : HasC Tryz.prog 9 [.agg [.v .nilIface]] (fun y => y = .v (.bool true)) :=
  HasC.ofNil (fun args w => Tryz.call9 args w) fun w => by
    go_enter Tryz.func9, Tryz.ntmps9
    go_wp2_with fail
    go_returns
    exact ⟨rfl, by go_grown⟩
theorem c_Null (v : Vl) : HasC Tryz.prog 9 [VV v] (fun y => y = .v (.bool v.nullB)) := by
  cases v
  case null => exact HasC.ub c_Null0
  all_goals exact HasC.ub c_NullI
theorem w_AsNumN {g : Bool} {n : Nat} {e : Int} : HasC Tryz.prog 43 [.agg [.ifc 88 (.agg [.v (.bool g), .v (.int .u64 (hiW (n))), .v (.int .u64 (loW (n))), .v (.int .i64 e)])]] (fun r => r = .tup [dDec g n e, .v (.bool true)]) := by
 refine HasC.of [] (fn := Tryz.f43) tyOk mixed (fun args w => Tryz.call43 args w) Tryz.func43 rfl (by kernel_rfl) (Nat.le_of_ble_eq_true rfl) (⟨_, rfl⟩) ?_
 refine vc_seqr rfl (iQ 3 (iE 14 [(1, .p 1 0), (2, .p 2 0), (3, Ba false)] [(1, [.ifc 88 (.agg [Bv g, Hw n, Lw n, Iv e])]), (2, [Bv false, Uv 0, Uv 0, Iv 0])] ?_))
 refine vc_seqr rfl (iQ 9 (iE 14 [(2, .p 2 0), (3, Ba false), (4, .p 4 0), (5, Ba true)] [(2, [Bv false, Uv 0, Uv 0, Iv 0]), (4, [Bv g, Hw n, Lw n, Iv e])] ?_))
 refine vc_seqr rfl (iQ 4 (iE 14 [(2, .p 2 0), (3, Ba true), (4, .p 4 0)] [(2, [Bv g, Hw n, Lw n, Iv e]), (4, [Bv g, Hw n, Lw n, Iv e])] ?_))
 refine vc_ret (iS (.agg [Bv g, Hw n, Lw n, Iv e]) (Bv true) [] ?_)
 rfl
theorem c_AsNumN {g : Bool} {n : Nat} {e : Int} : HasC Tryz.prog 43 [VV (.num g n e)] (fun r => r = .tup [dDec g n e, .v (.bool true)]) := HasC.ub w_AsNumN
theorem c_CloneV {vs : List Vl} (h : vs.length ≤ 1073741824) : HasC Tryz.prog 24 [.sl ((vs).length) (encL (vs))] (fun r => r = .sl vs.length (encL vs)) := by
 refine HasC.of [] (fn := Tryz.f24) tyOk mixed (fun args w => Tryz.call24 args w) Tryz.func24 rfl (by kernel_rfl) (Nat.le_of_ble_eq_true rfl) (⟨_, rfl⟩) ?_
 refine vc_seqr rfl (iQ 1 (iE 8 [(0, .d (.sl ((vs).length) (encL (vs)))), (2, .w (.sl 0 []) none)] [] ?_))
 refine vc_seq (vc_seqr rfl (iQ 1 ?_))
 refine iZ ((vs).length) 4 (fun hz4 => ?_) ?_
 ·skip
  refine iE 8 [(0, .d (.sl ((vs).length) (encL (vs)))), (2, .w (.sl 0 []) none), (4, Ba true)] [] ?_
  refine iT (vc_seqr rfl (iQ 1 (iE 8 [(0, .d (.sl ((vs).length) (encL (vs)))), (2, .w (.sl 0 []) none), (4, Ba true)] [] ?_)))
  refine vc_ret (seq_r (iR (.sl 0 []) ?_))
  have e : vs = [] := List.length_eq_zero_iff.1 hz4
  rw [e]; simp [encL]
 ·skip
  refine iE 8 [(0, .d (.sl ((vs).length) (encL (vs)))), (2, .w (.sl 0 []) none), (4, Ba false)] [] ?_
  refine iF (vc_skip (seq_n (vc_seqr rfl (iQ 2 (vcI_app (n := 0) (cs := []) (m := ((vs).length)) (ds := (encL (vs))) (N := ((vs).length)) (es := (encL (vs))) (j := 7) (e := 29) (z := 1) (dst := (some 7)) (by kernel_rfl) (by first | rfl | omega | (rw [Nat.mul_one]; exact dg_len _) | (simp [dg]; done) | (simp [dg]; omega)) (by first | rfl | omega | (rw [Nat.mul_one]; exact dg_len _) | (simp [dg]; done) | (simp [dg]; omega)) (by first | rfl | exact allOne_dg _ | exact encL_allOne _ | exact txsD_allOne _ | simp [dg, allOne]) (by omega) (by first | rfl | omega | (rw [Nat.mul_one]; exact dg_len _) | (simp [dg]; done) | (simp [dg]; omega)) (by first | rfl | simp [dg]) ?_)))))
  refine iQ 1 (iE 8 [(0, .d (.sl ((vs).length) (encL (vs)))), (2, .w (.sl ((vs).length) (encL (vs))) (some ⟨7, 0, 29, 1⟩)), (4, Ba false)] [] ?_)
  refine vc_ret (iR (.sl ((vs).length) (encL (vs))) ?_)
  rfl
open Classical in
noncomputable def numV (g : Bool) (n : Nat) (e : Int) : Vl := if May g n e then .num g n e else .null
theorem v_Num {g : Bool} {n : Nat} {e : Int} (hn : n < B128) : HasC Tryz.prog 22 [.agg [.v (.bool g), .v (.int .u64 (hiW (n))), .v (.int .u64 (loW (n))), .v (.int .i64 e)]] (fun r => r = .agg [(numV g n e).enc]) := by
 refine HasC.of [] (fn := Tryz.f22) tyOk mixed (fun args w => Tryz.call22 args w) Tryz.func22 rfl (by kernel_rfl) (Nat.le_of_ble_eq_true rfl) (⟨_, rfl⟩) ?_
 refine vc_seqr rfl (iQ 2 (iE 10 [(1, .p 1 0), (2, .p 2 0)] [(1, [Bv g, Hw n, Lw n, Iv e]), (2, [.v (.nilIface)])] ?_))
 refine vc_seq (vc_seqr rfl (iQ 1 (iC 51 [.agg [Bv g, Hw n, Lw n, Iv e]] (some 4) (c_May hn) ?_)))
 rintro _ ⟨w, rfl, hw⟩
 refine iU .not (.bool w) (some 5) ?_
 intro c5 hc5
 refine iE 10 [(1, .p 1 0), (2, .p 2 0), (5, Ba c5)] [(1, [Bv g, Hw n, Lw n, Iv e]), (2, [.v (.nilIface)])] ?_
 cases c5
 ·replace hc5 := bf hc5
  refine iF (vc_skip (seq_n (vc_seqr rfl (iQ 4 (iE 10 [(1, .p 1 0), (2, .p 2 0), (5, Ba false)] [(1, [Bv g, Hw n, Lw n, Iv e]), (2, [.ifc 88 (.agg [Bv g, Hw n, Lw n, Iv e])])] ?_)))))
  refine vc_ret (iR (.agg [.ifc 88 (.agg [Bv g, Hw n, Lw n, Iv e])]) ?_)
  rw [numV, if_pos (hw.1 (by simpa using hc5))]; rfl
 ·replace hc5 := bt hc5
  refine iT (vc_seqr rfl (iQ 2 (iE 10 [(1, .p 1 0), (2, .p 2 0), (5, Ba true)] [(1, [Bv g, Hw n, Lw n, Iv e]), (2, [.v (.nilIface)])] ?_)))
  refine vc_ret (seq_r (iR (.agg [.v (.nilIface)]) ?_))
  rw [numV, if_neg (fun h => by rw [hw.2 h] at hc5; cases hc5)]; rfl
theorem c_vNum {g : Bool} {n : Nat} {e : Int} (hn : n < B128) : HasC Tryz.prog 22 [dDec g n e] (fun r => r = VV (numV g n e)) := HasC.bxR (v_Num hn)
theorem v_List {vs : List Vl} (h : vs.length ≤ 1073741824) : HasC Tryz.prog 23 [.sl ((vs).length) (encL (vs))] (fun r => r = .agg [(Vl.list vs).enc]) := by
 refine HasC.of [] (fn := Tryz.f23) tyOk mixed (fun args w => Tryz.call23 args w) Tryz.func23 rfl (by kernel_rfl) (Nat.le_of_ble_eq_true rfl) (⟨_, rfl⟩) ?_
 refine vc_seqr rfl (iQ 1 (iE 7 [(0, .d (.sl ((vs).length) (encL (vs)))), (2, .p 2 0)] [(2, [.v (.nilIface)])] ?_))
 refine vc_seqr rfl (iQ 1 (iC 24 [.sl ((vs).length) (encL (vs))] (some 4) (c_CloneV h) ?_))
 rintro _ rfl
 refine iQ 3 (iE 7 [(2, .p 2 0)] [(2, [.ifc 59 (.sl ((vs).length) (encL (vs)))])] ?_)
 refine vc_ret (iR (.agg [.ifc 59 (.sl ((vs).length) (encL (vs)))]) ?_)
 rw [Vl.enc]
theorem c_vList {vs : List Vl} (h : vs.length ≤ 1073741824) : HasC Tryz.prog 23 [.sl vs.length (encL vs)] (fun r => r = VV (.list vs)) := HasC.bxR (v_List h)

def IsV (x : DV) (v : Vl) : Prop := x = VV v ∨ x = .agg [v.enc]
theorem IsV.box {Im : Nat → Nat → Prop} {W : World} {x : DV} {v : Vl} {r : Value} (h : IsV x v) (k : x.rel Im W r) : (VV v).rel Im W r := by
  rcases h with rfl | rfl
  · exact k
  · exact rel_agg1 (fun z hz => rel_bx (enc_one v) hz) k
theorem IsV.null : IsV (.agg [.v .nilIface]) .null := .inr (by rw [Vl.enc])
theorem HasC.isV {P : Program} {f : FuncId} {ds : List DV} {q : Vl → Prop} (h : HasC P f ds (fun y => ∃ v, IsV y v ∧ q v)) : HasC P f ds (fun y => ∃ v, y = VV v ∧ q v) :=
  h.weak fun y ⟨v, h1, h2⟩ => ⟨_, ⟨v, rfl, h2⟩, fun Im W r k => h1.box k⟩
theorem HasC.isVb {P : Program} {f : FuncId} {ds : List DV} {q : Vl → Bool → Prop} (h : HasC P f ds (fun y => ∃ x v ok, y = .tup [x, .v (.bool ok)] ∧ IsV x v ∧ q v ok)) : HasC P f ds (fun y => ∃ v ok, y = .tup [VV v, .v (.bool ok)] ∧ q v ok) :=
  h.weak fun y ⟨x, v, ok, h0, h1, h2⟩ => ⟨_, ⟨v, ok, rfl, h2⟩, fun Im W r k => by
    subst h0
    rw [DV.rel] at k ⊢
    obtain ⟨vs, e, k2⟩ := k
    refine ⟨vs, e, ?_⟩
    rw [DV.relL] at k2 ⊢
    obtain ⟨u, us, e1, k3, k4⟩ := k2
    exact ⟨u, us, e1, h1.box k3, k4⟩⟩
def intV (x : Int) : Vl := .num (decide (x < 0)) x.natAbs 0
theorem may_i64 {x : Int} (h0 : -9223372036854775808 ≤ x) (h1 : x ≤ 9223372036854775807) : May (decide (x < 0)) x.natAbs 0 := ⟨by unfold E34; omega, by decide, by decide, fun h h2 => by have : x < 0 := (by simpa using h); omega⟩
theorem numV_int {x : Int} (h0 : -9223372036854775808 ≤ x) (h1 : x ≤ 9223372036854775807) : numV (decide (x < 0)) x.natAbs 0 = intV x := by rw [numV, if_pos (may_i64 h0 h1), intV]
theorem int_ok {x : Int} (h0 : -9223372036854775808 ≤ x) (h1 : x ≤ 9223372036854775807) : (intV x).ok := by rw [intV, Vl.ok]; exact may_i64 h0 h1
theorem c_vInt {x : Int} (h0 : -9223372036854775808 ≤ x) (h1 : x ≤ 9223372036854775807) : HasC Tryz.prog 13 [.v (.int .i64 x)] (fun r => r = VV (intV x)) := by
 refine HasC.of [] (fn := Tryz.f13) tyOk mixed (fun args w => Tryz.call13 args w) Tryz.func13 rfl (by kernel_rfl) (Nat.le_of_ble_eq_true rfl) (⟨_, rfl⟩) ?_
 refine vc_seqr rfl (iQ 1 (iE 6 [(0, Ia x), (2, .p 2 0)] [(2, [.v (.nilIface)])] ?_))
 refine vc_seqr rfl (iQ 1 (iC 16 [Iv x] (some 4) (c_Int h0 h1) ?_))
 rintro _ rfl
 refine iC 22 [.agg [Bv (decide (x < 0)), Hw x.natAbs, Lw x.natAbs, Iv 0]] (some 5) (c_vNum (Nat.lt_trans (may_i64 h0 h1).1 e34_lt)) ?_
 rintro _ rfl
 refine iQ 1 (iE 6 [(2, .p 2 0)] [(2, [.bx (numV (decide (x < 0)) x.natAbs 0).enc])] ?_)
 refine vc_ret (iR (.agg [.bx (numV (decide (x < 0)) x.natAbs 0).enc]) ?_)
 rw [← numV_int h0 h1]
end Go.Proofs.YtmldjlgeeljfdaaGreat
