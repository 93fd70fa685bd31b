/-
  equal: the order of values; truths.
-/
import Derived.Test.YtpambeengdhhmaaGreatDoorVlX
import Derived.Test.YtpambeengdhhmaaGreatDoorDecY
import Derived.Test.YtpambeengdhhmaaGreatDoorCivZ
namespace Go.Proofs.YtpambeengdhhmaaGreatDoor
open Go.RowKit Go.Shelf
set_option linter.unusedVariables false
set_option linter.unusedSimpArgs false
set_option maxRecDepth 100000

-- truths
def notI (x : Int) : Int := if x = 2 then 1 else if x = 1 then 2 else 0
def andI (x y : Int) : Int := if x = 1 ∨ y = 1 then 1 else if x = 2 ∧ y = 2 then 2 else 0
def ofI (p : Bool) : Int := if p = true then 2 else 1
theorem c_eOf {p : Bool} : HasC Tryz.prog 18 [.v (.bool p)] (fun r => r = .v (.int .i64 (ofI p))) := by
 refine HasC.of [] (fn := Tryz.f18) tyOk mixed (fun args w => Tryz.call18 args w) Tryz.func18 rfl (by kernel_rfl) (Nat.le_of_ble_eq_true rfl) (⟨_, rfl⟩) ?_
 refine vc_seqr rfl (iQ 1 (iE 4 [(0, Ba p), (2, Ia 0)] [] ?_))
 refine vc_seq (vc_seqr rfl (iQ 1 (iE 4 [(2, Ia 0), (3, Ba p)] [] ?_)))
 cases p
 ·skip
  refine iF (vc_skip (seq_n (vc_seqr rfl (iQ 1 (iE 4 [(2, Ia 1), (3, Ba false)] [] ?_)))))
  refine vc_ret (iR (Iv 1) ?_)
  rfl
 ·skip
  refine iT (vc_seqr rfl (iQ 1 (iE 4 [(2, Ia 2), (3, Ba true)] [] ?_)))
  refine vc_ret (seq_r (iR (Iv 2) ?_))
  rfl
theorem c_eNot {x : Int} : HasC Tryz.prog 10 [.v (.int .i64 x)] (fun r => r = .v (.int .i64 (notI x))) := by
 refine HasC.of [] (fn := Tryz.f10) tyOk mixed (fun args w => Tryz.call10 args w) Tryz.func10 rfl (by kernel_rfl) (Nat.le_of_ble_eq_true rfl) (⟨_, rfl⟩) ?_
 refine vc_seqr rfl (iQ 1 (iE 8 [(0, Ia x), (2, Ia 0)] [] ?_))
 refine vc_seq (vc_seqr rfl (iQ 1 (iE 8 [(2, Ia 0), (3, Ia x)] [] ?_)))
 refine vc_block (vc_seqr rfl (iB .eql 23 (.int .i64 x) (.int .i64 2) (some 5) ?_))
 intro c5 hc5
 refine iQ 1 (iE 8 [(2, Ia 0), (3, Ia x), (4, Ba c5)] [] ?_)
 cases c5
 ·replace hc5 := bf hc5
  refine iF (vc_seqr rfl (iB .eql 23 (.int .i64 x) (.int .i64 1) (some 7) ?_))
  intro c7 hc7
  refine iQ 1 (iE 8 [(2, Ia 0), (3, Ia x), (4, Ba false), (6, Ba c7)] [] ?_)
  cases c7
  ·replace hc7 := bf hc7
   refine iF (vc_skip (block_n (seq_n (vc_seqr rfl (iQ 1 (iE 8 [(2, Ia 0), (3, Ia x), (4, Ba false), (6, Ba false)] [] ?_))))))
   refine vc_ret (iR (Iv 0) ?_)
   rw [notI, if_neg hc5, if_neg hc7]
  ·replace hc7 := bt hc7
   refine iT (vc_seqr rfl (iQ 1 (iE 8 [(2, Ia 2), (3, Ia x), (4, Ba false), (6, Ba true)] [] ?_)))
   refine vc_ret (block_r (seq_r (iR (Iv 2) ?_)))
   rw [notI, if_neg hc5, if_pos hc7]
 ·replace hc5 := bt hc5
  refine iT (vc_seqr rfl (iQ 1 (iE 8 [(2, Ia 1), (3, Ia x), (4, Ba true)] [] ?_)))
  refine vc_ret (block_r (seq_r (iR (Iv 1) ?_)))
  rw [notI, if_pos hc5]
theorem c_eAnd {x y : Int} : HasC Tryz.prog 11 [.v (.int .i64 x), .v (.int .i64 y)] (fun r => r = .v (.int .i64 (andI x y))) := by
 refine HasC.of [] (fn := Tryz.f11) tyOk mixed (fun args w => Tryz.call11 args w) Tryz.func11 rfl (by kernel_rfl) (Nat.le_of_ble_eq_true rfl) (⟨_, rfl⟩) ?_
 refine vc_seqr rfl (iQ 1 (iE 19 [(0, Ia x), (1, Ia y), (4, Ia 0)] [] ?_))
 refine vc_seq (vc_block (vc_seqr rfl (iQ 1 (iB .eql 23 (.int .i64 x) (.int .i64 1) (some 7) ?_))))
 intro c7 hc7
 refine iQ 1 ?_
 cases c7
 ·replace hc7 := bf hc7
  refine iQ 1 (iB .eql 23 (.int .i64 y) (.int .i64 1) (some 10) ?_)
  intro c10 hc10
  refine iQ 2 (iE 19 [(0, Ia x), (1, Ia y), (4, Ia 0), (5, Ba c10)] [] ?_)
  cases c10
  ·replace hc10 := bf hc10
   refine iF (vc_seqr rfl (iQ 1 (iB .eql 23 (.int .i64 x) (.int .i64 2) (some 14) ?_)))
   intro c14 hc14
   refine iQ 1 ?_
   cases c14
   ·replace hc14 := bf hc14
    refine iQ 4 (iE 19 [(0, Ia x), (1, Ia y), (4, Ia 0), (5, Ba false), (12, Ba false)] [] ?_)
    refine iF (vc_skip (block_n (seq_n (vc_seqr rfl (iQ 1 (iE 19 [(0, Ia x), (1, Ia y), (4, Ia 0), (5, Ba false), (12, Ba false)] [] ?_))))))
    refine vc_ret (iR (Iv 0) ?_)
    rw [andI, if_neg (by omega), if_neg (by omega)]
   ·replace hc14 := bt hc14
    refine iQ 1 (iB .eql 23 (.int .i64 y) (.int .i64 2) (some 17) ?_)
    intro c17 hc17
    refine iQ 2 (iE 19 [(0, Ia x), (1, Ia y), (4, Ia 0), (5, Ba false), (12, Ba c17)] [] ?_)
    cases c17
    ·replace hc17 := bf hc17
     refine iF (vc_skip (block_n (seq_n (vc_seqr rfl (iQ 1 (iE 19 [(0, Ia x), (1, Ia y), (4, Ia 0), (5, Ba false), (12, Ba false)] [] ?_))))))
     refine vc_ret (iR (Iv 0) ?_)
     rw [andI, if_neg (by omega), if_neg (by omega)]
    ·replace hc17 := bt hc17
     refine iT (vc_seqr rfl (iQ 1 (iE 19 [(0, Ia x), (1, Ia y), (4, Ia 2), (5, Ba false), (12, Ba true)] [] ?_)))
     refine vc_ret (block_r (seq_r (iR (Iv 2) ?_)))
     rw [andI, if_neg (by omega), if_pos (by omega)]
  ·replace hc10 := bt hc10
   refine iT (vc_seqr rfl (iQ 1 (iE 19 [(0, Ia x), (1, Ia y), (4, Ia 1), (5, Ba true)] [] ?_)))
   refine vc_ret (block_r (seq_r (iR (Iv 1) ?_)))
   rw [andI, if_pos (by omega)]
 ·replace hc7 := bt hc7
  refine iQ 4 (iE 19 [(0, Ia x), (1, Ia y), (4, Ia 0), (5, Ba true)] [] ?_)
  refine iT (vc_seqr rfl (iQ 1 (iE 19 [(0, Ia x), (1, Ia y), (4, Ia 1), (5, Ba true)] [] ?_)))
  refine vc_ret (block_r (seq_r (iR (Iv 1) ?_)))
  rw [andI, if_pos (by omega)]
theorem c_eOr {x y : Int} : HasC Tryz.prog 12 [.v (.int .i64 x), .v (.int .i64 y)] (fun r => r = .v (.int .i64 (notI (andI (notI x) (notI y))))) := by
 refine HasC.of [] (fn := Tryz.f12) tyOk mixed (fun args w => Tryz.call12 args w) Tryz.func12 rfl (by kernel_rfl) (Nat.le_of_ble_eq_true rfl) (⟨_, rfl⟩) ?_
 refine vc_seqr rfl (iQ 1 (iE 11 [(0, Ia x), (1, Ia y), (4, Ia 0)] [] ?_))
 refine vc_seqr rfl (iQ 1 (iC 10 [Iv x] (some 6) (c_eNot) ?_))
 rintro _ rfl
 refine iQ 1 (iC 10 [Iv y] (some 8) (c_eNot) ?_)
 rintro _ rfl
 refine iC 11 [Iv (notI (x)), Iv (notI (y))] (some 9) (c_eAnd) ?_
 rintro _ rfl
 refine iC 10 [Iv (andI (notI (x)) (notI (y)))] (some 10) (c_eNot) ?_
 rintro _ rfl
 refine iQ 1 (iE 11 [(4, Ia (notI (andI (notI (x)) (notI (y)))))] [] ?_)
 refine vc_ret (iR (Iv (notI (andI (notI (x)) (notI (y))))) ?_)
 rfl

-- order
def keyD (y m d : Int) : Int := (y * 16 + m) * 32 + d
noncomputable def ordV : Vl → Vl → Option Int
  | .num g n e, .num g' n' e' => some (cmpZ g n e g' n' e')
  | .text a, .text b => some (Lib.compareBytes a b)
  | .day y m d, .day y' m' d' => some (cmpI (keyD y m d) (keyD y' m' d'))
  | .time s z o, .time s' z' o' => if z = z' then some (cmpI (s - o) (s' - o')) else none
  | .mom y m d s z o, .mom y' m' d' s' z' o' => if z = z' then some (cmpI (86400 * numI y m d + s - o) (86400 * numI y' m' d' + s' - o')) else none
  | .days a, .days b => some (cmpI a b)
  | .months a, .months b => some (cmpI a b)
  | _, _ => none
def ordR (o : Option Int) : DV := .tup [.v (.int .i64 (o.getD 0)), .v (.bool o.isSome)]
theorem ord_kind {a b : Vl} (h : a.kindI ≠ b.kindI) : ordV a b = none := by cases a <;> cases b <;> first | rfl | exact absurd rfl h
theorem ord_un {a b : Vl} (h : ¬ (3 ≤ a.kindI ∧ a.kindI ≤ 9)) : ordV a b = none := by cases a <;> first | (cases b <;> rfl) | (simp [Vl.kindI] at h)
theorem kind3 {v : Vl} (h : v.kindI = 3) : ∃ g n e, v = .num g n e := by cases v <;> first | exact ⟨_, _, _, rfl⟩ | cases h
theorem kind4 {v : Vl} (h : v.kindI = 4) : ∃ l, v = .text l := by cases v <;> first | exact ⟨_, rfl⟩ | cases h
theorem kind5 {v : Vl} (h : v.kindI = 5) : ∃ y m d, v = .day y m d := by cases v <;> first | exact ⟨_, _, _, rfl⟩ | cases h
theorem kind6 {v : Vl} (h : v.kindI = 6) : ∃ s z o, v = .time s z o := by cases v <;> first | exact ⟨_, _, _, rfl⟩ | cases h
theorem kind7 {v : Vl} (h : v.kindI = 7) : ∃ y m d s z o, v = .mom y m d s z o := by cases v <;> first | exact ⟨_, _, _, _, _, _, rfl⟩ | cases h
theorem kind8 {v : Vl} (h : v.kindI = 8) : ∃ n, v = .days n := by cases v <;> first | exact ⟨_, rfl⟩ | cases h
theorem kind9 {v : Vl} (h : v.kindI = 9) : ∃ n, v = .months n := by cases v <;> first | exact ⟨_, rfl⟩ | cases h
theorem c_Compare {a b : L8} : HasC Tryz.prog 71 [.v (.string (tx a)), .v (.string (tx b))] (fun y => y = .v (.int .i64 (Lib.compareBytes a b))) :=
  (HasC.ofCallsK (vs := [.string (tx a), .string (tx b)]) (R := fun r => r = .int .i64 (Lib.compareBytes a b)) (fun args w => Tryz.call71 args w) ⟨_, rfl⟩ rfl fun w hk => by
    have e1 : (tx a).data.toList = a := by simp [tx]
    have e2 : (tx b).data.toList = b := by simp [tx]
    have hv := Any.strings_Compare laysCmp (tx a) (tx b) w
    rw [e1, e2] at hv
    exact hv.mono fun e w' ⟨h1, h2⟩ => ⟨_, h1, rfl, by rw [h2]; exact Below.refl _ _⟩).mono fun y ⟨r, h1, h2⟩ => by rw [h2, h1]; rfl
theorem key_lt {y m d y' m' d' : Int} (h : mayD y m d) (h' : mayD y' m' d') : ltD y m d y' m' d' ↔ keyD y m d < keyD y' m' d' := by
  have := mayD_rng h
  have := mayD_rng h'
  unfold ltD keyD
  omega
theorem c_dayCmp2 {y m d y' m' d' : Int} (h : mayD y m d) (h' : mayD y' m' d') : HasC Tryz.prog 73 [.agg [.v (.int .i64 y), .v (.int .i64 m), .v (.int .i64 d)], .agg [.v (.int .i64 y'), .v (.int .i64 m'), .v (.int .i64 d')]] (fun r => r = .v (.int .i64 (cmpI (keyD y m d) (keyD y' m' d')))) :=
  c_dayCmp1.mono fun r ⟨c, h1, h2, h3, h4, h5⟩ => by
    rw [key_lt h h'] at h2
    rw [key_lt h' h] at h3
    have e : c = cmpI (keyD y m d) (keyD y' m' d') := by
      unfold cmpI
      split
      · omega
      · split <;> omega
    rw [h1, e]
theorem cmpI_of {x y c : Int} (h : c = -1 ∧ x < y ∨ c = 1 ∧ y < x ∨ c = 0 ∧ x = y) : c = cmpI x y := by
  unfold cmpI
  rcases h with ⟨h1, h2⟩ | ⟨h1, h2⟩ | ⟨h1, h2⟩
  · rw [if_pos h2, h1]
  · rw [if_neg (by omega), if_neg (by omega), h1]
  · rw [if_neg (by omega), if_pos h2, h1]
theorem ordR_some {c x y : Int} (h : c = -1 ∧ x < y ∨ c = 1 ∧ y < x ∨ c = 0 ∧ x = y) : DV.tup [.v (.int .i64 c), .v (.bool true)] = ordR (some (cmpI x y)) := by rw [cmpI_of h]; rfl
theorem c_tCmp2 {s o s' o' : Int} {z z' : Bool} (h : mayT s z o) (h' : mayT s' z' o') : HasC Tryz.prog 75 [.agg [.v (.int .i64 s), .v (.bool z), .v (.int .i64 o)], .agg [.v (.int .i64 s'), .v (.bool z'), .v (.int .i64 o')]] (fun r => r = ordR (if z = z' then some (cmpI (s - o) (s' - o')) else none)) := by
 refine HasC.of [] (fn := Tryz.f75) tyOk mixed (fun args w => Tryz.call75 args w) Tryz.func75 rfl (by kernel_rfl) (Nat.le_of_ble_eq_true rfl) (⟨_, rfl⟩) ?_
 unfold mayT at h h'
 refine vc_seqr rfl (iQ 4 (iE 31 [(2, .p 2 0), (3, .p 3 0), (4, Ia 0), (5, Ba false)] [(2, [Iv s, Bv z, Iv o]), (3, [Iv s', Bv z', Iv o'])] ?_))
 refine vc_seq (vc_seqr rfl (iQ 4 (iB .neq 4 (.bool z) (.bool z') (some 12) ?_)))
 intro c12 hc12
 refine iE 31 [(2, .p 2 0), (3, .p 3 0), (4, Ia 0), (5, Ba false), (12, Ba c12)] [(2, [Iv s, Bv z, Iv o]), (3, [Iv s', Bv z', Iv o'])] ?_
 cases c12
 ·replace hc12 := bf hc12
  have hz : z = z' := Classical.not_not.1 hc12
  refine iF (vc_skip (seq_n (vc_seqr rfl (iQ 4 (iB .sub 3 (.int .i64 s) (.int .i64 o) (some 17) ?_)))))
  intro z17 hz17
  try replace hz17 := hz17.i64 (by omega)
  refine iQ 4 (iB .sub 3 (.int .i64 s') (.int .i64 o') (some 22) ?_)
  intro z22 hz22
  try replace hz22 := hz22.i64 (by omega)
  refine iQ 2 (iE 31 [(2, .p 2 0), (3, .p 3 0), (4, Ia 0), (5, Ba false), (6, Ia z17), (7, Ia z22), (12, Ba false)] [(2, [Iv s, Bv z, Iv o]), (3, [Iv s', Bv z', Iv o'])] ?_)
  refine vc_seq (vc_block (vc_seqr rfl (iQ 2 (iB .lss 3 (.int .i64 z17) (.int .i64 z22) (some 26) ?_))))
  intro c26 hc26
  refine iQ 1 (iE 31 [(2, .p 2 0), (3, .p 3 0), (4, Ia 0), (5, Ba false), (6, Ia z17), (7, Ia z22), (12, Ba false), (23, Ba c26)] [(2, [Iv s, Bv z, Iv o]), (3, [Iv s', Bv z', Iv o'])] ?_)
  cases c26
  ·replace hc26 := bf hc26
   refine iF (vc_seqr rfl (iQ 2 (iB .gtr 3 (.int .i64 z17) (.int .i64 z22) (some 30) ?_)))
   intro c30 hc30
   refine iQ 1 (iE 31 [(2, .p 2 0), (3, .p 3 0), (4, Ia 0), (5, Ba false), (6, Ia z17), (7, Ia z22), (12, Ba false), (23, Ba false), (27, Ba c30)] [(2, [Iv s, Bv z, Iv o]), (3, [Iv s', Bv z', Iv o'])] ?_)
   cases c30
   ·replace hc30 := bf hc30
    refine iF (vc_skip (block_n (seq_n (vc_seqr rfl (iQ 2 (iE 31 [(2, .p 2 0), (3, .p 3 0), (4, Ia 0), (5, Ba true), (6, Ia z17), (7, Ia z22), (12, Ba false), (23, Ba false), (27, Ba false)] [(2, [Iv s, Bv z, Iv o]), (3, [Iv s', Bv z', Iv o'])] ?_))))))
    refine vc_ret (iS (Iv 0) (Bv true) [] ?_)
    rw [if_pos hz]; exact ordR_some (.inr (.inr ⟨rfl, by omega⟩))
   ·replace hc30 := bt hc30
    refine iT (vc_seqr rfl (iQ 2 (iE 31 [(2, .p 2 0), (3, .p 3 0), (4, Ia 1), (5, Ba true), (6, Ia z17), (7, Ia z22), (12, Ba false), (23, Ba false), (27, Ba true)] [(2, [Iv s, Bv z, Iv o]), (3, [Iv s', Bv z', Iv o'])] ?_)))
    refine vc_ret (block_r (seq_r (iS (Iv 1) (Bv true) [] ?_)))
    rw [if_pos hz]; exact ordR_some (.inr (.inl ⟨rfl, by omega⟩))
  ·replace hc26 := bt hc26
   refine iT (vc_seqr rfl (iQ 2 (iE 31 [(2, .p 2 0), (3, .p 3 0), (4, Ia (-1)), (5, Ba true), (6, Ia z17), (7, Ia z22), (12, Ba false), (23, Ba true)] [(2, [Iv s, Bv z, Iv o]), (3, [Iv s', Bv z', Iv o'])] ?_)))
   refine vc_ret (block_r (seq_r (iS (Iv (-1)) (Bv true) [] ?_)))
   rw [if_pos hz]; exact ordR_some (.inl ⟨rfl, by omega⟩)
 ·replace hc12 := bt hc12
  refine iT (vc_seqr rfl (iQ 2 (iE 31 [(2, .p 2 0), (3, .p 3 0), (4, Ia 0), (5, Ba false), (12, Ba true)] [(2, [Iv s, Bv z, Iv o]), (3, [Iv s', Bv z', Iv o'])] ?_)))
  refine vc_ret (seq_r (iS (Iv 0) (Bv false) [] ?_))
  rw [if_neg hc12]; rfl
theorem c_Instant {y m d s o : Int} {z : Bool} (h : mayD y m d) (h' : mayT s z o) : HasC Tryz.prog 167 [.agg [.v (.int .i64 y), .v (.int .i64 m), .v (.int .i64 d), .v (.int .i64 s), .v (.bool z), .v (.int .i64 o)]] (fun r => r = .tup [.v (.int .i64 (86400 * numI y m d + s - o)), .v (.bool true)]) := by
 refine HasC.of [] (fn := Tryz.f167) tyOk mixed (fun args w => Tryz.call167 args w) Tryz.func167 rfl (by kernel_rfl) (Nat.le_of_ble_eq_true rfl) (⟨_, rfl⟩) ?_
 have hn := numI_rng h
 refine vc_seqr rfl (iQ 3 (iE 30 [(1, .p 1 0), (2, Ia 0), (3, Ba false)] [(1, [Iv y, Iv m, Iv d, Iv s, Bv z, Iv o])] ?_))
 refine vc_seqr rfl (iQ 2 (iC 191 [.agg [Iv y, Iv m, Iv d]] (some 9) (c_Number h) ?_))
 rintro _ rfl
 refine iQ 5 (iE 30 [(1, .p 1 0), (2, Ia 0), (3, Ba false), (4, Ia (numI y m d)), (5, Ba true)] [(1, [Iv y, Iv m, Iv d, Iv s, Bv z, Iv o])] ?_)
 refine vc_seq (vc_seqr rfl (iQ 1 (iU .not (.bool true) (some 13) ?_)))
 refine all_false ((by simp)) ?_
 refine iQ 3 (iC 160 [.agg [Iv s, Bv z, Iv o]] (some 17) (c_TMay) ?_)
 rintro _ ⟨w, rfl, hw⟩
 refine iU .not (.bool w) (some 18) ?_
 refine all_false ((by rw [hw.2 h']; simp)) ?_
 unfold mayT at h'
 refine iQ 1 (iE 30 [(1, .p 1 0), (2, Ia 0), (3, Ba false), (4, Ia (numI y m d)), (19, Ba false)] [(1, [Iv y, Iv m, Iv d, Iv s, Bv z, Iv o])] ?_)
 refine iF (vc_skip (seq_n (vc_seqr rfl (iQ 1 (iB .mul 3 (.int .i64 86400) (.int .i64 (numI y m d)) (some 21) ?_)))))
 intro z21 hz21
 try replace hz21 := hz21.i64 (by omega)
 refine iQ 3 (iB .add 3 (.int .i64 z21) (.int .i64 s) (some 25) ?_)
 intro z25 hz25
 try replace hz25 := hz25.i64 (by omega)
 refine iQ 3 (iB .sub 3 (.int .i64 z25) (.int .i64 o) (some 29) ?_)
 intro z29 hz29
 try replace hz29 := hz29.i64 (by omega)
 refine iQ 2 (iE 30 [(1, .p 1 0), (2, Ia z29), (3, Ba true), (19, Ba false)] [(1, [Iv y, Iv m, Iv d, Iv s, Bv z, Iv o])] ?_)
 refine vc_ret (iS (Iv z29) (Bv true) [] ?_)
 rw [show z29 = 86400 * numI y m d + s - o by omega]
theorem c_mBetween {y m d s o y' m' d' s' o' : Int} {z z' : Bool} (h1 : mayD y m d) (h2 : mayT s z o) (h3 : mayD y' m' d') (h4 : mayT s' z' o') : HasC Tryz.prog 127 [.agg [.v (.int .i64 y), .v (.int .i64 m), .v (.int .i64 d), .v (.int .i64 s), .v (.bool z), .v (.int .i64 o)], .agg [.v (.int .i64 y'), .v (.int .i64 m'), .v (.int .i64 d'), .v (.int .i64 s'), .v (.bool z'), .v (.int .i64 o')]] (fun r => r = .tup [.v (.int .i64 (if z = z' then (86400 * numI y' m' d' + s' - o') - (86400 * numI y m d + s - o) else 0)), .v (.bool (decide (z = z')))]) := by
 refine HasC.of [] (fn := Tryz.f127) tyOk mixed (fun args w => Tryz.call127 args w) Tryz.func127 rfl (by kernel_rfl) (Nat.le_of_ble_eq_true rfl) (⟨_, rfl⟩) ?_
 have hn := numI_rng h1
 have hn' := numI_rng h3
 refine vc_seqr rfl (iQ 4 (iE 38 [(2, .p 2 0), (3, .p 3 0), (4, Ia 0), (5, Ba false)] [(2, [Iv y, Iv m, Iv d, Iv s, Bv z, Iv o]), (3, [Iv y', Iv m', Iv d', Iv s', Bv z', Iv o'])] ?_))
 refine vc_seqr rfl (iQ 1 (iC 167 [.agg [Iv y, Iv m, Iv d, Iv s, Bv z, Iv o]] (some 12) (c_Instant h1 h2) ?_))
 rintro _ rfl
 refine iQ 5 (iE 38 [(2, .p 2 0), (3, .p 3 0), (4, Ia 0), (5, Ba false), (6, Ia (86400 * numI y m d + s - o)), (7, Ba true)] [(2, [Iv y, Iv m, Iv d, Iv s, Bv z, Iv o]), (3, [Iv y', Iv m', Iv d', Iv s', Bv z', Iv o'])] ?_)
 refine vc_seqr rfl (iQ 1 (iC 167 [.agg [Iv y', Iv m', Iv d', Iv s', Bv z', Iv o']] (some 17) (c_Instant h3 h4) ?_))
 rintro _ rfl
 unfold mayT at h2 h4
 refine iQ 5 (iE 38 [(2, .p 2 0), (3, .p 3 0), (4, Ia 0), (5, Ba false), (6, Ia (86400 * numI y m d + s - o)), (7, Ba true), (8, Ia (86400 * numI y' m' d' + s' - o')), (9, Ba true)] [(2, [Iv y, Iv m, Iv d, Iv s, Bv z, Iv o]), (3, [Iv y', Iv m', Iv d', Iv s', Bv z', Iv o'])] ?_)
 refine vc_seq (vc_seqr rfl (iQ 1 (iU .not (.bool true) (some 21) ?_)))
 refine all_false ((by simp)) ?_
 refine iQ 2 (iU .not (.bool true) (some 24) ?_)
 refine all_false ((by simp)) ?_
 refine iQ 8 (iB .neq 4 (.bool z) (.bool z') (some 33) ?_)
 intro c33 hc33
 refine iQ 1 (iE 38 [(2, .p 2 0), (3, .p 3 0), (4, Ia 0), (5, Ba false), (6, Ia (86400 * numI y m d + s - o)), (8, Ia (86400 * numI y' m' d' + s' - o')), (34, Ba c33)] [(2, [Iv y, Iv m, Iv d, Iv s, Bv z, Iv o]), (3, [Iv y', Iv m', Iv d', Iv s', Bv z', Iv o'])] ?_)
 cases c33
 ·replace hc33 := bf hc33
  have hz : z = z' := Classical.not_not.1 hc33
  refine iF (vc_skip (seq_n (vc_seqr rfl (iQ 2 (iB .sub 3 (.int .i64 (86400 * numI y' m' d' + s' - o')) (.int .i64 (86400 * numI y m d + s - o)) (some 37) ?_)))))
  intro z37 hz37
  try replace hz37 := hz37.i64 (by omega)
  refine iQ 2 (iE 38 [(2, .p 2 0), (3, .p 3 0), (4, Ia z37), (5, Ba true), (34, Ba false)] [(2, [Iv y, Iv m, Iv d, Iv s, Bv z, Iv o]), (3, [Iv y', Iv m', Iv d', Iv s', Bv z', Iv o'])] ?_)
  refine vc_ret (iS (Iv z37) (Bv true) [] ?_)
  rw [if_pos hz, decide_eq_true hz, hz37]
 ·replace hc33 := bt hc33
  refine iT (vc_seqr rfl (iQ 2 (iE 38 [(2, .p 2 0), (3, .p 3 0), (4, Ia 0), (5, Ba false), (6, Ia (86400 * numI y m d + s - o)), (8, Ia (86400 * numI y' m' d' + s' - o')), (34, Ba true)] [(2, [Iv y, Iv m, Iv d, Iv s, Bv z, Iv o]), (3, [Iv y', Iv m', Iv d', Iv s', Bv z', Iv o'])] ?_)))
  refine vc_ret (seq_r (iS (Iv 0) (Bv false) [] ?_))
  rw [if_neg hc33, decide_eq_false hc33]
theorem c_mCmp2 {y m d s o y' m' d' s' o' : Int} {z z' : Bool} (h1 : mayD y m d) (h2 : mayT s z o) (h3 : mayD y' m' d') (h4 : mayT s' z' o') : HasC Tryz.prog 77 [.agg [.v (.int .i64 y), .v (.int .i64 m), .v (.int .i64 d), .v (.int .i64 s), .v (.bool z), .v (.int .i64 o)], .agg [.v (.int .i64 y'), .v (.int .i64 m'), .v (.int .i64 d'), .v (.int .i64 s'), .v (.bool z'), .v (.int .i64 o')]] (fun r => r = ordR (if z = z' then some (cmpI (86400 * numI y m d + s - o) (86400 * numI y' m' d' + s' - o')) else none)) := by
 refine HasC.of [] (fn := Tryz.f77) tyOk mixed (fun args w => Tryz.call77 args w) Tryz.func77 rfl (by kernel_rfl) (Nat.le_of_ble_eq_true rfl) (⟨_, rfl⟩) ?_
 obtain ⟨n, ok, hn, hok⟩ : ∃ n ok, (if z = z' then (86400 * numI y' m' d' + s' - o') - (86400 * numI y m d + s - o) else 0) = n ∧ decide (z = z') = ok := ⟨_, _, rfl, rfl⟩
 refine vc_seqr rfl (iQ 4 (iE 23 [(2, .p 2 0), (3, .p 3 0), (4, Ia 0), (5, Ba false)] [(2, [Iv y, Iv m, Iv d, Iv s, Bv z, Iv o]), (3, [Iv y', Iv m', Iv d', Iv s', Bv z', Iv o'])] ?_))
 refine vc_seqr rfl (iQ 2 (iC 127 [.agg [Iv y, Iv m, Iv d, Iv s, Bv z, Iv o], .agg [Iv y', Iv m', Iv d', Iv s', Bv z', Iv o']] (some 11) ((c_mBetween h1 h2 h3 h4).mono (fun r hr ↦ by rw [hn, hok] at hr; exact hr)) ?_))
 rintro _ rfl
 refine iQ 5 (iE 23 [(4, Ia 0), (5, Ba false), (6, Ia n), (7, Ba ok)] [] ?_)
 refine vc_seq (vc_block (vc_seqr rfl (iQ 1 (iU .not (.bool ok) (some 16) ?_))))
 intro c16 hc16
 refine iQ 1 (iE 23 [(4, Ia 0), (5, Ba false), (6, Ia n), (14, Ba c16)] [] ?_)
 cases c16
 ·replace hc16 := bf hc16
  have hz := of_decide_eq_true (hok.trans (by simpa using hc16))
  rw [if_pos hz] at hn
  refine iF (vc_seqr rfl (iQ 1 (iB .gtr 3 (.int .i64 n) (.int .i64 0) (some 19) ?_)))
  intro c19 hc19
  refine iQ 1 (iE 23 [(4, Ia 0), (5, Ba false), (6, Ia n), (14, Ba false), (17, Ba c19)] [] ?_)
  cases c19
  ·replace hc19 := bf hc19
   refine iF (vc_seqr rfl (iQ 1 (iB .lss 3 (.int .i64 n) (.int .i64 0) (some 22) ?_)))
   intro c22 hc22
   refine iQ 1 (iE 23 [(4, Ia 0), (5, Ba false), (6, Ia n), (14, Ba false), (17, Ba false), (20, Ba c22)] [] ?_)
   cases c22
   ·replace hc22 := bf hc22
    refine iF (vc_skip (block_n (seq_n (vc_seqr rfl (iQ 2 (iE 23 [(4, Ia 0), (5, Ba true), (6, Ia n), (14, Ba false), (17, Ba false), (20, Ba false)] [] ?_))))))
    refine vc_ret (iS (Iv 0) (Bv true) [] ?_)
    rw [if_pos hz]; exact ordR_some (.inr (.inr ⟨rfl, by omega⟩))
   ·replace hc22 := bt hc22
    refine iT (vc_seqr rfl (iQ 2 (iE 23 [(4, Ia 1), (5, Ba true), (6, Ia n), (14, Ba false), (17, Ba false), (20, Ba true)] [] ?_)))
    refine vc_ret (block_r (seq_r (iS (Iv 1) (Bv true) [] ?_)))
    rw [if_pos hz]; exact ordR_some (.inr (.inl ⟨rfl, by omega⟩))
  ·replace hc19 := bt hc19
   refine iT (vc_seqr rfl (iQ 2 (iE 23 [(4, Ia (-1)), (5, Ba true), (6, Ia n), (14, Ba false), (17, Ba true)] [] ?_)))
   refine vc_ret (block_r (seq_r (iS (Iv (-1)) (Bv true) [] ?_)))
   rw [if_pos hz]; exact ordR_some (.inl ⟨rfl, by omega⟩)
 ·replace hc16 := bt hc16
  refine iT (vc_seqr rfl (iQ 2 (iE 23 [(4, Ia 0), (5, Ba false), (6, Ia n), (14, Ba true)] [] ?_)))
  refine vc_ret (block_r (seq_r (iS (Iv 0) (Bv false) [] ?_)))
  rw [if_neg (of_decide_eq_false (hok.trans hc16))]; rfl
-- of the value that it is
theorem c_AsNumE {v : Vl} {g : Bool} {n : Nat} {e : Int} (h : v = .num g n e) : HasC Tryz.prog 68 [VV v] (fun r => r = .tup [dDec g n e, .v (.bool true)]) := by subst h; exact c_AsNumN
theorem c_AsTextE {v : Vl} {l : L8} (h : v = .text l) : HasC Tryz.prog 70 [VV v] (fun r => r = .tup [.v (.string (tx l)), .v (.bool true)]) := by subst h; exact c_AsTextT
theorem c_AsDateE {v : Vl} {y m d : Int} (h : v = .day y m d) : HasC Tryz.prog 72 [VV v] (fun r => r = .tup [.agg [.v (.int .i64 y), .v (.int .i64 m), .v (.int .i64 d)], .v (.bool true)]) := by subst h; exact c_AsDateD
theorem c_AsTimeE {v : Vl} {s o : Int} {z : Bool} (h : v = .time s z o) : HasC Tryz.prog 74 [VV v] (fun r => r = .tup [.agg [.v (.int .i64 s), .v (.bool z), .v (.int .i64 o)], .v (.bool true)]) := by subst h; exact c_AsTimeT
theorem c_AsMomE {v : Vl} {y m d s o : Int} {z : Bool} (h : v = .mom y m d s z o) : HasC Tryz.prog 76 [VV v] (fun r => r = .tup [.agg [.v (.int .i64 y), .v (.int .i64 m), .v (.int .i64 d), .v (.int .i64 s), .v (.bool z), .v (.int .i64 o)], .v (.bool true)]) := by subst h; exact c_AsMomM
theorem c_AsDaysDE {v : Vl} {n : Int} (h : v = .days n) : HasC Tryz.prog 128 [VV v] (fun r => r = .tup [.v (.int .i64 n), .v (.bool true)]) := by subst h; exact c_AsDaysD
theorem c_AsDaysME {v : Vl} {n : Int} (h : v = .months n) : HasC Tryz.prog 128 [VV v] (fun r => r = .tup [.v (.int .i64 0), .v (.bool false)]) := by subst h; exact c_AsDaysM
theorem c_AsMonthsE {v : Vl} {n : Int} (h : v = .months n) : HasC Tryz.prog 129 [VV v] (fun r => r = .tup [.v (.int .i64 n), .v (.bool true)]) := by subst h; exact c_AsMonthsM
theorem c_spansD {a b : Vl} {x y : Int} (ha : a = .days x) (hb : b = .days y) : HasC Tryz.prog 78 [.agg [.bx (a).enc], .agg [.bx (b).enc]] (fun r => r = ordR (some (cmpI x y))) := by
 refine HasC.of [] (fn := Tryz.f78) tyOk mixed (fun args w => Tryz.call78 args w) Tryz.func78 rfl (by kernel_rfl) (Nat.le_of_ble_eq_true rfl) (⟨_, rfl⟩) ?_
 refine vc_seqr rfl (iQ 4 (iE 40 [(2, .p 2 0), (3, .p 3 0), (4, Ia 0), (5, Ba false)] [(2, [.bx (a).enc]), (3, [.bx (b).enc])] ?_))
 refine vc_seqr rfl (iQ 1 (iC 128 [.agg [.bx (a).enc]] (some 12) (c_AsDaysDE ha) ?_))
 rintro _ rfl
 refine iQ 5 (iE 40 [(2, .p 2 0), (3, .p 3 0), (4, Ia 0), (5, Ba false), (6, Ia x), (7, Ba true)] [(2, [.bx (a).enc]), (3, [.bx (b).enc])] ?_)
 refine vc_seqr rfl (iQ 1 (iC 128 [.agg [.bx (b).enc]] (some 17) (c_AsDaysDE hb) ?_))
 rintro _ rfl
 refine iQ 5 (iE 40 [(2, .p 2 0), (3, .p 3 0), (4, Ia 0), (5, Ba false), (6, Ia x), (7, Ba true), (8, Ia y)] [(2, [.bx (a).enc]), (3, [.bx (b).enc])] ?_)
 refine vc_seq (vc_seqr rfl (iQ 1 (iU .not (.bool true) (some 21) ?_)))
 refine all_false ((by simp)) ?_
 refine iE 40 [(2, .p 2 0), (3, .p 3 0), (4, Ia 0), (5, Ba false), (6, Ia x), (8, Ia y), (21, Ba false)] [(2, [.bx (a).enc]), (3, [.bx (b).enc])] ?_
 refine iF (vc_skip (seq_n (vc_seq (vc_block (vc_seqr rfl (iQ 2 (iB .lss 3 (.int .i64 x) (.int .i64 y) (some 35) ?_)))))))
 intro c35 hc35
 refine iQ 1 (iE 40 [(2, .p 2 0), (3, .p 3 0), (4, Ia 0), (5, Ba false), (6, Ia x), (8, Ia y), (21, Ba false), (32, Ba c35)] [(2, [.bx (a).enc]), (3, [.bx (b).enc])] ?_)
 cases c35
 ·replace hc35 := bf hc35
  refine iF (vc_seqr rfl (iQ 2 (iB .gtr 3 (.int .i64 x) (.int .i64 y) (some 39) ?_)))
  intro c39 hc39
  refine iQ 1 (iE 40 [(2, .p 2 0), (3, .p 3 0), (4, Ia 0), (5, Ba false), (6, Ia x), (8, Ia y), (21, Ba false), (32, Ba false), (36, Ba c39)] [(2, [.bx (a).enc]), (3, [.bx (b).enc])] ?_)
  cases c39
  ·replace hc39 := bf hc39
   refine iF (vc_skip (block_n (seq_n (vc_seqr rfl (iQ 2 (iE 40 [(2, .p 2 0), (3, .p 3 0), (4, Ia 0), (5, Ba true), (6, Ia x), (8, Ia y), (21, Ba false), (32, Ba false), (36, Ba false)] [(2, [.bx (a).enc]), (3, [.bx (b).enc])] ?_))))))
   refine vc_ret (iS (Iv 0) (Bv true) [] ?_)
   exact ordR_some (.inr (.inr ⟨rfl, by omega⟩))
  ·replace hc39 := bt hc39
   refine iT (vc_seqr rfl (iQ 2 (iE 40 [(2, .p 2 0), (3, .p 3 0), (4, Ia 1), (5, Ba true), (6, Ia x), (8, Ia y), (21, Ba false), (32, Ba false), (36, Ba true)] [(2, [.bx (a).enc]), (3, [.bx (b).enc])] ?_)))
   refine vc_ret (block_r (seq_r (iS (Iv 1) (Bv true) [] ?_)))
   exact ordR_some (.inr (.inl ⟨rfl, by omega⟩))
 ·replace hc35 := bt hc35
  refine iT (vc_seqr rfl (iQ 2 (iE 40 [(2, .p 2 0), (3, .p 3 0), (4, Ia (-1)), (5, Ba true), (6, Ia x), (8, Ia y), (21, Ba false), (32, Ba true)] [(2, [.bx (a).enc]), (3, [.bx (b).enc])] ?_)))
  refine vc_ret (block_r (seq_r (iS (Iv (-1)) (Bv true) [] ?_)))
  exact ordR_some (.inl ⟨rfl, by omega⟩)
theorem c_spansM {a b : Vl} {x y : Int} (ha : a = .months x) (hb : b = .months y) : HasC Tryz.prog 78 [.agg [.bx (a).enc], .agg [.bx (b).enc]] (fun r => r = ordR (some (cmpI x y))) := by
 refine HasC.of [] (fn := Tryz.f78) tyOk mixed (fun args w => Tryz.call78 args w) Tryz.func78 rfl (by kernel_rfl) (Nat.le_of_ble_eq_true rfl) (⟨_, rfl⟩) ?_
 refine vc_seqr rfl (iQ 4 (iE 40 [(2, .p 2 0), (3, .p 3 0), (4, Ia 0), (5, Ba false)] [(2, [.bx (a).enc]), (3, [.bx (b).enc])] ?_))
 refine vc_seqr rfl (iQ 1 (iC 128 [.agg [.bx (a).enc]] (some 12) (c_AsDaysME ha) ?_))
 rintro _ rfl
 refine iQ 5 (iE 40 [(2, .p 2 0), (3, .p 3 0), (4, Ia 0), (5, Ba false), (6, Ia 0), (7, Ba false)] [(2, [.bx (a).enc]), (3, [.bx (b).enc])] ?_)
 refine vc_seqr rfl (iQ 1 (iC 128 [.agg [.bx (b).enc]] (some 17) (c_AsDaysME hb) ?_))
 rintro _ rfl
 refine iQ 5 (iE 40 [(2, .p 2 0), (3, .p 3 0), (4, Ia 0), (5, Ba false), (6, Ia 0), (7, Ba false), (8, Ia 0)] [(2, [.bx (a).enc]), (3, [.bx (b).enc])] ?_)
 refine vc_seq (vc_seqr rfl (iQ 1 (iU .not (.bool false) (some 21) ?_)))
 refine all_true ((by simp)) ?_
 refine iE 40 [(2, .p 2 0), (3, .p 3 0), (4, Ia 0), (5, Ba false), (6, Ia 0), (8, Ia 0), (21, Ba true)] [(2, [.bx (a).enc]), (3, [.bx (b).enc])] ?_
 refine iT (vc_seqr rfl (iQ 1 (iC 129 [.agg [.bx (a).enc]] (some 24) (c_AsMonthsE ha) ?_)))
 rintro _ rfl
 refine iQ 4 (iE 40 [(2, .p 2 0), (3, .p 3 0), (4, Ia 0), (5, Ba false), (6, Ia x), (8, Ia 0), (21, Ba true)] [(2, [.bx (a).enc]), (3, [.bx (b).enc])] ?_)
 refine vc_reg rfl (iQ 1 (iC 129 [.agg [.bx (b).enc]] (some 29) (c_AsMonthsE hb) ?_))
 rintro _ rfl
 refine iQ 4 (iE 40 [(2, .p 2 0), (3, .p 3 0), (4, Ia 0), (5, Ba false), (6, Ia x), (8, Ia y), (21, Ba true)] [(2, [.bx (a).enc]), (3, [.bx (b).enc])] ?_)
 refine seq_n (vc_seq (vc_block (vc_seqr rfl (iQ 2 (iB .lss 3 (.int .i64 x) (.int .i64 y) (some 35) ?_)))))
 intro c35 hc35
 refine iQ 1 (iE 40 [(2, .p 2 0), (3, .p 3 0), (4, Ia 0), (5, Ba false), (6, Ia x), (8, Ia y), (21, Ba true), (32, Ba c35)] [(2, [.bx (a).enc]), (3, [.bx (b).enc])] ?_)
 cases c35
 ·replace hc35 := bf hc35
  refine iF (vc_seqr rfl (iQ 2 (iB .gtr 3 (.int .i64 x) (.int .i64 y) (some 39) ?_)))
  intro c39 hc39
  refine iQ 1 (iE 40 [(2, .p 2 0), (3, .p 3 0), (4, Ia 0), (5, Ba false), (6, Ia x), (8, Ia y), (21, Ba true), (32, Ba false), (36, Ba c39)] [(2, [.bx (a).enc]), (3, [.bx (b).enc])] ?_)
  cases c39
  ·replace hc39 := bf hc39
   refine iF (vc_skip (block_n (seq_n (vc_seqr rfl (iQ 2 (iE 40 [(2, .p 2 0), (3, .p 3 0), (4, Ia 0), (5, Ba true), (6, Ia x), (8, Ia y), (21, Ba true), (32, Ba false), (36, Ba false)] [(2, [.bx (a).enc]), (3, [.bx (b).enc])] ?_))))))
   refine vc_ret (iS (Iv 0) (Bv true) [] ?_)
   exact ordR_some (.inr (.inr ⟨rfl, by omega⟩))
  ·replace hc39 := bt hc39
   refine iT (vc_seqr rfl (iQ 2 (iE 40 [(2, .p 2 0), (3, .p 3 0), (4, Ia 1), (5, Ba true), (6, Ia x), (8, Ia y), (21, Ba true), (32, Ba false), (36, Ba true)] [(2, [.bx (a).enc]), (3, [.bx (b).enc])] ?_)))
   refine vc_ret (block_r (seq_r (iS (Iv 1) (Bv true) [] ?_)))
   exact ordR_some (.inr (.inl ⟨rfl, by omega⟩))
 ·replace hc35 := bt hc35
  refine iT (vc_seqr rfl (iQ 2 (iE 40 [(2, .p 2 0), (3, .p 3 0), (4, Ia (-1)), (5, Ba true), (6, Ia x), (8, Ia y), (21, Ba true), (32, Ba true)] [(2, [.bx (a).enc]), (3, [.bx (b).enc])] ?_)))
  refine vc_ret (block_r (seq_r (iS (Iv (-1)) (Bv true) [] ?_)))
  exact ordR_some (.inl ⟨rfl, by omega⟩)
theorem c_spans {a b : Vl} (h : a.kindI = b.kindI) (h8 : a.kindI = 8 ∨ a.kindI = 9) : HasC Tryz.prog 78 [VV a, VV b] (fun r => ∃ (c : Int) (ok : Bool), r = .tup [.v (.int .i64 c), .v (.bool ok)] ∧ DV.tup [.v (.int .i64 c), .v (.bool ok)] = ordR (ordV a b)) := by
  rcases h8 with h8 | h8
  · obtain ⟨x, ha⟩ := kind8 h8
    obtain ⟨y, hb⟩ := kind8 (h ▸ h8)
    exact (c_spansD ha hb).mono fun r hr => ⟨_, _, hr, by rw [ha, hb]; rfl⟩
  · obtain ⟨x, ha⟩ := kind9 h8
    obtain ⟨y, hb⟩ := kind9 (h ▸ h8)
    exact (c_spansM ha hb).mono fun r hr => ⟨_, _, hr, by rw [ha, hb]; rfl⟩
theorem ordE {P : Program} {f : FuncId} {ds : List DV} {o : Option Int} (h : HasC P f ds (fun r => r = ordR o)) : HasC P f ds (fun r => ∃ (c : Int) (ok : Bool), r = .tup [.v (.int .i64 c), .v (.bool ok)] ∧ DV.tup [.v (.int .i64 c), .v (.bool ok)] = ordR o) := h.mono fun r hr => ⟨_, _, hr, rfl⟩
set_option maxHeartbeats 3200000 in
theorem c_order {a b : Vl} (oa : a.ok) (ob : b.ok) : HasC Tryz.prog 47 [.agg [.bx (a).enc], .agg [.bx (b).enc]] (fun r => r = ordR (ordV a b)) := by
 refine HasC.of [] (fn := Tryz.f47) tyOk mixed (fun args w => Tryz.call47 args w) Tryz.func47 rfl (by kernel_rfl) (Nat.le_of_ble_eq_true rfl) (⟨_, rfl⟩) ?_
 refine vc_seqr rfl (iQ 4 (iE 123 [(2, .p 2 0), (3, .p 3 0), (4, Ia 0), (5, Ba false)] [(2, [.bx (a).enc]), (3, [.bx (b).enc])] ?_))
 refine vc_seqr rfl (iQ 1 (iC 40 [.agg [.bx (a).enc]] (some 28) (c_KindE (v := a)) ?_))
 rintro _ ⟨ka, rfl, hka⟩
 refine iQ 1 (iE 123 [(2, .p 2 0), (3, .p 3 0), (4, Ia 0), (5, Ba false), (6, Ia ka)] [(2, [.bx (a).enc]), (3, [.bx (b).enc])] ?_)
 refine vc_seq (vc_seqr rfl (iQ 1 (iC 40 [.agg [.bx (b).enc]] (some 30) (c_KindE (v := b)) ?_)))
 rintro _ ⟨kb, rfl, hkb⟩
 refine iQ 1 (iB .neq 36 (.int .i64 kb) (.int .i64 ka) (some 32) ?_)
 intro c32 hc32
 refine iQ 1 ?_
 cases c32
 ·replace hc32 := bf hc32
  refine iQ 1 ?_
  have hk : a.kindI = b.kindI := by omega
  refine iC 41 [Iv ka] (some 35) (c_OrdE (k := ka)) ?_
  rintro _ ⟨od, rfl, hod⟩
  refine iU .not (.bool od) (some 36) ?_
  intro c36 hc36
  refine iQ 1 (iE 123 [(2, .p 2 0), (3, .p 3 0), (4, Ia 0), (5, Ba false), (6, Ia ka), (37, Ba c36)] [(2, [.bx (a).enc]), (3, [.bx (b).enc])] ?_)
  cases c36
  ·replace hc36 := bf hc36
   have hor : 3 ≤ ka ∧ ka ≤ 9 := hod.1 (by simpa using hc36)
   refine iF (vc_skip (seq_n (vc_seq (vc_seqr rfl (iQ 1 (iE 123 [(2, .p 2 0), (3, .p 3 0), (4, Ia 0), (5, Ba false), (6, Ia ka), (37, Ba false), (38, Ia ka)] [(2, [.bx (a).enc]), (3, [.bx (b).enc])] ?_))))))
   refine vc_block (vc_seqr rfl (iB .eql 36 (.int .i64 ka) (.int .i64 3) (some 40) ?_))
   intro c40 hc40
   refine iQ 1 (iE 123 [(2, .p 2 0), (3, .p 3 0), (4, Ia 0), (5, Ba false), (6, Ia ka), (37, Ba false), (38, Ia ka), (39, Ba c40)] [(2, [.bx (a).enc]), (3, [.bx (b).enc])] ?_)
   cases c40
   ·replace hc40 := bf hc40
    refine iF (vc_seqr rfl (iB .eql 36 (.int .i64 ka) (.int .i64 4) (some 55) ?_))
    intro c55 hc55
    refine iQ 1 (iE 123 [(2, .p 2 0), (3, .p 3 0), (4, Ia 0), (5, Ba false), (6, Ia ka), (37, Ba false), (38, Ia ka), (39, Ba false), (54, Ba c55)] [(2, [.bx (a).enc]), (3, [.bx (b).enc])] ?_)
    cases c55
    ·replace hc55 := bf hc55
     refine iF (vc_seqr rfl (iB .eql 36 (.int .i64 ka) (.int .i64 5) (some 70) ?_))
     intro c70 hc70
     refine iQ 1 (iE 123 [(2, .p 2 0), (3, .p 3 0), (4, Ia 0), (5, Ba false), (6, Ia ka), (37, Ba false), (38, Ia ka), (39, Ba false), (54, Ba false), (69, Ba c70)] [(2, [.bx (a).enc]), (3, [.bx (b).enc])] ?_)
     cases c70
     ·replace hc70 := bf hc70
      refine iF (vc_seqr rfl (iB .eql 36 (.int .i64 ka) (.int .i64 6) (some 85) ?_))
      intro c85 hc85
      refine iQ 1 (iE 123 [(2, .p 2 0), (3, .p 3 0), (4, Ia 0), (5, Ba false), (6, Ia ka), (37, Ba false), (38, Ia ka), (39, Ba false), (54, Ba false), (69, Ba false), (84, Ba c85)] [(2, [.bx (a).enc]), (3, [.bx (b).enc])] ?_)
      cases c85
      ·replace hc85 := bf hc85
       refine iF (vc_seqr rfl (iB .eql 36 (.int .i64 ka) (.int .i64 7) (some 102) ?_))
       intro c102 hc102
       refine iQ 1 (iE 123 [(2, .p 2 0), (3, .p 3 0), (4, Ia 0), (5, Ba false), (6, Ia ka), (37, Ba false), (38, Ia ka), (39, Ba false), (54, Ba false), (69, Ba false), (84, Ba false), (101, Ba c102)] [(2, [.bx (a).enc]), (3, [.bx (b).enc])] ?_)
       cases c102
       ·replace hc102 := bf hc102
        refine iF (vc_skip (block_n (seq_n (vc_seqr rfl (iQ 2 (iC 78 [.agg [.bx (a).enc], .agg [.bx (b).enc]] (some 120) (c_spans hk (by omega)) ?_))))))
        rintro _ ⟨c, ok, rfl, hr⟩
        refine iQ 4 (iE 123 [(2, .p 2 0), (3, .p 3 0), (4, Ia c), (5, Ba ok), (6, Ia ka), (37, Ba false), (38, Ia ka), (39, Ba false), (54, Ba false), (69, Ba false), (84, Ba false), (101, Ba false)] [(2, [.bx (a).enc]), (3, [.bx (b).enc])] ?_)
        refine vc_ret (iS (Iv c) (Bv ok) [] ?_)
        exact hr
       ·replace hc102 := bt hc102
        obtain ⟨y, m, d, s, z, o, ha⟩ := kind7 (v := a) (by omega)
        obtain ⟨y', m', d', s', z', o', hb⟩ := kind7 (v := b) (by omega)
        rw [ha, Vl.ok] at oa
        rw [hb, Vl.ok] at ob
        refine iT (vc_seqr rfl (iQ 1 (iC 76 [.agg [.bx (a).enc]] (some 105) (c_AsMomE ha) ?_)))
        rintro _ rfl
        refine iQ 6 (iE 123 [(2, .p 2 0), (3, .p 3 0), (4, Ia 0), (5, Ba false), (6, Ia ka), (23, .p 23 0), (37, Ba false), (38, Ia ka), (39, Ba false), (54, Ba false), (69, Ba false), (84, Ba false), (101, Ba true)] [(2, [.bx (a).enc]), (3, [.bx (b).enc]), (23, [Iv y, Iv m, Iv d, Iv s, Bv z, Iv o])] ?_)
        refine vc_seqr rfl (iQ 1 (iC 76 [.agg [.bx (b).enc]] (some 110) (c_AsMomE hb) ?_))
        rintro _ rfl
        refine iQ 6 (iE 123 [(2, .p 2 0), (3, .p 3 0), (4, Ia 0), (5, Ba false), (6, Ia ka), (23, .p 23 0), (25, .p 25 0), (37, Ba false), (38, Ia ka), (39, Ba false), (54, Ba false), (69, Ba false), (84, Ba false), (101, Ba true)] [(2, [.bx (a).enc]), (3, [.bx (b).enc]), (23, [Iv y, Iv m, Iv d, Iv s, Bv z, Iv o]), (25, [Iv y', Iv m', Iv d', Iv s', Bv z', Iv o'])] ?_)
        refine vc_seqr rfl (iQ 2 (iC 77 [.agg [Iv y, Iv m, Iv d, Iv s, Bv z, Iv o], .agg [Iv y', Iv m', Iv d', Iv s', Bv z', Iv o']] (some 115) (ordE (c_mCmp2 oa.1 oa.2 ob.1 ob.2)) ?_))
        rintro _ ⟨c, ok, rfl, hr⟩
        refine iQ 4 (iE 123 [(2, .p 2 0), (3, .p 3 0), (4, Ia c), (5, Ba ok), (6, Ia ka), (23, .p 23 0), (25, .p 25 0), (37, Ba false), (38, Ia ka), (39, Ba false), (54, Ba false), (69, Ba false), (84, Ba false), (101, Ba true)] [(2, [.bx (a).enc]), (3, [.bx (b).enc]), (23, [Iv y, Iv m, Iv d, Iv s, Bv z, Iv o]), (25, [Iv y', Iv m', Iv d', Iv s', Bv z', Iv o'])] ?_)
        refine vc_ret (block_r (seq_r (iS (Iv c) (Bv ok) [] ?_)))
        rw [ha, hb]; exact hr
      ·replace hc85 := bt hc85
       obtain ⟨s, z, o, ha⟩ := kind6 (v := a) (by omega)
       obtain ⟨s', z', o', hb⟩ := kind6 (v := b) (by omega)
       rw [ha, Vl.ok] at oa
       rw [hb, Vl.ok] at ob
       refine iT (vc_seqr rfl (iQ 1 (iC 74 [.agg [.bx (a).enc]] (some 88) (c_AsTimeE ha) ?_)))
       rintro _ rfl
       refine iQ 6 (iE 123 [(2, .p 2 0), (3, .p 3 0), (4, Ia 0), (5, Ba false), (6, Ia ka), (19, .p 19 0), (37, Ba false), (38, Ia ka), (39, Ba false), (54, Ba false), (69, Ba false), (84, Ba true)] [(2, [.bx (a).enc]), (3, [.bx (b).enc]), (19, [Iv s, Bv z, Iv o])] ?_)
       refine vc_seqr rfl (iQ 1 (iC 74 [.agg [.bx (b).enc]] (some 93) (c_AsTimeE hb) ?_))
       rintro _ rfl
       refine iQ 6 (iE 123 [(2, .p 2 0), (3, .p 3 0), (4, Ia 0), (5, Ba false), (6, Ia ka), (19, .p 19 0), (21, .p 21 0), (37, Ba false), (38, Ia ka), (39, Ba false), (54, Ba false), (69, Ba false), (84, Ba true)] [(2, [.bx (a).enc]), (3, [.bx (b).enc]), (19, [Iv s, Bv z, Iv o]), (21, [Iv s', Bv z', Iv o'])] ?_)
       refine vc_seqr rfl (iQ 2 (iC 75 [.agg [Iv s, Bv z, Iv o], .agg [Iv s', Bv z', Iv o']] (some 98) (ordE (c_tCmp2 oa ob)) ?_))
       rintro _ ⟨c, ok, rfl, hr⟩
       refine iQ 4 (iE 123 [(2, .p 2 0), (3, .p 3 0), (4, Ia c), (5, Ba ok), (6, Ia ka), (19, .p 19 0), (21, .p 21 0), (37, Ba false), (38, Ia ka), (39, Ba false), (54, Ba false), (69, Ba false), (84, Ba true)] [(2, [.bx (a).enc]), (3, [.bx (b).enc]), (19, [Iv s, Bv z, Iv o]), (21, [Iv s', Bv z', Iv o'])] ?_)
       refine vc_ret (block_r (seq_r (iS (Iv c) (Bv ok) [] ?_)))
       rw [ha, hb]; exact hr
     ·replace hc70 := bt hc70
      obtain ⟨y, m, d, ha⟩ := kind5 (v := a) (by omega)
      obtain ⟨y', m', d', hb⟩ := kind5 (v := b) (by omega)
      rw [ha, Vl.ok] at oa
      rw [hb, Vl.ok] at ob
      refine iT (vc_seqr rfl (iQ 1 (iC 72 [.agg [.bx (a).enc]] (some 73) (c_AsDateE ha) ?_)))
      rintro _ rfl
      refine iQ 6 (iE 123 [(2, .p 2 0), (3, .p 3 0), (4, Ia 0), (5, Ba false), (6, Ia ka), (15, .p 15 0), (37, Ba false), (38, Ia ka), (39, Ba false), (54, Ba false), (69, Ba true)] [(2, [.bx (a).enc]), (3, [.bx (b).enc]), (15, [Iv y, Iv m, Iv d])] ?_)
      refine vc_seqr rfl (iQ 1 (iC 72 [.agg [.bx (b).enc]] (some 78) (c_AsDateE hb) ?_))
      rintro _ rfl
      refine iQ 6 (iE 123 [(2, .p 2 0), (3, .p 3 0), (4, Ia 0), (5, Ba false), (6, Ia ka), (15, .p 15 0), (17, .p 17 0), (37, Ba false), (38, Ia ka), (39, Ba false), (54, Ba false), (69, Ba true)] [(2, [.bx (a).enc]), (3, [.bx (b).enc]), (15, [Iv y, Iv m, Iv d]), (17, [Iv y', Iv m', Iv d'])] ?_)
      refine vc_seqr rfl (iQ 2 (iC 73 [.agg [Iv y, Iv m, Iv d], .agg [Iv y', Iv m', Iv d']] (some 83) (c_dayCmp2 oa ob) ?_))
      rintro _ rfl
      refine iQ 2 (iE 123 [(2, .p 2 0), (3, .p 3 0), (4, Ia (cmpI (keyD y m d) (keyD y' m' d'))), (5, Ba true), (6, Ia ka), (15, .p 15 0), (17, .p 17 0), (37, Ba false), (38, Ia ka), (39, Ba false), (54, Ba false), (69, Ba true)] [(2, [.bx (a).enc]), (3, [.bx (b).enc]), (15, [Iv y, Iv m, Iv d]), (17, [Iv y', Iv m', Iv d'])] ?_)
      refine vc_ret (block_r (seq_r (iS (Iv (cmpI (keyD y m d) (keyD y' m' d'))) (Bv true) [] ?_)))
      rw [ha, hb]; rfl
    ·replace hc55 := bt hc55
     obtain ⟨l, ha⟩ := kind4 (v := a) (by omega)
     obtain ⟨l', hb⟩ := kind4 (v := b) (by omega)
     refine iT (vc_seqr rfl (iQ 1 (iC 70 [.agg [.bx (a).enc]] (some 58) (c_AsTextE ha) ?_)))
     rintro _ rfl
     refine iQ 5 (iE 123 [(2, .p 2 0), (3, .p 3 0), (4, Ia 0), (5, Ba false), (6, Ia ka), (11, .d (Sv (tx l))), (37, Ba false), (38, Ia ka), (39, Ba false), (54, Ba true)] [(2, [.bx (a).enc]), (3, [.bx (b).enc])] ?_)
     refine vc_seqr rfl (iQ 1 (iC 70 [.agg [.bx (b).enc]] (some 63) (c_AsTextE hb) ?_))
     rintro _ rfl
     refine iQ 5 (iE 123 [(2, .p 2 0), (3, .p 3 0), (4, Ia 0), (5, Ba false), (6, Ia ka), (11, .d (Sv (tx l))), (13, .d (Sv (tx l'))), (37, Ba false), (38, Ia ka), (39, Ba false), (54, Ba true)] [(2, [.bx (a).enc]), (3, [.bx (b).enc])] ?_)
     refine vc_seqr rfl (iQ 2 (iC 71 [Sv (tx l), Sv (tx l')] (some 68) (c_Compare) ?_))
     rintro _ rfl
     refine iQ 2 (iE 123 [(2, .p 2 0), (3, .p 3 0), (4, Ia (Lib.compareBytes l l')), (5, Ba true), (6, Ia ka), (37, Ba false), (38, Ia ka), (39, Ba false), (54, Ba true)] [(2, [.bx (a).enc]), (3, [.bx (b).enc])] ?_)
     refine vc_ret (block_r (seq_r (iS (Iv (Lib.compareBytes l l')) (Bv true) [] ?_)))
     rw [ha, hb]; rfl
   ·replace hc40 := bt hc40
    obtain ⟨g, n, e, ha⟩ := kind3 (v := a) (by omega)
    obtain ⟨g', n', e', hb⟩ := kind3 (v := b) (by omega)
    rw [ha, Vl.ok] at oa
    rw [hb, Vl.ok] at ob
    refine iT (vc_seqr rfl (iQ 1 (iC 68 [.agg [.bx (a).enc]] (some 43) (c_AsNumE ha) ?_)))
    rintro _ rfl
    refine iQ 6 (iE 123 [(2, .p 2 0), (3, .p 3 0), (4, Ia 0), (5, Ba false), (6, Ia ka), (7, .p 7 0), (37, Ba false), (38, Ia ka), (39, Ba true)] [(2, [.bx (a).enc]), (3, [.bx (b).enc]), (7, [Bv g, Hw n, Lw n, Iv e])] ?_)
    refine vc_seqr rfl (iQ 1 (iC 68 [.agg [.bx (b).enc]] (some 48) (c_AsNumE hb) ?_))
    rintro _ rfl
    obtain ⟨oa1, oa2, oa3, _⟩ := oa
    obtain ⟨ob1, ob2, ob3, _⟩ := ob
    refine iQ 6 (iE 123 [(2, .p 2 0), (3, .p 3 0), (4, Ia 0), (5, Ba false), (6, Ia ka), (7, .p 7 0), (9, .p 9 0), (37, Ba false), (38, Ia ka), (39, Ba true)] [(2, [.bx (a).enc]), (3, [.bx (b).enc]), (7, [Bv g, Hw n, Lw n, Iv e]), (9, [Bv g', Hw n', Lw n', Iv e'])] ?_)
    refine vc_seqr rfl (iQ 2 (iC 69 [.agg [Bv g, Hw n, Lw n, Iv e], .agg [Bv g', Hw n', Lw n', Iv e']] (some 53) (c_decCmp oa1 ob1 (by omega) (by omega) (by omega) (by omega)) ?_))
    rintro _ rfl
    refine iQ 2 (iE 123 [(2, .p 2 0), (3, .p 3 0), (4, Ia (cmpZ g n e g' n' e')), (5, Ba true), (6, Ia ka), (7, .p 7 0), (9, .p 9 0), (37, Ba false), (38, Ia ka), (39, Ba true)] [(2, [.bx (a).enc]), (3, [.bx (b).enc]), (7, [Bv g, Hw n, Lw n, Iv e]), (9, [Bv g', Hw n', Lw n', Iv e'])] ?_)
    refine vc_ret (block_r (seq_r (iS (Iv (cmpZ g n e g' n' e')) (Bv true) [] ?_)))
    rw [ha, hb]; rfl
  ·replace hc36 := bt hc36
   have hun : ¬ (3 ≤ a.kindI ∧ a.kindI ≤ 9) := fun h => by have := hod.2 (by omega); rw [this] at hc36; cases hc36
   refine iT (vc_seqr rfl (iQ 2 (iE 123 [(2, .p 2 0), (3, .p 3 0), (4, Ia 0), (5, Ba false), (6, Ia ka), (37, Ba true)] [(2, [.bx (a).enc]), (3, [.bx (b).enc])] ?_)))
   refine vc_ret (seq_r (iS (Iv 0) (Bv false) [] ?_))
   rw [ord_un hun]; rfl
 ·replace hc32 := bt hc32
  refine iQ 4 (iE 123 [(2, .p 2 0), (3, .p 3 0), (4, Ia 0), (5, Ba false), (6, Ia ka), (37, Ba true)] [(2, [.bx (a).enc]), (3, [.bx (b).enc])] ?_)
  refine iT (vc_seqr rfl (iQ 2 (iE 123 [(2, .p 2 0), (3, .p 3 0), (4, Ia 0), (5, Ba false), (6, Ia ka), (37, Ba true)] [(2, [.bx (a).enc]), (3, [.bx (b).enc])] ?_)))
  refine vc_ret (seq_r (iS (Iv 0) (Bv false) [] ?_))
  rw [ord_kind (by omega)]; rfl
theorem c_orderE {a b : Vl} (oa : a.ok) (ob : b.ok) : HasC Tryz.prog 47 [VV a, VV b] (fun r => ∃ (c : Int) (ok : Bool), r = .tup [.v (.int .i64 c), .v (.bool ok)] ∧ c = (ordV a b).getD 0 ∧ ok = (ordV a b).isSome) := (c_order oa ob).mono fun r hr => ⟨_, _, hr, rfl, rfl⟩
noncomputable def lessI (a b : Vl) : Int := match ordV a b with
  | some c => ofI (decide (c < 0))
  | none => 0
theorem some_of {o : Option Int} {c : Int} {ok : Bool} (h1 : c = o.getD 0) (h2 : ok = o.isSome) : (ok = true → o = some c) ∧ (ok = false → o = none) := by
  cases o with
  | none => simp at h2; subst h2; simp
  | some x => simp at h1 h2; subst h1; subst h2; simp
theorem c_Cmp2 {a b : Vl} (oa : a.ok) (ob : b.ok) : HasC Tryz.prog 24 [.agg [.bx (a).enc], .agg [.bx (b).enc]] (fun r => r = ordR (ordV a b)) := by
 refine HasC.of [] (fn := Tryz.f24) tyOk mixed (fun args w => Tryz.call24 args w) Tryz.func24 rfl (by kernel_rfl) (Nat.le_of_ble_eq_true rfl) (⟨_, rfl⟩) ?_
 refine vc_seqr rfl (iQ 4 (iE 11 [(2, .p 2 0), (3, .p 3 0), (4, Ia 0), (5, Ba false)] [(2, [.bx (a).enc]), (3, [.bx (b).enc])] ?_))
 refine vc_seqr rfl (iQ 2 (iC 47 [.agg [.bx (a).enc], .agg [.bx (b).enc]] (some 8) (ordE (c_order oa ob)) ?_))
 rintro _ ⟨c, ok, rfl, hr⟩
 refine iQ 4 (iE 11 [(4, Ia c), (5, Ba ok)] [] ?_)
 refine vc_ret (iS (Iv c) (Bv ok) [] ?_)
 exact hr
theorem c_Less {a b : Vl} (oa : a.ok) (ob : b.ok) : HasC Tryz.prog 35 [.agg [.bx (a).enc], .agg [.bx (b).enc]] (fun r => r = .v (.int .i64 (lessI a b))) := by
 refine HasC.of [] (fn := Tryz.f35) tyOk mixed (fun args w => Tryz.call35 args w) Tryz.func35 rfl (by kernel_rfl) (Nat.le_of_ble_eq_true rfl) (⟨_, rfl⟩) ?_
 refine vc_seqr rfl (iQ 3 (iE 18 [(2, .p 2 0), (3, .p 3 0), (4, Ia 0)] [(2, [.bx (a).enc]), (3, [.bx (b).enc])] ?_))
 refine vc_seqr rfl (iQ 2 (iC 47 [.agg [.bx (a).enc], .agg [.bx (b).enc]] (some 10) (c_orderE oa ob) ?_))
 rintro _ ⟨c, ok, rfl, h1, h2⟩
 obtain ⟨k1, k2⟩ := some_of h1 h2
 refine iQ 5 (iE 18 [(4, Ia 0), (5, Ia c), (6, Ba ok)] [] ?_)
 refine vc_seq (vc_seqr rfl (iQ 1 (iU .not (.bool ok) (some 14) ?_)))
 intro c14 hc14
 refine iE 18 [(4, Ia 0), (5, Ia c), (14, Ba c14)] [] ?_
 cases c14
 ·replace hc14 := bf hc14
  refine iF (vc_skip (seq_n (vc_seqr rfl (iQ 1 (iB .lss 3 (.int .i64 c) (.int .i64 0) (some 16) ?_)))))
  intro c16 hc16
  refine iC 18 [Bv c16] (some 17) (c_eOf (p := c16)) ?_
  rintro _ rfl
  refine iQ 1 (iE 18 [(4, Ia (ofI c16)), (14, Ba false)] [] ?_)
  refine vc_ret (iR (Iv (ofI c16)) ?_)
  rw [lessI, k1 (by simpa using hc14)]; simp only; rw [show decide (c < 0) = c16 from Bool.eq_iff_iff.2 (by rw [decide_eq_true_iff, hc16])]
 ·replace hc14 := bt hc14
  refine iT (vc_seqr rfl (iQ 1 (iE 18 [(4, Ia 0), (5, Ia c), (14, Ba true)] [] ?_)))
  refine vc_ret (seq_r (iR (Iv 0) ?_))
  rw [lessI, k2 (by simpa using hc14)]
end Go.Proofs.YtpambeengdhhmaaGreatDoor
