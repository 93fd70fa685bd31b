/-
  The laws of round that ask the reference: each says yes.
-/
import Derived.Test.YtfjcblmmfkgkoaaLawJ
namespace Go.Proofs.Ytfjcblmmfkgkoaa
open Go.RowKit
set_option linter.unusedVariables false
set_option linter.unusedSimpArgs false
set_option maxRecDepth 100000

theorem nd_E34 {n : Nat} : n < E34 ↔ nd n ≤ 34 := ⟨fun h => nd_le 34 n h, fun h => Nat.lt_of_lt_of_le (lt_nd n) (Nat.pow_le_pow_right (by decide) h)⟩
theorem none_eq {g : Bool} {k : Nat} {z : Int} (h1 : g = false) (h2 : k = 0) (h3 : z = 0) : (#[Value.bool g, .int .u64 (hiW k), .int .u64 (loW k), .int .i64 z] : Array Value) = #[Value.bool false, .int .u64 0, .int .u64 0, .int .i64 0] := by
  subst h1 h2 h3
  rfl
theorem gt_dec {c : Bool} {Q : Nat} (h : c = true ↔ 0 < ((nd Q : Nat) : Int)) : c = decide (Q ≠ 0) := by
  have h0 := @nd_eq0 Q
  rw [Bool.eq_iff_iff, h, decide_eq_true_eq]
  omega

set_option maxHeartbeats 3200000 in
theorem c_RoundScales {g : Bool} {n : Nat} {e p m : Int} (hn : n < B128) (hp0 : -9223372036854775808 ≤ p) (hp1 : p ≤ 9223372036854775807) (hm0 : -9223372036854775808 ≤ m) (hm1 : m ≤ 9223372036854775807) : HasC Try.prog 3 [.agg [.v (.bool g), .v (.int .u64 (hiW (n))), .v (.int .u64 (loW (n))), .v (.int .i64 e)], .v (.int .i64 p), .v (.int .i64 m)] (fun y => y = .v (.bool true)) := by
  refine HasC.of [] (fn := Try.f3) tyOk mixed (fun args w => Try.call3 args w) Try.func3 rfl (by kernel_rfl) (Nat.le_of_ble_eq_true rfl) (⟨_, rfl⟩) ?_
  refine vc_seqr rfl ?_
  refine vcI_q 2 (by kernel_rfl) ?_
  refine vcI_end 114 [(1, Ia p), (2, Ia m), (3, .p 3 0), (6, Ba false)] [(3, [Bv g, Hw n, Lw n, Iv e])] (by kernel_rfl) (by kernel_rfl) (by kernel_rfl) ?_
  refine vc_seq ?_
  refine vc_seqr rfl ?_
  refine vcI_call (f := 14) (ds := []) (dst := (some 13)) (by kernel_rfl) (c_awake04) ?_
  rintro _ rfl
  refine vcI_un (op := .not) (a := .bool true) (dst := (some 14)) (by kernel_rfl) ?_
  refine all_false ((by simp)) ?_
  refine vcI_end 114 [(1, Ia p), (2, Ia m), (3, .p 3 0), (6, Ba false), (14, Ba false)] [(3, [Bv g, Hw n, Lw n, Iv e])] (by kernel_rfl) (by kernel_rfl) (by kernel_rfl) ?_
  refine vc_condf (by kernel_rfl) ?_
  refine vc_skip ?_
  refine seq_n ?_
  refine vc_seqr rfl ?_
  refine vcI_q 1 (by kernel_rfl) ?_
  refine vcI_call (f := 15) (ds := [.agg [.v (.bool g), .v (.int .u64 (hiW (n))), .v (.int .u64 (loW (n))), .v (.int .i64 e)]]) (dst := (some 16)) (by kernel_rfl) (c_Make hn) ?_
  rintro _ ⟨s, a, x, rfl, ha, hx, hy, hs⟩
  have haB := Nat.lt_trans ha e34_lt; have hna := nd34 ha
  refine vcI_q 2 (by kernel_rfl) ?_
  refine vcI_end 114 [(1, Ia p), (2, Ia m), (6, Ba false), (7, .p 7 0), (14, Ba false)] [(7, [Bv s, Hw a, Lw a, Iv x])] (by kernel_rfl) (by kernel_rfl) (by kernel_rfl) ?_
  refine vc_seqr rfl ?_
  refine vcI_q 3 (by kernel_rfl) ?_
  refine vcI_call (f := 16) (ds := [.agg [.v (.bool s), .v (.int .u64 (hiW (a))), .v (.int .u64 (loW (a))), .v (.int .i64 x)], .v (.int .i64 p), .v (.int .i64 m)]) (dst := (some 21)) (by kernel_rfl) (dfit_ex (c_Scale (m := m) ha hs hx hy hp0 hp1)) ?_
  rintro _ ⟨g1, k, z, ok, rfl, hT⟩
  refine vcI_q 6 (by kernel_rfl) ?_
  refine vcI_end 114 [(1, Ia p), (2, Ia m), (6, Ba false), (7, .p 7 0), (8, .p 8 0), (9, Ba ok), (14, Ba false)] [(7, [Bv s, Hw a, Lw a, Iv x]), (8, [Bv g1, Hw k, Lw k, Iv z])] (by kernel_rfl) (by kernel_rfl) (by kernel_rfl) ?_
  refine vc_seq ?_
  refine vc_seqr rfl ?_
  refine vcI_q 1 (by kernel_rfl) ?_
  refine vcI_bin (op := .lss) (t := 3) (a := .int .i64 m) (b := .int .i64 1) (dst := (some 25)) (by kernel_rfl) ?_
  intro c25 hc25
  refine vcI_q 1 (by kernel_rfl) ?_
  cases c25
  · replace hc25 := bf hc25
    refine vcI_q 1 (by kernel_rfl) ?_
    refine vcI_bin (op := .gtr) (t := 3) (a := .int .i64 m) (b := .int .i64 7) (dst := (some 28)) (by kernel_rfl) ?_
    intro c28 hc28
    refine vcI_q 2 (by kernel_rfl) ?_
    cases c28
    · replace hc28 := bf hc28
      refine vcI_q 1 (by kernel_rfl) ?_
      refine vcI_bin (op := .lss) (t := 3) (a := .int .i64 p) (b := .int .i64 (-6111)) (dst := (some 32)) (by kernel_rfl) ?_
      intro c32 hc32
      refine vcI_q 2 (by kernel_rfl) ?_
      cases c32
      · replace hc32 := bf hc32
        refine vcI_q 1 (by kernel_rfl) ?_
        refine vcI_bin (op := .gtr) (t := 3) (a := .int .i64 p) (b := .int .i64 6176) (dst := (some 36)) (by kernel_rfl) ?_
        intro c36 hc36
        refine vcI_q 1 (by kernel_rfl) ?_
        refine vcI_end 114 [(1, Ia p), (2, Ia m), (6, Ba false), (7, .p 7 0), (8, .p 8 0), (9, Ba ok), (14, Ba false), (37, Ba c36)] [(7, [Bv s, Hw a, Lw a, Iv x]), (8, [Bv g1, Hw k, Lw k, Iv z])] (by kernel_rfl) (by kernel_rfl) (by kernel_rfl) ?_
        cases c36
        · replace hc36 := bf hc36
          have hgood : ¬ (p < -6111 ∨ 6176 < p ∨ m < 1 ∨ 7 < m) := by omega
          refine vc_condf (by kernel_rfl) ?_
          refine vc_skip ?_
          refine seq_n ?_
          refine vc_seqr rfl ?_
          refine vcI_q 1 (by kernel_rfl) ?_
          refine vcI_call (f := 17) (ds := [.agg [.v (.bool s), .v (.int .u64 (hiW (a))), .v (.int .u64 (loW (a))), .v (.int .i64 x)]]) (dst := (some 46)) (by kernel_rfl) (c_Ref haB) ?_
          rintro _ rfl
          refine vcI_q 2 (by kernel_rfl) ?_
          refine vcI_end 114 [(1, Ia p), (2, Ia m), (6, Ba false), (7, .p 7 0), (8, .p 8 0), (9, Ba ok), (10, .p 10 0), (14, Ba false), (37, Ba false)] [(7, [Bv s, Hw a, Lw a, Iv x]), (8, [Bv g1, Hw k, Lw k, Iv z]), (10, [Bv s, .sl (nd (a)) (dg (digs (a))), Iv x])] (by kernel_rfl) (by kernel_rfl) (by kernel_rfl) ?_
          refine vc_seqr rfl ?_
          refine vcI_q 1 (by kernel_rfl) ?_
          refine vcI_un (op := .neg) (a := .int .i64 p) (dst := (some 48)) (by kernel_rfl) ?_
          intro z48 hz48
          first | (replace hz48 := hz48.i64 (by omega)) | skip
          refine vcI_q 2 (by kernel_rfl) ?_
          refine vcI_bin (op := .sub) (t := 3) (a := .int .i64 z48) (b := .int .i64 x) (dst := (some 51)) (by kernel_rfl) ?_
          intro z51 hz51
          first | (replace hz51 := hz51.i64 (by omega)) | skip
          refine vcI_q 1 (by kernel_rfl) ?_
          refine vcI_end 114 [(1, Ia p), (2, Ia m), (6, Ba false), (7, .p 7 0), (8, .p 8 0), (9, Ba ok), (10, .p 10 0), (11, Ia z51), (14, Ba false), (37, Ba false)] [(7, [Bv s, Hw a, Lw a, Iv x]), (8, [Bv g1, Hw k, Lw k, Iv z]), (10, [Bv s, .sl (nd (a)) (dg (digs (a))), Iv x])] (by kernel_rfl) (by kernel_rfl) (by kernel_rfl) ?_
          refine vc_mid 114 (fun (vcx : Int × Bool) => match vcx with | (N, vb53) => [(1, Ia p), (2, Ia m), (6, Ba false), (7, .p 7 0), (8, .p 8 0), (9, Ba ok), (10, .p 10 0), (11, Ia N), (14, Ba false), (37, Ba false), (53, Ba vb53)]) (fun (vcx : Int × Bool) => match vcx with | (N, vb53) => [(7, [Bv s, Hw a, Lw a, Iv x]), (8, [Bv g1, Hw k, Lw k, Iv z]), (10, [Bv s, .sl (nd (a)) (dg (digs (a))), Iv x])]) (fun (vcx : Int × Bool) => match vcx with | (N, vb53) => N = min z51 90) ?_ ?_
          · rintro ⟨N, vb53⟩ hinv
            simp only at hinv
            have hN90 := hinv
            refine vc_seqr rfl ?_
            refine vcI_q 3 (by kernel_rfl) ?_
            refine vcI_call (f := 18) (ds := [.agg [.v (.bool s), .sl (nd (a)) (dg (digs (a))), .v (.int .i64 x)], .v (.bool false), .v (.int .i64 N), .v (.int .i64 m)]) (dst := (some 57)) (by kernel_rfl) (c_rCutN (m := m) (X := N) (n := N.toNat) rfl (by omega) (by omega) (by omega) (by omega)) ?_
            rintro _ rfl
            refine vcI_q 2 (by kernel_rfl) ?_
            refine vcI_end 114 [(1, Ia p), (2, Ia m), (6, Ba false), (7, .p 7 0), (8, .p 8 0), (9, Ba ok), (10, .p 10 0), (11, Ia N), (12, .p 12 0), (14, Ba false), (37, Ba false), (53, Ba vb53)] [(7, [Bv s, Hw a, Lw a, Iv x]), (8, [Bv g1, Hw k, Lw k, Iv z]), (10, [Bv s, .sl (nd (a)) (dg (digs (a))), Iv x]), (12, [Bv s, .sl (nd (cutQ m s a false N.toNat)) (dg (digs (cutQ m s a false N.toNat))), Iv (x + (N.toNat : Int))])] (by kernel_rfl) (by kernel_rfl) (by kernel_rfl) ?_
            refine vc_seq ?_
            refine vc_seqr rfl ?_
            refine vcI_q 1 (by kernel_rfl) ?_
            refine vcI_bin (op := .lss) (t := 3) (a := .int .i64 N) (b := .int .i64 0) (dst := (some 59)) (by kernel_rfl) ?_
            intro c59 hc59
            refine vcI_end 114 [(1, Ia p), (2, Ia m), (6, Ba false), (7, .p 7 0), (8, .p 8 0), (9, Ba ok), (10, .p 10 0), (11, Ia N), (12, .p 12 0), (14, Ba false), (37, Ba false), (53, Ba vb53), (59, Ba c59)] [(7, [Bv s, Hw a, Lw a, Iv x]), (8, [Bv g1, Hw k, Lw k, Iv z]), (10, [Bv s, .sl (nd (a)) (dg (digs (a))), Iv x]), (12, [Bv s, .sl (nd (cutQ m s a false N.toNat)) (dg (digs (cutQ m s a false N.toNat))), Iv (x + (N.toNat : Int))])] (by kernel_rfl) (by kernel_rfl) (by kernel_rfl) ?_
            cases c59
            · replace hc59 := bf hc59
              have hge : 0 ≤ -p - x := by omega
              have hQ : cutQ m s a false (-p - x).toNat = cutQ m s a false N.toNat := by rw [show N.toNat = min (-p - x).toNat 90 by omega, cut_cap90 ha]
              have hQE : cutQ m s a false N.toNat < E34 := cut_lt ha
              obtain ⟨q1, q2, q3, q4⟩ := T4.inj4 (hT.symm.trans (scale_cut hgood hge hQ))
              refine vc_condf (by kernel_rfl) ?_
              refine vc_skip ?_
              refine seq_n ?_
              refine vc_seq ?_
              refine vc_seqr rfl ?_
              refine vcI_q 3 (by kernel_rfl) ?_
              refine vcI_bin (op := .gtr) (t := 3) (a := .int .i64 (((nd (cutQ m s a false N.toNat) : Nat) : Int))) (b := .int .i64 34) (dst := (some 88)) (by kernel_rfl) ?_
              refine all_false ((by have := nd_E34.1 hQE; omega)) ?_
              have hkB : k < B128 := by rw [q2]; exact Nat.lt_trans hQE e34_lt
              have hok := tru q4
              refine vcI_end 114 [(1, Ia p), (2, Ia m), (6, Ba false), (7, .p 7 0), (8, .p 8 0), (9, Ba ok), (10, .p 10 0), (11, Ia N), (12, .p 12 0), (14, Ba false), (37, Ba false), (53, Ba vb53), (59, Ba false), (88, Ba false)] [(7, [Bv s, Hw a, Lw a, Iv x]), (8, [Bv g1, Hw k, Lw k, Iv z]), (10, [Bv s, .sl (nd (a)) (dg (digs (a))), Iv x]), (12, [Bv s, .sl (nd (cutQ m s a false N.toNat)) (dg (digs (cutQ m s a false N.toNat))), Iv (x + (N.toNat : Int))])] (by kernel_rfl) (by kernel_rfl) (by kernel_rfl) ?_
              refine vc_condf (by kernel_rfl) ?_
              refine vc_skip ?_
              refine seq_n ?_
              refine vc_seqr rfl ?_
              refine vcI_q 1 (by kernel_rfl) ?_
              refine vcI_un (op := .neg) (a := .int .i64 p) (dst := (some 97)) (by kernel_rfl) ?_
              intro z97 hz97
              first | (replace hz97 := hz97.i64 (by omega)) | skip
              refine vcI_q 2 (by kernel_rfl) ?_
              refine vcI_end 114 [(1, Ia p), (2, Ia m), (6, Ba false), (7, .p 7 0), (8, .p 8 0), (9, Ba ok), (10, .p 10 0), (11, Ia N), (12, .p 12 0), (14, Ba false), (37, Ba false), (53, Ba vb53), (59, Ba false), (88, Ba false)] [(7, [Bv s, Hw a, Lw a, Iv x]), (8, [Bv g1, Hw k, Lw k, Iv z]), (10, [Bv s, .sl (nd (a)) (dg (digs (a))), Iv x]), (12, [Bv s, .sl (nd (cutQ m s a false N.toNat)) (dg (digs (cutQ m s a false N.toNat))), Iv z97])] (by kernel_rfl) (by kernel_rfl) (by kernel_rfl) ?_
              refine vc_seqr rfl ?_
              refine vcI_q 3 (by kernel_rfl) ?_
              cases s
              · skip
                refine vcI_q 7 (by kernel_rfl) ?_
                refine vcI_end 114 [(1, Ia p), (2, Ia m), (6, Ba false), (7, .p 7 0), (8, .p 8 0), (9, Ba ok), (10, .p 10 0), (11, Ia N), (12, .p 12 0), (14, Ba false), (37, Ba false), (53, Ba vb53), (59, Ba false), (88, Ba false)] [(7, [Bv false, Hw a, Lw a, Iv x]), (8, [Bv g1, Hw k, Lw k, Iv z]), (10, [Bv false, .sl (nd (a)) (dg (digs (a))), Iv x]), (12, [Bv false, .sl (nd (cutQ m false a false N.toNat)) (dg (digs (cutQ m false a false N.toNat))), Iv z97])] (by kernel_rfl) (by kernel_rfl) (by kernel_rfl) ?_
                refine vc_seqr rfl ?_
                refine vcI_q 2 (by kernel_rfl) ?_
                obtain rfl : ok = true := hok.2 (trivial)
                refine vcI_q 2 (by kernel_rfl) ?_
                refine vcI_call (f := 20) (ds := [.agg [.v (.bool g1), .v (.int .u64 (hiW (k))), .v (.int .u64 (loW (k))), .v (.int .i64 z)], .agg [.v (.bool false), .sl (nd (cutQ m false a false N.toNat)) (dg (digs (cutQ m false a false N.toNat))), .v (.int .i64 z97)]]) (dst := (some 112)) (by kernel_rfl) (c_LikeE (g := g1) (n := k) (e := z) (by rw [q1]; rfl) q2.symm (by omega) hkB) ?_
                rintro _ rfl
                refine vcI_q 2 (by kernel_rfl) ?_
                refine vcI_end 114 [(1, Ia p), (2, Ia m), (6, Ba true), (7, .p 7 0), (8, .p 8 0), (9, Ba true), (10, .p 10 0), (11, Ia N), (12, .p 12 0), (14, Ba false), (37, Ba false), (53, Ba vb53), (59, Ba false), (88, Ba false)] [(7, [Bv false, Hw a, Lw a, Iv x]), (8, [Bv g1, Hw k, Lw k, Iv z]), (10, [Bv false, .sl (nd (a)) (dg (digs (a))), Iv x]), (12, [Bv false, .sl (nd (cutQ m false a false N.toNat)) (dg (digs (cutQ m false a false N.toNat))), Iv z97])] (by kernel_rfl) (by kernel_rfl) (by kernel_rfl) ?_
                refine vc_ret ?_
                refine ret_1 (d := .v (.bool true)) (by kernel_rfl) ?_
                rfl
              · skip
                refine vcI_q 3 (by kernel_rfl) ?_
                refine vcI_bin (op := .gtr) (t := 3) (a := .int .i64 (((nd (cutQ m true a false N.toNat) : Nat) : Int))) (b := .int .i64 0) (dst := (some 105)) (by kernel_rfl) ?_
                intro c105 hc105
                refine vcI_q 3 (by kernel_rfl) ?_
                refine vcI_end 114 [(1, Ia p), (2, Ia m), (6, Ba false), (7, .p 7 0), (8, .p 8 0), (9, Ba ok), (10, .p 10 0), (11, Ia N), (12, .p 12 0), (14, Ba false), (37, Ba false), (53, Ba vb53), (59, Ba false), (88, Ba false)] [(7, [Bv true, Hw a, Lw a, Iv x]), (8, [Bv g1, Hw k, Lw k, Iv z]), (10, [Bv true, .sl (nd (a)) (dg (digs (a))), Iv x]), (12, [Bv c105, .sl (nd (cutQ m true a false N.toNat)) (dg (digs (cutQ m true a false N.toNat))), Iv z97])] (by kernel_rfl) (by kernel_rfl) (by kernel_rfl) ?_
                refine vc_seqr rfl ?_
                refine vcI_q 2 (by kernel_rfl) ?_
                obtain rfl : ok = true := hok.2 (trivial)
                refine vcI_q 2 (by kernel_rfl) ?_
                refine vcI_call (f := 20) (ds := [.agg [.v (.bool g1), .v (.int .u64 (hiW (k))), .v (.int .u64 (loW (k))), .v (.int .i64 z)], .agg [.v (.bool c105), .sl (nd (cutQ m true a false N.toNat)) (dg (digs (cutQ m true a false N.toNat))), .v (.int .i64 z97)]]) (dst := (some 112)) (by kernel_rfl) (c_LikeE (g := g1) (n := k) (e := z) (by rw [q1, gt_dec hc105]; rfl) q2.symm (by omega) hkB) ?_
                rintro _ rfl
                refine vcI_q 2 (by kernel_rfl) ?_
                refine vcI_end 114 [(1, Ia p), (2, Ia m), (6, Ba true), (7, .p 7 0), (8, .p 8 0), (9, Ba true), (10, .p 10 0), (11, Ia N), (12, .p 12 0), (14, Ba false), (37, Ba false), (53, Ba vb53), (59, Ba false), (88, Ba false)] [(7, [Bv true, Hw a, Lw a, Iv x]), (8, [Bv g1, Hw k, Lw k, Iv z]), (10, [Bv true, .sl (nd (a)) (dg (digs (a))), Iv x]), (12, [Bv c105, .sl (nd (cutQ m true a false N.toNat)) (dg (digs (cutQ m true a false N.toNat))), Iv z97])] (by kernel_rfl) (by kernel_rfl) (by kernel_rfl) ?_
                refine vc_ret ?_
                refine ret_1 (d := .v (.bool true)) (by kernel_rfl) ?_
                rfl
            · replace hc59 := bt hc59
              have hlt : ¬ 0 ≤ -p - x := by omega
              refine vc_condt (by kernel_rfl) ?_
              refine vc_seq ?_
              refine vc_seqr rfl ?_
              refine vcI_q 1 (by kernel_rfl) ?_
              refine vcI_un (op := .neg) (a := .int .i64 N) (dst := (some 61)) (by kernel_rfl) ?_
              intro z61 hz61
              first | (replace hz61 := hz61.i64 (by omega)) | skip
              refine vcI_bin (op := .gtr) (t := 3) (a := .int .i64 z61) (b := .int .i64 40) (dst := (some 62)) (by kernel_rfl) ?_
              intro c62 hc62
              refine vcI_q 1 (by kernel_rfl) ?_
              cases c62
              · replace hc62 := bf hc62
                refine vcI_q 5 (by kernel_rfl) ?_
                refine vcI_end 114 [(1, Ia p), (2, Ia m), (6, Ba false), (7, .p 7 0), (8, .p 8 0), (9, Ba ok), (10, .p 10 0), (11, Ia N), (12, .p 12 0), (14, Ba false), (37, Ba false), (53, Ba vb53), (59, Ba true), (68, Ba false)] [(7, [Bv s, Hw a, Lw a, Iv x]), (8, [Bv g1, Hw k, Lw k, Iv z]), (10, [Bv s, .sl (nd (a)) (dg (digs (a))), Iv x]), (12, [Bv s, .sl (nd (cutQ m s a false N.toNat)) (dg (digs (cutQ m s a false N.toNat))), Iv (x + (N.toNat : Int))])] (by kernel_rfl) (by kernel_rfl) (by kernel_rfl) ?_
                refine vc_condf (by kernel_rfl) ?_
                refine vc_skip ?_
                refine seq_n ?_
                refine vc_reg rfl ?_
                refine vcI_q 5 (by kernel_rfl) ?_
                refine vcI_un (op := .neg) (a := .int .i64 N) (dst := (some 81)) (by kernel_rfl) ?_
                intro z81 hz81
                first | (replace hz81 := hz81.i64 (by omega)) | skip
                refine vcI_blt (b := .min) (tys := [3, 3]) (vs := [.int .i64 z81, .int .i64 40]) (dst := (some 82)) (by kernel_rfl) ?_
                intro z82 hz82
                simp only at hz82
                have hsh : a * 10 ^ (p + x).toNat = a * 10 ^ z82.toNat := by rw [show z82.toNat = (p + x).toNat by omega]
                refine vcI_call (f := 19) (ds := [.sl (nd (a)) (dg (digs (a))), .v (.int .i64 z82)]) (dst := (some 83)) (by kernel_rfl) (c_ShiftX (X := z82) (by omega) (by omega)) ?_
                rintro _ rfl
                refine vcI_q 2 (by kernel_rfl) ?_
                refine vcI_end 114 [(1, Ia p), (2, Ia m), (6, Ba false), (7, .p 7 0), (8, .p 8 0), (9, Ba ok), (10, .p 10 0), (11, Ia N), (12, .p 12 0), (14, Ba false), (37, Ba false), (53, Ba vb53), (59, Ba true), (68, Ba false)] [(7, [Bv s, Hw a, Lw a, Iv x]), (8, [Bv g1, Hw k, Lw k, Iv z]), (10, [Bv s, .sl (nd (a)) (dg (digs (a))), Iv x]), (12, [Bv s, .sl (nd (a * 10 ^ z82.toNat)) (dg (digs (a * 10 ^ z82.toNat))), Iv 0])] (by kernel_rfl) (by kernel_rfl) (by kernel_rfl) ?_
                refine seq_n ?_
                refine vc_seq ?_
                refine vc_seqr rfl ?_
                refine vcI_q 3 (by kernel_rfl) ?_
                refine vcI_bin (op := .gtr) (t := 3) (a := .int .i64 (((nd (a * 10 ^ z82.toNat) : Nat) : Int))) (b := .int .i64 34) (dst := (some 88)) (by kernel_rfl) ?_
                intro c88 hc88
                refine vcI_end 114 [(1, Ia p), (2, Ia m), (6, Ba false), (7, .p 7 0), (8, .p 8 0), (9, Ba ok), (10, .p 10 0), (11, Ia N), (12, .p 12 0), (14, Ba false), (37, Ba false), (53, Ba vb53), (59, Ba true), (68, Ba false), (88, Ba c88)] [(7, [Bv s, Hw a, Lw a, Iv x]), (8, [Bv g1, Hw k, Lw k, Iv z]), (10, [Bv s, .sl (nd (a)) (dg (digs (a))), Iv x]), (12, [Bv s, .sl (nd (a * 10 ^ z82.toNat)) (dg (digs (a * 10 ^ z82.toNat))), Iv 0])] (by kernel_rfl) (by kernel_rfl) (by kernel_rfl) ?_
                cases c88
                · replace hc88 := bf hc88
                  have hlow : a * 10 ^ (p + x).toNat < E34 := by rw [hsh]; exact nd_E34.2 (by omega)
                  obtain ⟨q1, q2, q3, q4⟩ := T4.inj4 (hT.symm.trans (scale_up hgood hlt hlow))
                  have hkB : k < B128 := by rw [q2]; exact Nat.lt_trans hlow e34_lt
                  have hok := tru q4
                  refine vc_condf (by kernel_rfl) ?_
                  refine vc_skip ?_
                  refine seq_n ?_
                  refine vc_seqr rfl ?_
                  refine vcI_q 1 (by kernel_rfl) ?_
                  refine vcI_un (op := .neg) (a := .int .i64 p) (dst := (some 97)) (by kernel_rfl) ?_
                  intro z97 hz97
                  first | (replace hz97 := hz97.i64 (by omega)) | skip
                  refine vcI_q 2 (by kernel_rfl) ?_
                  refine vcI_end 114 [(1, Ia p), (2, Ia m), (6, Ba false), (7, .p 7 0), (8, .p 8 0), (9, Ba ok), (10, .p 10 0), (11, Ia N), (12, .p 12 0), (14, Ba false), (37, Ba false), (53, Ba vb53), (59, Ba true), (68, Ba false), (88, Ba false)] [(7, [Bv s, Hw a, Lw a, Iv x]), (8, [Bv g1, Hw k, Lw k, Iv z]), (10, [Bv s, .sl (nd (a)) (dg (digs (a))), Iv x]), (12, [Bv s, .sl (nd (a * 10 ^ z82.toNat)) (dg (digs (a * 10 ^ z82.toNat))), Iv z97])] (by kernel_rfl) (by kernel_rfl) (by kernel_rfl) ?_
                  refine vc_seqr rfl ?_
                  refine vcI_q 3 (by kernel_rfl) ?_
                  cases s
                  · skip
                    refine vcI_q 7 (by kernel_rfl) ?_
                    refine vcI_end 114 [(1, Ia p), (2, Ia m), (6, Ba false), (7, .p 7 0), (8, .p 8 0), (9, Ba ok), (10, .p 10 0), (11, Ia N), (12, .p 12 0), (14, Ba false), (37, Ba false), (53, Ba vb53), (59, Ba true), (68, Ba false), (88, Ba false)] [(7, [Bv false, Hw a, Lw a, Iv x]), (8, [Bv g1, Hw k, Lw k, Iv z]), (10, [Bv false, .sl (nd (a)) (dg (digs (a))), Iv x]), (12, [Bv false, .sl (nd (a * 10 ^ z82.toNat)) (dg (digs (a * 10 ^ z82.toNat))), Iv z97])] (by kernel_rfl) (by kernel_rfl) (by kernel_rfl) ?_
                    refine vc_seqr rfl ?_
                    refine vcI_q 2 (by kernel_rfl) ?_
                    obtain rfl : ok = true := hok.2 (trivial)
                    refine vcI_q 2 (by kernel_rfl) ?_
                    refine vcI_call (f := 20) (ds := [.agg [.v (.bool g1), .v (.int .u64 (hiW (k))), .v (.int .u64 (loW (k))), .v (.int .i64 z)], .agg [.v (.bool false), .sl (nd (a * 10 ^ z82.toNat)) (dg (digs (a * 10 ^ z82.toNat))), .v (.int .i64 z97)]]) (dst := (some 112)) (by kernel_rfl) (c_LikeE (g := g1) (n := k) (e := z) (by rw [q1]) (by rw [q2, hsh]) (by omega) hkB) ?_
                    rintro _ rfl
                    refine vcI_q 2 (by kernel_rfl) ?_
                    refine vcI_end 114 [(1, Ia p), (2, Ia m), (6, Ba true), (7, .p 7 0), (8, .p 8 0), (9, Ba true), (10, .p 10 0), (11, Ia N), (12, .p 12 0), (14, Ba false), (37, Ba false), (53, Ba vb53), (59, Ba true), (68, Ba false), (88, Ba false)] [(7, [Bv false, Hw a, Lw a, Iv x]), (8, [Bv g1, Hw k, Lw k, Iv z]), (10, [Bv false, .sl (nd (a)) (dg (digs (a))), Iv x]), (12, [Bv false, .sl (nd (a * 10 ^ z82.toNat)) (dg (digs (a * 10 ^ z82.toNat))), Iv z97])] (by kernel_rfl) (by kernel_rfl) (by kernel_rfl) ?_
                    refine vc_ret ?_
                    refine ret_1 (d := .v (.bool true)) (by kernel_rfl) ?_
                    rfl
                  · skip
                    refine vcI_q 3 (by kernel_rfl) ?_
                    refine vcI_bin (op := .gtr) (t := 3) (a := .int .i64 (((nd (a * 10 ^ z82.toNat) : Nat) : Int))) (b := .int .i64 0) (dst := (some 105)) (by kernel_rfl) ?_
                    have hne : a * 10 ^ z82.toNat ≠ 0 := by rw [← hsh]; intro h; rcases Nat.mul_eq_zero.1 h with h | h; exact absurd (hs h) (by simp); exact absurd h (Nat.pos_iff_ne_zero.1 (Nat.pow_pos (by decide)))
                    intro c105 hc105
                    refine vcI_q 3 (by kernel_rfl) ?_
                    refine vcI_end 114 [(1, Ia p), (2, Ia m), (6, Ba false), (7, .p 7 0), (8, .p 8 0), (9, Ba ok), (10, .p 10 0), (11, Ia N), (12, .p 12 0), (14, Ba false), (37, Ba false), (53, Ba vb53), (59, Ba true), (68, Ba false), (88, Ba false)] [(7, [Bv true, Hw a, Lw a, Iv x]), (8, [Bv g1, Hw k, Lw k, Iv z]), (10, [Bv true, .sl (nd (a)) (dg (digs (a))), Iv x]), (12, [Bv c105, .sl (nd (a * 10 ^ z82.toNat)) (dg (digs (a * 10 ^ z82.toNat))), Iv z97])] (by kernel_rfl) (by kernel_rfl) (by kernel_rfl) ?_
                    refine vc_seqr rfl ?_
                    refine vcI_q 2 (by kernel_rfl) ?_
                    obtain rfl : ok = true := hok.2 (trivial)
                    refine vcI_q 2 (by kernel_rfl) ?_
                    refine vcI_call (f := 20) (ds := [.agg [.v (.bool g1), .v (.int .u64 (hiW (k))), .v (.int .u64 (loW (k))), .v (.int .i64 z)], .agg [.v (.bool c105), .sl (nd (a * 10 ^ z82.toNat)) (dg (digs (a * 10 ^ z82.toNat))), .v (.int .i64 z97)]]) (dst := (some 112)) (by kernel_rfl) (c_LikeE (g := g1) (n := k) (e := z) (by rw [q1, gt_dec hc105]; simp [hne]) (by rw [q2, hsh]) (by omega) hkB) ?_
                    rintro _ rfl
                    refine vcI_q 2 (by kernel_rfl) ?_
                    refine vcI_end 114 [(1, Ia p), (2, Ia m), (6, Ba true), (7, .p 7 0), (8, .p 8 0), (9, Ba true), (10, .p 10 0), (11, Ia N), (12, .p 12 0), (14, Ba false), (37, Ba false), (53, Ba vb53), (59, Ba true), (68, Ba false), (88, Ba false)] [(7, [Bv true, Hw a, Lw a, Iv x]), (8, [Bv g1, Hw k, Lw k, Iv z]), (10, [Bv true, .sl (nd (a)) (dg (digs (a))), Iv x]), (12, [Bv c105, .sl (nd (a * 10 ^ z82.toNat)) (dg (digs (a * 10 ^ z82.toNat))), Iv z97])] (by kernel_rfl) (by kernel_rfl) (by kernel_rfl) ?_
                    refine vc_ret ?_
                    refine ret_1 (d := .v (.bool true)) (by kernel_rfl) ?_
                    rfl
                · replace hc88 := bt hc88
                  have hN := (scale_big hgood hlt (by rw [hsh]; exact fun h => by have := nd_E34.1 h; omega)).symm.trans hT
                  obtain ⟨q1, q2, q3, q4⟩ := none4 hN
                  refine vc_condt (by kernel_rfl) ?_
                  refine vc_seqr rfl ?_
                  refine vcI_q 1 (by kernel_rfl) ?_
                  refine vcI_un (op := .not) (a := .bool ok) (dst := (some 90)) (by kernel_rfl) ?_
                  refine all_true (q4) ?_
                  refine vcI_q 3 (by kernel_rfl) ?_
                  refine vcI_bin (op := .eql) (t := 28) (a := .agg #[.bool g1, .int .u64 (hiW (k)), .int .u64 (loW (k)), .int .i64 z]) (b := .agg #[.bool false, .int .u64 0, .int .u64 0, .int .i64 0]) (dst := (some 94)) (by kernel_rfl) ?_
                  refine all_true ((none_eq q1 q2 q3)) ?_
                  refine vcI_q 2 (by kernel_rfl) ?_
                  refine vcI_end 114 [(1, Ia p), (2, Ia m), (6, Ba true), (7, .p 7 0), (8, .p 8 0), (9, Ba ok), (10, .p 10 0), (11, Ia N), (12, .p 12 0), (14, Ba false), (37, Ba false), (53, Ba vb53), (59, Ba true), (68, Ba false), (88, Ba true)] [(7, [Bv s, Hw a, Lw a, Iv x]), (8, [Bv g1, Hw k, Lw k, Iv z]), (10, [Bv s, .sl (nd (a)) (dg (digs (a))), Iv x]), (12, [Bv s, .sl (nd (a * 10 ^ z82.toNat)) (dg (digs (a * 10 ^ z82.toNat))), Iv 0])] (by kernel_rfl) (by kernel_rfl) (by kernel_rfl) ?_
                  refine vc_ret ?_
                  refine seq_r ?_
                  refine ret_1 (d := .v (.bool true)) (by kernel_rfl) ?_
                  rfl
              · replace hc62 := bt hc62
                refine vcI_q 3 (by kernel_rfl) ?_
                refine vcI_bin (op := .gtr) (t := 3) (a := .int .i64 (((nd (a) : Nat) : Int))) (b := .int .i64 0) (dst := (some 67)) (by kernel_rfl) ?_
                intro c67 hc67
                refine vcI_q 1 (by kernel_rfl) ?_
                refine vcI_end 114 [(1, Ia p), (2, Ia m), (6, Ba false), (7, .p 7 0), (8, .p 8 0), (9, Ba ok), (10, .p 10 0), (11, Ia N), (12, .p 12 0), (14, Ba false), (37, Ba false), (53, Ba vb53), (59, Ba true), (68, Ba c67)] [(7, [Bv s, Hw a, Lw a, Iv x]), (8, [Bv g1, Hw k, Lw k, Iv z]), (10, [Bv s, .sl (nd (a)) (dg (digs (a))), Iv x]), (12, [Bv s, .sl (nd (cutQ m s a false N.toNat)) (dg (digs (cutQ m s a false N.toNat))), Iv (x + (N.toNat : Int))])] (by kernel_rfl) (by kernel_rfl) (by kernel_rfl) ?_
                cases c67
                · replace hc67 := bf hc67
                  have ha0 : a = 0 := nd_eq0.1 (by omega)
                  refine vc_condf (by kernel_rfl) ?_
                  refine vc_skip ?_
                  refine seq_n ?_
                  refine vc_reg rfl ?_
                  refine vcI_q 5 (by kernel_rfl) ?_
                  refine vcI_un (op := .neg) (a := .int .i64 N) (dst := (some 81)) (by kernel_rfl) ?_
                  intro z81 hz81
                  first | (replace hz81 := hz81.i64 (by omega)) | skip
                  refine vcI_blt (b := .min) (tys := [3, 3]) (vs := [.int .i64 z81, .int .i64 40]) (dst := (some 82)) (by kernel_rfl) ?_
                  intro z82 hz82
                  simp only at hz82
                  have hsh : a * 10 ^ (p + x).toNat = a * 10 ^ z82.toNat := by rw [ha0, Nat.zero_mul, Nat.zero_mul]
                  refine vcI_call (f := 19) (ds := [.sl (nd (a)) (dg (digs (a))), .v (.int .i64 z82)]) (dst := (some 83)) (by kernel_rfl) (c_ShiftX (X := z82) (by omega) (by omega)) ?_
                  rintro _ rfl
                  refine vcI_q 2 (by kernel_rfl) ?_
                  refine vcI_end 114 [(1, Ia p), (2, Ia m), (6, Ba false), (7, .p 7 0), (8, .p 8 0), (9, Ba ok), (10, .p 10 0), (11, Ia N), (12, .p 12 0), (14, Ba false), (37, Ba false), (53, Ba vb53), (59, Ba true), (68, Ba false)] [(7, [Bv s, Hw a, Lw a, Iv x]), (8, [Bv g1, Hw k, Lw k, Iv z]), (10, [Bv s, .sl (nd (a)) (dg (digs (a))), Iv x]), (12, [Bv s, .sl (nd (a * 10 ^ z82.toNat)) (dg (digs (a * 10 ^ z82.toNat))), Iv 0])] (by kernel_rfl) (by kernel_rfl) (by kernel_rfl) ?_
                  refine seq_n ?_
                  refine vc_seq ?_
                  refine vc_seqr rfl ?_
                  refine vcI_q 3 (by kernel_rfl) ?_
                  refine vcI_bin (op := .gtr) (t := 3) (a := .int .i64 (((nd (a * 10 ^ z82.toNat) : Nat) : Int))) (b := .int .i64 34) (dst := (some 88)) (by kernel_rfl) ?_
                  intro c88 hc88
                  refine vcI_end 114 [(1, Ia p), (2, Ia m), (6, Ba false), (7, .p 7 0), (8, .p 8 0), (9, Ba ok), (10, .p 10 0), (11, Ia N), (12, .p 12 0), (14, Ba false), (37, Ba false), (53, Ba vb53), (59, Ba true), (68, Ba false), (88, Ba c88)] [(7, [Bv s, Hw a, Lw a, Iv x]), (8, [Bv g1, Hw k, Lw k, Iv z]), (10, [Bv s, .sl (nd (a)) (dg (digs (a))), Iv x]), (12, [Bv s, .sl (nd (a * 10 ^ z82.toNat)) (dg (digs (a * 10 ^ z82.toNat))), Iv 0])] (by kernel_rfl) (by kernel_rfl) (by kernel_rfl) ?_
                  cases c88
                  · replace hc88 := bf hc88
                    have hlow : a * 10 ^ (p + x).toNat < E34 := by rw [hsh]; exact nd_E34.2 (by omega)
                    obtain ⟨q1, q2, q3, q4⟩ := T4.inj4 (hT.symm.trans (scale_up hgood hlt hlow))
                    have hkB : k < B128 := by rw [q2]; exact Nat.lt_trans hlow e34_lt
                    have hok := tru q4
                    refine vc_condf (by kernel_rfl) ?_
                    refine vc_skip ?_
                    refine seq_n ?_
                    refine vc_seqr rfl ?_
                    refine vcI_q 1 (by kernel_rfl) ?_
                    refine vcI_un (op := .neg) (a := .int .i64 p) (dst := (some 97)) (by kernel_rfl) ?_
                    intro z97 hz97
                    first | (replace hz97 := hz97.i64 (by omega)) | skip
                    refine vcI_q 2 (by kernel_rfl) ?_
                    refine vcI_end 114 [(1, Ia p), (2, Ia m), (6, Ba false), (7, .p 7 0), (8, .p 8 0), (9, Ba ok), (10, .p 10 0), (11, Ia N), (12, .p 12 0), (14, Ba false), (37, Ba false), (53, Ba vb53), (59, Ba true), (68, Ba false), (88, Ba false)] [(7, [Bv s, Hw a, Lw a, Iv x]), (8, [Bv g1, Hw k, Lw k, Iv z]), (10, [Bv s, .sl (nd (a)) (dg (digs (a))), Iv x]), (12, [Bv s, .sl (nd (a * 10 ^ z82.toNat)) (dg (digs (a * 10 ^ z82.toNat))), Iv z97])] (by kernel_rfl) (by kernel_rfl) (by kernel_rfl) ?_
                    refine vc_seqr rfl ?_
                    refine vcI_q 3 (by kernel_rfl) ?_
                    cases s
                    · skip
                      refine vcI_q 7 (by kernel_rfl) ?_
                      refine vcI_end 114 [(1, Ia p), (2, Ia m), (6, Ba false), (7, .p 7 0), (8, .p 8 0), (9, Ba ok), (10, .p 10 0), (11, Ia N), (12, .p 12 0), (14, Ba false), (37, Ba false), (53, Ba vb53), (59, Ba true), (68, Ba false), (88, Ba false)] [(7, [Bv false, Hw a, Lw a, Iv x]), (8, [Bv g1, Hw k, Lw k, Iv z]), (10, [Bv false, .sl (nd (a)) (dg (digs (a))), Iv x]), (12, [Bv false, .sl (nd (a * 10 ^ z82.toNat)) (dg (digs (a * 10 ^ z82.toNat))), Iv z97])] (by kernel_rfl) (by kernel_rfl) (by kernel_rfl) ?_
                      refine vc_seqr rfl ?_
                      refine vcI_q 2 (by kernel_rfl) ?_
                      obtain rfl : ok = true := hok.2 (trivial)
                      refine vcI_q 2 (by kernel_rfl) ?_
                      refine vcI_call (f := 20) (ds := [.agg [.v (.bool g1), .v (.int .u64 (hiW (k))), .v (.int .u64 (loW (k))), .v (.int .i64 z)], .agg [.v (.bool false), .sl (nd (a * 10 ^ z82.toNat)) (dg (digs (a * 10 ^ z82.toNat))), .v (.int .i64 z97)]]) (dst := (some 112)) (by kernel_rfl) (c_LikeE (g := g1) (n := k) (e := z) (by rw [q1]) (by rw [q2, hsh]) (by omega) hkB) ?_
                      rintro _ rfl
                      refine vcI_q 2 (by kernel_rfl) ?_
                      refine vcI_end 114 [(1, Ia p), (2, Ia m), (6, Ba true), (7, .p 7 0), (8, .p 8 0), (9, Ba true), (10, .p 10 0), (11, Ia N), (12, .p 12 0), (14, Ba false), (37, Ba false), (53, Ba vb53), (59, Ba true), (68, Ba false), (88, Ba false)] [(7, [Bv false, Hw a, Lw a, Iv x]), (8, [Bv g1, Hw k, Lw k, Iv z]), (10, [Bv false, .sl (nd (a)) (dg (digs (a))), Iv x]), (12, [Bv false, .sl (nd (a * 10 ^ z82.toNat)) (dg (digs (a * 10 ^ z82.toNat))), Iv z97])] (by kernel_rfl) (by kernel_rfl) (by kernel_rfl) ?_
                      refine vc_ret ?_
                      refine ret_1 (d := .v (.bool true)) (by kernel_rfl) ?_
                      rfl
                    · skip
                      refine vcI_q 3 (by kernel_rfl) ?_
                      refine vcI_bin (op := .gtr) (t := 3) (a := .int .i64 (((nd (a * 10 ^ z82.toNat) : Nat) : Int))) (b := .int .i64 0) (dst := (some 105)) (by kernel_rfl) ?_
                      have hne : a * 10 ^ z82.toNat ≠ 0 := by rw [← hsh]; intro h; rcases Nat.mul_eq_zero.1 h with h | h; exact absurd (hs h) (by simp); exact absurd h (Nat.pos_iff_ne_zero.1 (Nat.pow_pos (by decide)))
                      intro c105 hc105
                      refine vcI_q 3 (by kernel_rfl) ?_
                      refine vcI_end 114 [(1, Ia p), (2, Ia m), (6, Ba false), (7, .p 7 0), (8, .p 8 0), (9, Ba ok), (10, .p 10 0), (11, Ia N), (12, .p 12 0), (14, Ba false), (37, Ba false), (53, Ba vb53), (59, Ba true), (68, Ba false), (88, Ba false)] [(7, [Bv true, Hw a, Lw a, Iv x]), (8, [Bv g1, Hw k, Lw k, Iv z]), (10, [Bv true, .sl (nd (a)) (dg (digs (a))), Iv x]), (12, [Bv c105, .sl (nd (a * 10 ^ z82.toNat)) (dg (digs (a * 10 ^ z82.toNat))), Iv z97])] (by kernel_rfl) (by kernel_rfl) (by kernel_rfl) ?_
                      refine vc_seqr rfl ?_
                      refine vcI_q 2 (by kernel_rfl) ?_
                      obtain rfl : ok = true := hok.2 (trivial)
                      refine vcI_q 2 (by kernel_rfl) ?_
                      refine vcI_call (f := 20) (ds := [.agg [.v (.bool g1), .v (.int .u64 (hiW (k))), .v (.int .u64 (loW (k))), .v (.int .i64 z)], .agg [.v (.bool c105), .sl (nd (a * 10 ^ z82.toNat)) (dg (digs (a * 10 ^ z82.toNat))), .v (.int .i64 z97)]]) (dst := (some 112)) (by kernel_rfl) (c_LikeE (g := g1) (n := k) (e := z) (by rw [q1, gt_dec hc105]; simp [hne]) (by rw [q2, hsh]) (by omega) hkB) ?_
                      rintro _ rfl
                      refine vcI_q 2 (by kernel_rfl) ?_
                      refine vcI_end 114 [(1, Ia p), (2, Ia m), (6, Ba true), (7, .p 7 0), (8, .p 8 0), (9, Ba true), (10, .p 10 0), (11, Ia N), (12, .p 12 0), (14, Ba false), (37, Ba false), (53, Ba vb53), (59, Ba true), (68, Ba false), (88, Ba false)] [(7, [Bv true, Hw a, Lw a, Iv x]), (8, [Bv g1, Hw k, Lw k, Iv z]), (10, [Bv true, .sl (nd (a)) (dg (digs (a))), Iv x]), (12, [Bv c105, .sl (nd (a * 10 ^ z82.toNat)) (dg (digs (a * 10 ^ z82.toNat))), Iv z97])] (by kernel_rfl) (by kernel_rfl) (by kernel_rfl) ?_
                      refine vc_ret ?_
                      refine ret_1 (d := .v (.bool true)) (by kernel_rfl) ?_
                      rfl
                  · replace hc88 := bt hc88
                    have hN := (scale_big hgood hlt (by rw [hsh]; exact fun h => by have := nd_E34.1 h; omega)).symm.trans hT
                    obtain ⟨q1, q2, q3, q4⟩ := none4 hN
                    refine vc_condt (by kernel_rfl) ?_
                    refine vc_seqr rfl ?_
                    refine vcI_q 1 (by kernel_rfl) ?_
                    refine vcI_un (op := .not) (a := .bool ok) (dst := (some 90)) (by kernel_rfl) ?_
                    refine all_true (q4) ?_
                    refine vcI_q 3 (by kernel_rfl) ?_
                    refine vcI_bin (op := .eql) (t := 28) (a := .agg #[.bool g1, .int .u64 (hiW (k)), .int .u64 (loW (k)), .int .i64 z]) (b := .agg #[.bool false, .int .u64 0, .int .u64 0, .int .i64 0]) (dst := (some 94)) (by kernel_rfl) ?_
                    refine all_true ((none_eq q1 q2 q3)) ?_
                    refine vcI_q 2 (by kernel_rfl) ?_
                    refine vcI_end 114 [(1, Ia p), (2, Ia m), (6, Ba true), (7, .p 7 0), (8, .p 8 0), (9, Ba ok), (10, .p 10 0), (11, Ia N), (12, .p 12 0), (14, Ba false), (37, Ba false), (53, Ba vb53), (59, Ba true), (68, Ba false), (88, Ba true)] [(7, [Bv s, Hw a, Lw a, Iv x]), (8, [Bv g1, Hw k, Lw k, Iv z]), (10, [Bv s, .sl (nd (a)) (dg (digs (a))), Iv x]), (12, [Bv s, .sl (nd (a * 10 ^ z82.toNat)) (dg (digs (a * 10 ^ z82.toNat))), Iv 0])] (by kernel_rfl) (by kernel_rfl) (by kernel_rfl) ?_
                    refine vc_ret ?_
                    refine seq_r ?_
                    refine ret_1 (d := .v (.bool true)) (by kernel_rfl) ?_
                    rfl
                · replace hc67 := bt hc67
                  have ha0 : a ≠ 0 := fun h => by rw [h, nd_zero] at hc67; omega
                  have hN := (scale_big hgood hlt (pow_big ha0 (by omega))).symm.trans hT
                  obtain ⟨q1, q2, q3, q4⟩ := none4 hN
                  refine vc_condt (by kernel_rfl) ?_
                  refine vc_seqr rfl ?_
                  refine vcI_q 1 (by kernel_rfl) ?_
                  refine vcI_un (op := .not) (a := .bool ok) (dst := (some 70)) (by kernel_rfl) ?_
                  refine all_true (q4) ?_
                  refine vcI_q 3 (by kernel_rfl) ?_
                  refine vcI_bin (op := .eql) (t := 28) (a := .agg #[.bool g1, .int .u64 (hiW (k)), .int .u64 (loW (k)), .int .i64 z]) (b := .agg #[.bool false, .int .u64 0, .int .u64 0, .int .i64 0]) (dst := (some 74)) (by kernel_rfl) ?_
                  refine all_true ((none_eq q1 q2 q3)) ?_
                  refine vcI_q 2 (by kernel_rfl) ?_
                  refine vcI_end 114 [(1, Ia p), (2, Ia m), (6, Ba true), (7, .p 7 0), (8, .p 8 0), (9, Ba ok), (10, .p 10 0), (11, Ia N), (12, .p 12 0), (14, Ba false), (37, Ba false), (53, Ba vb53), (59, Ba true), (68, Ba true)] [(7, [Bv s, Hw a, Lw a, Iv x]), (8, [Bv g1, Hw k, Lw k, Iv z]), (10, [Bv s, .sl (nd (a)) (dg (digs (a))), Iv x]), (12, [Bv s, .sl (nd (cutQ m s a false N.toNat)) (dg (digs (cutQ m s a false N.toNat))), Iv (x + (N.toNat : Int))])] (by kernel_rfl) (by kernel_rfl) (by kernel_rfl) ?_
                  refine vc_ret ?_
                  refine seq_r ?_
                  refine seq_r ?_
                  refine ret_1 (d := .v (.bool true)) (by kernel_rfl) ?_
                  rfl
          intro hmid
          refine vc_seqr rfl ?_
          refine vcI_q 1 (by kernel_rfl) ?_
          refine vcI_bin (op := .gtr) (t := 3) (a := .int .i64 z51) (b := .int .i64 90) (dst := (some 53)) (by kernel_rfl) ?_
          intro c53 hc53
          refine vcI_end 114 [(1, Ia p), (2, Ia m), (6, Ba false), (7, .p 7 0), (8, .p 8 0), (9, Ba ok), (10, .p 10 0), (11, Ia z51), (14, Ba false), (37, Ba false), (53, Ba c53)] [(7, [Bv s, Hw a, Lw a, Iv x]), (8, [Bv g1, Hw k, Lw k, Iv z]), (10, [Bv s, .sl (nd (a)) (dg (digs (a))), Iv x])] (by kernel_rfl) (by kernel_rfl) (by kernel_rfl) ?_
          cases c53
          · replace hc53 := bf hc53
            refine vc_condf (by kernel_rfl) ?_
            refine vc_skip ?_
            refine mid_n hmid (z51, false) (by omega) (by kernel_rfl)
          · replace hc53 := bt hc53
            refine vc_condt (by kernel_rfl) ?_
            refine vc_reg rfl ?_
            refine vcI_q 1 (by kernel_rfl) ?_
            refine vcI_end 114 [(1, Ia p), (2, Ia m), (6, Ba false), (7, .p 7 0), (8, .p 8 0), (9, Ba ok), (10, .p 10 0), (11, Ia 90), (14, Ba false), (37, Ba false), (53, Ba true)] [(7, [Bv s, Hw a, Lw a, Iv x]), (8, [Bv g1, Hw k, Lw k, Iv z]), (10, [Bv s, .sl (nd (a)) (dg (digs (a))), Iv x])] (by kernel_rfl) (by kernel_rfl) (by kernel_rfl) ?_
            refine mid_n hmid (90, true) (by omega) (by kernel_rfl)
        · replace hc36 := bt hc36
          have hN := (scale_none (by omega)).symm.trans hT
          obtain ⟨q1, q2, q3, q4⟩ := none4 hN
          refine vc_condt (by kernel_rfl) ?_
          refine vc_seqr rfl ?_
          refine vcI_q 1 (by kernel_rfl) ?_
          refine vcI_un (op := .not) (a := .bool ok) (dst := (some 39)) (by kernel_rfl) ?_
          refine all_true (q4) ?_
          refine vcI_q 3 (by kernel_rfl) ?_
          refine vcI_bin (op := .eql) (t := 28) (a := .agg #[.bool g1, .int .u64 (hiW (k)), .int .u64 (loW (k)), .int .i64 z]) (b := .agg #[.bool false, .int .u64 0, .int .u64 0, .int .i64 0]) (dst := (some 43)) (by kernel_rfl) ?_
          refine all_true ((none_eq q1 q2 q3)) ?_
          refine vcI_q 2 (by kernel_rfl) ?_
          refine vcI_end 114 [(1, Ia p), (2, Ia m), (6, Ba true), (7, .p 7 0), (8, .p 8 0), (9, Ba ok), (14, Ba false), (37, Ba true)] [(7, [Bv s, Hw a, Lw a, Iv x]), (8, [Bv g1, Hw k, Lw k, Iv z])] (by kernel_rfl) (by kernel_rfl) (by kernel_rfl) ?_
          refine vc_ret ?_
          refine seq_r ?_
          refine ret_1 (d := .v (.bool true)) (by kernel_rfl) ?_
          rfl
      · replace hc32 := bt hc32
        refine vcI_q 3 (by kernel_rfl) ?_
        refine vcI_end 114 [(1, Ia p), (2, Ia m), (6, Ba false), (7, .p 7 0), (8, .p 8 0), (9, Ba ok), (14, Ba false), (37, Ba true)] [(7, [Bv s, Hw a, Lw a, Iv x]), (8, [Bv g1, Hw k, Lw k, Iv z])] (by kernel_rfl) (by kernel_rfl) (by kernel_rfl) ?_
        have hN := (scale_none (by omega)).symm.trans hT
        obtain ⟨q1, q2, q3, q4⟩ := none4 hN
        refine vc_condt (by kernel_rfl) ?_
        refine vc_seqr rfl ?_
        refine vcI_q 1 (by kernel_rfl) ?_
        refine vcI_un (op := .not) (a := .bool ok) (dst := (some 39)) (by kernel_rfl) ?_
        refine all_true (q4) ?_
        refine vcI_q 3 (by kernel_rfl) ?_
        refine vcI_bin (op := .eql) (t := 28) (a := .agg #[.bool g1, .int .u64 (hiW (k)), .int .u64 (loW (k)), .int .i64 z]) (b := .agg #[.bool false, .int .u64 0, .int .u64 0, .int .i64 0]) (dst := (some 43)) (by kernel_rfl) ?_
        refine all_true ((none_eq q1 q2 q3)) ?_
        refine vcI_q 2 (by kernel_rfl) ?_
        refine vcI_end 114 [(1, Ia p), (2, Ia m), (6, Ba true), (7, .p 7 0), (8, .p 8 0), (9, Ba ok), (14, Ba false), (37, Ba true)] [(7, [Bv s, Hw a, Lw a, Iv x]), (8, [Bv g1, Hw k, Lw k, Iv z])] (by kernel_rfl) (by kernel_rfl) (by kernel_rfl) ?_
        refine vc_ret ?_
        refine seq_r ?_
        refine ret_1 (d := .v (.bool true)) (by kernel_rfl) ?_
        rfl
    · replace hc28 := bt hc28
      refine vcI_q 7 (by kernel_rfl) ?_
      refine vcI_end 114 [(1, Ia p), (2, Ia m), (6, Ba false), (7, .p 7 0), (8, .p 8 0), (9, Ba ok), (14, Ba false), (37, Ba true)] [(7, [Bv s, Hw a, Lw a, Iv x]), (8, [Bv g1, Hw k, Lw k, Iv z])] (by kernel_rfl) (by kernel_rfl) (by kernel_rfl) ?_
      have hN := (scale_none (by omega)).symm.trans hT
      obtain ⟨q1, q2, q3, q4⟩ := none4 hN
      refine vc_condt (by kernel_rfl) ?_
      refine vc_seqr rfl ?_
      refine vcI_q 1 (by kernel_rfl) ?_
      refine vcI_un (op := .not) (a := .bool ok) (dst := (some 39)) (by kernel_rfl) ?_
      refine all_true (q4) ?_
      refine vcI_q 3 (by kernel_rfl) ?_
      refine vcI_bin (op := .eql) (t := 28) (a := .agg #[.bool g1, .int .u64 (hiW (k)), .int .u64 (loW (k)), .int .i64 z]) (b := .agg #[.bool false, .int .u64 0, .int .u64 0, .int .i64 0]) (dst := (some 43)) (by kernel_rfl) ?_
      refine all_true ((none_eq q1 q2 q3)) ?_
      refine vcI_q 2 (by kernel_rfl) ?_
      refine vcI_end 114 [(1, Ia p), (2, Ia m), (6, Ba true), (7, .p 7 0), (8, .p 8 0), (9, Ba ok), (14, Ba false), (37, Ba true)] [(7, [Bv s, Hw a, Lw a, Iv x]), (8, [Bv g1, Hw k, Lw k, Iv z])] (by kernel_rfl) (by kernel_rfl) (by kernel_rfl) ?_
      refine vc_ret ?_
      refine seq_r ?_
      refine ret_1 (d := .v (.bool true)) (by kernel_rfl) ?_
      rfl
  · replace hc25 := bt hc25
    refine vcI_q 11 (by kernel_rfl) ?_
    refine vcI_end 114 [(1, Ia p), (2, Ia m), (6, Ba false), (7, .p 7 0), (8, .p 8 0), (9, Ba ok), (14, Ba false), (37, Ba true)] [(7, [Bv s, Hw a, Lw a, Iv x]), (8, [Bv g1, Hw k, Lw k, Iv z])] (by kernel_rfl) (by kernel_rfl) (by kernel_rfl) ?_
    have hN := (scale_none (by omega)).symm.trans hT
    obtain ⟨q1, q2, q3, q4⟩ := none4 hN
    refine vc_condt (by kernel_rfl) ?_
    refine vc_seqr rfl ?_
    refine vcI_q 1 (by kernel_rfl) ?_
    refine vcI_un (op := .not) (a := .bool ok) (dst := (some 39)) (by kernel_rfl) ?_
    refine all_true (q4) ?_
    refine vcI_q 3 (by kernel_rfl) ?_
    refine vcI_bin (op := .eql) (t := 28) (a := .agg #[.bool g1, .int .u64 (hiW (k)), .int .u64 (loW (k)), .int .i64 z]) (b := .agg #[.bool false, .int .u64 0, .int .u64 0, .int .i64 0]) (dst := (some 43)) (by kernel_rfl) ?_
    refine all_true ((none_eq q1 q2 q3)) ?_
    refine vcI_q 2 (by kernel_rfl) ?_
    refine vcI_end 114 [(1, Ia p), (2, Ia m), (6, Ba true), (7, .p 7 0), (8, .p 8 0), (9, Ba ok), (14, Ba false), (37, Ba true)] [(7, [Bv s, Hw a, Lw a, Iv x]), (8, [Bv g1, Hw k, Lw k, Iv z])] (by kernel_rfl) (by kernel_rfl) (by kernel_rfl) ?_
    refine vc_ret ?_
    refine seq_r ?_
    refine ret_1 (d := .v (.bool true)) (by kernel_rfl) ?_
    rfl

theorem tm_pos {a z n : Int} (h : z = a.tmod n) (h0 : 0 ≤ a) : z = a % n := by rw [h, Int.tmod_eq_emod_of_nonneg h0]
theorem cmpZ_sgn (s : Bool) (F : Nat) (x : Int) (t : Bool) (A : Nat) (e : Int) : cmpZ (s && decide (F ≠ 0)) F x t A e = cmpZ s F x t A e := by
  unfold cmpZ
  rw [V_sgn]
theorem whole_par {s : Bool} {a F : Nat} {x xf left : Int} (hs : a = 0 → s = false) (h : (wholeT 6 s a x).2 = (F, xf)) : parP s a x left (wholeT 6 s a x) ↔ (cmpZ s F xf s a x = 0 ∧ (((0 < x ∨ a = 0) ∧ left = 0) ∨ (¬ (0 < x ∨ a = 0) ∧ ((F % 2 : Nat) : Int) = left))) := by
  have hg : cmpZ (wholeT 6 s a x).1 F xf s a x = cmpZ s F xf s a x := by
    unfold wholeT at h ⊢
    split at h
    · rename_i h0
      rw [if_pos h0]
    · rename_i h0
      rw [if_neg h0]
      simp only [Prod.mk.injEq] at h
      rw [← h.1]
      exact cmpZ_sgn _ _ _ _ _ _
  unfold parP
  rw [h, hg]
theorem ev_iff {a F : Nat} {s : Bool} {x xf : Int} (h : (wholeT 6 s a x).2 = (F, xf)) : (F = 0 ∨ 0 < xf ∨ F % 2 = 0) ↔ ((0 < x ∨ a = 0) ∨ F % 2 = 0) := by
  unfold wholeT at h
  split at h
  · simp only [Prod.mk.injEq] at h
    obtain ⟨rfl, rfl⟩ := h
    constructor
    · rintro (h | h | h)
      · exact .inl (.inr h)
      · exact .inl (.inl h)
      · exact .inr h
    · rintro ((h | h) | h)
      · exact .inr (.inl h)
      · exact .inl h
      · exact .inr (.inr h)
  · simp only [Prod.mk.injEq] at h
    obtain ⟨rfl, rfl⟩ := h
    constructor
    · rintro (h | h | h)
      · exact .inr (by rw [h])
      · omega
      · exact .inr h
    · rintro ((h | h) | h)
      · omega
      · left
        rw [h]
        exact cutQ_00 6 s _
      · exact .inr (.inr h)
/-- What the law asks of Even and Odd. -/
theorem par_even {s w b ev : Bool} {a F : Nat} {x xf : Int} (hs : a = 0 → s = false) (h : (wholeT 6 s a x).2 = (F, xf)) (hw : w = true ↔ cmpZ s F xf s a x = 0) (hev : ev = true ↔ (F = 0 ∨ 0 < xf ∨ F % 2 = 0)) (hb : b = true ↔ parP s a x 0 (wholeT 6 s a x)) : b = (w && ev) := by
  rw [Bool.eq_iff_iff, hb, whole_par hs h, Bool.and_eq_true, hw, hev, ev_iff h]
  constructor
  · rintro ⟨h1, h2 | h2⟩
    · exact ⟨h1, .inl h2.1⟩
    · exact ⟨h1, .inr (by omega)⟩
  · rintro ⟨h1, h2⟩
    refine ⟨h1, ?_⟩
    by_cases h3 : 0 < x ∨ a = 0
    · exact .inl ⟨h3, rfl⟩
    · exact .inr ⟨h3, by rcases h2 with h2 | h2; exact absurd h2 h3; omega⟩
theorem par_odd {s w b ev : Bool} {a F : Nat} {x xf : Int} (hs : a = 0 → s = false) (h : (wholeT 6 s a x).2 = (F, xf)) (hw : w = true ↔ cmpZ s F xf s a x = 0) (hev : ev = true ↔ (F = 0 ∨ 0 < xf ∨ F % 2 = 0)) (hb : b = true ↔ parP s a x 1 (wholeT 6 s a x)) : b = (w && !ev) := by
  rw [Bool.eq_iff_iff, hb, whole_par hs h, Bool.and_eq_true, hw, Bool.not_eq_true', ← Bool.not_eq_true, hev, ev_iff h]
  constructor
  · rintro ⟨h1, h2 | h2⟩
    · exact absurd h2.2 (by decide)
    · exact ⟨h1, fun h3 => by rcases h3 with h3 | h3; exact h2.1 h3; omega⟩
  · rintro ⟨h1, h2⟩
    exact ⟨h1, .inr ⟨fun h3 => h2 (.inl h3), by have : ¬ F % 2 = 0 := fun h3 => h2 (.inr h3); omega⟩⟩

set_option maxHeartbeats 3200000 in
theorem c_RoundWholes {g : Bool} {n m : Nat} {e : Int} (hn : n < B128) (hm : m < 256) : HasC Try.prog 4 [.agg [.v (.bool g), .v (.int .u64 (hiW (n))), .v (.int .u64 (loW (n))), .v (.int .i64 e)], .v (.int .u8 ((m : Int)))] (fun y => y = .v (.bool true)) := by
  refine HasC.of [] (fn := Try.f4) tyOk mixed (fun args w => Try.call4 args w) Try.func4 rfl (by kernel_rfl) (Nat.le_of_ble_eq_true rfl) (⟨_, rfl⟩) ?_
  refine vc_seqr rfl ?_
  refine vcI_q 2 (by kernel_rfl) ?_
  refine vcI_end 99 [(1, .d (.v (.int .u8 ((m : Int))))), (2, .p 2 0), (4, Ba false)] [(2, [Bv g, Hw n, Lw n, Iv e])] (by kernel_rfl) (by kernel_rfl) (by kernel_rfl) ?_
  refine vc_seq ?_
  refine vc_seqr rfl ?_
  refine vcI_call (f := 14) (ds := []) (dst := (some 12)) (by kernel_rfl) (c_awake04) ?_
  rintro _ rfl
  refine vcI_un (op := .not) (a := .bool true) (dst := (some 13)) (by kernel_rfl) ?_
  refine all_false ((by simp)) ?_
  refine vcI_end 99 [(1, .d (.v (.int .u8 ((m : Int))))), (2, .p 2 0), (4, Ba false), (13, Ba false)] [(2, [Bv g, Hw n, Lw n, Iv e])] (by kernel_rfl) (by kernel_rfl) (by kernel_rfl) ?_
  refine vc_condf (by kernel_rfl) ?_
  refine vc_skip ?_
  refine seq_n ?_
  refine vc_seqr rfl ?_
  refine vcI_q 1 (by kernel_rfl) ?_
  refine vcI_call (f := 15) (ds := [.agg [.v (.bool g), .v (.int .u64 (hiW (n))), .v (.int .u64 (loW (n))), .v (.int .i64 e)]]) (dst := (some 15)) (by kernel_rfl) (c_Make hn) ?_
  rintro _ ⟨s, a, x, rfl, ha, hx, hy, hs⟩
  have haB := Nat.lt_trans ha e34_lt; have hna := nd34 ha
  refine vcI_q 2 (by kernel_rfl) ?_
  refine vcI_end 99 [(1, .d (.v (.int .u8 ((m : Int))))), (4, Ba false), (5, .p 5 0), (13, Ba false)] [(5, [Bv s, Hw a, Lw a, Iv x])] (by kernel_rfl) (by kernel_rfl) (by kernel_rfl) ?_
  refine vc_seqr rfl ?_
  refine vcI_q 1 (by kernel_rfl) ?_
  refine vcI_bin (op := .rem) (t := 5) (a := .int .u8 ((m : Int))) (b := .int .u8 7) (dst := (some 17)) (by kernel_rfl) ?_
  refine And.intro (by omega) ?_
  intro z17 hz17
  have h17 := tm_pos hz17 (by omega)
  refine vcI_bin (op := .add) (t := 5) (a := .int .u8 1) (b := .int .u8 z17) (dst := (some 18)) (by kernel_rfl) ?_
  intro z18 hz18
  first | (replace hz18 := hz18.u8 (by omega)) | skip
  refine vcI_conv (t := 5) (t' := 32) (a := .int .u8 z18) (dst := (some 19)) (by kernel_rfl) ?_
  intro z19 hz19
  first | (replace hz19 := hz19.i64 (by omega)) | skip
  refine vcI_q 1 (by kernel_rfl) ?_
  refine vcI_end 99 [(4, Ba false), (5, .p 5 0), (6, Ia z19), (13, Ba false)] [(5, [Bv s, Hw a, Lw a, Iv x])] (by kernel_rfl) (by kernel_rfl) (by kernel_rfl) ?_
  refine vc_seqr rfl ?_
  refine vcI_q 1 (by kernel_rfl) ?_
  refine vcI_call (f := 17) (ds := [.agg [.v (.bool s), .v (.int .u64 (hiW (a))), .v (.int .u64 (loW (a))), .v (.int .i64 x)]]) (dst := (some 21)) (by kernel_rfl) (c_Ref haB) ?_
  rintro _ rfl
  refine vcI_q 2 (by kernel_rfl) ?_
  refine vcI_end 99 [(4, Ba false), (5, .p 5 0), (6, Ia z19), (7, .p 7 0), (13, Ba false)] [(5, [Bv s, Hw a, Lw a, Iv x]), (7, [Bv s, .sl (nd (a)) (dg (digs (a))), Iv x])] (by kernel_rfl) (by kernel_rfl) (by kernel_rfl) ?_
  refine vc_seqr rfl ?_
  refine vcI_q 3 (by kernel_rfl) ?_
  refine vcI_end 99 [(4, Ba false), (5, .p 5 0), (6, Ia z19), (7, .p 7 0), (8, .p 8 0), (13, Ba false)] [(5, [Bv s, Hw a, Lw a, Iv x]), (7, [Bv s, .sl (nd (a)) (dg (digs (a))), Iv x]), (8, [Bv s, .sl (nd (a)) (dg (digs (a))), Iv x])] (by kernel_rfl) (by kernel_rfl) (by kernel_rfl) ?_
  refine vc_mid 99 (fun (vcx : Bool × Nat × Int × Bool) => match vcx with | (gq, Q, xq, vb25) => [(4, Ba false), (5, .p 5 0), (6, Ia z19), (7, .p 7 0), (8, .p 8 0), (13, Ba false), (25, Ba vb25)]) (fun (vcx : Bool × Nat × Int × Bool) => match vcx with | (gq, Q, xq, vb25) => [(5, [Bv s, Hw a, Lw a, Iv x]), (7, [Bv s, .sl (nd (a)) (dg (digs (a))), Iv x]), (8, [Bv gq, .sl (nd (Q)) (dg (digs (Q))), Iv xq])]) (fun (vcx : Bool × Nat × Int × Bool) => match vcx with | (gq, Q, xq, vb25) => wholeT z19 s a x = (gq, Q, xq)) ?_ ?_
  · rintro ⟨gq, Q, xq, vb25⟩ hinv
    simp only at hinv
    have hW := hinv
    obtain ⟨w1, w2, w3, w4⟩ := whole_range (m := z19) ha hs hy
    rw [hW] at w1
    simp only at w1
    refine vc_seqr rfl ?_
    refine vcI_q 3 (by kernel_rfl) ?_
    refine vcI_end 99 [(4, Ba false), (5, .p 5 0), (6, Ia z19), (7, .p 7 0), (8, .p 8 0), (9, .p 9 0), (13, Ba false), (25, Ba vb25)] [(5, [Bv s, Hw a, Lw a, Iv x]), (7, [Bv s, .sl (nd (a)) (dg (digs (a))), Iv x]), (8, [Bv gq, .sl (nd (Q)) (dg (digs (Q))), Iv xq]), (9, [Bv s, .sl (nd (a)) (dg (digs (a))), Iv x])] (by kernel_rfl) (by kernel_rfl) (by kernel_rfl) ?_
    refine vc_mid 99 (fun (vcx : Nat × Int × Bool) => match vcx with | (F, xf, vb46) => [(4, Ba false), (5, .p 5 0), (6, Ia z19), (7, .p 7 0), (8, .p 8 0), (9, .p 9 0), (13, Ba false), (25, Ba vb25), (46, Ba vb46)]) (fun (vcx : Nat × Int × Bool) => match vcx with | (F, xf, vb46) => [(5, [Bv s, Hw a, Lw a, Iv x]), (7, [Bv s, .sl (nd (a)) (dg (digs (a))), Iv x]), (8, [Bv gq, .sl (nd (Q)) (dg (digs (Q))), Iv xq]), (9, [Bv s, .sl (nd (F)) (dg (digs (F))), Iv xf])]) (fun (vcx : Nat × Int × Bool) => match vcx with | (F, xf, vb46) => (wholeT 6 s a x).2 = (F, xf)) ?_ ?_
    · rintro ⟨F, xf, vb46⟩ hinv
      simp only at hinv
      have hF := hinv
      obtain ⟨v1, v2, v3, v4⟩ := whole_range (m := 6) ha hs hy
      rw [hF] at v1 v2 v3
      simp only at v1 v2 v3
      have hF0 := @nd_eq0 F
      refine vc_seqr rfl ?_
      refine vcI_q 2 (by kernel_rfl) ?_
      refine vcI_call (f := 21) (ds := [.agg [.v (.bool s), .sl (nd (F)) (dg (digs (F))), .v (.int .i64 xf)], .agg [.v (.bool s), .sl (nd (a)) (dg (digs (a))), .v (.int .i64 x)]]) (dst := (some 56)) (by kernel_rfl) (c_rCmp (nd34 v1) hna (by omega) (by omega) (by omega) (by omega)) ?_
      rintro _ rfl
      refine vcI_bin (op := .eql) (t := 3) (a := .int .i64 (cmpZ s F xf s a x)) (b := .int .i64 0) (dst := (some 57)) (by kernel_rfl) ?_
      intro c57 hc57
      refine vcI_q 1 (by kernel_rfl) ?_
      refine vcI_end 99 [(4, Ba false), (5, .p 5 0), (6, Ia z19), (7, .p 7 0), (8, .p 8 0), (9, .p 9 0), (10, Ba c57), (13, Ba false), (25, Ba vb25), (46, Ba vb46)] [(5, [Bv s, Hw a, Lw a, Iv x]), (7, [Bv s, .sl (nd (a)) (dg (digs (a))), Iv x]), (8, [Bv gq, .sl (nd (Q)) (dg (digs (Q))), Iv xq]), (9, [Bv s, .sl (nd (F)) (dg (digs (F))), Iv xf])] (by kernel_rfl) (by kernel_rfl) (by kernel_rfl) ?_
      refine vc_seqr rfl ?_
      refine vcI_q 3 (by kernel_rfl) ?_
      refine vcI_bin (op := .eql) (t := 3) (a := .int .i64 (((nd (F) : Nat) : Int))) (b := .int .i64 0) (dst := (some 61)) (by kernel_rfl) ?_
      intro c61 hc61
      refine vcI_q 1 (by kernel_rfl) ?_
      cases c61
      · replace hc61 := bf hc61
        refine vcI_q 2 (by kernel_rfl) ?_
        refine vcI_bin (op := .gtr) (t := 3) (a := .int .i64 xf) (b := .int .i64 0) (dst := (some 65)) (by kernel_rfl) ?_
        intro c65 hc65
        refine vcI_q 2 (by kernel_rfl) ?_
        cases c65
        · replace hc65 := bf hc65
          refine vcI_q 2 (by kernel_rfl) ?_
          refine vcI_idx1 (q := 0) (n := (nd (F))) (cs := (dg (digs (F)))) (d := .v (.int .i64 (((dig F 0 : Nat) : Int)))) (dst := (some 70)) (by kernel_rfl) (by omega) (by show (dg (digs F))[0]? = _; exact dg_get (digs_get? (by omega))) ?_
          refine vcI_q 1 (by kernel_rfl) ?_
          refine vcI_bin (op := .rem) (t := 3) (a := .int .i64 (((dig F 0 : Nat) : Int))) (b := .int .i64 2) (dst := (some 72)) (by kernel_rfl) ?_
          refine And.intro (by omega) ?_
          intro z72 hz72
          have h72 := tm_pos hz72 (by omega)
          refine vcI_bin (op := .eql) (t := 3) (a := .int .i64 z72) (b := .int .i64 0) (dst := (some 73)) (by kernel_rfl) ?_
          intro c73 hc73
          have hev : c73 = true ↔ (F = 0 ∨ 0 < xf ∨ F % 2 = 0) := by have h0 : dig F 0 = F % 10 := (by unfold dig; rw [Nat.pow_zero, Nat.div_one]); rw [hc73]; omega
          refine vcI_q 2 (by kernel_rfl) ?_
          refine vcI_end 99 [(4, Ba false), (5, .p 5 0), (6, Ia z19), (7, .p 7 0), (8, .p 8 0), (9, .p 9 0), (10, Ba c57), (11, Ba c73), (13, Ba false), (25, Ba vb25), (46, Ba vb46)] [(5, [Bv s, Hw a, Lw a, Iv x]), (7, [Bv s, .sl (nd (a)) (dg (digs (a))), Iv x]), (8, [Bv gq, .sl (nd (Q)) (dg (digs (Q))), Iv xq]), (9, [Bv s, .sl (nd (F)) (dg (digs (F))), Iv xf])] (by kernel_rfl) (by kernel_rfl) (by kernel_rfl) ?_
          refine vc_seqr rfl ?_
          refine vcI_q 2 (by kernel_rfl) ?_
          refine vcI_call (f := 22) (ds := [.agg [.v (.bool s), .v (.int .u64 (hiW (a))), .v (.int .u64 (loW (a))), .v (.int .i64 x)], .v (.int .i64 z19)]) (dst := (some 77)) (by kernel_rfl) (fit3_as (c_rndWhole (m := z19) ha hs hx hy (by omega) (by omega)) hW) ?_
          rintro _ rfl
          refine vcI_q 1 (by kernel_rfl) ?_
          refine vcI_call (f := 20) (ds := [.agg [.v (.bool gq), .v (.int .u64 (hiW (Q))), .v (.int .u64 (loW (Q))), .v (.int .i64 xq)], .agg [.v (.bool gq), .sl (nd (Q)) (dg (digs (Q))), .v (.int .i64 xq)]]) (dst := (some 79)) (by kernel_rfl) (c_LikeT (Nat.lt_trans w1 e34_lt)) ?_
          rintro _ rfl
          refine vcI_q 2 (by kernel_rfl) ?_
          refine vcI_call (f := 23) (ds := [.agg [.v (.bool s), .v (.int .u64 (hiW (a))), .v (.int .u64 (loW (a))), .v (.int .i64 x)]]) (dst := (some 82)) (by kernel_rfl) (c_Even ha hs hx hy) ?_
          rintro _ ⟨b1, rfl, hb1⟩
          have k1 := par_even hs hF hc57 hev hb1
          refine vcI_q 2 (by kernel_rfl) ?_
          cases c57
          · replace hc57 := bf hc57
            refine vcI_q 2 (by kernel_rfl) ?_
            refine vcI_bin (op := .eql) (t := 4) (a := .bool b1) (b := .bool false) (dst := (some 87)) (by kernel_rfl) ?_
            refine all_true (k1) ?_
            refine vcI_q 3 (by kernel_rfl) ?_
            refine vcI_call (f := 24) (ds := [.agg [.v (.bool s), .v (.int .u64 (hiW (a))), .v (.int .u64 (loW (a))), .v (.int .i64 x)]]) (dst := (some 91)) (by kernel_rfl) (c_Odd ha hs hx hy) ?_
            rintro _ ⟨b2, rfl, hb2⟩
            have k2 := par_odd (w := false) hs hF ⟨fun h => (by cases h), fun h => absurd h hc57⟩ hev hb2
            refine vcI_q 5 (by kernel_rfl) ?_
            refine vcI_bin (op := .eql) (t := 4) (a := .bool b2) (b := .bool false) (dst := (some 97)) (by kernel_rfl) ?_
            intro c97 hc97
            refine vcI_q 2 (by kernel_rfl) ?_
            refine vcI_end 99 [(4, Ba c97), (5, .p 5 0), (6, Ia z19), (7, .p 7 0), (8, .p 8 0), (9, .p 9 0), (13, Ba false), (25, Ba vb25), (46, Ba vb46)] [(5, [Bv s, Hw a, Lw a, Iv x]), (7, [Bv s, .sl (nd (a)) (dg (digs (a))), Iv x]), (8, [Bv gq, .sl (nd (Q)) (dg (digs (Q))), Iv xq]), (9, [Bv s, .sl (nd (F)) (dg (digs (F))), Iv xf])] (by kernel_rfl) (by kernel_rfl) (by kernel_rfl) ?_
            refine vc_ret ?_
            refine ret_1 (d := .v (.bool c97)) (by kernel_rfl) ?_
            rw [hc97.2 k2]
          · replace hc57 := bt hc57
            refine vcI_q 2 (by kernel_rfl) ?_
            refine vcI_bin (op := .eql) (t := 4) (a := .bool b1) (b := .bool c73) (dst := (some 87)) (by kernel_rfl) ?_
            refine all_true (k1) ?_
            refine vcI_q 3 (by kernel_rfl) ?_
            refine vcI_call (f := 24) (ds := [.agg [.v (.bool s), .v (.int .u64 (hiW (a))), .v (.int .u64 (loW (a))), .v (.int .i64 x)]]) (dst := (some 91)) (by kernel_rfl) (c_Odd ha hs hx hy) ?_
            rintro _ ⟨b2, rfl, hb2⟩
            have k2 := par_odd (w := true) hs hF ⟨fun _ => hc57, fun _ => rfl⟩ hev hb2
            refine vcI_q 3 (by kernel_rfl) ?_
            refine vcI_un (op := .not) (a := .bool c73) (dst := (some 95)) (by kernel_rfl) ?_
            intro c95 hc95
            refine vcI_q 1 (by kernel_rfl) ?_
            refine vcI_bin (op := .eql) (t := 4) (a := .bool b2) (b := .bool c95) (dst := (some 97)) (by kernel_rfl) ?_
            intro c97 hc97
            refine vcI_q 2 (by kernel_rfl) ?_
            refine vcI_end 99 [(4, Ba c97), (5, .p 5 0), (6, Ia z19), (7, .p 7 0), (8, .p 8 0), (9, .p 9 0), (13, Ba false), (25, Ba vb25), (46, Ba vb46)] [(5, [Bv s, Hw a, Lw a, Iv x]), (7, [Bv s, .sl (nd (a)) (dg (digs (a))), Iv x]), (8, [Bv gq, .sl (nd (Q)) (dg (digs (Q))), Iv xq]), (9, [Bv s, .sl (nd (F)) (dg (digs (F))), Iv xf])] (by kernel_rfl) (by kernel_rfl) (by kernel_rfl) ?_
            refine vc_ret ?_
            refine ret_1 (d := .v (.bool c97)) (by kernel_rfl) ?_
            rw [hc97.2 (by rw [k2, Bool.eq_iff_iff, hc95]; simp)]
        · replace hc65 := bt hc65
          refine vcI_q 8 (by kernel_rfl) ?_
          refine vcI_end 99 [(4, Ba false), (5, .p 5 0), (6, Ia z19), (7, .p 7 0), (8, .p 8 0), (9, .p 9 0), (10, Ba c57), (11, Ba true), (13, Ba false), (25, Ba vb25), (46, Ba vb46)] [(5, [Bv s, Hw a, Lw a, Iv x]), (7, [Bv s, .sl (nd (a)) (dg (digs (a))), Iv x]), (8, [Bv gq, .sl (nd (Q)) (dg (digs (Q))), Iv xq]), (9, [Bv s, .sl (nd (F)) (dg (digs (F))), Iv xf])] (by kernel_rfl) (by kernel_rfl) (by kernel_rfl) ?_
          have hev : true = true ↔ (F = 0 ∨ 0 < xf ∨ F % 2 = 0) := ⟨fun _ => .inr (.inl hc65), fun _ => rfl⟩
          refine vc_seqr rfl ?_
          refine vcI_q 2 (by kernel_rfl) ?_
          refine vcI_call (f := 22) (ds := [.agg [.v (.bool s), .v (.int .u64 (hiW (a))), .v (.int .u64 (loW (a))), .v (.int .i64 x)], .v (.int .i64 z19)]) (dst := (some 77)) (by kernel_rfl) (fit3_as (c_rndWhole (m := z19) ha hs hx hy (by omega) (by omega)) hW) ?_
          rintro _ rfl
          refine vcI_q 1 (by kernel_rfl) ?_
          refine vcI_call (f := 20) (ds := [.agg [.v (.bool gq), .v (.int .u64 (hiW (Q))), .v (.int .u64 (loW (Q))), .v (.int .i64 xq)], .agg [.v (.bool gq), .sl (nd (Q)) (dg (digs (Q))), .v (.int .i64 xq)]]) (dst := (some 79)) (by kernel_rfl) (c_LikeT (Nat.lt_trans w1 e34_lt)) ?_
          rintro _ rfl
          refine vcI_q 2 (by kernel_rfl) ?_
          refine vcI_call (f := 23) (ds := [.agg [.v (.bool s), .v (.int .u64 (hiW (a))), .v (.int .u64 (loW (a))), .v (.int .i64 x)]]) (dst := (some 82)) (by kernel_rfl) (c_Even ha hs hx hy) ?_
          rintro _ ⟨b1, rfl, hb1⟩
          have k1 := par_even hs hF hc57 hev hb1
          refine vcI_q 2 (by kernel_rfl) ?_
          cases c57
          · replace hc57 := bf hc57
            refine vcI_q 2 (by kernel_rfl) ?_
            refine vcI_bin (op := .eql) (t := 4) (a := .bool b1) (b := .bool false) (dst := (some 87)) (by kernel_rfl) ?_
            refine all_true (k1) ?_
            refine vcI_q 3 (by kernel_rfl) ?_
            refine vcI_call (f := 24) (ds := [.agg [.v (.bool s), .v (.int .u64 (hiW (a))), .v (.int .u64 (loW (a))), .v (.int .i64 x)]]) (dst := (some 91)) (by kernel_rfl) (c_Odd ha hs hx hy) ?_
            rintro _ ⟨b2, rfl, hb2⟩
            have k2 := par_odd (w := false) hs hF ⟨fun h => (by cases h), fun h => absurd h hc57⟩ hev hb2
            refine vcI_q 5 (by kernel_rfl) ?_
            refine vcI_bin (op := .eql) (t := 4) (a := .bool b2) (b := .bool false) (dst := (some 97)) (by kernel_rfl) ?_
            intro c97 hc97
            refine vcI_q 2 (by kernel_rfl) ?_
            refine vcI_end 99 [(4, Ba c97), (5, .p 5 0), (6, Ia z19), (7, .p 7 0), (8, .p 8 0), (9, .p 9 0), (13, Ba false), (25, Ba vb25), (46, Ba vb46)] [(5, [Bv s, Hw a, Lw a, Iv x]), (7, [Bv s, .sl (nd (a)) (dg (digs (a))), Iv x]), (8, [Bv gq, .sl (nd (Q)) (dg (digs (Q))), Iv xq]), (9, [Bv s, .sl (nd (F)) (dg (digs (F))), Iv xf])] (by kernel_rfl) (by kernel_rfl) (by kernel_rfl) ?_
            refine vc_ret ?_
            refine ret_1 (d := .v (.bool c97)) (by kernel_rfl) ?_
            rw [hc97.2 k2]
          · replace hc57 := bt hc57
            refine vcI_q 2 (by kernel_rfl) ?_
            refine vcI_bin (op := .eql) (t := 4) (a := .bool b1) (b := .bool true) (dst := (some 87)) (by kernel_rfl) ?_
            refine all_true (k1) ?_
            refine vcI_q 3 (by kernel_rfl) ?_
            refine vcI_call (f := 24) (ds := [.agg [.v (.bool s), .v (.int .u64 (hiW (a))), .v (.int .u64 (loW (a))), .v (.int .i64 x)]]) (dst := (some 91)) (by kernel_rfl) (c_Odd ha hs hx hy) ?_
            rintro _ ⟨b2, rfl, hb2⟩
            have k2 := par_odd (w := true) hs hF ⟨fun _ => hc57, fun _ => rfl⟩ hev hb2
            refine vcI_q 3 (by kernel_rfl) ?_
            refine vcI_un (op := .not) (a := .bool true) (dst := (some 95)) (by kernel_rfl) ?_
            intro c95 hc95
            refine vcI_q 1 (by kernel_rfl) ?_
            refine vcI_bin (op := .eql) (t := 4) (a := .bool b2) (b := .bool c95) (dst := (some 97)) (by kernel_rfl) ?_
            intro c97 hc97
            refine vcI_q 2 (by kernel_rfl) ?_
            refine vcI_end 99 [(4, Ba c97), (5, .p 5 0), (6, Ia z19), (7, .p 7 0), (8, .p 8 0), (9, .p 9 0), (13, Ba false), (25, Ba vb25), (46, Ba vb46)] [(5, [Bv s, Hw a, Lw a, Iv x]), (7, [Bv s, .sl (nd (a)) (dg (digs (a))), Iv x]), (8, [Bv gq, .sl (nd (Q)) (dg (digs (Q))), Iv xq]), (9, [Bv s, .sl (nd (F)) (dg (digs (F))), Iv xf])] (by kernel_rfl) (by kernel_rfl) (by kernel_rfl) ?_
            refine vc_ret ?_
            refine ret_1 (d := .v (.bool c97)) (by kernel_rfl) ?_
            rw [hc97.2 (by rw [k2, Bool.eq_iff_iff, hc95]; simp)]
      · replace hc61 := bt hc61
        refine vcI_q 13 (by kernel_rfl) ?_
        refine vcI_end 99 [(4, Ba false), (5, .p 5 0), (6, Ia z19), (7, .p 7 0), (8, .p 8 0), (9, .p 9 0), (10, Ba c57), (11, Ba true), (13, Ba false), (25, Ba vb25), (46, Ba vb46)] [(5, [Bv s, Hw a, Lw a, Iv x]), (7, [Bv s, .sl (nd (a)) (dg (digs (a))), Iv x]), (8, [Bv gq, .sl (nd (Q)) (dg (digs (Q))), Iv xq]), (9, [Bv s, .sl (nd (F)) (dg (digs (F))), Iv xf])] (by kernel_rfl) (by kernel_rfl) (by kernel_rfl) ?_
        have hev : true = true ↔ (F = 0 ∨ 0 < xf ∨ F % 2 = 0) := ⟨fun _ => .inl (by omega), fun _ => rfl⟩
        refine vc_seqr rfl ?_
        refine vcI_q 2 (by kernel_rfl) ?_
        refine vcI_call (f := 22) (ds := [.agg [.v (.bool s), .v (.int .u64 (hiW (a))), .v (.int .u64 (loW (a))), .v (.int .i64 x)], .v (.int .i64 z19)]) (dst := (some 77)) (by kernel_rfl) (fit3_as (c_rndWhole (m := z19) ha hs hx hy (by omega) (by omega)) hW) ?_
        rintro _ rfl
        refine vcI_q 1 (by kernel_rfl) ?_
        refine vcI_call (f := 20) (ds := [.agg [.v (.bool gq), .v (.int .u64 (hiW (Q))), .v (.int .u64 (loW (Q))), .v (.int .i64 xq)], .agg [.v (.bool gq), .sl (nd (Q)) (dg (digs (Q))), .v (.int .i64 xq)]]) (dst := (some 79)) (by kernel_rfl) (c_LikeT (Nat.lt_trans w1 e34_lt)) ?_
        rintro _ rfl
        refine vcI_q 2 (by kernel_rfl) ?_
        refine vcI_call (f := 23) (ds := [.agg [.v (.bool s), .v (.int .u64 (hiW (a))), .v (.int .u64 (loW (a))), .v (.int .i64 x)]]) (dst := (some 82)) (by kernel_rfl) (c_Even ha hs hx hy) ?_
        rintro _ ⟨b1, rfl, hb1⟩
        have k1 := par_even hs hF hc57 hev hb1
        refine vcI_q 2 (by kernel_rfl) ?_
        cases c57
        · replace hc57 := bf hc57
          refine vcI_q 2 (by kernel_rfl) ?_
          refine vcI_bin (op := .eql) (t := 4) (a := .bool b1) (b := .bool false) (dst := (some 87)) (by kernel_rfl) ?_
          refine all_true (k1) ?_
          refine vcI_q 3 (by kernel_rfl) ?_
          refine vcI_call (f := 24) (ds := [.agg [.v (.bool s), .v (.int .u64 (hiW (a))), .v (.int .u64 (loW (a))), .v (.int .i64 x)]]) (dst := (some 91)) (by kernel_rfl) (c_Odd ha hs hx hy) ?_
          rintro _ ⟨b2, rfl, hb2⟩
          have k2 := par_odd (w := false) hs hF ⟨fun h => (by cases h), fun h => absurd h hc57⟩ hev hb2
          refine vcI_q 5 (by kernel_rfl) ?_
          refine vcI_bin (op := .eql) (t := 4) (a := .bool b2) (b := .bool false) (dst := (some 97)) (by kernel_rfl) ?_
          intro c97 hc97
          refine vcI_q 2 (by kernel_rfl) ?_
          refine vcI_end 99 [(4, Ba c97), (5, .p 5 0), (6, Ia z19), (7, .p 7 0), (8, .p 8 0), (9, .p 9 0), (13, Ba false), (25, Ba vb25), (46, Ba vb46)] [(5, [Bv s, Hw a, Lw a, Iv x]), (7, [Bv s, .sl (nd (a)) (dg (digs (a))), Iv x]), (8, [Bv gq, .sl (nd (Q)) (dg (digs (Q))), Iv xq]), (9, [Bv s, .sl (nd (F)) (dg (digs (F))), Iv xf])] (by kernel_rfl) (by kernel_rfl) (by kernel_rfl) ?_
          refine vc_ret ?_
          refine ret_1 (d := .v (.bool c97)) (by kernel_rfl) ?_
          rw [hc97.2 k2]
        · replace hc57 := bt hc57
          refine vcI_q 2 (by kernel_rfl) ?_
          refine vcI_bin (op := .eql) (t := 4) (a := .bool b1) (b := .bool true) (dst := (some 87)) (by kernel_rfl) ?_
          refine all_true (k1) ?_
          refine vcI_q 3 (by kernel_rfl) ?_
          refine vcI_call (f := 24) (ds := [.agg [.v (.bool s), .v (.int .u64 (hiW (a))), .v (.int .u64 (loW (a))), .v (.int .i64 x)]]) (dst := (some 91)) (by kernel_rfl) (c_Odd ha hs hx hy) ?_
          rintro _ ⟨b2, rfl, hb2⟩
          have k2 := par_odd (w := true) hs hF ⟨fun _ => hc57, fun _ => rfl⟩ hev hb2
          refine vcI_q 3 (by kernel_rfl) ?_
          refine vcI_un (op := .not) (a := .bool true) (dst := (some 95)) (by kernel_rfl) ?_
          intro c95 hc95
          refine vcI_q 1 (by kernel_rfl) ?_
          refine vcI_bin (op := .eql) (t := 4) (a := .bool b2) (b := .bool c95) (dst := (some 97)) (by kernel_rfl) ?_
          intro c97 hc97
          refine vcI_q 2 (by kernel_rfl) ?_
          refine vcI_end 99 [(4, Ba c97), (5, .p 5 0), (6, Ia z19), (7, .p 7 0), (8, .p 8 0), (9, .p 9 0), (13, Ba false), (25, Ba vb25), (46, Ba vb46)] [(5, [Bv s, Hw a, Lw a, Iv x]), (7, [Bv s, .sl (nd (a)) (dg (digs (a))), Iv x]), (8, [Bv gq, .sl (nd (Q)) (dg (digs (Q))), Iv xq]), (9, [Bv s, .sl (nd (F)) (dg (digs (F))), Iv xf])] (by kernel_rfl) (by kernel_rfl) (by kernel_rfl) ?_
          refine vc_ret ?_
          refine ret_1 (d := .v (.bool c97)) (by kernel_rfl) ?_
          rw [hc97.2 (by rw [k2, Bool.eq_iff_iff, hc95]; simp)]
    intro hmid
    refine vc_seqr rfl ?_
    refine vcI_q 2 (by kernel_rfl) ?_
    refine vcI_bin (op := .lss) (t := 3) (a := .int .i64 x) (b := .int .i64 0) (dst := (some 46)) (by kernel_rfl) ?_
    intro c46 hc46
    refine vcI_end 99 [(4, Ba false), (5, .p 5 0), (6, Ia z19), (7, .p 7 0), (8, .p 8 0), (9, .p 9 0), (13, Ba false), (25, Ba vb25), (46, Ba c46)] [(5, [Bv s, Hw a, Lw a, Iv x]), (7, [Bv s, .sl (nd (a)) (dg (digs (a))), Iv x]), (8, [Bv gq, .sl (nd (Q)) (dg (digs (Q))), Iv xq]), (9, [Bv s, .sl (nd (a)) (dg (digs (a))), Iv x])] (by kernel_rfl) (by kernel_rfl) (by kernel_rfl) ?_
    cases c46
    · replace hc46 := bf hc46
      refine vc_condf (by kernel_rfl) ?_
      refine vc_skip ?_
      refine mid_n hmid (a, x, false) (by rw [whole_own (by omega)]) (by kernel_rfl)
    · replace hc46 := bt hc46
      refine vc_condt (by kernel_rfl) ?_
      refine vc_seqr rfl ?_
      refine vcI_q 3 (by kernel_rfl) ?_
      refine vcI_un (op := .neg) (a := .int .i64 x) (dst := (some 50)) (by kernel_rfl) ?_
      intro z50 hz50
      first | (replace hz50 := hz50.i64 (by omega)) | skip
      refine vcI_blt (b := .min) (tys := [3, 3]) (vs := [.int .i64 z50, .int .i64 90]) (dst := (some 51)) (by kernel_rfl) ?_
      intro z51 hz51
      simp only at hz51
      refine vcI_call (f := 18) (ds := [.agg [.v (.bool s), .sl (nd (a)) (dg (digs (a))), .v (.int .i64 x)], .v (.bool false), .v (.int .i64 z51), .v (.int .i64 6)]) (dst := (some 52)) (by kernel_rfl) (c_rCutN (m := 6) (X := z51) (n := z51.toNat) rfl (by omega) (by omega) (by omega) (by omega)) ?_
      rintro _ rfl
      have hQ6 : cutQ 6 s a false (-x).toNat = cutQ 6 s a false z51.toNat := (cut_cap90 ha).symm.trans (by rw [show min (-x).toNat 90 = z51.toNat by omega])
      refine vcI_q 1 (by kernel_rfl) ?_
      refine vcI_end 99 [(4, Ba false), (5, .p 5 0), (6, Ia z19), (7, .p 7 0), (8, .p 8 0), (9, .p 9 0), (13, Ba false), (25, Ba vb25), (46, Ba true)] [(5, [Bv s, Hw a, Lw a, Iv x]), (7, [Bv s, .sl (nd (a)) (dg (digs (a))), Iv x]), (8, [Bv gq, .sl (nd (Q)) (dg (digs (Q))), Iv xq]), (9, [Bv s, .sl (nd (cutQ 6 s a false z51.toNat)) (dg (digs (cutQ 6 s a false z51.toNat))), Iv (x + (z51.toNat : Int))])] (by kernel_rfl) (by kernel_rfl) (by kernel_rfl) ?_
      refine vc_reg rfl ?_
      refine vcI_q 2 (by kernel_rfl) ?_
      refine vcI_end 99 [(4, Ba false), (5, .p 5 0), (6, Ia z19), (7, .p 7 0), (8, .p 8 0), (9, .p 9 0), (13, Ba false), (25, Ba vb25), (46, Ba true)] [(5, [Bv s, Hw a, Lw a, Iv x]), (7, [Bv s, .sl (nd (a)) (dg (digs (a))), Iv x]), (8, [Bv gq, .sl (nd (Q)) (dg (digs (Q))), Iv xq]), (9, [Bv s, .sl (nd (cutQ 6 s a false z51.toNat)) (dg (digs (cutQ 6 s a false z51.toNat))), Iv 0])] (by kernel_rfl) (by kernel_rfl) (by kernel_rfl) ?_
      refine mid_n hmid (cutQ 6 s a false z51.toNat, 0, true) (by rw [whole_low (by omega) hQ6]) (by kernel_rfl)
  intro hmid
  refine vc_seqr rfl ?_
  refine vcI_q 2 (by kernel_rfl) ?_
  refine vcI_bin (op := .lss) (t := 3) (a := .int .i64 x) (b := .int .i64 0) (dst := (some 25)) (by kernel_rfl) ?_
  intro c25 hc25
  refine vcI_end 99 [(4, Ba false), (5, .p 5 0), (6, Ia z19), (7, .p 7 0), (8, .p 8 0), (13, Ba false), (25, Ba c25)] [(5, [Bv s, Hw a, Lw a, Iv x]), (7, [Bv s, .sl (nd (a)) (dg (digs (a))), Iv x]), (8, [Bv s, .sl (nd (a)) (dg (digs (a))), Iv x])] (by kernel_rfl) (by kernel_rfl) (by kernel_rfl) ?_
  cases c25
  · replace hc25 := bf hc25
    refine vc_condf (by kernel_rfl) ?_
    refine vc_skip ?_
    refine mid_n hmid (s, a, x, false) (whole_own (by omega)) (by kernel_rfl)
  · replace hc25 := bt hc25
    refine vc_condt (by kernel_rfl) ?_
    refine vc_seqr rfl ?_
    refine vcI_q 3 (by kernel_rfl) ?_
    refine vcI_un (op := .neg) (a := .int .i64 x) (dst := (some 29)) (by kernel_rfl) ?_
    intro z29 hz29
    first | (replace hz29 := hz29.i64 (by omega)) | skip
    refine vcI_blt (b := .min) (tys := [3, 3]) (vs := [.int .i64 z29, .int .i64 90]) (dst := (some 30)) (by kernel_rfl) ?_
    intro z30 hz30
    simp only at hz30
    refine vcI_q 1 (by kernel_rfl) ?_
    refine vcI_call (f := 18) (ds := [.agg [.v (.bool s), .sl (nd (a)) (dg (digs (a))), .v (.int .i64 x)], .v (.bool false), .v (.int .i64 z30), .v (.int .i64 z19)]) (dst := (some 32)) (by kernel_rfl) (c_rCutN (m := z19) (X := z30) (n := z30.toNat) rfl (by omega) (by omega) (by omega) (by omega)) ?_
    rintro _ rfl
    have hQ : cutQ z19 s a false (-x).toNat = cutQ z19 s a false z30.toNat := (cut_cap90 ha).symm.trans (by rw [show min (-x).toNat 90 = z30.toNat by omega])
    refine vcI_q 1 (by kernel_rfl) ?_
    refine vcI_end 99 [(4, Ba false), (5, .p 5 0), (6, Ia z19), (7, .p 7 0), (8, .p 8 0), (13, Ba false), (25, Ba true)] [(5, [Bv s, Hw a, Lw a, Iv x]), (7, [Bv s, .sl (nd (a)) (dg (digs (a))), Iv x]), (8, [Bv s, .sl (nd (cutQ z19 s a false z30.toNat)) (dg (digs (cutQ z19 s a false z30.toNat))), Iv (x + (z30.toNat : Int))])] (by kernel_rfl) (by kernel_rfl) (by kernel_rfl) ?_
    refine vc_seqr rfl ?_
    refine vcI_q 2 (by kernel_rfl) ?_
    refine vcI_end 99 [(4, Ba false), (5, .p 5 0), (6, Ia z19), (7, .p 7 0), (8, .p 8 0), (13, Ba false), (25, Ba true)] [(5, [Bv s, Hw a, Lw a, Iv x]), (7, [Bv s, .sl (nd (a)) (dg (digs (a))), Iv x]), (8, [Bv s, .sl (nd (cutQ z19 s a false z30.toNat)) (dg (digs (cutQ z19 s a false z30.toNat))), Iv 0])] (by kernel_rfl) (by kernel_rfl) (by kernel_rfl) ?_
    refine vc_reg rfl ?_
    refine vcI_q 3 (by kernel_rfl) ?_
    cases s
    · skip
      refine vcI_q 7 (by kernel_rfl) ?_
      refine vcI_end 99 [(4, Ba false), (5, .p 5 0), (6, Ia z19), (7, .p 7 0), (8, .p 8 0), (13, Ba false), (25, Ba true)] [(5, [Bv false, Hw a, Lw a, Iv x]), (7, [Bv false, .sl (nd (a)) (dg (digs (a))), Iv x]), (8, [Bv false, .sl (nd (cutQ z19 false a false z30.toNat)) (dg (digs (cutQ z19 false a false z30.toNat))), Iv 0])] (by kernel_rfl) (by kernel_rfl) (by kernel_rfl) ?_
      refine mid_n hmid (false, cutQ z19 false a false z30.toNat, 0, true) (by rw [whole_low (by omega) hQ]; rfl) (by kernel_rfl)
    · skip
      refine vcI_q 3 (by kernel_rfl) ?_
      refine vcI_bin (op := .gtr) (t := 3) (a := .int .i64 (((nd (cutQ z19 true a false z30.toNat) : Nat) : Int))) (b := .int .i64 0) (dst := (some 40)) (by kernel_rfl) ?_
      intro c40 hc40
      refine vcI_q 3 (by kernel_rfl) ?_
      refine vcI_end 99 [(4, Ba false), (5, .p 5 0), (6, Ia z19), (7, .p 7 0), (8, .p 8 0), (13, Ba false), (25, Ba true)] [(5, [Bv true, Hw a, Lw a, Iv x]), (7, [Bv true, .sl (nd (a)) (dg (digs (a))), Iv x]), (8, [Bv c40, .sl (nd (cutQ z19 true a false z30.toNat)) (dg (digs (cutQ z19 true a false z30.toNat))), Iv 0])] (by kernel_rfl) (by kernel_rfl) (by kernel_rfl) ?_
      refine mid_n hmid (c40, cutQ z19 true a false z30.toNat, 0, true) (by rw [whole_low (by omega) hQ, gt_dec hc40]; rfl) (by kernel_rfl)

end Go.Proofs.Ytfjcblmmfkgkoaa
