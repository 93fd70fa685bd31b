/-
  The document's days and months; awake; LexicalSpans.
-/
import Derived.Test.YtjpaedjhihiakaaDoorLexC
namespace Go.Proofs.YtjpaedjhihiakaaDoor
open Go.RowKit
set_option linter.unusedVariables false
set_option linter.unusedSimpArgs false
set_option maxRecDepth 100000

theorem PcOk_ex (l : L8) (a : Nat) (c : UInt8) (t most : Nat) (ha : a ≤ l.length) : ∃ n k b, PcOk l a c t most n k b := by
  obtain ⟨r, n, k, b, _, h⟩ := PcP_ex l a c t most ha
  exact ⟨n, k, b, h⟩
theorem days_T0 {l : L8} {n k : Nat} {b : Bool} (h : l[sgn1 l]? = some 80) (hp : PcOk l (sgn1 l + 1) 68 86400 12 n k b) (hT : l[k]? = some 84) (hk : k + 1 = l.length) : daysS l = none := by
  obtain ⟨n1, k1, b1, h1⟩ := PcOk_ex l (k + 1) 72 3600 12 (by omega)
  obtain ⟨n2, k2, b2, h2⟩ := PcOk_ex l k1 77 60 12 (h1.le.2.1 (by omega))
  obtain ⟨n3, k3, b3, h3⟩ := PcOk_ex l k2 83 1 12 (h2.le.2.1 (h1.le.2.1 (by omega)))
  rw [days_T h hp (by omega) hT h1 h2 h3, if_pos (.inl hk)]
theorem c_pcD {l : L8} {a : Nat} (ha : a ≤ l.length) (hL : l.length ≤ 9223372036854775807) : HasC Tryd.prog 52 [.v (.string (tx l)), .v (.int .i64 (a : Int)), .v (.int .u8 68), .v (.int .i64 86400), .v (.int .i64 12)] (PcP l a 68 86400 12) := c_pc ha (by decide) (by decide) hL
theorem c_pcH {l : L8} {a : Nat} {z : Int} (hz : z = (a : Int)) (ha : a ≤ l.length) (hL : l.length ≤ 9223372036854775807) : HasC Tryd.prog 52 [.v (.string (tx l)), .v (.int .i64 z), .v (.int .u8 72), .v (.int .i64 3600), .v (.int .i64 12)] (PcP l a 72 3600 12) := by subst hz; exact c_pc ha (by decide) (by decide) hL
theorem c_pcM {l : L8} {a : Nat} (ha : a ≤ l.length) (hL : l.length ≤ 9223372036854775807) : HasC Tryd.prog 52 [.v (.string (tx l)), .v (.int .i64 (a : Int)), .v (.int .u8 77), .v (.int .i64 60), .v (.int .i64 12)] (PcP l a 77 60 12) := c_pc ha (by decide) (by decide) hL
theorem c_pcS {l : L8} {a : Nat} (ha : a ≤ l.length) (hL : l.length ≤ 9223372036854775807) : HasC Tryd.prog 52 [.v (.string (tx l)), .v (.int .i64 (a : Int)), .v (.int .u8 83), .v (.int .i64 1), .v (.int .i64 12)] (PcP l a 83 1 12) := c_pc ha (by decide) (by decide) hL
theorem c_pcY {l : L8} {a : Nat} (ha : a ≤ l.length) (hL : l.length ≤ 9223372036854775807) : HasC Tryd.prog 52 [.v (.string (tx l)), .v (.int .i64 (a : Int)), .v (.int .u8 89), .v (.int .i64 12), .v (.int .i64 15)] (PcP l a 89 12 15) := c_pc ha (by decide) (by decide) hL
theorem c_pcN {l : L8} {a : Nat} (ha : a ≤ l.length) (hL : l.length ≤ 9223372036854775807) : HasC Tryd.prog 52 [.v (.string (tx l)), .v (.int .i64 (a : Int)), .v (.int .u8 77), .v (.int .i64 1), .v (.int .i64 15)] (PcP l a 77 1 15) := c_pc ha (by decide) (by decide) hL

theorem c_days {l : L8} (hL : l.length ≤ 9223372036854775807) : HasC Tryd.prog 14 [.v (.string (tx l))] (OptP (daysS l)) := by
  refine HasC.of [] (fn := Tryd.f14) tyOk mixed (fun args w => Tryd.call14 args w) Tryd.func14 rfl (by kernel_rfl) (Nat.le_of_ble_eq_true rfl) (OptP_ex _) ?_
  refine vc_seqr rfl (iQ 2 (iE 88 [(0, .d (Sv (tx l))), (2, Ia 0), (3, Ba false)] [] ?_))
  refine vc_seqr rfl (iQ 1 (iC 51 [Sv (tx l)] (some 17) (c_begun hL) ?_))
  rintro _ ⟨b, rfl, hb⟩
  refine iQ 5 (iE 88 [(0, .d (Sv (tx l))), (2, Ia 0), (3, Ba false), (4, Ia (((sgn1 l + 1 : Nat) : Int))), (5, Ba b)] [] ?_)
  refine vc_seq (vc_seqr rfl (iQ 1 (iU .not (.bool b) (some 21) ?_)))
  intro c21 hc21
  refine iE 88 [(0, .d (Sv (tx l))), (2, Ia 0), (3, Ba false), (4, Ia (((sgn1 l + 1 : Nat) : Int))), (21, Ba c21)] [] ?_
  cases c21
  · replace hc21 := bf hc21
    have h80 : l[sgn1 l]? = some 80 := hb.1 (by simpa using hc21)
    have hsl := sgn1_lt h80
    have h0 : l ≠ [] := fun e => by rw [e] at hsl; simp at hsl
    refine iF (vc_skip (seq_n (vc_seqr rfl (iQ 2 (iC 52 [Sv (tx l), Iv (((sgn1 l + 1 : Nat) : Int)), .v (.int .u8 68), Iv 86400, Iv 12] (some 25) (c_pcD (a := sgn1 l + 1) (by omega) hL) ?_)))))
    rintro _ ⟨n, k, b2, rfl, hp⟩
    have hpl := hp.le
    have hkl := hpl.2.1 (by omega)
    have hnb : n ≤ 86400000000000000 := hpl.2.2.1
    refine iQ 7 (iE 88 [(0, .d (Sv (tx l))), (2, Ia 0), (3, Ba false), (6, Ia ((n : Int))), (7, Ia ((k : Int))), (8, Ba b2), (21, Ba false)] [] ?_)
    refine vc_seq (vc_seqr rfl (iQ 2 (iL .len [9] [.string (tx l)] (some 31) ?_)))
    intro n31 hn31
    have e31 : n31 = l.length := by rw [hn31]; exact tx_size _
    refine iB .eql 3 (.int .i64 ((k : Int))) (.int .i64 ((n31 : Nat))) (some 32) ?_
    intro c32 hc32
    refine iE 88 [(0, .d (Sv (tx l))), (2, Ia 0), (3, Ba false), (6, Ia ((n : Int))), (7, Ia ((k : Int))), (8, Ba b2), (21, Ba false), (32, Ba c32)] [] ?_
    cases c32
    · replace hc32 := bf hc32
      have hlt : k < l.length := by omega
      refine iF (vc_skip (seq_n (vc_seq (vc_seqr rfl (iQ 2 (iX 9 (.string (tx l)) (.int .i64 ((k : Int))) (some 42) ?_))))))
      refine And.intro (by rw [tx_size]; omega) ?_
      intro z42 hz42
      have e42 := at_tx (z := z42) (c := 84) hlt (by rw [hz42, Int.toNat_natCast])
      refine iB .neq 5 (.int .u8 z42) (.int .u8 84) (some 43) ?_
      intro c43 hc43
      refine iQ 1 ?_
      cases c43
      · replace hc43 := bf hc43
        refine iQ 1 (iB .add 3 (.int .i64 ((k : Int))) (.int .i64 1) (some 46) ?_)
        intro z46 hz46
        try replace hz46 := hz46.i64 (by omega)
        have h84 : l[k]? = some 84 := e42.1 (Classical.not_not.1 hc43)
        refine iQ 1 (iL .len [9] [.string (tx l)] (some 48) ?_)
        intro n48 hn48
        have e48 : n48 = l.length := by rw [hn48]; exact tx_size _
        refine iB .eql 3 (.int .i64 z46) (.int .i64 ((n48 : Nat))) (some 49) ?_
        intro c49 hc49
        refine iQ 1 (iE 88 [(0, .d (Sv (tx l))), (2, Ia 0), (3, Ba false), (6, Ia ((n : Int))), (7, Ia ((k : Int))), (8, Ba b2), (21, Ba false), (32, Ba false), (50, Ba c49)] [] ?_)
        cases c49
        · replace hc49 := bf hc49
          have hk1 : k + 1 ≠ l.length := by omega
          refine iF (vc_skip (seq_n (vc_seqr rfl (iQ 2 (iB .add 3 (.int .i64 ((k : Int))) (.int .i64 1) (some 54) ?_)))))
          intro z54 hz54
          try replace hz54 := hz54.i64 (by omega)
          refine iC 52 [Sv (tx l), Iv z54, .v (.int .u8 72), Iv 3600, Iv 12] (some 55) (c_pcH (a := k + 1) (by omega) (by omega) hL) ?_
          rintro _ ⟨n1, k1, b3, rfl, h1⟩
          have hl1 := h1.le
          have hk1l := hl1.2.1 (by omega)
          have hn1 : n1 ≤ 3600000000000000 := hl1.2.2.1
          refine iQ 7 (iE 88 [(0, .d (Sv (tx l))), (2, Ia 0), (3, Ba false), (6, Ia ((n : Int))), (7, Ia ((k1 : Int))), (8, Ba b2), (9, Ia ((n1 : Int))), (21, Ba false), (32, Ba false), (50, Ba false)] [] ?_)
          refine vc_seqr rfl (iQ 2 (iC 52 [Sv (tx l), Iv ((k1 : Int)), .v (.int .u8 77), Iv 60, Iv 12] (some 62) (c_pcM (a := k1) hk1l hL) ?_))
          rintro _ ⟨n2, k2, b4, rfl, h2⟩
          have hl2 := h2.le
          have hk2l := hl2.2.1 hk1l
          have hn2 : n2 ≤ 60000000000000 := hl2.2.2.1
          refine iQ 7 (iE 88 [(0, .d (Sv (tx l))), (2, Ia 0), (3, Ba false), (6, Ia ((n : Int))), (7, Ia ((k2 : Int))), (8, Ba b2), (9, Ia ((n1 : Int))), (11, Ia ((n2 : Int))), (21, Ba false), (32, Ba false), (50, Ba false)] [] ?_)
          refine vc_seqr rfl (iQ 2 (iC 52 [Sv (tx l), Iv ((k2 : Int)), .v (.int .u8 83), Iv 1, Iv 12] (some 69) (c_pcS (a := k2) hk2l hL) ?_))
          rintro _ ⟨n3, k3, b5, rfl, h3⟩
          have hl3 := h3.le
          have hk3l := hl3.2.1 hk2l
          have hn3 : n3 ≤ 1000000000000 := hl3.2.2.1
          have hT := days_T h80 hp hlt h84 h1 h2 h3
          refine iQ 7 (iE 88 [(0, .d (Sv (tx l))), (2, Ia 0), (3, Ba false), (6, Ia ((n : Int))), (7, Ia ((k3 : Int))), (8, Ba b2), (9, Ia ((n1 : Int))), (11, Ia ((n2 : Int))), (13, Ia ((n3 : Int))), (21, Ba false), (32, Ba false), (50, Ba false)] [] ?_)
          refine vc_seq (vc_seqr rfl (iQ 2 (iL .len [9] [.string (tx l)] (some 75) ?_)))
          intro n75 hn75
          have e75 : n75 = l.length := by rw [hn75]; exact tx_size _
          refine iB .neq 3 (.int .i64 ((k3 : Int))) (.int .i64 ((n75 : Nat))) (some 76) ?_
          intro c76 hc76
          refine iE 88 [(0, .d (Sv (tx l))), (2, Ia 0), (3, Ba false), (6, Ia ((n : Int))), (7, Ia ((k3 : Int))), (8, Ba b2), (9, Ia ((n1 : Int))), (11, Ia ((n2 : Int))), (13, Ia ((n3 : Int))), (21, Ba false), (32, Ba false), (50, Ba false), (76, Ba c76)] [] ?_
          cases c76
          · replace hc76 := bf hc76
            refine iF (vc_skip (seq_n (vc_seqr rfl (iQ 3 (iB .add 3 (.int .i64 ((n : Int))) (.int .i64 ((n1 : Int))) (some 80) ?_)))))
            intro z80 hz80
            try replace hz80 := hz80.i64 (by omega)
            refine iQ 1 (iB .add 3 (.int .i64 z80) (.int .i64 ((n2 : Int))) (some 82) ?_)
            intro z82 hz82
            try replace hz82 := hz82.i64 (by omega)
            refine iQ 1 (iB .add 3 (.int .i64 z82) (.int .i64 ((n3 : Int))) (some 84) ?_)
            intro z84 hz84
            try replace hz84 := hz84.i64 (by omega)
            refine iC 53 [Sv (tx l), Iv z84] (some 85) (c_endedE (l := l) (n := n + n1 + n2 + n3) rfl h0 (by omega) (by omega)) ?_
            rintro _ ⟨z, g2, rfl, hz⟩
            refine iQ 4 (iE 88 [(0, .d (Sv (tx l))), (2, Ia z), (3, Ba g2), (6, Ia ((n : Int))), (7, Ia ((k3 : Int))), (8, Ba b2), (21, Ba false), (32, Ba false), (50, Ba false), (76, Ba false)] [] ?_)
            refine vc_ret (iS (Iv z) (Bv g2) [] ?_)
            exact ⟨_, _, rfl, by rw [hz, hT, if_neg (by omega)]⟩
          · replace hc76 := bt hc76
            refine iT (vc_seqr rfl (iQ 2 (iE 88 [(0, .d (Sv (tx l))), (2, Ia 0), (3, Ba false), (6, Ia ((n : Int))), (7, Ia ((k3 : Int))), (8, Ba b2), (9, Ia ((n1 : Int))), (11, Ia ((n2 : Int))), (13, Ia ((n3 : Int))), (21, Ba false), (32, Ba false), (50, Ba false), (76, Ba true)] [] ?_)))
            refine vc_ret (seq_r (iS (Iv 0) (Bv false) [] ?_))
            exact OptP_no (by rw [hT, if_pos (.inr (by omega))])
        · replace hc49 := bt hc49
          refine iT (vc_seqr rfl (iQ 2 (iE 88 [(0, .d (Sv (tx l))), (2, Ia 0), (3, Ba false), (6, Ia ((n : Int))), (7, Ia ((k : Int))), (8, Ba b2), (21, Ba false), (32, Ba false), (50, Ba true)] [] ?_)))
          refine vc_ret (seq_r (iS (Iv 0) (Bv false) [] ?_))
          exact OptP_no (days_T0 h80 hp h84 (by omega))
      · replace hc43 := bt hc43
        refine iQ 6 (iE 88 [(0, .d (Sv (tx l))), (2, Ia 0), (3, Ba false), (6, Ia ((n : Int))), (7, Ia ((k : Int))), (8, Ba b2), (21, Ba false), (32, Ba false), (50, Ba true)] [] ?_)
        refine iT (vc_seqr rfl (iQ 2 (iE 88 [(0, .d (Sv (tx l))), (2, Ia 0), (3, Ba false), (6, Ia ((n : Int))), (7, Ia ((k : Int))), (8, Ba b2), (21, Ba false), (32, Ba false), (50, Ba true)] [] ?_)))
        refine vc_ret (seq_r (iS (Iv 0) (Bv false) [] ?_))
        exact OptP_no (days_noT h80 hp hlt (mt e42.2 hc43))
    · replace hc32 := bt hc32
      refine iT (vc_seq (vc_seqr rfl (iQ 1 (iU .not (.bool b2) (some 34) ?_))))
      intro c34 hc34
      refine iE 88 [(0, .d (Sv (tx l))), (2, Ia 0), (3, Ba false), (6, Ia ((n : Int))), (7, Ia ((k : Int))), (21, Ba false), (32, Ba true), (34, Ba c34)] [] ?_
      cases c34
      · replace hc34 := bf hc34
        refine iF (vc_skip (seq_n (vc_seqr rfl (iQ 2 (iC 53 [Sv (tx l), Iv ((n : Int))] (some 37) (c_endedE (l := l) (n := n) rfl h0 rfl (by omega)) ?_)))))
        rintro _ ⟨z, g2, rfl, hz⟩
        refine iQ 4 (iE 88 [(0, .d (Sv (tx l))), (2, Ia z), (3, Ba g2), (6, Ia ((n : Int))), (7, Ia ((k : Int))), (21, Ba false), (32, Ba true), (34, Ba false)] [] ?_)
        refine vc_ret (seq_r (iS (Iv z) (Bv g2) [] ?_))
        exact ⟨_, _, rfl, by rw [hz, days_day h80 hp (by omega), if_pos (by simpa using hc34)]⟩
      · replace hc34 := bt hc34
        refine iT (vc_seqr rfl (iQ 2 (iE 88 [(0, .d (Sv (tx l))), (2, Ia 0), (3, Ba false), (6, Ia ((n : Int))), (7, Ia ((k : Int))), (21, Ba false), (32, Ba true), (34, Ba true)] [] ?_)))
        refine vc_ret (seq_r (seq_r (iS (Iv 0) (Bv false) [] ?_)))
        exact OptP_no (by rw [days_day h80 hp (by omega), hc34]; rfl)
  · replace hc21 := bt hc21
    refine iT (vc_seqr rfl (iQ 2 (iE 88 [(0, .d (Sv (tx l))), (2, Ia 0), (3, Ba false), (4, Ia (((sgn1 l + 1 : Nat) : Int))), (21, Ba true)] [] ?_)))
    refine vc_ret (seq_r (iS (Iv 0) (Bv false) [] ?_))
    exact OptP_no (days_noP (fun e => by have := hb.2 e; rw [hc21] at this; cases this)).1
theorem c_months {l : L8} (hL : l.length ≤ 9223372036854775807) : HasC Tryd.prog 15 [.v (.string (tx l))] (OptP (monthsS l)) := by
  refine HasC.of [] (fn := Tryd.f15) tyOk mixed (fun args w => Tryd.call15 args w) Tryd.func15 rfl (by kernel_rfl) (Nat.le_of_ble_eq_true rfl) (OptP_ex _) ?_
  refine vc_seqr rfl (iQ 2 (iE 49 [(0, .d (Sv (tx l))), (2, Ia 0), (3, Ba false)] [] ?_))
  refine vc_seqr rfl (iQ 1 (iC 51 [Sv (tx l)] (some 13) (c_begun hL) ?_))
  rintro _ ⟨b, rfl, hb⟩
  refine iQ 5 (iE 49 [(0, .d (Sv (tx l))), (2, Ia 0), (3, Ba false), (4, Ia (((sgn1 l + 1 : Nat) : Int))), (5, Ba b)] [] ?_)
  refine vc_seq (vc_seqr rfl (iQ 1 (iU .not (.bool b) (some 17) ?_)))
  intro c17 hc17
  refine iQ 1 ?_
  cases c17
  · replace hc17 := bf hc17
    refine iQ 2 (iL .len [9] [.string (tx l)] (some 21) ?_)
    intro n21 hn21
    have h80 : l[sgn1 l]? = some 80 := hb.1 (by simpa using hc17)
    have hsl := sgn1_lt h80
    have h0 : l ≠ [] := fun e => by rw [e] at hsl; simp at hsl
    have e21 : n21 = l.length := by rw [hn21]; exact tx_size _
    refine iB .eql 3 (.int .i64 (((sgn1 l + 1 : Nat) : Int))) (.int .i64 ((n21 : Nat))) (some 22) ?_
    intro c22 hc22
    refine iQ 1 (iE 49 [(0, .d (Sv (tx l))), (2, Ia 0), (3, Ba false), (4, Ia (((sgn1 l + 1 : Nat) : Int))), (23, Ba c22)] [] ?_)
    cases c22
    · replace hc22 := bf hc22
      refine iF (vc_skip (seq_n (vc_seqr rfl (iQ 2 (iC 52 [Sv (tx l), Iv (((sgn1 l + 1 : Nat) : Int)), .v (.int .u8 89), Iv 12, Iv 15] (some 27) (c_pcY (a := sgn1 l + 1) (by omega) hL) ?_)))))
      rintro _ ⟨n1, k1, b3, rfl, h1⟩
      have hl1 := h1.le
      have hk1l := hl1.2.1 (by omega)
      have hn1 : n1 ≤ 12000000000000000 := hl1.2.2.1
      refine iQ 7 (iE 49 [(0, .d (Sv (tx l))), (2, Ia 0), (3, Ba false), (4, Ia (((sgn1 l + 1 : Nat) : Int))), (6, Ia ((n1 : Int))), (7, Ia ((k1 : Int))), (23, Ba false)] [] ?_)
      refine vc_seqr rfl (iQ 2 (iC 52 [Sv (tx l), Iv ((k1 : Int)), .v (.int .u8 77), Iv 1, Iv 15] (some 34) (c_pcN (a := k1) hk1l hL) ?_))
      rintro _ ⟨n2, k2, b4, rfl, h2⟩
      have hl2 := h2.le
      have hk2l := hl2.2.1 hk1l
      have hn2 : n2 ≤ 1000000000000000 := hl2.2.2.1
      have hT := months_P h80 h1 h2
      refine iQ 7 (iE 49 [(0, .d (Sv (tx l))), (2, Ia 0), (3, Ba false), (4, Ia (((sgn1 l + 1 : Nat) : Int))), (6, Ia ((n1 : Int))), (7, Ia ((k2 : Int))), (9, Ia ((n2 : Int))), (23, Ba false)] [] ?_)
      refine vc_seq (vc_seqr rfl (iQ 2 (iL .len [9] [.string (tx l)] (some 40) ?_)))
      intro n40 hn40
      have e40 : n40 = l.length := by rw [hn40]; exact tx_size _
      refine iB .neq 3 (.int .i64 ((k2 : Int))) (.int .i64 ((n40 : Nat))) (some 41) ?_
      intro c41 hc41
      refine iE 49 [(0, .d (Sv (tx l))), (2, Ia 0), (3, Ba false), (4, Ia (((sgn1 l + 1 : Nat) : Int))), (6, Ia ((n1 : Int))), (7, Ia ((k2 : Int))), (9, Ia ((n2 : Int))), (23, Ba false), (41, Ba c41)] [] ?_
      cases c41
      · replace hc41 := bf hc41
        refine iF (vc_skip (seq_n (vc_seqr rfl (iQ 3 (iB .add 3 (.int .i64 ((n1 : Int))) (.int .i64 ((n2 : Int))) (some 45) ?_)))))
        intro z45 hz45
        try replace hz45 := hz45.i64 (by omega)
        refine iC 53 [Sv (tx l), Iv z45] (some 46) (c_endedE (l := l) (n := n1 + n2) rfl h0 (by omega) (by omega)) ?_
        rintro _ ⟨z, g2, rfl, hz⟩
        refine iQ 4 (iE 49 [(0, .d (Sv (tx l))), (2, Ia z), (3, Ba g2), (4, Ia (((sgn1 l + 1 : Nat) : Int))), (7, Ia ((k2 : Int))), (23, Ba false), (41, Ba false)] [] ?_)
        refine vc_ret (iS (Iv z) (Bv g2) [] ?_)
        exact ⟨_, _, rfl, by rw [hz, hT, if_neg (by omega)]⟩
      · replace hc41 := bt hc41
        refine iT (vc_seqr rfl (iQ 2 (iE 49 [(0, .d (Sv (tx l))), (2, Ia 0), (3, Ba false), (4, Ia (((sgn1 l + 1 : Nat) : Int))), (6, Ia ((n1 : Int))), (7, Ia ((k2 : Int))), (9, Ia ((n2 : Int))), (23, Ba false), (41, Ba true)] [] ?_)))
        refine vc_ret (seq_r (iS (Iv 0) (Bv false) [] ?_))
        exact OptP_no (by rw [hT, if_pos (.inr (by omega))])
    · replace hc22 := bt hc22
      obtain ⟨q1, q2, q3, h1⟩ := PcOk_ex l (sgn1 l + 1) 89 12 15 (by omega)
      obtain ⟨p1, p2, p3, h2⟩ := PcOk_ex l q2 77 1 15 (h1.le.2.1 (by omega))
      refine iT (vc_seqr rfl (iQ 2 (iE 49 [(0, .d (Sv (tx l))), (2, Ia 0), (3, Ba false), (4, Ia (((sgn1 l + 1 : Nat) : Int))), (23, Ba true)] [] ?_)))
      refine vc_ret (seq_r (iS (Iv 0) (Bv false) [] ?_))
      exact OptP_no (by rw [months_P h80 h1 h2, if_pos (.inl (by omega))])
  · replace hc17 := bt hc17
    refine iQ 5 (iE 49 [(0, .d (Sv (tx l))), (2, Ia 0), (3, Ba false), (4, Ia (((sgn1 l + 1 : Nat) : Int))), (23, Ba true)] [] ?_)
    refine iT (vc_seqr rfl (iQ 2 (iE 49 [(0, .d (Sv (tx l))), (2, Ia 0), (3, Ba false), (4, Ia (((sgn1 l + 1 : Nat) : Int))), (23, Ba true)] [] ?_)))
    refine vc_ret (seq_r (iS (Iv 0) (Bv false) [] ?_))
    exact OptP_no (days_noP (fun e => by have := hb.2 e; rw [hc17] at this; cases this)).2

-- the document's examples
theorem c_aw1 : HasC Tryd.prog 12 [.v (.string ⟨#[80, 84, 51, 54, 72]⟩)] (fun r => r = .tup [.v (.int .i64 129600), .v (.bool true)]) := OptP_at (c_ReadDays (l := [80, 84, 51, 54, 72]) (by decide)) (by decide)
theorem c_aw2 : HasC Tryd.prog 13 [.v (.string ⟨#[80, 49, 52, 77]⟩)] (fun r => r = .tup [.v (.int .i64 14), .v (.bool true)]) := OptP_at (c_ReadMonths (l := [80, 49, 52, 77]) (by decide)) (by decide)
theorem c_aw3 : HasC Tryd.prog 12 [.v (.string ⟨#[80, 49, 68, 84]⟩)] (fun r => r = .tup [.v (.int .i64 0), .v (.bool false)]) := OptP_atno (c_ReadDays (l := [80, 49, 68, 84]) (by decide)) (by decide)
theorem str_as {P : Program} {f : FuncId} {ds : List DV} {l : L8} {s : ByteArray} (c : HasC P f ds (fun r => r = .v (.string (tx l)))) (h : s = tx l) : HasC P f ds (fun r => r = .v (.string s)) := by subst h; exact c
theorem itoa_1 {n : Nat} (h : n < 10) : Lib.itoa (n : Int) = [UInt8.ofNat (48 + n)] := by
  rw [itoa_nn (by omega), Int.toNat_natCast, Lib.decDigits, dif_pos h]
theorem itoa_2 {n : Nat} (h : 10 ≤ n) (h2 : n < 100) : Lib.itoa (n : Int) = [UInt8.ofNat (48 + n / 10), UInt8.ofNat (48 + n % 10)] := by
  rw [itoa_nn (by omega), Int.toNat_natCast, Lib.decDigits, dif_neg (by omega), Lib.decDigits, dif_pos (by omega)]
  rfl
theorem pad_1 {n : Nat} (w : Nat) (h : n < 10) : padL (n : Int) w = List.replicate (w - 1) 48 ++ [UInt8.ofNat (48 + n)] := by rw [padL, itoa_1 h]; rfl
theorem pad_2 {n : Nat} (w : Nat) (h : 10 ≤ n) (h2 : n < 100) : padL (n : Int) w = List.replicate (w - 2) 48 ++ [UInt8.ofNat (48 + n / 10), UInt8.ofNat (48 + n % 10)] := by rw [padL, itoa_2 h h2]; rfl
theorem aw_date : dateT 5 1 2 = [48, 48, 48, 53, 45, 48, 49, 45, 48, 50] := by
  rw [dateT, if_pos (by decide), dateL, if_neg (by decide), if_neg (by decide), show padL 5 4 = padL ((5 : Nat) : Int) 4 from rfl, show padL 1 2 = padL ((1 : Nat) : Int) 2 from rfl, show padL 2 2 = padL ((2 : Nat) : Int) 2 from rfl, pad_1 (n := 5) 4 (by decide), pad_1 (n := 1) 2 (by decide), pad_1 (n := 2) 2 (by decide)]
  rfl
theorem aw_time : timeT 3661 true (-19800) = [48, 49, 58, 48, 49, 58, 48, 49, 45, 48, 53, 58, 51, 48] := by
  rw [timeT, if_pos (by decide), timeL, zoneL, if_neg (by decide), if_neg (by decide), if_pos (by decide), offL, if_pos (by decide),
    show (3661 : Int) / 3600 = ((1 : Nat) : Int) from rfl, show (3661 : Int) % 3600 / 60 = ((1 : Nat) : Int) from rfl, show (3661 : Int) % 60 = ((1 : Nat) : Int) from rfl,
    show (- -19800 : Int) / 3600 = ((5 : Nat) : Int) from rfl, show (- -19800 : Int) % 3600 / 60 = ((30 : Nat) : Int) from rfl,
    pad_1 (n := 1) 2 (by decide), pad_1 (n := 5) 2 (by decide), pad_2 (n := 30) 2 (by decide) (by decide)]
  rfl
theorem aw_days : daysT 90061 = [80, 49, 68, 84, 49, 72, 49, 77, 49, 83] := by
  have h1 : restL 90061 = [49, 72, 49, 77, 49, 83] := by
    rw [restL, pieceL, pieceL, pieceL, if_neg (by decide), if_neg (by decide), if_neg (by decide),
      show (90061 : Int) % 86400 / 3600 = ((1 : Nat) : Int) from rfl, show (90061 : Int) % 3600 / 60 = ((1 : Nat) : Int) from rfl, show (90061 : Int) % 60 = ((1 : Nat) : Int) from rfl, itoa_1 (n := 1) (by decide)]
    rfl
  rw [daysT, if_neg (by decide), if_neg (by decide), show absI 90061 = 90061 from rfl, h1, pieceL, if_neg (by decide), show (90061 : Int) / 86400 = ((1 : Nat) : Int) from rfl, itoa_1 (n := 1) (by decide)]
  rfl
theorem aw_months : monthsT 14 = [80, 49, 89, 50, 77] := by
  rw [monthsT, if_neg (by decide), if_neg (by decide), show absI 14 = 14 from rfl, pieceL, if_neg (by decide), pieceL, if_neg (by decide), show (14 : Int) / 12 = ((1 : Nat) : Int) from rfl, show (14 : Int) % 12 = ((2 : Nat) : Int) from rfl, itoa_1 (n := 1) (by decide), itoa_1 (n := 2) (by decide)]
  rfl
theorem c_aw4 : HasC Tryd.prog 17 [.agg [.v (.int .i64 5), .v (.int .i64 1), .v (.int .i64 2)]] (fun r => r = .v (.string ⟨#[48, 48, 48, 53, 45, 48, 49, 45, 48, 50]⟩)) := str_as (c_lexDate (y := 5) (m := 1) (d := 2)) (by rw [aw_date]; rfl)
theorem c_aw5 : HasC Tryd.prog 19 [.agg [.v (.int .i64 3661), .v (.bool true), .v (.int .i64 (-19800))]] (fun r => r = .v (.string ⟨#[48, 49, 58, 48, 49, 58, 48, 49, 45, 48, 53, 58, 51, 48]⟩)) := str_as (c_lexTime (s := 3661) (z := true) (o := -19800)) (by rw [aw_time]; rfl)
theorem c_aw6 : HasC Tryd.prog 22 [.v (.int .i64 90061)] (fun r => r = .v (.string ⟨#[80, 49, 68, 84, 49, 72, 49, 77, 49, 83]⟩)) := str_as (c_lexDays (n := 90061)) (by rw [aw_days]; rfl)
theorem c_aw7 : HasC Tryd.prog 23 [.v (.int .i64 14)] (fun r => r = .v (.string ⟨#[80, 49, 89, 50, 77]⟩)) := str_as (c_lexMonths (n := 14)) (by rw [aw_months]; rfl)
theorem c_awake09  : HasC Tryd.prog 11 [] (fun r => r = .v (.bool true)) := by
  refine HasC.of [] (fn := Tryd.f11) tyOk mixed (fun args w => Tryd.call11 args w) Tryd.func11 rfl (by kernel_rfl) (Nat.le_of_ble_eq_true rfl) (⟨_, rfl⟩) ?_
  refine vc_seqr rfl (iQ 1 (iE 53 [(0, Ba false)] [] ?_))
  refine vc_seqr rfl (iC 12 [Sv (⟨#[80, 84, 51, 54, 72]⟩)] (some 8) (c_aw1) ?_)
  rintro _ rfl
  refine iQ 5 (iE 53 [(0, Ba false), (1, Ia 129600), (2, Ba true)] [] ?_)
  refine vc_seqr rfl (iC 13 [Sv (⟨#[80, 49, 52, 77]⟩)] (some 12) (c_aw2) ?_)
  rintro _ rfl
  refine iQ 5 (iE 53 [(0, Ba false), (1, Ia 129600), (2, Ba true), (3, Ia 14), (4, Ba true)] [] ?_)
  refine vc_seqr rfl (iC 12 [Sv (⟨#[80, 49, 68, 84]⟩)] (some 16) (c_aw3) ?_)
  rintro _ rfl
  refine iQ 5 (iE 53 [(0, Ba false), (1, Ia 129600), (2, Ba true), (3, Ia 14), (4, Ba true), (6, Ba false)] [] ?_)
  refine vc_seqr rfl (iQ 1 (iC 17 [.agg [Iv 5, Iv 1, Iv 2]] (some 20) (c_aw4) ?_))
  rintro _ rfl
  refine iB .eql 9 (.string (⟨#[48, 48, 48, 53, 45, 48, 49, 45, 48, 50]⟩)) (.string (⟨#[48, 48, 48, 53, 45, 48, 49, 45, 48, 50]⟩)) (some 21) ?_
  intro c21 hc21
  refine iQ 1 ?_
  obtain rfl : c21 = true := hc21.2 (rfl)
  refine iQ 1 (iC 19 [.agg [Iv 3661, Bv true, Iv (-19800)]] (some 24) (c_aw5) ?_)
  rintro _ rfl
  refine iB .eql 9 (.string (⟨#[48, 49, 58, 48, 49, 58, 48, 49, 45, 48, 53, 58, 51, 48]⟩)) (.string (⟨#[48, 49, 58, 48, 49, 58, 48, 49, 45, 48, 53, 58, 51, 48]⟩)) (some 25) ?_
  intro c25 hc25
  refine iQ 2 ?_
  obtain rfl : c25 = true := hc25.2 (rfl)
  refine iC 22 [Iv 90061] (some 28) (c_aw6) ?_
  rintro _ rfl
  refine iB .eql 9 (.string (⟨#[80, 49, 68, 84, 49, 72, 49, 77, 49, 83]⟩)) (.string (⟨#[80, 49, 68, 84, 49, 72, 49, 77, 49, 83]⟩)) (some 29) ?_
  intro c29 hc29
  refine iQ 2 ?_
  obtain rfl : c29 = true := hc29.2 (rfl)
  refine iQ 1 (iU .not (.bool false) (some 33) ?_)
  intro c33 hc33
  refine iQ 2 ?_
  obtain rfl : c33 = true := hc33.2 (rfl)
  refine iQ 4 (iB .eql 3 (.int .i64 129600) (.int .i64 129600) (some 40) ?_)
  intro c40 hc40
  refine iQ 2 ?_
  obtain rfl : c40 = true := hc40.2 (rfl)
  refine iQ 4 (iB .eql 3 (.int .i64 14) (.int .i64 14) (some 47) ?_)
  intro c47 hc47
  refine iQ 2 ?_
  obtain rfl : c47 = true := hc47.2 (rfl)
  refine iC 23 [Iv 14] (some 50) (c_aw7) ?_
  rintro _ rfl
  refine iB .eql 9 (.string (⟨#[80, 49, 89, 50, 77]⟩)) (.string (⟨#[80, 49, 89, 50, 77]⟩)) (some 51) ?_
  intro c51 hc51
  refine iQ 2 (iE 53 [(0, Ba c51)] [] ?_)
  refine vc_ret (iR (Bv c51) ?_)
  rw [hc51.2 rfl]
theorem c_LexicalSpans {l : L8} (hL : l.length ≤ 9223372036854775807) : HasC Tryd.prog 3 [.v (.string (tx l))] (fun r => r = .v (.bool true)) := by
  refine HasC.of [] (fn := Tryd.f3) tyOk mixed (fun args w => Tryd.call3 args w) Tryd.func3 rfl (by kernel_rfl) (Nat.le_of_ble_eq_true rfl) (⟨_, rfl⟩) ?_
  refine vc_seqr rfl (iQ 1 (iE 51 [(0, .d (Sv (tx l))), (2, Ba false)] [] ?_))
  refine vc_seq (vc_seqr rfl (iC 11 [] (some 11) (c_awake09) ?_))
  rintro _ rfl
  refine iU .not (.bool true) (some 12) ?_
  intro c12 hc12
  refine iE 51 [(0, .d (Sv (tx l))), (2, Ba false), (12, Ba c12)] [] ?_
  obtain rfl : c12 = false := bff hc12 (by simp)
  refine iF (vc_skip (seq_n (vc_seqr rfl (iQ 1 (iC 12 [Sv (tx l)] (some 15) (c_ReadDays hL) ?_)))))
  rintro _ ⟨z, g, rfl, hz⟩
  refine iQ 5 (iE 51 [(0, .d (Sv (tx l))), (2, Ba false), (3, Ia z), (4, Ba g), (12, Ba false)] [] ?_)
  refine vc_seqr rfl (iQ 1 (iC 13 [Sv (tx l)] (some 20) (c_ReadMonths hL) ?_))
  rintro _ ⟨y, h, rfl, hy⟩
  refine iQ 5 (iE 51 [(0, .d (Sv (tx l))), (2, Ba false), (3, Ia z), (4, Ba g), (5, Ia y), (6, Ba h), (12, Ba false)] [] ?_)
  refine vc_seqr rfl (iQ 1 (iC 14 [Sv (tx l)] (some 25) (OptP_as (c_days hL) hz) ?_))
  rintro _ rfl
  refine iQ 5 (iE 51 [(0, .d (Sv (tx l))), (2, Ba false), (3, Ia z), (4, Ba g), (5, Ia y), (6, Ba h), (7, Ia z), (8, Ba g), (12, Ba false)] [] ?_)
  refine vc_seqr rfl (iQ 1 (iC 15 [Sv (tx l)] (some 30) (OptP_as (c_months hL) hy) ?_))
  rintro _ rfl
  refine iQ 5 (iE 51 [(0, .d (Sv (tx l))), (2, Ba false), (3, Ia z), (4, Ba g), (5, Ia y), (6, Ba h), (7, Ia z), (8, Ba g), (9, Ia y), (10, Ba h), (12, Ba false)] [] ?_)
  refine vc_seqr rfl (iQ 2 (iB .eql 4 (.bool g) (.bool g) (some 35) ?_))
  intro c35 hc35
  refine iQ 1 ?_
  obtain rfl : c35 = true := hc35.2 (rfl)
  refine iQ 2 (iB .eql 3 (.int .i64 z) (.int .i64 z) (some 39) ?_)
  intro c39 hc39
  refine iQ 2 ?_
  obtain rfl : c39 = true := hc39.2 (rfl)
  refine iQ 2 (iB .eql 4 (.bool h) (.bool h) (some 44) ?_)
  intro c44 hc44
  refine iQ 2 ?_
  obtain rfl : c44 = true := hc44.2 (rfl)
  refine iQ 2 (iB .eql 3 (.int .i64 y) (.int .i64 y) (some 49) ?_)
  intro c49 hc49
  refine iQ 2 (iE 51 [(0, .d (Sv (tx l))), (2, Ba c49), (12, Ba false)] [] ?_)
  refine vc_ret (iR (Bv c49) ?_)
  rw [hc49.2 rfl]
end Go.Proofs.YtjpaedjhihiakaaDoor
