/-
  What is known of wide's functions, said of numbers: each word by its number.
-/
import Derived.Test.YtmldjlgeeljfdaaGreatVcL
import Derived.Test.YtmldjlgeeljfdaaGreatWide8
import Derived.Test.YtmldjlgeeljfdaaGreatWidB
namespace Go.Proofs.YtmldjlgeeljfdaaGreat
open Go.RowKit
set_option linter.unusedVariables false
set_option maxRecDepth 100000

theorem bf {p : Prop} (h : false = true ↔ p) : ¬ p := fun k => Bool.noConfusion (h.2 k)
theorem bt {p : Prop} (h : true = true ↔ p) : p := h.1 rfl
theorem bff {p : Prop} {c : Bool} (h : c = true ↔ p) (k : ¬ p) : c = false := by
  cases c with
  | false => rfl
  | true => exact absurd (h.1 rfl) k

def hiW (n : Nat) : Int := ((n / 18446744073709551616 : Nat) : Int)
def loW (n : Nat) : Int := ((n % 18446744073709551616 : Nat) : Int)
def B128 : Nat := 340282366920938463463374607431768211456
theorem isU_hl {n : Nat} (h : n < B128) : IsU (hiW n) (loW n) n := by
  unfold B128 at h
  unfold hiW loW
  exact ⟨by omega, by omega, by omega, by omega, by omega⟩
theorem IsU.hl {h l : Int} {n : Nat} (u : IsU h l n) : h = hiW n ∧ l = loW n := by
  obtain ⟨a, b, c, d, e⟩ := u
  unfold hiW loW
  exact ⟨by omega, by omega⟩
theorem hi0 : hiW 0 = 0 := rfl
theorem lo0 : loW 0 = 0 := rfl
theorem lo_small {n : Nat} (h : n < 18446744073709551616) : hiW n = 0 ∧ loW n = n := by
  unfold hiW loW
  exact ⟨by omega, by omega⟩
theorem hl_inj {a b : Nat} (h1 : hiW a = hiW b) (h2 : loW a = loW b) : a = b := by
  unfold hiW at h1
  unfold loW at h2
  omega
/-- A number of two words, as it reads. -/
def dU (n : Nat) : DV := .agg [.v (.int .u64 (hiW n)), .v (.int .u64 (loW n))]

theorem all_false {P : Prop} {K : Bool → Prop} (h : ¬ P) (k : K false) : ∀ c, (c = true ↔ P) → K c := fun c hc => by
  cases c with
  | false => exact k
  | true => exact absurd (hc.1 rfl) h
theorem all_true {P : Prop} {K : Bool → Prop} (h : P) (k : K true) : ∀ c, (c = true ↔ P) → K c := fun c hc => by
  cases c with
  | true => exact k
  | false => exact Bool.noConfusion (hc.2 h)
/-- Short names for what stands in a state, for the printed rows. -/
abbrev Hw (n : Nat) : DV := .v (.int .u64 (hiW n))
abbrev Lw (n : Nat) : DV := .v (.int .u64 (loW n))
abbrev Uv (z : Int) : DV := .v (.int .u64 z)
abbrev Sv (s : ByteArray) : DV := .v (.string s)
abbrev Iv (z : Int) : DV := .v (.int .i64 z)
abbrev Bv (b : Bool) : DV := .v (.bool b)
abbrev Ia (z : Int) : AV := .d (.v (.int .i64 z))
abbrev Ba (b : Bool) : AV := .d (.v (.bool b))

theorem mod_lt128 (n : Nat) : n % B128 < B128 := Nat.mod_lt _ (by decide)

section
variable {a b c d h l n : Nat}
theorem cw_Add (ha : a < B128) (hb : b < B128) : HasC Tryz.prog 78 [dU a, dU b] (fun y => y = .tup [dU ((a + b) % B128), .v (.int .u64 (((a + b) / B128 : Nat) : Int))]) :=
  (HasC.ofCalls (vs := [.agg #[.int .u64 (hiW a), .int .u64 (loW a)], .agg #[.int .u64 (hiW b), .int .u64 (loW b)]]) (R := fun r => r = .tuple #[.agg #[.int .u64 (hiW ((a + b) % B128)), .int .u64 (loW ((a + b) % B128))], .int .u64 (((a + b) / B128 : Nat) : Int)]) (fun args w => Tryz.call78 args w) rfl
    (fun w => (wide_Add (isU_hl ha) (isU_hl hb) w).mono fun e w' ⟨r1, r0, c, he, h1, h2, hb⟩ => ⟨_, he, by
      obtain ⟨rfl, rfl⟩ := h1.hl; obtain rfl := h2.eq; rfl, hb⟩)).mono fun y ⟨r, hr, hy⟩ => by subst hr; exact hy
theorem cw_Sub (ha : a < B128) (hb : b < B128) : HasC Tryz.prog 80 [dU a, dU b] (fun y => y = .tup [dU ((a + B128 - b) % B128), .v (.int .u64 ((lackN a b : Nat) : Int))]) :=
  (HasC.ofCalls (vs := [.agg #[.int .u64 (hiW a), .int .u64 (loW a)], .agg #[.int .u64 (hiW b), .int .u64 (loW b)]]) (R := fun r => r = .tuple #[.agg #[.int .u64 (hiW ((a + B128 - b) % B128)), .int .u64 (loW ((a + B128 - b) % B128))], .int .u64 ((lackN a b : Nat) : Int)]) (fun args w => Tryz.call80 args w) rfl
    (fun w => (wide_Sub (isU_hl ha) (isU_hl hb) w).mono fun e w' ⟨r1, r0, c, he, h1, h2, hb⟩ => ⟨_, he, by
      obtain ⟨rfl, rfl⟩ := h1.hl; obtain rfl := h2.eq; rfl, hb⟩)).mono fun y ⟨r, hr, hy⟩ => by subst hr; exact hy
theorem cw_MulWord (ha : a < B128) (hn : n < 18446744073709551616) : HasC Tryz.prog 76 [dU a, .v (.int .u64 (n : Int))] (fun y => y = .tup [.v (.int .u64 ((a * n / B128 : Nat) : Int)), dU (a * n % B128)]) :=
  (HasC.ofCalls (vs := [.agg #[.int .u64 (hiW a), .int .u64 (loW a)], .int .u64 (n : Int)]) (R := fun r => r = .tuple #[.int .u64 ((a * n / B128 : Nat) : Int), .agg #[.int .u64 (hiW (a * n % B128)), .int .u64 (loW (a * n % B128))]]) (fun args w => Tryz.call76 args w) rfl
    (fun w => (wide_MulWord (isU_hl ha) (IsW.ofNat n hn) w).mono fun e w' ⟨c, r1, r0, he, h1, h2, hb⟩ => ⟨_, he, by
      obtain ⟨rfl, rfl⟩ := h1.hl; obtain rfl := h2.eq; rfl, hb⟩)).mono fun y ⟨r, hr, hy⟩ => by subst hr; exact hy
theorem cw_Mul (ha : a < B128) (hb : b < B128) : HasC Tryz.prog 68 [dU a, dU b] (fun y => y = .tup [dU (a * b / B128), dU (a * b % B128)]) :=
  (HasC.ofCalls (vs := [.agg #[.int .u64 (hiW a), .int .u64 (loW a)], .agg #[.int .u64 (hiW b), .int .u64 (loW b)]]) (R := fun r => r = .tuple #[.agg #[.int .u64 (hiW (a * b / B128)), .int .u64 (loW (a * b / B128))], .agg #[.int .u64 (hiW (a * b % B128)), .int .u64 (loW (a * b % B128))]]) (fun args w => Tryz.call68 args w) rfl
    (fun w => (wide_Mul (isU_hl ha) (isU_hl hb) w).mono fun e w' ⟨r1, r0, q1, q0, he, h1, h2, hb⟩ => ⟨_, he, by
      obtain ⟨rfl, rfl⟩ := h1.hl; obtain ⟨rfl, rfl⟩ := h2.hl; rfl, hb⟩)).mono fun y ⟨r, hr, hy⟩ => by subst hr; exact hy
theorem cw_Of (x : Int) : HasC Tryz.prog 42 [.v (.int .u64 x)] (fun y => y = .agg [.v (.int .u64 0), .v (.int .u64 x)]) :=
  (HasC.ofCalls (vs := [.int .u64 x]) (R := fun r => r = .agg #[.int .u64 0, .int .u64 x]) (fun args w => Tryz.call42 args w) rfl
    (fun w => (wide_Of x w).mono fun e w' ⟨he, hb⟩ => ⟨_, he, rfl, hb⟩)).mono fun y ⟨r, hr, hy⟩ => by subst hr; exact hy
theorem cw_OfN (hn : n < 18446744073709551616) : HasC Tryz.prog 42 [.v (.int .u64 (n : Int))] (fun y => y = dU n) :=
  (cw_Of (n : Int)).mono fun y hy => by
    obtain ⟨h1, h2⟩ := lo_small hn
    rw [hy, dU, h1, h2]
theorem cw_Zero (ha : a < B128) : HasC Tryz.prog 40 [dU a] (fun y => ∃ b, y = .v (.bool b) ∧ (b = true ↔ a = 0)) :=
  (HasC.ofCalls (vs := [.agg #[.int .u64 (hiW a), .int .u64 (loW a)]]) (R := fun r => r = .bool (decide (a = 0))) (fun args w => Tryz.call40 args w) rfl
    (fun w => (wide_Zero (isU_hl ha) w).mono fun e w' ⟨he, hb⟩ => ⟨_, he, by unfold zeroN; rfl, hb⟩)).mono fun y ⟨r, hr, hy⟩ => by subst hr; exact ⟨_, hy, by simp⟩
theorem cw_Cmp (ha : a < B128) (hb : b < B128) : HasC Tryz.prog 74 [dU a, dU b] (fun y => y = .v (.int .i64 (cmpN a b))) :=
  (HasC.ofCalls (vs := [.agg #[.int .u64 (hiW a), .int .u64 (loW a)], .agg #[.int .u64 (hiW b), .int .u64 (loW b)]]) (R := fun r => r = .int .i64 (cmpN a b)) (fun args w => Tryz.call74 args w) rfl
    (fun w => (wide_Cmp (isU_hl ha) (isU_hl hb) w).mono fun e w' ⟨he, hb⟩ => ⟨_, he, rfl, hb⟩)).mono fun y ⟨r, hr, hy⟩ => by subst hr; exact hy
theorem cw_DivWord (hh : h < B128) (hl : l < B128) (hn : n < 18446744073709551616) (h0 : 0 < n) : HasC Tryz.prog 41 [dU h, dU l, .v (.int .u64 (n : Int))] (fun y => y = .tup [dU ((h * B128 + l) / n / B128), dU ((h * B128 + l) / n % B128), .v (.int .u64 (((h * B128 + l) % n : Nat) : Int)), .v (.bool true)]) :=
  (HasC.ofCalls (vs := [.agg #[.int .u64 (hiW h), .int .u64 (loW h)], .agg #[.int .u64 (hiW l), .int .u64 (loW l)], .int .u64 (n : Int)]) (R := fun r => r = .tuple #[.agg #[.int .u64 (hiW ((h * B128 + l) / n / B128)), .int .u64 (loW ((h * B128 + l) / n / B128))], .agg #[.int .u64 (hiW ((h * B128 + l) / n % B128)), .int .u64 (loW ((h * B128 + l) / n % B128))], .int .u64 (((h * B128 + l) % n : Nat) : Int), .bool true]) (fun args w => Tryz.call41 args w) rfl
    (fun w => (wide_DivWord (isU_hl hh) (isU_hl hl) (IsW.ofNat n hn) h0 w).mono fun e w' ⟨p1, p0, q1, q0, r, he, h1, h2, h3, hb⟩ => ⟨_, he, by
      obtain ⟨rfl, rfl⟩ := h1.hl; obtain ⟨rfl, rfl⟩ := h2.hl; obtain rfl := h3.eq; rfl, hb⟩)).mono fun y ⟨r, hr, hy⟩ => by subst hr; exact hy
theorem cw_Ten {k : Int} (h0 : 0 ≤ k) (h1 : k ≤ 38) : HasC Tryz.prog 77 [.v (.int .i64 k)] (fun y => y = .tup [dU (10 ^ k.toNat), .v (.bool true)]) :=
  (HasC.ofCalls (vs := [.int .i64 k]) (R := fun r => r = .tuple #[.agg #[.int .u64 (hiW (10 ^ k.toNat)), .int .u64 (loW (10 ^ k.toNat))], .bool true]) (fun args w => Tryz.call77 args w) rfl
    (fun w => (wide_Ten h0 h1 w).mono fun e w' ⟨r1, r0, he, h1, hb⟩ => ⟨_, he, by obtain ⟨rfl, rfl⟩ := h1.hl; rfl, hb⟩)).mono fun y ⟨r, hr, hy⟩ => by subst hr; exact hy
theorem cw_Ten_no {k : Int} (h0 : k < 0 ∨ 38 < k) : HasC Tryz.prog 77 [.v (.int .i64 k)] (fun y => y = .tup [dU 0, .v (.bool false)]) :=
  (HasC.ofCalls (vs := [.int .i64 k]) (R := fun r => r = .tuple #[.agg #[.int .u64 0, .int .u64 0], .bool false]) (fun args w => Tryz.call77 args w) rfl
    (fun w => (wide_Ten_no h0 w).mono fun e w' ⟨he, hb⟩ => ⟨_, he, rfl, hb⟩)).mono fun y ⟨r, hr, hy⟩ => by subst hr; exact hy
theorem cw_Digits (hh : h < B128) (hl : l < B128) : HasC Tryz.prog 72 [dU h, dU l] (fun y => y = .v (.int .i64 (nd (h * B128 + l)))) :=
  (HasC.ofCalls (vs := [.agg #[.int .u64 (hiW h), .int .u64 (loW h)], .agg #[.int .u64 (hiW l), .int .u64 (loW l)]]) (R := fun r => r = .int .i64 (nd (h * B128 + l))) (fun args w => Tryz.call72 args w) rfl
    (fun w => (wide_Digits (isU_hl hh) (isU_hl hl) w).mono fun e w' ⟨he, hb⟩ => ⟨_, he, rfl, hb⟩)).mono fun y ⟨r, hr, hy⟩ => by subst hr; exact hy
theorem cw_Add2 (ha : a < B128) (hc : c < B128) (hb : b < B128) (hd : d < B128) : HasC Tryz.prog 65 [dU a, dU c, dU b, dU d] (fun y => y = .tup [dU ((a * B128 + c + (b * B128 + d)) / B128 % B128), dU ((a * B128 + c + (b * B128 + d)) % B128), .v (.int .u64 (((a * B128 + c + (b * B128 + d)) / (B128 * B128) : Nat) : Int))]) :=
  (HasC.ofCalls (vs := [.agg #[.int .u64 (hiW a), .int .u64 (loW a)], .agg #[.int .u64 (hiW c), .int .u64 (loW c)], .agg #[.int .u64 (hiW b), .int .u64 (loW b)], .agg #[.int .u64 (hiW d), .int .u64 (loW d)]]) (R := fun r => r = .tuple #[.agg #[.int .u64 (hiW ((a * B128 + c + (b * B128 + d)) / B128 % B128)), .int .u64 (loW ((a * B128 + c + (b * B128 + d)) / B128 % B128))], .agg #[.int .u64 (hiW ((a * B128 + c + (b * B128 + d)) % B128)), .int .u64 (loW ((a * B128 + c + (b * B128 + d)) % B128))], .int .u64 (((a * B128 + c + (b * B128 + d)) / (B128 * B128) : Nat) : Int)]) (fun args w => Tryz.call65 args w) rfl
    (fun w => (wide_Add2 (isU_hl ha) (isU_hl hc) (isU_hl hb) (isU_hl hd) w).mono fun e w' ⟨p1, p0, q1, q0, r, he, h1, h2, h3, hb⟩ => ⟨_, he, by
      obtain ⟨rfl, rfl⟩ := h1.hl; obtain ⟨rfl, rfl⟩ := h2.hl; obtain rfl := h3.eq; rfl, hb⟩)).mono fun y ⟨r, hr, hy⟩ => by subst hr; exact hy
theorem cN_lt : cmpN a b < 0 ↔ a < b := by unfold cmpN; split <;> (try split) <;> constructor <;> intro <;> omega
theorem cN_le : cmpN a b ≤ 0 ↔ a ≤ b := by unfold cmpN; split <;> (try split) <;> constructor <;> intro <;> omega
theorem cN_ge : 0 ≤ cmpN a b ↔ b ≤ a := by unfold cmpN; split <;> (try split) <;> constructor <;> intro <;> omega
theorem cN_eq : cmpN a b = 0 ↔ a = b := by unfold cmpN; split <;> (try split) <;> constructor <;> intro <;> omega
end
end Go.Proofs.YtmldjlgeeljfdaaGreat
