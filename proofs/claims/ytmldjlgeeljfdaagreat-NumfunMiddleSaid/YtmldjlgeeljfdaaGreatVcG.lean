/-
  What stands between two pieces of text: said once, for both ways of a branch.
-/
import Derived.Test.YtmldjlgeeljfdaaGreatVcL
namespace Go.Proofs.YtmldjlgeeljfdaaGreat
open Go.RowKit
set_option linter.unusedVariables false

section
variable {ex : List Nat} {Q : Ex → AS → Prop} {s : AS}
theorem vc_mid {x y : Code} {α : Type} (n : Nat) (t : α → List (Nat × AV)) (h : α → List (Nat × List DV)) (J : α → Prop) (rest : ∀ a : α, J a → VC ex y Q (mkS n (t a) (h a)))
    (k : (∀ a : α, J a → VC ex y Q (mkS n (t a) (h a))) → VC ex x (seqQ (fun s' => VC ex y Q s') Q) s) : VC ex (.seq x y) Q s := vc_seq (k rest)
theorem vc_mid2 {r x y : Code} {α : Type} (n : Nat) (t : α → List (Nat × AV)) (h : α → List (Nat × List DV)) (J : α → Prop) (rest : ∀ a : α, J a → VC ex y Q (mkS n (t a) (h a)))
    (k : (∀ a : α, J a → VC ex y Q (mkS n (t a) (h a))) → VC ex (.seq r (.seq x y)) Q s) : VC ex (.seq r (.seq x y)) Q s := k rest
theorem mid_n {y : Code} {α : Type} {n : Nat} {t : α → List (Nat × AV)} {h : α → List (Nat × List DV)} {J : α → Prop} (rest : ∀ a : α, J a → VC ex y Q (mkS n (t a) (h a))) (a : α) (hj : J a) (hs : s = mkS n (t a) (h a)) : seqQ (fun s' => VC ex y Q s') Q .normal s := by
  subst hs
  exact rest a hj
end
end Go.Proofs.YtmldjlgeeljfdaaGreat
