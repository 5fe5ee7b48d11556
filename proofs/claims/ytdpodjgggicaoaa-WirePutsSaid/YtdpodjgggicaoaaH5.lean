/- The plain mathematics of numbers that are laid one behind the other. -/
import Derived.Test.YtdpodjgggicaoaaH4
set_option linter.unusedVariables false
namespace Go.Proofs.Ytdpodjgggicaoaa.H

/-- The bytes of numbers, one behind the other; the i-th one takes s i bytes. -/
def blob (s : Nat → Nat) : List Nat → Nat → List Nat
  | [], _ => []
  | n :: t, i => nb (s i) n ++ blob s t (i + 1)
theorem blob_isB (s : Nat → Nat) : ∀ (l : List Nat) (i : Nat), isB (blob s l i) := by
  intro l
  induction l with
  | nil => intro i; exact isB_nil
  | cons n t ih => intro i; exact isB_append (nb_isB _ _) (ih _)
theorem blob_length (s : Nat → Nat) (hs : ∀ i, s i ≤ 8) : ∀ (l : List Nat) (i : Nat), (blob s l i).length ≤ 8 * l.length := by
  intro l
  induction l with
  | nil => intro i; exact Nat.le_refl _
  | cons n t ih =>
    intro i
    have h1 := ih (i + 1)
    have h2 := hs i
    simp only [blob, List.length_append, nb_length, List.length_cons]
    omega
end Go.Proofs.Ytdpodjgggicaoaa.H
