/- Names and spans as plain data. -/
import Derived.Test.YtdpodjgggicaoaaH3q
set_option linter.unusedVariables false
namespace Go.Proofs.Ytdpodjgggicaoaa.H
open Go.RowKit Go.Proofs.YtdpodjgggicaoaaW.PrintWords
def letterB (c : Int) : Bool := decide (97 ≤ c ∧ c ≤ 122) || decide (48 ≤ c ∧ c ≤ 57) || decide (c = 45) || decide (c = 46) || decide (c = 95)
def signs : List Nat := [97, 98, 99, 100, 101, 102, 103, 104, 105, 106, 107, 108, 109, 110, 111, 112, 113, 114, 115, 116, 117, 118, 119, 120, 121, 122, 48, 49, 50, 51, 52, 53, 54, 55, 56, 57, 45, 46, 95]
theorem signs_isB : isB signs := fun x hx => by
  simp [signs] at hx; omega
theorem letter_fin : ∀ c : Fin 256, (signs.any fun s => decide ((s : Int) = (c.val : Int))) = letterB (c.val : Int) := by decide +kernel
theorem letter_signs (c : Nat) (h : c < 256) : (signs.any fun s => decide ((s : Int) = (c : Int))) = letterB (c : Int) := letter_fin ⟨c, h⟩
def nameB (m : List Nat) : Bool := decide (1 ≤ m.length) && decide (m.length ≤ 16) && m.all fun c => letterB (c : Int)
def mayB (a b c d : Int) (h n : List Nat) (s t : Int) : Bool :=
  decide (a ≠ 0) && decide (b ≠ 0) && decide (c ≠ b) && decide (d ≤ 2) && decide (0 ≤ s) && decide (s < 1125899906842624) && decide (0 ≤ t) && decide (t ≤ 1125899906842624) && nameB h && nameB n
end Go.Proofs.Ytdpodjgggicaoaa.H
