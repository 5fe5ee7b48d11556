/- Names and spans as plain data. -/
import Derived.Test.YtdpodjgggicaoaaH3t
set_option linter.unusedVariables false
namespace Go.Proofs.Ytdpodjgggicaoaa.H
open Go.RowKit Go.Proofs.YtdpodjgggicaoaaW.PrintWords
def letterB (c : Int) : Bool := decide (97 ≤ c ∧ c ≤ 122) || decide (48 ≤ c ∧ c ≤ 57) || decide (c = 45) || decide (c = 46) || decide (c = 95)
def nameB (m : List Nat) : Bool := decide (1 ≤ m.length) && decide (m.length ≤ 16) && m.all fun c => letterB (c : Int)
def mayB (a b c d : Int) (h n : List Nat) (s t : Int) : Bool :=
  decide (a ≠ 0) && decide (b ≠ 0) && decide (c ≠ b) && decide (d ≤ 2) && decide (0 ≤ s) && decide (s < 1125899906842624) && decide (0 ≤ t) && decide (t ≤ 1125899906842624) && nameB h && nameB n
end Go.Proofs.Ytdpodjgggicaoaa.H
