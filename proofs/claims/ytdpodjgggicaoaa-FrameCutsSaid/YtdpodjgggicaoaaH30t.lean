/- The plain mathematics of layers 6 and 7: all the frames from a place on. -/
import Derived.Test.YtdpodjgggicaoaaH29t
set_option linter.unusedVariables false
set_option linter.unusedSimpArgs false
namespace Go.Proofs.Ytdpodjgggicaoaa.H
def allF : Nat → List Nat → Nat → List (List Nat) × Nat
  | 0, _, p => ([], p)
  | c + 1, b, p => match frameAt (b.drop p) with
    | .error _ => ([], p)
    | .ok x => (x :: (allF c b (p + 6 + x.length)).1, (allF c b (p + 6 + x.length)).2)
end Go.Proofs.Ytdpodjgggicaoaa.H
