/- The plain mathematics of layers 6 and 7: all the frames from a place on. -/
import Derived.Test.YtdpodjgggicaoaaH29q
set_option linter.unusedVariables false
set_option linter.unusedSimpArgs false
namespace Go.Proofs.Ytdpodjgggicaoaa.H
def allF : Nat → List Nat → Nat → List (List Nat) × Nat
  | 0, _, p => ([], p)
  | c + 1, b, p => match frameAt (b.drop p) with
    | .error _ => ([], p)
    | .ok x => (x :: (allF c b (p + 6 + x.length)).1, (allF c b (p + 6 + x.length)).2)
def okW (x : List Nat) : Bool := match wireGet x with
  | .error _ => false
  | .ok _ => true
theorem segRows_all : ∀ (c : Nat) (b : List Nat) (p : Nat), (segRows c b p).1 = (allF c b p).1.takeWhile okW ∧ (segRows c b p).2 = p + (((allF c b p).1.takeWhile okW).map fun x => 6 + x.length).sum := by
  intro c
  induction c with
  | zero => intro b p; exact ⟨rfl, rfl⟩
  | succ c ih =>
    intro b p
    rw [segRows, allF]
    cases hf : frameAt (b.drop p) with
    | error e => exact ⟨rfl, rfl⟩
    | ok x =>
      obtain ⟨i1, i2⟩ := ih b (p + 6 + x.length)
      cases hw : wireGet x with
      | error e =>
        have ho : okW x = false := by unfold okW; rw [hw]
        simp [List.takeWhile_cons, ho, hw]
      | ok l =>
        have ho : okW x = true := by unfold okW; rw [hw]
        simp only [List.takeWhile_cons, ho, if_true, hw, i1, i2, List.map_cons, List.sum_cons]
        exact ⟨trivial, by omega⟩
end Go.Proofs.Ytdpodjgggicaoaa.H
