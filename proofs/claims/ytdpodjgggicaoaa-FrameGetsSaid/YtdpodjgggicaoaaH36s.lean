/- The plain mathematics of layer 6: all the frames from a place on, and of bytes that are cut off. -/
import Derived.Test.YtdpodjgggicaoaaH30s
import Derived.Test.YtdpodjgggicaoaaH33s
set_option linter.unusedVariables false
set_option linter.unusedSimpArgs false
namespace Go.Proofs.Ytdpodjgggicaoaa.H
theorem frameAt_nil : frameAt [] = .error 2 := by simp [frameAt]
theorem frameAt_len {s x : List Nat} (hs : isB s) (h : frameAt s = .ok x) : isB x ∧ 1 ≤ x.length ∧ x.length ≤ 2406 ∧ 6 + x.length ≤ s.length := by
  have h2 := frameAt_ok hs h
  obtain ⟨h3, h4, h5⟩ := framePut_length _ h2.1
  refine ⟨?_, h4, h5, h2.2.2⟩
  unfold frameAt at h
  split at h
  · exact absurd h (by simp)
  split at h
  · exact absurd h (by simp)
  split at h
  · exact absurd h (by simp)
  split at h
  · exact absurd h (by simp)
  split at h
  · exact absurd h (by simp)
  rw [← Except.ok.inj h]
  exact isB_take (isB_drop hs 6) _
theorem allF_small : ∀ (c : Nat) (b : List Nat) (p : Nat), isB b → 7 * (allF c b p).1.length ≤ b.length - p ∧ ∀ x ∈ (allF c b p).1, isB x ∧ x.length ≤ 2406 := by
  intro c
  induction c with
  | zero => intro b p hb; simp [allF]
  | succ c ih =>
    intro b p hb
    rw [allF]
    cases hf : frameAt (b.drop p) with
    | error e => simp
    | ok y =>
      obtain ⟨h1, h2, h3, h4⟩ := frameAt_len (isB_drop hb p) hf
      rw [List.length_drop] at h4
      obtain ⟨i1, i2⟩ := ih b (p + 6 + y.length) hb
      refine ⟨by simp only [List.length_cons]; omega, fun x hx => ?_⟩
      rcases List.mem_cons.1 hx with rfl | hx
      · exact ⟨h1, h3⟩
      · exact i2 x hx
def allA (b : List Nat) (at_ most : Int) : List (List Nat) × Int := if most < 1 ∨ at_ < 0 then ([], at_) else ((allF most.toNat b at_.toNat).1, ((allF most.toNat b at_.toNat).2 : Int))
def allG : Nat → List Nat → Nat → List (List Nat × Nat) × Bool
  | 0, _, _ => ([], false)
  | c + 1, b, p => match frameAt (b.drop p) with
    | .error _ => ([], true)
    | .ok x => ((x, p + 6 + x.length) :: (allG c b (p + 6 + x.length)).1, (allG c b (p + 6 + x.length)).2)
theorem allG_allF : ∀ (c : Nat) (b : List Nat) (p : Nat), (allG c b p).1.map (·.1) = (allF c b p).1 := by
  intro c
  induction c with
  | zero => intro b p; rfl
  | succ c ih =>
    intro b p
    rw [allG, allF]
    cases hf : frameAt (b.drop p) with
    | error e => rfl
    | ok y => simp only [List.map_cons, ih]
structure okB (b : List Nat) : Prop where
  bytes : isB b
  one : 1 ≤ b.length
  max : b.length ≤ 2406
end Go.Proofs.Ytdpodjgggicaoaa.H
