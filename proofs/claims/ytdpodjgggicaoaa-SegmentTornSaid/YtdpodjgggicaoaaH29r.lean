/- The plain mathematics of layer 7: a segment's bodies. -/
import Derived.Test.YtdpodjgggicaoaaH7r
import Derived.Test.YtdpodjgggicaoaaH27r
set_option linter.unusedVariables false
set_option linter.unusedSimpArgs false
namespace Go.Proofs.Ytdpodjgggicaoaa.H
theorem frameAt_e0 {s : List Nat} {e : Int} (h : frameAt s = .error e) : e ≠ 0 := by
  unfold frameAt at h
  split at h
  · have := Except.error.inj h; omega
  split at h
  · have := Except.error.inj h; omega
  split at h
  · have := Except.error.inj h; omega
  split at h
  · have := Except.error.inj h; omega
  split at h
  · have := Except.error.inj h; omega
  · exact absurd h (by simp)
theorem getP_e0 {b : List Nat} {e : Int} (h : getP b = .error e) : e ≠ 0 := by
  unfold getP at h
  split at h
  · split at h
    · exact absurd h (by simp)
    · have := Except.error.inj h; omega
  · have := Except.error.inj h; omega
theorem getsP_e0 : ∀ (c : Nat) (r : List Nat) (e : Int), getsP c r = .error e → e ≠ 0 := by
  intro c
  induction c with
  | zero => intro r e h; exact absurd h (by simp [getsP])
  | succ c ih =>
    intro r e h
    rw [getsP] at h
    split at h
    · rename_i x hx
      have := Except.error.inj h
      rw [← this]; exact getP_e0 hx
    · split at h
      · rename_i x hx
        have := Except.error.inj h
        rw [← this]; exact ih _ _ hx
      · exact absurd h (by simp)
theorem wireGet_e0 {b : List Nat} {e : Int} (h : wireGet b = .error e) : e ≠ 0 := by
  unfold wireGet at h
  split at h
  · have := Except.error.inj h; omega
  split at h
  · have := Except.error.inj h; omega
  split at h
  · have := Except.error.inj h; omega
  split at h
  · have := Except.error.inj h; omega
  split at h
  · have := Except.error.inj h; omega
  split at h
  · have := Except.error.inj h; omega
  exact getsP_e0 _ _ _ h
def segRows : Nat → List Nat → Nat → List (List Nat) × Nat
  | 0, _, p => ([], p)
  | c + 1, b, p => match frameAt (b.drop p) with
    | .error _ => ([], p)
    | .ok x => match wireGet x with
      | .error _ => ([], p)
      | .ok _ => (x :: (segRows c b (p + 6 + x.length)).1, (segRows c b (p + 6 + x.length)).2)
def segRead (b : List Nat) : Int × Int × List (List Nat) × Int × Bool × Int :=
  if (segBegin b).2.2.2 = 0 then ((segBegin b).1, (segBegin b).2.1, (segRows (segBegin b).2.1.toNat b 14).1, ((segRows (segBegin b).2.1.toNat b 14).2 : Int), (((segRows (segBegin b).2.1.toNat b 14).1.length : Int) == (segBegin b).2.1), 0) else (0, 0, [], 0, false, (segBegin b).2.2.2)
end Go.Proofs.Ytdpodjgggicaoaa.H
