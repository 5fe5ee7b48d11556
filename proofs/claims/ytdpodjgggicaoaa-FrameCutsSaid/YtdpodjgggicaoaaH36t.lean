/- The plain mathematics of layer 6: all the frames from a place on, and of bytes that are cut off. -/
import Derived.Test.YtdpodjgggicaoaaH30t
import Derived.Test.YtdpodjgggicaoaaH33t
set_option linter.unusedVariables false
set_option linter.unusedSimpArgs false
namespace Go.Proofs.Ytdpodjgggicaoaa.H
theorem frameAt_nil : frameAt [] = .error 2 := by simp [frameAt]
theorem frameAt_len {s x : List Nat} (hs : isB s) (h : frameAt s = .ok x) : isB x ∧ 1 ≤ x.length ∧ x.length ≤ 2406 ∧ 6 + x.length ≤ s.length := by
  have h2 := frameAt_ok hs h
  obtain ⟨h3, h4, h5⟩ := framePut_length _ h2.1
  refine ⟨?_, h4, h5, h2.2.2⟩
  unfold frameAt at h
  split at h
  · exact absurd h (by simp)
  split at h
  · exact absurd h (by simp)
  split at h
  · exact absurd h (by simp)
  split at h
  · exact absurd h (by simp)
  split at h
  · exact absurd h (by simp)
  rw [← Except.ok.inj h]
  exact isB_take (isB_drop hs 6) _
theorem allF_small : ∀ (c : Nat) (b : List Nat) (p : Nat), isB b → 7 * (allF c b p).1.length ≤ b.length - p ∧ ∀ x ∈ (allF c b p).1, isB x ∧ x.length ≤ 2406 := by
  intro c
  induction c with
  | zero => intro b p hb; simp [allF]
  | succ c ih =>
    intro b p hb
    rw [allF]
    cases hf : frameAt (b.drop p) with
    | error e => simp
    | ok y =>
      obtain ⟨h1, h2, h3, h4⟩ := frameAt_len (isB_drop hb p) hf
      rw [List.length_drop] at h4
      obtain ⟨i1, i2⟩ := ih b (p + 6 + y.length) hb
      refine ⟨by simp only [List.length_cons]; omega, fun x hx => ?_⟩
      rcases List.mem_cons.1 hx with rfl | hx
      · exact ⟨h1, h3⟩
      · exact i2 x hx
def allA (b : List Nat) (at_ most : Int) : List (List Nat) × Int := if most < 1 ∨ at_ < 0 then ([], at_) else ((allF most.toNat b at_.toNat).1, ((allF most.toNat b at_.toNat).2 : Int))
def allG : Nat → List Nat → Nat → List (List Nat × Nat) × Bool
  | 0, _, _ => ([], false)
  | c + 1, b, p => match frameAt (b.drop p) with
    | .error _ => ([], true)
    | .ok x => ((x, p + 6 + x.length) :: (allG c b (p + 6 + x.length)).1, (allG c b (p + 6 + x.length)).2)
theorem allG_allF : ∀ (c : Nat) (b : List Nat) (p : Nat), (allG c b p).1.map (·.1) = (allF c b p).1 := by
  intro c
  induction c with
  | zero => intro b p; rfl
  | succ c ih =>
    intro b p
    rw [allG, allF]
    cases hf : frameAt (b.drop p) with
    | error e => rfl
    | ok y => simp only [List.map_cons, ih]
def frB (b : List Nat) : List Nat := (framePut b).1
structure okB (b : List Nat) : Prop where
  bytes : isB b
  one : 1 ≤ b.length
  max : b.length ≤ 2406
theorem frB_put {b : List Nat} (h : okB b) : (framePut b).2 = 0 := by
  unfold framePut
  rw [if_pos ⟨h.one, h.max⟩]
theorem frB_length {b : List Nat} (h : okB b) : (frB b).length = 6 + b.length := (framePut_length _ (frB_put h)).1
theorem frB_isB {b : List Nat} (h : okB b) : isB (frB b) := framePut_isB h.bytes
def wholeB (cut : Nat) : Nat → List (List Nat) → Nat × Nat
  | p, [] => (0, p)
  | p, x :: r => if p + (frB x).length ≤ cut then ((wholeB cut (p + (frB x).length) r).1 + 1, (wholeB cut (p + (frB x).length) r).2) else (0, p)
theorem wholeB_le (cut : Nat) : ∀ (L : List (List Nat)) (p : Nat), (wholeB cut p L).1 ≤ L.length := by
  intro L
  induction L with
  | nil => intro p; exact Nat.le_refl _
  | cons x r ih =>
    intro p
    rw [wholeB]
    split
    · have := ih (p + (frB x).length)
      simp only [List.length_cons]
      omega
    · exact Nat.zero_le _
theorem allF_cut (cut : Nat) : ∀ (L : List (List Nat)) (c : Nat) (P : List Nat), (∀ x ∈ L, okB x) → P.length ≤ cut → L.length < c →
    allF c ((P ++ (L.map frB).flatten).take cut) P.length = (L.take (wholeB cut P.length L).1, (wholeB cut P.length L).2) := by
  intro L
  induction L with
  | nil =>
    intro c P _ hP hc
    obtain ⟨c, rfl⟩ := Nat.exists_eq_succ_of_ne_zero (show c ≠ 0 by omega)
    have hd : ((P ++ (([] : List (List Nat)).map frB).flatten).take cut).drop P.length = [] := by
      rw [List.map_nil, List.flatten_nil, List.append_nil, List.drop_eq_nil_of_le]
      rw [List.length_take]; omega
    rw [allF, hd, frameAt_nil]
    rfl
  | cons x r ih =>
    intro c P hL hP hc
    obtain ⟨c, rfl⟩ := Nat.exists_eq_succ_of_ne_zero (show c ≠ 0 by omega)
    have hx := hL x List.mem_cons_self
    have hfl := frB_length hx
    have hd : ((P ++ ((x :: r).map frB).flatten).take cut).drop P.length = (((x :: r).map frB).flatten).take (cut - P.length) := by rw [List.drop_take, List.drop_left' rfl]
    rw [allF, hd, wholeB, List.map_cons, List.flatten_cons]
    by_cases h : P.length + (frB x).length ≤ cut
    · rw [if_pos h, List.take_append, List.take_of_length_le (by omega)]
      rw [show frB x = (framePut x).1 from rfl, frameAt_put hx.bytes (frB_put hx)]
      have r1 := ih c (P ++ frB x) (fun y hy => hL y (List.mem_cons_of_mem _ hy)) (by rw [List.length_append]; exact h) (by simp only [List.length_cons] at hc; omega)
      rw [List.length_append, List.append_assoc] at r1
      have e5 : (framePut x).1 = frB x := rfl
      have hp : P.length + 6 + x.length = P.length + (frB x).length := by omega
      simp only [hp, e5]
      rw [r1, List.take_succ_cons]
    · rw [if_neg h]
      have hlt : cut - P.length < (frB x).length := by omega
      have e : (frB x ++ (r.map frB).flatten).take (cut - P.length) = (frB x).take (cut - P.length) := by rw [List.take_append, show cut - P.length - (frB x).length = 0 by omega, List.take_zero, List.append_nil]
      rw [e, show frB x = (framePut x).1 from rfl, frameAt_cut hx.bytes (frB_put hx) _ hlt]
      rfl
end Go.Proofs.Ytdpodjgggicaoaa.H
