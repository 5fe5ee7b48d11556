/- The plain mathematics of layer 6: frames. -/
import Derived.Test.YtdpodjgggicaoaaH1t
import Derived.Test.YtdpodjgggicaoaaH4t
set_option linter.unusedVariables false
namespace Go.Proofs.Ytdpodjgggicaoaa.H
open Go.RowKit Go.Proofs.YtdpodjgggicaoaaW.PrintWords
theorem sumFrom_small (c : Nat) (l : List Nat) (hc : c < 4294967296) (hl : isB l) : sumFrom c l < 4294967296 := by
  unfold sumFrom
  have e : ones < 2 ^ 32 := by decide
  exact Nat.xor_lt_two_pow e (crc_lt l (Nat.xor_lt_two_pow e hc) hl)
def fsum (b : List Nat) : Nat := sumFrom 0 (nb 2 b.length ++ b)
theorem fsum_lt (b : List Nat) (hb : isB b) : fsum b < 4294967296 := sumFrom_small _ _ (by decide) (isB_append (nb_isB _ _) hb)
def framePut (b : List Nat) : List Nat × Int := if 1 ≤ b.length ∧ b.length ≤ 2406 then (nb 2 b.length ++ nb 4 (fsum b) ++ b, 0) else ([], 1)
def frameAt (s : List Nat) : Except Int (List Nat) :=
  if s.length < 6 then .error 2 else
  if num (s.take 2) = 0 then .error 3 else
  if 2406 < num (s.take 2) then .error 3 else
  if s.length < 6 + num (s.take 2) then .error 2 else
  if num ((s.drop 2).take 4) ≠ fsum ((s.drop 6).take (num (s.take 2))) then .error 8 else .ok ((s.drop 6).take (num (s.take 2)))
def frameGet (b : List Nat) (at_ : Int) : List Nat × Int × Int :=
  if at_ < 0 ∨ at_ ≥ (b.length : Int) then ([], 0, 5) else
  match frameAt (b.drop at_.toNat) with
  | .error e => ([], 0, e)
  | .ok x => (x, at_ + 6 + (x.length : Int), 0)
theorem framePut_isB {b : List Nat} (hb : isB b) : isB (framePut b).1 := by
  unfold framePut
  split
  · exact isB_append (isB_append (nb_isB _ _) (nb_isB _ _)) hb
  · exact isB_nil
theorem framePut_length (b : List Nat) (h : (framePut b).2 = 0) : (framePut b).1.length = 6 + b.length ∧ 1 ≤ b.length ∧ b.length ≤ 2406 := by
  unfold framePut at h ⊢
  split at h
  · rename_i hc
    rw [if_pos hc]
    exact ⟨by simp only [List.length_append, nb_length], hc⟩
  · exact absurd h (by simp)
theorem frameAt_put {b more : List Nat} (hb : isB b) (h : (framePut b).2 = 0) : frameAt ((framePut b).1 ++ more) = .ok b := by
  obtain ⟨hl, h1, h2⟩ := framePut_length b h
  have hv : (framePut b).1 = nb 2 b.length ++ nb 4 (fsum b) ++ b := by unfold framePut; rw [if_pos ⟨h1, h2⟩]
  have e2 : ((framePut b).1 ++ more).take 2 = nb 2 b.length := by
    rw [hv]; simp only [List.append_assoc]; exact List.take_left' (nb_length _ _)
  have e4 : (((framePut b).1 ++ more).drop 2).take 4 = nb 4 (fsum b) := by
    rw [hv]; simp only [List.append_assoc]
    rw [List.drop_left' (nb_length _ _)]; exact List.take_left' (nb_length _ _)
  have e6 : (((framePut b).1 ++ more).drop 6).take b.length = b := by
    have : (framePut b).1 ++ more = (nb 2 b.length ++ nb 4 (fsum b)) ++ (b ++ more) := by rw [hv]; simp only [List.append_assoc]
    rw [this, List.drop_left' (by simp only [List.length_append, nb_length])]
    exact List.take_left' rfl
  have n2 : num (nb 2 b.length) = b.length := by
    rw [num_nb]; have e : (256 : Nat) ^ 2 = 65536 := by decide
    rw [e]; omega
  have n4 : num (nb 4 (fsum b)) = fsum b := by
    rw [num_nb]; have e : (256 : Nat) ^ 4 = 4294967296 := by decide
    rw [e]; exact Nat.mod_eq_of_lt (fsum_lt b hb)
  unfold frameAt
  rw [e2, e4, n2, n4, e6, List.length_append, hl, if_neg (by omega), if_neg (by omega), if_neg (by omega), if_neg (by omega), if_neg (by simp)]
theorem frameAt_ok {s x : List Nat} (hs : isB s) (h : frameAt s = .ok x) : (framePut x).2 = 0 ∧ s.take (6 + x.length) = (framePut x).1 ∧ 6 + x.length ≤ s.length := by
  unfold frameAt at h
  split at h
  · exact absurd h (by simp)
  split at h
  · exact absurd h (by simp)
  split at h
  · exact absurd h (by simp)
  split at h
  · exact absurd h (by simp)
  split at h
  · exact absurd h (by simp)
  rename_i c1 c2 c3 c4 c5
  have e := Except.ok.inj h
  have hx : x.length = num (s.take 2) := by rw [← e, List.length_take, List.length_drop]; omega
  have n2 : nb 2 x.length = s.take 2 := by
    have := nb_num (s.take 2) (isB_take hs 2)
    rw [show (s.take 2).length = 2 by rw [List.length_take]; omega] at this
    rw [hx, this]
  have n4 : nb 4 (fsum x) = (s.drop 2).take 4 := by
    have := nb_num ((s.drop 2).take 4) (isB_take (isB_drop hs 2) 4)
    rw [show ((s.drop 2).take 4).length = 4 by rw [List.length_take, List.length_drop]; omega] at this
    rw [← e, ← Classical.not_not.1 c5, this]
  have hp : framePut x = (nb 2 x.length ++ nb 4 (fsum x) ++ x, 0) := by unfold framePut; rw [if_pos ⟨by omega, by omega⟩]
  refine ⟨by rw [hp], ?_, by omega⟩
  rw [hp]
  show s.take (6 + x.length) = nb 2 x.length ++ nb 4 (fsum x) ++ x
  rw [n2, n4, ← List.take_add, List.take_add]
  congr 1
  rw [hx]; exact e
end Go.Proofs.Ytdpodjgggicaoaa.H
