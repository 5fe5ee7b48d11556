/- The plain mathematics of layer 7: a segment's head. -/
import Derived.Test.YtdpodjgggicaoaaH9r
set_option linter.unusedVariables false
namespace Go.Proofs.Ytdpodjgggicaoaa.H
def segLetters : List Nat := [83, 69, 71, 49]
theorem segLetters_isB : isB segLetters := fun x hx => by simp [segLetters] at hx; omega
def segBody (n k : Nat) : List Nat := segLetters ++ nb 4 n ++ nb 2 k
theorem segBody_isB (n k : Nat) : isB (segBody n k) := isB_append (isB_append segLetters_isB (nb_isB _ _)) (nb_isB _ _)
theorem segBody_length (n k : Nat) : (segBody n k).length = 10 := by simp only [segBody, List.length_append, nb_length]; rfl
def segHead (n k : Nat) : List Nat := segBody n k ++ nb 4 (sumFrom 0 (segBody n k))
theorem segHead_isB (n k : Nat) : isB (segHead n k) := isB_append (segBody_isB n k) (nb_isB _ _)
theorem segHead_length (n k : Nat) : (segHead n k).length = 14 := by simp only [segHead, List.length_append, nb_length, segBody_length]
def segPut (n : Nat) (keep : Int) : List Nat × Int := if 1 ≤ keep ∧ keep ≤ 16 then (segHead n keep.toNat, 0) else ([], 1)
def segBegin (b : List Nat) : Int × Int × List Nat × Int :=
  if b.length < 14 then (0, 0, [], 2) else
  if b.take 4 ≠ segLetters then (0, 0, [], 3) else
  if num ((b.drop 10).take 4) ≠ sumFrom 0 (b.take 10) then (0, 0, [], 8) else
  if 1 ≤ num ((b.drop 8).take 2) ∧ num ((b.drop 8).take 2) ≤ 16 then ((num ((b.drop 4).take 4) : Int), (num ((b.drop 8).take 2) : Int), b, 0) else (0, 0, [], 4)
theorem segBegin_head (n k : Nat) (hn : n < 4294967296) (h1 : 1 ≤ k) (h2 : k ≤ 16) : segBegin (segHead n k) = ((n : Int), (k : Int), segHead n k, 0) := by
  have hb := segBody_isB n k
  have hl := segBody_length n k
  have hs : sumFrom 0 (segBody n k) < 4294967296 := sumFrom_small _ _ (by decide) hb
  have e10 : (segHead n k).take 10 = segBody n k := List.take_left' hl
  have e14 : ((segHead n k).drop 10).take 4 = nb 4 (sumFrom 0 (segBody n k)) := by
    unfold segHead
    rw [List.drop_left' hl, List.take_of_length_le (by rw [nb_length]; exact Nat.le_refl _)]
  have e4 : (segHead n k).take 4 = segLetters := by
    rw [show segHead n k = segLetters ++ (nb 4 n ++ (nb 2 k ++ nb 4 (sumFrom 0 (segBody n k)))) by simp only [segHead, segBody, List.append_assoc]]
    exact List.take_left' rfl
  have e8 : ((segHead n k).drop 4).take 4 = nb 4 n := by
    rw [show segHead n k = segLetters ++ (nb 4 n ++ (nb 2 k ++ nb 4 (sumFrom 0 (segBody n k)))) by simp only [segHead, segBody, List.append_assoc]]
    rw [List.drop_left' (show segLetters.length = 4 from rfl), List.take_left' (nb_length _ _)]
  have e2 : ((segHead n k).drop 8).take 2 = nb 2 k := by
    rw [show segHead n k = (segLetters ++ nb 4 n) ++ (nb 2 k ++ nb 4 (sumFrom 0 (segBody n k))) by simp only [segHead, segBody, List.append_assoc]]
    rw [List.drop_left' (show (segLetters ++ nb 4 n).length = 8 by rw [List.length_append, nb_length]; rfl), List.take_left' (nb_length _ _)]
  have p4 : (256 : Nat) ^ 4 = 4294967296 := by decide
  have p2 : (256 : Nat) ^ 2 = 65536 := by decide
  have n4 : num (nb 4 n) = n := by rw [num_nb, p4]; omega
  have n2 : num (nb 2 k) = k := by rw [num_nb, p2]; omega
  have ns : num (nb 4 (sumFrom 0 (segBody n k))) = sumFrom 0 (segBody n k) := by rw [num_nb, p4]; omega
  unfold segBegin
  rw [segHead_length, e4, e14, e10, e8, e2, n4, n2, ns, if_neg (by decide), if_neg (by simp), if_neg (by simp), if_pos ⟨h1, h2⟩]
def seg14 (b : List Nat) : Int × Int × List (List Int) × Int × Bool × Int :=
  if (segBegin b).2.2.2 = 0 then ((segBegin b).1, (segBegin b).2.1, [], 14, false, 0) else (0, 0, [], 0, false, (segBegin b).2.2.2)
end Go.Proofs.Ytdpodjgggicaoaa.H
