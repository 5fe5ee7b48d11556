/- Layer 2's texts, the program's: a text's field. -/
import Derived.Test.YtdpodjgggicaoaaCWC4
import Derived.Test.YtdpodjgggicaoaaCWx3
set_option linter.unusedVariables false
set_option linter.unusedSimpArgs false
namespace Go.Proofs.Ytdpodjgggicaoaa.CW
open Go.RowKit Go.Proofs.YtdpodjgggicaoaaW.PrintWords Go.Proofs.YtdpodjgggicaoaaW.PrintLast Go.Proofs.YtdpodjgggicaoaaW.PrintMore Go.Proofs.Ytdpodjgggicaoaa.H

theorem pack_PutText_nat (b s : List Nat) (hs : isB s) (hl : b.length < 70368744177664) : pack_PutText.f (rowB b) (txt s) = some (rowB (b ++ field s)) := by
  unfold pack_PutText.f
  rw [clone_nat b hl]
  simp only [Option.bind_some]
  rw [txt_size]
  unfold field
  by_cases h : s.length ≤ 16
  · have hw : wrap64 (16 - (s.length : Int)) = ((16 - s.length : Nat) : Int) := by rw [w64 _ (by omega) (by omega)]; omega
    have e1 : rowB b ++ [((s.length : Int)) % 256] = rowB (b ++ [s.length]) := by
      rw [show ((s.length : Int)) % 256 = (s.length : Int) by omega, rowB_append]; rfl
    rw [if_neg (by omega), if_pos h, rowB_length, if_pos (by omega), e1, bytesOf_txt s hs, rowB_length, if_pos (by rw [List.length_append]; simp; omega), hw, if_pos (by omega), ← rowB_append, Int.toNat_natCast, rowB_length,
      if_pos (by rw [List.length_append, List.length_append]; simp; omega), show List.replicate (16 - s.length) (0 : Int) = rowB (List.replicate (16 - s.length) 0) from rowB_replicate _ 0, ← rowB_append]
    simp
  · rw [if_pos (by omega), if_neg h, List.append_nil]
end Go.Proofs.Ytdpodjgggicaoaa.CW
