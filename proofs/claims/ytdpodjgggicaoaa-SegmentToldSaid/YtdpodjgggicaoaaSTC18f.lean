/- Layer 7's example. -/
import Derived.Test.YtdpodjgggicaoaaSTC18a
import Derived.Test.YtdpodjgggicaoaaSTx5
set_option linter.unusedVariables false
namespace Go.Proofs.Ytdpodjgggicaoaa.ST
open Go.RowKit Go.Proofs.YtdpodjgggicaoaaW.PrintWords Go.Proofs.YtdpodjgggicaoaaW.PrintLast Go.Proofs.YtdpodjgggicaoaaW.PrintMore Go.Proofs.Ytdpodjgggicaoaa.H

theorem seg14_head (n k : Nat) (hn : n < 4294967296) (h1 : 1 ≤ k) (h2 : k ≤ 16) : seg14 (segHead n k) = ((n : Int), (k : Int), [], 14, false, 0) := by
  unfold seg14
  rw [segBegin_head n k hn h1 h2, if_pos rfl]
theorem law07_fixed_ev : Ev (fun k => merkhetlaw07_fixed.f k) true := by
  have h := segment_Head_nat 7 (by decide) 3
  have e : segPut 7 3 = (segHead 7 3, 0) := rfl
  rw [e] at h
  have r := segment_Read_14 (segHead 7 3) (segHead_isB 7 3) (by rw [segHead_length]; decide)
  rw [seg14_head 7 3 (by decide) (by decide) (by decide)] at r
  unfold merkhetlaw07_fixed.f
  have h' : Ev (fun _ : Nat => segment_Head.f 7 3) (rowB (segHead 7 3), (0 : Int)) := ⟨0, fun k _ => h⟩
  refine Ev.bind h' (Ev.bind r ?_)
  exact Ev.congr (fun k => if_pos ⟨⟨rfl, by rw [rowB_length, segHead_length]⟩, rfl, rfl, rfl, rfl, rfl, rfl⟩) (Ev.now _)
end Go.Proofs.Ytdpodjgggicaoaa.ST
