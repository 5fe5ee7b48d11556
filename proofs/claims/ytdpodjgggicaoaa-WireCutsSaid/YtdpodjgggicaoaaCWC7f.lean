/- Layer 4's example. -/
import Derived.Test.YtdpodjgggicaoaaCWC7
import Derived.Test.YtdpodjgggicaoaaCWx4
set_option linter.unusedVariables false
set_option linter.unusedSimpArgs false
namespace Go.Proofs.Ytdpodjgggicaoaa.CW
open Go.RowKit Go.Proofs.YtdpodjgggicaoaaW.PrintWords Go.Proofs.YtdpodjgggicaoaaW.PrintLast Go.Proofs.YtdpodjgggicaoaaW.PrintMore Go.Proofs.Ytdpodjgggicaoaa.H

theorem law04_fixed_ev : Ev (fun k => merkhetlaw04_fixed.f k) true := by
  have g : ∀ p ∈ [(⟨1, 1, 0, 0, [97], [98], 0, 0⟩ : PS)], p.good := fun p hp => by
    rw [List.mem_singleton.1 hp]
    exact ⟨by decide, by decide, by decide, by decide, fun x hx => by simp at hx; omega, by decide, fun x hx => by simp at hx; omega, by decide, by decide, by decide, by decide, by decide⟩
  have h := wire_Put_ev [(⟨1, 1, 0, 0, [97], [98], 0, 0⟩ : PS)] g (fun p hp => by rw [List.mem_singleton.1 hp]; exact ⟨by decide, by decide⟩)
  have e : (wirePut [(⟨1, 1, 0, 0, [97], [98], 0, 0⟩ : PS)]) = (spanHead ++ nb 2 1 ++ bytesP ⟨1, 1, 0, 0, [97], [98], 0, 0⟩, 0) := by decide +kernel
  rw [e] at h
  refine Ev.bind h ?_
  have hl : (spanHead ++ nb 2 1 ++ bytesP ⟨1, 1, 0, 0, [97], [98], 0, 0⟩).length = 81 := by decide +kernel
  have ht : (spanHead ++ nb 2 1 ++ bytesP ⟨1, 1, 0, 0, [97], [98], 0, 0⟩).take 6 = [83, 80, 65, 78, 1, 0] := by decide +kernel
  refine Ev.congr (fun k => ?_) (Ev.now true)
  simp only []
  rw [rowB_length, hl, if_pos trivial, if_pos (by decide), if_pos (by decide), rowB_take, ht, strOf_rowB, txt_toList]
  rfl
end Go.Proofs.Ytdpodjgggicaoaa.CW
