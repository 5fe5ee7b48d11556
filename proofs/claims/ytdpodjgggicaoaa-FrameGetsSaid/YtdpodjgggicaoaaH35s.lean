/- A row of bytes of the call's own, as one of which every cell is a byte. -/
import Derived.Test.YtdpodjgggicaoaaH31s
set_option linter.unusedVariables false
namespace Go.Proofs.Ytdpodjgggicaoaa.H
open Go.RowKit Go.Proofs.YtdpodjgggicaoaaW.PrintWords Go.Proofs.YtdpodjgggicaoaaW.PrintMore
theorem u8row_R {E : Nat} {w : World} {base : Nat} {ok : Nat → Prop} {v : Value} {xs : List Int} (h : (Kd.int .u8).R E w base ok v xs) (hm : xs.length ≤ 140737488355328) : U8Row E w base v xs.length := by
  obtain ⟨A2, c2, rfl⟩ := Kd.R_slice h
  refine ⟨A2, c2, rfl, hm, fun hp2 => ?_⟩
  obtain ⟨g2, cap2, cur, e, hb2, hh, hnc, hcm, hsz, htk⟩ := R_unpack h hp2
  injection e with e1 _ _
  refine ⟨g2, e1, hb2, cur.toArray, hh, fun j hj => ?_⟩
  have h2 := congrArg (fun l => l[j]?) htk
  simp only [List.getElem?_take, if_pos hj, List.getElem?_map, List.getElem?_eq_getElem hj] at h2
  exact ⟨_, by simpa using h2⟩
end Go.Proofs.Ytdpodjgggicaoaa.H
