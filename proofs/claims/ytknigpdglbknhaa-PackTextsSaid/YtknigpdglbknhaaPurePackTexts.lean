/- Any text's field behind any bytes is the document's, and is read as the text: for byte rows and texts of any length (beyond 200 the law asks its examples alone). -/
import Derived.Test.YtknigpdglbknhaaRC5
import Derived.Test.YtknigpdglbknhaaRx2
set_option linter.unusedVariables false
namespace Go.Proofs.Ytknigpdglbknhaa.Pure
open Go.RowKit Go.Proofs.Ytknigpdglbknhaa.R Go.Proofs.YtknigpdglbknhaaW.PrintWords Go.Proofs.YtknigpdglbknhaaW.PrintLast Go.Proofs.Ytknigpdglbknhaa.H
theorem PackTexts : merkhetlaw02_PackTexts.Pure := by
  intro l0 a1 hmax _ hl ha1
  obtain ⟨b, rfl, hb⟩ := row_bytes l0 hl
  obtain ⟨s, rfl, hs⟩ := txt_of a1
  rw [txt_size] at ha1
  have hj : ∀ v, merkhetlaw02_PackTexts.j0 30 (rowB b) (txt s) v = some true ↔ (v = false → merkhetlaw02_PackTexts.j0 30 (rowB b) (txt s) false = some true) := by
    intro v
    cases v with
    | true => rw [show (30 : Nat) = 29 + 1 from rfl, merkhetlaw02_PackTexts.j0, if_pos rfl, law02_fixed]; simp
    | false => simp
  refine ⟨30, ?_⟩
  unfold merkhetlaw02_PackTexts.f
  rw [rowB_length]
  by_cases h : (b.length : Int) > 200
  · rw [if_pos h, hj]; simp
  · rw [if_neg h, hj, txt_size]
    intro hv
    have hsl : ¬ ((s.length : Int) > 200) := of_decide_eq_false hv
    rw [show (30 : Nat) = 29 + 1 from rfl, merkhetlaw02_PackTexts.j0, if_neg (by decide), pack_PutText_nat b s hs (by omega)]
    simp only [Option.bind_some]
    rw [ref_PutText_nat 29 (by omega) s ha1]
    simp only [Option.bind_some]
    have hfl : (field s).length ≤ 17 := by unfold field; split <;> simp; omega
    rw [strOf_rowB, strOf_rowB, txt_size, txt_size, if_pos (by omega), txt_append, if_pos rfl]
    have e2 : ((txt b).toList != (txt b).toList) = false := by simp
    have hbf := isB_append hb (field_isB hs)
    rw [e2, show (29 : Nat) = 28 + 1 from rfl, merkhetlaw02_PackTexts.j1, if_neg (by decide), rowB_length, pack_GetText_nat 28 (by omega) (b ++ field s) (b.length : Int) hbf (by rw [List.length_append]; omega)]
    simp only [Option.bind_some]
    rw [txt_size]
    unfold getTR
    by_cases h16 : s.length ≤ 16
    · have g := getT_put b s [] h16
      rw [List.append_nil] at g
      rw [if_neg (by omega), law02_fixed, g]
      simp
    · have hf : field s = [] := by unfold field; rw [if_neg h16]
      have g : getT (b ++ field s) (b.length : Int) = none := by
        unfold getT
        rw [hf, List.append_nil, if_neg (by omega)]
      rw [if_pos (by omega), law02_fixed, g]
      simp only [Option.bind_some, if_true]
      rw [if_neg (by decide), ba_toList]
      rfl
end Go.Proofs.Ytknigpdglbknhaa.Pure
