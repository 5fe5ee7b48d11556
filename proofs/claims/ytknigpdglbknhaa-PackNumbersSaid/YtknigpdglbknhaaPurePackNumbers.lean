/- Any number's bytes behind any others, and the number at any place of these, are the document's, and what is laid is there again: for byte rows of any length (beyond 200 the law asks its examples alone). -/
import Derived.Test.YtknigpdglbknhaaRC5
import Derived.Test.YtknigpdglbknhaaRx6
set_option linter.unusedVariables false
namespace Go.Proofs.Ytknigpdglbknhaa.Pure
open Go.RowKit Go.Proofs.Ytknigpdglbknhaa.R Go.Proofs.YtknigpdglbknhaaW.PrintWords Go.Proofs.YtknigpdglbknhaaW.PrintLast Go.Proofs.Ytknigpdglbknhaa.H
theorem PackNumbers : merkhetlaw02_PackNumbers.Pure := by
  intro l0 a1 p0 p1 hmax _ hl ha1 _ _
  obtain ⟨b, rfl, hb⟩ := row_bytes l0 hl
  obtain ⟨n, rfl, hn⟩ : ∃ n : Nat, a1 = (n : Int) ∧ n < 18446744073709551616 := by
    simp [Lit.wf, IntKind.min, IntKind.max, IntKind.signed, IntKind.bits] at ha1
    exact ⟨a1.toNat, by omega, by omega⟩
  refine ⟨30, ?_⟩
  unfold merkhetlaw02_PackNumbers.f
  rw [law02_fixed, rowB_length]
  by_cases h : (b.length : Int) > 200
  · rw [if_pos h]; rfl
  · rw [if_neg h]
    have hc := cnt_le p0
    have hnb := nb_isB (cnt p0) n
    have hnl := nb_length (cnt p0) n
    have hbn := isB_append hb hnb
    rw [pack_Put_nat b n p0 (by omega)]
    simp only [Option.bind_some]
    rw [strOf_rowB, strOf_rowB, pack_Get_nat 30 (by omega) b p1 p0 hb (by omega), ref_Get_nat 30 (by omega) b p1 p0 hb (by omega), ref_Put_nat 30 (by omega) n p0 hn]
    simp only [Option.bind_some]
    rw [txt_size, txt_size, hnl, if_pos (by omega), txt_append, if_pos rfl, if_pos trivial]
    have e1 : ((getR b p1 (cnt p0)).2 != (getR b p1 (cnt p0)).2) = false := by simp
    have e2 : ((txt b).toList != (txt b).toList) = false := by simp
    rw [e1, if_neg (by decide), e2, show (30 : Nat) = 29 + 1 from rfl, merkhetlaw02_PackNumbers.j0, if_neg (by decide)]
    rw [rowB_length, pack_Get_nat 29 (by omega) (b ++ nb (cnt p0) n) (b.length : Int) p0 hbn (by rw [List.length_append]; omega)]
    simp only [Option.bind_some]
    rw [ref_Put_nat 29 (by omega) n p0 hn]
    simp only [Option.bind_some]
    rw [ref_Get_nat 29 (by omega) (nb (cnt p0) n) 0 p0 hnb (by omega), law02_fixed]
    simp only [Option.bind_some, if_true]
    have g1 := getN_put b (cnt p0) n []
    have g2 := getN_put [] (cnt p0) n []
    rw [List.append_nil] at g1 g2
    rw [List.nil_append] at g2
    rw [show (([] : List Nat).length : Int) = 0 from rfl] at g2
    unfold getR
    rw [g1, g2]
    simp
end Go.Proofs.Ytknigpdglbknhaa.Pure
