/- Any head is the document's, and is read as its number and keep. -/
import Derived.Test.YtdpodjgggicaoaaSHC18f
import Derived.Test.YtdpodjgggicaoaaSHC18r
import Derived.Test.YtdpodjgggicaoaaSHx6
set_option linter.unusedVariables false
namespace Go.Proofs.Ytdpodjgggicaoaa.Pure
open Go.RowKit Go.Proofs.Ytdpodjgggicaoaa.SH Go.Proofs.YtdpodjgggicaoaaW.PrintWords Go.Proofs.YtdpodjgggicaoaaW.PrintLast Go.Proofs.Ytdpodjgggicaoaa.H

theorem SegmentHeads : merkhetlaw07_SegmentHeads.Pure := by
  intro a0 a1 h0 h1
  have hw : 0 ≤ a0 ∧ a0 ≤ 4294967295 := by
    simp [Lit.wf, IntKind.min, IntKind.max, IntKind.signed, IntKind.bits] at h0; omega
  obtain ⟨n, rfl⟩ := Int.eq_ofNat_of_zero_le hw.1
  have hn : n < 4294967296 := by omega
  apply Ev.rounds
  unfold merkhetlaw07_SegmentHeads.f
  have hh : Ev (fun _ : Nat => segment_Head.f (n : Int) a1) (rowB (segPut n a1).1, (segPut n a1).2) := ⟨0, fun k _ => segment_Head_nat n hn a1⟩
  refine Ev.bind hh (Ev.bind (ref_Head_ev n hn a1) ?_)
  refine Ev.congr (f := fun k => merkhetlaw07_SegmentHeads.j0 k n a1 (rowB (segPut n a1).1) (segPut n a1).2 false) (fun k => by rw [strOf_rowB, if_pos rfl, bne_self_eq_false]) ?_
  by_cases h : 1 ≤ a1 ∧ a1 ≤ 16
  · obtain ⟨q, rfl⟩ := Int.eq_ofNat_of_zero_le (show 0 ≤ a1 by omega)
    have e : segPut n q = (segHead n q, 0) := by unfold segPut; rw [if_pos h, Int.toNat_natCast]
    rw [e]
    have r := segment_Read_14 (segHead n q) (segHead_isB n q) (by rw [segHead_length]; decide)
    rw [seg14_head n q hn (by omega) (by omega)] at r
    refine Ev.step (f := fun k => (segment_Read.f k (rowB (segHead n q))).bind fun bt235 => ((merkhetlaw07_fixed.f k).bind fun t244 => (if t244 = true then (if bt235.2.2.2.2.2 = 0 then (if bt235.1 = (n : Int) then (some (bt235.2.1 == (q : Int))) else (some false)) else (some false)) else (some false)))) (fun k => by rw [merkhetlaw07_SegmentHeads.j0, if_neg (by decide)]; rfl) ?_
    refine Ev.bind r (Ev.bind law07_fixed_ev ?_)
    refine Ev.congr (fun k => ?_) (Ev.now _)
    simp
  · have e : segPut n a1 = ([], 1) := by unfold segPut; rw [if_neg h]
    rw [e]
    have r := segment_Read_14 [] isB_nil (by decide)
    have e14 : seg14 [] = (0, 0, [], 0, false, 2) := rfl
    rw [e14] at r
    refine Ev.step (f := fun k => (segment_Read.f k (rowB [])).bind fun bt235 => ((merkhetlaw07_fixed.f k).bind fun t245 => (if t245 = true then (some (bt235.2.2.2.2.2 == 2)) else (some false)))) (fun k => by rw [merkhetlaw07_SegmentHeads.j0, if_neg (by decide)]; rfl) ?_
    refine Ev.bind r (Ev.bind law07_fixed_ev ?_)
    exact Ev.congr (fun k => if_pos rfl) (Ev.now _)
end Go.Proofs.Ytdpodjgggicaoaa.Pure
