/- With which segment any bytes begin, or why with none, is the document's: for any bytes (more than 6,000 ask the example alone). -/
import Derived.Test.YtdpodjgggicaoaaSSC18mq
import Derived.Test.YtdpodjgggicaoaaSSx12q
set_option linter.unusedVariables false
namespace Go.Proofs.Ytdpodjgggicaoaa.Pure
open Go.RowKit Go.Proofs.Ytdpodjgggicaoaa.SS Go.Proofs.YtdpodjgggicaoaaW.PrintWords Go.Proofs.YtdpodjgggicaoaaW.PrintLast Go.Proofs.Ytdpodjgggicaoaa.H
theorem segmentReads_fix : Ev (fun k => merkhetlaw07_SegmentReads_fix k) true := Ev.bind law07_fixed_ev (Ev.congr (fun k => if_pos rfl) (Ev.now _))
theorem segRead_small (b : List Nat) (hb : isB b) : (segRead b).2.2.1.length ≤ 16 ∧ ∀ x ∈ (segRead b).2.2.1, x.length < 100000 := by
  unfold segRead
  by_cases h : (segBegin b).2.2.2 = 0
  · obtain ⟨h1, h2, h3, h4⟩ := segBegin_keep b h
    rw [if_pos h]
    refine ⟨Nat.le_trans (segRows_length _ _ _) (by omega), fun x hx => ?_⟩
    have hx : x ∈ (segRows (segBegin b).2.1.toNat b 14).1 := hx
    rw [(segRows_all _ _ _).1] at hx
    exact (allF_is _ _ _ hb x ((List.takeWhile_sublist _).subset hx)).2
  · rw [if_neg h]
    exact ⟨Nat.zero_le _, fun x hx => by simp at hx⟩
theorem segRead_err (b : List Nat) : (segRead b).2.2.2.2.2 = (segTold b).2.2.2.2 := by
  unfold segRead segTold
  split <;> rfl
theorem SegmentReads : merkhetlaw07_SegmentReads.Pure := by
  intro l0 _ _ hw0
  obtain ⟨b, rfl, hb⟩ := row_bytes l0 hw0
  apply Ev.rounds
  unfold merkhetlaw07_SegmentReads.f
  by_cases c0 : (((rowB b).length : Nat) : Int) > 6000
  · exact Ev.congr (fun k => if_pos c0) segmentReads_fix
  have hl : b.length ≤ 6000 := by rw [rowB_length] at c0; omega
  obtain ⟨q1, q2⟩ := segRead_small b hb
  refine Ev.congr (fun k => if_neg c0) (Ev.bind (segment_Read_ev b hb (by omega)) ?_)
  rw [strOf_rowB]
  refine Ev.bind (ref_Read_ev b hb (by omega)) ?_
  refine Ev.congr (fun k => if_pos (segRead_err b)) (Ev.bind (law07_same_ev b) ?_)
  refine Ev.congr (fun k => if_pos ⟨rfl, by simp only [List.length_map]; omega, fun x hx => ?_⟩) segmentReads_fix
  obtain ⟨y, hy, rfl⟩ := List.mem_map.1 hx
  have := q2 y hy
  rw [rowB_length]; omega
end Go.Proofs.Ytdpodjgggicaoaa.Pure
