/- What stands in any bytes at any place, and all from there on, is the document's: for any bytes (more than 5,000 ask the example alone). -/
import Derived.Test.YtdpodjgggicaoaaFGC9ws
import Derived.Test.YtdpodjgggicaoaaFGx5s
set_option linter.unusedVariables false
namespace Go.Proofs.Ytdpodjgggicaoaa.Pure
open Go.RowKit Go.Proofs.Ytdpodjgggicaoaa.FG Go.Proofs.YtdpodjgggicaoaaW.PrintWords Go.Proofs.YtdpodjgggicaoaaW.PrintLast Go.Proofs.Ytdpodjgggicaoaa.H
theorem frameGets_fix : Ev (fun k => merkhetlaw06_FrameGets_fix k) true := Ev.bind law06_fixed_ev (Ev.congr (fun k => if_pos rfl) (Ev.now _))
theorem frameGet_small (b : List Nat) (hb : isB b) (at_ : Int) : (frameGet b at_).1.length ≤ 2406 := by
  unfold frameGet
  split
  · exact Nat.zero_le _
  · cases hf : frameAt (b.drop at_.toNat) with
    | error e => exact Nat.zero_le _
    | ok x => exact (frameAt_len (isB_drop hb _) hf).2.2.1
theorem allA_small (b : List Nat) (hb : isB b) (at_ most : Int) : 7 * (allA b at_ most).1.length ≤ b.length ∧ ∀ x ∈ (allA b at_ most).1, x.length ≤ 2406 := by
  unfold allA
  split
  · exact ⟨Nat.zero_le _, fun x hx => by simp at hx⟩
  · obtain ⟨h1, h2⟩ := allF_small most.toNat b at_.toNat hb
    exact ⟨Nat.le_trans h1 (Nat.sub_le _ _), fun x hx => (h2 x hx).2⟩
theorem FrameGets : merkhetlaw06_FrameGets.Pure := by
  intro l0 a1 a2 _ _ hw0 _ _
  obtain ⟨b, rfl, hb⟩ := row_bytes l0 hw0
  apply Ev.rounds
  unfold merkhetlaw06_FrameGets.f
  by_cases c0 : (((rowB b).length : Nat) : Int) > 5000
  · exact Ev.congr (fun k => if_pos c0) frameGets_fix
  have hl : b.length ≤ 5000 := by rw [rowB_length] at c0; omega
  refine Ev.congr (fun k => if_neg c0) (Ev.bind (frame_Get_ev b a1 hb (by omega)) ?_)
  rw [strOf_rowB]
  refine Ev.bind (ref_fGet_ev b a1 hb (by omega)) ?_
  have hg := frameGet_small b hb a1
  refine Ev.congr (fun k => if_pos ⟨⟨strOf_rowB _, rfl⟩, rfl, by rw [rowB_length]; omega⟩) (Ev.bind (frame_All_ev b hb (by omega) a1 a2) (Ev.bind (ref_fAllA_ev b hb (by omega) a1 a2) ?_))
  obtain ⟨s1, s2⟩ := allA_small b hb a1 a2
  refine Ev.bind (Same_ev _ (by omega)) ?_
  refine Ev.congr (fun k => if_pos ⟨⟨rfl, rfl⟩, by simp only [List.length_map]; omega, fun x hx => ?_⟩) frameGets_fix
  obtain ⟨y, hy, rfl⟩ := List.mem_map.1 hx
  have := s2 y hy
  rw [rowB_length]; omega
end Go.Proofs.Ytdpodjgggicaoaa.Pure
