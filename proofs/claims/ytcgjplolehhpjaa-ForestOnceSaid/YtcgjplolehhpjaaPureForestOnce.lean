/- With the parents that the program takes from a batch every span stands in the row once: at its own place and behind its own parent, one deeper, with nothing between them that is not deeper than the parent; for any batch (one that is too great asks the example alone). -/
import Derived.Test.YtcgjplolehhpjaaKx2
import Derived.Test.YtcgjplolehhpjaaKC11s
import Derived.Test.YtcgjplolehhpjaaKC11f
import Derived.Test.YtcgjplolehhpjaaKC10d
set_option linter.unusedVariables false
namespace Go.Proofs.Ytcgjplolehhpjaa.Pure
open Go.RowKit Go.Proofs.Ytcgjplolehhpjaa.K Go.Proofs.YtcgjplolehhpjaaW.PrintWords Go.Proofs.YtcgjplolehhpjaaW.PrintLast Go.Proofs.Ytcgjplolehhpjaa.H

theorem once_fix_ev : Ev (fun k => merkhetlaw11_ForestOnce_fix k) true := by
  unfold merkhetlaw11_ForestOnce_fix
  exact Ev.bind law11_fixed_ev (Ev.congr (f := fun _ => some true) (fun k => by rw [if_pos rfl]) (Ev.now _))
theorem r_rowOf (p : List Int) (i : Nat) (hi : i < (rowOf p).length) : merkhetlaw11_ForestOnce_r ((rowOf p).map forest_Row_it) i = forest_Row_it (rowOf p)[i] := by
  unfold merkhetlaw11_ForestOnce_r
  rw [rdI, List.getD_eq_getElem?_getD, List.getElem?_map, List.getElem?_eq_getElem hi]; rfl
theorem once_deep {p : List Int} {row : List It3} {k : Nat} (hr : rowK p k (-1) 0 = some row) : ∀ (n : Nat) (pre : List It3) (x : It3) (post : List It3), pre.length = n → row = pre ++ x :: post → x.2.1 ≤ (n : Int) := by
  intro n
  induction n using Nat.strongRecOn with
  | ind n ih =>
    intro pre x post hn e
    rcases rowK_par k (-1) 0 row hr pre x post e with ⟨-, h⟩ | ⟨pre1, y, mid, e1, -, e3, -⟩
    · rw [h]; omega
    · have hlt : pre1.length < n := by rw [← hn, e1, List.length_append, List.length_cons]; omega
      have := ih pre1.length hlt pre1 y (mid ++ x :: post) rfl (by rw [e, e1]; simp)
      omega
theorem once_c {p : List Int} (h : forestP p) (hl : p.length ≤ 1000000) {n : Nat} (hn : p.length = n) (i : Nat) (hi : i < ((rowOf p).map forest_Row_it).length) : merkhetlaw11_ForestOnce_c p ((rowOf p).map forest_Row_it) n i := by
  rw [List.length_map] at hi
  have hr := rowOf_eq h hl
  have hx := List.getElem_mem hi
  obtain ⟨⟨a, ha, hal⟩, h2, -, h4, -⟩ := rowK_el _ (-1) 0 _ hr _ hx
  have hap := rowK_apart h.2 _ (-1) 0 _ hr
  rw [List.pairwise_iff_getElem] at hap
  have hsplit : rowOf p = (rowOf p).take i ++ (rowOf p)[i] :: (rowOf p).drop (i + 1) := by
    rw [← List.drop_eq_getElem_cons hi, List.take_append_drop]
  have hpar := rowK_par _ (-1) 0 _ hr _ _ _ hsplit
  unfold merkhetlaw11_ForestOnce_c
  rw [r_rowOf p i hi]
  have hok := okP_nx h.1 (a := (rowOf p)[i].1) (by omega) (by omega)
  refine ⟨⟨by show 0 ≤ (rowOf p)[i].1; omega, by show (rowOf p)[i].1 < _; omega⟩, ?_, ?_, ?_, ?_⟩
  · show rd p (rowOf p)[i].1 = (rowOf p)[i].2.2
    rw [← h2]
    unfold nx
    rw [if_pos (by omega)]
    rfl
  · intro j hj
    rw [r_rowOf p j (by omega)]
    exact (hap j i (by omega) hi hj).1
  · refine ⟨by show 0 ≤ (rowOf p)[i].2.1; omega, ?_⟩
    show (rowOf p)[i].2.1 ≤ 1000000
    have hd := once_deep hr i _ _ _ (by rw [List.length_take]; omega) hsplit
    have hll := row_length h.1 h.2 hr
    omega
  · rcases hpar with ⟨e1, e2⟩ | ⟨pre1, y, mid, e1, e2, e3, e4⟩
    · refine Or.inl ⟨by show (rowOf p)[i].2.2 < 0; omega, by show (rowOf p)[i].2.1 = 0; omega⟩
    · have hlp : ((rowOf p).take i).length = i := by rw [List.length_take]; omega
      have hj : pre1.length < i := by rw [← hlp, e1, List.length_append, List.length_cons]; omega
      have hget : ∀ q (hq : q < i), (rowOf p)[q]'(by omega) = (pre1 ++ y :: mid)[q]'(by rw [← e1, hlp]; exact hq) := fun q hq => by
        have : ((rowOf p).take i)[q]'(by rw [hlp]; exact hq) = (rowOf p)[q]'(by omega) := List.getElem_take
        rw [← this]
        congr 1
      have hyj : (rowOf p)[pre1.length]'(by omega) = y := by rw [hget _ hj]; simp
      refine Or.inr ⟨?_, ?_, pre1.length, hj, ?_, ?_, ?_⟩
      · show 0 ≤ (rowOf p)[i].2.2
        obtain ⟨⟨b, hb, -⟩, -⟩ := rowK_el _ (-1) 0 _ hr y (by rw [← hyj]; exact List.getElem_mem _)
        omega
      · show (rowOf p)[i].2.2 < _
        rw [← h2]; omega
      · rw [r_rowOf p _ (by omega), hyj]; exact e2
      · rw [r_rowOf p _ (by omega), hyj]
        show y.2.1 = (rowOf p)[i].2.1 - 1
        omega
      · intro m hm hmi
        rw [r_rowOf p _ (by omega), r_rowOf p m (by omega), hyj, hget m hmi]
        show y.2.1 < ((pre1 ++ y :: mid)[m]'_).2.1
        apply e4
        rw [List.getElem_append_right (by omega)]
        obtain ⟨t, ht⟩ : ∃ t, m - pre1.length = t + 1 := ⟨m - pre1.length - 1, by omega⟩
        simp only [ht, List.getElem_cons_succ]
        exact List.getElem_mem _
theorem ForestOnce : merkhetlaw11_ForestOnce.Pure := by
  intro l _ hw
  apply Ev.rounds
  unfold merkhetlaw11_ForestOnce.f
  by_cases c : (l.length : Int) > 60
  · exact Ev.congr (fun k => if_pos c) once_fix_ev
  refine Ev.congr (fun k => if_neg c) ?_
  have hl : l.length ≤ 1000000 := by omega
  refine Ev.bind (parentOf_ev l hl (fun s hs => ⟨(hw s hs).2.1, (hw s hs).2.2.1⟩)) ?_
  have hok := par0_ok (l.map fun s => s.f1) (l.map fun s => s.f2) (by simp)
  have hpl : (cut (par0 (l.map fun s => s.f1) (l.map fun s => s.f2))).length = l.length := by rw [cut_length]; simp [par0]
  have hf : forestP (cut (par0 (l.map fun s => s.f1) (l.map fun s => s.f2))) := ⟨cut_ok hok, fun a ha => cut_acyclic hok a (by rw [cut_length] at ha; exact ha)⟩
  generalize cut (par0 (l.map fun s => s.f1) (l.map fun s => s.f2)) = p at hpl hf
  refine Ev.congr (fun k => if_pos hpl) (Ev.bind (forestRow_ev p (by omega)) ?_)
  have hit : itemsP p = (rowOf p).map forest_Row_it := by unfold itemsP; exact if_pos hf
  rw [hit]
  have hrl : ((rowOf p).map forest_Row_it).length = l.length := by rw [List.length_map, row_length hf.1 hf.2 (rowOf_eq hf (by omega)), hpl]
  exact Ev.congr (fun k => if_pos ⟨hrl, fun i hi => once_c hf (by omega) hpl i hi⟩) once_fix_ev
end Go.Proofs.Ytcgjplolehhpjaa.Pure
