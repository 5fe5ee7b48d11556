/- The frame of any body, and of what is none, is the document's, and it is read as that body, wherever it stands: for any bodies and any bytes ahead (beyond 3000, or 100 ahead, the law asks its example alone). -/
import Derived.Test.YtdpodjgggicaoaaFC9g
import Derived.Test.YtdpodjgggicaoaaFC9r
import Derived.Test.YtdpodjgggicaoaaFx3
set_option linter.unusedVariables false
namespace Go.Proofs.Ytdpodjgggicaoaa.Pure
open Go.RowKit Go.Proofs.Ytdpodjgggicaoaa.F Go.Proofs.YtdpodjgggicaoaaW.PrintWords Go.Proofs.YtdpodjgggicaoaaW.PrintLast Go.Proofs.Ytdpodjgggicaoaa.H

theorem FramePuts : merkhetlaw06_FramePuts.Pure := by
  intro l0 l1 _ _ h0 _ _ h1
  obtain ⟨b, rfl, hb⟩ := row_bytes l0 h0
  obtain ⟨a, rfl, ha⟩ := row_bytes l1 h1
  apply Ev.rounds
  have jt : Ev (fun k => merkhetlaw06_FramePuts.j0 k (rowB b) (rowB a) true) true := Ev.step (f := fun k => (merkhetlaw06_fixed.f k).bind fun t => some t) (fun k => by rw [merkhetlaw06_FramePuts.j0, if_pos rfl]) (Ev.bind law06_fixed_ev (Ev.now _))
  by_cases c1 : (b.length : Int) > 3000
  · exact Ev.congr (f := fun k => merkhetlaw06_FramePuts.j0 k (rowB b) (rowB a) true) (fun k => by rw [merkhetlaw06_FramePuts.f, rowB_length, if_pos c1]) jt
  by_cases c2 : (a.length : Int) > 100
  · exact Ev.congr (f := fun k => merkhetlaw06_FramePuts.j0 k (rowB b) (rowB a) true) (fun k => by rw [merkhetlaw06_FramePuts.f, rowB_length, if_neg c1, rowB_length, decide_eq_true c2]) jt
  refine Ev.congr (f := fun k => merkhetlaw06_FramePuts.j0 k (rowB b) (rowB a) false) (fun k => by rw [merkhetlaw06_FramePuts.f, rowB_length, if_neg c1, rowB_length, decide_eq_false c2]) ?_
  refine Ev.step (f := fun k => (frame_Put.f k (rowB b)).bind fun bt148 => ((merkhetref06_Put.f k (txt b)).bind fun bt152 => (if (strOfNums bt148.1).toList = bt152.1.toList then (merkhetlaw06_FramePuts.j1 k (rowB b) (rowB a) bt148.1 bt148.2 (bt148.2 != bt152.2)) else (merkhetlaw06_FramePuts.j1 k (rowB b) (rowB a) bt148.1 bt148.2 true)))) (fun k => by rw [merkhetlaw06_FramePuts.j0, if_neg (by decide), strOf_rowB]) ?_
  refine Ev.bind (frame_Put_ev b hb) (Ev.bind (ref_fPut_ev b hb (by omega)) ?_)
  refine Ev.congr (f := fun k => merkhetlaw06_FramePuts.j1 k (rowB b) (rowB a) (rowB (framePut b).1) (framePut b).2 false) (fun k => by rw [strOf_rowB, if_pos rfl, bne_self_eq_false]) ?_
  by_cases h : (framePut b).2 = 0
  · obtain ⟨hl, hl1, hl2⟩ := framePut_length b h
    have hf := framePut_isB hb
    have hg := frame_Get_ev (a ++ (framePut b).1) (a.length : Int) (isB_append ha hf) (by rw [List.length_append]; omega)
    have hv : frameGet (a ++ (framePut b).1) (a.length : Int) = (b, (a.length : Int) + 6 + (b.length : Int), 0) := by
      have hat := frameAt_put (more := []) hb h
      rw [List.append_nil] at hat
      unfold frameGet
      rw [if_neg (by rw [List.length_append]; omega), Int.toNat_natCast, List.drop_left, hat]
    rw [hv] at hg
    have ew : wrap64 ((a.length : Int) + ((framePut b).1.length : Int)) = (a.length : Int) + 6 + (b.length : Int) := by rw [hl, w64f _ (by omega) (by omega)]; omega
    refine Ev.step (f := fun k => (frame_Get.f k (rowB (a ++ (framePut b).1)) (a.length : Int)).bind fun bt163 => ((merkhetlaw06_fixed.f k).bind fun t168 => (if t168 = true then (if bt163.2.2 = 0 then (if (strOfNums bt163.1).toList = (txt b).toList then (some (bt163.2.1 == ((a.length : Int) + 6 + (b.length : Int)))) else (some false)) else (some false)) else (some false)))) (fun k => by
      rw [merkhetlaw06_FramePuts.j1, if_neg (by decide), if_pos h, Option.bind_some, rowB_length, if_pos (by simp; omega), Option.bind_some, List.nil_append, rowB_length, rowB_length, if_pos (by rw [hl]; omega), ← rowB_append, ew, strOf_rowB]) ?_
    refine Ev.bind hg (Ev.bind law06_fixed_ev (Ev.congr (fun k => ?_) (Ev.now true)))
    rw [if_pos rfl, if_pos rfl, strOf_rowB, if_pos rfl, beq_self_eq_true]
  · exact Ev.step (f := fun k => (merkhetlaw06_fixed.f k).bind fun t => some t) (fun k => by rw [merkhetlaw06_FramePuts.j1, if_neg (by decide), if_neg h]) (Ev.bind law06_fixed_ev (Ev.now _))
end Go.Proofs.Ytdpodjgggicaoaa.Pure
