/- Layer 11's rows, the program's. -/
import Derived.Test.YtcgjplolehhpjaaKx2
import Derived.Test.YtcgjplolehhpjaaKC10e
import Derived.Test.YtcgjplolehhpjaaH22
set_option linter.unusedVariables false
namespace Go.Proofs.Ytcgjplolehhpjaa.K
open Go.RowKit Go.Proofs.Ytcgjplolehhpjaa.H Go.Proofs.YtcgjplolehhpjaaW.PrintWords Go.Proofs.YtcgjplolehhpjaaW.PrintLast Go.Proofs.YtcgjplolehhpjaaW.PrintMore
theorem w64k (i : Nat) (h : i < 9000000000000000000) : wrap64 ((i : Int) + 1) = ((i + 1 : Nat) : Int) := by unfold wrap64; omega
theorem rdk (l : List Int) (i : Nat) : rd l (i : Int) = l.getD i 0 := by unfold rd; rw [Int.toNat_natCast]
theorem ev_eqk {α : Type} {g : Nat → Option α} {r r' : α} (h : Ev g r) (e : r = r') : Ev g r' := e ▸ h
def forestP (p : List Int) : Prop := okP p ∧ ∀ a, a < (p.length : Int) → ¬ cyc p a
def rowOf (p : List Int) : List It3 := (rowK p (p.length + 1) (-1) 0).getD []
theorem rowOf_eq {p : List Int} (h : forestP p) (hl : p.length ≤ 1000000) : rowK p (p.length + 1) (-1) 0 = some (rowOf p) := by
  obtain ⟨r, hr⟩ := row_some h.1 h.2 hl
  unfold rowOf
  rw [hr]; rfl
open Classical in
noncomputable def itemsP (p : List Int) : List S34 := if forestP p then (rowOf p).map forest_Row_it else []
open Classical in
theorem forestRow_ev (p : List Int) (hl : p.length ≤ 1000000) : Ev (fun k => forest_Row.f k p) (itemsP p) := by
  unfold forest_Row.f itemsP
  refine Ev.bind (parentRight_ev p hl) ?_
  by_cases h : forestP p
  · rw [if_pos h]
    refine Ev.congr (fun k => by rw [decide_eq_true (show okP p ∧ ∀ a, a < (p.length : Int) → ¬ cyc p a from h), if_pos rfl, if_pos ⟨hl, okB_iff.2 h.1⟩]) ?_
    refine Ev.bind (Ev.of (fun k => rowK_mono p k (-1) 0) (rowOf_eq h hl)) ?_
    exact Ev.congr (f := fun _ => some ((rowOf p).map forest_Row_it)) (fun k => by rw [if_pos (by rw [row_length h.1 h.2 (rowOf_eq h hl)]; exact hl)]) (Ev.now _)
  · rw [if_neg h]
    exact Ev.congr (f := fun _ => some ([] : List S34)) (fun k => by rw [decide_eq_false (show ¬ (okP p ∧ ∀ a, a < (p.length : Int) → ¬ cyc p a) from h), if_neg Bool.false_ne_true]) (Ev.now _)
open Classical in
theorem itemsP_length (p : List Int) (hl : p.length ≤ 1000000) : (itemsP p).length ≤ p.length := by
  unfold itemsP
  split
  · rename_i h
    rw [List.length_map, row_length h.1 h.2 (rowOf_eq h hl)]; exact Nat.le_refl _
  · simp
theorem rdI (l : List S34) (i : Nat) : rd_T34 l (i : Int) = l.getD i z34 := by show l.getD _ _ = _; rw [Int.toNat_natCast]
end Go.Proofs.Ytcgjplolehhpjaa.K
