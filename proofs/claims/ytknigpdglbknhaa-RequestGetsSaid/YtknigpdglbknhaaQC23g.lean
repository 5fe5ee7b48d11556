/- Layer 23, the document's Get: it is the plain one of C23a. -/
import Derived.Test.YtknigpdglbknhaaQC23a
import Derived.Test.YtknigpdglbknhaaQx2
set_option linter.unusedVariables false
namespace Go.Proofs.Ytknigpdglbknhaa.Q
open Go.RowKit Go.Proofs.Ytknigpdglbknhaa.H Go.Proofs.YtknigpdglbknhaaW.PrintWords Go.Proofs.YtknigpdglbknhaaW.PrintLast Go.Proofs.YtknigpdglbknhaaW.PrintMore
theorem getB_txt (m : List Nat) (hb : isB m) : merkhetref23_Get_b (txt m) = rowB m := by
  show (txt m).data.toList.map (fun x => (x.toNat : Int)) = _
  rw [txt_data, List.map_map]
  refine List.map_congr_left fun x hx => ?_
  have := hb x hx
  simp [Nat.mod_eq_of_lt this]
theorem getRq_t {m : List Nat} (hb : isB m) : 0 ≤ (getRq m).2.2.1 ∧ (getRq m).2.2.1 ≤ 18446744073709551615 := by
  cases m with
  | nil => exact ⟨Int.le_refl _, (by decide : (0 : Int) ≤ 18446744073709551615)⟩
  | cons c r =>
    have hbr : isB r := fun x hx => hb x (List.mem_cons_of_mem _ hx)
    rw [getRq_cons]
    split
    · split <;> exact ⟨Int.le_refl _, (by decide : (0 : Int) ≤ 18446744073709551615)⟩
    split
    · split
      · exact ⟨Int.le_refl _, (by decide : (0 : Int) ≤ 18446744073709551615)⟩
      split
      · exact ⟨Int.le_refl _, (by decide : (0 : Int) ≤ 18446744073709551615)⟩
      · have h1 := num_lt r hbr
        rw [show r.length = 8 by omega, show (256 : Nat) ^ 8 = 18446744073709551616 from rfl] at h1
        show 0 ≤ ((num r : Nat) : Int) ∧ ((num r : Nat) : Int) ≤ 18446744073709551615
        omega
    split
    · split <;> exact ⟨Int.le_refl _, (by decide : (0 : Int) ≤ 18446744073709551615)⟩
    · exact ⟨Int.le_refl _, (by decide : (0 : Int) ≤ 18446744073709551615)⟩
theorem getRq_len (m : List Nat) : (getRq m).2.1.length ≤ 4096 := by
  cases m with
  | nil => exact Nat.zero_le _
  | cons c r =>
    rw [getRq_cons]
    split
    · split
      · exact Nat.zero_le _
      · show r.length ≤ 4096; omega
    split
    · split
      · exact Nat.zero_le _
      split <;> exact Nat.zero_le _
    split
    · split <;> exact Nat.zero_le _
    · exact Nat.zero_le _
theorem refGet23_ev (m : List Nat) (hb : isB m) (hl : m.length < 70368744177664) : Ev (fun k => merkhetref23_Get.f k (txt m)) ((getRq m).1, rowB (getRq m).2.1, (getRq m).2.2) := by
  unfold merkhetref23_Get.f
  rw [txt_size]
  cases m with
  | nil => exact Ev.congr (f := fun _ => some ((0 : Int), ([] : List Int), (0 : Int), (2 : Int))) (fun k => by rw [if_pos (show ([] : List Nat).length = 0 from rfl)]) (Ev.now _)
  | cons c r =>
    have hc := hb c List.mem_cons_self
    have hbr : isB r := fun x hx => hb x (List.mem_cons_of_mem _ hx)
    have hlr : (c :: r).length = r.length + 1 := rfl
    have e0 : bt (txt (c :: r)) 0 = (c : Int) := by
      have := bt_txt (c :: r) hb 0 (by rw [hlr]; omega)
      rw [show ((0 : Nat) : Int) = 0 from rfl] at this
      rw [this]; rfl
    have e2 : (txt (c :: r)).extract 1 (r.length + 1) = txt r := by
      rw [txt_extract, List.take_of_length_le (by rw [hlr]; omega)]; rfl
    refine Ev.congr (fun k => by rw [if_neg (show ¬ (c :: r).length = 0 by rw [hlr]; omega), e0, hlr, e2, getB_txt r hbr]) ?_
    rw [getRq_cons]
    by_cases c1 : c = 1
    · rw [if_pos c1]
      by_cases g : 4096 < r.length
      · rw [if_pos g]
        exact Ev.congr (f := fun _ => some ((0 : Int), ([] : List Int), (0 : Int), (10 : Int))) (fun k => by rw [if_neg (by omega), if_pos (by omega), if_pos (by omega)]) (Ev.now _)
      · rw [if_neg g]
        exact Ev.congr (f := fun _ => some ((1 : Int), rowB r, (0 : Int), (0 : Int))) (fun k => by rw [if_neg (by omega), if_pos (by omega), if_neg (by omega)]) (Ev.now _)
    rw [if_neg c1]
    by_cases c4 : c = 4
    · rw [if_pos c4]
      refine Ev.congr (fun k => by rw [if_neg (by omega), if_neg (by omega), if_pos (by omega)]) ?_
      by_cases g : r.length < 8
      · rw [if_pos g]
        exact Ev.congr (f := fun _ => some ((0 : Int), ([] : List Int), (0 : Int), (2 : Int))) (fun k => by rw [if_pos (by omega)]) (Ev.now _)
      rw [if_neg g]
      by_cases g2 : 8 < r.length
      · rw [if_pos g2]
        exact Ev.congr (f := fun _ => some ((0 : Int), ([] : List Int), (0 : Int), (3 : Int))) (fun k => by rw [if_neg (by omega), if_pos (by omega)]) (Ev.now _)
      rw [if_neg g2]
      refine Ev.congr (fun k => by rw [if_neg (by omega), if_neg (by omega)]) ?_
      have e : getR (c :: r) 1 8 = (((num r : Nat) : Int), true) := by
        unfold getR getN
        rw [if_pos (by rw [hlr]; omega), show ((1 : Int)).toNat = 1 from rfl, show (c :: r).drop 1 = r from rfl, List.take_of_length_le (by omega)]
      refine Ev.bind (g := fun k => merkhetref02_Get.f k (txt (c :: r)) 1 8) (a := getR (c :: r) 1 8) ⟨10, fun k hk => ref_Get_nat k hk (c :: r) 1 8 hb (by rw [hlr]; rw [hlr] at hl; omega)⟩ ?_
      rw [e]
      exact Ev.now _
    rw [if_neg c4]
    by_cases cq : c = 2 ∨ c = 3 ∨ c = 5
    · rw [if_pos cq]
      by_cases g : 0 < r.length
      · rw [if_pos g]
        exact Ev.congr (f := fun _ => some ((0 : Int), ([] : List Int), (0 : Int), (3 : Int))) (fun k => by rw [if_neg (by omega), if_neg (by omega), if_neg (by omega), if_pos (by omega)]) (Ev.now _)
      · rw [if_neg g]
        exact Ev.congr (f := fun _ => some ((c : Int), ([] : List Int), (0 : Int), (0 : Int))) (fun k => by rw [if_neg (by omega), if_neg (by omega), if_neg (by omega), if_neg (by omega)]) (Ev.now _)
    · rw [if_neg cq]
      exact Ev.congr (f := fun _ => some ((0 : Int), ([] : List Int), (0 : Int), (4 : Int))) (fun k => by rw [if_pos (by omega)]) (Ev.now _)
end Go.Proofs.Ytknigpdglbknhaa.Q
