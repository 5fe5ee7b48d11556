/- Bytes as whole numbers: rows (lists of Int) and texts (ByteArray) as lists of Nat below 256. -/
import Derived.Test.YtdpodjgggicaoaaWWordst
import Derived.Laws.BytesArg
set_option linter.unusedVariables false
namespace Go.Proofs.Ytdpodjgggicaoaa.H
open Go.RowKit Go.Proofs.YtdpodjgggicaoaaW.PrintWords
def isB (m : List Nat) : Prop := ∀ x ∈ m, x < 256
def rowB (m : List Nat) : List Int := m.map fun n : Nat => (n : Int)
theorem isB_nil : isB [] := fun x hx => by simp at hx
theorem isB_append {a b : List Nat} (ha : isB a) (hb : isB b) : isB (a ++ b) := fun x hx => by
  rcases List.mem_append.1 hx with h | h
  · exact ha x h
  · exact hb x h
theorem isB_right {a b : List Nat} (h : isB (a ++ b)) : isB b := fun x hx => h x (List.mem_append_right _ hx)
theorem isB_cons {x : Nat} {r : List Nat} (hx : x < 256) (hr : isB r) : isB (x :: r) := fun y hy => by
  rcases List.mem_cons.1 hy with h | h
  · rw [h]; exact hx
  · exact hr y h
theorem isB_take {a : List Nat} (h : isB a) (n : Nat) : isB (a.take n) := fun x hx => h x (List.mem_of_mem_take hx)
theorem isB_drop {a : List Nat} (h : isB a) (n : Nat) : isB (a.drop n) := fun x hx => h x (List.mem_of_mem_drop hx)
theorem rowB_length (m : List Nat) : (rowB m).length = m.length := by simp [rowB]
theorem rowB_append (a b : List Nat) : rowB (a ++ b) = rowB a ++ rowB b := by simp [rowB]
theorem rowB_take (m : List Nat) (n : Nat) : (rowB m).take n = rowB (m.take n) := by simp [rowB]
theorem rowB_drop (m : List Nat) (n : Nat) : (rowB m).drop n = rowB (m.drop n) := by simp [rowB]
theorem rowB_cons (x : Nat) (r : List Nat) : rowB (x :: r) = (x : Int) :: rowB r := rfl
theorem row_bytes (l : List Int) (h : ∀ x ∈ l, (Lit.int .u8 x).wf = true) : ∃ m, l = rowB m ∧ isB m := by
  have h2 : ∀ x ∈ l, 0 ≤ x ∧ x ≤ 255 := fun x hx => by
    have := h x hx
    simp [Lit.wf, IntKind.min, IntKind.max, IntKind.signed, IntKind.bits] at this; omega
  refine ⟨l.map Int.toNat, ?_, ?_⟩
  · rw [rowB, List.map_map]
    conv => lhs; rw [← List.map_id l]
    apply List.map_congr_left
    intro x hx
    have := h2 x hx
    simp only [id_eq, Function.comp]
    omega
  · intro x hx
    obtain ⟨y, hy, rfl⟩ := List.mem_map.1 hx
    have := h2 y hy
    omega
theorem rd_rowB (m : List Nat) (i : Nat) (hi : i < m.length) : rd (rowB m) (i : Int) = (m.getD i 0 : Nat) := by
  simp [rd, rowB, List.getD_eq_getElem?_getD, List.getElem?_eq_getElem hi]
theorem getD_lt {m : List Nat} (h : isB m) (i : Nat) : m.getD i 0 < 256 := by
  rw [List.getD_eq_getElem?_getD]
  by_cases hi : i < m.length
  · rw [List.getElem?_eq_getElem hi]; exact h _ (List.getElem_mem hi)
  · rw [List.getElem?_eq_none (by omega)]; decide
end Go.Proofs.Ytdpodjgggicaoaa.H
