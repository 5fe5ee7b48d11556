/- Bytes as whole numbers: rows (lists of Int) and texts (ByteArray) as lists of Nat below 256. -/
import Derived.Test.YtdpodjgggicaoaaWWordss
import Derived.Laws.BytesArg
set_option linter.unusedVariables false
namespace Go.Proofs.Ytdpodjgggicaoaa.H
open Go.RowKit Go.Proofs.YtdpodjgggicaoaaW.PrintWords
def isB (m : List Nat) : Prop := ∀ x ∈ m, x < 256
def rowB (m : List Nat) : List Int := m.map fun n : Nat => (n : Int)
def txt (m : List Nat) : ByteArray := strOfNums (rowB m)
theorem isB_nil : isB [] := fun x hx => by simp at hx
theorem isB_append {a b : List Nat} (ha : isB a) (hb : isB b) : isB (a ++ b) := fun x hx => by
  rcases List.mem_append.1 hx with h | h
  · exact ha x h
  · exact hb x h
theorem isB_right {a b : List Nat} (h : isB (a ++ b)) : isB b := fun x hx => h x (List.mem_append_right _ hx)
theorem isB_cons {x : Nat} {r : List Nat} (hx : x < 256) (hr : isB r) : isB (x :: r) := fun y hy => by
  rcases List.mem_cons.1 hy with h | h
  · rw [h]; exact hx
  · exact hr y h
theorem isB_take {a : List Nat} (h : isB a) (n : Nat) : isB (a.take n) := fun x hx => h x (List.mem_of_mem_take hx)
theorem isB_drop {a : List Nat} (h : isB a) (n : Nat) : isB (a.drop n) := fun x hx => h x (List.mem_of_mem_drop hx)
theorem rowB_length (m : List Nat) : (rowB m).length = m.length := by simp [rowB]
theorem rowB_append (a b : List Nat) : rowB (a ++ b) = rowB a ++ rowB b := by simp [rowB]
theorem rowB_take (m : List Nat) (n : Nat) : (rowB m).take n = rowB (m.take n) := by simp [rowB]
theorem rowB_drop (m : List Nat) (n : Nat) : (rowB m).drop n = rowB (m.drop n) := by simp [rowB]
theorem rowB_cons (x : Nat) (r : List Nat) : rowB (x :: r) = (x : Int) :: rowB r := rfl
theorem row_bytes (l : List Int) (h : ∀ x ∈ l, (Lit.int .u8 x).wf = true) : ∃ m, l = rowB m ∧ isB m := by
  have h2 : ∀ x ∈ l, 0 ≤ x ∧ x ≤ 255 := fun x hx => by
    have := h x hx
    simp [Lit.wf, IntKind.min, IntKind.max, IntKind.signed, IntKind.bits] at this; omega
  refine ⟨l.map Int.toNat, ?_, ?_⟩
  · rw [rowB, List.map_map]
    conv => lhs; rw [← List.map_id l]
    apply List.map_congr_left
    intro x hx
    have := h2 x hx
    simp only [id_eq, Function.comp]
    omega
  · intro x hx
    obtain ⟨y, hy, rfl⟩ := List.mem_map.1 hx
    have := h2 y hy
    omega
theorem rd_rowB (m : List Nat) (i : Nat) (hi : i < m.length) : rd (rowB m) (i : Int) = (m.getD i 0 : Nat) := by
  simp [rd, rowB, List.getD_eq_getElem?_getD, List.getElem?_eq_getElem hi]
theorem getD_lt {m : List Nat} (h : isB m) (i : Nat) : m.getD i 0 < 256 := by
  rw [List.getD_eq_getElem?_getD]
  by_cases hi : i < m.length
  · rw [List.getElem?_eq_getElem hi]; exact h _ (List.getElem_mem hi)
  · rw [List.getElem?_eq_none (by omega)]; decide
theorem txt_data (m : List Nat) : (txt m).data.toList = m.map UInt8.ofNat := by
  simp [txt, rowB, strOfNums_data, List.map_map, Function.comp_def]
theorem txt_size (m : List Nat) : (txt m).size = m.length := by rw [txt, strOfNums_size, rowB_length]
theorem ba_ext {a b : ByteArray} (h : a.data.toList = b.data.toList) : a = b := by
  cases a; cases b
  simp at h
  rw [h]
theorem u8_inj {a b : List Nat} (ha : isB a) (hb : isB b) (h : a.map UInt8.ofNat = b.map UInt8.ofNat) : a = b := by
  induction a generalizing b with
  | nil => cases b with
    | nil => rfl
    | cons y s => simp at h
  | cons x r ih => cases b with
    | nil => simp at h
    | cons y s =>
      simp only [List.map_cons, List.cons.injEq] at h
      have hx := ha x (by simp)
      have hy := hb y (by simp)
      have : x = y := by
        have := congrArg UInt8.toNat h.1
        simp [Nat.mod_eq_of_lt hx, Nat.mod_eq_of_lt hy] at this
        exact this
      rw [this, ih (fun z hz => ha z (by simp [hz])) (fun z hz => hb z (by simp [hz])) h.2]
theorem loop_eq (s : ByteArray) : ∀ (d i : Nat) (r : List UInt8), s.size - i = d → ByteArray.toList.loop s i r = r.reverse ++ s.data.toList.drop i := by
  intro d
  induction d with
  | zero =>
    intro i r h
    unfold ByteArray.toList.loop
    rw [if_neg (by omega), List.drop_of_length_le (by have : s.data.toList.length = s.size := rfl; omega), List.append_nil]
  | succ d ih =>
    intro i r h
    have hi : i < s.size := by omega
    unfold ByteArray.toList.loop
    rw [if_pos hi, ih (i + 1) _ (by omega)]
    have hl : i < s.data.toList.length := hi
    rw [List.drop_eq_getElem_cons hl]
    have : s.get! i = s.data.toList[i] := by
      show s.data[i]! = _
      rw [getElem!_pos s.data i hi]
      simp
    simp [this]
theorem ba_toList (s : ByteArray) : s.toList = s.data.toList := by
  have := loop_eq s (s.size - 0) 0 [] rfl
  simpa [ByteArray.toList] using this
theorem txt_toList (m : List Nat) : (txt m).toList = m.map UInt8.ofNat := by rw [ba_toList, txt_data]
theorem txt_append (a b : List Nat) : txt a ++ txt b = txt (a ++ b) := by
  apply ba_ext
  rw [txt_data, List.map_append, ← txt_data, ← txt_data]
  simp
theorem txt_extract (m : List Nat) (i j : Nat) : (txt m).extract i j = txt ((m.take j).drop i) := by
  apply ba_ext
  rw [txt_data]
  have h : ((txt m).extract i j).data.toList = ((txt m).data.toList.take j).drop i := by
    simp [ByteArray.data_extract]
    rw [List.drop_take]
  rw [h, txt_data]
  simp
theorem strOf_rowB (m : List Nat) : strOfNums (rowB m) = txt m := rfl
theorem bt_txt (m : List Nat) (h : isB m) (i : Nat) (hi : i < m.length) : bt (txt m) (i : Int) = (m.getD i 0 : Nat) := by
  have hx := h m[i] (List.getElem_mem hi)
  rw [← bt_at _ _ (by rw [txt_size]; simpa using hi)]
  have : (txt m)[(i : Int).toNat]'(by rw [txt_size]; simpa using hi) = UInt8.ofNat m[i] := by
    have h2 := txt_data m
    have h3 : (txt m)[(i : Int).toNat]'(by rw [txt_size]; simpa using hi) = (txt m).data.toList[i]'(by rw [h2]; simpa using hi) := rfl
    rw [h3]
    simp [h2]
  rw [this]
  simp [List.getD_eq_getElem?_getD, List.getElem?_eq_getElem hi, Nat.mod_eq_of_lt hx]
end Go.Proofs.Ytdpodjgggicaoaa.H
