/- Layer 15's words: edges as plain ones, layers as rows; the document's comparison of rows. -/
import Derived.Test.YtacjlaiddnfpdaaCUC15z
import Derived.Test.YtacjlaiddnfpdaaH16
import Derived.Test.YtacjlaiddnfpdaaCUx0
set_option linter.unusedVariables false
namespace Go.Proofs.Ytacjlaiddnfpdaa.CU
open Go.RowKit Go.Proofs.Ytacjlaiddnfpdaa.H Go.Proofs.YtacjlaiddnfpdaaW.PrintWords Go.Proofs.YtacjlaiddnfpdaaW.PrintLast Go.Proofs.YtacjlaiddnfpdaaW.PrintMore
def ed (s : S48) : Ed := ⟨s.f0, s.f1, s.f2⟩
def eds (l : List S48) : List Ed := l.map ed
/-- May these be? -/
def mayL (n : Int) (l : List S48) : Prop := 0 ≤ n ∧ okE n.toNat (eds l)
theorem mayL_at {n : Int} {l : List S48} (h : mayL n l) {s : S48} (hs : s ∈ l) : 0 ≤ s.f0 ∧ s.f0 < n ∧ 0 ≤ s.f1 ∧ s.f1 < n ∧ -4503599627370496 ≤ s.f2 ∧ s.f2 ≤ 4503599627370496 := by
  have := h.2.ok (ed s) (List.mem_map_of_mem hs)
  have h0 := h.1
  simp only [ed] at this
  omega
theorem mayL_mk {n : Int} {l : List S48} (h0 : 0 ≤ n) (h1 : n ≤ 32) (h : ∀ s ∈ l, 0 ≤ s.f0 ∧ s.f0 < n ∧ 0 ≤ s.f1 ∧ s.f1 < n ∧ -4503599627370496 ≤ s.f2 ∧ s.f2 ≤ 4503599627370496) : mayL n l := by
  refine ⟨h0, ⟨by omega, fun e he => ?_⟩⟩
  obtain ⟨s, hs, rfl⟩ := List.mem_map.1 he
  have := h s hs
  simp only [ed]
  omega
/-- A row of so many hosts. -/
def rowF (n : Nat) (f : Int → Int) : List Int := (List.range n).map fun h : Nat => f (h : Int)
theorem rowF_length (n : Nat) (f : Int → Int) : (rowF n f).length = n := by simp [rowF]
theorem rowF_rd (n : Nat) (f : Int → Int) (a : Int) (h0 : 0 ≤ a) (h1 : a < (n : Int)) : rd (rowF n f) a = f a := by
  unfold rd rowF
  rw [List.getD_eq_getElem?_getD, List.getElem?_eq_getElem (by simp; omega)]
  simp
  congr 1
  omega
theorem rowF_ext {n : Nat} {f g : Int → Int} (h : ∀ a, 0 ≤ a → a < (n : Int) → f a = g a) : rowF n f = rowF n g := by
  unfold rowF
  refine List.map_congr_left fun a ha => h _ (by omega) ?_
  have := List.mem_range.1 ha
  omega
theorem rowF_inj {n : Nat} {f g : Int → Int} (h : rowF n f = rowF n g) (a : Int) (h0 : 0 ≤ a) (h1 : a < (n : Int)) : f a = g a := by
  rw [← rowF_rd n f a h0 h1, h, rowF_rd n g a h0 h1]
theorem rowF_set (n : Nat) (f : Int → Int) (a v : Int) (h0 : 0 ≤ a) (h1 : a < (n : Int)) : (rowF n f).set a.toNat v = rowF n (fun h => if h = a then v else f h) := by
  apply List.ext_getElem
  · simp [rowF]
  · intro i h2 h3
    rw [List.getElem_set]
    simp only [rowF, List.getElem_map, List.getElem_range]
    by_cases c : a.toNat = i
    · rw [if_pos c, if_pos (by omega)]
    · rw [if_neg c, if_neg (by omega)]
theorem rowF_const (n : Nat) (v : Int) : rowF n (fun _ => v) = List.replicate n v := by
  apply List.ext_getElem
  · simp [rowF]
  · intro i h1 h2
    simp [rowF]
def rowsF (n : Nat) (F : Nat → Int → Int) (m : Nat) : List (List Int) := (List.range m).map fun k => rowF n (F k)
theorem rowsF_length (n : Nat) (F : Nat → Int → Int) (m : Nat) : (rowsF n F m).length = m := by simp [rowsF]
theorem rowsF_succ (n : Nat) (F : Nat → Int → Int) (m : Nat) : rowsF n F (m + 1) = rowsF n F m ++ [rowF n (F m)] := by simp [rowsF, List.range_succ]
theorem rowsF_getD (n : Nat) (F : Nat → Int → Int) (m k : Nat) (h : k < m) : (rowsF n F m).getD k [] = rowF n (F k) := by
  rw [List.getD_eq_getElem?_getD, List.getElem?_eq_getElem (by rw [rowsF_length]; exact h)]
  simp [rowsF]
open Classical in
/-- What is told of edges: the last layer, if it is as the one ahead. -/
noncomputable def solveP (n : Int) (l : List S48) : List Int × Bool :=
  if mayL n l ∧ ∀ h, 0 ≤ h → h < n → L (eds l) n.toNat h = L (eds l) (n.toNat - 1) h then (rowF n.toNat (L (eds l) n.toNat), true) else ([], false)
theorem solveP_cases (n : Int) (l : List S48) : (¬ (mayL n l ∧ ∀ h, 0 ≤ h → h < n → L (eds l) n.toNat h = L (eds l) (n.toNat - 1) h) ∧ solveP n l = ([], false)) ∨ (mayL n l ∧ (∀ h, 0 ≤ h → h < n → L (eds l) n.toNat h = L (eds l) (n.toNat - 1) h) ∧ solveP n l = (rowF n.toNat (L (eds l) n.toNat), true)) := by
  by_cases c : mayL n l ∧ ∀ h, 0 ≤ h → h < n → L (eds l) n.toNat h = L (eds l) (n.toNat - 1) h
  · exact .inr ⟨c.1, c.2, by unfold solveP; rw [if_pos c]⟩
  · exact .inl ⟨c, by unfold solveP; rw [if_neg c]⟩
theorem mem_eds {l : List S48} {s : S48} (hs : s ∈ l) : ed s ∈ eds l := List.mem_map_of_mem hs
/-- Numbers of hosts for which all edges hold. -/
theorem conv_of {n : Int} {l : List S48} (hm : mayL n l) {x : Int → Int} (hx : ∀ s ∈ l, x s.f1 ≤ x s.f0 + s.f2) : ∀ h, 0 ≤ h → h < n → L (eds l) n.toNat h = L (eds l) (n.toNat - 1) h := by
  intro h h1 h2
  refine L_conv hm.2 (x := x) (fun e he => ?_) h1 (by have := hm.1; omega)
  obtain ⟨s, hs, rfl⟩ := List.mem_map.1 he
  exact hx s hs
theorem wrapL {n : Int} {l : List S48} (hm : mayL n l) {s : S48} (hs : s ∈ l) (k : Nat) (hk : k ≤ n.toNat) (h : Int) : wrap64 (L (eds l) k h + s.f2) = L (eds l) k h + s.f2 := by
  have h1 := L_low hm.2 k h
  have h2 := L_nonpos (eds l) k h
  have h3 := mayL_at hm hs
  have h4 := hm.2.n32
  unfold wrap64
  omega
end Go.Proofs.Ytacjlaiddnfpdaa.CU
