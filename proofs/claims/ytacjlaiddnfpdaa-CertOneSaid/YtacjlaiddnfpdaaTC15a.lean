/- Layer 15's words: edges as plain ones, layers as rows; the document's comparison of rows. -/
import Derived.Test.YtacjlaiddnfpdaaTx2
import Derived.Test.YtacjlaiddnfpdaaH16
set_option linter.unusedVariables false
namespace Go.Proofs.Ytacjlaiddnfpdaa.T
open Go.RowKit Go.Proofs.Ytacjlaiddnfpdaa.H Go.Proofs.YtacjlaiddnfpdaaW.PrintWords Go.Proofs.YtacjlaiddnfpdaaW.PrintLast Go.Proofs.YtacjlaiddnfpdaaW.PrintMore
theorem w64t (i : Nat) (h : i < 9000000000000000000) : wrap64 ((i : Int) + 1) = ((i + 1 : Nat) : Int) := by unfold wrap64; omega
theorem rdt (l : List Int) (i : Nat) : rd l (i : Int) = l.getD i 0 := by unfold rd; rw [Int.toNat_natCast]
theorem ev_step {α : Type} {g f : Nat → Option α} {r : α} (h : ∀ k, g (k + 1) = f k) (hf : Ev f r) : Ev g r := Ev.step h hf
theorem ev_eq {α : Type} {g : Nat → Option α} {r r' : α} (h : Ev g r) (e : r = r') : Ev g r' := e ▸ h
theorem same15_l0 (a b : List Int) (hl : a.length = b.length) (hn : a.length < 9000000000000000000) : ∀ (d i : Nat), a.length - i = d → i ≤ a.length → Ev (fun k => merkhetref15_Same.l0 k a b (i : Int)) (decide (a.drop i = b.drop i)) := by
  intro d
  induction d with
  | zero =>
    intro i hd hi
    refine ev_step (f := fun _ => some true) (fun k => by rw [merkhetref15_Same.l0, if_neg (by omega)]) ?_
    rw [List.drop_of_length_le (by omega), List.drop_of_length_le (by omega)]
    exact Ev.now _
  | succ d ih =>
    intro i hd hi
    have hlt : i < a.length := by omega
    have e1 : a.drop i = a.getD i 0 :: a.drop (i + 1) := by rw [List.drop_eq_getElem_cons hlt, List.getD_eq_getElem?_getD, List.getElem?_eq_getElem hlt]; rfl
    have e2 : b.drop i = b.getD i 0 :: b.drop (i + 1) := by rw [List.drop_eq_getElem_cons (by omega), List.getD_eq_getElem?_getD, List.getElem?_eq_getElem (by omega)]; rfl
    by_cases c : a.getD i 0 = b.getD i 0
    · refine ev_step (f := fun k => merkhetref15_Same.l0 k a b ((i + 1 : Nat) : Int)) (fun k => by rw [merkhetref15_Same.l0, if_pos (by omega), if_pos (by omega), if_pos (by omega), rdt, rdt, if_pos c, w64t i (by omega)]) ?_
      have h_ := ih (i + 1) (by omega) (by omega)
      rw [show decide (a.drop i = b.drop i) = decide (a.drop (i + 1) = b.drop (i + 1)) by rw [e1, e2, c]; simp]
      exact h_
    · refine ev_step (f := fun _ => some false) (fun k => by rw [merkhetref15_Same.l0, if_pos (by omega), if_pos (by omega), if_pos (by omega), rdt, rdt, if_neg c]) ?_
      rw [show decide (a.drop i = b.drop i) = false from decide_eq_false (fun e => by rw [e1, e2] at e; exact c (List.cons.inj e).1)]
      exact Ev.now _
theorem same15_ev (a b : List Int) (hn : a.length < 9000000000000000000) : Ev (fun k => merkhetref15_Same.f k a b) (decide (a = b)) := by
  unfold merkhetref15_Same.f
  by_cases hl : a.length = b.length
  · have h_ := same15_l0 a b hl hn a.length 0 rfl (Nat.zero_le _)
    refine Ev.congr (f := fun k => merkhetref15_Same.l0 k a b ((0 : Nat) : Int)) (fun k => by rw [if_pos (by omega)]; rfl) ?_
    simpa using h_
  · refine Ev.congr (f := fun _ => some false) (fun k => by rw [if_neg (by omega)]) ?_
    rw [show decide (a = b) = false from decide_eq_false (fun e => hl (by rw [e]))]
    exact Ev.now _
def ed (s : S48) : Ed := ⟨s.f0, s.f1, s.f2⟩
def eds (l : List S48) : List Ed := l.map ed
/-- May these be? -/
def mayL (n : Int) (l : List S48) : Prop := 0 ≤ n ∧ okE n.toNat (eds l)
theorem mayL_at {n : Int} {l : List S48} (h : mayL n l) {s : S48} (hs : s ∈ l) : 0 ≤ s.f0 ∧ s.f0 < n ∧ 0 ≤ s.f1 ∧ s.f1 < n ∧ -4503599627370496 ≤ s.f2 ∧ s.f2 ≤ 4503599627370496 := by
  have := h.2.ok (ed s) (List.mem_map_of_mem hs)
  have h0 := h.1
  simp only [ed] at this
  omega
theorem mayL_mk {n : Int} {l : List S48} (h0 : 0 ≤ n) (h1 : n ≤ 32) (h : ∀ s ∈ l, 0 ≤ s.f0 ∧ s.f0 < n ∧ 0 ≤ s.f1 ∧ s.f1 < n ∧ -4503599627370496 ≤ s.f2 ∧ s.f2 ≤ 4503599627370496) : mayL n l := by
  refine ⟨h0, ⟨by omega, fun e he => ?_⟩⟩
  obtain ⟨s, hs, rfl⟩ := List.mem_map.1 he
  have := h s hs
  simp only [ed]
  omega
/-- A row of so many hosts. -/
def rowF (n : Nat) (f : Int → Int) : List Int := (List.range n).map fun h : Nat => f (h : Int)
theorem rowF_length (n : Nat) (f : Int → Int) : (rowF n f).length = n := by simp [rowF]
theorem rowF_rd (n : Nat) (f : Int → Int) (a : Int) (h0 : 0 ≤ a) (h1 : a < (n : Int)) : rd (rowF n f) a = f a := by
  unfold rd rowF
  rw [List.getD_eq_getElem?_getD, List.getElem?_eq_getElem (by simp; omega)]
  simp
  congr 1
  omega
theorem rowF_ext {n : Nat} {f g : Int → Int} (h : ∀ a, 0 ≤ a → a < (n : Int) → f a = g a) : rowF n f = rowF n g := by
  unfold rowF
  refine List.map_congr_left fun a ha => h _ (by omega) ?_
  have := List.mem_range.1 ha
  omega
theorem rowF_inj {n : Nat} {f g : Int → Int} (h : rowF n f = rowF n g) (a : Int) (h0 : 0 ≤ a) (h1 : a < (n : Int)) : f a = g a := by
  rw [← rowF_rd n f a h0 h1, h, rowF_rd n g a h0 h1]
theorem rowF_set (n : Nat) (f : Int → Int) (a v : Int) (h0 : 0 ≤ a) (h1 : a < (n : Int)) : (rowF n f).set a.toNat v = rowF n (fun h => if h = a then v else f h) := by
  apply List.ext_getElem
  · simp [rowF]
  · intro i h2 h3
    rw [List.getElem_set]
    simp only [rowF, List.getElem_map, List.getElem_range]
    by_cases c : a.toNat = i
    · rw [if_pos c, if_pos (by omega)]
    · rw [if_neg c, if_neg (by omega)]
theorem rowF_const (n : Nat) (v : Int) : rowF n (fun _ => v) = List.replicate n v := by
  apply List.ext_getElem
  · simp [rowF]
  · intro i h1 h2
    simp [rowF]
def rowsF (n : Nat) (F : Nat → Int → Int) (m : Nat) : List (List Int) := (List.range m).map fun k => rowF n (F k)
theorem rowsF_length (n : Nat) (F : Nat → Int → Int) (m : Nat) : (rowsF n F m).length = m := by simp [rowsF]
theorem rowsF_succ (n : Nat) (F : Nat → Int → Int) (m : Nat) : rowsF n F (m + 1) = rowsF n F m ++ [rowF n (F m)] := by simp [rowsF, List.range_succ]
theorem rowsF_getD (n : Nat) (F : Nat → Int → Int) (m k : Nat) (h : k < m) : (rowsF n F m).getD k [] = rowF n (F k) := by
  rw [List.getD_eq_getElem?_getD, List.getElem?_eq_getElem (by rw [rowsF_length]; exact h)]
  simp [rowsF]
open Classical in
/-- What is told of edges: the last layer, if it is as the one ahead. -/
noncomputable def solveP (n : Int) (l : List S48) : List Int × Bool :=
  if mayL n l ∧ ∀ h, 0 ≤ h → h < n → L (eds l) n.toNat h = L (eds l) (n.toNat - 1) h then (rowF n.toNat (L (eds l) n.toNat), true) else ([], false)
theorem solveP_cases (n : Int) (l : List S48) : (¬ (mayL n l ∧ ∀ h, 0 ≤ h → h < n → L (eds l) n.toNat h = L (eds l) (n.toNat - 1) h) ∧ solveP n l = ([], false)) ∨ (mayL n l ∧ (∀ h, 0 ≤ h → h < n → L (eds l) n.toNat h = L (eds l) (n.toNat - 1) h) ∧ solveP n l = (rowF n.toNat (L (eds l) n.toNat), true)) := by
  by_cases c : mayL n l ∧ ∀ h, 0 ≤ h → h < n → L (eds l) n.toNat h = L (eds l) (n.toNat - 1) h
  · exact .inr ⟨c.1, c.2, by unfold solveP; rw [if_pos c]⟩
  · exact .inl ⟨c, by unfold solveP; rw [if_neg c]⟩
theorem mem_eds {l : List S48} {s : S48} (hs : s ∈ l) : ed s ∈ eds l := List.mem_map_of_mem hs
/-- Numbers of hosts for which all edges hold. -/
theorem conv_of {n : Int} {l : List S48} (hm : mayL n l) {x : Int → Int} (hx : ∀ s ∈ l, x s.f1 ≤ x s.f0 + s.f2) : ∀ h, 0 ≤ h → h < n → L (eds l) n.toNat h = L (eds l) (n.toNat - 1) h := by
  intro h h1 h2
  refine L_conv hm.2 (x := x) (fun e he => ?_) h1 (by have := hm.1; omega)
  obtain ⟨s, hs, rfl⟩ := List.mem_map.1 he
  exact hx s hs
theorem wrapL {n : Int} {l : List S48} (hm : mayL n l) {s : S48} (hs : s ∈ l) (k : Nat) (hk : k ≤ n.toNat) (h : Int) : wrap64 (L (eds l) k h + s.f2) = L (eds l) k h + s.f2 := by
  have h1 := L_low hm.2 k h
  have h2 := L_nonpos (eds l) k h
  have h3 := mayL_at hm hs
  have h4 := hm.2.n32
  unfold wrap64
  omega
end Go.Proofs.Ytacjlaiddnfpdaa.T
