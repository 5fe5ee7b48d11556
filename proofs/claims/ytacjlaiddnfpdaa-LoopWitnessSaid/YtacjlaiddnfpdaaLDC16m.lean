/- Layers 15 and 16, merged: Layers, Solve, Of. -/
import Derived.Test.YtacjlaiddnfpdaaH17
import Derived.Test.YtacjlaiddnfpdaaH16
import Derived.Test.YtacjlaiddnfpdaaLDx0
import Derived.Test.YtacjlaiddnfpdaaLDx2
import Derived.Test.YtacjlaiddnfpdaaLDx4
import Derived.Test.YtacjlaiddnfpdaaLDx5
import Derived.Test.YtacjlaiddnfpdaaLDx3
import Derived.Test.YtacjlaiddnfpdaaLDx6
import Derived.Test.YtacjlaiddnfpdaaLDx7
import Derived.Test.YtacjlaiddnfpdaaH25
set_option linter.unusedVariables false
set_option linter.unusedSimpArgs false
namespace Go.Proofs.Ytacjlaiddnfpdaa.LD
/-! C15z -/
section
open Go.RowKit Go.Proofs.Ytacjlaiddnfpdaa.H Go.Proofs.YtacjlaiddnfpdaaW.PrintWords Go.Proofs.YtacjlaiddnfpdaaW.PrintLast Go.Proofs.YtacjlaiddnfpdaaW.PrintMore
theorem w64t (i : Nat) (h : i < 9000000000000000000) : wrap64 ((i : Int) + 1) = ((i + 1 : Nat) : Int) := by unfold wrap64; omega
theorem rdt (l : List Int) (i : Nat) : rd l (i : Int) = l.getD i 0 := by unfold rd; rw [Int.toNat_natCast]
theorem ev_step {α : Type} {g f : Nat → Option α} {r : α} (h : ∀ k, g (k + 1) = f k) (hf : Ev f r) : Ev g r := Ev.step h hf
theorem ev_eq {α : Type} {g : Nat → Option α} {r r' : α} (h : Ev g r) (e : r = r') : Ev g r' := e ▸ h
end
/-! C15a -/
section
open Go.RowKit Go.Proofs.Ytacjlaiddnfpdaa.H Go.Proofs.YtacjlaiddnfpdaaW.PrintWords Go.Proofs.YtacjlaiddnfpdaaW.PrintLast Go.Proofs.YtacjlaiddnfpdaaW.PrintMore
def ed (s : S48) : Ed := ⟨s.f0, s.f1, s.f2⟩
def eds (l : List S48) : List Ed := l.map ed
/-- May these be? -/
def mayL (n : Int) (l : List S48) : Prop := 0 ≤ n ∧ okE n.toNat (eds l)
theorem mayL_at {n : Int} {l : List S48} (h : mayL n l) {s : S48} (hs : s ∈ l) : 0 ≤ s.f0 ∧ s.f0 < n ∧ 0 ≤ s.f1 ∧ s.f1 < n ∧ -4503599627370496 ≤ s.f2 ∧ s.f2 ≤ 4503599627370496 := by
  have := h.2.ok (ed s) (List.mem_map_of_mem hs)
  have h0 := h.1
  simp only [ed] at this
  omega
theorem mayL_mk {n : Int} {l : List S48} (h0 : 0 ≤ n) (h1 : n ≤ 32) (h : ∀ s ∈ l, 0 ≤ s.f0 ∧ s.f0 < n ∧ 0 ≤ s.f1 ∧ s.f1 < n ∧ -4503599627370496 ≤ s.f2 ∧ s.f2 ≤ 4503599627370496) : mayL n l := by
  refine ⟨h0, ⟨by omega, fun e he => ?_⟩⟩
  obtain ⟨s, hs, rfl⟩ := List.mem_map.1 he
  have := h s hs
  simp only [ed]
  omega
/-- A row of so many hosts. -/
def rowF (n : Nat) (f : Int → Int) : List Int := (List.range n).map fun h : Nat => f (h : Int)
theorem rowF_length (n : Nat) (f : Int → Int) : (rowF n f).length = n := by simp [rowF]
theorem rowF_rd (n : Nat) (f : Int → Int) (a : Int) (h0 : 0 ≤ a) (h1 : a < (n : Int)) : rd (rowF n f) a = f a := by
  unfold rd rowF
  rw [List.getD_eq_getElem?_getD, List.getElem?_eq_getElem (by simp; omega)]
  simp
  congr 1
  omega
theorem rowF_ext {n : Nat} {f g : Int → Int} (h : ∀ a, 0 ≤ a → a < (n : Int) → f a = g a) : rowF n f = rowF n g := by
  unfold rowF
  refine List.map_congr_left fun a ha => h _ (by omega) ?_
  have := List.mem_range.1 ha
  omega
theorem rowF_inj {n : Nat} {f g : Int → Int} (h : rowF n f = rowF n g) (a : Int) (h0 : 0 ≤ a) (h1 : a < (n : Int)) : f a = g a := by
  rw [← rowF_rd n f a h0 h1, h, rowF_rd n g a h0 h1]
theorem rowF_set (n : Nat) (f : Int → Int) (a v : Int) (h0 : 0 ≤ a) (h1 : a < (n : Int)) : (rowF n f).set a.toNat v = rowF n (fun h => if h = a then v else f h) := by
  apply List.ext_getElem
  · simp [rowF]
  · intro i h2 h3
    rw [List.getElem_set]
    simp only [rowF, List.getElem_map, List.getElem_range]
    by_cases c : a.toNat = i
    · rw [if_pos c, if_pos (by omega)]
    · rw [if_neg c, if_neg (by omega)]
theorem rowF_const (n : Nat) (v : Int) : rowF n (fun _ => v) = List.replicate n v := by
  apply List.ext_getElem
  · simp [rowF]
  · intro i h1 h2
    simp [rowF]
def rowsF (n : Nat) (F : Nat → Int → Int) (m : Nat) : List (List Int) := (List.range m).map fun k => rowF n (F k)
theorem rowsF_length (n : Nat) (F : Nat → Int → Int) (m : Nat) : (rowsF n F m).length = m := by simp [rowsF]
theorem rowsF_succ (n : Nat) (F : Nat → Int → Int) (m : Nat) : rowsF n F (m + 1) = rowsF n F m ++ [rowF n (F m)] := by simp [rowsF, List.range_succ]
theorem rowsF_getD (n : Nat) (F : Nat → Int → Int) (m k : Nat) (h : k < m) : (rowsF n F m).getD k [] = rowF n (F k) := by
  rw [List.getD_eq_getElem?_getD, List.getElem?_eq_getElem (by rw [rowsF_length]; exact h)]
  simp [rowsF]
open Classical in
/-- What is told of edges: the last layer, if it is as the one ahead. -/
noncomputable def solveP (n : Int) (l : List S48) : List Int × Bool :=
  if mayL n l ∧ ∀ h, 0 ≤ h → h < n → L (eds l) n.toNat h = L (eds l) (n.toNat - 1) h then (rowF n.toNat (L (eds l) n.toNat), true) else ([], false)
theorem solveP_cases (n : Int) (l : List S48) : (¬ (mayL n l ∧ ∀ h, 0 ≤ h → h < n → L (eds l) n.toNat h = L (eds l) (n.toNat - 1) h) ∧ solveP n l = ([], false)) ∨ (mayL n l ∧ (∀ h, 0 ≤ h → h < n → L (eds l) n.toNat h = L (eds l) (n.toNat - 1) h) ∧ solveP n l = (rowF n.toNat (L (eds l) n.toNat), true)) := by
  by_cases c : mayL n l ∧ ∀ h, 0 ≤ h → h < n → L (eds l) n.toNat h = L (eds l) (n.toNat - 1) h
  · exact .inr ⟨c.1, c.2, by unfold solveP; rw [if_pos c]⟩
  · exact .inl ⟨c, by unfold solveP; rw [if_neg c]⟩
theorem mem_eds {l : List S48} {s : S48} (hs : s ∈ l) : ed s ∈ eds l := List.mem_map_of_mem hs
/-- Numbers of hosts for which all edges hold. -/
theorem conv_of {n : Int} {l : List S48} (hm : mayL n l) {x : Int → Int} (hx : ∀ s ∈ l, x s.f1 ≤ x s.f0 + s.f2) : ∀ h, 0 ≤ h → h < n → L (eds l) n.toNat h = L (eds l) (n.toNat - 1) h := by
  intro h h1 h2
  refine L_conv hm.2 (x := x) (fun e he => ?_) h1 (by have := hm.1; omega)
  obtain ⟨s, hs, rfl⟩ := List.mem_map.1 he
  exact hx s hs
theorem wrapL {n : Int} {l : List S48} (hm : mayL n l) {s : S48} (hs : s ∈ l) (k : Nat) (hk : k ≤ n.toNat) (h : Int) : wrap64 (L (eds l) k h + s.f2) = L (eds l) k h + s.f2 := by
  have h1 := L_low hm.2 k h
  have h2 := L_nonpos (eds l) k h
  have h3 := mayL_at hm hs
  have h4 := hm.2.n32
  unfold wrap64
  omega
end
/-! C15r -/
section
open Go.RowKit Go.Proofs.Ytacjlaiddnfpdaa.H Go.Proofs.YtacjlaiddnfpdaaW.PrintWords Go.Proofs.YtacjlaiddnfpdaaW.PrintLast Go.Proofs.YtacjlaiddnfpdaaW.PrintMore
open Classical in
theorem refMay_l0 (n : Int) (l : List S48) (h0 : 0 ≤ n) (h1 : n ≤ 32) (hl : l.length < 1000000000) : ∀ (d i : Nat), l.length - i = d → i ≤ l.length → (∀ s ∈ l.take i, 0 ≤ s.f0 ∧ s.f0 < n ∧ 0 ≤ s.f1 ∧ s.f1 < n ∧ -4503599627370496 ≤ s.f2 ∧ s.f2 ≤ 4503599627370496) → Ev (fun k => merkhetref15_May.l0 k n l (i : Int)) (decide (mayL n l)) := by
  intro d
  have hz : ∀ j : Nat, rd_T48 l (j : Int) = l.getD j z48 := fun j => by show l.getD _ _ = _; rw [Int.toNat_natCast]
  induction d with
  | zero =>
    intro i hd hi hall
    rw [List.take_of_length_le (by omega)] at hall
    rw [decide_eq_true (mayL_mk h0 h1 hall)]
    exact ev_step (f := fun _ => some true) (fun k => by rw [merkhetref15_May.l0, if_neg (by omega)]) (Ev.now _)
  | succ d ih =>
    intro i hd hi hall
    have hlt : i < l.length := by omega
    have hmem : l.getD i z48 ∈ l := by rw [List.getD_eq_getElem?_getD, List.getElem?_eq_getElem hlt]; exact List.getElem_mem hlt
    have hbad : (¬ (0 ≤ (l.getD i z48).f0 ∧ (l.getD i z48).f0 < n ∧ 0 ≤ (l.getD i z48).f1 ∧ (l.getD i z48).f1 < n ∧ -4503599627370496 ≤ (l.getD i z48).f2 ∧ (l.getD i z48).f2 ≤ 4503599627370496)) → decide (mayL n l) = false := fun h => decide_eq_false (fun hm => h (mayL_at hm hmem))
    by_cases c1 : (l.getD i z48).f0 < 0
    · rw [hbad (by omega)]
      exact ev_step (f := fun _ => some false) (fun k => by rw [merkhetref15_May.l0, if_pos (by omega), if_pos (by omega), hz, if_pos c1]) (Ev.now _)
    by_cases c2 : (l.getD i z48).f0 ≥ n
    · rw [hbad (by omega)]
      exact ev_step (f := fun _ => some false) (fun k => by rw [merkhetref15_May.l0, if_pos (by omega), if_pos (by omega), hz, if_neg c1, if_pos c2]) (Ev.now _)
    by_cases c3 : (l.getD i z48).f1 < 0
    · rw [hbad (by omega)]
      exact ev_step (f := fun _ => some false) (fun k => by rw [merkhetref15_May.l0, if_pos (by omega), if_pos (by omega), hz, if_neg c1, if_neg c2, if_pos c3]) (Ev.now _)
    by_cases c4 : (l.getD i z48).f1 ≥ n
    · rw [hbad (by omega)]
      exact ev_step (f := fun _ => some false) (fun k => by rw [merkhetref15_May.l0, if_pos (by omega), if_pos (by omega), hz, if_neg c1, if_neg c2, if_neg c3, if_pos c4]) (Ev.now _)
    by_cases c5 : (l.getD i z48).f2 > 4503599627370496
    · rw [hbad (by omega)]
      exact ev_step (f := fun _ => some false) (fun k => by rw [merkhetref15_May.l0, if_pos (by omega), if_pos (by omega), hz, if_neg c1, if_neg c2, if_neg c3, if_neg c4, if_pos c5]) (Ev.now _)
    by_cases c6 : (l.getD i z48).f2 < -4503599627370496
    · rw [hbad (by omega)]
      exact ev_step (f := fun _ => some false) (fun k => by rw [merkhetref15_May.l0, if_pos (by omega), if_pos (by omega), hz, if_neg c1, if_neg c2, if_neg c3, if_neg c4, if_neg c5, if_pos c6]) (Ev.now _)
    refine ev_step (fun k => ?_) (ih (i + 1) (by omega) (by omega) (fun s hs => by
      rw [List.take_succ_eq_append_getElem hlt] at hs
      rcases List.mem_append.1 hs with h | h
      · exact hall s h
      · have h' := List.mem_singleton.1 h
        rw [List.getD_eq_getElem?_getD, List.getElem?_eq_getElem hlt] at c1 c2 c3 c4 c5 c6
        rw [h']
        simp only [Option.getD_some] at c1 c2 c3 c4 c5 c6
        omega))
    rw [merkhetref15_May.l0, if_pos (by omega), if_pos (by omega), hz, if_neg c1, if_neg c2, if_neg c3, if_neg c4, if_neg c5, if_neg c6, w64t i (by omega)]
open Classical in
theorem refMay15_ev (n : Int) (l : List S48) (hl : l.length < 1000000000) : Ev (fun k => merkhetref15_May.f k n l) (decide (mayL n l)) := by
  unfold merkhetref15_May.f
  by_cases c : n < 0
  · rw [decide_eq_false (fun h : mayL n l => by have := h.1; omega)]
    refine Ev.congr (fun k => by rw [if_pos c]) ?_
    exact ev_step (f := fun _ => some false) (fun k => by rw [merkhetref15_May.j0, if_pos rfl]) (Ev.now _)
  · refine Ev.congr (fun k => by rw [if_neg c]) ?_
    by_cases c2 : n > 32
    · rw [decide_eq_false (fun h : mayL n l => by have := h.2.n32; omega)]
      exact ev_step (f := fun _ => some false) (fun k => by rw [merkhetref15_May.j0, if_pos (decide_eq_true c2)]) (Ev.now _)
    · have h_ := refMay_l0 n l (by omega) (by omega) hl l.length 0 rfl (Nat.zero_le _) (fun s hs => by simp at hs)
      exact ev_step (fun k => by rw [merkhetref15_May.j0, if_neg (by rw [decide_eq_false c2]; decide)]; rfl) h_
end
/-! C15y -/
section
open Go.RowKit Go.Proofs.Ytacjlaiddnfpdaa.H Go.Proofs.YtacjlaiddnfpdaaW.PrintWords Go.Proofs.YtacjlaiddnfpdaaW.PrintLast Go.Proofs.YtacjlaiddnfpdaaW.PrintMore
open Classical in
theorem relaxMay_eq (n : Int) (l : List S48) : relax_May.f n l = some (decide (mayL n l)) := by
  unfold relax_May.f
  by_cases c : n < 0
  · rw [if_pos c, decide_eq_false (fun h : mayL n l => by have := h.1; omega)]
  · rw [if_neg c]
    by_cases c2 : n > 32
    · rw [if_pos c2, decide_eq_false (fun h : mayL n l => by have := h.2.n32; omega)]
    · rw [if_neg c2]
      congr 1
      rw [Bool.eq_iff_iff, decide_eq_true_eq, Bool.not_eq_true']
      constructor
      · intro h
        refine mayL_mk (by omega) (by omega) fun s hs => ?_
        have hb : ¬ mayBad n s = true := fun hb => by
          rw [List.any_eq_true.2 ⟨s, hs, hb⟩] at h
          cases h
        unfold mayBad mn mx at hb
        simp only [Bool.or_eq_true, decide_eq_true_eq, not_or, ge_iff_le, gt_iff_lt] at hb
        obtain ⟨⟨⟨h1, h2⟩, h3⟩, h4⟩ := hb
        split at h1 <;> split at h2 <;> omega
      · intro h
        rw [Bool.eq_false_iff]
        intro ha
        obtain ⟨s, hs, hb⟩ := List.any_eq_true.1 ha
        have := mayL_at h hs
        unfold mayBad mn mx at hb
        simp only [Bool.or_eq_true, decide_eq_true_eq, ge_iff_le, gt_iff_lt] at hb
        rcases hb with ((h1 | h2) | h3) | h4
        · split at h1 <;> omega
        · split at h2 <;> omega
        · omega
        · omega
end
/-! C15n -/
section
open Go.RowKit Go.Proofs.Ytacjlaiddnfpdaa.H Go.Proofs.YtacjlaiddnfpdaaW.PrintWords Go.Proofs.YtacjlaiddnfpdaaW.PrintLast Go.Proofs.YtacjlaiddnfpdaaW.PrintMore
theorem next_go (n : Nat) (had : Int → Int) : ∀ (r : List S48) (i : Int) (g : Int → Int × Int), (∀ s ∈ r, 0 ≤ s.f0 ∧ s.f0 < (n : Int) ∧ 0 ≤ s.f1 ∧ s.f1 < (n : Int) ∧ wrap64 (had s.f0 + s.f2) = had s.f0 + s.f2) →
    relax_next_go (rowF n had) r i (rowF n (fun h => (g h).1)) (rowF n (fun h => (g h).2)) = some (rowF n (fun h => (lst had h (eds r) i (g h).1 (g h).2).1), rowF n (fun h => (lst had h (eds r) i (g h).1 (g h).2).2))
  | [], i, g, _ => rfl
  | e :: r, i, g, hr => by
    obtain ⟨h0, h1, h2, h3, h4⟩ := hr e (by simp)
    unfold relax_next_go
    rw [if_pos h0, if_pos (by rw [rowF_length]; exact h1), if_pos h2, if_pos (by rw [rowF_length]; exact h3), if_pos (by rw [rowF_length]; exact h3), rowF_rd _ _ _ h0 h1, h4, rowF_rd _ _ _ h2 h3]
    by_cases c : had e.f0 + e.f2 < (g e.f1).1
    · rw [if_pos c, rowF_set _ _ _ _ h2 h3, rowF_set _ _ _ _ h2 h3]
      have e1 : (fun h => if h = e.f1 then had e.f0 + e.f2 else (g h).1) = fun h => (if h = e.f1 then (had e.f0 + e.f2, i) else g h).1 := by funext h; split <;> rfl
      have e2 : (fun h => if h = e.f1 then i else (g h).2) = fun h => (if h = e.f1 then (had e.f0 + e.f2, i) else g h).2 := by funext h; split <;> rfl
      rw [e1, e2, next_go n had r (i + 1) (fun h => if h = e.f1 then (had e.f0 + e.f2, i) else g h) (fun s hs => hr s (by simp [hs]))]
      have e3 : ∀ h, lst had h (eds r) (i + 1) (if h = e.f1 then (had e.f0 + e.f2, i) else g h).1 (if h = e.f1 then (had e.f0 + e.f2, i) else g h).2 = lst had h (eds (e :: r)) i (g h).1 (g h).2 := by
        intro h
        show _ = lst had h (ed e :: eds r) i (g h).1 (g h).2
        unfold lst
        by_cases c2 : h = e.f1
        · subst c2
          rw [if_pos rfl, if_pos ⟨rfl, c⟩]
          cases hh : eds r <;> rfl
        · rw [if_neg c2, if_neg (fun hh => c2 hh.1.symm)]
          cases hh : eds r <;> rfl
      simp only [e3]
    · rw [if_neg c, next_go n had r (i + 1) g (fun s hs => hr s (by simp [hs]))]
      have e3 : ∀ h, lst had h (eds r) (i + 1) (g h).1 (g h).2 = lst had h (eds (e :: r)) i (g h).1 (g h).2 := by
        intro h
        show _ = lst had h (ed e :: eds r) i (g h).1 (g h).2
        conv => rhs; unfold lst
        rw [if_neg (fun hh => by obtain ⟨h5, h6⟩ := hh; subst h5; exact c h6)]
      simp only [e3]
theorem next_eq {n : Int} {l : List S48} (hm : mayL n l) (hl : l.length ≤ 1000000) (k : Nat) (hk : k ≤ n.toNat) : relax_next.f (rowF n.toNat (L (eds l) k)) l = some (rowF n.toNat (L (eds l) (k + 1)), rowF n.toNat (B (eds l) (k + 1))) := by
  have h32 := hm.2.n32
  have h0 := hm.1
  unfold relax_next.f
  rw [if_pos hl]
  unfold slices_Clone_int64_int64.f
  rw [rowF_length, if_pos (by omega)]
  unfold relax_row_int.f slices_Repeat_int_int.f
  rw [if_pos (show [(-1 : Int)].length = 1 from rfl), if_pos (by omega), if_pos (by omega)]
  simp only [Option.bind_some, Int.toNat_natCast]
  have h_ := next_go n.toNat (L (eds l) k) l 0 (fun h => (L (eds l) k h, -1)) (fun s hs => by
    have := mayL_at hm hs
    exact ⟨this.1, by omega, this.2.2.1, by omega, wrapL hm hs k hk _⟩)
  rw [show (List.replicate n.toNat ([(-1 : Int)].getD 0 0)) = rowF n.toNat (fun h => ((fun h : Int => (L (eds l) k h, (-1 : Int))) h).2) from (rowF_const _ _).symm]
  exact h_
theorem layers_l0 {n : Int} {l : List S48} (hm : mayL n l) (hl : l.length ≤ 1000000) : ∀ (d i : Nat), n.toNat - i = d → i ≤ n.toNat → Ev (fun k => relax_Layers.l0 k l (rowsF n.toNat (L (eds l)) (i + 1)) (rowsF n.toNat (B (eds l)) (i + 1)) n (i : Int)) (rowsF n.toNat (L (eds l)) (n.toNat + 1), rowsF n.toNat (B (eds l)) (n.toNat + 1)) := by
  intro d
  have h32 := hm.2.n32
  have h0 := hm.1
  induction d with
  | zero =>
    intro i hd hi
    obtain rfl : i = n.toNat := by omega
    exact ev_step (f := fun _ => some _) (fun k => by rw [relax_Layers.l0, if_neg (by omega)]) (Ev.now _)
  | succ d ih =>
    intro i hd hi
    refine ev_step (fun k => ?_) (ih (i + 1) (by omega) (by omega))
    rw [relax_Layers.l0, if_pos (by omega), if_pos (by omega), if_pos (by rw [rowsF_length]; omega)]
    rw [show rd_L4 (rowsF n.toNat (L (eds l)) (i + 1)) (i : Int) = rowF n.toNat (L (eds l) i) by show (rowsF _ _ _).getD _ _ = _; rw [Int.toNat_natCast, rowsF_getD _ _ _ _ (by omega)]]
    rw [next_eq hm hl i (by omega), Option.bind_some, if_pos (by rw [rowsF_length]; omega), if_pos (by rw [rowsF_length]; omega), ← rowsF_succ, ← rowsF_succ, w64t i (by omega)]
open Classical in
theorem layers_ev (n : Int) (l : List S48) (hl : l.length ≤ 1000000) : Ev (fun k => relax_Layers.f k n l) (if mayL n l then (rowsF n.toNat (L (eds l)) (n.toNat + 1), rowsF n.toNat (B (eds l)) (n.toNat + 1)) else ([], [])) := by
  by_cases hm : mayL n l
  · have h32 := hm.2.n32
    have h0 := hm.1
    rw [if_pos hm]
    refine Ev.congr (fun k => ?_) (layers_l0 hm hl n.toNat 0 rfl (Nat.zero_le _))
    unfold relax_Layers.f
    rw [relaxMay_eq, decide_eq_true hm, Option.bind_some, if_pos rfl]
    unfold relax_row_int64.f slices_Repeat_int64_int64.f relax_row_int.f slices_Repeat_int_int.f
    rw [if_pos (show [(0 : Int)].length = 1 from rfl), if_pos h0, if_pos (by omega), if_pos (show [(-1 : Int)].length = 1 from rfl), if_pos h0, if_pos (by omega)]
    simp only [Option.bind_some]
    rw [show ([List.replicate n.toNat ([(0 : Int)].getD 0 0)] : List (List Int)) = rowsF n.toNat (L (eds l)) (0 + 1) by rw [show ([(0 : Int)].getD 0 0) = 0 from rfl, ← rowF_const]; rfl,
      show ([List.replicate n.toNat ([(-1 : Int)].getD 0 0)] : List (List Int)) = rowsF n.toNat (B (eds l)) (0 + 1) by rw [show ([(-1 : Int)].getD 0 0) = -1 from rfl, ← rowF_const]; rfl]
    rfl
  · rw [if_neg hm]
    refine Ev.congr (f := fun _ => some _) (fun k => ?_) (Ev.now _)
    unfold relax_Layers.f
    rw [relaxMay_eq, decide_eq_false hm, Option.bind_some, if_neg (by decide)]
end
/-! C15c -/
section
open Go.RowKit Go.Proofs.Ytacjlaiddnfpdaa.H Go.Proofs.YtacjlaiddnfpdaaW.PrintWords Go.Proofs.YtacjlaiddnfpdaaW.PrintLast Go.Proofs.YtacjlaiddnfpdaaW.PrintMore
theorem least_l0 {n : Int} {l : List S48} (hm : mayL n l) (hl : l.length ≤ 1000000) (q : Nat) (hq : q ≤ n.toNat) (h : Int) : ∀ (d i : Nat), l.length - i = d → i ≤ l.length → ∀ b y : Int, Ev (fun k => merkhetref15_least.l0 k (rowF n.toNat (L (eds l) q)) l h b y (i : Int)) (lst (L (eds l) q) h ((eds l).drop i) (i : Int) b y) := by
  intro d
  have h32 := hm.2.n32
  have h0 := hm.1
  have hz : ∀ j : Nat, rd_T48 l (j : Int) = l.getD j z48 := fun j => by show l.getD _ _ = _; rw [Int.toNat_natCast]
  induction d with
  | zero =>
    intro i hd hi b y
    rw [List.drop_of_length_le (by simp [eds]; omega)]
    exact ev_step (f := fun _ => some (b, y)) (fun k => by rw [merkhetref15_least.l0, if_neg (by omega)]) (Ev.now _)
  | succ d ih =>
    intro i hd hi b y
    have hlt : i < l.length := by omega
    have hg : l.getD i z48 = l[i] := by rw [List.getD_eq_getElem?_getD, List.getElem?_eq_getElem hlt]; rfl
    have hmem := List.getElem_mem hlt
    have hr := mayL_at hm hmem
    have hd2 : (eds l).drop i = ed l[i] :: (eds l).drop (i + 1) := by
      rw [List.drop_eq_getElem_cons (by simp [eds]; exact hlt)]; simp [eds]
    rw [hd2]
    unfold lst
    by_cases c1 : l[i].f1 = h
    · by_cases c2 : L (eds l) q l[i].f0 + l[i].f2 < b
      · rw [if_pos (show (ed l[i]).t = h ∧ L (eds l) q (ed l[i]).f + (ed l[i]).w < b from ⟨c1, c2⟩)]
        refine ev_step (fun k => ?_) (ih (i + 1) (by omega) (by omega) (L (eds l) q l[i].f0 + l[i].f2) (i : Int))
        rw [merkhetref15_least.l0, if_pos (by omega), if_pos (by omega), hz, hg, if_pos c1, if_pos hr.1, if_pos (by rw [rowF_length]; omega), rowF_rd _ _ _ hr.1 (by omega), wrapL hm hmem q hq, if_pos c2, w64t i (by omega)]
      · rw [if_neg (show ¬ ((ed l[i]).t = h ∧ L (eds l) q (ed l[i]).f + (ed l[i]).w < b) from fun hh => c2 hh.2)]
        refine ev_step (fun k => ?_) (ih (i + 1) (by omega) (by omega) b y)
        rw [merkhetref15_least.l0, if_pos (by omega), if_pos (by omega), hz, hg, if_pos c1, if_pos hr.1, if_pos (by rw [rowF_length]; omega), rowF_rd _ _ _ hr.1 (by omega), wrapL hm hmem q hq, if_neg c2, w64t i (by omega)]
    · rw [if_neg (show ¬ ((ed l[i]).t = h ∧ L (eds l) q (ed l[i]).f + (ed l[i]).w < b) from fun hh => c1 hh.1)]
      refine ev_step (fun k => ?_) (ih (i + 1) (by omega) (by omega) b y)
      rw [merkhetref15_least.l0, if_pos (by omega), if_pos (by omega), hz, hg, if_neg c1, w64t i (by omega)]
theorem least_ev {n : Int} {l : List S48} (hm : mayL n l) (hl : l.length ≤ 1000000) (q : Nat) (hq : q ≤ n.toNat) (h : Nat) (hh : h < n.toNat) : Ev (fun k => merkhetref15_least.f k (rowF n.toNat (L (eds l) q)) l (h : Int)) (L (eds l) (q + 1) (h : Int), B (eds l) (q + 1) (h : Int)) := by
  unfold merkhetref15_least.f
  refine Ev.congr (fun k => by rw [if_pos (by omega), if_pos (by rw [rowF_length]; omega), rowF_rd _ _ _ (by omega) (by omega)]) ?_
  have h_ := least_l0 hm hl q hq (h : Int) l.length 0 rfl (Nat.zero_le _) (L (eds l) q (h : Int)) (-1)
  exact h_
theorem rowF_take (n : Nat) (f : Int → Int) (i : Nat) (h : i < n) : (rowF n f).take (i + 1) = (rowF n f).take i ++ [f (i : Int)] := by
  rw [List.take_succ_eq_append_getElem (by rw [rowF_length]; exact h)]
  simp [rowF]
theorem reflayers_l2 {n : Int} {l : List S48} (hm : mayL n l) (hl : l.length ≤ 1000000) (q : Nat) (hq : q < n.toNat) (r : List (List Int) × List (List Int)) (hr : Ev (fun k => merkhetref15_Layers.l1 k n l (rowsF n.toNat (L (eds l)) (q + 1 + 1)) (rowsF n.toNat (B (eds l)) (q + 1 + 1)) ((q + 1 + 1 : Nat) : Int)) r) :
    ∀ (d i : Nat), n.toNat - i = d → i ≤ n.toNat → Ev (fun k => merkhetref15_Layers.l2 k n l (rowsF n.toNat (L (eds l)) (q + 1)) (rowsF n.toNat (B (eds l)) (q + 1)) ((q + 1 : Nat) : Int) ((rowF n.toNat (L (eds l) (q + 1))).take i) ((rowF n.toNat (B (eds l) (q + 1))).take i) (i : Int)) r := by
  intro d
  have h32 := hm.2.n32
  have h0 := hm.1
  have hw : wrap64 (((q + 1 : Nat) : Int) - 1) = (q : Int) := by unfold wrap64; omega
  induction d with
  | zero =>
    intro i hd hi
    obtain rfl : i = n.toNat := by omega
    refine ev_step (fun k => ?_) hr
    rw [merkhetref15_Layers.l2, if_neg (by omega), if_pos (by rw [rowsF_length]; omega), if_pos (by rw [rowsF_length]; omega), List.take_of_length_le (by rw [rowF_length]; omega), List.take_of_length_le (by rw [rowF_length]; omega), ← rowsF_succ, ← rowsF_succ, w64t (q + 1) (by omega)]
  | succ d ih =>
    intro i hd hi
    refine ev_step (f := fun k => (merkhetref15_least.f k (rowF n.toNat (L (eds l) q)) l (i : Int)).bind fun bt => if ((rowF n.toNat (L (eds l) (q + 1))).take i).length < 17592186044416 then (if ((rowF n.toNat (B (eds l) (q + 1))).take i).length < 17592186044416 then merkhetref15_Layers.l2 k n l (rowsF n.toNat (L (eds l)) (q + 1)) (rowsF n.toNat (B (eds l)) (q + 1)) ((q + 1 : Nat) : Int) ((rowF n.toNat (L (eds l) (q + 1))).take i ++ [bt.1]) ((rowF n.toNat (B (eds l) (q + 1))).take i ++ [bt.2]) (wrap64 ((i : Int) + 1)) else none) else none) (fun k => ?_) ?_
    · rw [merkhetref15_Layers.l2, if_pos (by omega), hw, if_pos (by omega), if_pos (by rw [rowsF_length]; omega)]
      rw [show rd_L4 (rowsF n.toNat (L (eds l)) (q + 1)) (q : Int) = rowF n.toNat (L (eds l) q) by show (rowsF _ _ _).getD _ _ = _; rw [Int.toNat_natCast, rowsF_getD _ _ _ _ (by omega)]]
    · refine Ev.bind (least_ev hm hl q (by omega) i (by omega)) ?_
      refine Ev.congr (fun k => ?_) (ih (i + 1) (by omega) (by omega))
      rw [if_pos (by rw [List.length_take, rowF_length]; omega), if_pos (by rw [List.length_take, rowF_length]; omega), rowF_take _ _ i (by omega), rowF_take _ _ i (by omega), w64t i (by omega)]
theorem reflayers_l1 {n : Int} {l : List S48} (hm : mayL n l) (hl : l.length ≤ 1000000) : ∀ (d q : Nat), n.toNat - q = d → q ≤ n.toNat → Ev (fun k => merkhetref15_Layers.l1 k n l (rowsF n.toNat (L (eds l)) (q + 1)) (rowsF n.toNat (B (eds l)) (q + 1)) ((q + 1 : Nat) : Int)) (rowsF n.toNat (L (eds l)) (n.toNat + 1), rowsF n.toNat (B (eds l)) (n.toNat + 1)) := by
  intro d
  have h32 := hm.2.n32
  have h0 := hm.1
  induction d with
  | zero =>
    intro q hd hq
    obtain rfl : q = n.toNat := by omega
    exact ev_step (f := fun _ => some _) (fun k => by rw [merkhetref15_Layers.l1, if_neg (by omega)]) (Ev.now _)
  | succ d ih =>
    intro q hd hq
    refine ev_step (fun k => ?_) (reflayers_l2 hm hl q (by omega) _ (ih (q + 1) (by omega) (by omega)) n.toNat 0 rfl (Nat.zero_le _))
    rw [merkhetref15_Layers.l1, if_pos (by omega)]
    rfl
theorem reflayers_l0 {n : Int} {l : List S48} (hm : mayL n l) (r : List (List Int) × List (List Int)) (hr : Ev (fun k => merkhetref15_Layers.l1 k n l [List.replicate n.toNat 0] [List.replicate n.toNat (-1)] 1) r) : ∀ (d i : Nat), n.toNat - i = d → i ≤ n.toNat → Ev (fun k => merkhetref15_Layers.l0 k n l (List.replicate i 0) (List.replicate i (-1)) (i : Int)) r := by
  intro d
  have h32 := hm.2.n32
  have h0 := hm.1
  induction d with
  | zero =>
    intro i hd hi
    obtain rfl : i = n.toNat := by omega
    exact ev_step (fun k => by rw [merkhetref15_Layers.l0, if_neg (by omega)]) hr
  | succ d ih =>
    intro i hd hi
    refine ev_step (fun k => ?_) (ih (i + 1) (by omega) (by omega))
    rw [merkhetref15_Layers.l0, if_pos (by omega), if_pos (by simp; omega), if_pos (by simp; omega), List.replicate_succ', List.replicate_succ', w64t i (by omega)]
open Classical in
theorem reflayers_ev (n : Int) (l : List S48) (hl : l.length ≤ 1000000) : Ev (fun k => merkhetref15_Layers.f k n l) (if mayL n l then (rowsF n.toNat (L (eds l)) (n.toNat + 1), rowsF n.toNat (B (eds l)) (n.toNat + 1)) else ([], [])) := by
  unfold merkhetref15_Layers.f
  refine Ev.bind (refMay15_ev n l (by omega)) ?_
  by_cases hm : mayL n l
  · rw [if_pos hm, decide_eq_true hm]
    refine Ev.congr (fun k => by rw [if_pos rfl]) ?_
    have h1 := reflayers_l1 hm hl n.toNat 0 rfl (Nat.zero_le _)
    rw [show rowsF n.toNat (L (eds l)) (0 + 1) = [List.replicate n.toNat 0] by rw [← rowF_const]; rfl, show rowsF n.toNat (B (eds l)) (0 + 1) = [List.replicate n.toNat (-1)] by rw [← rowF_const]; rfl] at h1
    exact reflayers_l0 hm _ h1 n.toNat 0 rfl (Nat.zero_le _)
  · rw [if_neg hm, decide_eq_false hm]
    exact Ev.congr (f := fun _ => some _) (fun k => by rw [if_neg (by decide)]) (Ev.now _)
theorem refsolve_l0 {n : Int} {l : List S48} (hm : mayL n l) (hn : 0 < n) : ∀ (d i : Nat), n.toNat - i = d → i ≤ n.toNat → (∀ j : Nat, j < i → L (eds l) n.toNat (j : Int) = L (eds l) (n.toNat - 1) (j : Int)) → Ev (fun k => merkhetref15_Solve.l0 k n (rowsF n.toNat (L (eds l)) (n.toNat + 1)) (i : Int)) (solveP n l) := by
  intro d
  have h32 := hm.2.n32
  have h0 := hm.1
  have hw : wrap64 (n - 1) = n - 1 := by unfold wrap64; omega
  have hrd : ∀ (i : Nat) (a : Int), a = (i : Int) → i < n.toNat + 1 → rd_L4 (rowsF n.toNat (L (eds l)) (n.toNat + 1)) a = rowF n.toNat (L (eds l) i) := fun i a ha hi => by
    subst ha
    show (rowsF _ _ _).getD _ _ = _
    rw [Int.toNat_natCast, rowsF_getD _ _ _ _ hi]
  induction d with
  | zero =>
    intro i hd hi hall
    unfold solveP
    rw [if_pos (show mayL n l ∧ ∀ h, 0 ≤ h → h < n → L (eds l) n.toNat h = L (eds l) (n.toNat - 1) h from ⟨hm, fun h h1 h2 => by have := hall h.toNat (by omega); rwa [Int.toNat_of_nonneg h1] at this⟩)]
    refine ev_step (f := fun _ => some (rowF n.toNat (L (eds l) n.toNat), true)) (fun k => ?_) (Ev.now _)
    rw [merkhetref15_Solve.l0, if_neg (by omega), if_pos h0, if_pos (by rw [rowsF_length]; omega), hrd n.toNat n (by omega) (by omega)]
  | succ d ih =>
    intro i hd hi hall
    have hle := L_mono_le (eds l) (i : Int) (show n.toNat - 1 ≤ n.toNat by omega)
    by_cases c : L (eds l) n.toNat (i : Int) < L (eds l) (n.toNat - 1) (i : Int)
    · unfold solveP
      rw [if_neg (show ¬ (mayL n l ∧ ∀ h, 0 ≤ h → h < n → L (eds l) n.toNat h = L (eds l) (n.toNat - 1) h) from fun h => by have := h.2 (i : Int) (by omega) (by omega); omega)]
      refine ev_step (f := fun _ => some ([], false)) (fun k => ?_) (Ev.now _)
      rw [merkhetref15_Solve.l0, if_pos (by omega), if_pos h0, if_pos (by rw [rowsF_length]; omega), if_pos (by omega), hw, hrd n.toNat n (by omega) (by omega), if_pos (by rw [rowF_length]; omega), if_pos (by omega), if_pos (by rw [rowsF_length]; omega), hrd (n.toNat - 1) (n - 1) (by omega) (by omega), if_pos (by rw [rowF_length]; omega), rowF_rd _ _ _ (by omega) (by omega), rowF_rd _ _ _ (by omega) (by omega), if_pos c]
    · refine ev_step (fun k => ?_) (ih (i + 1) (by omega) (by omega) (fun j hj => by
        rcases Nat.lt_or_ge j i with h | h
        · exact hall j h
        · have hji : j = i := by omega
          rw [hji]
          omega))
      rw [merkhetref15_Solve.l0, if_pos (by omega), if_pos h0, if_pos (by rw [rowsF_length]; omega), if_pos (by omega), hw, hrd n.toNat n (by omega) (by omega), if_pos (by rw [rowF_length]; omega), if_pos (by omega), if_pos (by rw [rowsF_length]; omega), hrd (n.toNat - 1) (n - 1) (by omega) (by omega), if_pos (by rw [rowF_length]; omega), rowF_rd _ _ _ (by omega) (by omega), rowF_rd _ _ _ (by omega) (by omega), if_neg c, w64t i (by omega)]
theorem refsolve_ev (n : Int) (l : List S48) (hl : l.length ≤ 1000000) : Ev (fun k => merkhetref15_Solve.f k n l) (solveP n l) := by
  unfold merkhetref15_Solve.f
  refine Ev.bind (reflayers_ev n l hl) ?_
  by_cases hm : mayL n l
  · have h32 := hm.2.n32
    have h0 := hm.1
    rw [if_pos hm]
    refine Ev.congr (fun k => by rw [if_neg (by rw [rowsF_length]; omega)]) ?_
    by_cases hn : 0 < n
    · exact refsolve_l0 hm hn n.toNat 0 rfl (Nat.zero_le _) (fun j hj => absurd hj (Nat.not_lt_zero _))
    · have hn0 : n = 0 := by omega
      subst hn0
      unfold solveP
      rw [if_pos (show mayL 0 l ∧ ∀ h : Int, 0 ≤ h → h < 0 → L (eds l) (0 : Int).toNat h = L (eds l) ((0 : Int).toNat - 1) h from ⟨hm, fun h h1 h2 => by omega⟩)]
      exact ev_step (f := fun _ => some ([], true)) (fun k => by rw [merkhetref15_Solve.l0, if_neg (by omega), if_pos (by omega), if_pos (by rw [rowsF_length]; omega)]; rfl) (Ev.now _)
  · rw [if_neg hm]
    unfold solveP
    rw [if_neg (show ¬ (mayL n l ∧ ∀ h, 0 ≤ h → h < n → L (eds l) n.toNat h = L (eds l) (n.toNat - 1) h) from fun h => hm h.1)]
    exact Ev.congr (f := fun _ => some ([], false)) (fun k => by rw [if_pos (by rfl)]) (Ev.now _)
end
/-! C16a -/
section
open Go.RowKit Go.Proofs.Ytacjlaiddnfpdaa.H Go.Proofs.YtacjlaiddnfpdaaW.PrintWords Go.Proofs.YtacjlaiddnfpdaaW.PrintLast Go.Proofs.YtacjlaiddnfpdaaW.PrintMore
/-- A chain among edges. -/
structure isLoop (n : Int) (l c : List S48) : Prop where
  ne : 0 < c.length
  le : c.length ≤ n.toNat
  mem : ∀ e ∈ c, e ∈ l
  rg : ring (fun e : S48 => e.f0) (fun e : S48 => e.f1) c
  neg : sumW (fun e : S48 => e.f2) c < 0
theorem isLoop_turn {n : Int} {l c : List S48} (h : isLoop n l c) (k : Nat) (hk : k ≤ c.length) : isLoop n l (c.drop k ++ c.take k) :=
  ⟨by rw [turn_len c k hk]; exact h.ne, by rw [turn_len c k hk]; exact h.le, fun e he => h.mem e (turn_mem.1 he), ring_turn h.rg k hk, by rw [sumW_turn]; exact h.neg⟩
/-- The edges of a walk back, from the last one on. -/
def chM {α : Type} (e : Nat → α) (m d : Nat) : List α := (List.range d).map fun p => e (m - 1 - p)
theorem chM_len {α : Type} (e : Nat → α) (m d : Nat) : (chM e m d).length = d := by simp [chM]
theorem chM_cons {α : Type} (e : Nat → α) (m : Nat) : e m :: chM e m m = chM e (m + 1) (m + 1) := by
  unfold chM
  rw [List.range_succ_eq_map, List.map_cons, List.map_map]
  refine congr (congrArg _ (by congr 1)) (List.map_congr_left fun p hp => ?_)
  show e (m - 1 - p) = e (m + 1 - 1 - (p + 1))
  congr 1; omega
theorem chM_take {α : Type} (e : Nat → α) (m d : Nat) (h : d ≤ m) : (chM e m m).take d = chM e m d := by
  apply List.ext_getElem
  · rw [List.length_take, chM_len, chM_len]; omega
  · intro i h1 h2
    rw [List.getElem_take]
    simp [chM]
theorem chM_rev {α : Type} (e : Nat → α) (m i : Nat) (h : i ≤ m) : (((List.range m).map e).drop i).reverse = chM e m (m - i) := by
  apply List.ext_getElem
  · rw [List.length_reverse, List.length_drop, List.length_map, List.length_range, chM_len]
  · intro p h1 h2
    rw [chM_len] at h2
    rw [List.getElem_reverse, List.getElem_drop]
    simp only [chM, List.getElem_map, List.getElem_range, List.length_drop, List.length_map, List.length_range]
    congr 1; omega
theorem chM_sum {α : Type} (w : α → Int) (e : Nat → α) (g : Nat → Int) (i : Nat) : ∀ d, (∀ q, q < d → w (e (i + q)) = g q) → sumW w (chM e (i + d) d) = (List.range d).foldl (fun s q => s + g q) 0
  | 0, _ => rfl
  | d + 1, h => by
    have ih := chM_sum w e g i d (fun q hq => h q (by omega))
    have e1 : chM e (i + (d + 1)) (d + 1) = e (i + d) :: chM e (i + d) d := by
      unfold chM
      rw [List.range_succ_eq_map, List.map_cons, List.map_map]
      refine congr (congrArg _ (by congr 1)) (List.map_congr_left fun p hp => ?_)
      show e (i + (d + 1) - 1 - (p + 1)) = e (i + d - 1 - p)
      congr 1; omega
    rw [e1, List.range_succ, List.foldl_append]
    show w (e (i + d)) + sumW w (chM e (i + d) d) = _
    rw [ih, h d (by omega)]
    show _ = (List.range d).foldl (fun s q => s + g q) 0 + g d
    omega
theorem wsum_fold (es : List Ed) (n : Nat) (v : Int) (i : Nat) : ∀ d, wsum es n v i d = (List.range d).foldl (fun s q => s + (es.getD (ix es n v (i + q)) ⟨0, 0, 0⟩).w) 0
  | 0 => rfl
  | d + 1 => by
    rw [List.range_succ, List.foldl_append, ← wsum_fold es n v i d]
    rfl
section
variable {n : Int} {l : List S48} (hm : mayL n l) {v : Int} (hv0 : 0 ≤ v) (hvn : v < n) (hlt : L (eds l) n.toNat v < L (eds l) (n.toNat - 1) v)
/-- The edge by which one goes back. -/
def edS (l : List S48) (n : Nat) (v : Int) (j : Nat) : S48 := l.getD (ix (eds l) n v j) z48
include hm hv0 hvn hlt in
theorem edS_at {j : Nat} (hj : j < n.toNat) : (ix (eds l) n.toNat v j < l.length ∧ edS l n.toNat v j ∈ l) ∧ (edS l n.toNat v j).f1 = bk (eds l) n.toNat v j ∧ (edS l n.toNat v j).f0 = bk (eds l) n.toNat v (j + 1) ∧ B (eds l) (n.toNat - j) (bk (eds l) n.toNat v j) = (ix (eds l) n.toNat v j : Int) ∧ ((eds l).getD (ix (eds l) n.toNat v j) ⟨0, 0, 0⟩).w = (edS l n.toNat v j).f2 := by
  have h0 := hm.1
  obtain ⟨h1, h2, h3, h4, h5⟩ := ix_at hm.2 hv0 (by omega) hlt hj
  have h2' : ix (eds l) n.toNat v j < l.length := by simpa [eds] using h2
  have e : edS l n.toNat v j = l[ix (eds l) n.toNat v j] := by unfold edS; rw [List.getD_eq_getElem?_getD, List.getElem?_eq_getElem h2']; rfl
  have e2 : (eds l)[ix (eds l) n.toNat v j] = ed l[ix (eds l) n.toNat v j] := by simp [eds]
  rw [e2] at h3 h4
  rw [e]
  refine ⟨⟨h2', List.getElem_mem _⟩, h3, h4, h1, ?_⟩
  rw [List.getD_eq_getElem?_getD, List.getElem?_eq_getElem h2]
  show ((eds l)[ix (eds l) n.toNat v j]).w = _
  rw [e2]; rfl
include hm hv0 hvn hlt in
theorem chain_is {i m : Nat} (him : i < m) (hmn : m ≤ n.toNat) (he : bk (eds l) n.toNat v i = bk (eds l) n.toNat v m) (hno : ∀ a b, a < b → b < m → bk (eds l) n.toNat v a ≠ bk (eds l) n.toNat v b) : isLoop n l (chM (edS l n.toNat v) m (m - i)) := by
  have h0 := hm.1
  have hA := fun j (hj : j < n.toNat) => edS_at hm hv0 hvn hlt hj
  refine ⟨by rw [chM_len]; omega, by rw [chM_len]; omega, fun e he => ?_, ?_, ?_⟩
  · obtain ⟨p, hp, rfl⟩ := List.mem_map.1 he
    have := List.mem_range.1 hp
    exact (hA _ (by omega)).1.2
  · exact ring_walk (h := bk (eds l) n.toNat v) (e := edS l n.toNat v) him he hno (fun j hj => (hA j (by omega)).2.2.1) (fun j hj => (hA j (by omega)).2.1)
  · have h1 := chM_sum (fun e : S48 => e.f2) (edS l n.toNat v) (fun q => ((eds l).getD (ix (eds l) n.toNat v (i + q)) ⟨0, 0, 0⟩).w) i (m - i) (fun q hq => ((hA (i + q) (by omega)).2.2.2.2).symm)
    rw [show i + (m - i) = m by omega, ← wsum_fold] at h1
    rw [h1]
    exact wsum_below hm.2 hv0 (by omega) hlt him hmn he
end
/-! the library's searches in a row of numbers -/
theorem indexI_no (l : List Int) (x : Int) (hl : l.length < 1000000000) : ∀ (d i : Nat), i + d = l.length → (∀ q, i ≤ q → q < l.length → l.getD q 0 ≠ x) → Ev (fun k => slices_Index_int_int.l0 k l x (l.length : Int) (i : Int)) (-1) := by
  intro d
  induction d with
  | zero => intro i hi _; exact ev_step (f := fun _ => some (-1)) (fun k => by rw [slices_Index_int_int.l0, if_neg (by omega)]) (Ev.now _)
  | succ d ih =>
    intro i hi h
    refine ev_step (fun k => ?_) (ih (i + 1) (by omega) (fun q h1 h2 => h q (by omega) h2))
    rw [slices_Index_int_int.l0, if_pos (by omega), if_pos (by omega), if_pos (by omega), rdt, if_neg (fun e => h i (Nat.le_refl _) (by omega) e.symm), w64t i (by omega)]
theorem indexI_at (l : List Int) (x : Int) (hl : l.length < 1000000000) (p : Nat) (hp : p < l.length) (hx : l.getD p 0 = x) : ∀ (d i : Nat), i + d = p → (∀ q, i ≤ q → q < p → l.getD q 0 ≠ x) → Ev (fun k => slices_Index_int_int.l0 k l x (l.length : Int) (i : Int)) (p : Int) := by
  intro d
  induction d with
  | zero =>
    intro i hi _
    obtain rfl : i = p := by omega
    exact ev_step (f := fun _ => some (i : Int)) (fun k => by rw [slices_Index_int_int.l0, if_pos (by omega), if_pos (by omega), if_pos (by omega), rdt, if_pos hx.symm]) (Ev.now _)
  | succ d ih =>
    intro i hi h
    refine ev_step (fun k => ?_) (ih (i + 1) (by omega) (fun q h1 h2 => h q (by omega) h2))
    rw [slices_Index_int_int.l0, if_pos (by omega), if_pos (by omega), if_pos (by omega), rdt, if_neg (fun e => h i (Nat.le_refl _) (by omega) e.symm), w64t i (by omega)]
theorem placeI_no (l : List Int) (x : Int) (hl : l.length < 1000000000) : ∀ (d i : Nat), i + d = l.length → (∀ q, i ≤ q → q < l.length → l.getD q 0 ≠ x) → Ev (fun k => merkhetref16_place.l0 k l x (i : Int)) (-1) := by
  intro d
  induction d with
  | zero => intro i hi _; exact ev_step (f := fun _ => some (-1)) (fun k => by rw [merkhetref16_place.l0, if_neg (by omega)]) (Ev.now _)
  | succ d ih =>
    intro i hi h
    refine ev_step (fun k => ?_) (ih (i + 1) (by omega) (fun q h1 h2 => h q (by omega) h2))
    rw [merkhetref16_place.l0, if_pos (by omega), if_pos (by omega), rdt, if_neg (fun e => h i (Nat.le_refl _) (by omega) e), w64t i (by omega)]
theorem placeI_at (l : List Int) (x : Int) (hl : l.length < 1000000000) (p : Nat) (hp : p < l.length) (hx : l.getD p 0 = x) : ∀ (d i : Nat), i + d = p → (∀ q, i ≤ q → q < p → l.getD q 0 ≠ x) → Ev (fun k => merkhetref16_place.l0 k l x (i : Int)) (p : Int) := by
  intro d
  induction d with
  | zero =>
    intro i hi _
    obtain rfl : i = p := by omega
    exact ev_step (f := fun _ => some (i : Int)) (fun k => by rw [merkhetref16_place.l0, if_pos (by omega), if_pos (by omega), rdt, if_pos hx]) (Ev.now _)
  | succ d ih =>
    intro i hi h
    refine ev_step (fun k => ?_) (ih (i + 1) (by omega) (fun q h1 h2 => h q (by omega) h2))
    rw [merkhetref16_place.l0, if_pos (by omega), if_pos (by omega), rdt, if_neg (fun e => h i (Nat.le_refl _) (by omega) e), w64t i (by omega)]
theorem getD_mapR (f : Nat → Int) (m q : Nat) (h : q < m) : ((List.range m).map f).getD q 0 = f q := by
  rw [List.getD_eq_getElem?_getD, List.getElem?_eq_getElem (by simpa using h)]; simp
theorem rdL5 (n : Nat) (F : Nat → Int → Int) (i : Nat) (a : Int) (ha : a = (i : Int)) (hi : i < n + 1) : rd_L4 (rowsF n F (n + 1)) a = rowF n (F i) := by
  subst ha
  show (rowsF _ _ _).getD _ _ = _
  rw [Int.toNat_natCast, rowsF_getD _ _ _ _ hi]
theorem rdL6 (n : Nat) (F : Nat → Int → Int) (i : Nat) (a : Int) (ha : a = (i : Int)) (hi : i < n + 1) : rd_L5 (rowsF n F (n + 1)) a = rowF n (F i) := by
  subst ha
  show (rowsF _ _ _).getD _ _ = _
  rw [Int.toNat_natCast, rowsF_getD _ _ _ _ hi]
section
variable {n : Int} {l : List S48} (hm : mayL n l) (hl : l.length ≤ 1000) {v : Int} (hv0 : 0 ≤ v) (hvn : v < n) (hlt : L (eds l) n.toNat v < L (eds l) (n.toNat - 1) v)
  {i m : Nat} (him : i < m) (hmn : m ≤ n.toNat) (he : bk (eds l) n.toNat v i = bk (eds l) n.toNat v m) (hno : ∀ a b, a < b → b < m → bk (eds l) n.toNat v a ≠ bk (eds l) n.toNat v b)
include hm hv0 hvn hlt him hmn he hno in
theorem back_go : ∀ (d j : Nat), j + d = m → Ev (fun k => loop_back_go k (rowsF n.toNat (B (eds l)) (n.toNat + 1)) l (n.toNat + 1 - j) (bk (eds l) n.toNat v j) ((List.range j).map (bk (eds l) n.toNat v)) ((List.range j).map (edS l n.toNat v))) (bk (eds l) n.toNat v m, (List.range m).map (bk (eds l) n.toNat v), (List.range m).map (edS l n.toNat v)) := by
  have h0 := hm.1
  have h32 := hm.2.n32
  intro d
  induction d with
  | zero =>
    intro j hj
    obtain rfl : j = m := by omega
    obtain ⟨c, hc⟩ : ∃ c, n.toNat + 1 - j = c + 1 := ⟨n.toNat - j, by omega⟩
    rw [hc]
    unfold loop_back_go
    have hin : Ev (fun k => slices_Contains_int_int.f k ((List.range j).map (bk (eds l) n.toNat v)) (bk (eds l) n.toNat v j)) true := by
      unfold slices_Contains_int_int.f slices_Index_int_int.f
      refine Ev.bind (indexI_at _ _ (by simp; omega) i (by simpa using him) (by rw [getD_mapR _ _ _ him]; exact he) i 0 (by omega) (fun q _ hq => by rw [getD_mapR _ _ _ (by omega)]; rw [← he]; exact hno q i hq him)) ?_
      exact Ev.congr (f := fun _ => some true) (fun k => by rw [decide_eq_true (by omega)]) (Ev.now _)
    refine Ev.bind hin ?_
    exact Ev.congr (fun k => by rw [if_pos rfl]) (Ev.now _)
  | succ d ih =>
    intro j hj
    obtain ⟨c, hc⟩ : ∃ c, n.toNat + 1 - j = c + 1 := ⟨n.toNat - j, by omega⟩
    have hcn : c = n.toNat - j := by omega
    have hjn : j < n.toNat := by omega
    obtain ⟨⟨x1, x2⟩, x3, x4, x5, x6⟩ := edS_at hm hv0 hvn hlt hjn
    have hr := bk_range hm.2 hv0 (by omega) hlt j (by omega)
    have ih' := ih (j + 1) (by omega)
    rw [show n.toNat + 1 - (j + 1) = c by omega] at ih'
    rw [hc]
    unfold loop_back_go
    have hout : Ev (fun k => slices_Contains_int_int.f k ((List.range j).map (bk (eds l) n.toNat v)) (bk (eds l) n.toNat v j)) false := by
      unfold slices_Contains_int_int.f slices_Index_int_int.f
      refine Ev.bind (indexI_no _ _ (by simp; omega) j 0 (by simp) (fun q _ hq => by rw [List.length_map, List.length_range] at hq; rw [getD_mapR _ _ _ hq]; exact hno q j hq (by omega))) ?_
      exact Ev.congr (f := fun _ => some false) (fun k => by rw [decide_eq_false (by omega)]) (Ev.now _)
    refine Ev.bind hout ?_
    have hi' : loop_back_i (rowsF n.toNat (B (eds l)) (n.toNat + 1)) c (bk (eds l) n.toNat v j) = (ix (eds l) n.toNat v j : Int) := by
      unfold loop_back_i
      rw [rdL6 _ _ c _ rfl (by omega), rowF_rd _ _ _ hr.1 hr.2, hcn, x5]
    have hrl : (rd_L5 (rowsF n.toNat (B (eds l)) (n.toNat + 1)) (c : Int)).length = n.toNat := by rw [rdL6 _ _ c _ rfl (by omega), rowF_length]
    refine Ev.congr (fun k => ?_) ih'
    rw [if_neg Bool.false_ne_true, hi', hrl, if_pos ⟨⟨hr.1, by omega⟩, by omega, by omega⟩]
    have ee : rd_T48 l (ix (eds l) n.toNat v j : Int) = edS l n.toNat v j := by show l.getD _ _ = _; rw [Int.toNat_natCast]; rfl
    rw [ee, x4, List.range_succ, List.map_append, List.map_append]
    rfl
include hm hl hv0 hvn hlt him hmn he hno in
theorem back_ev : Ev (fun k => loop_back.f k v (rowsF n.toNat (B (eds l)) (n.toNat + 1)) l) (chM (edS l n.toNat v) m (m - i)) := by
  have h0 := hm.1
  have h32 := hm.2.n32
  unfold loop_back.f
  refine Ev.congr (fun k => by rw [rowsF_length, if_pos (by omega)]) ?_
  refine Ev.bind (back_go hm hv0 hvn hlt him hmn he hno m 0 (by omega)) ?_
  have hix : Ev (fun k => slices_Index_int_int.f k ((List.range m).map (bk (eds l) n.toNat v)) (bk (eds l) n.toNat v m)) (i : Int) := by
    unfold slices_Index_int_int.f
    exact indexI_at _ _ (by simp; omega) i (by simpa using him) (by rw [getD_mapR _ _ _ him]; exact he) i 0 (by omega) (fun q _ hq => by rw [getD_mapR _ _ _ (by omega)]; rw [← he]; exact hno q i hq him)
  refine Ev.bind hix ?_
  refine Ev.congr (f := fun _ => some (chM (edS l n.toNat v) m (m - i))) (fun k => ?_) (Ev.now _)
  rw [if_pos (by rw [List.length_map, List.length_range]; omega), Int.toNat_natCast]
  unfold api_Edge_61.f
  rw [if_pos (by rw [List.length_drop, List.length_map, List.length_range]; omega), Option.bind_some]
  unfold api_Edge_62.f
  rw [if_pos (by rw [List.length_drop, List.length_map, List.length_range]; omega), chM_rev _ _ _ (by omega)]
theorem turned_eq (c : List S48) (h : c.length ≤ 100000) : loop_turned.f c = some (c.drop (loop_turned_ls c) ++ c.take (loop_turned_ls c)) := by
  unfold loop_turned.f; rw [if_pos h]
include hm hv0 hvn hlt him hmn he hno in
theorem refgo16 : ∀ (d j : Nat), j + d + 1 = m → Ev (fun k => merkhetref16_Of_go k (rowsF n.toNat (B (eds l)) (n.toNat + 1)) l (n.toNat - j) (bk (eds l) n.toNat v j) ((List.range (j + 1)).map (bk (eds l) n.toNat v)) (chM (edS l n.toNat v) j j)) (chM (edS l n.toNat v) m (m - i)) := by
  have h0 := hm.1
  have h32 := hm.2.n32
  have step : ∀ (j c : Nat), j + 1 ≤ m → n.toNat - j = c + 1 → ∀ r, (Ev (fun k => (merkhetref16_place.f k ((List.range (j + 1)).map (bk (eds l) n.toNat v)) (bk (eds l) n.toNat v (j + 1))).bind fun at_ =>
        if 0 ≤ at_ then (if at_ ≤ (j : Int) then some ((chM (edS l n.toNat v) (j + 1) (j + 1)).take (j + 1 - at_.toNat)) else none)
        else merkhetref16_Of_go k (rowsF n.toNat (B (eds l)) (n.toNat + 1)) l c (bk (eds l) n.toNat v (j + 1)) ((List.range (j + 1 + 1)).map (bk (eds l) n.toNat v)) (chM (edS l n.toNat v) (j + 1) (j + 1))) r) → Ev (fun k => merkhetref16_Of_go k (rowsF n.toNat (B (eds l)) (n.toNat + 1)) l (n.toNat - j) (bk (eds l) n.toNat v j) ((List.range (j + 1)).map (bk (eds l) n.toNat v)) (chM (edS l n.toNat v) j j)) r := by
    intro j c hj hc r hr
    have hjn : j < n.toNat := by omega
    obtain ⟨⟨x1, x2⟩, x3, x4, x5, x6⟩ := edS_at hm hv0 hvn hlt hjn
    have hrg := bk_range hm.2 hv0 (by omega) hlt j (by omega)
    have hi' : merkhetref16_Of_bi (rowsF n.toNat (B (eds l)) (n.toNat + 1)) ((c + 1 : Nat) : Int) (bk (eds l) n.toNat v j) = (ix (eds l) n.toNat v j : Int) := by
      unfold merkhetref16_Of_bi
      rw [rdL6 _ _ (c + 1) _ rfl (by omega), rowF_rd _ _ _ hrg.1 hrg.2, ← hc, x5]
    have hrl : (rd_L5 (rowsF n.toNat (B (eds l)) (n.toNat + 1)) ((c + 1 : Nat) : Int)).length = n.toNat := by rw [rdL6 _ _ (c + 1) _ rfl (by omega), rowF_length]
    have ee : rd_T48 l (ix (eds l) n.toNat v j : Int) = edS l n.toNat v j := by show l.getD _ _ = _; rw [Int.toNat_natCast]; rfl
    refine Ev.congr (fun k => ?_) hr
    rw [hc, merkhetref16_Of_go]
    rw [hi', hrl, rowsF_length, chM_len, List.length_map, List.length_range, if_pos ⟨⟨⟨by omega, by omega, by omega⟩, hrg.1, by omega⟩, by omega, by omega⟩, ee, x4, chM_cons, List.range_succ (n := j + 1), List.map_append]
    rfl
  intro d
  induction d with
  | zero =>
    intro j hj
    have hjm : j + 1 = m := by omega
    refine step j (n.toNat - j - 1) (by omega) (by omega) _ ?_
    have hp : Ev (fun k => merkhetref16_place.f k ((List.range (j + 1)).map (bk (eds l) n.toNat v)) (bk (eds l) n.toNat v (j + 1))) (i : Int) := by
      unfold merkhetref16_place.f
      refine placeI_at _ _ (by simp; omega) i (by simp; omega) (by rw [getD_mapR _ _ _ (by omega), hjm]; exact he) i 0 (by omega) (fun q _ hq => by rw [getD_mapR _ _ _ (by omega), hjm, ← he]; exact hno q i hq him)
    refine Ev.bind hp ?_
    refine Ev.congr (fun k => ?_) (Ev.now _)
    rw [if_pos (by omega), if_pos (by omega), Int.toNat_natCast, hjm, chM_take _ _ _ (by omega)]
  | succ d ih =>
    intro j hj
    refine step j (n.toNat - j - 1) (by omega) (by omega) _ ?_
    have hp : Ev (fun k => merkhetref16_place.f k ((List.range (j + 1)).map (bk (eds l) n.toNat v)) (bk (eds l) n.toNat v (j + 1))) (-1) := by
      unfold merkhetref16_place.f
      refine placeI_no _ _ (by simp; omega) (j + 1) 0 (by simp) (fun q _ hq => by rw [List.length_map, List.length_range] at hq; rw [getD_mapR _ _ _ hq]; exact hno q (j + 1) hq (by omega))
    refine Ev.bind hp ?_
    refine Ev.congr (fun k => ?_) (ih (j + 1) (by omega))
    rw [if_neg (by omega), show n.toNat - (j + 1) = n.toNat - j - 1 by omega]
include hm hv0 hvn hlt in
theorem fv_eq (hfirst : ∀ h : Nat, (h : Int) < v → ¬ L (eds l) n.toNat (h : Int) < L (eds l) (n.toNat - 1) (h : Int)) : ∀ (d j f : Nat), (j : Int) + d = v → d < f → merkhetref16_Of_fv (rowsF n.toNat (L (eds l)) (n.toNat + 1)) n f (j : Int) = some v := by
  have h0 := hm.1
  have h32 := hm.2.n32
  have e1 : ∀ j : Nat, (j : Int) < n → merkhetref16_Of_li (rowsF n.toNat (L (eds l)) (n.toNat + 1)) n (j : Int) = L (eds l) n.toNat (j : Int) := fun j hj => by
    unfold merkhetref16_Of_li; rw [rdL5 _ _ n.toNat _ (by omega) (by omega), rowF_rd _ _ _ (by omega) (by omega)]
  have e2 : ∀ j : Nat, (j : Int) < n → merkhetref16_Of_li (rowsF n.toNat (L (eds l)) (n.toNat + 1)) (n - 1) (j : Int) = L (eds l) (n.toNat - 1) (j : Int) := fun j hj => by
    unfold merkhetref16_Of_li; rw [rdL5 _ _ (n.toNat - 1) _ (by omega) (by omega), rowF_rd _ _ _ (by omega) (by omega)]
  have l1 : (rd_L4 (rowsF n.toNat (L (eds l)) (n.toNat + 1)) n).length = n.toNat := by rw [rdL5 _ _ n.toNat _ (by omega) (by omega), rowF_length]
  have l2 : (rd_L4 (rowsF n.toNat (L (eds l)) (n.toNat + 1)) (n - 1)).length = n.toNat := by rw [rdL5 _ _ (n.toNat - 1) _ (by omega) (by omega), rowF_length]
  intro d
  induction d with
  | zero =>
    intro j f hj hf
    obtain ⟨f, rfl⟩ : ∃ g, f = g + 1 := ⟨f - 1, by omega⟩
    obtain rfl : v = (j : Int) := by omega
    unfold merkhetref16_Of_fv
    rw [l1, l2, if_pos ⟨⟨by omega, by omega⟩, by omega, by omega⟩, e1 j hvn, e2 j hvn, if_neg (by omega)]
  | succ d ih =>
    intro j f hj hf
    obtain ⟨f, rfl⟩ : ∃ g, f = g + 1 := ⟨f - 1, by omega⟩
    unfold merkhetref16_Of_fv
    have := hfirst j (by omega)
    rw [l1, l2, if_pos ⟨⟨by omega, by omega⟩, by omega, by omega⟩, e1 j (by omega), e2 j (by omega), if_pos (by omega)]
    exact ih (j + 1) f (by omega) (by omega)
include hm hl hv0 hvn hlt him hmn he hno in
theorem of_l0 (hfirst : ∀ h : Nat, (h : Int) < v → ¬ L (eds l) n.toNat (h : Int) < L (eds l) (n.toNat - 1) (h : Int)) : ∀ (d j : Nat), (j : Int) + d = v → Ev (fun k => loop_Of.l0 k n l (rowsF n.toNat (L (eds l)) (n.toNat + 1)) (rowsF n.toNat (B (eds l)) (n.toNat + 1)) n (j : Int)) ((chM (edS l n.toNat v) m (m - i)).drop (loop_turned_ls (chM (edS l n.toNat v) m (m - i))) ++ (chM (edS l n.toNat v) m (m - i)).take (loop_turned_ls (chM (edS l n.toNat v) m (m - i)))) := by
  have h0 := hm.1
  have h32 := hm.2.n32
  have hw : wrap64 (n - 1) = n - 1 := by unfold wrap64; omega
  have l1 := rdL5 n.toNat (L (eds l)) n.toNat n (by omega) (by omega)
  have l2 := rdL5 n.toNat (L (eds l)) (n.toNat - 1) (n - 1) (by omega) (by omega)
  intro d
  induction d with
  | zero =>
    intro j hj
    obtain rfl : v = (j : Int) := by omega
    refine ev_step (f := fun k => (loop_back.f k (j : Int) (rowsF n.toNat (B (eds l)) (n.toNat + 1)) l).bind fun t => (loop_turned.f t).bind fun t2 => some t2) (fun k => ?_) ?_
    · rw [loop_Of.l0, if_pos hvn, if_pos h0, if_pos (by rw [rowsF_length]; omega), if_pos (by omega), l1, if_pos (by rw [rowF_length]; omega), hw, if_pos (by omega), if_pos (by rw [rowsF_length]; omega), l2, if_pos (by rw [rowF_length]; omega), rowF_rd _ _ _ (by omega) (by omega), rowF_rd _ _ _ (by omega) (by omega), if_pos hlt]
    · refine Ev.bind (back_ev hm hl hv0 hvn hlt him hmn he hno) ?_
      exact Ev.congr (fun k => by rw [turned_eq _ (by rw [chM_len]; omega), Option.bind_some]) (Ev.now _)
  | succ d ih =>
    intro j hj
    have := hfirst j (by omega)
    refine ev_step (fun k => ?_) (ih (j + 1) (by omega))
    rw [loop_Of.l0, if_pos (by omega), if_pos h0, if_pos (by rw [rowsF_length]; omega), if_pos (by omega), l1, if_pos (by rw [rowF_length]; omega), hw, if_pos (by omega), if_pos (by rw [rowsF_length]; omega), l2, if_pos (by rw [rowF_length]; omega), rowF_rd _ _ _ (by omega) (by omega), rowF_rd _ _ _ (by omega) (by omega), if_neg this, w64t j (by omega)]
end
theorem of_l0_no {n : Int} {l : List S48} (hm : mayL n l) (hc : ∀ h, 0 ≤ h → h < n → L (eds l) n.toNat h = L (eds l) (n.toNat - 1) h) : ∀ (d j : Nat), (j : Int) + d = n → Ev (fun k => loop_Of.l0 k n l (rowsF n.toNat (L (eds l)) (n.toNat + 1)) (rowsF n.toNat (B (eds l)) (n.toNat + 1)) n (j : Int)) [] := by
  have h0 := hm.1
  have h32 := hm.2.n32
  have hw : wrap64 (n - 1) = n - 1 := by unfold wrap64; omega
  intro d
  induction d with
  | zero =>
    intro j hj
    exact ev_step (f := fun _ => some []) (fun k => by rw [loop_Of.l0, if_neg (by omega)]) (Ev.now _)
  | succ d ih =>
    intro j hj
    have l1 := rdL5 n.toNat (L (eds l)) n.toNat n (by omega) (by omega)
    have l2 := rdL5 n.toNat (L (eds l)) (n.toNat - 1) (n - 1) (by omega) (by omega)
    have := hc (j : Int) (by omega) (by omega)
    refine ev_step (fun k => ?_) (ih (j + 1) (by omega))
    rw [loop_Of.l0, if_pos (by omega), if_pos h0, if_pos (by rw [rowsF_length]; omega), if_pos (by omega), l1, if_pos (by rw [rowF_length]; omega), hw, if_pos (by omega), if_pos (by rw [rowsF_length]; omega), l2, if_pos (by rw [rowF_length]; omega), rowF_rd _ _ _ (by omega) (by omega), rowF_rd _ _ _ (by omega) (by omega), if_neg (by omega), w64t j (by omega)]
theorem ls_least (c : List S48) (hne : 0 < c.length) : ∃ h : 0 < (c.drop (loop_turned_ls c) ++ c.take (loop_turned_ls c)).length, ∀ e ∈ c, (c.drop (loop_turned_ls c) ++ c.take (loop_turned_ls c))[0].f0 ≤ e.f0 := by
  have hx : ∀ (j : Nat) (hj : j < c.length), loop_turned_x c j = c[j].f0 := fun j hj => by
    unfold loop_turned_x
    rw [show rd_T48 c (j : Int) = c[j] by show c.getD _ _ = _; rw [Int.toNat_natCast, List.getD_eq_getElem?_getD, List.getElem?_eq_getElem hj]; rfl]
  have hlt : loop_turned_ls c < c.length := lsI_lt _ _ hne
  have hl := turn_len c (loop_turned_ls c) (by omega)
  refine ⟨by omega, fun e he => ?_⟩
  rw [turn_get c _ (by omega) 0 hne]
  simp only [Nat.zero_add, if_pos hlt]
  obtain ⟨j, hj, rfl⟩ := List.getElem_of_mem he
  rw [← hx _ hlt, ← hx j hj]
  exact lsI_le _ _ j hj
/-- The program's and the document's: they are one; what it is. -/
theorem loop_two (n : Int) (l : List S48) (hl : l.length ≤ 1000) : ∃ c, Ev (fun k => loop_Of.f k n l) c ∧ Ev (fun k => merkhetref16_Of.f k n l) c ∧ ((c = [] ∧ (¬ mayL n l ∨ (mayL n l ∧ ∀ h, 0 ≤ h → h < n → L (eds l) n.toNat h = L (eds l) (n.toNat - 1) h))) ∨ (mayL n l ∧ (¬ ∀ h, 0 ≤ h → h < n → L (eds l) n.toNat h = L (eds l) (n.toNat - 1) h) ∧ isLoop n l c ∧ ∀ (h : 0 < c.length), ∀ e ∈ c, c[0].f0 ≤ e.f0)) := by
  by_cases hm : mayL n l
  · have h0 := hm.1
    have h32 := hm.2.n32
    by_cases hc : ∀ h, 0 ≤ h → h < n → L (eds l) n.toNat h = L (eds l) (n.toNat - 1) h
    · refine ⟨[], ?_, ?_, .inl ⟨rfl, .inr ⟨hm, hc⟩⟩⟩
      · unfold loop_Of.f
        refine Ev.bind (layers_ev n l (by omega)) ?_
        rw [if_pos hm]
        by_cases hn : n = 0
        · subst hn
          exact Ev.congr (f := fun _ => some []) (fun k => by rw [if_pos (by rw [rowsF_length]; decide)]) (Ev.now _)
        · refine Ev.congr (fun k => by rw [if_neg (by rw [rowsF_length]; omega)]) ?_
          exact of_l0_no hm hc n.toNat 0 (by omega)
      · unfold merkhetref16_Of.f
        refine Ev.bind (reflayers_ev n l (by omega)) ?_
        rw [if_pos hm]
        refine Ev.bind (refsolve_ev n l (by omega)) ?_
        have e : solveP n l = (rowF n.toNat (L (eds l) n.toNat), true) := by unfold solveP; rw [if_pos ⟨hm, hc⟩]
        rw [e]
        exact Ev.congr (f := fun _ => some []) (fun k => by rw [if_neg (by rw [rowsF_length]; omega), if_pos rfl]) (Ev.now _)
    · have hex : ∃ h : Nat, (h : Int) < n ∧ L (eds l) n.toNat (h : Int) < L (eds l) (n.toNat - 1) (h : Int) := by
        apply Classical.byContradiction
        intro hno
        refine hc fun h h1 h2 => ?_
        have hle := L_mono_le (eds l) h (show n.toNat - 1 ≤ n.toNat by omega)
        rcases Int.lt_or_le (L (eds l) n.toNat h) (L (eds l) (n.toNat - 1) h) with h3 | h3
        · exact absurd ⟨h.toNat, by omega, by rwa [Int.toNat_of_nonneg h1]⟩ hno
        · omega
      obtain ⟨h, hh⟩ := hex
      obtain ⟨u, ⟨hun, hult⟩, _, hfirst⟩ := least_nat (p := fun h : Nat => (h : Int) < n ∧ L (eds l) n.toNat (h : Int) < L (eds l) (n.toNat - 1) (h : Int)) hh
      have hu0 : (0 : Int) ≤ (u : Int) := by omega
      have hf : ∀ q : Nat, (q : Int) < (u : Int) → ¬ L (eds l) n.toNat (q : Int) < L (eds l) (n.toNat - 1) (q : Int) := fun q hq h3 => hfirst q (by omega) ⟨by omega, h3⟩
      obtain ⟨i, m, him, hmn, he, hno⟩ := bk_first hm.2 hu0 (by omega) hult
      have hloop := chain_is hm hu0 hun hult him hmn he hno
      have hlen : (chM (edS l n.toNat (u : Int)) m (m - i)).length = m - i := chM_len _ _ _
      obtain ⟨hp, hleast⟩ := ls_least (chM (edS l n.toNat (u : Int)) m (m - i)) hloop.ne
      have hlsl : loop_turned_ls (chM (edS l n.toNat (u : Int)) m (m - i)) ≤ (chM (edS l n.toNat (u : Int)) m (m - i)).length := lsI_le_n _ _
      refine ⟨_, ?_, ?_, .inr ⟨hm, hc, isLoop_turn hloop _ hlsl, fun h e he' => hleast e (turn_mem.1 he')⟩⟩
      · unfold loop_Of.f
        refine Ev.bind (layers_ev n l (by omega)) ?_
        rw [if_pos hm]
        refine Ev.congr (fun k => by rw [if_neg (by rw [rowsF_length]; omega)]) ?_
        exact of_l0 hm hl hu0 hun hult him hmn he hno hf u 0 (by omega)
      · unfold merkhetref16_Of.f
        refine Ev.bind (reflayers_ev n l (by omega)) ?_
        rw [if_pos hm]
        refine Ev.bind (refsolve_ev n l (by omega)) ?_
        have e : solveP n l = ([], false) := by unfold solveP; rw [if_neg (fun hq => hc hq.2)]
        rw [e]
        refine Ev.congr (fun k => by rw [if_neg (by rw [rowsF_length]; omega), if_neg Bool.false_ne_true]) ?_
        unfold merkhetref16_Of_end
        have hfv := fv_eq hm hu0 hun hult hf u 0 1000 (by omega) (by omega)
        rw [show ((0 : Nat) : Int) = 0 from rfl] at hfv
        refine Ev.congr (fun k => by rw [if_pos ⟨⟨by rw [rowsF_length]; omega, by rw [rowsF_length]; omega, by omega⟩, by omega, by omega⟩, hfv, Option.bind_some]) ?_
        refine Ev.bind (refgo16 hm hu0 hun hult him hmn he hno (m - 1) 0 (by omega)) ?_
        exact Ev.congr (fun k => by rw [if_pos (by rw [hlen]; omega)]) (Ev.now _)
  · refine ⟨[], ?_, ?_, .inl ⟨rfl, .inl hm⟩⟩
    · unfold loop_Of.f
      refine Ev.bind (layers_ev n l (by omega)) ?_
      rw [if_neg hm]
      exact Ev.congr (f := fun _ => some []) (fun k => by rw [if_pos (by decide)]) (Ev.now _)
    · unfold merkhetref16_Of.f
      refine Ev.bind (reflayers_ev n l (by omega)) ?_
      rw [if_neg hm]
      refine Ev.bind (refsolve_ev n l (by omega)) ?_
      exact Ev.congr (f := fun _ => some []) (fun k => if_pos rfl) (Ev.now _)
end
/-! C16f -/
section
open Go.RowKit Go.Proofs.Ytacjlaiddnfpdaa.H Go.Proofs.YtacjlaiddnfpdaaW.PrintWords Go.Proofs.YtacjlaiddnfpdaaW.PrintLast Go.Proofs.YtacjlaiddnfpdaaW.PrintMore
theorem law16_fixed_ev : Ev (fun k => merkhetlaw16_fixed.f k) true := Ev.of (fun k => merkhetlaw16_fixed.mono k) (k := 12) (by decide +kernel)
theorem same14_l0 (c : List S48) (hl : c.length < 1000000000) : ∀ (d i : Nat), i + d = c.length → Ev (fun k => merkhetref14_Same.l0 k c c (i : Int)) true := by
  intro d
  induction d with
  | zero => intro i hi; exact ev_step (f := fun _ => some true) (fun k => by rw [merkhetref14_Same.l0, if_neg (by omega)]) (Ev.now _)
  | succ d ih =>
    intro i hi
    refine ev_step (fun k => ?_) (ih (i + 1) (by omega))
    rw [merkhetref14_Same.l0, if_pos (by omega), if_pos (by omega), if_pos (by omega), if_neg (by simp), w64t i (by omega)]
theorem same14_ev (c : List S48) (hl : c.length < 1000000000) : Ev (fun k => merkhetref14_Same.f k c c) true := by
  unfold merkhetref14_Same.f
  refine Ev.congr (fun k => by rw [if_pos rfl]) ?_
  have h_ := same14_l0 c hl c.length 0 (by omega)
  exact h_
end
end Go.Proofs.Ytacjlaiddnfpdaa.LD
