/- Layers 15 to 17, merged: Solve, Of, Offsets, Chain. -/
import Derived.Test.YtacjlaiddnfpdaaH17
import Derived.Test.YtacjlaiddnfpdaaH16
import Derived.Test.YtacjlaiddnfpdaaCEx0
import Derived.Test.YtacjlaiddnfpdaaCEx4
import Derived.Test.YtacjlaiddnfpdaaCEx2
import Derived.Test.YtacjlaiddnfpdaaCEx5
import Derived.Test.YtacjlaiddnfpdaaCEx6
import Derived.Laws.Bits64
import Derived.Laws.Bits64b
import Derived.Test.YtacjlaiddnfpdaaCEx3
import Derived.Test.YtacjlaiddnfpdaaCEx7
import Derived.Test.YtacjlaiddnfpdaaH25
import Derived.Test.YtacjlaiddnfpdaaH20
set_option linter.unusedVariables false
set_option linter.unusedSimpArgs false
namespace Go.Proofs.Ytacjlaiddnfpdaa.CE
/-! C15z -/
section
open Go.RowKit Go.Proofs.Ytacjlaiddnfpdaa.H Go.Proofs.YtacjlaiddnfpdaaW.PrintWords Go.Proofs.YtacjlaiddnfpdaaW.PrintLast Go.Proofs.YtacjlaiddnfpdaaW.PrintMore
theorem w64t (i : Nat) (h : i < 9000000000000000000) : wrap64 ((i : Int) + 1) = ((i + 1 : Nat) : Int) := by unfold wrap64; omega
theorem rdt (l : List Int) (i : Nat) : rd l (i : Int) = l.getD i 0 := by unfold rd; rw [Int.toNat_natCast]
theorem ev_step {α : Type} {g f : Nat → Option α} {r : α} (h : ∀ k, g (k + 1) = f k) (hf : Ev f r) : Ev g r := Ev.step h hf
theorem ev_eq {α : Type} {g : Nat → Option α} {r r' : α} (h : Ev g r) (e : r = r') : Ev g r' := e ▸ h
end
/-! C15a -/
section
open Go.RowKit Go.Proofs.Ytacjlaiddnfpdaa.H Go.Proofs.YtacjlaiddnfpdaaW.PrintWords Go.Proofs.YtacjlaiddnfpdaaW.PrintLast Go.Proofs.YtacjlaiddnfpdaaW.PrintMore
def ed (s : S48) : Ed := ⟨s.f0, s.f1, s.f2⟩
def eds (l : List S48) : List Ed := l.map ed
/-- May these be? -/
def mayL (n : Int) (l : List S48) : Prop := 0 ≤ n ∧ okE n.toNat (eds l)
theorem mayL_at {n : Int} {l : List S48} (h : mayL n l) {s : S48} (hs : s ∈ l) : 0 ≤ s.f0 ∧ s.f0 < n ∧ 0 ≤ s.f1 ∧ s.f1 < n ∧ -4503599627370496 ≤ s.f2 ∧ s.f2 ≤ 4503599627370496 := by
  have := h.2.ok (ed s) (List.mem_map_of_mem hs)
  have h0 := h.1
  simp only [ed] at this
  omega
theorem mayL_mk {n : Int} {l : List S48} (h0 : 0 ≤ n) (h1 : n ≤ 32) (h : ∀ s ∈ l, 0 ≤ s.f0 ∧ s.f0 < n ∧ 0 ≤ s.f1 ∧ s.f1 < n ∧ -4503599627370496 ≤ s.f2 ∧ s.f2 ≤ 4503599627370496) : mayL n l := by
  refine ⟨h0, ⟨by omega, fun e he => ?_⟩⟩
  obtain ⟨s, hs, rfl⟩ := List.mem_map.1 he
  have := h s hs
  simp only [ed]
  omega
/-- A row of so many hosts. -/
def rowF (n : Nat) (f : Int → Int) : List Int := (List.range n).map fun h : Nat => f (h : Int)
theorem rowF_length (n : Nat) (f : Int → Int) : (rowF n f).length = n := by simp [rowF]
theorem rowF_rd (n : Nat) (f : Int → Int) (a : Int) (h0 : 0 ≤ a) (h1 : a < (n : Int)) : rd (rowF n f) a = f a := by
  unfold rd rowF
  rw [List.getD_eq_getElem?_getD, List.getElem?_eq_getElem (by simp; omega)]
  simp
  congr 1
  omega
theorem rowF_ext {n : Nat} {f g : Int → Int} (h : ∀ a, 0 ≤ a → a < (n : Int) → f a = g a) : rowF n f = rowF n g := by
  unfold rowF
  refine List.map_congr_left fun a ha => h _ (by omega) ?_
  have := List.mem_range.1 ha
  omega
theorem rowF_inj {n : Nat} {f g : Int → Int} (h : rowF n f = rowF n g) (a : Int) (h0 : 0 ≤ a) (h1 : a < (n : Int)) : f a = g a := by
  rw [← rowF_rd n f a h0 h1, h, rowF_rd n g a h0 h1]
theorem rowF_set (n : Nat) (f : Int → Int) (a v : Int) (h0 : 0 ≤ a) (h1 : a < (n : Int)) : (rowF n f).set a.toNat v = rowF n (fun h => if h = a then v else f h) := by
  apply List.ext_getElem
  · simp [rowF]
  · intro i h2 h3
    rw [List.getElem_set]
    simp only [rowF, List.getElem_map, List.getElem_range]
    by_cases c : a.toNat = i
    · rw [if_pos c, if_pos (by omega)]
    · rw [if_neg c, if_neg (by omega)]
theorem rowF_const (n : Nat) (v : Int) : rowF n (fun _ => v) = List.replicate n v := by
  apply List.ext_getElem
  · simp [rowF]
  · intro i h1 h2
    simp [rowF]
def rowsF (n : Nat) (F : Nat → Int → Int) (m : Nat) : List (List Int) := (List.range m).map fun k => rowF n (F k)
theorem rowsF_length (n : Nat) (F : Nat → Int → Int) (m : Nat) : (rowsF n F m).length = m := by simp [rowsF]
theorem rowsF_succ (n : Nat) (F : Nat → Int → Int) (m : Nat) : rowsF n F (m + 1) = rowsF n F m ++ [rowF n (F m)] := by simp [rowsF, List.range_succ]
theorem rowsF_getD (n : Nat) (F : Nat → Int → Int) (m k : Nat) (h : k < m) : (rowsF n F m).getD k [] = rowF n (F k) := by
  rw [List.getD_eq_getElem?_getD, List.getElem?_eq_getElem (by rw [rowsF_length]; exact h)]
  simp [rowsF]
open Classical in
/-- What is told of edges: the last layer, if it is as the one ahead. -/
noncomputable def solveP (n : Int) (l : List S48) : List Int × Bool :=
  if mayL n l ∧ ∀ h, 0 ≤ h → h < n → L (eds l) n.toNat h = L (eds l) (n.toNat - 1) h then (rowF n.toNat (L (eds l) n.toNat), true) else ([], false)
theorem solveP_cases (n : Int) (l : List S48) : (¬ (mayL n l ∧ ∀ h, 0 ≤ h → h < n → L (eds l) n.toNat h = L (eds l) (n.toNat - 1) h) ∧ solveP n l = ([], false)) ∨ (mayL n l ∧ (∀ h, 0 ≤ h → h < n → L (eds l) n.toNat h = L (eds l) (n.toNat - 1) h) ∧ solveP n l = (rowF n.toNat (L (eds l) n.toNat), true)) := by
  by_cases c : mayL n l ∧ ∀ h, 0 ≤ h → h < n → L (eds l) n.toNat h = L (eds l) (n.toNat - 1) h
  · exact .inr ⟨c.1, c.2, by unfold solveP; rw [if_pos c]⟩
  · exact .inl ⟨c, by unfold solveP; rw [if_neg c]⟩
theorem mem_eds {l : List S48} {s : S48} (hs : s ∈ l) : ed s ∈ eds l := List.mem_map_of_mem hs
/-- Numbers of hosts for which all edges hold. -/
theorem conv_of {n : Int} {l : List S48} (hm : mayL n l) {x : Int → Int} (hx : ∀ s ∈ l, x s.f1 ≤ x s.f0 + s.f2) : ∀ h, 0 ≤ h → h < n → L (eds l) n.toNat h = L (eds l) (n.toNat - 1) h := by
  intro h h1 h2
  refine L_conv hm.2 (x := x) (fun e he => ?_) h1 (by have := hm.1; omega)
  obtain ⟨s, hs, rfl⟩ := List.mem_map.1 he
  exact hx s hs
theorem wrapL {n : Int} {l : List S48} (hm : mayL n l) {s : S48} (hs : s ∈ l) (k : Nat) (hk : k ≤ n.toNat) (h : Int) : wrap64 (L (eds l) k h + s.f2) = L (eds l) k h + s.f2 := by
  have h1 := L_low hm.2 k h
  have h2 := L_nonpos (eds l) k h
  have h3 := mayL_at hm hs
  have h4 := hm.2.n32
  unfold wrap64
  omega
end
/-! C15r -/
section
open Go.RowKit Go.Proofs.Ytacjlaiddnfpdaa.H Go.Proofs.YtacjlaiddnfpdaaW.PrintWords Go.Proofs.YtacjlaiddnfpdaaW.PrintLast Go.Proofs.YtacjlaiddnfpdaaW.PrintMore
open Classical in
theorem refMay_l0 (n : Int) (l : List S48) (h0 : 0 ≤ n) (h1 : n ≤ 32) (hl : l.length < 1000000000) : ∀ (d i : Nat), l.length - i = d → i ≤ l.length → (∀ s ∈ l.take i, 0 ≤ s.f0 ∧ s.f0 < n ∧ 0 ≤ s.f1 ∧ s.f1 < n ∧ -4503599627370496 ≤ s.f2 ∧ s.f2 ≤ 4503599627370496) → Ev (fun k => merkhetref15_May.l0 k n l (i : Int)) (decide (mayL n l)) := by
  intro d
  have hz : ∀ j : Nat, rd_T48 l (j : Int) = l.getD j z48 := fun j => by show l.getD _ _ = _; rw [Int.toNat_natCast]
  induction d with
  | zero =>
    intro i hd hi hall
    rw [List.take_of_length_le (by omega)] at hall
    rw [decide_eq_true (mayL_mk h0 h1 hall)]
    exact ev_step (f := fun _ => some true) (fun k => by rw [merkhetref15_May.l0, if_neg (by omega)]) (Ev.now _)
  | succ d ih =>
    intro i hd hi hall
    have hlt : i < l.length := by omega
    have hmem : l.getD i z48 ∈ l := by rw [List.getD_eq_getElem?_getD, List.getElem?_eq_getElem hlt]; exact List.getElem_mem hlt
    have hbad : (¬ (0 ≤ (l.getD i z48).f0 ∧ (l.getD i z48).f0 < n ∧ 0 ≤ (l.getD i z48).f1 ∧ (l.getD i z48).f1 < n ∧ -4503599627370496 ≤ (l.getD i z48).f2 ∧ (l.getD i z48).f2 ≤ 4503599627370496)) → decide (mayL n l) = false := fun h => decide_eq_false (fun hm => h (mayL_at hm hmem))
    by_cases c1 : (l.getD i z48).f0 < 0
    · rw [hbad (by omega)]
      exact ev_step (f := fun _ => some false) (fun k => by rw [merkhetref15_May.l0, if_pos (by omega), if_pos (by omega), hz, if_pos c1]) (Ev.now _)
    by_cases c2 : (l.getD i z48).f0 ≥ n
    · rw [hbad (by omega)]
      exact ev_step (f := fun _ => some false) (fun k => by rw [merkhetref15_May.l0, if_pos (by omega), if_pos (by omega), hz, if_neg c1, if_pos c2]) (Ev.now _)
    by_cases c3 : (l.getD i z48).f1 < 0
    · rw [hbad (by omega)]
      exact ev_step (f := fun _ => some false) (fun k => by rw [merkhetref15_May.l0, if_pos (by omega), if_pos (by omega), hz, if_neg c1, if_neg c2, if_pos c3]) (Ev.now _)
    by_cases c4 : (l.getD i z48).f1 ≥ n
    · rw [hbad (by omega)]
      exact ev_step (f := fun _ => some false) (fun k => by rw [merkhetref15_May.l0, if_pos (by omega), if_pos (by omega), hz, if_neg c1, if_neg c2, if_neg c3, if_pos c4]) (Ev.now _)
    by_cases c5 : (l.getD i z48).f2 > 4503599627370496
    · rw [hbad (by omega)]
      exact ev_step (f := fun _ => some false) (fun k => by rw [merkhetref15_May.l0, if_pos (by omega), if_pos (by omega), hz, if_neg c1, if_neg c2, if_neg c3, if_neg c4, if_pos c5]) (Ev.now _)
    by_cases c6 : (l.getD i z48).f2 < -4503599627370496
    · rw [hbad (by omega)]
      exact ev_step (f := fun _ => some false) (fun k => by rw [merkhetref15_May.l0, if_pos (by omega), if_pos (by omega), hz, if_neg c1, if_neg c2, if_neg c3, if_neg c4, if_neg c5, if_pos c6]) (Ev.now _)
    refine ev_step (fun k => ?_) (ih (i + 1) (by omega) (by omega) (fun s hs => by
      rw [List.take_succ_eq_append_getElem hlt] at hs
      rcases List.mem_append.1 hs with h | h
      · exact hall s h
      · have h' := List.mem_singleton.1 h
        rw [List.getD_eq_getElem?_getD, List.getElem?_eq_getElem hlt] at c1 c2 c3 c4 c5 c6
        rw [h']
        simp only [Option.getD_some] at c1 c2 c3 c4 c5 c6
        omega))
    rw [merkhetref15_May.l0, if_pos (by omega), if_pos (by omega), hz, if_neg c1, if_neg c2, if_neg c3, if_neg c4, if_neg c5, if_neg c6, w64t i (by omega)]
open Classical in
theorem refMay15_ev (n : Int) (l : List S48) (hl : l.length < 1000000000) : Ev (fun k => merkhetref15_May.f k n l) (decide (mayL n l)) := by
  unfold merkhetref15_May.f
  by_cases c : n < 0
  · rw [decide_eq_false (fun h : mayL n l => by have := h.1; omega)]
    refine Ev.congr (fun k => by rw [if_pos c]) ?_
    exact ev_step (f := fun _ => some false) (fun k => by rw [merkhetref15_May.j0, if_pos rfl]) (Ev.now _)
  · refine Ev.congr (fun k => by rw [if_neg c]) ?_
    by_cases c2 : n > 32
    · rw [decide_eq_false (fun h : mayL n l => by have := h.2.n32; omega)]
      exact ev_step (f := fun _ => some false) (fun k => by rw [merkhetref15_May.j0, if_pos (decide_eq_true c2)]) (Ev.now _)
    · have h_ := refMay_l0 n l (by omega) (by omega) hl l.length 0 rfl (Nat.zero_le _) (fun s hs => by simp at hs)
      exact ev_step (fun k => by rw [merkhetref15_May.j0, if_neg (by rw [decide_eq_false c2]; decide)]; rfl) h_
end
/-! C15y -/
section
open Go.RowKit Go.Proofs.Ytacjlaiddnfpdaa.H Go.Proofs.YtacjlaiddnfpdaaW.PrintWords Go.Proofs.YtacjlaiddnfpdaaW.PrintLast Go.Proofs.YtacjlaiddnfpdaaW.PrintMore
open Classical in
theorem relaxMay_eq (n : Int) (l : List S48) : relax_May.f n l = some (decide (mayL n l)) := by
  unfold relax_May.f
  by_cases c : n < 0
  · rw [if_pos c, decide_eq_false (fun h : mayL n l => by have := h.1; omega)]
  · rw [if_neg c]
    by_cases c2 : n > 32
    · rw [if_pos c2, decide_eq_false (fun h : mayL n l => by have := h.2.n32; omega)]
    · rw [if_neg c2]
      congr 1
      rw [Bool.eq_iff_iff, decide_eq_true_eq, Bool.not_eq_true']
      constructor
      · intro h
        refine mayL_mk (by omega) (by omega) fun s hs => ?_
        have hb : ¬ mayBad n s = true := fun hb => by
          rw [List.any_eq_true.2 ⟨s, hs, hb⟩] at h
          cases h
        unfold mayBad mn mx at hb
        simp only [Bool.or_eq_true, decide_eq_true_eq, not_or, ge_iff_le, gt_iff_lt] at hb
        obtain ⟨⟨⟨h1, h2⟩, h3⟩, h4⟩ := hb
        split at h1 <;> split at h2 <;> omega
      · intro h
        rw [Bool.eq_false_iff]
        intro ha
        obtain ⟨s, hs, hb⟩ := List.any_eq_true.1 ha
        have := mayL_at h hs
        unfold mayBad mn mx at hb
        simp only [Bool.or_eq_true, decide_eq_true_eq, ge_iff_le, gt_iff_lt] at hb
        rcases hb with ((h1 | h2) | h3) | h4
        · split at h1 <;> omega
        · split at h2 <;> omega
        · omega
        · omega
end
/-! C15n -/
section
open Go.RowKit Go.Proofs.Ytacjlaiddnfpdaa.H Go.Proofs.YtacjlaiddnfpdaaW.PrintWords Go.Proofs.YtacjlaiddnfpdaaW.PrintLast Go.Proofs.YtacjlaiddnfpdaaW.PrintMore
theorem next_go (n : Nat) (had : Int → Int) : ∀ (r : List S48) (i : Int) (g : Int → Int × Int), (∀ s ∈ r, 0 ≤ s.f0 ∧ s.f0 < (n : Int) ∧ 0 ≤ s.f1 ∧ s.f1 < (n : Int) ∧ wrap64 (had s.f0 + s.f2) = had s.f0 + s.f2) →
    relax_next_go (rowF n had) r i (rowF n (fun h => (g h).1)) (rowF n (fun h => (g h).2)) = some (rowF n (fun h => (lst had h (eds r) i (g h).1 (g h).2).1), rowF n (fun h => (lst had h (eds r) i (g h).1 (g h).2).2))
  | [], i, g, _ => rfl
  | e :: r, i, g, hr => by
    obtain ⟨h0, h1, h2, h3, h4⟩ := hr e (by simp)
    unfold relax_next_go
    rw [if_pos h0, if_pos (by rw [rowF_length]; exact h1), if_pos h2, if_pos (by rw [rowF_length]; exact h3), if_pos (by rw [rowF_length]; exact h3), rowF_rd _ _ _ h0 h1, h4, rowF_rd _ _ _ h2 h3]
    by_cases c : had e.f0 + e.f2 < (g e.f1).1
    · rw [if_pos c, rowF_set _ _ _ _ h2 h3, rowF_set _ _ _ _ h2 h3]
      have e1 : (fun h => if h = e.f1 then had e.f0 + e.f2 else (g h).1) = fun h => (if h = e.f1 then (had e.f0 + e.f2, i) else g h).1 := by funext h; split <;> rfl
      have e2 : (fun h => if h = e.f1 then i else (g h).2) = fun h => (if h = e.f1 then (had e.f0 + e.f2, i) else g h).2 := by funext h; split <;> rfl
      rw [e1, e2, next_go n had r (i + 1) (fun h => if h = e.f1 then (had e.f0 + e.f2, i) else g h) (fun s hs => hr s (by simp [hs]))]
      have e3 : ∀ h, lst had h (eds r) (i + 1) (if h = e.f1 then (had e.f0 + e.f2, i) else g h).1 (if h = e.f1 then (had e.f0 + e.f2, i) else g h).2 = lst had h (eds (e :: r)) i (g h).1 (g h).2 := by
        intro h
        show _ = lst had h (ed e :: eds r) i (g h).1 (g h).2
        unfold lst
        by_cases c2 : h = e.f1
        · subst c2
          rw [if_pos rfl, if_pos ⟨rfl, c⟩]
          cases hh : eds r <;> rfl
        · rw [if_neg c2, if_neg (fun hh => c2 hh.1.symm)]
          cases hh : eds r <;> rfl
      simp only [e3]
    · rw [if_neg c, next_go n had r (i + 1) g (fun s hs => hr s (by simp [hs]))]
      have e3 : ∀ h, lst had h (eds r) (i + 1) (g h).1 (g h).2 = lst had h (eds (e :: r)) i (g h).1 (g h).2 := by
        intro h
        show _ = lst had h (ed e :: eds r) i (g h).1 (g h).2
        conv => rhs; unfold lst
        rw [if_neg (fun hh => by obtain ⟨h5, h6⟩ := hh; subst h5; exact c h6)]
      simp only [e3]
theorem next_eq {n : Int} {l : List S48} (hm : mayL n l) (hl : l.length ≤ 1000000) (k : Nat) (hk : k ≤ n.toNat) : relax_next.f (rowF n.toNat (L (eds l) k)) l = some (rowF n.toNat (L (eds l) (k + 1)), rowF n.toNat (B (eds l) (k + 1))) := by
  have h32 := hm.2.n32
  have h0 := hm.1
  unfold relax_next.f
  rw [if_pos hl]
  unfold slices_Clone_int64_int64.f
  rw [rowF_length, if_pos (by omega)]
  unfold relax_row_int.f slices_Repeat_int_int.f
  rw [if_pos (show [(-1 : Int)].length = 1 from rfl), if_pos (by omega), if_pos (by omega)]
  simp only [Option.bind_some, Int.toNat_natCast]
  have h_ := next_go n.toNat (L (eds l) k) l 0 (fun h => (L (eds l) k h, -1)) (fun s hs => by
    have := mayL_at hm hs
    exact ⟨this.1, by omega, this.2.2.1, by omega, wrapL hm hs k hk _⟩)
  rw [show (List.replicate n.toNat ([(-1 : Int)].getD 0 0)) = rowF n.toNat (fun h => ((fun h : Int => (L (eds l) k h, (-1 : Int))) h).2) from (rowF_const _ _).symm]
  exact h_
theorem layers_l0 {n : Int} {l : List S48} (hm : mayL n l) (hl : l.length ≤ 1000000) : ∀ (d i : Nat), n.toNat - i = d → i ≤ n.toNat → Ev (fun k => relax_Layers.l0 k l (rowsF n.toNat (L (eds l)) (i + 1)) (rowsF n.toNat (B (eds l)) (i + 1)) n (i : Int)) (rowsF n.toNat (L (eds l)) (n.toNat + 1), rowsF n.toNat (B (eds l)) (n.toNat + 1)) := by
  intro d
  have h32 := hm.2.n32
  have h0 := hm.1
  induction d with
  | zero =>
    intro i hd hi
    obtain rfl : i = n.toNat := by omega
    exact ev_step (f := fun _ => some _) (fun k => by rw [relax_Layers.l0, if_neg (by omega)]) (Ev.now _)
  | succ d ih =>
    intro i hd hi
    refine ev_step (fun k => ?_) (ih (i + 1) (by omega) (by omega))
    rw [relax_Layers.l0, if_pos (by omega), if_pos (by omega), if_pos (by rw [rowsF_length]; omega)]
    rw [show rd_L7 (rowsF n.toNat (L (eds l)) (i + 1)) (i : Int) = rowF n.toNat (L (eds l) i) by show (rowsF _ _ _).getD _ _ = _; rw [Int.toNat_natCast, rowsF_getD _ _ _ _ (by omega)]]
    rw [next_eq hm hl i (by omega), Option.bind_some, if_pos (by rw [rowsF_length]; omega), if_pos (by rw [rowsF_length]; omega), ← rowsF_succ, ← rowsF_succ, w64t i (by omega)]
open Classical in
theorem layers_ev (n : Int) (l : List S48) (hl : l.length ≤ 1000000) : Ev (fun k => relax_Layers.f k n l) (if mayL n l then (rowsF n.toNat (L (eds l)) (n.toNat + 1), rowsF n.toNat (B (eds l)) (n.toNat + 1)) else ([], [])) := by
  by_cases hm : mayL n l
  · have h32 := hm.2.n32
    have h0 := hm.1
    rw [if_pos hm]
    refine Ev.congr (fun k => ?_) (layers_l0 hm hl n.toNat 0 rfl (Nat.zero_le _))
    unfold relax_Layers.f
    rw [relaxMay_eq, decide_eq_true hm, Option.bind_some, if_pos rfl]
    unfold relax_row_int64.f slices_Repeat_int64_int64.f relax_row_int.f slices_Repeat_int_int.f
    rw [if_pos (show [(0 : Int)].length = 1 from rfl), if_pos h0, if_pos (by omega), if_pos (show [(-1 : Int)].length = 1 from rfl), if_pos h0, if_pos (by omega)]
    simp only [Option.bind_some]
    rw [show ([List.replicate n.toNat ([(0 : Int)].getD 0 0)] : List (List Int)) = rowsF n.toNat (L (eds l)) (0 + 1) by rw [show ([(0 : Int)].getD 0 0) = 0 from rfl, ← rowF_const]; rfl,
      show ([List.replicate n.toNat ([(-1 : Int)].getD 0 0)] : List (List Int)) = rowsF n.toNat (B (eds l)) (0 + 1) by rw [show ([(-1 : Int)].getD 0 0) = -1 from rfl, ← rowF_const]; rfl]
    rfl
  · rw [if_neg hm]
    refine Ev.congr (f := fun _ => some _) (fun k => ?_) (Ev.now _)
    unfold relax_Layers.f
    rw [relaxMay_eq, decide_eq_false hm, Option.bind_some, if_neg (by decide)]
end
/-! C15b -/
section
open Go.RowKit Go.Proofs.Ytacjlaiddnfpdaa.H Go.Proofs.YtacjlaiddnfpdaaW.PrintWords Go.Proofs.YtacjlaiddnfpdaaW.PrintLast Go.Proofs.YtacjlaiddnfpdaaW.PrintMore
theorem equal_l0 (a b : List Int) (hl : a.length = b.length) (hn : a.length < 1000000000) : ∀ (d i : Nat), a.length - i = d → i ≤ a.length → Ev (fun k => slices_Equal_int64_int64.l0 k a b (a.length : Int) (i : Int)) (decide (a.drop i = b.drop i)) := by
  intro d
  induction d with
  | zero =>
    intro i hd hi
    refine ev_step (f := fun _ => some true) (fun k => by rw [slices_Equal_int64_int64.l0, if_neg (by omega)]) ?_
    rw [List.drop_of_length_le (by omega), List.drop_of_length_le (by omega)]
    exact Ev.now _
  | succ d ih =>
    intro i hd hi
    have hlt : i < a.length := by omega
    have e1 : a.drop i = a.getD i 0 :: a.drop (i + 1) := by rw [List.drop_eq_getElem_cons hlt, List.getD_eq_getElem?_getD, List.getElem?_eq_getElem hlt]; rfl
    have e2 : b.drop i = b.getD i 0 :: b.drop (i + 1) := by rw [List.drop_eq_getElem_cons (by omega), List.getD_eq_getElem?_getD, List.getElem?_eq_getElem (by omega)]; rfl
    by_cases c : a.getD i 0 = b.getD i 0
    · refine ev_step (f := fun k => slices_Equal_int64_int64.l0 k a b (a.length : Int) ((i + 1 : Nat) : Int)) (fun k => by rw [slices_Equal_int64_int64.l0, if_pos (by omega), if_pos (by omega), if_pos (by omega), if_pos (by omega), rdt, rdt, if_pos c, w64t i (by omega)]) ?_
      have h_ := ih (i + 1) (by omega) (by omega)
      rw [show decide (a.drop i = b.drop i) = decide (a.drop (i + 1) = b.drop (i + 1)) by rw [e1, e2, c]; simp]
      exact h_
    · refine ev_step (f := fun _ => some false) (fun k => by rw [slices_Equal_int64_int64.l0, if_pos (by omega), if_pos (by omega), if_pos (by omega), if_pos (by omega), rdt, rdt, if_neg c]) ?_
      rw [show decide (a.drop i = b.drop i) = false from decide_eq_false (fun e => by rw [e1, e2] at e; exact c (List.cons.inj e).1)]
      exact Ev.now _
theorem equal_ev (a b : List Int) (hn : a.length < 1000000000) : Ev (fun k => slices_Equal_int64_int64.f k a b) (decide (a = b)) := by
  unfold slices_Equal_int64_int64.f
  by_cases hl : a.length = b.length
  · have h_ := equal_l0 a b hl hn a.length 0 rfl (Nat.zero_le _)
    refine Ev.congr (f := fun k => slices_Equal_int64_int64.l0 k a b (a.length : Int) ((0 : Nat) : Int)) (fun k => by rw [if_pos (by omega)]; rfl) ?_
    simpa using h_
  · refine Ev.congr (f := fun _ => some false) (fun k => by rw [if_neg (by omega)]) ?_
    rw [show decide (a = b) = false from decide_eq_false (fun e => hl (by rw [e]))]
    exact Ev.now _
theorem solve_ev (n : Int) (l : List S48) (hl : l.length ≤ 1000000) : Ev (fun k => relax_Solve.f k n l) (solveP n l) := by
  unfold relax_Solve.f
  refine Ev.bind (layers_ev n l hl) ?_
  by_cases hm : mayL n l
  · have h32 := hm.2.n32
    have h0 := hm.1
    rw [if_pos hm]
    have hrd : ∀ (i : Nat) (a : Int), a = (i : Int) → i < n.toNat + 1 → rd_L7 (rowsF n.toNat (L (eds l)) (n.toNat + 1)) a = rowF n.toNat (L (eds l) i) := fun i a ha hi => by
      subst ha
      show (rowsF _ _ _).getD _ _ = _
      rw [Int.toNat_natCast, rowsF_getD _ _ _ _ hi]
    refine Ev.congr (fun k => by rw [if_neg (by rw [rowsF_length]; omega)]) ?_
    by_cases hz : n > 0
    · have hw : wrap64 (n - 1) = n - 1 := by unfold wrap64; omega
      refine Ev.congr (fun k => by rw [if_pos hz, if_pos h0, if_pos (by rw [rowsF_length]; omega), hw, if_pos (by omega), if_pos (by rw [rowsF_length]; omega), hrd n.toNat n (by omega) (by omega), hrd (n.toNat - 1) (n - 1) (by omega) (by omega)]) ?_
      refine Ev.bind (equal_ev _ _ (by rw [rowF_length]; omega)) ?_
      unfold solveP
      by_cases hc : ∀ h, 0 ≤ h → h < n → L (eds l) n.toNat h = L (eds l) (n.toNat - 1) h
      · rw [if_pos (show mayL n l ∧ ∀ h, 0 ≤ h → h < n → L (eds l) n.toNat h = L (eds l) (n.toNat - 1) h from ⟨hm, hc⟩), decide_eq_true (rowF_ext (fun a h1 h2 => hc a h1 (by omega)))]
        exact Ev.congr (f := fun _ => some _) (fun k => by rw [if_pos rfl]) (Ev.now _)
      · rw [if_neg (show ¬ (mayL n l ∧ ∀ h, 0 ≤ h → h < n → L (eds l) n.toNat h = L (eds l) (n.toNat - 1) h) from fun h => hc h.2), decide_eq_false (p := rowF n.toNat (L (eds l) n.toNat) = rowF n.toNat (L (eds l) (n.toNat - 1))) (fun h => hc (fun a h1 h2 => rowF_inj h a h1 (by omega)))]
        exact Ev.congr (f := fun _ => some _) (fun k => by rw [if_neg (by decide)]) (Ev.now _)
    · refine Ev.congr (f := fun _ => some (rowF n.toNat (L (eds l) n.toNat), true)) (fun k => by rw [if_neg hz, if_pos h0, if_pos (by rw [rowsF_length]; omega), hrd n.toNat n (by omega) (by omega)]) ?_
      unfold solveP
      rw [if_pos (show mayL n l ∧ ∀ h, 0 ≤ h → h < n → L (eds l) n.toNat h = L (eds l) (n.toNat - 1) h from ⟨hm, fun h h1 h2 => by omega⟩)]
      exact Ev.now _
  · rw [if_neg hm]
    unfold solveP
    rw [if_neg (show ¬ (mayL n l ∧ ∀ h, 0 ≤ h → h < n → L (eds l) n.toNat h = L (eds l) (n.toNat - 1) h) from fun h => hm h.1)]
    exact Ev.congr (f := fun _ => some _) (fun k => by rw [if_pos (by rfl)]) (Ev.now _)
end
/-! C17a -/
section
open Go.RowKit Go.Proofs.Ytacjlaiddnfpdaa.H Go.Proofs.YtacjlaiddnfpdaaW.PrintWords Go.Proofs.YtacjlaiddnfpdaaW.PrintLast Go.Proofs.YtacjlaiddnfpdaaW.PrintMore
theorem xor63_lt (x : Nat) (h : x < 9223372036854775808) : x ^^^ 9223372036854775808 = x + 9223372036854775808 := by
  have h1 := Nat.two_pow_add_eq_or_of_lt (i := 63) (b := x) (by omega) 1
  rw [show x + 9223372036854775808 = 2 ^ 63 * 1 + x by omega, h1, show (9223372036854775808 : Nat) = 2 ^ 63 by decide, Nat.mul_one]
  apply Nat.eq_of_testBit_eq
  intro i
  rw [Nat.testBit_xor, Nat.testBit_or, Nat.testBit_two_pow]
  by_cases hi : 63 = i
  · subst hi
    rw [Nat.testBit_lt_two_pow (by omega)]
    simp
  · rw [decide_eq_false hi]; simp
theorem xor63_ge (x : Nat) (h : 9223372036854775808 ≤ x) (h2 : x < 18446744073709551616) : x ^^^ 9223372036854775808 = x - 9223372036854775808 := by
  have h1 := xor63_lt (x - 9223372036854775808) (by omega)
  rw [show x - 9223372036854775808 + 9223372036854775808 = x by omega] at h1
  rw [← h1, Nat.xor_assoc, Nat.xor_self, Nat.xor_zero, h1]
theorem raised_eq {a : Int} (h0 : -9223372036854775808 ≤ a) (h1 : a ≤ 9223372036854775807) : bound_raised.f a = some (a + 9223372036854775808) := by
  unfold bound_raised.f
  rw [IntKind.wrap_u64, show (a % 18446744073709551616) = (((a % 18446744073709551616).toNat : Nat) : Int) by omega, show (9223372036854775808 : Int) = ((9223372036854775808 : Nat) : Int) from rfl, bits_xor_u64_nat _ _ (by omega) (by omega)]
  by_cases c : 0 ≤ a
  · rw [xor63_lt _ (by omega)]; congr 1; omega
  · rw [xor63_ge _ (by omega) (by omega)]; congr 1; omega
theorem sum_eq {a b : Int} (h0 : -9223372036854775808 ≤ a) (h1 : a ≤ 9223372036854775807) (j0 : -9223372036854775808 ≤ b) (j1 : b ≤ 9223372036854775807) : bound_sum.f a b = some ((a + b + 18446744073709551616) / 18446744073709551616, (a + b + 18446744073709551616) % 18446744073709551616) := by
  unfold bound_sum.f
  rw [raised_eq h0 h1, raised_eq j0 j1, Option.bind_some, Option.bind_some, if_pos (by omega), if_pos (by omega)]
  rw [show a + 9223372036854775808 + (b + 9223372036854775808) = a + b + 18446744073709551616 by omega]
theorem lexic (n m : Int) : (decide ((n + 0 + 18446744073709551616) / 18446744073709551616 > (m + 18446744073709551616) / 18446744073709551616) || (decide ((n + 0 + 18446744073709551616) / 18446744073709551616 = (m + 18446744073709551616) / 18446744073709551616) && decide ((n + 0 + 18446744073709551616) % 18446744073709551616 > (m + 18446744073709551616) % 18446744073709551616))) = decide (n > m) := by
  rw [Bool.eq_iff_iff]
  simp only [Bool.or_eq_true, Bool.and_eq_true, decide_eq_true_eq]
  omega
theorem above_eq {n a b : Int} (h0 : -9223372036854775808 ≤ n) (h1 : n ≤ 9223372036854775807) : bound_above.f n ((a + b + 18446744073709551616) / 18446744073709551616) ((a + b + 18446744073709551616) % 18446744073709551616) = some (decide (n > a + b)) := by
  unfold bound_above.f
  rw [sum_eq h0 h1 (by omega) (by omega), Option.bind_some, lexic n (a + b)]
def i64B (x : Int) : Prop := -9223372036854775808 ≤ x ∧ x ≤ 9223372036854775807
theorem wf_i64B {x : Int} (h : (Lit.int .i64 x).wf = true) : i64B x := by
  simp [Lit.wf, IntKind.min, IntKind.max, IntKind.signed, IntKind.bits] at h
  unfold i64B
  omega
/-- Does an edge hold for numbers? -/
def holdsB (x : List Int) (s : S48) : Prop := 0 ≤ s.f0 ∧ s.f0 < (x.length : Int) ∧ 0 ≤ s.f1 ∧ s.f1 < (x.length : Int) ∧ rd x s.f1 ≤ rd x s.f0 + s.f2
theorem rd_i64B {x : List Int} (h : ∀ v ∈ x, i64B v) (a : Int) (h0 : 0 ≤ a) (h1 : a < (x.length : Int)) : i64B (rd x a) := by
  unfold rd
  rw [List.getD_eq_getElem?_getD, List.getElem?_eq_getElem (show a.toNat < x.length by omega)]
  exact h _ (List.getElem_mem _)
theorem mnB (a b : Int) : (mn a b < 0 ↔ a < 0 ∨ b < 0) := by unfold mn; omega
theorem mxB (a b n : Int) : (mx a b ≥ n ↔ a ≥ n ∨ b ≥ n) := by unfold mx; omega
open Classical in
theorem boundHolds_ev (s : S48) (x : List Int) (hx : ∀ v ∈ x, i64B v) (hs : i64B s.f2) : Ev (fun k => bound_Holds.f k s.f0 s.f1 s.f2 s.f3.f0 s.f3.f1 s.f4 x) (decide (holdsB x s)) := by
  unfold bound_Holds.f
  have hoff : ¬ holdsB x s → Ev (fun k => bound_Holds.j0 k x true s.f0 s.f1 s.f2 s.f3.f0 s.f3.f1 s.f4) (decide (holdsB x s)) := fun h => by
    rw [decide_eq_false h]
    exact Ev.step (f := fun _ => some false) (fun k => by rw [bound_Holds.j0, if_pos rfl]) (Ev.now _)
  by_cases c1 : mn s.f0 s.f1 < 0
  · exact Ev.congr (fun k => by rw [if_pos c1]) (hoff (fun h => by have := (mnB _ _).1 c1; have := h.1; have := h.2.2.1; omega))
  refine Ev.congr (fun k => by rw [if_neg c1]) ?_
  by_cases c2 : mx s.f0 s.f1 ≥ (x.length : Int)
  · rw [decide_eq_true c2]
    exact hoff (fun h => by have := (mxB _ _ _).1 c2; have := h.2.1; have := h.2.2.2.1; omega)
  rw [decide_eq_false c2]
  have c1' : ¬ (s.f0 < 0 ∨ s.f1 < 0) := fun h => c1 ((mnB _ _).2 h)
  have c2' : ¬ (s.f0 ≥ (x.length : Int) ∨ s.f1 ≥ (x.length : Int)) := fun h => c2 ((mxB _ _ _).2 h)
  have i0 : 0 ≤ s.f0 := by omega
  have j0 : 0 ≤ s.f1 := by omega
  have i1 : s.f0 < (x.length : Int) := by omega
  have j1 : s.f1 < (x.length : Int) := by omega
  have r0 := rd_i64B hx s.f0 i0 i1
  have r1 := rd_i64B hx s.f1 j0 j1
  refine Ev.step (f := fun _ => some (!decide (rd x s.f1 > rd x s.f0 + s.f2))) (fun k => ?_) ?_
  · rw [bound_Holds.j0, if_neg Bool.false_ne_true, if_pos j0, if_pos j1, if_pos i0, if_pos i1, sum_eq r0.1 r0.2 hs.1 hs.2, Option.bind_some, above_eq r1.1 r1.2, Option.bind_some]
  · rw [show decide (holdsB x s) = !decide (rd x s.f1 > rd x s.f0 + s.f2) by
      rw [Bool.eq_iff_iff]
      simp only [Bool.not_eq_true', decide_eq_true_eq, decide_eq_false_iff_not]
      exact ⟨fun h => by have := h.2.2.2.2; omega, fun h => ⟨i0, i1, j0, j1, by omega⟩⟩]
    exact Ev.now _
open Classical in
theorem boundAll_ev (l : List S48) (x : List Int) (hx : ∀ v ∈ x, i64B v) (hs : ∀ s ∈ l, i64B s.f2) : Ev (fun k => bound_All.f k l x) (decide (∀ s ∈ l, holdsB x s)) := by
  have hK : ∃ K, ∀ k, K ≤ k → ∀ s ∈ l, bound_All_h k x s = some (decide (holdsB x s)) := by
    induction l with
    | nil => exact ⟨0, fun k _ s hs => by cases hs⟩
    | cons s r ih =>
      obtain ⟨K, hK⟩ := ih (fun t ht => hs t (List.mem_cons_of_mem _ ht))
      obtain ⟨M, hM⟩ := boundHolds_ev s x hx (hs s List.mem_cons_self)
      refine ⟨K + M, fun k hk t ht => ?_⟩
      rcases List.mem_cons.1 ht with e | e
      · rw [e]; exact hM k (by omega)
      · exact hK k (by omega) t e
  obtain ⟨K, hK⟩ := hK
  refine ⟨K, fun k hk => ?_⟩
  unfold bound_All.f
  have h := hK k hk
  have e1 : (l.all fun s => (bound_All_h k x s).isSome) = true := List.all_eq_true.2 fun s hs => by rw [h s hs]; rfl
  show (if (l.all fun s => (bound_All_h k x s).isSome) = true then some (l.all fun s => (bound_All_h k x s).getD false) else none) = _
  rw [if_pos e1]
  congr 1
  rw [Bool.eq_iff_iff, List.all_eq_true, decide_eq_true_eq]
  exact ⟨fun ha s hs => by have := ha s hs; rw [h s hs] at this; exact of_decide_eq_true this, fun ha s hs => by rw [h s hs]; exact decide_eq_true (ha s hs)⟩
end
/-! C17b -/
section
open Go.RowKit Go.Proofs.Ytacjlaiddnfpdaa.H Go.Proofs.YtacjlaiddnfpdaaW.PrintWords Go.Proofs.YtacjlaiddnfpdaaW.PrintLast Go.Proofs.YtacjlaiddnfpdaaW.PrintMore
theorem index_l0 (l : List Bool) (hn : l.length < 9000000000000000000) : ∀ (d i : Nat), l.length - i = d → i ≤ l.length → ∃ r : Int, Ev (fun k => slices_Index_bool_bool.l0 k l false (l.length : Int) (i : Int)) r ∧ (r ≥ 0 ↔ false ∈ l.drop i) := by
  intro d
  induction d with
  | zero =>
    intro i hd hi
    refine ⟨-1, Ev.step (f := fun _ => some (-1)) (fun k => by rw [slices_Index_bool_bool.l0, if_neg (by omega)]) (Ev.now _), ?_⟩
    rw [List.drop_of_length_le (by omega)]
    simp
  | succ d ih =>
    intro i hd hi
    have hlt : i < l.length := by omega
    have e1 : l.drop i = l[i] :: l.drop (i + 1) := List.drop_eq_getElem_cons hlt
    have e2 : rdOf false l (i : Int) = l[i] := by
      show l.getD _ _ = _
      rw [Int.toNat_natCast, List.getD_eq_getElem?_getD, List.getElem?_eq_getElem hlt]; rfl
    cases hv : l[i] with
    | false =>
      refine ⟨(i : Int), Ev.step (f := fun _ => some (i : Int)) (fun k => by rw [slices_Index_bool_bool.l0, if_pos (by omega), if_pos (by omega), if_pos (by omega), e2, hv, if_pos (show (false == false) = true from rfl)]) (Ev.now _), ?_⟩
      rw [e1, hv]
      exact ⟨fun _ => List.mem_cons_self, fun _ => by omega⟩
    | true =>
      obtain ⟨r, h1, h2⟩ := ih (i + 1) (by omega) (by omega)
      refine ⟨r, Ev.step (fun k => ?_) h1, ?_⟩
      · rw [slices_Index_bool_bool.l0, if_pos (by omega), if_pos (by omega), if_pos (by omega), e2, hv, if_neg (by decide), w64t i (by omega)]
      · rw [h2, e1, hv]; simp
theorem contains_ev (l : List Bool) (hn : l.length < 9000000000000000000) : Ev (fun k => slices_Contains_bool_bool.f k l false) (decide (false ∈ l)) := by
  unfold slices_Contains_bool_bool.f
  obtain ⟨r, h1, h2⟩ := index_l0 l hn l.length 0 rfl (Nat.zero_le _)
  rw [List.drop_zero] at h2
  refine Ev.bind (by unfold slices_Index_bool_bool.f; exact h1) ?_
  rw [show decide (false ∈ l) = decide (r ≥ 0) by rw [decide_eq_decide]; exact h2.symm]
  exact Ev.now _
theorem find_some {x : List Int} {held : List Bool} : ∀ {l : List S48} {t : Int}, cert_Offsets_find x held l = some t → ∃ e ∈ l, e.f1 = t ∧ cert_Offsets_one x held e = true
  | [], t, h => by simp [cert_Offsets_find] at h
  | e :: r, t, h => by
    unfold cert_Offsets_find at h
    by_cases c : cert_Offsets_one x held e = true
    · rw [if_pos c] at h
      exact ⟨e, List.mem_cons_self, Option.some.inj h, c⟩
    · rw [if_neg c] at h
      obtain ⟨e', h1, h2⟩ := find_some h
      exact ⟨e', List.mem_cons_of_mem _ h1, h2⟩
theorem find_none {x : List Int} {held : List Bool} : ∀ {l : List S48}, cert_Offsets_find x held l = none → ∀ e ∈ l, ¬ cert_Offsets_one x held e = true
  | [], _, e, he => by cases he
  | e :: r, h, e', he => by
    unfold cert_Offsets_find at h
    by_cases c : cert_Offsets_one x held e = true
    · rw [if_pos c] at h; cases h
    · rw [if_neg c] at h
      rcases List.mem_cons.1 he with h1 | h1
      · rw [h1]; exact c
      · exact find_none h e' h1
theorem wrapO (a w : Int) (h0 : -288230376151711744 ≤ a) (h1 : a ≤ 0) (w0 : -4503599627370496 ≤ w) (w1 : w ≤ 4503599627370496) : wrap64 (a + w) = a + w := by unfold wrap64; omega
def okX (x : List Int) : Prop := ∀ v ∈ x, -288230376151711744 ≤ v ∧ v ≤ 0
theorem okX_rd {x : List Int} (h : okX x) (a : Int) (h0 : 0 ≤ a) (h1 : a < (x.length : Int)) : -288230376151711744 ≤ rd x a ∧ rd x a ≤ 0 := by
  unfold rd
  rw [List.getD_eq_getElem?_getD, List.getElem?_eq_getElem (show a.toNat < x.length by omega)]
  exact h _ (List.getElem_mem _)
/-- What is known of those that are held. -/
structure HInv (x : List Int) (l : List S48) (n : Nat) (held : List Bool) : Prop where
  len : held.length = x.length
  zero : ∀ a, 0 ≤ a → a < (x.length : Int) → rd x a = 0 → held.getD a.toNat false = true
  low : ∀ a, 0 ≤ a → a < (x.length : Int) → held.getD a.toNat false = true → L (eds l) n a ≤ rd x a
theorem getD_setB (l : List Bool) (i j : Nat) (h : i < l.length) : (l.set i true).getD j false = if j = i then true else l.getD j false := by
  rw [List.getD_eq_getElem?_getD, List.getD_eq_getElem?_getD]
  by_cases c : j = i
  · subst c; rw [List.getElem?_set_self h, if_pos rfl]; rfl
  · rw [List.getElem?_set_ne (Ne.symm c), if_neg c]
theorem one_iff {x : List Int} {held : List Bool} {l : List S48} (hm : mayL (x.length : Int) l) (hx : okX x) {e : S48} (he : e ∈ l) : cert_Offsets_one x held e = true ↔ held.getD e.f0.toNat false = true ∧ held.getD e.f1.toNat false = false ∧ rd x e.f0 + e.f2 = rd x e.f1 := by
  have h := mayL_at hm he
  have h2 := okX_rd hx e.f0 h.1 h.2.1
  unfold cert_Offsets_one
  rw [wrapO _ _ h2.1 h2.2 h.2.2.2.2.1 h.2.2.2.2.2]
  simp only [Bool.and_eq_true, Bool.not_eq_true', beq_iff_eq]
theorem hold_ev {x : List Int} {l : List S48} (hm : mayL (x.length : Int) l) (hx : okX x) (hL : ∀ e ∈ l, L (eds l) x.length e.f1 ≤ L (eds l) x.length e.f0 + e.f2) : ∀ (d : Nat) (held : List Bool), held.count false ≤ d → HInv x l x.length held → ∃ r, Ev (fun k => cert_Offsets_hold l x k held) r ∧ HInv x l x.length r ∧ cert_Offsets_find x r l = none := by
  intro d
  induction d with
  | zero =>
    intro held hd hi
    cases hf : cert_Offsets_find x held l with
    | none => exact ⟨held, Ev.step (f := fun _ => some held) (fun k => by rw [cert_Offsets_hold, hf]) (Ev.now _), hi, hf⟩
    | some t =>
      exfalso
      obtain ⟨e, he, rfl, h1⟩ := find_some hf
      have h2 := ((one_iff hm hx he).1 h1).2.1
      have h := mayL_at hm he
      have hlt : e.f1.toNat < held.length := by rw [hi.len]; omega
      rw [List.getD_eq_getElem?_getD, List.getElem?_eq_getElem hlt] at h2
      have h3 : false ∈ held := by have := List.getElem_mem hlt; simp at h2; rw [h2] at this; exact this
      have := List.count_pos_iff.2 h3
      omega
  | succ d ih =>
    intro held hd hi
    cases hf : cert_Offsets_find x held l with
    | none => exact ⟨held, Ev.step (f := fun _ => some held) (fun k => by rw [cert_Offsets_hold, hf]) (Ev.now _), hi, hf⟩
    | some t =>
      obtain ⟨e, he, rfl, h1⟩ := find_some hf
      obtain ⟨g0, g1, g2⟩ := (one_iff hm hx he).1 h1
      have h := mayL_at hm he
      have hlt : e.f1.toNat < held.length := by rw [hi.len]; omega
      have hv : held[e.f1.toNat] = false := by
        rw [List.getD_eq_getElem?_getD, List.getElem?_eq_getElem hlt] at g1; simpa using g1
      have hcnt : (held.set e.f1.toNat true).count false ≤ d := by
        rw [List.count_set hlt, hv]
        have := List.count_pos_iff.2 (show false ∈ held from hv ▸ List.getElem_mem hlt)
        simp
        omega
      have hi2 : HInv x l x.length (held.set e.f1.toNat true) := by
        refine ⟨by rw [List.length_set]; exact hi.len, fun a h0 h1 h2 => ?_, fun a h0 h1 h2 => ?_⟩
        · rw [getD_setB _ _ _ hlt]
          split
          · rfl
          · exact hi.zero a h0 h1 h2
        · rw [getD_setB _ _ _ hlt] at h2
          by_cases c : a.toNat = e.f1.toNat
          · have : a = e.f1 := by omega
            rw [this, ← g2]
            have h3 := hi.low e.f0 h.1 h.2.1 g0
            have h4 := hL e he
            omega
          · rw [if_neg c] at h2; exact hi.low a h0 h1 h2
      obtain ⟨r, hr1, hr2⟩ := ih _ hcnt hi2
      exact ⟨r, Ev.step (fun k => by rw [cert_Offsets_hold, hf]) hr1, hr2⟩
/-- Offsets that are taken. -/
def takenP (n : Int) (l : List S48) (x : List Int) : Prop := mayL n l ∧ (∀ h, 0 ≤ h → h < n → L (eds l) n.toNat h = L (eds l) (n.toNat - 1) h) ∧ x = rowF n.toNat (L (eds l) n.toNat)
theorem meets_S {n : Int} {l : List S48} (hm : mayL n l) (hc : ∀ h, 0 ≤ h → h < n → L (eds l) n.toNat h = L (eds l) (n.toNat - 1) h) : ∀ s ∈ l, L (eds l) n.toNat s.f1 ≤ L (eds l) n.toNat s.f0 + s.f2 := fun s hs => L_meets hm.2 (fun h a b => hc h a (by have := hm.1; omega)) (ed s) (mem_eds hs)
theorem all_held {x : List Int} {l : List S48} {r : List Bool} (hm : mayL (x.length : Int) l) (hx : okX x) (hc : ∀ h, 0 ≤ h → h < (x.length : Int) → L (eds l) x.length h = L (eds l) (x.length - 1) h) (he : ∀ a, 0 ≤ a → a < (x.length : Int) → rd x a = L (eds l) x.length a) (hi : HInv x l x.length r) (hn : cert_Offsets_find x r l = none) : ∀ (k : Nat), k ≤ x.length → ∀ h, 0 ≤ h → h < (x.length : Int) → L (eds l) k h = L (eds l) x.length h → r.getD h.toNat false = true := by
  intro k
  induction k using Nat.strongRecOn with
  | _ k ih =>
    intro hk h h0 h1 hL
    rcases L_tight hm.2 (fun h a b => hc h a b) k hk h h0 h1 hL with h2 | ⟨e, hem, k', hk', e1, e2, e3, e4⟩
    · exact hi.zero h h0 h1 (by rw [he h h0 h1]; exact h2)
    · obtain ⟨s, hs, rfl⟩ := List.mem_map.1 hem
      have hat := mayL_at hm hs
      have hf : r.getD s.f0.toNat false = true := ih k' hk' (by omega) s.f0 hat.1 hat.2.1 e4
      cases hv : r.getD h.toNat false with
      | true => rfl
      | false =>
        refine absurd ((one_iff hm hx hs).2 ⟨hf, ?_, ?_⟩) (find_none hn s hs)
        · rw [show s.f1 = h from e1]; exact hv
        · rw [he _ hat.1 hat.2.1, he _ hat.2.2.1 hat.2.2.2.1, show s.f1 = h from e1]; exact e3
open Classical in
theorem certOffsets_ev (n : Int) (l : List S48) (x : List Int) (hl : l.length ≤ 1000000) (hx : ∀ v ∈ x, i64B v) (hs : ∀ s ∈ l, i64B s.f2) : Ev (fun k => cert_Offsets.f k n l x) (decide (takenP n l x)) := by
  have hno : ¬ takenP n l x → ∀ {g : Nat → Option Bool}, Ev g false → Ev g (decide (takenP n l x)) := fun h g hg => by rw [decide_eq_false h]; exact hg
  unfold cert_Offsets.f
  refine Ev.congr (fun k => by rw [relaxMay_eq, Option.bind_some]) ?_
  by_cases hm : mayL n l
  case neg =>
    exact Ev.congr (f := fun _ => some (decide (takenP n l x))) (fun k => by rw [decide_eq_false hm, if_neg Bool.false_ne_true, decide_eq_false (fun h : takenP n l x => hm h.1)]) (Ev.now _)
  refine Ev.congr (fun k => by rw [decide_eq_true hm, if_pos rfl]) ?_
  have h0 := hm.1
  have h32 := hm.2.n32
  by_cases hn : (x.length : Int) = n
  case neg =>
    refine hno (fun h => hn ?_) (Ev.congr (f := fun _ => some false) (fun k => by rw [if_neg hn]) (Ev.now _))
    rw [h.2.2, rowF_length]; omega
  subst hn
  refine Ev.congr (fun k => by rw [if_pos rfl]) ?_
  refine Ev.bind (boundAll_ev l x hx hs) ?_
  rw [Int.toNat_natCast] at h32
  have hrow : ∀ a, 0 ≤ a → a < (x.length : Int) → rd (rowF x.length (L (eds l) x.length)) a = L (eds l) x.length a := fun a a0 a1 => rowF_rd _ _ a a0 a1
  have htk : takenP (x.length : Int) l x → (∀ h, 0 ≤ h → h < (x.length : Int) → L (eds l) x.length h = L (eds l) (x.length - 1) h) ∧ ∀ a, 0 ≤ a → a < (x.length : Int) → rd x a = L (eds l) x.length a := fun h => by
    have h1 := h.2.1
    have h2 := h.2.2
    rw [Int.toNat_natCast] at h1 h2
    refine ⟨h1, fun a a0 a1 => ?_⟩
    have h3 := congrArg (fun y => rd y a) h2
    exact h3.trans (hrow a a0 a1)
  have hms : ∀ (hc : ∀ h, 0 ≤ h → h < (x.length : Int) → L (eds l) x.length h = L (eds l) (x.length - 1) h), ∀ s ∈ l, L (eds l) x.length s.f1 ≤ L (eds l) x.length s.f0 + s.f2 := fun hc s hs => by
    have := meets_S hm (by rw [Int.toNat_natCast]; exact hc) s hs
    rwa [Int.toNat_natCast] at this
  by_cases ha : ∀ s ∈ l, holdsB x s
  case neg =>
    refine hno (fun h => ha fun s hs => ?_) (Ev.congr (f := fun _ => some false) (fun k => by rw [decide_eq_false ha, if_neg Bool.false_ne_true]) (Ev.now _))
    have h1 := mayL_at hm hs
    obtain ⟨h2, h3⟩ := htk h
    have h4 := hms h2 s hs
    exact ⟨h1.1, h1.2.1, h1.2.2.1, h1.2.2.2.1, by rw [h3 _ h1.1 h1.2.1, h3 _ h1.2.2.1 h1.2.2.2.1]; exact h4⟩
  have hin : cert_Offsets_in (x.length : Int) l = true := List.all_eq_true.2 fun s hs => decide_eq_true (by have h1 := mayL_at hm hs; exact ⟨h1.1, h1.2.1, h1.2.2.1, h1.2.2.2.1⟩)
  refine Ev.congr (fun k => by rw [decide_eq_true ha, if_pos rfl, if_pos ⟨by omega, hl, hin⟩]) ?_
  by_cases hbad : x.any cert_Offsets_bad = true
  · refine hno (fun h => ?_) (Ev.congr (f := fun _ => some false) (fun k => by rw [if_pos hbad]) (Ev.now _))
    obtain ⟨v, hv, hb⟩ := List.any_eq_true.1 hbad
    obtain ⟨i, hi, rfl⟩ := List.getElem_of_mem hv
    have h3 := (htk h).2 (i : Int) (by omega) (by omega)
    have h4 : rd x (i : Int) = x[i] := by rw [rdt, List.getD_eq_getElem?_getD, List.getElem?_eq_getElem hi]; rfl
    have h5 := L_low hm.2 x.length (i : Int)
    have h6 := L_nonpos (eds l) x.length (i : Int)
    unfold cert_Offsets_bad at hb
    simp only [Bool.or_eq_true, decide_eq_true_eq] at hb
    omega
  refine Ev.congr (fun k => by rw [if_neg hbad]) ?_
  have hxx : okX x := fun v hv => by
    have h1 : ¬ cert_Offsets_bad v = true := fun h => hbad (List.any_eq_true.2 ⟨v, hv, h⟩)
    unfold cert_Offsets_bad at h1
    simp only [Bool.or_eq_true, decide_eq_true_eq, not_or] at h1
    omega
  have hc : ∀ h, 0 ≤ h → h < (x.length : Int) → L (eds l) x.length h = L (eds l) (x.length - 1) h := by
    have := conv_of hm (x := rd x) (fun s hs => (ha s hs).2.2.2.2)
    rwa [Int.toNat_natCast] at this
  have hup : ∀ a, 0 ≤ a → a < (x.length : Int) → rd x a ≤ L (eds l) x.length a := fun a a0 a1 =>
    L_greatest hm.2 (x := rd x) (fun e he => by obtain ⟨s, hs, rfl⟩ := List.mem_map.1 he; exact (ha s hs).2.2.2.2) (fun h b0 b1 => (okX_rd hxx h b0 (by rw [Int.toNat_natCast] at b1; exact b1)).2) x.length a a0 (by rw [Int.toNat_natCast]; exact a1)
  have hget : ∀ a, 0 ≤ a → a < (x.length : Int) → (x.map (· == 0)).getD a.toNat false = (rd x a == 0) := fun a a0 a1 => by
    unfold rd
    rw [List.getD_eq_getElem?_getD, List.getD_eq_getElem?_getD, List.getElem?_map, List.getElem?_eq_getElem (show a.toNat < x.length by omega)]; rfl
  have hi0 : HInv x l x.length (x.map (· == 0)) := ⟨by simp, fun a a0 a1 h => by rw [hget a a0 a1, h]; rfl, fun a a0 a1 h => by
    rw [hget a a0 a1] at h
    rw [beq_iff_eq.1 h]
    exact L_nonpos _ _ _⟩
  obtain ⟨r, hr, hi, hf⟩ := hold_ev hm hxx (hms hc) _ _ (Nat.le_refl _) hi0
  refine Ev.bind hr (Ev.bind (contains_ev r (by rw [hi.len]; omega)) ?_)
  have heq : takenP (x.length : Int) l x ↔ false ∉ r := by
    constructor
    · intro h hmem
      obtain ⟨i, hil, hiv⟩ := List.getElem_of_mem hmem
      have := all_held hm hxx hc (htk h).2 hi hf x.length (Nat.le_refl _) (i : Int) (by omega) (by rw [← hi.len]; omega) rfl
      rw [Int.toNat_natCast, List.getD_eq_getElem?_getD, List.getElem?_eq_getElem hil] at this
      simp [hiv] at this
    · intro h
      refine ⟨hm, by rw [Int.toNat_natCast]; exact hc, ?_⟩
      rw [Int.toNat_natCast]
      apply List.ext_getElem
      · rw [rowF_length]
      · intro i h1 h2
        have e1 : rd x (i : Int) = x[i] := by rw [rdt, List.getD_eq_getElem?_getD, List.getElem?_eq_getElem h1]; rfl
        have e2 := hrow (i : Int) (by omega) (by omega)
        rw [rdt, List.getD_eq_getElem?_getD, List.getElem?_eq_getElem h2] at e2
        have e3 : r.getD (i : Int).toNat false = true := by
          cases hv : r.getD (i : Int).toNat false with
          | true => rfl
          | false =>
            rw [Int.toNat_natCast, List.getD_eq_getElem?_getD, List.getElem?_eq_getElem (show i < r.length by rw [hi.len]; exact h1)] at hv
            exact absurd (by have := List.getElem_mem (show i < r.length by rw [hi.len]; exact h1); simp at hv; rw [hv] at this; exact this) h
        have e4 := hi.low (i : Int) (by omega) (by omega) e3
        have e5 := hup (i : Int) (by omega) (by omega)
        rw [← e1]
        exact (show rd x (i : Int) = L (eds l) x.length (i : Int) by omega).trans e2.symm
  refine Ev.congr (f := fun _ => some (decide (takenP (x.length : Int) l x))) (fun k => ?_) (Ev.now _)
  congr 1
  rw [Bool.eq_iff_iff]
  simp only [Bool.not_eq_true', decide_eq_false_iff_not, decide_eq_true_eq]
  exact heq.symm
end
/-! C16b -/
section
open Go.RowKit Go.Proofs.Ytacjlaiddnfpdaa.H Go.Proofs.YtacjlaiddnfpdaaW.PrintWords Go.Proofs.YtacjlaiddnfpdaaW.PrintLast Go.Proofs.YtacjlaiddnfpdaaW.PrintMore
/-- A chain among edges. -/
structure isLoop (n : Int) (l c : List S48) : Prop where
  ne : 0 < c.length
  le : c.length ≤ n.toNat
  mem : ∀ e ∈ c, e ∈ l
  rg : ring (fun e : S48 => e.f0) (fun e : S48 => e.f1) c
  neg : sumW (fun e : S48 => e.f2) c < 0
theorem isLoop_turn {n : Int} {l c : List S48} (h : isLoop n l c) (k : Nat) (hk : k ≤ c.length) : isLoop n l (c.drop k ++ c.take k) :=
  ⟨by rw [turn_len c k hk]; exact h.ne, by rw [turn_len c k hk]; exact h.le, fun e he => h.mem e (turn_mem.1 he), ring_turn h.rg k hk, by rw [sumW_turn]; exact h.neg⟩
/-- The edges of a walk back, from the last one on. -/
def chM {α : Type} (e : Nat → α) (m d : Nat) : List α := (List.range d).map fun p => e (m - 1 - p)
theorem chM_len {α : Type} (e : Nat → α) (m d : Nat) : (chM e m d).length = d := by simp [chM]
theorem chM_cons {α : Type} (e : Nat → α) (m : Nat) : e m :: chM e m m = chM e (m + 1) (m + 1) := by
  unfold chM
  rw [List.range_succ_eq_map, List.map_cons, List.map_map]
  refine congr (congrArg _ (by congr 1)) (List.map_congr_left fun p hp => ?_)
  show e (m - 1 - p) = e (m + 1 - 1 - (p + 1))
  congr 1; omega
theorem chM_take {α : Type} (e : Nat → α) (m d : Nat) (h : d ≤ m) : (chM e m m).take d = chM e m d := by
  apply List.ext_getElem
  · rw [List.length_take, chM_len, chM_len]; omega
  · intro i h1 h2
    rw [List.getElem_take]
    simp [chM]
theorem chM_rev {α : Type} (e : Nat → α) (m i : Nat) (h : i ≤ m) : (((List.range m).map e).drop i).reverse = chM e m (m - i) := by
  apply List.ext_getElem
  · rw [List.length_reverse, List.length_drop, List.length_map, List.length_range, chM_len]
  · intro p h1 h2
    rw [chM_len] at h2
    rw [List.getElem_reverse, List.getElem_drop]
    simp only [chM, List.getElem_map, List.getElem_range, List.length_drop, List.length_map, List.length_range]
    congr 1; omega
theorem chM_sum {α : Type} (w : α → Int) (e : Nat → α) (g : Nat → Int) (i : Nat) : ∀ d, (∀ q, q < d → w (e (i + q)) = g q) → sumW w (chM e (i + d) d) = (List.range d).foldl (fun s q => s + g q) 0
  | 0, _ => rfl
  | d + 1, h => by
    have ih := chM_sum w e g i d (fun q hq => h q (by omega))
    have e1 : chM e (i + (d + 1)) (d + 1) = e (i + d) :: chM e (i + d) d := by
      unfold chM
      rw [List.range_succ_eq_map, List.map_cons, List.map_map]
      refine congr (congrArg _ (by congr 1)) (List.map_congr_left fun p hp => ?_)
      show e (i + (d + 1) - 1 - (p + 1)) = e (i + d - 1 - p)
      congr 1; omega
    rw [e1, List.range_succ, List.foldl_append]
    show w (e (i + d)) + sumW w (chM e (i + d) d) = _
    rw [ih, h d (by omega)]
    show _ = (List.range d).foldl (fun s q => s + g q) 0 + g d
    omega
theorem wsum_fold (es : List Ed) (n : Nat) (v : Int) (i : Nat) : ∀ d, wsum es n v i d = (List.range d).foldl (fun s q => s + (es.getD (ix es n v (i + q)) ⟨0, 0, 0⟩).w) 0
  | 0 => rfl
  | d + 1 => by
    rw [List.range_succ, List.foldl_append, ← wsum_fold es n v i d]
    rfl
section
variable {n : Int} {l : List S48} (hm : mayL n l) {v : Int} (hv0 : 0 ≤ v) (hvn : v < n) (hlt : L (eds l) n.toNat v < L (eds l) (n.toNat - 1) v)
/-- The edge by which one goes back. -/
def edS (l : List S48) (n : Nat) (v : Int) (j : Nat) : S48 := l.getD (ix (eds l) n v j) z48
include hm hv0 hvn hlt in
theorem edS_at {j : Nat} (hj : j < n.toNat) : (ix (eds l) n.toNat v j < l.length ∧ edS l n.toNat v j ∈ l) ∧ (edS l n.toNat v j).f1 = bk (eds l) n.toNat v j ∧ (edS l n.toNat v j).f0 = bk (eds l) n.toNat v (j + 1) ∧ B (eds l) (n.toNat - j) (bk (eds l) n.toNat v j) = (ix (eds l) n.toNat v j : Int) ∧ ((eds l).getD (ix (eds l) n.toNat v j) ⟨0, 0, 0⟩).w = (edS l n.toNat v j).f2 := by
  have h0 := hm.1
  obtain ⟨h1, h2, h3, h4, h5⟩ := ix_at hm.2 hv0 (by omega) hlt hj
  have h2' : ix (eds l) n.toNat v j < l.length := by simpa [eds] using h2
  have e : edS l n.toNat v j = l[ix (eds l) n.toNat v j] := by unfold edS; rw [List.getD_eq_getElem?_getD, List.getElem?_eq_getElem h2']; rfl
  have e2 : (eds l)[ix (eds l) n.toNat v j] = ed l[ix (eds l) n.toNat v j] := by simp [eds]
  rw [e2] at h3 h4
  rw [e]
  refine ⟨⟨h2', List.getElem_mem _⟩, h3, h4, h1, ?_⟩
  rw [List.getD_eq_getElem?_getD, List.getElem?_eq_getElem h2]
  show ((eds l)[ix (eds l) n.toNat v j]).w = _
  rw [e2]; rfl
include hm hv0 hvn hlt in
theorem chain_is {i m : Nat} (him : i < m) (hmn : m ≤ n.toNat) (he : bk (eds l) n.toNat v i = bk (eds l) n.toNat v m) (hno : ∀ a b, a < b → b < m → bk (eds l) n.toNat v a ≠ bk (eds l) n.toNat v b) : isLoop n l (chM (edS l n.toNat v) m (m - i)) := by
  have h0 := hm.1
  have hA := fun j (hj : j < n.toNat) => edS_at hm hv0 hvn hlt hj
  refine ⟨by rw [chM_len]; omega, by rw [chM_len]; omega, fun e he => ?_, ?_, ?_⟩
  · obtain ⟨p, hp, rfl⟩ := List.mem_map.1 he
    have := List.mem_range.1 hp
    exact (hA _ (by omega)).1.2
  · exact ring_walk (h := bk (eds l) n.toNat v) (e := edS l n.toNat v) him he hno (fun j hj => (hA j (by omega)).2.2.1) (fun j hj => (hA j (by omega)).2.1)
  · have h1 := chM_sum (fun e : S48 => e.f2) (edS l n.toNat v) (fun q => ((eds l).getD (ix (eds l) n.toNat v (i + q)) ⟨0, 0, 0⟩).w) i (m - i) (fun q hq => ((hA (i + q) (by omega)).2.2.2.2).symm)
    rw [show i + (m - i) = m by omega, ← wsum_fold] at h1
    rw [h1]
    exact wsum_below hm.2 hv0 (by omega) hlt him hmn he
end
/-! the library's searches in a row of numbers -/
theorem indexI_no (l : List Int) (x : Int) (hl : l.length < 1000000000) : ∀ (d i : Nat), i + d = l.length → (∀ q, i ≤ q → q < l.length → l.getD q 0 ≠ x) → Ev (fun k => slices_Index_int_int.l0 k l x (l.length : Int) (i : Int)) (-1) := by
  intro d
  induction d with
  | zero => intro i hi _; exact ev_step (f := fun _ => some (-1)) (fun k => by rw [slices_Index_int_int.l0, if_neg (by omega)]) (Ev.now _)
  | succ d ih =>
    intro i hi h
    refine ev_step (fun k => ?_) (ih (i + 1) (by omega) (fun q h1 h2 => h q (by omega) h2))
    rw [slices_Index_int_int.l0, if_pos (by omega), if_pos (by omega), if_pos (by omega), rdt, if_neg (fun e => h i (Nat.le_refl _) (by omega) e.symm), w64t i (by omega)]
theorem indexI_at (l : List Int) (x : Int) (hl : l.length < 1000000000) (p : Nat) (hp : p < l.length) (hx : l.getD p 0 = x) : ∀ (d i : Nat), i + d = p → (∀ q, i ≤ q → q < p → l.getD q 0 ≠ x) → Ev (fun k => slices_Index_int_int.l0 k l x (l.length : Int) (i : Int)) (p : Int) := by
  intro d
  induction d with
  | zero =>
    intro i hi _
    obtain rfl : i = p := by omega
    exact ev_step (f := fun _ => some (i : Int)) (fun k => by rw [slices_Index_int_int.l0, if_pos (by omega), if_pos (by omega), if_pos (by omega), rdt, if_pos hx.symm]) (Ev.now _)
  | succ d ih =>
    intro i hi h
    refine ev_step (fun k => ?_) (ih (i + 1) (by omega) (fun q h1 h2 => h q (by omega) h2))
    rw [slices_Index_int_int.l0, if_pos (by omega), if_pos (by omega), if_pos (by omega), rdt, if_neg (fun e => h i (Nat.le_refl _) (by omega) e.symm), w64t i (by omega)]
theorem getD_mapR (f : Nat → Int) (m q : Nat) (h : q < m) : ((List.range m).map f).getD q 0 = f q := by
  rw [List.getD_eq_getElem?_getD, List.getElem?_eq_getElem (by simpa using h)]; simp
theorem rdL5 (n : Nat) (F : Nat → Int → Int) (i : Nat) (a : Int) (ha : a = (i : Int)) (hi : i < n + 1) : rd_L7 (rowsF n F (n + 1)) a = rowF n (F i) := by
  subst ha
  show (rowsF _ _ _).getD _ _ = _
  rw [Int.toNat_natCast, rowsF_getD _ _ _ _ hi]
theorem rdL6 (n : Nat) (F : Nat → Int → Int) (i : Nat) (a : Int) (ha : a = (i : Int)) (hi : i < n + 1) : rd_L8 (rowsF n F (n + 1)) a = rowF n (F i) := by
  subst ha
  show (rowsF _ _ _).getD _ _ = _
  rw [Int.toNat_natCast, rowsF_getD _ _ _ _ hi]
section
variable {n : Int} {l : List S48} (hm : mayL n l) (hl : l.length ≤ 1000) {v : Int} (hv0 : 0 ≤ v) (hvn : v < n) (hlt : L (eds l) n.toNat v < L (eds l) (n.toNat - 1) v)
  {i m : Nat} (him : i < m) (hmn : m ≤ n.toNat) (he : bk (eds l) n.toNat v i = bk (eds l) n.toNat v m) (hno : ∀ a b, a < b → b < m → bk (eds l) n.toNat v a ≠ bk (eds l) n.toNat v b)
include hm hv0 hvn hlt him hmn he hno in
theorem back_go : ∀ (d j : Nat), j + d = m → Ev (fun k => loop_back_go k (rowsF n.toNat (B (eds l)) (n.toNat + 1)) l (n.toNat + 1 - j) (bk (eds l) n.toNat v j) ((List.range j).map (bk (eds l) n.toNat v)) ((List.range j).map (edS l n.toNat v))) (bk (eds l) n.toNat v m, (List.range m).map (bk (eds l) n.toNat v), (List.range m).map (edS l n.toNat v)) := by
  have h0 := hm.1
  have h32 := hm.2.n32
  intro d
  induction d with
  | zero =>
    intro j hj
    obtain rfl : j = m := by omega
    obtain ⟨c, hc⟩ : ∃ c, n.toNat + 1 - j = c + 1 := ⟨n.toNat - j, by omega⟩
    rw [hc]
    unfold loop_back_go
    have hin : Ev (fun k => slices_Contains_int_int.f k ((List.range j).map (bk (eds l) n.toNat v)) (bk (eds l) n.toNat v j)) true := by
      unfold slices_Contains_int_int.f slices_Index_int_int.f
      refine Ev.bind (indexI_at _ _ (by simp; omega) i (by simpa using him) (by rw [getD_mapR _ _ _ him]; exact he) i 0 (by omega) (fun q _ hq => by rw [getD_mapR _ _ _ (by omega)]; rw [← he]; exact hno q i hq him)) ?_
      exact Ev.congr (f := fun _ => some true) (fun k => by rw [decide_eq_true (by omega)]) (Ev.now _)
    refine Ev.bind hin ?_
    exact Ev.congr (fun k => by rw [if_pos rfl]) (Ev.now _)
  | succ d ih =>
    intro j hj
    obtain ⟨c, hc⟩ : ∃ c, n.toNat + 1 - j = c + 1 := ⟨n.toNat - j, by omega⟩
    have hcn : c = n.toNat - j := by omega
    have hjn : j < n.toNat := by omega
    obtain ⟨⟨x1, x2⟩, x3, x4, x5, x6⟩ := edS_at hm hv0 hvn hlt hjn
    have hr := bk_range hm.2 hv0 (by omega) hlt j (by omega)
    have ih' := ih (j + 1) (by omega)
    rw [show n.toNat + 1 - (j + 1) = c by omega] at ih'
    rw [hc]
    unfold loop_back_go
    have hout : Ev (fun k => slices_Contains_int_int.f k ((List.range j).map (bk (eds l) n.toNat v)) (bk (eds l) n.toNat v j)) false := by
      unfold slices_Contains_int_int.f slices_Index_int_int.f
      refine Ev.bind (indexI_no _ _ (by simp; omega) j 0 (by simp) (fun q _ hq => by rw [List.length_map, List.length_range] at hq; rw [getD_mapR _ _ _ hq]; exact hno q j hq (by omega))) ?_
      exact Ev.congr (f := fun _ => some false) (fun k => by rw [decide_eq_false (by omega)]) (Ev.now _)
    refine Ev.bind hout ?_
    have hi' : loop_back_i (rowsF n.toNat (B (eds l)) (n.toNat + 1)) c (bk (eds l) n.toNat v j) = (ix (eds l) n.toNat v j : Int) := by
      unfold loop_back_i
      rw [rdL6 _ _ c _ rfl (by omega), rowF_rd _ _ _ hr.1 hr.2, hcn, x5]
    have hrl : (rd_L8 (rowsF n.toNat (B (eds l)) (n.toNat + 1)) (c : Int)).length = n.toNat := by rw [rdL6 _ _ c _ rfl (by omega), rowF_length]
    refine Ev.congr (fun k => ?_) ih'
    rw [if_neg Bool.false_ne_true, hi', hrl, if_pos ⟨⟨hr.1, by omega⟩, by omega, by omega⟩]
    have ee : rd_T48 l (ix (eds l) n.toNat v j : Int) = edS l n.toNat v j := by show l.getD _ _ = _; rw [Int.toNat_natCast]; rfl
    rw [ee, x4, List.range_succ, List.map_append, List.map_append]
    rfl
include hm hl hv0 hvn hlt him hmn he hno in
theorem back_ev : Ev (fun k => loop_back.f k v (rowsF n.toNat (B (eds l)) (n.toNat + 1)) l) (chM (edS l n.toNat v) m (m - i)) := by
  have h0 := hm.1
  have h32 := hm.2.n32
  unfold loop_back.f
  refine Ev.congr (fun k => by rw [rowsF_length, if_pos (by omega)]) ?_
  refine Ev.bind (back_go hm hv0 hvn hlt him hmn he hno m 0 (by omega)) ?_
  have hix : Ev (fun k => slices_Index_int_int.f k ((List.range m).map (bk (eds l) n.toNat v)) (bk (eds l) n.toNat v m)) (i : Int) := by
    unfold slices_Index_int_int.f
    exact indexI_at _ _ (by simp; omega) i (by simpa using him) (by rw [getD_mapR _ _ _ him]; exact he) i 0 (by omega) (fun q _ hq => by rw [getD_mapR _ _ _ (by omega)]; rw [← he]; exact hno q i hq him)
  refine Ev.bind hix ?_
  refine Ev.congr (f := fun _ => some (chM (edS l n.toNat v) m (m - i))) (fun k => ?_) (Ev.now _)
  rw [if_pos (by rw [List.length_map, List.length_range]; omega), Int.toNat_natCast]
  unfold api_Edge_61.f
  rw [if_pos (by rw [List.length_drop, List.length_map, List.length_range]; omega), Option.bind_some]
  unfold api_Edge_62.f
  rw [if_pos (by rw [List.length_drop, List.length_map, List.length_range]; omega), chM_rev _ _ _ (by omega)]
theorem turned_eq (c : List S48) (h : c.length ≤ 100000) : loop_turned.f c = some (c.drop (loop_turned_ls c) ++ c.take (loop_turned_ls c)) := by
  unfold loop_turned.f; rw [if_pos h]
include hm hl hv0 hvn hlt him hmn he hno in
theorem of_l0 (hfirst : ∀ h : Nat, (h : Int) < v → ¬ L (eds l) n.toNat (h : Int) < L (eds l) (n.toNat - 1) (h : Int)) : ∀ (d j : Nat), (j : Int) + d = v → Ev (fun k => loop_Of.l0 k n l (rowsF n.toNat (L (eds l)) (n.toNat + 1)) (rowsF n.toNat (B (eds l)) (n.toNat + 1)) n (j : Int)) ((chM (edS l n.toNat v) m (m - i)).drop (loop_turned_ls (chM (edS l n.toNat v) m (m - i))) ++ (chM (edS l n.toNat v) m (m - i)).take (loop_turned_ls (chM (edS l n.toNat v) m (m - i)))) := by
  have h0 := hm.1
  have h32 := hm.2.n32
  have hw : wrap64 (n - 1) = n - 1 := by unfold wrap64; omega
  have l1 := rdL5 n.toNat (L (eds l)) n.toNat n (by omega) (by omega)
  have l2 := rdL5 n.toNat (L (eds l)) (n.toNat - 1) (n - 1) (by omega) (by omega)
  intro d
  induction d with
  | zero =>
    intro j hj
    obtain rfl : v = (j : Int) := by omega
    refine ev_step (f := fun k => (loop_back.f k (j : Int) (rowsF n.toNat (B (eds l)) (n.toNat + 1)) l).bind fun t => (loop_turned.f t).bind fun t2 => some t2) (fun k => ?_) ?_
    · rw [loop_Of.l0, if_pos hvn, if_pos h0, if_pos (by rw [rowsF_length]; omega), if_pos (by omega), l1, if_pos (by rw [rowF_length]; omega), hw, if_pos (by omega), if_pos (by rw [rowsF_length]; omega), l2, if_pos (by rw [rowF_length]; omega), rowF_rd _ _ _ (by omega) (by omega), rowF_rd _ _ _ (by omega) (by omega), if_pos hlt]
    · refine Ev.bind (back_ev hm hl hv0 hvn hlt him hmn he hno) ?_
      exact Ev.congr (fun k => by rw [turned_eq _ (by rw [chM_len]; omega), Option.bind_some]) (Ev.now _)
  | succ d ih =>
    intro j hj
    have := hfirst j (by omega)
    refine ev_step (fun k => ?_) (ih (j + 1) (by omega))
    rw [loop_Of.l0, if_pos (by omega), if_pos h0, if_pos (by rw [rowsF_length]; omega), if_pos (by omega), l1, if_pos (by rw [rowF_length]; omega), hw, if_pos (by omega), if_pos (by rw [rowsF_length]; omega), l2, if_pos (by rw [rowF_length]; omega), rowF_rd _ _ _ (by omega) (by omega), rowF_rd _ _ _ (by omega) (by omega), if_neg this, w64t j (by omega)]
end
theorem of_l0_no {n : Int} {l : List S48} (hm : mayL n l) (hc : ∀ h, 0 ≤ h → h < n → L (eds l) n.toNat h = L (eds l) (n.toNat - 1) h) : ∀ (d j : Nat), (j : Int) + d = n → Ev (fun k => loop_Of.l0 k n l (rowsF n.toNat (L (eds l)) (n.toNat + 1)) (rowsF n.toNat (B (eds l)) (n.toNat + 1)) n (j : Int)) [] := by
  have h0 := hm.1
  have h32 := hm.2.n32
  have hw : wrap64 (n - 1) = n - 1 := by unfold wrap64; omega
  intro d
  induction d with
  | zero =>
    intro j hj
    exact ev_step (f := fun _ => some []) (fun k => by rw [loop_Of.l0, if_neg (by omega)]) (Ev.now _)
  | succ d ih =>
    intro j hj
    have l1 := rdL5 n.toNat (L (eds l)) n.toNat n (by omega) (by omega)
    have l2 := rdL5 n.toNat (L (eds l)) (n.toNat - 1) (n - 1) (by omega) (by omega)
    have := hc (j : Int) (by omega) (by omega)
    refine ev_step (fun k => ?_) (ih (j + 1) (by omega))
    rw [loop_Of.l0, if_pos (by omega), if_pos h0, if_pos (by rw [rowsF_length]; omega), if_pos (by omega), l1, if_pos (by rw [rowF_length]; omega), hw, if_pos (by omega), if_pos (by rw [rowsF_length]; omega), l2, if_pos (by rw [rowF_length]; omega), rowF_rd _ _ _ (by omega) (by omega), rowF_rd _ _ _ (by omega) (by omega), if_neg (by omega), w64t j (by omega)]
theorem ls_least (c : List S48) (hne : 0 < c.length) : ∃ h : 0 < (c.drop (loop_turned_ls c) ++ c.take (loop_turned_ls c)).length, ∀ e ∈ c, (c.drop (loop_turned_ls c) ++ c.take (loop_turned_ls c))[0].f0 ≤ e.f0 := by
  have hx : ∀ (j : Nat) (hj : j < c.length), loop_turned_x c j = c[j].f0 := fun j hj => by
    unfold loop_turned_x
    rw [show rd_T48 c (j : Int) = c[j] by show c.getD _ _ = _; rw [Int.toNat_natCast, List.getD_eq_getElem?_getD, List.getElem?_eq_getElem hj]; rfl]
  have hlt : loop_turned_ls c < c.length := lsI_lt _ _ hne
  have hl := turn_len c (loop_turned_ls c) (by omega)
  refine ⟨by omega, fun e he => ?_⟩
  rw [turn_get c _ (by omega) 0 hne]
  simp only [Nat.zero_add, if_pos hlt]
  obtain ⟨j, hj, rfl⟩ := List.getElem_of_mem he
  rw [← hx _ hlt, ← hx j hj]
  exact lsI_le _ _ j hj
/-- What it is. -/
theorem loop_one (n : Int) (l : List S48) (hl : l.length ≤ 1000) : ∃ c, Ev (fun k => loop_Of.f k n l) c ∧ ((c = [] ∧ (¬ mayL n l ∨ (mayL n l ∧ ∀ h, 0 ≤ h → h < n → L (eds l) n.toNat h = L (eds l) (n.toNat - 1) h))) ∨ (mayL n l ∧ (¬ ∀ h, 0 ≤ h → h < n → L (eds l) n.toNat h = L (eds l) (n.toNat - 1) h) ∧ isLoop n l c ∧ ∀ (h : 0 < c.length), ∀ e ∈ c, c[0].f0 ≤ e.f0)) := by
  by_cases hm : mayL n l
  · have h0 := hm.1
    have h32 := hm.2.n32
    by_cases hc : ∀ h, 0 ≤ h → h < n → L (eds l) n.toNat h = L (eds l) (n.toNat - 1) h
    · refine ⟨[], ?_, .inl ⟨rfl, .inr ⟨hm, hc⟩⟩⟩
      · unfold loop_Of.f
        refine Ev.bind (layers_ev n l (by omega)) ?_
        rw [if_pos hm]
        by_cases hn : n = 0
        · subst hn
          exact Ev.congr (f := fun _ => some []) (fun k => by rw [if_pos (by rw [rowsF_length]; decide)]) (Ev.now _)
        · refine Ev.congr (fun k => by rw [if_neg (by rw [rowsF_length]; omega)]) ?_
          exact of_l0_no hm hc n.toNat 0 (by omega)
    · have hex : ∃ h : Nat, (h : Int) < n ∧ L (eds l) n.toNat (h : Int) < L (eds l) (n.toNat - 1) (h : Int) := by
        apply Classical.byContradiction
        intro hno
        refine hc fun h h1 h2 => ?_
        have hle := L_mono_le (eds l) h (show n.toNat - 1 ≤ n.toNat by omega)
        rcases Int.lt_or_le (L (eds l) n.toNat h) (L (eds l) (n.toNat - 1) h) with h3 | h3
        · exact absurd ⟨h.toNat, by omega, by rwa [Int.toNat_of_nonneg h1]⟩ hno
        · omega
      obtain ⟨h, hh⟩ := hex
      obtain ⟨u, ⟨hun, hult⟩, _, hfirst⟩ := least_nat (p := fun h : Nat => (h : Int) < n ∧ L (eds l) n.toNat (h : Int) < L (eds l) (n.toNat - 1) (h : Int)) hh
      have hu0 : (0 : Int) ≤ (u : Int) := by omega
      have hf : ∀ q : Nat, (q : Int) < (u : Int) → ¬ L (eds l) n.toNat (q : Int) < L (eds l) (n.toNat - 1) (q : Int) := fun q hq h3 => hfirst q (by omega) ⟨by omega, h3⟩
      obtain ⟨i, m, him, hmn, he, hno⟩ := bk_first hm.2 hu0 (by omega) hult
      have hloop := chain_is hm hu0 hun hult him hmn he hno
      have hlen : (chM (edS l n.toNat (u : Int)) m (m - i)).length = m - i := chM_len _ _ _
      obtain ⟨hp, hleast⟩ := ls_least (chM (edS l n.toNat (u : Int)) m (m - i)) hloop.ne
      have hlsl : loop_turned_ls (chM (edS l n.toNat (u : Int)) m (m - i)) ≤ (chM (edS l n.toNat (u : Int)) m (m - i)).length := lsI_le_n _ _
      refine ⟨_, ?_, .inr ⟨hm, hc, isLoop_turn hloop _ hlsl, fun h e he' => hleast e (turn_mem.1 he')⟩⟩
      · unfold loop_Of.f
        refine Ev.bind (layers_ev n l (by omega)) ?_
        rw [if_pos hm]
        refine Ev.congr (fun k => by rw [if_neg (by rw [rowsF_length]; omega)]) ?_
        exact of_l0 hm hl hu0 hun hult him hmn he hno hf u 0 (by omega)
  · refine ⟨[], ?_, .inl ⟨rfl, .inl hm⟩⟩
    · unfold loop_Of.f
      refine Ev.bind (layers_ev n l (by omega)) ?_
      rw [if_neg hm]
      exact Ev.congr (f := fun _ => some []) (fun k => by rw [if_pos (by decide)]) (Ev.now _)
end
/-! C17e -/
section
open Go.RowKit Go.Proofs.Ytacjlaiddnfpdaa.H Go.Proofs.YtacjlaiddnfpdaaW.PrintWords Go.Proofs.YtacjlaiddnfpdaaW.PrintLast Go.Proofs.YtacjlaiddnfpdaaW.PrintMore
def chEq (x y : S48) : Bool := (x.f0 == y.f0 && (x.f1 == y.f1 && (x.f2 == y.f2 && ((x.f3.f0 == y.f3.f0 && (x.f3.f1 == y.f3.f1)) && (x.f4 == y.f4)))))
def chNx (l2 : List S48) (i : Nat) : S48 := if i + 1 < l2.length then rd_T48 l2 ((i + 1 : Nat) : Int) else rd_T48 l2 0
def chGo (l1 l2 : List S48) : Nat → Int → Option Bool
  | 0, s => some (decide (s < 0))
  | d + 1, s => if (l1.any fun e => chEq e (rd_T48 l2 ((l2.length - (d + 1) : Nat) : Int))) = true then
      (if ((l2.take (l2.length - (d + 1))).any fun c => c.f0 == (rd_T48 l2 ((l2.length - (d + 1) : Nat) : Int)).f0) = true then some false
      else if (rd_T48 l2 ((l2.length - (d + 1) : Nat) : Int)).f1 = (chNx l2 (l2.length - (d + 1))).f0 then chGo l1 l2 d (wrap64 (s + (rd_T48 l2 ((l2.length - (d + 1) : Nat) : Int)).f2)) else some false)
    else some false
def hasE (l : List S48) (x : S48) : Bool := l.any fun e => chEq e x
theorem hasE_some {l : List S48} {x : S48} (h : hasE l x = true) : ∃ e ∈ l, e.f0 = x.f0 := by
  obtain ⟨e, he, hx⟩ := List.any_eq_true.1 h
  unfold chEq at hx
  rw [Bool.and_eq_true] at hx
  exact ⟨e, he, beq_iff_eq.1 hx.1⟩
theorem eqE_comm (x e : S48) : (x.f0 == e.f0 && (x.f1 == e.f1 && (x.f2 == e.f2 && ((x.f3.f0 == e.f3.f0 && (x.f3.f1 == e.f3.f1)) && (x.f4 == e.f4))))) = chEq e x := by
  unfold chEq
  rw [BEq.comm (a := x.f0), BEq.comm (a := x.f1), BEq.comm (a := x.f2), BEq.comm (a := x.f3.f0), BEq.comm (a := x.f3.f1), BEq.comm (a := x.f4)]
theorem rdE (l : List S48) (j : Nat) (hlt : j < l.length) : rd_T48 l (j : Int) = l[j] := by show l.getD _ _ = _; rw [Int.toNat_natCast, List.getD_eq_getElem?_getD, List.getElem?_eq_getElem hlt]; rfl
theorem indexE_l0 (l : List S48) (x : S48) (hl : l.length < 1000000000) : ∀ (d i : Nat), i + d = l.length → ∃ r : Int, Ev (fun k => api_Edge_52.l0 k l (l.length : Int) (i : Int) x.f0 x.f1 x.f2 x.f3.f0 x.f3.f1 x.f4) r ∧ decide (r ≥ 0) = hasE (l.drop i) x := by
  intro d
  induction d with
  | zero =>
    intro i hi
    refine ⟨-1, Ev.step (f := fun _ => some (-1)) (fun k => by rw [api_Edge_52.l0, if_neg (by omega)]) (Ev.now _), ?_⟩
    rw [List.drop_of_length_le (by omega)]
    rfl
  | succ d ih =>
    intro i hi
    have hlt : i < l.length := by omega
    have e2 := rdE l i hlt
    have e3 := eqE_comm x l[i]
    have e4 : hasE (l.drop i) x = (chEq l[i] x || hasE (l.drop (i + 1)) x) := by rw [List.drop_eq_getElem_cons hlt]; rfl
    cases c : chEq l[i] x with
    | true =>
      rw [c] at e3
      refine ⟨(i : Int), Ev.step (f := fun _ => some (i : Int)) (fun k => by rw [api_Edge_52.l0, if_pos (by omega), if_pos (by omega), if_pos (by omega), e2, if_pos e3]) (Ev.now _), ?_⟩
      rw [e4, c, Bool.true_or]
      exact decide_eq_true (by omega)
    | false =>
      rw [c] at e3
      obtain ⟨r, h1, h2⟩ := ih (i + 1) (by omega)
      refine ⟨r, Ev.step (fun k => by rw [api_Edge_52.l0, if_pos (by omega), if_pos (by omega), if_pos (by omega), e2, if_neg (by rw [e3]; decide), w64t i (by omega)]) h1, ?_⟩
      rw [e4, c, Bool.false_or, h2]
theorem has_ev (l : List S48) (x : S48) (hl : l.length < 1000000000) : Ev (fun k => api_Edge_37.f k l x.f0 x.f1 x.f2 x.f3.f0 x.f3.f1 x.f4) (hasE l x) := by
  obtain ⟨r, h1, h2⟩ := indexE_l0 l x hl l.length 0 (by omega)
  rw [List.drop_zero] at h2
  unfold api_Edge_37.f
  refine Ev.bind (show Ev (fun k => api_Edge_52.f k l x.f0 x.f1 x.f2 x.f3.f0 x.f3.f1 x.f4) r from h1) ?_
  rw [← h2]
  exact Ev.now _
theorem nx_eq (c : List S48) (i : Nat) (hi : i < c.length) : rd_T48 c (Int.tmod ((i + 1 : Nat) : Int) (c.length : Int)) = chNx c i := by
  have e : Int.tmod ((i + 1 : Nat) : Int) (c.length : Int) = (((i + 1) % c.length : Nat) : Int) := rfl
  rw [e]
  unfold chNx
  by_cases h : i + 1 < c.length
  · rw [if_pos h, Nat.mod_eq_of_lt h]
  · rw [if_neg h, show i + 1 = c.length by omega, Nat.mod_self]; rfl
theorem chain_l0 {n : Int} {l c : List S48} (hl : l.length < 1000000000) (hm : mayL n l) (hc : c.length < 1000000000) : ∀ (d i : Nat) (held : List Bool) (s : Int), i + d = c.length → held.length = n.toNat → (∀ v : Int, 0 ≤ v → v < n → held.getD v.toNat false = (c.take i).any fun e => e.f0 == v) →
    ∃ r, chGo l c d s = some r ∧ Ev (fun k => cert_Chain.l0 k l c held s c (c.length : Int) (i : Int)) r := by
  intro d
  induction d with
  | zero =>
    intro i held s hi hh hv
    exact ⟨_, rfl, Ev.step (f := fun _ => some (decide (s < 0))) (fun k => by rw [cert_Chain.l0, if_neg (by omega)]) (Ev.now _)⟩
  | succ d ih =>
    intro i held s hi hh hv
    have hlt : i < c.length := by omega
    have e1 : c.length - (d + 1) = i := by omega
    have e2 := rdE c i hlt
    have ew := w64t i (by omega)
    have en := nx_eq c i hlt
    have t0 : 0 ≤ Int.tmod ((i + 1 : Nat) : Int) (c.length : Int) := by rw [show Int.tmod ((i + 1 : Nat) : Int) (c.length : Int) = (((i + 1) % c.length : Nat) : Int) from rfl]; omega
    have t1 : Int.tmod ((i + 1 : Nat) : Int) (c.length : Int) < (c.length : Int) := by
      rw [show Int.tmod ((i + 1 : Nat) : Int) (c.length : Int) = (((i + 1) % c.length : Nat) : Int) from rfl]
      have := Nat.mod_lt (i + 1) (show c.length > 0 by omega)
      omega
    unfold chGo
    rw [e1, e2]
    have hE := has_ev l c[i] hl
    have hst : ∀ k, cert_Chain.l0 (k + 1) l c held s c (c.length : Int) (i : Int) = (api_Edge_37.f k l c[i].f0 c[i].f1 c[i].f2 c[i].f3.f0 c[i].f3.f1 c[i].f4).bind fun t158 => (if t158 = true then (if c[i].f1 = (chNx c i).f0 then (if 0 ≤ c[i].f0 then (if c[i].f0 < (held.length : Int) then (if rdOf false held c[i].f0 = true then (some false) else (cert_Chain.l0 k l c (held.set ((c[i].f0) : Int).toNat true) (wrap64 (s + c[i].f2)) c (c.length : Int) ((i + 1 : Nat) : Int))) else (none)) else (none)) else (some false)) else (some false)) := fun k => by
      rw [cert_Chain.l0, if_pos (by omega), if_pos (by omega), if_pos (by omega), if_neg (by omega), ew, if_pos t0, if_pos t1, e2, en]
    cases h1 : hasE l c[i] with
    | false =>
      rw [h1] at hE
      refine ⟨false, by rw [if_neg (by rw [show (l.any fun e => chEq e c[i]) = false from h1]; decide)], ?_⟩
      exact Ev.step hst (Ev.bind hE (Ev.congr (f := fun _ => some false) (fun k => if_neg (by decide)) (Ev.now _)))
    | true =>
      rw [h1] at hE
      rw [if_pos (show (l.any fun e => chEq e c[i]) = true from h1)]
      obtain ⟨e, he, he0⟩ := hasE_some h1
      have hb := mayL_at hm he
      rw [he0] at hb
      have hg := hv c[i].f0 hb.1 hb.2.1
      have hr : rdOf false held c[i].f0 = (c.take i).any fun e => e.f0 == c[i].f0 := hg
      by_cases h2 : c[i].f1 = (chNx c i).f0
      · cases h3 : (c.take i).any fun e => e.f0 == c[i].f0 with
        | true =>
          rw [h3] at hr
          refine ⟨false, by rw [if_pos rfl], ?_⟩
          exact Ev.step hst (Ev.bind hE (Ev.congr (f := fun _ => some false) (fun k => by rw [if_pos rfl, if_pos h2, if_pos hb.1, if_pos (by omega), if_pos hr]) (Ev.now _)))
        | false =>
          rw [h3] at hr
          rw [if_neg (by decide), if_pos h2]
          obtain ⟨r, g1, g2⟩ := ih (i + 1) (held.set c[i].f0.toNat true) (wrap64 (s + c[i].f2)) (by omega) (by rw [List.length_set]; exact hh) (fun v v0 v1 => by
            rw [getD_setB _ _ _ (by omega), List.take_succ_eq_append_getElem hlt, List.any_append, List.any_cons, List.any_nil, Bool.or_false, ← hv v v0 v1]
            by_cases hvv : v.toNat = c[i].f0.toNat
            · rw [if_pos hvv, beq_iff_eq.2 (show c[i].f0 = v by omega), Bool.or_true]
            · rw [if_neg hvv, beq_eq_false_iff_ne.2 (show c[i].f0 ≠ v by omega), Bool.or_false])
          refine ⟨r, g1, ?_⟩
          exact Ev.step hst (Ev.bind hE (Ev.congr (fun k => by rw [if_pos rfl, if_pos h2, if_pos hb.1, if_pos (by omega), if_neg (by rw [hr]; decide)]) g2))
      · refine ⟨false, ?_, Ev.step hst (Ev.bind hE (Ev.congr (f := fun _ => some false) (fun k => by rw [if_pos rfl, if_neg h2]) (Ev.now _)))⟩
        by_cases h3 : ((c.take i).any fun e => e.f0 == c[i].f0) = true
        · rw [if_pos h3]
        · rw [if_neg h3, if_neg h2]
theorem go_true {l c : List S48} : ∀ (d i : Nat) (s : Int), i + d = c.length → chGo l c d s = some true → ∀ j (hj : j < c.length), i ≤ j → hasE l c[j] = true ∧ ((c.take j).any fun e => e.f0 == c[j].f0) = false := by
  intro d
  induction d with
  | zero => intro i s hi _ j hj hij; omega
  | succ d ih =>
    intro i s hi h j hj hij
    have e1 : c.length - (d + 1) = i := by omega
    unfold chGo at h
    rw [e1, rdE c i (by omega)] at h
    by_cases h1 : (l.any fun e => chEq e (c[i]'(by omega))) = true
    · rw [if_pos h1] at h
      by_cases h2 : ((c.take i).any fun e => e.f0 == (c[i]'(by omega)).f0) = true
      · rw [if_pos h2] at h; cases h
      · rw [if_neg h2] at h
        by_cases h3 : (c[i]'(by omega)).f1 = (chNx c i).f0
        · rw [if_pos h3] at h
          rcases Nat.lt_or_ge i j with hl | hl
          · exact ih (i + 1) _ (by omega) h j hj (by omega)
          · have e : j = i := by omega
            subst e
            exact ⟨h1, by simpa using h2⟩
        · rw [if_neg h3] at h; cases h
    · rw [if_neg h1] at h; cases h
theorem go_short {n : Int} {l c : List S48} (hm : mayL n l) (s : Int) (h : chGo l c c.length s = some true) : c.length ≤ n.toNat := by
  have hg := go_true c.length 0 s (by omega) h
  have h0 := hm.1
  have := apart_le n.toNat (c.map fun e => e.f0) (fun x hx => by
    obtain ⟨e, he, rfl⟩ := List.mem_map.1 hx
    obtain ⟨j, hj, rfl⟩ := List.getElem_of_mem he
    obtain ⟨e, he, he0⟩ := hasE_some (hg j hj (by omega)).1
    have hb := mayL_at hm he
    rw [he0] at hb
    omega) (List.pairwise_iff_getElem.2 fun i j hi hj hij => by
    rw [List.length_map] at hi hj
    rw [List.getElem_map, List.getElem_map]
    intro he
    have := (hg j hj (by omega)).2
    rw [List.any_eq_false] at this
    exact this c[i] (by rw [List.mem_iff_getElem]; exact ⟨i, by rw [List.length_take]; omega, by rw [List.getElem_take]⟩) (beq_iff_eq.2 he))
  rw [List.length_map] at this
  exact this
open Classical in
theorem chain_r {n : Int} {l c : List S48} (hm : mayL n l) (hl : l.length ≤ 1000) (hc : c.length ≤ 1000) : ∃ r, Ev (fun k => cert_Chain.f k n l c) r ∧ (r = true ↔ c.length ≠ 0 ∧ chGo l c c.length 0 = some true) := by
  have jt : Ev (fun k => cert_Chain.j0 k n l c true) false := Ev.step (f := fun _ => some false) (fun k => by rw [cert_Chain.j0, if_pos rfl]) (Ev.now _)
  have h0 := hm.1
  have hn : n ≤ 32 := by have := hm.2.n32; omega
  have e1' : ∀ k, cert_Chain.f k n l c = (if (c.length : Int) = 0 then (cert_Chain.j0 k n l c true) else (cert_Chain.j0 k n l c (decide ((c.length : Int) > n)))) := fun k => by
    unfold cert_Chain.f
    rw [relaxMay_eq, Option.bind_some]
    exact if_pos (decide_eq_true hm)
  by_cases h1 : c.length = 0
  · exact ⟨false, Ev.congr (fun k => (e1' k).trans (if_pos (by omega))) jt, ⟨(fun h => by cases h), (fun h => absurd h1 h.1)⟩⟩
  obtain ⟨r, g1, g2⟩ := chain_l0 (n := n) (l := l) (c := c) (by omega) hm (by omega) c.length 0 (List.replicate n.toNat false) 0 (by omega) (by simp) (fun v v0 v1 => by
    rw [List.take_zero, List.any_nil, List.getD_eq_getElem?_getD, List.getElem?_replicate]
    split <;> rfl)
  refine ⟨r, ?_, ⟨fun h => ⟨h1, by rw [g1, h]⟩, fun h => by have := g1.symm.trans h.2; injection this⟩⟩
  by_cases h2 : (c.length : Int) > n
  · have : r = false := by
      cases r with
      | false => rfl
      | true => have := go_short hm 0 g1; omega
    rw [this]
    exact Ev.congr (fun k => by rw [e1' k, if_neg (by omega), decide_eq_true h2]) jt
  · refine Ev.congr (f := fun k => cert_Chain.j0 k n l c false) (fun k => by rw [e1' k, if_neg (by omega), decide_eq_false h2]) ?_
    exact Ev.step (fun k => by rw [cert_Chain.j0, if_neg (by decide), if_pos h0, if_pos (by omega)]; rfl) g2
theorem go_nx {l c : List S48} : ∀ (d i : Nat) (s : Int), i + d = c.length → chGo l c d s = some true → ∀ j (hj : j < c.length), i ≤ j → c[j].f1 = (chNx c j).f0 := by
  intro d
  induction d with
  | zero => intro i s hi _ j hj hij; omega
  | succ d ih =>
    intro i s hi h j hj hij
    have e1 : c.length - (d + 1) = i := by omega
    unfold chGo at h
    rw [e1, rdE c i (by omega)] at h
    by_cases h1 : (l.any fun e => chEq e (c[i]'(by omega))) = true
    · rw [if_pos h1] at h
      by_cases h2 : ((c.take i).any fun e => e.f0 == (c[i]'(by omega)).f0) = true
      · rw [if_pos h2] at h; cases h
      · rw [if_neg h2] at h
        by_cases h3 : (c[i]'(by omega)).f1 = (chNx c i).f0
        · rw [if_pos h3] at h
          rcases Nat.lt_or_ge i j with hl | hl
          · exact ih (i + 1) _ (by omega) h j hj (by omega)
          · have e : j = i := by omega
            subst e; exact h3
        · rw [if_neg h3] at h; cases h
    · rw [if_neg h1] at h; cases h
theorem chNx_eq (c : List S48) (j : Nat) (hj : j < c.length) : chNx c j = c[if j + 1 < c.length then j + 1 else 0]'(by split <;> omega) := by
  unfold chNx
  by_cases h : j + 1 < c.length
  · rw [if_pos h, rdE c (j + 1) h]; congr 1; rw [if_pos h]
  · rw [if_neg h, show (0 : Int) = ((0 : Nat) : Int) from rfl, rdE c 0 (by omega)]; congr 1; rw [if_neg h]
theorem go_loop {n : Int} {l c : List S48} (hm : mayL n l) (h : isLoop n l c) : ∀ (d i : Nat), i + d = c.length → chGo l c d (sumW (fun e : S48 => e.f2) (c.take i)) = some true := by
  have h0 := hm.1
  have h32 := hm.2.n32
  have hcl := h.le
  intro d
  induction d with
  | zero =>
    intro i hi
    show some (decide _) = _
    rw [List.take_of_length_le (by omega), decide_eq_true h.neg]
  | succ d ih =>
    intro i hi
    have hlt : i < c.length := by omega
    have e1 : c.length - (d + 1) = i := by omega
    have hb := mayL_at hm (h.mem _ (List.getElem_mem hlt))
    have hs : wrap64 (sumW (fun e : S48 => e.f2) (c.take i) + c[i].f2) = sumW (fun e : S48 => e.f2) (c.take (i + 1)) := by
      rw [sumW_take _ _ _ hlt]
      have h1 := sumW_abs (fun e : S48 => e.f2) 4503599627370496 (c.take i) (fun e he => by have := mayL_at hm (h.mem e (List.mem_of_mem_take he)); omega)
      have h2 : ((c.take i).length : Int) ≤ 32 := by rw [List.length_take]; omega
      show wrap64 (sumW (fun e : S48 => e.f2) (c.take i) + c[i].f2) = sumW (fun e : S48 => e.f2) (c.take i) + c[i].f2
      generalize sumW (fun e : S48 => e.f2) (c.take i) = z at h1 ⊢
      generalize ((c.take i).length : Int) = y at h1 h2
      unfold wrap64
      omega
    unfold chGo
    rw [e1, rdE c i hlt, if_pos (List.any_eq_true.2 ⟨c[i], h.mem _ (List.getElem_mem hlt), by unfold chEq; simp⟩), if_neg ?_, if_pos ?_, hs]
    · exact ih (i + 1) (by omega)
    · rw [chNx_eq c i hlt]; exact h.rg.nx i hlt
    · intro ha
      obtain ⟨e, he, hq⟩ := List.any_eq_true.1 ha
      obtain ⟨j, hj, rfl⟩ := List.getElem_of_mem he
      rw [List.length_take] at hj
      rw [List.getElem_take] at hq
      have := h.rg.dis j i (by omega) hlt (beq_iff_eq.1 hq)
      omega
theorem chain_loop {n : Int} {l c : List S48} (hm : mayL n l) (hl : l.length ≤ 1000) (h : isLoop n l c) : Ev (fun k => cert_Chain.f k n l c) true := by
  have h32 := hm.2.n32
  have hcl := h.le
  have hne := h.ne
  obtain ⟨r, h1, h2⟩ := chain_r (c := c) hm hl (by omega)
  have hg := go_loop hm h c.length 0 (by omega)
  rw [List.take_zero] at hg
  rw [h2.2 ⟨by omega, hg⟩] at h1
  exact h1
/-- Twice, it isn't. -/
theorem chain_twice {n : Int} {l c : List S48} (hm : mayL n l) (hl : l.length ≤ 1000) (hc : c.length ≤ 500) (hne : 0 < c.length) : Ev (fun k => cert_Chain.f k n l (c ++ c)) false := by
  obtain ⟨r, h1, h2⟩ := chain_r (c := c ++ c) hm hl (by rw [List.length_append]; omega)
  cases r with
  | false => exact h1
  | true =>
    exfalso
    obtain ⟨_, hg⟩ := h2.1 rfl
    have hlen : (c ++ c).length = c.length + c.length := List.length_append
    have h3 := (go_true (c ++ c).length 0 0 (by omega) hg c.length (by omega) (by omega)).2
    rw [List.take_left, List.any_eq_false] at h3
    refine h3 c[0] (List.getElem_mem hne) ?_
    rw [List.getElem_append_right (Nat.le_refl _)]
    simp
/-- Without its last edge, it isn't. -/
theorem chain_short {n : Int} {l c : List S48} (hm : mayL n l) (hl : l.length ≤ 1000) (h : isLoop n l c) : Ev (fun k => cert_Chain.f k n l (c.take (c.length - 1))) false := by
  have h32 := hm.2.n32
  have hcl := h.le
  have hne := h.ne
  have hlen : (c.take (c.length - 1)).length = c.length - 1 := by rw [List.length_take]; omega
  obtain ⟨r, h1, h2⟩ := chain_r (c := c.take (c.length - 1)) hm hl (by omega)
  cases r with
  | false => exact h1
  | true =>
    exfalso
    obtain ⟨hz, hg⟩ := h2.1 rfl
    rw [hlen] at hz
    have hj : c.length - 2 < (c.take (c.length - 1)).length := by omega
    have h3 := go_nx (c.take (c.length - 1)).length 0 0 (by omega) hg (c.length - 2) hj (by omega)
    rw [chNx_eq _ _ hj, List.getElem_take, List.getElem_take] at h3
    have h4 := h.rg.nx (c.length - 2) (by omega)
    have e4 : (if c.length - 2 + 1 < c.length then c.length - 2 + 1 else 0) = c.length - 1 := by rw [if_pos (by omega)]; omega
    have e3 : (if c.length - 2 + 1 < (c.take (c.length - 1)).length then c.length - 2 + 1 else 0) = 0 := by rw [if_neg (by omega)]
    have h5 := h.rg.dis (c.length - 1) 0 (by omega) hne (by
      have h6 : c[c.length - 2].f1 = c[c.length - 1].f0 := by
        rw [show c[c.length - 2].f1 = _ from h4]
        congr 1
        congr 1
      have h7 : c[c.length - 2].f1 = c[0].f0 := by
        rw [show c[c.length - 2].f1 = _ from h3]
        congr 1
        congr 1
      show c[c.length - 1].f0 = c[0].f0
      rw [← h6, h7])
    omega
end
/-! C17f -/
section
open Go.RowKit Go.Proofs.Ytacjlaiddnfpdaa.H Go.Proofs.YtacjlaiddnfpdaaW.PrintWords Go.Proofs.YtacjlaiddnfpdaaW.PrintLast Go.Proofs.YtacjlaiddnfpdaaW.PrintMore
theorem law17_fixed_ev : Ev (fun k => merkhetlaw17_fixed.f k) true := Ev.of (fun k => merkhetlaw17_fixed.mono k) (k := 12) (by decide +kernel)
end
end Go.Proofs.Ytacjlaiddnfpdaa.CE
