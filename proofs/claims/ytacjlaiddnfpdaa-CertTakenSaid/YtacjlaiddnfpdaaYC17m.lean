/- What layers 14, 15 and 17 compute, as layer 17's last law needs it. -/
import Derived.Test.YtacjlaiddnfpdaaH17
import Derived.Test.YtacjlaiddnfpdaaH16
import Derived.Test.YtacjlaiddnfpdaaYx3
import Derived.Test.YtacjlaiddnfpdaaYx2
import Derived.Test.YtacjlaiddnfpdaaYx4
import Derived.Laws.Bits64
import Derived.Laws.Bits64b
import Derived.Test.YtacjlaiddnfpdaaYx5
import Derived.Test.YtacjlaiddnfpdaaYx6
import Derived.Test.YtacjlaiddnfpdaaH20
set_option linter.unusedVariables false
set_option linter.unusedSimpArgs false
namespace Go.Proofs.Ytacjlaiddnfpdaa.Y
/-! C15z -/
section
open Go.RowKit Go.Proofs.Ytacjlaiddnfpdaa.H Go.Proofs.YtacjlaiddnfpdaaW.PrintWords Go.Proofs.YtacjlaiddnfpdaaW.PrintLast Go.Proofs.YtacjlaiddnfpdaaW.PrintMore
theorem w64t (i : Nat) (h : i < 9000000000000000000) : wrap64 ((i : Int) + 1) = ((i + 1 : Nat) : Int) := by unfold wrap64; omega
theorem rdt (l : List Int) (i : Nat) : rd l (i : Int) = l.getD i 0 := by unfold rd; rw [Int.toNat_natCast]
theorem ev_step {α : Type} {g f : Nat → Option α} {r : α} (h : ∀ k, g (k + 1) = f k) (hf : Ev f r) : Ev g r := Ev.step h hf
theorem ev_eq {α : Type} {g : Nat → Option α} {r r' : α} (h : Ev g r) (e : r = r') : Ev g r' := e ▸ h
end
/-! C15a -/
section
open Go.RowKit Go.Proofs.Ytacjlaiddnfpdaa.H Go.Proofs.YtacjlaiddnfpdaaW.PrintWords Go.Proofs.YtacjlaiddnfpdaaW.PrintLast Go.Proofs.YtacjlaiddnfpdaaW.PrintMore
def ed (s : S48) : Ed := ⟨s.f0, s.f1, s.f2⟩
def eds (l : List S48) : List Ed := l.map ed
/-- May these be? -/
def mayL (n : Int) (l : List S48) : Prop := 0 ≤ n ∧ okE n.toNat (eds l)
theorem mayL_at {n : Int} {l : List S48} (h : mayL n l) {s : S48} (hs : s ∈ l) : 0 ≤ s.f0 ∧ s.f0 < n ∧ 0 ≤ s.f1 ∧ s.f1 < n ∧ -4503599627370496 ≤ s.f2 ∧ s.f2 ≤ 4503599627370496 := by
  have := h.2.ok (ed s) (List.mem_map_of_mem hs)
  have h0 := h.1
  simp only [ed] at this
  omega
theorem mayL_mk {n : Int} {l : List S48} (h0 : 0 ≤ n) (h1 : n ≤ 32) (h : ∀ s ∈ l, 0 ≤ s.f0 ∧ s.f0 < n ∧ 0 ≤ s.f1 ∧ s.f1 < n ∧ -4503599627370496 ≤ s.f2 ∧ s.f2 ≤ 4503599627370496) : mayL n l := by
  refine ⟨h0, ⟨by omega, fun e he => ?_⟩⟩
  obtain ⟨s, hs, rfl⟩ := List.mem_map.1 he
  have := h s hs
  simp only [ed]
  omega
/-- A row of so many hosts. -/
def rowF (n : Nat) (f : Int → Int) : List Int := (List.range n).map fun h : Nat => f (h : Int)
theorem rowF_length (n : Nat) (f : Int → Int) : (rowF n f).length = n := by simp [rowF]
theorem rowF_rd (n : Nat) (f : Int → Int) (a : Int) (h0 : 0 ≤ a) (h1 : a < (n : Int)) : rd (rowF n f) a = f a := by
  unfold rd rowF
  rw [List.getD_eq_getElem?_getD, List.getElem?_eq_getElem (by simp; omega)]
  simp
  congr 1
  omega
theorem rowF_ext {n : Nat} {f g : Int → Int} (h : ∀ a, 0 ≤ a → a < (n : Int) → f a = g a) : rowF n f = rowF n g := by
  unfold rowF
  refine List.map_congr_left fun a ha => h _ (by omega) ?_
  have := List.mem_range.1 ha
  omega
theorem rowF_inj {n : Nat} {f g : Int → Int} (h : rowF n f = rowF n g) (a : Int) (h0 : 0 ≤ a) (h1 : a < (n : Int)) : f a = g a := by
  rw [← rowF_rd n f a h0 h1, h, rowF_rd n g a h0 h1]
theorem rowF_set (n : Nat) (f : Int → Int) (a v : Int) (h0 : 0 ≤ a) (h1 : a < (n : Int)) : (rowF n f).set a.toNat v = rowF n (fun h => if h = a then v else f h) := by
  apply List.ext_getElem
  · simp [rowF]
  · intro i h2 h3
    rw [List.getElem_set]
    simp only [rowF, List.getElem_map, List.getElem_range]
    by_cases c : a.toNat = i
    · rw [if_pos c, if_pos (by omega)]
    · rw [if_neg c, if_neg (by omega)]
theorem rowF_const (n : Nat) (v : Int) : rowF n (fun _ => v) = List.replicate n v := by
  apply List.ext_getElem
  · simp [rowF]
  · intro i h1 h2
    simp [rowF]
def rowsF (n : Nat) (F : Nat → Int → Int) (m : Nat) : List (List Int) := (List.range m).map fun k => rowF n (F k)
theorem rowsF_length (n : Nat) (F : Nat → Int → Int) (m : Nat) : (rowsF n F m).length = m := by simp [rowsF]
theorem rowsF_succ (n : Nat) (F : Nat → Int → Int) (m : Nat) : rowsF n F (m + 1) = rowsF n F m ++ [rowF n (F m)] := by simp [rowsF, List.range_succ]
theorem rowsF_getD (n : Nat) (F : Nat → Int → Int) (m k : Nat) (h : k < m) : (rowsF n F m).getD k [] = rowF n (F k) := by
  rw [List.getD_eq_getElem?_getD, List.getElem?_eq_getElem (by rw [rowsF_length]; exact h)]
  simp [rowsF]
open Classical in
/-- What is told of edges: the last layer, if it is as the one ahead. -/
noncomputable def solveP (n : Int) (l : List S48) : List Int × Bool :=
  if mayL n l ∧ ∀ h, 0 ≤ h → h < n → L (eds l) n.toNat h = L (eds l) (n.toNat - 1) h then (rowF n.toNat (L (eds l) n.toNat), true) else ([], false)
theorem solveP_cases (n : Int) (l : List S48) : (¬ (mayL n l ∧ ∀ h, 0 ≤ h → h < n → L (eds l) n.toNat h = L (eds l) (n.toNat - 1) h) ∧ solveP n l = ([], false)) ∨ (mayL n l ∧ (∀ h, 0 ≤ h → h < n → L (eds l) n.toNat h = L (eds l) (n.toNat - 1) h) ∧ solveP n l = (rowF n.toNat (L (eds l) n.toNat), true)) := by
  by_cases c : mayL n l ∧ ∀ h, 0 ≤ h → h < n → L (eds l) n.toNat h = L (eds l) (n.toNat - 1) h
  · exact .inr ⟨c.1, c.2, by unfold solveP; rw [if_pos c]⟩
  · exact .inl ⟨c, by unfold solveP; rw [if_neg c]⟩
theorem mem_eds {l : List S48} {s : S48} (hs : s ∈ l) : ed s ∈ eds l := List.mem_map_of_mem hs
/-- Numbers of hosts for which all edges hold. -/
theorem conv_of {n : Int} {l : List S48} (hm : mayL n l) {x : Int → Int} (hx : ∀ s ∈ l, x s.f1 ≤ x s.f0 + s.f2) : ∀ h, 0 ≤ h → h < n → L (eds l) n.toNat h = L (eds l) (n.toNat - 1) h := by
  intro h h1 h2
  refine L_conv hm.2 (x := x) (fun e he => ?_) h1 (by have := hm.1; omega)
  obtain ⟨s, hs, rfl⟩ := List.mem_map.1 he
  exact hx s hs
theorem wrapL {n : Int} {l : List S48} (hm : mayL n l) {s : S48} (hs : s ∈ l) (k : Nat) (hk : k ≤ n.toNat) (h : Int) : wrap64 (L (eds l) k h + s.f2) = L (eds l) k h + s.f2 := by
  have h1 := L_low hm.2 k h
  have h2 := L_nonpos (eds l) k h
  have h3 := mayL_at hm hs
  have h4 := hm.2.n32
  unfold wrap64
  omega
end
/-! C15r -/
section
open Go.RowKit Go.Proofs.Ytacjlaiddnfpdaa.H Go.Proofs.YtacjlaiddnfpdaaW.PrintWords Go.Proofs.YtacjlaiddnfpdaaW.PrintLast Go.Proofs.YtacjlaiddnfpdaaW.PrintMore
open Classical in
theorem refMay_l0 (n : Int) (l : List S48) (h0 : 0 ≤ n) (h1 : n ≤ 32) (hl : l.length < 1000000000) : ∀ (d i : Nat), l.length - i = d → i ≤ l.length → (∀ s ∈ l.take i, 0 ≤ s.f0 ∧ s.f0 < n ∧ 0 ≤ s.f1 ∧ s.f1 < n ∧ -4503599627370496 ≤ s.f2 ∧ s.f2 ≤ 4503599627370496) → Ev (fun k => merkhetref15_May.l0 k n l (i : Int)) (decide (mayL n l)) := by
  intro d
  have hz : ∀ j : Nat, rd_T48 l (j : Int) = l.getD j z48 := fun j => by show l.getD _ _ = _; rw [Int.toNat_natCast]
  induction d with
  | zero =>
    intro i hd hi hall
    rw [List.take_of_length_le (by omega)] at hall
    rw [decide_eq_true (mayL_mk h0 h1 hall)]
    exact ev_step (f := fun _ => some true) (fun k => by rw [merkhetref15_May.l0, if_neg (by omega)]) (Ev.now _)
  | succ d ih =>
    intro i hd hi hall
    have hlt : i < l.length := by omega
    have hmem : l.getD i z48 ∈ l := by rw [List.getD_eq_getElem?_getD, List.getElem?_eq_getElem hlt]; exact List.getElem_mem hlt
    have hbad : (¬ (0 ≤ (l.getD i z48).f0 ∧ (l.getD i z48).f0 < n ∧ 0 ≤ (l.getD i z48).f1 ∧ (l.getD i z48).f1 < n ∧ -4503599627370496 ≤ (l.getD i z48).f2 ∧ (l.getD i z48).f2 ≤ 4503599627370496)) → decide (mayL n l) = false := fun h => decide_eq_false (fun hm => h (mayL_at hm hmem))
    by_cases c1 : (l.getD i z48).f0 < 0
    · rw [hbad (by omega)]
      exact ev_step (f := fun _ => some false) (fun k => by rw [merkhetref15_May.l0, if_pos (by omega), if_pos (by omega), hz, if_pos c1]) (Ev.now _)
    by_cases c2 : (l.getD i z48).f0 ≥ n
    · rw [hbad (by omega)]
      exact ev_step (f := fun _ => some false) (fun k => by rw [merkhetref15_May.l0, if_pos (by omega), if_pos (by omega), hz, if_neg c1, if_pos c2]) (Ev.now _)
    by_cases c3 : (l.getD i z48).f1 < 0
    · rw [hbad (by omega)]
      exact ev_step (f := fun _ => some false) (fun k => by rw [merkhetref15_May.l0, if_pos (by omega), if_pos (by omega), hz, if_neg c1, if_neg c2, if_pos c3]) (Ev.now _)
    by_cases c4 : (l.getD i z48).f1 ≥ n
    · rw [hbad (by omega)]
      exact ev_step (f := fun _ => some false) (fun k => by rw [merkhetref15_May.l0, if_pos (by omega), if_pos (by omega), hz, if_neg c1, if_neg c2, if_neg c3, if_pos c4]) (Ev.now _)
    by_cases c5 : (l.getD i z48).f2 > 4503599627370496
    · rw [hbad (by omega)]
      exact ev_step (f := fun _ => some false) (fun k => by rw [merkhetref15_May.l0, if_pos (by omega), if_pos (by omega), hz, if_neg c1, if_neg c2, if_neg c3, if_neg c4, if_pos c5]) (Ev.now _)
    by_cases c6 : (l.getD i z48).f2 < -4503599627370496
    · rw [hbad (by omega)]
      exact ev_step (f := fun _ => some false) (fun k => by rw [merkhetref15_May.l0, if_pos (by omega), if_pos (by omega), hz, if_neg c1, if_neg c2, if_neg c3, if_neg c4, if_neg c5, if_pos c6]) (Ev.now _)
    refine ev_step (fun k => ?_) (ih (i + 1) (by omega) (by omega) (fun s hs => by
      rw [List.take_succ_eq_append_getElem hlt] at hs
      rcases List.mem_append.1 hs with h | h
      · exact hall s h
      · have h' := List.mem_singleton.1 h
        rw [List.getD_eq_getElem?_getD, List.getElem?_eq_getElem hlt] at c1 c2 c3 c4 c5 c6
        rw [h']
        simp only [Option.getD_some] at c1 c2 c3 c4 c5 c6
        omega))
    rw [merkhetref15_May.l0, if_pos (by omega), if_pos (by omega), hz, if_neg c1, if_neg c2, if_neg c3, if_neg c4, if_neg c5, if_neg c6, w64t i (by omega)]
open Classical in
theorem refMay15_ev (n : Int) (l : List S48) (hl : l.length < 1000000000) : Ev (fun k => merkhetref15_May.f k n l) (decide (mayL n l)) := by
  unfold merkhetref15_May.f
  by_cases c : n < 0
  · rw [decide_eq_false (fun h : mayL n l => by have := h.1; omega)]
    refine Ev.congr (fun k => by rw [if_pos c]) ?_
    exact ev_step (f := fun _ => some false) (fun k => by rw [merkhetref15_May.j0, if_pos rfl]) (Ev.now _)
  · refine Ev.congr (fun k => by rw [if_neg c]) ?_
    by_cases c2 : n > 32
    · rw [decide_eq_false (fun h : mayL n l => by have := h.2.n32; omega)]
      exact ev_step (f := fun _ => some false) (fun k => by rw [merkhetref15_May.j0, if_pos (decide_eq_true c2)]) (Ev.now _)
    · have h_ := refMay_l0 n l (by omega) (by omega) hl l.length 0 rfl (Nat.zero_le _) (fun s hs => by simp at hs)
      exact ev_step (fun k => by rw [merkhetref15_May.j0, if_neg (by rw [decide_eq_false c2]; decide)]; rfl) h_
end
/-! C15y -/
section
open Go.RowKit Go.Proofs.Ytacjlaiddnfpdaa.H Go.Proofs.YtacjlaiddnfpdaaW.PrintWords Go.Proofs.YtacjlaiddnfpdaaW.PrintLast Go.Proofs.YtacjlaiddnfpdaaW.PrintMore
open Classical in
theorem relaxMay_eq (n : Int) (l : List S48) : relax_May.f n l = some (decide (mayL n l)) := by
  unfold relax_May.f
  by_cases c : n < 0
  · rw [if_pos c, decide_eq_false (fun h : mayL n l => by have := h.1; omega)]
  · rw [if_neg c]
    by_cases c2 : n > 32
    · rw [if_pos c2, decide_eq_false (fun h : mayL n l => by have := h.2.n32; omega)]
    · rw [if_neg c2]
      congr 1
      rw [Bool.eq_iff_iff, decide_eq_true_eq, Bool.not_eq_true']
      constructor
      · intro h
        refine mayL_mk (by omega) (by omega) fun s hs => ?_
        have hb : ¬ mayBad n s = true := fun hb => by
          rw [List.any_eq_true.2 ⟨s, hs, hb⟩] at h
          cases h
        unfold mayBad mn mx at hb
        simp only [Bool.or_eq_true, decide_eq_true_eq, not_or, ge_iff_le, gt_iff_lt] at hb
        obtain ⟨⟨⟨h1, h2⟩, h3⟩, h4⟩ := hb
        split at h1 <;> split at h2 <;> omega
      · intro h
        rw [Bool.eq_false_iff]
        intro ha
        obtain ⟨s, hs, hb⟩ := List.any_eq_true.1 ha
        have := mayL_at h hs
        unfold mayBad mn mx at hb
        simp only [Bool.or_eq_true, decide_eq_true_eq, ge_iff_le, gt_iff_lt] at hb
        rcases hb with ((h1 | h2) | h3) | h4
        · split at h1 <;> omega
        · split at h2 <;> omega
        · omega
        · omega
end
/-! C14 -/
section
open Go.RowKit Go.Proofs.Ytacjlaiddnfpdaa.H Go.Proofs.YtacjlaiddnfpdaaW.PrintWords Go.Proofs.YtacjlaiddnfpdaaW.PrintLast Go.Proofs.YtacjlaiddnfpdaaW.PrintMore
def i64R (x : Int) : Prop := -9223372036854775808 ≤ x ∧ x ≤ 9223372036854775807
theorem wf_i64R {x : Int} (h : (Lit.int .i64 x).wf = true) : i64R x := by
  simp [Lit.wf, IntKind.min, IntKind.max, IntKind.signed, IntKind.bits] at h
  unfold i64R
  omega
theorem less_ev (a b c : Int) (ha : i64R a) (hb : i64R b) (hc : i64R c) : Ev (fun k => merkhetref14_less.f k a b c) (decide (a + b < c)) := by
  unfold i64R at ha hb hc
  obtain ⟨t, ht⟩ : ∃ t, t = wrap64 (a + b) := ⟨_, rfl⟩
  have hcase : (t = a + b ∧ -9223372036854775808 ≤ a + b ∧ a + b ≤ 9223372036854775807) ∨ (t = a + b + 18446744073709551616 ∧ a + b < -9223372036854775808) ∨ (t = a + b - 18446744073709551616 ∧ 9223372036854775807 < a + b) := by
    rw [ht]; unfold wrap64; omega
  unfold merkhetref14_less.f
  rw [← ht]
  clear ht
  have j0 : ∀ x20 : Bool, (x20 = true → a + b < c) → (x20 = false → (¬ (a ≥ 0 ∧ b ≥ 0 ∧ t < 0)) → (t < c ↔ a + b < c)) → Ev (fun k => merkhetref14_less.j0 k a b c t x20) (decide (a + b < c)) := fun x20 h1 h2 => by
    cases x20 with
    | true =>
      rw [decide_eq_true (h1 rfl)]
      exact ev_step (f := fun _ => some true) (fun k => by rw [merkhetref14_less.j0, if_pos rfl]) (Ev.now _)
    | false =>
      by_cases c1 : a ≥ 0
      · by_cases c2 : b ≥ 0
        · by_cases c3 : t < 0
          · rw [decide_eq_false (by omega)]
            exact ev_step (f := fun _ => some false) (fun k => by rw [merkhetref14_less.j0, if_neg (by decide), if_pos c1, if_pos c2, if_pos c3]) (Ev.now _)
          · refine ev_step (f := fun _ => some (decide (t < c))) (fun k => by rw [merkhetref14_less.j0, if_neg (by decide), if_pos c1, if_pos c2, if_neg c3]) ?_
            rw [show decide (t < c) = decide (a + b < c) by rw [decide_eq_decide]; exact h2 rfl (by omega)]
            exact Ev.now _
        · refine ev_step (f := fun _ => some (decide (t < c))) (fun k => by rw [merkhetref14_less.j0, if_neg (by decide), if_pos c1, if_neg c2]) ?_
          rw [show decide (t < c) = decide (a + b < c) by rw [decide_eq_decide]; exact h2 rfl (by omega)]
          exact Ev.now _
      · refine ev_step (f := fun _ => some (decide (t < c))) (fun k => by rw [merkhetref14_less.j0, if_neg (by decide), if_neg c1]) ?_
        rw [show decide (t < c) = decide (a + b < c) by rw [decide_eq_decide]; exact h2 rfl (by omega)]
        exact Ev.now _
  by_cases c1 : a < 0
  · by_cases c2 : b < 0
    · refine Ev.congr (fun k => by rw [if_pos c1, if_pos c2]) (j0 (decide (t ≥ 0)) (fun h => by have := of_decide_eq_true h; omega) (fun h h3 => by have := of_decide_eq_false h; omega))
    · exact Ev.congr (fun k => by rw [if_pos c1, if_neg c2]) (j0 false (fun h => by cases h) (fun _ h3 => by omega))
  · exact Ev.congr (fun k => by rw [if_neg c1]) (j0 false (fun h => by cases h) (fun _ h3 => by omega))
/-- Does an edge hold for numbers? -/
def holdsS (x : List Int) (s : S48) : Prop := 0 ≤ s.f0 ∧ s.f0 < (x.length : Int) ∧ 0 ≤ s.f1 ∧ s.f1 < (x.length : Int) ∧ rd x s.f1 ≤ rd x s.f0 + s.f2
theorem rd_wf {x : List Int} (h : ∀ v ∈ x, i64R v) (a : Int) (h0 : 0 ≤ a) (h1 : a < (x.length : Int)) : i64R (rd x a) := by
  unfold rd
  rw [List.getD_eq_getElem?_getD, List.getElem?_eq_getElem (show a.toNat < x.length by omega)]
  exact h _ (List.getElem_mem _)
open Classical in
theorem holds_ev (s : S48) (x : List Int) (hx : ∀ v ∈ x, i64R v) (hs : i64R s.f2) : Ev (fun k => merkhetref14_Holds.f k s.f0 s.f1 s.f2 s.f3.f0 s.f3.f1 s.f4 x) (decide (holdsS x s)) := by
  unfold merkhetref14_Holds.f
  by_cases c1 : s.f0 < 0
  · rw [decide_eq_false (fun h : holdsS x s => by have := h.1; omega)]
    exact Ev.congr (f := fun _ => some false) (fun k => by rw [if_pos c1]) (Ev.now _)
  by_cases c2 : s.f1 < 0
  · rw [decide_eq_false (fun h : holdsS x s => by have := h.2.2.1; omega)]
    exact Ev.congr (f := fun _ => some false) (fun k => by rw [if_neg c1, if_pos c2]) (Ev.now _)
  by_cases c3 : s.f0 ≥ (x.length : Int)
  · rw [decide_eq_false (fun h : holdsS x s => by have := h.2.1; omega)]
    exact Ev.congr (f := fun _ => some false) (fun k => by rw [if_neg c1, if_neg c2, if_pos c3]) (Ev.now _)
  by_cases c4 : s.f1 ≥ (x.length : Int)
  · rw [decide_eq_false (fun h : holdsS x s => by have := h.2.2.2.1; omega)]
    exact Ev.congr (f := fun _ => some false) (fun k => by rw [if_neg c1, if_neg c2, if_neg c3, if_pos c4]) (Ev.now _)
  refine Ev.congr (fun k => by rw [if_neg c1, if_neg c2, if_neg c3, if_neg c4, if_pos (by omega), if_pos (by omega), if_pos (by omega), if_pos (by omega)]) ?_
  refine Ev.bind (less_ev _ _ _ (rd_wf hx _ (by omega) (by omega)) hs (rd_wf hx _ (by omega) (by omega))) ?_
  rw [show (!decide (rd x s.f0 + s.f2 < rd x s.f1)) = decide (holdsS x s) by
    rw [Bool.eq_iff_iff, Bool.not_eq_true', decide_eq_false_iff_not, decide_eq_true_eq]
    unfold holdsS
    omega]
  exact Ev.now _
open Classical in
theorem all_l0 (l : List S48) (x : List Int) (hx : ∀ v ∈ x, i64R v) (hs : ∀ s ∈ l, i64R s.f2) (hl : l.length < 1000000000) : ∀ (d i : Nat), l.length - i = d → i ≤ l.length → Ev (fun k => merkhetref14_All.l0 k l x (i : Int)) (decide (∀ s ∈ l.drop i, holdsS x s)) := by
  intro d
  have hz : ∀ j : Nat, rd_T48 l (j : Int) = l.getD j z48 := fun j => by show l.getD _ _ = _; rw [Int.toNat_natCast]
  induction d with
  | zero =>
    intro i hd hi
    rw [decide_eq_true (p := ∀ s ∈ l.drop i, holdsS x s) (fun s h => by rw [List.drop_of_length_le (by omega)] at h; simp at h)]
    exact ev_step (f := fun _ => some true) (fun k => by rw [merkhetref14_All.l0, if_neg (by omega)]) (Ev.now _)
  | succ d ih =>
    intro i hd hi
    have hlt : i < l.length := by omega
    have hg : l.getD i z48 = l[i] := by rw [List.getD_eq_getElem?_getD, List.getElem?_eq_getElem hlt]; rfl
    refine ev_step (f := fun k => (merkhetref14_Holds.f k l[i].f0 l[i].f1 l[i].f2 l[i].f3.f0 l[i].f3.f1 l[i].f4 x).bind fun t => if t = true then merkhetref14_All.l0 k l x ((i + 1 : Nat) : Int) else some false) (fun k => by rw [merkhetref14_All.l0, if_pos (by omega), if_pos (by omega), hz, hg, w64t i (by omega)]) ?_
    refine Ev.bind (holds_ev l[i] x hx (hs _ (List.getElem_mem hlt))) ?_
    by_cases c : holdsS x l[i]
    · rw [decide_eq_true c]
      refine Ev.congr (fun k => by rw [if_pos rfl]) (ev_eq (ih (i + 1) (by omega) (by omega)) ?_)
      rw [decide_eq_decide, List.drop_eq_getElem_cons hlt]
      exact ⟨fun h s hm => by rcases List.mem_cons.1 hm with rfl | h2; exact c; exact h s h2, fun h s hm => h s (List.mem_cons_of_mem _ hm)⟩
    · rw [decide_eq_false c, decide_eq_false (p := ∀ s ∈ l.drop i, holdsS x s) (fun h => c (h _ (by rw [List.drop_eq_getElem_cons hlt]; exact List.mem_cons_self)))]
      exact Ev.congr (f := fun _ => some false) (fun k => by rw [if_neg (by decide)]) (Ev.now _)
open Classical in
theorem all_ev (l : List S48) (x : List Int) (hx : ∀ v ∈ x, i64R v) (hs : ∀ s ∈ l, i64R s.f2) (hl : l.length < 1000000000) : Ev (fun k => merkhetref14_All.f k l x) (decide (∀ s ∈ l, holdsS x s)) := by
  have h_ := all_l0 l x hx hs hl l.length 0 rfl (Nat.zero_le _)
  exact h_
end
/-! C17a -/
section
open Go.RowKit Go.Proofs.Ytacjlaiddnfpdaa.H Go.Proofs.YtacjlaiddnfpdaaW.PrintWords Go.Proofs.YtacjlaiddnfpdaaW.PrintLast Go.Proofs.YtacjlaiddnfpdaaW.PrintMore
theorem xor63_lt (x : Nat) (h : x < 9223372036854775808) : x ^^^ 9223372036854775808 = x + 9223372036854775808 := by
  have h1 := Nat.two_pow_add_eq_or_of_lt (i := 63) (b := x) (by omega) 1
  rw [show x + 9223372036854775808 = 2 ^ 63 * 1 + x by omega, h1, show (9223372036854775808 : Nat) = 2 ^ 63 by decide, Nat.mul_one]
  apply Nat.eq_of_testBit_eq
  intro i
  rw [Nat.testBit_xor, Nat.testBit_or, Nat.testBit_two_pow]
  by_cases hi : 63 = i
  · subst hi
    rw [Nat.testBit_lt_two_pow (by omega)]
    simp
  · rw [decide_eq_false hi]; simp
theorem xor63_ge (x : Nat) (h : 9223372036854775808 ≤ x) (h2 : x < 18446744073709551616) : x ^^^ 9223372036854775808 = x - 9223372036854775808 := by
  have h1 := xor63_lt (x - 9223372036854775808) (by omega)
  rw [show x - 9223372036854775808 + 9223372036854775808 = x by omega] at h1
  rw [← h1, Nat.xor_assoc, Nat.xor_self, Nat.xor_zero, h1]
theorem raised_eq {a : Int} (h0 : -9223372036854775808 ≤ a) (h1 : a ≤ 9223372036854775807) : bound_raised.f a = some (a + 9223372036854775808) := by
  unfold bound_raised.f
  rw [IntKind.wrap_u64, show (a % 18446744073709551616) = (((a % 18446744073709551616).toNat : Nat) : Int) by omega, show (9223372036854775808 : Int) = ((9223372036854775808 : Nat) : Int) from rfl, bits_xor_u64_nat _ _ (by omega) (by omega)]
  by_cases c : 0 ≤ a
  · rw [xor63_lt _ (by omega)]; congr 1; omega
  · rw [xor63_ge _ (by omega) (by omega)]; congr 1; omega
theorem sum_eq {a b : Int} (h0 : -9223372036854775808 ≤ a) (h1 : a ≤ 9223372036854775807) (j0 : -9223372036854775808 ≤ b) (j1 : b ≤ 9223372036854775807) : bound_sum.f a b = some ((a + b + 18446744073709551616) / 18446744073709551616, (a + b + 18446744073709551616) % 18446744073709551616) := by
  unfold bound_sum.f
  rw [raised_eq h0 h1, raised_eq j0 j1, Option.bind_some, Option.bind_some, if_pos (by omega), if_pos (by omega)]
  rw [show a + 9223372036854775808 + (b + 9223372036854775808) = a + b + 18446744073709551616 by omega]
theorem lexic (n m : Int) : (decide ((n + 0 + 18446744073709551616) / 18446744073709551616 > (m + 18446744073709551616) / 18446744073709551616) || (decide ((n + 0 + 18446744073709551616) / 18446744073709551616 = (m + 18446744073709551616) / 18446744073709551616) && decide ((n + 0 + 18446744073709551616) % 18446744073709551616 > (m + 18446744073709551616) % 18446744073709551616))) = decide (n > m) := by
  rw [Bool.eq_iff_iff]
  simp only [Bool.or_eq_true, Bool.and_eq_true, decide_eq_true_eq]
  omega
theorem above_eq {n a b : Int} (h0 : -9223372036854775808 ≤ n) (h1 : n ≤ 9223372036854775807) : bound_above.f n ((a + b + 18446744073709551616) / 18446744073709551616) ((a + b + 18446744073709551616) % 18446744073709551616) = some (decide (n > a + b)) := by
  unfold bound_above.f
  rw [sum_eq h0 h1 (by omega) (by omega), Option.bind_some, lexic n (a + b)]
def i64B (x : Int) : Prop := -9223372036854775808 ≤ x ∧ x ≤ 9223372036854775807
theorem wf_i64B {x : Int} (h : (Lit.int .i64 x).wf = true) : i64B x := by
  simp [Lit.wf, IntKind.min, IntKind.max, IntKind.signed, IntKind.bits] at h
  unfold i64B
  omega
/-- Does an edge hold for numbers? -/
def holdsB (x : List Int) (s : S48) : Prop := 0 ≤ s.f0 ∧ s.f0 < (x.length : Int) ∧ 0 ≤ s.f1 ∧ s.f1 < (x.length : Int) ∧ rd x s.f1 ≤ rd x s.f0 + s.f2
theorem rd_i64B {x : List Int} (h : ∀ v ∈ x, i64B v) (a : Int) (h0 : 0 ≤ a) (h1 : a < (x.length : Int)) : i64B (rd x a) := by
  unfold rd
  rw [List.getD_eq_getElem?_getD, List.getElem?_eq_getElem (show a.toNat < x.length by omega)]
  exact h _ (List.getElem_mem _)
theorem mnB (a b : Int) : (mn a b < 0 ↔ a < 0 ∨ b < 0) := by unfold mn; omega
theorem mxB (a b n : Int) : (mx a b ≥ n ↔ a ≥ n ∨ b ≥ n) := by unfold mx; omega
open Classical in
theorem boundHolds_ev (s : S48) (x : List Int) (hx : ∀ v ∈ x, i64B v) (hs : i64B s.f2) : Ev (fun k => bound_Holds.f k s.f0 s.f1 s.f2 s.f3.f0 s.f3.f1 s.f4 x) (decide (holdsB x s)) := by
  unfold bound_Holds.f
  have hoff : ¬ holdsB x s → Ev (fun k => bound_Holds.j0 k x true s.f0 s.f1 s.f2 s.f3.f0 s.f3.f1 s.f4) (decide (holdsB x s)) := fun h => by
    rw [decide_eq_false h]
    exact Ev.step (f := fun _ => some false) (fun k => by rw [bound_Holds.j0, if_pos rfl]) (Ev.now _)
  by_cases c1 : mn s.f0 s.f1 < 0
  · exact Ev.congr (fun k => by rw [if_pos c1]) (hoff (fun h => by have := (mnB _ _).1 c1; have := h.1; have := h.2.2.1; omega))
  refine Ev.congr (fun k => by rw [if_neg c1]) ?_
  by_cases c2 : mx s.f0 s.f1 ≥ (x.length : Int)
  · rw [decide_eq_true c2]
    exact hoff (fun h => by have := (mxB _ _ _).1 c2; have := h.2.1; have := h.2.2.2.1; omega)
  rw [decide_eq_false c2]
  have c1' : ¬ (s.f0 < 0 ∨ s.f1 < 0) := fun h => c1 ((mnB _ _).2 h)
  have c2' : ¬ (s.f0 ≥ (x.length : Int) ∨ s.f1 ≥ (x.length : Int)) := fun h => c2 ((mxB _ _ _).2 h)
  have i0 : 0 ≤ s.f0 := by omega
  have j0 : 0 ≤ s.f1 := by omega
  have i1 : s.f0 < (x.length : Int) := by omega
  have j1 : s.f1 < (x.length : Int) := by omega
  have r0 := rd_i64B hx s.f0 i0 i1
  have r1 := rd_i64B hx s.f1 j0 j1
  refine Ev.step (f := fun _ => some (!decide (rd x s.f1 > rd x s.f0 + s.f2))) (fun k => ?_) ?_
  · rw [bound_Holds.j0, if_neg Bool.false_ne_true, if_pos j0, if_pos j1, if_pos i0, if_pos i1, sum_eq r0.1 r0.2 hs.1 hs.2, Option.bind_some, above_eq r1.1 r1.2, Option.bind_some]
  · rw [show decide (holdsB x s) = !decide (rd x s.f1 > rd x s.f0 + s.f2) by
      rw [Bool.eq_iff_iff]
      simp only [Bool.not_eq_true', decide_eq_true_eq, decide_eq_false_iff_not]
      exact ⟨fun h => by have := h.2.2.2.2; omega, fun h => ⟨i0, i1, j0, j1, by omega⟩⟩]
    exact Ev.now _
open Classical in
theorem boundAll_ev (l : List S48) (x : List Int) (hx : ∀ v ∈ x, i64B v) (hs : ∀ s ∈ l, i64B s.f2) : Ev (fun k => bound_All.f k l x) (decide (∀ s ∈ l, holdsB x s)) := by
  have hK : ∃ K, ∀ k, K ≤ k → ∀ s ∈ l, bound_All_h k x s = some (decide (holdsB x s)) := by
    induction l with
    | nil => exact ⟨0, fun k _ s hs => by cases hs⟩
    | cons s r ih =>
      obtain ⟨K, hK⟩ := ih (fun t ht => hs t (List.mem_cons_of_mem _ ht))
      obtain ⟨M, hM⟩ := boundHolds_ev s x hx (hs s List.mem_cons_self)
      refine ⟨K + M, fun k hk t ht => ?_⟩
      rcases List.mem_cons.1 ht with e | e
      · rw [e]; exact hM k (by omega)
      · exact hK k (by omega) t e
  obtain ⟨K, hK⟩ := hK
  refine ⟨K, fun k hk => ?_⟩
  unfold bound_All.f
  have h := hK k hk
  have e1 : (l.all fun s => (bound_All_h k x s).isSome) = true := List.all_eq_true.2 fun s hs => by rw [h s hs]; rfl
  show (if (l.all fun s => (bound_All_h k x s).isSome) = true then some (l.all fun s => (bound_All_h k x s).getD false) else none) = _
  rw [if_pos e1]
  congr 1
  rw [Bool.eq_iff_iff, List.all_eq_true, decide_eq_true_eq]
  exact ⟨fun ha s hs => by have := ha s hs; rw [h s hs] at this; exact of_decide_eq_true this, fun ha s hs => by rw [h s hs]; exact decide_eq_true (ha s hs)⟩
end
/-! C17b -/
section
open Go.RowKit Go.Proofs.Ytacjlaiddnfpdaa.H Go.Proofs.YtacjlaiddnfpdaaW.PrintWords Go.Proofs.YtacjlaiddnfpdaaW.PrintLast Go.Proofs.YtacjlaiddnfpdaaW.PrintMore
theorem index_l0 (l : List Bool) (hn : l.length < 9000000000000000000) : ∀ (d i : Nat), l.length - i = d → i ≤ l.length → ∃ r : Int, Ev (fun k => slices_Index_bool_bool.l0 k l false (l.length : Int) (i : Int)) r ∧ (r ≥ 0 ↔ false ∈ l.drop i) := by
  intro d
  induction d with
  | zero =>
    intro i hd hi
    refine ⟨-1, Ev.step (f := fun _ => some (-1)) (fun k => by rw [slices_Index_bool_bool.l0, if_neg (by omega)]) (Ev.now _), ?_⟩
    rw [List.drop_of_length_le (by omega)]
    simp
  | succ d ih =>
    intro i hd hi
    have hlt : i < l.length := by omega
    have e1 : l.drop i = l[i] :: l.drop (i + 1) := List.drop_eq_getElem_cons hlt
    have e2 : rdOf false l (i : Int) = l[i] := by
      show l.getD _ _ = _
      rw [Int.toNat_natCast, List.getD_eq_getElem?_getD, List.getElem?_eq_getElem hlt]; rfl
    cases hv : l[i] with
    | false =>
      refine ⟨(i : Int), Ev.step (f := fun _ => some (i : Int)) (fun k => by rw [slices_Index_bool_bool.l0, if_pos (by omega), if_pos (by omega), if_pos (by omega), e2, hv, if_pos (show (false == false) = true from rfl)]) (Ev.now _), ?_⟩
      rw [e1, hv]
      exact ⟨fun _ => List.mem_cons_self, fun _ => by omega⟩
    | true =>
      obtain ⟨r, h1, h2⟩ := ih (i + 1) (by omega) (by omega)
      refine ⟨r, Ev.step (fun k => ?_) h1, ?_⟩
      · rw [slices_Index_bool_bool.l0, if_pos (by omega), if_pos (by omega), if_pos (by omega), e2, hv, if_neg (by decide), w64t i (by omega)]
      · rw [h2, e1, hv]; simp
theorem contains_ev (l : List Bool) (hn : l.length < 9000000000000000000) : Ev (fun k => slices_Contains_bool_bool.f k l false) (decide (false ∈ l)) := by
  unfold slices_Contains_bool_bool.f
  obtain ⟨r, h1, h2⟩ := index_l0 l hn l.length 0 rfl (Nat.zero_le _)
  rw [List.drop_zero] at h2
  refine Ev.bind (by unfold slices_Index_bool_bool.f; exact h1) ?_
  rw [show decide (false ∈ l) = decide (r ≥ 0) by rw [decide_eq_decide]; exact h2.symm]
  exact Ev.now _
theorem find_some {x : List Int} {held : List Bool} : ∀ {l : List S48} {t : Int}, cert_Offsets_find x held l = some t → ∃ e ∈ l, e.f1 = t ∧ cert_Offsets_one x held e = true
  | [], t, h => by simp [cert_Offsets_find] at h
  | e :: r, t, h => by
    unfold cert_Offsets_find at h
    by_cases c : cert_Offsets_one x held e = true
    · rw [if_pos c] at h
      exact ⟨e, List.mem_cons_self, Option.some.inj h, c⟩
    · rw [if_neg c] at h
      obtain ⟨e', h1, h2⟩ := find_some h
      exact ⟨e', List.mem_cons_of_mem _ h1, h2⟩
theorem find_none {x : List Int} {held : List Bool} : ∀ {l : List S48}, cert_Offsets_find x held l = none → ∀ e ∈ l, ¬ cert_Offsets_one x held e = true
  | [], _, e, he => by cases he
  | e :: r, h, e', he => by
    unfold cert_Offsets_find at h
    by_cases c : cert_Offsets_one x held e = true
    · rw [if_pos c] at h; cases h
    · rw [if_neg c] at h
      rcases List.mem_cons.1 he with h1 | h1
      · rw [h1]; exact c
      · exact find_none h e' h1
theorem wrapO (a w : Int) (h0 : -288230376151711744 ≤ a) (h1 : a ≤ 0) (w0 : -4503599627370496 ≤ w) (w1 : w ≤ 4503599627370496) : wrap64 (a + w) = a + w := by unfold wrap64; omega
def okX (x : List Int) : Prop := ∀ v ∈ x, -288230376151711744 ≤ v ∧ v ≤ 0
theorem okX_rd {x : List Int} (h : okX x) (a : Int) (h0 : 0 ≤ a) (h1 : a < (x.length : Int)) : -288230376151711744 ≤ rd x a ∧ rd x a ≤ 0 := by
  unfold rd
  rw [List.getD_eq_getElem?_getD, List.getElem?_eq_getElem (show a.toNat < x.length by omega)]
  exact h _ (List.getElem_mem _)
/-- What is known of those that are held. -/
structure HInv (x : List Int) (l : List S48) (n : Nat) (held : List Bool) : Prop where
  len : held.length = x.length
  zero : ∀ a, 0 ≤ a → a < (x.length : Int) → rd x a = 0 → held.getD a.toNat false = true
  low : ∀ a, 0 ≤ a → a < (x.length : Int) → held.getD a.toNat false = true → L (eds l) n a ≤ rd x a
theorem getD_setB (l : List Bool) (i j : Nat) (h : i < l.length) : (l.set i true).getD j false = if j = i then true else l.getD j false := by
  rw [List.getD_eq_getElem?_getD, List.getD_eq_getElem?_getD]
  by_cases c : j = i
  · subst c; rw [List.getElem?_set_self h, if_pos rfl]; rfl
  · rw [List.getElem?_set_ne (Ne.symm c), if_neg c]
theorem one_iff {x : List Int} {held : List Bool} {l : List S48} (hm : mayL (x.length : Int) l) (hx : okX x) {e : S48} (he : e ∈ l) : cert_Offsets_one x held e = true ↔ held.getD e.f0.toNat false = true ∧ held.getD e.f1.toNat false = false ∧ rd x e.f0 + e.f2 = rd x e.f1 := by
  have h := mayL_at hm he
  have h2 := okX_rd hx e.f0 h.1 h.2.1
  unfold cert_Offsets_one
  rw [wrapO _ _ h2.1 h2.2 h.2.2.2.2.1 h.2.2.2.2.2]
  simp only [Bool.and_eq_true, Bool.not_eq_true', beq_iff_eq]
theorem hold_ev {x : List Int} {l : List S48} (hm : mayL (x.length : Int) l) (hx : okX x) (hL : ∀ e ∈ l, L (eds l) x.length e.f1 ≤ L (eds l) x.length e.f0 + e.f2) : ∀ (d : Nat) (held : List Bool), held.count false ≤ d → HInv x l x.length held → ∃ r, Ev (fun k => cert_Offsets_hold l x k held) r ∧ HInv x l x.length r ∧ cert_Offsets_find x r l = none := by
  intro d
  induction d with
  | zero =>
    intro held hd hi
    cases hf : cert_Offsets_find x held l with
    | none => exact ⟨held, Ev.step (f := fun _ => some held) (fun k => by rw [cert_Offsets_hold, hf]) (Ev.now _), hi, hf⟩
    | some t =>
      exfalso
      obtain ⟨e, he, rfl, h1⟩ := find_some hf
      have h2 := ((one_iff hm hx he).1 h1).2.1
      have h := mayL_at hm he
      have hlt : e.f1.toNat < held.length := by rw [hi.len]; omega
      rw [List.getD_eq_getElem?_getD, List.getElem?_eq_getElem hlt] at h2
      have h3 : false ∈ held := by have := List.getElem_mem hlt; simp at h2; rw [h2] at this; exact this
      have := List.count_pos_iff.2 h3
      omega
  | succ d ih =>
    intro held hd hi
    cases hf : cert_Offsets_find x held l with
    | none => exact ⟨held, Ev.step (f := fun _ => some held) (fun k => by rw [cert_Offsets_hold, hf]) (Ev.now _), hi, hf⟩
    | some t =>
      obtain ⟨e, he, rfl, h1⟩ := find_some hf
      obtain ⟨g0, g1, g2⟩ := (one_iff hm hx he).1 h1
      have h := mayL_at hm he
      have hlt : e.f1.toNat < held.length := by rw [hi.len]; omega
      have hv : held[e.f1.toNat] = false := by
        rw [List.getD_eq_getElem?_getD, List.getElem?_eq_getElem hlt] at g1; simpa using g1
      have hcnt : (held.set e.f1.toNat true).count false ≤ d := by
        rw [List.count_set hlt, hv]
        have := List.count_pos_iff.2 (show false ∈ held from hv ▸ List.getElem_mem hlt)
        simp
        omega
      have hi2 : HInv x l x.length (held.set e.f1.toNat true) := by
        refine ⟨by rw [List.length_set]; exact hi.len, fun a h0 h1 h2 => ?_, fun a h0 h1 h2 => ?_⟩
        · rw [getD_setB _ _ _ hlt]
          split
          · rfl
          · exact hi.zero a h0 h1 h2
        · rw [getD_setB _ _ _ hlt] at h2
          by_cases c : a.toNat = e.f1.toNat
          · have : a = e.f1 := by omega
            rw [this, ← g2]
            have h3 := hi.low e.f0 h.1 h.2.1 g0
            have h4 := hL e he
            omega
          · rw [if_neg c] at h2; exact hi.low a h0 h1 h2
      obtain ⟨r, hr1, hr2⟩ := ih _ hcnt hi2
      exact ⟨r, Ev.step (fun k => by rw [cert_Offsets_hold, hf]) hr1, hr2⟩
/-- Offsets that are taken. -/
def takenP (n : Int) (l : List S48) (x : List Int) : Prop := mayL n l ∧ (∀ h, 0 ≤ h → h < n → L (eds l) n.toNat h = L (eds l) (n.toNat - 1) h) ∧ x = rowF n.toNat (L (eds l) n.toNat)
theorem meets_S {n : Int} {l : List S48} (hm : mayL n l) (hc : ∀ h, 0 ≤ h → h < n → L (eds l) n.toNat h = L (eds l) (n.toNat - 1) h) : ∀ s ∈ l, L (eds l) n.toNat s.f1 ≤ L (eds l) n.toNat s.f0 + s.f2 := fun s hs => L_meets hm.2 (fun h a b => hc h a (by have := hm.1; omega)) (ed s) (mem_eds hs)
theorem all_held {x : List Int} {l : List S48} {r : List Bool} (hm : mayL (x.length : Int) l) (hx : okX x) (hc : ∀ h, 0 ≤ h → h < (x.length : Int) → L (eds l) x.length h = L (eds l) (x.length - 1) h) (he : ∀ a, 0 ≤ a → a < (x.length : Int) → rd x a = L (eds l) x.length a) (hi : HInv x l x.length r) (hn : cert_Offsets_find x r l = none) : ∀ (k : Nat), k ≤ x.length → ∀ h, 0 ≤ h → h < (x.length : Int) → L (eds l) k h = L (eds l) x.length h → r.getD h.toNat false = true := by
  intro k
  induction k using Nat.strongRecOn with
  | _ k ih =>
    intro hk h h0 h1 hL
    rcases L_tight hm.2 (fun h a b => hc h a b) k hk h h0 h1 hL with h2 | ⟨e, hem, k', hk', e1, e2, e3, e4⟩
    · exact hi.zero h h0 h1 (by rw [he h h0 h1]; exact h2)
    · obtain ⟨s, hs, rfl⟩ := List.mem_map.1 hem
      have hat := mayL_at hm hs
      have hf : r.getD s.f0.toNat false = true := ih k' hk' (by omega) s.f0 hat.1 hat.2.1 e4
      cases hv : r.getD h.toNat false with
      | true => rfl
      | false =>
        refine absurd ((one_iff hm hx hs).2 ⟨hf, ?_, ?_⟩) (find_none hn s hs)
        · rw [show s.f1 = h from e1]; exact hv
        · rw [he _ hat.1 hat.2.1, he _ hat.2.2.1 hat.2.2.2.1, show s.f1 = h from e1]; exact e3
open Classical in
theorem certOffsets_ev (n : Int) (l : List S48) (x : List Int) (hl : l.length ≤ 1000000) (hx : ∀ v ∈ x, i64B v) (hs : ∀ s ∈ l, i64B s.f2) : Ev (fun k => cert_Offsets.f k n l x) (decide (takenP n l x)) := by
  have hno : ¬ takenP n l x → ∀ {g : Nat → Option Bool}, Ev g false → Ev g (decide (takenP n l x)) := fun h g hg => by rw [decide_eq_false h]; exact hg
  unfold cert_Offsets.f
  refine Ev.congr (fun k => by rw [relaxMay_eq, Option.bind_some]) ?_
  by_cases hm : mayL n l
  case neg =>
    exact Ev.congr (f := fun _ => some (decide (takenP n l x))) (fun k => by rw [decide_eq_false hm, if_neg Bool.false_ne_true, decide_eq_false (fun h : takenP n l x => hm h.1)]) (Ev.now _)
  refine Ev.congr (fun k => by rw [decide_eq_true hm, if_pos rfl]) ?_
  have h0 := hm.1
  have h32 := hm.2.n32
  by_cases hn : (x.length : Int) = n
  case neg =>
    refine hno (fun h => hn ?_) (Ev.congr (f := fun _ => some false) (fun k => by rw [if_neg hn]) (Ev.now _))
    rw [h.2.2, rowF_length]; omega
  subst hn
  refine Ev.congr (fun k => by rw [if_pos rfl]) ?_
  refine Ev.bind (boundAll_ev l x hx hs) ?_
  rw [Int.toNat_natCast] at h32
  have hrow : ∀ a, 0 ≤ a → a < (x.length : Int) → rd (rowF x.length (L (eds l) x.length)) a = L (eds l) x.length a := fun a a0 a1 => rowF_rd _ _ a a0 a1
  have htk : takenP (x.length : Int) l x → (∀ h, 0 ≤ h → h < (x.length : Int) → L (eds l) x.length h = L (eds l) (x.length - 1) h) ∧ ∀ a, 0 ≤ a → a < (x.length : Int) → rd x a = L (eds l) x.length a := fun h => by
    have h1 := h.2.1
    have h2 := h.2.2
    rw [Int.toNat_natCast] at h1 h2
    refine ⟨h1, fun a a0 a1 => ?_⟩
    have h3 := congrArg (fun y => rd y a) h2
    exact h3.trans (hrow a a0 a1)
  have hms : ∀ (hc : ∀ h, 0 ≤ h → h < (x.length : Int) → L (eds l) x.length h = L (eds l) (x.length - 1) h), ∀ s ∈ l, L (eds l) x.length s.f1 ≤ L (eds l) x.length s.f0 + s.f2 := fun hc s hs => by
    have := meets_S hm (by rw [Int.toNat_natCast]; exact hc) s hs
    rwa [Int.toNat_natCast] at this
  by_cases ha : ∀ s ∈ l, holdsB x s
  case neg =>
    refine hno (fun h => ha fun s hs => ?_) (Ev.congr (f := fun _ => some false) (fun k => by rw [decide_eq_false ha, if_neg Bool.false_ne_true]) (Ev.now _))
    have h1 := mayL_at hm hs
    obtain ⟨h2, h3⟩ := htk h
    have h4 := hms h2 s hs
    exact ⟨h1.1, h1.2.1, h1.2.2.1, h1.2.2.2.1, by rw [h3 _ h1.1 h1.2.1, h3 _ h1.2.2.1 h1.2.2.2.1]; exact h4⟩
  have hin : cert_Offsets_in (x.length : Int) l = true := List.all_eq_true.2 fun s hs => decide_eq_true (by have h1 := mayL_at hm hs; exact ⟨h1.1, h1.2.1, h1.2.2.1, h1.2.2.2.1⟩)
  refine Ev.congr (fun k => by rw [decide_eq_true ha, if_pos rfl, if_pos ⟨by omega, hl, hin⟩]) ?_
  by_cases hbad : x.any cert_Offsets_bad = true
  · refine hno (fun h => ?_) (Ev.congr (f := fun _ => some false) (fun k => by rw [if_pos hbad]) (Ev.now _))
    obtain ⟨v, hv, hb⟩ := List.any_eq_true.1 hbad
    obtain ⟨i, hi, rfl⟩ := List.getElem_of_mem hv
    have h3 := (htk h).2 (i : Int) (by omega) (by omega)
    have h4 : rd x (i : Int) = x[i] := by rw [rdt, List.getD_eq_getElem?_getD, List.getElem?_eq_getElem hi]; rfl
    have h5 := L_low hm.2 x.length (i : Int)
    have h6 := L_nonpos (eds l) x.length (i : Int)
    unfold cert_Offsets_bad at hb
    simp only [Bool.or_eq_true, decide_eq_true_eq] at hb
    omega
  refine Ev.congr (fun k => by rw [if_neg hbad]) ?_
  have hxx : okX x := fun v hv => by
    have h1 : ¬ cert_Offsets_bad v = true := fun h => hbad (List.any_eq_true.2 ⟨v, hv, h⟩)
    unfold cert_Offsets_bad at h1
    simp only [Bool.or_eq_true, decide_eq_true_eq, not_or] at h1
    omega
  have hc : ∀ h, 0 ≤ h → h < (x.length : Int) → L (eds l) x.length h = L (eds l) (x.length - 1) h := by
    have := conv_of hm (x := rd x) (fun s hs => (ha s hs).2.2.2.2)
    rwa [Int.toNat_natCast] at this
  have hup : ∀ a, 0 ≤ a → a < (x.length : Int) → rd x a ≤ L (eds l) x.length a := fun a a0 a1 =>
    L_greatest hm.2 (x := rd x) (fun e he => by obtain ⟨s, hs, rfl⟩ := List.mem_map.1 he; exact (ha s hs).2.2.2.2) (fun h b0 b1 => (okX_rd hxx h b0 (by rw [Int.toNat_natCast] at b1; exact b1)).2) x.length a a0 (by rw [Int.toNat_natCast]; exact a1)
  have hget : ∀ a, 0 ≤ a → a < (x.length : Int) → (x.map (· == 0)).getD a.toNat false = (rd x a == 0) := fun a a0 a1 => by
    unfold rd
    rw [List.getD_eq_getElem?_getD, List.getD_eq_getElem?_getD, List.getElem?_map, List.getElem?_eq_getElem (show a.toNat < x.length by omega)]; rfl
  have hi0 : HInv x l x.length (x.map (· == 0)) := ⟨by simp, fun a a0 a1 h => by rw [hget a a0 a1, h]; rfl, fun a a0 a1 h => by
    rw [hget a a0 a1] at h
    rw [beq_iff_eq.1 h]
    exact L_nonpos _ _ _⟩
  obtain ⟨r, hr, hi, hf⟩ := hold_ev hm hxx (hms hc) _ _ (Nat.le_refl _) hi0
  refine Ev.bind hr (Ev.bind (contains_ev r (by rw [hi.len]; omega)) ?_)
  have heq : takenP (x.length : Int) l x ↔ false ∉ r := by
    constructor
    · intro h hmem
      obtain ⟨i, hil, hiv⟩ := List.getElem_of_mem hmem
      have := all_held hm hxx hc (htk h).2 hi hf x.length (Nat.le_refl _) (i : Int) (by omega) (by rw [← hi.len]; omega) rfl
      rw [Int.toNat_natCast, List.getD_eq_getElem?_getD, List.getElem?_eq_getElem hil] at this
      simp [hiv] at this
    · intro h
      refine ⟨hm, by rw [Int.toNat_natCast]; exact hc, ?_⟩
      rw [Int.toNat_natCast]
      apply List.ext_getElem
      · rw [rowF_length]
      · intro i h1 h2
        have e1 : rd x (i : Int) = x[i] := by rw [rdt, List.getD_eq_getElem?_getD, List.getElem?_eq_getElem h1]; rfl
        have e2 := hrow (i : Int) (by omega) (by omega)
        rw [rdt, List.getD_eq_getElem?_getD, List.getElem?_eq_getElem h2] at e2
        have e3 : r.getD (i : Int).toNat false = true := by
          cases hv : r.getD (i : Int).toNat false with
          | true => rfl
          | false =>
            rw [Int.toNat_natCast, List.getD_eq_getElem?_getD, List.getElem?_eq_getElem (show i < r.length by rw [hi.len]; exact h1)] at hv
            exact absurd (by have := List.getElem_mem (show i < r.length by rw [hi.len]; exact h1); simp at hv; rw [hv] at this; exact this) h
        have e4 := hi.low (i : Int) (by omega) (by omega) e3
        have e5 := hup (i : Int) (by omega) (by omega)
        rw [← e1]
        exact (show rd x (i : Int) = L (eds l) x.length (i : Int) by omega).trans e2.symm
  refine Ev.congr (f := fun _ => some (decide (takenP (x.length : Int) l x))) (fun k => ?_) (Ev.now _)
  congr 1
  rw [Bool.eq_iff_iff]
  simp only [Bool.not_eq_true', decide_eq_false_iff_not, decide_eq_true_eq]
  exact heq.symm
end
/-! C17c -/
section
open Go.RowKit Go.Proofs.Ytacjlaiddnfpdaa.H Go.Proofs.YtacjlaiddnfpdaaW.PrintWords Go.Proofs.YtacjlaiddnfpdaaW.PrintLast Go.Proofs.YtacjlaiddnfpdaaW.PrintMore
def swE (x : List Int) (held : List Bool) (e : S48) : List Bool := if held.getD e.f0.toNat false = true ∧ rd x e.f0 + e.f2 = rd x e.f1 then held.set e.f1.toNat true else held
def sweep (x : List Int) (l : List S48) (held : List Bool) : List Bool := l.foldl (swE x) held
def sw (x : List Int) (l : List S48) (held : List Bool) : Nat → List Bool
  | 0 => held
  | k + 1 => sweep x l (sw x l held k)
theorem swE_len (x : List Int) (held : List Bool) (e : S48) : (swE x held e).length = held.length := by
  unfold swE; split
  · rw [List.length_set]
  · rfl
theorem sweep_ind {x : List Int} {P : List Bool → Prop} : ∀ (l : List S48), (∀ held e, e ∈ l → P held → P (swE x held e)) → ∀ held, P held → P (sweep x l held)
  | [], _, held, h => h
  | e :: r, hP, held, h => sweep_ind r (fun held' e' he' h' => hP held' e' (List.mem_cons_of_mem _ he') h') _ (hP held e List.mem_cons_self h)
theorem swE_mono {x : List Int} {held : List Bool} {e : S48} (hlt : e.f1.toNat < held.length) {a : Nat} (h : held.getD a false = true) : (swE x held e).getD a false = true := by
  unfold swE; split
  · rw [getD_setB _ _ _ hlt]; split
    · rfl
    · exact h
  · exact h
theorem sweep_keep {x : List Int} {l : List S48} (hm : mayL (x.length : Int) l) : ∀ (r : List S48), (∀ e ∈ r, e ∈ l) → ∀ held : List Bool, held.length = x.length → (sweep x r held).length = x.length ∧ ∀ a : Nat, held.getD a false = true → (sweep x r held).getD a false = true := by
  intro r hr held hl
  refine sweep_ind (P := fun h => h.length = x.length ∧ ∀ a : Nat, held.getD a false = true → h.getD a false = true) r (fun h e he hh => ⟨by rw [swE_len]; exact hh.1, fun a ha => ?_⟩) held ⟨hl, fun a h => h⟩
  have h1 := mayL_at hm (hr e he)
  exact swE_mono (by rw [hh.1]; omega) (hh.2 a ha)
theorem sweep_step {x : List Int} {l : List S48} (hm : mayL (x.length : Int) l) {held : List Bool} (hl : held.length = x.length) {e : S48} (he : e ∈ l) (h0 : held.getD e.f0.toNat false = true) (h1 : rd x e.f0 + e.f2 = rd x e.f1) : (sweep x l held).getD e.f1.toNat false = true := by
  obtain ⟨a, b, rfl⟩ := List.append_of_mem he
  have hat := mayL_at hm he
  obtain ⟨g1, g2⟩ := sweep_keep hm a (fun s hs => List.mem_append_left _ hs) held hl
  have e1 : sweep x (a ++ e :: b) held = sweep x b (swE x (sweep x a held) e) := by unfold sweep; rw [List.foldl_append, List.foldl_cons]
  rw [e1]
  refine (sweep_keep hm b (fun s hs => List.mem_append_right _ (List.mem_cons_of_mem _ hs)) _ (by rw [swE_len]; exact g1)).2 _ ?_
  unfold swE
  rw [if_pos ⟨g2 _ h0, h1⟩, getD_setB _ _ _ (by rw [g1]; omega), if_pos rfl]
theorem sw_keep {x : List Int} {l : List S48} (hm : mayL (x.length : Int) l) {held : List Bool} (hl : held.length = x.length) : ∀ k, (sw x l held k).length = x.length ∧ ∀ a : Nat, ∀ j, j ≤ k → (sw x l held j).getD a false = true → (sw x l held k).getD a false = true
  | 0 => ⟨hl, fun a j hj h => by
      have e : j = 0 := by omega
      rw [e] at h; exact h⟩
  | k + 1 => by
    obtain ⟨h1, h2⟩ := sw_keep hm hl k
    obtain ⟨g1, g2⟩ := sweep_keep hm l (fun e he => he) _ h1
    refine ⟨g1, fun a j hj h => ?_⟩
    rcases Nat.lt_or_ge j (k + 1) with h3 | h3
    · exact g2 a (h2 a j (by omega) h)
    · obtain rfl : j = k + 1 := by omega
      exact h
theorem swE_inv {x : List Int} {l : List S48} (hm : mayL (x.length : Int) l) (hL : ∀ e ∈ l, L (eds l) x.length e.f1 ≤ L (eds l) x.length e.f0 + e.f2) {held : List Bool} (hi : HInv x l x.length held) {e : S48} (he : e ∈ l) : HInv x l x.length (swE x held e) := by
  have h := mayL_at hm he
  have hlt : e.f1.toNat < held.length := by rw [hi.len]; omega
  refine ⟨by rw [swE_len]; exact hi.len, fun a h0 h1 h2 => swE_mono hlt (hi.zero a h0 h1 h2), fun a h0 h1 h2 => ?_⟩
  unfold swE at h2
  split at h2
  · rename_i hc
    rw [getD_setB _ _ _ hlt] at h2
    by_cases c : a.toNat = e.f1.toNat
    · have : a = e.f1 := by omega
      rw [this, ← hc.2]
      have h3 := hi.low e.f0 h.1 h.2.1 hc.1
      have h4 := hL e he
      omega
    · rw [if_neg c] at h2; exact hi.low a h0 h1 h2
  · exact hi.low a h0 h1 h2
theorem sw_inv {x : List Int} {l : List S48} (hm : mayL (x.length : Int) l) (hL : ∀ e ∈ l, L (eds l) x.length e.f1 ≤ L (eds l) x.length e.f0 + e.f2) {held : List Bool} (hi : HInv x l x.length held) : ∀ k, HInv x l x.length (sw x l held k)
  | 0 => hi
  | k + 1 => sweep_ind (P := HInv x l x.length) l (fun h e he hh => swE_inv hm hL hh he) _ (sw_inv hm hL hi k)
theorem sw_all {x : List Int} {l : List S48} (hm : mayL (x.length : Int) l) (hc : ∀ h, 0 ≤ h → h < (x.length : Int) → L (eds l) x.length h = L (eds l) (x.length - 1) h) (he : ∀ a, 0 ≤ a → a < (x.length : Int) → rd x a = L (eds l) x.length a) {held : List Bool} (hi : HInv x l x.length held) : ∀ (k : Nat), k ≤ x.length → ∀ h, 0 ≤ h → h < (x.length : Int) → L (eds l) k h = L (eds l) x.length h → (sw x l held k).getD h.toNat false = true := by
  intro k
  induction k using Nat.strongRecOn with
  | _ k ih =>
    intro hk h h0 h1 hL
    rcases L_tight hm.2 (fun h a b => hc h a b) k hk h h0 h1 hL with h2 | ⟨e, hem, k', hk', e1, e2, e3, e4⟩
    · exact (sw_keep hm hi.len k).2 _ 0 (Nat.zero_le _) (hi.zero h h0 h1 (by rw [he h h0 h1]; exact h2))
    · obtain ⟨s, hs, rfl⟩ := List.mem_map.1 hem
      have hat := mayL_at hm hs
      have hf := ih k' hk' (by omega) s.f0 hat.1 hat.2.1 e4
      have h3 := sweep_step hm (sw_keep hm hi.len k').1 hs hf (by rw [he _ hat.1 hat.2.1, he _ hat.2.2.1 hat.2.2.2.1, show s.f1 = h from e1]; exact e3)
      rw [show s.f1 = h from e1] at h3
      exact (sw_keep hm hi.len k).2 _ (k' + 1) hk' h3
def badX (v : Int) : Prop := v > 0 ∨ v < -288230376151711744
theorem ro_l0_ok {n : Int} {l : List S48} {x : List Int} (hn : (x.length : Int) = n) (hl : x.length < 1000000000) (r : Bool) (hr : Ev (fun k => merkhetref17_Offsets.l1 k n l x (x.map (· == 0)) 0) r) : ∀ (d i : Nat), x.length - i = d → i ≤ x.length → (∀ v ∈ x.drop i, ¬ badX v) → Ev (fun k => merkhetref17_Offsets.l0 k n l x ((x.take i).map (· == 0)) (i : Int)) r := by
  intro d
  induction d with
  | zero =>
    intro i hd hi hb
    obtain rfl : i = x.length := by omega
    refine ev_step (fun k => by rw [merkhetref17_Offsets.l0, if_neg (by omega)]) ?_
    rw [List.take_length]
    exact hr
  | succ d ih =>
    intro i hd hi hb
    have hlt : i < x.length := by omega
    have e1 : x.drop i = x[i] :: x.drop (i + 1) := List.drop_eq_getElem_cons hlt
    have e2 : rd x (i : Int) = x[i] := by rw [rdt, List.getD_eq_getElem?_getD, List.getElem?_eq_getElem hlt]; rfl
    have hv : ¬ badX x[i] := hb _ (by rw [e1]; exact List.mem_cons_self)
    unfold badX at hv
    refine ev_step (fun k => ?_) (ih (i + 1) (by omega) (by omega) (fun v hv => hb v (by rw [e1]; exact List.mem_cons_of_mem _ hv)))
    rw [merkhetref17_Offsets.l0, if_pos (by omega), if_pos (by omega), if_pos (by omega), e2, if_neg (by omega), if_neg (by omega), if_pos (by rw [List.length_map, List.length_take]; omega), w64t i (by omega), List.take_succ_eq_append_getElem hlt, List.map_append]
    rfl
theorem ro_l0_bad {n : Int} {l : List S48} {x : List Int} (hn : (x.length : Int) = n) (hl : x.length < 1000000000) : ∀ (d i : Nat), x.length - i = d → i ≤ x.length → (∃ v ∈ x.drop i, badX v) → Ev (fun k => merkhetref17_Offsets.l0 k n l x ((x.take i).map (· == 0)) (i : Int)) false := by
  intro d
  induction d with
  | zero =>
    intro i hd hi hb
    obtain ⟨v, hv, _⟩ := hb
    rw [List.drop_of_length_le (by omega)] at hv
    cases hv
  | succ d ih =>
    intro i hd hi hb
    have hlt : i < x.length := by omega
    have e1 : x.drop i = x[i] :: x.drop (i + 1) := List.drop_eq_getElem_cons hlt
    have e2 : rd x (i : Int) = x[i] := by rw [rdt, List.getD_eq_getElem?_getD, List.getElem?_eq_getElem hlt]; rfl
    by_cases c1 : x[i] > 0
    · exact ev_step (f := fun _ => some false) (fun k => by rw [merkhetref17_Offsets.l0, if_pos (by omega), if_pos (by omega), if_pos (by omega), e2, if_pos c1]) (Ev.now _)
    by_cases c2 : x[i] < -288230376151711744
    · exact ev_step (f := fun _ => some false) (fun k => by rw [merkhetref17_Offsets.l0, if_pos (by omega), if_pos (by omega), if_pos (by omega), e2, if_neg c1, if_pos c2]) (Ev.now _)
    obtain ⟨v, hv, hb⟩ := hb
    rw [e1] at hv
    have hv2 : v ∈ x.drop (i + 1) := by
      rcases List.mem_cons.1 hv with rfl | h
      · unfold badX at hb; omega
      · exact h
    refine ev_step (fun k => ?_) (ih (i + 1) (by omega) (by omega) ⟨v, hv2, hb⟩)
    rw [merkhetref17_Offsets.l0, if_pos (by omega), if_pos (by omega), if_pos (by omega), e2, if_neg c1, if_neg c2, if_pos (by rw [List.length_map, List.length_take]; omega), w64t i (by omega), List.take_succ_eq_append_getElem hlt, List.map_append]
    rfl
theorem ro_l2 {n : Int} {l : List S48} {x : List Int} (hm : mayL (x.length : Int) l) (hx : okX x) (hl : l.length < 1000000000) (i : Nat) (hi : i < 1000000000) (r : Bool) (fin : List Bool) (hr : Ev (fun k => merkhetref17_Offsets.l1 k n l x fin ((i + 1 : Nat) : Int)) r) : ∀ (d j : Nat), l.length - j = d → j ≤ l.length → ∀ held : List Bool, held.length = x.length → sweep x (l.drop j) held = fin → Ev (fun k => merkhetref17_Offsets.l2 k n l x held (i : Int) (j : Int)) r := by
  intro d
  induction d with
  | zero =>
    intro j hd hj held hh hs
    rw [List.drop_of_length_le (by omega)] at hs
    subst hs
    exact ev_step (fun k => by rw [merkhetref17_Offsets.l2, if_neg (by omega), w64t i (by omega)]; rfl) hr
  | succ d ih =>
    intro j hd hj held hh hs
    have hlt : j < l.length := by omega
    have e1 : l.drop j = l[j] :: l.drop (j + 1) := List.drop_eq_getElem_cons hlt
    have e2 : rd_T48 l (j : Int) = l[j] := by show l.getD _ _ = _; rw [Int.toNat_natCast, List.getD_eq_getElem?_getD, List.getElem?_eq_getElem hlt]; rfl
    have h := mayL_at hm (List.getElem_mem hlt)
    have hxx := okX_rd hx l[j].f0 h.1 h.2.1
    rw [e1] at hs
    have hs' : sweep x (l.drop (j + 1)) (swE x held l[j]) = fin := hs
    have e3 : rdOf false held l[j].f0 = held.getD l[j].f0.toNat false := rfl
    by_cases c1 : held.getD l[j].f0.toNat false = true
    · by_cases c2 : rd x l[j].f0 + l[j].f2 = rd x l[j].f1
      · unfold swE at hs'
        rw [if_pos ⟨c1, c2⟩] at hs'
        refine ev_step (fun k => ?_) (ih (j + 1) (by omega) (by omega) _ (by rw [List.length_set]; exact hh) hs')
        rw [merkhetref17_Offsets.l2, if_pos (by omega), if_pos (by omega), e2, if_pos h.1, if_pos (by omega), e3, if_pos c1, if_pos h.2.1, if_pos h.2.2.1, if_pos h.2.2.2.1, wrapO _ _ hxx.1 hxx.2 h.2.2.2.2.1 h.2.2.2.2.2, if_pos c2, if_pos (by omega), w64t j (by omega)]
      · unfold swE at hs'
        rw [if_neg (fun hh => c2 hh.2)] at hs'
        refine ev_step (fun k => ?_) (ih (j + 1) (by omega) (by omega) _ hh hs')
        rw [merkhetref17_Offsets.l2, if_pos (by omega), if_pos (by omega), e2, if_pos h.1, if_pos (by omega), e3, if_pos c1, if_pos h.2.1, if_pos h.2.2.1, if_pos h.2.2.2.1, wrapO _ _ hxx.1 hxx.2 h.2.2.2.2.1 h.2.2.2.2.2, if_neg c2, w64t j (by omega)]
    · unfold swE at hs'
      rw [if_neg (fun hh => c1 hh.1)] at hs'
      refine ev_step (fun k => ?_) (ih (j + 1) (by omega) (by omega) _ hh hs')
      rw [merkhetref17_Offsets.l2, if_pos (by omega), if_pos (by omega), e2, if_pos h.1, if_pos (by omega), e3, if_neg c1, w64t j (by omega)]
theorem ro_l1 {l : List S48} {x : List Int} (hm : mayL (x.length : Int) l) (hx : okX x) (hl : l.length < 1000000000) (hxl : x.length < 1000000000) (held : List Bool) (hh : held.length = x.length) (r : Bool) (hr : Ev (fun k => merkhetref17_Offsets.l3 k (x.length : Int) (sw x l held x.length) 0) r) : ∀ (d i : Nat), x.length - i = d → i ≤ x.length → Ev (fun k => merkhetref17_Offsets.l1 k (x.length : Int) l x (sw x l held i) (i : Int)) r := by
  intro d
  induction d with
  | zero =>
    intro i hd hi
    obtain rfl : i = x.length := by omega
    exact ev_step (fun k => by rw [merkhetref17_Offsets.l1, if_neg (by omega)]) hr
  | succ d ih =>
    intro i hd hi
    refine ev_step (f := fun k => merkhetref17_Offsets.l2 k (x.length : Int) l x (sw x l held i) (i : Int) ((0 : Nat) : Int)) (fun k => by rw [merkhetref17_Offsets.l1, if_pos (by omega)]; rfl) ?_
    exact ro_l2 hm hx hl i (by omega) r (sw x l held (i + 1)) (ih (i + 1) (by omega) (by omega)) l.length 0 rfl (Nat.zero_le _) _ (sw_keep hm hh i).1 (by rw [List.drop_zero]; rfl)
theorem ro_l3 {n : Nat} (held : List Bool) (hh : held.length = n) (hn : n < 1000000000) : ∀ (d i : Nat), n - i = d → i ≤ n → Ev (fun k => merkhetref17_Offsets.l3 k (n : Int) held (i : Int)) (decide (false ∉ held.drop i)) := by
  intro d
  induction d with
  | zero =>
    intro i hd hi
    rw [List.drop_of_length_le (by omega)]
    exact ev_step (f := fun _ => some true) (fun k => by rw [merkhetref17_Offsets.l3, if_neg (by omega)]) (Ev.now _)
  | succ d ih =>
    intro i hd hi
    have hlt : i < held.length := by omega
    have e1 : held.drop i = held[i] :: held.drop (i + 1) := List.drop_eq_getElem_cons hlt
    have e2 : rdOf false held (i : Int) = held[i] := by
      show held.getD _ _ = _
      rw [Int.toNat_natCast, List.getD_eq_getElem?_getD, List.getElem?_eq_getElem hlt]; rfl
    cases hv : held[i] with
    | true =>
      refine ev_eq (ev_step (fun k => ?_) (ih (i + 1) (by omega) (by omega))) ?_
      · rw [merkhetref17_Offsets.l3, if_pos (by omega), if_pos (by omega), if_pos (by omega), e2, hv, if_pos rfl, w64t i (by omega)]
      · rw [decide_eq_decide, e1, hv]; simp
    | false =>
      refine ev_eq (ev_step (f := fun _ => some false) (fun k => by rw [merkhetref17_Offsets.l3, if_pos (by omega), if_pos (by omega), if_pos (by omega), e2, hv, if_neg Bool.false_ne_true]) (Ev.now _)) ?_
      rw [e1, hv]; simp
open Classical in
theorem refOffsets_ev (n : Int) (l : List S48) (x : List Int) (hl : l.length ≤ 1000000) (hx : ∀ v ∈ x, i64B v) (hs : ∀ s ∈ l, i64B s.f2) : Ev (fun k => merkhetref17_Offsets.f k n l x) (decide (takenP n l x)) := by
  have hoff : ¬ takenP n l x → Ev (fun k => merkhetref17_Offsets.j0 k n l x true) (decide (takenP n l x)) := fun h => by
    rw [decide_eq_false h]
    exact ev_step (f := fun _ => some false) (fun k => by rw [merkhetref17_Offsets.j0, if_pos rfl]) (Ev.now _)
  unfold merkhetref17_Offsets.f
  refine Ev.bind (refMay15_ev n l (by omega)) ?_
  by_cases hm : mayL n l
  case neg => exact Ev.congr (fun k => by rw [decide_eq_false hm, if_neg Bool.false_ne_true]) (hoff (fun h => hm h.1))
  refine Ev.congr (fun k => by rw [decide_eq_true hm, if_pos rfl]) ?_
  have h0 := hm.1
  have h32 := hm.2.n32
  by_cases hn : (x.length : Int) = n
  case neg =>
    refine Ev.congr (fun k => by rw [if_neg hn]) (hoff (fun h => hn ?_))
    rw [h.2.2, rowF_length]; omega
  subst hn
  rw [Int.toNat_natCast] at h32
  refine Ev.congr (fun k => by rw [if_pos rfl]) ?_
  refine Ev.bind (all_ev l x hx hs (by omega)) ?_
  have hrow : ∀ a, 0 ≤ a → a < (x.length : Int) → rd (rowF x.length (L (eds l) x.length)) a = L (eds l) x.length a := fun a a0 a1 => rowF_rd _ _ a a0 a1
  have htk : takenP (x.length : Int) l x → (∀ h, 0 ≤ h → h < (x.length : Int) → L (eds l) x.length h = L (eds l) (x.length - 1) h) ∧ ∀ a, 0 ≤ a → a < (x.length : Int) → rd x a = L (eds l) x.length a := fun h => by
    have h1 := h.2.1
    have h2 := h.2.2
    rw [Int.toNat_natCast] at h1 h2
    refine ⟨h1, fun a a0 a1 => ?_⟩
    have h3 := congrArg (fun y => rd y a) h2
    exact h3.trans (hrow a a0 a1)
  have hms : ∀ (hc : ∀ h, 0 ≤ h → h < (x.length : Int) → L (eds l) x.length h = L (eds l) (x.length - 1) h), ∀ s ∈ l, L (eds l) x.length s.f1 ≤ L (eds l) x.length s.f0 + s.f2 := fun hc s hs => by
    have := meets_S hm (by rw [Int.toNat_natCast]; exact hc) s hs
    rwa [Int.toNat_natCast] at this
  by_cases ha : ∀ s ∈ l, holdsS x s
  case neg =>
    rw [decide_eq_false ha]
    refine hoff (fun h => ha fun s hs => ?_)
    have h1 := mayL_at hm hs
    obtain ⟨h2, h3⟩ := htk h
    have h4 := hms h2 s hs
    exact ⟨h1.1, h1.2.1, h1.2.2.1, h1.2.2.2.1, by rw [h3 _ h1.1 h1.2.1, h3 _ h1.2.2.1 h1.2.2.2.1]; exact h4⟩
  rw [decide_eq_true ha]
  refine ev_step (f := fun k => merkhetref17_Offsets.l0 k (x.length : Int) l x ((x.take 0).map (· == 0)) ((0 : Nat) : Int)) (fun k => by rw [Bool.not_true, merkhetref17_Offsets.j0, if_neg Bool.false_ne_true]; rfl) ?_
  by_cases hbad : ∃ v ∈ x, badX v
  · refine ev_eq (ro_l0_bad rfl (by omega) x.length 0 rfl (Nat.zero_le _) (by rw [List.drop_zero]; exact hbad)) ?_
    rw [decide_eq_false (fun h : takenP (x.length : Int) l x => ?_)]
    obtain ⟨v, hv, hb⟩ := hbad
    obtain ⟨i, hi, rfl⟩ := List.getElem_of_mem hv
    have h3 := (htk h).2 (i : Int) (by omega) (by omega)
    have h4 : rd x (i : Int) = x[i] := by rw [rdt, List.getD_eq_getElem?_getD, List.getElem?_eq_getElem hi]; rfl
    have h5 := L_low hm.2 x.length (i : Int)
    have h6 := L_nonpos (eds l) x.length (i : Int)
    unfold badX at hb
    omega
  have hxx : okX x := fun v hv => by
    have h1 : ¬ badX v := fun h => hbad ⟨v, hv, h⟩
    unfold badX at h1
    omega
  have hc : ∀ h, 0 ≤ h → h < (x.length : Int) → L (eds l) x.length h = L (eds l) (x.length - 1) h := by
    have := conv_of hm (x := rd x) (fun s hs => (ha s hs).2.2.2.2)
    rwa [Int.toNat_natCast] at this
  have hup : ∀ a, 0 ≤ a → a < (x.length : Int) → rd x a ≤ L (eds l) x.length a := fun a a0 a1 =>
    L_greatest hm.2 (x := rd x) (fun e he => by obtain ⟨s, hs, rfl⟩ := List.mem_map.1 he; exact (ha s hs).2.2.2.2) (fun h b0 b1 => (okX_rd hxx h b0 (by rw [Int.toNat_natCast] at b1; exact b1)).2) x.length a a0 (by rw [Int.toNat_natCast]; exact a1)
  have hget : ∀ a, 0 ≤ a → a < (x.length : Int) → (x.map (· == 0)).getD a.toNat false = (rd x a == 0) := fun a a0 a1 => by
    unfold rd
    rw [List.getD_eq_getElem?_getD, List.getD_eq_getElem?_getD, List.getElem?_map, List.getElem?_eq_getElem (show a.toNat < x.length by omega)]; rfl
  have hi0 : HInv x l x.length (x.map (· == 0)) := ⟨by simp, fun a a0 a1 h => by rw [hget a a0 a1, h]; rfl, fun a a0 a1 h => by
    rw [hget a a0 a1] at h
    rw [beq_iff_eq.1 h]
    exact L_nonpos _ _ _⟩
  have hi := sw_inv hm (hms hc) hi0 x.length
  refine ro_l0_ok rfl (by omega) _ ?_ x.length 0 rfl (Nat.zero_le _) (fun v hv hb => hbad ⟨v, by rw [List.drop_zero] at hv; exact hv, hb⟩)
  refine ro_l1 hm hxx (by omega) (by omega) (x.map (· == 0)) (by simp) _ ?_ x.length 0 rfl (Nat.zero_le _)
  refine ev_eq (ro_l3 (sw x l (x.map (· == 0)) x.length) hi.len (by omega) x.length 0 rfl (Nat.zero_le _)) ?_
  rw [List.drop_zero, decide_eq_decide]
  constructor
  · intro h
    refine ⟨hm, by rw [Int.toNat_natCast]; exact hc, ?_⟩
    rw [Int.toNat_natCast]
    apply List.ext_getElem
    · rw [rowF_length]
    · intro i h1 h2
      have e1 : rd x (i : Int) = x[i] := by rw [rdt, List.getD_eq_getElem?_getD, List.getElem?_eq_getElem h1]; rfl
      have e2 := hrow (i : Int) (by omega) (by omega)
      rw [rdt, List.getD_eq_getElem?_getD, List.getElem?_eq_getElem h2] at e2
      have e3 : (sw x l (x.map (· == 0)) x.length).getD (i : Int).toNat false = true := by
        have hlt : i < (sw x l (x.map (· == 0)) x.length).length := by rw [hi.len]; exact h1
        rw [Int.toNat_natCast, List.getD_eq_getElem?_getD, List.getElem?_eq_getElem hlt]
        cases hv : (sw x l (x.map (· == 0)) x.length)[i] with
        | true => rfl
        | false => exact absurd (hv ▸ List.getElem_mem hlt) h
      have e4 := hi.low (i : Int) (by omega) (by omega) e3
      have e5 := hup (i : Int) (by omega) (by omega)
      rw [← e1]
      exact (show rd x (i : Int) = L (eds l) x.length (i : Int) by omega).trans e2.symm
  · intro h hmem
    obtain ⟨i, hil, hiv⟩ := List.getElem_of_mem hmem
    have := sw_all hm hc (htk h).2 hi0 x.length (Nat.le_refl _) (i : Int) (by omega) (by rw [← hi.len]; omega) rfl
    rw [Int.toNat_natCast, List.getD_eq_getElem?_getD, List.getElem?_eq_getElem hil] at this
    simp [hiv] at this
end
/-! C17d -/
section
open Go.RowKit Go.Proofs.Ytacjlaiddnfpdaa.H Go.Proofs.YtacjlaiddnfpdaaW.PrintWords Go.Proofs.YtacjlaiddnfpdaaW.PrintLast Go.Proofs.YtacjlaiddnfpdaaW.PrintMore
def hasE (l : List S48) (x : S48) : Bool := l.any fun e => merkhetref17_Chain_eq e x
theorem hasE_some {l : List S48} {x : S48} (h : hasE l x = true) : ∃ e ∈ l, e.f0 = x.f0 := by
  obtain ⟨e, he, hx⟩ := List.any_eq_true.1 h
  unfold merkhetref17_Chain_eq at hx
  rw [Bool.and_eq_true] at hx
  exact ⟨e, he, beq_iff_eq.1 hx.1⟩
theorem eqE_comm (x e : S48) : (x.f0 == e.f0 && (x.f1 == e.f1 && (x.f2 == e.f2 && ((x.f3.f0 == e.f3.f0 && (x.f3.f1 == e.f3.f1)) && (x.f4 == e.f4))))) = merkhetref17_Chain_eq e x := by
  unfold merkhetref17_Chain_eq
  rw [BEq.comm (a := x.f0), BEq.comm (a := x.f1), BEq.comm (a := x.f2), BEq.comm (a := x.f3.f0), BEq.comm (a := x.f3.f1), BEq.comm (a := x.f4)]
theorem rdE (l : List S48) (j : Nat) (hlt : j < l.length) : rd_T48 l (j : Int) = l[j] := by show l.getD _ _ = _; rw [Int.toNat_natCast, List.getD_eq_getElem?_getD, List.getElem?_eq_getElem hlt]; rfl
theorem indexE_l0 (l : List S48) (x : S48) (hl : l.length < 1000000000) : ∀ (d i : Nat), i + d = l.length → ∃ r : Int, Ev (fun k => api_Edge_52.l0 k l (l.length : Int) (i : Int) x.f0 x.f1 x.f2 x.f3.f0 x.f3.f1 x.f4) r ∧ decide (r ≥ 0) = hasE (l.drop i) x := by
  intro d
  induction d with
  | zero =>
    intro i hi
    refine ⟨-1, Ev.step (f := fun _ => some (-1)) (fun k => by rw [api_Edge_52.l0, if_neg (by omega)]) (Ev.now _), ?_⟩
    rw [List.drop_of_length_le (by omega)]
    rfl
  | succ d ih =>
    intro i hi
    have hlt : i < l.length := by omega
    have e2 := rdE l i hlt
    have e3 := eqE_comm x l[i]
    have e4 : hasE (l.drop i) x = (merkhetref17_Chain_eq l[i] x || hasE (l.drop (i + 1)) x) := by rw [List.drop_eq_getElem_cons hlt]; rfl
    cases c : merkhetref17_Chain_eq l[i] x with
    | true =>
      rw [c] at e3
      refine ⟨(i : Int), Ev.step (f := fun _ => some (i : Int)) (fun k => by rw [api_Edge_52.l0, if_pos (by omega), if_pos (by omega), if_pos (by omega), e2, if_pos e3]) (Ev.now _), ?_⟩
      rw [e4, c, Bool.true_or]
      exact decide_eq_true (by omega)
    | false =>
      rw [c] at e3
      obtain ⟨r, h1, h2⟩ := ih (i + 1) (by omega)
      refine ⟨r, Ev.step (fun k => by rw [api_Edge_52.l0, if_pos (by omega), if_pos (by omega), if_pos (by omega), e2, if_neg (by rw [e3]; decide), w64t i (by omega)]) h1, ?_⟩
      rw [e4, c, Bool.false_or, h2]
theorem has_ev (l : List S48) (x : S48) (hl : l.length < 1000000000) : Ev (fun k => api_Edge_37.f k l x.f0 x.f1 x.f2 x.f3.f0 x.f3.f1 x.f4) (hasE l x) := by
  obtain ⟨r, h1, h2⟩ := indexE_l0 l x hl l.length 0 (by omega)
  rw [List.drop_zero] at h2
  unfold api_Edge_37.f
  refine Ev.bind (show Ev (fun k => api_Edge_52.f k l x.f0 x.f1 x.f2 x.f3.f0 x.f3.f1 x.f4) r from h1) ?_
  rw [← h2]
  exact Ev.now _
theorem nx_eq (c : List S48) (i : Nat) (hi : i < c.length) : rd_T48 c (Int.tmod ((i + 1 : Nat) : Int) (c.length : Int)) = merkhetref17_Chain_nx c i := by
  have e : Int.tmod ((i + 1 : Nat) : Int) (c.length : Int) = (((i + 1) % c.length : Nat) : Int) := rfl
  rw [e]
  unfold merkhetref17_Chain_nx
  by_cases h : i + 1 < c.length
  · rw [if_pos h, Nat.mod_eq_of_lt h]
  · rw [if_neg h, show i + 1 = c.length by omega, Nat.mod_self]; rfl
theorem chain_l0 {n : Int} {l c : List S48} (hl : l.length < 1000000000) (hm : mayL n l) (hc : c.length < 1000000000) : ∀ (d i : Nat) (held : List Bool) (s : Int), i + d = c.length → held.length = n.toNat → (∀ v : Int, 0 ≤ v → v < n → held.getD v.toNat false = (c.take i).any fun e => e.f0 == v) →
    ∃ r, merkhetref17_Chain_go l c d s = some r ∧ Ev (fun k => cert_Chain.l0 k l c held s c (c.length : Int) (i : Int)) r := by
  intro d
  induction d with
  | zero =>
    intro i held s hi hh hv
    exact ⟨_, rfl, Ev.step (f := fun _ => some (decide (s < 0))) (fun k => by rw [cert_Chain.l0, if_neg (by omega)]) (Ev.now _)⟩
  | succ d ih =>
    intro i held s hi hh hv
    have hlt : i < c.length := by omega
    have e1 : c.length - (d + 1) = i := by omega
    have e2 := rdE c i hlt
    have ew := w64t i (by omega)
    have en := nx_eq c i hlt
    have t0 : 0 ≤ Int.tmod ((i + 1 : Nat) : Int) (c.length : Int) := by rw [show Int.tmod ((i + 1 : Nat) : Int) (c.length : Int) = (((i + 1) % c.length : Nat) : Int) from rfl]; omega
    have t1 : Int.tmod ((i + 1 : Nat) : Int) (c.length : Int) < (c.length : Int) := by
      rw [show Int.tmod ((i + 1 : Nat) : Int) (c.length : Int) = (((i + 1) % c.length : Nat) : Int) from rfl]
      have := Nat.mod_lt (i + 1) (show c.length > 0 by omega)
      omega
    unfold merkhetref17_Chain_go
    rw [e1, e2]
    have hE := has_ev l c[i] hl
    have hst : ∀ k, cert_Chain.l0 (k + 1) l c held s c (c.length : Int) (i : Int) = (api_Edge_37.f k l c[i].f0 c[i].f1 c[i].f2 c[i].f3.f0 c[i].f3.f1 c[i].f4).bind fun t158 => (if t158 = true then (if c[i].f1 = (merkhetref17_Chain_nx c i).f0 then (if 0 ≤ c[i].f0 then (if c[i].f0 < (held.length : Int) then (if rdOf false held c[i].f0 = true then (some false) else (cert_Chain.l0 k l c (held.set ((c[i].f0) : Int).toNat true) (wrap64 (s + c[i].f2)) c (c.length : Int) ((i + 1 : Nat) : Int))) else (none)) else (none)) else (some false)) else (some false)) := fun k => by
      rw [cert_Chain.l0, if_pos (by omega), if_pos (by omega), if_pos (by omega), if_neg (by omega), ew, if_pos t0, if_pos t1, e2, en]
    cases h1 : hasE l c[i] with
    | false =>
      rw [h1] at hE
      refine ⟨false, by rw [if_neg (by rw [show (l.any fun e => merkhetref17_Chain_eq e c[i]) = false from h1]; decide)], ?_⟩
      exact Ev.step hst (Ev.bind hE (Ev.congr (f := fun _ => some false) (fun k => if_neg (by decide)) (Ev.now _)))
    | true =>
      rw [h1] at hE
      rw [if_pos (show (l.any fun e => merkhetref17_Chain_eq e c[i]) = true from h1)]
      obtain ⟨e, he, he0⟩ := hasE_some h1
      have hb := mayL_at hm he
      rw [he0] at hb
      have hg := hv c[i].f0 hb.1 hb.2.1
      have hr : rdOf false held c[i].f0 = (c.take i).any fun e => e.f0 == c[i].f0 := hg
      by_cases h2 : c[i].f1 = (merkhetref17_Chain_nx c i).f0
      · cases h3 : (c.take i).any fun e => e.f0 == c[i].f0 with
        | true =>
          rw [h3] at hr
          refine ⟨false, by rw [if_pos rfl], ?_⟩
          exact Ev.step hst (Ev.bind hE (Ev.congr (f := fun _ => some false) (fun k => by rw [if_pos rfl, if_pos h2, if_pos hb.1, if_pos (by omega), if_pos hr]) (Ev.now _)))
        | false =>
          rw [h3] at hr
          rw [if_neg (by decide), if_pos h2]
          obtain ⟨r, g1, g2⟩ := ih (i + 1) (held.set c[i].f0.toNat true) (wrap64 (s + c[i].f2)) (by omega) (by rw [List.length_set]; exact hh) (fun v v0 v1 => by
            rw [getD_setB _ _ _ (by omega), List.take_succ_eq_append_getElem hlt, List.any_append, List.any_cons, List.any_nil, Bool.or_false, ← hv v v0 v1]
            by_cases hvv : v.toNat = c[i].f0.toNat
            · rw [if_pos hvv, beq_iff_eq.2 (show c[i].f0 = v by omega), Bool.or_true]
            · rw [if_neg hvv, beq_eq_false_iff_ne.2 (show c[i].f0 ≠ v by omega), Bool.or_false])
          refine ⟨r, g1, ?_⟩
          exact Ev.step hst (Ev.bind hE (Ev.congr (fun k => by rw [if_pos rfl, if_pos h2, if_pos hb.1, if_pos (by omega), if_neg (by rw [hr]; decide)]) g2))
      · refine ⟨false, ?_, Ev.step hst (Ev.bind hE (Ev.congr (f := fun _ => some false) (fun k => by rw [if_pos rfl, if_neg h2]) (Ev.now _)))⟩
        by_cases h3 : ((c.take i).any fun e => e.f0 == c[i].f0) = true
        · rw [if_pos h3]
        · rw [if_neg h3, if_neg h2]
theorem go_true {l c : List S48} : ∀ (d i : Nat) (s : Int), i + d = c.length → merkhetref17_Chain_go l c d s = some true → ∀ j (hj : j < c.length), i ≤ j → hasE l c[j] = true ∧ ((c.take j).any fun e => e.f0 == c[j].f0) = false := by
  intro d
  induction d with
  | zero => intro i s hi _ j hj hij; omega
  | succ d ih =>
    intro i s hi h j hj hij
    have e1 : c.length - (d + 1) = i := by omega
    unfold merkhetref17_Chain_go at h
    rw [e1, rdE c i (by omega)] at h
    by_cases h1 : (l.any fun e => merkhetref17_Chain_eq e (c[i]'(by omega))) = true
    · rw [if_pos h1] at h
      by_cases h2 : ((c.take i).any fun e => e.f0 == (c[i]'(by omega)).f0) = true
      · rw [if_pos h2] at h; cases h
      · rw [if_neg h2] at h
        by_cases h3 : (c[i]'(by omega)).f1 = (merkhetref17_Chain_nx c i).f0
        · rw [if_pos h3] at h
          rcases Nat.lt_or_ge i j with hl | hl
          · exact ih (i + 1) _ (by omega) h j hj (by omega)
          · have e : j = i := by omega
            subst e
            exact ⟨h1, by simpa using h2⟩
        · rw [if_neg h3] at h; cases h
    · rw [if_neg h1] at h; cases h
theorem go_short {n : Int} {l c : List S48} (hm : mayL n l) (s : Int) (h : merkhetref17_Chain_go l c c.length s = some true) : c.length ≤ n.toNat := by
  have hg := go_true c.length 0 s (by omega) h
  have h0 := hm.1
  have := apart_le n.toNat (c.map fun e => e.f0) (fun x hx => by
    obtain ⟨e, he, rfl⟩ := List.mem_map.1 hx
    obtain ⟨j, hj, rfl⟩ := List.getElem_of_mem he
    obtain ⟨e, he, he0⟩ := hasE_some (hg j hj (by omega)).1
    have hb := mayL_at hm he
    rw [he0] at hb
    omega) (List.pairwise_iff_getElem.2 fun i j hi hj hij => by
    rw [List.length_map] at hi hj
    rw [List.getElem_map, List.getElem_map]
    intro he
    have := (hg j hj (by omega)).2
    rw [List.any_eq_false] at this
    exact this c[i] (by rw [List.mem_iff_getElem]; exact ⟨i, by rw [List.length_take]; omega, by rw [List.getElem_take]⟩) (beq_iff_eq.2 he))
  rw [List.length_map] at this
  exact this
open Classical in
theorem chain_ev (n : Int) (l c : List S48) (hl : l.length ≤ 1000) (hc : c.length ≤ 1000) : ∃ r, Ev (fun k => cert_Chain.f k n l c) r ∧ Ev (fun k => merkhetref17_Chain.f k n l c) r := by
  have jt : Ev (fun k => cert_Chain.j0 k n l c true) false := Ev.step (f := fun _ => some false) (fun k => by rw [cert_Chain.j0, if_pos rfl]) (Ev.now _)
  have e1 : ∀ k, cert_Chain.f k n l c = (if decide (mayL n l) = true then (if (c.length : Int) = 0 then (cert_Chain.j0 k n l c true) else (cert_Chain.j0 k n l c (decide ((c.length : Int) > n)))) else (cert_Chain.j0 k n l c true)) := fun k => by
    unfold cert_Chain.f
    rw [relaxMay_eq, Option.bind_some]
  have hM := refMay15_ev n l (by omega)
  by_cases hm : mayL n l
  · have h0 := hm.1
    have hn : n ≤ 32 := by have := hm.2.n32; omega
    rw [decide_eq_true hm] at hM
    have e1' : ∀ k, cert_Chain.f k n l c = (if (c.length : Int) = 0 then (cert_Chain.j0 k n l c true) else (cert_Chain.j0 k n l c (decide ((c.length : Int) > n)))) := fun k => (e1 k).trans (if_pos (decide_eq_true hm))
    by_cases h1 : c.length = 0
    · exact ⟨false, Ev.congr (fun k => (e1' k).trans (if_pos (by omega))) jt, Ev.bind hM (Ev.congr (f := fun _ => some false) (fun k => by rw [if_pos rfl, if_pos h1]) (Ev.now _))⟩
    obtain ⟨r, g1, g2⟩ := chain_l0 (n := n) (l := l) (c := c) (by omega) hm (by omega) c.length 0 (List.replicate n.toNat false) 0 (by omega) (by simp) (fun v v0 v1 => by
      rw [List.take_zero, List.any_nil, List.getD_eq_getElem?_getD, List.getElem?_replicate]
      split <;> rfl)
    refine ⟨r, ?_, Ev.bind hM (Ev.congr (f := fun _ => some r) (fun k => by rw [if_pos rfl, if_neg h1, if_pos ⟨by omega, by omega⟩, g1]) (Ev.now _))⟩
    by_cases h2 : (c.length : Int) > n
    · have : r = false := by
        cases r with
        | false => rfl
        | true => have := go_short hm 0 g1; omega
      rw [this]
      exact Ev.congr (fun k => by rw [e1' k, if_neg (by omega), decide_eq_true h2]) jt
    · refine Ev.congr (f := fun k => cert_Chain.j0 k n l c false) (fun k => by rw [e1' k, if_neg (by omega), decide_eq_false h2]) ?_
      exact Ev.step (fun k => by rw [cert_Chain.j0, if_neg (by decide), if_pos h0, if_pos (by omega)]; rfl) g2
  · rw [decide_eq_false hm] at hM
    exact ⟨false, Ev.congr (fun k => (e1 k).trans (if_neg (by rw [decide_eq_false hm]; decide))) jt, Ev.bind hM (Ev.congr (f := fun _ => some false) (fun k => if_neg (by decide)) (Ev.now _))⟩
end
/-! C17f -/
section
open Go.RowKit Go.Proofs.Ytacjlaiddnfpdaa.H Go.Proofs.YtacjlaiddnfpdaaW.PrintWords Go.Proofs.YtacjlaiddnfpdaaW.PrintLast Go.Proofs.YtacjlaiddnfpdaaW.PrintMore
theorem law17_fixed_ev : Ev (fun k => merkhetlaw17_fixed.f k) true := Ev.of (fun k => merkhetlaw17_fixed.mono k) (k := 12) (by decide +kernel)
end
end Go.Proofs.Ytacjlaiddnfpdaa.Y
