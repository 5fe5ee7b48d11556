/- Whether all edges hold, the document's: by whole numbers without a bound. -/
import Derived.Test.YtacjlaiddnfpdaaLx6
import Derived.Test.YtacjlaiddnfpdaaLC15a
set_option linter.unusedVariables false
namespace Go.Proofs.Ytacjlaiddnfpdaa.L
open Go.RowKit Go.Proofs.Ytacjlaiddnfpdaa.H Go.Proofs.YtacjlaiddnfpdaaW.PrintWords Go.Proofs.YtacjlaiddnfpdaaW.PrintLast Go.Proofs.YtacjlaiddnfpdaaW.PrintMore
def i64R (x : Int) : Prop := -9223372036854775808 ≤ x ∧ x ≤ 9223372036854775807
theorem wf_i64R {x : Int} (h : (Lit.int .i64 x).wf = true) : i64R x := by
  simp [Lit.wf, IntKind.min, IntKind.max, IntKind.signed, IntKind.bits] at h
  unfold i64R
  omega
theorem less_ev (a b c : Int) (ha : i64R a) (hb : i64R b) (hc : i64R c) : Ev (fun k => merkhetref14_less.f k a b c) (decide (a + b < c)) := by
  unfold i64R at ha hb hc
  obtain ⟨t, ht⟩ : ∃ t, t = wrap64 (a + b) := ⟨_, rfl⟩
  have hcase : (t = a + b ∧ -9223372036854775808 ≤ a + b ∧ a + b ≤ 9223372036854775807) ∨ (t = a + b + 18446744073709551616 ∧ a + b < -9223372036854775808) ∨ (t = a + b - 18446744073709551616 ∧ 9223372036854775807 < a + b) := by
    rw [ht]; unfold wrap64; omega
  unfold merkhetref14_less.f
  rw [← ht]
  clear ht
  have j0 : ∀ x20 : Bool, (x20 = true → a + b < c) → (x20 = false → (¬ (a ≥ 0 ∧ b ≥ 0 ∧ t < 0)) → (t < c ↔ a + b < c)) → Ev (fun k => merkhetref14_less.j0 k a b c t x20) (decide (a + b < c)) := fun x20 h1 h2 => by
    cases x20 with
    | true =>
      rw [decide_eq_true (h1 rfl)]
      exact ev_step (f := fun _ => some true) (fun k => by rw [merkhetref14_less.j0, if_pos rfl]) (Ev.now _)
    | false =>
      by_cases c1 : a ≥ 0
      · by_cases c2 : b ≥ 0
        · by_cases c3 : t < 0
          · rw [decide_eq_false (by omega)]
            exact ev_step (f := fun _ => some false) (fun k => by rw [merkhetref14_less.j0, if_neg (by decide), if_pos c1, if_pos c2, if_pos c3]) (Ev.now _)
          · refine ev_step (f := fun _ => some (decide (t < c))) (fun k => by rw [merkhetref14_less.j0, if_neg (by decide), if_pos c1, if_pos c2, if_neg c3]) ?_
            rw [show decide (t < c) = decide (a + b < c) by rw [decide_eq_decide]; exact h2 rfl (by omega)]
            exact Ev.now _
        · refine ev_step (f := fun _ => some (decide (t < c))) (fun k => by rw [merkhetref14_less.j0, if_neg (by decide), if_pos c1, if_neg c2]) ?_
          rw [show decide (t < c) = decide (a + b < c) by rw [decide_eq_decide]; exact h2 rfl (by omega)]
          exact Ev.now _
      · refine ev_step (f := fun _ => some (decide (t < c))) (fun k => by rw [merkhetref14_less.j0, if_neg (by decide), if_neg c1]) ?_
        rw [show decide (t < c) = decide (a + b < c) by rw [decide_eq_decide]; exact h2 rfl (by omega)]
        exact Ev.now _
  by_cases c1 : a < 0
  · by_cases c2 : b < 0
    · refine Ev.congr (fun k => by rw [if_pos c1, if_pos c2]) (j0 (decide (t ≥ 0)) (fun h => by have := of_decide_eq_true h; omega) (fun h h3 => by have := of_decide_eq_false h; omega))
    · exact Ev.congr (fun k => by rw [if_pos c1, if_neg c2]) (j0 false (fun h => by cases h) (fun _ h3 => by omega))
  · exact Ev.congr (fun k => by rw [if_neg c1]) (j0 false (fun h => by cases h) (fun _ h3 => by omega))
/-- Does an edge hold for numbers? -/
def holdsS (x : List Int) (s : S48) : Prop := 0 ≤ s.f0 ∧ s.f0 < (x.length : Int) ∧ 0 ≤ s.f1 ∧ s.f1 < (x.length : Int) ∧ rd x s.f1 ≤ rd x s.f0 + s.f2
theorem rd_wf {x : List Int} (h : ∀ v ∈ x, i64R v) (a : Int) (h0 : 0 ≤ a) (h1 : a < (x.length : Int)) : i64R (rd x a) := by
  unfold rd
  rw [List.getD_eq_getElem?_getD, List.getElem?_eq_getElem (show a.toNat < x.length by omega)]
  exact h _ (List.getElem_mem _)
open Classical in
theorem holds_ev (s : S48) (x : List Int) (hx : ∀ v ∈ x, i64R v) (hs : i64R s.f2) : Ev (fun k => merkhetref14_Holds.f k s.f0 s.f1 s.f2 s.f3.f0 s.f3.f1 s.f4 x) (decide (holdsS x s)) := by
  unfold merkhetref14_Holds.f
  by_cases c1 : s.f0 < 0
  · rw [decide_eq_false (fun h : holdsS x s => by have := h.1; omega)]
    exact Ev.congr (f := fun _ => some false) (fun k => by rw [if_pos c1]) (Ev.now _)
  by_cases c2 : s.f1 < 0
  · rw [decide_eq_false (fun h : holdsS x s => by have := h.2.2.1; omega)]
    exact Ev.congr (f := fun _ => some false) (fun k => by rw [if_neg c1, if_pos c2]) (Ev.now _)
  by_cases c3 : s.f0 ≥ (x.length : Int)
  · rw [decide_eq_false (fun h : holdsS x s => by have := h.2.1; omega)]
    exact Ev.congr (f := fun _ => some false) (fun k => by rw [if_neg c1, if_neg c2, if_pos c3]) (Ev.now _)
  by_cases c4 : s.f1 ≥ (x.length : Int)
  · rw [decide_eq_false (fun h : holdsS x s => by have := h.2.2.2.1; omega)]
    exact Ev.congr (f := fun _ => some false) (fun k => by rw [if_neg c1, if_neg c2, if_neg c3, if_pos c4]) (Ev.now _)
  refine Ev.congr (fun k => by rw [if_neg c1, if_neg c2, if_neg c3, if_neg c4, if_pos (by omega), if_pos (by omega), if_pos (by omega), if_pos (by omega)]) ?_
  refine Ev.bind (less_ev _ _ _ (rd_wf hx _ (by omega) (by omega)) hs (rd_wf hx _ (by omega) (by omega))) ?_
  rw [show (!decide (rd x s.f0 + s.f2 < rd x s.f1)) = decide (holdsS x s) by
    rw [Bool.eq_iff_iff, Bool.not_eq_true', decide_eq_false_iff_not, decide_eq_true_eq]
    unfold holdsS
    omega]
  exact Ev.now _
open Classical in
theorem all_l0 (l : List S48) (x : List Int) (hx : ∀ v ∈ x, i64R v) (hs : ∀ s ∈ l, i64R s.f2) (hl : l.length < 1000000000) : ∀ (d i : Nat), l.length - i = d → i ≤ l.length → Ev (fun k => merkhetref14_All.l0 k l x (i : Int)) (decide (∀ s ∈ l.drop i, holdsS x s)) := by
  intro d
  have hz : ∀ j : Nat, rd_T48 l (j : Int) = l.getD j z48 := fun j => by show l.getD _ _ = _; rw [Int.toNat_natCast]
  induction d with
  | zero =>
    intro i hd hi
    rw [decide_eq_true (p := ∀ s ∈ l.drop i, holdsS x s) (fun s h => by rw [List.drop_of_length_le (by omega)] at h; simp at h)]
    exact ev_step (f := fun _ => some true) (fun k => by rw [merkhetref14_All.l0, if_neg (by omega)]) (Ev.now _)
  | succ d ih =>
    intro i hd hi
    have hlt : i < l.length := by omega
    have hg : l.getD i z48 = l[i] := by rw [List.getD_eq_getElem?_getD, List.getElem?_eq_getElem hlt]; rfl
    refine ev_step (f := fun k => (merkhetref14_Holds.f k l[i].f0 l[i].f1 l[i].f2 l[i].f3.f0 l[i].f3.f1 l[i].f4 x).bind fun t => if t = true then merkhetref14_All.l0 k l x ((i + 1 : Nat) : Int) else some false) (fun k => by rw [merkhetref14_All.l0, if_pos (by omega), if_pos (by omega), hz, hg, w64t i (by omega)]) ?_
    refine Ev.bind (holds_ev l[i] x hx (hs _ (List.getElem_mem hlt))) ?_
    by_cases c : holdsS x l[i]
    · rw [decide_eq_true c]
      refine Ev.congr (fun k => by rw [if_pos rfl]) (ev_eq (ih (i + 1) (by omega) (by omega)) ?_)
      rw [decide_eq_decide, List.drop_eq_getElem_cons hlt]
      exact ⟨fun h s hm => by rcases List.mem_cons.1 hm with rfl | h2; exact c; exact h s h2, fun h s hm => h s (List.mem_cons_of_mem _ hm)⟩
    · rw [decide_eq_false c, decide_eq_false (p := ∀ s ∈ l.drop i, holdsS x s) (fun h => c (h _ (by rw [List.drop_eq_getElem_cons hlt]; exact List.mem_cons_self)))]
      exact Ev.congr (f := fun _ => some false) (fun k => by rw [if_neg (by decide)]) (Ev.now _)
open Classical in
theorem all_ev (l : List S48) (x : List Int) (hx : ∀ v ∈ x, i64R v) (hs : ∀ s ∈ l, i64R s.f2) (hl : l.length < 1000000000) : Ev (fun k => merkhetref14_All.f k l x) (decide (∀ s ∈ l, holdsS x s)) := by
  have h_ := all_l0 l x hx hs hl l.length 0 rfl (Nat.zero_le _)
  exact h_
end Go.Proofs.Ytacjlaiddnfpdaa.L
