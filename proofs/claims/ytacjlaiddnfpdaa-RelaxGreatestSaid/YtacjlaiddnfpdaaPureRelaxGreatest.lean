/- Any whole numbers for which all edges hold, put lower all together so that none is above 0, are nowhere above what is told; where nothing is told there are none: the plain law of the last layer. No conditions. -/
import Derived.Test.YtacjlaiddnfpdaaLx7
import Derived.Test.YtacjlaiddnfpdaaLC15b
import Derived.Test.YtacjlaiddnfpdaaLC15f
import Derived.Test.YtacjlaiddnfpdaaLC14
namespace Go.Proofs.Ytacjlaiddnfpdaa.Pure
open Go.RowKit Go.Proofs.Ytacjlaiddnfpdaa.L Go.Proofs.Ytacjlaiddnfpdaa.H Go.Proofs.YtacjlaiddnfpdaaW.PrintWords Go.Proofs.YtacjlaiddnfpdaaW.PrintLast Go.Proofs.YtacjlaiddnfpdaaW.PrintMore

theorem fixedB : Ev (fun k => (merkhetlaw15_fixed.f k).bind fun t => some t) true := Ev.bind law15_fixed_ev (Ev.now _)
theorem great_l1 (top : Int) (o x : List Int) (ho : o.length = x.length) (hn : x.length < 1000) (h : ∀ i : Nat, i < x.length → wrap64 (rd x (i : Int) - top) ≤ rd o (i : Int)) : ∀ (d i : Nat), x.length - i = d → i ≤ x.length → Ev (fun k => merkhetlaw15_RelaxGreatest.l1 k top o x (x.length : Int) (i : Int)) true := by
  intro d
  induction d with
  | zero =>
    intro i hd hi
    exact ev_step (fun k => by rw [merkhetlaw15_RelaxGreatest.l1, if_neg (by omega)]) fixedB
  | succ d ih =>
    intro i hd hi
    have h1 := h i (by omega)
    refine ev_step (fun k => ?_) (ih (i + 1) (by omega) (by omega))
    rw [merkhetlaw15_RelaxGreatest.l1, if_pos (by omega), if_pos (by omega), if_pos (by omega), if_pos (by omega), if_neg (by omega), w64t i (by omega)]
open Classical in
theorem great_end (n : Int) (l : List S48) (x : List Int) (top : Int) (hl : l.length ≤ 100) (hm : mayL n l) (hlen : (x.length : Int) = n) (hx : ∀ i : Nat, i < x.length → rd x (i : Int) ≤ top ∧ -144115188075855872 ≤ rd x (i : Int)) (ht0 : 0 ≤ top) (ht1 : top ≤ 144115188075855872) (hw : ∀ v ∈ x, i64R v) (hs : ∀ s ∈ l, i64R s.f2) (i : Nat) (hi : x.length ≤ i) : Ev (fun k => merkhetlaw15_RelaxGreatest.l0 k n l x top x (x.length : Int) (i : Int)) true := by
  have h32 := hm.2.n32
  have h0 := hm.1
  refine ev_step (fun k => by rw [merkhetlaw15_RelaxGreatest.l0, if_neg (by omega)]) ?_
  refine Ev.bind (solve_ev n l (by omega)) (Ev.bind (all_ev l x hw hs (by omega)) ?_)
  by_cases ha : ∀ s ∈ l, holdsS x s
  · rw [decide_eq_true ha]
    refine Ev.congr (fun k => by rw [if_pos rfl]) ?_
    have hc := conv_of hm (x := fun h => rd x h) (fun s hs => (ha s hs).2.2.2.2)
    rcases solveP_cases n l with ⟨hno, _⟩ | ⟨_, _, he⟩
    · exact absurd ⟨hm, hc⟩ hno
    · rw [he]
      refine Ev.congr (fun k => by rw [if_pos rfl]) ?_
      refine ev_step (fun k => by rw [merkhetlaw15_RelaxGreatest.j2, if_neg (by rw [rowF_length]; simp; omega)]) ?_
      have hg := L_greatest hm.2 (x := fun h => rd x h - top) (fun e he => by
        obtain ⟨s, hs, rfl⟩ := List.mem_map.1 he
        have := (ha s hs).2.2.2.2
        show rd x s.f1 - top ≤ rd x s.f0 - top + s.f2
        omega) (fun h a b => by
        have := (hx h.toNat (by omega)).1
        rw [Int.toNat_of_nonneg a] at this
        show rd x h - top ≤ 0
        omega)
      refine great_l1 top _ x (by rw [rowF_length]; omega) (by omega) (fun j hj => ?_) _ 0 rfl (Nat.zero_le _)
      have h1 := hg n.toNat (j : Int) (by omega) (by omega)
      have h2 := hx j hj
      rw [rowF_rd _ _ _ (by omega) (by omega)]
      have hw2 : wrap64 (rd x (j : Int) - top) = rd x (j : Int) - top := by unfold wrap64; omega
      rw [hw2]
      exact h1
  · rw [decide_eq_false ha]
    exact Ev.congr (fun k => by rw [if_neg (by decide)]) fixedB
theorem great_l0 (n : Int) (l : List S48) (x : List Int) (hl : l.length ≤ 100) (hm : mayL n l) (hlen : (x.length : Int) = n) (hw : ∀ v ∈ x, i64R v) (hs : ∀ s ∈ l, i64R s.f2) : ∀ (d i : Nat) (top : Int), x.length - i = d → i ≤ x.length → 0 ≤ top → top ≤ 144115188075855872 → (∀ j : Nat, j < i → rd x (j : Int) ≤ top ∧ -144115188075855872 ≤ rd x (j : Int)) → Ev (fun k => merkhetlaw15_RelaxGreatest.l0 k n l x top x (x.length : Int) (i : Int)) true := by
  intro d
  have h32 := hm.2.n32
  have h0 := hm.1
  induction d with
  | zero =>
    intro i top hd hi ht0 ht1 hall
    exact great_end n l x top hl hm hlen (fun j hj => hall j (by omega)) ht0 ht1 hw hs i (by omega)
  | succ d ih =>
    intro i top hd hi ht0 ht1 hall
    by_cases c1 : rd x (i : Int) > 144115188075855872
    · exact ev_step (fun k => by rw [merkhetlaw15_RelaxGreatest.l0, if_pos (by omega), if_pos (by omega), if_pos (by omega), if_pos c1]) fixedB
    by_cases c2 : rd x (i : Int) < -144115188075855872
    · exact ev_step (fun k => by rw [merkhetlaw15_RelaxGreatest.l0, if_pos (by omega), if_pos (by omega), if_pos (by omega), if_neg c1, if_pos c2]) fixedB
    have hmx : top ≤ mx top (rd x (i : Int)) ∧ rd x (i : Int) ≤ mx top (rd x (i : Int)) ∧ mx top (rd x (i : Int)) ≤ 144115188075855872 := by unfold mx; split <;> omega
    refine ev_step (fun k => ?_) (ih (i + 1) (mx top (rd x (i : Int))) (by omega) (by omega) (by omega) hmx.2.2 (fun j hj => by
      rcases Nat.lt_or_ge j i with h | h
      · have := hall j h; omega
      · have hji : j = i := by omega
        rw [hji]; omega))
    rw [merkhetlaw15_RelaxGreatest.l0, if_pos (by omega), if_pos (by omega), if_pos (by omega), if_neg c1, if_neg c2, w64t i (by omega)]
open Classical in
theorem RelaxGreatest : merkhetlaw15_RelaxGreatest.Pure := by
  intro n l x hn hl hw hx1 hx2 hxw
  refine Ev.rounds (g := fun k => merkhetlaw15_RelaxGreatest.f k n l x) ?_
  unfold merkhetlaw15_RelaxGreatest.f
  have j0t : Ev (fun k => merkhetlaw15_RelaxGreatest.j0 k n l x true) true := ev_step (fun k => by rw [merkhetlaw15_RelaxGreatest.j0, if_pos rfl]) fixedB
  by_cases c : (l.length : Int) > 100
  · exact Ev.congr (fun k => by rw [if_pos c]) j0t
  · refine Ev.congr (fun k => by rw [if_neg c]) ?_
    by_cases c2 : (x.length : Int) = n
    · refine Ev.congr (fun k => by rw [if_pos c2]) ?_
      refine Ev.bind (refMay15_ev n l (by omega)) ?_
      by_cases hm : mayL n l
      · rw [decide_eq_true hm]
        refine ev_step (fun k => by rw [merkhetlaw15_RelaxGreatest.j0, if_neg (by decide)]) ?_
        exact great_l0 n l x (by omega) hm c2 (fun v hv => wf_i64R (hxw v hv)) (fun s hs => wf_i64R (hw s hs).2.2.1) _ 0 0 rfl (Nat.zero_le _) (by omega) (by omega) (fun j hj => absurd hj (Nat.not_lt_zero _))
      · rw [decide_eq_false hm]
        exact j0t
    · exact Ev.congr (fun k => by rw [if_neg c2]) j0t
end Go.Proofs.Ytacjlaiddnfpdaa.Pure
