/- Whatever is below 0 is so by an edge that just holds: H16's L_tight. No conditions. -/
import Derived.Test.YtacjlaiddnfpdaaLx9
import Derived.Test.YtacjlaiddnfpdaaLC15b
import Derived.Test.YtacjlaiddnfpdaaLC15f
namespace Go.Proofs.Ytacjlaiddnfpdaa.Pure
open Go.RowKit Go.Proofs.Ytacjlaiddnfpdaa.L Go.Proofs.Ytacjlaiddnfpdaa.H Go.Proofs.YtacjlaiddnfpdaaW.PrintWords Go.Proofs.YtacjlaiddnfpdaaW.PrintLast

theorem rdE (l : List S48) (i : Nat) (hi : i < l.length) : rd_T48 l (i : Int) = l[i] := by
  show l.getD _ _ = _
  rw [Int.toNat_natCast, List.getD_eq_getElem?_getD, List.getElem?_eq_getElem hi]; rfl
theorem tight_l1 {n : Int} {l : List S48} (hm : mayL n l) (hl : l.length ≤ 100) (h : Nat) (x : Int)
    (hr : Ev (fun k => merkhetlaw15_RelaxTight.l0 k l (rowF n.toNat (L (eds l) n.toNat)) (rowF n.toNat (L (eds l) n.toNat)) ((rowF n.toNat (L (eds l) n.toNat)).length : Int) (wrap64 ((h : Int) + 1))) true) :
    ∀ (d j : Nat), l.length - j = d → j ≤ l.length → ∀ b : Bool, (b = true ∨ ∃ s ∈ l.drop j, s.f1 = (h : Int) ∧ s.f0 ≠ (h : Int) ∧ L (eds l) n.toNat s.f0 + s.f2 = x) →
      Ev (fun k => merkhetlaw15_RelaxTight.l1 k l (rowF n.toNat (L (eds l) n.toNat)) (h : Int) x b (rowF n.toNat (L (eds l) n.toNat)) ((rowF n.toNat (L (eds l) n.toNat)).length : Int) (h : Int) l (l.length : Int) (j : Int)) true := by
  have h0 := hm.1
  intro d
  induction d with
  | zero =>
    intro j hd hj b hb
    obtain rfl : b = true := by
      rcases hb with hb | ⟨s, hs, _⟩
      · exact hb
      · rw [List.drop_of_length_le (by omega)] at hs; cases hs
    refine ev_step (fun k => ?_) hr
    rw [merkhetlaw15_RelaxTight.l1, if_neg (by omega), if_pos rfl]
  | succ d ih =>
    intro j hd hj b hb
    have hlt : j < l.length := by omega
    have hs := mayL_at hm (List.getElem_mem hlt)
    have hdrop : l.drop j = l[j] :: l.drop (j + 1) := List.drop_eq_getElem_cons hlt
    cases b with
    | true =>
      refine ev_step (fun k => ?_) (ih (j + 1) (by omega) (by omega) true (.inl rfl))
      rw [merkhetlaw15_RelaxTight.l1, if_pos (by omega), if_pos (by omega), if_pos (by omega), if_pos rfl, w64t j (by omega)]
    | false =>
      obtain ⟨s, hsm, hs1, hs2, hs3⟩ : ∃ s ∈ l.drop j, s.f1 = (h : Int) ∧ s.f0 ≠ (h : Int) ∧ L (eds l) n.toNat s.f0 + s.f2 = x := by
        rcases hb with hb | hb
        · cases hb
        · exact hb
      rw [hdrop] at hsm
      have hrest : ¬ (l[j].f1 = (h : Int) ∧ l[j].f0 ≠ (h : Int) ∧ L (eds l) n.toNat l[j].f0 + l[j].f2 = x) → Ev (fun k => merkhetlaw15_RelaxTight.l1 k l (rowF n.toNat (L (eds l) n.toNat)) (h : Int) x false (rowF n.toNat (L (eds l) n.toNat)) ((rowF n.toNat (L (eds l) n.toNat)).length : Int) (h : Int) l (l.length : Int) ((j + 1 : Nat) : Int)) true := fun hno =>
        ih (j + 1) (by omega) (by omega) false (.inr ⟨s, by
          rcases List.mem_cons.1 hsm with e | e
          · rw [e] at hs1 hs2 hs3; exact absurd ⟨hs1, hs2, hs3⟩ hno
          · exact e, hs1, hs2, hs3⟩)
      by_cases c1 : l[j].f1 = (h : Int)
      case neg =>
        refine ev_step (fun k => ?_) (hrest (fun h => c1 h.1))
        rw [merkhetlaw15_RelaxTight.l1, if_pos (by omega), if_pos (by omega), if_pos (by omega), if_neg Bool.false_ne_true, rdE l j hlt, if_neg c1, w64t j (by omega)]
      by_cases c2 : l[j].f0 = (h : Int)
      case pos =>
        refine ev_step (fun k => ?_) (hrest (fun h => h.2.1 c2))
        rw [merkhetlaw15_RelaxTight.l1, if_pos (by omega), if_pos (by omega), if_pos (by omega), if_neg Bool.false_ne_true, rdE l j hlt, if_pos c1, if_pos c2, w64t j (by omega)]
      have hg : Ev (fun k => merkhetlaw15_RelaxTight.l1 k l (rowF n.toNat (L (eds l) n.toNat)) (h : Int) x (L (eds l) n.toNat l[j].f0 + l[j].f2 == x) (rowF n.toNat (L (eds l) n.toNat)) ((rowF n.toNat (L (eds l) n.toNat)).length : Int) (h : Int) l (l.length : Int) ((j + 1 : Nat) : Int)) true := by
        by_cases c3 : L (eds l) n.toNat l[j].f0 + l[j].f2 = x
        · rw [show (L (eds l) n.toNat l[j].f0 + l[j].f2 == x) = true from beq_iff_eq.mpr c3]
          exact ih (j + 1) (by omega) (by omega) true (.inl rfl)
        · rw [show (L (eds l) n.toNat l[j].f0 + l[j].f2 == x) = false from beq_eq_false_iff_ne.mpr c3]
          exact hrest (fun h => c3 h.2.2)
      refine ev_step (fun k => ?_) hg
      rw [merkhetlaw15_RelaxTight.l1, if_pos (by omega), if_pos (by omega), if_pos (by omega), if_neg Bool.false_ne_true, rdE l j hlt, if_pos c1, if_neg c2, if_pos (by rw [rowF_length]; omega), if_pos hs.1, rowF_rd _ _ _ hs.1 (by omega), wrapL hm (List.getElem_mem hlt) _ (Nat.le_refl _), w64t j (by omega)]
theorem tight_at {n : Int} {l : List S48} (hm : mayL n l) (hc : ∀ h, 0 ≤ h → h < n → L (eds l) n.toNat h = L (eds l) (n.toNat - 1) h) (h : Int) (h0 : 0 ≤ h) (h1 : h < n) : (L (eds l) n.toNat h == 0) = true ∨ ∃ s ∈ l.drop 0, s.f1 = h ∧ s.f0 ≠ h ∧ L (eds l) n.toNat s.f0 + s.f2 = L (eds l) n.toNat h := by
  have hn := hm.1
  rcases L_tight hm.2 (fun h a b => hc h a (by omega)) n.toNat (Nat.le_refl _) h h0 (by omega) rfl with e | ⟨e, he, _, _, e1, e2, e3, _⟩
  · exact .inl (beq_iff_eq.mpr e)
  · obtain ⟨s, hs, rfl⟩ := List.mem_map.1 he
    exact .inr ⟨s, hs, e1, e2, e3⟩
theorem tight_l0 {n : Int} {l : List S48} (hm : mayL n l) (hl : l.length ≤ 100) (hc : ∀ h, 0 ≤ h → h < n → L (eds l) n.toNat h = L (eds l) (n.toNat - 1) h) : ∀ (d i : Nat), n.toNat - i = d → i ≤ n.toNat →
    Ev (fun k => merkhetlaw15_RelaxTight.l0 k l (rowF n.toNat (L (eds l) n.toNat)) (rowF n.toNat (L (eds l) n.toNat)) ((rowF n.toNat (L (eds l) n.toNat)).length : Int) (i : Int)) true := by
  have h0 := hm.1
  have h32 := hm.2.n32
  have hlen := rowF_length n.toNat (L (eds l) n.toNat)
  intro d
  induction d with
  | zero =>
    intro i hd hi
    refine ev_step (fun k => by rw [merkhetlaw15_RelaxTight.l0, if_neg (by omega)]) ?_
    exact Ev.bind law15_fixed_ev (Ev.now _)
  | succ d ih =>
    intro i hd hi
    have h_ := tight_l1 hm hl i (L (eds l) n.toNat (i : Int)) (by rw [w64t i (by omega)]; exact ih (i + 1) (by omega) (by omega)) l.length 0 rfl (Nat.zero_le _) _ (tight_at hm hc (i : Int) (by omega) (by omega))
    refine ev_step (fun k => ?_) h_
    rw [merkhetlaw15_RelaxTight.l0, if_pos (by omega), if_pos (by omega), if_pos (by omega), rowF_rd _ _ _ (by omega) (by omega)]
    rfl
open Classical in
theorem RelaxTight : merkhetlaw15_RelaxTight.Pure := by
  intro n l hn hl hw
  refine Ev.rounds (g := fun k => merkhetlaw15_RelaxTight.f k n l) ?_
  unfold merkhetlaw15_RelaxTight.f
  by_cases c : (l.length : Int) > 100
  · refine Ev.congr (fun k => by rw [if_pos c]) ?_
    exact Ev.bind law15_fixed_ev (Ev.now _)
  · refine Ev.congr (fun k => by rw [if_neg c]) ?_
    refine Ev.bind (solve_ev n l (by omega)) ?_
    rcases solveP_cases n l with ⟨_, he⟩ | ⟨hm, hc, he⟩
    · rw [he]
      refine Ev.congr (fun k => by rw [if_neg (by decide)]) ?_
      exact Ev.bind law15_fixed_ev (Ev.now _)
    · rw [he]
      refine Ev.congr (fun k => by rw [if_pos rfl]) ?_
      exact tight_l0 hm (by omega) hc _ 0 rfl (Nat.zero_le _)
end Go.Proofs.Ytacjlaiddnfpdaa.Pure
