/- Layer 15's Layers, the program's: it is the plain one of H16. -/
import Derived.Test.YtacjlaiddnfpdaaCUx5
import Derived.Test.YtacjlaiddnfpdaaCUC15y
set_option linter.unusedVariables false
namespace Go.Proofs.Ytacjlaiddnfpdaa.CU
open Go.RowKit Go.Proofs.Ytacjlaiddnfpdaa.H Go.Proofs.YtacjlaiddnfpdaaW.PrintWords Go.Proofs.YtacjlaiddnfpdaaW.PrintLast Go.Proofs.YtacjlaiddnfpdaaW.PrintMore
theorem next_go (n : Nat) (had : Int → Int) : ∀ (r : List S48) (i : Int) (g : Int → Int × Int), (∀ s ∈ r, 0 ≤ s.f0 ∧ s.f0 < (n : Int) ∧ 0 ≤ s.f1 ∧ s.f1 < (n : Int) ∧ wrap64 (had s.f0 + s.f2) = had s.f0 + s.f2) →
    relax_next_go (rowF n had) r i (rowF n (fun h => (g h).1)) (rowF n (fun h => (g h).2)) = some (rowF n (fun h => (lst had h (eds r) i (g h).1 (g h).2).1), rowF n (fun h => (lst had h (eds r) i (g h).1 (g h).2).2))
  | [], i, g, _ => rfl
  | e :: r, i, g, hr => by
    obtain ⟨h0, h1, h2, h3, h4⟩ := hr e (by simp)
    unfold relax_next_go
    rw [if_pos h0, if_pos (by rw [rowF_length]; exact h1), if_pos h2, if_pos (by rw [rowF_length]; exact h3), if_pos (by rw [rowF_length]; exact h3), rowF_rd _ _ _ h0 h1, h4, rowF_rd _ _ _ h2 h3]
    by_cases c : had e.f0 + e.f2 < (g e.f1).1
    · rw [if_pos c, rowF_set _ _ _ _ h2 h3, rowF_set _ _ _ _ h2 h3]
      have e1 : (fun h => if h = e.f1 then had e.f0 + e.f2 else (g h).1) = fun h => (if h = e.f1 then (had e.f0 + e.f2, i) else g h).1 := by funext h; split <;> rfl
      have e2 : (fun h => if h = e.f1 then i else (g h).2) = fun h => (if h = e.f1 then (had e.f0 + e.f2, i) else g h).2 := by funext h; split <;> rfl
      rw [e1, e2, next_go n had r (i + 1) (fun h => if h = e.f1 then (had e.f0 + e.f2, i) else g h) (fun s hs => hr s (by simp [hs]))]
      have e3 : ∀ h, lst had h (eds r) (i + 1) (if h = e.f1 then (had e.f0 + e.f2, i) else g h).1 (if h = e.f1 then (had e.f0 + e.f2, i) else g h).2 = lst had h (eds (e :: r)) i (g h).1 (g h).2 := by
        intro h
        show _ = lst had h (ed e :: eds r) i (g h).1 (g h).2
        unfold lst
        by_cases c2 : h = e.f1
        · subst c2
          rw [if_pos rfl, if_pos ⟨rfl, c⟩]
          cases hh : eds r <;> rfl
        · rw [if_neg c2, if_neg (fun hh => c2 hh.1.symm)]
          cases hh : eds r <;> rfl
      simp only [e3]
    · rw [if_neg c, next_go n had r (i + 1) g (fun s hs => hr s (by simp [hs]))]
      have e3 : ∀ h, lst had h (eds r) (i + 1) (g h).1 (g h).2 = lst had h (eds (e :: r)) i (g h).1 (g h).2 := by
        intro h
        show _ = lst had h (ed e :: eds r) i (g h).1 (g h).2
        conv => rhs; unfold lst
        rw [if_neg (fun hh => by obtain ⟨h5, h6⟩ := hh; subst h5; exact c h6)]
      simp only [e3]
theorem next_eq {n : Int} {l : List S48} (hm : mayL n l) (hl : l.length ≤ 1000000) (k : Nat) (hk : k ≤ n.toNat) : relax_next.f (rowF n.toNat (L (eds l) k)) l = some (rowF n.toNat (L (eds l) (k + 1)), rowF n.toNat (B (eds l) (k + 1))) := by
  have h32 := hm.2.n32
  have h0 := hm.1
  unfold relax_next.f
  rw [if_pos hl]
  unfold slices_Clone_int64_int64.f
  rw [rowF_length, if_pos (by omega)]
  unfold relax_row_int.f slices_Repeat_int_int.f
  rw [if_pos (show [(-1 : Int)].length = 1 from rfl), if_pos (by omega), if_pos (by omega)]
  simp only [Option.bind_some, Int.toNat_natCast]
  have h_ := next_go n.toNat (L (eds l) k) l 0 (fun h => (L (eds l) k h, -1)) (fun s hs => by
    have := mayL_at hm hs
    exact ⟨this.1, by omega, this.2.2.1, by omega, wrapL hm hs k hk _⟩)
  rw [show (List.replicate n.toNat ([(-1 : Int)].getD 0 0)) = rowF n.toNat (fun h => ((fun h : Int => (L (eds l) k h, (-1 : Int))) h).2) from (rowF_const _ _).symm]
  exact h_
theorem layers_l0 {n : Int} {l : List S48} (hm : mayL n l) (hl : l.length ≤ 1000000) : ∀ (d i : Nat), n.toNat - i = d → i ≤ n.toNat → Ev (fun k => relax_Layers.l0 k l (rowsF n.toNat (L (eds l)) (i + 1)) (rowsF n.toNat (B (eds l)) (i + 1)) n (i : Int)) (rowsF n.toNat (L (eds l)) (n.toNat + 1), rowsF n.toNat (B (eds l)) (n.toNat + 1)) := by
  intro d
  have h32 := hm.2.n32
  have h0 := hm.1
  induction d with
  | zero =>
    intro i hd hi
    obtain rfl : i = n.toNat := by omega
    exact ev_step (f := fun _ => some _) (fun k => by rw [relax_Layers.l0, if_neg (by omega)]) (Ev.now _)
  | succ d ih =>
    intro i hd hi
    refine ev_step (fun k => ?_) (ih (i + 1) (by omega) (by omega))
    rw [relax_Layers.l0, if_pos (by omega), if_pos (by omega), if_pos (by rw [rowsF_length]; omega)]
    rw [show rd_L7 (rowsF n.toNat (L (eds l)) (i + 1)) (i : Int) = rowF n.toNat (L (eds l) i) by show (rowsF _ _ _).getD _ _ = _; rw [Int.toNat_natCast, rowsF_getD _ _ _ _ (by omega)]]
    rw [next_eq hm hl i (by omega), Option.bind_some, if_pos (by rw [rowsF_length]; omega), if_pos (by rw [rowsF_length]; omega), ← rowsF_succ, ← rowsF_succ, w64t i (by omega)]
open Classical in
theorem layers_ev (n : Int) (l : List S48) (hl : l.length ≤ 1000000) : Ev (fun k => relax_Layers.f k n l) (if mayL n l then (rowsF n.toNat (L (eds l)) (n.toNat + 1), rowsF n.toNat (B (eds l)) (n.toNat + 1)) else ([], [])) := by
  by_cases hm : mayL n l
  · have h32 := hm.2.n32
    have h0 := hm.1
    rw [if_pos hm]
    refine Ev.congr (fun k => ?_) (layers_l0 hm hl n.toNat 0 rfl (Nat.zero_le _))
    unfold relax_Layers.f
    rw [relaxMay_eq, decide_eq_true hm, Option.bind_some, if_pos rfl]
    unfold relax_row_int64.f slices_Repeat_int64_int64.f relax_row_int.f slices_Repeat_int_int.f
    rw [if_pos (show [(0 : Int)].length = 1 from rfl), if_pos h0, if_pos (by omega), if_pos (show [(-1 : Int)].length = 1 from rfl), if_pos h0, if_pos (by omega)]
    simp only [Option.bind_some]
    rw [show ([List.replicate n.toNat ([(0 : Int)].getD 0 0)] : List (List Int)) = rowsF n.toNat (L (eds l)) (0 + 1) by rw [show ([(0 : Int)].getD 0 0) = 0 from rfl, ← rowF_const]; rfl,
      show ([List.replicate n.toNat ([(-1 : Int)].getD 0 0)] : List (List Int)) = rowsF n.toNat (B (eds l)) (0 + 1) by rw [show ([(-1 : Int)].getD 0 0) = -1 from rfl, ← rowF_const]; rfl]
    rfl
  · rw [if_neg hm]
    refine Ev.congr (f := fun _ => some _) (fun k => ?_) (Ev.now _)
    unfold relax_Layers.f
    rw [relaxMay_eq, decide_eq_false hm, Option.bind_some, if_neg (by decide)]
end Go.Proofs.Ytacjlaiddnfpdaa.CU
