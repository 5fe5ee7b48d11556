/- Layer 15's Layers and Solve, the document's: they are the plain ones of H16. -/
import Derived.Test.YtacjlaiddnfpdaaLx3
import Derived.Test.YtacjlaiddnfpdaaLx4
import Derived.Test.YtacjlaiddnfpdaaLC15a
set_option linter.unusedVariables false
namespace Go.Proofs.Ytacjlaiddnfpdaa.L
open Go.RowKit Go.Proofs.Ytacjlaiddnfpdaa.H Go.Proofs.YtacjlaiddnfpdaaW.PrintWords Go.Proofs.YtacjlaiddnfpdaaW.PrintLast Go.Proofs.YtacjlaiddnfpdaaW.PrintMore
theorem least_l0 {n : Int} {l : List S48} (hm : mayL n l) (hl : l.length ≤ 1000000) (q : Nat) (hq : q ≤ n.toNat) (h : Int) : ∀ (d i : Nat), l.length - i = d → i ≤ l.length → ∀ b y : Int, Ev (fun k => merkhetref15_least.l0 k (rowF n.toNat (L (eds l) q)) l h b y (i : Int)) (lst (L (eds l) q) h ((eds l).drop i) (i : Int) b y) := by
  intro d
  have h32 := hm.2.n32
  have h0 := hm.1
  have hz : ∀ j : Nat, rd_T48 l (j : Int) = l.getD j z48 := fun j => by show l.getD _ _ = _; rw [Int.toNat_natCast]
  induction d with
  | zero =>
    intro i hd hi b y
    rw [List.drop_of_length_le (by simp [eds]; omega)]
    exact ev_step (f := fun _ => some (b, y)) (fun k => by rw [merkhetref15_least.l0, if_neg (by omega)]) (Ev.now _)
  | succ d ih =>
    intro i hd hi b y
    have hlt : i < l.length := by omega
    have hg : l.getD i z48 = l[i] := by rw [List.getD_eq_getElem?_getD, List.getElem?_eq_getElem hlt]; rfl
    have hmem := List.getElem_mem hlt
    have hr := mayL_at hm hmem
    have hd2 : (eds l).drop i = ed l[i] :: (eds l).drop (i + 1) := by
      rw [List.drop_eq_getElem_cons (by simp [eds]; exact hlt)]; simp [eds]
    rw [hd2]
    unfold lst
    by_cases c1 : l[i].f1 = h
    · by_cases c2 : L (eds l) q l[i].f0 + l[i].f2 < b
      · rw [if_pos (show (ed l[i]).t = h ∧ L (eds l) q (ed l[i]).f + (ed l[i]).w < b from ⟨c1, c2⟩)]
        refine ev_step (fun k => ?_) (ih (i + 1) (by omega) (by omega) (L (eds l) q l[i].f0 + l[i].f2) (i : Int))
        rw [merkhetref15_least.l0, if_pos (by omega), if_pos (by omega), hz, hg, if_pos c1, if_pos hr.1, if_pos (by rw [rowF_length]; omega), rowF_rd _ _ _ hr.1 (by omega), wrapL hm hmem q hq, if_pos c2, w64t i (by omega)]
      · rw [if_neg (show ¬ ((ed l[i]).t = h ∧ L (eds l) q (ed l[i]).f + (ed l[i]).w < b) from fun hh => c2 hh.2)]
        refine ev_step (fun k => ?_) (ih (i + 1) (by omega) (by omega) b y)
        rw [merkhetref15_least.l0, if_pos (by omega), if_pos (by omega), hz, hg, if_pos c1, if_pos hr.1, if_pos (by rw [rowF_length]; omega), rowF_rd _ _ _ hr.1 (by omega), wrapL hm hmem q hq, if_neg c2, w64t i (by omega)]
    · rw [if_neg (show ¬ ((ed l[i]).t = h ∧ L (eds l) q (ed l[i]).f + (ed l[i]).w < b) from fun hh => c1 hh.1)]
      refine ev_step (fun k => ?_) (ih (i + 1) (by omega) (by omega) b y)
      rw [merkhetref15_least.l0, if_pos (by omega), if_pos (by omega), hz, hg, if_neg c1, w64t i (by omega)]
theorem least_ev {n : Int} {l : List S48} (hm : mayL n l) (hl : l.length ≤ 1000000) (q : Nat) (hq : q ≤ n.toNat) (h : Nat) (hh : h < n.toNat) : Ev (fun k => merkhetref15_least.f k (rowF n.toNat (L (eds l) q)) l (h : Int)) (L (eds l) (q + 1) (h : Int), B (eds l) (q + 1) (h : Int)) := by
  unfold merkhetref15_least.f
  refine Ev.congr (fun k => by rw [if_pos (by omega), if_pos (by rw [rowF_length]; omega), rowF_rd _ _ _ (by omega) (by omega)]) ?_
  have h_ := least_l0 hm hl q hq (h : Int) l.length 0 rfl (Nat.zero_le _) (L (eds l) q (h : Int)) (-1)
  exact h_
theorem rowF_take (n : Nat) (f : Int → Int) (i : Nat) (h : i < n) : (rowF n f).take (i + 1) = (rowF n f).take i ++ [f (i : Int)] := by
  rw [List.take_succ_eq_append_getElem (by rw [rowF_length]; exact h)]
  simp [rowF]
theorem reflayers_l2 {n : Int} {l : List S48} (hm : mayL n l) (hl : l.length ≤ 1000000) (q : Nat) (hq : q < n.toNat) (r : List (List Int) × List (List Int)) (hr : Ev (fun k => merkhetref15_Layers.l1 k n l (rowsF n.toNat (L (eds l)) (q + 1 + 1)) (rowsF n.toNat (B (eds l)) (q + 1 + 1)) ((q + 1 + 1 : Nat) : Int)) r) :
    ∀ (d i : Nat), n.toNat - i = d → i ≤ n.toNat → Ev (fun k => merkhetref15_Layers.l2 k n l (rowsF n.toNat (L (eds l)) (q + 1)) (rowsF n.toNat (B (eds l)) (q + 1)) ((q + 1 : Nat) : Int) ((rowF n.toNat (L (eds l) (q + 1))).take i) ((rowF n.toNat (B (eds l) (q + 1))).take i) (i : Int)) r := by
  intro d
  have h32 := hm.2.n32
  have h0 := hm.1
  have hw : wrap64 (((q + 1 : Nat) : Int) - 1) = (q : Int) := by unfold wrap64; omega
  induction d with
  | zero =>
    intro i hd hi
    obtain rfl : i = n.toNat := by omega
    refine ev_step (fun k => ?_) hr
    rw [merkhetref15_Layers.l2, if_neg (by omega), if_pos (by rw [rowsF_length]; omega), if_pos (by rw [rowsF_length]; omega), List.take_of_length_le (by rw [rowF_length]; omega), List.take_of_length_le (by rw [rowF_length]; omega), ← rowsF_succ, ← rowsF_succ, w64t (q + 1) (by omega)]
  | succ d ih =>
    intro i hd hi
    refine ev_step (f := fun k => (merkhetref15_least.f k (rowF n.toNat (L (eds l) q)) l (i : Int)).bind fun bt => if ((rowF n.toNat (L (eds l) (q + 1))).take i).length < 17592186044416 then (if ((rowF n.toNat (B (eds l) (q + 1))).take i).length < 17592186044416 then merkhetref15_Layers.l2 k n l (rowsF n.toNat (L (eds l)) (q + 1)) (rowsF n.toNat (B (eds l)) (q + 1)) ((q + 1 : Nat) : Int) ((rowF n.toNat (L (eds l) (q + 1))).take i ++ [bt.1]) ((rowF n.toNat (B (eds l) (q + 1))).take i ++ [bt.2]) (wrap64 ((i : Int) + 1)) else none) else none) (fun k => ?_) ?_
    · rw [merkhetref15_Layers.l2, if_pos (by omega), hw, if_pos (by omega), if_pos (by rw [rowsF_length]; omega)]
      rw [show rd_L5 (rowsF n.toNat (L (eds l)) (q + 1)) (q : Int) = rowF n.toNat (L (eds l) q) by show (rowsF _ _ _).getD _ _ = _; rw [Int.toNat_natCast, rowsF_getD _ _ _ _ (by omega)]]
    · refine Ev.bind (least_ev hm hl q (by omega) i (by omega)) ?_
      refine Ev.congr (fun k => ?_) (ih (i + 1) (by omega) (by omega))
      rw [if_pos (by rw [List.length_take, rowF_length]; omega), if_pos (by rw [List.length_take, rowF_length]; omega), rowF_take _ _ i (by omega), rowF_take _ _ i (by omega), w64t i (by omega)]
theorem reflayers_l1 {n : Int} {l : List S48} (hm : mayL n l) (hl : l.length ≤ 1000000) : ∀ (d q : Nat), n.toNat - q = d → q ≤ n.toNat → Ev (fun k => merkhetref15_Layers.l1 k n l (rowsF n.toNat (L (eds l)) (q + 1)) (rowsF n.toNat (B (eds l)) (q + 1)) ((q + 1 : Nat) : Int)) (rowsF n.toNat (L (eds l)) (n.toNat + 1), rowsF n.toNat (B (eds l)) (n.toNat + 1)) := by
  intro d
  have h32 := hm.2.n32
  have h0 := hm.1
  induction d with
  | zero =>
    intro q hd hq
    obtain rfl : q = n.toNat := by omega
    exact ev_step (f := fun _ => some _) (fun k => by rw [merkhetref15_Layers.l1, if_neg (by omega)]) (Ev.now _)
  | succ d ih =>
    intro q hd hq
    refine ev_step (fun k => ?_) (reflayers_l2 hm hl q (by omega) _ (ih (q + 1) (by omega) (by omega)) n.toNat 0 rfl (Nat.zero_le _))
    rw [merkhetref15_Layers.l1, if_pos (by omega)]
    rfl
theorem reflayers_l0 {n : Int} {l : List S48} (hm : mayL n l) (r : List (List Int) × List (List Int)) (hr : Ev (fun k => merkhetref15_Layers.l1 k n l [List.replicate n.toNat 0] [List.replicate n.toNat (-1)] 1) r) : ∀ (d i : Nat), n.toNat - i = d → i ≤ n.toNat → Ev (fun k => merkhetref15_Layers.l0 k n l (List.replicate i 0) (List.replicate i (-1)) (i : Int)) r := by
  intro d
  have h32 := hm.2.n32
  have h0 := hm.1
  induction d with
  | zero =>
    intro i hd hi
    obtain rfl : i = n.toNat := by omega
    exact ev_step (fun k => by rw [merkhetref15_Layers.l0, if_neg (by omega)]) hr
  | succ d ih =>
    intro i hd hi
    refine ev_step (fun k => ?_) (ih (i + 1) (by omega) (by omega))
    rw [merkhetref15_Layers.l0, if_pos (by omega), if_pos (by simp; omega), if_pos (by simp; omega), List.replicate_succ', List.replicate_succ', w64t i (by omega)]
open Classical in
theorem reflayers_ev (n : Int) (l : List S48) (hl : l.length ≤ 1000000) : Ev (fun k => merkhetref15_Layers.f k n l) (if mayL n l then (rowsF n.toNat (L (eds l)) (n.toNat + 1), rowsF n.toNat (B (eds l)) (n.toNat + 1)) else ([], [])) := by
  unfold merkhetref15_Layers.f
  refine Ev.bind (refMay15_ev n l (by omega)) ?_
  by_cases hm : mayL n l
  · rw [if_pos hm, decide_eq_true hm]
    refine Ev.congr (fun k => by rw [if_pos rfl]) ?_
    have h1 := reflayers_l1 hm hl n.toNat 0 rfl (Nat.zero_le _)
    rw [show rowsF n.toNat (L (eds l)) (0 + 1) = [List.replicate n.toNat 0] by rw [← rowF_const]; rfl, show rowsF n.toNat (B (eds l)) (0 + 1) = [List.replicate n.toNat (-1)] by rw [← rowF_const]; rfl] at h1
    exact reflayers_l0 hm _ h1 n.toNat 0 rfl (Nat.zero_le _)
  · rw [if_neg hm, decide_eq_false hm]
    exact Ev.congr (f := fun _ => some _) (fun k => by rw [if_neg (by decide)]) (Ev.now _)
theorem refsolve_l0 {n : Int} {l : List S48} (hm : mayL n l) (hn : 0 < n) : ∀ (d i : Nat), n.toNat - i = d → i ≤ n.toNat → (∀ j : Nat, j < i → L (eds l) n.toNat (j : Int) = L (eds l) (n.toNat - 1) (j : Int)) → Ev (fun k => merkhetref15_Solve.l0 k n (rowsF n.toNat (L (eds l)) (n.toNat + 1)) (i : Int)) (solveP n l) := by
  intro d
  have h32 := hm.2.n32
  have h0 := hm.1
  have hw : wrap64 (n - 1) = n - 1 := by unfold wrap64; omega
  have hrd : ∀ (i : Nat) (a : Int), a = (i : Int) → i < n.toNat + 1 → rd_L5 (rowsF n.toNat (L (eds l)) (n.toNat + 1)) a = rowF n.toNat (L (eds l) i) := fun i a ha hi => by
    subst ha
    show (rowsF _ _ _).getD _ _ = _
    rw [Int.toNat_natCast, rowsF_getD _ _ _ _ hi]
  induction d with
  | zero =>
    intro i hd hi hall
    unfold solveP
    rw [if_pos (show mayL n l ∧ ∀ h, 0 ≤ h → h < n → L (eds l) n.toNat h = L (eds l) (n.toNat - 1) h from ⟨hm, fun h h1 h2 => by have := hall h.toNat (by omega); rwa [Int.toNat_of_nonneg h1] at this⟩)]
    refine ev_step (f := fun _ => some (rowF n.toNat (L (eds l) n.toNat), true)) (fun k => ?_) (Ev.now _)
    rw [merkhetref15_Solve.l0, if_neg (by omega), if_pos h0, if_pos (by rw [rowsF_length]; omega), hrd n.toNat n (by omega) (by omega)]
  | succ d ih =>
    intro i hd hi hall
    have hle := L_mono_le (eds l) (i : Int) (show n.toNat - 1 ≤ n.toNat by omega)
    by_cases c : L (eds l) n.toNat (i : Int) < L (eds l) (n.toNat - 1) (i : Int)
    · unfold solveP
      rw [if_neg (show ¬ (mayL n l ∧ ∀ h, 0 ≤ h → h < n → L (eds l) n.toNat h = L (eds l) (n.toNat - 1) h) from fun h => by have := h.2 (i : Int) (by omega) (by omega); omega)]
      refine ev_step (f := fun _ => some ([], false)) (fun k => ?_) (Ev.now _)
      rw [merkhetref15_Solve.l0, if_pos (by omega), if_pos h0, if_pos (by rw [rowsF_length]; omega), if_pos (by omega), hw, hrd n.toNat n (by omega) (by omega), if_pos (by rw [rowF_length]; omega), if_pos (by omega), if_pos (by rw [rowsF_length]; omega), hrd (n.toNat - 1) (n - 1) (by omega) (by omega), if_pos (by rw [rowF_length]; omega), rowF_rd _ _ _ (by omega) (by omega), rowF_rd _ _ _ (by omega) (by omega), if_pos c]
    · refine ev_step (fun k => ?_) (ih (i + 1) (by omega) (by omega) (fun j hj => by
        rcases Nat.lt_or_ge j i with h | h
        · exact hall j h
        · have hji : j = i := by omega
          rw [hji]
          omega))
      rw [merkhetref15_Solve.l0, if_pos (by omega), if_pos h0, if_pos (by rw [rowsF_length]; omega), if_pos (by omega), hw, hrd n.toNat n (by omega) (by omega), if_pos (by rw [rowF_length]; omega), if_pos (by omega), if_pos (by rw [rowsF_length]; omega), hrd (n.toNat - 1) (n - 1) (by omega) (by omega), if_pos (by rw [rowF_length]; omega), rowF_rd _ _ _ (by omega) (by omega), rowF_rd _ _ _ (by omega) (by omega), if_neg c, w64t i (by omega)]
theorem refsolve_ev (n : Int) (l : List S48) (hl : l.length ≤ 1000000) : Ev (fun k => merkhetref15_Solve.f k n l) (solveP n l) := by
  unfold merkhetref15_Solve.f
  refine Ev.bind (reflayers_ev n l hl) ?_
  by_cases hm : mayL n l
  · have h32 := hm.2.n32
    have h0 := hm.1
    rw [if_pos hm]
    refine Ev.congr (fun k => by rw [if_neg (by rw [rowsF_length]; omega)]) ?_
    by_cases hn : 0 < n
    · exact refsolve_l0 hm hn n.toNat 0 rfl (Nat.zero_le _) (fun j hj => absurd hj (Nat.not_lt_zero _))
    · have hn0 : n = 0 := by omega
      subst hn0
      unfold solveP
      rw [if_pos (show mayL 0 l ∧ ∀ h : Int, 0 ≤ h → h < 0 → L (eds l) (0 : Int).toNat h = L (eds l) ((0 : Int).toNat - 1) h from ⟨hm, fun h h1 h2 => by omega⟩)]
      exact ev_step (f := fun _ => some ([], true)) (fun k => by rw [merkhetref15_Solve.l0, if_neg (by omega), if_pos (by omega), if_pos (by rw [rowsF_length]; omega)]; rfl) (Ev.now _)
  · rw [if_neg hm]
    unfold solveP
    rw [if_neg (show ¬ (mayL n l ∧ ∀ h, 0 ≤ h → h < n → L (eds l) n.toNat h = L (eds l) (n.toNat - 1) h) from fun h => hm h.1)]
    exact Ev.congr (f := fun _ => some ([], false)) (fun k => by rw [if_pos (by rfl)]) (Ev.now _)
end Go.Proofs.Ytacjlaiddnfpdaa.L
