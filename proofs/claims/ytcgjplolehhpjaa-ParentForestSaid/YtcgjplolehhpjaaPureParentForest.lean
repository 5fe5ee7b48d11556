/- What is told of any spans is a forest's; each has its parent, but those that have none, and one of each cycle. No conditions. -/
import Derived.Test.YtcgjplolehhpjaaUx5
import Derived.Test.YtcgjplolehhpjaaUC10d
import Derived.Test.YtcgjplolehhpjaaUC10e
import Derived.Test.YtcgjplolehhpjaaUC10f
import Derived.Test.YtcgjplolehhpjaaH17
namespace Go.Proofs.Ytcgjplolehhpjaa.Pure
open Go.RowKit Go.Proofs.Ytcgjplolehhpjaa.U Go.Proofs.Ytcgjplolehhpjaa.H Go.Proofs.YtcgjplolehhpjaaW.PrintWords Go.Proofs.YtcgjplolehhpjaaW.PrintLast

theorem firstI_get {xs : List Int} {x : Int} (h : 0 ≤ firstI xs x) : xs.getD (firstI xs x).toNat 0 = x := by
  unfold firstI at h ⊢
  by_cases c : xs.findIdx (· == x) < xs.length
  · rw [if_pos c, Int.toNat_natCast, List.getD_eq_getElem?_getD, List.getElem?_eq_getElem c]
    have := List.findIdx_getElem (p := (· == x)) (xs := xs) (w := c)
    simpa using this
  · rw [if_neg c] at h; omega
theorem par0_at (ids ps : List Int) (i : Nat) (h : i < ps.length) : (par0 ids ps).getD i 0 = if ps.getD i 0 = 0 then -1 else firstI ids (ps.getD i 0) := by
  simp [par0, List.getD_eq_getElem?_getD, List.getElem?_eq_getElem h]
abbrev idsS (l : List S37) : List Int := l.map fun s => s.f1
abbrev upsS (l : List S37) : List Int := l.map fun s => s.f2
theorem rd_f1 (l : List S37) (a : Int) (h0 : 0 ≤ a) (h1 : a < (l.length : Int)) : (rd_T37 l a).f1 = (idsS l).getD a.toNat 0 := by
  show (l.getD a.toNat _).f1 = _
  rw [List.getD_eq_getElem?_getD, List.getD_eq_getElem?_getD, List.getElem?_map, List.getElem?_eq_getElem (by omega)]; rfl
theorem rd_f2 (l : List S37) (a : Int) (h0 : 0 ≤ a) (h1 : a < (l.length : Int)) : (rd_T37 l a).f2 = (upsS l).getD a.toNat 0 := by
  show (l.getD a.toNat _).f2 = _
  rw [List.getD_eq_getElem?_getD, List.getD_eq_getElem?_getD, List.getElem?_map, List.getElem?_eq_getElem (by omega)]; rfl
theorem w64p' (x : Int) (h0 : 0 ≤ x) (h1 : x < 9000000000000000000) : wrap64 (x - 1) = x - 1 := by unfold wrap64; omega
/-- What follows the search. -/
def loopG (k : Nat) (l : List S37) (a N t x6 : Int) : Option Bool := if x6 = a then (some true) else (if x6 < 0 then (some false) else (if 0 ≤ x6 then (if x6 < (l.length : Int) then (if ((rd_T37 l x6).f2) = 0 then (some false) else (merkhetlaw10_loop.l0 k l a ((rd_T37 l x6).f2) N (wrap64 (t + 1)))) else (none)) else (none)))
theorem loop_l1 (l : List S37) (hn : l.length < 1000000000) (a N t x : Int) : ∀ (m : Nat) (b : Int), m ≤ l.length → b = (if (((idsS l).drop m).findIdx (· == x)) < l.length - m then ((m + ((idsS l).drop m).findIdx (· == x) : Nat) : Int) else -1) →
    ∀ r, Ev (fun k => loopG k l a N t (firstI (idsS l) x)) r → Ev (fun k => merkhetlaw10_loop.l1 k l a x b ((m : Int) - 1) N t) r := by
  intro m
  induction m with
  | zero =>
    intro b hm hb r hr
    refine Ev.step_ (fun k => ?_) hr
    rw [merkhetlaw10_loop.l1, if_neg (by omega), hb]
    unfold loopG firstI
    simp only [List.drop_zero, Nat.sub_zero, Nat.zero_add, List.length_map]
  | succ m ih =>
    intro b hm hb r hr
    have hml : m < l.length := by omega
    have e : (((m + 1 : Nat) : Int) - 1) = (m : Int) := by omega
    rw [e]
    have hz : (rd_T37 l (m : Int)).f1 = (idsS l).getD m 0 := by rw [rd_f1 l _ (by omega) (by omega), Int.toNat_natCast]
    have hd : (idsS l).drop m = (idsS l).getD m 0 :: (idsS l).drop (m + 1) := by
      rw [List.drop_eq_getElem_cons (by simpa using hml), List.getD_eq_getElem?_getD, List.getElem?_eq_getElem (by simpa using hml)]; rfl
    by_cases c : (idsS l).getD m 0 = x
    · refine Ev.step_ (fun k => ?_) (ih (m : Int) (by omega) (by rw [hd, List.findIdx_cons, show ((idsS l).getD m 0 == x) = true from beq_iff_eq.mpr c]; simp only [cond_true]; rw [if_pos (by omega)]; rfl) r hr)
      rw [merkhetlaw10_loop.l1, if_pos (by omega), if_pos (by omega), if_pos (by omega), hz, if_pos c, w64p' _ (by omega) (by omega)]
    · refine Ev.step_ (fun k => ?_) (ih b (by omega) (by
        rw [hb, hd, List.findIdx_cons, show ((idsS l).getD m 0 == x) = false from beq_eq_false_iff_ne.mpr c]
        simp only [cond_false]
        by_cases c2 : ((idsS l).drop (m + 1)).findIdx (· == x) < l.length - (m + 1)
        · rw [if_pos c2, if_pos (by omega)]; omega
        · rw [if_neg c2, if_neg (by omega)]) r hr)
      rw [merkhetlaw10_loop.l1, if_pos (by omega), if_pos (by omega), if_pos (by omega), hz, if_neg c, w64p' _ (by omega) (by omega)]
theorem loop_next {l : List S37} {x : Int} (h0 : 0 ≤ x) (h1 : x < (l.length : Int)) (hp : 0 ≤ nx (par0 (idsS l) (upsS l)) x) : (rd_T37 l x).f2 ≠ 0 ∧ firstI (idsS l) (rd_T37 l x).f2 = nx (par0 (idsS l) (upsS l)) x := by
  unfold nx at hp ⊢
  rw [if_pos h0, par0_at _ _ _ (by simp; omega)] at hp ⊢
  rw [rd_f2 l x h0 h1]
  by_cases c : (upsS l).getD x.toNat 0 = 0
  · rw [if_pos c] at hp; omega
  · rw [if_neg c]; exact ⟨c, rfl⟩
theorem loop_l0 {l : List S37} (hn : l.length ≤ 60) (a : Int) (h1 : a < (l.length : Int)) (hc : cyc (par0 (idsS l) (upsS l)) a) : ∀ (d t : Nat), l.length - t = d → t ≤ l.length → (∀ j, 1 ≤ j → j ≤ t → up (par0 (idsS l) (upsS l)) j a ≠ a) →
    Ev (fun k => merkhetlaw10_loop.l0 k l a (rd_T37 l (up (par0 (idsS l) (upsS l)) t a)).f2 (l.length : Int) (t : Int)) true := by
  have hp : okP (par0 (idsS l) (upsS l)) := par0_ok _ _ (by simp)
  have hpl : (par0 (idsS l) (upsS l)).length = l.length := by simp [par0]
  intro d
  induction d with
  | zero =>
    intro t hd ht hall
    obtain ⟨m, hm, hmn, he⟩ := cyc_short hp (by rw [hpl]; exact h1) hc
    exact absurd he (hall m hm (by omega))
  | succ d ih =>
    intro t hd ht hall
    have hw : wrap64 ((l.length : Int) - 1) = (l.length : Int) - 1 := by unfold wrap64; omega
    have hx0 := cyc_pos hc t
    have hx1 := (okP_up hp t (a := a) (by have := hc.1; omega) (by rw [hpl]; exact h1)).2
    have hy0 := cyc_pos hc (t + 1)
    have hy1 := (okP_up hp (t + 1) (a := a) (by have := hc.1; omega) (by rw [hpl]; exact h1)).2
    have hz0 := cyc_pos hc (t + 1 + 1)
    rw [hpl] at hx1 hy1
    rw [up_succ] at hz0
    have hnx := (loop_next hx0 hx1 (by rw [← up_succ]; exact hy0)).2
    rw [← up_succ] at hnx
    have hnz := (loop_next hy0 hy1 hz0).1
    refine Ev.step_ (fun k => by rw [merkhetlaw10_loop.l0, if_pos (by omega), hw]) ?_
    refine loop_l1 l (by omega) a _ _ _ l.length (-1) (Nat.le_refl _) (by rw [if_neg (by omega)]) true ?_
    rw [hnx]
    unfold loopG
    by_cases c : up (par0 (idsS l) (upsS l)) (t + 1) a = a
    · exact Ev.congr (f := fun _ => some true) (fun k => by rw [if_pos c]) (Ev.now _)
    · refine Ev.congr (fun k => by rw [if_neg c, if_neg (by omega), if_pos hy0, if_pos hy1, if_neg hnz, w64s t (by omega)]) (ih (t + 1) (by omega) (by omega) (fun j h2 h3 => by
        rcases Nat.lt_or_ge j (t + 1) with h | h
        · exact hall j h2 (by omega)
        · obtain rfl : j = t + 1 := by omega
          exact c))
theorem loop_ev {l : List S37} (hn : l.length ≤ 60) (a : Int) (h1 : a < (l.length : Int)) (hc : cyc (par0 (idsS l) (upsS l)) a) : Ev (fun k => merkhetlaw10_loop.f k l a) true := by
  unfold merkhetlaw10_loop.f
  refine Ev.congr (fun k => by rw [if_pos hc.1, if_pos h1]) ?_
  exact loop_l0 hn a h1 hc l.length 0 rfl (Nat.zero_le _) (fun j h2 h3 => by omega)
open Classical in
theorem forest_go {l : List S37} (hn : l.length ≤ 60) : ∀ (d i : Nat), l.length - i = d → i ≤ l.length → Ev (fun k => merkhetlaw10_ParentForest_go k l ((cut (par0 (idsS l) (upsS l))).drop i) i) true := by
  have hp : okP (par0 (idsS l) (upsS l)) := par0_ok _ _ (by simp)
  have hpl : (par0 (idsS l) (upsS l)).length = l.length := by simp [par0]
  have hq := cut_ok hp
  have hql : (cut (par0 (idsS l) (upsS l))).length = l.length := by rw [cut_length, hpl]
  intro d
  induction d with
  | zero =>
    intro i hd hi
    rw [List.drop_of_length_le (by omega)]
    unfold merkhetlaw10_ParentForest_go
    exact Ev.bind law10_fixed_ev (Ev.congr (f := fun _ => some true) (fun k => by rw [if_pos rfl]) (Ev.now _))
  | succ d ih =>
    intro i hd hi
    have hlt : i < l.length := by omega
    have hr := ih (i + 1) (by omega) (by omega)
    have e1 : (cut (par0 (idsS l) (upsS l))).drop i = rd (cut (par0 (idsS l) (upsS l))) (i : Int) :: (cut (par0 (idsS l) (upsS l))).drop (i + 1) := by
      rw [rdn, List.drop_eq_getElem_cons (by omega), List.getD_eq_getElem?_getD, List.getElem?_eq_getElem (by omega)]; rfl
    rw [e1]
    have hk : -1 ≤ rd (cut (par0 (idsS l) (upsS l))) (i : Int) ∧ rd (cut (par0 (idsS l) (upsS l))) (i : Int) < (l.length : Int) := by
      have := hq (rd (cut (par0 (idsS l) (upsS l))) (i : Int)) (by rw [rdn, List.getD_eq_getElem?_getD, List.getElem?_eq_getElem (by omega)]; exact List.getElem_mem _)
      rw [hql] at this; exact this
    have hat : rd (cut (par0 (idsS l) (upsS l))) (i : Int) = if isLeast (par0 (idsS l) (upsS l)) (i : Int) then -1 else (if (upsS l).getD i 0 = 0 then -1 else firstI (idsS l) ((upsS l).getD i 0)) := by
      rw [rdn, cut_at _ _ (by omega), par0_at _ _ _ (by simp; omega)]
    have h2 : (rd_T37 l (i : Int)).f2 = (upsS l).getD i 0 := by rw [rd_f2 l _ (by omega) (by omega), Int.toNat_natCast]
    generalize rd (cut (par0 (idsS l) (upsS l))) (i : Int) = kk at hk hat ⊢
    unfold merkhetlaw10_ParentForest_go
    refine Ev.congr (fun k => by rw [if_pos ⟨hk, hlt⟩]) ?_
    by_cases c : 0 ≤ kk
    · have hw : (rd_T37 l kk).f1 = (rd_T37 l (i : Int)).f2 := by
        rw [rd_f1 l _ c hk.2, h2]
        by_cases c1 : isLeast (par0 (idsS l) (upsS l)) (i : Int)
        · rw [if_pos c1] at hat; omega
        · rw [if_neg c1] at hat
          by_cases c2 : (upsS l).getD i 0 = 0
          · rw [if_pos c2] at hat; omega
          · rw [if_neg c2] at hat
            rw [hat] at c ⊢
            exact firstI_get c
      exact Ev.congr (fun k => by rw [if_pos c, if_pos hw]) hr
    · refine Ev.congr (fun k => by rw [if_neg c]) ?_
      by_cases c2 : (rd_T37 l (i : Int)).f2 = 0
      · exact Ev.congr (fun k => by rw [if_pos c2]) hr
      · refine Ev.congr (fun k => by rw [if_neg c2]) ?_
        by_cases c3 : (l.any fun s => s.f1 == (rd_T37 l (i : Int)).f2) = true
        · refine Ev.congr (fun k => by rw [if_pos c3]) ?_
          refine Ev.bind (loop_ev hn (i : Int) (by omega) ?_) (Ev.congr (fun k => by rw [if_pos rfl]) hr)
          by_cases c1 : isLeast (par0 (idsS l) (upsS l)) (i : Int)
          · exact c1.1
          · rw [h2] at c2 c3
            rw [if_neg c1, if_neg c2] at hat
            obtain ⟨s, hs, he⟩ := List.any_eq_true.1 c3
            have := firstI_mem.1 (show (upsS l).getD i 0 ∈ idsS l from by rw [← beq_iff_eq.1 he]; exact List.mem_map_of_mem hs)
            omega
        · exact Ev.congr (fun k => by rw [if_neg c3]) hr
open Classical in
theorem ParentForest : merkhetlaw10_ParentForest.Pure := by
  intro l hl hw
  refine Ev.rounds (g := fun k => merkhetlaw10_ParentForest.f k l) ?_
  unfold merkhetlaw10_ParentForest.f
  by_cases c : (l.length : Int) > 60
  · refine Ev.congr (fun k => by rw [if_pos c]) ?_
    exact Ev.bind law10_fixed_ev (Ev.congr (f := fun _ => some true) (fun k => by rw [if_pos rfl]) (Ev.now _))
  refine Ev.congr (fun k => by rw [if_neg c]) ?_
  have hp : okP (par0 (idsS l) (upsS l)) := par0_ok _ _ (by simp)
  have hql : (cut (par0 (idsS l) (upsS l))).length = l.length := by rw [cut_length]; simp [par0]
  refine Ev.bind (parentOf_ev l (by omega) (fun s hs => ⟨(hw s hs).2.1, (hw s hs).2.2.1⟩)) ?_
  refine Ev.congr (fun k => by rw [if_pos (show (cut (par0 (idsS l) (upsS l))).length = l.length from hql)]) ?_
  refine Ev.bind (parentRight_ev (cut (par0 (idsS l) (upsS l))) (by omega)) ?_
  rw [decide_eq_true (show okP (cut (par0 (idsS l) (upsS l))) ∧ ∀ a, a < ((cut (par0 (idsS l) (upsS l))).length : Int) → ¬ cyc (cut (par0 (idsS l) (upsS l))) a from ⟨cut_ok hp, fun a ha => cut_acyclic hp a (by rw [cut_length] at ha; exact ha)⟩)]
  refine Ev.congr (fun k => by rw [if_pos rfl]) ?_
  exact forest_go (by omega) l.length 0 rfl (Nat.zero_le _)
end Go.Proofs.Ytcgjplolehhpjaa.Pure
